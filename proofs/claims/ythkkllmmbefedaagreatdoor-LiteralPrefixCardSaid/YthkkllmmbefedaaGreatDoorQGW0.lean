/-
  Walks: literal.write, kinds 6.
-/
import Derived.Test.YthkkllmmbefedaaGreatDoorQGA10
namespace Go.Proofs.YthkkllmmbefedaaGreatDoor
open Go.RowKit Tryz
set_option maxHeartbeats 16000000
set_option maxRecDepth 100000
variable {s:List Aa} {c n:Nat} {A:zo}
theorem gL (_hv:zQ s=0) (hn:DW s) (ih:WriteAt s A c n):JA s A c n 1:=by
 intro t v A1 c1 A2 c2 A3 c3 w0 w B b T e hf hs hr htb hg hb0 hB hbl hsz
 obtain ⟨i0,i1,i2,i3⟩:=CF hf;obtain ⟨tn,rfl⟩:=AAh i0;have htn:tn<s.length:=by omega
 have hln:=hs.1.lt (by omega)
 rw[zT htn] at i2 i3 e;have Fy:Hid (Ae s (n+1) (tn:Int) v=Bg (Ae s n) s[tn] v):=by show _=_;rw[Ae,zT htn]
 have rY:=zh (hn _ (AAL htn));obtain ⟨Bf,H5,H7⟩:=zy w (.cells #[.slice A s.length c] 31) (v.box A1 c1 A2 c2 A3 c3);have Ed:=zh ih;have HS:=zh hs;have HR:=zh hr;have Kw:=zh htb;have HG:=zh hg;have HB0:=zh hb0;have KE:=zh hB;have GV:=zh hbl;have hblt:=hbl.lt;obtain ⟨L,hL⟩:∃L,Ae s (n+1) (tn:Int) v=L:=⟨_,rfl⟩;rw[hL] at hsz Fy;simp only[hL];have E5:=zh hsz
 have HU:Hid (Below w0.heap.size w0 ((w.alloc (.cells #[.slice A s.length c] 31)).alloc (v.box A1 c1 A2 c2 A3 c3))):=(hb0.trans (Bf.O.mono hB)).mono hg;obtain ⟨bq,oq,As,cs,Am,cm,hA,htr,t0,t1,t2,t3,t4,t5,t6,t7,t8,t9⟩:=hs.J3 htn;clear hL hf ih hs hr htb hg hb0 hB hbl hsz _hv hn i0 i1;subst hA;generalize s[tn]=x at *;have Ie:=zh htr;have GH:=zh i3;have mZ:=zh (i2.trans e);have HK:=zh e
 clear htr i3 i2 e;replace t0:=zA HU t0;replace t1:=zA HU t1;replace t2:=zA HU t2;replace t3:=zA HU t3;replace t4:=zA HU t4;replace t5:=zA HU t5;replace t6:=zA HU t6;replace t7:=zA HU t7;replace t8:=zA HU t8;replace t9:=zA HU t9;have h1:(0:Int)<=(tn:Int):=by omega
 have h2:(tn:Int)<(s.length:Int):=by omega
 go_enter func44,ntmps44
 go_upto_region 1 with fail
 have hsz2:Hid (((w.alloc (.cells #[.slice (some ⟨bq,oq,none⟩) s.length c] 31)).alloc (v.box A1 c1 A2 c2 A3 c3)).heap.size=w.heap.size+2):=by show _=_;simp
 generalize (w.alloc (.cells #[.slice (some ⟨bq,oq,none⟩) s.length c] 31)).alloc (v.box A1 c1 A2 c2 A3 c3)=W2 at *;have x0:=zb H5;go_upto_region 2 with fail
 clear t0 t1 t2 t3 t4 t5 t6 t7 t8 t9 x0;have BL:=zh (zD W2 (x.box As cs Am cm));have ST:Hid (EX s (some ⟨bq,oq,none⟩) c x As cs Am cm v A1 c1 A2 c2 A3 c3 B b w.heap.size (w.heap.size+1) W2.heap.size w (W2.alloc (x.box As cs Am cm)) (T)):=by
  have hz:=hsz2.O;have hge:=KE.O;exact ⟨(GV.O.below Bf).below BL,(Bf.O.mono KE.O).trans (BL.O.mono (by omega)),Co (yD Bf) (yD BL),by omega,by omega,by omega,zE H5 BL,zE H7 BL,AAA W2 _,by have:=KE.O;have:=BL.O.size;omega⟩
 generalize W2.alloc (x.box As cs Am cm)=W3 at *;generalize W2.heap.size=p8 at *;clear hsz2 hblt Bf H5 H7 GV HU BL h1 h2;have q1:=zk1 HK;obtain ⟨v0,v1,v2,v3,v4,v5,v6,v7⟩:=zF ST.O.h7;obtain ⟨b0,b1,b2,b3,b4,b5,b6,b7,b8,b9⟩:=zG ST.O.h8;have x0:=ST.O.c5;have UJ:=zh (Fy.O.trans (AC9 HK));have hbt:=Tj v.bool W3
 obtain ⟨X,hX⟩:∃X,(if v.bool then (⟨#[116,114,117,101]⟩:ByteArray) else ⟨#[102,97,108,115,101]⟩)=X:=⟨_,rfl⟩
 rw[hX] at hbt;have HL:Hid (L=X):=UJ.O.trans hX;have HBT:=zh hbt;have HZ:Hid (T.size+X.size<=140737488355328):=by have:=E5.O;rw[HL.O] at this;exact this
 clear hbt hX UJ;go_wp2_with fail;refine HBT.O.mono ?_;rintro e' w4 ⟨rfl,rfl⟩;go_wp2_with fail;refine (ST.O.FZ.write _ (HZ.O) ST.O.ge).mono ?_;rintro e' w5 ⟨rfl,g1,g2,g3⟩;have Eg:=zh (ST.O.step g1 g2 g3);clear g1 g2 g3;go_wp2;refine bodyPost_end (results_none results44 _ _ _) rfl ⟨rfl,by rw[HL.O];exact Eg.O.FZ,Eg.O.fr,Eg.O.ot⟩
theorem gK (_hv:zQ s=0) (hn:DW s) (ih:WriteAt s A c n):JA s A c n 2:=by
 intro t v A1 c1 A2 c2 A3 c3 w0 w B b T e hf hs hr htb hg hb0 hB hbl hsz
 obtain ⟨i0,i1,i2,i3⟩:=CF hf;obtain ⟨tn,rfl⟩:=AAh i0;have htn:tn<s.length:=by omega
 have hln:=hs.1.lt (by omega)
 rw[zT htn] at i2 i3 e;have Fy:Hid (Ae s (n+1) (tn:Int) v=Bg (Ae s n) s[tn] v):=by show _=_;rw[Ae,zT htn]
 have rY:=zh (hn _ (AAL htn));obtain ⟨Bf,H5,H7⟩:=zy w (.cells #[.slice A s.length c] 31) (v.box A1 c1 A2 c2 A3 c3);have Ed:=zh ih;have HS:=zh hs;have HR:=zh hr;have Kw:=zh htb;have HG:=zh hg;have HB0:=zh hb0;have KE:=zh hB;have GV:=zh hbl;have hblt:=hbl.lt;obtain ⟨L,hL⟩:∃L,Ae s (n+1) (tn:Int) v=L:=⟨_,rfl⟩;rw[hL] at hsz Fy;simp only[hL];have E5:=zh hsz
 have HU:Hid (Below w0.heap.size w0 ((w.alloc (.cells #[.slice A s.length c] 31)).alloc (v.box A1 c1 A2 c2 A3 c3))):=(hb0.trans (Bf.O.mono hB)).mono hg;obtain ⟨bq,oq,As,cs,Am,cm,hA,htr,t0,t1,t2,t3,t4,t5,t6,t7,t8,t9⟩:=hs.J3 htn;clear hL hf ih hs hr htb hg hb0 hB hbl hsz _hv hn i0 i1;subst hA;generalize s[tn]=x at *;have Ie:=zh htr;have GH:=zh i3;have mZ:=zh (i2.trans e);have HK:=zh e
 clear htr i3 i2 e;replace t0:=zA HU t0;replace t1:=zA HU t1;replace t2:=zA HU t2;replace t3:=zA HU t3;replace t4:=zA HU t4;replace t5:=zA HU t5;replace t6:=zA HU t6;replace t7:=zA HU t7;replace t8:=zA HU t8;replace t9:=zA HU t9;have h1:(0:Int)<=(tn:Int):=by omega
 have h2:(tn:Int)<(s.length:Int):=by omega
 go_enter func44,ntmps44
 go_upto_region 1 with fail
 have hsz2:Hid (((w.alloc (.cells #[.slice (some ⟨bq,oq,none⟩) s.length c] 31)).alloc (v.box A1 c1 A2 c2 A3 c3)).heap.size=w.heap.size+2):=by show _=_;simp
 generalize (w.alloc (.cells #[.slice (some ⟨bq,oq,none⟩) s.length c] 31)).alloc (v.box A1 c1 A2 c2 A3 c3)=W2 at *;have x0:=zb H5;go_upto_region 2 with fail
 clear t0 t1 t2 t3 t4 t5 t6 t7 t8 t9 x0;have BL:=zh (zD W2 (x.box As cs Am cm));have ST:Hid (EX s (some ⟨bq,oq,none⟩) c x As cs Am cm v A1 c1 A2 c2 A3 c3 B b w.heap.size (w.heap.size+1) W2.heap.size w (W2.alloc (x.box As cs Am cm)) (T)):=by
  have hz:=hsz2.O;have hge:=KE.O;exact ⟨(GV.O.below Bf).below BL,(Bf.O.mono KE.O).trans (BL.O.mono (by omega)),Co (yD Bf) (yD BL),by omega,by omega,by omega,zE H5 BL,zE H7 BL,AAA W2 _,by have:=KE.O;have:=BL.O.size;omega⟩
 generalize W2.alloc (x.box As cs Am cm)=W3 at *;generalize W2.heap.size=p8 at *;clear hsz2 hblt Bf H5 H7 GV HU BL h1 h2;obtain ⟨q1,q2⟩:=zk2 HK;obtain ⟨v0,v1,v2,v3,v4,v5,v6,v7⟩:=zF ST.O.h7;obtain ⟨b0,b1,b2,b3,b4,b5,b6,b7,b8,b9⟩:=zG ST.O.h8;have x0:=ST.O.c5;have HL:=zh (Fy.O.trans (AC8 HK))
 have HI:Hid (In64 v.int):=by have:=AA7 HK GH;have:=rY.O;unfold In64 at *;show _/\_;omega
 have HZ:Hid (T.size+(Ch v.int).size<=140737488355328):=by have:=E5.O;rw[HL.O] at this;exact this
 go_wp2_with fail
 refine (qw v.int HI _ (Kw.O.below (ST.O.up HB0 HG))).mono ?_;rintro e' w4 ⟨rfl,hb4⟩;have Ld:=zh (ST.O.below hb4);clear hb4;clear v0 v1 v2 v3 v4 v5 v6 v7 b0 b1 b2 b3 b4 b5 b6 b7 b8 b9 x0;go_wp2_with fail;refine (Ld.O.FZ.write _ (HZ.O) Ld.O.ge).mono ?_;rintro e' w5 ⟨rfl,g1,g2,g3⟩;have Eg:=zh (Ld.O.step g1 g2 g3);clear g1 g2 g3;go_wp2
 refine bodyPost_end (results_none results44 _ _ _) rfl ⟨rfl,by rw[HL.O];exact Eg.O.FZ,Eg.O.fr,Eg.O.ot⟩
theorem gJ (_hv:zQ s=0) (hn:DW s) (ih:WriteAt s A c n):JA s A c n 3:=by
 intro t v A1 c1 A2 c2 A3 c3 w0 w B b T e hf hs hr htb hg hb0 hB hbl hsz
 obtain ⟨i0,i1,i2,i3⟩:=CF hf;obtain ⟨tn,rfl⟩:=AAh i0;have htn:tn<s.length:=by omega
 have hln:=hs.1.lt (by omega)
 rw[zT htn] at i2 i3 e;have Fy:Hid (Ae s (n+1) (tn:Int) v=Bg (Ae s n) s[tn] v):=by show _=_;rw[Ae,zT htn]
 have rY:=zh (hn _ (AAL htn));obtain ⟨Bf,H5,H7⟩:=zy w (.cells #[.slice A s.length c] 31) (v.box A1 c1 A2 c2 A3 c3);have Ed:=zh ih;have HS:=zh hs;have HR:=zh hr;have Kw:=zh htb;have HG:=zh hg;have HB0:=zh hb0;have KE:=zh hB;have GV:=zh hbl;have hblt:=hbl.lt;obtain ⟨L,hL⟩:∃L,Ae s (n+1) (tn:Int) v=L:=⟨_,rfl⟩;rw[hL] at hsz Fy;simp only[hL];have E5:=zh hsz
 have HU:Hid (Below w0.heap.size w0 ((w.alloc (.cells #[.slice A s.length c] 31)).alloc (v.box A1 c1 A2 c2 A3 c3))):=(hb0.trans (Bf.O.mono hB)).mono hg;obtain ⟨bq,oq,As,cs,Am,cm,hA,htr,t0,t1,t2,t3,t4,t5,t6,t7,t8,t9⟩:=hs.J3 htn;clear hL hf ih hs hr htb hg hb0 hB hbl hsz _hv hn i0 i1;subst hA;generalize s[tn]=x at *;have Ie:=zh htr;have GH:=zh i3;have mZ:=zh (i2.trans e);have HK:=zh e
 clear htr i3 i2 e;replace t0:=zA HU t0;replace t1:=zA HU t1;replace t2:=zA HU t2;replace t3:=zA HU t3;replace t4:=zA HU t4;replace t5:=zA HU t5;replace t6:=zA HU t6;replace t7:=zA HU t7;replace t8:=zA HU t8;replace t9:=zA HU t9;have h1:(0:Int)<=(tn:Int):=by omega
 have h2:(tn:Int)<(s.length:Int):=by omega
 go_enter func44,ntmps44
 go_upto_region 1 with fail
 have hsz2:Hid (((w.alloc (.cells #[.slice (some ⟨bq,oq,none⟩) s.length c] 31)).alloc (v.box A1 c1 A2 c2 A3 c3)).heap.size=w.heap.size+2):=by show _=_;simp
 generalize (w.alloc (.cells #[.slice (some ⟨bq,oq,none⟩) s.length c] 31)).alloc (v.box A1 c1 A2 c2 A3 c3)=W2 at *;have x0:=zb H5;go_upto_region 2 with fail
 clear t0 t1 t2 t3 t4 t5 t6 t7 t8 t9 x0;have BL:=zh (zD W2 (x.box As cs Am cm));have ST:Hid (EX s (some ⟨bq,oq,none⟩) c x As cs Am cm v A1 c1 A2 c2 A3 c3 B b w.heap.size (w.heap.size+1) W2.heap.size w (W2.alloc (x.box As cs Am cm)) (T)):=by
  have hz:=hsz2.O;have hge:=KE.O;exact ⟨(GV.O.below Bf).below BL,(Bf.O.mono KE.O).trans (BL.O.mono (by omega)),Co (yD Bf) (yD BL),by omega,by omega,by omega,zE H5 BL,zE H7 BL,AAA W2 _,by have:=KE.O;have:=BL.O.size;omega⟩
 generalize W2.alloc (x.box As cs Am cm)=W3 at *;generalize W2.heap.size=p8 at *;clear hsz2 hblt Bf H5 H7 GV HU BL h1 h2;obtain ⟨q1,q2,q3⟩:=zk3 HK;obtain ⟨v0,v1,v2,v3,v4,v5,v6,v7⟩:=zF ST.O.h7;obtain ⟨b0,b1,b2,b3,b4,b5,b6,b7,b8,b9⟩:=zG ST.O.h8;have x0:=ST.O.c5;have HL:=zh (Fy.O.trans (AC7 HK))
 have HZ:Hid (T.size+(Lr v.str).size<=140737488355328):=by have:=E5.O;rw[HL.O] at this;exact this
 go_wp2_with fail
 refine (NT v.str (by have:=HZ.O;omega) _).mono ?_
 rintro e' w4 ⟨rfl,hb4⟩;have Ld:=zh (ST.O.below hb4);clear hb4;clear v0 v1 v2 v3 v4 v5 v6 v7 b0 b1 b2 b3 b4 b5 b6 b7 b8 b9 x0;go_wp2_with fail;refine (Ld.O.FZ.write _ (HZ.O) Ld.O.ge).mono ?_;rintro e' w5 ⟨rfl,g1,g2,g3⟩;have Eg:=zh (Ld.O.step g1 g2 g3);clear g1 g2 g3;go_wp2
 refine bodyPost_end (results_none results44 _ _ _) rfl ⟨rfl,by rw[HL.O];exact Eg.O.FZ,Eg.O.fr,Eg.O.ot⟩
theorem gI (_hv:zQ s=0) (hn:DW s) (ih:WriteAt s A c n):JA s A c n 4:=by
 intro t v A1 c1 A2 c2 A3 c3 w0 w B b T e hf hs hr htb hg hb0 hB hbl hsz
 obtain ⟨i0,i1,i2,i3⟩:=CF hf;obtain ⟨tn,rfl⟩:=AAh i0;have htn:tn<s.length:=by omega
 have hln:=hs.1.lt (by omega)
 rw[zT htn] at i2 i3 e;have Fy:Hid (Ae s (n+1) (tn:Int) v=Bg (Ae s n) s[tn] v):=by show _=_;rw[Ae,zT htn]
 have rY:=zh (hn _ (AAL htn));obtain ⟨Bf,H5,H7⟩:=zy w (.cells #[.slice A s.length c] 31) (v.box A1 c1 A2 c2 A3 c3);have Ed:=zh ih;have HS:=zh hs;have HR:=zh hr;have Kw:=zh htb;have HG:=zh hg;have HB0:=zh hb0;have KE:=zh hB;have GV:=zh hbl;have hblt:=hbl.lt;obtain ⟨L,hL⟩:∃L,Ae s (n+1) (tn:Int) v=L:=⟨_,rfl⟩;rw[hL] at hsz Fy;simp only[hL];have E5:=zh hsz
 have HU:Hid (Below w0.heap.size w0 ((w.alloc (.cells #[.slice A s.length c] 31)).alloc (v.box A1 c1 A2 c2 A3 c3))):=(hb0.trans (Bf.O.mono hB)).mono hg;obtain ⟨bq,oq,As,cs,Am,cm,hA,htr,t0,t1,t2,t3,t4,t5,t6,t7,t8,t9⟩:=hs.J3 htn;clear hL hf ih hs hr htb hg hb0 hB hbl hsz _hv hn i0 i1;subst hA;generalize s[tn]=x at *;have Ie:=zh htr;have GH:=zh i3;have mZ:=zh (i2.trans e);have HK:=zh e
 clear htr i3 i2 e;replace t0:=zA HU t0;replace t1:=zA HU t1;replace t2:=zA HU t2;replace t3:=zA HU t3;replace t4:=zA HU t4;replace t5:=zA HU t5;replace t6:=zA HU t6;replace t7:=zA HU t7;replace t8:=zA HU t8;replace t9:=zA HU t9;have h1:(0:Int)<=(tn:Int):=by omega
 have h2:(tn:Int)<(s.length:Int):=by omega
 go_enter func44,ntmps44
 go_upto_region 1 with fail
 have hsz2:Hid (((w.alloc (.cells #[.slice (some ⟨bq,oq,none⟩) s.length c] 31)).alloc (v.box A1 c1 A2 c2 A3 c3)).heap.size=w.heap.size+2):=by show _=_;simp
 generalize (w.alloc (.cells #[.slice (some ⟨bq,oq,none⟩) s.length c] 31)).alloc (v.box A1 c1 A2 c2 A3 c3)=W2 at *;have x0:=zb H5;go_upto_region 2 with fail
 clear t0 t1 t2 t3 t4 t5 t6 t7 t8 t9 x0;have BL:=zh (zD W2 (x.box As cs Am cm));have ST:Hid (EX s (some ⟨bq,oq,none⟩) c x As cs Am cm v A1 c1 A2 c2 A3 c3 B b w.heap.size (w.heap.size+1) W2.heap.size w (W2.alloc (x.box As cs Am cm)) (T)):=by
  have hz:=hsz2.O;have hge:=KE.O;exact ⟨(GV.O.below Bf).below BL,(Bf.O.mono KE.O).trans (BL.O.mono (by omega)),Co (yD Bf) (yD BL),by omega,by omega,by omega,zE H5 BL,zE H7 BL,AAA W2 _,by have:=KE.O;have:=BL.O.size;omega⟩
 generalize W2.alloc (x.box As cs Am cm)=W3 at *;generalize W2.heap.size=p8 at *;clear hsz2 hblt Bf H5 H7 GV HU BL h1 h2;obtain ⟨q1,q2,q3,q4⟩:=zk4 HK;obtain ⟨v0,v1,v2,v3,v4,v5,v6,v7⟩:=zF ST.O.h7;obtain ⟨b0,b1,b2,b3,b4,b5,b6,b7,b8,b9⟩:=zG ST.O.h8;have x0:=ST.O.c5;have UJ:=zh (Fy.O.trans (AC6 HK));have HF:=zh (ADZ HK GH)
 obtain ⟨an,han⟩:∃an,(x.AX.any fun y=>decide (y.id=v.id))=an:=⟨_,rfl⟩
 have hcall:=XK v.id x As cs Am cm W3 (Ie.O.below (ST.O.up HB0 HG));rw[han] at hcall;have PU:=zh hcall;have SE:=zh han;clear hcall han;go_wp2_with fail;refine PU.O.mono ?_;rintro e' w4 ⟨r,rfl,hr4,hb4⟩;have HR4:=zh hr4;have Ld:=zh (ST.O.below hb4);clear hb4 hr4 PU;clear v0 v1 v2 v3 v4 v5 v6 v7 b0 b1 b2 b3 b4 b5 b6 b7 b8 b9 x0
 obtain ⟨v0,v1,v2,v3,v4,v5,v6,v7⟩:=zF Ld.O.h7;obtain ⟨b0,b1,b2,b3,b4,b5,b6,b7,b8,b9⟩:=zG Ld.O.h8;have x0:=Ld.O.c5
 cases an with
 | true =>
  obtain ⟨k,hk,e1,e2⟩:=Jw x.AX SE;have HL:Hid (L=(x.AX[k]).name):=by show _=_;rw[UJ.O,e2]
  obtain rfl:r=(k:Int):=(HR4.O rfl).trans e1;have HZ:Hid (T.size+(x.AX[k]).name.size<=140737488355328):=by have:=E5.O;rw[HL.O] at this;exact this
  obtain ⟨sb,so,hAs,_,a0,a1⟩:=Ie.O.AX.at2 hk;replace a1:=zA (Ld.O.up HB0 HG) a1;subst hAs;have j1:(0:Int)<=(k:Int):=by omega
  have j2:(k:Int)<(x.AX.length:Int):=by omega
  clear e1 e2 a0;go_wp2_with fail;refine (Ld.O.FZ.write _ (HZ.O) Ld.O.ge).mono ?_;rintro e' w5 ⟨rfl,g1,g2,g3⟩;have Eg:=zh (Ld.O.step g1 g2 g3);clear g1 g2 g3;go_wp2;refine bodyPost_ret (results_none results44 _ _ _) rfl ⟨rfl,by rw[HL.O];exact Eg.O.FZ,Eg.O.fr,Eg.O.ot⟩
 | false =>
  have HL:Hid (L=⟨#[64]⟩++Ch v.id):=by show _=_;rw[UJ.O,O8 x.AX SE.O]
  have PL:Hid (BD v.id=true):=by
   rcases HF.O with h|h
   ·rw[SE.O] at h;cases h
   ·exact h.2
  have HZ:Hid (T.size+((⟨#[64]⟩:ByteArray)++Ch v.id).size<=140737488355328):=by have:=E5.O;rw[HL.O] at this;exact this
  have n1:¬ 9223372036854775807<(⟨#[64]⟩:ByteArray).size+(Ch v.id).size:=by have:=Td (O7 PL);show ¬ _<1+_;omega
  have n2:¬ 9223372036854775807<1+(Ch v.id).size:=n1;go_wp2_with fail;refine (MS v.id (O7 PL) _ (Kw.O.below (Ld.O.up HB0 HG))).mono ?_;rintro e' w5 ⟨rfl,hb5⟩;have Eg:=zh (Ld.O.below hb5);clear hb5;clear v0 v1 v2 v3 v4 v5 v6 v7 b0 b1 b2 b3 b4 b5 b6 b7 b8 b9 x0;go_wp2_with fail;refine (Eg.O.FZ.write _ (HZ.O) Eg.O.ge).mono ?_;rintro e' w6 ⟨rfl,g1,g2,g3⟩
  have Gw:=zh (Eg.O.step g1 g2 g3);clear g1 g2 g3;go_wp2;refine bodyPost_end (results_none results44 _ _ _) rfl ⟨rfl,by rw[HL.O];exact Gw.O.FZ,Gw.O.fr,Gw.O.ot⟩
theorem gB (_hv:zQ s=0) (hn:DW s) (ih:WriteAt s A c n):JA s A c n 9:=by
 intro t v A1 c1 A2 c2 A3 c3 w0 w B b T e hf hs hr htb hg hb0 hB hbl hsz
 obtain ⟨i0,i1,i2,i3⟩:=CF hf;obtain ⟨tn,rfl⟩:=AAh i0;have htn:tn<s.length:=by omega
 have hln:=hs.1.lt (by omega)
 rw[zT htn] at i2 i3 e;have Fy:Hid (Ae s (n+1) (tn:Int) v=Bg (Ae s n) s[tn] v):=by show _=_;rw[Ae,zT htn]
 have rY:=zh (hn _ (AAL htn));obtain ⟨Bf,H5,H7⟩:=zy w (.cells #[.slice A s.length c] 31) (v.box A1 c1 A2 c2 A3 c3);have Ed:=zh ih;have HS:=zh hs;have HR:=zh hr;have Kw:=zh htb;have HG:=zh hg;have HB0:=zh hb0;have KE:=zh hB;have GV:=zh hbl;have hblt:=hbl.lt;obtain ⟨L,hL⟩:∃L,Ae s (n+1) (tn:Int) v=L:=⟨_,rfl⟩;rw[hL] at hsz Fy;simp only[hL];have E5:=zh hsz
 have HU:Hid (Below w0.heap.size w0 ((w.alloc (.cells #[.slice A s.length c] 31)).alloc (v.box A1 c1 A2 c2 A3 c3))):=(hb0.trans (Bf.O.mono hB)).mono hg;obtain ⟨bq,oq,As,cs,Am,cm,hA,htr,t0,t1,t2,t3,t4,t5,t6,t7,t8,t9⟩:=hs.J3 htn;clear hL hf ih hs hr htb hg hb0 hB hbl hsz _hv hn i0 i1;subst hA;generalize s[tn]=x at *;have Ie:=zh htr;have GH:=zh i3;have mZ:=zh (i2.trans e);have HK:=zh e
 clear htr i3 i2 e;replace t0:=zA HU t0;replace t1:=zA HU t1;replace t2:=zA HU t2;replace t3:=zA HU t3;replace t4:=zA HU t4;replace t5:=zA HU t5;replace t6:=zA HU t6;replace t7:=zA HU t7;replace t8:=zA HU t8;replace t9:=zA HU t9;have h1:(0:Int)<=(tn:Int):=by omega
 have h2:(tn:Int)<(s.length:Int):=by omega
 go_enter func44,ntmps44
 go_upto_region 1 with fail
 have hsz2:Hid (((w.alloc (.cells #[.slice (some ⟨bq,oq,none⟩) s.length c] 31)).alloc (v.box A1 c1 A2 c2 A3 c3)).heap.size=w.heap.size+2):=by show _=_;simp
 generalize (w.alloc (.cells #[.slice (some ⟨bq,oq,none⟩) s.length c] 31)).alloc (v.box A1 c1 A2 c2 A3 c3)=W2 at *;have x0:=zb H5;go_upto_region 2 with fail
 clear t0 t1 t2 t3 t4 t5 t6 t7 t8 t9 x0;have BL:=zh (zD W2 (x.box As cs Am cm));have ST:Hid (EX s (some ⟨bq,oq,none⟩) c x As cs Am cm v A1 c1 A2 c2 A3 c3 B b w.heap.size (w.heap.size+1) W2.heap.size w (W2.alloc (x.box As cs Am cm)) (T)):=by
  have hz:=hsz2.O;have hge:=KE.O;exact ⟨(GV.O.below Bf).below BL,(Bf.O.mono KE.O).trans (BL.O.mono (by omega)),Co (yD Bf) (yD BL),by omega,by omega,by omega,zE H5 BL,zE H7 BL,AAA W2 _,by have:=KE.O;have:=BL.O.size;omega⟩
 generalize W2.alloc (x.box As cs Am cm)=W3 at *;generalize W2.heap.size=p8 at *;clear hsz2 hblt Bf H5 H7 GV HU BL h1 h2;have q1:(x.kind==1)=false:=by simp[HK.O]
 have q2:(x.kind==2)=false:=by simp[HK.O]
 have q3:(x.kind==3)=false:=by simp[HK.O]
 have q4:(x.kind==4)=false:=by simp[HK.O]
 have q5:(x.kind==5)=false:=by simp[HK.O]
 have q6:(x.kind==6)=false:=by simp[HK.O]
 have q7:(x.kind==7)=false:=by simp[HK.O]
 have q8:(x.kind==8)=false:=by simp[HK.O]
 have q9:(x.kind==9)=true:=by simp[HK.O]
 obtain ⟨v0,v1,v2,v3,v4,v5,v6,v7⟩:=zF ST.O.h7;obtain ⟨b0,b1,b2,b3,b4,b5,b6,b7,b8,b9⟩:=zG ST.O.h8;have x0:=ST.O.c5;have UJ:=zh (Fy.O.trans (AAf HK));have HF:=zh (AA3 HK GH)
 by_cases hi:v.items=[]
 ·have HL:Hid (L=⟨#[110,111,110,101]⟩):=by show _=_;rw[UJ.O,hi]
  have HZ:Hid (T.size+(⟨#[110,111,110,101]⟩:ByteArray).size<=140737488355328):=by have:=E5.O;rw[HL.O] at this;exact this
  have z1:((v.items.length:Int)==0)=true:=by rw[hi];rfl
  clear hi;go_wp2_with fail;refine (ST.O.FZ.write _ (HZ.O) ST.O.ge).mono ?_;rintro e' w5 ⟨rfl,g1,g2,g3⟩;have Eg:=zh (ST.O.step g1 g2 g3);clear g1 g2 g3;go_wp2;refine bodyPost_ret (results_none results44 _ _ _) rfl ⟨rfl,by rw[HL.O];exact Eg.O.FZ,Eg.O.fr,Eg.O.ot⟩
 ·have hlt:0<v.items.length:=List.length_pos_iff.2 hi
  obtain ⟨ib,io,E1,e1,E2,e2,E3,e3,hI,hir,a0,a1,a2,a3,a4,a5,a6,a7⟩:=HR.O.items.at8 hlt;have sJ:=zh hir;have HA:=zh (And.intro a0 (And.intro a1 (And.intro a2 (And.intro a3 (And.intro a4 (And.intro a5 (And.intro a6 a7)))))));clear hir a0 a1 a2 a3 a4 a5 a6 a7;have hmem:=HF.O.2 _ (AAL hlt)
  have HL:Hid (L=⟨#[115,111,109,101,40]⟩++Ae s n x.elem v.items[0]++⟨#[41]⟩):=Fy.O.trans (bQ HK hlt);have HZ:Hid (T.size+(5+(Ae s n x.elem v.items[0]).size+1)<=140737488355328):=by have:=E5.O;rw[HL.O,zH,zH] at this;exact this
  have z1:((v.items.length:Int)==0)=false:=by simp[hi]
  generalize v.items[0]=y at *;have Z5:=zh hmem;clear hmem hi;subst hI;have h2:(0:Int)<(v.items.length:Int):=by omega
  go_wp2_with fail
  refine (ST.O.FZ.write _ ?_ ST.O.ge).mono ?_
  ·have:=HZ.O;show _+5<=_;omega
  rintro e' w5 ⟨rfl,g1,g2,g3⟩;have Eg:=zh (ST.O.step g1 g2 g3);clear g1 g2 g3;clear v0 v1 v2 v3 v4 v5 v6 v7 b0 b1 b2 b3 b4 b5 b6 b7 b8 b9 x0
  have Kn:Hid (∀w' T',EX s (some ⟨bq,oq,none⟩) c x As cs Am cm v A1 c1 (some ⟨ib,io,none⟩) c2 A3 c3 B b w.heap.size (w.heap.size+1) p8 w w' (T')->(w'.cell? ⟨w.heap.size,0,none⟩=some (.slice (some ⟨bq,oq,none⟩) s.length c)/\w'.cell? ⟨p8,8,none⟩=some (.int .i64 x.elem)/\w'.cell? ⟨w.heap.size+1,6,none⟩=some (.slice (some ⟨ib,io,none⟩) v.items.length c2)/\w'.cell? ⟨ib,io,none⟩=some (.int .i64 y.kind)/\w'.cell? ⟨ib,io+1,none⟩=some (.bool y.bool)/\w'.cell? ⟨ib,io+2,none⟩=some (.int .i64 y.int)/\w'.cell? ⟨ib,io+3,none⟩=some (.string y.str)/\w'.cell? ⟨ib,io+4,none⟩=some (.int .i64 y.id)/\w'.cell? ⟨ib,io+5,none⟩=some (.slice E1 y.keys.length e1)/\w'.cell? ⟨ib,io+6,none⟩=some (.slice E2 y.items.length e2)/\w'.cell? ⟨ib,io+7,none⟩=some (.slice E3 y.rest.length e3))):=fun w' T' st=>by
   obtain ⟨v0,v1,v2,v3,v4,v5,v6,v7⟩:=zF st.h7;obtain ⟨b0,b1,b2,b3,b4,b5,b6,b7,b8,b9⟩:=zG st.h8;have u:=st.up HB0 HG;obtain ⟨a0,a1,a2,a3,a4,a5,a6,a7⟩:=HA.O;exact ⟨st.c5,b8,v6,zA u (by simpa using a0),zA u (by simpa using a1),zA u (by simpa using a2),zA u (by simpa using a3),zA u (by simpa using a4),zA u (by simpa using a5),zA u (by simpa using a6),zA u (by simpa using a7)⟩
  go_upto_region 63 with fail
  refine wp_region_held_drew (S:=(fun w'=>(w'.cell? ⟨w.heap.size,0,none⟩=some (.slice (some ⟨bq,oq,none⟩) s.length c)/\w'.cell? ⟨p8,8,none⟩=some (.int .i64 x.elem)/\w'.cell? ⟨w.heap.size+1,6,none⟩=some (.slice (some ⟨ib,io,none⟩) v.items.length c2)/\w'.cell? ⟨ib,io,none⟩=some (.int .i64 y.kind)/\w'.cell? ⟨ib,io+1,none⟩=some (.bool y.bool)/\w'.cell? ⟨ib,io+2,none⟩=some (.int .i64 y.int)/\w'.cell? ⟨ib,io+3,none⟩=some (.string y.str)/\w'.cell? ⟨ib,io+4,none⟩=some (.int .i64 y.id)/\w'.cell? ⟨ib,io+5,none⟩=some (.slice E1 y.keys.length e1)/\w'.cell? ⟨ib,io+6,none⟩=some (.slice E2 y.items.length e2)/\w'.cell? ⟨ib,io+7,none⟩=some (.slice E3 y.rest.length e3))/\Hid (Below B w0 w))) (by kernel_rfl) ?_ (fun AQ=>?_)
  ·(try dsimp only);exact ⟨Kn.O _ _ (Eg.O.below (zC (Pe _ _) 1)),HB0.O⟩
  refine tL 0 ?_;refine tL 1 ?_;refine tL 2 ?_;refine tL 3 ?_;refine tL 4 ?_;refine tL 5 ?_;try simp only[ps]
  refine tL 6 ?_;refine tL 7 ?_;refine tR 8 (fun K hK=>?_)
  go_simp
  (refine (Ed.O x.elem y E1 e1 E2 e2 E3 e3 w0 _ B b _ Z5 HS sJ Kw HG (HB0.O.trans (Eg.O.below (zC (Pe _ _) 1)).fr) (Eg.O.below (zC (Pe _ _) 1)).ge (Eg.O.below (zC (Pe _ _) 1)).FZ (by have:=HZ.O;rw[zH];show _+5+_<=_;omega)).mono ?_;rintro e' w6 ⟨rfl,g1,g2,g3⟩;have Gw:=zh ((Eg.O.below (zC (Pe _ _) 1)).step g1 g2 g3);clear g1 g2 g3)
  refine hK.out _ _ ?_ (fun AQ=>?_)
  ·(try dsimp only);exact ⟨Kn.O _ _ Gw.O,HB0.O⟩
  clear hK K;refine wpAnyH_done (by kernel_rfl) ?_ _
  clear AQ;go_wp2_with fail;refine (Gw.O.FZ.byte 41 (by have:=HZ.O;rw[zH,zH];show _+5+_+1<=_;omega) Gw.O.ge).mono ?_
  rintro e' w7 ⟨rfl,g1,g2,g3⟩;have OY:=zh (Gw.O.step g1 g2 g3);clear g1 g2 g3;go_wp2;refine bodyPost_end (results_none results44 _ _ _) rfl ⟨rfl,by rw[HL.O];(have h:=OY.O.FZ;simp only[ABX] at h ⊢;exact h),OY.O.fr,OY.O.ot⟩
theorem gG (_hv:zQ s=0) (hn:DW s) (ih:WriteAt s A c n):JA s A c n 6:=by
 intro t v A1 c1 A2 c2 A3 c3 w0 w B b T e hf hs hr htb hg hb0 hB hbl hsz
 obtain ⟨i0,i1,i2,i3⟩:=CF hf;obtain ⟨tn,rfl⟩:=AAh i0;have htn:tn<s.length:=by omega
 have hln:=hs.1.lt (by omega)
 rw[zT htn] at i2 i3 e;have Fy:Hid (Ae s (n+1) (tn:Int) v=Bg (Ae s n) s[tn] v):=by show _=_;rw[Ae,zT htn]
 have rY:=zh (hn _ (AAL htn));obtain ⟨Bf,H5,H7⟩:=zy w (.cells #[.slice A s.length c] 31) (v.box A1 c1 A2 c2 A3 c3);have Ed:=zh ih;have HS:=zh hs;have HR:=zh hr;have Kw:=zh htb;have HG:=zh hg;have HB0:=zh hb0;have KE:=zh hB;have GV:=zh hbl;have hblt:=hbl.lt;obtain ⟨L,hL⟩:∃L,Ae s (n+1) (tn:Int) v=L:=⟨_,rfl⟩;rw[hL] at hsz Fy;simp only[hL];have E5:=zh hsz
 have HU:Hid (Below w0.heap.size w0 ((w.alloc (.cells #[.slice A s.length c] 31)).alloc (v.box A1 c1 A2 c2 A3 c3))):=(hb0.trans (Bf.O.mono hB)).mono hg;obtain ⟨bq,oq,As,cs,Am,cm,hA,htr,t0,t1,t2,t3,t4,t5,t6,t7,t8,t9⟩:=hs.J3 htn;clear hL hf ih hs hr htb hg hb0 hB hbl hsz _hv hn i0 i1;subst hA;generalize s[tn]=x at *;have Ie:=zh htr;have GH:=zh i3;have mZ:=zh (i2.trans e);have HK:=zh e
 clear htr i3 i2 e;replace t0:=zA HU t0;replace t1:=zA HU t1;replace t2:=zA HU t2;replace t3:=zA HU t3;replace t4:=zA HU t4;replace t5:=zA HU t5;replace t6:=zA HU t6;replace t7:=zA HU t7;replace t8:=zA HU t8;replace t9:=zA HU t9;have h1:(0:Int)<=(tn:Int):=by omega
 have h2:(tn:Int)<(s.length:Int):=by omega
 go_enter func44,ntmps44
 go_upto_region 1 with fail
 have hsz2:Hid (((w.alloc (.cells #[.slice (some ⟨bq,oq,none⟩) s.length c] 31)).alloc (v.box A1 c1 A2 c2 A3 c3)).heap.size=w.heap.size+2):=by show _=_;simp
 generalize (w.alloc (.cells #[.slice (some ⟨bq,oq,none⟩) s.length c] 31)).alloc (v.box A1 c1 A2 c2 A3 c3)=W2 at *;have x0:=zb H5;go_upto_region 2 with fail
 clear t0 t1 t2 t3 t4 t5 t6 t7 t8 t9 x0;have BL:=zh (zD W2 (x.box As cs Am cm));have ST:Hid (EX s (some ⟨bq,oq,none⟩) c x As cs Am cm v A1 c1 A2 c2 A3 c3 B b w.heap.size (w.heap.size+1) W2.heap.size w (W2.alloc (x.box As cs Am cm)) (T)):=by
  have hz:=hsz2.O;have hge:=KE.O;exact ⟨(GV.O.below Bf).below BL,(Bf.O.mono KE.O).trans (BL.O.mono (by omega)),Co (yD Bf) (yD BL),by omega,by omega,by omega,zE H5 BL,zE H7 BL,AAA W2 _,by have:=KE.O;have:=BL.O.size;omega⟩
 generalize W2.alloc (x.box As cs Am cm)=W3 at *;generalize W2.heap.size=p8 at *;clear hsz2 hblt Bf H5 H7 GV HU BL h1 h2;obtain ⟨q1,q2,q3,q4,q5,q6⟩:=zk6 HK;obtain ⟨v0,v1,v2,v3,v4,v5,v6,v7⟩:=zF ST.O.h7;obtain ⟨b0,b1,b2,b3,b4,b5,b6,b7,b8,b9⟩:=zG ST.O.h8;have x0:=ST.O.c5;have HF:=zh (AA6 HK GH);obtain ⟨an,han⟩:∃an,(x.AA.any fun y=>decide (y.id=v.id))=an:=⟨_,rfl⟩
 have hcall:=LH v.id x As cs Am cm W3 (Ie.O.below (ST.O.up HB0 HG));rw[han] at hcall;have PU:=zh hcall;have SE:=zh han;clear hcall han;go_wp2_with fail;refine PU.O.mono ?_;rintro e' w4 ⟨r,rfl,hr4,hb4⟩;have HR4:=zh hr4;have Ld:=zh (ST.O.below hb4);clear hb4 hr4 PU;clear v0 v1 v2 v3 v4 v5 v6 v7 b0 b1 b2 b3 b4 b5 b6 b7 b8 b9 x0
 cases an with
 | true =>
  obtain ⟨k,hk,e1,e2⟩:=Jw x.AA SE;obtain rfl:r=(k:Int):=(HR4.O rfl).trans e1;obtain ⟨m,y,g1,g2,g3⟩:∃m y,x.AA.find? (fun y=>decide (y.id=v.id))=some m/\v.items=[y]/\Ad s false n m.type y=true:=by
   rcases HF.O with ⟨_,m,y,g1,g2,g3⟩|⟨g,_⟩
   ·exact ⟨m,y,g1,g2,g3⟩
   ·rw[SE.O] at g;cases g
  obtain rfl:m=x.AA[k]:=ABW (g1.symm.trans e2);have hlt:0<v.items.length:=by rw[g2];exact Nat.one_pos
  have hmem:Ad s false n (x.AA[k]).type v.items[0]=true:=by simp only[g2,List.getElem_cons_zero];exact g3
  have HL:Hid (L=(x.AA[k]).name++⟨#[40]⟩++Ae s n (x.AA[k]).type v.items[0]++⟨#[41]⟩):=Fy.O.trans (kK HK e2 hlt);have HZ:Hid (T.size+((x.AA[k]).name.size+1+(Ae s n (x.AA[k]).type v.items[0]).size+1)<=140737488355328):=by have:=E5.O;rw[HL.O,zH,zH,zH] at this;exact this
  clear g1 g2 g3 e1 e2;obtain ⟨ib,io,E1,e1,E2,e2,E3,e3,hI,hir,a0,a1,a2,a3,a4,a5,a6,a7⟩:=HR.O.items.at8 hlt;have sJ:=zh hir;have HA:=zh (And.intro a0 (And.intro a1 (And.intro a2 (And.intro a3 (And.intro a4 (And.intro a5 (And.intro a6 a7)))))));clear hir a0 a1 a2 a3 a4 a5 a6 a7;obtain ⟨mb,mo,M1,m1,M2,m2,M3,m3,hM,_,d0,d1,d2,d3,d4,d5,d6,d7,d8,d9,UB,UA,T9⟩:=Ie.O.AA.Mk hk
  have HD:=zh (And.intro d1 d2);clear d0 d1 d2 d3 d4 d5 d6 d7 d8 d9 UB UA T9;generalize x.AA[k]=m at *;generalize v.items[0]=y at *;have Z5:=zh hmem;clear hmem;subst hI;subst hM;have h1:(0:Int)<=(k:Int):=by omega
  have h2:(k:Int)<(x.AA.length:Int):=by omega
  have h3:(0:Int)<(v.items.length:Int):=by omega
  have n1:¬ 9223372036854775807<m.name.size+(⟨#[40]⟩:ByteArray).size:=by have:=HZ.O;show ¬ _<_+1;omega
  have n2:¬ 9223372036854775807<m.name.size+1:=n1;have d1:=zA (Ld.O.up HB0 HG) HD.O.1;obtain ⟨v0,v1,v2,v3,v4,v5,v6,v7⟩:=zF Ld.O.h7;obtain ⟨b0,b1,b2,b3,b4,b5,b6,b7,b8,b9⟩:=zG Ld.O.h8;have x0:=Ld.O.c5;go_wp2_with fail;refine (Ld.O.FZ.write _ ?_ Ld.O.ge).mono ?_
  ·have:=HZ.O;have e1:(⟨#[40]⟩:ByteArray).size=1:=rfl;rw[zH];omega
  rintro e' w5 ⟨rfl,g1,g2,g3⟩;have Eg:=zh (Ld.O.step g1 g2 g3);clear g1 g2 g3;clear v0 v1 v2 v3 v4 v5 v6 v7 b0 b1 b2 b3 b4 b5 b6 b7 b8 b9 x0 d1
  have Kn:Hid (∀w' T',EX s (some ⟨bq,oq,none⟩) c x As cs (some ⟨mb,mo,none⟩) cm v A1 c1 (some ⟨ib,io,none⟩) c2 A3 c3 B b w.heap.size (w.heap.size+1) p8 w w' (T')->(w'.cell? ⟨w.heap.size,0,none⟩=some (.slice (some ⟨bq,oq,none⟩) s.length c)/\w'.cell? ⟨p8,6,none⟩=some (.slice (some ⟨mb,mo,none⟩) x.AA.length cm)/\w'.cell? ⟨mb,mo+k * 13+2,none⟩=some (.int .i64 m.type)/\w'.cell? ⟨w.heap.size+1,6,none⟩=some (.slice (some ⟨ib,io,none⟩) v.items.length c2)/\w'.cell? ⟨ib,io,none⟩=some (.int .i64 y.kind)/\w'.cell? ⟨ib,io+1,none⟩=some (.bool y.bool)/\w'.cell? ⟨ib,io+2,none⟩=some (.int .i64 y.int)/\w'.cell? ⟨ib,io+3,none⟩=some (.string y.str)/\w'.cell? ⟨ib,io+4,none⟩=some (.int .i64 y.id)/\w'.cell? ⟨ib,io+5,none⟩=some (.slice E1 y.keys.length e1)/\w'.cell? ⟨ib,io+6,none⟩=some (.slice E2 y.items.length e2)/\w'.cell? ⟨ib,io+7,none⟩=some (.slice E3 y.rest.length e3))):=fun w' T' st=>by
   obtain ⟨v0,v1,v2,v3,v4,v5,v6,v7⟩:=zF st.h7;obtain ⟨b0,b1,b2,b3,b4,b5,b6,b7,b8,b9⟩:=zG st.h8;have u:=st.up HB0 HG;obtain ⟨a0,a1,a2,a3,a4,a5,a6,a7⟩:=HA.O;exact ⟨st.c5,b6,zA u HD.O.2,v6,zA u (by simpa using a0),zA u (by simpa using a1),zA u (by simpa using a2),zA u (by simpa using a3),zA u (by simpa using a4),zA u (by simpa using a5),zA u (by simpa using a6),zA u (by simpa using a7)⟩
  go_upto_region 34 with fail
  refine wp_region_held_drew (S:=(fun w'=>(w'.cell? ⟨w.heap.size,0,none⟩=some (.slice (some ⟨bq,oq,none⟩) s.length c)/\w'.cell? ⟨p8,6,none⟩=some (.slice (some ⟨mb,mo,none⟩) x.AA.length cm)/\w'.cell? ⟨mb,mo+k * 13+2,none⟩=some (.int .i64 m.type)/\w'.cell? ⟨w.heap.size+1,6,none⟩=some (.slice (some ⟨ib,io,none⟩) v.items.length c2)/\w'.cell? ⟨ib,io,none⟩=some (.int .i64 y.kind)/\w'.cell? ⟨ib,io+1,none⟩=some (.bool y.bool)/\w'.cell? ⟨ib,io+2,none⟩=some (.int .i64 y.int)/\w'.cell? ⟨ib,io+3,none⟩=some (.string y.str)/\w'.cell? ⟨ib,io+4,none⟩=some (.int .i64 y.id)/\w'.cell? ⟨ib,io+5,none⟩=some (.slice E1 y.keys.length e1)/\w'.cell? ⟨ib,io+6,none⟩=some (.slice E2 y.items.length e2)/\w'.cell? ⟨ib,io+7,none⟩=some (.slice E3 y.rest.length e3))/\Hid (Below B w0 w))) (by kernel_rfl) ?_ (fun AQ=>?_)
  ·(try dsimp only);exact ⟨Kn.O _ _ (Eg.O.below (zC (Pe _ _) 1)),HB0.O⟩
  refine tL 0 ?_;refine tL 1 ?_;refine tL 2 ?_;refine tL 3 ?_;refine tL 4 ?_;refine tL 5 ?_;try simp only[ps]
  refine tL 6 ?_;refine tL 7 ?_;refine tL 8 ?_;refine tL 9 ?_;refine tL 10 ?_;refine tL 11 ?_;try simp only[ps]
  refine tR 12 (fun K hK=>?_)
  go_simp
  (refine (Ed.O m.type y E1 e1 E2 e2 E3 e3 w0 _ B b _ Z5 HS sJ Kw HG (HB0.O.trans (Eg.O.below (zC (Pe _ _) 1)).fr) (Eg.O.below (zC (Pe _ _) 1)).ge (Eg.O.below (zC (Pe _ _) 1)).FZ (by have:=HZ.O;have e1:(⟨#[40]⟩:ByteArray).size=1:=rfl;rw[zH,zH];omega)).mono ?_;rintro e' w6 ⟨rfl,g1,g2,g3⟩;have Gw:=zh ((Eg.O.below (zC (Pe _ _) 1)).step g1 g2 g3);clear g1 g2 g3)
  refine hK.out _ _ ?_ (fun AQ=>?_)
  ·(try dsimp only);exact ⟨Kn.O _ _ Gw.O,HB0.O⟩
  clear hK K;refine wpAnyH_done (by kernel_rfl) ?_ _
  clear AQ;go_wp2_with fail;refine (Gw.O.FZ.byte 41 (by have:=HZ.O;have e1:(⟨#[40]⟩:ByteArray).size=1:=rfl;rw[zH,zH,zH];omega) Gw.O.ge).mono ?_
  rintro e' w7 ⟨rfl,g1,g2,g3⟩;have OY:=zh (Gw.O.step g1 g2 g3);clear g1 g2 g3;go_wp2;refine bodyPost_end (results_none results44 _ _ _) rfl ⟨rfl,by rw[HL.O];(have h:=OY.O.FZ;simp only[ABX] at h ⊢;exact h),OY.O.fr,OY.O.ot⟩
 | false =>
  obtain ⟨hfr,r0,hr0⟩:BD v.id=true/\∃r,v.rest=[r]:=by
   rcases HF.O with ⟨g,_⟩|⟨_,g1,g2⟩
   ·rw[SE.O] at g;cases g
   ·exact ⟨g1,g2⟩
  have PL:=zh hfr;have hlt:0<v.rest.length:=by rw[hr0];exact Nat.one_pos
  have HL:Hid (L=⟨#[64]⟩++Ch v.id++⟨#[40]⟩++Lr (v.rest[0]).data++⟨#[41]⟩):=Fy.O.trans (qV HK (O8 x.AA SE) hlt);have HZ:Hid (T.size+(1+(Ch v.id).size+1+(Lr (v.rest[0]).data).size+1)<=140737488355328):=by have:=E5.O;rw[HL.O,zH,zH,zH,zH] at this;exact this
  clear hfr hr0 r0;obtain ⟨rb,ro,hR,_,a0,a1⟩:=HR.O.rest.at2 hlt;have HA:=zh a1;clear a0 a1;generalize v.rest[0]=r0 at *;subst hR;have h3:(0:Int)<(v.rest.length:Int):=by omega
  have n1:¬ 9223372036854775807<(⟨#[64]⟩:ByteArray).size+(Ch v.id).size:=by have:=HZ.O;show ¬ _<1+_;omega
  have n2:¬ 9223372036854775807<1+(Ch v.id).size:=n1;have n3:¬ 9223372036854775807<(⟨#[64]⟩++Ch v.id:ByteArray).size+(⟨#[40]⟩:ByteArray).size:=by have:=HZ.O;rw[zH];show ¬ _<1+_+1;omega
  have n4:¬ 9223372036854775807<1+(Ch v.id).size+1:=by have:=HZ.O;omega
  have n5:¬ 9223372036854775807<(⟨#[64]⟩++Ch v.id++⟨#[40]⟩:ByteArray).size+(Lr r0.data).size:=by have:=HZ.O;rw[zH,zH];show ¬ _<1+_+1+_;omega
  have n6:¬ 9223372036854775807<1+(Ch v.id).size+1+(Lr r0.data).size:=by have:=HZ.O;omega
  have Kn:Hid (∀w' T',EX s (some ⟨bq,oq,none⟩) c x As cs Am cm v A1 c1 A2 c2 (some ⟨rb,ro,none⟩) c3 B b w.heap.size (w.heap.size+1) p8 w w' (T')->(w'.cell? ⟨w.heap.size+1,4,none⟩=some (.int .i64 v.id)/\w'.cell? ⟨w.heap.size+1,7,none⟩=some (.slice (some ⟨rb,ro,none⟩) v.rest.length c3)/\w'.cell? ⟨rb,ro+1,none⟩=some (.string r0.data))):=fun w' T' st=>by
   obtain ⟨v0,v1,v2,v3,v4,v5,v6,v7⟩:=zF st.h7;have u:=st.up HB0 HG;exact ⟨v4,v7,zA u (by simpa using HA.O)⟩
  obtain ⟨v0,v1,v2,v3,v4,v5,v6,v7⟩:=zF Ld.O.h7;obtain ⟨b0,b1,b2,b3,b4,b5,b6,b7,b8,b9⟩:=zG Ld.O.h8;have x0:=Ld.O.c5;go_upto_region 35 with fail
  clear v0 v1 v2 v3 v4 v5 v6 v7 b0 b1 b2 b3 b4 b5 b6 b7 b8 b9 x0;refine wp_region_held_drew (S:=(fun w'=>(w'.cell? ⟨w.heap.size+1,4,none⟩=some (.int .i64 v.id)/\w'.cell? ⟨w.heap.size+1,7,none⟩=some (.slice (some ⟨rb,ro,none⟩) v.rest.length c3)/\w'.cell? ⟨rb,ro+1,none⟩=some (.string r0.data))/\Hid (Below B w0 w))) (by kernel_rfl) ?_ (fun AQ=>?_)
  ·(try dsimp only);exact ⟨Kn.O _ _ (Ld.O.below (zC (Pe _ _) 1)),HB0.O⟩
  refine tL 0 ?_;refine tL 1 ?_;refine tL 2 ?_;refine tL 6 ?_;refine tL 7 ?_;try simp only[ps]
  refine tL 8 ?_;refine tL 9 ?_;refine tL 10 ?_;refine tR 3 (fun K hK=>?_)
  go_simp
  (refine (MS v.id (O7 PL) _ (Kw.O.below ((Ld.O.below (zC (Pe _ _) 1)).up HB0 HG))).mono ?_;rintro e' w5 ⟨rfl,hb5⟩;have Eg:=zh ((Ld.O.below (zC (Pe _ _) 1)).below hb5);clear hb5)
  refine hK.out _ _ ?_ (fun AQ=>?_)
  ·(try dsimp only);exact ⟨Kn.O _ _ Eg.O,HB0.O⟩
  clear hK K;refine tL 4 ?_;refine tL 5 ?_;try simp only[ps]
  refine tR 11 (fun K hK=>?_)
  go_simp
  (refine (NT r0.data (by have:=HZ.O;omega) _).mono ?_;rintro e' w6 ⟨rfl,hb6⟩;have Gw:=zh (Eg.O.below hb6);clear hb6)
  refine hK.out _ _ ?_ (fun AQ=>?_)
  ·(try dsimp only);exact ⟨Kn.O _ _ Gw.O,HB0.O⟩
  clear hK K;refine tL 12 ?_;refine tR 13 (fun K hK=>?_)
  go_simp
  (refine (Gw.O.FZ.write _ ?_ Gw.O.ge).mono ?_;(· have:=HZ.O;have e1:(⟨#[40]⟩:ByteArray).size=1:=rfl;have e2:(⟨#[64]⟩:ByteArray).size=1:=rfl;rw[zH,zH,zH];omega);rintro e' w7 ⟨rfl,g1,g2,g3⟩;have OY:=zh (Gw.O.step g1 g2 g3);clear g1 g2 g3)
  refine hK.out _ _ ?_ (fun AQ=>?_)
  ·(try dsimp only);exact ⟨Kn.O _ _ OY.O,HB0.O⟩
  clear hK K;refine wpAnyH_done (by kernel_rfl) ?_ _
  clear AQ;go_wp2_with fail;refine (OY.O.FZ.byte 41 (by have:=HZ.O;have e1:(⟨#[40]⟩:ByteArray).size=1:=rfl;have e2:(⟨#[64]⟩:ByteArray).size=1:=rfl;rw[zH,zH,zH,zH];omega) OY.O.ge).mono ?_
  rintro e' w8 ⟨rfl,g1,g2,g3⟩;have LC:=zh (OY.O.step g1 g2 g3);clear g1 g2 g3;go_wp2;refine bodyPost_end (results_none results44 _ _ _) rfl ⟨rfl,by rw[HL.O];(have h:=LC.O.FZ;simp only[ABX] at h ⊢;exact h),LC.O.fr,LC.O.ot⟩
