/-
  Walks: literal.write, kinds 6.
-/
import Derived.Test.YthkkllmmbefedaaGreatDoorQGA10
import Derived.Test.YthkkllmmbefedaaGreatDoorQGA9
namespace Go.Proofs.YthkkllmmbefedaaGreatDoor
open Go.RowKit
set_option maxHeartbeats 16000000
set_option maxRecDepth 100000
variable {s:List Aa} {c n:Nat} {A:zo}
theorem bQ (_hv:zQ s=0) (hn:DI s) (ih:WriteAt s A c n):IW s A c n 1:=by
 intro t v A1 c1 A2 c2 A3 c3 w0 w B b T e hf hs hr htb hg hb0 hB hbl hsz
 obtain ⟨i0,i1,i2,i3⟩:=Bt hf;obtain ⟨tn,rfl⟩:=AAY i0;have htn:tn<s.length:=by omega
 have hln:=hs.1.lt (by omega)
 rw[zT htn] at i2 i3 e;have Gc:Hid (Ae s (n+1) (tn:Int) v=Bd (Ae s n) s[tn] v):=by show _=_;rw[Ae,zT htn]
 have oL:=zh (hn _ (AAU htn));obtain ⟨Bw,H5,H7⟩:=zy w (.cells #[.slice A s.length c] 31) (v.box A1 c1 A2 c2 A3 c3);have EI:=zh ih;have HS:=zh hs;have HR:=zh hr;have KJ:=zh htb;have HG:=zh hg;have HB0:=zh hb0;have Jh:=zh hB;have F5:=zh hbl;have hblt:=hbl.lt;obtain ⟨L,hL⟩:∃L,Ae s (n+1) (tn:Int) v=L:=⟨_,rfl⟩;rw[hL] at hsz Gc;simp only[hL];have Ee:=zh hsz
 have HU:Hid (Below w0.heap.size w0 ((w.alloc (.cells #[.slice A s.length c] 31)).alloc (v.box A1 c1 A2 c2 A3 c3))):=(hb0.trans (Bw.out.mono hB)).mono hg;obtain ⟨bq,oq,As,cs,Am,cm,hA,htr,t0,t1,t2,t3,t4,t5,t6,t7,t8,t9⟩:=hs.JX htn;clear hL hf ih hs hr htb hg hb0 hB hbl hsz _hv hn i0 i1;subst hA;generalize s[tn]=x at *;have Hz:=zh htr;have Fe:=zh i3;have jM:=zh (i2.trans e);have HK:=zh e
 clear htr i3 i2 e;replace t0:=zA HU t0;replace t1:=zA HU t1;replace t2:=zA HU t2;replace t3:=zA HU t3;replace t4:=zA HU t4;replace t5:=zA HU t5;replace t6:=zA HU t6;replace t7:=zA HU t7;replace t8:=zA HU t8;replace t9:=zA HU t9;have h1:(0:Int)<=(tn:Int):=by omega
 have h2:(tn:Int)<(s.length:Int):=by omega
 go_enter Tryz.func44,Tryz.ntmps44
 go_upto_region 1 with fail
 have hsz2:Hid (((w.alloc (.cells #[.slice (some ⟨bq,oq,none⟩) s.length c] 31)).alloc (v.box A1 c1 A2 c2 A3 c3)).heap.size=w.heap.size+2):=by show _=_;simp
 generalize (w.alloc (.cells #[.slice (some ⟨bq,oq,none⟩) s.length c] 31)).alloc (v.box A1 c1 A2 c2 A3 c3)=W2 at *;have x0:=zb H5;go_upto_region 2 with fail
 clear t0 t1 t2 t3 t4 t5 t6 t7 t8 t9 x0;have BS:=zh (zD W2 (x.box As cs Am cm));have ST:Hid (EA s (some ⟨bq,oq,none⟩) c x As cs Am cm v A1 c1 A2 c2 A3 c3 B b w.heap.size (w.heap.size+1) W2.heap.size w (W2.alloc (x.box As cs Am cm)) (T)):=by
  have hz:=hsz2.out;have hge:=Jh.out;exact ⟨(F5.out.below Bw).below BS,(Bw.out.mono Jh.out).trans (BS.out.mono (by omega)),Cb (yD Bw) (yD BS),by omega,by omega,by omega,zE H5 BS,zE H7 BS,AAL W2 _,by have:=Jh.out;have:=BS.out.size;omega⟩
 generalize W2.alloc (x.box As cs Am cm)=W3 at *;generalize W2.heap.size=p8 at *;clear hsz2 hblt Bw H5 H7 F5 HU BS h1 h2;have q1:=zk1 HK;obtain ⟨v0,v1,v2,v3,v4,v5,v6,v7⟩:=zF ST.out.h7;obtain ⟨b0,b1,b2,b3,b4,b5,b6,b7,b8,b9⟩:=zG ST.out.h8;have x0:=ST.out.c5;have Sk:=zh (Gc.out.trans (ABC HK));have hbt:=SS v.bool W3
 obtain ⟨X,hX⟩:∃X,(if v.bool then (⟨#[116,114,117,101]⟩:ByteArray) else ⟨#[102,97,108,115,101]⟩)=X:=⟨_,rfl⟩
 rw[hX] at hbt;have HL:Hid (L=X):=Sk.out.trans hX;have HBT:=zh hbt;have HZ:Hid (T.size+X.size<=140737488355328):=by have:=Ee.out;rw[HL.out] at this;exact this
 clear hbt hX Sk;go_wp2_with fail;refine HBT.out.mono ?_;rintro e' w4 ⟨rfl,rfl⟩;go_wp2_with fail;refine (ST.out.FD.write _ (HZ.out) ST.out.ge).mono ?_;rintro e' w5 ⟨rfl,g1,g2,g3⟩;have EN:=zh (ST.out.step g1 g2 g3);clear g1 g2 g3;go_wp2;refine bodyPost_end (results_none Tryz.results44 _ _ _) rfl ⟨rfl,by rw[HL.out];exact EN.out.FD,EN.out.fr,EN.out.ot⟩
theorem bP (_hv:zQ s=0) (hn:DI s) (ih:WriteAt s A c n):IW s A c n 2:=by
 intro t v A1 c1 A2 c2 A3 c3 w0 w B b T e hf hs hr htb hg hb0 hB hbl hsz
 obtain ⟨i0,i1,i2,i3⟩:=Bt hf;obtain ⟨tn,rfl⟩:=AAY i0;have htn:tn<s.length:=by omega
 have hln:=hs.1.lt (by omega)
 rw[zT htn] at i2 i3 e;have Gc:Hid (Ae s (n+1) (tn:Int) v=Bd (Ae s n) s[tn] v):=by show _=_;rw[Ae,zT htn]
 have oL:=zh (hn _ (AAU htn));obtain ⟨Bw,H5,H7⟩:=zy w (.cells #[.slice A s.length c] 31) (v.box A1 c1 A2 c2 A3 c3);have EI:=zh ih;have HS:=zh hs;have HR:=zh hr;have KJ:=zh htb;have HG:=zh hg;have HB0:=zh hb0;have Jh:=zh hB;have F5:=zh hbl;have hblt:=hbl.lt;obtain ⟨L,hL⟩:∃L,Ae s (n+1) (tn:Int) v=L:=⟨_,rfl⟩;rw[hL] at hsz Gc;simp only[hL];have Ee:=zh hsz
 have HU:Hid (Below w0.heap.size w0 ((w.alloc (.cells #[.slice A s.length c] 31)).alloc (v.box A1 c1 A2 c2 A3 c3))):=(hb0.trans (Bw.out.mono hB)).mono hg;obtain ⟨bq,oq,As,cs,Am,cm,hA,htr,t0,t1,t2,t3,t4,t5,t6,t7,t8,t9⟩:=hs.JX htn;clear hL hf ih hs hr htb hg hb0 hB hbl hsz _hv hn i0 i1;subst hA;generalize s[tn]=x at *;have Hz:=zh htr;have Fe:=zh i3;have jM:=zh (i2.trans e);have HK:=zh e
 clear htr i3 i2 e;replace t0:=zA HU t0;replace t1:=zA HU t1;replace t2:=zA HU t2;replace t3:=zA HU t3;replace t4:=zA HU t4;replace t5:=zA HU t5;replace t6:=zA HU t6;replace t7:=zA HU t7;replace t8:=zA HU t8;replace t9:=zA HU t9;have h1:(0:Int)<=(tn:Int):=by omega
 have h2:(tn:Int)<(s.length:Int):=by omega
 go_enter Tryz.func44,Tryz.ntmps44
 go_upto_region 1 with fail
 have hsz2:Hid (((w.alloc (.cells #[.slice (some ⟨bq,oq,none⟩) s.length c] 31)).alloc (v.box A1 c1 A2 c2 A3 c3)).heap.size=w.heap.size+2):=by show _=_;simp
 generalize (w.alloc (.cells #[.slice (some ⟨bq,oq,none⟩) s.length c] 31)).alloc (v.box A1 c1 A2 c2 A3 c3)=W2 at *;have x0:=zb H5;go_upto_region 2 with fail
 clear t0 t1 t2 t3 t4 t5 t6 t7 t8 t9 x0;have BS:=zh (zD W2 (x.box As cs Am cm));have ST:Hid (EA s (some ⟨bq,oq,none⟩) c x As cs Am cm v A1 c1 A2 c2 A3 c3 B b w.heap.size (w.heap.size+1) W2.heap.size w (W2.alloc (x.box As cs Am cm)) (T)):=by
  have hz:=hsz2.out;have hge:=Jh.out;exact ⟨(F5.out.below Bw).below BS,(Bw.out.mono Jh.out).trans (BS.out.mono (by omega)),Cb (yD Bw) (yD BS),by omega,by omega,by omega,zE H5 BS,zE H7 BS,AAL W2 _,by have:=Jh.out;have:=BS.out.size;omega⟩
 generalize W2.alloc (x.box As cs Am cm)=W3 at *;generalize W2.heap.size=p8 at *;clear hsz2 hblt Bw H5 H7 F5 HU BS h1 h2;obtain ⟨q1,q2⟩:=zk2 HK;obtain ⟨v0,v1,v2,v3,v4,v5,v6,v7⟩:=zF ST.out.h7;obtain ⟨b0,b1,b2,b3,b4,b5,b6,b7,b8,b9⟩:=zG ST.out.h8;have x0:=ST.out.c5;have HL:=zh (Gc.out.trans (ABB HK))
 have HI:Hid (In64 v.int):=by have:=xH HK Fe;have:=oL.out;unfold In64 at *;show _/\_;omega
 have HZ:Hid (T.size+(CX v.int).size<=140737488355328):=by have:=Ee.out;rw[HL.out] at this;exact this
 go_wp2_with fail
 refine (nV v.int HI _ (KJ.out.below (ST.out.up HB0 HG))).mono ?_;rintro e' w4 ⟨rfl,hb4⟩;have K7:=zh (ST.out.below hb4);clear hb4;clear v0 v1 v2 v3 v4 v5 v6 v7 b0 b1 b2 b3 b4 b5 b6 b7 b8 b9 x0;go_wp2_with fail;refine (K7.out.FD.write _ (HZ.out) K7.out.ge).mono ?_;rintro e' w5 ⟨rfl,g1,g2,g3⟩;have EN:=zh (K7.out.step g1 g2 g3);clear g1 g2 g3;go_wp2
 refine bodyPost_end (results_none Tryz.results44 _ _ _) rfl ⟨rfl,by rw[HL.out];exact EN.out.FD,EN.out.fr,EN.out.ot⟩
theorem bO (_hv:zQ s=0) (hn:DI s) (ih:WriteAt s A c n):IW s A c n 3:=by
 intro t v A1 c1 A2 c2 A3 c3 w0 w B b T e hf hs hr htb hg hb0 hB hbl hsz
 obtain ⟨i0,i1,i2,i3⟩:=Bt hf;obtain ⟨tn,rfl⟩:=AAY i0;have htn:tn<s.length:=by omega
 have hln:=hs.1.lt (by omega)
 rw[zT htn] at i2 i3 e;have Gc:Hid (Ae s (n+1) (tn:Int) v=Bd (Ae s n) s[tn] v):=by show _=_;rw[Ae,zT htn]
 have oL:=zh (hn _ (AAU htn));obtain ⟨Bw,H5,H7⟩:=zy w (.cells #[.slice A s.length c] 31) (v.box A1 c1 A2 c2 A3 c3);have EI:=zh ih;have HS:=zh hs;have HR:=zh hr;have KJ:=zh htb;have HG:=zh hg;have HB0:=zh hb0;have Jh:=zh hB;have F5:=zh hbl;have hblt:=hbl.lt;obtain ⟨L,hL⟩:∃L,Ae s (n+1) (tn:Int) v=L:=⟨_,rfl⟩;rw[hL] at hsz Gc;simp only[hL];have Ee:=zh hsz
 have HU:Hid (Below w0.heap.size w0 ((w.alloc (.cells #[.slice A s.length c] 31)).alloc (v.box A1 c1 A2 c2 A3 c3))):=(hb0.trans (Bw.out.mono hB)).mono hg;obtain ⟨bq,oq,As,cs,Am,cm,hA,htr,t0,t1,t2,t3,t4,t5,t6,t7,t8,t9⟩:=hs.JX htn;clear hL hf ih hs hr htb hg hb0 hB hbl hsz _hv hn i0 i1;subst hA;generalize s[tn]=x at *;have Hz:=zh htr;have Fe:=zh i3;have jM:=zh (i2.trans e);have HK:=zh e
 clear htr i3 i2 e;replace t0:=zA HU t0;replace t1:=zA HU t1;replace t2:=zA HU t2;replace t3:=zA HU t3;replace t4:=zA HU t4;replace t5:=zA HU t5;replace t6:=zA HU t6;replace t7:=zA HU t7;replace t8:=zA HU t8;replace t9:=zA HU t9;have h1:(0:Int)<=(tn:Int):=by omega
 have h2:(tn:Int)<(s.length:Int):=by omega
 go_enter Tryz.func44,Tryz.ntmps44
 go_upto_region 1 with fail
 have hsz2:Hid (((w.alloc (.cells #[.slice (some ⟨bq,oq,none⟩) s.length c] 31)).alloc (v.box A1 c1 A2 c2 A3 c3)).heap.size=w.heap.size+2):=by show _=_;simp
 generalize (w.alloc (.cells #[.slice (some ⟨bq,oq,none⟩) s.length c] 31)).alloc (v.box A1 c1 A2 c2 A3 c3)=W2 at *;have x0:=zb H5;go_upto_region 2 with fail
 clear t0 t1 t2 t3 t4 t5 t6 t7 t8 t9 x0;have BS:=zh (zD W2 (x.box As cs Am cm));have ST:Hid (EA s (some ⟨bq,oq,none⟩) c x As cs Am cm v A1 c1 A2 c2 A3 c3 B b w.heap.size (w.heap.size+1) W2.heap.size w (W2.alloc (x.box As cs Am cm)) (T)):=by
  have hz:=hsz2.out;have hge:=Jh.out;exact ⟨(F5.out.below Bw).below BS,(Bw.out.mono Jh.out).trans (BS.out.mono (by omega)),Cb (yD Bw) (yD BS),by omega,by omega,by omega,zE H5 BS,zE H7 BS,AAL W2 _,by have:=Jh.out;have:=BS.out.size;omega⟩
 generalize W2.alloc (x.box As cs Am cm)=W3 at *;generalize W2.heap.size=p8 at *;clear hsz2 hblt Bw H5 H7 F5 HU BS h1 h2;obtain ⟨q1,q2,q3⟩:=zk3 HK;obtain ⟨v0,v1,v2,v3,v4,v5,v6,v7⟩:=zF ST.out.h7;obtain ⟨b0,b1,b2,b3,b4,b5,b6,b7,b8,b9⟩:=zG ST.out.h8;have x0:=ST.out.c5;have HL:=zh (Gc.out.trans (ABA HK))
 have HZ:Hid (T.size+(LG v.str).size<=140737488355328):=by have:=Ee.out;rw[HL.out] at this;exact this
 go_wp2_with fail
 refine (Ml v.str (by have:=HZ.out;omega) _).mono ?_
 rintro e' w4 ⟨rfl,hb4⟩;have K7:=zh (ST.out.below hb4);clear hb4;clear v0 v1 v2 v3 v4 v5 v6 v7 b0 b1 b2 b3 b4 b5 b6 b7 b8 b9 x0;go_wp2_with fail;refine (K7.out.FD.write _ (HZ.out) K7.out.ge).mono ?_;rintro e' w5 ⟨rfl,g1,g2,g3⟩;have EN:=zh (K7.out.step g1 g2 g3);clear g1 g2 g3;go_wp2
 refine bodyPost_end (results_none Tryz.results44 _ _ _) rfl ⟨rfl,by rw[HL.out];exact EN.out.FD,EN.out.fr,EN.out.ot⟩
theorem bN (_hv:zQ s=0) (hn:DI s) (ih:WriteAt s A c n):IW s A c n 4:=by
 intro t v A1 c1 A2 c2 A3 c3 w0 w B b T e hf hs hr htb hg hb0 hB hbl hsz
 obtain ⟨i0,i1,i2,i3⟩:=Bt hf;obtain ⟨tn,rfl⟩:=AAY i0;have htn:tn<s.length:=by omega
 have hln:=hs.1.lt (by omega)
 rw[zT htn] at i2 i3 e;have Gc:Hid (Ae s (n+1) (tn:Int) v=Bd (Ae s n) s[tn] v):=by show _=_;rw[Ae,zT htn]
 have oL:=zh (hn _ (AAU htn));obtain ⟨Bw,H5,H7⟩:=zy w (.cells #[.slice A s.length c] 31) (v.box A1 c1 A2 c2 A3 c3);have EI:=zh ih;have HS:=zh hs;have HR:=zh hr;have KJ:=zh htb;have HG:=zh hg;have HB0:=zh hb0;have Jh:=zh hB;have F5:=zh hbl;have hblt:=hbl.lt;obtain ⟨L,hL⟩:∃L,Ae s (n+1) (tn:Int) v=L:=⟨_,rfl⟩;rw[hL] at hsz Gc;simp only[hL];have Ee:=zh hsz
 have HU:Hid (Below w0.heap.size w0 ((w.alloc (.cells #[.slice A s.length c] 31)).alloc (v.box A1 c1 A2 c2 A3 c3))):=(hb0.trans (Bw.out.mono hB)).mono hg;obtain ⟨bq,oq,As,cs,Am,cm,hA,htr,t0,t1,t2,t3,t4,t5,t6,t7,t8,t9⟩:=hs.JX htn;clear hL hf ih hs hr htb hg hb0 hB hbl hsz _hv hn i0 i1;subst hA;generalize s[tn]=x at *;have Hz:=zh htr;have Fe:=zh i3;have jM:=zh (i2.trans e);have HK:=zh e
 clear htr i3 i2 e;replace t0:=zA HU t0;replace t1:=zA HU t1;replace t2:=zA HU t2;replace t3:=zA HU t3;replace t4:=zA HU t4;replace t5:=zA HU t5;replace t6:=zA HU t6;replace t7:=zA HU t7;replace t8:=zA HU t8;replace t9:=zA HU t9;have h1:(0:Int)<=(tn:Int):=by omega
 have h2:(tn:Int)<(s.length:Int):=by omega
 go_enter Tryz.func44,Tryz.ntmps44
 go_upto_region 1 with fail
 have hsz2:Hid (((w.alloc (.cells #[.slice (some ⟨bq,oq,none⟩) s.length c] 31)).alloc (v.box A1 c1 A2 c2 A3 c3)).heap.size=w.heap.size+2):=by show _=_;simp
 generalize (w.alloc (.cells #[.slice (some ⟨bq,oq,none⟩) s.length c] 31)).alloc (v.box A1 c1 A2 c2 A3 c3)=W2 at *;have x0:=zb H5;go_upto_region 2 with fail
 clear t0 t1 t2 t3 t4 t5 t6 t7 t8 t9 x0;have BS:=zh (zD W2 (x.box As cs Am cm));have ST:Hid (EA s (some ⟨bq,oq,none⟩) c x As cs Am cm v A1 c1 A2 c2 A3 c3 B b w.heap.size (w.heap.size+1) W2.heap.size w (W2.alloc (x.box As cs Am cm)) (T)):=by
  have hz:=hsz2.out;have hge:=Jh.out;exact ⟨(F5.out.below Bw).below BS,(Bw.out.mono Jh.out).trans (BS.out.mono (by omega)),Cb (yD Bw) (yD BS),by omega,by omega,by omega,zE H5 BS,zE H7 BS,AAL W2 _,by have:=Jh.out;have:=BS.out.size;omega⟩
 generalize W2.alloc (x.box As cs Am cm)=W3 at *;generalize W2.heap.size=p8 at *;clear hsz2 hblt Bw H5 H7 F5 HU BS h1 h2;obtain ⟨q1,q2,q3,q4⟩:=zk4 HK;obtain ⟨v0,v1,v2,v3,v4,v5,v6,v7⟩:=zF ST.out.h7;obtain ⟨b0,b1,b2,b3,b4,b5,b6,b7,b8,b9⟩:=zG ST.out.h8;have x0:=ST.out.c5;have Sk:=zh (Gc.out.trans (AA9 HK));have HF:=zh (ABa HK Fe)
 obtain ⟨an,han⟩:∃an,(x.AV.any fun y=>decide (y.id=v.id))=an:=⟨_,rfl⟩
 have hcall:=Vl v.id x As cs Am cm W3 (Hz.out.below (ST.out.up HB0 HG));rw[han] at hcall;have NT:=zh hcall;have RO:=zh han;clear hcall han;go_wp2_with fail;refine NT.out.mono ?_;rintro e' w4 ⟨r,rfl,hr4,hb4⟩;have HR4:=zh hr4;have K7:=zh (ST.out.below hb4);clear hb4 hr4 NT;clear v0 v1 v2 v3 v4 v5 v6 v7 b0 b1 b2 b3 b4 b5 b6 b7 b8 b9 x0
 obtain ⟨v0,v1,v2,v3,v4,v5,v6,v7⟩:=zF K7.out.h7;obtain ⟨b0,b1,b2,b3,b4,b5,b6,b7,b8,b9⟩:=zG K7.out.h8;have x0:=K7.out.c5
 cases an with
 | true =>
  obtain ⟨k,hk,e1,e2⟩:=JS x.AV RO;have HL:Hid (L=(x.AV[k]).name):=by show _=_;rw[Sk.out,e2]
  obtain rfl:r=(k:Int):=(HR4.out rfl).trans e1;have HZ:Hid (T.size+(x.AV[k]).name.size<=140737488355328):=by have:=Ee.out;rw[HL.out] at this;exact this
  obtain ⟨sb,so,hAs,_,a0,a1⟩:=Hz.out.AV.at2 hk;replace a1:=zA (K7.out.up HB0 HG) a1;subst hAs;have j1:(0:Int)<=(k:Int):=by omega
  have j2:(k:Int)<(x.AV.length:Int):=by omega
  clear e1 e2 a0;go_wp2_with fail;refine (K7.out.FD.write _ (HZ.out) K7.out.ge).mono ?_;rintro e' w5 ⟨rfl,g1,g2,g3⟩;have EN:=zh (K7.out.step g1 g2 g3);clear g1 g2 g3;go_wp2;refine bodyPost_ret (results_none Tryz.results44 _ _ _) rfl ⟨rfl,by rw[HL.out];exact EN.out.FD,EN.out.fr,EN.out.ot⟩
 | false =>
  have HL:Hid (L=⟨#[64]⟩++CX v.id):=by show _=_;rw[Sk.out,OV x.AV RO.out]
  have Oa:Hid (BA v.id=true):=by
   rcases HF.out with h|h
   ·rw[RO.out] at h;cases h
   ·exact h.2
  have HZ:Hid (T.size+((⟨#[64]⟩:ByteArray)++CX v.id).size<=140737488355328):=by have:=Ee.out;rw[HL.out] at this;exact this
  have n1:¬ 9223372036854775807<(⟨#[64]⟩:ByteArray).size+(CX v.id).size:=by have:=SI (OU Oa);show ¬ _<1+_;omega
  have n2:¬ 9223372036854775807<1+(CX v.id).size:=n1;go_wp2_with fail;refine (Ls v.id (OU Oa) _ (KJ.out.below (K7.out.up HB0 HG))).mono ?_;rintro e' w5 ⟨rfl,hb5⟩;have EN:=zh (K7.out.below hb5);clear hb5;clear v0 v1 v2 v3 v4 v5 v6 v7 b0 b1 b2 b3 b4 b5 b6 b7 b8 b9 x0;go_wp2_with fail;refine (EN.out.FD.write _ (HZ.out) EN.out.ge).mono ?_;rintro e' w6 ⟨rfl,g1,g2,g3⟩
  have GZ:=zh (EN.out.step g1 g2 g3);clear g1 g2 g3;go_wp2;refine bodyPost_end (results_none Tryz.results44 _ _ _) rfl ⟨rfl,by rw[HL.out];exact GZ.out.FD,GZ.out.fr,GZ.out.ot⟩
theorem bI (_hv:zQ s=0) (hn:DI s) (ih:WriteAt s A c n):IW s A c n 9:=by
 intro t v A1 c1 A2 c2 A3 c3 w0 w B b T e hf hs hr htb hg hb0 hB hbl hsz
 obtain ⟨i0,i1,i2,i3⟩:=Bt hf;obtain ⟨tn,rfl⟩:=AAY i0;have htn:tn<s.length:=by omega
 have hln:=hs.1.lt (by omega)
 rw[zT htn] at i2 i3 e;have Gc:Hid (Ae s (n+1) (tn:Int) v=Bd (Ae s n) s[tn] v):=by show _=_;rw[Ae,zT htn]
 have oL:=zh (hn _ (AAU htn));obtain ⟨Bw,H5,H7⟩:=zy w (.cells #[.slice A s.length c] 31) (v.box A1 c1 A2 c2 A3 c3);have EI:=zh ih;have HS:=zh hs;have HR:=zh hr;have KJ:=zh htb;have HG:=zh hg;have HB0:=zh hb0;have Jh:=zh hB;have F5:=zh hbl;have hblt:=hbl.lt;obtain ⟨L,hL⟩:∃L,Ae s (n+1) (tn:Int) v=L:=⟨_,rfl⟩;rw[hL] at hsz Gc;simp only[hL];have Ee:=zh hsz
 have HU:Hid (Below w0.heap.size w0 ((w.alloc (.cells #[.slice A s.length c] 31)).alloc (v.box A1 c1 A2 c2 A3 c3))):=(hb0.trans (Bw.out.mono hB)).mono hg;obtain ⟨bq,oq,As,cs,Am,cm,hA,htr,t0,t1,t2,t3,t4,t5,t6,t7,t8,t9⟩:=hs.JX htn;clear hL hf ih hs hr htb hg hb0 hB hbl hsz _hv hn i0 i1;subst hA;generalize s[tn]=x at *;have Hz:=zh htr;have Fe:=zh i3;have jM:=zh (i2.trans e);have HK:=zh e
 clear htr i3 i2 e;replace t0:=zA HU t0;replace t1:=zA HU t1;replace t2:=zA HU t2;replace t3:=zA HU t3;replace t4:=zA HU t4;replace t5:=zA HU t5;replace t6:=zA HU t6;replace t7:=zA HU t7;replace t8:=zA HU t8;replace t9:=zA HU t9;have h1:(0:Int)<=(tn:Int):=by omega
 have h2:(tn:Int)<(s.length:Int):=by omega
 go_enter Tryz.func44,Tryz.ntmps44
 go_upto_region 1 with fail
 have hsz2:Hid (((w.alloc (.cells #[.slice (some ⟨bq,oq,none⟩) s.length c] 31)).alloc (v.box A1 c1 A2 c2 A3 c3)).heap.size=w.heap.size+2):=by show _=_;simp
 generalize (w.alloc (.cells #[.slice (some ⟨bq,oq,none⟩) s.length c] 31)).alloc (v.box A1 c1 A2 c2 A3 c3)=W2 at *;have x0:=zb H5;go_upto_region 2 with fail
 clear t0 t1 t2 t3 t4 t5 t6 t7 t8 t9 x0;have BS:=zh (zD W2 (x.box As cs Am cm));have ST:Hid (EA s (some ⟨bq,oq,none⟩) c x As cs Am cm v A1 c1 A2 c2 A3 c3 B b w.heap.size (w.heap.size+1) W2.heap.size w (W2.alloc (x.box As cs Am cm)) (T)):=by
  have hz:=hsz2.out;have hge:=Jh.out;exact ⟨(F5.out.below Bw).below BS,(Bw.out.mono Jh.out).trans (BS.out.mono (by omega)),Cb (yD Bw) (yD BS),by omega,by omega,by omega,zE H5 BS,zE H7 BS,AAL W2 _,by have:=Jh.out;have:=BS.out.size;omega⟩
 generalize W2.alloc (x.box As cs Am cm)=W3 at *;generalize W2.heap.size=p8 at *;clear hsz2 hblt Bw H5 H7 F5 HU BS h1 h2;have q1:(x.kind==1)=false:=by simp[HK.out]
 have q2:(x.kind==2)=false:=by simp[HK.out]
 have q3:(x.kind==3)=false:=by simp[HK.out]
 have q4:(x.kind==4)=false:=by simp[HK.out]
 have q5:(x.kind==5)=false:=by simp[HK.out]
 have q6:(x.kind==6)=false:=by simp[HK.out]
 have q7:(x.kind==7)=false:=by simp[HK.out]
 have q8:(x.kind==8)=false:=by simp[HK.out]
 have q9:(x.kind==9)=true:=by simp[HK.out]
 obtain ⟨v0,v1,v2,v3,v4,v5,v6,v7⟩:=zF ST.out.h7;obtain ⟨b0,b1,b2,b3,b4,b5,b6,b7,b8,b9⟩:=zG ST.out.h8;have x0:=ST.out.c5;have Sk:=zh (Gc.out.trans (wL HK));have HF:=zh (xC HK Fe)
 by_cases hi:v.items=[]
 ·have HL:Hid (L=⟨#[110,111,110,101]⟩):=by show _=_;rw[Sk.out,hi]
  have HZ:Hid (T.size+(⟨#[110,111,110,101]⟩:ByteArray).size<=140737488355328):=by have:=Ee.out;rw[HL.out] at this;exact this
  have z1:((v.items.length:Int)==0)=true:=by rw[hi];rfl
  clear hi;go_wp2_with fail;refine (ST.out.FD.write _ (HZ.out) ST.out.ge).mono ?_;rintro e' w5 ⟨rfl,g1,g2,g3⟩;have EN:=zh (ST.out.step g1 g2 g3);clear g1 g2 g3;go_wp2;refine bodyPost_ret (results_none Tryz.results44 _ _ _) rfl ⟨rfl,by rw[HL.out];exact EN.out.FD,EN.out.fr,EN.out.ot⟩
 ·have hlt:0<v.items.length:=List.length_pos_iff.2 hi
  obtain ⟨ib,io,E1,e1,E2,e2,E3,e3,hI,hir,a0,a1,a2,a3,a4,a5,a6,a7⟩:=HR.out.items.at8 hlt;have og:=zh hir;have HA:=zh (And.intro a0 (And.intro a1 (And.intro a2 (And.intro a3 (And.intro a4 (And.intro a5 (And.intro a6 a7)))))));clear hir a0 a1 a2 a3 a4 a5 a6 a7;have hmem:=HF.out.2 _ (AAU hlt)
  have HL:Hid (L=⟨#[115,111,109,101,40]⟩++Ae s n x.elem v.items[0]++⟨#[41]⟩):=Gc.out.trans (ZV HK hlt);have HZ:Hid (T.size+(5+(Ae s n x.elem v.items[0]).size+1)<=140737488355328):=by have:=Ee.out;rw[HL.out,zH,zH] at this;exact this
  have z1:((v.items.length:Int)==0)=false:=by simp[hi]
  generalize v.items[0]=y at *;have Yf:=zh hmem;clear hmem hi;subst hI;have h2:(0:Int)<(v.items.length:Int):=by omega
  go_wp2_with fail
  refine (ST.out.FD.write _ ?_ ST.out.ge).mono ?_
  ·have:=HZ.out;show _+5<=_;omega
  rintro e' w5 ⟨rfl,g1,g2,g3⟩;have EN:=zh (ST.out.step g1 g2 g3);clear g1 g2 g3;clear v0 v1 v2 v3 v4 v5 v6 v7 b0 b1 b2 b3 b4 b5 b6 b7 b8 b9 x0
  have Ip:Hid (∀w' T',EA s (some ⟨bq,oq,none⟩) c x As cs Am cm v A1 c1 (some ⟨ib,io,none⟩) c2 A3 c3 B b w.heap.size (w.heap.size+1) p8 w w' (T')->(w'.cell? ⟨w.heap.size,0,none⟩=some (.slice (some ⟨bq,oq,none⟩) s.length c)/\w'.cell? ⟨p8,8,none⟩=some (.int .i64 x.elem)/\w'.cell? ⟨w.heap.size+1,6,none⟩=some (.slice (some ⟨ib,io,none⟩) v.items.length c2)/\w'.cell? ⟨ib,io,none⟩=some (.int .i64 y.kind)/\w'.cell? ⟨ib,io+1,none⟩=some (.bool y.bool)/\w'.cell? ⟨ib,io+2,none⟩=some (.int .i64 y.int)/\w'.cell? ⟨ib,io+3,none⟩=some (.string y.str)/\w'.cell? ⟨ib,io+4,none⟩=some (.int .i64 y.id)/\w'.cell? ⟨ib,io+5,none⟩=some (.slice E1 y.keys.length e1)/\w'.cell? ⟨ib,io+6,none⟩=some (.slice E2 y.items.length e2)/\w'.cell? ⟨ib,io+7,none⟩=some (.slice E3 y.rest.length e3))):=fun w' T' st=>by
   obtain ⟨v0,v1,v2,v3,v4,v5,v6,v7⟩:=zF st.h7;obtain ⟨b0,b1,b2,b3,b4,b5,b6,b7,b8,b9⟩:=zG st.h8;have u:=st.up HB0 HG;obtain ⟨a0,a1,a2,a3,a4,a5,a6,a7⟩:=HA.out;exact ⟨st.c5,b8,v6,zA u (by simpa using a0),zA u (by simpa using a1),zA u (by simpa using a2),zA u (by simpa using a3),zA u (by simpa using a4),zA u (by simpa using a5),zA u (by simpa using a6),zA u (by simpa using a7)⟩
  go_upto_region 63 with fail
  refine wp_region_held_drew (S:=(fun w'=>(w'.cell? ⟨w.heap.size,0,none⟩=some (.slice (some ⟨bq,oq,none⟩) s.length c)/\w'.cell? ⟨p8,8,none⟩=some (.int .i64 x.elem)/\w'.cell? ⟨w.heap.size+1,6,none⟩=some (.slice (some ⟨ib,io,none⟩) v.items.length c2)/\w'.cell? ⟨ib,io,none⟩=some (.int .i64 y.kind)/\w'.cell? ⟨ib,io+1,none⟩=some (.bool y.bool)/\w'.cell? ⟨ib,io+2,none⟩=some (.int .i64 y.int)/\w'.cell? ⟨ib,io+3,none⟩=some (.string y.str)/\w'.cell? ⟨ib,io+4,none⟩=some (.int .i64 y.id)/\w'.cell? ⟨ib,io+5,none⟩=some (.slice E1 y.keys.length e1)/\w'.cell? ⟨ib,io+6,none⟩=some (.slice E2 y.items.length e2)/\w'.cell? ⟨ib,io+7,none⟩=some (.slice E3 y.rest.length e3))/\Hid (Below B w0 w))) (by kernel_rfl) ?_ (fun AQ=>?_)
  ·(try dsimp only);exact ⟨Ip.out _ _ (EN.out.below (zC (Pe _ _) 1)),HB0.out⟩
  refine tL 0 ?_;refine tL 1 ?_;refine tL 2 ?_;refine tL 3 ?_;refine tL 4 ?_;refine tL 5 ?_;try simp only[ps]
  refine tL 6 ?_;refine tL 7 ?_;refine tR 8 (fun K hK=>?_)
  go_simp
  (refine (EI.out x.elem y E1 e1 E2 e2 E3 e3 w0 _ B b _ Yf HS og KJ HG (HB0.out.trans (EN.out.below (zC (Pe _ _) 1)).fr) (EN.out.below (zC (Pe _ _) 1)).ge (EN.out.below (zC (Pe _ _) 1)).FD (by have:=HZ.out;rw[zH];show _+5+_<=_;omega)).mono ?_;rintro e' w6 ⟨rfl,g1,g2,g3⟩;have GZ:=zh ((EN.out.below (zC (Pe _ _) 1)).step g1 g2 g3);clear g1 g2 g3)
  refine hK.out _ _ ?_ (fun AQ=>?_)
  ·(try dsimp only);exact ⟨Ip.out _ _ GZ.out,HB0.out⟩
  clear hK K;refine wpAnyH_done (by kernel_rfl) ?_ _
  clear AQ;go_wp2_with fail;refine (GZ.out.FD.byte 41 (by have:=HZ.out;rw[zH,zH];show _+5+_+1<=_;omega) GZ.out.ge).mono ?_
  rintro e' w7 ⟨rfl,g1,g2,g3⟩;have Nq:=zh (GZ.out.step g1 g2 g3);clear g1 g2 g3;go_wp2;refine bodyPost_end (results_none Tryz.results44 _ _ _) rfl ⟨rfl,by rw[HL.out];(have h:=Nq.out.FD;simp only[AAk] at h ⊢;exact h),Nq.out.fr,Nq.out.ot⟩
theorem bL (_hv:zQ s=0) (hn:DI s) (ih:WriteAt s A c n):IW s A c n 6:=by
 intro t v A1 c1 A2 c2 A3 c3 w0 w B b T e hf hs hr htb hg hb0 hB hbl hsz
 obtain ⟨i0,i1,i2,i3⟩:=Bt hf;obtain ⟨tn,rfl⟩:=AAY i0;have htn:tn<s.length:=by omega
 have hln:=hs.1.lt (by omega)
 rw[zT htn] at i2 i3 e;have Gc:Hid (Ae s (n+1) (tn:Int) v=Bd (Ae s n) s[tn] v):=by show _=_;rw[Ae,zT htn]
 have oL:=zh (hn _ (AAU htn));obtain ⟨Bw,H5,H7⟩:=zy w (.cells #[.slice A s.length c] 31) (v.box A1 c1 A2 c2 A3 c3);have EI:=zh ih;have HS:=zh hs;have HR:=zh hr;have KJ:=zh htb;have HG:=zh hg;have HB0:=zh hb0;have Jh:=zh hB;have F5:=zh hbl;have hblt:=hbl.lt;obtain ⟨L,hL⟩:∃L,Ae s (n+1) (tn:Int) v=L:=⟨_,rfl⟩;rw[hL] at hsz Gc;simp only[hL];have Ee:=zh hsz
 have HU:Hid (Below w0.heap.size w0 ((w.alloc (.cells #[.slice A s.length c] 31)).alloc (v.box A1 c1 A2 c2 A3 c3))):=(hb0.trans (Bw.out.mono hB)).mono hg;obtain ⟨bq,oq,As,cs,Am,cm,hA,htr,t0,t1,t2,t3,t4,t5,t6,t7,t8,t9⟩:=hs.JX htn;clear hL hf ih hs hr htb hg hb0 hB hbl hsz _hv hn i0 i1;subst hA;generalize s[tn]=x at *;have Hz:=zh htr;have Fe:=zh i3;have jM:=zh (i2.trans e);have HK:=zh e
 clear htr i3 i2 e;replace t0:=zA HU t0;replace t1:=zA HU t1;replace t2:=zA HU t2;replace t3:=zA HU t3;replace t4:=zA HU t4;replace t5:=zA HU t5;replace t6:=zA HU t6;replace t7:=zA HU t7;replace t8:=zA HU t8;replace t9:=zA HU t9;have h1:(0:Int)<=(tn:Int):=by omega
 have h2:(tn:Int)<(s.length:Int):=by omega
 go_enter Tryz.func44,Tryz.ntmps44
 go_upto_region 1 with fail
 have hsz2:Hid (((w.alloc (.cells #[.slice (some ⟨bq,oq,none⟩) s.length c] 31)).alloc (v.box A1 c1 A2 c2 A3 c3)).heap.size=w.heap.size+2):=by show _=_;simp
 generalize (w.alloc (.cells #[.slice (some ⟨bq,oq,none⟩) s.length c] 31)).alloc (v.box A1 c1 A2 c2 A3 c3)=W2 at *;have x0:=zb H5;go_upto_region 2 with fail
 clear t0 t1 t2 t3 t4 t5 t6 t7 t8 t9 x0;have BS:=zh (zD W2 (x.box As cs Am cm));have ST:Hid (EA s (some ⟨bq,oq,none⟩) c x As cs Am cm v A1 c1 A2 c2 A3 c3 B b w.heap.size (w.heap.size+1) W2.heap.size w (W2.alloc (x.box As cs Am cm)) (T)):=by
  have hz:=hsz2.out;have hge:=Jh.out;exact ⟨(F5.out.below Bw).below BS,(Bw.out.mono Jh.out).trans (BS.out.mono (by omega)),Cb (yD Bw) (yD BS),by omega,by omega,by omega,zE H5 BS,zE H7 BS,AAL W2 _,by have:=Jh.out;have:=BS.out.size;omega⟩
 generalize W2.alloc (x.box As cs Am cm)=W3 at *;generalize W2.heap.size=p8 at *;clear hsz2 hblt Bw H5 H7 F5 HU BS h1 h2;obtain ⟨q1,q2,q3,q4,q5,q6⟩:=zk6 HK;obtain ⟨v0,v1,v2,v3,v4,v5,v6,v7⟩:=zF ST.out.h7;obtain ⟨b0,b1,b2,b3,b4,b5,b6,b7,b8,b9⟩:=zG ST.out.h8;have x0:=ST.out.c5;have HF:=zh (xG HK Fe);obtain ⟨an,han⟩:∃an,(x.AA.any fun y=>decide (y.id=v.id))=an:=⟨_,rfl⟩
 have hcall:=Ko v.id x As cs Am cm W3 (Hz.out.below (ST.out.up HB0 HG));rw[han] at hcall;have NT:=zh hcall;have RO:=zh han;clear hcall han;go_wp2_with fail;refine NT.out.mono ?_;rintro e' w4 ⟨r,rfl,hr4,hb4⟩;have HR4:=zh hr4;have K7:=zh (ST.out.below hb4);clear hb4 hr4 NT;clear v0 v1 v2 v3 v4 v5 v6 v7 b0 b1 b2 b3 b4 b5 b6 b7 b8 b9 x0
 cases an with
 | true =>
  obtain ⟨k,hk,e1,e2⟩:=JS x.AA RO;obtain rfl:r=(k:Int):=(HR4.out rfl).trans e1;obtain ⟨m,y,g1,g2,g3⟩:∃m y,x.AA.find? (fun y=>decide (y.id=v.id))=some m/\v.items=[y]/\Ad s false n m.type y=true:=by
   rcases HF.out with ⟨_,m,y,g1,g2,g3⟩|⟨g,_⟩
   ·exact ⟨m,y,g1,g2,g3⟩
   ·rw[RO.out] at g;cases g
  obtain rfl:m=x.AA[k]:=AAh (g1.symm.trans e2);have hlt:0<v.items.length:=by rw[g2];exact Nat.one_pos
  have hmem:Ad s false n (x.AA[k]).type v.items[0]=true:=by simp only[g2,List.getElem_cons_zero];exact g3
  have HL:Hid (L=(x.AA[k]).name++⟨#[40]⟩++Ae s n (x.AA[k]).type v.items[0]++⟨#[41]⟩):=Gc.out.trans (gI HK e2 hlt);have HZ:Hid (T.size+((x.AA[k]).name.size+1+(Ae s n (x.AA[k]).type v.items[0]).size+1)<=140737488355328):=by have:=Ee.out;rw[HL.out,zH,zH,zH] at this;exact this
  clear g1 g2 g3 e1 e2;obtain ⟨ib,io,E1,e1,E2,e2,E3,e3,hI,hir,a0,a1,a2,a3,a4,a5,a6,a7⟩:=HR.out.items.at8 hlt;have og:=zh hir;have HA:=zh (And.intro a0 (And.intro a1 (And.intro a2 (And.intro a3 (And.intro a4 (And.intro a5 (And.intro a6 a7)))))));clear hir a0 a1 a2 a3 a4 a5 a6 a7;obtain ⟨mb,mo,M1,m1,M2,m2,M3,m3,hM,_,d0,d1,d2,d3,d4,d5,d6,d7,d8,d9,RA,Q9,Q8⟩:=Hz.out.AA.K5 hk
  have HD:=zh (And.intro d1 d2);clear d0 d1 d2 d3 d4 d5 d6 d7 d8 d9 RA Q9 Q8;generalize x.AA[k]=m at *;generalize v.items[0]=y at *;have Yf:=zh hmem;clear hmem;subst hI;subst hM;have h1:(0:Int)<=(k:Int):=by omega
  have h2:(k:Int)<(x.AA.length:Int):=by omega
  have h3:(0:Int)<(v.items.length:Int):=by omega
  have n1:¬ 9223372036854775807<m.name.size+(⟨#[40]⟩:ByteArray).size:=by have:=HZ.out;show ¬ _<_+1;omega
  have n2:¬ 9223372036854775807<m.name.size+1:=n1;have d1:=zA (K7.out.up HB0 HG) HD.out.1;obtain ⟨v0,v1,v2,v3,v4,v5,v6,v7⟩:=zF K7.out.h7;obtain ⟨b0,b1,b2,b3,b4,b5,b6,b7,b8,b9⟩:=zG K7.out.h8;have x0:=K7.out.c5;go_wp2_with fail;refine (K7.out.FD.write _ ?_ K7.out.ge).mono ?_
  ·have:=HZ.out;have e1:(⟨#[40]⟩:ByteArray).size=1:=rfl;rw[zH];omega
  rintro e' w5 ⟨rfl,g1,g2,g3⟩;have EN:=zh (K7.out.step g1 g2 g3);clear g1 g2 g3;clear v0 v1 v2 v3 v4 v5 v6 v7 b0 b1 b2 b3 b4 b5 b6 b7 b8 b9 x0 d1
  have Ip:Hid (∀w' T',EA s (some ⟨bq,oq,none⟩) c x As cs (some ⟨mb,mo,none⟩) cm v A1 c1 (some ⟨ib,io,none⟩) c2 A3 c3 B b w.heap.size (w.heap.size+1) p8 w w' (T')->(w'.cell? ⟨w.heap.size,0,none⟩=some (.slice (some ⟨bq,oq,none⟩) s.length c)/\w'.cell? ⟨p8,6,none⟩=some (.slice (some ⟨mb,mo,none⟩) x.AA.length cm)/\w'.cell? ⟨mb,mo+k * 13+2,none⟩=some (.int .i64 m.type)/\w'.cell? ⟨w.heap.size+1,6,none⟩=some (.slice (some ⟨ib,io,none⟩) v.items.length c2)/\w'.cell? ⟨ib,io,none⟩=some (.int .i64 y.kind)/\w'.cell? ⟨ib,io+1,none⟩=some (.bool y.bool)/\w'.cell? ⟨ib,io+2,none⟩=some (.int .i64 y.int)/\w'.cell? ⟨ib,io+3,none⟩=some (.string y.str)/\w'.cell? ⟨ib,io+4,none⟩=some (.int .i64 y.id)/\w'.cell? ⟨ib,io+5,none⟩=some (.slice E1 y.keys.length e1)/\w'.cell? ⟨ib,io+6,none⟩=some (.slice E2 y.items.length e2)/\w'.cell? ⟨ib,io+7,none⟩=some (.slice E3 y.rest.length e3))):=fun w' T' st=>by
   obtain ⟨v0,v1,v2,v3,v4,v5,v6,v7⟩:=zF st.h7;obtain ⟨b0,b1,b2,b3,b4,b5,b6,b7,b8,b9⟩:=zG st.h8;have u:=st.up HB0 HG;obtain ⟨a0,a1,a2,a3,a4,a5,a6,a7⟩:=HA.out;exact ⟨st.c5,b6,zA u HD.out.2,v6,zA u (by simpa using a0),zA u (by simpa using a1),zA u (by simpa using a2),zA u (by simpa using a3),zA u (by simpa using a4),zA u (by simpa using a5),zA u (by simpa using a6),zA u (by simpa using a7)⟩
  go_upto_region 34 with fail
  refine wp_region_held_drew (S:=(fun w'=>(w'.cell? ⟨w.heap.size,0,none⟩=some (.slice (some ⟨bq,oq,none⟩) s.length c)/\w'.cell? ⟨p8,6,none⟩=some (.slice (some ⟨mb,mo,none⟩) x.AA.length cm)/\w'.cell? ⟨mb,mo+k * 13+2,none⟩=some (.int .i64 m.type)/\w'.cell? ⟨w.heap.size+1,6,none⟩=some (.slice (some ⟨ib,io,none⟩) v.items.length c2)/\w'.cell? ⟨ib,io,none⟩=some (.int .i64 y.kind)/\w'.cell? ⟨ib,io+1,none⟩=some (.bool y.bool)/\w'.cell? ⟨ib,io+2,none⟩=some (.int .i64 y.int)/\w'.cell? ⟨ib,io+3,none⟩=some (.string y.str)/\w'.cell? ⟨ib,io+4,none⟩=some (.int .i64 y.id)/\w'.cell? ⟨ib,io+5,none⟩=some (.slice E1 y.keys.length e1)/\w'.cell? ⟨ib,io+6,none⟩=some (.slice E2 y.items.length e2)/\w'.cell? ⟨ib,io+7,none⟩=some (.slice E3 y.rest.length e3))/\Hid (Below B w0 w))) (by kernel_rfl) ?_ (fun AQ=>?_)
  ·(try dsimp only);exact ⟨Ip.out _ _ (EN.out.below (zC (Pe _ _) 1)),HB0.out⟩
  refine tL 0 ?_;refine tL 1 ?_;refine tL 2 ?_;refine tL 3 ?_;refine tL 4 ?_;refine tL 5 ?_;try simp only[ps]
  refine tL 6 ?_;refine tL 7 ?_;refine tL 8 ?_;refine tL 9 ?_;refine tL 10 ?_;refine tL 11 ?_;try simp only[ps]
  refine tR 12 (fun K hK=>?_)
  go_simp
  (refine (EI.out m.type y E1 e1 E2 e2 E3 e3 w0 _ B b _ Yf HS og KJ HG (HB0.out.trans (EN.out.below (zC (Pe _ _) 1)).fr) (EN.out.below (zC (Pe _ _) 1)).ge (EN.out.below (zC (Pe _ _) 1)).FD (by have:=HZ.out;have e1:(⟨#[40]⟩:ByteArray).size=1:=rfl;rw[zH,zH];omega)).mono ?_;rintro e' w6 ⟨rfl,g1,g2,g3⟩;have GZ:=zh ((EN.out.below (zC (Pe _ _) 1)).step g1 g2 g3);clear g1 g2 g3)
  refine hK.out _ _ ?_ (fun AQ=>?_)
  ·(try dsimp only);exact ⟨Ip.out _ _ GZ.out,HB0.out⟩
  clear hK K;refine wpAnyH_done (by kernel_rfl) ?_ _
  clear AQ;go_wp2_with fail;refine (GZ.out.FD.byte 41 (by have:=HZ.out;have e1:(⟨#[40]⟩:ByteArray).size=1:=rfl;rw[zH,zH,zH];omega) GZ.out.ge).mono ?_
  rintro e' w7 ⟨rfl,g1,g2,g3⟩;have Nq:=zh (GZ.out.step g1 g2 g3);clear g1 g2 g3;go_wp2;refine bodyPost_end (results_none Tryz.results44 _ _ _) rfl ⟨rfl,by rw[HL.out];(have h:=Nq.out.FD;simp only[AAk] at h ⊢;exact h),Nq.out.fr,Nq.out.ot⟩
 | false =>
  obtain ⟨hfr,r0,hr0⟩:BA v.id=true/\∃r,v.rest=[r]:=by
   rcases HF.out with ⟨g,_⟩|⟨_,g1,g2⟩
   ·rw[RO.out] at g;cases g
   ·exact ⟨g1,g2⟩
  have Oa:=zh hfr;have hlt:0<v.rest.length:=by rw[hr0];exact Nat.one_pos
  have HL:Hid (L=⟨#[64]⟩++CX v.id++⟨#[40]⟩++LG (v.rest[0]).data++⟨#[41]⟩):=Gc.out.trans (nA HK (OV x.AA RO) hlt);have HZ:Hid (T.size+(1+(CX v.id).size+1+(LG (v.rest[0]).data).size+1)<=140737488355328):=by have:=Ee.out;rw[HL.out,zH,zH,zH,zH] at this;exact this
  clear hfr hr0 r0;obtain ⟨rb,ro,hR,_,a0,a1⟩:=HR.out.rest.at2 hlt;have HA:=zh a1;clear a0 a1;generalize v.rest[0]=r0 at *;subst hR;have h3:(0:Int)<(v.rest.length:Int):=by omega
  have n1:¬ 9223372036854775807<(⟨#[64]⟩:ByteArray).size+(CX v.id).size:=by have:=HZ.out;show ¬ _<1+_;omega
  have n2:¬ 9223372036854775807<1+(CX v.id).size:=n1;have n3:¬ 9223372036854775807<(⟨#[64]⟩++CX v.id:ByteArray).size+(⟨#[40]⟩:ByteArray).size:=by have:=HZ.out;rw[zH];show ¬ _<1+_+1;omega
  have n4:¬ 9223372036854775807<1+(CX v.id).size+1:=by have:=HZ.out;omega
  have n5:¬ 9223372036854775807<(⟨#[64]⟩++CX v.id++⟨#[40]⟩:ByteArray).size+(LG r0.data).size:=by have:=HZ.out;rw[zH,zH];show ¬ _<1+_+1+_;omega
  have n6:¬ 9223372036854775807<1+(CX v.id).size+1+(LG r0.data).size:=by have:=HZ.out;omega
  have Ip:Hid (∀w' T',EA s (some ⟨bq,oq,none⟩) c x As cs Am cm v A1 c1 A2 c2 (some ⟨rb,ro,none⟩) c3 B b w.heap.size (w.heap.size+1) p8 w w' (T')->(w'.cell? ⟨w.heap.size+1,4,none⟩=some (.int .i64 v.id)/\w'.cell? ⟨w.heap.size+1,7,none⟩=some (.slice (some ⟨rb,ro,none⟩) v.rest.length c3)/\w'.cell? ⟨rb,ro+1,none⟩=some (.string r0.data))):=fun w' T' st=>by
   obtain ⟨v0,v1,v2,v3,v4,v5,v6,v7⟩:=zF st.h7;have u:=st.up HB0 HG;exact ⟨v4,v7,zA u (by simpa using HA.out)⟩
  obtain ⟨v0,v1,v2,v3,v4,v5,v6,v7⟩:=zF K7.out.h7;obtain ⟨b0,b1,b2,b3,b4,b5,b6,b7,b8,b9⟩:=zG K7.out.h8;have x0:=K7.out.c5;go_upto_region 35 with fail
  clear v0 v1 v2 v3 v4 v5 v6 v7 b0 b1 b2 b3 b4 b5 b6 b7 b8 b9 x0;refine wp_region_held_drew (S:=(fun w'=>(w'.cell? ⟨w.heap.size+1,4,none⟩=some (.int .i64 v.id)/\w'.cell? ⟨w.heap.size+1,7,none⟩=some (.slice (some ⟨rb,ro,none⟩) v.rest.length c3)/\w'.cell? ⟨rb,ro+1,none⟩=some (.string r0.data))/\Hid (Below B w0 w))) (by kernel_rfl) ?_ (fun AQ=>?_)
  ·(try dsimp only);exact ⟨Ip.out _ _ (K7.out.below (zC (Pe _ _) 1)),HB0.out⟩
  refine tL 0 ?_;refine tL 1 ?_;refine tL 2 ?_;refine tL 6 ?_;refine tL 7 ?_;try simp only[ps]
  refine tL 8 ?_;refine tL 9 ?_;refine tL 10 ?_;refine tR 3 (fun K hK=>?_)
  go_simp
  (refine (Ls v.id (OU Oa) _ (KJ.out.below ((K7.out.below (zC (Pe _ _) 1)).up HB0 HG))).mono ?_;rintro e' w5 ⟨rfl,hb5⟩;have EN:=zh ((K7.out.below (zC (Pe _ _) 1)).below hb5);clear hb5)
  refine hK.out _ _ ?_ (fun AQ=>?_)
  ·(try dsimp only);exact ⟨Ip.out _ _ EN.out,HB0.out⟩
  clear hK K;refine tL 4 ?_;refine tL 5 ?_;try simp only[ps]
  refine tR 11 (fun K hK=>?_)
  go_simp
  (refine (Ml r0.data (by have:=HZ.out;omega) _).mono ?_;rintro e' w6 ⟨rfl,hb6⟩;have GZ:=zh (EN.out.below hb6);clear hb6)
  refine hK.out _ _ ?_ (fun AQ=>?_)
  ·(try dsimp only);exact ⟨Ip.out _ _ GZ.out,HB0.out⟩
  clear hK K;refine tL 12 ?_;refine tR 13 (fun K hK=>?_)
  go_simp
  (refine (GZ.out.FD.write _ ?_ GZ.out.ge).mono ?_;(· have:=HZ.out;have e1:(⟨#[40]⟩:ByteArray).size=1:=rfl;have e2:(⟨#[64]⟩:ByteArray).size=1:=rfl;rw[zH,zH,zH];omega);rintro e' w7 ⟨rfl,g1,g2,g3⟩;have Nq:=zh (GZ.out.step g1 g2 g3);clear g1 g2 g3)
  refine hK.out _ _ ?_ (fun AQ=>?_)
  ·(try dsimp only);exact ⟨Ip.out _ _ Nq.out,HB0.out⟩
  clear hK K;refine wpAnyH_done (by kernel_rfl) ?_ _
  clear AQ;go_wp2_with fail;refine (Nq.out.FD.byte 41 (by have:=HZ.out;have e1:(⟨#[40]⟩:ByteArray).size=1:=rfl;have e2:(⟨#[64]⟩:ByteArray).size=1:=rfl;rw[zH,zH,zH,zH];omega) Nq.out.ge).mono ?_
  rintro e' w8 ⟨rfl,g1,g2,g3⟩;have Kj:=zh (Nq.out.step g1 g2 g3);clear g1 g2 g3;go_wp2;refine bodyPost_end (results_none Tryz.results44 _ _ _) rfl ⟨rfl,by rw[HL.out];(have h:=Kj.out.FD;simp only[AAk] at h ⊢;exact h),Kj.out.fr,Kj.out.ot⟩
end Go.Proofs.YthkkllmmbefedaaGreatDoor



