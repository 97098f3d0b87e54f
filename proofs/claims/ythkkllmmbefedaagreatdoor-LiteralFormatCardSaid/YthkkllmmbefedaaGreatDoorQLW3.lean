/-
  Walks: literal.write, kinds 1, 2, 3, 4.
-/
import Derived.Test.YthkkllmmbefedaaGreatDoorQGA10
import Derived.Test.YthkkllmmbefedaaGreatDoorQGA9
namespace Go.Proofs.YthkkllmmbefedaaGreatDoor
open Go.RowKit
set_option maxHeartbeats 16000000
set_option maxRecDepth 100000
theorem write_k1 {s:List TyD} {A:zo} {c n:Nat} (_hv:zQ s=0) (hn:Num64 s) (ih:WriteAt s A c n):WriteK s A c n 1:=by
 intro t v A1 c1 A2 c2 A3 c3 w0 w B b T e hf hs hr htb hg hb0 hB hbl hsz
 obtain ⟨i0,i1,i2,i3⟩:=fitF_out hf;obtain ⟨tn,rfl⟩:=Int.eq_ofNat_of_zero_le i0;have htn:tn<s.length:=by omega
 have hln:=hs.1.lt (by omega)
 rw[zT htn] at i2 i3 e;have HL0:Hid (litF s (n+1) (tn:Int) v=litB (litF s n) s[tn] v):=by show _=_;rw[litF,zT htn]
 have HXN:=zh (hn _ (List.getElem_mem htn));obtain ⟨HBW,H5,H7⟩:=zy w (.cells #[.slice A s.length c] 31) (v.box A1 c1 A2 c2 A3 c3);have HIH:=zh ih;have HS:=zh hs;have HR:=zh hr;have HTB:=zh htb;have HG:=zh hg;have HB0:=zh hb0;have HGE:=zh hB;have HBL:=zh hbl;have hblt:=hbl.lt;obtain ⟨L,hL⟩:∃L,litF s (n+1) (tn:Int) v=L:=⟨_,rfl⟩;rw[hL] at hsz HL0;simp only[hL];have HSZ:=zh hsz
 have HU:Hid (Below w0.heap.size w0 ((w.alloc (.cells #[.slice A s.length c] 31)).alloc (v.box A1 c1 A2 c2 A3 c3))):=(hb0.trans (HBW.out.mono hB)).mono hg;obtain ⟨bq,oq,As,cs,Am,cm,hA,htr,t0,t1,t2,t3,t4,t5,t6,t7,t8,t9⟩:=hs.at10 htn;clear hL hf ih hs hr htb hg hb0 hB hbl hsz _hv hn i0 i1;subst hA;generalize s[tn]=x at *;have HTR:=zh htr;have HFB:=zh i3;have HVK:=zh (i2.trans e);have HK:=zh e
 clear htr i3 i2 e;replace t0:=zA HU.out t0;replace t1:=zA HU.out t1;replace t2:=zA HU.out t2;replace t3:=zA HU.out t3;replace t4:=zA HU.out t4;replace t5:=zA HU.out t5;replace t6:=zA HU.out t6;replace t7:=zA HU.out t7;replace t8:=zA HU.out t8;replace t9:=zA HU.out t9;have h1:(0:Int)≤(tn:Int):=by omega
 have h2:(tn:Int)<(s.length:Int):=by omega
 go_enter Tryz.func44,Tryz.ntmps44
 go_upto_region 1 with fail
 have hsz2:Hid (((w.alloc (.cells #[.slice (some ⟨bq,oq,none⟩) s.length c] 31)).alloc (v.box A1 c1 A2 c2 A3 c3)).heap.size=w.heap.size+2):=by show _=_;simp
 generalize (w.alloc (.cells #[.slice (some ⟨bq,oq,none⟩) s.length c] 31)).alloc (v.box A1 c1 A2 c2 A3 c3)=W2 at *;have x0:=zb H5.out;go_upto_region 2 with fail
 clear t0 t1 t2 t3 t4 t5 t6 t7 t8 t9 x0;have HBX:=zh (zD W2 (x.box As cs Am cm));have ST:Hid (WrSt s (some ⟨bq,oq,none⟩) c x As cs Am cm v A1 c1 A2 c2 A3 c3 B b w.heap.size (w.heap.size+1) W2.heap.size w (W2.alloc (x.box As cs Am cm)) (T)):=by
  have hz:=hsz2.out;have hge:=HGE.out;exact ⟨(HBL.out.below HBW.out).below HBX.out,(HBW.out.mono HGE.out).trans (HBX.out.mono (by omega)),oth_trans (yD HBW.out) (yD HBX.out),by omega,by omega,by omega,zE H5.out HBX.out,zE H7.out HBX.out,heap_alloc_new W2 _,by have:=HGE.out;have:=HBX.out.size;omega⟩
 generalize W2.alloc (x.box As cs Am cm)=W3 at *;generalize W2.heap.size=p8 at *;clear hsz2 hblt HBW H5 H7 HBL HU HBX h1 h2;have q1:=zk1 HK.out;obtain ⟨v0,v1,v2,v3,v4,v5,v6,v7⟩:=zF ST.out.h7;obtain ⟨b0,b1,b2,b3,b4,b5,b6,b7,b8,b9⟩:=zG ST.out.h8;have x0:=ST.out.c5;have HL1:=zh (HL0.out.trans (lit1 HK.out));have hbt:=boolText_any v.bool W3
 obtain ⟨X,hX⟩:∃X,(if v.bool then (⟨#[116,114,117,101]⟩:ByteArray) else ⟨#[102,97,108,115,101]⟩)=X:=⟨_,rfl⟩
 rw[hX] at hbt;have HL:Hid (L=X):=HL1.out.trans hX;have HBT:=zh hbt;have HZ:Hid (T.size+X.size≤140737488355328):=by have:=HSZ.out;rw[HL.out] at this;exact this
 clear hbt hX HL1;go_wp2_with fail;refine HBT.out.mono ?_;rintro e' w4 ⟨rfl,rfl⟩;go_wp2_with fail;refine (ST.out.bld.write _ (HZ.out) ST.out.ge).mono ?_;rintro e' w5 ⟨rfl,g1,g2,g3⟩;have ST5:=zh (ST.out.step g1 g2 g3);clear g1 g2 g3;go_wp2;refine bodyPost_end (results_none Tryz.results44 _ _ _) rfl ⟨rfl,by rw[HL.out];exact ST5.out.bld,ST5.out.fr,ST5.out.ot⟩
theorem write_k2 {s:List TyD} {A:zo} {c n:Nat} (_hv:zQ s=0) (hn:Num64 s) (ih:WriteAt s A c n):WriteK s A c n 2:=by
 intro t v A1 c1 A2 c2 A3 c3 w0 w B b T e hf hs hr htb hg hb0 hB hbl hsz
 obtain ⟨i0,i1,i2,i3⟩:=fitF_out hf;obtain ⟨tn,rfl⟩:=Int.eq_ofNat_of_zero_le i0;have htn:tn<s.length:=by omega
 have hln:=hs.1.lt (by omega)
 rw[zT htn] at i2 i3 e;have HL0:Hid (litF s (n+1) (tn:Int) v=litB (litF s n) s[tn] v):=by show _=_;rw[litF,zT htn]
 have HXN:=zh (hn _ (List.getElem_mem htn));obtain ⟨HBW,H5,H7⟩:=zy w (.cells #[.slice A s.length c] 31) (v.box A1 c1 A2 c2 A3 c3);have HIH:=zh ih;have HS:=zh hs;have HR:=zh hr;have HTB:=zh htb;have HG:=zh hg;have HB0:=zh hb0;have HGE:=zh hB;have HBL:=zh hbl;have hblt:=hbl.lt;obtain ⟨L,hL⟩:∃L,litF s (n+1) (tn:Int) v=L:=⟨_,rfl⟩;rw[hL] at hsz HL0;simp only[hL];have HSZ:=zh hsz
 have HU:Hid (Below w0.heap.size w0 ((w.alloc (.cells #[.slice A s.length c] 31)).alloc (v.box A1 c1 A2 c2 A3 c3))):=(hb0.trans (HBW.out.mono hB)).mono hg;obtain ⟨bq,oq,As,cs,Am,cm,hA,htr,t0,t1,t2,t3,t4,t5,t6,t7,t8,t9⟩:=hs.at10 htn;clear hL hf ih hs hr htb hg hb0 hB hbl hsz _hv hn i0 i1;subst hA;generalize s[tn]=x at *;have HTR:=zh htr;have HFB:=zh i3;have HVK:=zh (i2.trans e);have HK:=zh e
 clear htr i3 i2 e;replace t0:=zA HU.out t0;replace t1:=zA HU.out t1;replace t2:=zA HU.out t2;replace t3:=zA HU.out t3;replace t4:=zA HU.out t4;replace t5:=zA HU.out t5;replace t6:=zA HU.out t6;replace t7:=zA HU.out t7;replace t8:=zA HU.out t8;replace t9:=zA HU.out t9;have h1:(0:Int)≤(tn:Int):=by omega
 have h2:(tn:Int)<(s.length:Int):=by omega
 go_enter Tryz.func44,Tryz.ntmps44
 go_upto_region 1 with fail
 have hsz2:Hid (((w.alloc (.cells #[.slice (some ⟨bq,oq,none⟩) s.length c] 31)).alloc (v.box A1 c1 A2 c2 A3 c3)).heap.size=w.heap.size+2):=by show _=_;simp
 generalize (w.alloc (.cells #[.slice (some ⟨bq,oq,none⟩) s.length c] 31)).alloc (v.box A1 c1 A2 c2 A3 c3)=W2 at *;have x0:=zb H5.out;go_upto_region 2 with fail
 clear t0 t1 t2 t3 t4 t5 t6 t7 t8 t9 x0;have HBX:=zh (zD W2 (x.box As cs Am cm));have ST:Hid (WrSt s (some ⟨bq,oq,none⟩) c x As cs Am cm v A1 c1 A2 c2 A3 c3 B b w.heap.size (w.heap.size+1) W2.heap.size w (W2.alloc (x.box As cs Am cm)) (T)):=by
  have hz:=hsz2.out;have hge:=HGE.out;exact ⟨(HBL.out.below HBW.out).below HBX.out,(HBW.out.mono HGE.out).trans (HBX.out.mono (by omega)),oth_trans (yD HBW.out) (yD HBX.out),by omega,by omega,by omega,zE H5.out HBX.out,zE H7.out HBX.out,heap_alloc_new W2 _,by have:=HGE.out;have:=HBX.out.size;omega⟩
 generalize W2.alloc (x.box As cs Am cm)=W3 at *;generalize W2.heap.size=p8 at *;clear hsz2 hblt HBW H5 H7 HBL HU HBX h1 h2;obtain ⟨q1,q2⟩:=zk2 HK.out;obtain ⟨v0,v1,v2,v3,v4,v5,v6,v7⟩:=zF ST.out.h7;obtain ⟨b0,b1,b2,b3,b4,b5,b6,b7,b8,b9⟩:=zG ST.out.h8;have x0:=ST.out.c5;have HL:=zh (HL0.out.trans (lit2 HK.out))
 have HI:Hid (In64 v.int):=by have:=fit2 HK.out HFB.out;have:=HXN.out;unfold In64 at *;show _∧_;omega
 have HZ:Hid (T.size+(decB v.int).size≤140737488355328):=by have:=HSZ.out;rw[HL.out] at this;exact this
 go_wp2_with fail
 refine (fmt_any v.int HI.out _ (HTB.out.below (ST.out.up HB0.out HG.out))).mono ?_;rintro e' w4 ⟨rfl,hb4⟩;have ST4:=zh (ST.out.below hb4);clear hb4;clear v0 v1 v2 v3 v4 v5 v6 v7 b0 b1 b2 b3 b4 b5 b6 b7 b8 b9 x0;go_wp2_with fail;refine (ST4.out.bld.write _ (HZ.out) ST4.out.ge).mono ?_;rintro e' w5 ⟨rfl,g1,g2,g3⟩;have ST5:=zh (ST4.out.step g1 g2 g3);clear g1 g2 g3;go_wp2
 refine bodyPost_end (results_none Tryz.results44 _ _ _) rfl ⟨rfl,by rw[HL.out];exact ST5.out.bld,ST5.out.fr,ST5.out.ot⟩
theorem write_k3 {s:List TyD} {A:zo} {c n:Nat} (_hv:zQ s=0) (hn:Num64 s) (ih:WriteAt s A c n):WriteK s A c n 3:=by
 intro t v A1 c1 A2 c2 A3 c3 w0 w B b T e hf hs hr htb hg hb0 hB hbl hsz
 obtain ⟨i0,i1,i2,i3⟩:=fitF_out hf;obtain ⟨tn,rfl⟩:=Int.eq_ofNat_of_zero_le i0;have htn:tn<s.length:=by omega
 have hln:=hs.1.lt (by omega)
 rw[zT htn] at i2 i3 e;have HL0:Hid (litF s (n+1) (tn:Int) v=litB (litF s n) s[tn] v):=by show _=_;rw[litF,zT htn]
 have HXN:=zh (hn _ (List.getElem_mem htn));obtain ⟨HBW,H5,H7⟩:=zy w (.cells #[.slice A s.length c] 31) (v.box A1 c1 A2 c2 A3 c3);have HIH:=zh ih;have HS:=zh hs;have HR:=zh hr;have HTB:=zh htb;have HG:=zh hg;have HB0:=zh hb0;have HGE:=zh hB;have HBL:=zh hbl;have hblt:=hbl.lt;obtain ⟨L,hL⟩:∃L,litF s (n+1) (tn:Int) v=L:=⟨_,rfl⟩;rw[hL] at hsz HL0;simp only[hL];have HSZ:=zh hsz
 have HU:Hid (Below w0.heap.size w0 ((w.alloc (.cells #[.slice A s.length c] 31)).alloc (v.box A1 c1 A2 c2 A3 c3))):=(hb0.trans (HBW.out.mono hB)).mono hg;obtain ⟨bq,oq,As,cs,Am,cm,hA,htr,t0,t1,t2,t3,t4,t5,t6,t7,t8,t9⟩:=hs.at10 htn;clear hL hf ih hs hr htb hg hb0 hB hbl hsz _hv hn i0 i1;subst hA;generalize s[tn]=x at *;have HTR:=zh htr;have HFB:=zh i3;have HVK:=zh (i2.trans e);have HK:=zh e
 clear htr i3 i2 e;replace t0:=zA HU.out t0;replace t1:=zA HU.out t1;replace t2:=zA HU.out t2;replace t3:=zA HU.out t3;replace t4:=zA HU.out t4;replace t5:=zA HU.out t5;replace t6:=zA HU.out t6;replace t7:=zA HU.out t7;replace t8:=zA HU.out t8;replace t9:=zA HU.out t9;have h1:(0:Int)≤(tn:Int):=by omega
 have h2:(tn:Int)<(s.length:Int):=by omega
 go_enter Tryz.func44,Tryz.ntmps44
 go_upto_region 1 with fail
 have hsz2:Hid (((w.alloc (.cells #[.slice (some ⟨bq,oq,none⟩) s.length c] 31)).alloc (v.box A1 c1 A2 c2 A3 c3)).heap.size=w.heap.size+2):=by show _=_;simp
 generalize (w.alloc (.cells #[.slice (some ⟨bq,oq,none⟩) s.length c] 31)).alloc (v.box A1 c1 A2 c2 A3 c3)=W2 at *;have x0:=zb H5.out;go_upto_region 2 with fail
 clear t0 t1 t2 t3 t4 t5 t6 t7 t8 t9 x0;have HBX:=zh (zD W2 (x.box As cs Am cm));have ST:Hid (WrSt s (some ⟨bq,oq,none⟩) c x As cs Am cm v A1 c1 A2 c2 A3 c3 B b w.heap.size (w.heap.size+1) W2.heap.size w (W2.alloc (x.box As cs Am cm)) (T)):=by
  have hz:=hsz2.out;have hge:=HGE.out;exact ⟨(HBL.out.below HBW.out).below HBX.out,(HBW.out.mono HGE.out).trans (HBX.out.mono (by omega)),oth_trans (yD HBW.out) (yD HBX.out),by omega,by omega,by omega,zE H5.out HBX.out,zE H7.out HBX.out,heap_alloc_new W2 _,by have:=HGE.out;have:=HBX.out.size;omega⟩
 generalize W2.alloc (x.box As cs Am cm)=W3 at *;generalize W2.heap.size=p8 at *;clear hsz2 hblt HBW H5 H7 HBL HU HBX h1 h2;obtain ⟨q1,q2,q3⟩:=zk3 HK.out;obtain ⟨v0,v1,v2,v3,v4,v5,v6,v7⟩:=zF ST.out.h7;obtain ⟨b0,b1,b2,b3,b4,b5,b6,b7,b8,b9⟩:=zG ST.out.h8;have x0:=ST.out.c5;have HL:=zh (HL0.out.trans (lit3 HK.out))
 have HZ:Hid (T.size+(quD v.str).size≤140737488355328):=by have:=HSZ.out;rw[HL.out] at this;exact this
 go_wp2_with fail
 refine (quote_any v.str (by have:=HZ.out;omega) _).mono ?_
 rintro e' w4 ⟨rfl,hb4⟩;have ST4:=zh (ST.out.below hb4);clear hb4;clear v0 v1 v2 v3 v4 v5 v6 v7 b0 b1 b2 b3 b4 b5 b6 b7 b8 b9 x0;go_wp2_with fail;refine (ST4.out.bld.write _ (HZ.out) ST4.out.ge).mono ?_;rintro e' w5 ⟨rfl,g1,g2,g3⟩;have ST5:=zh (ST4.out.step g1 g2 g3);clear g1 g2 g3;go_wp2
 refine bodyPost_end (results_none Tryz.results44 _ _ _) rfl ⟨rfl,by rw[HL.out];exact ST5.out.bld,ST5.out.fr,ST5.out.ot⟩
theorem write_k4 {s:List TyD} {A:zo} {c n:Nat} (_hv:zQ s=0) (hn:Num64 s) (ih:WriteAt s A c n):WriteK s A c n 4:=by
 intro t v A1 c1 A2 c2 A3 c3 w0 w B b T e hf hs hr htb hg hb0 hB hbl hsz
 obtain ⟨i0,i1,i2,i3⟩:=fitF_out hf;obtain ⟨tn,rfl⟩:=Int.eq_ofNat_of_zero_le i0;have htn:tn<s.length:=by omega
 have hln:=hs.1.lt (by omega)
 rw[zT htn] at i2 i3 e;have HL0:Hid (litF s (n+1) (tn:Int) v=litB (litF s n) s[tn] v):=by show _=_;rw[litF,zT htn]
 have HXN:=zh (hn _ (List.getElem_mem htn));obtain ⟨HBW,H5,H7⟩:=zy w (.cells #[.slice A s.length c] 31) (v.box A1 c1 A2 c2 A3 c3);have HIH:=zh ih;have HS:=zh hs;have HR:=zh hr;have HTB:=zh htb;have HG:=zh hg;have HB0:=zh hb0;have HGE:=zh hB;have HBL:=zh hbl;have hblt:=hbl.lt;obtain ⟨L,hL⟩:∃L,litF s (n+1) (tn:Int) v=L:=⟨_,rfl⟩;rw[hL] at hsz HL0;simp only[hL];have HSZ:=zh hsz
 have HU:Hid (Below w0.heap.size w0 ((w.alloc (.cells #[.slice A s.length c] 31)).alloc (v.box A1 c1 A2 c2 A3 c3))):=(hb0.trans (HBW.out.mono hB)).mono hg;obtain ⟨bq,oq,As,cs,Am,cm,hA,htr,t0,t1,t2,t3,t4,t5,t6,t7,t8,t9⟩:=hs.at10 htn;clear hL hf ih hs hr htb hg hb0 hB hbl hsz _hv hn i0 i1;subst hA;generalize s[tn]=x at *;have HTR:=zh htr;have HFB:=zh i3;have HVK:=zh (i2.trans e);have HK:=zh e
 clear htr i3 i2 e;replace t0:=zA HU.out t0;replace t1:=zA HU.out t1;replace t2:=zA HU.out t2;replace t3:=zA HU.out t3;replace t4:=zA HU.out t4;replace t5:=zA HU.out t5;replace t6:=zA HU.out t6;replace t7:=zA HU.out t7;replace t8:=zA HU.out t8;replace t9:=zA HU.out t9;have h1:(0:Int)≤(tn:Int):=by omega
 have h2:(tn:Int)<(s.length:Int):=by omega
 go_enter Tryz.func44,Tryz.ntmps44
 go_upto_region 1 with fail
 have hsz2:Hid (((w.alloc (.cells #[.slice (some ⟨bq,oq,none⟩) s.length c] 31)).alloc (v.box A1 c1 A2 c2 A3 c3)).heap.size=w.heap.size+2):=by show _=_;simp
 generalize (w.alloc (.cells #[.slice (some ⟨bq,oq,none⟩) s.length c] 31)).alloc (v.box A1 c1 A2 c2 A3 c3)=W2 at *;have x0:=zb H5.out;go_upto_region 2 with fail
 clear t0 t1 t2 t3 t4 t5 t6 t7 t8 t9 x0;have HBX:=zh (zD W2 (x.box As cs Am cm));have ST:Hid (WrSt s (some ⟨bq,oq,none⟩) c x As cs Am cm v A1 c1 A2 c2 A3 c3 B b w.heap.size (w.heap.size+1) W2.heap.size w (W2.alloc (x.box As cs Am cm)) (T)):=by
  have hz:=hsz2.out;have hge:=HGE.out;exact ⟨(HBL.out.below HBW.out).below HBX.out,(HBW.out.mono HGE.out).trans (HBX.out.mono (by omega)),oth_trans (yD HBW.out) (yD HBX.out),by omega,by omega,by omega,zE H5.out HBX.out,zE H7.out HBX.out,heap_alloc_new W2 _,by have:=HGE.out;have:=HBX.out.size;omega⟩
 generalize W2.alloc (x.box As cs Am cm)=W3 at *;generalize W2.heap.size=p8 at *;clear hsz2 hblt HBW H5 H7 HBL HU HBX h1 h2;obtain ⟨q1,q2,q3,q4⟩:=zk4 HK.out;obtain ⟨v0,v1,v2,v3,v4,v5,v6,v7⟩:=zF ST.out.h7;obtain ⟨b0,b1,b2,b3,b4,b5,b6,b7,b8,b9⟩:=zG ST.out.h8;have x0:=ST.out.c5;have HL1:=zh (HL0.out.trans (lit4 HK.out));have HF:=zh (fit4 HK.out HFB.out)
 obtain ⟨an,han⟩:∃an,(x.syms.any fun y=>decide (y.id=v.id))=an:=⟨_,rfl⟩
 have hcall:=scSymB_any v.id x As cs Am cm W3 (HTR.out.below (ST.out.up HB0.out HG.out));rw[han] at hcall;have HCL:=zh hcall;have HAN:=zh han;clear hcall han;go_wp2_with fail;refine HCL.out.mono ?_;rintro e' w4 ⟨r,rfl,hr4,hb4⟩;have HR4:=zh hr4;have ST4:=zh (ST.out.below hb4);clear hb4 hr4 HCL;clear v0 v1 v2 v3 v4 v5 v6 v7 b0 b1 b2 b3 b4 b5 b6 b7 b8 b9 x0
 obtain ⟨v0,v1,v2,v3,v4,v5,v6,v7⟩:=zF ST4.out.h7;obtain ⟨b0,b1,b2,b3,b4,b5,b6,b7,b8,b9⟩:=zG ST4.out.h8;have x0:=ST4.out.c5
 cases an with
 | true =>
  obtain ⟨k,hk,e1,e2⟩:=find_idx x.syms HAN.out;have HL:Hid (L=(x.syms[k]).name):=by show _=_;rw[HL1.out,e2]
  obtain rfl:r=(k:Int):=(HR4.out rfl).trans e1;have HZ:Hid (T.size+(x.syms[k]).name.size≤140737488355328):=by have:=HSZ.out;rw[HL.out] at this;exact this
  obtain ⟨sb,so,hAs,_,a0,a1⟩:=HTR.out.syms.at2 hk;replace a1:=zA (ST4.out.up HB0.out HG.out) a1;subst hAs;have j1:(0:Int)≤(k:Int):=by omega
  have j2:(k:Int)<(x.syms.length:Int):=by omega
  clear e1 e2 a0;go_wp2_with fail;refine (ST4.out.bld.write _ (HZ.out) ST4.out.ge).mono ?_;rintro e' w5 ⟨rfl,g1,g2,g3⟩;have ST5:=zh (ST4.out.step g1 g2 g3);clear g1 g2 g3;go_wp2;refine bodyPost_ret (results_none Tryz.results44 _ _ _) rfl ⟨rfl,by rw[HL.out];exact ST5.out.bld,ST5.out.fr,ST5.out.ot⟩
 | false =>
  have HL:Hid (L=⟨#[64]⟩++decB v.id):=by show _=_;rw[HL1.out,find_no x.syms HAN.out]
  have HFR:Hid (freeD v.id=true):=by
   rcases HF.out with h|h
   ·rw[HAN.out] at h;cases h
   ·exact h.2
  have HZ:Hid (T.size+((⟨#[64]⟩:ByteArray)++decB v.id).size≤140737488355328):=by have:=HSZ.out;rw[HL.out] at this;exact this
  have n1:¬ 9223372036854775807<(⟨#[64]⟩:ByteArray).size+(decB v.id).size:=by have:=decB_le (free_in HFR.out);show ¬ _<1+_;omega
  have n2:¬ 9223372036854775807<1+(decB v.id).size:=n1;go_wp2_with fail;refine (itoa_any v.id (free_in HFR.out) _ (HTB.out.below (ST4.out.up HB0.out HG.out))).mono ?_;rintro e' w5 ⟨rfl,hb5⟩;have ST5:=zh (ST4.out.below hb5);clear hb5;clear v0 v1 v2 v3 v4 v5 v6 v7 b0 b1 b2 b3 b4 b5 b6 b7 b8 b9 x0;go_wp2_with fail;refine (ST5.out.bld.write _ (HZ.out) ST5.out.ge).mono ?_;rintro e' w6 ⟨rfl,g1,g2,g3⟩
  have ST6:=zh (ST5.out.step g1 g2 g3);clear g1 g2 g3;go_wp2;refine bodyPost_end (results_none Tryz.results44 _ _ _) rfl ⟨rfl,by rw[HL.out];exact ST6.out.bld,ST6.out.fr,ST6.out.ot⟩
end Go.Proofs.YthkkllmmbefedaaGreatDoor


