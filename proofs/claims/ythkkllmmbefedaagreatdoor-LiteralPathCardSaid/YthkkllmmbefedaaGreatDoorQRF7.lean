/-
  Walks: the reference's fit, kinds 1, 2, 3, 7, 9.
-/
import Derived.Test.YthkkllmmbefedaaGreatDoorQGM2
namespace Go.Proofs.YthkkllmmbefedaaGreatDoor
open Go.RowKit
set_option maxHeartbeats 16000000
set_option maxRecDepth 100000
variable {s:List Ae} {c n:Nat} {A:zo}
theorem oF (pl:Bool) (_hv:zQ s=0) (_hn:Bq s) (_ih:Ed s A c pl n):LH s A c pl n 1:=by
 intro tn htn v A1 c1 A2 c2 A3 c3 w hsz hs hr hkx hvk hp hrest
 have hln:=hs.1.lt (by omega)
 obtain ⟨HB0,H5,H7⟩:=zy w (.cells #[.slice A s.length c] 31) (v.box A1 c1 A2 c2 A3 c3);have E5:=zh _ih;have HV:=zh _hv;have HN:=zh _hn;have HS:=zh hs;have HR:=zh hr;have FR:Hid (∀y,y∈v.keys\/y∈v.items->SizeOf.sizeOf y<=n):=hsz;have HP:=zh hp;have fB:=zh (AAK htn);obtain ⟨b,o,As,cs,Am,cm,hA,htr,t0,t1,t2,t3,t4,t5,t6,t7,t8,t9⟩:=(hs.below HB0).FQ htn;clear hs hr hp _ih _hv _hn
 subst hA;generalize s[tn]=x at *;have Dv:=zh htr;have HK:=zh hkx;have KO:=zh (hvk.trans hkx);have q0:(v.kind != x.kind)=false:=by simp[hvk]
 have Od:=zh hrest;clear htr hkx hvk hrest;have r1:¬ ((tn:Int)<0):=by omega
 have r2:¬ ((s.length:Int)<=(tn:Int)):=by omega
 have h1:(0:Int)<=(tn:Int):=by omega
 have h2:(tn:Int)<(s.length:Int):=by omega
 go_enter Tryz.func71,Tryz.ntmps71
 go_upto_region 1 with fail
 generalize (w.alloc (.cells #[.slice (some ⟨b,o,none⟩) s.length c] 31)).alloc (v.box A1 c1 A2 c2 A3 c3)=W2 at *;have x0:=zb H5;go_upto_region 4 with fail
 clear t0 t1 t2 t3 t4 t5 t6 t7 t8 t9 x0 r1 r2;have BI:=zh (zD W2 (x.box As cs Am cm));have Gy:Hid (BX (W2.alloc (x.box As cs Am cm)) W2.heap.size x As cs Am cm):=AAC W2 _;have Bg:=zh (zE H5 BI);have Gd:=zh (zE H7 BI);have HB3:=zh (zB HB0 BI);have EI:=zh (Dv.out.below BI);generalize W2.alloc (x.box As cs Am cm)=W3 at *
 generalize W2.heap.size=p9 at *;clear H5 H7 Dv BI HB0;obtain ⟨v0,v1,v2,v3,v4,v5,v6,v7⟩:=zF Gd;obtain ⟨b0,b1,b2,b3,b4,b5,b6,b7,b8,b9⟩:=zG Gy
 go_cut [48] (fun Xv wx=>Xv = .bool false/\Hid (Below W3.heap.size W3 wx))
 case first =>
  cases pl with
  | true =>
   have z0:¬ (0:Int)<(v.rest.length:Int):=by have:=Od.out rfl;omega
   go_wp2_with fail
   refine (yJ v (by rw[KO.out];omega) A1 c1 A2 c2 A3 c3 W3).mono ?_
   rintro e w4 ⟨rfl,hb4⟩;rw[HP.out];have BA:=zh hb4;have v7:=zA hb4 v7;clear hb4;go_wp2;go_meet;exact ⟨by first|rfl|exact congrArg Value.bool (AAU (by omega)),BA.out⟩
  | false =>
   go_wp2_with fail
   refine (yJ v (by rw[KO.out];omega) A1 c1 A2 c2 A3 c3 W3).mono ?_
   rintro e w4 ⟨rfl,hb4⟩;rw[HP.out];have BA:=zh hb4;have v7:=zA hb4 v7;clear hb4;go_wp2;go_meet;exact ⟨by first|rfl|exact congrArg Value.bool (AAU (by omega)),BA.out⟩
 case rest =>
 obtain ⟨rfl,hcut⟩:=hcut;obtain ⟨w4,rfl⟩:∃W:World,W=wc:=⟨_,rfl⟩;have hb4:=hcut.out;clear hcut;have BA:=zh (zB HB3 hb4);have EL:=zh (Gy.out.below hb4);have Gf:=zh (zE Bg hb4);have F9:=zh (zE Gd hb4);have M8:=zh (HS.out.below BA);have HRR:=zh (HR.out.below BA);have Ct:=zh (EI.out.below hb4)
 clear hb4 v0 v1 v2 v3 v4 v5 v6 v7 b0 b1 b2 b3 b4 b5 b6 b7 b8 b9 HB3 Gy Bg Gd q0 EI;obtain ⟨v0,v1,v2,v3,v4,v5,v6,v7⟩:=zF F9;obtain ⟨b0,b1,b2,b3,b4,b5,b6,b7,b8,b9⟩:=zG EL;have x0:=zb Gf;go_upto_region 6 with fail
 have q1:=zk1 HK;have HD:=zh (fb1 (f:=AU s pl n) (plain:=pl) (v:=v) HK);go_wp2;go_ret;exact ⟨by rw[HD.out];rfl,BA.out⟩
theorem oD (pl:Bool) (_hv:zQ s=0) (_hn:Bq s) (_ih:Ed s A c pl n):LH s A c pl n 2:=by
 intro tn htn v A1 c1 A2 c2 A3 c3 w hsz hs hr hkx hvk hp hrest
 have hln:=hs.1.lt (by omega)
 obtain ⟨HB0,H5,H7⟩:=zy w (.cells #[.slice A s.length c] 31) (v.box A1 c1 A2 c2 A3 c3);have E5:=zh _ih;have HV:=zh _hv;have HN:=zh _hn;have HS:=zh hs;have HR:=zh hr;have FR:Hid (∀y,y∈v.keys\/y∈v.items->SizeOf.sizeOf y<=n):=hsz;have HP:=zh hp;have fB:=zh (AAK htn);obtain ⟨b,o,As,cs,Am,cm,hA,htr,t0,t1,t2,t3,t4,t5,t6,t7,t8,t9⟩:=(hs.below HB0).FQ htn;clear hs hr hp _ih _hv _hn
 subst hA;generalize s[tn]=x at *;have Dv:=zh htr;have HK:=zh hkx;have KO:=zh (hvk.trans hkx);have q0:(v.kind != x.kind)=false:=by simp[hvk]
 have Od:=zh hrest;clear htr hkx hvk hrest;have r1:¬ ((tn:Int)<0):=by omega
 have r2:¬ ((s.length:Int)<=(tn:Int)):=by omega
 have h1:(0:Int)<=(tn:Int):=by omega
 have h2:(tn:Int)<(s.length:Int):=by omega
 go_enter Tryz.func71,Tryz.ntmps71
 go_upto_region 1 with fail
 generalize (w.alloc (.cells #[.slice (some ⟨b,o,none⟩) s.length c] 31)).alloc (v.box A1 c1 A2 c2 A3 c3)=W2 at *;have x0:=zb H5;go_upto_region 4 with fail
 clear t0 t1 t2 t3 t4 t5 t6 t7 t8 t9 x0 r1 r2;have BI:=zh (zD W2 (x.box As cs Am cm));have Gy:Hid (BX (W2.alloc (x.box As cs Am cm)) W2.heap.size x As cs Am cm):=AAC W2 _;have Bg:=zh (zE H5 BI);have Gd:=zh (zE H7 BI);have HB3:=zh (zB HB0 BI);have EI:=zh (Dv.out.below BI);generalize W2.alloc (x.box As cs Am cm)=W3 at *
 generalize W2.heap.size=p9 at *;clear H5 H7 Dv BI HB0;obtain ⟨v0,v1,v2,v3,v4,v5,v6,v7⟩:=zF Gd;obtain ⟨b0,b1,b2,b3,b4,b5,b6,b7,b8,b9⟩:=zG Gy
 go_cut [48] (fun Xv wx=>Xv = .bool false/\Hid (Below W3.heap.size W3 wx))
 case first =>
  cases pl with
  | true =>
   have z0:¬ (0:Int)<(v.rest.length:Int):=by have:=Od.out rfl;omega
   go_wp2_with fail
   refine (yJ v (by rw[KO.out];omega) A1 c1 A2 c2 A3 c3 W3).mono ?_
   rintro e w4 ⟨rfl,hb4⟩;rw[HP.out];have BA:=zh hb4;have v7:=zA hb4 v7;clear hb4;go_wp2;go_meet;exact ⟨by first|rfl|exact congrArg Value.bool (AAU (by omega)),BA.out⟩
  | false =>
   go_wp2_with fail
   refine (yJ v (by rw[KO.out];omega) A1 c1 A2 c2 A3 c3 W3).mono ?_
   rintro e w4 ⟨rfl,hb4⟩;rw[HP.out];have BA:=zh hb4;have v7:=zA hb4 v7;clear hb4;go_wp2;go_meet;exact ⟨by first|rfl|exact congrArg Value.bool (AAU (by omega)),BA.out⟩
 case rest =>
 obtain ⟨rfl,hcut⟩:=hcut;obtain ⟨w4,rfl⟩:∃W:World,W=wc:=⟨_,rfl⟩;have hb4:=hcut.out;clear hcut;have BA:=zh (zB HB3 hb4);have EL:=zh (Gy.out.below hb4);have Gf:=zh (zE Bg hb4);have F9:=zh (zE Gd hb4);have M8:=zh (HS.out.below BA);have HRR:=zh (HR.out.below BA);have Ct:=zh (EI.out.below hb4)
 clear hb4 v0 v1 v2 v3 v4 v5 v6 v7 b0 b1 b2 b3 b4 b5 b6 b7 b8 b9 HB3 Gy Bg Gd q0 EI;obtain ⟨v0,v1,v2,v3,v4,v5,v6,v7⟩:=zF F9;obtain ⟨b0,b1,b2,b3,b4,b5,b6,b7,b8,b9⟩:=zG EL;have x0:=zb Gf;go_upto_region 6 with fail
 obtain ⟨q1,q2⟩:=zk2 HK;have HD0:=zh (fb2 (f:=AU s pl n) (plain:=pl) (v:=v) HK)
 by_cases g1:x.low<=v.int
 ·by_cases g2:v.int<=x.high
  ·have HD:Hid (AY (AU s pl n) pl x v=true):=by show _=_;rw[HD0.out];simp[g1,g2]
   go_wp2
   go_ret
   exact ⟨by rw[HD.out];rfl,BA.out⟩
  ·have HD:Hid (AY (AU s pl n) pl x v=false):=by show _=_;rw[HD0.out];simp[g2]
   go_wp2
   go_ret
   exact ⟨by rw[HD.out];rfl,BA.out⟩
 ·have HD:Hid (AY (AU s pl n) pl x v=false):=by show _=_;rw[HD0.out];simp[g1]
  go_wp2
  go_ret
  exact ⟨by rw[HD.out];rfl,BA.out⟩
theorem oC (pl:Bool) (_hv:zQ s=0) (_hn:Bq s) (_ih:Ed s A c pl n):LH s A c pl n 3:=by
 intro tn htn v A1 c1 A2 c2 A3 c3 w hsz hs hr hkx hvk hp hrest
 have hln:=hs.1.lt (by omega)
 obtain ⟨HB0,H5,H7⟩:=zy w (.cells #[.slice A s.length c] 31) (v.box A1 c1 A2 c2 A3 c3);have E5:=zh _ih;have HV:=zh _hv;have HN:=zh _hn;have HS:=zh hs;have HR:=zh hr;have FR:Hid (∀y,y∈v.keys\/y∈v.items->SizeOf.sizeOf y<=n):=hsz;have HP:=zh hp;have fB:=zh (AAK htn);obtain ⟨b,o,As,cs,Am,cm,hA,htr,t0,t1,t2,t3,t4,t5,t6,t7,t8,t9⟩:=(hs.below HB0).FQ htn;clear hs hr hp _ih _hv _hn
 subst hA;generalize s[tn]=x at *;have Dv:=zh htr;have HK:=zh hkx;have KO:=zh (hvk.trans hkx);have q0:(v.kind != x.kind)=false:=by simp[hvk]
 have Od:=zh hrest;clear htr hkx hvk hrest;have r1:¬ ((tn:Int)<0):=by omega
 have r2:¬ ((s.length:Int)<=(tn:Int)):=by omega
 have h1:(0:Int)<=(tn:Int):=by omega
 have h2:(tn:Int)<(s.length:Int):=by omega
 go_enter Tryz.func71,Tryz.ntmps71
 go_upto_region 1 with fail
 generalize (w.alloc (.cells #[.slice (some ⟨b,o,none⟩) s.length c] 31)).alloc (v.box A1 c1 A2 c2 A3 c3)=W2 at *;have x0:=zb H5;go_upto_region 4 with fail
 clear t0 t1 t2 t3 t4 t5 t6 t7 t8 t9 x0 r1 r2;have BI:=zh (zD W2 (x.box As cs Am cm));have Gy:Hid (BX (W2.alloc (x.box As cs Am cm)) W2.heap.size x As cs Am cm):=AAC W2 _;have Bg:=zh (zE H5 BI);have Gd:=zh (zE H7 BI);have HB3:=zh (zB HB0 BI);have EI:=zh (Dv.out.below BI);generalize W2.alloc (x.box As cs Am cm)=W3 at *
 generalize W2.heap.size=p9 at *;clear H5 H7 Dv BI HB0;obtain ⟨v0,v1,v2,v3,v4,v5,v6,v7⟩:=zF Gd;obtain ⟨b0,b1,b2,b3,b4,b5,b6,b7,b8,b9⟩:=zG Gy
 go_cut [48] (fun Xv wx=>Xv = .bool false/\Hid (Below W3.heap.size W3 wx))
 case first =>
  cases pl with
  | true =>
   have z0:¬ (0:Int)<(v.rest.length:Int):=by have:=Od.out rfl;omega
   go_wp2_with fail
   refine (yJ v (by rw[KO.out];omega) A1 c1 A2 c2 A3 c3 W3).mono ?_
   rintro e w4 ⟨rfl,hb4⟩;rw[HP.out];have BA:=zh hb4;have v7:=zA hb4 v7;clear hb4;go_wp2;go_meet;exact ⟨by first|rfl|exact congrArg Value.bool (AAU (by omega)),BA.out⟩
  | false =>
   go_wp2_with fail
   refine (yJ v (by rw[KO.out];omega) A1 c1 A2 c2 A3 c3 W3).mono ?_
   rintro e w4 ⟨rfl,hb4⟩;rw[HP.out];have BA:=zh hb4;have v7:=zA hb4 v7;clear hb4;go_wp2;go_meet;exact ⟨by first|rfl|exact congrArg Value.bool (AAU (by omega)),BA.out⟩
 case rest =>
 obtain ⟨rfl,hcut⟩:=hcut;obtain ⟨w4,rfl⟩:∃W:World,W=wc:=⟨_,rfl⟩;have hb4:=hcut.out;clear hcut;have BA:=zh (zB HB3 hb4);have EL:=zh (Gy.out.below hb4);have Gf:=zh (zE Bg hb4);have F9:=zh (zE Gd hb4);have M8:=zh (HS.out.below BA);have HRR:=zh (HR.out.below BA);have Ct:=zh (EI.out.below hb4)
 clear hb4 v0 v1 v2 v3 v4 v5 v6 v7 b0 b1 b2 b3 b4 b5 b6 b7 b8 b9 HB3 Gy Bg Gd q0 EI;obtain ⟨v0,v1,v2,v3,v4,v5,v6,v7⟩:=zF F9;obtain ⟨b0,b1,b2,b3,b4,b5,b6,b7,b8,b9⟩:=zG EL;have x0:=zb Gf;go_upto_region 6 with fail
 obtain ⟨q1,q2,q3⟩:=zk3 HK;have HD0:=zh (fb3 (f:=AU s pl n) (plain:=pl) (v:=v) HK)
 by_cases g1:(v.str.size:Int)<=x.max
 ·have HD:Hid (AY (AU s pl n) pl x v=true):=by show _=_;rw[HD0.out];simp[g1]
  go_wp2
  go_ret
  exact ⟨by rw[HD.out];rfl,BA.out⟩
 ·have HD:Hid (AY (AU s pl n) pl x v=false):=by show _=_;rw[HD0.out];simp[g1]
  go_wp2
  go_ret
  exact ⟨by rw[HD.out];rfl,BA.out⟩
theorem nu (pl:Bool) (_hv:zQ s=0) (_hn:Bq s) (_ih:Ed s A c pl n):LH s A c pl n 7:=by
 intro tn htn v A1 c1 A2 c2 A3 c3 w hsz hs hr hkx hvk hp hrest
 have hln:=hs.1.lt (by omega)
 obtain ⟨HB0,H5,H7⟩:=zy w (.cells #[.slice A s.length c] 31) (v.box A1 c1 A2 c2 A3 c3);have E5:=zh _ih;have HV:=zh _hv;have HN:=zh _hn;have HS:=zh hs;have HR:=zh hr;have FR:Hid (∀y,y∈v.keys\/y∈v.items->SizeOf.sizeOf y<=n):=hsz;have HP:=zh hp;have fB:=zh (AAK htn);obtain ⟨b,o,As,cs,Am,cm,hA,htr,t0,t1,t2,t3,t4,t5,t6,t7,t8,t9⟩:=(hs.below HB0).FQ htn;clear hs hr hp _ih _hv _hn
 subst hA;generalize s[tn]=x at *;have Dv:=zh htr;have HK:=zh hkx;have KO:=zh (hvk.trans hkx);have q0:(v.kind != x.kind)=false:=by simp[hvk]
 have Od:=zh hrest;clear htr hkx hvk hrest;have r1:¬ ((tn:Int)<0):=by omega
 have r2:¬ ((s.length:Int)<=(tn:Int)):=by omega
 have h1:(0:Int)<=(tn:Int):=by omega
 have h2:(tn:Int)<(s.length:Int):=by omega
 go_enter Tryz.func71,Tryz.ntmps71
 go_upto_region 1 with fail
 generalize (w.alloc (.cells #[.slice (some ⟨b,o,none⟩) s.length c] 31)).alloc (v.box A1 c1 A2 c2 A3 c3)=W2 at *;have x0:=zb H5;go_upto_region 4 with fail
 clear t0 t1 t2 t3 t4 t5 t6 t7 t8 t9 x0 r1 r2;have BI:=zh (zD W2 (x.box As cs Am cm));have Gy:Hid (BX (W2.alloc (x.box As cs Am cm)) W2.heap.size x As cs Am cm):=AAC W2 _;have Bg:=zh (zE H5 BI);have Gd:=zh (zE H7 BI);have HB3:=zh (zB HB0 BI);have EI:=zh (Dv.out.below BI);generalize W2.alloc (x.box As cs Am cm)=W3 at *
 generalize W2.heap.size=p9 at *;clear H5 H7 Dv BI HB0;obtain ⟨v0,v1,v2,v3,v4,v5,v6,v7⟩:=zF Gd;obtain ⟨b0,b1,b2,b3,b4,b5,b6,b7,b8,b9⟩:=zG Gy
 go_cut [48] (fun Xv wx=>Xv = .bool false/\Hid (Below W3.heap.size W3 wx))
 case first =>
  cases pl with
  | true =>
   have z0:¬ (0:Int)<(v.rest.length:Int):=by have:=Od.out rfl;omega
   go_wp2_with fail
   refine (yJ v (by rw[KO.out];omega) A1 c1 A2 c2 A3 c3 W3).mono ?_
   rintro e w4 ⟨rfl,hb4⟩;rw[HP.out];have BA:=zh hb4;have v7:=zA hb4 v7;clear hb4;go_wp2;go_meet;exact ⟨by first|rfl|exact congrArg Value.bool (AAU (by omega)),BA.out⟩
  | false =>
   go_wp2_with fail
   refine (yJ v (by rw[KO.out];omega) A1 c1 A2 c2 A3 c3 W3).mono ?_
   rintro e w4 ⟨rfl,hb4⟩;rw[HP.out];have BA:=zh hb4;have v7:=zA hb4 v7;clear hb4;go_wp2;go_meet;exact ⟨by first|rfl|exact congrArg Value.bool (AAU (by omega)),BA.out⟩
 case rest =>
 obtain ⟨rfl,hcut⟩:=hcut;obtain ⟨w4,rfl⟩:∃W:World,W=wc:=⟨_,rfl⟩;have hb4:=hcut.out;clear hcut;have BA:=zh (zB HB3 hb4);have EL:=zh (Gy.out.below hb4);have Gf:=zh (zE Bg hb4);have F9:=zh (zE Gd hb4);have M8:=zh (HS.out.below BA);have HRR:=zh (HR.out.below BA);have Ct:=zh (EI.out.below hb4)
 clear hb4 v0 v1 v2 v3 v4 v5 v6 v7 b0 b1 b2 b3 b4 b5 b6 b7 b8 b9 HB3 Gy Bg Gd q0 EI;obtain ⟨v0,v1,v2,v3,v4,v5,v6,v7⟩:=zF F9;obtain ⟨b0,b1,b2,b3,b4,b5,b6,b7,b8,b9⟩:=zG EL;have x0:=zb Gf;go_upto_region 6 with fail
 obtain ⟨q1,q2,q3,q4,q5,q6,q7⟩:=zk7 HK;have HD0:=zh (fb7 (f:=AU s pl n) (plain:=pl) (v:=v) HK);have gG:=HRR.out.items.1.lt (by omega)
 by_cases g1:(v.items.length:Int)<=x.max
 ·have HD:Hid (AY (AU s pl n) pl x v=v.items.all fun y=>AU s pl n x.elem y):=by show _=_;rw[HD0.out];simp[g1]
  go_wp2_with fail
  refine (Km E5 x.elem v.items A2 c2 _ (fun y hy=>FR.out y (.inr hy)) (HS.out.below BA) (HR.out.below BA).items).mono ?_
  rintro e w5 ⟨rfl,hb5⟩;have Ap:=zh (zB BA hb5);clear hb5;clear g1 v0 v1 v2 v3 v4 v5 v6 v7 b0 b1 b2 b3 b4 b5 b6 b7 b8 b9 x0;obtain ⟨X,hX⟩:∃X,(v.items.all fun y=>AU s pl n x.elem y)=X:=⟨_,rfl⟩
  rw[hX];have HD2:Hid (AY (AU s pl n) pl x v=X):=HD.out.trans hX;clear hX;go_wp2;go_ret;exact ⟨by rw[HD2.out];rfl,Ap.out⟩
 ·have HD:Hid (AY (AU s pl n) pl x v=false):=by show _=_;rw[HD0.out];simp[g1]
  go_wp2
  go_ret
  exact ⟨by rw[HD.out];rfl,BA.out⟩
theorem ni (pl:Bool) (_hv:zQ s=0) (_hn:Bq s) (_ih:Ed s A c pl n):LH s A c pl n 9:=by
 intro tn htn v A1 c1 A2 c2 A3 c3 w hsz hs hr hkx hvk hp hrest
 have hln:=hs.1.lt (by omega)
 obtain ⟨HB0,H5,H7⟩:=zy w (.cells #[.slice A s.length c] 31) (v.box A1 c1 A2 c2 A3 c3);have E5:=zh _ih;have HV:=zh _hv;have HN:=zh _hn;have HS:=zh hs;have HR:=zh hr;have FR:Hid (∀y,y∈v.keys\/y∈v.items->SizeOf.sizeOf y<=n):=hsz;have HP:=zh hp;have fB:=zh (AAK htn);obtain ⟨b,o,As,cs,Am,cm,hA,htr,t0,t1,t2,t3,t4,t5,t6,t7,t8,t9⟩:=(hs.below HB0).FQ htn;clear hs hr hp _ih _hv _hn
 subst hA;generalize s[tn]=x at *;have Dv:=zh htr;have HK:=zh hkx;have KO:=zh (hvk.trans hkx);have q0:(v.kind != x.kind)=false:=by simp[hvk]
 have Od:=zh hrest;clear htr hkx hvk hrest;have r1:¬ ((tn:Int)<0):=by omega
 have r2:¬ ((s.length:Int)<=(tn:Int)):=by omega
 have h1:(0:Int)<=(tn:Int):=by omega
 have h2:(tn:Int)<(s.length:Int):=by omega
 go_enter Tryz.func71,Tryz.ntmps71
 go_upto_region 1 with fail
 generalize (w.alloc (.cells #[.slice (some ⟨b,o,none⟩) s.length c] 31)).alloc (v.box A1 c1 A2 c2 A3 c3)=W2 at *;have x0:=zb H5;go_upto_region 4 with fail
 clear t0 t1 t2 t3 t4 t5 t6 t7 t8 t9 x0 r1 r2;have BI:=zh (zD W2 (x.box As cs Am cm));have Gy:Hid (BX (W2.alloc (x.box As cs Am cm)) W2.heap.size x As cs Am cm):=AAC W2 _;have Bg:=zh (zE H5 BI);have Gd:=zh (zE H7 BI);have HB3:=zh (zB HB0 BI);have EI:=zh (Dv.out.below BI);generalize W2.alloc (x.box As cs Am cm)=W3 at *
 generalize W2.heap.size=p9 at *;clear H5 H7 Dv BI HB0;obtain ⟨v0,v1,v2,v3,v4,v5,v6,v7⟩:=zF Gd;obtain ⟨b0,b1,b2,b3,b4,b5,b6,b7,b8,b9⟩:=zG Gy
 go_cut [48] (fun Xv wx=>Xv = .bool false/\Hid (Below W3.heap.size W3 wx))
 case first =>
  cases pl with
  | true =>
   have z0:¬ (0:Int)<(v.rest.length:Int):=by have:=Od.out rfl;omega
   go_wp2_with fail
   refine (yJ v (by rw[KO.out];omega) A1 c1 A2 c2 A3 c3 W3).mono ?_
   rintro e w4 ⟨rfl,hb4⟩;rw[HP.out];have BA:=zh hb4;have v7:=zA hb4 v7;clear hb4;go_wp2;go_meet;exact ⟨by first|rfl|exact congrArg Value.bool (AAU (by omega)),BA.out⟩
  | false =>
   go_wp2_with fail
   refine (yJ v (by rw[KO.out];omega) A1 c1 A2 c2 A3 c3 W3).mono ?_
   rintro e w4 ⟨rfl,hb4⟩;rw[HP.out];have BA:=zh hb4;have v7:=zA hb4 v7;clear hb4;go_wp2;go_meet;exact ⟨by first|rfl|exact congrArg Value.bool (AAU (by omega)),BA.out⟩
 case rest =>
 obtain ⟨rfl,hcut⟩:=hcut;obtain ⟨w4,rfl⟩:∃W:World,W=wc:=⟨_,rfl⟩;have hb4:=hcut.out;clear hcut;have BA:=zh (zB HB3 hb4);have EL:=zh (Gy.out.below hb4);have Gf:=zh (zE Bg hb4);have F9:=zh (zE Gd hb4);have M8:=zh (HS.out.below BA);have HRR:=zh (HR.out.below BA);have Ct:=zh (EI.out.below hb4)
 clear hb4 v0 v1 v2 v3 v4 v5 v6 v7 b0 b1 b2 b3 b4 b5 b6 b7 b8 b9 HB3 Gy Bg Gd q0 EI;obtain ⟨v0,v1,v2,v3,v4,v5,v6,v7⟩:=zF F9;obtain ⟨b0,b1,b2,b3,b4,b5,b6,b7,b8,b9⟩:=zG EL;have x0:=zb Gf;go_upto_region 6 with fail
 obtain ⟨q1,q2,q3,q4,q5,q6,q7,q8⟩:=zk9 HK;have HD0:=zh (fb9 (f:=AU s pl n) (plain:=pl) (v:=v) HK);have gG:=HRR.out.items.1.lt (by omega)
 by_cases g1:v.items.length<=1
 ·have HD:Hid (AY (AU s pl n) pl x v=v.items.all fun y=>AU s pl n x.elem y):=by show _=_;rw[HD0.out];simp[g1]
  have g2:((v.items.length:Int)<=1)=(v.items.length<=1):=by simp only[eq_iff_iff];omega
  go_wp2_with fail
  refine (Km E5 x.elem v.items A2 c2 _ (fun y hy=>FR.out y (.inr hy)) (HS.out.below BA) (HR.out.below BA).items).mono ?_
  rintro e w5 ⟨rfl,hb5⟩;have Ap:=zh (zB BA hb5);clear hb5;clear g1 v0 v1 v2 v3 v4 v5 v6 v7 b0 b1 b2 b3 b4 b5 b6 b7 b8 b9 x0;obtain ⟨X,hX⟩:∃X,(v.items.all fun y=>AU s pl n x.elem y)=X:=⟨_,rfl⟩
  rw[hX];have HD2:Hid (AY (AU s pl n) pl x v=X):=HD.out.trans hX;clear hX;go_wp2;go_ret;exact ⟨by rw[HD2.out];rfl,Ap.out⟩
 ·have HD:Hid (AY (AU s pl n) pl x v=false):=by show _=_;rw[HD0.out];simp[g1]
  have g2:((v.items.length:Int)<=1)=(v.items.length<=1):=by simp only[eq_iff_iff];omega
  go_wp2
  go_ret
  exact ⟨by rw[HD.out];rfl,BA.out⟩
end Go.Proofs.YthkkllmmbefedaaGreatDoor



