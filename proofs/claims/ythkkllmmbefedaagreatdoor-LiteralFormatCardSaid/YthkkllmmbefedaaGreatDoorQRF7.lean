/-
  Walks: the reference's fit, kinds 1, 2, 3, 7, 9.
-/
import Derived.Test.YthkkllmmbefedaaGreatDoorQGC0
namespace Go.Proofs.YthkkllmmbefedaaGreatDoor
open Go.RowKit
set_option maxHeartbeats 16000000
set_option maxRecDepth 100000
theorem rfit_1 (pl:Bool) {s:List TyD} {A:zo} {c n:Nat} (_hv:zQ s=0) (_hn:Num64 s) (_ih:RFitAt s A c pl n):RFitK s A c pl n 1:=by
 intro tn htn v A1 c1 A2 c2 A3 c3 w hsz hs hr hkx hvk hp hrest
 have hln:=hs.1.lt (by omega)
 obtain ⟨HB0,H5,H7⟩:=zy w (.cells #[.slice A s.length c] 31) (v.box A1 c1 A2 c2 A3 c3);have HIH:=zh _ih;have HV:=zh _hv;have HN:=zh _hn;have HS:=zh hs;have HR:=zh hr;have HSZ:Hid (∀y,y∈v.keys∨y∈v.items→SizeOf.sizeOf y≤n):=hsz;have HP:=zh hp;have HXM:=zh (List.getElem_mem htn);obtain ⟨b,o,As,cs,Am,cm,hA,htr,t0,t1,t2,t3,t4,t5,t6,t7,t8,t9⟩:=(hs.below HB0.out).at10 htn;clear hs hr hp _ih _hv _hn
 subst hA;generalize s[tn]=x at *;have HTR:=zh htr;have HK:=zh hkx;have HVK:=zh (hvk.trans hkx);have q0:(v.kind != x.kind)=false:=by simp[hvk]
 have HRE:=zh hrest;clear htr hkx hvk hrest;have r1:¬ ((tn:Int)<0):=by omega
 have r2:¬ ((s.length:Int)≤(tn:Int)):=by omega
 have h1:(0:Int)≤(tn:Int):=by omega
 have h2:(tn:Int)<(s.length:Int):=by omega
 go_enter Tryz.func71,Tryz.ntmps71
 go_upto_region 1 with fail
 generalize (w.alloc (.cells #[.slice (some ⟨b,o,none⟩) s.length c] 31)).alloc (v.box A1 c1 A2 c2 A3 c3)=W2 at *;have x0:=zb H5.out;go_upto_region 4 with fail
 clear t0 t1 t2 t3 t4 t5 t6 t7 t8 t9 x0 r1 r2;have HBX:=zh (zD W2 (x.box As cs Am cm));have HXT:Hid (TBox (W2.alloc (x.box As cs Am cm)) W2.heap.size x As cs Am cm):=heap_alloc_new W2 _;have HX5:=zh (zE H5.out HBX.out);have HX7:=zh (zE H7.out HBX.out);have HB3:=zh (zB HB0.out HBX.out);have HTR3:=zh (HTR.out.below HBX.out);generalize W2.alloc (x.box As cs Am cm)=W3 at *
 generalize W2.heap.size=p9 at *;clear H5 H7 HTR HBX HB0;obtain ⟨v0,v1,v2,v3,v4,v5,v6,v7⟩:=zF HX7.out;obtain ⟨b0,b1,b2,b3,b4,b5,b6,b7,b8,b9⟩:=zG HXT.out
 go_cut [48] (fun s48 wx=>s48 = .bool false∧Hid (Below W3.heap.size W3 wx))
 case first =>
  cases pl with
  | true =>
   have z0:¬ (0:Int)<(v.rest.length:Int):=by have:=HRE.out rfl;omega
   go_wp2_with fail
   refine (yJ v (by rw[HVK.out];omega) A1 c1 A2 c2 A3 c3 W3).mono ?_
   rintro e w4 ⟨rfl,hb4⟩;rw[HP.out];have HB4:=zh hb4;have v7:=zA hb4 v7;clear hb4;go_wp2;go_meet;exact ⟨by first|rfl|exact congrArg Value.bool (decide_eq_false (by omega)),HB4.out⟩
  | false =>
   go_wp2_with fail
   refine (yJ v (by rw[HVK.out];omega) A1 c1 A2 c2 A3 c3 W3).mono ?_
   rintro e w4 ⟨rfl,hb4⟩;rw[HP.out];have HB4:=zh hb4;have v7:=zA hb4 v7;clear hb4;go_wp2;go_meet;exact ⟨by first|rfl|exact congrArg Value.bool (decide_eq_false (by omega)),HB4.out⟩
 case rest =>
 obtain ⟨rfl,hcut⟩:=hcut;obtain ⟨w4,rfl⟩:∃W:World,W=wc:=⟨_,rfl⟩;have hb4:=hcut.out;clear hcut;have HB4:=zh (zB HB3.out hb4);have HXT4:=zh (HXT.out.below hb4);have HX5a:=zh (zE HX5.out hb4);have HX7a:=zh (zE HX7.out hb4);have HSS:=zh (HS.out.below HB4.out);have HRR:=zh (HR.out.below HB4.out);have HTR4:=zh (HTR3.out.below hb4)
 clear hb4 v0 v1 v2 v3 v4 v5 v6 v7 b0 b1 b2 b3 b4 b5 b6 b7 b8 b9 HB3 HXT HX5 HX7 q0 HTR3;obtain ⟨v0,v1,v2,v3,v4,v5,v6,v7⟩:=zF HX7a.out;obtain ⟨b0,b1,b2,b3,b4,b5,b6,b7,b8,b9⟩:=zG HXT4.out;have x0:=zb HX5a.out;go_upto_region 6 with fail
 have q1:=zk1 HK.out;have HD:=zh (fb1 (f:=fitF s pl n) (plain:=pl) (v:=v) HK.out);go_wp2;go_ret;exact ⟨by rw[HD.out];rfl,HB4.out⟩
theorem rfit_2 (pl:Bool) {s:List TyD} {A:zo} {c n:Nat} (_hv:zQ s=0) (_hn:Num64 s) (_ih:RFitAt s A c pl n):RFitK s A c pl n 2:=by
 intro tn htn v A1 c1 A2 c2 A3 c3 w hsz hs hr hkx hvk hp hrest
 have hln:=hs.1.lt (by omega)
 obtain ⟨HB0,H5,H7⟩:=zy w (.cells #[.slice A s.length c] 31) (v.box A1 c1 A2 c2 A3 c3);have HIH:=zh _ih;have HV:=zh _hv;have HN:=zh _hn;have HS:=zh hs;have HR:=zh hr;have HSZ:Hid (∀y,y∈v.keys∨y∈v.items→SizeOf.sizeOf y≤n):=hsz;have HP:=zh hp;have HXM:=zh (List.getElem_mem htn);obtain ⟨b,o,As,cs,Am,cm,hA,htr,t0,t1,t2,t3,t4,t5,t6,t7,t8,t9⟩:=(hs.below HB0.out).at10 htn;clear hs hr hp _ih _hv _hn
 subst hA;generalize s[tn]=x at *;have HTR:=zh htr;have HK:=zh hkx;have HVK:=zh (hvk.trans hkx);have q0:(v.kind != x.kind)=false:=by simp[hvk]
 have HRE:=zh hrest;clear htr hkx hvk hrest;have r1:¬ ((tn:Int)<0):=by omega
 have r2:¬ ((s.length:Int)≤(tn:Int)):=by omega
 have h1:(0:Int)≤(tn:Int):=by omega
 have h2:(tn:Int)<(s.length:Int):=by omega
 go_enter Tryz.func71,Tryz.ntmps71
 go_upto_region 1 with fail
 generalize (w.alloc (.cells #[.slice (some ⟨b,o,none⟩) s.length c] 31)).alloc (v.box A1 c1 A2 c2 A3 c3)=W2 at *;have x0:=zb H5.out;go_upto_region 4 with fail
 clear t0 t1 t2 t3 t4 t5 t6 t7 t8 t9 x0 r1 r2;have HBX:=zh (zD W2 (x.box As cs Am cm));have HXT:Hid (TBox (W2.alloc (x.box As cs Am cm)) W2.heap.size x As cs Am cm):=heap_alloc_new W2 _;have HX5:=zh (zE H5.out HBX.out);have HX7:=zh (zE H7.out HBX.out);have HB3:=zh (zB HB0.out HBX.out);have HTR3:=zh (HTR.out.below HBX.out);generalize W2.alloc (x.box As cs Am cm)=W3 at *
 generalize W2.heap.size=p9 at *;clear H5 H7 HTR HBX HB0;obtain ⟨v0,v1,v2,v3,v4,v5,v6,v7⟩:=zF HX7.out;obtain ⟨b0,b1,b2,b3,b4,b5,b6,b7,b8,b9⟩:=zG HXT.out
 go_cut [48] (fun s48 wx=>s48 = .bool false∧Hid (Below W3.heap.size W3 wx))
 case first =>
  cases pl with
  | true =>
   have z0:¬ (0:Int)<(v.rest.length:Int):=by have:=HRE.out rfl;omega
   go_wp2_with fail
   refine (yJ v (by rw[HVK.out];omega) A1 c1 A2 c2 A3 c3 W3).mono ?_
   rintro e w4 ⟨rfl,hb4⟩;rw[HP.out];have HB4:=zh hb4;have v7:=zA hb4 v7;clear hb4;go_wp2;go_meet;exact ⟨by first|rfl|exact congrArg Value.bool (decide_eq_false (by omega)),HB4.out⟩
  | false =>
   go_wp2_with fail
   refine (yJ v (by rw[HVK.out];omega) A1 c1 A2 c2 A3 c3 W3).mono ?_
   rintro e w4 ⟨rfl,hb4⟩;rw[HP.out];have HB4:=zh hb4;have v7:=zA hb4 v7;clear hb4;go_wp2;go_meet;exact ⟨by first|rfl|exact congrArg Value.bool (decide_eq_false (by omega)),HB4.out⟩
 case rest =>
 obtain ⟨rfl,hcut⟩:=hcut;obtain ⟨w4,rfl⟩:∃W:World,W=wc:=⟨_,rfl⟩;have hb4:=hcut.out;clear hcut;have HB4:=zh (zB HB3.out hb4);have HXT4:=zh (HXT.out.below hb4);have HX5a:=zh (zE HX5.out hb4);have HX7a:=zh (zE HX7.out hb4);have HSS:=zh (HS.out.below HB4.out);have HRR:=zh (HR.out.below HB4.out);have HTR4:=zh (HTR3.out.below hb4)
 clear hb4 v0 v1 v2 v3 v4 v5 v6 v7 b0 b1 b2 b3 b4 b5 b6 b7 b8 b9 HB3 HXT HX5 HX7 q0 HTR3;obtain ⟨v0,v1,v2,v3,v4,v5,v6,v7⟩:=zF HX7a.out;obtain ⟨b0,b1,b2,b3,b4,b5,b6,b7,b8,b9⟩:=zG HXT4.out;have x0:=zb HX5a.out;go_upto_region 6 with fail
 obtain ⟨q1,q2⟩:=zk2 HK.out;have HD0:=zh (fb2 (f:=fitF s pl n) (plain:=pl) (v:=v) HK.out)
 by_cases g1:x.low≤v.int
 ·by_cases g2:v.int≤x.high
  ·have HD:Hid (fitB (fitF s pl n) pl x v=true):=by show _=_;rw[HD0.out];simp[g1,g2]
   go_wp2
   go_ret
   exact ⟨by rw[HD.out];rfl,HB4.out⟩
  ·have HD:Hid (fitB (fitF s pl n) pl x v=false):=by show _=_;rw[HD0.out];simp[g2]
   go_wp2
   go_ret
   exact ⟨by rw[HD.out];rfl,HB4.out⟩
 ·have HD:Hid (fitB (fitF s pl n) pl x v=false):=by show _=_;rw[HD0.out];simp[g1]
  go_wp2
  go_ret
  exact ⟨by rw[HD.out];rfl,HB4.out⟩
theorem rfit_3 (pl:Bool) {s:List TyD} {A:zo} {c n:Nat} (_hv:zQ s=0) (_hn:Num64 s) (_ih:RFitAt s A c pl n):RFitK s A c pl n 3:=by
 intro tn htn v A1 c1 A2 c2 A3 c3 w hsz hs hr hkx hvk hp hrest
 have hln:=hs.1.lt (by omega)
 obtain ⟨HB0,H5,H7⟩:=zy w (.cells #[.slice A s.length c] 31) (v.box A1 c1 A2 c2 A3 c3);have HIH:=zh _ih;have HV:=zh _hv;have HN:=zh _hn;have HS:=zh hs;have HR:=zh hr;have HSZ:Hid (∀y,y∈v.keys∨y∈v.items→SizeOf.sizeOf y≤n):=hsz;have HP:=zh hp;have HXM:=zh (List.getElem_mem htn);obtain ⟨b,o,As,cs,Am,cm,hA,htr,t0,t1,t2,t3,t4,t5,t6,t7,t8,t9⟩:=(hs.below HB0.out).at10 htn;clear hs hr hp _ih _hv _hn
 subst hA;generalize s[tn]=x at *;have HTR:=zh htr;have HK:=zh hkx;have HVK:=zh (hvk.trans hkx);have q0:(v.kind != x.kind)=false:=by simp[hvk]
 have HRE:=zh hrest;clear htr hkx hvk hrest;have r1:¬ ((tn:Int)<0):=by omega
 have r2:¬ ((s.length:Int)≤(tn:Int)):=by omega
 have h1:(0:Int)≤(tn:Int):=by omega
 have h2:(tn:Int)<(s.length:Int):=by omega
 go_enter Tryz.func71,Tryz.ntmps71
 go_upto_region 1 with fail
 generalize (w.alloc (.cells #[.slice (some ⟨b,o,none⟩) s.length c] 31)).alloc (v.box A1 c1 A2 c2 A3 c3)=W2 at *;have x0:=zb H5.out;go_upto_region 4 with fail
 clear t0 t1 t2 t3 t4 t5 t6 t7 t8 t9 x0 r1 r2;have HBX:=zh (zD W2 (x.box As cs Am cm));have HXT:Hid (TBox (W2.alloc (x.box As cs Am cm)) W2.heap.size x As cs Am cm):=heap_alloc_new W2 _;have HX5:=zh (zE H5.out HBX.out);have HX7:=zh (zE H7.out HBX.out);have HB3:=zh (zB HB0.out HBX.out);have HTR3:=zh (HTR.out.below HBX.out);generalize W2.alloc (x.box As cs Am cm)=W3 at *
 generalize W2.heap.size=p9 at *;clear H5 H7 HTR HBX HB0;obtain ⟨v0,v1,v2,v3,v4,v5,v6,v7⟩:=zF HX7.out;obtain ⟨b0,b1,b2,b3,b4,b5,b6,b7,b8,b9⟩:=zG HXT.out
 go_cut [48] (fun s48 wx=>s48 = .bool false∧Hid (Below W3.heap.size W3 wx))
 case first =>
  cases pl with
  | true =>
   have z0:¬ (0:Int)<(v.rest.length:Int):=by have:=HRE.out rfl;omega
   go_wp2_with fail
   refine (yJ v (by rw[HVK.out];omega) A1 c1 A2 c2 A3 c3 W3).mono ?_
   rintro e w4 ⟨rfl,hb4⟩;rw[HP.out];have HB4:=zh hb4;have v7:=zA hb4 v7;clear hb4;go_wp2;go_meet;exact ⟨by first|rfl|exact congrArg Value.bool (decide_eq_false (by omega)),HB4.out⟩
  | false =>
   go_wp2_with fail
   refine (yJ v (by rw[HVK.out];omega) A1 c1 A2 c2 A3 c3 W3).mono ?_
   rintro e w4 ⟨rfl,hb4⟩;rw[HP.out];have HB4:=zh hb4;have v7:=zA hb4 v7;clear hb4;go_wp2;go_meet;exact ⟨by first|rfl|exact congrArg Value.bool (decide_eq_false (by omega)),HB4.out⟩
 case rest =>
 obtain ⟨rfl,hcut⟩:=hcut;obtain ⟨w4,rfl⟩:∃W:World,W=wc:=⟨_,rfl⟩;have hb4:=hcut.out;clear hcut;have HB4:=zh (zB HB3.out hb4);have HXT4:=zh (HXT.out.below hb4);have HX5a:=zh (zE HX5.out hb4);have HX7a:=zh (zE HX7.out hb4);have HSS:=zh (HS.out.below HB4.out);have HRR:=zh (HR.out.below HB4.out);have HTR4:=zh (HTR3.out.below hb4)
 clear hb4 v0 v1 v2 v3 v4 v5 v6 v7 b0 b1 b2 b3 b4 b5 b6 b7 b8 b9 HB3 HXT HX5 HX7 q0 HTR3;obtain ⟨v0,v1,v2,v3,v4,v5,v6,v7⟩:=zF HX7a.out;obtain ⟨b0,b1,b2,b3,b4,b5,b6,b7,b8,b9⟩:=zG HXT4.out;have x0:=zb HX5a.out;go_upto_region 6 with fail
 obtain ⟨q1,q2,q3⟩:=zk3 HK.out;have HD0:=zh (fb3 (f:=fitF s pl n) (plain:=pl) (v:=v) HK.out)
 by_cases g1:(v.str.size:Int)≤x.max
 ·have HD:Hid (fitB (fitF s pl n) pl x v=true):=by show _=_;rw[HD0.out];simp[g1]
  go_wp2
  go_ret
  exact ⟨by rw[HD.out];rfl,HB4.out⟩
 ·have HD:Hid (fitB (fitF s pl n) pl x v=false):=by show _=_;rw[HD0.out];simp[g1]
  go_wp2
  go_ret
  exact ⟨by rw[HD.out];rfl,HB4.out⟩
theorem rfit_7 (pl:Bool) {s:List TyD} {A:zo} {c n:Nat} (_hv:zQ s=0) (_hn:Num64 s) (_ih:RFitAt s A c pl n):RFitK s A c pl n 7:=by
 intro tn htn v A1 c1 A2 c2 A3 c3 w hsz hs hr hkx hvk hp hrest
 have hln:=hs.1.lt (by omega)
 obtain ⟨HB0,H5,H7⟩:=zy w (.cells #[.slice A s.length c] 31) (v.box A1 c1 A2 c2 A3 c3);have HIH:=zh _ih;have HV:=zh _hv;have HN:=zh _hn;have HS:=zh hs;have HR:=zh hr;have HSZ:Hid (∀y,y∈v.keys∨y∈v.items→SizeOf.sizeOf y≤n):=hsz;have HP:=zh hp;have HXM:=zh (List.getElem_mem htn);obtain ⟨b,o,As,cs,Am,cm,hA,htr,t0,t1,t2,t3,t4,t5,t6,t7,t8,t9⟩:=(hs.below HB0.out).at10 htn;clear hs hr hp _ih _hv _hn
 subst hA;generalize s[tn]=x at *;have HTR:=zh htr;have HK:=zh hkx;have HVK:=zh (hvk.trans hkx);have q0:(v.kind != x.kind)=false:=by simp[hvk]
 have HRE:=zh hrest;clear htr hkx hvk hrest;have r1:¬ ((tn:Int)<0):=by omega
 have r2:¬ ((s.length:Int)≤(tn:Int)):=by omega
 have h1:(0:Int)≤(tn:Int):=by omega
 have h2:(tn:Int)<(s.length:Int):=by omega
 go_enter Tryz.func71,Tryz.ntmps71
 go_upto_region 1 with fail
 generalize (w.alloc (.cells #[.slice (some ⟨b,o,none⟩) s.length c] 31)).alloc (v.box A1 c1 A2 c2 A3 c3)=W2 at *;have x0:=zb H5.out;go_upto_region 4 with fail
 clear t0 t1 t2 t3 t4 t5 t6 t7 t8 t9 x0 r1 r2;have HBX:=zh (zD W2 (x.box As cs Am cm));have HXT:Hid (TBox (W2.alloc (x.box As cs Am cm)) W2.heap.size x As cs Am cm):=heap_alloc_new W2 _;have HX5:=zh (zE H5.out HBX.out);have HX7:=zh (zE H7.out HBX.out);have HB3:=zh (zB HB0.out HBX.out);have HTR3:=zh (HTR.out.below HBX.out);generalize W2.alloc (x.box As cs Am cm)=W3 at *
 generalize W2.heap.size=p9 at *;clear H5 H7 HTR HBX HB0;obtain ⟨v0,v1,v2,v3,v4,v5,v6,v7⟩:=zF HX7.out;obtain ⟨b0,b1,b2,b3,b4,b5,b6,b7,b8,b9⟩:=zG HXT.out
 go_cut [48] (fun s48 wx=>s48 = .bool false∧Hid (Below W3.heap.size W3 wx))
 case first =>
  cases pl with
  | true =>
   have z0:¬ (0:Int)<(v.rest.length:Int):=by have:=HRE.out rfl;omega
   go_wp2_with fail
   refine (yJ v (by rw[HVK.out];omega) A1 c1 A2 c2 A3 c3 W3).mono ?_
   rintro e w4 ⟨rfl,hb4⟩;rw[HP.out];have HB4:=zh hb4;have v7:=zA hb4 v7;clear hb4;go_wp2;go_meet;exact ⟨by first|rfl|exact congrArg Value.bool (decide_eq_false (by omega)),HB4.out⟩
  | false =>
   go_wp2_with fail
   refine (yJ v (by rw[HVK.out];omega) A1 c1 A2 c2 A3 c3 W3).mono ?_
   rintro e w4 ⟨rfl,hb4⟩;rw[HP.out];have HB4:=zh hb4;have v7:=zA hb4 v7;clear hb4;go_wp2;go_meet;exact ⟨by first|rfl|exact congrArg Value.bool (decide_eq_false (by omega)),HB4.out⟩
 case rest =>
 obtain ⟨rfl,hcut⟩:=hcut;obtain ⟨w4,rfl⟩:∃W:World,W=wc:=⟨_,rfl⟩;have hb4:=hcut.out;clear hcut;have HB4:=zh (zB HB3.out hb4);have HXT4:=zh (HXT.out.below hb4);have HX5a:=zh (zE HX5.out hb4);have HX7a:=zh (zE HX7.out hb4);have HSS:=zh (HS.out.below HB4.out);have HRR:=zh (HR.out.below HB4.out);have HTR4:=zh (HTR3.out.below hb4)
 clear hb4 v0 v1 v2 v3 v4 v5 v6 v7 b0 b1 b2 b3 b4 b5 b6 b7 b8 b9 HB3 HXT HX5 HX7 q0 HTR3;obtain ⟨v0,v1,v2,v3,v4,v5,v6,v7⟩:=zF HX7a.out;obtain ⟨b0,b1,b2,b3,b4,b5,b6,b7,b8,b9⟩:=zG HXT4.out;have x0:=zb HX5a.out;go_upto_region 6 with fail
 obtain ⟨q1,q2,q3,q4,q5,q6,q7⟩:=zk7 HK.out;have HD0:=zh (fb7 (f:=fitF s pl n) (plain:=pl) (v:=v) HK.out);have hli:=HRR.out.items.1.lt (by omega)
 by_cases g1:(v.items.length:Int)≤x.max
 ·have HD:Hid (fitB (fitF s pl n) pl x v=v.items.all fun y=>fitF s pl n x.elem y):=by show _=_;rw[HD0.out];simp[g1]
  go_wp2_with fail
  refine (rAll_any HIH.out x.elem v.items A2 c2 _ (fun y hy=>HSZ.out y (.inr hy)) (HS.out.below HB4.out) (HR.out.below HB4.out).items).mono ?_
  rintro e w5 ⟨rfl,hb5⟩;have HB5:=zh (zB HB4.out hb5);clear hb5;clear g1 v0 v1 v2 v3 v4 v5 v6 v7 b0 b1 b2 b3 b4 b5 b6 b7 b8 b9 x0;obtain ⟨X,hX⟩:∃X,(v.items.all fun y=>fitF s pl n x.elem y)=X:=⟨_,rfl⟩
  rw[hX];have HD2:Hid (fitB (fitF s pl n) pl x v=X):=HD.out.trans hX;clear hX;go_wp2;go_ret;exact ⟨by rw[HD2.out];rfl,HB5.out⟩
 ·have HD:Hid (fitB (fitF s pl n) pl x v=false):=by show _=_;rw[HD0.out];simp[g1]
  go_wp2
  go_ret
  exact ⟨by rw[HD.out];rfl,HB4.out⟩
theorem rfit_9 (pl:Bool) {s:List TyD} {A:zo} {c n:Nat} (_hv:zQ s=0) (_hn:Num64 s) (_ih:RFitAt s A c pl n):RFitK s A c pl n 9:=by
 intro tn htn v A1 c1 A2 c2 A3 c3 w hsz hs hr hkx hvk hp hrest
 have hln:=hs.1.lt (by omega)
 obtain ⟨HB0,H5,H7⟩:=zy w (.cells #[.slice A s.length c] 31) (v.box A1 c1 A2 c2 A3 c3);have HIH:=zh _ih;have HV:=zh _hv;have HN:=zh _hn;have HS:=zh hs;have HR:=zh hr;have HSZ:Hid (∀y,y∈v.keys∨y∈v.items→SizeOf.sizeOf y≤n):=hsz;have HP:=zh hp;have HXM:=zh (List.getElem_mem htn);obtain ⟨b,o,As,cs,Am,cm,hA,htr,t0,t1,t2,t3,t4,t5,t6,t7,t8,t9⟩:=(hs.below HB0.out).at10 htn;clear hs hr hp _ih _hv _hn
 subst hA;generalize s[tn]=x at *;have HTR:=zh htr;have HK:=zh hkx;have HVK:=zh (hvk.trans hkx);have q0:(v.kind != x.kind)=false:=by simp[hvk]
 have HRE:=zh hrest;clear htr hkx hvk hrest;have r1:¬ ((tn:Int)<0):=by omega
 have r2:¬ ((s.length:Int)≤(tn:Int)):=by omega
 have h1:(0:Int)≤(tn:Int):=by omega
 have h2:(tn:Int)<(s.length:Int):=by omega
 go_enter Tryz.func71,Tryz.ntmps71
 go_upto_region 1 with fail
 generalize (w.alloc (.cells #[.slice (some ⟨b,o,none⟩) s.length c] 31)).alloc (v.box A1 c1 A2 c2 A3 c3)=W2 at *;have x0:=zb H5.out;go_upto_region 4 with fail
 clear t0 t1 t2 t3 t4 t5 t6 t7 t8 t9 x0 r1 r2;have HBX:=zh (zD W2 (x.box As cs Am cm));have HXT:Hid (TBox (W2.alloc (x.box As cs Am cm)) W2.heap.size x As cs Am cm):=heap_alloc_new W2 _;have HX5:=zh (zE H5.out HBX.out);have HX7:=zh (zE H7.out HBX.out);have HB3:=zh (zB HB0.out HBX.out);have HTR3:=zh (HTR.out.below HBX.out);generalize W2.alloc (x.box As cs Am cm)=W3 at *
 generalize W2.heap.size=p9 at *;clear H5 H7 HTR HBX HB0;obtain ⟨v0,v1,v2,v3,v4,v5,v6,v7⟩:=zF HX7.out;obtain ⟨b0,b1,b2,b3,b4,b5,b6,b7,b8,b9⟩:=zG HXT.out
 go_cut [48] (fun s48 wx=>s48 = .bool false∧Hid (Below W3.heap.size W3 wx))
 case first =>
  cases pl with
  | true =>
   have z0:¬ (0:Int)<(v.rest.length:Int):=by have:=HRE.out rfl;omega
   go_wp2_with fail
   refine (yJ v (by rw[HVK.out];omega) A1 c1 A2 c2 A3 c3 W3).mono ?_
   rintro e w4 ⟨rfl,hb4⟩;rw[HP.out];have HB4:=zh hb4;have v7:=zA hb4 v7;clear hb4;go_wp2;go_meet;exact ⟨by first|rfl|exact congrArg Value.bool (decide_eq_false (by omega)),HB4.out⟩
  | false =>
   go_wp2_with fail
   refine (yJ v (by rw[HVK.out];omega) A1 c1 A2 c2 A3 c3 W3).mono ?_
   rintro e w4 ⟨rfl,hb4⟩;rw[HP.out];have HB4:=zh hb4;have v7:=zA hb4 v7;clear hb4;go_wp2;go_meet;exact ⟨by first|rfl|exact congrArg Value.bool (decide_eq_false (by omega)),HB4.out⟩
 case rest =>
 obtain ⟨rfl,hcut⟩:=hcut;obtain ⟨w4,rfl⟩:∃W:World,W=wc:=⟨_,rfl⟩;have hb4:=hcut.out;clear hcut;have HB4:=zh (zB HB3.out hb4);have HXT4:=zh (HXT.out.below hb4);have HX5a:=zh (zE HX5.out hb4);have HX7a:=zh (zE HX7.out hb4);have HSS:=zh (HS.out.below HB4.out);have HRR:=zh (HR.out.below HB4.out);have HTR4:=zh (HTR3.out.below hb4)
 clear hb4 v0 v1 v2 v3 v4 v5 v6 v7 b0 b1 b2 b3 b4 b5 b6 b7 b8 b9 HB3 HXT HX5 HX7 q0 HTR3;obtain ⟨v0,v1,v2,v3,v4,v5,v6,v7⟩:=zF HX7a.out;obtain ⟨b0,b1,b2,b3,b4,b5,b6,b7,b8,b9⟩:=zG HXT4.out;have x0:=zb HX5a.out;go_upto_region 6 with fail
 obtain ⟨q1,q2,q3,q4,q5,q6,q7,q8⟩:=zk9 HK.out;have HD0:=zh (fb9 (f:=fitF s pl n) (plain:=pl) (v:=v) HK.out);have hli:=HRR.out.items.1.lt (by omega)
 by_cases g1:v.items.length≤1
 ·have HD:Hid (fitB (fitF s pl n) pl x v=v.items.all fun y=>fitF s pl n x.elem y):=by show _=_;rw[HD0.out];simp[g1]
  have g2:((v.items.length:Int)≤1)=(v.items.length≤1):=by simp only[eq_iff_iff];omega
  go_wp2_with fail
  refine (rAll_any HIH.out x.elem v.items A2 c2 _ (fun y hy=>HSZ.out y (.inr hy)) (HS.out.below HB4.out) (HR.out.below HB4.out).items).mono ?_
  rintro e w5 ⟨rfl,hb5⟩;have HB5:=zh (zB HB4.out hb5);clear hb5;clear g1 v0 v1 v2 v3 v4 v5 v6 v7 b0 b1 b2 b3 b4 b5 b6 b7 b8 b9 x0;obtain ⟨X,hX⟩:∃X,(v.items.all fun y=>fitF s pl n x.elem y)=X:=⟨_,rfl⟩
  rw[hX];have HD2:Hid (fitB (fitF s pl n) pl x v=X):=HD.out.trans hX;clear hX;go_wp2;go_ret;exact ⟨by rw[HD2.out];rfl,HB5.out⟩
 ·have HD:Hid (fitB (fitF s pl n) pl x v=false):=by show _=_;rw[HD0.out];simp[g1]
  have g2:((v.items.length:Int)≤1)=(v.items.length≤1):=by simp only[eq_iff_iff];omega
  go_wp2
  go_ret
  exact ⟨by rw[HD.out];rfl,HB4.out⟩
end Go.Proofs.YthkkllmmbefedaaGreatDoor


