/-
  Walks: the law LiteralFormat.
-/
import Derived.Test.YthkkllmmbefedaaGreatDoorQAK2
import Derived.Test.YthkkllmmbefedaaGreatDoorQGT0
import Derived.Test.YthkkllmmbefedaaGreatDoorQGT1
import Derived.Test.YthkkllmmbefedaaGreatDoorQDR4
namespace Go.Proofs.YthkkllmmbefedaaGreatDoor
open Go.RowKit
set_option maxHeartbeats 16000000
set_option maxRecDepth 100000
theorem fmt_small {s:List TyD} (h:SchOk s) (t:Int) {v:Val} (hk:0≤szV v 3000):(fmtT s t v).size≤1073741824:=by
 unfold fmtT
 split
 ·rename_i hf
  have:=val_kv h.nam (fun t=>(h.ty t).ids) h.kind _ t v hf
  unfold LenK at this;have hz:=small_kV hk
  show (litF s (SizeOf.sizeOf v) t v).size≤_
  omega
 ·exact Nat.zero_le _
theorem lawFormat_any (d:List NodeD) (t:Int) (x:Val) (A:zo) (c:Nat) (A1:zo) (c1:Nat) (A2:zo) (c2:Nat) (A3:zo) (c3:Nat) (w:World) (hd:NodesR w A d) (hr:ValR w x A1 A2 A3) (hb:StrB x) (hE:EnvL w) {SA:zo} {sc:Nat} (hS:SymE w SA sc) :
  Calls Tryz.prog 3 #[draftV A d.length c,.int .i64 t,x.v A1 c1 A2 c2 A3 c3] w (SamePost true w):=by
 have HD:=zh hd;have HR:=zh hr;have HSB:=zh hb;have HE:=zh hE;have HSY:=zh hS;have HX0:=zh (vc_box_new w (.cells #[.slice A d.length c] 24) (x.box A1 c1 A2 c2 A3 c3));have HB0:=zh (zI w (.cells #[.slice A d.length c] 24) (x.box A1 c1 A2 c2 A3 c3));clear hd hr hb hE hS
 go_enter Tryz.func3,Tryz.ntmps3
 go_upto_region 1 with fail
 generalize (w.alloc (.cells #[.slice A d.length c] 24)).alloc (x.box A1 c1 A2 c2 A3 c3)=W0 at *;have x0:=zb HX0.out.1;go_wp2_with fail;refine (of_any d A c _ (HD.out.below HB0.out)).mono ?_;rintro e w1 ⟨B,b,s,ok,rfl,hs,hok,hno,hb1⟩;have HBX:=zh (zD w1 (.cells #[.slice B s.length b] 31));have HS1:=zh (hs.below HBX.out);have HOK:=zh hok;have HB1:=zh (zB (zB HB0.out hb1) HBX.out)
 have HX1:=zh (heap_alloc_new w1 (.cells #[.slice B s.length b] 31));have HV1:=zh (zE (zE HX0.out.2.1 hb1) HBX.out);clear hs hok hno hb1 x0 HX0 HB0;go_upto_region 2 with fail
 generalize w1.alloc (.cells #[.slice B s.length b] 31)=W1 at *;generalize w1.heap.size=q1 at *;go_wp2_with fail;refine (awake_any _ (HE.out.below HB1.out) (HSY.out.below HB1.out)).mono ?_;rintro e w2 ⟨rfl,hb2⟩;have HB2:=zh (zB HB1.out hb2);have HS2:=zh (HS1.out.below hb2);have HX2:=zh (zE HX1.out hb2);have HV2:=zh (zE HV1.out hb2);clear hb2 HBX HS1 HX1 HV1 HB1
 cases ok with
 | false =>
  go_wp2_with fail
  refine (awake_any _ (HE.out.below HB2.out) (HSY.out.below HB2.out)).mono ?_;rintro e w3 ⟨rfl,hb3⟩;have HB3:=zh (zB HB2.out hb3);clear hb3;go_wp2;go_ret;exact ⟨rfl,HB3.out⟩
 | true =>
  have HV:=zh (HOK.out rfl).1;have HN:Hid (Num64 s):=(HOK.out rfl).2.2.2.2.2.1;clear HOK;obtain ⟨v0,v1,v2,v3,v4,v5,v6,v7⟩:=zF HV2.out;go_wp2_with fail;refine (small_any x HSB.out A1 c1 A2 c2 A3 c3 _ (HR.out.below HB2.out)).mono ?_;rintro e w3 ⟨rfl,hb3⟩;have HB3:=zh (zB HB2.out hb3);have HS3:=zh (HS2.out.below hb3);have HX3:=zh (zE HX2.out hb3);have HV3:=zh (zE HV2.out hb3)
  clear hb3 v0 v1 v2 v3 v4 v5 v6 v7
  by_cases hsm:0≤szV x 3000
  case neg =>
   have z1:decide (0≤szV x 3000)=false:=decide_eq_false hsm;rw[z1];clear hsm z1;go_wp2_with fail;refine (awake_any _ (HE.out.below HB3.out) (HSY.out.below HB3.out)).mono ?_;rintro e w4 ⟨rfl,hb4⟩;have HB4:=zh (zB HB3.out hb4);clear hb4;go_wp2;go_ret;exact ⟨rfl,HB4.out⟩
  have z1:decide (0≤szV x 3000)=true:=decide_eq_true hsm;rw[z1];have hz:=fmt_small (schOk HV.out HN.out) t hsm;have HF1:=zh (fun W=>format_any (s:=s) B b HV.out HN.out t x (by omega) A1 c1 A2 c2 A3 c3 W)
  have HF2:=zh (fun W=>rFormat_any (s:=s) B b HV.out HN.out t x hz A1 c1 A2 c2 A3 c3 W)
  generalize (if fitV s false t x then (0:Int) else 1)=er at *
  generalize fmtT s t x=FT at *;clear hsm z1 hz;obtain ⟨v0,v1,v2,v3,v4,v5,v6,v7⟩:=zF HV3.out;have x0:=zb HX3.out;go_wp2_with fail;refine (HF1.out _ HS3.out (HR.out.below HB3.out) (HE.out.below HB3.out).tab).mono ?_;rintro e w4 ⟨rfl,hb4⟩;have HB4:=zh (zB HB3.out hb4);have HS4:=zh (HS3.out.below hb4);have HX4:=zh (zE HX3.out hb4);have HV4:=zh (zE HV3.out hb4);clear hb4 v0 v1 v2 v3 v4 v5 v6 v7 x0
  obtain ⟨v0,v1,v2,v3,v4,v5,v6,v7⟩:=zF HV4.out;have x0:=zb HX4.out;go_wp2_with fail;refine (HF2.out _ HS4.out (HR.out.below HB4.out) (HE.out.below HB4.out).tab).mono ?_;rintro e w5 ⟨rfl,hb5⟩;have HB5:=zh (zB HB4.out hb5);clear hb5 v0 v1 v2 v3 v4 v5 v6 v7 x0;have q1:(FT.toList==FT.toList)=true:=by simp
  have q2:(er==er)=true:=by simp
  go_wp2
  go_ret
  exact ⟨rfl,HB5.out⟩
end Go.Proofs.YthkkllmmbefedaaGreatDoor


