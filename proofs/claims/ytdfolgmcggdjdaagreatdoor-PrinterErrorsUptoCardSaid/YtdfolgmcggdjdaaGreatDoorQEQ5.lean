/-
  Walks: equality of types in package schema; types that are alike, in package canon (written by gen.py).
-/
import Derived.Test.YtdfolgmcggdjdaaGreatDoorQGA4
namespace Go.Proofs.YtdfolgmcggdjdaaGreatDoor
open Go.RowKit
set_option maxHeartbeats 16000000
set_option maxRecDepth 100000
theorem ty_syms {x y:TyD} (h:¬ x.syms=y.syms):decide (x=y)=false:=decide_eq_false fun e=>h (by rw[e])
theorem equal_any (x y:TyD) (As:zo) (cs:Nat) (Am:zo) (cm:Nat) (Bs:zo) (ds:Nat) (Bm:zo) (dm:Nat) (w:World) (hx:TyR w x As Am) (hy:TyR w y Bs Bm) :
  Calls Tryz.prog 72 #[x.v As cs Am cm,y.v Bs ds Bm dm] w (SamePost (decide (x=y)) w):=by
 have HX:=zh hx;have HY:=zh hy;clear hx hy
 by_cases q1:x.kind=y.kind
 case neg =>
  have HD:=zh (ty_ne (x:=x) (y:=y) (fun h=>q1 (h.1)))
  have e1:(x.kind==y.kind)=false:=by simpa using q1
  clear q1
  go_enter Tryz.func72,Tryz.ntmps72
  go_wp2
  go_ret
  exact ⟨by rw[HD.out];rfl,zE _ _ _⟩
 have e1:(x.kind==y.kind)=true:=by simpa using q1
 by_cases q2:x.name=y.name
 case neg =>
  have HD:=zh (ty_ne (x:=x) (y:=y) (fun h=>q2 (h.2.1)))
  have e2:(x.name.toList==y.name.toList)=false:=by rw[zS];exact decide_eq_false q2
  clear q1 q2
  go_enter Tryz.func72,Tryz.ntmps72
  go_wp2
  go_ret
  exact ⟨by rw[HD.out];rfl,zE _ _ _⟩
 have e2:(x.name.toList==y.name.toList)=true:=by rw[zS];exact decide_eq_true q2
 by_cases q3:x.low=y.low
 case neg =>
  have HD:=zh (ty_ne (x:=x) (y:=y) (fun h=>q3 (h.2.2.1)))
  have e3:(x.low==y.low)=false:=by simpa using q3
  clear q1 q2 q3
  go_enter Tryz.func72,Tryz.ntmps72
  go_wp2
  go_ret
  exact ⟨by rw[HD.out];rfl,zE _ _ _⟩
 have e3:(x.low==y.low)=true:=by simpa using q3
 by_cases q4:x.high=y.high
 case neg =>
  have HD:=zh (ty_ne (x:=x) (y:=y) (fun h=>q4 (h.2.2.2.1)))
  have e4:(x.high==y.high)=false:=by simpa using q4
  clear q1 q2 q3 q4
  go_enter Tryz.func72,Tryz.ntmps72
  go_wp2
  go_ret
  exact ⟨by rw[HD.out];rfl,zE _ _ _⟩
 have e4:(x.high==y.high)=true:=by simpa using q4
 by_cases q5:x.max=y.max
 case neg =>
  have HD:=zh (ty_ne (x:=x) (y:=y) (fun h=>q5 (h.2.2.2.2.1)))
  have e5:(x.max==y.max)=false:=by simpa using q5
  clear q1 q2 q3 q4 q5
  go_enter Tryz.func72,Tryz.ntmps72
  go_wp2
  go_ret
  exact ⟨by rw[HD.out];rfl,zE _ _ _⟩
 have e5:(x.max==y.max)=true:=by simpa using q5
 by_cases q6:x.key=y.key
 case neg =>
  have HD:=zh (ty_ne (x:=x) (y:=y) (fun h=>q6 (h.2.2.2.2.2.1)))
  have e6:(x.key==y.key)=false:=by simpa using q6
  clear q1 q2 q3 q4 q5 q6
  go_enter Tryz.func72,Tryz.ntmps72
  go_wp2
  go_ret
  exact ⟨by rw[HD.out];rfl,zE _ _ _⟩
 have e6:(x.key==y.key)=true:=by simpa using q6
 by_cases q7:x.elem=y.elem
 case neg =>
  have HD:=zh (ty_ne (x:=x) (y:=y) (fun h=>q7 (h.2.2.2.2.2.2.1)))
  have e7:(x.elem==y.elem)=false:=by simpa using q7
  clear q1 q2 q3 q4 q5 q6 q7
  go_enter Tryz.func72,Tryz.ntmps72
  go_wp2
  go_ret
  exact ⟨by rw[HD.out];rfl,zE _ _ _⟩
 have e7:(x.elem==y.elem)=true:=by simpa using q7
 by_cases q8:x.open_=y.open_
 case neg =>
  have HD:=zh (ty_ne (x:=x) (y:=y) (fun h=>q8 (h.2.2.2.2.2.2.2.1)))
  have e8:(x.open_==y.open_)=false:=by simpa using q8
  clear q1 q2 q3 q4 q5 q6 q7 q8
  go_enter Tryz.func72,Tryz.ntmps72
  go_wp2
  go_ret
  exact ⟨by rw[HD.out];rfl,zE _ _ _⟩
 have e8:(x.open_==y.open_)=true:=by simpa using q8
 by_cases q9:x.syms=y.syms
 case neg =>
  have HD:=zh (ty_syms q9);have H9:=zh (decide_eq_false q9);clear q1 q2 q3 q4 q5 q6 q7 q8 q9
  go_enter Tryz.func72,Tryz.ntmps72
  go_wp2_with fail
  refine (equalSyms_any x.syms y.syms As Bs cs ds _ (HX.out.syms.below (zE _ _ _)) (HY.out.syms.below (zE _ _ _))).mono ?_;rintro e w2 ⟨rfl,hb2⟩;rw[H9.out];go_wp2;go_ret;exact ⟨by rw[HD.out];rfl,zO hb2⟩
 have H9:=zh (decide_eq_true q9);have HD:=zh (show decide (x=y)=allEq memEq0 x.mems y.mems by
  rw[show memEq0=fun a b=>decide (a=b) from rfl,allEq_decide,decide_eq_decide,ty_ext]
  exact ⟨fun h=>h.2.2.2.2.2.2.2.2.2,fun h=>⟨q1,q2,q3,q4,q5,q6,q7,q8,q9,h⟩⟩)
 clear q1 q2 q3 q4 q5 q6 q7 q8 q9
 go_enter Tryz.func72,Tryz.ntmps72
 go_wp2_with fail
 refine (equalSyms_any x.syms y.syms As Bs cs ds _ (HX.out.syms.below (zE _ _ _)) (HY.out.syms.below (zE _ _ _))).mono ?_;rintro e w2 ⟨rfl,hb2⟩;rw[H9.out];have hc2:=bcell hb2;have HB2:=zh (zO hb2);clear hb2;go_wp2_with fail;refine (equalF_any 0 false x.mems y.mems Am Bm cm dm _ (HX.out.mems.below HB2.out) (HY.out.mems.below HB2.out) trivial).mono ?_;rintro e w3 ⟨rfl,hb3⟩;go_wp2;go_ret
 exact ⟨by rw[HD.out];rfl,zB HB2.out hb3⟩
theorem below_new3 (w:World) (o o2 o3:Obj):Below w.heap.size w (((w.alloc o).alloc o2).alloc o3):=zB (zE w o o2) (zD _ o3)
end Go.Proofs.YtdfolgmcggdjdaaGreatDoor


