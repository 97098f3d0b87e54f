/-
  Walks: equality of types in package schema; types that are alike, in package canon (written by gen.py).
-/
import Derived.Test.YtkhpajneinmmiaaGreatDoorQEQ4
namespace Go.Proofs.YtkhpajneinmmiaaGreatDoor
open Go.RowKit
set_option maxHeartbeats 16000000
set_option maxRecDepth 100000
theorem ty_syms {x y:TyD} (h:¬ x.syms=y.syms):decide (x=y)=false:=decide_eq_false fun e=>h (by rw[e])
theorem equal_any (x y:TyD) (As:Option Addr) (cs:Nat) (Am:Option Addr) (cm:Nat) (Bs:Option Addr) (ds:Nat) (Bm:Option Addr) (dm:Nat) (w:World) (hx:TyR w x As Am) (hy:TyR w y Bs Bm) :
  Calls Tryz.prog 96 #[x.v As cs Am cm,y.v Bs ds Bm dm] w (SamePost (decide (x=y)) w):=by
 have HX:=zh hx
 have HY:=zh hy
 clear hx hy
 by_cases q1:x.kind=y.kind
 case neg =>
  have HD:=zh (ty_ne (x:=x) (y:=y) (fun h=>q1 (h.1)))
  have e1:(x.kind==y.kind)=false:=by simpa using q1
  clear q1
  go_enter Tryz.func96,Tryz.ntmps96
  go_wp2
  go_ret
  exact ⟨by rw[HD.out];rfl,zC _ _ _⟩
 have e1:(x.kind==y.kind)=true:=by simpa using q1
 by_cases q2:x.name=y.name
 case neg =>
  have HD:=zh (ty_ne (x:=x) (y:=y) (fun h=>q2 (h.2.1)))
  have e2:(x.name.toList==y.name.toList)=false:=by rw[zP];exact decide_eq_false q2
  clear q1 q2
  go_enter Tryz.func96,Tryz.ntmps96
  go_wp2
  go_ret
  exact ⟨by rw[HD.out];rfl,zC _ _ _⟩
 have e2:(x.name.toList==y.name.toList)=true:=by rw[zP];exact decide_eq_true q2
 by_cases q3:x.low=y.low
 case neg =>
  have HD:=zh (ty_ne (x:=x) (y:=y) (fun h=>q3 (h.2.2.1)))
  have e3:(x.low==y.low)=false:=by simpa using q3
  clear q1 q2 q3
  go_enter Tryz.func96,Tryz.ntmps96
  go_wp2
  go_ret
  exact ⟨by rw[HD.out];rfl,zC _ _ _⟩
 have e3:(x.low==y.low)=true:=by simpa using q3
 by_cases q4:x.high=y.high
 case neg =>
  have HD:=zh (ty_ne (x:=x) (y:=y) (fun h=>q4 (h.2.2.2.1)))
  have e4:(x.high==y.high)=false:=by simpa using q4
  clear q1 q2 q3 q4
  go_enter Tryz.func96,Tryz.ntmps96
  go_wp2
  go_ret
  exact ⟨by rw[HD.out];rfl,zC _ _ _⟩
 have e4:(x.high==y.high)=true:=by simpa using q4
 by_cases q5:x.max=y.max
 case neg =>
  have HD:=zh (ty_ne (x:=x) (y:=y) (fun h=>q5 (h.2.2.2.2.1)))
  have e5:(x.max==y.max)=false:=by simpa using q5
  clear q1 q2 q3 q4 q5
  go_enter Tryz.func96,Tryz.ntmps96
  go_wp2
  go_ret
  exact ⟨by rw[HD.out];rfl,zC _ _ _⟩
 have e5:(x.max==y.max)=true:=by simpa using q5
 by_cases q6:x.key=y.key
 case neg =>
  have HD:=zh (ty_ne (x:=x) (y:=y) (fun h=>q6 (h.2.2.2.2.2.1)))
  have e6:(x.key==y.key)=false:=by simpa using q6
  clear q1 q2 q3 q4 q5 q6
  go_enter Tryz.func96,Tryz.ntmps96
  go_wp2
  go_ret
  exact ⟨by rw[HD.out];rfl,zC _ _ _⟩
 have e6:(x.key==y.key)=true:=by simpa using q6
 by_cases q7:x.elem=y.elem
 case neg =>
  have HD:=zh (ty_ne (x:=x) (y:=y) (fun h=>q7 (h.2.2.2.2.2.2.1)))
  have e7:(x.elem==y.elem)=false:=by simpa using q7
  clear q1 q2 q3 q4 q5 q6 q7
  go_enter Tryz.func96,Tryz.ntmps96
  go_wp2
  go_ret
  exact ⟨by rw[HD.out];rfl,zC _ _ _⟩
 have e7:(x.elem==y.elem)=true:=by simpa using q7
 by_cases q8:x.open_=y.open_
 case neg =>
  have HD:=zh (ty_ne (x:=x) (y:=y) (fun h=>q8 (h.2.2.2.2.2.2.2.1)))
  have e8:(x.open_==y.open_)=false:=by simpa using q8
  clear q1 q2 q3 q4 q5 q6 q7 q8
  go_enter Tryz.func96,Tryz.ntmps96
  go_wp2
  go_ret
  exact ⟨by rw[HD.out];rfl,zC _ _ _⟩
 have e8:(x.open_==y.open_)=true:=by simpa using q8
 by_cases q9:x.syms=y.syms
 case neg =>
  have HD:=zh (ty_syms q9)
  have H9:=zh (decide_eq_false q9)
  clear q1 q2 q3 q4 q5 q6 q7 q8 q9
  go_enter Tryz.func96,Tryz.ntmps96
  go_wp2_with fail
  refine (equalSyms_any x.syms y.syms As Bs cs ds _ (HX.out.syms.below (zC _ _ _)) (HY.out.syms.below (zC _ _ _))).mono ?_
  rintro e w2 ⟨rfl,hb2⟩
  rw[H9.out]
  go_wp2
  go_ret
  exact ⟨by rw[HD.out];rfl,zG hb2⟩
 have H9:=zh (decide_eq_true q9)
 have HD:=zh (show decide (x=y)=allEq memEq0 x.mems y.mems by
  rw[show memEq0=fun a b=>decide (a=b) from rfl,allEq_decide,decide_eq_decide,ty_ext]
  exact ⟨fun h=>h.2.2.2.2.2.2.2.2.2,fun h=>⟨q1,q2,q3,q4,q5,q6,q7,q8,q9,h⟩⟩)
 clear q1 q2 q3 q4 q5 q6 q7 q8 q9
 go_enter Tryz.func96,Tryz.ntmps96
 go_wp2_with fail
 refine (equalSyms_any x.syms y.syms As Bs cs ds _ (HX.out.syms.below (zC _ _ _)) (HY.out.syms.below (zC _ _ _))).mono ?_
 rintro e w2 ⟨rfl,hb2⟩
 rw[H9.out]
 have hc2:=bcell hb2
 have HB2:=zh (zG hb2)
 clear hb2
 go_wp2_with fail
 refine (equalF_any 0 false x.mems y.mems Am Bm cm dm _ (HX.out.mems.below HB2.out) (HY.out.mems.below HB2.out) trivial).mono ?_
 rintro e w3 ⟨rfl,hb3⟩
 go_wp2
 go_ret
 exact ⟨by rw[HD.out];rfl,zA HB2.out hb3⟩
theorem below_alloc3 {w w':World} {o o2 o3:Obj} (hb:Below (World.heap (((w.alloc o).alloc o2).alloc o3)).size (((w.alloc o).alloc o2).alloc o3) w'):Below w.heap.size w w' :=
 zW (zG hb)
theorem yR (w:World) (o o2 o3:Obj):Below w.heap.size w (((w.alloc o).alloc o2).alloc o3):=zA (zC w o o2) (zD _ o3)
theorem alike_h {names:Bool} {x y:TyD} (h:¬ (x.kind=y.kind∧x.low=y.low∧x.high=y.high∧x.max=y.max∧x.open_=y.open_∧(names=true→x.name=y.name))):zM names x y=false:=alike_head h
theorem capB_new (w:World) (o o2:Obj) (names:Bool) {w':World} (hb:Below (World.heap (((w.alloc o).alloc o2).alloc (.cells #[.bool names] 4))).size (((w.alloc o).alloc o2).alloc (.cells #[.bool names] 4)) w'):CapB (w.heap.size+1+1) names w':=by
 have h:=cell_of_row _ _ 0 _ _ _ (heap_alloc_new ((w.alloc o).alloc o2) (.cells #[.bool names] 4))
 have e:((w.alloc o).alloc o2).heap.size=w.heap.size+1+1:=by simp
 rw[e] at h
 exact zB hb h
theorem alike_any (names:Bool) (x y:TyD) (As:Option Addr) (cs:Nat) (Am:Option Addr) (cm:Nat) (Bs:Option Addr) (ds:Nat) (Bm:Option Addr) (dm:Nat) (w:World) (hx:TyR w x As Am) (hy:TyR w y Bs Bm) :
  Calls Tryz.prog 53 #[x.v As cs Am cm,y.v Bs ds Bm dm,.bool names] w (SamePost (zM names x y) w):=by
 have HX:=zh hx
 have HY:=zh hy
 clear hx hy
 by_cases q1:x.kind=y.kind
 case neg =>
  have HD:=zh (alike_h (names:=names) (x:=x) (y:=y) (fun h=>q1 (h.1)))
  have e1:(x.kind != y.kind)=true:=by simpa using q1
  clear q1
  go_enter Tryz.func53,Tryz.ntmps53
  go_wp2
  go_ret
  exact ⟨by rw[HD.out];rfl,yR _ _ _ _⟩
 have e1:(x.kind != y.kind)=false:=by simpa using q1
 by_cases q2:x.low=y.low
 case neg =>
  have HD:=zh (alike_h (names:=names) (x:=x) (y:=y) (fun h=>q2 (h.2.1)))
  have e2:(x.low != y.low)=true:=by simpa using q2
  clear q1 q2
  go_enter Tryz.func53,Tryz.ntmps53
  go_wp2
  go_ret
  exact ⟨by rw[HD.out];rfl,yR _ _ _ _⟩
 have e2:(x.low != y.low)=false:=by simpa using q2
 by_cases q3:x.high=y.high
 case neg =>
  have HD:=zh (alike_h (names:=names) (x:=x) (y:=y) (fun h=>q3 (h.2.2.1)))
  have e3:(x.high != y.high)=true:=by simpa using q3
  clear q1 q2 q3
  go_enter Tryz.func53,Tryz.ntmps53
  go_wp2
  go_ret
  exact ⟨by rw[HD.out];rfl,yR _ _ _ _⟩
 have e3:(x.high != y.high)=false:=by simpa using q3
 by_cases q4:x.max=y.max
 case neg =>
  have HD:=zh (alike_h (names:=names) (x:=x) (y:=y) (fun h=>q4 (h.2.2.2.1)))
  have e4:(x.max != y.max)=true:=by simpa using q4
  clear q1 q2 q3 q4
  go_enter Tryz.func53,Tryz.ntmps53
  go_wp2
  go_ret
  exact ⟨by rw[HD.out];rfl,yR _ _ _ _⟩
 have e4:(x.max != y.max)=false:=by simpa using q4
 by_cases q5:x.open_=y.open_
 case neg =>
  have HD:=zh (alike_h (names:=names) (x:=x) (y:=y) (fun h=>q5 (h.2.2.2.2.1)))
  have e5:(x.open_==y.open_)=false:=by simpa using q5
  have p5:¬ x.open_=y.open_:=q5
  clear q1 q2 q3 q4 q5
  go_enter Tryz.func53,Tryz.ntmps53
  go_wp2
  go_ret
  exact ⟨by rw[HD.out];rfl,yR _ _ _ _⟩
 have e5:(x.open_==y.open_)=true:=by simpa using q5
 by_cases q6:names=true∧¬ x.name=y.name
 ·obtain ⟨rfl,q6⟩:=q6
  have HD:=zh (alike_h (names:=true) (x:=x) (y:=y) fun h=>q6 (h.2.2.2.2.2 rfl))
  have e6:(x.name.toList==y.name.toList)=false:=by rw[zP];exact decide_eq_false q6
  have p6:¬ x.name.toList=y.name.toList:=by simpa using e6
  clear q1 q2 q3 q4 q5 q6
  go_enter Tryz.func53,Tryz.ntmps53
  go_wp2
  go_ret
  exact ⟨by rw[HD.out];rfl,yR _ _ _ _⟩
 have HQ:=zh (show x.kind=y.kind∧x.low=y.low∧x.high=y.high∧x.max=y.max∧x.open_=y.open_∧(names=true→x.name=y.name) from ⟨q1,q2,q3,q4,q5,fun h=>Classical.byContradiction fun h2=>q6 ⟨h,h2⟩⟩)
 have q7:names=false∨(names=true∧x.name=y.name):=by
  cases names with
  | false=>exact .inl rfl
  | true=>exact .inr ⟨rfl,HQ.out.2.2.2.2.2 rfl⟩
 clear q1 q2 q3 q4 q5 q6
 rcases q7 with rfl|⟨rfl,q7⟩
 ·cases hs:allEq (symEq false) x.syms y.syms with
  | false =>
   have HS:=zh hs
   have HD:=zh (alike_syms (names:=false) (x:=x) (y:=y) hs)
   clear hs
   go_enter Tryz.func53,Tryz.ntmps53
   go_wp2_with fail
   refine (alikeSs_any (w.heap.size+1+1) false x.syms y.syms As Bs cs ds _ (HX.out.syms.below (yR _ _ _ _)) (HY.out.syms.below (yR _ _ _ _)) (capB_new w _ _ false (Below.refl _ _))).mono ?_
   rintro e w2 ⟨rfl,hb2⟩
   rw[HS.out]
   go_wp2
   go_ret
   exact ⟨by rw[HD.out];rfl,below_alloc3 hb2⟩
  | true =>
   have HS:=zh hs
   have HD:=zh (alike_yes (names:=false) (x:=x) (y:=y) HQ.out hs)
   clear hs
   go_enter Tryz.func53,Tryz.ntmps53
   go_wp2_with fail
   refine (alikeSs_any (w.heap.size+1+1) false x.syms y.syms As Bs cs ds _ (HX.out.syms.below (yR _ _ _ _)) (HY.out.syms.below (yR _ _ _ _)) (capB_new w _ _ false (Below.refl _ _))).mono ?_
   rintro e w2 ⟨rfl,hb2⟩
   rw[HS.out]
   have hc2:=bcell hb2
   have HB2:=zh (below_alloc3 hb2)
   have HC2:=zh (capB_new w _ _ false hb2)
   clear hb2
   go_wp2_with fail
   refine (alikeMs_any (w.heap.size+1+1) false x.mems y.mems Am Bm cm dm _ (HX.out.mems.below HB2.out) (HY.out.mems.below HB2.out) HC2.out).mono ?_
   rintro e w3 ⟨rfl,hb3⟩
   go_wp2
   go_ret
   exact ⟨by rw[HD.out];rfl,zA HB2.out hb3⟩
 ·have e7:(x.name.toList==y.name.toList)=true:=by rw[zP];exact decide_eq_true q7
  clear q7
  cases hs:allEq (symEq true) x.syms y.syms with
  | false =>
   have HS:=zh hs
   have HD:=zh (alike_syms (names:=true) (x:=x) (y:=y) hs)
   clear hs
   go_enter Tryz.func53,Tryz.ntmps53
   go_wp2_with fail
   refine (alikeSs_any (w.heap.size+1+1) true x.syms y.syms As Bs cs ds _ (HX.out.syms.below (yR _ _ _ _)) (HY.out.syms.below (yR _ _ _ _)) (capB_new w _ _ true (Below.refl _ _))).mono ?_
   rintro e w2 ⟨rfl,hb2⟩
   rw[HS.out]
   go_wp2
   go_ret
   exact ⟨by rw[HD.out];rfl,below_alloc3 hb2⟩
  | true =>
   have HS:=zh hs
   have HD:=zh (alike_yes (names:=true) (x:=x) (y:=y) HQ.out hs)
   clear hs
   go_enter Tryz.func53,Tryz.ntmps53
   go_wp2_with fail
   refine (alikeSs_any (w.heap.size+1+1) true x.syms y.syms As Bs cs ds _ (HX.out.syms.below (yR _ _ _ _)) (HY.out.syms.below (yR _ _ _ _)) (capB_new w _ _ true (Below.refl _ _))).mono ?_
   rintro e w2 ⟨rfl,hb2⟩
   rw[HS.out]
   have hc2:=bcell hb2
   have HB2:=zh (below_alloc3 hb2)
   have HC2:=zh (capB_new w _ _ true hb2)
   clear hb2
   go_wp2_with fail
   refine (alikeMs_any (w.heap.size+1+1) true x.mems y.mems Am Bm cm dm _ (HX.out.mems.below HB2.out) (HY.out.mems.below HB2.out) HC2.out).mono ?_
   rintro e w3 ⟨rfl,hb3⟩
   go_wp2
   go_ret
   exact ⟨by rw[HD.out];rfl,zA HB2.out hb3⟩
end Go.Proofs.YtkhpajneinmmiaaGreatDoor


