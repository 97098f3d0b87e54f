/-
  Walks: the reference's text, kinds 1, 2, 3, 4.
-/
import Derived.Test.YtdfolgmcggdjdaaGreatDoorQRF7
import Derived.Test.YtdfolgmcggdjdaaGreatDoorQRF9
import Derived.Test.YtdfolgmcggdjdaaGreatDoorQRG0
import Derived.Test.YtdfolgmcggdjdaaGreatDoorQRG1
namespace Go.Proofs.YtdfolgmcggdjdaaGreatDoor
open Go.RowKit
set_option maxHeartbeats 16000000
set_option maxRecDepth 100000
theorem rfit_out_true {s : List TyD} {A : zo} {c : Nat} (hv : zJ s = 0) (t : Int) (v : Val) (A1 : zo) (c1 : Nat) (A2 : zo) (c2 : Nat) (A3 : zo) (c3 : Nat) (w : World) (hs : TysR w A s)
    (ho : (t < 0 ∨ (s.length : Int) ≤ t) ∨ (0 ≤ t ∧ t < (s.length : Int) ∧ v.kind ≠ (tyAt s t).kind) ∨ (0 ≤ t ∧ t < (s.length : Int) ∧ v.kind = (tyAt s t).kind ∧ (zK v = false ∨ (zK v = true ∧ true = true ∧ 0 < v.rest.length)))) :
    Calls Tryz.prog 115 #[.agg #[.slice A s.length c], .int .i64 t, v.v A1 c1 A2 c2 A3 c3, .bool true] w fun e w' => e = .returned (.bool false) ∧ Below w.heap.size w w' := by
  have hln := hs.1.lt (by omega)
  have HB0 := zh (zE w (.cells #[.slice A s.length c] 27) (v.box A1 c1 A2 c2 A3 c3));have H5 : Hid (((w.alloc (.cells #[.slice A s.length c] 27)).alloc (v.box A1 c1 A2 c2 A3 c3)).heap[w.heap.size]? = some (.cells #[.slice A s.length c] 27)) := zF (heap_alloc_new w _) (zD _ _)
  have H7 : Hid (((w.alloc (.cells #[.slice A s.length c] 27)).alloc (v.box A1 c1 A2 c2 A3 c3)).heap[w.heap.size + 1]? = some (v.box A1 c1 A2 c2 A3 c3)) := by
    show _ = _
    have := heap_alloc_new (w.alloc (.cells #[.slice A s.length c] 27)) (v.box A1 c1 A2 c2 A3 c3)
    simpa using this
  by_cases r1 : t < 0
  · clear ho hs
    go_enter Tryz.func115, Tryz.ntmps115
    go_upto_region 1 with fail
    generalize (w.alloc (.cells #[.slice A s.length c] 27)).alloc (v.box A1 c1 A2 c2 A3 c3) = W2 at *;go_wp2;go_ret;exact ⟨rfl, HB0.out⟩
  by_cases r2 : (s.length : Int) ≤ t
  · clear ho hs
    go_enter Tryz.func115, Tryz.ntmps115
    go_upto_region 1 with fail
    generalize (w.alloc (.cells #[.slice A s.length c] 27)).alloc (v.box A1 c1 A2 c2 A3 c3) = W2 at *;have x0 : W2.cell? ⟨w.heap.size, 0, none⟩ = some (.slice A s.length c) := by rw [cell_of_row _ _ _ _ _ _ H5.out]; rfl
    go_wp2
    go_ret
    exact ⟨rfl, HB0.out⟩
  obtain ⟨tn, rfl⟩ := Int.eq_ofNat_of_zero_le (show 0 ≤ t by omega)
  have htn : tn < s.length := by omega
  have hkr := yT (t := (tn : Int)) hv (by omega)
  rw [zP htn] at ho hkr;obtain ⟨b, o, As, cs, Am, cm, hA, htr, t0, t1, t2, t3, t4, t5, t6, t7, t8, t9⟩ := (hs.below HB0.out).at10 htn;subst hA;have ho2 : v.kind ≠ (s[tn]).kind ∨ (v.kind = (s[tn]).kind ∧ (zK v = false ∨ (zK v = true ∧ true = true ∧ 0 < v.rest.length))) := by
    rcases ho with h | ⟨_, _, h⟩ | ⟨_, _, h⟩
    · exact absurd h (by omega)
    · exact .inl h
    · exact .inr h
  generalize s[tn] = x at *;have h1 : (0 : Int) ≤ (tn : Int) := by omega
  have h2 : (tn : Int) < (s.length : Int) := by omega
  have HO := zh ho2;have HKR := zh hkr;clear ho ho2 hkr htr hs
  go_enter Tryz.func115, Tryz.ntmps115
  go_upto_region 1 with fail
  generalize (w.alloc (.cells #[.slice (some ⟨b, o, none⟩) s.length c] 27)).alloc (v.box A1 c1 A2 c2 A3 c3) = W2 at *;have x0 : W2.cell? ⟨w.heap.size, 0, none⟩ = some (.slice (some ⟨b, o, none⟩) s.length c) := by rw [cell_of_row _ _ _ _ _ _ H5.out]; rfl
  go_upto_region 4 with fail
  clear t0 t1 t2 t3 t4 t5 t6 t7 t8 t9 x0 r1 r2;have HBX := zh (zD W2 (x.box As cs Am cm));have HXT : Hid (TBox (W2.alloc (x.box As cs Am cm)) W2.heap.size x As cs Am cm) := heap_alloc_new W2 _;have HX7 := zh (zF H7.out HBX.out);have HB3 := zh (zB HB0.out HBX.out);generalize W2.alloc (x.box As cs Am cm) = W3 at *;generalize W2.heap.size = p9 at *;clear H5 H7 HBX HB0
  obtain ⟨v0, v1, v2, v3, v4, v5, v6, v7⟩ := zH HX7.out;obtain ⟨b0, b1, b2, b3, b4, b5, b6, b7, b8, b9⟩ := zI HXT.out
  by_cases hk : v.kind = x.kind
  case neg =>
    have q0 : (v.kind != x.kind) = true := by simp [hk]
    clear hk;go_wp2;go_ret;exact ⟨rfl, HB3.out⟩
  have q0 : (v.kind != x.kind) = false := by simp [hk]
  have HO2 : Hid (zK v = false ∨ (zK v = true ∧ true = true ∧ 0 < v.rest.length)) := by
    rcases HO.out with h | ⟨_, h⟩
    · exact absurd hk h
    · exact h
  have HKV : Hid (1 ≤ v.kind ∧ v.kind ≤ 9) := by show _ ∧ _; rw [hk]; exact HKR.out
  clear hk HO;go_wp2_with fail;refine (yJ v HKV.out A1 c1 A2 c2 A3 c3 W3).mono ?_;rintro e w4 ⟨rfl, hb4⟩;have HB4 := zh (zB HB3.out hb4);have HX7a := zh (zF HX7.out hb4);clear hb4 v0 v1 v2 v3 v4 v5 v6 v7 b0 b1 b2 b3 b4 b5 b6 b7 b8 b9;obtain ⟨v0, v1, v2, v3, v4, v5, v6, v7⟩ := zH HX7a.out
  cases hp : zK v with
  | false =>
    clear HO2 hp;go_wp2;go_ret;exact ⟨rfl, HB4.out⟩
  | true =>
    have HR0 : Hid (true = true ∧ 0 < v.rest.length) := by
      rcases HO2.out with h | ⟨_, h⟩
      · rw [hp] at h; cases h
      · exact ⟨by first | rfl | exact h.1, h.2⟩
    clear HO2 hp
    first
      | exact absurd HR0.out.1 (by decide)
      | (have z0 : (0 : Int) < (v.rest.length : Int) := by have := HR0.out.2; omega
         clear HR0;go_wp2;go_ret;exact ⟨rfl, HB4.out⟩)
theorem rfit_step_true {s:List TyD} {A:zo} {c n:Nat} (hv:zJ s=0) (hn:Num64 s) (ih:RFitAt s A c true n):RFitAt s A c true (n+1):=by
 intro t v A1 c1 A2 c2 A3 c3 w hsz0 hs hr
 have hsz:∀y,y∈v.keys∨y∈v.items→SizeOf.sizeOf y≤n:=fun y hy=>by have:=val_size v y hy;omega
 have hE:fitF s true (n+1) t v=if t<0∨(s.length:Int)≤t then false else if v.kind≠(tyAt s t).kind∨zK v=false then false else fitB (fitF s true n) true (tyAt s t) v:=by rw[fitF]
 by_cases h1:t<0∨(s.length:Int)≤t
 ·rw[hE,if_pos h1]
  exact rfit_out_true hv t v A1 c1 A2 c2 A3 c3 w hs (.inl h1)
 rw[if_neg h1] at hE
 by_cases hk:v.kind=(tyAt s t).kind
 case neg =>
  rw[hE,if_pos (.inl hk)];exact rfit_out_true hv t v A1 c1 A2 c2 A3 c3 w hs (.inr (.inl ⟨by omega,by omega,hk⟩))
 cases hp:zK v with
 | false =>
  rw[hE,if_pos (.inr hp)];exact rfit_out_true hv t v A1 c1 A2 c2 A3 c3 w hs (.inr (.inr ⟨by omega,by omega,hk,.inl hp⟩))
 | true =>
  rw[if_neg (by rw[hp];simp[hk])] at hE
  rw[hE]
  by_cases hr0:true=true∧0<v.rest.length
  ·have hF:fitB (fitF s true n) true (tyAt s t) v=false:=by
    first
     | exact absurd hr0.1 (by decide)
     | exact fit_rest hp hk hr0.2
   rw[hF];exact rfit_out_true hv t v A1 c1 A2 c2 A3 c3 w hs (.inr (.inr ⟨by omega,by omega,hk,.inr ⟨hp,hr0⟩⟩))
  have hre:true=true→v.rest.length=0:=fun h=>Nat.eq_zero_of_not_pos fun g=>hr0 ⟨h,g⟩
  have hkr:=yT hv (t:=t) (by omega)
  obtain ⟨tn,rfl⟩:=Int.eq_ofNat_of_zero_le (show 0≤t by omega)
  have htn:tn<s.length:=by omega
  rw[zP htn] at hkr hk ⊢;have hkx:(s[tn]).kind=1∨(s[tn]).kind=2∨(s[tn]).kind=3∨(s[tn]).kind=4∨(s[tn]).kind=5∨(s[tn]).kind=6∨(s[tn]).kind=7∨(s[tn]).kind=8∨(s[tn]).kind=9:=by omega
  rcases hkx with e|e|e|e|e|e|e|e|e
  ·exact rfit_1 true hv hn ih tn htn v A1 c1 A2 c2 A3 c3 w hsz hs hr e hk hp hre
  ·exact rfit_2 true hv hn ih tn htn v A1 c1 A2 c2 A3 c3 w hsz hs hr e hk hp hre
  ·exact rfit_3 true hv hn ih tn htn v A1 c1 A2 c2 A3 c3 w hsz hs hr e hk hp hre
  ·exact rfit_4_true hv hn ih tn htn v A1 c1 A2 c2 A3 c3 w hsz hs hr e hk hp hre
  ·exact rfit_5 true hv hn ih tn htn v A1 c1 A2 c2 A3 c3 w hsz hs hr e hk hp hre
  ·exact rfit_6_true hv hn ih tn htn v A1 c1 A2 c2 A3 c3 w hsz hs hr e hk hp hre
  ·exact rfit_7 true hv hn ih tn htn v A1 c1 A2 c2 A3 c3 w hsz hs hr e hk hp hre
  ·exact rfit_8 true hv hn ih tn htn v A1 c1 A2 c2 A3 c3 w hsz hs hr e hk hp hre
  ·exact rfit_9 true hv hn ih tn htn v A1 c1 A2 c2 A3 c3 w hsz hs hr e hk hp hre
theorem rfit_all_true {s:List TyD} {A:zo} {c:Nat} (hv:zJ s=0) (hn:Num64 s):∀n,RFitAt s A c true n
 | 0=>fun _ v _ _ _ _ _ _ _ h=>absurd h (by have:=sizeV_pos v;omega)
 | n+1=>rfit_step_true hv hn (rfit_all_true hv hn n)
theorem rfit_out_false {s : List TyD} {A : zo} {c : Nat} (hv : zJ s = 0) (t : Int) (v : Val) (A1 : zo) (c1 : Nat) (A2 : zo) (c2 : Nat) (A3 : zo) (c3 : Nat) (w : World) (hs : TysR w A s)
    (ho : (t < 0 ∨ (s.length : Int) ≤ t) ∨ (0 ≤ t ∧ t < (s.length : Int) ∧ v.kind ≠ (tyAt s t).kind) ∨ (0 ≤ t ∧ t < (s.length : Int) ∧ v.kind = (tyAt s t).kind ∧ (zK v = false ∨ (zK v = true ∧ false = true ∧ 0 < v.rest.length)))) :
    Calls Tryz.prog 115 #[.agg #[.slice A s.length c], .int .i64 t, v.v A1 c1 A2 c2 A3 c3, .bool false] w fun e w' => e = .returned (.bool false) ∧ Below w.heap.size w w' := by
  have hln := hs.1.lt (by omega)
  have HB0 := zh (zE w (.cells #[.slice A s.length c] 27) (v.box A1 c1 A2 c2 A3 c3));have H5 : Hid (((w.alloc (.cells #[.slice A s.length c] 27)).alloc (v.box A1 c1 A2 c2 A3 c3)).heap[w.heap.size]? = some (.cells #[.slice A s.length c] 27)) := zF (heap_alloc_new w _) (zD _ _)
  have H7 : Hid (((w.alloc (.cells #[.slice A s.length c] 27)).alloc (v.box A1 c1 A2 c2 A3 c3)).heap[w.heap.size + 1]? = some (v.box A1 c1 A2 c2 A3 c3)) := by
    show _ = _
    have := heap_alloc_new (w.alloc (.cells #[.slice A s.length c] 27)) (v.box A1 c1 A2 c2 A3 c3)
    simpa using this
  by_cases r1 : t < 0
  · clear ho hs
    go_enter Tryz.func115, Tryz.ntmps115
    go_upto_region 1 with fail
    generalize (w.alloc (.cells #[.slice A s.length c] 27)).alloc (v.box A1 c1 A2 c2 A3 c3) = W2 at *;go_wp2;go_ret;exact ⟨rfl, HB0.out⟩
  by_cases r2 : (s.length : Int) ≤ t
  · clear ho hs
    go_enter Tryz.func115, Tryz.ntmps115
    go_upto_region 1 with fail
    generalize (w.alloc (.cells #[.slice A s.length c] 27)).alloc (v.box A1 c1 A2 c2 A3 c3) = W2 at *;have x0 : W2.cell? ⟨w.heap.size, 0, none⟩ = some (.slice A s.length c) := by rw [cell_of_row _ _ _ _ _ _ H5.out]; rfl
    go_wp2
    go_ret
    exact ⟨rfl, HB0.out⟩
  obtain ⟨tn, rfl⟩ := Int.eq_ofNat_of_zero_le (show 0 ≤ t by omega)
  have htn : tn < s.length := by omega
  have hkr := yT (t := (tn : Int)) hv (by omega)
  rw [zP htn] at ho hkr;obtain ⟨b, o, As, cs, Am, cm, hA, htr, t0, t1, t2, t3, t4, t5, t6, t7, t8, t9⟩ := (hs.below HB0.out).at10 htn;subst hA;have ho2 : v.kind ≠ (s[tn]).kind ∨ (v.kind = (s[tn]).kind ∧ (zK v = false ∨ (zK v = true ∧ false = true ∧ 0 < v.rest.length))) := by
    rcases ho with h | ⟨_, _, h⟩ | ⟨_, _, h⟩
    · exact absurd h (by omega)
    · exact .inl h
    · exact .inr h
  generalize s[tn] = x at *;have h1 : (0 : Int) ≤ (tn : Int) := by omega
  have h2 : (tn : Int) < (s.length : Int) := by omega
  have HO := zh ho2;have HKR := zh hkr;clear ho ho2 hkr htr hs
  go_enter Tryz.func115, Tryz.ntmps115
  go_upto_region 1 with fail
  generalize (w.alloc (.cells #[.slice (some ⟨b, o, none⟩) s.length c] 27)).alloc (v.box A1 c1 A2 c2 A3 c3) = W2 at *;have x0 : W2.cell? ⟨w.heap.size, 0, none⟩ = some (.slice (some ⟨b, o, none⟩) s.length c) := by rw [cell_of_row _ _ _ _ _ _ H5.out]; rfl
  go_upto_region 4 with fail
  clear t0 t1 t2 t3 t4 t5 t6 t7 t8 t9 x0 r1 r2;have HBX := zh (zD W2 (x.box As cs Am cm));have HXT : Hid (TBox (W2.alloc (x.box As cs Am cm)) W2.heap.size x As cs Am cm) := heap_alloc_new W2 _;have HX7 := zh (zF H7.out HBX.out);have HB3 := zh (zB HB0.out HBX.out);generalize W2.alloc (x.box As cs Am cm) = W3 at *;generalize W2.heap.size = p9 at *;clear H5 H7 HBX HB0
  obtain ⟨v0, v1, v2, v3, v4, v5, v6, v7⟩ := zH HX7.out;obtain ⟨b0, b1, b2, b3, b4, b5, b6, b7, b8, b9⟩ := zI HXT.out
  by_cases hk : v.kind = x.kind
  case neg =>
    have q0 : (v.kind != x.kind) = true := by simp [hk]
    clear hk;go_wp2;go_ret;exact ⟨rfl, HB3.out⟩
  have q0 : (v.kind != x.kind) = false := by simp [hk]
  have HO2 : Hid (zK v = false ∨ (zK v = true ∧ false = true ∧ 0 < v.rest.length)) := by
    rcases HO.out with h | ⟨_, h⟩
    · exact absurd hk h
    · exact h
  have HKV : Hid (1 ≤ v.kind ∧ v.kind ≤ 9) := by show _ ∧ _; rw [hk]; exact HKR.out
  clear hk HO;go_wp2_with fail;refine (yJ v HKV.out A1 c1 A2 c2 A3 c3 W3).mono ?_;rintro e w4 ⟨rfl, hb4⟩;have HB4 := zh (zB HB3.out hb4);have HX7a := zh (zF HX7.out hb4);clear hb4 v0 v1 v2 v3 v4 v5 v6 v7 b0 b1 b2 b3 b4 b5 b6 b7 b8 b9;obtain ⟨v0, v1, v2, v3, v4, v5, v6, v7⟩ := zH HX7a.out
  cases hp : zK v with
  | false =>
    clear HO2 hp;go_wp2;go_ret;exact ⟨rfl, HB4.out⟩
  | true =>
    have HR0 : Hid (false = true ∧ 0 < v.rest.length) := by
      rcases HO2.out with h | ⟨_, h⟩
      · rw [hp] at h; cases h
      · exact ⟨by first | rfl | exact h.1, h.2⟩
    clear HO2 hp
    first
      | exact absurd HR0.out.1 (by decide)
      | (have z0 : (0 : Int) < (v.rest.length : Int) := by have := HR0.out.2; omega
         clear HR0;go_wp2;go_ret;exact ⟨rfl, HB4.out⟩)
theorem rfit_step_false {s:List TyD} {A:zo} {c n:Nat} (hv:zJ s=0) (hn:Num64 s) (ih:RFitAt s A c false n):RFitAt s A c false (n+1):=by
 intro t v A1 c1 A2 c2 A3 c3 w hsz0 hs hr
 have hsz:∀y,y∈v.keys∨y∈v.items→SizeOf.sizeOf y≤n:=fun y hy=>by have:=val_size v y hy;omega
 have hE:fitF s false (n+1) t v=if t<0∨(s.length:Int)≤t then false else if v.kind≠(tyAt s t).kind∨zK v=false then false else fitB (fitF s false n) false (tyAt s t) v:=by rw[fitF]
 by_cases h1:t<0∨(s.length:Int)≤t
 ·rw[hE,if_pos h1]
  exact rfit_out_false hv t v A1 c1 A2 c2 A3 c3 w hs (.inl h1)
 rw[if_neg h1] at hE
 by_cases hk:v.kind=(tyAt s t).kind
 case neg =>
  rw[hE,if_pos (.inl hk)];exact rfit_out_false hv t v A1 c1 A2 c2 A3 c3 w hs (.inr (.inl ⟨by omega,by omega,hk⟩))
 cases hp:zK v with
 | false =>
  rw[hE,if_pos (.inr hp)];exact rfit_out_false hv t v A1 c1 A2 c2 A3 c3 w hs (.inr (.inr ⟨by omega,by omega,hk,.inl hp⟩))
 | true =>
  rw[if_neg (by rw[hp];simp[hk])] at hE
  rw[hE]
  by_cases hr0:false=true∧0<v.rest.length
  ·have hF:fitB (fitF s false n) false (tyAt s t) v=false:=by
    first
     | exact absurd hr0.1 (by decide)
     | exact fit_rest hp hk hr0.2
   rw[hF];exact rfit_out_false hv t v A1 c1 A2 c2 A3 c3 w hs (.inr (.inr ⟨by omega,by omega,hk,.inr ⟨hp,hr0⟩⟩))
  have hre:false=true→v.rest.length=0:=fun h=>Nat.eq_zero_of_not_pos fun g=>hr0 ⟨h,g⟩
  have hkr:=yT hv (t:=t) (by omega)
  obtain ⟨tn,rfl⟩:=Int.eq_ofNat_of_zero_le (show 0≤t by omega)
  have htn:tn<s.length:=by omega
  rw[zP htn] at hkr hk ⊢;have hkx:(s[tn]).kind=1∨(s[tn]).kind=2∨(s[tn]).kind=3∨(s[tn]).kind=4∨(s[tn]).kind=5∨(s[tn]).kind=6∨(s[tn]).kind=7∨(s[tn]).kind=8∨(s[tn]).kind=9:=by omega
  rcases hkx with e|e|e|e|e|e|e|e|e
  ·exact rfit_1 false hv hn ih tn htn v A1 c1 A2 c2 A3 c3 w hsz hs hr e hk hp hre
  ·exact rfit_2 false hv hn ih tn htn v A1 c1 A2 c2 A3 c3 w hsz hs hr e hk hp hre
  ·exact rfit_3 false hv hn ih tn htn v A1 c1 A2 c2 A3 c3 w hsz hs hr e hk hp hre
  ·exact rfit_4_false hv hn ih tn htn v A1 c1 A2 c2 A3 c3 w hsz hs hr e hk hp hre
  ·exact rfit_5 false hv hn ih tn htn v A1 c1 A2 c2 A3 c3 w hsz hs hr e hk hp hre
  ·exact rfit_6_false hv hn ih tn htn v A1 c1 A2 c2 A3 c3 w hsz hs hr e hk hp hre
  ·exact rfit_7 false hv hn ih tn htn v A1 c1 A2 c2 A3 c3 w hsz hs hr e hk hp hre
  ·exact rfit_8 false hv hn ih tn htn v A1 c1 A2 c2 A3 c3 w hsz hs hr e hk hp hre
  ·exact rfit_9 false hv hn ih tn htn v A1 c1 A2 c2 A3 c3 w hsz hs hr e hk hp hre
theorem rfit_all_false {s:List TyD} {A:zo} {c:Nat} (hv:zJ s=0) (hn:Num64 s):∀n,RFitAt s A c false n
 | 0=>fun _ v _ _ _ _ _ _ _ h=>absurd h (by have:=sizeV_pos v;omega)
 | n+1=>rfit_step_false hv hn (rfit_all_false hv hn n)
theorem r08_Plain_any {s:List TyD} (A:zo) (c:Nat) (hv:zJ s=0) (hn:Num64 s) (t:Int) (v:Val) (A1:zo) (c1:Nat) (A2:zo) (c2:Nat) (A3:zo) (c3:Nat) (w:World) (hs:TysR w A s) (hr:ValR w v A1 A2 A3) :
  Calls Tryz.prog 93 #[.agg #[.slice A s.length c],.int .i64 t,v.v A1 c1 A2 c2 A3 c3] w fun e w'=>e = .returned (.bool (fitV s true t v))∧Below w.heap.size w w':=by
 have HS:=zh hs;have HR:=zh hr;have HF:=zh (rfit_all_true (A:=A) (c:=c) hv hn (SizeOf.sizeOf v));have HB0:=zh (zE w (.cells #[.slice A s.length c] 27) (v.box A1 c1 A2 c2 A3 c3));have HX0:=zh (tmp_al (heap_alloc_new w (.cells #[.slice A s.length c] 27)) (v.box A1 c1 A2 c2 A3 c3))
 have HY0:Hid (((w.alloc (.cells #[.slice A s.length c] 27)).alloc (v.box A1 c1 A2 c2 A3 c3)).heap[w.heap.size+1]? = some (v.box A1 c1 A2 c2 A3 c3)):=by
  have:=heap_alloc_new (w.alloc (.cells #[.slice A s.length c] 27)) (v.box A1 c1 A2 c2 A3 c3);rw[show (w.alloc (.cells #[.slice A s.length c] 27)).heap.size=w.heap.size+1 by simp] at this
  exact this
 clear hs hr hv hn
 go_enter Tryz.func93,Tryz.ntmps93
 go_upto_region 1 with fail
 generalize (w.alloc (.cells #[.slice A s.length c] 27)).alloc (v.box A1 c1 A2 c2 A3 c3)=W1 at *;obtain ⟨v0,v1,v2,v3,v4,v5,v6,v7⟩:=zH HY0.out;have x0:=zb HX0.out;go_wp2_with fail;refine (HF.out t v A1 c1 A2 c2 A3 c3 _ (Nat.le_refl _) (HS.out.below HB0.out) (HR.out.below HB0.out)).mono ?_;rintro e w1 ⟨rfl,hb1⟩;have HB1:=zh (zB HB0.out hb1);clear hb1;go_wp2;go_ret;exact ⟨rfl,HB1.out⟩
theorem r08_Fits_any {s:List TyD} (A:zo) (c:Nat) (hv:zJ s=0) (hn:Num64 s) (t:Int) (v:Val) (A1:zo) (c1:Nat) (A2:zo) (c2:Nat) (A3:zo) (c3:Nat) (w:World) (hs:TysR w A s) (hr:ValR w v A1 A2 A3) :
  Calls Tryz.prog 147 #[.agg #[.slice A s.length c],.int .i64 t,v.v A1 c1 A2 c2 A3 c3] w fun e w'=>e = .returned (.bool (fitV s false t v))∧Below w.heap.size w w':=by
 have HS:=zh hs;have HR:=zh hr;have HF:=zh (rfit_all_false (A:=A) (c:=c) hv hn (SizeOf.sizeOf v));have HB0:=zh (zE w (.cells #[.slice A s.length c] 27) (v.box A1 c1 A2 c2 A3 c3));have HX0:=zh (tmp_al (heap_alloc_new w (.cells #[.slice A s.length c] 27)) (v.box A1 c1 A2 c2 A3 c3))
 have HY0:Hid (((w.alloc (.cells #[.slice A s.length c] 27)).alloc (v.box A1 c1 A2 c2 A3 c3)).heap[w.heap.size+1]? = some (v.box A1 c1 A2 c2 A3 c3)):=by
  have:=heap_alloc_new (w.alloc (.cells #[.slice A s.length c] 27)) (v.box A1 c1 A2 c2 A3 c3);rw[show (w.alloc (.cells #[.slice A s.length c] 27)).heap.size=w.heap.size+1 by simp] at this
  exact this
 clear hs hr hv hn
 go_enter Tryz.func147,Tryz.ntmps147
 go_upto_region 1 with fail
 generalize (w.alloc (.cells #[.slice A s.length c] 27)).alloc (v.box A1 c1 A2 c2 A3 c3)=W1 at *;obtain ⟨v0,v1,v2,v3,v4,v5,v6,v7⟩:=zH HY0.out;have x0:=zb HX0.out;go_wp2_with fail;refine (HF.out t v A1 c1 A2 c2 A3 c3 _ (Nat.le_refl _) (HS.out.below HB0.out) (HR.out.below HB0.out)).mono ?_;rintro e w1 ⟨rfl,hb1⟩;have HB1:=zh (zB HB0.out hb1);clear hb1;go_wp2;go_ret;exact ⟨rfl,HB1.out⟩
theorem rDefaults_any {s:List TyD} (A:zo) (c:Nat) (hn:Num64 s) (w:World) (hs:TysR w A s) :
  Calls Tryz.prog 65 #[.agg #[.slice A s.length c]] w fun e w'=>∃x y:Int,e = .returned (.tuple #[.int .i64 x,.int .i64 y,.int .i64 (defErr s)])∧Below w.heap.size w w':=by
 have hln:=hs.1.lt (by omega)
 have HS:=zh hs;have HN:=zh hn;have HB0:=zh (zD w (.cells #[.slice A s.length c] 27));have HX0:=zh (heap_alloc_new w (.cells #[.slice A s.length c] 27));have HE:Hid (defErr s=if zJ s≠0 then zJ s else if (s.any fun t=>t.mems.any fun m=>badDf s m) then 1 else 0):=rfl
 clear hs hn
 go_enter Tryz.func65,Tryz.ntmps65
 go_upto_region 1 with fail
 generalize w.alloc (.cells #[.slice A s.length c] 27)=W1 at *;have x0:=zb HX0.out;go_wp2_with fail;refine (rValid_any s A c W1 (HS.out.below HB0.out)).mono ?_;rintro e w1 ⟨rfl,hb1⟩;have HB1:=zh (zB HB0.out hb1);have HX1:=zh (zF HX0.out hb1);clear hb1 x0
 by_cases hv:zJ s=0
 case neg =>
  have q1:(zJ s != 0)=true:=by simp[hv]
  have HE2:=zh (HE.out.trans (if_pos hv));clear hv HE;go_wp2;refine bodyPost_ret (v := .tuple #[.int .i64 0,.int .i64 0,.int .i64 (zJ s)]) (by simp[results,Tryz.results65,go_sem]) rfl ⟨0,0,by rw[HE2.out],HB1.out⟩
 have HV:=zh hv;have HE2:=zh (HE.out.trans (if_neg (by simp[hv])))
 rw[hv];clear hv HE;go_wp2_with fail
 go_loopw [6] (fun i wr=>∃k:Nat,k≤s.length∧i = .int .i64 (k:Int)∧Hid ((∀j (h:j<s.length),j<k→((s[j]).mems.any fun m=>badDf s m)=false)∧Below w1.heap.size w1 wr)) (fun i _=>s.length - (intOf i).toNat)
 case atStart=>exact ⟨0,by omega,rfl,(fun j _ h=>absurd h (by omega)),Below.refl _ _⟩
 case round =>
  obtain ⟨k,hk,rfl,hh⟩:=hrel;have HNO:=zh hh.out.1;have HBR:=zh hh.out.2;obtain ⟨wk,rfl⟩:∃wk:World,wk=wr:=⟨_,rfl⟩;clear hh;have HXk:=zh (zF HX1.out HBR.out);have x0:=zb HXk.out
  by_cases hlt:k<s.length
  ·have HSK:=zh (HS.out.below (zB HB1.out HBR.out))
   obtain ⟨b,o,As,cs,Am,cm,hA,htr,t0,t1,t2,t3,t4,t5,t6,t7,t8,t9⟩:=HSK.out.at10 hlt;rw[hA] at x0;clear hA;have HTR:=zh htr;have h1:(0:Int)≤(k:Int):=by omega
   have h2:(k:Int)<(s.length:Int):=by omega
   have HYES:Hid (((s[k]).mems.any fun m=>badDf s m)=true→defErr s=1):=fun h=>HE2.out.trans (if_pos (any_yes hlt h))
   have HSTEP:Hid (((s[k]).mems.any fun m=>badDf s m)=false→∀j (h:j<s.length),j<k+1→((s[j]).mems.any fun m=>badDf s m)=false):=fun h j hj hjk=>by
    by_cases ej:j=k
    ·subst ej;exact h
    ·exact HNO.out j hj (by omega)
   generalize s[k]=x at *;have hml:=htr.mems.1.lt (by omega)
   clear htr t0 t1 t2 t3 t4 t5 t7 t8 t9;go_wp2_with fail
   go_loopw [8] (fun i wr=>∃m:Nat,m≤x.mems.length∧i = .int .i64 (m:Int)∧Hid ((∀j (h:j<x.mems.length),j<m→badDf s x.mems[j]=false)∧Below wk.heap.size wk wr)) (fun i _=>x.mems.length - (intOf i).toNat)
   case atStart=>exact ⟨0,by omega,rfl,(fun j _ h=>absurd h (by omega)),Below.refl _ _⟩
   case round =>
    obtain ⟨m,hm,rfl,hh⟩:=hrel;have HNM:=zh hh.out.1;have HBM:=zh hh.out.2;obtain ⟨wm,rfl⟩:∃wm:World,wm=wr:=⟨_,rfl⟩;clear hh x0 t6
    by_cases hlm:m<x.mems.length
    ·obtain ⟨b2,o2,E1,k1,E2,k2,E3,k3,hA2,hmr,d0,d1,d2,d3,d4,d5,d6,d7,d8,d9,d10,d11,d12⟩:=(HTR.out.below HBM.out).mems.at13 hlm
     subst hA2;have HMR:=zh hmr;have g1:(0:Int)≤(m:Int):=by omega
     have g2:(m:Int)<(x.mems.length:Int):=by omega
     have HYES2:Hid (badDf s x.mems[m]=true→defErr s=1):=fun h=>HYES.out (any_yes hlm h)
     have HSTEP2:Hid (badDf s x.mems[m]=false→∀j (h:j<x.mems.length),j<m+1→badDf s x.mems[j]=false):=fun h j hj hjk=>by
      by_cases ej:j=m
      ·subst ej;exact h
      ·exact HNM.out j hj (by omega)
     generalize x.mems[m]=y at *;have HXm:=zh (zF HXk.out HBM.out);have HBW:=zh (zB HB1.out (zB HBR.out HBM.out));have HD:=zh (And.intro d0 (And.intro d2 (And.intro d4 (And.intro d5 (And.intro d6 (And.intro d7 (And.intro d8 (And.intro d9 (And.intro d10 (And.intro d11 d12))))))))));clear hmr d0 d1 d2 d3 d4 d5 d6 d7 d8 d9 d10 d11 d12
     have HCC:Hid (∀w',Below wm.heap.size wm w'→(w'.cell? ⟨w.heap.size,0,none⟩=some (.slice A s.length c)∧w'.cell? ⟨b2,o2+m * 13,none⟩=some (.int .i64 y.id)∧w'.cell? ⟨b2,o2+m * 13+2,none⟩=some (.int .i64 y.type)∧w'.cell? ⟨b2,o2+m * 13+4,none⟩=some (.bool y.hasDef)∧w'.cell? ⟨b2,o2+m * 13+5,none⟩=some (.int .i64 y.dflt.kind)∧w'.cell? ⟨b2,o2+m * 13+6,none⟩=some (.bool y.dflt.bool)∧w'.cell? ⟨b2,o2+m * 13+7,none⟩=some (.int .i64 y.dflt.int)∧w'.cell? ⟨b2,o2+m * 13+8,none⟩=some (.string y.dflt.str)∧w'.cell? ⟨b2,o2+m * 13+9,none⟩=some (.int .i64 y.dflt.id)∧w'.cell? ⟨b2,o2+m * 13+10,none⟩=some (.slice E1 y.dflt.keys.length k1)∧w'.cell? ⟨b2,o2+m * 13+11,none⟩=some (.slice E2 y.dflt.items.length k2)∧w'.cell? ⟨b2,o2+m * 13+12,none⟩=some (.slice E3 y.dflt.rest.length k3))):=fun w' hb=>by
      obtain ⟨d0,d2,d4,d5,d6,d7,d8,d9,d10,d11,d12⟩:=HD.out;exact ⟨zA hb (by rw[cell_of_row _ _ _ _ _ _ HXm.out];rfl),zA hb d0,zA hb d2,zA hb d4,zA hb d5,zA hb d6,zA hb d7,zA hb d8,zA hb d9,zA hb d10,zA hb d11,zA hb d12⟩
     cases hdf:y.hasDef with
     | false =>
      have HOK:=zh (HSTEP2.out (by unfold badDf;rw[hdf];rfl))
      rw[hdf] at HCC;clear hdf;go_upto_region 11 with fail
      refine wp_region_held_drew (S:=(fun w'=>(w'.cell? ⟨b2,o2+m * 13+4,none⟩=some (.bool false))∧Hid (Below wm.heap.size wm w'))) (by kernel_rfl) ?_ (fun zH_=>?_)
      ·(try dsimp only);exact ⟨(HCC.out _ (zC (Below.refl _ _) 1)).2.2.2.1,zC (Below.refl _ _) 1⟩
      refine tL 0 ?_;refine tL 1 ?_;refine tL 2 ?_;refine tL 3 ?_;refine tL 4 ?_;refine tL 5 ?_;try simp only[ps]
      refine tU 6 ?_;refine tU 7 ?_;refine tU 8 ?_;refine tU 9 ?_;refine tU 10 ?_;refine tU 11 ?_;try simp only[ps]
      refine tU 12 ?_;refine tU 13 ?_;refine tU 14 ?_;refine tU 15 ?_;refine tU 16 ?_;refine tU 17 ?_;try simp only[ps]
      refine tU 18 ?_;refine tL 19 ?_;refine wpAnyH_done (by kernel_rfl) ?_ _
      have HBZ:=zh (zB HBM.out zH_.2.out);clear zH_;go_wp2;go_roundw
      case rel=>exact ⟨m+1,by omega,by go_num,HOK.out,HBZ.out⟩
      case measure=>simp[intOf];omega
     | true =>
      rw[hdf] at HCC;have HBD:Hid (badDf s y = !fitV s true y.type y.dflt):=by show _=_;unfold badDf;rw[hdf];rfl
      clear hdf;go_upto_region 11 with fail
      refine wp_region_held_drew (S:=(fun w'=>(w'.cell? ⟨w.heap.size,0,none⟩=some (.slice A s.length c)∧w'.cell? ⟨b2,o2+m * 13,none⟩=some (.int .i64 y.id)∧w'.cell? ⟨b2,o2+m * 13+2,none⟩=some (.int .i64 y.type)∧w'.cell? ⟨b2,o2+m * 13+4,none⟩=some (.bool true)∧w'.cell? ⟨b2,o2+m * 13+5,none⟩=some (.int .i64 y.dflt.kind)∧w'.cell? ⟨b2,o2+m * 13+6,none⟩=some (.bool y.dflt.bool)∧w'.cell? ⟨b2,o2+m * 13+7,none⟩=some (.int .i64 y.dflt.int)∧w'.cell? ⟨b2,o2+m * 13+8,none⟩=some (.string y.dflt.str)∧w'.cell? ⟨b2,o2+m * 13+9,none⟩=some (.int .i64 y.dflt.id)∧w'.cell? ⟨b2,o2+m * 13+10,none⟩=some (.slice E1 y.dflt.keys.length k1)∧w'.cell? ⟨b2,o2+m * 13+11,none⟩=some (.slice E2 y.dflt.items.length k2)∧w'.cell? ⟨b2,o2+m * 13+12,none⟩=some (.slice E3 y.dflt.rest.length k3))∧Hid (Below wm.heap.size wm w'))) (by kernel_rfl) ?_ (fun zH_=>?_)
      ·(try dsimp only);exact ⟨HCC.out _ (zC (Below.refl _ _) 1),zC (Below.refl _ _) 1⟩
      refine tL 0 ?_;refine tL 1 ?_;refine tL 2 ?_;refine tL 3 ?_;try simp only[ps]
      refine tL 4 ?_;refine tL 5 ?_;refine tL 6 ?_;refine tL 7 ?_;refine tL 8 ?_;refine tL 9 ?_;try simp only[ps]
      refine tL 10 ?_;refine tL 11 ?_;refine tL 12 ?_;refine tL 13 ?_;refine tL 14 ?_;refine tL 15 ?_;try simp only[ps]
      refine tL 16 ?_;refine tR 17 (fun K hK=>?_)
      go_simp
      (refine (r08_Plain_any A c HV.out HN.out y.type y.dflt E1 k1 E2 k2 E3 k3 _ (HS.out.below (zB HBW.out zH_.2.out)) (HMR.out.below zH_.2.out).dflt).mono ?_;rintro e w4 ⟨rfl,hb4⟩;have HB4:=zh (zB zH_.2.out hb4);clear hb4)
      refine hK.out _ _ ?_ (fun zH_=>?_)
      ·(try dsimp only);exact ⟨HCC.out _ HB4.out,HB4.out⟩
      clear hK K;refine tL 18 ?_;refine tL 19 ?_;refine wpAnyH_done (by kernel_rfl) ?_ _
      clear zH_;have e0:=(HCC.out _ HB4.out).2.1
      cases hf:fitV s true y.type y.dflt with
      | true =>
       have HOK:=zh (HSTEP2.out (by rw[HBD.out,hf];rfl))
       clear hf HBD;go_wp2;go_roundw
       case rel=>exact ⟨m+1,by omega,by go_num,HOK.out,zB HBM.out HB4.out⟩
       case measure=>simp[intOf];omega
      | false =>
       have HD1:=zh (HYES2.out (by rw[HBD.out,hf];rfl))
       clear hf HBD;go_upto_region 12 with fail
       go_quiet (fail)
       go_wp2
       refine bodyPost_ret (v := .tuple #[.int .i64 k,.int .i64 y.id,.int .i64 1]) (by simp[results,Tryz.results65,go_sem]) rfl ⟨k,y.id,by rw[HD1.out],zC (zB HBW.out HB4.out) _⟩
    ·have HBE:=zh (zB HBR.out HBM.out)
     have HOK:=zh (HSTEP.out (any_no fun j hj=>HNM.out j hj (by omega)))
     go_wp2
     go_roundw
     case rel=>exact ⟨k+1,by omega,by go_num,HOK.out,HBE.out⟩
     case measure=>simp[intOf];omega
  ·have HBK:=zh (zB HB1.out HBR.out)
   have HD0:Hid (defErr s=0):=by
    show _=_
    rw[HE2.out,any_no (p:=fun t=>t.mems.any fun m=>badDf s m) fun j hj=>HNO.out j hj (by omega)];rfl
   go_wp2
   refine bodyPost_ret (v := .tuple #[.int .i64 0,.int .i64 0,.int .i64 0]) (by simp[results,Tryz.results65,go_sem]) rfl ⟨0,0,by rw[HD0.out],HBK.out⟩
structure CkS (w:World) (A:zo) (n c:Nat) (W:World):Prop where
 bel:Below w.heap.size w W
 sch:W.heap[w.heap.size]? = some (.cells #[.slice A n c] 27 (0,0))
 res:W.heap[w.heap.size+1]? = some (tbox noT)
theorem CkS.below {w:World} {A:zo} {n c:Nat} {W W':World} (h:CkS w A n c W) (hb:Below W.heap.size W W'):CkS w A n c W' :=
 ⟨zB h.bel hb,zF h.sch hb,zF h.res hb⟩
theorem CkS.sc {w:World} {A:zo} {n c:Nat} {W:World} (h:CkS w A n c W):W.cell? ⟨w.heap.size,0,none⟩=some (.slice A n c):=by
 rw[cell_of_row _ _ _ _ _ _ h.sch];rfl
noncomputable def checkT (s:List TyD) (df:MemD→ByteArray):TextD:=if checkR s (defErr s) df=0 then yL s df s else noT
section
variable {s:List TyD} {df:MemD→ByteArray}
theorem ck_valid (h:zJ s≠0):checkR s (defErr s) df=zJ s∧checkT s df=noT:=by
 have e:checkR s (defErr s) df=zJ s:=by unfold checkR;rw[if_pos h]
 exact ⟨e,by unfold checkT;rw[e,if_neg h]⟩
theorem ck_def (h:zJ s=0) (h2:defErr s≠0):checkR s (defErr s) df=defErr s∧checkT s df=noT:=by
 have e:checkR s (defErr s) df=defErr s:=by unfold checkR;rw[if_neg (by simp[h]),if_pos h2]
 exact ⟨e,by unfold checkT;rw[e,if_neg h2]⟩
theorem ck_word (h:zJ s=0) (h2:defErr s=0) (h3:(yL s df s).2.1=true):checkR s (defErr s) df=1∧checkT s df=noT:=by
 have e:checkR s (defErr s) df=1:=by unfold checkR;rw[if_neg (by simp[h]),if_neg (by simp[h2]),if_pos h3]
 exact ⟨e,by unfold checkT;rw[e,if_neg (by decide)]⟩
theorem ck_ring (h:zJ s=0) (h2:defErr s=0) (h3:(yL s df s).2.1=false) (h4:(yL s df s).2.2=true):checkR s (defErr s) df=9∧checkT s df=noT:=by
 have e:checkR s (defErr s) df=9:=by unfold checkR;rw[if_neg (by simp[h]),if_neg (by simp[h2]),if_neg (by simp[h3]),if_pos h4]
 exact ⟨e,by unfold checkT;rw[e,if_neg (by decide)]⟩
theorem ck_ok (h:zJ s=0) (h2:defErr s=0) (h3:(yL s df s).2.1=false) (h4:(yL s df s).2.2=false):checkR s (defErr s) df=0∧checkT s df=yL s df s:=by
 have e:checkR s (defErr s) df=0:=by unfold checkR;rw[if_neg (by simp[h]),if_neg (by simp[h2]),if_neg (by simp[h3]),if_neg (by simp[h4])]
 exact ⟨e,by unfold checkT;rw[e,if_pos rfl]⟩
end
theorem rCheck_any (s:List TyD) (A:zo) (c:Nat) (hn:Num64 s) (df:MemD→ByteArray) (hd:zJ s=0→defErr s=0→∀t∈s,∀m∈t.mems,RDfOk s A c df m) (w:World) (hs:TysR w A s) (htab:Tab w) :
  Calls Tryz.prog 35 #[.agg #[.slice A s.length c]] w fun e w'=>e = .returned (.tuple #[tv (checkT s df),.int .i64 (checkR s (defErr s) df)])∧Below w.heap.size w w':=by
 have HS:=zh hs;have HTB:=zh htab;have HN:=zh hn;have HD:=zh hd;have HC0:Hid (CkS w A s.length c ((w.alloc (.cells #[.slice A s.length c] 27)).alloc ztext)):=by
  refine ⟨zE w _ _,zF (heap_alloc_new w _) (zD _ _),?_⟩;have h:=heap_alloc_new (w.alloc (.cells #[.slice A s.length c] 27)) ztext;rw[show (w.alloc (.cells #[.slice A s.length c] 27)).heap.size=w.heap.size+1 by simp] at h
  exact h
 clear hs htab hn hd
 go_enter Tryz.func35,Tryz.ntmps35
 go_wp2_with fail
 generalize (w.alloc (.cells #[.slice A s.length c] 27)).alloc ztext=W1 at *;refine (rValid_any s A c W1 (HS.out.below HC0.out.bel)).mono ?_;rintro e w1 ⟨rfl,hb1⟩;have HC1:=zh (HC0.out.below hb1);clear hb1 HC0;have z0:=HC1.out.sc
 by_cases hv:zJ s=0
 case neg =>
  have q1:(zJ s != 0)=true:=by simp[hv]
  have HE:=zh (ck_valid (df:=df) hv);clear hv;go_wp2_with (refine wpList_store_mid rfl 74 (.tmp 2) (.tmp 13) rfl (w.heap.size+1) 0 #[.string ⟨#[]⟩,.bool false,.bool false] (by rfl) (by rfl) ?_ ?_ ?_ ?_;(exact yM HC1.out.res);(exact txt_info);(exact txt_one noT))
  obtain ⟨⟨r0,r1,r2⟩,hbe⟩:=txt_end HC1.out.bel (Nat.le_succ _) HC1.out.res noT;simp only[noT] at r0 r1 r2 hbe;go_wp2;refine bodyPost_ret (v := .tuple #[tv noT,.int .i64 (zJ s)]) (by simp[results,Tryz.results35,go_sem,r0,r1,r2,noT]) rfl ⟨by rw[HE.out.1,HE.out.2],hbe⟩
 have HV:=zh hv;rw[hv];clear hv;go_wp2_with fail;refine (rDefaults_any A c HN.out w1 (HS.out.below HC1.out.bel)).mono ?_;rintro e w2 ⟨x,y,rfl,hb2⟩;have HC2:=zh (HC1.out.below hb2);clear hb2 z0;have z0:=HC2.out.sc
 by_cases hd:defErr s=0
 case neg =>
  have q1:(defErr s != 0)=true:=by simp[hd]
  have HE:=zh (ck_def (df:=df) HV.out hd);clear hd;go_wp2_with (refine wpList_store_mid rfl 74 (.tmp 2) (.tmp 23) rfl (w.heap.size+1) 0 #[.string ⟨#[]⟩,.bool false,.bool false] (by rfl) (by rfl) ?_ ?_ ?_ ?_;(exact yM HC2.out.res);(exact txt_info);(exact txt_one noT))
  obtain ⟨⟨r0,r1,r2⟩,hbe⟩:=txt_end HC2.out.bel (Nat.le_succ _) HC2.out.res noT;simp only[noT] at r0 r1 r2 hbe;go_wp2;refine bodyPost_ret (v := .tuple #[tv noT,.int .i64 (defErr s)]) (by simp[results,Tryz.results35,go_sem,r0,r1,r2,noT]) rfl ⟨by rw[HE.out.1,HE.out.2],hbe⟩
 have HDE:=zh hd;rw[hd];clear hd;go_wp2_with fail;refine (rWhole_any s A c HV.out HN.out df (HD.out HV.out HDE.out) w2 (HS.out.below HC2.out.bel) (HTB.out.below HC2.out.bel)).mono ?_;rintro e w3 ⟨rfl,hb3⟩;have HC3:=zh ((HC2.out.below hb3).below (zD w3 (tbox (yL s df s))));have HX3:=zh (heap_alloc_new w3 (tbox (yL s df s)));clear hb3 z0;go_upto_region 8 with fail
 generalize w3.alloc _=W4 at *;generalize w3.heap.size=p at *;obtain ⟨k0,k1,k2⟩:=text_cells HX3.out
 cases h1:(yL s df s).2.1 with
 | true =>
  have HE:=zh (ck_word HV.out HDE.out h1);rw[h1] at k1;clear h1;go_wp2_with (refine wpList_store_mid rfl 74 (.tmp 2) (.tmp 29) rfl (w.heap.size+1) 0 #[.string ⟨#[]⟩,.bool false,.bool false] (by rfl) (by rfl) ?_ ?_ ?_ ?_;(exact yM HC3.out.res);(exact txt_info);(exact txt_one noT))
  obtain ⟨⟨r0,r1,r2⟩,hbe⟩:=txt_end HC3.out.bel (Nat.le_succ _) HC3.out.res noT;simp only[noT] at r0 r1 r2 hbe;go_wp2;refine bodyPost_ret (v := .tuple #[tv noT,.int .i64 1]) (by simp[results,Tryz.results35,go_sem,r0,r1,r2,noT]) rfl ⟨by rw[HE.out.1,HE.out.2],hbe⟩
 | false =>
  cases h2:(yL s df s).2.2 with
  | true =>
   have HE:=zh (ck_ring HV.out HDE.out h1 h2);rw[h1] at k1;rw[h2] at k2;clear h1 h2;go_wp2_with (refine wpList_store_mid rfl 74 (.tmp 2) (.tmp 32) rfl (w.heap.size+1) 0 #[.string ⟨#[]⟩,.bool false,.bool false] (by rfl) (by rfl) ?_ ?_ ?_ ?_;(exact yM HC3.out.res);(exact txt_info);(exact txt_one noT))
   obtain ⟨⟨r0,r1,r2⟩,hbe⟩:=txt_end HC3.out.bel (Nat.le_succ _) HC3.out.res noT;simp only[noT] at r0 r1 r2 hbe;go_wp2;refine bodyPost_ret (v := .tuple #[tv noT,.int .i64 9]) (by simp[results,Tryz.results35,go_sem,r0,r1,r2,noT]) rfl ⟨by rw[HE.out.1,HE.out.2],hbe⟩
  | false =>
   have HE:=zh (ck_ok HV.out HDE.out h1 h2);have HQ:Hid (yL s df s=((yL s df s).1,false,false)):=Prod.ext rfl (Prod.ext h1 h2);rw[h1] at k1;rw[h2] at k2;clear h1 h2;generalize (yL s df s).1=T at *
   go_wp2_with (refine wpList_store_mid rfl 74 (.tmp 2) (.tmp 33) rfl (w.heap.size+1) 0 #[.string T,.bool false,.bool false] (by rfl) (by rfl) ?_ ?_ ?_ ?_;(exact yM HC3.out.res);(exact txt_info);(exact txt_one (T,false,false)))
   obtain ⟨⟨r0,r1,r2⟩,hbe⟩:=txt_end HC3.out.bel (Nat.le_succ _) HC3.out.res (T,false,false);simp only at r0 r1 r2 hbe;go_wp2;refine bodyPost_ret (v := .tuple #[tv (T,false,false),.int .i64 0]) (by simp[results,Tryz.results35,go_sem,r0,r1,r2]) rfl ⟨by rw[HE.out.1,HE.out.2,HQ.out],hbe⟩
theorem rPrint_any (s:List TyD) (A:zo) (c:Nat) (hn:Num64 s) (df:MemD→ByteArray) (hd:zJ s=0→defErr s=0→∀t∈s,∀m∈t.mems,RDfOk s A c df m) (w:World) (hs:TysR w A s) (htab:Tab w) :
  Calls Tryz.prog 16 #[.agg #[.slice A s.length c]] w fun e w'=>e = .returned (.tuple #[.string (printD s (defErr s) df).1,.int .i64 (printD s (defErr s) df).2])∧Below w.heap.size w w':=by
 have HS:=zh hs;have HTB:=zh htab;have HCK:=zh (fun (W:World) (hb:Below w.heap.size w W)=>rCheck_any s A c hn df hd W (hs.below hb) (htab.below hb))
 have HSM:=zh (check_same (s:=s) (df:=df) (defErr s));have HX0:=zh (heap_alloc_new w (.cells #[.slice A s.length c] 27));have HB0:=zh (zD w (.cells #[.slice A s.length c] 27));clear hs htab hn hd
 go_enter Tryz.func16,Tryz.ntmps16
 go_wp2_with fail
 generalize w.alloc (.cells #[.slice A s.length c] 27)=W1 at *;refine (HCK.out W1 HB0.out).mono ?_;rintro e w1 ⟨rfl,hb1⟩;have HB1:=zh (zB HB0.out (zB hb1 (zD w1 (tbox (checkT s df)))));have HX1:=zh (heap_alloc_new w1 (tbox (checkT s df)));clear hb1 HCK;rw[HSM.out];go_upto_region 2 with fail
 generalize w1.alloc _=W2 at *;generalize w1.heap.size=p at *;obtain ⟨k0,k1,k2⟩:=text_cells HX1.out
 by_cases hc:yN s (defErr s)=0
 case neg =>
  have q1:(yN s (defErr s)==0)=false:=by simp[hc]
  have q2:(yN s (defErr s) != 0)=true:=by simp[hc]
  have HT:=zh (print_bad (df:=df) hc);clear hc;go_wp2;go_ret2;exact ⟨by rw[HT.out];rfl,HB1.out⟩
 have HT:Hid (checkT s df=yL s df s∧(yL s df s).1=printT s df s):=⟨by unfold checkT;rw[HSM.out,if_pos hc],whole_text hc⟩
 have HPD:Hid (printD s (defErr s) df=if 65536<(printT s df s).size then (⟨#[]⟩,3) else (printT s df s,0)):=by show _=_;unfold printD;rw[if_neg (by simp[hc])]
 rw[HT.out.1,HT.out.2] at k0;rw[hc];clear hc;generalize printT s df s=T at *
 by_cases hz:65536<T.size
 ·have q1:(65536:Int)<(T.size:Int):=by omega
  have HE:=zh (HPD.out.trans (if_pos hz));clear hz;go_wp2;go_ret2;exact ⟨by rw[HE.out];rfl,HB1.out⟩
 ·have q1:¬ (65536:Int)<(T.size:Int):=by omega
  have HE:=zh (HPD.out.trans (if_neg hz));clear hz;go_wp2;go_ret2;exact ⟨by rw[HE.out];rfl,HB1.out⟩
def TextAt (s:List TyD) (A:zo) (c:Nat) (n:Nat):Prop:=∀ (t:Int) (v:Val) (A1:zo) (c1:Nat) (A2:zo) (c2:Nat) (A3:zo) (c3:Nat) (w:World),
 fitF s false n t v=true→TysR w A s→ValR w v A1 A2 A3→Tab w→(litF s n t v).size≤1073741824 →
 Calls Tryz.prog 148 #[.agg #[.slice A s.length c],.int .i64 t,v.v A1 c1 A2 c2 A3 c3] w fun e w'=>e = .returned (.string (litF s n t v))∧Below w.heap.size w w'
def TextK (s:List TyD) (A:zo) (c:Nat) (n:Nat) (k:Int):Prop:=∀ (tn:Nat) (htn:tn<s.length) (v:Val) (A1:zo) (c1:Nat) (A2:zo) (c2:Nat) (A3:zo) (c3:Nat) (w:World),
 (s[tn]).kind=k→fitB (fitF s false n) false s[tn] v=true→TysR w A s→ValR w v A1 A2 A3→Tab w→(litB (litF s n) s[tn] v).size≤1073741824 →
 Calls Tryz.prog 148 #[.agg #[.slice A s.length c],.int .i64 (tn:Int),v.v A1 c1 A2 c2 A3 c3] w fun e w'=>e = .returned (.string (litB (litF s n) s[tn] v))∧Below w.heap.size w w'
theorem rtext_1 {s:List TyD} {A:zo} {c n:Nat} (hn:Num64 s) (_ih:TextAt s A c n):TextK s A c n 1:=by
 intro tn htn v A1 c1 A2 c2 A3 c3 w e hf hs hr htb hz
 have hln:=hs.1.lt (by omega)
 obtain ⟨HB0,H5,H7⟩:=zy w (.cells #[.slice A s.length c] 27) (v.box A1 c1 A2 c2 A3 c3);have HIH:=zh _ih;have HS:=zh hs;have HR:=zh hr;have HTB:=zh htb;have HXN:=zh (hn _ (List.getElem_mem htn));obtain ⟨L,hL⟩:∃L,litB (litF s n) s[tn] v=L:=⟨_,rfl⟩;rw[hL] at hz ⊢;obtain ⟨b,o,As,cs,Am,cm,hA,htr,t0,t1,t2,t3,t4,t5,t6,t7,t8,t9⟩:=(hs.below HB0.out).at10 htn;clear hs hr htb _ih hn;subst hA
 generalize s[tn]=x at *;have HL0:Hid (L=litB (litF s n) x v):=hL.symm;have HSZ:=zh hz;have HTR:=zh htr;have HFB:=zh hf;have HK:=zh e;clear hL hz htr hf e;have h1:(0:Int)≤(tn:Int):=by omega
 have h2:(tn:Int)<(s.length:Int):=by omega
 go_enter Tryz.func148,Tryz.ntmps148
 go_upto_region 1 with fail
 generalize (w.alloc (.cells #[.slice (some ⟨b,o,none⟩) s.length c] 27)).alloc (v.box A1 c1 A2 c2 A3 c3)=W2 at *;have x0:=zb H5.out;go_upto_region 2 with fail
 clear t0 t1 t2 t3 t4 t5 t6 t7 t8 t9 x0;have HBX:=zh (zD W2 (x.box As cs Am cm));have HT4:Hid (TBox (W2.alloc (x.box As cs Am cm)) W2.heap.size x As cs Am cm):=heap_alloc_new W2 _;have H54:=zh (zF H5.out HBX.out);have H74:=zh (zF H7.out HBX.out);have HB4:=zh (zB HB0.out HBX.out);have HTR4:=zh (HTR.out.below HBX.out);generalize W2.alloc (x.box As cs Am cm)=w4 at *;generalize W2.heap.size=p7 at *
 clear H5 H7 HTR HBX HB0;have q1:=zk1 HK.out;obtain ⟨v0,v1,v2,v3,v4,v5,v6,v7⟩:=zH H74.out;obtain ⟨b0,b1,b2,b3,b4,b5,b6,b7,b8,b9⟩:=zI HT4.out;have x0:=zb H54.out;have HL1:=zh (HL0.out.trans (lit1 HK.out))
 cases hb:v.bool with
 | true =>
  have HL:Hid (L=⟨#[116,114,117,101]⟩):=by show _=_;rw[HL1.out,hb];rfl
  rw[hb] at v1;clear hb HL1;go_wp2;go_ret;exact ⟨by rw[HL.out];rfl,HB4.out⟩
 | false =>
  have HL:Hid (L=⟨#[102,97,108,115,101]⟩):=by show _=_;rw[HL1.out,hb];rfl
  rw[hb] at v1;clear hb HL1;go_wp2;go_ret;exact ⟨by rw[HL.out];rfl,HB4.out⟩
theorem rtext_2 {s:List TyD} {A:zo} {c n:Nat} (hn:Num64 s) (_ih:TextAt s A c n):TextK s A c n 2:=by
 intro tn htn v A1 c1 A2 c2 A3 c3 w e hf hs hr htb hz
 have hln:=hs.1.lt (by omega)
 obtain ⟨HB0,H5,H7⟩:=zy w (.cells #[.slice A s.length c] 27) (v.box A1 c1 A2 c2 A3 c3);have HIH:=zh _ih;have HS:=zh hs;have HR:=zh hr;have HTB:=zh htb;have HXN:=zh (hn _ (List.getElem_mem htn));obtain ⟨L,hL⟩:∃L,litB (litF s n) s[tn] v=L:=⟨_,rfl⟩;rw[hL] at hz ⊢;obtain ⟨b,o,As,cs,Am,cm,hA,htr,t0,t1,t2,t3,t4,t5,t6,t7,t8,t9⟩:=(hs.below HB0.out).at10 htn;clear hs hr htb _ih hn;subst hA
 generalize s[tn]=x at *;have HL0:Hid (L=litB (litF s n) x v):=hL.symm;have HSZ:=zh hz;have HTR:=zh htr;have HFB:=zh hf;have HK:=zh e;clear hL hz htr hf e;have h1:(0:Int)≤(tn:Int):=by omega
 have h2:(tn:Int)<(s.length:Int):=by omega
 go_enter Tryz.func148,Tryz.ntmps148
 go_upto_region 1 with fail
 generalize (w.alloc (.cells #[.slice (some ⟨b,o,none⟩) s.length c] 27)).alloc (v.box A1 c1 A2 c2 A3 c3)=W2 at *;have x0:=zb H5.out;go_upto_region 2 with fail
 clear t0 t1 t2 t3 t4 t5 t6 t7 t8 t9 x0;have HBX:=zh (zD W2 (x.box As cs Am cm));have HT4:Hid (TBox (W2.alloc (x.box As cs Am cm)) W2.heap.size x As cs Am cm):=heap_alloc_new W2 _;have H54:=zh (zF H5.out HBX.out);have H74:=zh (zF H7.out HBX.out);have HB4:=zh (zB HB0.out HBX.out);have HTR4:=zh (HTR.out.below HBX.out);generalize W2.alloc (x.box As cs Am cm)=w4 at *;generalize W2.heap.size=p7 at *
 clear H5 H7 HTR HBX HB0;obtain ⟨q1,q2⟩:=zk2 HK.out;obtain ⟨v0,v1,v2,v3,v4,v5,v6,v7⟩:=zH H74.out;obtain ⟨b0,b1,b2,b3,b4,b5,b6,b7,b8,b9⟩:=zI HT4.out;have x0:=zb H54.out;have HL:=zh (HL0.out.trans (lit2 HK.out));have HI:Hid (In64 v.int):=by have:=fit2 HK.out HFB.out;have:=HXN.out;unfold In64 at *;show _∧_;omega
 go_wp2_with fail
 refine (fmt_any v.int HI.out _ (HTB.out.below HB4.out)).mono ?_;rintro e w5 ⟨rfl,hb5⟩;have HB5:=zh (zB HB4.out hb5);clear hb5;go_wp2;go_ret;exact ⟨by rw[HL.out];rfl,HB5.out⟩
theorem rtext_3 {s:List TyD} {A:zo} {c n:Nat} (hn:Num64 s) (_ih:TextAt s A c n):TextK s A c n 3:=by
 intro tn htn v A1 c1 A2 c2 A3 c3 w e hf hs hr htb hz
 have hln:=hs.1.lt (by omega)
 obtain ⟨HB0,H5,H7⟩:=zy w (.cells #[.slice A s.length c] 27) (v.box A1 c1 A2 c2 A3 c3);have HIH:=zh _ih;have HS:=zh hs;have HR:=zh hr;have HTB:=zh htb;have HXN:=zh (hn _ (List.getElem_mem htn));obtain ⟨L,hL⟩:∃L,litB (litF s n) s[tn] v=L:=⟨_,rfl⟩;rw[hL] at hz ⊢;obtain ⟨b,o,As,cs,Am,cm,hA,htr,t0,t1,t2,t3,t4,t5,t6,t7,t8,t9⟩:=(hs.below HB0.out).at10 htn;clear hs hr htb _ih hn;subst hA
 generalize s[tn]=x at *;have HL0:Hid (L=litB (litF s n) x v):=hL.symm;have HSZ:=zh hz;have HTR:=zh htr;have HFB:=zh hf;have HK:=zh e;clear hL hz htr hf e;have h1:(0:Int)≤(tn:Int):=by omega
 have h2:(tn:Int)<(s.length:Int):=by omega
 go_enter Tryz.func148,Tryz.ntmps148
 go_upto_region 1 with fail
 generalize (w.alloc (.cells #[.slice (some ⟨b,o,none⟩) s.length c] 27)).alloc (v.box A1 c1 A2 c2 A3 c3)=W2 at *;have x0:=zb H5.out;go_upto_region 2 with fail
 clear t0 t1 t2 t3 t4 t5 t6 t7 t8 t9 x0;have HBX:=zh (zD W2 (x.box As cs Am cm));have HT4:Hid (TBox (W2.alloc (x.box As cs Am cm)) W2.heap.size x As cs Am cm):=heap_alloc_new W2 _;have H54:=zh (zF H5.out HBX.out);have H74:=zh (zF H7.out HBX.out);have HB4:=zh (zB HB0.out HBX.out);have HTR4:=zh (HTR.out.below HBX.out);generalize W2.alloc (x.box As cs Am cm)=w4 at *;generalize W2.heap.size=p7 at *
 clear H5 H7 HTR HBX HB0;obtain ⟨q1,q2,q3⟩:=zk3 HK.out;obtain ⟨v0,v1,v2,v3,v4,v5,v6,v7⟩:=zH H74.out;obtain ⟨b0,b1,b2,b3,b4,b5,b6,b7,b8,b9⟩:=zI HT4.out;have x0:=zb H54.out;have HL:=zh (HL0.out.trans (lit3 HK.out));have HZ:Hid ((quD v.str).size≤1073741824):=by have:=HSZ.out;rw[HL.out] at this;exact this
 go_wp2_with fail
 refine (rQuote_any v.str (by have:=HZ.out;omega) _).mono ?_
 rintro e w5 ⟨rfl,hb5⟩;have HB5:=zh (zB HB4.out hb5);clear hb5;go_wp2;go_ret;exact ⟨by rw[HL.out];rfl,HB5.out⟩
theorem rtext_4 {s:List TyD} {A:zo} {c n:Nat} (hn:Num64 s) (_ih:TextAt s A c n):TextK s A c n 4:=by
 intro tn htn v A1 c1 A2 c2 A3 c3 w e hf hs hr htb hz
 have hln:=hs.1.lt (by omega)
 obtain ⟨HB0,H5,H7⟩:=zy w (.cells #[.slice A s.length c] 27) (v.box A1 c1 A2 c2 A3 c3);have HIH:=zh _ih;have HS:=zh hs;have HR:=zh hr;have HTB:=zh htb;have HXN:=zh (hn _ (List.getElem_mem htn));obtain ⟨L,hL⟩:∃L,litB (litF s n) s[tn] v=L:=⟨_,rfl⟩;rw[hL] at hz ⊢;obtain ⟨b,o,As,cs,Am,cm,hA,htr,t0,t1,t2,t3,t4,t5,t6,t7,t8,t9⟩:=(hs.below HB0.out).at10 htn;clear hs hr htb _ih hn;subst hA
 generalize s[tn]=x at *;have HL0:Hid (L=litB (litF s n) x v):=hL.symm;have HSZ:=zh hz;have HTR:=zh htr;have HFB:=zh hf;have HK:=zh e;clear hL hz htr hf e;have h1:(0:Int)≤(tn:Int):=by omega
 have h2:(tn:Int)<(s.length:Int):=by omega
 go_enter Tryz.func148,Tryz.ntmps148
 go_upto_region 1 with fail
 generalize (w.alloc (.cells #[.slice (some ⟨b,o,none⟩) s.length c] 27)).alloc (v.box A1 c1 A2 c2 A3 c3)=W2 at *;have x0:=zb H5.out;go_upto_region 2 with fail
 clear t0 t1 t2 t3 t4 t5 t6 t7 t8 t9 x0;have HBX:=zh (zD W2 (x.box As cs Am cm));have HT4:Hid (TBox (W2.alloc (x.box As cs Am cm)) W2.heap.size x As cs Am cm):=heap_alloc_new W2 _;have H54:=zh (zF H5.out HBX.out);have H74:=zh (zF H7.out HBX.out);have HB4:=zh (zB HB0.out HBX.out);have HTR4:=zh (HTR.out.below HBX.out);generalize W2.alloc (x.box As cs Am cm)=w4 at *;generalize W2.heap.size=p7 at *
 clear H5 H7 HTR HBX HB0;obtain ⟨q1,q2,q3,q4⟩:=zk4 HK.out;obtain ⟨v0,v1,v2,v3,v4,v5,v6,v7⟩:=zH H74.out;obtain ⟨b0,b1,b2,b3,b4,b5,b6,b7,b8,b9⟩:=zI HT4.out;have x0:=zb H54.out;have HL1:=zh (HL0.out.trans (lit4 HK.out));have HF:=zh (fit4 HK.out HFB.out);obtain ⟨an,han⟩:∃an,(x.syms.any fun y=>decide (y.id=v.id))=an:=⟨_,rfl⟩
 have hcall:=rSym_any v.id x As cs Am cm w4 HTR4.out;rw[han] at hcall;have HCL:=zh hcall;have HAN:=zh han;clear hcall han;go_wp2_with fail;refine HCL.out.mono ?_;rintro e w5 ⟨r,rfl,hr5,hb5⟩;have HR5:=zh hr5;have HB5:=zh (zB HB4.out hb5);have HT5:=zh (HT4.out.below hb5);have H55:=zh (zF H54.out hb5);have H75:=zh (zF H74.out hb5);have HTR5:=zh (HTR4.out.below hb5);clear hb5 hr5 HCL
 clear v0 v1 v2 v3 v4 v5 v6 v7 b0 b1 b2 b3 b4 b5 b6 b7 b8 b9 x0;obtain ⟨v0,v1,v2,v3,v4,v5,v6,v7⟩:=zH H75.out;obtain ⟨b0,b1,b2,b3,b4,b5,b6,b7,b8,b9⟩:=zI HT5.out;have x0:=zb H55.out
 cases an with
 | true =>
  obtain ⟨k,hk,e1,e2⟩:=find_idx x.syms HAN.out;have HL:Hid (L=(x.syms[k]).name):=by show _=_;rw[HL1.out,e2]
  obtain rfl:r=(k:Int):=(HR5.out rfl).trans e1;obtain ⟨sb,so,hAs,_,a0,a1⟩:=HTR5.out.syms.at2 hk;subst hAs;have j1:(0:Int)≤(k:Int):=by omega
  have j2:(k:Int)<(x.syms.length:Int):=by omega
  clear e1 e2 a0;go_wp2;go_ret;exact ⟨by rw[HL.out];rfl,HB5.out⟩
 | false =>
  have HL:Hid (L=⟨#[64]⟩++decB v.id):=by show _=_;rw[HL1.out,find_no x.syms HAN.out]
  have HFR:Hid (freeD v.id=true):=by
   rcases HF.out with h|h
   ·rw[HAN.out] at h;cases h
   ·exact h.2
  have n1:¬ 9223372036854775807<(⟨#[64]⟩:ByteArray).size+(decB v.id).size:=by have:=yE (free_in HFR.out);show ¬ _<1+_;omega
  have n2:¬ 9223372036854775807<1+(decB v.id).size:=n1;go_wp2_with fail;refine (itoa_any v.id (free_in HFR.out) _ (HTB.out.below HB5.out)).mono ?_;rintro e w6 ⟨rfl,hb6⟩;have HB6:=zh (zB HB5.out hb6);clear hb6;go_wp2;go_ret;exact ⟨by rw[HL.out];rfl,HB6.out⟩
end Go.Proofs.YtdfolgmcggdjdaaGreatDoor


