/-
  Walks: the error of a root; whether two roots are related.
-/
import Derived.Test.YtkhpajneinmmiaaGreatDoorQRL2
import Derived.Test.YtkhpajneinmmiaaGreatDoorQRV5
import Derived.Test.YtkhpajneinmmiaaGreatDoorQPL
namespace Go.Proofs.YtkhpajneinmmiaaGreatDoor
open Go.RowKit
abbrev rootV (A : Option Addr) (n c : Nat) (t : Int) : Value := .agg #[.slice A n c, .int .i64 t]
abbrev rootB (A : Option Addr) (n c : Nat) (t : Int) : Obj := .cells #[.slice A n c, .int .i64 t] 32
set_option maxHeartbeats 2000000 in
set_option maxRecDepth 100000 in
theorem check_any (s : List TyD) (t : Int) (A : Option Addr) (c : Nat) (w : World) (hs : TysR w A s) :
  Calls Tryz.prog 45 #[rootV A s.length c t] w (IntPost (rootErr s t) w) := by
 have hn := hs.1.lt (by omega)
 have HS := Lib.hid hs
 clear hs
 by_cases hv : validD s = 0
 ·have q1 : (validD s != 0) = false := by simp [hv]
  have HV := Lib.hid hv
  by_cases h0 : t < 0
  ·have HD := Lib.hid (show rootErr s t = 4 by unfold rootErr; simp [hv, h0])
   clear hv
   go_enter Tryz.func45, Tryz.ntmps45
   go_wp2_with fail
   refine (valid_any s A c _ (HS.out.below (below_new _ _))).mono ?_
   rintro e w2 ⟨rfl, hb2⟩
   rw [HV.out]
   have hc2 := bcell hb2
   go_wp2
   go_ret
   exact ⟨by rw [HD.out]; rfl, below_alloc hb2⟩
  by_cases h1 : (s.length : Int) ≤ t
  ·have HD := Lib.hid (show rootErr s t = 4 by unfold rootErr; simp [hv, h1])
   clear hv
   go_enter Tryz.func45, Tryz.ntmps45
   go_wp2_with fail
   refine (valid_any s A c _ (HS.out.below (below_new _ _))).mono ?_
   rintro e w2 ⟨rfl, hb2⟩
   rw [HV.out]
   have hc2 := bcell hb2
   go_wp2
   go_ret
   exact ⟨by rw [HD.out]; rfl, below_alloc hb2⟩
  have HD := Lib.hid (show rootErr s t = 0 by unfold rootErr; rw [if_neg (by simp [hv]), if_neg (by omega)])
  have h1' : decide ((s.length : Int) ≤ t) = false := by simpa using h1
  clear hv
  go_enter Tryz.func45, Tryz.ntmps45
  go_wp2_with fail
  refine (valid_any s A c _ (HS.out.below (below_new _ _))).mono ?_
  rintro e w2 ⟨rfl, hb2⟩
  rw [HV.out]
  have hc2 := bcell hb2
  go_wp2
  go_ret
  exact ⟨by rw [HD.out]; rfl, below_alloc hb2⟩
 ·have q1 : (validD s != 0) = true := by simp [hv]
  have HD := Lib.hid (show rootErr s t = validD s by unfold rootErr; rw [if_pos hv])
  clear hv
  go_enter Tryz.func45, Tryz.ntmps45
  go_wp2_with fail
  refine (valid_any s A c _ (HS.out.below (below_new _ _))).mono ?_
  rintro e w2 ⟨rfl, hb2⟩
  go_wp2
  go_ret
  exact ⟨by rw [HD.out]; rfl, below_alloc hb2⟩
def EqvPost (names : Bool) (a : List TyD) (ta : Int) (b : List TyD) (tb : Int) (w : World) (e : Ending) (w' : World) : Prop := ∃ v, e = .returned (.bool v) ∧ EqvIs names a ta b tb v ∧ Below w.heap.size w w'
theorem tab_bit {w : World} {base g n m : Nat} {rows : List Value} {M : List (List Bool)} (h : TabAt w base g rows M) (hml : M.length = n) (hcl : ∀ r ∈ M, r.length = m) {p q : Nat} (hp : p < n) (hq : q < m) : ∃ gi c, w.cell? ⟨g, p, none⟩ = some (.slice (some ⟨gi, 0, none⟩) m c) ∧ w.cell? ⟨gi, q, none⟩ = some (.bool (getB M p q)) := by
 have hp' : p < M.length := by rw [hml]; exact hp
 have hl := hcl _ (List.getElem_mem hp')
 obtain ⟨gi, c, h1, h2, _⟩ := h.bit hp' (k := q) (by rw [hl]; exact hq)
 rw [hl] at h1
 refine ⟨gi, c, h1, ?_⟩
 rw [h2]
 unfold getB
 rw [List.getD_eq_getElem?_getD (l := M), List.getElem?_eq_getElem hp', Option.getD_some, List.getD_eq_getElem?_getD, List.getElem?_eq_getElem (by rw [hl]; exact hq)]; rfl
structure TwoB (w : World) (W : World) (A : Option Addr) (na c : Nat) (ta : Int) (B : Option Addr) (nb d : Nat) (tb : Int) : Prop where
 a : W.heap[w.heap.size]? = some (.cells #[.slice A na c, .int .i64 ta] 32 (0, 0))
 b : W.heap[w.heap.size + 1]? = some (.cells #[.slice B nb d, .int .i64 tb] 32 (0, 0))
 bel : Below w.heap.size w W
theorem two_new (w : World) (A : Option Addr) (na c : Nat) (ta : Int) (B : Option Addr) (nb d : Nat) (tb : Int) : TwoB w ((w.alloc (rootB A na c ta)).alloc (rootB B nb d tb)) A na c ta B nb d tb := by
 refine ⟨tmp_alloc (heap_alloc_new w _) _, ?_, below_new2 _ _ _⟩
 have h := heap_alloc_new (w.alloc (rootB A na c ta)) (rootB B nb d tb)
 rw [show (w.alloc (rootB A na c ta)).heap.size = w.heap.size + 1 by simp] at h
 exact h
theorem TwoB.below {w W W' : World} {A : Option Addr} {na c : Nat} {ta : Int} {B : Option Addr} {nb d : Nat} {tb : Int} (h : TwoB w W A na c ta B nb d tb) (hb : Below W.heap.size W W') : TwoB w W' A na c ta B nb d tb :=
 ⟨(hb.block _ (Array.getElem?_eq_some_iff.1 h.a).1).trans h.a, (hb.block _ (Array.getElem?_eq_some_iff.1 h.b).1).trans h.b, below_trans h.bel hb⟩
theorem two_cells {w W : World} {A : Option Addr} {na c : Nat} {ta : Int} {B : Option Addr} {nb d : Nat} {tb : Int} (h : TwoB w W A na c ta B nb d tb) :
  (W.cell? ⟨w.heap.size, 0, none⟩ = some (.slice A na c) ∧ W.cell? ⟨w.heap.size, 1, none⟩ = some (.int .i64 ta) ∧ W.cell? ⟨w.heap.size + 1, 0, none⟩ = some (.slice B nb d) ∧ W.cell? ⟨w.heap.size + 1, 1, none⟩ = some (.int .i64 tb)) ∧ Hid (TwoB w W A na c ta B nb d tb) :=
 ⟨⟨by rw [cell_of_row _ _ _ _ _ _ h.a]; rfl, by rw [cell_of_row _ _ _ _ _ _ h.a]; rfl, by rw [cell_of_row _ _ _ _ _ _ h.b]; rfl, by rw [cell_of_row _ _ _ _ _ _ h.b]; rfl⟩, h⟩
set_option maxHeartbeats 4000000 in
set_option maxRecDepth 100000 in
theorem related_any (names : Bool) (a : List TyD) (ta : Int) (b : List TyD) (tb : Int) (A : Option Addr) (c : Nat) (B : Option Addr) (d : Nat) (w : World) (ha : TysR w A a) (hb : TysR w B b) :
  Calls Tryz.prog 33 #[rootV A a.length c ta, rootV B b.length d tb, .bool names] w (EqvPost names a ta b tb w) := by
 have HA := Lib.hid ha
 have HB := Lib.hid hb
 clear ha hb
 have HT0 := Lib.hid (two_new w A a.length c ta B b.length d tb)
 by_cases e1 : rootErr a ta = 0
 case neg =>
  have q1 : (rootErr a ta == 0) = false := by simp [e1]
  have HN : Hid (EqvIs names a ta b tb false) := ⟨fun h => absurd h e1, fun _ => rfl⟩
  clear e1
  go_enter Tryz.func33, Tryz.ntmps33
  go_wp2
  generalize (w.alloc (rootB A a.length c ta)).alloc (rootB B b.length d tb) = wc at *
  refine wp_region_held_drew (S := (fun w' => (w'.cell? ⟨w.heap.size, 0, none⟩ = some (.slice A a.length c) ∧ w'.cell? ⟨w.heap.size, 1, none⟩ = some (.int .i64 ta) ∧ w'.cell? ⟨w.heap.size + 1, 0, none⟩ = some (.slice B b.length d) ∧ w'.cell? ⟨w.heap.size + 1, 1, none⟩ = some (.int .i64 tb)) ∧ Hid (TwoB w w' A a.length c ta B b.length d tb))) (by kernel_rfl) ?_ (fun hHeld => ?_)
  ·(try dsimp only); exact two_cells (HT0.out.below (below_drewN (Below.refl _ _) 1))
  refine tkH 0 ?v0 rfl (by kernel_rfl) (.inl ⟨by rfl, ?y0⟩) hHeld ?_
  case y0 => (intro w hSw; (try dsimp only at hSw); go_simp; try with_reducible rfl)
  (try simp only [ps])
  refine wpAnyH_ready (rs := [1]) (by kernel_rfl) (by simp) ?_
  refine (AllReadyH.cons rfl (fun K hK => ?_) AllReadyH.nil)
  go_simp
  (refine (check_any a ta A c _ (HA.out.below hHeld.2.out.bel)).mono ?_; rintro e w3 ⟨rfl, hbz⟩)
  refine hK.out _ _ ?_ (fun hHeld => ?_)
  ·(try dsimp only); exact two_cells (hHeld.2.out.below hbz)
  clear hK K
  (try simp only [ps])
  refine tkH 2 ?v1 rfl (by kernel_rfl) (.inl ⟨by rfl, ?y1⟩) hHeld ?_
  case y1 => (intro w hSw; (try dsimp only at hSw); go_simp; try with_reducible rfl)
  (try simp only [ps])
  refine tkH 3 ?v2 rfl (by kernel_rfl) (.inl ⟨by rfl, ?y2⟩) hHeld ?_
  case y2 => (intro w hSw; (try dsimp only at hSw); go_simp; try with_reducible rfl)
  (try simp only [ps])
  refine tkH 4 undef rfl (by kernel_rfl) (.inr ⟨by rfl, rfl⟩) hHeld ?_
  (try simp only [ps])
  refine tkH 5 undef rfl (by kernel_rfl) (.inr ⟨by rfl, rfl⟩) hHeld ?_
  (try simp only [ps])
  refine tkH 6 undef rfl (by kernel_rfl) (.inr ⟨by rfl, rfl⟩) hHeld ?_
  (try simp only [ps])
  refine tkH 7 ?v3 rfl (by kernel_rfl) (.inl ⟨by rfl, ?y3⟩) hHeld ?_
  case y3 => (intro w hSw; (try dsimp only at hSw); go_simp; try with_reducible rfl)
  (try simp only [ps])
  refine tkH 8 ?v4 rfl (by kernel_rfl) (.inl ⟨by rfl, ?y4⟩) hHeld ?_
  case y4 => (intro w hSw; (try dsimp only at hSw); go_simp; try with_reducible rfl)
  (try simp only [ps])
  refine tkH 9 undef rfl (by kernel_rfl) (.inr ⟨by rfl, rfl⟩) hHeld ?_
  (try simp only [ps])
  refine tkH 10 undef rfl (by kernel_rfl) (.inr ⟨by rfl, rfl⟩) hHeld ?_
  (try simp only [ps])
  refine tkH 11 undef rfl (by kernel_rfl) (.inr ⟨by rfl, rfl⟩) hHeld ?_
  (try simp only [ps])
  refine tkH 12 undef rfl (by kernel_rfl) (.inr ⟨by rfl, rfl⟩) hHeld ?_
  (try simp only [ps])
  refine tkH 13 undef rfl (by kernel_rfl) (.inr ⟨by rfl, rfl⟩) hHeld ?_
  (try simp only [ps])
  refine tkH 14 undef rfl (by kernel_rfl) (.inr ⟨by rfl, rfl⟩) hHeld ?_
  (try simp only [ps])
  refine tkH 15 undef rfl (by kernel_rfl) (.inr ⟨by rfl, rfl⟩) hHeld ?_
  (try simp only [ps])
  refine tkH 16 undef rfl (by kernel_rfl) (.inr ⟨by rfl, rfl⟩) hHeld ?_
  (try simp only [ps])
  refine tkH 17 undef rfl (by kernel_rfl) (.inr ⟨by rfl, rfl⟩) hHeld ?_
  (try simp only [ps])
  refine tkH 18 undef rfl (by kernel_rfl) (.inr ⟨by rfl, rfl⟩) hHeld ?_
  (try simp only [ps])
  refine tkH 19 undef rfl (by kernel_rfl) (.inr ⟨by rfl, rfl⟩) hHeld ?_
  (try simp only [ps])
  refine tkH 20 undef rfl (by kernel_rfl) (.inr ⟨by rfl, rfl⟩) hHeld ?_
  (try simp only [ps])
  refine tkH 21 undef rfl (by kernel_rfl) (.inr ⟨by rfl, rfl⟩) hHeld ?_
  (try simp only [ps])
  refine tkH 22 undef rfl (by kernel_rfl) (.inr ⟨by rfl, rfl⟩) hHeld ?_
  (try simp only [ps])
  refine tkH 23 ?v5 rfl (by kernel_rfl) (.inl ⟨by rfl, ?y5⟩) hHeld ?_
  case y5 => (intro w hSw; (try dsimp only at hSw); go_simp; try with_reducible rfl)
  (try simp only [ps])
  refine tkH 24 ?v6 rfl (by kernel_rfl) (.inl ⟨by rfl, ?y6⟩) hHeld ?_
  case y6 => (intro w hSw; (try dsimp only at hSw); go_simp; try with_reducible rfl)
  (try simp only [ps])
  refine wpAnyH_done (by kernel_rfl) ?_ _
  have HE := Lib.hid hHeld.2.out.bel
  clear hHeld
  go_wp2
  go_ret
  exact ⟨false, rfl, HN.out, HE.out⟩
 by_cases e2 : rootErr b tb = 0
 case neg =>
  have q1 : (rootErr a ta == 0) = true := by simp [e1]
  have q2 : (rootErr b tb == 0) = false := by simp [e2]
  have HN : Hid (EqvIs names a ta b tb false) := ⟨fun _ h => absurd h e2, fun _ => rfl⟩
  clear e1 e2
  go_enter Tryz.func33, Tryz.ntmps33
  go_wp2
  generalize (w.alloc (rootB A a.length c ta)).alloc (rootB B b.length d tb) = wc at *
  refine wp_region_held_drew (S := (fun w' => (w'.cell? ⟨w.heap.size, 0, none⟩ = some (.slice A a.length c) ∧ w'.cell? ⟨w.heap.size, 1, none⟩ = some (.int .i64 ta) ∧ w'.cell? ⟨w.heap.size + 1, 0, none⟩ = some (.slice B b.length d) ∧ w'.cell? ⟨w.heap.size + 1, 1, none⟩ = some (.int .i64 tb)) ∧ Hid (TwoB w w' A a.length c ta B b.length d tb))) (by kernel_rfl) ?_ (fun hHeld => ?_)
  ·(try dsimp only); exact two_cells (HT0.out.below (below_drewN (Below.refl _ _) 1))
  refine tkH 0 ?v7 rfl (by kernel_rfl) (.inl ⟨by rfl, ?y7⟩) hHeld ?_
  case y7 => (intro w hSw; (try dsimp only at hSw); go_simp; try with_reducible rfl)
  (try simp only [ps])
  refine wpAnyH_ready (rs := [1]) (by kernel_rfl) (by simp) ?_
  refine (AllReadyH.cons rfl (fun K hK => ?_) AllReadyH.nil)
  go_simp
  (refine (check_any a ta A c _ (HA.out.below hHeld.2.out.bel)).mono ?_; rintro e w3 ⟨rfl, hbz⟩)
  refine hK.out _ _ ?_ (fun hHeld => ?_)
  ·(try dsimp only); exact two_cells (hHeld.2.out.below hbz)
  clear hK K
  (try simp only [ps])
  refine tkH 2 ?v8 rfl (by kernel_rfl) (.inl ⟨by rfl, ?y8⟩) hHeld ?_
  case y8 => (intro w hSw; (try dsimp only at hSw); go_simp; try with_reducible rfl)
  (try simp only [ps])
  refine tkH 3 ?v9 rfl (by kernel_rfl) (.inl ⟨by rfl, ?y9⟩) hHeld ?_
  case y9 => (intro w hSw; (try dsimp only at hSw); go_simp; try with_reducible rfl)
  (try simp only [ps])
  refine tkH 4 ?v10 rfl (by kernel_rfl) (.inl ⟨by rfl, ?y10⟩) hHeld ?_
  case y10 => (intro w hSw; (try dsimp only at hSw); go_simp; try with_reducible rfl)
  (try simp only [ps])
  refine wpAnyH_ready (rs := [5]) (by kernel_rfl) (by simp) ?_
  refine (AllReadyH.cons rfl (fun K hK => ?_) AllReadyH.nil)
  go_simp
  (refine (check_any b tb B d _ (HB.out.below hHeld.2.out.bel)).mono ?_; rintro e w4 ⟨rfl, hbz⟩)
  refine hK.out _ _ ?_ (fun hHeld => ?_)
  ·(try dsimp only); exact two_cells (hHeld.2.out.below hbz)
  clear hK K
  (try simp only [ps])
  refine tkH 6 ?v11 rfl (by kernel_rfl) (.inl ⟨by rfl, ?y11⟩) hHeld ?_
  case y11 => (intro w hSw; (try dsimp only at hSw); go_simp; try with_reducible rfl)
  (try simp only [ps])
  refine tkH 7 ?v12 rfl (by kernel_rfl) (.inl ⟨by rfl, ?y12⟩) hHeld ?_
  case y12 => (intro w hSw; (try dsimp only at hSw); go_simp; try with_reducible rfl)
  (try simp only [ps])
  refine tkH 8 ?v13 rfl (by kernel_rfl) (.inl ⟨by rfl, ?y13⟩) hHeld ?_
  case y13 => (intro w hSw; (try dsimp only at hSw); go_simp; try with_reducible rfl)
  (try simp only [ps])
  refine tkH 9 undef rfl (by kernel_rfl) (.inr ⟨by rfl, rfl⟩) hHeld ?_
  (try simp only [ps])
  refine tkH 10 undef rfl (by kernel_rfl) (.inr ⟨by rfl, rfl⟩) hHeld ?_
  (try simp only [ps])
  refine tkH 11 undef rfl (by kernel_rfl) (.inr ⟨by rfl, rfl⟩) hHeld ?_
  (try simp only [ps])
  refine tkH 12 undef rfl (by kernel_rfl) (.inr ⟨by rfl, rfl⟩) hHeld ?_
  (try simp only [ps])
  refine tkH 13 undef rfl (by kernel_rfl) (.inr ⟨by rfl, rfl⟩) hHeld ?_
  (try simp only [ps])
  refine tkH 14 undef rfl (by kernel_rfl) (.inr ⟨by rfl, rfl⟩) hHeld ?_
  (try simp only [ps])
  refine tkH 15 undef rfl (by kernel_rfl) (.inr ⟨by rfl, rfl⟩) hHeld ?_
  (try simp only [ps])
  refine tkH 16 undef rfl (by kernel_rfl) (.inr ⟨by rfl, rfl⟩) hHeld ?_
  (try simp only [ps])
  refine tkH 17 undef rfl (by kernel_rfl) (.inr ⟨by rfl, rfl⟩) hHeld ?_
  (try simp only [ps])
  refine tkH 18 undef rfl (by kernel_rfl) (.inr ⟨by rfl, rfl⟩) hHeld ?_
  (try simp only [ps])
  refine tkH 19 undef rfl (by kernel_rfl) (.inr ⟨by rfl, rfl⟩) hHeld ?_
  (try simp only [ps])
  refine tkH 20 undef rfl (by kernel_rfl) (.inr ⟨by rfl, rfl⟩) hHeld ?_
  (try simp only [ps])
  refine tkH 21 undef rfl (by kernel_rfl) (.inr ⟨by rfl, rfl⟩) hHeld ?_
  (try simp only [ps])
  refine tkH 22 undef rfl (by kernel_rfl) (.inr ⟨by rfl, rfl⟩) hHeld ?_
  (try simp only [ps])
  refine tkH 23 ?v14 rfl (by kernel_rfl) (.inl ⟨by rfl, ?y14⟩) hHeld ?_
  case y14 => (intro w hSw; (try dsimp only at hSw); go_simp; try with_reducible rfl)
  (try simp only [ps])
  refine tkH 24 ?v15 rfl (by kernel_rfl) (.inl ⟨by rfl, ?y15⟩) hHeld ?_
  case y15 => (intro w hSw; (try dsimp only at hSw); go_simp; try with_reducible rfl)
  (try simp only [ps])
  refine wpAnyH_done (by kernel_rfl) ?_ _
  have HE := Lib.hid hHeld.2.out.bel
  clear hHeld
  go_wp2
  go_ret
  exact ⟨false, rfl, HN.out, HE.out⟩
 have q1 : (rootErr a ta == 0) = true := by simp [e1]
 have q2 : (rootErr b tb == 0) = true := by simp [e2]
 obtain ⟨va, ha0, ha1⟩ := root_ok e1
 obtain ⟨vb, hb0, hb1⟩ := root_ok e2
 obtain ⟨p, rfl⟩ := Int.eq_ofNat_of_zero_le ha0
 obtain ⟨q, rfl⟩ := Int.eq_ofNat_of_zero_le hb0
 have HE1 := Lib.hid e1
 have HE2 := Lib.hid e2
 have la := valid_len va
 have lb := valid_len vb
 have HUA := Lib.hid (valid_inR va)
 have HUB := Lib.hid (valid_inR vb)
 have hp : p < a.length := by omega
 have hq : q < b.length := by omega
 clear e1 e2 va vb
 go_enter Tryz.func33, Tryz.ntmps33
 go_wp2
 generalize (w.alloc (rootB A a.length c (p : Int))).alloc (rootB B b.length d (q : Int)) = wc at *
 refine wp_region_held_drew (S := (fun w' => (w'.cell? ⟨w.heap.size, 0, none⟩ = some (.slice A a.length c) ∧ w'.cell? ⟨w.heap.size, 1, none⟩ = some (.int .i64 (p : Int)) ∧ w'.cell? ⟨w.heap.size + 1, 0, none⟩ = some (.slice B b.length d) ∧ w'.cell? ⟨w.heap.size + 1, 1, none⟩ = some (.int .i64 (q : Int))) ∧ Hid (TwoB w w' A a.length c (p : Int) B b.length d (q : Int)))) (by kernel_rfl) ?_ (fun hHeld => ?_)
 ·(try dsimp only); exact two_cells (HT0.out.below (below_drewN (Below.refl _ _) 1))
 refine tkH 0 ?v16 rfl (by kernel_rfl) (.inl ⟨by rfl, ?y16⟩) hHeld ?_
 case y16 => (intro w hSw; (try dsimp only at hSw); go_simp; try with_reducible rfl)
 (try simp only [ps])
 refine wpAnyH_ready (rs := [1]) (by kernel_rfl) (by simp) ?_
 refine (AllReadyH.cons rfl (fun K hK => ?_) AllReadyH.nil)
 go_simp
 (refine (check_any a (p : Int) A c _ (HA.out.below hHeld.2.out.bel)).mono ?_; rintro e w3 ⟨rfl, hbz⟩)
 refine hK.out _ _ ?_ (fun hHeld => ?_)
 ·(try dsimp only); exact two_cells (hHeld.2.out.below hbz)
 clear hK K
 (try simp only [ps])
 refine tkH 2 ?v17 rfl (by kernel_rfl) (.inl ⟨by rfl, ?y17⟩) hHeld ?_
 case y17 => (intro w hSw; (try dsimp only at hSw); go_simp; try with_reducible rfl)
 (try simp only [ps])
 refine tkH 3 ?v18 rfl (by kernel_rfl) (.inl ⟨by rfl, ?y18⟩) hHeld ?_
 case y18 => (intro w hSw; (try dsimp only at hSw); go_simp; try with_reducible rfl)
 (try simp only [ps])
 refine tkH 4 ?v19 rfl (by kernel_rfl) (.inl ⟨by rfl, ?y19⟩) hHeld ?_
 case y19 => (intro w hSw; (try dsimp only at hSw); go_simp; try with_reducible rfl)
 (try simp only [ps])
 refine wpAnyH_ready (rs := [5]) (by kernel_rfl) (by simp) ?_
 refine (AllReadyH.cons rfl (fun K hK => ?_) AllReadyH.nil)
 go_simp
 (refine (check_any b (q : Int) B d _ (HB.out.below hHeld.2.out.bel)).mono ?_; rintro e w4 ⟨rfl, hbz⟩)
 refine hK.out _ _ ?_ (fun hHeld => ?_)
 ·(try dsimp only); exact two_cells (hHeld.2.out.below hbz)
 clear hK K
 (try simp only [ps])
 refine tkH 6 ?v20 rfl (by kernel_rfl) (.inl ⟨by rfl, ?y20⟩) hHeld ?_
 case y20 => (intro w hSw; (try dsimp only at hSw); go_simp; try with_reducible rfl)
 (try simp only [ps])
 refine tkH 7 ?v21 rfl (by kernel_rfl) (.inl ⟨by rfl, ?y21⟩) hHeld ?_
 case y21 => (intro w hSw; (try dsimp only at hSw); go_simp; try with_reducible rfl)
 (try simp only [ps])
 refine tkH 8 ?v22 rfl (by kernel_rfl) (.inl ⟨by rfl, ?y22⟩) hHeld ?_
 case y22 => (intro w hSw; (try dsimp only at hSw); go_simp; try with_reducible rfl)
 (try simp only [ps])
 refine tkH 9 ?v23 rfl (by kernel_rfl) (.inl ⟨by rfl, ?y23⟩) hHeld ?_
 case y23 => (intro w hSw; (try dsimp only at hSw); go_simp; try with_reducible rfl)
 (try simp only [ps])
 refine tkH 10 ?v24 rfl (by kernel_rfl) (.inl ⟨by rfl, ?y24⟩) hHeld ?_
 case y24 => (intro w hSw; (try dsimp only at hSw); go_simp; try with_reducible rfl)
 (try simp only [ps])
 refine tkH 11 ?v25 rfl (by kernel_rfl) (.inl ⟨by rfl, ?y25⟩) hHeld ?_
 case y25 => (intro w hSw; (try dsimp only at hSw); go_simp; try with_reducible rfl)
 (try simp only [ps])
 refine tkH 12 ?v26 rfl (by kernel_rfl) (.inl ⟨by rfl, ?y26⟩) hHeld ?_
 case y26 => (intro w hSw; (try dsimp only at hSw); go_simp; try with_reducible rfl)
 (try simp only [ps])
 refine tkH 13 ?v27 rfl (by kernel_rfl) (.inl ⟨by rfl, ?y27⟩) hHeld ?_
 case y27 => (intro w hSw; (try dsimp only at hSw); go_simp; try with_reducible rfl)
 (try simp only [ps])
 refine tkH 15 ?v28 rfl (by kernel_rfl) (.inl ⟨by rfl, ?y28⟩) hHeld ?_
 case y28 => (intro w hSw; (try dsimp only at hSw); go_simp; try with_reducible rfl)
 (try simp only [ps])
 refine tkH 16 ?v29 rfl (by kernel_rfl) (.inl ⟨by rfl, ?y29⟩) hHeld ?_
 case y29 => (intro w hSw; (try dsimp only at hSw); go_simp; try with_reducible rfl)
 (try simp only [ps])
 refine tkH 19 ?v30 rfl (by kernel_rfl) (.inl ⟨by rfl, ?y30⟩) hHeld ?_
 case y30 => (intro w hSw; (try dsimp only at hSw); go_simp; try with_reducible rfl)
 (try simp only [ps])
 refine tkH 20 ?v31 rfl (by kernel_rfl) (.inl ⟨by rfl, ?y31⟩) hHeld ?_
 case y31 => (intro w hSw; (try dsimp only at hSw); go_simp; try with_reducible rfl)
 (try simp only [ps])
 refine wpAnyH_ready (rs := [14]) (by kernel_rfl) (by simp) ?_
 refine (AllReadyH.cons rfl (fun K hK => ?_) AllReadyH.nil)
 go_simp
 (refine (relation_any names a b la lb HUA.out HUB.out A c B d _ (HA.out.below hHeld.2.out.bel) (HB.out.below hHeld.2.out.bel)).mono ?_; rintro e w5 ⟨g, rows, M, rfl, htab, hml, hcl, hgr, hbz⟩; obtain ⟨gi, cg, c1, c2⟩ := tab_bit htab hml hcl hp hq; have HGR := Lib.hid hgr; clear htab hml hcl hgr)
 refine hK.out _ _ ?_ (fun hHeld => ?_)
 ·(try dsimp only); exact two_cells (hHeld.2.out.below hbz)
 clear hK K
 (try simp only [ps])
 refine tkH 17 ?v32 rfl (by kernel_rfl) (.inl ⟨by rfl, ?y32⟩) hHeld ?_
 case y32 => (intro w hSw; (try dsimp only at hSw); go_simp; try with_reducible rfl)
 (try simp only [ps])
 refine wpAnyH_ready (rs := [18]) (by kernel_rfl) (by simp) ?_
 refine (AllReadyH.cons rfl (fun K hK => ?_) AllReadyH.nil)
 go_simp
 refine hK.out _ _ ?_ (fun hHeld => ?_)
 ·(try dsimp only); exact hHeld
 clear hK K
 (try simp only [ps])
 refine tkH 21 ?v33 rfl (by kernel_rfl) (.inl ⟨by rfl, ?y33⟩) hHeld ?_
 case y33 => (intro w hSw; (try dsimp only at hSw); go_simp; try with_reducible rfl)
 (try simp only [ps])
 refine wpAnyH_ready (rs := [22]) (by kernel_rfl) (by simp) ?_
 refine (AllReadyH.cons rfl (fun K hK => ?_) AllReadyH.nil)
 go_simp
 refine hK.out _ _ ?_ (fun hHeld => ?_)
 ·(try dsimp only); exact hHeld
 clear hK K
 (try simp only [ps])
 refine tkH 23 ?v34 rfl (by kernel_rfl) (.inl ⟨by rfl, ?y34⟩) hHeld ?_
 case y34 => (intro w hSw; (try dsimp only at hSw); go_simp; try with_reducible rfl)
 (try simp only [ps])
 refine tkH 24 ?v35 rfl (by kernel_rfl) (.inl ⟨by rfl, ?y35⟩) hHeld ?_
 case y35 => (intro w hSw; (try dsimp only at hSw); go_simp; try with_reducible rfl)
 (try simp only [ps])
 refine wpAnyH_done (by kernel_rfl) ?_ _
 have HE := Lib.hid hHeld.2.out.bel
 clear hHeld
 go_wp2
 go_ret
 exact ⟨getB M p q, rfl, ⟨fun _ _ => ⟨getB M, HGR.out, rfl⟩, fun h => absurd ⟨HE1.out, HE2.out⟩ h⟩, HE.out⟩
set_option maxHeartbeats 1000000 in
set_option maxRecDepth 100000 in
theorem equivalent_any (a : List TyD) (ta : Int) (b : List TyD) (tb : Int) (A : Option Addr) (c : Nat) (B : Option Addr) (d : Nat) (w : World) (ha : TysR w A a) (hb : TysR w B b) :
  Calls Tryz.prog 13 #[rootV A a.length c ta, rootV B b.length d tb] w (EqvPost true a ta b tb w) := by
 have HA := Lib.hid ha
 have HB := Lib.hid hb
 clear ha hb
 go_enter Tryz.func13, Tryz.ntmps13
 go_wp2_with fail
 refine (related_any true a ta b tb A c B d _ (HA.out.below (below_new2 _ _ _)) (HB.out.below (below_new2 _ _ _))).mono ?_
 rintro e w2 ⟨v, rfl, hv, hb2⟩
 have HV := Lib.hid hv
 go_wp2
 go_ret
 exact ⟨v, rfl, HV.out, below_alloc2 hb2⟩
set_option maxHeartbeats 1000000 in
set_option maxRecDepth 100000 in
theorem wire_any (a : List TyD) (ta : Int) (b : List TyD) (tb : Int) (A : Option Addr) (c : Nat) (B : Option Addr) (d : Nat) (w : World) (ha : TysR w A a) (hb : TysR w B b) :
  Calls Tryz.prog 14 #[rootV A a.length c ta, rootV B b.length d tb] w (EqvPost false a ta b tb w) := by
 have HA := Lib.hid ha
 have HB := Lib.hid hb
 clear ha hb
 go_enter Tryz.func14, Tryz.ntmps14
 go_wp2_with fail
 refine (related_any false a ta b tb A c B d _ (HA.out.below (below_new2 _ _ _)) (HB.out.below (below_new2 _ _ _))).mono ?_
 rintro e w2 ⟨v, rfl, hv, hb2⟩
 have HV := Lib.hid hv
 go_wp2
 go_ret
 exact ⟨v, rfl, HV.out, below_alloc2 hb2⟩
end Go.Proofs.YtkhpajneinmmiaaGreatDoor


