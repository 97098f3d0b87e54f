/-
  Walks: the error of a root; whether two roots are related.
-/
import Derived.Test.YtkhpajneinmmiaaGreatDoorQRL2
import Derived.Test.YtkhpajneinmmiaaGreatDoorQRV5
import Derived.Test.YtkhpajneinmmiaaGreatDoorQPL
namespace Go.Proofs.YtkhpajneinmmiaaGreatDoor
open Go.RowKit

abbrev rootV (A : Option Addr) (n c : Nat) (t : Int) : Value := .agg #[.slice A n c, .int .i64 t]
abbrev rootB (A : Option Addr) (n c : Nat) (t : Int) : Obj := .cells #[.slice A n c, .int .i64 t] 32

set_option maxHeartbeats 2000000 in
set_option maxRecDepth 100000 in
theorem check_any (s : List TyD) (t : Int) (A : Option Addr) (c : Nat) (w : World) (hs : TysR w A s) :
    Calls Tryz.prog 45 #[rootV A s.length c t] w (IntPost (rootErr s t) w) := by
  have hn := hs.1.lt (by omega)
  have HS := Lib.hid hs
  clear hs
  by_cases hv : validD s = 0
  · have q1 : (validD s != 0) = false := by simp [hv]
    have HV := Lib.hid hv
    by_cases h0 : t < 0
    · have HD := Lib.hid (show rootErr s t = 4 by unfold rootErr; simp [hv, h0])
      clear hv
      go_enter Tryz.func45, Tryz.ntmps45
      go_wp2_with fail
      refine (valid_any s A c _ (HS.out.below (below_new _ _))).mono ?_
      rintro e w2 ⟨rfl, hb2⟩
      rw [HV.out]
      have hc2 := bcell hb2
      go_wp2
      go_ret
      exact ⟨by rw [HD.out]; rfl, below_alloc hb2⟩
    by_cases h1 : (s.length : Int) ≤ t
    · have HD := Lib.hid (show rootErr s t = 4 by unfold rootErr; simp [hv, h1])
      clear hv
      go_enter Tryz.func45, Tryz.ntmps45
      go_wp2_with fail
      refine (valid_any s A c _ (HS.out.below (below_new _ _))).mono ?_
      rintro e w2 ⟨rfl, hb2⟩
      rw [HV.out]
      have hc2 := bcell hb2
      go_wp2
      go_ret
      exact ⟨by rw [HD.out]; rfl, below_alloc hb2⟩
    have HD := Lib.hid (show rootErr s t = 0 by unfold rootErr; rw [if_neg (by simp [hv]), if_neg (by omega)])
    have h1' : decide ((s.length : Int) ≤ t) = false := by simpa using h1
    clear hv
    go_enter Tryz.func45, Tryz.ntmps45
    go_wp2_with fail
    refine (valid_any s A c _ (HS.out.below (below_new _ _))).mono ?_
    rintro e w2 ⟨rfl, hb2⟩
    rw [HV.out]
    have hc2 := bcell hb2
    go_wp2
    go_ret
    exact ⟨by rw [HD.out]; rfl, below_alloc hb2⟩
  · have q1 : (validD s != 0) = true := by simp [hv]
    have HD := Lib.hid (show rootErr s t = validD s by unfold rootErr; rw [if_pos hv])
    clear hv
    go_enter Tryz.func45, Tryz.ntmps45
    go_wp2_with fail
    refine (valid_any s A c _ (HS.out.below (below_new _ _))).mono ?_
    rintro e w2 ⟨rfl, hb2⟩
    go_wp2
    go_ret
    exact ⟨by rw [HD.out]; rfl, below_alloc hb2⟩
set_option maxHeartbeats 2000000 in
set_option maxRecDepth 100000 in
theorem rError_any (s : List TyD) (t : Int) (A : Option Addr) (c : Nat) (w : World) (hs : TysR w A s) :
    Calls Tryz.prog 29 #[rootV A s.length c t] w (IntPost (rootErr s t) w) := by
  have hn := hs.1.lt (by omega)
  have HS := Lib.hid hs
  clear hs
  by_cases hv : validD s = 0
  · have q1 : (validD s != 0) = false := by simp [hv]
    have HV := Lib.hid hv
    by_cases h0 : t < 0
    · have HD := Lib.hid (show rootErr s t = 4 by unfold rootErr; simp [hv, h0])
      clear hv
      go_enter Tryz.func29, Tryz.ntmps29
      go_wp2_with fail
      refine (rValid_any s A c _ (HS.out.below (below_new _ _))).mono ?_
      rintro e w2 ⟨rfl, hb2⟩
      rw [HV.out]
      have hc2 := bcell hb2
      go_wp2
      go_ret
      exact ⟨by rw [HD.out]; rfl, below_alloc hb2⟩
    by_cases h1 : (s.length : Int) ≤ t
    · have HD := Lib.hid (show rootErr s t = 4 by unfold rootErr; simp [hv, h1])
      clear hv
      go_enter Tryz.func29, Tryz.ntmps29
      go_wp2_with fail
      refine (rValid_any s A c _ (HS.out.below (below_new _ _))).mono ?_
      rintro e w2 ⟨rfl, hb2⟩
      rw [HV.out]
      have hc2 := bcell hb2
      go_wp2
      go_ret
      exact ⟨by rw [HD.out]; rfl, below_alloc hb2⟩
    have HD := Lib.hid (show rootErr s t = 0 by unfold rootErr; rw [if_neg (by simp [hv]), if_neg (by omega)])
    have h1' : decide ((s.length : Int) ≤ t) = false := by simpa using h1
    clear hv
    go_enter Tryz.func29, Tryz.ntmps29
    go_wp2_with fail
    refine (rValid_any s A c _ (HS.out.below (below_new _ _))).mono ?_
    rintro e w2 ⟨rfl, hb2⟩
    rw [HV.out]
    have hc2 := bcell hb2
    go_wp2
    go_ret
    exact ⟨by rw [HD.out]; rfl, below_alloc hb2⟩
  · have q1 : (validD s != 0) = true := by simp [hv]
    have HD := Lib.hid (show rootErr s t = validD s by unfold rootErr; rw [if_pos hv])
    clear hv
    go_enter Tryz.func29, Tryz.ntmps29
    go_wp2_with fail
    refine (rValid_any s A c _ (HS.out.below (below_new _ _))).mono ?_
    rintro e w2 ⟨rfl, hb2⟩
    go_wp2
    go_ret
    exact ⟨by rw [HD.out]; rfl, below_alloc hb2⟩

def EqvPost (names : Bool) (a : List TyD) (ta : Int) (b : List TyD) (tb : Int) (w : World) (e : Ending) (w' : World) : Prop := ∃ v, e = .returned (.bool v) ∧ EqvIs names a ta b tb v ∧ Below w.heap.size w w'

theorem tab_bit {w : World} {base g n m : Nat} {rows : List Value} {M : List (List Bool)} (h : TabAt w base g rows M) (hml : M.length = n) (hcl : ∀ r ∈ M, r.length = m) {p q : Nat} (hp : p < n) (hq : q < m) : ∃ gi c, w.cell? ⟨g, p, none⟩ = some (.slice (some ⟨gi, 0, none⟩) m c) ∧ w.cell? ⟨gi, q, none⟩ = some (.bool (getB M p q)) := by
  have hp' : p < M.length := by rw [hml]; exact hp
  have hl := hcl _ (List.getElem_mem hp')
  obtain ⟨gi, c, h1, h2, _⟩ := h.bit hp' (k := q) (by rw [hl]; exact hq)
  rw [hl] at h1
  refine ⟨gi, c, h1, ?_⟩
  rw [h2]
  unfold getB
  rw [List.getD_eq_getElem?_getD (l := M), List.getElem?_eq_getElem hp', Option.getD_some, List.getD_eq_getElem?_getD, List.getElem?_eq_getElem (by rw [hl]; exact hq)]; rfl

/-- The boxes of two roots. -/
structure TwoB (w : World) (W : World) (A : Option Addr) (na c : Nat) (ta : Int) (B : Option Addr) (nb d : Nat) (tb : Int) : Prop where
  a : W.heap[w.heap.size]? = some (.cells #[.slice A na c, .int .i64 ta] 32 (0, 0))
  b : W.heap[w.heap.size + 1]? = some (.cells #[.slice B nb d, .int .i64 tb] 32 (0, 0))
  bel : Below w.heap.size w W
theorem two_new (w : World) (A : Option Addr) (na c : Nat) (ta : Int) (B : Option Addr) (nb d : Nat) (tb : Int) : TwoB w ((w.alloc (rootB A na c ta)).alloc (rootB B nb d tb)) A na c ta B nb d tb := by
  refine ⟨tmp_alloc (heap_alloc_new w _) _, ?_, below_new2 _ _ _⟩
  have h := heap_alloc_new (w.alloc (rootB A na c ta)) (rootB B nb d tb)
  rw [show (w.alloc (rootB A na c ta)).heap.size = w.heap.size + 1 by simp] at h
  exact h
theorem TwoB.below {w W W' : World} {A : Option Addr} {na c : Nat} {ta : Int} {B : Option Addr} {nb d : Nat} {tb : Int} (h : TwoB w W A na c ta B nb d tb) (hb : Below W.heap.size W W') : TwoB w W' A na c ta B nb d tb :=
  ⟨(hb.block _ (Array.getElem?_eq_some_iff.1 h.a).1).trans h.a, (hb.block _ (Array.getElem?_eq_some_iff.1 h.b).1).trans h.b, below_trans h.bel hb⟩
theorem two_cells {w W : World} {A : Option Addr} {na c : Nat} {ta : Int} {B : Option Addr} {nb d : Nat} {tb : Int} (h : TwoB w W A na c ta B nb d tb) :
    (W.cell? ⟨w.heap.size, 0, none⟩ = some (.slice A na c) ∧ W.cell? ⟨w.heap.size, 1, none⟩ = some (.int .i64 ta) ∧ W.cell? ⟨w.heap.size + 1, 0, none⟩ = some (.slice B nb d) ∧ W.cell? ⟨w.heap.size + 1, 1, none⟩ = some (.int .i64 tb)) ∧ Hid (TwoB w W A na c ta B nb d tb) :=
  ⟨⟨by rw [cell_of_row _ _ _ _ _ _ h.a]; rfl, by rw [cell_of_row _ _ _ _ _ _ h.a]; rfl, by rw [cell_of_row _ _ _ _ _ _ h.b]; rfl, by rw [cell_of_row _ _ _ _ _ _ h.b]; rfl⟩, h⟩

set_option maxHeartbeats 4000000 in
set_option maxRecDepth 100000 in
theorem related_any (names : Bool) (a : List TyD) (ta : Int) (b : List TyD) (tb : Int) (A : Option Addr) (c : Nat) (B : Option Addr) (d : Nat) (w : World) (ha : TysR w A a) (hb : TysR w B b) :
    Calls Tryz.prog 33 #[rootV A a.length c ta, rootV B b.length d tb, .bool names] w (EqvPost names a ta b tb w) := by
  have HA := Lib.hid ha
  have HB := Lib.hid hb
  clear ha hb
  have HT0 := Lib.hid (two_new w A a.length c ta B b.length d tb)
  by_cases e1 : rootErr a ta = 0
  case neg =>
    have q1 : (rootErr a ta == 0) = false := by simp [e1]
    have HN : Hid (EqvIs names a ta b tb false) := ⟨fun h => absurd h e1, fun _ => rfl⟩
    clear e1
    go_enter Tryz.func33, Tryz.ntmps33
    go_wp2
    generalize (w.alloc (rootB A a.length c ta)).alloc (rootB B b.length d tb) = wc at *
    refine wp_region_held_drew (S := (fun w' => (w'.cell? ⟨w.heap.size, 0, none⟩ = some (.slice A a.length c) ∧ w'.cell? ⟨w.heap.size, 1, none⟩ = some (.int .i64 ta) ∧ w'.cell? ⟨w.heap.size + 1, 0, none⟩ = some (.slice B b.length d) ∧ w'.cell? ⟨w.heap.size + 1, 1, none⟩ = some (.int .i64 tb)) ∧ Hid (TwoB w w' A a.length c ta B b.length d tb))) (by kernel_rfl) ?_ (fun hHeld => ?_)
    · (try dsimp only); exact two_cells (HT0.out.below (below_drewN (Below.refl _ _) 1))
    refine wpAnyH_take (i := 0) (v := ?v122) rfl (by kernel_rfl) (by kernel_rfl) (by kernel_rfl) (fun _ _ _ h => h) (Or.inl ⟨by rfl, ?hy122⟩) hHeld ?_
    case hy122 => (intro w hSw; (try dsimp only at hSw); go_simp; try with_reducible rfl)
    (try simp only [Act.put, List.setIfInBounds_toArray, List.set_cons_zero, List.set_cons_succ, List.getElem_toArray, List.getElem_cons_zero])
    refine wpAnyH_ready (rs := [1]) (by kernel_rfl) (by simp) ?_
    refine (AllReadyH.cons rfl (fun K hK => ?_) AllReadyH.nil)
    go_simp
    (refine (check_any a ta A c _ (HA.out.below hHeld.2.out.bel)).mono ?_; rintro e w3 ⟨rfl, hbz⟩)
    refine hK.out _ _ ?_ (fun hHeld => ?_)
    · (try dsimp only); exact two_cells (hHeld.2.out.below hbz)
    clear hK K
    (try simp only [Act.put, List.setIfInBounds_toArray, List.set_cons_zero, List.set_cons_succ, List.getElem_toArray, List.getElem_cons_zero, List.getElem_cons_succ])
    refine wpAnyH_take (i := 2) (v := ?v123) rfl (by kernel_rfl) (by kernel_rfl) (by kernel_rfl) (fun _ _ _ h => h) (Or.inl ⟨by rfl, ?hy123⟩) hHeld ?_
    case hy123 => (intro w hSw; (try dsimp only at hSw); go_simp; try with_reducible rfl)
    (try simp only [Act.put, List.setIfInBounds_toArray, List.set_cons_zero, List.set_cons_succ, List.getElem_toArray, List.getElem_cons_zero, List.getElem_cons_succ])
    refine wpAnyH_take (i := 3) (v := ?v124) rfl (by kernel_rfl) (by kernel_rfl) (by kernel_rfl) (fun _ _ _ h => h) (Or.inl ⟨by rfl, ?hy124⟩) hHeld ?_
    case hy124 => (intro w hSw; (try dsimp only at hSw); go_simp; try with_reducible rfl)
    (try simp only [Act.put, List.setIfInBounds_toArray, List.set_cons_zero, List.set_cons_succ, List.getElem_toArray, List.getElem_cons_zero, List.getElem_cons_succ])
    refine wpAnyH_take (i := 4) (v := undef) rfl (by kernel_rfl) (by kernel_rfl) (by kernel_rfl) (fun _ _ _ h => h) (Or.inr ⟨by rfl, rfl⟩) hHeld ?_
    (try simp only [Act.put, List.setIfInBounds_toArray, List.set_cons_zero, List.set_cons_succ, List.getElem_toArray, List.getElem_cons_zero, List.getElem_cons_succ])
    refine wpAnyH_take (i := 5) (v := undef) rfl (by kernel_rfl) (by kernel_rfl) (by kernel_rfl) (fun _ _ _ h => h) (Or.inr ⟨by rfl, rfl⟩) hHeld ?_
    (try simp only [Act.put, List.setIfInBounds_toArray, List.set_cons_zero, List.set_cons_succ, List.getElem_toArray, List.getElem_cons_zero, List.getElem_cons_succ])
    refine wpAnyH_take (i := 6) (v := undef) rfl (by kernel_rfl) (by kernel_rfl) (by kernel_rfl) (fun _ _ _ h => h) (Or.inr ⟨by rfl, rfl⟩) hHeld ?_
    (try simp only [Act.put, List.setIfInBounds_toArray, List.set_cons_zero, List.set_cons_succ, List.getElem_toArray, List.getElem_cons_zero, List.getElem_cons_succ])
    refine wpAnyH_take (i := 7) (v := ?v125) rfl (by kernel_rfl) (by kernel_rfl) (by kernel_rfl) (fun _ _ _ h => h) (Or.inl ⟨by rfl, ?hy125⟩) hHeld ?_
    case hy125 => (intro w hSw; (try dsimp only at hSw); go_simp; try with_reducible rfl)
    (try simp only [Act.put, List.setIfInBounds_toArray, List.set_cons_zero, List.set_cons_succ, List.getElem_toArray, List.getElem_cons_zero, List.getElem_cons_succ])
    refine wpAnyH_take (i := 8) (v := ?v126) rfl (by kernel_rfl) (by kernel_rfl) (by kernel_rfl) (fun _ _ _ h => h) (Or.inl ⟨by rfl, ?hy126⟩) hHeld ?_
    case hy126 => (intro w hSw; (try dsimp only at hSw); go_simp; try with_reducible rfl)
    (try simp only [Act.put, List.setIfInBounds_toArray, List.set_cons_zero, List.set_cons_succ, List.getElem_toArray, List.getElem_cons_zero, List.getElem_cons_succ])
    refine wpAnyH_take (i := 9) (v := undef) rfl (by kernel_rfl) (by kernel_rfl) (by kernel_rfl) (fun _ _ _ h => h) (Or.inr ⟨by rfl, rfl⟩) hHeld ?_
    (try simp only [Act.put, List.setIfInBounds_toArray, List.set_cons_zero, List.set_cons_succ, List.getElem_toArray, List.getElem_cons_zero, List.getElem_cons_succ])
    refine wpAnyH_take (i := 10) (v := undef) rfl (by kernel_rfl) (by kernel_rfl) (by kernel_rfl) (fun _ _ _ h => h) (Or.inr ⟨by rfl, rfl⟩) hHeld ?_
    (try simp only [Act.put, List.setIfInBounds_toArray, List.set_cons_zero, List.set_cons_succ, List.getElem_toArray, List.getElem_cons_zero, List.getElem_cons_succ])
    refine wpAnyH_take (i := 11) (v := undef) rfl (by kernel_rfl) (by kernel_rfl) (by kernel_rfl) (fun _ _ _ h => h) (Or.inr ⟨by rfl, rfl⟩) hHeld ?_
    (try simp only [Act.put, List.setIfInBounds_toArray, List.set_cons_zero, List.set_cons_succ, List.getElem_toArray, List.getElem_cons_zero, List.getElem_cons_succ])
    refine wpAnyH_take (i := 12) (v := undef) rfl (by kernel_rfl) (by kernel_rfl) (by kernel_rfl) (fun _ _ _ h => h) (Or.inr ⟨by rfl, rfl⟩) hHeld ?_
    (try simp only [Act.put, List.setIfInBounds_toArray, List.set_cons_zero, List.set_cons_succ, List.getElem_toArray, List.getElem_cons_zero, List.getElem_cons_succ])
    refine wpAnyH_take (i := 13) (v := undef) rfl (by kernel_rfl) (by kernel_rfl) (by kernel_rfl) (fun _ _ _ h => h) (Or.inr ⟨by rfl, rfl⟩) hHeld ?_
    (try simp only [Act.put, List.setIfInBounds_toArray, List.set_cons_zero, List.set_cons_succ, List.getElem_toArray, List.getElem_cons_zero, List.getElem_cons_succ])
    refine wpAnyH_take (i := 14) (v := undef) rfl (by kernel_rfl) (by kernel_rfl) (by kernel_rfl) (fun _ _ _ h => h) (Or.inr ⟨by rfl, rfl⟩) hHeld ?_
    (try simp only [Act.put, List.setIfInBounds_toArray, List.set_cons_zero, List.set_cons_succ, List.getElem_toArray, List.getElem_cons_zero, List.getElem_cons_succ])
    refine wpAnyH_take (i := 15) (v := undef) rfl (by kernel_rfl) (by kernel_rfl) (by kernel_rfl) (fun _ _ _ h => h) (Or.inr ⟨by rfl, rfl⟩) hHeld ?_
    (try simp only [Act.put, List.setIfInBounds_toArray, List.set_cons_zero, List.set_cons_succ, List.getElem_toArray, List.getElem_cons_zero, List.getElem_cons_succ])
    refine wpAnyH_take (i := 16) (v := undef) rfl (by kernel_rfl) (by kernel_rfl) (by kernel_rfl) (fun _ _ _ h => h) (Or.inr ⟨by rfl, rfl⟩) hHeld ?_
    (try simp only [Act.put, List.setIfInBounds_toArray, List.set_cons_zero, List.set_cons_succ, List.getElem_toArray, List.getElem_cons_zero, List.getElem_cons_succ])
    refine wpAnyH_take (i := 17) (v := undef) rfl (by kernel_rfl) (by kernel_rfl) (by kernel_rfl) (fun _ _ _ h => h) (Or.inr ⟨by rfl, rfl⟩) hHeld ?_
    (try simp only [Act.put, List.setIfInBounds_toArray, List.set_cons_zero, List.set_cons_succ, List.getElem_toArray, List.getElem_cons_zero, List.getElem_cons_succ])
    refine wpAnyH_take (i := 18) (v := undef) rfl (by kernel_rfl) (by kernel_rfl) (by kernel_rfl) (fun _ _ _ h => h) (Or.inr ⟨by rfl, rfl⟩) hHeld ?_
    (try simp only [Act.put, List.setIfInBounds_toArray, List.set_cons_zero, List.set_cons_succ, List.getElem_toArray, List.getElem_cons_zero, List.getElem_cons_succ])
    refine wpAnyH_take (i := 19) (v := undef) rfl (by kernel_rfl) (by kernel_rfl) (by kernel_rfl) (fun _ _ _ h => h) (Or.inr ⟨by rfl, rfl⟩) hHeld ?_
    (try simp only [Act.put, List.setIfInBounds_toArray, List.set_cons_zero, List.set_cons_succ, List.getElem_toArray, List.getElem_cons_zero, List.getElem_cons_succ])
    refine wpAnyH_take (i := 20) (v := undef) rfl (by kernel_rfl) (by kernel_rfl) (by kernel_rfl) (fun _ _ _ h => h) (Or.inr ⟨by rfl, rfl⟩) hHeld ?_
    (try simp only [Act.put, List.setIfInBounds_toArray, List.set_cons_zero, List.set_cons_succ, List.getElem_toArray, List.getElem_cons_zero, List.getElem_cons_succ])
    refine wpAnyH_take (i := 21) (v := undef) rfl (by kernel_rfl) (by kernel_rfl) (by kernel_rfl) (fun _ _ _ h => h) (Or.inr ⟨by rfl, rfl⟩) hHeld ?_
    (try simp only [Act.put, List.setIfInBounds_toArray, List.set_cons_zero, List.set_cons_succ, List.getElem_toArray, List.getElem_cons_zero, List.getElem_cons_succ])
    refine wpAnyH_take (i := 22) (v := undef) rfl (by kernel_rfl) (by kernel_rfl) (by kernel_rfl) (fun _ _ _ h => h) (Or.inr ⟨by rfl, rfl⟩) hHeld ?_
    (try simp only [Act.put, List.setIfInBounds_toArray, List.set_cons_zero, List.set_cons_succ, List.getElem_toArray, List.getElem_cons_zero, List.getElem_cons_succ])
    refine wpAnyH_take (i := 23) (v := ?v127) rfl (by kernel_rfl) (by kernel_rfl) (by kernel_rfl) (fun _ _ _ h => h) (Or.inl ⟨by rfl, ?hy127⟩) hHeld ?_
    case hy127 => (intro w hSw; (try dsimp only at hSw); go_simp; try with_reducible rfl)
    (try simp only [Act.put, List.setIfInBounds_toArray, List.set_cons_zero, List.set_cons_succ, List.getElem_toArray, List.getElem_cons_zero, List.getElem_cons_succ])
    refine wpAnyH_take (i := 24) (v := ?v128) rfl (by kernel_rfl) (by kernel_rfl) (by kernel_rfl) (fun _ _ _ h => h) (Or.inl ⟨by rfl, ?hy128⟩) hHeld ?_
    case hy128 => (intro w hSw; (try dsimp only at hSw); go_simp; try with_reducible rfl)
    (try simp only [Act.put, List.setIfInBounds_toArray, List.set_cons_zero, List.set_cons_succ, List.getElem_toArray, List.getElem_cons_zero, List.getElem_cons_succ])
    refine wpAnyH_done (by kernel_rfl) ?_ _
    have HE := Lib.hid hHeld.2.out.bel
    clear hHeld
    go_wp2
    go_ret
    exact ⟨false, rfl, HN.out, HE.out⟩
  by_cases e2 : rootErr b tb = 0
  case neg =>
    have q1 : (rootErr a ta == 0) = true := by simp [e1]
    have q2 : (rootErr b tb == 0) = false := by simp [e2]
    have HN : Hid (EqvIs names a ta b tb false) := ⟨fun _ h => absurd h e2, fun _ => rfl⟩
    clear e1 e2
    go_enter Tryz.func33, Tryz.ntmps33
    go_wp2
    generalize (w.alloc (rootB A a.length c ta)).alloc (rootB B b.length d tb) = wc at *
    refine wp_region_held_drew (S := (fun w' => (w'.cell? ⟨w.heap.size, 0, none⟩ = some (.slice A a.length c) ∧ w'.cell? ⟨w.heap.size, 1, none⟩ = some (.int .i64 ta) ∧ w'.cell? ⟨w.heap.size + 1, 0, none⟩ = some (.slice B b.length d) ∧ w'.cell? ⟨w.heap.size + 1, 1, none⟩ = some (.int .i64 tb)) ∧ Hid (TwoB w w' A a.length c ta B b.length d tb))) (by kernel_rfl) ?_ (fun hHeld => ?_)
    · (try dsimp only); exact two_cells (HT0.out.below (below_drewN (Below.refl _ _) 1))
    refine wpAnyH_take (i := 0) (v := ?v129) rfl (by kernel_rfl) (by kernel_rfl) (by kernel_rfl) (fun _ _ _ h => h) (Or.inl ⟨by rfl, ?hy129⟩) hHeld ?_
    case hy129 => (intro w hSw; (try dsimp only at hSw); go_simp; try with_reducible rfl)
    (try simp only [Act.put, List.setIfInBounds_toArray, List.set_cons_zero, List.set_cons_succ, List.getElem_toArray, List.getElem_cons_zero])
    refine wpAnyH_ready (rs := [1]) (by kernel_rfl) (by simp) ?_
    refine (AllReadyH.cons rfl (fun K hK => ?_) AllReadyH.nil)
    go_simp
    (refine (check_any a ta A c _ (HA.out.below hHeld.2.out.bel)).mono ?_; rintro e w3 ⟨rfl, hbz⟩)
    refine hK.out _ _ ?_ (fun hHeld => ?_)
    · (try dsimp only); exact two_cells (hHeld.2.out.below hbz)
    clear hK K
    (try simp only [Act.put, List.setIfInBounds_toArray, List.set_cons_zero, List.set_cons_succ, List.getElem_toArray, List.getElem_cons_zero, List.getElem_cons_succ])
    refine wpAnyH_take (i := 2) (v := ?v130) rfl (by kernel_rfl) (by kernel_rfl) (by kernel_rfl) (fun _ _ _ h => h) (Or.inl ⟨by rfl, ?hy130⟩) hHeld ?_
    case hy130 => (intro w hSw; (try dsimp only at hSw); go_simp; try with_reducible rfl)
    (try simp only [Act.put, List.setIfInBounds_toArray, List.set_cons_zero, List.set_cons_succ, List.getElem_toArray, List.getElem_cons_zero, List.getElem_cons_succ])
    refine wpAnyH_take (i := 3) (v := ?v131) rfl (by kernel_rfl) (by kernel_rfl) (by kernel_rfl) (fun _ _ _ h => h) (Or.inl ⟨by rfl, ?hy131⟩) hHeld ?_
    case hy131 => (intro w hSw; (try dsimp only at hSw); go_simp; try with_reducible rfl)
    (try simp only [Act.put, List.setIfInBounds_toArray, List.set_cons_zero, List.set_cons_succ, List.getElem_toArray, List.getElem_cons_zero, List.getElem_cons_succ])
    refine wpAnyH_take (i := 4) (v := ?v132) rfl (by kernel_rfl) (by kernel_rfl) (by kernel_rfl) (fun _ _ _ h => h) (Or.inl ⟨by rfl, ?hy132⟩) hHeld ?_
    case hy132 => (intro w hSw; (try dsimp only at hSw); go_simp; try with_reducible rfl)
    (try simp only [Act.put, List.setIfInBounds_toArray, List.set_cons_zero, List.set_cons_succ, List.getElem_toArray, List.getElem_cons_zero, List.getElem_cons_succ])
    refine wpAnyH_ready (rs := [5]) (by kernel_rfl) (by simp) ?_
    refine (AllReadyH.cons rfl (fun K hK => ?_) AllReadyH.nil)
    go_simp
    (refine (check_any b tb B d _ (HB.out.below hHeld.2.out.bel)).mono ?_; rintro e w4 ⟨rfl, hbz⟩)
    refine hK.out _ _ ?_ (fun hHeld => ?_)
    · (try dsimp only); exact two_cells (hHeld.2.out.below hbz)
    clear hK K
    (try simp only [Act.put, List.setIfInBounds_toArray, List.set_cons_zero, List.set_cons_succ, List.getElem_toArray, List.getElem_cons_zero, List.getElem_cons_succ])
    refine wpAnyH_take (i := 6) (v := ?v133) rfl (by kernel_rfl) (by kernel_rfl) (by kernel_rfl) (fun _ _ _ h => h) (Or.inl ⟨by rfl, ?hy133⟩) hHeld ?_
    case hy133 => (intro w hSw; (try dsimp only at hSw); go_simp; try with_reducible rfl)
    (try simp only [Act.put, List.setIfInBounds_toArray, List.set_cons_zero, List.set_cons_succ, List.getElem_toArray, List.getElem_cons_zero, List.getElem_cons_succ])
    refine wpAnyH_take (i := 7) (v := ?v134) rfl (by kernel_rfl) (by kernel_rfl) (by kernel_rfl) (fun _ _ _ h => h) (Or.inl ⟨by rfl, ?hy134⟩) hHeld ?_
    case hy134 => (intro w hSw; (try dsimp only at hSw); go_simp; try with_reducible rfl)
    (try simp only [Act.put, List.setIfInBounds_toArray, List.set_cons_zero, List.set_cons_succ, List.getElem_toArray, List.getElem_cons_zero, List.getElem_cons_succ])
    refine wpAnyH_take (i := 8) (v := ?v135) rfl (by kernel_rfl) (by kernel_rfl) (by kernel_rfl) (fun _ _ _ h => h) (Or.inl ⟨by rfl, ?hy135⟩) hHeld ?_
    case hy135 => (intro w hSw; (try dsimp only at hSw); go_simp; try with_reducible rfl)
    (try simp only [Act.put, List.setIfInBounds_toArray, List.set_cons_zero, List.set_cons_succ, List.getElem_toArray, List.getElem_cons_zero, List.getElem_cons_succ])
    refine wpAnyH_take (i := 9) (v := undef) rfl (by kernel_rfl) (by kernel_rfl) (by kernel_rfl) (fun _ _ _ h => h) (Or.inr ⟨by rfl, rfl⟩) hHeld ?_
    (try simp only [Act.put, List.setIfInBounds_toArray, List.set_cons_zero, List.set_cons_succ, List.getElem_toArray, List.getElem_cons_zero, List.getElem_cons_succ])
    refine wpAnyH_take (i := 10) (v := undef) rfl (by kernel_rfl) (by kernel_rfl) (by kernel_rfl) (fun _ _ _ h => h) (Or.inr ⟨by rfl, rfl⟩) hHeld ?_
    (try simp only [Act.put, List.setIfInBounds_toArray, List.set_cons_zero, List.set_cons_succ, List.getElem_toArray, List.getElem_cons_zero, List.getElem_cons_succ])
    refine wpAnyH_take (i := 11) (v := undef) rfl (by kernel_rfl) (by kernel_rfl) (by kernel_rfl) (fun _ _ _ h => h) (Or.inr ⟨by rfl, rfl⟩) hHeld ?_
    (try simp only [Act.put, List.setIfInBounds_toArray, List.set_cons_zero, List.set_cons_succ, List.getElem_toArray, List.getElem_cons_zero, List.getElem_cons_succ])
    refine wpAnyH_take (i := 12) (v := undef) rfl (by kernel_rfl) (by kernel_rfl) (by kernel_rfl) (fun _ _ _ h => h) (Or.inr ⟨by rfl, rfl⟩) hHeld ?_
    (try simp only [Act.put, List.setIfInBounds_toArray, List.set_cons_zero, List.set_cons_succ, List.getElem_toArray, List.getElem_cons_zero, List.getElem_cons_succ])
    refine wpAnyH_take (i := 13) (v := undef) rfl (by kernel_rfl) (by kernel_rfl) (by kernel_rfl) (fun _ _ _ h => h) (Or.inr ⟨by rfl, rfl⟩) hHeld ?_
    (try simp only [Act.put, List.setIfInBounds_toArray, List.set_cons_zero, List.set_cons_succ, List.getElem_toArray, List.getElem_cons_zero, List.getElem_cons_succ])
    refine wpAnyH_take (i := 14) (v := undef) rfl (by kernel_rfl) (by kernel_rfl) (by kernel_rfl) (fun _ _ _ h => h) (Or.inr ⟨by rfl, rfl⟩) hHeld ?_
    (try simp only [Act.put, List.setIfInBounds_toArray, List.set_cons_zero, List.set_cons_succ, List.getElem_toArray, List.getElem_cons_zero, List.getElem_cons_succ])
    refine wpAnyH_take (i := 15) (v := undef) rfl (by kernel_rfl) (by kernel_rfl) (by kernel_rfl) (fun _ _ _ h => h) (Or.inr ⟨by rfl, rfl⟩) hHeld ?_
    (try simp only [Act.put, List.setIfInBounds_toArray, List.set_cons_zero, List.set_cons_succ, List.getElem_toArray, List.getElem_cons_zero, List.getElem_cons_succ])
    refine wpAnyH_take (i := 16) (v := undef) rfl (by kernel_rfl) (by kernel_rfl) (by kernel_rfl) (fun _ _ _ h => h) (Or.inr ⟨by rfl, rfl⟩) hHeld ?_
    (try simp only [Act.put, List.setIfInBounds_toArray, List.set_cons_zero, List.set_cons_succ, List.getElem_toArray, List.getElem_cons_zero, List.getElem_cons_succ])
    refine wpAnyH_take (i := 17) (v := undef) rfl (by kernel_rfl) (by kernel_rfl) (by kernel_rfl) (fun _ _ _ h => h) (Or.inr ⟨by rfl, rfl⟩) hHeld ?_
    (try simp only [Act.put, List.setIfInBounds_toArray, List.set_cons_zero, List.set_cons_succ, List.getElem_toArray, List.getElem_cons_zero, List.getElem_cons_succ])
    refine wpAnyH_take (i := 18) (v := undef) rfl (by kernel_rfl) (by kernel_rfl) (by kernel_rfl) (fun _ _ _ h => h) (Or.inr ⟨by rfl, rfl⟩) hHeld ?_
    (try simp only [Act.put, List.setIfInBounds_toArray, List.set_cons_zero, List.set_cons_succ, List.getElem_toArray, List.getElem_cons_zero, List.getElem_cons_succ])
    refine wpAnyH_take (i := 19) (v := undef) rfl (by kernel_rfl) (by kernel_rfl) (by kernel_rfl) (fun _ _ _ h => h) (Or.inr ⟨by rfl, rfl⟩) hHeld ?_
    (try simp only [Act.put, List.setIfInBounds_toArray, List.set_cons_zero, List.set_cons_succ, List.getElem_toArray, List.getElem_cons_zero, List.getElem_cons_succ])
    refine wpAnyH_take (i := 20) (v := undef) rfl (by kernel_rfl) (by kernel_rfl) (by kernel_rfl) (fun _ _ _ h => h) (Or.inr ⟨by rfl, rfl⟩) hHeld ?_
    (try simp only [Act.put, List.setIfInBounds_toArray, List.set_cons_zero, List.set_cons_succ, List.getElem_toArray, List.getElem_cons_zero, List.getElem_cons_succ])
    refine wpAnyH_take (i := 21) (v := undef) rfl (by kernel_rfl) (by kernel_rfl) (by kernel_rfl) (fun _ _ _ h => h) (Or.inr ⟨by rfl, rfl⟩) hHeld ?_
    (try simp only [Act.put, List.setIfInBounds_toArray, List.set_cons_zero, List.set_cons_succ, List.getElem_toArray, List.getElem_cons_zero, List.getElem_cons_succ])
    refine wpAnyH_take (i := 22) (v := undef) rfl (by kernel_rfl) (by kernel_rfl) (by kernel_rfl) (fun _ _ _ h => h) (Or.inr ⟨by rfl, rfl⟩) hHeld ?_
    (try simp only [Act.put, List.setIfInBounds_toArray, List.set_cons_zero, List.set_cons_succ, List.getElem_toArray, List.getElem_cons_zero, List.getElem_cons_succ])
    refine wpAnyH_take (i := 23) (v := ?v136) rfl (by kernel_rfl) (by kernel_rfl) (by kernel_rfl) (fun _ _ _ h => h) (Or.inl ⟨by rfl, ?hy136⟩) hHeld ?_
    case hy136 => (intro w hSw; (try dsimp only at hSw); go_simp; try with_reducible rfl)
    (try simp only [Act.put, List.setIfInBounds_toArray, List.set_cons_zero, List.set_cons_succ, List.getElem_toArray, List.getElem_cons_zero, List.getElem_cons_succ])
    refine wpAnyH_take (i := 24) (v := ?v137) rfl (by kernel_rfl) (by kernel_rfl) (by kernel_rfl) (fun _ _ _ h => h) (Or.inl ⟨by rfl, ?hy137⟩) hHeld ?_
    case hy137 => (intro w hSw; (try dsimp only at hSw); go_simp; try with_reducible rfl)
    (try simp only [Act.put, List.setIfInBounds_toArray, List.set_cons_zero, List.set_cons_succ, List.getElem_toArray, List.getElem_cons_zero, List.getElem_cons_succ])
    refine wpAnyH_done (by kernel_rfl) ?_ _
    have HE := Lib.hid hHeld.2.out.bel
    clear hHeld
    go_wp2
    go_ret
    exact ⟨false, rfl, HN.out, HE.out⟩
  have q1 : (rootErr a ta == 0) = true := by simp [e1]
  have q2 : (rootErr b tb == 0) = true := by simp [e2]
  obtain ⟨va, ha0, ha1⟩ := root_ok e1
  obtain ⟨vb, hb0, hb1⟩ := root_ok e2
  obtain ⟨p, rfl⟩ := Int.eq_ofNat_of_zero_le ha0
  obtain ⟨q, rfl⟩ := Int.eq_ofNat_of_zero_le hb0
  have HE1 := Lib.hid e1
  have HE2 := Lib.hid e2
  have la := valid_len va
  have lb := valid_len vb
  have HUA := Lib.hid (valid_inR va)
  have HUB := Lib.hid (valid_inR vb)
  have hp : p < a.length := by omega
  have hq : q < b.length := by omega
  clear e1 e2 va vb
  go_enter Tryz.func33, Tryz.ntmps33
  go_wp2
  generalize (w.alloc (rootB A a.length c (p : Int))).alloc (rootB B b.length d (q : Int)) = wc at *
  refine wp_region_held_drew (S := (fun w' => (w'.cell? ⟨w.heap.size, 0, none⟩ = some (.slice A a.length c) ∧ w'.cell? ⟨w.heap.size, 1, none⟩ = some (.int .i64 (p : Int)) ∧ w'.cell? ⟨w.heap.size + 1, 0, none⟩ = some (.slice B b.length d) ∧ w'.cell? ⟨w.heap.size + 1, 1, none⟩ = some (.int .i64 (q : Int))) ∧ Hid (TwoB w w' A a.length c (p : Int) B b.length d (q : Int)))) (by kernel_rfl) ?_ (fun hHeld => ?_)
  · (try dsimp only); exact two_cells (HT0.out.below (below_drewN (Below.refl _ _) 1))
  refine wpAnyH_take (i := 0) (v := ?v138) rfl (by kernel_rfl) (by kernel_rfl) (by kernel_rfl) (fun _ _ _ h => h) (Or.inl ⟨by rfl, ?hy138⟩) hHeld ?_
  case hy138 => (intro w hSw; (try dsimp only at hSw); go_simp; try with_reducible rfl)
  (try simp only [Act.put, List.setIfInBounds_toArray, List.set_cons_zero, List.set_cons_succ, List.getElem_toArray, List.getElem_cons_zero])
  refine wpAnyH_ready (rs := [1]) (by kernel_rfl) (by simp) ?_
  refine (AllReadyH.cons rfl (fun K hK => ?_) AllReadyH.nil)
  go_simp
  (refine (check_any a (p : Int) A c _ (HA.out.below hHeld.2.out.bel)).mono ?_; rintro e w3 ⟨rfl, hbz⟩)
  refine hK.out _ _ ?_ (fun hHeld => ?_)
  · (try dsimp only); exact two_cells (hHeld.2.out.below hbz)
  clear hK K
  (try simp only [Act.put, List.setIfInBounds_toArray, List.set_cons_zero, List.set_cons_succ, List.getElem_toArray, List.getElem_cons_zero, List.getElem_cons_succ])
  refine wpAnyH_take (i := 2) (v := ?v139) rfl (by kernel_rfl) (by kernel_rfl) (by kernel_rfl) (fun _ _ _ h => h) (Or.inl ⟨by rfl, ?hy139⟩) hHeld ?_
  case hy139 => (intro w hSw; (try dsimp only at hSw); go_simp; try with_reducible rfl)
  (try simp only [Act.put, List.setIfInBounds_toArray, List.set_cons_zero, List.set_cons_succ, List.getElem_toArray, List.getElem_cons_zero, List.getElem_cons_succ])
  refine wpAnyH_take (i := 3) (v := ?v140) rfl (by kernel_rfl) (by kernel_rfl) (by kernel_rfl) (fun _ _ _ h => h) (Or.inl ⟨by rfl, ?hy140⟩) hHeld ?_
  case hy140 => (intro w hSw; (try dsimp only at hSw); go_simp; try with_reducible rfl)
  (try simp only [Act.put, List.setIfInBounds_toArray, List.set_cons_zero, List.set_cons_succ, List.getElem_toArray, List.getElem_cons_zero, List.getElem_cons_succ])
  refine wpAnyH_take (i := 4) (v := ?v141) rfl (by kernel_rfl) (by kernel_rfl) (by kernel_rfl) (fun _ _ _ h => h) (Or.inl ⟨by rfl, ?hy141⟩) hHeld ?_
  case hy141 => (intro w hSw; (try dsimp only at hSw); go_simp; try with_reducible rfl)
  (try simp only [Act.put, List.setIfInBounds_toArray, List.set_cons_zero, List.set_cons_succ, List.getElem_toArray, List.getElem_cons_zero, List.getElem_cons_succ])
  refine wpAnyH_ready (rs := [5]) (by kernel_rfl) (by simp) ?_
  refine (AllReadyH.cons rfl (fun K hK => ?_) AllReadyH.nil)
  go_simp
  (refine (check_any b (q : Int) B d _ (HB.out.below hHeld.2.out.bel)).mono ?_; rintro e w4 ⟨rfl, hbz⟩)
  refine hK.out _ _ ?_ (fun hHeld => ?_)
  · (try dsimp only); exact two_cells (hHeld.2.out.below hbz)
  clear hK K
  (try simp only [Act.put, List.setIfInBounds_toArray, List.set_cons_zero, List.set_cons_succ, List.getElem_toArray, List.getElem_cons_zero, List.getElem_cons_succ])
  refine wpAnyH_take (i := 6) (v := ?v142) rfl (by kernel_rfl) (by kernel_rfl) (by kernel_rfl) (fun _ _ _ h => h) (Or.inl ⟨by rfl, ?hy142⟩) hHeld ?_
  case hy142 => (intro w hSw; (try dsimp only at hSw); go_simp; try with_reducible rfl)
  (try simp only [Act.put, List.setIfInBounds_toArray, List.set_cons_zero, List.set_cons_succ, List.getElem_toArray, List.getElem_cons_zero, List.getElem_cons_succ])
  refine wpAnyH_take (i := 7) (v := ?v143) rfl (by kernel_rfl) (by kernel_rfl) (by kernel_rfl) (fun _ _ _ h => h) (Or.inl ⟨by rfl, ?hy143⟩) hHeld ?_
  case hy143 => (intro w hSw; (try dsimp only at hSw); go_simp; try with_reducible rfl)
  (try simp only [Act.put, List.setIfInBounds_toArray, List.set_cons_zero, List.set_cons_succ, List.getElem_toArray, List.getElem_cons_zero, List.getElem_cons_succ])
  refine wpAnyH_take (i := 8) (v := ?v144) rfl (by kernel_rfl) (by kernel_rfl) (by kernel_rfl) (fun _ _ _ h => h) (Or.inl ⟨by rfl, ?hy144⟩) hHeld ?_
  case hy144 => (intro w hSw; (try dsimp only at hSw); go_simp; try with_reducible rfl)
  (try simp only [Act.put, List.setIfInBounds_toArray, List.set_cons_zero, List.set_cons_succ, List.getElem_toArray, List.getElem_cons_zero, List.getElem_cons_succ])
  refine wpAnyH_take (i := 9) (v := ?v145) rfl (by kernel_rfl) (by kernel_rfl) (by kernel_rfl) (fun _ _ _ h => h) (Or.inl ⟨by rfl, ?hy145⟩) hHeld ?_
  case hy145 => (intro w hSw; (try dsimp only at hSw); go_simp; try with_reducible rfl)
  (try simp only [Act.put, List.setIfInBounds_toArray, List.set_cons_zero, List.set_cons_succ, List.getElem_toArray, List.getElem_cons_zero, List.getElem_cons_succ])
  refine wpAnyH_take (i := 10) (v := ?v146) rfl (by kernel_rfl) (by kernel_rfl) (by kernel_rfl) (fun _ _ _ h => h) (Or.inl ⟨by rfl, ?hy146⟩) hHeld ?_
  case hy146 => (intro w hSw; (try dsimp only at hSw); go_simp; try with_reducible rfl)
  (try simp only [Act.put, List.setIfInBounds_toArray, List.set_cons_zero, List.set_cons_succ, List.getElem_toArray, List.getElem_cons_zero, List.getElem_cons_succ])
  refine wpAnyH_take (i := 11) (v := ?v147) rfl (by kernel_rfl) (by kernel_rfl) (by kernel_rfl) (fun _ _ _ h => h) (Or.inl ⟨by rfl, ?hy147⟩) hHeld ?_
  case hy147 => (intro w hSw; (try dsimp only at hSw); go_simp; try with_reducible rfl)
  (try simp only [Act.put, List.setIfInBounds_toArray, List.set_cons_zero, List.set_cons_succ, List.getElem_toArray, List.getElem_cons_zero, List.getElem_cons_succ])
  refine wpAnyH_take (i := 12) (v := ?v148) rfl (by kernel_rfl) (by kernel_rfl) (by kernel_rfl) (fun _ _ _ h => h) (Or.inl ⟨by rfl, ?hy148⟩) hHeld ?_
  case hy148 => (intro w hSw; (try dsimp only at hSw); go_simp; try with_reducible rfl)
  (try simp only [Act.put, List.setIfInBounds_toArray, List.set_cons_zero, List.set_cons_succ, List.getElem_toArray, List.getElem_cons_zero, List.getElem_cons_succ])
  refine wpAnyH_take (i := 13) (v := ?v149) rfl (by kernel_rfl) (by kernel_rfl) (by kernel_rfl) (fun _ _ _ h => h) (Or.inl ⟨by rfl, ?hy149⟩) hHeld ?_
  case hy149 => (intro w hSw; (try dsimp only at hSw); go_simp; try with_reducible rfl)
  (try simp only [Act.put, List.setIfInBounds_toArray, List.set_cons_zero, List.set_cons_succ, List.getElem_toArray, List.getElem_cons_zero, List.getElem_cons_succ])
  refine wpAnyH_take (i := 15) (v := ?v150) rfl (by kernel_rfl) (by kernel_rfl) (by kernel_rfl) (fun _ _ _ h => h) (Or.inl ⟨by rfl, ?hy150⟩) hHeld ?_
  case hy150 => (intro w hSw; (try dsimp only at hSw); go_simp; try with_reducible rfl)
  (try simp only [Act.put, List.setIfInBounds_toArray, List.set_cons_zero, List.set_cons_succ, List.getElem_toArray, List.getElem_cons_zero, List.getElem_cons_succ])
  refine wpAnyH_take (i := 16) (v := ?v151) rfl (by kernel_rfl) (by kernel_rfl) (by kernel_rfl) (fun _ _ _ h => h) (Or.inl ⟨by rfl, ?hy151⟩) hHeld ?_
  case hy151 => (intro w hSw; (try dsimp only at hSw); go_simp; try with_reducible rfl)
  (try simp only [Act.put, List.setIfInBounds_toArray, List.set_cons_zero, List.set_cons_succ, List.getElem_toArray, List.getElem_cons_zero, List.getElem_cons_succ])
  refine wpAnyH_take (i := 19) (v := ?v152) rfl (by kernel_rfl) (by kernel_rfl) (by kernel_rfl) (fun _ _ _ h => h) (Or.inl ⟨by rfl, ?hy152⟩) hHeld ?_
  case hy152 => (intro w hSw; (try dsimp only at hSw); go_simp; try with_reducible rfl)
  (try simp only [Act.put, List.setIfInBounds_toArray, List.set_cons_zero, List.set_cons_succ, List.getElem_toArray, List.getElem_cons_zero, List.getElem_cons_succ])
  refine wpAnyH_take (i := 20) (v := ?v153) rfl (by kernel_rfl) (by kernel_rfl) (by kernel_rfl) (fun _ _ _ h => h) (Or.inl ⟨by rfl, ?hy153⟩) hHeld ?_
  case hy153 => (intro w hSw; (try dsimp only at hSw); go_simp; try with_reducible rfl)
  (try simp only [Act.put, List.setIfInBounds_toArray, List.set_cons_zero, List.set_cons_succ, List.getElem_toArray, List.getElem_cons_zero, List.getElem_cons_succ])
  refine wpAnyH_ready (rs := [14]) (by kernel_rfl) (by simp) ?_
  refine (AllReadyH.cons rfl (fun K hK => ?_) AllReadyH.nil)
  go_simp
  (refine (relation_any names a b la lb HUA.out HUB.out A c B d _ (HA.out.below hHeld.2.out.bel) (HB.out.below hHeld.2.out.bel)).mono ?_; rintro e w5 ⟨g, rows, M, rfl, htab, hml, hcl, hgr, hbz⟩; obtain ⟨gi, cg, c1, c2⟩ := tab_bit htab hml hcl hp hq; have HGR := Lib.hid hgr; clear htab hml hcl hgr)
  refine hK.out _ _ ?_ (fun hHeld => ?_)
  · (try dsimp only); exact two_cells (hHeld.2.out.below hbz)
  clear hK K
  (try simp only [Act.put, List.setIfInBounds_toArray, List.set_cons_zero, List.set_cons_succ, List.getElem_toArray, List.getElem_cons_zero, List.getElem_cons_succ])
  refine wpAnyH_take (i := 17) (v := ?v154) rfl (by kernel_rfl) (by kernel_rfl) (by kernel_rfl) (fun _ _ _ h => h) (Or.inl ⟨by rfl, ?hy154⟩) hHeld ?_
  case hy154 => (intro w hSw; (try dsimp only at hSw); go_simp; try with_reducible rfl)
  (try simp only [Act.put, List.setIfInBounds_toArray, List.set_cons_zero, List.set_cons_succ, List.getElem_toArray, List.getElem_cons_zero, List.getElem_cons_succ])
  refine wpAnyH_ready (rs := [18]) (by kernel_rfl) (by simp) ?_
  refine (AllReadyH.cons rfl (fun K hK => ?_) AllReadyH.nil)
  go_simp
  refine hK.out _ _ ?_ (fun hHeld => ?_)
  · (try dsimp only); exact hHeld
  clear hK K
  (try simp only [Act.put, List.setIfInBounds_toArray, List.set_cons_zero, List.set_cons_succ, List.getElem_toArray, List.getElem_cons_zero, List.getElem_cons_succ])
  refine wpAnyH_take (i := 21) (v := ?v155) rfl (by kernel_rfl) (by kernel_rfl) (by kernel_rfl) (fun _ _ _ h => h) (Or.inl ⟨by rfl, ?hy155⟩) hHeld ?_
  case hy155 => (intro w hSw; (try dsimp only at hSw); go_simp; try with_reducible rfl)
  (try simp only [Act.put, List.setIfInBounds_toArray, List.set_cons_zero, List.set_cons_succ, List.getElem_toArray, List.getElem_cons_zero, List.getElem_cons_succ])
  refine wpAnyH_ready (rs := [22]) (by kernel_rfl) (by simp) ?_
  refine (AllReadyH.cons rfl (fun K hK => ?_) AllReadyH.nil)
  go_simp
  refine hK.out _ _ ?_ (fun hHeld => ?_)
  · (try dsimp only); exact hHeld
  clear hK K
  (try simp only [Act.put, List.setIfInBounds_toArray, List.set_cons_zero, List.set_cons_succ, List.getElem_toArray, List.getElem_cons_zero, List.getElem_cons_succ])
  refine wpAnyH_take (i := 23) (v := ?v156) rfl (by kernel_rfl) (by kernel_rfl) (by kernel_rfl) (fun _ _ _ h => h) (Or.inl ⟨by rfl, ?hy156⟩) hHeld ?_
  case hy156 => (intro w hSw; (try dsimp only at hSw); go_simp; try with_reducible rfl)
  (try simp only [Act.put, List.setIfInBounds_toArray, List.set_cons_zero, List.set_cons_succ, List.getElem_toArray, List.getElem_cons_zero, List.getElem_cons_succ])
  refine wpAnyH_take (i := 24) (v := ?v157) rfl (by kernel_rfl) (by kernel_rfl) (by kernel_rfl) (fun _ _ _ h => h) (Or.inl ⟨by rfl, ?hy157⟩) hHeld ?_
  case hy157 => (intro w hSw; (try dsimp only at hSw); go_simp; try with_reducible rfl)
  (try simp only [Act.put, List.setIfInBounds_toArray, List.set_cons_zero, List.set_cons_succ, List.getElem_toArray, List.getElem_cons_zero, List.getElem_cons_succ])
  refine wpAnyH_done (by kernel_rfl) ?_ _
  have HE := Lib.hid hHeld.2.out.bel
  clear hHeld
  go_wp2
  go_ret
  exact ⟨getB M p q, rfl, ⟨fun _ _ => ⟨getB M, HGR.out, rfl⟩, fun h => absurd ⟨HE1.out, HE2.out⟩ h⟩, HE.out⟩

set_option maxHeartbeats 1000000 in
set_option maxRecDepth 100000 in
theorem equivalent_any (a : List TyD) (ta : Int) (b : List TyD) (tb : Int) (A : Option Addr) (c : Nat) (B : Option Addr) (d : Nat) (w : World) (ha : TysR w A a) (hb : TysR w B b) :
    Calls Tryz.prog 13 #[rootV A a.length c ta, rootV B b.length d tb] w (EqvPost true a ta b tb w) := by
  have HA := Lib.hid ha
  have HB := Lib.hid hb
  clear ha hb
  go_enter Tryz.func13, Tryz.ntmps13
  go_wp2_with fail
  refine (related_any true a ta b tb A c B d _ (HA.out.below (below_new2 _ _ _)) (HB.out.below (below_new2 _ _ _))).mono ?_
  rintro e w2 ⟨v, rfl, hv, hb2⟩
  have HV := Lib.hid hv
  go_wp2
  go_ret
  exact ⟨v, rfl, HV.out, below_alloc2 hb2⟩
set_option maxHeartbeats 1000000 in
set_option maxRecDepth 100000 in
theorem wire_any (a : List TyD) (ta : Int) (b : List TyD) (tb : Int) (A : Option Addr) (c : Nat) (B : Option Addr) (d : Nat) (w : World) (ha : TysR w A a) (hb : TysR w B b) :
    Calls Tryz.prog 14 #[rootV A a.length c ta, rootV B b.length d tb] w (EqvPost false a ta b tb w) := by
  have HA := Lib.hid ha
  have HB := Lib.hid hb
  clear ha hb
  go_enter Tryz.func14, Tryz.ntmps14
  go_wp2_with fail
  refine (related_any false a ta b tb A c B d _ (HA.out.below (below_new2 _ _ _)) (HB.out.below (below_new2 _ _ _))).mono ?_
  rintro e w2 ⟨v, rfl, hv, hb2⟩
  have HV := Lib.hid hv
  go_wp2
  go_ret
  exact ⟨v, rfl, HV.out, below_alloc2 hb2⟩
end Go.Proofs.YtkhpajneinmmiaaGreatDoor
