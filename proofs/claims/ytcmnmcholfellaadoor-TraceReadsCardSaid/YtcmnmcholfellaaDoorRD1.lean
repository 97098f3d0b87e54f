/-
  Walks: readings compared.
-/
import Derived.Test.YtcmnmcholfellaaDoorRD0
import Derived.Test.YtcmnmcholfellaaDoorZ1
namespace Go.Proofs.YtcmnmcholfellaaDoor
open Go.RowKit

/-- The cells of a reading alone in a block. -/
structure CfAt (w : World) (b : Nat) (c : Cf) : Prop where
  c0 : w.cell? ⟨b, 0, none⟩ = some (.int .i64 c.t)
  c1 : w.cell? ⟨b, 1, none⟩ = some (.int .i64 c.w)
  c2 : w.cell? ⟨b, 2, none⟩ = some (.int .i64 c.r)

set_option maxHeartbeats 400000 in
theorem reading_any (p : Pt) (w : World) : Calls Tryd.prog 52 #[p.v] w fun e w' => e = .returned (cfOf p).v ∧ Below w.heap.size w w' := by
  go_enter Tryd.func52, Tryd.ntmps52
  go_wp2
  exact bodyPost_ret (v := (cfOf p).v) (by simp [results, Tryd.results52, go_sem, cfOf]) rfl ⟨rfl, ((Below.refl _ _).alloc (Nat.le_refl _) _).alloc (by simp) _⟩

set_option maxHeartbeats 400000 in
theorem less_any (a b : Cf) (w : World) : Calls Tryd.prog 53 #[a.v, b.v] w fun e w' => e = .returned (.bool (ltC a b)) ∧ Below w.heap.size w w' := by
  by_cases h1 : a.t = b.t
  · have h1b : (a.t != b.t) = false := by simp [h1]
    by_cases h2 : a.w = b.w
    · have h2b : (a.w != b.w) = false := by simp [h2]
      have HL := Lib.hid (show ltC a b = decide (a.r < b.r) by simp [ltC, h1, h2])
      clear h1 h2
      go_enter Tryd.func53, Tryd.ntmps53
      go_wp2
      go_ret
      exact ⟨by rw [HL.out]; rfl, ((Below.refl _ _).alloc (Nat.le_refl _) _).alloc (by simp) _⟩
    · have h2b : (a.w != b.w) = true := by simp [h2]
      have HL := Lib.hid (show ltC a b = decide (a.w < b.w) by simp [ltC, h1, h2])
      clear h1 h2
      go_enter Tryd.func53, Tryd.ntmps53
      go_wp2
      go_ret
      exact ⟨by rw [HL.out]; rfl, ((Below.refl _ _).alloc (Nat.le_refl _) _).alloc (by simp) _⟩
  · have h1b : (a.t != b.t) = true := by simp [h1]
    have HL := Lib.hid (show ltC a b = decide (a.t < b.t) by simp [ltC, h1])
    clear h1
    go_enter Tryd.func53, Tryd.ntmps53
    go_wp2
    go_ret
    exact ⟨by rw [HL.out]; rfl, ((Below.refl _ _).alloc (Nat.le_refl _) _).alloc (by simp) _⟩

theorem isNaNi_any (x : Int) (w : World) : Calls Tryd.prog 71 #[.int .i64 x] w fun e w' => e = .returned (.bool false) ∧ w = w' := by
  have h : (x != x) = false := by simp
  go_enter Tryd.func71, Tryd.ntmps71
  go_wp2
  go_ret
  exact ⟨rfl, rfl⟩

set_option maxHeartbeats 400000 in
theorem comparei_any (x y : Int) (w : World) : Calls Tryd.prog 51 #[.int .i64 x, .int .i64 y] w fun e w' => e = .returned (.int .i64 (cmpI x y)) ∧ w = w' := by
  by_cases h1 : x < y
  · have HC := Lib.hid (show cmpI x y = -1 by simp [cmpI, h1])
    go_enter Tryd.func51, Tryd.ntmps51
    go_wp2_with (go_at_call 71; refine (isNaNi_any _ _).mono ?_; rintro e w' ⟨rfl, rfl⟩)
    go_ret
    exact ⟨by rw [HC.out]; rfl, rfl⟩
  · by_cases h2 : y < x
    · have HC := Lib.hid (show cmpI x y = 1 by simp [cmpI, h1, h2])
      go_enter Tryd.func51, Tryd.ntmps51
      go_wp2_with (go_at_call 71; refine (isNaNi_any _ _).mono ?_; rintro e w' ⟨rfl, rfl⟩)
      go_ret
      exact ⟨by rw [HC.out]; rfl, rfl⟩
    · have HC := Lib.hid (show cmpI x y = 0 by simp [cmpI, h1, h2])
      go_enter Tryd.func51, Tryd.ntmps51
      go_wp2_with (go_at_call 71; refine (isNaNi_any _ _).mono ?_; rintro e w' ⟨rfl, rfl⟩)
      go_ret
      exact ⟨by rw [HC.out]; rfl, rfl⟩

/-- The first number that is not 0. -/
def orI : List Int → Int
  | [] => 0
  | x :: r => if x ≠ 0 then x else orI r

set_option maxHeartbeats 400000 in
theorem or_any (l : List Int) (hl : l.length ≤ 100) (g o c : Nat) (w : World) (hc : ∀ k x, l[k]? = some x → w.cell? ⟨g, o + k, none⟩ = some (.int .i64 x)) :
    Calls Tryd.prog 50 #[.slice (some ⟨g, o, none⟩) l.length c] w fun e w' => e = .returned (.int .i64 (orI l)) ∧ w = w' := by
  have HC := Lib.hid hc
  clear hc
  go_enter Tryd.func50, Tryd.ntmps50
  go_wp2
  go_loop [8] (fun i => ∃ k : Nat, k ≤ l.length ∧ i = .int .i64 k ∧ Hid (orI l = orI (l.drop k))) (fun i => l.length - (intOf i).toNat)
  case atStart => exact ⟨0, by omega, rfl, rfl⟩
  case round =>
    obtain ⟨k, hk, rfl, hh⟩ := hrel
    by_cases hlt : k < l.length
    · have c0 : w.cell? ⟨g, o + k, none⟩ = some (.int .i64 l[k]) := HC.out k _ (List.getElem?_eq_getElem hlt)
      have HD := Lib.hid (List.drop_eq_getElem_cons hlt)
      by_cases h0 : l[k] = 0
      · have hb : (l[k] != 0) = false := by simp [h0]
        have HN : Hid (orI l = orI (l.drop (k + 1))) := by
          show _ = _
          rw [hh.out, HD.out, orI, if_neg (by simp [h0])]
        clear h0
        go_wp2
        go_round
        case rel => exact ⟨k + 1, by omega, by go_num, HN.out⟩
        case measure => simp [intOf]; omega
      · have hb : (l[k] != 0) = true := by simp [h0]
        have HN : Hid (orI l = l[k]) := by
          show _ = _
          rw [hh.out, HD.out, orI, if_pos h0]
        clear h0
        go_wp2
        go_ret
        exact ⟨by rw [HN.out]; rfl, rfl⟩
    · have HN : Hid (orI l = 0) := by
        show _ = _
        rw [hh.out, List.drop_of_length_le (by omega)]; rfl
      go_wp2
      go_ret
      exact ⟨by rw [HN.out]; rfl, rfl⟩

/-- How Reads compares. -/
def cmpC (a b : Cf) : Int := orI [cmpI a.t b.t, cmpI a.w b.w, cmpI a.r b.r]

theorem cmpC_lt (a b : Cf) : decide (cmpC a b < 0) = ltC a b := by
  unfold cmpC orI orI orI orI ltC cmpI
  by_cases h1 : a.t = b.t
  · by_cases h2 : a.w = b.w
    · by_cases h3 : a.r < b.r
      · simp [h1, h2, h3]
      · by_cases h4 : b.r < a.r <;> simp [h1, h2, h3, h4]
    · by_cases h3 : a.w < b.w
      · simp [h1, h2, h3]
      · have h4 : b.w < a.w := by omega
        simp [h1, h2, h3, h4]
  · by_cases h3 : a.t < b.t
    · simp [h1, h3]
    · have h4 : b.t < a.t := by omega
      simp [h1, h3, h4]
end Go.Proofs.YtcmnmcholfellaaDoor
