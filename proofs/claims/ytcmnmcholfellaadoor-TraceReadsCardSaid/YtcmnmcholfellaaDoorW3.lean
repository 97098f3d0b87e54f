/-
  Walks: whether a point is valid, in package trace.
-/
import Derived.Test.YtcmnmcholfellaaDoorW2
namespace Go.Proofs.YtcmnmcholfellaaDoor
open Go.RowKit

theorem neg_any (x : Int) (w : World) : Calls Tryd.prog 67 #[.int .i64 x] w fun e w' => e = .returned (.bool (decide (x < 0))) ∧ w = w' := by
  go_enter Tryd.func67, Tryd.ntmps67
  go_wp2
  go_ret
  exact ⟨rfl, rfl⟩

/-- Is there a negative number? -/
def anyNeg (l : List Int) : Bool := l.any fun x => decide (x < 0)

/-- The first negative number is at n, or there is none and n is -1. -/
def NegAt (l : List Int) (w : World) (e : Ending) (w' : World) : Prop := ∃ n : Int, (decide (0 ≤ n)) = anyNeg l ∧ e = .returned (.int .i64 n) ∧ w = w'

theorem negAt_yes {l : List Int} {k : Nat} (hk : k < l.length) (h : l[k] < 0) (w : World) : NegAt l w (.returned (.int .i64 k)) w := by
  refine ⟨k, ?_, rfl, rfl⟩
  have : anyNeg l = true := List.any_eq_true.2 ⟨l[k], List.getElem_mem hk, by simpa using h⟩
  rw [this]; simp
theorem negAt_no {l : List Int} (h : ∀ (j : Nat) (x : Int), l[j]? = some x → 0 ≤ x) (w : World) : NegAt l w (.returned (.int .i64 (-1))) w := by
  refine ⟨-1, ?_, rfl, rfl⟩
  have : anyNeg l = false := by
    rw [anyNeg, List.any_eq_false]
    intro x hx
    obtain ⟨j, hj⟩ := List.getElem?_of_mem hx
    have := h j x hj
    simp; omega
  rw [this]; simp

set_option maxHeartbeats 400000 in
theorem indexNeg_any (l : List Int) (b c : Nat) (w : World) (hi : IntsIn w b l) (hn : l.length ≤ 3) :
    Calls Tryd.prog 81 #[.slice (some ⟨b, 0, none⟩) l.length c, .func (.func 67) #[] #[]] w (NegAt l w) := by
  have HI := Lib.hid hi
  clear hi
  go_enter Tryd.func81, Tryd.ntmps81
  go_wp2
  go_loop [8] (fun i => ∃ k : Nat, k ≤ l.length ∧ i = .int .i64 k ∧ Hid (∀ (j : Nat) (x : Int), j < k → l[j]? = some x → 0 ≤ x)) (fun i => l.length - (intOf i).toNat)
  case atStart => exact ⟨0, by omega, rfl, fun j x h => absurd h (by omega)⟩
  case round =>
    obtain ⟨k, hk, rfl, hno⟩ := hrel
    by_cases hlt : k < l.length
    · have hx : w.cell? ⟨b, k, none⟩ = some (.int .i64 l[k]) := HI.out k _ (List.getElem?_eq_getElem hlt)
      have hx' : w.cell? ⟨b, 0 + k, none⟩ = some (.int .i64 l[k]) := by rw [Nat.zero_add]; exact hx
      by_cases hneg : l[k] < 0
      · have hd : decide (l[k] < 0) = true := by simpa using hneg
        go_wp2_with (go_at_call 67; refine (neg_any _ _).mono ?_; rintro e w' ⟨rfl, rfl⟩)
        go_ret
        exact negAt_yes hlt hneg w
      · have hd : decide (l[k] < 0) = false := by simpa using hneg
        go_wp2_with (go_at_call 67; refine (neg_any _ _).mono ?_; rintro e w' ⟨rfl, rfl⟩)
        go_round
        case rel =>
          refine ⟨k + 1, by omega, by go_num, fun j x hj hjx => ?_⟩
          by_cases e : j = k
          · subst e; rw [List.getElem?_eq_getElem hlt] at hjx; injection hjx with hjx; omega
          · exact hno.out j x (by omega) hjx
        case measure => simp [intOf]; omega
    · go_wp2
      go_ret
      exact negAt_no (fun j x hx => hno.out j x (by obtain ⟨h, _⟩ := List.getElem?_eq_some_iff.1 hx; omega) hx) w

set_option maxHeartbeats 400000 in
theorem containsNeg_any (l : List Int) (b c : Nat) (w : World) (hi : IntsIn w b l) (hn : l.length ≤ 3) :
    Calls Tryd.prog 66 #[.slice (some ⟨b, 0, none⟩) l.length c, .func (.func 67) #[] #[]] w fun e w' => e = .returned (.bool (anyNeg l)) ∧ w = w' := by
  have HI := Lib.hid hi
  clear hi
  go_enter Tryd.func66, Tryd.ntmps66
  go_wp2_with (go_at_call 81; refine (indexNeg_any l b c _ HI.out hn).mono ?_; rintro e w' ⟨n, hn', rfl, rfl⟩)
  go_ret
  exact ⟨rfl, rfl⟩


/-- Is a point valid? -/
def okP (p : Pt) : Bool := decide (1 ≤ p.kind) && decide (p.kind ≤ 7) && decide (0 ≤ p.at_) && decide (p = mk p.at_ p.kind (flds p)) && !anyNeg (flds p)

theorem wordB_empty (k : Int) : (wordB k = ⟨#[]⟩) ↔ ¬ (1 ≤ k ∧ k ≤ 7) := by
  constructor
  · intro h hk
    have hk : k = 1 ∨ k = 2 ∨ k = 3 ∨ k = 4 ∨ k = 5 ∨ k = 6 ∨ k = 7 := by omega
    rcases hk with rfl | rfl | rfl | rfl | rfl | rfl | rfl <;> simp [wordB] at h
  · intro h
    unfold wordB
    repeat rw [if_neg (by omega)]

end Go.Proofs.YtcmnmcholfellaaDoor
