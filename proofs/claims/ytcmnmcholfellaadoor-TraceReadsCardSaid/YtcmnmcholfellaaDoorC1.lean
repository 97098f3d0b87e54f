/-
  Walks: slices.Grow of nil, and slices.Concat of two slices of points.
-/
import Derived.Test.YtcmnmcholfellaaDoorA0
import Derived.Lib.AppendZeros
import Derived.WalkSpells
namespace Go.Proofs.YtcmnmcholfellaaDoor
open Go.RowKit

def OwnPost (l : List Pt) (w : World) (e : Ending) (w' : World) : Prop := ∃ v, e = .returned v ∧ Own w' w.heap.size v l ∧ Below w.heap.size w w'

theorem zero_row (w : World) (n : Nat) (hn : n ≤ 1000000) :
    Own (w.drew.alloc (.cells (Builtin.zeroCells (Value.cells (Value.agg #[.int .i64 0, .int .i64 0, .int .i64 0, .int .i64 0, .int .i64 0, .int .i64 0, .int .i64 0, .int .i64 0, .int .i64 0, .int .i64 0, .int .i64 0])) n ++ Builtin.zeroCells (Value.cells (Value.agg #[.int .i64 0, .int .i64 0, .int .i64 0, .int .i64 0, .int .i64 0, .int .i64 0, .int .i64 0, .int .i64 0, .int .i64 0, .int .i64 0, .int .i64 0])) (grownCap w n 0 23 - n)) 23)) w.heap.size (.slice (some ⟨w.heap.size, 0, none⟩) 0 (grownCap w n 0 23)) [] := by
  have h1 := grownCap_ge w n 0 23
  have h2 := grownCap_le_maxLen w n 0 23 (by unfold maxLen; omega)
  refine ⟨by simp [cellsL], .inr ⟨w.heap.size, grownCap w n 0 23, _, rfl, Nat.le_refl _, heap_alloc_new w.drew _, Nat.zero_le _, h2, ?_, by simp [cellsL]⟩⟩
  rw [Array.size_append, size_zeroCells, size_zeroCells]
  show n * 11 + (grownCap w n 0 23 - n) * 11 = grownCap w n 0 23 * 11
  omega

/-- The points' zero value. -/
abbrev zPt : Value := Value.agg #[.int .i64 0, .int .i64 0, .int .i64 0, .int .i64 0, .int .i64 0, .int .i64 0, .int .i64 0, .int .i64 0, .int .i64 0, .int .i64 0, .int .i64 0]

set_option maxRecDepth 100000 in
theorem grow_run (w : World) (n : Nat) (hn : n ≤ 1000000) (h0 : 0 < n) :
    (Builtin.append_ #[27, 3] 27 #[.slice none 0 0, .int .i64 n]).run Tryd.prog w =
      .ok (.slice (some ⟨w.heap.size, 0, none⟩) n (grownCap w n 0 23)) (w.drew.alloc (.cells (Builtin.zeroCells zPt.cells n ++ Builtin.zeroCells zPt.cells (grownCap w n 0 23 - n)) 23)) := by
  obtain ⟨i0, hi, hz0, hz1, hz2⟩ := info_parts info23
  exact Lib.run_append_nil_zeros (P := Tryd.prog) w 27 3 27 23 i0 _ .i64 .i64 Tryd.underlying27 Tryd.underlying3 hi hz0 n h0 (by rw [hz1]; omega) (by omega) (by rw [hz2]; omega)

theorem grow_run' (w : World) (n : Nat) (hn : n ≤ 1000000) (h0 : 0 < n) :
    ∃ cap w', (Builtin.append_ #[27, 3] 27 #[.slice none 0 0, .int .i64 n]).run Tryd.prog w = .ok (.slice (some ⟨w.heap.size, 0, none⟩) n cap) w' ∧ n ≤ cap ∧ cap ≤ 9223372036854775807 ∧
      Own w' w.heap.size (.slice (some ⟨w.heap.size, 0, none⟩) 0 cap) [] ∧ Below w.heap.size w w' := by
  refine ⟨_, _, grow_run w n hn h0, grownCap_ge w n 0 23, ?_, zero_row w n hn, ((Below.refl _ _).drew).alloc (Nat.le_refl _) _⟩
  have := grownCap_le_maxLen w n 0 23 (by unfold maxLen; omega)
  unfold maxLen at this; omega

set_option maxHeartbeats 400000 in
set_option maxRecDepth 100000 in
theorem grow_any (n : Nat) (hn : n ≤ 1000000) (w : World) :
    Calls Tryd.prog 62 #[.slice none 0 0, .int .i64 n] w (OwnPost [] w) := by
  by_cases h0 : n = 0
  · subst h0
    go_enter Tryd.func62, Tryd.ntmps62
    go_wp2
    go_ret
    exact ⟨_, rfl, Own.nil _ _, Below.refl _ _⟩
  · have hpos : (0 : Int) < (n : Int) := by omega
    obtain ⟨cap, w1, hrun, hcap, hcap2, hown, hb⟩ := grow_run' w n hn (by omega)
    have HRun := Lib.hid hrun
    have HO := Lib.hid hown
    have HB := Lib.hid hb
    clear hrun hown hb h0
    go_enter Tryd.func62, Tryd.ntmps62
    go_wp2_with (at_builtin; refine Lib.wpList_append_run _ rfl (.tmp 20) (.tmp 21) 27 3 rfl _ _ rfl rfl _ _ HRun.out ?_)
    go_ret
    exact ⟨_, rfl, HO.out, HB.out⟩
end Go.Proofs.YtcmnmcholfellaaDoor
