/-
  Walks: the examples of the chapter ('awake').
-/
import Derived.Test.YtcmnmcholfellaaDoorG1
import Derived.Test.YtcmnmcholfellaaDoorS4
namespace Go.Proofs.YtcmnmcholfellaaDoor
open Go.RowKit

/-- The points of the chapter's example. -/
def ex1 : Pt := ⟨0, 7, 0, 0, 0, 0, 1, 0, 0, 0, 0⟩
def ex2 : Pt := ⟨2, 2, 0, 0, 0, 0, 1, 0, 0, 0, 0⟩
def ex3 : Pt := ⟨5, 1, 1, 0, 2, 0, 0, 0, 0, 0, 0⟩
def ex4 : Pt := ⟨2, 3, 0, 0, 0, 3, 1, 0, 0, 0, 0⟩
def ex5 : Pt := ⟨4, 3, 0, 0, 0, 0, 0, 0, 0, 0, 0⟩

/-- A new block of points is owned. -/
theorem own_new (w : World) (base : Nat) (hb : base ≤ w.heap.size) (l : List Pt) (hl : l.length ≤ 1000000) : Own (w.alloc (.cells (cellsL l).toArray 23)) base (.slice (some ⟨w.heap.size, 0, none⟩) l.length l.length) l :=
  ⟨cellsL_length l, .inr ⟨w.heap.size, l.length, _, rfl, hb, heap_alloc_new w _, Nat.le_refl _, by unfold maxLen; omega, by simp [cellsL_length], by rw [← cellsL_length]; simp⟩⟩

theorem example_any (w : World) : Calls Tryd.prog 32 #[] w (OwnPost [ex1, ex2, ex3] w) := by
  go_enter Tryd.func32, Tryd.ntmps32
  go_wp2
  go_ret
  exact ⟨_, rfl, own_new w w.heap.size (Nat.le_refl _) [ex1, ex2, ex3] (by decide), (Below.refl _ _).alloc (Nat.le_refl _) _⟩

instance (n : Int) : Decidable (In64 n) := by unfold In64; infer_instance

theorem fits_ex : ∀ p ∈ [ex1, ex2, ex3], p.Fits := by
  intro p hp
  simp at hp
  rcases hp with rfl | rfl | rfl <;> exact ⟨by decide, by decide, by decide, by decide, by decide, by decide, by decide, by decide, by decide, by decide, by decide⟩

theorem ex_valid : valid [ex1, ex2, ex3] = 0 := by decide +kernel
theorem ex_valid4 : valid [ex4] = 0 := by decide +kernel
theorem ex_invalid : valid [ex1, ex2, ex3, ex5] = 1 := by decide +kernel
theorem ex_text : textB [ex1, ex2, ex3] = ⟨#[48, 32, 108, 101, 97, 115, 101, 32, 48, 32, 49, 10, 50, 32, 98, 101, 103, 105, 110, 32, 48, 32, 49, 10, 53, 32, 114, 101, 97, 100, 32, 49, 32, 48, 32, 50, 10]⟩ := by decide +kernel
theorem ex_format : formatR [ex1, ex2, ex3] = (⟨#[48, 32, 108, 101, 97, 115, 101, 32, 48, 32, 49, 10, 50, 32, 98, 101, 103, 105, 110, 32, 48, 32, 49, 10, 53, 32, 114, 101, 97, 100, 32, 49, 32, 48, 32, 50, 10]⟩, 0) := by
  unfold formatR
  rw [ex_valid, ex_text]
  decide +kernel
theorem ex_merge : mergeR [ex1, ex2, ex3] [ex4] = ([ex1, ex2, ex4, ex3], 0) := by
  unfold mergeR
  rw [ex_valid, ex_valid4]
  have h : mrg [ex1, ex2, ex3] [ex4] = [ex1, ex2, ex4, ex3] := by
    simp [mrg, ex1, ex2, ex3, ex4]
  rw [h]; rfl

set_option maxHeartbeats 1000000 in
set_option maxRecDepth 100000 in
theorem awake_any (w : World) (ht : Tab w) : Calls Tryd.prog 11 #[] w fun e w' => e = .returned (.bool true) ∧ Below w.heap.size w w' := by
  have HT := Lib.hid ht
  clear ht
  go_enter Tryd.func11, Tryd.ntmps11
  go_wp2_with fail
  refine (example_any _).mono ?_
  rintro e w1 ⟨v1, rfl, ho1, hb1⟩
  obtain ⟨A1, c1, rfl, hr1⟩ := ho1.reads
  have HR1 := Lib.hid hr1
  have HB1 := Lib.hid hb1
  clear ho1 hr1 hb1
  go_wp2_with fail
  refine (format_any [ex1, ex2, ex3] fits_ex A1 c1 _ HR1.out (HT.out.below HB1.out)).mono ?_
  rintro e w2 ⟨rfl, hb2⟩
  rw [ex_format]
  have HB2 := Lib.hid (below_trans HB1.out hb2)
  clear hb2
  go_wp2_with fail
  refine (example_any _).mono ?_
  rintro e w3 ⟨v3, rfl, ho3, hb3⟩
  obtain ⟨A3, c3, rfl, hr3⟩ := ho3.reads
  have HR3 := Lib.hid hr3
  have HB3 := Lib.hid (below_trans HB2.out hb3)
  clear ho3 hr3 hb3
  go_wp2_with fail
  have HR4 : Hid (PtsR (w3.alloc (.cells (cellsL [ex4]).toArray 23)) (some ⟨w3.heap.size, 0, none⟩) [ex4]) := by
    obtain ⟨A, c, hv, hr⟩ := (own_new w3 0 (Nat.zero_le _) [ex4] (by decide)).reads
    injection hv with hA _ _
    subst hA; exact hr
  refine (merge_any [ex1, ex2, ex3] [ex4] (stable_few _ (by decide)) A3 (some ⟨w3.heap.size, 0, none⟩) c3 1 _ ?_ ?_ (by decide) (by decide)).mono ?_
  · exact HR3.out.below ((Below.refl _ _).alloc (Nat.le_refl _) _)
  · exact HR4.out
  rw [ex_merge]
  rintro e w4 ⟨v4, rfl, hp4, hb4⟩
  obtain ⟨A4, c4, rfl, hr4⟩ := hp4
  obtain ⟨b4, o4, rfl, hin4⟩ := hr4 (by simp)
  have hk : w4.cell? ⟨b4, o4 + 2 * 11 + 1, none⟩ = some (.int .i64 3) := (hin4 2 ex4 rfl).c1
  have HK := Lib.hid hk
  have HB4 := Lib.hid (below_trans HB3.out (below_alloc hb4))
  clear hin4 hr4 hb4 hk
  go_wp2_with fail
  refine (example_any _).mono ?_
  rintro e w5 ⟨v5, rfl, ho5, hb5⟩
  have HO5 := Lib.hid ho5
  have HB5 := Lib.hid (below_trans HB4.out hb5)
  have HB45 := Lib.hid hb5
  obtain ⟨A5, c5, rfl, hr5⟩ := ho5.reads
  clear ho5 hr5 hb5
  have HR6 : Hid (PtsR (w5.alloc (.cells (cellsL [ex5]).toArray 23)) (some ⟨w5.heap.size, 0, none⟩) [ex5]) := by
    obtain ⟨A, c, hv, hr⟩ := (own_new w5 0 (Nat.zero_le _) [ex5] (by decide)).reads
    injection hv with hA _ _
    subst hA; exact hr
  have HO6 : Hid (Own (w5.alloc (.cells (cellsL [ex5]).toArray 23)) w4.heap.size (.slice A5 3 c5) [ex1, ex2, ex3]) := World.ownsRow.alloc HO5.out _
  go_wp2_with (at_builtin; refine wpList_append_pts_w _ (by rfl) (.tmp 24) (.tmp 26) rfl w4.heap.size _ [ex1, ex2, ex3] rfl ?_ (some ⟨w5.heap.size, 0, none⟩) 1 [ex5] rfl ?_ ?_ ?_ ?_; (exact HO6.out); (exact HR6.out); (decide); (have := HB45.out.size; simp; omega); intro v6 w6 ho6 hg6; obtain ⟨A6, c6, rfl, hr6⟩ := ho6.reads)
  have hb46 : Below w4.heap.size w4 w6 := (HB45.out.alloc HB45.out.size _).grown hg6 (by have := HB45.out.size; simp; omega) HO6.out.lt
  have HR7 := Lib.hid hr6
  have HB46 := Lib.hid hb46
  clear hb46 hr6 ho6 hg6
  refine (valid_any [ex1, ex2, ex3, ex5] A6 c6 _ HR7.out).mono ?_
  rw [ex_invalid]
  rintro e w7 ⟨rfl, hb7⟩
  have hk7 : w7.cell? ⟨b4, o4 + 2 * 11 + 1, none⟩ = some (.int .i64 3) := below_cell hb7 (below_cell HB46.out HK.out)
  have hk8 : w7.cell? ⟨b4, o4 + 22 + 1, none⟩ = some (.int .i64 3) := hk7
  have HB7 := Lib.hid (below_trans (below_trans HB4.out HB46.out) hb7)
  clear hb7
  go_wp2
  go_ret
  exact ⟨rfl, HB7.out⟩
end Go.Proofs.YtcmnmcholfellaaDoor
