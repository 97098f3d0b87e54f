/-
  Walks: Filter and Between, in package trace.
-/
import Derived.Test.YtcmnmcholfellaaDoorF2
import Derived.Test.YtcmnmcholfellaaDoorK1
namespace Go.Proofs.YtcmnmcholfellaaDoor
open Go.RowKit

def ListPost (r : List Pt) (w : World) (e : Ending) (w' : World) : Prop := ∃ v, e = .returned v ∧ PtsV w' v r ∧ Below w.heap.size w w'

theorem Own.cap {w : World} {base : Nat} {A : Option Addr} {c : Nat} {l : List Pt} (h : Own w base (.slice A l.length c) l) : l.length ≤ c ∧ c ≤ 9223372036854775807 := by
  rcases h.2 with ⟨hv, h0⟩ | ⟨g, cap, cur, hv, _, _, hnc, hcm, _⟩
  · injection hv with _ h1 h2
    rw [h1, h2]; exact ⟨Nat.le_refl _, by omega⟩
  · injection hv with _ _ h2
    subst h2
    unfold maxLen at hcm
    exact ⟨hnc, by omega⟩

set_option maxHeartbeats 1000000 in
theorem filter_any (l : List Pt) (hn : l.length ≤ 1000000) (A : Option Addr) (c : Nat) (k : Int) (w : World) (hl : PtsR w A l) :
    Calls Tryd.prog 23 #[.slice A l.length c, .int .i64 k] w (ListPost (l.filter fun p => !delK k p) w) := by
  have HL := Lib.hid hl
  clear hl
  go_enter Tryd.func23, Tryd.ntmps23
  go_wp2_with fail
  refine (clone_any l hn A c _ (HL.out.below ((Below.refl _ _).alloc (Nat.le_refl _) _))).mono ?_
  rintro e w2 ⟨v2, rfl, ho2, hb2⟩
  obtain ⟨A2, c2, rfl, _⟩ := ho2.reads
  have HO := Lib.hid ho2
  have HB2 := Lib.hid hb2
  have HC : Hid (CapK w.heap.size k w2) := below_cell hb2 (by rw [cell_of_row _ _ _ _ _ _ (heap_alloc_new w _)]; rfl)
  have HNE : Hid (∀ g, A2.map (·.block) = some g → g ≠ w.heap.size) := fun g hg => by
    have := ho2.row.2 g hg
    simp at this; omega
  clear ho2 hb2
  go_wp2_with fail
  refine (deleteK_any w.heap.size k l hn A2 c2 HO.out.cap.1 HO.out.cap.2 _ HO.out.row.1 HC.out HNE.out).mono ?_
  rintro e w3 ⟨v3, rfl, hp3, hg3⟩
  have HP := Lib.hid hp3
  have HG := Lib.hid hg3
  clear hp3 hg3
  go_wp2
  go_ret
  exact ⟨_, rfl, HP.out, (below_alloc HB2.out).grown HG.out (below_alloc HB2.out).size (fun g hg => by have := HO.out.row.2 g hg; simp at this; omega)⟩

set_option maxHeartbeats 1000000 in
theorem between_any (l : List Pt) (hn : l.length ≤ 1000000) (A : Option Addr) (c : Nat) (a b : Int) (w : World) (hl : PtsR w A l) :
    Calls Tryd.prog 22 #[.slice A l.length c, .int .i64 a, .int .i64 b] w (ListPost (l.filter fun p => !delT a b p) w) := by
  have HL := Lib.hid hl
  clear hl
  go_enter Tryd.func22, Tryd.ntmps22
  go_wp2_with fail
  refine (clone_any l hn A c _ ((HL.out.below ((Below.refl _ _).alloc (Nat.le_refl _) _)).below ((Below.refl _ _).alloc (Nat.le_refl _) _))).mono ?_
  rintro e w2 ⟨v2, rfl, ho2, hb2⟩
  obtain ⟨A2, c2, rfl, _⟩ := ho2.reads
  have HO := Lib.hid ho2
  have HB2 := Lib.hid (below_alloc (below_alloc hb2))
  have HC : Hid (CapT w.heap.size (w.heap.size + 1) a b w2) := by
    have h1 : Below (w.alloc (.cells #[.int .i64 a] 2)).heap.size (w.alloc (.cells #[.int .i64 a] 2)) w2 := below_alloc hb2
    refine ⟨below_cell h1 (by rw [cell_of_row _ _ _ _ _ _ (heap_alloc_new w _)]; rfl), ?_⟩
    have e : (w.alloc (.cells #[.int .i64 a] 2)).heap.size = w.heap.size + 1 := by simp
    have h2 := below_cell hb2 (b := (w.alloc (.cells #[.int .i64 a] 2)).heap.size) (o := 0) (v := .int .i64 b) (by rw [cell_of_row _ _ _ _ _ _ (heap_alloc_new _ _)]; rfl)
    rwa [e] at h2
  have HNE : Hid (∀ g, A2.map (·.block) = some g → g ≠ w.heap.size ∧ g ≠ w.heap.size + 1) := fun g hg => by
    have := ho2.row.2 g hg
    simp at this; omega
  clear ho2 hb2
  go_wp2_with fail
  refine (deleteT_any w.heap.size (w.heap.size + 1) a b l hn A2 c2 HO.out.cap.1 HO.out.cap.2 _ HO.out.row.1 HC.out HNE.out).mono ?_
  rintro e w3 ⟨v3, rfl, hp3, hg3⟩
  have HP := Lib.hid hp3
  have HG := Lib.hid hg3
  clear hp3 hg3
  go_wp2
  go_ret
  exact ⟨_, rfl, HP.out, HB2.out.grown HG.out HB2.out.size (fun g hg => by have := HO.out.row.2 g hg; simp at this; omega)⟩
end Go.Proofs.YtcmnmcholfellaaDoor
