/-
  A row of points that is written in place.
-/
import Derived.Test.YtcmnmcholfellaaDoorBase
import Derived.Deep.MidRow
import Derived.Maps.AppendAt
namespace Go.Proofs.YtcmnmcholfellaaDoor
open Go.RowKit

theorem ptIn_range {w : World} {b o : Nat} {p : Pt} : PtIn w b o p ↔ w.rangeAt b o p.cs := by
  constructor
  · intro h j v hj
    have hl : j < 11 := by
      have := (List.getElem?_eq_some_iff.1 hj).1
      rwa [Pt.cs_length] at this
    have hh : j = 0 ∨ j = 1 ∨ j = 2 ∨ j = 3 ∨ j = 4 ∨ j = 5 ∨ j = 6 ∨ j = 7 ∨ j = 8 ∨ j = 9 ∨ j = 10 := by omega
    rcases hh with rfl | rfl | rfl | rfl | rfl | rfl | rfl | rfl | rfl | rfl | rfl <;> simp [Pt.cs] at hj <;> subst hj
    · exact h.c0
    · exact h.c1
    · exact h.c2
    · exact h.c3
    · exact h.c4
    · exact h.c5
    · exact h.c6
    · exact h.c7
    · exact h.c8
    · exact h.c9
    · exact h.c10
  · intro h
    exact ⟨h 0 _ rfl, h 1 _ rfl, h 2 _ rfl, h 3 _ rfl, h 4 _ rfl, h 5 _ rfl, h 6 _ rfl, h 7 _ rfl, h 8 _ rfl, h 9 _ rfl, h 10 _ rfl⟩

/-- Points that lie in a block and may be written. -/
structure RowR (w : World) (g o : Nat) (l : List Pt) : Prop where
  pts : PtsIn w g o l
  there : w.there g o (l.length * 11)

theorem RowR.at_ {w : World} {g o : Nat} {l : List Pt} (h : RowR w g o l) {k : Nat} (hk : k < l.length) : PtIn w g (o + k * 11) l[k] :=
  h.pts k _ (List.getElem?_eq_getElem hk)

theorem RowR.keep {w w' : World} {g o : Nat} {l : List Pt} (h : RowR w g o l) (hk : w'.heap[g]? = w.heap[g]?) : RowR w' g o l :=
  ⟨h.pts.keep hk, fun j hj => by
    have e1 := World.cell?_of_block (w := w) (w' := w') (a := ⟨g, o + j, none⟩) hk
    have e2 := World.frozen?_of_block (w := w) (w' := w') (a := ⟨g, o + j, none⟩) hk
    rw [e1, e2]; exact h.there j hj⟩

theorem RowR.lt {w : World} {g o : Nat} {l : List Pt} (h : RowR w g o l) (hn : 0 < l.length) : g < w.heap.size := (h.at_ hn).lt

theorem RowR.below {w w' : World} {g o : Nat} {l : List Pt} (h : RowR w g o l) (hn : 0 < l.length) (hb : Below w.heap.size w w') : RowR w' g o l :=
  h.keep (hb.block g (h.lt hn))

theorem RowR.there_at {w : World} {g o : Nat} {l : List Pt} (h : RowR w g o l) {k : Nat} (hk : k < l.length) : w.there g (o + k * 11) 11 := fun j hj => by
  have := h.there (k * 11 + j) (by omega)
  rwa [← Nat.add_assoc] at this

/-- A point stored into a row. -/
theorem RowR.set {w : World} {g o : Nat} {l : List Pt} (h : RowR w g o l) {k : Nat} (hk : k < l.length) (p : Pt) : RowR (w.setCells g (o + k * 11) p.cs) g o (l.set k p) := by
  refine ⟨fun j q hq => ?_, ?_⟩
  · rw [ptIn_range]
    by_cases e : j = k
    · subst e
      rw [List.getElem?_set_self hk] at hq
      injection hq with hq; subst hq
      exact World.rangeAt_setCells_same w g _ _ (h.there_at hk)
    · rw [List.getElem?_set_ne (Ne.symm e)] at hq
      refine World.rangeAt_setCells_apart (ptIn_range.1 (h.pts j q hq)) g _ _ (Or.inr ?_)
      rw [Pt.cs_length, Pt.cs_length]
      omega
  · rw [List.length_set]; exact World.there_setCells h.there _ _ _

theorem setCells_heap (g : Nat) : ∀ (vs : List Value) (o : Nat) (w : World) (k : Nat), k ≠ g → (w.setCells g o vs).heap[k]? = w.heap[k]?
  | [], _, _, _, _ => rfl
  | v :: r, o, w, k, h => by
    rw [World.setCells, setCells_heap g r (o + 1) _ k h]
    exact Below.heap_setCell _ _ _ _ h
theorem setCells_size (g : Nat) : ∀ (vs : List Value) (o : Nat) (w : World), (w.setCells g o vs).heap.size = w.heap.size
  | [], _, _ => rfl
  | v :: r, o, w => by rw [World.setCells, setCells_size g r]; simp [World.setCell]
theorem setCells_rest (g : Nat) : ∀ (vs : List Value) (o : Nat) (w : World), (w.setCells g o vs).os = w.os ∧ (w.setCells g o vs).tape = w.tape ∧ (w.setCells g o vs).output = w.output
  | [], _, _ => ⟨rfl, rfl, rfl⟩
  | v :: r, o, w => by rw [World.setCells]; exact setCells_rest g r _ _

theorem grown_setCells (w : World) (g o : Nat) (vs : List Value) : w.grownBy (w.setCells g o vs) (some g) :=
  ⟨(setCells_rest g vs o w).1, (setCells_rest g vs o w).2.1, (setCells_rest g vs o w).2.2, by rw [setCells_size]; exact Nat.le_refl _, fun k _ hk => setCells_heap g vs o w k (fun e => hk (by rw [e]))⟩

theorem grown_below {w w' : World} (h : Below w.heap.size w w') (row : Option Nat) : w.grownBy w' row :=
  ⟨h.os, h.tape, h.output, h.size, fun k hk _ => h.block k hk⟩

theorem grown_refl (w : World) (row : Option Nat) : w.grownBy w row := ⟨rfl, rfl, rfl, Nat.le_refl _, fun _ _ _ => rfl⟩
theorem grown_drew {w w' : World} {row : Option Nat} (h : w.grownBy w' row) : w.grownBy w'.drew row := ⟨h.os, h.tape, h.output, h.size, h.block⟩
theorem grown_undrew {w w' : World} {row : Option Nat} (h : w.drew.grownBy w' row) : w.grownBy w' row := ⟨h.os, h.tape, h.output, h.size, h.block⟩

/-- Out of a row of the call's own: what the call leaves is growth. -/
theorem below_of_grown {w w1 w2 : World} {g : Nat} (h1 : Below w.heap.size w w1) (hg : w.heap.size ≤ g) (h2 : w1.grownBy w2 (some g)) : Below w.heap.size w w2 :=
  h1.grown h2 h1.size (fun k hk => by injection hk with hk; omega)

theorem pt_info : (Tryd.prog.info? 23).map (·.size) = some 11 := by kernel_rfl
theorem pt_one (p : Pt) : p.cs.toArray.all (·.oneCell') = true := by simp [Pt.cs, Value.oneCell']
end Go.Proofs.YtcmnmcholfellaaDoor
