/-
  Deleting points from a list in place: plain Lean.
-/
import Derived.Test.YtcmnmcholfellaaDoorM0
namespace Go.Proofs.YtcmnmcholfellaaDoor

/-- The state of the loop of slices.DeleteFunc: the first i points are those kept of the first j; from j on nothing has turned. -/
structure Del (del : Pt → Bool) (l : List Pt) (i j : Nat) (m : List Pt) : Prop where
  len : m.length = l.length
  done : m.take i = (l.take j).filter fun p => !del p
  rest : ∀ k, j ≤ k → m[k]? = l[k]?
  lt : i < j
  le : j ≤ l.length

theorem filter_all {del : Pt → Bool} {l : List Pt} (h : ∀ p ∈ l, del p = false) : (l.filter fun p => !del p) = l := by
  rw [List.filter_eq_self]
  intro p hp
  rw [h p hp]; rfl

theorem del_start {del : Pt → Bool} {l : List Pt} {i : Nat} (hi : i < l.length) (hd : del l[i] = true) (hb : ∀ j (hj : j < i), del (l[j]'(by omega)) = false) : Del del l i (i + 1) l := by
  refine ⟨rfl, ?_, fun _ _ => rfl, by omega, by omega⟩
  rw [List.take_succ_eq_append_getElem hi, List.filter_append, filter_all]
  · simp [hd]
  · intro p hp
    obtain ⟨j, hj, rfl⟩ := List.getElem_of_mem hp
    rw [List.getElem_take]
    exact hb j (by simp at hj; omega)

theorem del_at {del : Pt → Bool} {l m : List Pt} {i j : Nat} (h : Del del l i j m) (hj : j < l.length) : m[j]'(by rw [h.len]; exact hj) = l[j] := by
  have := h.rest j (Nat.le_refl _)
  rw [List.getElem?_eq_getElem hj, List.getElem?_eq_getElem (by rw [h.len]; exact hj)] at this
  exact Option.some.inj this

theorem del_drop {del : Pt → Bool} {l m : List Pt} {i j : Nat} (h : Del del l i j m) (hj : j < l.length) (hd : del l[j] = true) : Del del l i (j + 1) m := by
  refine ⟨h.len, ?_, fun k hk => h.rest k (by omega), by have := h.lt; omega, by omega⟩
  rw [List.take_succ_eq_append_getElem hj, List.filter_append, h.done]
  simp [hd]

theorem del_keep {del : Pt → Bool} {l m : List Pt} {i j : Nat} (h : Del del l i j m) (hj : j < l.length) (hd : del l[j] = false) : Del del l (i + 1) (j + 1) (m.set i l[j]) := by
  have hlt := h.lt
  have hlen := h.len
  refine ⟨by simp [hlen], ?_, fun k hk => by rw [List.getElem?_set_ne (by omega)]; exact h.rest k (by omega), by omega, by omega⟩
  have hi : i < (m.set i l[j]).length := by simp; omega
  rw [List.take_succ_eq_append_getElem hi, List.take_succ_eq_append_getElem hj, List.filter_append, ← h.done, List.take_set_of_le (Nat.le_refl _)]
  simp [hd]

theorem del_end {del : Pt → Bool} {l m : List Pt} {i : Nat} (h : Del del l i l.length m) : m.take i = l.filter fun p => !del p := by
  rw [h.done, List.take_length]

/-- Where the first point is that goes; -1 if all stay. -/
def FirstDel (del : Pt → Bool) (l : List Pt) (n : Int) : Prop :=
  (n = -1 ∧ ∀ p ∈ l, del p = false) ∨ ∃ (i : Nat) (hi : i < l.length), n = i ∧ del l[i] = true ∧ ∀ j (hj : j < i), del (l[j]'(by omega)) = false
end Go.Proofs.YtcmnmcholfellaaDoor
