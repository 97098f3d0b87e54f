/-
  What it means that a list of points is a valid trace: plain Lean.
-/
import Derived.Test.YtcmnmcholfellaaDoorW3
namespace Go.Proofs.YtcmnmcholfellaaDoor

/-- All points are valid and their times do not descend. -/
def okL : List Pt → Bool
  | [] => true
  | [p] => okP p
  | p :: q :: r => okP p && decide (p.at_ ≤ q.at_) && okL (q :: r)

/-- The point at j is valid and not earlier than the one before. -/
def GoodAt (l : List Pt) (j : Nat) : Prop := ∀ p, l[j]? = some p → okP p = true ∧ ∀ q, j ≠ 0 → l[j - 1]? = some q → q.at_ ≤ p.at_

theorem okL_iff : ∀ l : List Pt, okL l = true ↔ ∀ j, GoodAt l j
  | [] => by simp [okL, GoodAt]
  | [p] => by
    constructor
    · intro h j x hx
      cases j with
      | zero => simp at hx; subst hx; exact ⟨h, fun _ h0 => absurd rfl h0⟩
      | succ j => simp at hx
    · intro h
      exact (h 0 p rfl).1
  | p :: q :: r => by
    have ih := okL_iff (q :: r)
    simp only [okL, Bool.and_eq_true, decide_eq_true_eq, ih]
    constructor
    · rintro ⟨⟨hp, hpq⟩, hr⟩ j x hx
      match j with
      | 0 => simp at hx; subst hx; exact ⟨hp, fun _ h0 => absurd rfl h0⟩
      | 1 =>
        simp at hx; subst hx
        refine ⟨(hr 0 q rfl).1, fun y _ hy => ?_⟩
        simp at hy; subst hy; exact hpq
      | j + 2 =>
        obtain ⟨h1, h2⟩ := hr (j + 1) x (by simpa using hx)
        refine ⟨h1, fun y _ hy => h2 y (by omega) (by simpa using hy)⟩
    · intro h
      refine ⟨⟨(h 0 p rfl).1, (h 1 q rfl).2 p (by omega) rfl⟩, fun j x hx => ?_⟩
      obtain ⟨h1, h2⟩ := h (j + 1) x (by simpa using hx)
      refine ⟨h1, fun y hj hy => h2 y (by omega) ?_⟩
      obtain ⟨j', rfl⟩ : ∃ j', j = j' + 1 := ⟨j - 1, by omega⟩
      simpa using hy

/-- The error of a trace: 0, 1 or 3. -/
def valid (l : List Pt) : Int := if 10000 < l.length then 3 else if okL l then 0 else 1

theorem valid_big {l : List Pt} (h : 10000 < l.length) : valid l = 3 := by simp [valid, h]
theorem valid_ok {l : List Pt} (h : ¬ 10000 < l.length) (hg : ∀ j, j < l.length → GoodAt l j) : valid l = 0 := by
  have : okL l = true := (okL_iff l).2 fun j => by
    by_cases hj : j < l.length
    · exact hg j hj
    · intro p hp; rw [List.getElem?_eq_none (by omega)] at hp; cases hp
  simp [valid, h, this]
theorem valid_bad {l : List Pt} (h : ¬ 10000 < l.length) {j : Nat} (hg : ¬ GoodAt l j) : valid l = 1 := by
  have : okL l = false := by
    cases ho : okL l
    · rfl
    · exact absurd ((okL_iff l).1 ho j) hg
  simp [valid, h, this]

theorem goodAt_zero {l : List Pt} (h : 0 < l.length) (hp : okP l[0] = true) : GoodAt l 0 := fun p e => by
  rw [List.getElem?_eq_getElem h] at e; injection e with e; subst e
  exact ⟨hp, fun _ h0 => absurd rfl h0⟩
theorem goodAt_pos {l : List Pt} {k : Nat} (h : k < l.length) (hp : okP l[k] = true) (hle : l[k - 1].at_ ≤ l[k].at_) : GoodAt l k := fun p e => by
  rw [List.getElem?_eq_getElem h] at e; injection e with e; subst e
  refine ⟨hp, fun q _ hq => ?_⟩
  rw [List.getElem?_eq_getElem (by omega)] at hq; injection hq with hq; subst hq; exact hle
theorem not_goodAt {l : List Pt} {k : Nat} (h : k < l.length) (hp : okP l[k] = false) : ¬ GoodAt l k := fun g => by
  have := (g l[k] (List.getElem?_eq_getElem h)).1
  rw [hp] at this; cases this
theorem not_goodAt_pos {l : List Pt} {k : Nat} (h : k < l.length) (h0 : 0 < k) (hle : l[k].at_ < l[k - 1].at_) : ¬ GoodAt l k := fun g => by
  have := (g l[k] (List.getElem?_eq_getElem h)).2 l[k - 1] (by omega) (List.getElem?_eq_getElem (by omega))
  omega
end Go.Proofs.YtcmnmcholfellaaDoor
