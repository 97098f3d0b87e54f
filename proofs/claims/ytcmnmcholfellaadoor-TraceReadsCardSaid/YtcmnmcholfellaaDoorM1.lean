/-
  Insertion sort of a part of a list: plain Lean.
-/
import Derived.Test.YtcmnmcholfellaaDoorM0
namespace Go.Proofs.YtcmnmcholfellaaDoor

/-- The time at a place. -/
def tm (l : List Pt) (k : Nat) : Int := (l.getD k default).at_
theorem tm_eq {l : List Pt} {k : Nat} (h : k < l.length) : tm l k = l[k].at_ := by simp [tm, List.getD, List.getElem?_eq_getElem h]

/-- Two neighbours change places. -/
def swp (l : List Pt) (j : Nat) (h : j + 1 < l.length) : List Pt := (l.set (j + 1) l[j]).set j l[j + 1]

theorem tm_set {l : List Pt} {i : Nat} (h : i < l.length) (p : Pt) (k : Nat) : tm (l.set i p) k = if k = i then p.at_ else tm l k := by
  unfold tm
  simp only [List.getD]
  by_cases e : k = i
  · subst e; rw [List.getElem?_set_self h, if_pos rfl]; rfl
  · rw [List.getElem?_set_ne (fun x => e x.symm), if_neg e]

theorem tm_swp {l : List Pt} {j : Nat} (h : j + 1 < l.length) (k : Nat) : tm (swp l j h) k = if k = j then tm l (j + 1) else if k = j + 1 then tm l j else tm l k := by
  unfold swp
  rw [tm_set (by simp; omega), tm_set h, tm_eq h, tm_eq (show j < l.length by omega)]

/-- Sorted from x on to before y. -/
def SortedOn (l : List Pt) (a b : Nat) : Prop := ∀ x y, a ≤ x → x < y → y < b → tm l x ≤ tm l y

/-- A list with the same points of each time, turned between a and b alone. -/
structure Ins (l0 : List Pt) (a b : Nat) (l : List Pt) : Prop where
  len : l.length = l0.length
  alike : Alike l l0
  pre : ∀ k, k < a → l[k]? = l0[k]?
  post : ∀ k, b ≤ k → l[k]? = l0[k]?

theorem Ins.refl (l : List Pt) (a b : Nat) : Ins l a b l := ⟨rfl, Alike.refl l, fun _ _ => rfl, fun _ _ => rfl⟩
theorem Ins.trans {l m n : List Pt} {a b : Nat} (h : Ins l a b m) (k : Ins m a b n) : Ins l a b n :=
  ⟨k.len.trans h.len, k.alike.trans h.alike, fun i hi => (k.pre i hi).trans (h.pre i hi), fun i hi => (k.post i hi).trans (h.post i hi)⟩
theorem Ins.wider {l m : List Pt} {a b a' b' : Nat} (h : Ins l a b m) (ha : a' ≤ a) (hb : b ≤ b') : Ins l a' b' m :=
  ⟨h.len, h.alike, fun i hi => h.pre i (by omega), fun i hi => h.post i (by omega)⟩

/-- The state of the inner loop: sorted but for the point at j, which is not greater than those behind it. -/
structure Inner (l0 : List Pt) (a b i j : Nat) (l : List Pt) : Prop where
  ins : Ins l0 a b l
  lo : a ≤ j
  hi : j ≤ i
  rest : ∀ x y, a ≤ x → x < y → y ≤ i → x ≠ j → y ≠ j → tm l x ≤ tm l y
  up : ∀ y, j < y → y ≤ i → tm l j ≤ tm l y

theorem inner_start {l0 l : List Pt} {a b i : Nat} (h : Ins l0 a b l) (ha : a ≤ i) (hs : SortedOn l a i) : Inner l0 a b i i l :=
  ⟨h, ha, Nat.le_refl _, fun x y h1 h2 h3 h4 h5 => hs x y h1 h2 (by omega), fun y h1 h2 => by omega⟩

theorem inner_step {l0 l : List Pt} {a b i j : Nat} (h : Inner l0 a b i (j + 1) l) (ha : a < j + 1) (hi : i < b) (hj : j + 1 < l.length) (hlt : tm l (j + 1) < tm l j) : Inner l0 a b i j (swp l j hj) := by
  have hne : l[j + 1].at_ ≠ l[j].at_ := by rw [tm_eq hj, tm_eq (show j < l.length by omega)] at hlt; omega
  have h1 := h.hi
  refine ⟨⟨by simp [swp, h.ins.len], (alike_swap hj hne).trans h.ins.alike, fun k hk => ?_, fun k hk => ?_⟩, by omega, by omega, fun x y h1 h2 h3 h4 h5 => ?_, fun y h1 h2 => ?_⟩
  · unfold swp; rw [List.getElem?_set_ne (by omega), List.getElem?_set_ne (by omega)]; exact h.ins.pre k hk
  · unfold swp; rw [List.getElem?_set_ne (by omega), List.getElem?_set_ne (by omega)]; exact h.ins.post k hk
  · rw [tm_swp, tm_swp, if_neg h4, if_neg h5]
    by_cases e1 : x = j + 1
    · rw [if_pos e1]
      by_cases e2 : y = j + 1
      · omega
      · rw [if_neg e2]; exact h.rest j y (by omega) (by omega) h3 (by omega) e2
    · rw [if_neg e1]
      by_cases e2 : y = j + 1
      · rw [if_pos e2]
        exact h.rest x j h1 (by omega) (by omega) e1 (by omega)
      · rw [if_neg e2]; exact h.rest x y h1 h2 h3 e1 e2
  · rw [tm_swp, tm_swp, if_pos rfl, if_neg (by omega)]
    by_cases e2 : y = j + 1
    · rw [if_pos e2]; omega
    · rw [if_neg e2]; exact h.up y (by omega) h2

theorem inner_end {l0 l : List Pt} {a b i j : Nat} (h : Inner l0 a b i j l) (he : j = a ∨ tm l (j - 1) ≤ tm l j) : SortedOn l a (i + 1) := by
  intro x y h1 h2 h3
  have h4 := h.lo
  by_cases ey : y = j
  · subst ey
    rcases he with e | e
    · omega
    · by_cases ex : x = y - 1
      · rw [ex]; exact e
      · exact Int.le_trans (h.rest x (y - 1) h1 (by omega) (by have := h.hi; omega) (by omega) (by omega)) e
  · by_cases ex : x = j
    · subst ex; exact h.up y h2 (by omega)
    · exact h.rest x y h1 h2 (by omega) ex ey
end Go.Proofs.YtcmnmcholfellaaDoor
