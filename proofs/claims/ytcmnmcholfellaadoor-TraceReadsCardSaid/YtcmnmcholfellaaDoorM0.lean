/-
  Stable sorting by time: plain Lean.
-/
import Derived.Test.YtcmnmcholfellaaDoorBase
namespace Go.Proofs.YtcmnmcholfellaaDoor

instance : Inhabited Pt := ⟨⟨0, 0, 0, 0, 0, 0, 0, 0, 0, 0, 0⟩⟩

/-- The points of one time, in order. -/
def keyed (t : Int) (l : List Pt) : List Pt := l.filter fun p => decide (p.at_ = t)

theorem keyed_append (t : Int) (l m : List Pt) : keyed t (l ++ m) = keyed t l ++ keyed t m := by simp [keyed]
theorem keyed_cons (t : Int) (p : Pt) (l : List Pt) : keyed t (p :: l) = if p.at_ = t then p :: keyed t l else keyed t l := by
  by_cases h : p.at_ = t <;> simp [keyed, h]
theorem mem_keyed {t : Int} {p : Pt} {l : List Pt} : p ∈ keyed t l ↔ p ∈ l ∧ p.at_ = t := by simp [keyed]

/-- Times do not descend. -/
def Asc (l : List Pt) : Prop := l.Pairwise fun p q => p.at_ ≤ q.at_

/-- The same points of each time, in the same order. -/
def Alike (l m : List Pt) : Prop := ∀ t, keyed t l = keyed t m

theorem Alike.refl (l : List Pt) : Alike l l := fun _ => rfl
theorem Alike.trans {l m n : List Pt} (h : Alike l m) (k : Alike m n) : Alike l n := fun t => (h t).trans (k t)
theorem Alike.symm {l m : List Pt} (h : Alike l m) : Alike m l := fun t => (h t).symm
theorem Alike.append {l m l' m' : List Pt} (h : Alike l l') (k : Alike m m') : Alike (l ++ m) (l' ++ m') := fun t => by
  rw [keyed_append, keyed_append, h t, k t]

/-- A list that ascends is determined by its points of each time. -/
theorem asc_unique : ∀ {l m : List Pt}, Asc l → Asc m → Alike l m → l = m
  | [], [], _, _, _ => rfl
  | [], q :: m, _, _, h => by
    have := h q.at_
    rw [keyed_cons, if_pos rfl] at this
    simp [keyed] at this
  | p :: l, [], _, _, h => by
    have := h p.at_
    rw [keyed_cons, if_pos rfl] at this
    simp [keyed] at this
  | p :: l, q :: m, hl, hm, h => by
    have hl' := List.pairwise_cons.1 hl
    have hm' := List.pairwise_cons.1 hm
    have hpq : p.at_ = q.at_ := by
      rcases Int.lt_trichotomy p.at_ q.at_ with hlt | heq | hgt
      · exfalso
        have h1 := h p.at_
        rw [keyed_cons, if_pos rfl] at h1
        have h2 : p ∈ keyed p.at_ (q :: m) := by rw [← h1]; simp
        have h3 := mem_keyed.1 h2
        rcases List.mem_cons.1 h3.1 with e | e
        · rw [e] at hlt; omega
        · have := hm'.1 p e; omega
      · exact heq
      · exfalso
        have h1 := h q.at_
        rw [keyed_cons q.at_ q m, if_pos rfl] at h1
        have h2 : q ∈ keyed q.at_ (p :: l) := by rw [h1]; simp
        have h3 := mem_keyed.1 h2
        rcases List.mem_cons.1 h3.1 with e | e
        · rw [e] at hgt; omega
        · have := hl'.1 q e; omega
    have h0 := h p.at_
    rw [keyed_cons, if_pos rfl, keyed_cons, if_pos hpq.symm] at h0
    injection h0 with hp _
    subst hp
    have ht : Alike l m := fun t => by
      have := h t
      rw [keyed_cons, keyed_cons] at this
      split at this
      · injection this
      · exact this
    rw [asc_unique hl'.2 hm'.2 ht]

/-- Two neighbours of different times may change places. -/
theorem alike_swap {l : List Pt} {j : Nat} (h : j + 1 < l.length) (hne : l[j + 1].at_ ≠ l[j].at_) : Alike ((l.set (j + 1) l[j]).set j l[j + 1]) l := by
  have e : l = l.take j ++ l[j] :: l[j + 1] :: l.drop (j + 2) := by
    rw [← List.drop_eq_getElem_cons h, ← List.drop_eq_getElem_cons (by omega), List.take_append_drop]
  have e2 : (l.set (j + 1) l[j]).set j l[j + 1] = l.take j ++ l[j + 1] :: l[j] :: l.drop (j + 2) := by
    apply List.ext_getElem?
    intro k
    have hlen : (l.take j).length = j := by simp; omega
    rcases Nat.lt_or_ge k j with hk | hk
    · rw [List.getElem?_set_ne (by omega), List.getElem?_set_ne (by omega), List.getElem?_append_left (by omega), List.getElem?_take_of_lt hk]
    · rw [List.getElem?_append_right (by omega), hlen]
      by_cases h0 : k = j
      · subst h0; rw [List.getElem?_set_self (by simp; omega)]; simp
      · by_cases h1 : k = j + 1
        · subst h1
          rw [List.getElem?_set_ne (by omega), List.getElem?_set_self h]; simp
        · rw [List.getElem?_set_ne (by omega), List.getElem?_set_ne (by omega)]
          obtain ⟨d, rfl⟩ : ∃ d, k = j + 2 + d := ⟨k - (j + 2), by omega⟩
          rw [show j + 2 + d - j = d + 2 from by omega]
          simp [List.getElem?_drop]
  intro t
  rw [e2]
  conv => rhs; rw [e]
  rw [keyed_append, keyed_append, keyed_cons, keyed_cons, keyed_cons t l[j], keyed_cons t l[j + 1]]
  by_cases h1 : l[j + 1].at_ = t
  · have h2 : ¬ l[j].at_ = t := fun e => hne (by rw [h1, e])
    simp [h1, h2]
  · simp [h1]
end Go.Proofs.YtcmnmcholfellaaDoor
