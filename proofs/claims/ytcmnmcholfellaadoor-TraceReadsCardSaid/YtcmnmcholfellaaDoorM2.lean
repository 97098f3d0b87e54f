/-
  Merging two traces: plain Lean.
-/
import Derived.Test.YtcmnmcholfellaaDoorM1
import Derived.Test.YtcmnmcholfellaaDoorV0
namespace Go.Proofs.YtcmnmcholfellaaDoor

/-- Two lists merged by time, points of the first one first. -/
def mrg : List Pt → List Pt → List Pt
  | [], b => b
  | p :: a, [] => p :: a
  | p :: a, q :: b => if p.at_ ≤ q.at_ then p :: mrg a (q :: b) else q :: mrg (p :: a) b
termination_by a b => a.length + b.length

theorem mrg_mem {x : Pt} : ∀ {a b : List Pt}, x ∈ mrg a b → x ∈ a ∨ x ∈ b
  | [], b, h => by rw [mrg] at h; exact .inr h
  | p :: a, [], h => by rw [mrg] at h; exact .inl h
  | p :: a, q :: b, h => by
    rw [mrg] at h
    split at h
    · rcases List.mem_cons.1 h with e | e
      · subst e; exact .inl (by simp)
      · rcases mrg_mem e with e | e
        · exact .inl (by simp [e])
        · exact .inr e
    · rcases List.mem_cons.1 h with e | e
      · subst e; exact .inr (by simp)
      · rcases mrg_mem e with e | e
        · exact .inl e
        · exact .inr (by simp [e])
termination_by a b => a.length + b.length

theorem mrg_length : ∀ (a b : List Pt), (mrg a b).length = a.length + b.length
  | [], b => by rw [mrg]; simp
  | p :: a, [] => by rw [mrg]; simp
  | p :: a, q :: b => by
    rw [mrg]
    split
    · simp [mrg_length a (q :: b)]; omega
    · simp [mrg_length (p :: a) b]; omega
termination_by a b => a.length + b.length

theorem mrg_asc : ∀ {a b : List Pt}, Asc a → Asc b → Asc (mrg a b)
  | [], b, _, hb => by rw [mrg]; exact hb
  | p :: a, [], ha, _ => by rw [mrg]; exact ha
  | p :: a, q :: b, ha, hb => by
    have ha' := List.pairwise_cons.1 ha
    have hb' := List.pairwise_cons.1 hb
    rw [mrg]
    split
    · rename_i h
      refine List.pairwise_cons.2 ⟨fun x hx => ?_, mrg_asc ha'.2 hb⟩
      rcases mrg_mem hx with e | e
      · exact ha'.1 x e
      · rcases List.mem_cons.1 e with e | e
        · subst e; exact h
        · have := hb'.1 x e; omega
    · rename_i h
      refine List.pairwise_cons.2 ⟨fun x hx => ?_, mrg_asc ha hb'.2⟩
      rcases mrg_mem hx with e | e
      · rcases List.mem_cons.1 e with e | e
        · subst e; omega
        · have := ha'.1 x e; omega
      · exact hb'.1 x e
termination_by a b => a.length + b.length

theorem keyed_none {t : Int} {l : List Pt} (h : ∀ x ∈ l, t < x.at_) : keyed t l = [] := by
  unfold keyed
  rw [List.filter_eq_nil_iff]
  intro x hx
  have := h x hx
  simp; omega

theorem mrg_alike : ∀ {a b : List Pt}, Asc a → Asc b → Alike (mrg a b) (a ++ b)
  | [], b, _, _ => by rw [mrg]; exact Alike.refl _
  | p :: a, [], _, _ => by rw [mrg, List.append_nil]; exact Alike.refl _
  | p :: a, q :: b, ha, hb => by
    have ha' := List.pairwise_cons.1 ha
    have hb' := List.pairwise_cons.1 hb
    intro t
    rw [mrg]
    split
    · have ih := mrg_alike ha'.2 hb t
      rw [keyed_cons, ih, List.cons_append, keyed_cons]
    · rename_i h
      have ih := mrg_alike ha hb'.2 t
      rw [keyed_cons, ih, keyed_append, keyed_append, keyed_cons t q b]
      by_cases e : q.at_ = t
      · rw [if_pos e, if_pos e]
        have hn : keyed t (p :: a) = [] := keyed_none fun x hx => by
          rcases List.mem_cons.1 hx with e2 | e2
          · subst e2; omega
          · have := ha'.1 x e2; omega
        rw [hn]; rfl
      · rw [if_neg e, if_neg e]
termination_by a b => a.length + b.length

theorem asc_of_okL : ∀ {l : List Pt}, okL l = true → Asc l
  | [], _ => List.Pairwise.nil
  | [p], _ => List.pairwise_singleton _ _
  | p :: q :: r, h => by
    simp only [okL, Bool.and_eq_true, decide_eq_true_eq] at h
    have ih := asc_of_okL h.2
    have ih' := List.pairwise_cons.1 ih
    refine List.pairwise_cons.2 ⟨fun x hx => ?_, ih⟩
    rcases List.mem_cons.1 hx with e | e
    · subst e; exact h.1.2
    · have := ih'.1 x e; omega

theorem okL_of_valid {l : List Pt} (h : valid l = 0) : l.length ≤ 10000 ∧ okL l = true := by
  unfold valid at h
  split at h
  · cases h
  · split at h
    · exact ⟨by omega, by assumption⟩
    · cases h

theorem asc_of_sorted {l : List Pt} (h : SortedOn l 0 l.length) : Asc l := by
  unfold Asc
  rw [List.pairwise_iff_getElem]
  intro i j hi hj hij
  have := h i j (by omega) hij hj
  rwa [tm_eq hi, tm_eq hj] at this

/-- The sorted list of two traces is their merge. -/
theorem sorted_is_mrg {a b l : List Pt} (ha : Asc a) (hb : Asc b) (hal : Alike l (a ++ b)) (hs : SortedOn l 0 l.length) : l = mrg a b :=
  asc_unique (asc_of_sorted hs) (mrg_asc ha hb) (hal.trans (mrg_alike ha hb).symm)

/-- What Merge returns. -/
def mergeR (a b : List Pt) : List Pt × Int :=
  if valid a ≠ 0 then ([], valid a) else if valid b ≠ 0 then ([], valid b) else if 10000 < a.length + b.length then ([], 3) else (mrg a b, 0)
end Go.Proofs.YtcmnmcholfellaaDoor
