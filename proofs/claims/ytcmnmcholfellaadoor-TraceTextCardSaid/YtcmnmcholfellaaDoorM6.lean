/-
  The parts of a trace before and from a time on; merging is associative: plain Lean.
-/
import Derived.Test.YtcmnmcholfellaaDoorM2
import Derived.Test.YtcmnmcholfellaaDoorF1
namespace Go.Proofs.YtcmnmcholfellaaDoor

theorem okL_of : ∀ {l : List Pt}, (∀ p ∈ l, okP p = true) → Asc l → okL l = true
  | [], _, _ => rfl
  | [p], h, _ => h p (List.mem_cons_self ..)
  | p :: q :: r, h, ha => by
    have ha' := List.pairwise_cons.1 ha
    simp only [okL, Bool.and_eq_true, decide_eq_true_eq]
    exact ⟨⟨h p (List.mem_cons_self ..), ha'.1 q (List.mem_cons_self ..)⟩, okL_of (fun x hx => h x (List.mem_cons_of_mem _ hx)) ha'.2⟩

theorem okP_of_okL : ∀ {l : List Pt}, okL l = true → ∀ p ∈ l, okP p = true
  | [], _, p, hp => by cases hp
  | [q], h, p, hp => by
    rcases List.mem_cons.1 hp with e | e
    · subst e; exact h
    · cases e
  | q :: r :: s, h, p, hp => by
    simp only [okL, Bool.and_eq_true, decide_eq_true_eq] at h
    rcases List.mem_cons.1 hp with e | e
    · subst e; exact h.1.1
    · exact okP_of_okL h.2 p e

/-- A valid trace of so many points. -/
structure Trc (n : Nat) (l : List Pt) : Prop where
  len : l.length ≤ n
  ok : ∀ p ∈ l, okP p = true
  asc : Asc l

theorem Trc.valid {n : Nat} {l : List Pt} (h : Trc n l) (hn : n ≤ 10000) : valid l = 0 := by
  have h1 := h.len
  unfold Go.Proofs.YtcmnmcholfellaaDoor.valid
  rw [if_neg (by omega), if_pos (okL_of h.ok h.asc)]

theorem trc_of_valid {n : Nat} {l : List Pt} (h : valid l = 0) (hn : l.length ≤ n) : Trc n l :=
  ⟨hn, okP_of_okL (okL_of_valid h).2, asc_of_okL (okL_of_valid h).2⟩

theorem Trc.filter {n : Nat} {l : List Pt} (h : Trc n l) (f : Pt → Bool) : Trc n (l.filter f) :=
  ⟨Nat.le_trans (List.length_filter_le _ _) h.len, fun p hp => h.ok p (List.mem_filter.1 hp).1, List.Pairwise.filter _ h.asc⟩

theorem Trc.mrg {n m : Nat} {a b : List Pt} (h : Trc n a) (k : Trc m b) : Trc (n + m) (mrg a b) :=
  ⟨by rw [mrg_length]; have := h.len; have := k.len; omega, fun p hp => (mrg_mem hp).elim (h.ok p) (k.ok p), mrg_asc h.asc k.asc⟩

theorem mergeR_ok {n m : Nat} {a b : List Pt} (h : Trc n a) (k : Trc m b) (hn : n + m ≤ 10000) : mergeR a b = (Go.Proofs.YtcmnmcholfellaaDoor.mrg a b, 0) := by
  have h1 := h.len
  have h2 := k.len
  unfold mergeR
  rw [if_neg (by rw [h.valid (by omega)]; simp), if_neg (by rw [k.valid (by omega)]; simp), if_neg (by omega)]

theorem mrg_assoc {a b c : List Pt} (ha : Asc a) (hb : Asc b) (hc : Asc c) : mrg (mrg a b) c = mrg a (mrg b c) :=
  asc_unique (mrg_asc (mrg_asc ha hb) hc) (mrg_asc ha (mrg_asc hb hc))
    ((((mrg_alike (mrg_asc ha hb) hc).trans ((mrg_alike ha hb).append (Alike.refl _))).trans (by rw [List.append_assoc]; exact Alike.refl _)).trans
      (((Alike.refl _).append (mrg_alike hb hc).symm).trans (mrg_alike ha (mrg_asc hb hc)).symm))

theorem keyed_filter (t : Int) (f : Pt → Bool) (l : List Pt) (b : Bool) (h : ∀ p ∈ l, p.at_ = t → f p = b) : keyed t (l.filter f) = if b then keyed t l else [] := by
  unfold keyed
  rw [List.filter_filter]
  cases b with
  | true =>
    rw [if_pos rfl]
    apply List.filter_congr
    intro p hp
    by_cases e : p.at_ = t
    · simp [e, h p hp e]
    · simp [e]
  | false =>
    simp only [Bool.false_eq_true, if_false]
    rw [List.filter_eq_nil_iff]
    intro p hp
    by_cases e : p.at_ = t
    · simp [e, h p hp e]
    · simp [e]

/-- The parts of a trace merge to the trace. -/
theorem parts_mrg {n : Nat} {a : List Pt} (h : Trc n a) (t last : Int) (hl : ∀ p ∈ a, 0 ≤ p.at_ ∧ p.at_ < last) :
    mrg (a.filter fun p => !delT 0 t p) (a.filter fun p => !delT t last p) = a := by
  have h1 := h.filter (fun p => !delT 0 t p)
  have h2 := h.filter (fun p => !delT t last p)
  refine asc_unique (mrg_asc h1.asc h2.asc) h.asc ((mrg_alike h1.asc h2.asc).trans ?_)
  intro s
  rw [keyed_append]
  by_cases hs : s < t
  · rw [keyed_filter s _ a true (fun p hp e => by have := hl p hp; simp [delT]; omega), keyed_filter s _ a false (fun p hp e => by have := hl p hp; simp [delT]; omega)]
    simp
  · rw [keyed_filter s _ a false (fun p hp e => by have := hl p hp; simp [delT]; omega), keyed_filter s _ a true (fun p hp e => by have := hl p hp; simp [delT]; omega)]
    simp
end Go.Proofs.YtcmnmcholfellaaDoor
