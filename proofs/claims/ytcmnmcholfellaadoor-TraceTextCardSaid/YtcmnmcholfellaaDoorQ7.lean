/-
  A trace read from its lines: plain Lean.
-/
import Derived.Test.YtcmnmcholfellaaDoorQ0
import Derived.Test.YtcmnmcholfellaaDoorM6
namespace Go.Proofs.YtcmnmcholfellaaDoor

open Classical in
/-- The point with a line, if there is one. -/
noncomputable def readP (s : List UInt8) : Option Pt := if h : ∃ q, IsLine s q then some h.choose else none

theorem readP_some {s : List UInt8} {p : Pt} (h : IsLine s p) : readP s = some p := by
  unfold readP
  have hx : ∃ q, IsLine s q := ⟨p, h⟩
  rw [dif_pos hx, line_unique hx.choose_spec h]
theorem readP_none {s : List UInt8} (h : ¬ ∃ q, IsLine s q) : readP s = none := by
  unfold readP; rw [dif_neg h]
theorem readP_is {s : List UInt8} {p : Pt} (h : readP s = some p) : IsLine s p := by
  unfold readP at h
  split at h
  · rename_i hx; injection h with h; rw [← h]; exact hx.choose_spec
  · cases h

theorem cut_lt {t : List UInt8} (h : (Lib.cut t [10]).2.2 = true) : (Lib.cut t [10]).2.1.length < t.length := by
  by_cases hm : (10 : UInt8) ∈ t
  · obtain ⟨a, b, rfl, ha⟩ := List.eq_append_cons_of_mem hm
    rw [cut_yes ha]; simp; omega
  · rw [cut_no hm] at h; cases h

/-- A point is earlier than the last one. -/
def late (out : List Pt) (p : Pt) : Bool := match out.getLast? with | some l => decide (p.at_ < l.at_) | none => false

/-- What reading the lines leaves: the points, the line of an error, the error. -/
noncomputable def parseL (t : List UInt8) (out : List Pt) : List Pt × Int × Int :=
  if t = [] then (out, 0, 0)
  else if h : (Lib.cut t [10]).2.2 = true then
    match readP (Lib.cut t [10]).1 with
    | none => ([], (out.length : Int) + 1, 2)
    | some p => if late out p then ([], (out.length : Int) + 1, 1) else if 10000 ≤ out.length then ([], (out.length : Int) + 1, 3) else parseL (Lib.cut t [10]).2.1 (out ++ [p])
  else ([], (out.length : Int) + 1, 2)
termination_by t.length
decreasing_by exact cut_lt h

theorem parseL_nil (out : List Pt) : parseL [] out = (out, 0, 0) := by rw [parseL, if_pos rfl]
theorem parseL_open {t : List UInt8} {out : List Pt} (h0 : t ≠ []) (h : (Lib.cut t [10]).2.2 = false) : parseL t out = ([], (out.length : Int) + 1, 2) := by
  rw [parseL, if_neg h0, dif_neg (by rw [h]; simp)]
theorem parseL_bad {t : List UInt8} {out : List Pt} (h0 : t ≠ []) (hr : readP (Lib.cut t [10]).1 = none) : parseL t out = ([], (out.length : Int) + 1, 2) := by
  rw [parseL, if_neg h0]
  split
  · rw [hr]
  · rfl
theorem parseL_late {t : List UInt8} {out : List Pt} {p : Pt} (h0 : t ≠ []) (h : (Lib.cut t [10]).2.2 = true) (hr : readP (Lib.cut t [10]).1 = some p) (hl : late out p = true) : parseL t out = ([], (out.length : Int) + 1, 1) := by
  rw [parseL, if_neg h0, dif_pos h, hr]; simp [hl]
theorem parseL_many {t : List UInt8} {out : List Pt} {p : Pt} (h0 : t ≠ []) (h : (Lib.cut t [10]).2.2 = true) (hr : readP (Lib.cut t [10]).1 = some p) (hl : late out p = false) (hn : 10000 ≤ out.length) : parseL t out = ([], (out.length : Int) + 1, 3) := by
  rw [parseL, if_neg h0, dif_pos h, hr]; simp [hl, hn]
theorem parseL_next {t : List UInt8} {out : List Pt} {p : Pt} (h0 : t ≠ []) (h : (Lib.cut t [10]).2.2 = true) (hr : readP (Lib.cut t [10]).1 = some p) (hl : late out p = false) (hn : ¬ 10000 ≤ out.length) : parseL t out = parseL (Lib.cut t [10]).2.1 (out ++ [p]) := by
  rw [parseL, if_neg h0, dif_pos h, hr]; simp [hl, hn]

/-- The bytes of a trace's text. -/
def textL (l : List Pt) : List UInt8 := l.flatMap fun p => bodyL p ++ [10]

theorem textB_data : ∀ l : List Pt, (textB l).data.toList = textL l := by
  intro l
  induction l with
  | nil => rfl
  | cons p r ih =>
    have e : textB (p :: r) = textB [p] ++ textB r := textB_append [p] r
    have e1 : (textB [p]).data.toList = bodyL p ++ [10] := by
      rw [← lineB_data]
      have : textB [p] = lineB p := by
        simp only [textB]
        apply ByteArray.ext
        apply Array.ext'
        rw [data_app]; simp
      rw [this]
    rw [e, data_app, ih, e1]; rfl

theorem isLine_of {p : Pt} (h : okP p = true) (hf : p.Fits) : IsLine (bodyL p) p := ⟨h, hf, rfl⟩

theorem late_asc {out l : List Pt} {p : Pt} (h : Asc (out ++ p :: l)) : late out p = false := by
  unfold late
  cases hg : out.getLast? with
  | none => rfl
  | some q =>
    have hq : q ∈ out := List.mem_of_getLast? hg
    have := (List.pairwise_append.1 h).2.2 q hq p (List.mem_cons_self ..)
    simpa using this

/-- The text of a valid trace is read back. -/
theorem parse_text : ∀ (l out : List Pt), (∀ p ∈ l, okP p = true) → (∀ p ∈ l, p.Fits) → Asc (out ++ l) → (out ++ l).length ≤ 10000 → parseL (textL l) out = (out ++ l, 0, 0)
  | [], out, _, _, _, _ => by rw [show textL [] = [] from rfl, parseL_nil, List.append_nil]
  | p :: r, out, hok, hf, ha, hl => by
    have hp := isLine_of (hok p (List.mem_cons_self ..)) (hf p (List.mem_cons_self ..))
    have e : textL (p :: r) = bodyL p ++ 10 :: textL r := by simp [textL]
    have hc := cut_yes (b := textL r) (line_no_nl hp)
    rw [← e] at hc
    rw [parseL_next (p := p) (by rw [e]; simp) (by rw [hc]) (by rw [hc]; exact readP_some hp) (late_asc ha) (by simp at hl; omega), hc]
    rw [parse_text r (out ++ [p]) (fun q hq => hok q (List.mem_cons_of_mem _ hq)) (fun q hq => hf q (List.mem_cons_of_mem _ hq)) (by rw [List.append_assoc]; exact ha) (by rw [List.append_assoc]; exact hl)]
    simp

theorem asc_snoc {out : List Pt} {p : Pt} (ha : Asc out) (hl : late out p = false) : Asc (out ++ [p]) := by
  refine List.pairwise_append.2 ⟨ha, List.pairwise_singleton _ _, fun q hq x hx => ?_⟩
  rw [List.mem_singleton] at hx
  subst hx
  unfold late at hl
  cases hg : out.getLast? with
  | none => rw [List.getLast?_eq_none_iff] at hg; subst hg; cases hq
  | some l =>
    rw [hg] at hl
    simp at hl
    obtain ⟨ys, rfl⟩ := List.getLast?_eq_some_iff.1 hg
    rcases List.mem_append.1 hq with h | h
    · have := (List.pairwise_append.1 ha).2.2 q h l (by simp)
      omega
    · rw [List.mem_singleton] at h; subst h; exact hl

/-- What is read without an error is valid, and its text is what was read. -/
theorem parse_ok : ∀ (n : Nat) (t : List UInt8) (out r : List Pt) (k : Int), t.length ≤ n → parseL t out = (r, k, 0) → (∀ p ∈ out, okP p = true) → Asc out → out.length ≤ 10000 → k = 0 ∧ (∀ p ∈ r, okP p = true) ∧ Asc r ∧ r.length ≤ 10000 ∧ textL r = textL out ++ t ∧ ∀ p ∈ r, p ∈ out ∨ p.Fits := by
  intro n
  induction n with
  | zero =>
    intro t out r k ht h hok ha hl
    have : t = [] := List.eq_nil_of_length_eq_zero (by omega)
    subst this
    rw [parseL_nil] at h
    injection h with h1 h2
    injection h2 with h2 _
    subst h1; subst h2
    exact ⟨rfl, hok, ha, hl, by simp, fun p hp => .inl hp⟩
  | succ n ih =>
    intro t out r k ht h hok ha hl
    by_cases h0 : t = []
    · subst h0
      rw [parseL_nil] at h
      injection h with h1 h2
      injection h2 with h2 _
      subst h1; subst h2
      exact ⟨rfl, hok, ha, hl, by simp, fun p hp => .inl hp⟩
    · by_cases hm : (10 : UInt8) ∈ t
      · obtain ⟨a, b, rfl, hna⟩ := List.eq_append_cons_of_mem hm
        have hc := cut_yes (b := b) hna
        cases hr : readP a with
        | none =>
          rw [parseL_bad h0 (by rw [hc]; exact hr)] at h
          injection h with _ h2
          injection h2 with _ h2
          cases h2
        | some p =>
          have hp := readP_is hr
          by_cases hlt : late out p = true
          · rw [parseL_late h0 (by rw [hc]) (by rw [hc]; exact hr) hlt] at h
            injection h with _ h2
            injection h2 with _ h2
            cases h2
          · have hlt : late out p = false := by simpa using hlt
            by_cases hn : 10000 ≤ out.length
            · rw [parseL_many h0 (by rw [hc]) (by rw [hc]; exact hr) hlt hn] at h
              injection h with _ h2
              injection h2 with _ h2
              cases h2
            · rw [parseL_next h0 (by rw [hc]) (by rw [hc]; exact hr) hlt hn, hc] at h
              obtain ⟨e1, e2, e3, e4, e5, e6⟩ := ih b (out ++ [p]) r k (by simp at ht; omega) h (fun q hq => by
                rcases List.mem_append.1 hq with hq | hq
                · exact hok q hq
                · rw [List.mem_singleton] at hq; rw [hq]; exact hp.ok) (asc_snoc ha hlt) (by simp; omega)
              refine ⟨e1, e2, e3, e4, ?_, fun q hq => ?_⟩
              · rw [e5]; simp [textL, hp.eq]
              · rcases e6 q hq with hq | hq
                · rcases List.mem_append.1 hq with hq | hq
                  · exact .inl hq
                  · rw [List.mem_singleton] at hq; rw [hq]; exact .inr hp.fits
                · exact .inr hq
      · rw [parseL_open h0 (by rw [cut_no hm])] at h
        injection h with _ h2
        injection h2 with _ h2
        cases h2

/-- The whole text. -/
noncomputable def parseR (t : ByteArray) : List Pt × Int × Int := parseL t.data.toList []

/-- Errors come with no points. -/
theorem parse_err : ∀ (n : Nat) (t : List UInt8) (out : List Pt), t.length ≤ n → (parseL t out).2.2 = 0 ∨ (parseL t out).1 = [] := by
  intro n
  induction n with
  | zero =>
    intro t out ht
    have : t = [] := List.eq_nil_of_length_eq_zero (by omega)
    subst this
    rw [parseL_nil]; exact .inl rfl
  | succ n ih =>
    intro t out ht
    rw [parseL]
    split
    · exact .inl rfl
    · split
      · rename_i h
        split
        · exact .inr rfl
        · split
          · exact .inr rfl
          · split
            · exact .inr rfl
            · exact ih _ _ (by have := cut_lt h; omega)
      · exact .inr rfl

theorem format_text {l : List Pt} (hv : valid l = 0) (hs : (textB l).size ≤ 65536) : formatR l = (textB l, 0) := by
  unfold formatR
  simp [hv]
  omega
end Go.Proofs.YtcmnmcholfellaaDoor
