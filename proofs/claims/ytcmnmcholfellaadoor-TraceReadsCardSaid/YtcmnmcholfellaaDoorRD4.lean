/-
  Counting readings: plain Lean.
-/
import Derived.Test.YtcmnmcholfellaaDoorRD0
namespace Go.Proofs.YtcmnmcholfellaaDoor

/-- The entries of a map from readings to numbers. -/
def encM (M : List (Cf × Int)) : List (Cf × Value) := M.map fun x => (x.1, Value.int .i64 x.2)

def bumpL : List (Cf × Int) → Cf → List (Cf × Int)
  | [], c => [(c, 1)]
  | x :: r, c => if c = x.1 then (x.1, x.2 + 1) :: r else x :: bumpL r c

def getI : List (Cf × Int) → Cf → Int
  | [], _ => 0
  | x :: r, c => if c = x.1 then x.2 else getI r c

theorem fnd_shift (k : Cf) : ∀ (l : List (Cf × Value)) (i : Nat), fnd k l (i + 1) = (fnd k l i).map fun x => (x.1 + 1, x.2)
  | [], _ => rfl
  | x :: r, i => by
    rw [fnd, fnd]
    split
    · rfl
    · exact fnd_shift k r (i + 1)

theorem getV_enc (c : Cf) : ∀ M : List (Cf × Int), getV (encM M) c (.int .i64 0) = .int .i64 (getI M c)
  | [] => rfl
  | x :: r => by
    have ih := getV_enc c r
    unfold getV at ih ⊢
    rw [show encM (x :: r) = (x.1, Value.int .i64 x.2) :: encM r from rfl, fnd, getI]
    by_cases h : c = x.1
    · simp [h]
    · simp only [h, if_false]
      rw [fnd_shift]
      cases hf : fnd c (encM r) 0 with
      | none => rw [hf] at ih; exact ih
      | some y => rw [hf] at ih; exact ih

theorem bump_enc (c : Cf) : ∀ M : List (Cf × Int), setV (addK (encM M) c (.int .i64 0)) (idxK (encM M) c) (.int .i64 (getI M c + 1)) = encM (bumpL M c) ∧ idxK (encM M) c < (addK (encM M) c (.int .i64 0)).length
  | [] => ⟨rfl, by simp [idxK, addK, fnd, encM]⟩
  | x :: r => by
    have ih := bump_enc c r
    unfold setV addK idxK at ih ⊢
    rw [show encM (x :: r) = (x.1, Value.int .i64 x.2) :: encM r from rfl, fnd, getI, bumpL]
    by_cases h : c = x.1
    · simp [h, encM]
    · simp only [h, if_false]
      rw [fnd_shift]
      cases hf : fnd c (encM r) 0 with
      | none =>
        rw [hf] at ih
        refine ⟨?_, by simp⟩
        have h1 := ih.1
        simp only [Option.map_none, List.length_cons, List.cons_append] at h1 ⊢
        rw [List.modify_succ_cons, h1]; rfl
      | some y =>
        rw [hf] at ih
        have h1 := ih.1
        have h2 := ih.2
        simp only [Option.map_some] at h1 h2 ⊢
        refine ⟨?_, by simpa using h2⟩
        rw [List.modify_succ_cons, h1]; rfl

/-- The counts of a list. -/
def cnts (l : List Cf) : List (Cf × Int) := l.foldl bumpL []

theorem cnts_snoc (l : List Cf) (c : Cf) : cnts (l ++ [c]) = bumpL (cnts l) c := by simp [cnts]

theorem keys_bump (c : Cf) : ∀ M : List (Cf × Int), (bumpL M c).map (·.1) = if c ∈ M.map (·.1) then M.map (·.1) else M.map (·.1) ++ [c]
  | [] => by simp [bumpL]
  | x :: r => by
    rw [bumpL]
    by_cases h : c = x.1
    · simp [h]
    · rw [if_neg h, List.map_cons, keys_bump c r]
      by_cases h2 : c ∈ r.map (·.1)
      · rw [if_pos h2, if_pos (by rw [List.map_cons]; exact List.mem_cons_of_mem _ h2)]; rfl
      · rw [if_neg h2, if_neg (by rw [List.map_cons, List.mem_cons]; exact fun e => e.elim h h2)]; rfl

theorem getI_bump (c d : Cf) : ∀ M : List (Cf × Int), getI (bumpL M c) d = getI M d + if c = d then 1 else 0
  | [] => by
    by_cases h : c = d
    · simp [bumpL, getI, h]
    · have : ¬ d = c := fun e => h e.symm
      simp [bumpL, getI, h, this]
  | x :: r => by
    rw [bumpL]
    by_cases h : c = x.1
    · rw [if_pos h, getI, getI]
      by_cases h2 : d = x.1
      · simp [h, h2]
      · have : ¬ x.1 = d := fun e => h2 e.symm
        simp [h, h2, this]
    · rw [if_neg h, getI, getI, getI_bump c d r]
      by_cases h2 : d = x.1
      · have : ¬ c = d := fun e => h (e.trans h2)
        simp [h2, h]
      · simp [h2]

theorem cnts_spec : ∀ (n : Nat) (l : List Cf), l.length = n → ((cnts l).map (·.1)).Nodup ∧ (∀ c, c ∈ (cnts l).map (·.1) ↔ c ∈ l) ∧ ∀ c, getI (cnts l) c = ((l.count c : Nat) : Int)
  | 0, l, h => by
    have : l = [] := List.eq_nil_of_length_eq_zero h
    subst this
    exact ⟨List.nodup_nil, by simp [cnts], fun c => rfl⟩
  | n + 1, l, h => by
    have hne : l ≠ [] := fun e => by rw [e] at h; cases h
    obtain ⟨m, c, rfl⟩ : ∃ m c, l = m ++ [c] := ⟨l.dropLast, l.getLast hne, (List.dropLast_concat_getLast hne).symm⟩
    obtain ⟨h1, h2, h3⟩ := cnts_spec n m (by simp at h; exact h)
    rw [cnts_snoc]
    refine ⟨?_, fun d => ?_, fun d => ?_⟩
    · rw [keys_bump]
      split
      · exact h1
      · rename_i hc
        rw [List.nodup_append]
        exact ⟨h1, by simp, fun a ha b hb => by rw [List.mem_singleton] at hb; rw [hb]; exact fun e => hc (by rw [← e]; exact ha)⟩
    · rw [keys_bump, List.mem_append, List.mem_singleton]
      split
      · rename_i hc
        rw [h2]
        exact ⟨fun h => .inl h, fun h => h.elim id (fun e => by rw [e]; exact (h2 c).1 hc)⟩
      · rw [List.mem_append, List.mem_singleton, h2]
    · rw [getI_bump, h3, List.count_append, List.count_singleton]
      by_cases e : c = d
      · simp [e]
      · have e' : (d == c) = false := by simpa using fun x : d = c => e x.symm
        have e'' : (c == d) = false := by simpa using e
        simp [e, e'']

theorem encM_length (M : List (Cf × Int)) : (encM M).length = M.length := by simp [encM]
theorem keys_length (l : List Cf) : (cnts l).length ≤ l.length := by
  have h : ∀ (m : List Cf) (M : List (Cf × Int)), (m.foldl bumpL M).length ≤ M.length + m.length := by
    intro m
    induction m with
    | nil => intro M; simp
    | cons c r ih =>
      intro M
      have h1 := ih (bumpL M c)
      have h2 : (bumpL M c).length ≤ M.length + 1 := by
        have := congrArg List.length (keys_bump c M)
        rw [List.length_map] at this
        rw [this]; split <;> simp
      simp only [List.foldl_cons, List.length_cons]
      omega
  have := h l []
  simpa [cnts] using this

/-- A sorted permutation of the keys, with their counts, is what is to come out. -/
theorem rdOut_mk {l A : List Cf} (hp : A.Perm ((cnts l).map (·.1))) (hs : A.Pairwise fun a b => ltC b a = false) : RdOut l A (A.map fun c => getI (cnts l) c) := by
  obtain ⟨h1, h2, h3⟩ := cnts_spec _ l rfl
  have hn : A.Nodup := hp.nodup_iff.2 h1
  refine ⟨?_, fun c => (hp.mem_iff).trans (h2 c), List.map_congr_left fun c _ => h3 c⟩
  have : A.Pairwise fun a b => ltC b a = false ∧ a ≠ b := hs.and hn
  exact this.imp fun {a b} ⟨h, hne⟩ => by
    cases hc : ltC a b
    · exact absurd (ltC_total hc h) hne
    · rfl
end Go.Proofs.YtcmnmcholfellaaDoor
