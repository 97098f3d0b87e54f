/-
  The search for the least reading behind those that have been found: plain Lean.
-/
import Derived.Test.YtcmnmcholfellaaDoorRD5
import Derived.Test.YtcmnmcholfellaaDoorF4
namespace Go.Proofs.YtcmnmcholfellaaDoor

/-- A reading behind those that have been found. -/
def candL (As : List Cf) (c : Cf) : Bool := match As.getLast? with
  | none => true
  | some a => ltC a c

theorem candL_nil (c : Cf) : candL [] c = true := rfl
theorem candL_snoc (As : List Cf) (x c : Cf) : candL (As ++ [x]) c = ltC x c := by simp [candL]
theorem candL_last {As : List Cf} (h : As.length - 1 < As.length) (c : Cf) : candL As c = ltC As[As.length - 1] c := by
  have hn : As ≠ [] := fun e => by subst e; simp at h
  simp only [candL, List.getLast?_eq_some_getLast hn, List.getLast_eq_getElem]

/-- The search so far. -/
def FdSt (As L : List Cf) (k : Nat) (f : Int) : Prop :=
  (f = -1 ∧ ∀ i, i < k → ∀ h : i < L.length, candL As L[i] = false) ∨
  ∃ j : Nat, f = j ∧ j < k ∧ ∃ hj : j < L.length, candL As L[j] = true ∧ ∀ i, i < k → ∀ h : i < L.length, candL As L[i] = true → ltC L[i] L[j] = false

theorem fd_zero (As L : List Cf) : FdSt As L 0 (-1) := .inl ⟨rfl, fun i hi => by omega⟩

theorem lt_succ_cases {i k : Nat} (h : i < k + 1) : i < k ∨ i = k := by omega

theorem fd_no {As L : List Cf} {k : Nat} {f : Int} (hk : k < L.length) (hc : candL As L[k] = false) (h : FdSt As L k f) : FdSt As L (k + 1) f := by
  rcases h with ⟨h1, h2⟩ | ⟨j, h1, h2, hj, h3, h4⟩
  · refine .inl ⟨h1, fun i hi hl => ?_⟩
    rcases lt_succ_cases hi with h | rfl
    · exact h2 i h hl
    · exact hc
  · refine .inr ⟨j, h1, by omega, hj, h3, fun i hi hl hb => ?_⟩
    rcases lt_succ_cases hi with h | rfl
    · exact h4 i h hl hb
    · rw [hc] at hb; cases hb

theorem fd_first {As L : List Cf} {k : Nat} (hk : k < L.length) (hc : candL As L[k] = true) (h : FdSt As L k (-1)) : FdSt As L (k + 1) k := by
  rcases h with ⟨_, h2⟩ | ⟨j, h1, _⟩
  · refine .inr ⟨k, rfl, by omega, hk, hc, fun i hi hl hb => ?_⟩
    rcases lt_succ_cases hi with h | rfl
    · rw [h2 i h hl] at hb; cases hb
    · exact ltC_irrefl _
  · omega

theorem fd_less {As L : List Cf} {k j : Nat} (hk : k < L.length) (hj : j < L.length) (hc : candL As L[k] = true) (hl : ltC L[k] L[j] = true) (h : FdSt As L k j) : FdSt As L (k + 1) k := by
  rcases h with ⟨h1, _⟩ | ⟨j', h1, h2, hj', h3, h4⟩
  · omega
  · obtain rfl : j = j' := by omega
    refine .inr ⟨k, rfl, by omega, hk, hc, fun i hi hl' hb => ?_⟩
    rcases lt_succ_cases hi with h | rfl
    · cases hx : ltC L[i] L[k] with
      | false => rfl
      | true => have := ltC_trans hx hl; rw [h4 i h hl' hb] at this; cases this
    · exact ltC_irrefl _

theorem fd_not {As L : List Cf} {k j : Nat} (hk : k < L.length) (hj : j < L.length) (hl : ltC L[k] L[j] = false) (h : FdSt As L k j) : FdSt As L (k + 1) j := by
  rcases h with ⟨h1, _⟩ | ⟨j', h1, h2, hj', h3, h4⟩
  · omega
  · obtain rfl : j = j' := by omega
    refine .inr ⟨j, rfl, by omega, hj, h3, fun i hi hl' hb => ?_⟩
    rcases lt_succ_cases hi with h | rfl
    · exact h4 i h hl' hb
    · exact hl

/-- The readings found so far. -/
structure AsSt (L As : List Cf) : Prop where
  asc : StrAsc As
  mem : ∀ a ∈ As, a ∈ L
  all : ∀ c ∈ L, c ∈ As ∨ candL As c = true

theorem as_nil (L : List Cf) : AsSt L [] := ⟨List.Pairwise.nil, fun a h => (by cases h), fun _ _ => .inr rfl⟩

theorem cand_all {As : List Cf} {c : Cf} (ha : StrAsc As) (h : candL As c = true) : ∀ a ∈ As, ltC a c = true := by
  intro a hm
  have hn : As ≠ [] := fun e => by subst e; cases hm
  obtain ⟨l, x, rfl⟩ : ∃ l x, As = l ++ [x] := ⟨As.dropLast, As.getLast hn, (List.dropLast_concat_getLast hn).symm⟩
  rw [candL_snoc] at h
  have hp := List.pairwise_append.1 ha
  rcases List.mem_append.1 hm with h1 | h1
  · exact ltC_trans (hp.2.2 a h1 x (by simp)) h
  · rw [List.mem_singleton] at h1; rw [h1]; exact h

theorem as_step {L As : List Cf} {j : Nat} (hj : j < L.length) (h : AsSt L As) (hf : FdSt As L L.length j) : AsSt L (As ++ [L[j]]) := by
  rcases hf with ⟨h1, _⟩ | ⟨j', h1, h2, hj', h3, h4⟩
  · omega
  · obtain rfl : j = j' := by omega
    refine ⟨List.pairwise_append.2 ⟨h.asc, List.pairwise_singleton .., fun a ha b hb => ?_⟩, fun a ha => ?_, fun c hc => ?_⟩
    · rw [List.mem_singleton] at hb; rw [hb]; exact cand_all h.asc h3 a ha
    · rcases List.mem_append.1 ha with h' | h'
      · exact h.mem a h'
      · rw [List.mem_singleton] at h'; rw [h']; exact List.getElem_mem hj
    · rw [candL_snoc, List.mem_append, List.mem_singleton]
      rcases h.all c hc with h' | h'
      · exact .inl (.inl h')
      · obtain ⟨i, hi, rfl⟩ := List.getElem_of_mem hc
        cases hx : ltC L[j] L[i] with
        | true => exact .inr rfl
        | false => exact .inl (.inr (ltC_total (h4 i hi hi h') hx))

theorem rdOut_of {L As : List Cf} (h : AsSt L As) (hc : ∀ c ∈ L, c ∈ As) : RdOut L As (As.map fun c => ((L.count c : Nat) : Int)) :=
  ⟨h.asc, fun c => ⟨h.mem c, hc c⟩, rfl⟩

theorem as_done {L As : List Cf} (h : AsSt L As) (hf : FdSt As L L.length (-1)) : ∀ c ∈ L, c ∈ As := by
  rcases hf with ⟨_, h2⟩ | ⟨j, h1, _⟩
  · intro c hc
    rcases h.all c hc with h' | h'
    · exact h'
    · obtain ⟨i, hi, rfl⟩ := List.getElem_of_mem hc
      rw [h2 i hi hi] at h'; cases h'
  · omega

theorem nodup_le : ∀ {As L : List Cf}, As.Nodup → (∀ a ∈ As, a ∈ L) → As.length ≤ L.length
  | [], _, _, _ => Nat.zero_le _
  | a :: r, L, hn, hm => by
    have hn' := List.nodup_cons.1 hn
    have ha := hm a (List.mem_cons_self ..)
    have ih := nodup_le (As := r) (L := L.erase a) hn'.2 (fun x hx => (List.mem_erase_of_ne (fun e => hn'.1 (by rw [← e]; exact hx))).2 (hm x (List.mem_cons_of_mem _ hx)))
    rw [List.length_erase_of_mem ha] at ih
    have := List.length_pos_of_mem ha
    rw [List.length_cons]; omega

theorem as_full {L As : List Cf} (h : AsSt L As) (hl : As.length = L.length) : ∀ c ∈ L, c ∈ As := by
  intro c hc
  rcases Classical.em (c ∈ As) with h' | h'
  · exact h'
  · have := nodup_le (As := c :: As) (L := L) (List.nodup_cons.2 ⟨h', h.asc.nodup⟩) (fun a ha => by
      rcases List.mem_cons.1 ha with e | e
      · rw [e]; exact hc
      · exact h.mem a e)
    rw [List.length_cons] at this; omega

open Go.RowKit
theorem ownsRow_belowE {w w' : World} {base E size : Nat} {v : Value} {n : Nat} {xs : List Value} (h : w.ownsRow base E size v n xs) (hb : Below w.heap.size w w') : w'.ownsRow base E size v n xs := by
  refine ⟨h.1, ?_⟩
  rcases h.2 with h0 | ⟨g, cap, cur, hv, hg0, hh, h1⟩
  · exact .inl h0
  · exact .inr ⟨g, cap, cur, hv, hg0, (hb.block g (Array.getElem?_eq_some_iff.1 hh).1).trans hh, h1⟩

/-- Two rows of different types lie apart. -/
theorem ownsRow_apart {w w' : World} {base E size E' size' : Nat} {v v' : Value} {n n' : Nat} {xs xs' : List Value} (hE : E ≠ E') (h : w.ownsRow base E size v n xs) (k : w.ownsRow base E' size' v' n' xs') (hg : w.grownBy w' v'.ownBlock) : w'.ownsRow base E size v n xs := by
  refine ⟨h.1, ?_⟩
  rcases h.2 with h0 | ⟨g, cap, cur, hv, hg0, hh, h1⟩
  · exact .inl h0
  · refine .inr ⟨g, cap, cur, hv, hg0, (hg.block g (Array.getElem?_eq_some_iff.1 hh).1 (fun e => ?_)).trans hh, h1⟩
    rcases k.2 with ⟨hv', _⟩ | ⟨g', cap', cur', hv', _, hh', _⟩
    · rw [hv'] at e; cases e
    · rw [hv'] at e
      have e' : g = g' := Option.some.inj e
      rw [← e', hh] at hh'
      injection hh' with hh'
      injection hh' with _ h2
      exact hE h2

theorem PtsIn.below {w w' : World} {b o : Nat} {l : List Pt} (h : PtsIn w b o l) (hb : Below w.heap.size w w') : PtsIn w' b o l := fun k p hk => by
  have hl : l ≠ [] := fun e => by subst e; simp at hk
  exact h.keep (hb.block b (h.lt hl)) k p hk

theorem PtsIn.cells {w : World} {b o : Nat} {l : List Pt} (h : PtsIn w b o l) {k : Nat} (hk : k < l.length) : w.cell? ⟨b, o + k * 11, none⟩ = some (.int .i64 l[k].at_) ∧ w.cell? ⟨b, o + k * 11 + 1, none⟩ = some (.int .i64 l[k].kind) ∧ w.cell? ⟨b, o + k * 11 + 2, none⟩ = some (.int .i64 l[k].tbl) ∧ w.cell? ⟨b, o + k * 11 + 3, none⟩ = some (.int .i64 l[k].wri) ∧ w.cell? ⟨b, o + k * 11 + 4, none⟩ = some (.int .i64 l[k].rdr) ∧ w.cell? ⟨b, o + k * 11 + 5, none⟩ = some (.int .i64 l[k].idx) ∧ w.cell? ⟨b, o + k * 11 + 6, none⟩ = some (.int .i64 l[k].tok) ∧ w.cell? ⟨b, o + k * 11 + 7, none⟩ = some (.int .i64 l[k].rnd) ∧ w.cell? ⟨b, o + k * 11 + 8, none⟩ = some (.int .i64 l[k].rep) ∧ w.cell? ⟨b, o + k * 11 + 9, none⟩ = some (.int .i64 l[k].ver) ∧ w.cell? ⟨b, o + k * 11 + 10, none⟩ = some (.int .i64 l[k].hol) := by
  obtain ⟨c0, c1, c2, c3, c4, c5, c6, c7, c8, c9, c10⟩ := h k l[k] (List.getElem?_eq_getElem hk)
  exact ⟨c0, c1, c2, c3, c4, c5, c6, c7, c8, c9, c10⟩

theorem CfAt.below {w w' : World} {b : Nat} {c : Cf} (h : CfAt w b c) (hb : Below w.heap.size w w') : CfAt w' b c := ⟨below_cell hb h.c0, below_cell hb h.c1, below_cell hb h.c2⟩

/-- The state of the outer loop. -/
structure RfSt (L : List Cf) (w1 : World) (i : Nat) (As : List Cf) (v u : Value) (wr : World) : Prop where
  st : AsSt L As
  len : As.length = i
  oc : OwnC wr w1.heap.size v As
  oj : OwnJ wr w1.heap.size u (As.map fun c => ((L.count c : Nat) : Int))
  bel : Below w1.heap.size w1 wr
end Go.Proofs.YtcmnmcholfellaaDoor
