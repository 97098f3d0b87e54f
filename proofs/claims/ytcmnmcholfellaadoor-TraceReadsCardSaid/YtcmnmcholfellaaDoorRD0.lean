/-
  Readings: a reading as Lean data, its order; the ascending list of different readings: plain, and how readings are compared.
-/
import Derived.Test.YtcmnmcholfellaaDoorMP
namespace Go.Proofs.YtcmnmcholfellaaDoor
open Go.RowKit

/-- A reading. -/
structure Cf where
  t : Int
  w : Int
  r : Int
deriving DecidableEq, Repr

abbrev Cf.v (c : Cf) : Value := .agg #[.int .i64 c.t, .int .i64 c.w, .int .i64 c.r]
def Cf.cs (c : Cf) : List Value := [.int .i64 c.t, .int .i64 c.w, .int .i64 c.r]
abbrev Cf.box (c : Cf) : Obj := .cells #[.int .i64 c.t, .int .i64 c.w, .int .i64 c.r] 75
def Cf.ns (c : Cf) : List Int := [c.t, c.w, c.r]
theorem Cf.ns_inj (p q : Cf) : (p.ns = q.ns) ↔ p = q := by
  constructor
  · intro h
    cases p; cases q
    simpa [Cf.ns] using h
  · rintro rfl; rfl

/-- The reading of a point. -/
def cfOf (p : Pt) : Cf := ⟨p.tbl, p.wri, p.rdr⟩

/-- Which reading comes first. -/
def ltC (a b : Cf) : Bool := if a.t ≠ b.t then decide (a.t < b.t) else if a.w ≠ b.w then decide (a.w < b.w) else decide (a.r < b.r)

theorem ltC_iff (a b : Cf) : ltC a b = true ↔ a.t < b.t ∨ (a.t = b.t ∧ (a.w < b.w ∨ (a.w = b.w ∧ a.r < b.r))) := by
  unfold ltC
  by_cases h1 : a.t = b.t
  · by_cases h2 : a.w = b.w
    · simp [h1, h2]
    · simp [h1, h2]
  · simp [h1]

theorem ltC_irrefl (a : Cf) : ltC a a = false := by
  have := (ltC_iff a a).1
  cases h : ltC a a
  · rfl
  · have := this h; omega
theorem ltC_trans {a b c : Cf} (h1 : ltC a b = true) (h2 : ltC b c = true) : ltC a c = true := by
  rw [ltC_iff] at *; omega
theorem ltC_total {a b : Cf} (h1 : ltC a b = false) (h2 : ltC b a = false) : a = b := by
  have e1 : ¬ (a.t < b.t ∨ (a.t = b.t ∧ (a.w < b.w ∨ (a.w = b.w ∧ a.r < b.r)))) := fun h => by rw [(ltC_iff a b).2 h] at h1; cases h1
  have e2 : ¬ (b.t < a.t ∨ (b.t = a.t ∧ (b.w < a.w ∨ (b.w = a.w ∧ b.r < a.r)))) := fun h => by rw [(ltC_iff b a).2 h] at h2; cases h2
  cases a; cases b
  simp only [Cf.mk.injEq]
  simp only at e1 e2
  omega

/-- Strictly ascending. -/
def StrAsc (l : List Cf) : Prop := l.Pairwise fun a b => ltC a b = true

theorem strAsc_unique : ∀ {l m : List Cf}, StrAsc l → StrAsc m → (∀ c, c ∈ l ↔ c ∈ m) → l = m
  | [], [], _, _, _ => rfl
  | [], b :: m, _, _, h => absurd ((h b).2 (List.mem_cons_self ..)) List.not_mem_nil
  | a :: l, [], _, _, h => absurd ((h a).1 (List.mem_cons_self ..)) List.not_mem_nil
  | a :: l, b :: m, hl, hm, h => by
    have hl' := List.pairwise_cons.1 hl
    have hm' := List.pairwise_cons.1 hm
    have hab : a = b := by
      rcases List.mem_cons.1 ((h a).1 (List.mem_cons_self ..)) with e | e
      · exact e
      · rcases List.mem_cons.1 ((h b).2 (List.mem_cons_self ..)) with e2 | e2
        · exact e2.symm
        · have h1 := hm'.1 a e
          have h2 := hl'.1 b e2
          have := ltC_trans h1 h2
          rw [ltC_irrefl] at this; cases this
    subst hab
    have ht : ∀ c, c ∈ l ↔ c ∈ m := fun c => by
      constructor
      · intro hc
        rcases List.mem_cons.1 ((h c).1 (List.mem_cons_of_mem _ hc)) with e | e
        · subst e; have := hl'.1 c hc; rw [ltC_irrefl] at this; cases this
        · exact e
      · intro hc
        rcases List.mem_cons.1 ((h c).2 (List.mem_cons_of_mem _ hc)) with e | e
        · subst e; have := hm'.1 c hc; rw [ltC_irrefl] at this; cases this
        · exact e
    rw [strAsc_unique hl'.2 hm'.2 ht]

/-- The readings of a list of points, and how often each occurs. -/
structure RdOut (l : List Cf) (A : List Cf) (N : List Int) : Prop where
  asc : StrAsc A
  mem : ∀ c, c ∈ A ↔ c ∈ l
  num : N = A.map fun c => ((l.count c : Nat) : Int)

theorem RdOut.unique {l A B : List Cf} {N M : List Int} (h : RdOut l A N) (k : RdOut l B M) : A = B ∧ N = M := by
  have e : A = B := strAsc_unique h.asc k.asc fun c => (h.mem c).trans (k.mem c).symm
  exact ⟨e, by rw [h.num, k.num, e]⟩

theorem StrAsc.nodup {l : List Cf} (h : StrAsc l) : l.Nodup := List.Pairwise.imp (fun {a b} hab e => by subst e; rw [ltC_irrefl] at hab; cases hab) h

/-- The counts add up to the number of readings. -/
theorem sum_counts : ∀ (A l : List Cf), A.Nodup → (∀ c ∈ l, c ∈ A) → (A.map fun c => l.count c).sum = l.length
  | A, [], _, _ => by
    have h0 : ∀ B : List Cf, (B.map fun c => ([] : List Cf).count c).sum = 0 := fun B => by
      induction B with
      | nil => rfl
      | cons b r ih => rw [List.map_cons, List.sum_cons, ih]; rfl
    exact h0 A
  | A, c :: l, hA, h => by
    have ih := sum_counts A l hA (fun x hx => h x (List.mem_cons_of_mem _ hx))
    have key : ∀ B : List Cf, B.Nodup → (B.map fun x => (c :: l).count x).sum = (B.map fun x => l.count x).sum + if c ∈ B then 1 else 0 := by
      intro B
      induction B with
      | nil => intro _; rfl
      | cons b r ihb =>
        intro hB
        have hB' := List.nodup_cons.1 hB
        rw [List.map_cons, List.sum_cons, List.map_cons, List.sum_cons, ihb hB'.2, List.count_cons]
        by_cases e : c = b
        · subst e
          have : c ∉ r := hB'.1
          simp [this]; omega
        · have e' : (c == b) = false := by simpa using e
          simp [e, e', Nat.add_assoc]
    rw [key A hA, if_pos (h c (List.mem_cons_self ..)), ih]; simp

set_option maxRecDepth 100000 in
theorem fields75_ints : ∀ f ∈ (Tryd.prog.fieldsOf 75).toList, f.name ≠ "_" ∧ Tryd.prog.underlying f.type = some (.int .i64) := by
  unfold Program.fieldsOf; rw [Tryd.underlying75]
  intro f hf
  simp only [List.mem_cons, List.mem_nil_iff, or_false] at hf
  rcases hf with rfl | rfl | rfl
  all_goals exact ⟨by decide, Tryd.underlying3⟩
theorem fields75_off : (Tryd.prog.fieldsOf 75).toList.map (·.offset) = [0, 1, 2] := by
  unfold Program.fieldsOf; rw [Tryd.underlying75]; rfl
theorem fields75_map (c : Cf) : ((Tryd.prog.fieldsOf 75).toList.map fun f => (#[.int .i64 c.t, .int .i64 c.w, .int .i64 c.r] : Array Value)[f.offset]?) = c.ns.map (fun a => some (.int .i64 a)) := by
  have h : ∀ (g : Nat → Option Value), ((Tryd.prog.fieldsOf 75).toList.map fun f => g f.offset) = ([0, 1, 2] : List Nat).map g := fun g => by
    rw [← fields75_off, List.map_map]; rfl
  rw [h fun j => (#[.int .i64 c.t, .int .i64 c.w, .int .i64 c.r] : Array Value)[j]?]
  rfl
theorem fields75_len : (Tryd.prog.fieldsOf 75).toList.length = 3 := by
  have := congrArg List.length fields75_off; simpa using this
theorem fields75_self : Tryd.prog.underlying 75 = some (.struct (Tryd.prog.fieldsOf 75)) := by
  unfold Program.fieldsOf; rw [Tryd.underlying75]
theorem stood75 : Tryd.prog.stoodInHeld 75 = false := by kernel_rfl
theorem run_equalIn_cf (d : Nat) (p q : Cf) (w : World) : (Op.equalIn (d + 2) 75 p.v q.v).run Tryd.prog w = .ok (decide (p = q)) w := by
  rw [run_equalIn_struct w (d + 1) 75 _ _ fields75_self stood75, eqFields_ints w d _ _ _ p.ns q.ns fields75_ints (by rw [fields75_len]; rfl) (by rw [fields75_len]; rfl) (fields75_map p) (fields75_map q)]
  simp [Cf.ns_inj]
theorem run_eql_cf (p q : Cf) (w : World) : (binOp .eql 75 p.v q.v).run Tryd.prog w = .ok (.bool (decide (p = q))) w := by
  rw [run_eql_struct, run_equalIn_cf 9998]; rfl
theorem run_neq_cf (p q : Cf) (w : World) : (binOp .neq 75 p.v q.v).run Tryd.prog w = .ok (.bool (!decide (p = q))) w := by
  rw [run_neq_struct, run_equalIn_cf 9998]; rfl

theorem keyOk_cf : KeyOk Tryd.prog 75 Cf.v := by
  refine ⟨fun w em k => ?_, fun w k l => ?_, fun w k => ?_⟩
  · kernel_rfl
  · cases l with
    | nil => simp [ents, Instr.findKey, run_underlying Tryd.underlying75, Instr.findNow, fnd]
    | cons x r =>
      have hf := find_asking (P := Tryd.prog) (KT := 75) (ek := Cf.v) (fun w a b => by unfold Op.equal; exact run_equalIn_cf 9998 a b w) w k (x :: r) 0 0
      have hs : Instr.findNow (.struct (Tryd.prog.fieldsOf 75)) (Cf.v k) (ents Cf.v 0 (x :: r)) 0 = none := by simp [ents, Instr.findNow, Instr.sameNow]
      unfold Instr.findKey
      simp only [Sem.run_bind, run_underlying fields75_self, Result.andThen_ok, hs]
      exact hf
  · simp [Instr.keyThatStays, Instr.sameBits]
end Go.Proofs.YtcmnmcholfellaaDoor
