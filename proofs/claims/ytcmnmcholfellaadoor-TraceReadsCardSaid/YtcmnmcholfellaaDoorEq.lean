/-
  Comparing two points by '==' and '!='.
-/
import Derived.Test.YtcmnmcholfellaaDoorBase
namespace Go.Proofs.YtcmnmcholfellaaDoor
open Go.RowKit

section
variable {P : Program} (w : World)
theorem eqF_step (d : Nat) (xs ys : Array Value) (f : Field) (fs : List Field) (a b : Int) (k k' : IntKind) (hn : f.name ≠ "_")
    (hx : (part f.type xs f.offset).run P w = .ok (.int k a) w) (hy : (part f.type ys f.offset).run P w = .ok (.int k b) w) (ht : P.underlying f.type = some (.int k')) :
    (Op.eqFields (d + 1) xs ys (f :: fs)).run P w = if a = b then (Op.eqFields (d + 1) xs ys fs).run P w else .ok false w := by
  simp only [Op.eqFields, if_pos hn, Sem.run_bind, hx, hy, Result.andThen_ok, run_equalIn_int w d f.type k k' a b ht]
  by_cases h : a = b
  · subst h; simp
  · have : (a == b) = false := by simpa using h
    simp [this, h]
end


theorem part_int {P : Program} (w : World) (t : TypeId) (k k' : IntKind) (cs : Array Value) (off : Nat) (n : Int) (ht : P.underlying t = some (.int k')) (hc : cs[off]? = some (.int k n)) :
    (part t cs off).run P w = .ok (.int k n) w := by
  unfold part
  simp [go_sem, isAgg, run_underlying ht, hc]

/-- Fields that all hold integers, compared one after the other. -/
theorem eqFields_ints {P : Program} (w : World) (d : Nat) (xs ys : Array Value) : ∀ (fs : List Field) (us vs : List Int),
    (∀ f ∈ fs, f.name ≠ "_" ∧ P.underlying f.type = some (.int .i64)) → us.length = fs.length → vs.length = fs.length →
    (fs.map fun f => xs[f.offset]?) = us.map (fun a => some (.int .i64 a)) → (fs.map fun f => ys[f.offset]?) = vs.map (fun a => some (.int .i64 a)) →
    (Op.eqFields (d + 1) xs ys fs).run P w = .ok (decide (us = vs)) w
  | [], [], [], _, _, _, _, _ => by simp [Op.eqFields]
  | f :: fs, a :: us, b :: vs, hf, ha, hb, hx, hy => by
    simp only [List.map_cons, List.cons.injEq] at hx hy
    obtain ⟨hn, ht⟩ := hf f (by simp)
    rw [eqF_step w d xs ys f fs a b .i64 .i64 hn (part_int w _ _ _ _ _ _ ht hx.1) (part_int w _ _ _ _ _ _ ht hy.1) ht]
    have ih := eqFields_ints w d xs ys fs us vs (fun g hg => hf g (by simp [hg])) (by simpa using ha) (by simpa using hb) hx.2 hy.2
    rw [ih]
    by_cases h : a = b
    · subst h; simp
    · simp [h]

/-- The numbers of a point. -/
def Pt.ns (p : Pt) : List Int := [p.at_, p.kind, p.tbl, p.wri, p.rdr, p.idx, p.tok, p.rnd, p.rep, p.ver, p.hol]
theorem Pt.ns_inj (p q : Pt) : (p.ns = q.ns) ↔ p = q := by
  constructor
  · intro h
    cases p; cases q
    simpa [Pt.ns] using h
  · rintro rfl; rfl

set_option maxRecDepth 100000 in
theorem fields23_ints : ∀ f ∈ (Tryd.prog.fieldsOf 23).toList, f.name ≠ "_" ∧ Tryd.prog.underlying f.type = some (.int .i64) := by
  unfold Program.fieldsOf; rw [Tryd.underlying23]
  intro f hf
  simp only [List.mem_cons, List.mem_nil_iff, or_false] at hf
  rcases hf with rfl | rfl | rfl | rfl | rfl | rfl | rfl | rfl | rfl | rfl | rfl
  all_goals first | exact ⟨by decide, Tryd.underlying2⟩ | exact ⟨by decide, Tryd.underlying3⟩
set_option maxRecDepth 100000 in
theorem fields23_off : (Tryd.prog.fieldsOf 23).toList.map (·.offset) = [0, 1, 2, 3, 4, 5, 6, 7, 8, 9, 10] := by
  unfold Program.fieldsOf; rw [Tryd.underlying23]; rfl
set_option maxRecDepth 100000 in
theorem fields23_map (p : Pt) : ((Tryd.prog.fieldsOf 23).toList.map fun f => (#[.int .i64 p.at_, .int .i64 p.kind, .int .i64 p.tbl, .int .i64 p.wri, .int .i64 p.rdr, .int .i64 p.idx, .int .i64 p.tok, .int .i64 p.rnd, .int .i64 p.rep, .int .i64 p.ver, .int .i64 p.hol] : Array Value)[f.offset]?) = p.ns.map (fun a => some (.int .i64 a)) := by
  have h : ∀ (g : Nat → Option Value), ((Tryd.prog.fieldsOf 23).toList.map fun f => g f.offset) = ([0, 1, 2, 3, 4, 5, 6, 7, 8, 9, 10] : List Nat).map g := fun g => by
    rw [← fields23_off, List.map_map]; rfl
  rw [h fun j => (#[.int .i64 p.at_, .int .i64 p.kind, .int .i64 p.tbl, .int .i64 p.wri, .int .i64 p.rdr, .int .i64 p.idx, .int .i64 p.tok, .int .i64 p.rnd, .int .i64 p.rep, .int .i64 p.ver, .int .i64 p.hol] : Array Value)[j]?]
  rfl
theorem fields23_len : (Tryd.prog.fieldsOf 23).toList.length = 11 := by
  have := congrArg List.length fields23_off; simpa using this
theorem fields23_self : Tryd.prog.underlying 23 = some (.struct (Tryd.prog.fieldsOf 23)) := by
  unfold Program.fieldsOf; rw [Tryd.underlying23]
theorem stood23 : Tryd.prog.stoodInHeld 23 = false := by kernel_rfl

theorem run_equalIn_pt (d : Nat) (p q : Pt) (w : World) : (Op.equalIn (d + 2) 23 p.v q.v).run Tryd.prog w = .ok (decide (p = q)) w := by
  rw [run_equalIn_struct w (d + 1) 23 _ _ fields23_self stood23, eqFields_ints w d _ _ _ p.ns q.ns fields23_ints (by rw [fields23_len]; rfl) (by rw [fields23_len]; rfl) (fields23_map p) (fields23_map q)]
  simp [Pt.ns_inj]

theorem run_eql_pt (p q : Pt) (w : World) : (binOp .eql 23 p.v q.v).run Tryd.prog w = .ok (.bool (decide (p = q))) w := by
  rw [run_eql_struct, run_equalIn_pt 9998]; rfl
theorem run_neq_pt (p q : Pt) (w : World) : (binOp .neq 23 p.v q.v).run Tryd.prog w = .ok (.bool (!decide (p = q))) w := by
  rw [run_neq_struct, run_equalIn_pt 9998]; rfl
end Go.Proofs.YtcmnmcholfellaaDoor
