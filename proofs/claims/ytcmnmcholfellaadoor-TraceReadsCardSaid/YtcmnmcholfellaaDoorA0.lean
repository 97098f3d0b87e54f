/-
  append onto a slice of points that the call owns.
-/
import Derived.Test.YtcmnmcholfellaaDoorR0
import Derived.OwnWalk
namespace Go.Proofs.YtcmnmcholfellaaDoor
open Go.RowKit

/-- The cells of points. -/
def cellsL (l : List Pt) : List Value := l.flatMap Pt.cs
theorem cellsL_append (l m : List Pt) : cellsL (l ++ m) = cellsL l ++ cellsL m := by simp [cellsL]
theorem cellsL_length (l : List Pt) : (cellsL l).length = l.length * 11 := by
  induction l with
  | nil => rfl
  | cons p r ih =>
    show (p.cs ++ cellsL r).length = _
    rw [List.length_append, ih, Pt.cs_length, List.length_cons]; omega
theorem cellsL_one (l : List Pt) : ∀ u ∈ cellsL l, u.oneCell' = true := by
  intro u hu
  obtain ⟨p, _, hp⟩ := List.mem_flatMap.1 hu
  have := pt_one p
  rw [List.all_toArray] at this
  exact List.all_eq_true.1 this u hp

/-- Points in memory, cell by cell. -/
theorem ptsIn_range {w : World} {b o : Nat} {l : List Pt} : PtsIn w b o l ↔ w.rangeAt b o (cellsL l) := by
  induction l generalizing o with
  | nil => exact ⟨fun _ j v h => by simp [cellsL] at h, fun _ k p h => by simp at h⟩
  | cons p r ih =>
    have ih' := ih (o := o + 11)
    constructor
    · intro h j v hj
      rw [show cellsL (p :: r) = p.cs ++ cellsL r from rfl] at hj
      by_cases hlt : j < 11
      · rw [List.getElem?_append_left (by rw [Pt.cs_length]; omega)] at hj
        have := ptIn_range.1 (h 0 p rfl)
        simp only [Nat.zero_mul, Nat.add_zero] at this
        exact this j v hj
      · rw [List.getElem?_append_right (by rw [Pt.cs_length]; omega), Pt.cs_length] at hj
        have hr : PtsIn w b (o + 11) r := fun k q hq => by
          have := h (k + 1) q (by simpa using hq)
          rwa [show o + (k + 1) * 11 = o + 11 + k * 11 from by omega] at this
        have := ih'.1 hr (j - 11) v hj
        rwa [show o + 11 + (j - 11) = o + j from by omega] at this
    · intro h k q hq
      have hr : w.rangeAt b (o + 11) (cellsL r) := fun j v hj => by
        have := h (j + 11) v (by
          rw [show cellsL (p :: r) = p.cs ++ cellsL r from rfl, List.getElem?_append_right (by rw [Pt.cs_length]; omega), Pt.cs_length, show j + 11 - 11 = j from by omega]; exact hj)
        rwa [show o + (j + 11) = o + 11 + j from by omega] at this
      cases k with
      | zero =>
        simp at hq; subst hq
        simp only [Nat.zero_mul, Nat.add_zero]
        exact ptIn_range.2 fun j v hj => h j v (by
          rw [show cellsL (p :: r) = p.cs ++ cellsL r from rfl, List.getElem?_append_left (List.getElem?_eq_some_iff.1 hj).1]; exact hj)
      | succ k =>
        have := ih'.2 hr k q (by simpa using hq)
        rwa [show o + (k + 1) * 11 = o + 11 + k * 11 from by omega]

/-- A slice value that owns points. -/
def Own (w : World) (base : Nat) (v : Value) (l : List Pt) : Prop := w.ownsRow base 23 11 v l.length (cellsL l)

theorem Own.nil (w : World) (base : Nat) : Own w base (.slice none 0 0) [] := World.ownsRow_nil w base 23 11

/-- What is owned is read. -/
theorem Own.reads {w : World} {base : Nat} {v : Value} {l : List Pt} (h : Own w base v l) : ∃ A c, v = .slice A l.length c ∧ PtsR w A l := by
  rcases h.2 with ⟨hv, h0⟩ | ⟨g, cap, cur, hv, _, hg, _, _, _, ht⟩
  · have : l = [] := List.eq_nil_of_length_eq_zero h0
    subst this
    exact ⟨none, 0, hv, PtsR.nil _ _⟩
  · refine ⟨some ⟨g, 0, none⟩, cap, hv, fun _ => ⟨g, 0, rfl, ptsIn_range.2 fun j u hj => ?_⟩⟩
    have := World.ownsRow.cells h (g := g) (by rw [hv]; rfl) j u hj
    rwa [Addr.add_mid] at this

theorem info23 : (Tryd.prog.info? 23).map (fun i => (i.zero, i.size, i.bytes)) = some (some (Value.agg #[.int .i64 0, .int .i64 0, .int .i64 0, .int .i64 0, .int .i64 0, .int .i64 0, .int .i64 0, .int .i64 0, .int .i64 0, .int .i64 0, .int .i64 0]), 11, 88) := by kernel_rfl

theorem run_append_pts_none (w : World) (base : Nat) (ty : TypeId) (v : Value) (l : List Pt) (h : Own w base v l) (c : Nat) :
    (Builtin.append_ #[27, 27] ty #[v, .slice none 0 c]).run Tryd.prog w = .ok v w := by
  obtain ⟨i0, hi, hz0, hz1, hz2⟩ := info_parts info23
  have ht := Tryd.underlying27
  rcases h.2 with ⟨rfl, hn⟩ | ⟨g, cap, cur, rfl, _, _, hnc, _⟩
  · simp [Builtin.append_, run_underlying ht, sizeOf, typeInfo, hi, Builtin.lenOf, Builtin.firstCells]
  · simp [Builtin.append_, run_underlying ht, sizeOf, typeInfo, hi, Builtin.lenOf, Builtin.firstCells, hnc, storeCells]

/-- Points appended to points: the run. -/
theorem run_append_pts (w : World) (base : Nat) (ty : TypeId) (v : Value) (l : List Pt) (h : Own w base v l) (A : Option Addr) (c : Nat) (m : List Pt) (hm : PtsR w A m) (hlen : l.length + m.length ≤ 1000000) (hb : base ≤ w.heap.size) :
    ∃ v' w', (Builtin.append_ #[27, 27] ty #[v, .slice A m.length c]).run Tryd.prog w = .ok v' w' ∧ Own w' base v' (l ++ m) ∧ w.grownBy w' v.ownBlock := by
  obtain ⟨i0, hi, hz0, hz1, hz2⟩ := info_parts info23
  by_cases hA : A = none
  · subst hA
    have hmn : m = [] := by
      by_cases e : m = []
      · exact e
      · obtain ⟨b, o, e2, _⟩ := hm e; cases e2
    subst hmn
    exact ⟨v, w, run_append_pts_none w base ty v l h c, by rw [List.append_nil]; exact h, grown_refl _ _⟩
  · obtain ⟨ad, rfl⟩ : ∃ ad, A = some ad := by cases A with | none => exact absurd rfl hA | some x => exact ⟨x, rfl⟩
    have hc : ∀ j u, (cellsL m)[j]? = some u → w.cell? (ad.add j) = some u := by
      intro j u hj
      by_cases e : m = []
      · subst e; simp [cellsL] at hj
      · obtain ⟨b, o, e2, hin⟩ := hm e
        have e3 : ad = ⟨b, o, none⟩ := Option.some.inj e2
        rw [e3, Addr.add_mid]
        exact ptsIn_range.1 hin j u hj
    obtain ⟨v', w', hr, h2, h3, _, _⟩ := run_append_own_at (P := Tryd.prog) w base 27 ty 23 i0 _ 11 88 Tryd.underlying27 hi hz0 hz1 hz2 rfl (by omega) v l.length (cellsL l) h ad m.length c (cellsL m) (cellsL_length m) hc (cellsL_one m) (by unfold maxLen; omega) (by omega) hb
    refine ⟨v', w', hr, ?_, h3⟩
    unfold Own
    rw [List.length_append, cellsL_append]; exact h2

/-- .. at the operation of a plain region. -/
theorem wpList_append_pts (w : World) {ops : Array Oper} {rest : List Oper} {op : Oper} {a : Act} {Q : Exit → Act → World → Prop} (hgd : op.guard = none) (s x : Operand)
    (ho : op.op = .call { callee := .builtin .append, args := #[s, x], argTypes := #[27, 27] }) (base : Nat) (v : Value) (l : List Pt) (hs : a.eval s = v) (h : Own w base v l) (A : Option Addr) (c : Nat) (m : List Pt) (hx : a.eval x = .slice A m.length c) (hm : PtsR w A m) (hlen : l.length + m.length ≤ 1000000) (hb : base ≤ w.heap.size)
    (hk : ∀ v' w', Own w' base v' (l ++ m) → w.grownBy w' v.ownBlock → wpList Tryd.prog ops Q rest (a.put op.dst v') w') : wpList Tryd.prog ops Q (op :: rest) a w := by
  refine wpList_plain hgd fun K hK => ?_
  obtain ⟨v', w', hr, h2, h3⟩ := run_append_pts w base op.type v l h A c m hm hlen hb
  unfold Oper.wp execOp
  simp only [ho, resolve, invoke, builtin, Sem.run_bind, Sem.run_pure, Result.andThen_ok, List.map_toArray, List.map_cons, List.map_nil, hs, hx, hr]
  exact hK _ _ (hk v' w' h2 h3)

/-- .. where the operation is guarded and its guard says yes. -/
theorem wpList_append_pts_w (w : World) {ops : Array Oper} {rest : List Oper} {op : Oper} {a : Act} {Q : Exit → Act → World → Prop} (hw : Region.wanted op (yielded ops a.tmps) = true) (s x : Operand)
    (ho : op.op = .call { callee := .builtin .append, args := #[s, x], argTypes := #[27, 27] }) (base : Nat) (v : Value) (l : List Pt) (hs : a.eval s = v) (h : Own w base v l) (A : Option Addr) (c : Nat) (m : List Pt) (hx : a.eval x = .slice A m.length c) (hm : PtsR w A m) (hlen : l.length + m.length ≤ 1000000) (hb : base ≤ w.heap.size)
    (hk : ∀ v' w', Own w' base v' (l ++ m) → w.grownBy w' v.ownBlock → wpList Tryd.prog ops Q rest (a.put op.dst v') w') : wpList Tryd.prog ops Q (op :: rest) a w := by
  rw [wpList, if_pos hw]
  left
  obtain ⟨v', w', hr, h2, h3⟩ := run_append_pts w base op.type v l h A c m hm hlen hb
  unfold Oper.wp execOp
  simp only [ho, resolve, invoke, builtin, Sem.run_bind, Sem.run_pure, Result.andThen_ok, List.map_toArray, List.map_cons, List.map_nil, hs, hx, hr]
  exact hk v' w' h2 h3

/-- Growth below the base stays growth. -/
theorem Own.lt {w : World} {base : Nat} {v : Value} {l : List Pt} (h : Own w base v l) : ∀ k, v.ownBlock = some k → base ≤ k := fun k hk => (World.ownsRow.lt h k hk).1
end Go.Proofs.YtcmnmcholfellaaDoor
