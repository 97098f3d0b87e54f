/-
  append of one element onto a slice that the call owns, whatever the type.
-/
import Derived.Test.YtcmnmcholfellaaDoorA0
namespace Go.Proofs.YtcmnmcholfellaaDoor
open Go.RowKit

/-- What a slice type's append needs to know of the types. -/
structure Elem (T E : TypeId) (size bytes : Nat) : Prop where
  under : Tryd.prog.underlying T = some (.slice E)
  info : ∃ z, (Tryd.prog.info? E).map (fun i => (i.zero, i.size, i.bytes)) = some (some z, size, bytes) ∧ z.cells.size = size
  pos : 0 < size

/-- One element appended: the run. -/
theorem run_append_one {T E : TypeId} {size bytes : Nat} (hE : Elem T E size bytes) (w : World) (base : Nat) (ty : TypeId) (v : Value) (n : Nat) (xs : List Value) (h : w.ownsRow base E size v n xs) (b o c : Nat) (news : List Value) (hl : news.length = size)
    (hnews : w.rangeAt b o news) (h1 : ∀ u ∈ news, u.oneCell' = true) (hlen : n + 1 ≤ 1000000) (hby : bytes ≤ 100000) (hb : base ≤ w.heap.size) :
    ∃ v' w', (Builtin.append_ #[T, T] ty #[v, .slice (some ⟨b, o, none⟩) 1 c]).run Tryd.prog w = .ok v' w' ∧ w'.ownsRow base E size v' (n + 1) (xs ++ news) ∧ w.grownBy w' v.ownBlock := by
  obtain ⟨z, hinf, hzs⟩ := hE.info
  obtain ⟨i0, hi, hz0, hz1, hz2⟩ := info_parts hinf
  have hbb : (n + 1) * bytes ≤ 140737488355328 := Nat.le_trans (Nat.mul_le_mul hlen hby) (by omega)
  obtain ⟨v', w', hr, h2, h3, _, _⟩ := run_append_own_at (P := Tryd.prog) w base T ty E i0 z size bytes hE.under hi hz0 hz1 hz2 hzs hE.pos v n xs h ⟨b, o, none⟩ 1 c news (by omega) (fun j u hj => by rw [Addr.add_mid]; exact hnews j u hj) h1 (by unfold maxLen; omega) hbb hb
  exact ⟨v', w', hr, h2, h3⟩

/-- .. at the operation of a plain region. -/
theorem wpList_append_one {T E : TypeId} {size bytes : Nat} (hE : Elem T E size bytes) (w : World) {ops : Array Oper} {rest : List Oper} {op : Oper} {a : Act} {Q : Exit → Act → World → Prop} (hgd : op.guard = none) (s x : Operand)
    (ho : op.op = .call { callee := .builtin .append, args := #[s, x], argTypes := #[T, T] }) (base : Nat) (v : Value) (n : Nat) (xs : List Value) (hs : a.eval s = v) (h : w.ownsRow base E size v n xs) (b o c : Nat) (news : List Value) (hx : a.eval x = .slice (some ⟨b, o, none⟩) 1 c)
    (hl : news.length = size) (hnews : w.rangeAt b o news) (h1 : ∀ u ∈ news, u.oneCell' = true) (hlen : n + 1 ≤ 1000000) (hby : bytes ≤ 100000) (hb : base ≤ w.heap.size)
    (hk : ∀ v' w', w'.ownsRow base E size v' (n + 1) (xs ++ news) → w.grownBy w' v.ownBlock → wpList Tryd.prog ops Q rest (a.put op.dst v') w') : wpList Tryd.prog ops Q (op :: rest) a w := by
  refine wpList_plain hgd fun K hK => ?_
  obtain ⟨v', w', hr, h2, h3⟩ := run_append_one hE w base op.type v n xs h b o c news hl hnews h1 hlen hby hb
  unfold Oper.wp execOp
  simp only [ho, resolve, invoke, builtin, Sem.run_bind, Sem.run_pure, Result.andThen_ok, List.map_toArray, List.map_cons, List.map_nil, hs, hx, hr]
  exact hK _ _ (hk v' w' h2 h3)

/-- A new block of cells, read. -/
theorem range_new (w : World) (cs : List Value) (t : TypeId) : (w.alloc (.cells cs.toArray t)).rangeAt w.heap.size 0 cs := fun j u hj => by
  rw [Nat.zero_add, cell_of_row _ _ _ _ _ _ (heap_alloc_new w _)]
  simpa using hj

/-- A slice value that owns numbers. -/
def OwnI (w : World) (base : Nat) (v : Value) (l : List Int) : Prop := w.ownsRow base 2 1 v l.length (l.map (Value.int .i64))

theorem OwnI.nil (w : World) (base : Nat) : OwnI w base (.slice none 0 0) [] := World.ownsRow_nil w base 2 1

theorem OwnI.reads {w : World} {base : Nat} {v : Value} {l : List Int} (h : OwnI w base v l) : ∃ A c, v = .slice A l.length c ∧ l.length ≤ c ∧ c ≤ 9223372036854775807 ∧ (l ≠ [] → ∃ g, A = some ⟨g, 0, none⟩ ∧ ∀ k x, l[k]? = some x → w.cell? ⟨g, k, none⟩ = some (.int .i64 x)) := by
  rcases h.2 with ⟨hv, h0⟩ | ⟨g, cap, cur, hv, _, hg, hnc, hcm, _, ht⟩
  · have : l = [] := List.eq_nil_of_length_eq_zero h0
    subst this
    exact ⟨none, 0, hv, Nat.le_refl _, by omega, fun h => absurd rfl h⟩
  · unfold maxLen at hcm
    refine ⟨some ⟨g, 0, none⟩, cap, hv, hnc, by omega, fun _ => ⟨g, rfl, fun k x hk => ?_⟩⟩
    have := World.ownsRow.cells h (g := g) (by rw [hv]; rfl) k (.int .i64 x) (by rw [List.getElem?_map, hk]; rfl)
    rwa [Addr.add_mid, Nat.zero_add] at this

theorem OwnI.lt {w : World} {base : Nat} {v : Value} {l : List Int} (h : OwnI w base v l) : ∀ k, v.ownBlock = some k → base ≤ k := fun k hk => (World.ownsRow.lt h k hk).1

theorem elem_i64 : Elem 54 2 1 8 := ⟨Tryd.underlying54, ⟨.int .i64 0, by kernel_rfl, rfl⟩, by omega⟩

theorem OwnI.snoc {w : World} {base : Nat} {v : Value} {l : List Int} {x : Int} (h : w.ownsRow base 2 1 v (l.length + 1) (l.map (Value.int .i64) ++ [.int .i64 x])) : OwnI w base v (l ++ [x]) := by
  unfold OwnI; rw [List.length_append, List.map_append]; exact h
end Go.Proofs.YtcmnmcholfellaaDoor
