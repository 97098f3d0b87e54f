/-
  Walks: readings counted, in package trace.
-/
import Derived.Test.YtcmnmcholfellaaDoorRD3
import Derived.Test.YtcmnmcholfellaaDoorRD4
import Derived.Test.YtcmnmcholfellaaDoorF3
import Derived.Test.YtcmnmcholfellaaDoorQ2
import Derived.Maps.RangeRun
namespace Go.Proofs.YtcmnmcholfellaaDoor
open Go.RowKit

theorem zero3 (w : World) : (zeroValue 3).run Tryd.prog w = .ok (.int .i64 0) w := by kernel_rfl

theorem look_cf {w : World} {b : Nat} {M : List (Cf × Int)} (hm : MapAt Cf.v w b (encM M)) (c : Cf) :
    (Instr.lookup 73 (.map (some b)) c.v false).run Tryd.prog w = .ok (.int .i64 (getI M c)) w := by
  rw [lookup_run keyOk_cf Tryd.underlying73 zero3 hm c false, getV_enc]; rfl

theorem getV_addK (l : List (Cf × Value)) (c : Cf) (z : Value) : getV (addK l c z) c z = getV l c z := by
  unfold addK
  cases h : fnd c l 0 with
  | some x => rfl
  | none =>
    have key : ∀ (m : List (Cf × Value)) (i : Nat), fnd c m i = none → fnd c (m ++ [(c, z)]) i = some (i + m.length, z) := by
      intro m
      induction m with
      | nil => intro i _; simp [fnd]
      | cons x r ih =>
        intro i hi
        rw [fnd] at hi
        split at hi
        · cases hi
        · rename_i hne
          rw [List.cons_append, fnd, if_neg hne, ih (i + 1) hi]
          simp; omega
    unfold getV
    rw [h, key l 0 h]

theorem look_cf2 {w : World} {b : Nat} {M : List (Cf × Int)} {c : Cf} (hm : MapAt Cf.v w b (addK (encM M) c (.int .i64 0))) :
    (Instr.lookup 73 (.map (some b)) c.v false).run Tryd.prog w = .ok (.int .i64 (getI M c)) w := by
  rw [lookup_run keyOk_cf Tryd.underlying73 zero3 hm c false, getV_addK, getV_enc]; rfl

theorem entry_cf {w : World} {b : Nat} {M : List (Cf × Int)} (hm : MapAt Cf.v w b (encM M)) (c : Cf) :
    ∃ w', (Instr.mapEntry 73 (.map (some b)) c.v).run Tryd.prog w = .ok (.tuple #[.int .i64 (getI M c), .int .i64 (idxK (encM M) c)]) w' ∧ MapAt Cf.v w' b (addK (encM M) c (.int .i64 0)) ∧ w.grownBy w' (some b) ∧ w'.heap.size = w.heap.size := by
  obtain ⟨w', h1, h2⟩ := mapEntry_run keyOk_cf Tryd.underlying73 zero3 hm c
  rw [getV_enc] at h1
  exact ⟨w', h1, h2⟩

theorem store_cf {w : World} {b : Nat} {M : List (Cf × Int)} {c : Cf} (hm : MapAt Cf.v w b (addK (encM M) c (.int .i64 0))) :
    ∃ w', (Instr.entryStore 73 (.map (some b)) (.int .i64 (idxK (encM M) c)) (.int .i64 (getI M c + 1))).run Tryd.prog w = .ok () w' ∧ MapAt Cf.v w' b (encM (bumpL M c)) ∧ w.grownBy w' (some b) ∧ w'.heap.size = w.heap.size := by
  obtain ⟨w', h1, h2, h3⟩ := entryStore_run (P := Tryd.prog) (MT := 73) hm (bump_enc c M).2 (.int .i64 (getI M c + 1))
  rw [(bump_enc c M).1] at h2
  exact ⟨w', h1, h2, h3⟩

theorem MapAt.keep {w w' : World} {b : Nat} {l : List (Cf × Value)} (h : MapAt Cf.v w b l) (hk : w'.heap[b]? = w.heap[b]?) : MapAt Cf.v w' b l := hk.trans h
theorem MapAt.blt {w : World} {b : Nat} {l : List (Cf × Value)} (h : MapAt Cf.v w b l) : b < w.heap.size := (Array.getElem?_eq_some_iff.1 h).1
theorem MapAt.below {w w' : World} {b : Nat} {l : List (Cf × Value)} (h : MapAt Cf.v w b l) (hb : Below w.heap.size w w') : MapAt Cf.v w' b l := h.keep (hb.block b h.blt)

theorem range_cf {w : World} {b : Nat} {l : List (Cf × Value)} (hm : MapAt Cf.v w b l) :
    (Instr.range 73 (.map (some b))).run Tryd.prog w = .ok (.pointer (some ⟨w.heap.size, 0, none⟩)) (w.alloc (.mapIter (some b) l.length #[] l.length)) := by
  unfold Instr.range
  simp only [Sem.run_bind, run_underlying Tryd.underlying73, Result.andThen_ok, gobj hm, Sem.run_pure]
  rfl

theorem ents_mem {l : List (Cf × Value)} {e : MapEntry} (h : e ∈ ents Cf.v 0 l) : ∃ j, ∃ hj : j < l.length, e = ⟨(l[j]).1.v, (l[j]).2, j⟩ := by
  obtain ⟨j, hj, rfl⟩ := List.getElem_of_mem h
  have hl : j < l.length := by rw [ents_length] at hj; exact hj
  refine ⟨j, hl, ?_⟩
  have h1 := ents_get Cf.v l 0 j
  rw [List.getElem?_eq_getElem hj, List.getElem?_eq_getElem hl] at h1
  simpa using h1

theorem ents_at {l : List (Cf × Value)} {j : Nat} (hj : j < l.length) : (⟨(l[j]).1.v, (l[j]).2, j⟩ : MapEntry) ∈ ents Cf.v 0 l := by
  have h1 := ents_get Cf.v l 0 j
  rw [List.getElem?_eq_getElem hj] at h1
  have := List.mem_of_getElem? h1
  simpa using this

theorem ents_born {l : List (Cf × Value)} : ∀ i, ((ents Cf.v i l).map (·.born)).Nodup ∧ ∀ x ∈ (ents Cf.v i l).map (·.born), i ≤ x := by
  induction l with
  | nil => intro i; simp [ents]
  | cons a r ih =>
    intro i
    obtain ⟨h1, h2⟩ := ih (i + 1)
    simp only [ents, List.map_cons, List.nodup_cons, List.mem_cons]
    refine ⟨⟨fun hm => by have := h2 _ hm; omega, h1⟩, fun x hx => ?_⟩
    rcases hx with rfl | hx
    · exact Nat.le_refl _
    · have := h2 x hx; omega

/-- One step of a range over a map that is not written. -/
theorem next_cf {w : World} {r B : Nat} {M : List (Cf × Int)} {js : List Nat} (hit : w.heap[r]? = some (.mapIter (some B) M.length js.toArray M.length)) (hm : MapAt Cf.v w B (encM M)) :
    ((∀ j, j < M.length → j ∈ js) ∧ (Instr.next (.pointer (some ⟨r, 0, none⟩)) false 0).run Tryd.prog w = .ok (.tuple #[.bool false]) w) ∨
    ∃ j, ∃ hj : j < M.length, ∃ w1 : World, j ∉ js ∧ (Instr.next (.pointer (some ⟨r, 0, none⟩)) false 0).run Tryd.prog w = .ok (.tuple #[.bool true, (M[j]).1.v, .int .i64 (M[j]).2]) w1 ∧ w1.heap[r]? = some (.mapIter (some B) M.length (js ++ [j]).toArray M.length) ∧ MapAt Cf.v w1 B (encM M) ∧ w.grownBy w1 (some r) ∧ w1.heap.size = w.heap.size ∧
      (Instr.entry (.pointer (some ⟨r, 0, none⟩))).run Tryd.prog w1 = .ok (.tuple #[(M[j]).1.v, .int .i64 (M[j]).2]) w1 := by
  have hne : r ≠ B := fun e => by subst e; unfold MapAt at hm; rw [hit] at hm; cases hm
  have hm' : w.heap[B]? = some (.map (ents Cf.v 0 (encM M)).toArray M.length) := by have := hm; unfold MapAt at this; rwa [encM_length] at this
  have hold : ∀ x ∈ (ents Cf.v 0 (encM M)).toArray.toList, x.born < M.length := fun x hx => by
    obtain ⟨j, hj, rfl⟩ := ents_mem (by simpa using hx)
    rw [encM_length] at hj; exact hj
  rcases run_next_at (P := Tryd.prog) w 0 r B M.length M.length js.toArray _ M.length hit hm' hold (Nat.le_refl _) with ⟨h0, hrun⟩ | ⟨e, he, w1, hw1, hrun⟩
  · refine .inl ⟨fun j hj => ?_, hrun⟩
    have hj' : j < (encM M).length := by rw [encM_length]; exact hj
    have h1 : leftOf (ents Cf.v 0 (encM M)).toArray js.toArray = #[] := Array.eq_empty_of_size_eq_zero h0
    unfold leftOf at h1
    rw [Array.filter_eq_empty_iff] at h1
    have := h1 ⟨((encM M)[j]).1.v, ((encM M)[j]).2, j⟩ (by simpa using ents_at hj')
    simpa using this
  · have he' : e ∈ ents Cf.v 0 (encM M) ∧ js.toArray.contains e.born = false := by
      unfold leftOf at he
      simpa using he
    obtain ⟨j, hj, rfl⟩ := ents_mem he'.1
    have hj' : j < M.length := by rw [encM_length] at hj; exact hj
    have hk : (encM M)[j] = ((M[j]).1, Value.int .i64 (M[j]).2) := by simp [encM]
    have hr1 : w1.heap[r]? = some (.mapIter (some B) M.length js.toArray M.length) := by rcases hw1 with rfl | rfl <;> exact hit
    have hb1 : w1.heap[B]? = some (.map (ents Cf.v 0 (encM M)).toArray M.length) := by rcases hw1 with rfl | rfl <;> exact hm'
    have hg1 : w.grownBy w1 (some r) := by rcases hw1 with rfl | rfl; exact grown_refl _ _; exact grown_drew (grown_refl _ _)
    have hs1 : w1.heap.size = w.heap.size := by rcases hw1 with rfl | rfl <;> rfl
    have hit2 : (Go.ChangeMaps.setBlock w1 r (.mapIter (some B) M.length (js.toArray.push j) M.length)).heap[r]? = some (.mapIter (some B) M.length (js.toArray.push j) M.length) := heap_set hr1
    have hB2 : (Go.ChangeMaps.setBlock w1 r (.mapIter (some B) M.length (js.toArray.push j) M.length)).heap[B]? = w1.heap[B]? := by
      have := (grown_set w1 r (.mapIter (some B) M.length (js.toArray.push j) M.length)).block B (Array.getElem?_eq_some_iff.1 hb1).1 (fun e => hne (Option.some.inj e).symm)
      exact this
    refine .inr ⟨j, hj', Go.ChangeMaps.setBlock w1 r (.mapIter (some B) M.length (js.toArray.push j) M.length), fun hin => ?_, ?_, ?_, ?_, hg1.trans (grown_set w1 r _), ?_, ?_⟩
    · have := he'.2; simp at this; exact this hin
    · rw [hrun, hk]
    · rw [hit2]; simp
    · exact hm.keep (hB2.trans (by rcases hw1 with rfl | rfl <;> rfl))
    · rw [← hs1]; exact size_set w1 r _
    · have := run_entry_at (P := Tryd.prog) _ r B M.length js.toArray _ M.length ⟨((encM M)[j]).1.v, ((encM M)[j]).2, j⟩ hit2 (hB2.trans hb1) (by simpa using ents_at hj) (by simpa using (ents_born (l := encM M) 0).1)
      rw [hk] at this
      exact this

/-- The readings of points. -/
def rdL (l : List Pt) : List Cf := (l.filter fun p => !delK 1 p).map cfOf

/-- A slice of readings. -/
def CfsR (w : World) (A : Option Addr) (l : List Cf) : Prop := l ≠ [] → ∃ b o, A = some ⟨b, o, none⟩ ∧ w.rangeAt b o (l.flatMap Cf.cs)
/-- A slice of numbers. -/
def IntsR (w : World) (A : Option Addr) (l : List Int) : Prop := l ≠ [] → ∃ b o, A = some ⟨b, o, none⟩ ∧ w.rangeAt b o (l.map (Value.int .i64))

def ReadsPost (L : List Cf) (w : World) (e : Ending) (w' : World) : Prop :=
  ∃ (A B : Option Addr) (c d : Nat) (As : List Cf) (Ns : List Int), e = .returned (.tuple #[.slice A As.length c, .slice B Ns.length d]) ∧ RdOut L As Ns ∧ CfsR w' A As ∧ IntsR w' B Ns ∧ Below w.heap.size w w'

/-- The state of the counting loop. -/
structure CtSt (F : List Pt) (A1 : Option Addr) (w : World) (i : Nat) (wr : World) : Prop where
  pts : PtsR wr A1 F
  map : MapAt Cf.v wr w.heap.size (encM (cnts ((F.take i).map cfOf)))
  bel : Below w.heap.size w wr

theorem cell_map {w : World} {B o : Nat} {m : List (Cf × Value)} {v : Value} (hm : MapAt Cf.v w B m) (h : w.cell? ⟨B, o, none⟩ = some v) : False := by
  unfold MapAt at hm
  simp [World.cell?, hm] at h

theorem cell_grown {w w' : World} {B b o : Nat} {m : List (Cf × Value)} {v : Value} (h : w.cell? ⟨b, o, none⟩ = some v) (hm : MapAt Cf.v w B m) (hg : w.grownBy w' (some B)) : w'.cell? ⟨b, o, none⟩ = some v := by
  have hne : b ≠ B := fun e => by subst e; exact cell_map hm h
  have hk := hg.block b (lt_of_cell h) (fun e => hne (Option.some.inj e))
  exact (World.cell?_of_block (a := ⟨b, o, none⟩) hk).trans h

theorem PtsR.map_grown {w w' : World} {B : Nat} {A : Option Addr} {l : List Pt} {m : List (Cf × Value)} (h : PtsR w A l) (hm : MapAt Cf.v w B m) (hg : w.grownBy w' (some B)) : PtsR w' A l := fun hn => by
  obtain ⟨b, o, e, hi⟩ := h hn
  have hne : b ≠ B := fun e => by
    subst e
    cases l with
    | nil => exact hn rfl
    | cons p r => exact cell_map hm (hi 0 p rfl).c0
  exact ⟨b, o, e, hi.keep (hg.block b (hi.lt hn) (fun e => hne (Option.some.inj e)))⟩

/-- The state of the range loop: the places that have come. -/
structure RgSt (M : List (Cf × Int)) (w : World) (r : Nat) (js : List Nat) (v : Value) (wr : World) : Prop where
  map : MapAt Cf.v wr w.heap.size (encM M)
  it : wr.heap[r]? = some (.mapIter (some w.heap.size) M.length js.toArray M.length)
  nd : js.Nodup
  lt : ∀ j ∈ js, j < M.length
  own : OwnC wr (r + 1) v (js.map fun j => (M.getD j default).1)
  bel : Below w.heap.size w wr

theorem js_len : ∀ (n : Nat) {js : List Nat}, js.Nodup → (∀ j ∈ js, j < n) → js.length ≤ n
  | 0, js, _, hl => by
    cases js with
    | nil => exact Nat.le_refl _
    | cons x r => exact absurd (hl x (List.mem_cons_self ..)) (by omega)
  | n + 1, js, hn, hl => by
    have ih := js_len n (js := js.erase n) (hn.erase n) (fun j hj => by
      have h1 := hl j (List.mem_of_mem_erase hj)
      have h2 : j ≠ n := fun e => by subst e; exact hn.not_mem_erase hj
      omega)
    rw [List.length_erase] at ih
    split at ih <;> omega

theorem js_all {js : List Nat} {M : List (Cf × Int)} (hn : js.Nodup) (hl : ∀ j ∈ js, j < M.length) (ha : ∀ j, j < M.length → j ∈ js) : (js.map fun j => (M.getD j default).1).Perm (M.map (·.1)) := by
  have hp : js.Perm (List.range M.length) := (List.perm_ext_iff_of_nodup hn List.nodup_range).2 fun j => by
    rw [List.mem_range]; exact ⟨hl j, ha j⟩
  have := hp.map (fun j => (M.getD j default).1)
  have e : (List.range M.length).map (fun j => (M.getD j default).1) = M.map (·.1) := by
    apply List.ext_getElem?
    intro k
    by_cases hk : k < M.length
    · simp [List.getD, hk]
    · rw [List.getElem?_eq_none (by simpa using hk), List.getElem?_eq_none (by simpa using hk)]
  rwa [e] at this

theorem OwnC.reads {w : World} {base : Nat} {v : Value} {l : List Cf} (h : OwnC w base v l) : ∃ A c, v = .slice A l.length c ∧ CfsR w A l := by
  rcases h.2 with ⟨hv, h0⟩ | ⟨g, cap, cur, hv, _, hg, _, _, _, ht⟩
  · have : l = [] := List.eq_nil_of_length_eq_zero h0
    subst this
    exact ⟨none, 0, hv, fun h => absurd rfl h⟩
  · refine ⟨some ⟨g, 0, none⟩, cap, hv, fun _ => ⟨g, 0, rfl, fun j u hj => ?_⟩⟩
    have := World.ownsRow.cells h (g := g) (by rw [hv]; rfl) j u hj
    rwa [Addr.add_mid] at this

theorem CfsR.below {w w' : World} {A : Option Addr} {l : List Cf} (h : CfsR w A l) (hb : Below w.heap.size w w') : CfsR w' A l := fun hn => by
  obtain ⟨b, o, e, hi⟩ := h hn
  exact ⟨b, o, e, fun j u hj => below_cell hb (hi j u hj)⟩

theorem CfsR.at_ {w : World} {A : Option Addr} {l : List Cf} (h : CfsR w A l) {k : Nat} (hk : k < l.length) : ∃ b o, A = some ⟨b, o, none⟩ ∧ w.cell? ⟨b, o + k * 3, none⟩ = some (.int .i64 (l[k]).t) ∧ w.cell? ⟨b, o + k * 3 + 1, none⟩ = some (.int .i64 (l[k]).w) ∧ w.cell? ⟨b, o + k * 3 + 2, none⟩ = some (.int .i64 (l[k]).r) := by
  obtain ⟨b, o, e, hi⟩ := h (fun e => by subst e; simp at hk)
  have g : ∀ j, j < 3 → (l.flatMap Cf.cs)[k * 3 + j]? = (l[k]).cs[j]? := fun j hj => by
    rw [flat_get, show (k * 3 + j) / 3 = k by omega, show (k * 3 + j) % 3 = j by omega, List.getElem?_eq_getElem hk]; rfl
  refine ⟨b, o, e, ?_, ?_, ?_⟩
  · exact hi (k * 3) _ (g 0 (by omega))
  · have := hi (k * 3 + 1) _ (g 1 (by omega)); rwa [← Nat.add_assoc] at this
  · have := hi (k * 3 + 2) _ (g 2 (by omega)); rwa [← Nat.add_assoc] at this

/-- A slice value that owns numbers of type int. -/
def OwnJ (w : World) (base : Nat) (v : Value) (l : List Int) : Prop := w.ownsRow base 3 1 v l.length (l.map (Value.int .i64))
theorem OwnJ.nil (w : World) (base : Nat) : OwnJ w base (.slice none 0 0) [] := World.ownsRow_nil w base 3 1
theorem OwnJ.lt {w : World} {base : Nat} {v : Value} {l : List Int} (h : OwnJ w base v l) : ∀ k, v.ownBlock = some k → base ≤ k := fun k hk => (World.ownsRow.lt h k hk).1
theorem OwnJ.snoc {w : World} {base : Nat} {v : Value} {l : List Int} {x : Int} (h : w.ownsRow base 3 1 v (l.length + 1) (l.map (Value.int .i64) ++ [.int .i64 x])) : OwnJ w base v (l ++ [x]) := by
  unfold OwnJ; rw [List.length_append, List.map_append]; exact h
theorem elem_int : Elem 44 3 1 8 := ⟨Tryd.underlying44, ⟨.int .i64 0, by kernel_rfl, rfl⟩, by omega⟩
theorem OwnJ.reads {w : World} {base : Nat} {v : Value} {l : List Int} (h : OwnJ w base v l) : ∃ A c, v = .slice A l.length c ∧ IntsR w A l := by
  rcases h.2 with ⟨hv, h0⟩ | ⟨g, cap, cur, hv, _, hg, _, _, _, ht⟩
  · have : l = [] := List.eq_nil_of_length_eq_zero h0
    subst this
    exact ⟨none, 0, hv, fun h => absurd rfl h⟩
  · refine ⟨some ⟨g, 0, none⟩, cap, hv, fun _ => ⟨g, 0, rfl, fun j u hj => ?_⟩⟩
    have := World.ownsRow.cells h (g := g) (by rw [hv]; rfl) j u hj
    rwa [Addr.add_mid] at this

theorem ownsRow_grown {w w' : World} {base E size r : Nat} {v : Value} {n : Nat} {xs : List Value} (h : w.ownsRow base E size v n xs) (hg : w.grownBy w' (some r)) (hr : r < base) : w'.ownsRow base E size v n xs := by
  refine ⟨h.1, ?_⟩
  rcases h.2 with h0 | ⟨g, cap, cur, hv, hg0, hh, h1⟩
  · exact .inl h0
  · exact .inr ⟨g, cap, cur, hv, hg0, (hg.block g (Array.getElem?_eq_some_iff.1 hh).1 (fun e => by have := Option.some.inj e; omega)).trans hh, h1⟩

theorem grown_block {w w' : World} {row : Option Nat} {b : Nat} (hg : w.grownBy w' row) (hb : b < w.heap.size) (hne : ∀ k, row = some k → b ≠ k) : w'.heap[b]? = w.heap[b]? :=
  hg.block b hb (fun e => hne b e.symm rfl)
end Go.Proofs.YtcmnmcholfellaaDoor
