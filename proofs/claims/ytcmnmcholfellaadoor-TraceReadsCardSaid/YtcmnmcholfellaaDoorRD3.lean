/-
  The sort of readings, by the shelf's contract.
-/
import Derived.Test.YtcmnmcholfellaaDoorRD2
import Derived.Test.YtcmnmcholfellaaDoorShelfC
import Derived.Test.YtcmnmcholfellaaDoorA1
import Derived.Sort.OwnSorted
import Derived.Shelf.SlSortCmp.NoneTotal
namespace Go.Proofs.YtcmnmcholfellaaDoor
open Go.RowKit Go.Sort

/-- A slice value that owns readings. -/
def OwnC (w : World) (base : Nat) (v : Value) (l : List Cf) : Prop := w.ownsRow base 75 3 v l.length (l.flatMap Cf.cs)

theorem OwnC.nil (w : World) (base : Nat) : OwnC w base (.slice none 0 0) [] := World.ownsRow_nil w base 75 3
theorem OwnC.lt {w : World} {base : Nat} {v : Value} {l : List Cf} (h : OwnC w base v l) : ∀ k, v.ownBlock = some k → base ≤ k := fun k hk => (World.ownsRow.lt h k hk).1
theorem elem_cf : Elem 43 75 3 24 := ⟨Tryd.underlying43, ⟨.agg #[.int .i64 0, .int .i64 0, .int .i64 0], by kernel_rfl, rfl⟩, by omega⟩
theorem OwnC.snoc {w : World} {base : Nat} {v : Value} {l : List Cf} {c : Cf} (h : w.ownsRow base 75 3 v (l.length + 1) (l.flatMap Cf.cs ++ c.cs)) : OwnC w base v (l ++ [c]) := by
  unfold OwnC; rw [List.length_append, List.flatMap_append]; simpa using h

theorem flat_get : ∀ (l : List Cf) (t : Nat), (l.flatMap Cf.cs)[t]? = (l[t / 3]?).bind fun c => c.cs[t % 3]?
  | [], t => by simp
  | c :: r, t => by
    rw [List.flatMap_cons]
    have hc : c.cs.length = 3 := rfl
    by_cases h : t < 3
    · rw [List.getElem?_append_left (by omega), Nat.div_eq_of_lt h, Nat.mod_eq_of_lt h]; rfl
    · rw [List.getElem?_append_right (by omega), hc, flat_get r (t - 3)]
      have e1 : t / 3 = (t - 3) / 3 + 1 := by omega
      have e2 : (t - 3) % 3 = t % 3 := by omega
      rw [e1, e2, List.getElem?_cons_succ]

theorem flat_len : ∀ (l : List Cf), (l.flatMap Cf.cs).length = l.length * 3
  | [] => rfl
  | c :: r => by
    rw [List.flatMap_cons, List.length_append, flat_len r, List.length_cons]
    show 3 + _ = _
    omega

instance : Inhabited Cf := ⟨⟨0, 0, 0⟩⟩

theorem flatK_cf (l : List Cf) : (flatK Cf.cs 3 l.toArray).toList = l.flatMap Cf.cs := by
  apply List.ext_getElem?
  intro t
  by_cases h : t < l.length * 3
  · have hs : t < (flatK Cf.cs 3 l.toArray).size := by simpa using h
    have hd : t / 3 < l.length := by omega
    rw [Array.getElem?_toList, Array.getElem?_eq_getElem hs, flat_get, List.getElem?_eq_getElem hd]
    have hg := get_flatK Cf.cs 3 l.toArray t (by simpa using h)
    rw [getElem!_pos _ t hs] at hg
    rw [hg]
    have e : l.toArray[t / 3]! = l[t / 3] := by simp [hd]
    rw [e]
    have hm : t % 3 < 3 := Nat.mod_lt _ (by omega)
    show _ = (l[t / 3]).cs[t % 3]?
    rw [List.getElem?_eq_getElem (show t % 3 < (l[t / 3]).cs.length from hm), getElem!_pos (l[t / 3]).cs (t % 3) hm]
    rfl
  · rw [List.getElem?_eq_none (by simpa using h), List.getElem?_eq_none (by rw [flat_len]; omega)]

theorem swoC : SWO (ltOf cmpC) where
  irrefl x := by unfold ltOf; rw [cmpC_lt]; exact ltC_irrefl x
  trans x y z h1 h2 := by unfold ltOf at *; rw [cmpC_lt] at *; exact ltC_trans h1 h2
  ntrans x y z h1 h2 := by
    unfold ltOf at *
    rw [cmpC_lt] at *
    cases h : ltC x z
    · rfl
    · rw [ltC_iff] at h
      have e1 : ¬ ltC x y = true := by rw [h1]; simp
      have e2 : ¬ ltC y z = true := by rw [h2]; simp
      rw [ltC_iff] at e1 e2
      omega
theorem cmpLays (blk off size : Nat) (w : World) : CmpLays Tryd.prog 49 #[] Cf.cs 3 cmpC blk off size w :=
  fun _ _ _ _ x y => cmpC_any x y _

theorem heap_sortedK {w : World} {g n : Nat} {os : Array Obj} {cur : Array Value} {e : TypeId} {fr : Nat × Nat} (d : Array Value) (hb : w.heap[g]? = some (.cells cur e fr)) :
    (grow (putRow id (Sort.ahead w n) g 0 d) os).heap[g]? = some (.cells (putCells id 0 d cur) e fr) := by
  have hg : g < w.heap.size := (Array.getElem?_eq_some_iff.1 hb).1
  rw [heap_grow_old _ _ (by simpa using hg)]
  simp [putRow, mapBlock, Sort.ahead, Array.getElem?_modify, hb, onCells]

theorem grownBy_sortedK {w : World} {g n : Nat} {os : Array Obj} (d : Array Value) : w.grownBy (grow (putRow id (Sort.ahead w n) g 0 d) os) (some g) := by
  refine ⟨rfl, rfl, rfl, by simp, fun k hk hne => ?_⟩
  rw [heap_grow_old _ _ (by simpa using hk)]
  have : g ≠ k := fun e => hne (by rw [e])
  simp [putRow, mapBlock, Sort.ahead, Array.getElem?_modify, this]

theorem take_putCellsK (cur : Array Value) (ts : List Value) (h : ts.length ≤ cur.size) : (putCells id 0 ts.toArray cur).toList.take ts.length = ts := by
  apply List.ext_getElem?
  intro j
  by_cases hj : j < ts.length
  · rw [List.getElem?_take_of_lt hj, Array.getElem?_toList]
    simp [putCells, hj, show j < cur.size by omega]
  · rw [List.getElem?_take_eq_none (by omega), List.getElem?_eq_none (by omega)]

/-- What the sort leaves. -/
def SortCPost (l : List Cf) (base : Nat) (v : Value) (w : World) (e : Ending) (w' : World) : Prop :=
  e = .returned (.tuple #[]) ∧ ∃ l' : List Cf, OwnC w' base v l' ∧ l'.Perm l ∧ l'.Pairwise (fun a b => ltC b a = false) ∧ w.grownBy w' v.ownBlock

theorem sortC_some (l : List Cf) (hl : l.length ≤ 1000000) (base g cap : Nat) (w : World) (h : OwnC w base (.slice (some ⟨g, 0, none⟩) l.length cap) l) :
    Calls Tryd.prog 48 #[.slice (some ⟨g, 0, none⟩) l.length cap, .func (.func 49) #[] #[]] w (SortCPost l base (.slice (some ⟨g, 0, none⟩) l.length cap) w) := by
  have eg : ∀ args w, (callFunc 49 args).run Tryd.prog w = .ok (.enter 49 args) w := enters_of Tryd.func49 (by kernel_rfl) rfl
  rcases h.2 with ⟨hv, _⟩ | ⟨g', cap', cur, hv, hbase, hb, h1, h2, h3, h4⟩
  · cases hv
  · injection hv with e1 _ e2
    injection e1 with e1
    injection e1 with e1
    subst e1; subst e2
    have hH : HoldsK Cf.cs 3 w g 0 l.toArray := by
      intro j hj
      have hj' : j < l.length * 3 := by simpa using hj
      have hjf : j < (l.flatMap Cf.cs).length := by rw [flat_len]; exact hj'
      refine ⟨?_, by simp [World.frozen?, hb]⟩
      have hc := World.ownsRow.cells h (g := g) rfl j _ (List.getElem?_eq_getElem hjf)
      rw [Addr.add_mid] at hc
      rw [hc]
      congr 1
      have hs : j < (flatK Cf.cs 3 l.toArray).size := by simpa using hj'
      rw [getElem!_pos _ j hs]
      have := flatK_cf l
      show _ = (flatK Cf.cs 3 l.toArray)[j]
      rw [← Array.getElem_toList]
      simp only [this]
    have hgl : g < w.heap.size := (Array.getElem?_eq_some_iff.1 hb).1
    have hcon := AnyQ.slices_SortFunc Tryd.sortCf 3 Tryd.isAgg75 Tryd.sizeOf75 Cf.cs (fun _ => rfl) (fun x v hv => by simp [Cf.cs] at hv; rcases hv with rfl | rfl | rfl <;> rfl) cmpC swoC 49 #[] g 0 cap l.toArray w eg (cmpLays g 0 _ w) hH hgl (by simp; omega)
    change Calls Tryd.prog 48 _ _ _ at hcon
    simp only [List.size_toArray] at hcon
    refine hcon.mono fun e w' ⟨he, d', n, os, hp, hs, hw⟩ => ⟨he, d'.toList, ?_, ?_, ?_, ?_⟩
    · have hd : d'.size = l.length := by have := hp.1; simpa using this
      subst hw
      have hlen : (d'.toList).length = l.length := by simpa using hd
      have hfl : ((d'.toList).flatMap Cf.cs).length = l.length * 3 := by rw [flat_len, hlen]
      refine ⟨by rw [hfl, hlen], .inr ⟨g, cap, _, by rw [hlen], hbase, heap_sortedK _ hb, by rw [hlen]; exact h1, h2, by simp [putCells, h3], ?_⟩⟩
      have e5 : flatK Cf.cs 3 d' = ((d'.toList).flatMap Cf.cs).toArray := by
        have := flatK_cf d'.toList
        rw [← this]
      rw [e5, hlen, ← hfl]
      exact take_putCellsK _ _ (by rw [hfl, h3]; exact Nat.mul_le_mul_right 3 h1)
    · have := hp.2.2
      have hd : d'.size = l.length := by have := hp.1; simpa using this
      rw [← hd, Array.extract_size] at this
      rw [hd] at this
      simpa using this
    · rw [List.pairwise_iff_getElem]
      intro i j hi hj hij
      have hd : d'.size = l.length := by have := hp.1; simpa using this
      have := hs i j (by omega) hij (by simpa [hd] using hj)
      unfold ltOf at this
      rw [cmpC_lt, getElem!_pos d' j (by simpa using hj), getElem!_pos d' i (by simpa using hi)] at this
      simpa using this
    · subst hw
      exact grownBy_sortedK _

theorem sortC_any (l : List Cf) (hl : l.length ≤ 1000000) (base : Nat) (v : Value) (w : World) (h : OwnC w base v l) :
    Calls Tryd.prog 48 #[v, .func (.func 49) #[] #[]] w (SortCPost l base v w) := by
  have h0 := h
  rcases h.2 with ⟨rfl, hn⟩ | ⟨g, cap, cur, rfl, _⟩
  · have hl0 : l = [] := List.eq_nil_of_length_eq_zero hn
    subst hl0
    refine (AnyF.slices_SortFunc_none Tryd.sortCf none 0 (.func (.func 49) #[] #[]) w).mono fun e w' ⟨he, hw⟩ => ?_
    subst hw
    exact ⟨he, [], h0, List.Perm.refl _, List.Pairwise.nil, grown_refl _ _⟩
  · exact sortC_some l hl base g cap w h0
end Go.Proofs.YtcmnmcholfellaaDoor
