/-
  Rows of symbols and members that are written in place; the decimal text of a number.
-/
import Derived.Test.YtkhpajneinmmiaaGreatDoorQCP2
import Derived.Test.YtkhpajneinmmiaaGreatDoorQPL
import Derived.Test.YtkhpajneinmmiaaGreatDoorShelf
import Derived.Lib.AppendIntMem
namespace Go.Proofs.YtkhpajneinmmiaaGreatDoor
open Go.RowKit

/-- The table of powers of ten that Itoa reads. -/
def Tab (w : World) : Prop := Lib.TabIs Tryz.prog w "internal/strconv.uint64pow10" .u64 Lib.pow10Tab
theorem Tab.below {w w' : World} (h : Tab w) (hb : Below w.heap.size w w') : Tab w' := Lib.tabBelow_of_tabIs h w' hb
theorem itoa_any (n : Int) (hn : In64 n) (w : World) (ht : Tab w) :
    Calls Tryz.prog 51 #[.int .i64 n] w fun e w' => e = .returned (.string (decB n)) ∧ Below w.heap.size w w' :=
  (Tryz.strconv_Itoa n hn.1 hn.2 w ht).mono fun e w' ⟨he, k, os, hw⟩ => ⟨he, by subst hw; exact Lib.below_grow _ _ (Nat.le_refl _) _ _⟩

/-- The first i elements of a list are changed. -/
def mapTo {α : Type} (f : α → α) (i : Nat) (l : List α) : List α := (l.take i).map f ++ l.drop i
section
variable {α : Type} {f : α → α}
theorem mapTo_zero (l : List α) : mapTo f 0 l = l := by simp [mapTo]
theorem mapTo_all {l : List α} {i : Nat} (h : l.length ≤ i) : mapTo f i l = l.map f := by
  unfold mapTo; rw [List.take_of_length_le h, List.drop_eq_nil_of_le h, List.append_nil]
theorem mapTo_len (i : Nat) (l : List α) : (mapTo f i l).length = l.length := by
  unfold mapTo; rw [List.length_append, List.length_map, List.length_take, List.length_drop]; omega
theorem mapTo_at {l : List α} {i : Nat} (h : i < l.length) (h' : i < (mapTo f i l).length) : (mapTo f i l)[i] = l[i] := by
  apply Option.some.inj
  rw [← List.getElem?_eq_getElem h', ← List.getElem?_eq_getElem h]
  unfold mapTo
  rw [List.getElem?_append_right (by simp; omega)]
  simp [Nat.min_eq_left (Nat.le_of_lt h)]
theorem mapTo_set {l : List α} {i : Nat} (h : i < l.length) : (mapTo f i l).set i (f l[i]) = mapTo f (i + 1) l := by
  unfold mapTo
  have hl : ((l.take i).map f).length = i := by simp; omega
  rw [List.set_append_right _ _ (by omega), hl, Nat.sub_self, List.drop_eq_getElem_cons h, List.set_cons_zero, List.take_succ_eq_append_getElem h, List.map_append]
  simp
end

theorem set_flatten {k : Nat} (css : List (List Value)) (i j : Nat) (v : Value) (h : ∀ cs ∈ css, cs.length = k) (hj : j < k) (hi : i < css.length) : css.flatten.set (i * k + j) v = (css.set i (css[i].set j v)).flatten := by
  have hk : 0 < k := by omega
  have h' : ∀ ds ∈ css.set i (css[i].set j v), ds.length = k := fun ds hd => by
    rcases List.mem_or_eq_of_mem_set hd with e | e
    · exact h ds e
    · rw [e, List.length_set]; exact h _ (List.getElem_mem hi)
  have hfit : i * k + j < css.flatten.length := by
    rw [flatten_len css h]
    have : (i + 1) * k ≤ css.length * k := Nat.mul_le_mul_right k hi
    rw [Nat.succ_mul] at this; omega
  apply List.ext_getElem?
  intro m
  rw [flatten_get hk _ _ h']
  by_cases e : m = i * k + j
  · subst e
    rw [List.getElem?_set_self hfit, Nat.mul_comm i k, Nat.mul_add_div hk, Nat.mul_add_mod, Nat.div_eq_of_lt hj, Nat.mod_eq_of_lt hj, Nat.add_zero, List.getElem?_set_self hi]
    have hcl := h _ (List.getElem_mem hi)
    simp [hcl, hj]
  · rw [List.getElem?_set_ne (fun h => e h.symm), flatten_get hk _ _ h]
    by_cases e2 : m / k = i
    · rw [e2, List.getElem?_set_self hi, List.getElem?_eq_getElem hi]
      have : j ≠ m % k := fun e3 => e (by have := Nat.div_add_mod m k; rw [e2, ← e3, Nat.mul_comm] at this; exact this.symm)
      simp only [Option.bind_some]
      rw [List.getElem?_set_ne this]
    · rw [List.getElem?_set_ne (fun h => e2 h.symm)]

section
variable {E k : Nat} {base g n c : Nat} {css : List (List Value)}
theorem own_setCell {w : World} (h : OwnC E k w base (.slice (some ⟨g, 0, none⟩) n c) css) (hn : css.length = n) (hl : ∀ cs ∈ css, cs.length = k) {i j : Nat} (hi : i < css.length) (hj : j < k) (v : Value) : OwnC E k (w.setCell ⟨g, i * k + j, none⟩ v) base (.slice (some ⟨g, 0, none⟩) n c) (css.set i (css[i].set j v)) := by
  unfold OwnC OwnL at h ⊢
  rw [flatMap_self] at h ⊢
  rw [List.length_set, ← set_flatten css i j v hl hj hi]
  rw [hn] at h ⊢
  exact (World.ownsRow.stored h (i * k + j) v).1
theorem own_setCells : ∀ (vs : List Value) (j : Nat) (w : World) (css : List (List Value)), OwnC E k w base (.slice (some ⟨g, 0, none⟩) n c) css → css.length = n → (∀ cs ∈ css, cs.length = k) → ∀ {i : Nat} (hi : i < css.length), j + vs.length ≤ k → OwnC E k (w.setCells g (i * k + j) vs) base (.slice (some ⟨g, 0, none⟩) n c) (css.set i (setL css[i] j vs))
  | [], j, w, css, h, _, _, i, hi, _ => by
    rw [setL, List.set_getElem_self]; exact h
  | v :: vs, j, w, css, h, hn, hl, i, hi, hj => by
    rw [List.length_cons] at hj
    have h1 := own_setCell h hn hl hi (show j < k by omega) v
    have h2 := own_setCells vs (j + 1) (w.setCell ⟨g, i * k + j, none⟩ v) (css.set i (css[i].set j v)) h1 (by rw [List.length_set]; exact hn) (fun ds hd => by
      rcases List.mem_or_eq_of_mem_set hd with e | e
      · exact hl ds e
      · rw [e, List.length_set]; exact hl _ (List.getElem_mem hi)) (i := i) (by rw [List.length_set]; exact hi) (by omega)
    rw [List.getElem_set_self, List.set_set] at h2
    exact h2
end

section
variable {α : Type} {E k : Nat} {at_ : World → α → List Value → Prop} {wr : World} {base H3 H : Nat} {A : Option Addr} {c : Nat} {l : List α} {i : Nat}
/-- An element is written in parts. -/
theorem RowSt.write_by (h : RowSt E k at_ wr base H3 H A c l i) (hi : i < l.length) {g : Nat} (hA : A = some ⟨g, 0, none⟩) (hH : H ≤ base) {w' : World} (F : List Value → List Value) {x : α}
    (hw : ∀ css : List (List Value), OwnC E k wr base (.slice (some ⟨g, 0, none⟩) l.length c) css → css.length = l.length → (∀ cs ∈ css, cs.length = k) → ∀ hi : i < css.length, OwnC E k w' base (.slice (some ⟨g, 0, none⟩) l.length c) (css.set i (F css[i])))
    (hF : ∀ cs : List Value, cs.length = k → (F cs).length = k) (hs : wr.heap.size ≤ w'.heap.size) (hk : ∀ q, q ≠ g → q < wr.heap.size → w'.heap[q]? = wr.heap[q]?)
    (hx : ∀ cs, at_ wr l[i] cs → Off (· < H3) w' fun u => at_ u x (F cs)) : RowSt E k at_ w' base H3 H A c (l.set i x) (i + 1) := by
  subst hA
  have hlt := h.lt (g := g) rfl
  obtain ⟨css, h1, h2, h3, h4, h5⟩ := h
  have hic : i < css.length := by omega
  refine ⟨css.set i (F css[i]), ?_, by simp [h2], fun ds hd => ?_, by rw [List.length_set]; exact h4, fun m y ds hy hd => ?_⟩
  · rw [List.length_set]; exact hw css h1 h2 h3 hic
  · rcases List.mem_or_eq_of_mem_set hd with e | e
    · exact h3 ds e
    · rw [e]; exact hF _ (h3 _ (List.getElem_mem hic))
  · by_cases e : m = i
    · subst e
      rw [List.getElem?_set_self hi] at hy
      rw [List.getElem?_set_self hic] at hd
      obtain rfl := Option.some.inj hy
      obtain rfl := Option.some.inj hd
      exact ⟨fun _ => hx _ ((h5 m _ _ (List.getElem?_eq_getElem hi) (List.getElem?_eq_getElem hic)).2 (Nat.le_refl _)).out, fun hm => absurd hm (by omega)⟩
    · rw [List.getElem?_set_ne (fun e2 => e e2.symm)] at hy hd
      have := h5 m y ds hy hd
      exact ⟨fun hm => (this.1 (by omega)).step hs fun q hq hl => hk q (fun e => hq (e ▸ hlt.2.2)) hl, fun hm => (this.2 (by omega)).step hs fun q hq hl => hk q (fun e => hq (e ▸ Nat.le_trans hH hlt.1)) hl⟩
end

/-- The box of a type; of the zero type. -/
abbrev zboxT : Obj := .cells #[.int .i64 0, .string ⟨#[]⟩, .int .i64 0, .int .i64 0, .int .i64 0, .slice none 0 0, .slice none 0 0, .int .i64 0, .int .i64 0, .bool false] 70
abbrev SymAt (_ : World) (x : SymD) (cs : List Value) : Prop := SymD.At x cs
abbrev MemAt (u : World) (x : MemD) (cs : List Value) : Prop := MemD.At u x cs
def renS (x : SymD) : SymD := { x with name := nameN 115 x.id }
def renM (ix : Int → Int) (m : MemD) : MemD := { m with name := nameN 102 m.id, type := ix m.type }

theorem nameN_ok' {c : UInt8} {n : Int} (h : In64 n) : SOk (nameN c n) := by
  unfold SOk nameN
  have h1 : (decB n).size ≤ 21 := Lib.itoa_length_le n h.1 h.2
  rw [ByteArray.size_append]
  have h2 : (ByteArray.mk #[c]).size = 1 := rfl
  omega

/-- A clone of symbols, of members. -/
theorem SymD.at_one {x : SymD} {cs : List Value} (h : x.At cs) : cs.length = 2 ∧ ∀ u ∈ cs, u.oneCell' = true := by
  obtain ⟨_, rfl⟩ := h
  refine ⟨rfl, ?_⟩
  intro u hu
  simp only [List.mem_cons, List.mem_nil_iff, or_false] at hu
  rcases hu with rfl | rfl <;> rfl
theorem MemD.at_one {w : World} {x : MemD} {cs : List Value} (h : x.At w cs) : cs.length = 13 ∧ ∀ u ∈ cs, u.oneCell' = true := by
  obtain ⟨A1, c1, A2, c2, A3, c3, rfl, _⟩ := h
  refine ⟨rfl, ?_⟩
  intro u hu
  simp only [List.mem_cons, List.mem_nil_iff, or_false] at hu
  rcases hu with rfl | rfl | rfl | rfl | rfl | rfl | rfl | rfl | rfl | rfl | rfl | rfl | rfl <;> rfl
theorem cloneS {l : List SymD} {A : Option Addr} {c : Nat} {w0 w : World} (hl : SymsR w0 A l) (hb0 : Below w0.heap.size w0 w) :
    Calls Tryz.prog 73 #[.slice A l.length c] w fun e w' => ∃ B d, e = .returned (.slice B l.length d) ∧ Below w.heap.size w w' ∧ (∀ g, (Value.slice B l.length d).ownBlock = some g → w.heap.size ≤ g ∧ g < w'.heap.size) ∧
      ∀ H3, w'.heap.size ≤ H3 → RowSt 75 2 SymAt w' w.heap.size H3 w0.heap.size B d l 0 := by
  obtain ⟨css, h1, h2, h3, h4⟩ := RowsR.cells (fun x cs h => (SymD.at_one h).1) hl
  have hone : ∀ cs ∈ css, ∀ u ∈ cs, u.oneCell' = true := fun cs hc => by
    obtain ⟨i, hi, rfl⟩ := List.getElem_of_mem hc
    exact (SymD.at_one (h2 i l[i] _ (List.getElem?_eq_getElem (by omega)) (List.getElem?_eq_getElem hi))).2
  have := cloneSymbol_any css h3 hone (by rw [h1]; exact hl.1) A c w (fun hn => by
    obtain ⟨b, o, e, hr⟩ := h4 (fun e => hn (List.eq_nil_of_length_eq_zero (by rw [h1, e]; rfl)))
    exact ⟨b, o, e, range_below hb0 hr⟩)
  rw [h1] at this
  refine this.mono ?_
  rintro e w' ⟨v, rfl, ho, hb⟩
  obtain ⟨B, d, rfl, _⟩ := OwnL.reads ho
  rw [h1] at ho ⊢
  refine ⟨B, d, rfl, hb, fun g hg => World.ownsRow.lt ho g hg, fun H3 hH3 => ?_⟩
  exact RowSt.of_clone (w := w0) ho h1 h3 (fun g hg => Nat.lt_of_lt_of_le (World.ownsRow.lt ho g hg).2 hH3) (fun m x cs hx hc u hu => h2 m x cs hx hc) (below_trans hb0 hb)
theorem cloneM {l : List MemD} {A : Option Addr} {c : Nat} {w0 w : World} (hl : MemsR w0 A l) (hb0 : Below w0.heap.size w0 w) :
    Calls Tryz.prog 74 #[.slice A l.length c] w fun e w' => ∃ B d, e = .returned (.slice B l.length d) ∧ Below w.heap.size w w' ∧ (∀ g, (Value.slice B l.length d).ownBlock = some g → w.heap.size ≤ g ∧ g < w'.heap.size) ∧
      ∀ H3, w'.heap.size ≤ H3 → RowSt 83 13 MemAt w' w.heap.size H3 w0.heap.size B d l 0 := by
  obtain ⟨css, h1, h2, h3, h4⟩ := RowsR.cells (fun x cs h => (MemD.at_one h).1) hl
  have hone : ∀ cs ∈ css, ∀ u ∈ cs, u.oneCell' = true := fun cs hc => by
    obtain ⟨i, hi, rfl⟩ := List.getElem_of_mem hc
    exact (MemD.at_one (h2 i l[i] _ (List.getElem?_eq_getElem (by omega)) (List.getElem?_eq_getElem hi))).2
  have := cloneMember_any css h3 hone (by rw [h1]; exact hl.1) A c w (fun hn => by
    obtain ⟨b, o, e, hr⟩ := h4 (fun e => hn (List.eq_nil_of_length_eq_zero (by rw [h1, e]; rfl)))
    exact ⟨b, o, e, range_below hb0 hr⟩)
  rw [h1] at this
  refine this.mono ?_
  rintro e w' ⟨v, rfl, ho, hb⟩
  obtain ⟨B, d, rfl, _⟩ := OwnL.reads ho
  rw [h1] at ho ⊢
  refine ⟨B, d, rfl, hb, fun g hg => World.ownsRow.lt ho g hg, fun H3 hH3 => ?_⟩
  exact RowSt.of_clone (w := w0) ho h1 h3 (fun g hg => Nat.lt_of_lt_of_le (World.ownsRow.lt ho g hg).2 hH3) (fun m x cs hx hc u hu => MemD.at_low hu (h2 m x cs hx hc)) (below_trans hb0 hb)
end Go.Proofs.YtkhpajneinmmiaaGreatDoor
