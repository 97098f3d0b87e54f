/-
  Walks: canon.renamed: the states.
-/
import Derived.Test.YtkhpajneinmmiaaGreatDoorQRN0
import Derived.Test.YtkhpajneinmmiaaGreatDoorQPL
namespace Go.Proofs.YtkhpajneinmmiaaGreatDoor
open Go.RowKit

abbrev named (t : TyD) (nm : ByteArray) : TyD := { t with name := nm }
structure RnB (t : TyD) (nm : ByteArray) (w : World) (S3 : Nat) (Bs : Option Addr) (cs : Nat) (Am : Option Addr) (cm : Nat) (i : Nat) (wr : World) : Prop where
  box : wr.heap[w.heap.size]? = some ((named t nm).box Bs cs Am cm)
  res : wr.heap[w.heap.size + 1]? = some zboxT
  bel : Below w.heap.size w wr
  lo : w.heap.size + 2 ≤ S3
  hi : S3 ≤ wr.heap.size
  syms : RowSt 75 2 SymAt wr (w.heap.size + 2) S3 w.heap.size Bs cs (mapTo renS i t.syms) i
structure RnC (t : TyD) (nm : ByteArray) (ix : Int → Int) (w : World) (S3 M3 : Nat) (Bs : Option Addr) (cs : Nat) (Bm : Option Addr) (cm : Nat) (j : Nat) (wr : World) : Prop where
  b : RnB t nm w S3 Bs cs Bm cm t.syms.length wr
  lo : S3 ≤ M3
  hi : M3 ≤ wr.heap.size
  mems : RowSt 83 13 MemAt wr (w.heap.size + 2) M3 w.heap.size Bm cm (mapTo (renM ix) j t.mems) j
  apart : ∀ g, (Value.slice Bm (mapTo (renM ix) j t.mems).length cm).ownBlock = some g → S3 ≤ g

section
variable {t : TyD} {nm : ByteArray} {ix : Int → Int} {w : World} {S3 M3 : Nat} {Bs : Option Addr} {cs : Nat} {Am : Option Addr} {cm : Nat} {i j : Nat} {wr w' : World}
theorem RnB.below (h : RnB t nm w S3 Bs cs Am cm i wr) (hb : Below wr.heap.size wr w') : RnB t nm w S3 Bs cs Am cm i w' :=
  ⟨(hb.block _ (Array.getElem?_eq_some_iff.1 h.box).1).trans h.box, (hb.block _ (Array.getElem?_eq_some_iff.1 h.res).1).trans h.res, below_trans h.bel hb, h.lo, Nat.le_trans h.hi hb.size, h.syms.below hb⟩
theorem RnC.below (h : RnC t nm ix w S3 M3 Bs cs Am cm j wr) (hb : Below wr.heap.size wr w') : RnC t nm ix w S3 M3 Bs cs Am cm j w' :=
  ⟨h.b.below hb, h.lo, Nat.le_trans h.hi hb.size, h.mems.below hb, h.apart⟩

/-- The cells of the box. -/
theorem box10 {W : World} {b : Nat} {t : TyD} {As : Option Addr} {cs : Nat} {Am : Option Addr} {cm : Nat} (h : W.heap[b]? = some (t.box As cs Am cm)) :
    (W.cell? ⟨b, 0, none⟩ = some (.int .i64 t.kind) ∧ W.cell? ⟨b, 1, none⟩ = some (.string t.name) ∧ W.cell? ⟨b, 2, none⟩ = some (.int .i64 t.low) ∧ W.cell? ⟨b, 3, none⟩ = some (.int .i64 t.high) ∧ W.cell? ⟨b, 4, none⟩ = some (.int .i64 t.max) ∧ W.cell? ⟨b, 5, none⟩ = some (.slice As t.syms.length cs) ∧ W.cell? ⟨b, 6, none⟩ = some (.slice Am t.mems.length cm) ∧ W.cell? ⟨b, 7, none⟩ = some (.int .i64 t.key) ∧ W.cell? ⟨b, 8, none⟩ = some (.int .i64 t.elem) ∧ W.cell? ⟨b, 9, none⟩ = some (.bool t.open_)) ∧ ∀ j, W.frozen? ⟨b, j, none⟩ = false := by
  refine ⟨⟨?_, ?_, ?_, ?_, ?_, ?_, ?_, ?_, ?_, ?_⟩, fun j => frozen_of_row _ _ _ _ _ h⟩ <;> (rw [cell_of_row _ _ _ _ _ _ h]; rfl)

/-- The clone of the symbols is stored. -/
theorem rnB_start {w1 w2 : World} {As : Option Addr} {c : Nat} {B : Option Addr} {d : Nat} (hbox : w1.heap[w.heap.size]? = some ((named t nm).box As c Am cm)) (hres : w1.heap[w.heap.size + 1]? = some zboxT) (hb1 : Below w.heap.size w w1) (hb2 : Below w1.heap.size w1 w2)
    (hg : ∀ g, (Value.slice B t.syms.length d).ownBlock = some g → w1.heap.size ≤ g ∧ g < w2.heap.size) (hk : ∀ H3, w2.heap.size ≤ H3 → RowSt 75 2 SymAt w2 w1.heap.size H3 w.heap.size B d t.syms 0) :
    RnB t nm w w2.heap.size B d Am cm 0 (w2.setCell ⟨w.heap.size, 5, none⟩ (.slice B t.syms.length d)) := by
  have hs2 := hb2.size
  have hlt := (Array.getElem?_eq_some_iff.1 hres).1
  refine ⟨?_, ?_, (below_trans hb1 hb2).setCell (p := ⟨w.heap.size, 5, none⟩) (Nat.le_refl _) _, by omega, by simp, ?_⟩
  · rw [heap_setCell_same _ _ 5 _ _ _ ((hb2.block _ (by omega)).trans hbox)]; rfl
  · rw [heap_setCell_other _ _ _ _ (by simp), hb2.block _ (by omega)]; exact hres
  · rw [mapTo_zero]
    exact ((hk w2.heap.size (Nat.le_refl _)).base_le (by omega)).otherCell 5 _ (by omega) (Nat.le_refl _) (fun e => by have := hg _ e; omega)
/-- .. of the members. -/
theorem rnC_start {w2 : World} {B : Option Addr} {d : Nat} (h : RnB t nm w S3 Bs cs Am cm t.syms.length wr) (hb2 : Below wr.heap.size wr w2)
    (hg : ∀ g, (Value.slice B t.mems.length d).ownBlock = some g → wr.heap.size ≤ g ∧ g < w2.heap.size) (hk : ∀ H3, w2.heap.size ≤ H3 → RowSt 83 13 MemAt w2 wr.heap.size H3 w.heap.size B d t.mems 0) :
    RnC t nm ix w S3 w2.heap.size Bs cs B d 0 (w2.setCell ⟨w.heap.size, 6, none⟩ (.slice B t.mems.length d)) := by
  have hs2 := hb2.size
  have hlo := h.lo
  have hhi := h.hi
  refine ⟨⟨?_, ?_, (below_trans h.bel hb2).setCell (p := ⟨w.heap.size, 6, none⟩) (Nat.le_refl _) _, h.lo, by simp; omega, ?_⟩, by omega, by simp, ?_, ?_⟩
  · rw [heap_setCell_same _ _ 6 _ _ _ ((hb2.block _ (by omega)).trans h.box)]; rfl
  · rw [heap_setCell_other _ _ _ _ (by simp), hb2.block _ (by omega)]; exact h.res
  · exact (h.syms.below hb2).otherCell 6 _ (by omega) (Nat.le_refl _) (fun e => by have := (h.syms.lt e).1; omega)
  · rw [mapTo_zero]
    exact ((hk w2.heap.size (Nat.le_refl _)).base_le (by omega)).otherCell 6 _ (by omega) (Nat.le_refl _) (fun e => by have := hg _ e; omega)
  · rw [mapTo_zero]
    intro g e
    have := hg g e
    omega

/-- What the region that writes a symbol's name reads. -/
theorem rnB_hold {g : Nat} (h : RnB t nm w S3 (some ⟨g, 0, none⟩) cs Am cm i wr) (hi : i < t.syms.length) :
    (wr.cell? ⟨w.heap.size, 5, none⟩ = some (.slice (some ⟨g, 0, none⟩) t.syms.length cs) ∧ wr.cell? ⟨g, i * 2, none⟩ = some (.int .i64 (t.syms[i]).id) ∧ (∃ s, wr.cell? ⟨g, i * 2 + 1, none⟩ = some s) ∧ wr.frozen? ⟨g, i * 2 + 1, none⟩ = false) ∧ Hid (RnB t nm w S3 (some ⟨g, 0, none⟩) cs Am cm i wr) := by
  have hi' : i < (mapTo renS i t.syms).length := by rw [mapTo_len]; exact hi
  obtain ⟨g', ds, e, _, _, _, hoff, hrg, hth⟩ := h.syms.next hi'
  cases e
  obtain ⟨_, rfl⟩ := hoff.out
  rw [mapTo_at hi] at hrg
  exact ⟨⟨(box10 h.box).1.2.2.2.2.2.1, hrg 0 _ rfl, ⟨_, hrg 1 _ rfl⟩, (hth 1 (by omega)).2⟩, h⟩
theorem RnB.sym (h : RnB t nm w S3 Bs cs Am cm i wr) (hi : i < t.syms.length) {g : Nat} (hA : Bs = some ⟨g, 0, none⟩) (hid : In64 (t.syms[i]).id) :
    RnB t nm w S3 Bs cs Am cm (i + 1) (wr.setCell ⟨g, i * 2 + 1, none⟩ (.string (nameN 115 (t.syms[i]).id))) := by
  have hi' : i < (mapTo renS i t.syms).length := by rw [mapTo_len]; exact hi
  have hlt := h.syms.lt (g := g) (by rw [hA]; rfl)
  have hlo := h.lo
  refine ⟨?_, ?_, h.bel.setCell (p := ⟨g, i * 2 + 1, none⟩) (by simp; omega) _, h.lo, by simp; exact h.hi, ?_⟩
  · rw [heap_setCell_other _ _ _ _ (by simp; omega)]; exact h.box
  · rw [heap_setCell_other _ _ _ _ (by simp; omega)]; exact h.res
  · rw [← mapTo_set hi]
    refine h.syms.write_by hi' hA (by omega) (fun ds => ds.set 1 (.string (nameN 115 (t.syms[i]).id))) (fun css ho hl hk hic => ?_) (fun ds hd => by simp [hd]) (by simp) (fun q hq _ => heap_setCell_other _ _ _ _ (by simpa using hq)) (fun ds hd => ?_)
    · exact own_setCell ho hl hk hic (by omega) _
    · rw [mapTo_at hi] at hd
      obtain ⟨_, rfl⟩ := hd
      exact fun u _ => ⟨nameN_ok' hid, rfl⟩

/-- What the region that writes a member reads. -/
theorem rnC_hold {g : Nat} (h : RnC t nm ix w S3 M3 Bs cs (some ⟨g, 0, none⟩) cm j wr) (hj : j < t.mems.length) {E1 : Option Addr} {e1 : Nat} {E2 : Option Addr} {e2 : Nat} {E3 : Option Addr} {e3 : Nat} (hr : wr.rangeAt g (j * 13) ((t.mems[j]).cs E1 e1 E2 e2 E3 e3)) (hm : MemR wr t.mems[j] E1 E2 E3) :
    ((wr.cell? ⟨g, j * 13, none⟩ = some (.int .i64 (t.mems[j]).id) ∧ wr.cell? ⟨g, j * 13 + 1, none⟩ = some (.string (t.mems[j]).name) ∧ wr.cell? ⟨g, j * 13 + 2, none⟩ = some (.int .i64 (t.mems[j]).type) ∧ wr.cell? ⟨g, j * 13 + 5, none⟩ = some (.int .i64 (t.mems[j]).dflt.kind) ∧ wr.cell? ⟨g, j * 13 + 6, none⟩ = some (.bool (t.mems[j]).dflt.bool) ∧ wr.cell? ⟨g, j * 13 + 7, none⟩ = some (.int .i64 (t.mems[j]).dflt.int) ∧ wr.cell? ⟨g, j * 13 + 8, none⟩ = some (.string (t.mems[j]).dflt.str) ∧ wr.cell? ⟨g, j * 13 + 9, none⟩ = some (.int .i64 (t.mems[j]).dflt.id) ∧ wr.cell? ⟨g, j * 13 + 10, none⟩ = some (.slice E1 (t.mems[j]).dflt.keys.length e1) ∧ wr.cell? ⟨g, j * 13 + 11, none⟩ = some (.slice E2 (t.mems[j]).dflt.items.length e2) ∧ wr.cell? ⟨g, j * 13 + 12, none⟩ = some (.slice E3 (t.mems[j]).dflt.rest.length e3)) ∧ (wr.frozen? ⟨g, j * 13 + 1, none⟩ = false ∧ wr.frozen? ⟨g, j * 13 + 2, none⟩ = false)) ∧ Hid (RnC t nm ix w S3 M3 Bs cs (some ⟨g, 0, none⟩) cm j wr ∧ wr.rangeAt g (j * 13) ((t.mems[j]).cs E1 e1 E2 e2 E3 e3) ∧ MemR wr t.mems[j] E1 E2 E3) := by
  have hj' : j < (mapTo (renM ix) j t.mems).length := by rw [mapTo_len]; exact hj
  have hth := h.mems.there hj' rfl
  exact ⟨⟨⟨hr 0 _ rfl, hr 1 _ rfl, hr 2 _ rfl, hr 5 _ rfl, hr 6 _ rfl, hr 7 _ rfl, hr 8 _ rfl, hr 9 _ rfl, hr 10 _ rfl, hr 11 _ rfl, hr 12 _ rfl⟩, (hth 1 (by omega)).2, (hth 2 (by omega)).2⟩, h, hr, hm⟩
theorem RnC.next (h : RnC t nm ix w S3 M3 Bs cs Am cm j wr) (hj : j < t.mems.length) : ∃ g E1 e1 E2 e2 E3 e3, Am = some ⟨g, 0, none⟩ ∧ wr.rangeAt g (j * 13) ((t.mems[j]).cs E1 e1 E2 e2 E3 e3) ∧ MemR wr t.mems[j] E1 E2 E3 := by
  have hj' : j < (mapTo (renM ix) j t.mems).length := by rw [mapTo_len]; exact hj
  obtain ⟨g', ds, e, _, _, _, hoff, hrg, hth⟩ := h.mems.next hj'
  obtain ⟨E1, e1, E2, e2, E3, e3, rfl, hm⟩ := hoff.out
  rw [mapTo_at hj] at hrg hm
  exact ⟨g', E1, e1, E2, e2, E3, e3, e, hrg, hm⟩
theorem RnC.there8 {g : Nat} (h : RnC t nm ix w S3 M3 Bs cs (some ⟨g, 0, none⟩) cm j wr) (hj : j < t.mems.length) (v u : Value) : ((wr.setCell ⟨g, j * 13 + 1, none⟩ v).setCell ⟨g, j * 13 + 2, none⟩ u).there g (j * 13 + 5) 8 := by
  have hj' : j < (mapTo (renM ix) j t.mems).length := by rw [mapTo_len]; exact hj
  have hth := h.mems.there hj' rfl
  have h8 : wr.there g (j * 13 + 5) 8 := fun m hm => by
    have := hth (5 + m) (by omega)
    rwa [← Nat.add_assoc] at this
  exact World.there_setCells (World.there_setCells h8 g (j * 13 + 1) [v]) g (j * 13 + 2) [u]
/-- The world after the three stores. -/
abbrev memSet (wr : World) (g j : Nat) (s : ByteArray) (ty : Int) (v : List Value) : World := ((wr.setCell ⟨g, j * 13 + 1, none⟩ (.string s)).setCell ⟨g, j * 13 + 2, none⟩ (.int .i64 ty)).setCells g (j * 13 + 5) v
theorem RnC.mem (h : RnC t nm ix w S3 M3 Bs cs Am cm j wr) (hj : j < t.mems.length) {g : Nat} (hA : Am = some ⟨g, 0, none⟩) (hid : In64 (t.mems[j]).id) {F1 : Option Addr} {f1 : Nat} {F2 : Option Addr} {f2 : Nat} {F3 : Option Addr} {f3 : Nat} {B : Nat} (hB : M3 ≤ B) (ho : Off (· < B) wr fun u => ValR u (t.mems[j]).dflt F1 F2 F3) :
    RnC t nm ix w S3 M3 Bs cs Am cm (j + 1) (memSet wr g j (nameN 102 (t.mems[j]).id) (ix (t.mems[j]).type) ((t.mems[j]).dflt.cs F1 f1 F2 f2 F3 f3)) := by
  have hj' : j < (mapTo (renM ix) j t.mems).length := by rw [mapTo_len]; exact hj
  have hown : (Value.slice Am (mapTo (renM ix) j t.mems).length cm).ownBlock = some g := by rw [hA]; rfl
  have hlt := h.mems.lt hown
  have hlo := h.b.lo
  have hap := h.apart g hown
  have hsame : ∀ q, q ≠ g → (memSet wr g j (nameN 102 (t.mems[j]).id) (ix (t.mems[j]).type) ((t.mems[j]).dflt.cs F1 f1 F2 f2 F3 f3)).heap[q]? = wr.heap[q]? := fun q hq => by
    rw [heap_setCells_ne hq, heap_setCell_other _ _ _ _ (by simpa using hq), heap_setCell_other _ _ _ _ (by simpa using hq)]
  have hsz : (memSet wr g j (nameN 102 (t.mems[j]).id) (ix (t.mems[j]).type) ((t.mems[j]).dflt.cs F1 f1 F2 f2 F3 f3)).heap.size = wr.heap.size := by rw [size_setCells]; simp
  refine ⟨⟨?_, ?_, ?_, h.b.lo, by rw [hsz]; exact h.b.hi, ?_⟩, h.lo, by rw [hsz]; exact h.hi, ?_, ?_⟩
  · rw [hsame _ (by omega)]; exact h.b.box
  · rw [hsame _ (by omega)]; exact h.b.res
  · exact below_setsg g (by omega) _ _ _ ((h.b.bel.setCell (p := ⟨g, j * 13 + 1, none⟩) (by simp; omega) _).setCell (p := ⟨g, j * 13 + 2, none⟩) (by simp; omega) _)
  · have hs := h.b.syms
    have hne : (Value.slice Bs (mapTo renS t.syms.length t.syms).length cs).ownBlock ≠ some g := fun e => by have := (hs.lt e).2.2; omega
    obtain ⟨css, g1, g2, g3, g4, g5⟩ := hs
    refine ⟨css, g1.keep (fun q _ hq hv => hsame q (fun e => hne (e ▸ hv))), g2, g3, g4, fun m x ds hx hd => ⟨fun hm => ?_, fun hm => ?_⟩⟩
    · exact fun u _ => ((g5 m x ds hx hd).1 hm).out
    · exact fun u _ => ((g5 m x ds hx hd).2 hm).out
  · rw [← mapTo_set hj]
    refine h.mems.write_by hj' hA (by omega) (fun ds => setL ((ds.set 1 (.string (nameN 102 (t.mems[j]).id))).set 2 (.int .i64 (ix (t.mems[j]).type))) 5 ((t.mems[j]).dflt.cs F1 f1 F2 f2 F3 f3)) (fun css ho hl hk hic => ?_) (fun ds hd => by rw [setL_length]; simp [hd]) (by rw [hsz]; exact Nat.le_refl _) (fun q hq _ => hsame q hq) (fun ds hd => ?_)
    · have hk1 : ∀ (a : List Value), a.length = 13 → ∀ ds ∈ css.set j a, ds.length = 13 := fun a ha ds hd => by
        rcases List.mem_or_eq_of_mem_set hd with e | e
        · exact hk ds e
        · rw [e]; exact ha
      have hcl := hk _ (List.getElem_mem hic)
      have o1 := own_setCell ho hl hk hic (j := 1) (by omega) (.string (nameN 102 (t.mems[j]).id))
      have o2 := own_setCell o1 (by rw [List.length_set]; exact hl) (hk1 _ (by simp [hcl])) (i := j) (by rw [List.length_set]; exact hic) (j := 2) (by omega) (.int .i64 (ix (t.mems[j]).type))
      rw [List.getElem_set_self, List.set_set] at o2
      have o3 := own_setCells ((t.mems[j]).dflt.cs F1 f1 F2 f2 F3 f3) 5 _ _ o2 (by rw [List.length_set]; exact hl) (hk1 _ (by simp [hcl])) (i := j) (by rw [List.length_set]; exact hic) (by simp)
      rw [List.getElem_set_self, List.set_set] at o3
      exact o3
    · rw [mapTo_at hj] at hd
      obtain ⟨E1, e1, E2, e2, E3, e3, rfl, hm⟩ := hd
      have ho' : Off (· < M3) (memSet wr g j (nameN 102 (t.mems[j]).id) (ix (t.mems[j]).type) ((t.mems[j]).dflt.cs F1 f1 F2 f2 F3 f3)) fun u => ValR u (t.mems[j]).dflt F1 F2 F3 :=
        (ho.mono fun q _ hq => by omega).step (by rw [hsz]; exact Nat.le_refl _) fun q hq _ => hsame q (fun e => hq (e ▸ hlt.2.2))
      exact ho'.imp fun u hu => ⟨F1, f1, F2, f2, F3, f3, rfl, nameN_ok' hid, hu⟩
  · intro q hq
    rw [mapTo_len] at hq
    exact h.apart q (by rw [mapTo_len]; exact hq)
end
end Go.Proofs.YtkhpajneinmmiaaGreatDoor
