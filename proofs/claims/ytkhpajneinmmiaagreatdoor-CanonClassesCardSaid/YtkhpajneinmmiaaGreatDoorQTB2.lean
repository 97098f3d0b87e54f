/-
  Tables of bits in memory (II): rows and bits stored.
-/
import Derived.Test.YtkhpajneinmmiaaGreatDoorQTB
import Derived.Test.YtkhpajneinmmiaaGreatDoorQPL
namespace Go.Proofs.YtkhpajneinmmiaaGreatDoor
open Go.RowKit
theorem TabAt.storeV {w : World} {base g : Nat} {rows : List Value} {M : List (List Bool)} (h : TabAt w base g rows M) {i : Nat} (hi : i < M.length) {gi c : Nat} (hrow : rows[i]? = some (.slice (some ⟨gi, 0, none⟩) (M[i]).length c)) (k : Nat) (b : Bool) : TabAt (w.setCell ⟨gi, k, none⟩ (.bool b)) base g rows (setB M i k b) ∧ w.grownBy (w.setCell ⟨gi, k, none⟩ (.bool b)) (some gi) := by
 have ho := h.own i _ _ hrow (List.getElem?_eq_getElem hi)
 obtain ⟨hs, hg⟩ := World.ownsRow.stored ho k (.bool b)
 obtain ⟨cu, fr, hgi⟩ := ho.block (g := gi) rfl
 have hne : g ≠ gi := fun e => by
  subst e
  rw [h.out] at hgi
  injection hgi with hgi
  injection hgi with _ e2
  exact absurd e2 (by decide)
 refine ⟨⟨(heap_setCell_other w ⟨gi, k, none⟩ g _ hne).trans h.out, h.gb, by simp [setB, h.len], fun j v l hv hl => ?_, h.dis⟩, hg⟩
 by_cases e : j = i
 ·subst e
  rw [hrow] at hv
  obtain rfl := Option.some.inj hv
  have hl' : l = (M[j]).set k b := by
   unfold setB at hl
   rw [List.getElem?_set_self hi] at hl
   have := Option.some.inj hl
   rw [← this, List.getD_eq_getElem?_getD, List.getElem?_eq_getElem hi]; rfl
  subst hl'
  unfold OwnB OwnL
  rw [List.length_set, flatB_set]
  exact hs
 ·have hl' : M[j]? = some l := by
   unfold setB at hl
   rwa [List.getElem?_set_ne (fun e2 => e e2.symm)] at hl
  exact (h.own j v l hv hl').grown hg fun q hq e2 => by
   have := Option.some.inj hq
   subst this
   exact h.dis i j _ v gi (fun e3 => e e3.symm) hrow hv rfl e2
theorem TabAt.setRow {w w1 : World} {base g : Nat} {rows : List Value} {M : List (List Bool)} (h : TabAt w base g rows M) {i : Nat} (hi : i < M.length) {v v' : Value} (hv : rows[i]? = some v) {l' : List Bool} (ho : OwnB w1 base v' l') (hg : w.grownBy w1 v.ownBlock) (hv' : v'.ownBlock = v.ownBlock ∨ v'.ownBlock = some w.heap.size) :
  TabAt (w1.setCell ⟨g, i, none⟩ v') base g (rows.set i v') (M.set i l') := by
 have hov := h.own i v _ hv (List.getElem?_eq_getElem hi)
 have hi' : i < rows.length := by rw [h.len]; exact hi
 have hgne : ∀ q, v.ownBlock = some q → g ≠ q := fun q hq e => by
  subst e
  obtain ⟨c2, f2, e2⟩ := hov.block hq
  rw [h.out] at e2
  injection e2 with e2
  injection e2 with _ e3
  exact absurd e3 (by decide)
 have hg1 : w1.heap[g]? = some (.cells rows.toArray 60 (0, 0)) := (grown_block hg h.glt fun q hq => hgne q hq).trans h.out
 have hne2 : ∀ q, v'.ownBlock = some q → q ≠ g := fun q hq e => by
  subst e
  obtain ⟨c2, f2, e2⟩ := ho.block hq
  rw [hg1] at e2
  injection e2 with e2
  injection e2 with _ e3
  exact absurd e3 (by decide)
 refine ⟨by rw [heap_setCell_same w1 g i _ _ v' hg1]; simp, h.gb, by simp [h.len], fun j u l hu hl => ?_, fun j q u u2 k hjq hu hu2 hk => ?_⟩
 ·by_cases e : j = i
  ·subst e
   rw [List.getElem?_set_self hi'] at hu
   rw [List.getElem?_set_self hi] at hl
   obtain rfl := Option.some.inj hu
   obtain rfl := Option.some.inj hl
   exact ho.keep fun q _ _ hq => heap_setCell_other w1 ⟨g, j, none⟩ q _ (hne2 q hq)
  ·rw [List.getElem?_set_ne (fun e2 => e e2.symm)] at hu hl
   have h1 := (h.own j u l hu hl).grown hg fun q hq e2 => h.dis i j v u q (fun e3 => e e3.symm) hv hu hq e2
   refine h1.keep fun q _ _ hq => heap_setCell_other w1 ⟨g, i, none⟩ q _ fun e2 => ?_
   simp only at e2
   subst e2
   obtain ⟨c2, f2, e3⟩ := h1.block hq
   rw [hg1] at e3
   injection e3 with e3
   injection e3 with _ e4
   exact absurd e4 (by decide)
 ·have old : ∀ (m : Nat) (x : Value) (z : Nat), rows[m]? = some x → x.ownBlock = some z → z < w.heap.size := fun m x z hx hz => (h.own m x _ hx (List.getElem?_eq_getElem (h.lenOf hx))).blt hz
  by_cases e1 : j = i
  ·subst e1
   rw [List.getElem?_set_self hi'] at hu
   obtain rfl := Option.some.inj hu
   rw [List.getElem?_set_ne hjq] at hu2
   rcases hv' with e | e
   ·rw [e] at hk; exact h.dis j q v u2 k hjq hv hu2 hk
   ·intro h2
    have := old q u2 k hu2 h2
    rw [e] at hk
    have := Option.some.inj hk
    omega
  ·rw [List.getElem?_set_ne (fun e2 => e1 e2.symm)] at hu
   by_cases e2 : q = i
   ·subst e2
    rw [List.getElem?_set_self hi'] at hu2
    obtain rfl := Option.some.inj hu2
    intro h2
    rcases hv' with e | e
    ·rw [e] at h2; exact h.dis j q u v k hjq hu hv hk h2
    ·have := old j u k hu hk
     rw [e] at h2
     have := Option.some.inj h2
     omega
   ·rw [List.getElem?_set_ne (fun e3 => e2 e3.symm)] at hu2
    exact h.dis j q u u2 k hjq hu hu2 hk
theorem flatB_replicate (m : Nat) : (List.replicate m false).flatMap encB = List.replicate m (.bool false) := by
 induction m with
 | zero => rfl
 | succ m ih => rw [List.replicate_succ, List.flatMap_cons, ih]; rfl
theorem ownB_new (w : World) (base m : Nat) (hb : base ≤ w.heap.size) (hm : m ≤ 1000) : OwnB (w.alloc (.cells (List.replicate m (.bool false)).toArray 4)) base (.slice (some ⟨w.heap.size, 0, none⟩) m m) (List.replicate m false) := by
 refine ⟨by rw [flatB_replicate]; simp, .inr ⟨w.heap.size, m, _, by simp, hb, heap_alloc_new w _, by simp, by unfold maxLen; omega, by simp, ?_⟩⟩
 rw [flatB_replicate]
 simp
end Go.Proofs.YtkhpajneinmmiaaGreatDoor


