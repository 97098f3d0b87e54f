/-
  Walks: the classes, in the reference.
-/
import Derived.Test.YtkhpajneinmmiaaGreatDoorQRG2
namespace Go.Proofs.YtkhpajneinmmiaaGreatDoor
open Go.RowKit
end Go.Proofs.YtkhpajneinmmiaaGreatDoor
namespace Go.Proofs.YtkhpajneinmmiaaGreatDoor
open Go.RowKit
set_option maxHeartbeats 4000000 in
set_option maxRecDepth 100000 in
theorem rClasses_any (s : List TyD) (A : Option Addr) (c : Nat) (w : World) (hs : TysR w A s) :
  Calls Tryz.prog 20 #[.agg #[.slice A s.length c]] w (ClassesPost s w) := by
 have HS := Lib.hid hs
 clear hs
 by_cases hv : validD s = 0
 case neg =>
  have q1 : (validD s != 0) = true := by simp [hv]
  have HV := Lib.hid hv
  clear hv
  go_enter Tryz.func20, Tryz.ntmps20
  go_wp2_with fail
  refine (rValid_any s A c _ (HS.out.below (below_new _ _))).mono ?_
  rintro e w2 ⟨rfl, hb2⟩
  go_wp2
  go_ret2
  exact ⟨_, [], rfl, OwnL.nil _ _, fun h => absurd h HV.out, fun _ => rfl, below_alloc hb2⟩
 have q1 : ((0 : Int) != 0) = false := rfl
 have HV := Lib.hid hv
 have hle := valid_len hv
 have HU := Lib.hid (valid_inR hv)
 clear hv
 go_enter Tryz.func20, Tryz.ntmps20
 go_wp2_with fail
 refine (rValid_any s A c _ (HS.out.below (below_new _ _))).mono ?_
 rintro e w2 ⟨rfl, hb2⟩
 rw [HV.out]
 have hc2 := bcell hb2
 have HB2 := Lib.hid (below_alloc hb2)
 have HSC : Hid (w2.cell? ⟨w.heap.size, 0, none⟩ = some (.slice A s.length c)) := below_cell hb2 (by rw [cell_of_row _ _ _ _ _ _ (heap_alloc_new w _)]; rfl)
 clear hb2
 go_wp2_with fail
 refine (greatest_any false s s hle hle HU.out HU.out A c A c _ (HS.out.below HB2.out) (HS.out.below HB2.out)).mono ?_
 rintro e w3 ⟨g, rows, M, rfl, htab, hml, hcl, hgr, hb3⟩
 have HT := Lib.hid htab
 have HML := Lib.hid hml
 have HCL := Lib.hid hcl
 have HGR := Lib.hid hgr
 have HB3 := Lib.hid (below_trans HB2.out hb3)
 have HSC3 := Lib.hid (below_cell hb3 HSC.out)
 clear htab hml hcl hgr hb3 hc2
 go_wp2
 go_loopw [7, 6] (fun i a wr => ∃ k : Nat, k ≤ s.length ∧ i = .int .i64 k ∧ Hid (OwnI wr w3.heap.size a ((clsD (getB M) s.length).take k) ∧ Below w3.heap.size w3 wr)) (fun i _ _ => s.length - (intOf i).toNat)
 case atStart => exact ⟨0, by omega, rfl, OwnL.nil _ _, Below.refl _ _⟩
 case round =>
  obtain ⟨k, hk, rfl, hh⟩ := hrel
  obtain ⟨wo, rfl⟩ : ∃ wo : World, wo = wr := ⟨_, rfl⟩
  have sc := below_cell hh.out.2 HSC3.out
  by_cases hlt : k < s.length
  ·have hkM : k < M.length := by rw [HML.out]; exact hlt
   have hkl : (M[k]).length = s.length := HCL.out _ (List.getElem_mem hkM)
   have HTO := Lib.hid (HT.out.below hh.out.2)
   have HKK := Lib.hid (greatest_refl HU.out HGR.out hlt)
   have HTK : Hid (∀ n : Int, fstB M[k] = n → (clsD (getB M) s.length).take (k + 1) = (clsD (getB M) s.length).take k ++ [n]) := fun n hn => by
    have hcl : k < (clsD (getB M) s.length).length := by simpa [clsD] using hlt
    rw [List.take_succ_eq_append_getElem hcl, ← hn]
    congr 2
    rw [row_eq hkM hkl]
    simp [clsD]
   have HFS : Hid (∀ j : Nat, j < s.length → getB M k j = true → (∀ q, q < j → getB M k q = false) → fstB M[k] = j) := fun j hj hb hn => by
    rw [row_eq hkM hkl]
    refine fstB_at _ j (by simpa using hj) (by simpa using hb) (fun q hq => by simpa using hn q hq)
   have h1 : (0:Int) ≤ (k:Int) := by omega
   have h2 : (k : Int) < (s.length : Int) := by omega
   have HLN : Hid (((clsD (getB M) s.length).take k).length + 1 ≤ 1000) := by show _ ≤ _; simp [clsD]; omega
   have HB7 := Lib.hid hh.out.2
   have HO7 := Lib.hid hh.out.1
   clear hkl hh
   go_wp2
   go_loop [8] (fun i => ∃ j : Nat, j ≤ k ∧ i = .int .i64 j ∧ Hid (∀ q, q < j → getB M k q = false)) (fun i => k - (intOf i).toNat)
   case atStart => exact ⟨0, by omega, rfl, fun q h => absurd h (by omega)⟩
   case round =>
    obtain ⟨j, hj, rfl, hn⟩ := hrel
    have hjs : j < s.length := by omega
    obtain ⟨gi, cg, c1, c2⟩ := tab_bit HTO.out HML.out HCL.out hlt hjs
    have g1 : (0:Int) ≤ (j:Int) := by omega
    have g2 : (j : Int) < (s.length : Int) := by omega
    cases hb : getB M k j with
    | true =>
     have HT1 := Lib.hid (HTK.out j (HFS.out j hjs hb hn.out))
     rw [hb] at c2
     clear hb
     have HO1 := Lib.hid (OwnL.alloc HO7.out (.cells #[.int .i64 (j : Int)] 3))
     have HRN : Hid ((wo.alloc (.cells #[.int .i64 (j : Int)] 3)).rangeAt wo.heap.size 0 [.int .i64 (j : Int)]) := range_new wo [.int .i64 (j : Int)] 3
     have HZ7 : Hid (w3.heap.size ≤ (wo.alloc (.cells #[.int .i64 (j : Int)] 3)).heap.size) := by have := HB7.out.size; show _ ≤ _; simp; omega
     go_wp2_with (at_builtin; refine wpList_append_m elem_int _ rfl (.tmp 34) (.tmp 36) rfl w3.heap.size _ _ _ rfl HO1.out wo.heap.size 0 1 1 [.int .i64 (j : Int)] rfl rfl HRN.out (by simp [Value.oneCell']) (by have := HLN.out; omega) (by have := HLN.out; omega) HZ7.out ?_; intro v8 w8 ho8 hg8)
     go_roundw
     case rel => exact ⟨k + 1, by omega, by go_num, (by rw [HT1.out]; exact OwnL.snoc (x := (j : Int)) ho8), (HB7.out.alloc HB7.out.size _).grown hg8 HZ7.out HO1.out.lt⟩
     case measure => simp [intOf]; omega
    | false =>
     have hne : j ≠ k := fun e => by subst e; rw [HKK.out] at hb; cases hb
     have HNB := Lib.hid hb
     have hjk : j < k := by omega
     rw [hb] at c2
     clear hb hne
     go_wp2
     go_round
     case rel =>
      refine ⟨j + 1, by omega, by go_num, fun q hq => ?_⟩
      by_cases e : q = j
      ·subst e; exact HNB.out
      ·exact hn.out q (by omega)
     case measure => simp [intOf]; omega
  ·have HE : Hid ((clsD (getB M) s.length).take k = clsD (getB M) s.length) := List.take_of_length_le (by simp [clsD]; omega)
   go_wp2
   go_ret2
   refine ⟨_, clsD (getB M) s.length, (by rw [HV.out]; rfl), ?_, fun _ => ⟨getB M, HGR.out, rfl⟩, fun h => absurd HV.out h, below_trans HB3.out hh.out.2⟩
   have := hh.out.1
   rw [HE.out] at this
   exact this.base HB3.out.size
end Go.Proofs.YtkhpajneinmmiaaGreatDoor


