/-
  Walks: the law CanonClasses.
-/
import Derived.Test.YtkhpajneinmmiaaGreatDoorQAW0
import Derived.Test.YtkhpajneinmmiaaGreatDoorQDS1
import Derived.Test.YtkhpajneinmmiaaGreatDoorQCO2
import Derived.Test.YtkhpajneinmmiaaGreatDoorQRCA
namespace Go.Proofs.YtkhpajneinmmiaaGreatDoor
open Go.RowKit
theorem ints_new (w : World) (l : List Int) (hl : l.length ≤ 1000) : IntsR (w.alloc (.cells (l.map (Value.int .i64)).toArray 3)) (some ⟨w.heap.size, 0, none⟩) l := by
 refine ⟨by unfold Lim; omega, fun _ => ⟨_, _, rfl, fun i x hx => ⟨encI x, rfl, fun j u hj => ?_⟩⟩⟩
 have hj0 : j = 0 := by
  have := (List.getElem?_eq_some_iff.1 hj).1
  unfold encI at this; simp at this; omega
 subst hj0
 have hu : u = .int .i64 x := by unfold encI at hj; simpa using hj.symm
 subst hu
 rw [cell_of_row _ _ _ _ _ _ (heap_alloc_new w _)]
 simp [hx]
set_option maxHeartbeats 4000000 in
set_option maxRecDepth 100000 in
theorem awake_any (w : World) (htab : Tab w) : Calls Tryz.prog 12 #[] w (SamePost true w) := by
 have HTB := Lib.hid htab
 clear htab
 go_enter Tryz.func12, Tryz.ntmps12
 go_wp2_with fail
 refine (example_any 1 _).mono ?_
 rintro e w1 ⟨A1, c1, rfl, hs1, hb1⟩
 have HS1 := Lib.hid hs1
 have HB1 := Lib.hid hb1
 clear hs1 hb1
 go_wp2_with fail
 refine (example_any 7 _).mono ?_
 rintro e w2 ⟨A2, c2, rfl, hs2, hb2⟩
 have HS2 := Lib.hid (hs2.below (below_new2 w2 (.cells #[.slice A1 (exS 1).length c1] 30) (.cells #[.slice A2 (exS 7).length c2] 30)))
 have HS1' := Lib.hid ((HS1.out.below hb2).below (below_new2 w2 (.cells #[.slice A1 (exS 1).length c1] 30) (.cells #[.slice A2 (exS 7).length c2] 30)))
 have HB2 := Lib.hid (below_trans (below_trans HB1.out hb2) (below_new2 w2 (.cells #[.slice A1 (exS 1).length c1] 30) (.cells #[.slice A2 (exS 7).length c2] 30)))
 have HE1 : Hid (((w2.alloc (.cells #[.slice A1 (exS 1).length c1] 30)).alloc (.cells #[.slice A2 (exS 7).length c2] 30)).cell? ⟨w2.heap.size, 0, none⟩ = some (.slice A1 (exS 1).length c1)) := by
  show _ = _
  rw [cell_of_row _ _ _ _ _ _ (tmp_al (heap_alloc_new w2 _) _)]; rfl
 have HE2 : Hid (((w2.alloc (.cells #[.slice A1 (exS 1).length c1] 30)).alloc (.cells #[.slice A2 (exS 7).length c2] 30)).cell? ⟨w2.heap.size + 1, 0, none⟩ = some (.slice A2 (exS 7).length c2)) := by
  show _ = _
  have h := heap_alloc_new (w2.alloc (.cells #[.slice A1 (exS 1).length c1] 30)) (.cells #[.slice A2 (exS 7).length c2] 30)
  rw [show (w2.alloc (.cells #[.slice A1 (exS 1).length c1] 30)).heap.size = w2.heap.size + 1 by simp] at h
  rw [cell_of_row _ _ _ _ _ _ h]; rfl
 clear hs2 hb2
 go_wp2_with fail
 generalize (w2.alloc (.cells #[.slice A1 (exS 1).length c1] 30)).alloc (.cells #[.slice A2 (exS 7).length c2] 30) = W at *
 refine (classes_any (exS 1) A1 c1 _ HS1'.out).mono ?_
 rintro e w3 ⟨v3, l3, rfl, ho3, hc3, _, hb3⟩
 rw [ex_valid1]
 obtain rfl := ex_cls (hc3 ex_valid1)
 obtain ⟨A3, c3, rfl, hi3⟩ := OwnI.ints ho3 (by unfold Lim; simp)
 have HI3 := Lib.hid hi3
 have HB3 := Lib.hid hb3
 have e1 := below_cell HB3.out HE1.out
 have e2 := below_cell HB3.out HE2.out
 clear ho3 hc3 hi3 hb3
 go_wp2_with fail
 refine (distinguish_any (exS 1) 0 (exS 7) 3 A1 c1 A2 c2 _ (HS1'.out.below HB3.out) (HS2.out.below HB3.out)).mono ?_
 rintro e w4 ⟨A4, c4, l4, err, rfl, hi4, hd4, hb4⟩
 obtain ⟨rfl, rfl⟩ := ex_dist hd4
 have HI4 := Lib.hid hi4
 have HB4 := Lib.hid (below_trans HB3.out hb4)
 have HI3b := Lib.hid (HI3.out.below hb4)
 replace e1 := below_cell hb4 e1
 replace e2 := below_cell hb4 e2
 clear hi4 hd4 hb4
 go_wp2_with fail
 refine (size_any (exS 1) 5 A1 c1 _ (HS1'.out.below HB4.out) (HTB.out.below (below_trans HB2.out HB4.out))).mono ?_
 rintro e w5 ⟨l5, rfl, hc5, _, hb5⟩
 rw [ex_root 5 (by omega), ex_size (hc5 (ex_root 5 (by omega)))]
 have HB5 := Lib.hid (below_trans HB4.out hb5)
 have HI3c := Lib.hid (HI3b.out.below hb5)
 have HI4c := Lib.hid (HI4.out.below hb5)
 replace e1 := below_cell hb5 e1
 clear hc5 hb5 e2
 go_wp2_with fail
 refine (equalInts_any [0, 1, 2, 0, 2, 0, 2, 7] [0, 1, 2, 0, 2, 0, 2, 7] A3 (some ⟨w5.heap.size, 0, none⟩) c3 8 _ (HI3c.out.below (below_new _ _)) (ints_new w5 [0, 1, 2, 0, 2, 0, 2, 7] (by decide))).mono ?_
 rintro e w6 ⟨rfl, hb6⟩
 rw [decide_eq_true rfl]
 have HB6 := Lib.hid (below_trans (below_new w5 _) hb6)
 have HI4d := Lib.hid (HI4c.out.below HB6.out)
 have HB6' := Lib.hid (below_trans HB5.out HB6.out)
 replace e1 := below_cell HB6.out e1
 clear hb6
 go_wp2_with fail
 refine (equalInts_any [2, -1, 1] [2, -1, 1] A4 (some ⟨w6.heap.size, 0, none⟩) c4 3 _ (HI4d.out.below (below_new _ _)) (ints_new w6 [2, -1, 1] (by decide))).mono ?_
 rintro e w7 ⟨rfl, hb7⟩
 rw [decide_eq_true rfl]
 have HB7 := Lib.hid (below_trans (below_new w6 _) hb7)
 have HB7' := Lib.hid (below_trans HB6'.out HB7.out)
 replace e1 := below_cell HB7.out e1
 clear hb7
 go_wp2_with fail
 refine (wire_any (exS 1) 0 (exS 1) 3 A1 c1 A1 c1 _ (HS1'.out.below HB7'.out) (HS1'.out.below HB7'.out)).mono ?_
 rintro e w8 ⟨v8, rfl, hv8, hb8⟩
 obtain rfl := ex_wire hv8
 have HB8' := Lib.hid (below_trans HB7'.out hb8)
 replace e1 := below_cell hb8 e1
 clear hb8 hv8
 go_wp2_with fail
 refine (equivalent_any (exS 1) 0 (exS 1) 3 A1 c1 A1 c1 _ (HS1'.out.below HB8'.out) (HS1'.out.below HB8'.out)).mono ?_
 rintro e w9 ⟨v9, rfl, hv9, hb9⟩
 obtain rfl := ex_equiv hv9
 have HB9' := Lib.hid (below_trans HB2.out (below_trans HB8'.out hb9))
 clear hb9 hv9
 go_wp2
 go_ret
 exact ⟨rfl, HB9'.out⟩
end Go.Proofs.YtkhpajneinmmiaaGreatDoor
namespace Go.Proofs.YtkhpajneinmmiaaGreatDoor
open Go.RowKit
theorem cls_copy {s l : List TyD} {cls : List Int} (hv : validD s = 0) (hc : CopyIs s l) (hk : ClsIs l cls) {i : Nat} (h1 : s.length ≤ i) (h2 : i < l.length) : cls.getD i 0 = cls.getD (i - s.length) 0 := by
 obtain ⟨S, hS, rfl⟩ := hk
 have h3 : i - s.length < l.length := by omega
 have hm : i % s.length = (i - s.length) % s.length := Nat.mod_eq_sub_mod h1
 have := cls_eq hS (copy_self hv hc hS h2 h3 hm)
 simpa [clsAt] using this
set_option maxHeartbeats 8000000 in
set_option maxRecDepth 100000 in
theorem lawClasses_any (d : List NodeD) (bits : Nat) (A : Option Addr) (c : Nat) (w : World) (hd : NodesR w A d) (htab : Tab w) :
  Calls Tryz.prog 4 #[draftV A d.length c, .int .u64 bits] w (SamePost true w) := by
 have HD := Lib.hid hd
 have HTB := Lib.hid htab
 have HB0 := Lib.hid (below_new w (.cells #[.slice A d.length c] 24))
 clear hd htab
 go_enter Tryz.func4, Tryz.ntmps4
 go_wp2_with fail
 refine (of_any d A c _ (HD.out.below HB0.out)).mono ?_
 rintro e w1 ⟨A1, c1, s, ok, rfl, hs, hok, hno, hb1⟩
 have HS1 := Lib.hid (hs.below (below_new w1 (.cells #[.slice A1 s.length c1] 30)))
 have HOK := Lib.hid hok
 have HB1 := Lib.hid (below_trans HB0.out (below_trans hb1 (below_new w1 (.cells #[.slice A1 s.length c1] 30))))
 have HX1 := Lib.hid (heap_alloc_new w1 (.cells #[.slice A1 s.length c1] 30))
 clear hs hok hno hb1
 go_wp2_with fail
 generalize w1.alloc (.cells #[.slice A1 s.length c1] 30) = W1 at *
 refine (awake_any _ (HTB.out.below HB1.out)).mono ?_
 rintro e w2 ⟨rfl, hb2⟩
 have HB2 := Lib.hid (below_trans HB1.out hb2)
 have HS2 := Lib.hid (HS1.out.below hb2)
 have HX2 := Lib.hid ((hb2.block _ (Array.getElem?_eq_some_iff.1 HX1.out).1).trans HX1.out)
 clear hb2
 cases ok with
 | false =>
  go_wp2_with fail
  refine (awake_any _ (HTB.out.below HB2.out)).mono ?_
  rintro e w3 ⟨rfl, hb3⟩
  have HB3 := Lib.hid (below_trans HB2.out hb3)
  clear hb3
  go_wp2
  go_ret
  exact ⟨rfl, HB3.out⟩
 | true =>
  obtain ⟨hv, hsh, hsl, hd1, hd5⟩ := HOK.out rfl
  have HV := Lib.hid hv
  have hs1 : 1 ≤ s.length := by omega
  have hs5 : s.length ≤ 5 := by omega
  have HSL := Lib.hid hsl
  clear hsl hd1 hd5
  have x0 : w2.cell? ⟨w1.heap.size, 0, none⟩ = some (.slice A1 s.length c1) := by rw [cell_of_row _ _ _ _ _ _ HX2.out]; rfl
  go_wp2_with fail
  refine (copied18_any s bits A1 c1 _ HS2.out hv hsh hs1 hs5).mono ?_
  rintro e w3 ⟨A3, c3, l, rfl, hl3, hc3, hb3⟩
  have HCP := Lib.hid hc3
  have HVL := Lib.hid (copy_valid hv hsh hc3 (by omega))
  have HLL : Hid (l.length = 2 * s.length) := hc3.1
  have HS3 := Lib.hid (hl3.below (below_new w3 (.cells #[.slice A3 l.length c3] 30)))
  have HB3 := Lib.hid (below_trans HB2.out (below_trans hb3 (below_new w3 (.cells #[.slice A3 l.length c3] 30))))
  have HX3 := Lib.hid (heap_alloc_new w3 (.cells #[.slice A3 l.length c3] 30))
  have HY3 := Lib.hid (tmp_al ((hb3.block _ (Array.getElem?_eq_some_iff.1 HX2.out).1).trans HX2.out) (.cells #[.slice A3 l.length c3] 30))
  clear hl3 hc3 hb3 x0 hv hsh
  go_wp2_with fail
  generalize w3.alloc (.cells #[.slice A3 l.length c3] 30) = W3 at *
  refine (classes_any l A3 c3 _ HS3.out).mono ?_
  rintro e w4 ⟨v4, cls, rfl, ho4, hk4, _, hb4⟩
  rw [HVL.out]
  have HK4 := Lib.hid (hk4 HVL.out)
  have hcn : cls.length = l.length := by obtain ⟨S, _, e⟩ := HK4.out; rw [e]; simp [clsD]
  have HCN := Lib.hid hcn
  obtain ⟨A4, c4, rfl, hi4⟩ := OwnI.ints ho4 (by have := HLL.out; unfold Lim; omega)
  have HI4 := Lib.hid hi4
  have HB4 := Lib.hid (below_trans HB3.out hb4)
  have HS4 := Lib.hid (HS3.out.below hb4)
  have HX4 := Lib.hid ((hb4.block _ (Array.getElem?_eq_some_iff.1 HX3.out).1).trans HX3.out)
  have HY4 := Lib.hid ((hb4.block _ (Array.getElem?_eq_some_iff.1 HY3.out).1).trans HY3.out)
  have x7 : w4.cell? ⟨w3.heap.size, 0, none⟩ = some (.slice A3 l.length c3) := by rw [cell_of_row _ _ _ _ _ _ HX4.out]; rfl
  clear ho4 hk4 hi4 hb4 hcn
  go_wp2_with fail
  refine (rClasses_any l A3 c3 _ HS4.out).mono ?_
  rintro e w5 ⟨v5, cl2, rfl, ho5, hk5, _, hb5⟩
  rw [HVL.out]
  obtain rfl : cl2 = cls := ClsIs.unique (hk5 HVL.out) HK4.out
  obtain ⟨A5, c5, rfl, hi5⟩ := OwnI.ints ho5 (by have := HLL.out; have := HCN.out; unfold Lim; omega)
  have HI5 := Lib.hid hi5
  have HI45 := Lib.hid (HI4.out.below hb5)
  have HB5 := Lib.hid (below_trans HB4.out hb5)
  have x5 : w5.cell? ⟨w1.heap.size, 0, none⟩ = some (.slice A1 s.length c1) := by rw [cell_of_row _ _ _ _ _ _ ((hb5.block _ (Array.getElem?_eq_some_iff.1 HY4.out).1).trans HY4.out)]; rfl
  clear ho5 hk5 hi5 hb5 x7
  go_wp2_with fail
  have HEQ : Hid (∀ k : Nat, s.length ≤ k → ∀ (h : k < cl2.length), cl2[k] = cl2[k - s.length]'(by omega)) := fun k hk h => by
   have := cls_copy HV.out HCP.out HK4.out hk (by rw [← HCN.out]; exact h)
   rwa [List.getD_eq_getElem?_getD, List.getElem?_eq_getElem h, List.getD_eq_getElem?_getD, List.getElem?_eq_getElem (by omega)] at this
  have hcl : cl2.length ≤ 10 := by have := HLL.out; have := HCN.out; omega
  generalize hWC : w5 = wc at *
  go_loopw [44] (fun a wr => ∃ k : Nat, k ≤ cl2.length ∧ a = .int .i64 (k : Int) ∧ Hid (Below wc.heap.size wc wr)) (fun a _ => cl2.length - (intOf a).toNat)
  case atStart => exact ⟨0, by omega, rfl, Below.refl _ _⟩
  case round =>
   obtain ⟨k, hk, rfl, hbw⟩ := hrel
   by_cases hlt : k < cl2.length
   ·have h1 : (0:Int) ≤ (k:Int) := by omega
    have h2 : (k : Int) < (cl2.length : Int) := by omega
    by_cases hge : s.length ≤ k
    ·obtain ⟨kk, hkk⟩ : ∃ kk, kk = k - s.length := ⟨_, rfl⟩
     have hlt2 : kk < cl2.length := by omega
     obtain ⟨b, o, rfl, c0⟩ := (HI45.out.below hbw.out).at1 hlt
     obtain ⟨b', o', e, c1⟩ := (HI45.out.below hbw.out).at1 hlt2
     cases e
     have he : (cl2[k] != cl2[kk]) = false := by subst hkk; rw [HEQ.out k hge hlt]; simp
     have hd : decide ((s.length : Int) ≤ (k : Int)) = true := by simp; exact hge
     have hsub : (k : Int) - (s.length : Int) = (kk : Int) := by omega
     have h3 : (0:Int) ≤ (kk : Int) := by omega
     have h4 : (kk : Int) < (cl2.length : Int) := by omega
     have h5 : kk ≤ 10 := by omega
     clear hkk
     go_wp2_with fail
     go_quiet (fail)
     go_wp2
     go_roundw
     case rel => exact ⟨k + 1, by omega, by go_num, below_drewN hbw.out _⟩
     case measure => simp [intOf]; omega
    ·have hd : decide ((s.length : Int) ≤ (k : Int)) = false := by simp; omega
     go_wp2_with fail
     go_quiet (fail)
     go_wp2
     go_roundw
     case rel => exact ⟨k + 1, by omega, by go_num, below_drewN hbw.out _⟩
     case measure => simp [intOf]; omega
   ·have HBF := Lib.hid (below_trans HB5.out hbw.out)
    go_wp2_with fail
    refine (equalInts_any cl2 cl2 A4 A5 c4 c5 _ (HI45.out.below hbw.out) (HI5.out.below hbw.out)).mono ?_
    rintro e w6 ⟨rfl, hb6⟩
    have HB6 := Lib.hid (below_trans HBF.out hb6)
    have q : decide (cl2 = cl2) = true := by simp
    clear hb6
    go_wp2
    go_ret
    exact ⟨by simp, HB6.out⟩
end Go.Proofs.YtkhpajneinmmiaaGreatDoor


