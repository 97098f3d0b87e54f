/-
  Walks: awake.
-/
import Derived.Test.YtkhpajneinmmiaaGreatDoorQSXCP
import Derived.Test.YtkhpajneinmmiaaGreatDoorQAW0
import Derived.Test.YtkhpajneinmmiaaGreatDoorQDS1
namespace Go.Proofs.YtkhpajneinmmiaaGreatDoor
open Go.RowKit
theorem ints_new (w : World) (l : List Int) (hl : l.length ≤ 1000) : IntsR (w.alloc (.cells (l.map (Value.int .i64)).toArray 3)) (some ⟨w.heap.size, 0, none⟩) l := by
 refine ⟨by unfold Lim; omega, fun _ => ⟨_, _, rfl, fun i x hx => ⟨encI x, rfl, fun j u hj => ?_⟩⟩⟩
 have hj0 : j = 0 := by
  have := (List.getElem?_eq_some_iff.1 hj).1
  unfold encI at this; simp at this; omega
 subst hj0
 have hu : u = .int .i64 x := by unfold encI at hj; simpa using hj.symm
 subst hu
 rw [cell_of_row _ _ _ _ _ _ (heap_alloc_new w _)]
 simp [hx]
set_option maxHeartbeats 4000000 in
set_option maxRecDepth 100000 in
theorem awake_any (w : World) (htab : Tab w) : Calls Tryz.prog 12 #[] w (SamePost true w) := by
 have HTB := Lib.hid htab
 clear htab
 go_enter Tryz.func12, Tryz.ntmps12
 go_wp2_with fail
 refine (example_any 1 _).mono ?_
 rintro e w1 ⟨A1, c1, rfl, hs1, hb1⟩
 have HS1 := Lib.hid hs1
 have HB1 := Lib.hid hb1
 clear hs1 hb1
 go_wp2_with fail
 refine (example_any 7 _).mono ?_
 rintro e w2 ⟨A2, c2, rfl, hs2, hb2⟩
 have HS2 := Lib.hid (hs2.below (below_new2 w2 (.cells #[.slice A1 (exS 1).length c1] 30) (.cells #[.slice A2 (exS 7).length c2] 30)))
 have HS1' := Lib.hid ((HS1.out.below hb2).below (below_new2 w2 (.cells #[.slice A1 (exS 1).length c1] 30) (.cells #[.slice A2 (exS 7).length c2] 30)))
 have HB2 := Lib.hid (below_trans (below_trans HB1.out hb2) (below_new2 w2 (.cells #[.slice A1 (exS 1).length c1] 30) (.cells #[.slice A2 (exS 7).length c2] 30)))
 have HE1 : Hid (((w2.alloc (.cells #[.slice A1 (exS 1).length c1] 30)).alloc (.cells #[.slice A2 (exS 7).length c2] 30)).cell? ⟨w2.heap.size, 0, none⟩ = some (.slice A1 (exS 1).length c1)) := by
  show _ = _
  rw [cell_of_row _ _ _ _ _ _ (tmp_al (heap_alloc_new w2 _) _)]; rfl
 have HE2 : Hid (((w2.alloc (.cells #[.slice A1 (exS 1).length c1] 30)).alloc (.cells #[.slice A2 (exS 7).length c2] 30)).cell? ⟨w2.heap.size + 1, 0, none⟩ = some (.slice A2 (exS 7).length c2)) := by
  show _ = _
  have h := heap_alloc_new (w2.alloc (.cells #[.slice A1 (exS 1).length c1] 30)) (.cells #[.slice A2 (exS 7).length c2] 30)
  rw [show (w2.alloc (.cells #[.slice A1 (exS 1).length c1] 30)).heap.size = w2.heap.size + 1 by simp] at h
  rw [cell_of_row _ _ _ _ _ _ h]; rfl
 clear hs2 hb2
 go_wp2_with fail
 generalize (w2.alloc (.cells #[.slice A1 (exS 1).length c1] 30)).alloc (.cells #[.slice A2 (exS 7).length c2] 30) = W at *
 refine (classes_any (exS 1) A1 c1 _ HS1'.out).mono ?_
 rintro e w3 ⟨v3, l3, rfl, ho3, hc3, _, hb3⟩
 rw [ex_valid1]
 obtain rfl := ex_cls (hc3 ex_valid1)
 obtain ⟨A3, c3, rfl, hi3⟩ := OwnI.ints ho3 (by unfold Lim; simp)
 have HI3 := Lib.hid hi3
 have HB3 := Lib.hid hb3
 have e1 := below_cell HB3.out HE1.out
 have e2 := below_cell HB3.out HE2.out
 clear ho3 hc3 hi3 hb3
 go_wp2_with fail
 refine (distinguish_any (exS 1) 0 (exS 7) 3 A1 c1 A2 c2 _ (HS1'.out.below HB3.out) (HS2.out.below HB3.out)).mono ?_
 rintro e w4 ⟨A4, c4, l4, err, rfl, hi4, hd4, hb4⟩
 obtain ⟨rfl, rfl⟩ := ex_dist hd4
 have HI4 := Lib.hid hi4
 have HB4 := Lib.hid (below_trans HB3.out hb4)
 have HI3b := Lib.hid (HI3.out.below hb4)
 replace e1 := below_cell hb4 e1
 replace e2 := below_cell hb4 e2
 clear hi4 hd4 hb4
 go_wp2_with fail
 refine (size_any (exS 1) 5 A1 c1 _ (HS1'.out.below HB4.out) (HTB.out.below (below_trans HB2.out HB4.out))).mono ?_
 rintro e w5 ⟨l5, rfl, hc5, _, hb5⟩
 rw [ex_root 5 (by omega), ex_size (hc5 (ex_root 5 (by omega)))]
 have HB5 := Lib.hid (below_trans HB4.out hb5)
 have HI3c := Lib.hid (HI3b.out.below hb5)
 have HI4c := Lib.hid (HI4.out.below hb5)
 replace e1 := below_cell hb5 e1
 clear hc5 hb5 e2
 go_wp2_with fail
 refine (equalInts_any [0, 1, 2, 0, 2, 0, 2, 7] [0, 1, 2, 0, 2, 0, 2, 7] A3 (some ⟨w5.heap.size, 0, none⟩) c3 8 _ (HI3c.out.below (below_new _ _)) (ints_new w5 [0, 1, 2, 0, 2, 0, 2, 7] (by decide))).mono ?_
 rintro e w6 ⟨rfl, hb6⟩
 rw [decide_eq_true rfl]
 have HB6 := Lib.hid (below_trans (below_new w5 _) hb6)
 have HI4d := Lib.hid (HI4c.out.below HB6.out)
 have HB6' := Lib.hid (below_trans HB5.out HB6.out)
 replace e1 := below_cell HB6.out e1
 clear hb6
 go_wp2_with fail
 refine (equalInts_any [2, -1, 1] [2, -1, 1] A4 (some ⟨w6.heap.size, 0, none⟩) c4 3 _ (HI4d.out.below (below_new _ _)) (ints_new w6 [2, -1, 1] (by decide))).mono ?_
 rintro e w7 ⟨rfl, hb7⟩
 rw [decide_eq_true rfl]
 have HB7 := Lib.hid (below_trans (below_new w6 _) hb7)
 have HB7' := Lib.hid (below_trans HB6'.out HB7.out)
 replace e1 := below_cell HB7.out e1
 clear hb7
 go_wp2_with fail
 refine (wire_any (exS 1) 0 (exS 1) 3 A1 c1 A1 c1 _ (HS1'.out.below HB7'.out) (HS1'.out.below HB7'.out)).mono ?_
 rintro e w8 ⟨v8, rfl, hv8, hb8⟩
 obtain rfl := ex_wire hv8
 have HB8' := Lib.hid (below_trans HB7'.out hb8)
 replace e1 := below_cell hb8 e1
 clear hb8 hv8
 go_wp2_with fail
 refine (equivalent_any (exS 1) 0 (exS 1) 3 A1 c1 A1 c1 _ (HS1'.out.below HB8'.out) (HS1'.out.below HB8'.out)).mono ?_
 rintro e w9 ⟨v9, rfl, hv9, hb9⟩
 obtain rfl := ex_equiv hv9
 have HB9' := Lib.hid (below_trans HB2.out (below_trans HB8'.out hb9))
 clear hb9 hv9
 go_wp2
 go_ret
 exact ⟨rfl, HB9'.out⟩
end Go.Proofs.YtkhpajneinmmiaaGreatDoor


