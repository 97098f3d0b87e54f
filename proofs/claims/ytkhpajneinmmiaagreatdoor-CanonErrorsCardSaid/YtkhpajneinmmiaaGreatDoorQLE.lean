/-
  Walks: the law CanonErrors.
-/
import Derived.Test.YtkhpajneinmmiaaGreatDoorQAW1
import Derived.Test.YtkhpajneinmmiaaGreatDoorQFW
namespace Go.Proofs.YtkhpajneinmmiaaGreatDoor
open Go.RowKit

theorem eqv_no {names : Bool} {a : List TyD} {ta : Int} {b : List TyD} {tb : Int} {v : Bool} (h : EqvIs names a ta b tb v) (hn : ¬ (rootErr a ta = 0 ∧ rootErr b tb = 0)) : v = false := h.2 hn

set_option maxHeartbeats 8000000 in
set_option maxRecDepth 100000 in
theorem lawErrors_I (a : List TyD) (ta : Int) (b : List TyD) (tb : Int) (e1 : rootErr a ta ≠ 0) (e2 : True) (A : Option Addr) (c : Nat) (B : Option Addr) (d : Nat) (w : World) (ha : TysR w A a) (hb : TysR w B b) (htab : Tab w) :
    Calls Tryz.prog 10 #[rootV A a.length c ta, rootV B b.length d tb] w (SamePost true w) := by
  have HA := Lib.hid ha
  have HB := Lib.hid hb
  have HTB := Lib.hid htab
  have HT0 := Lib.hid (two_new w A a.length c ta B b.length d tb)
  have HE1 := Lib.hid e1
  have HE2 := Lib.hid e2
  clear ha hb htab e1 e2
  have HNO : Hid (¬ (rootErr a ta = 0 ∧ rootErr b tb = 0)) := fun h => by first | exact HE1.out h.1 | exact HE2.out h.2
  have q1 : (rootErr a ta == 0) = false := by have := HE1.out; simp [this]
  have q1' : (rootErr a ta == 0) = false := by rw [beq_eq_false_iff_ne]; first | exact HE1.out | exact HE2.out
  have qn : (rootErr a ta != rootErr a ta) = false := by simp
  have HDI : Hid (∀ l err, DistIs a ta b tb l err → l = [] ∧ err = rootErr a ta) := fun l err h => by
    unfold DistIs at h
    first
      | (rw [if_pos HE1.out] at h; exact ⟨h.2, h.1⟩)
      | (rw [if_neg (by simp [HE1.out]), if_pos HE2.out] at h; exact ⟨h.2, h.1⟩)
  go_enter Tryz.func10, Tryz.ntmps10
  go_wp2_with fail
  refine (awake_any _ (HTB.out.below HT0.out.bel)).mono ?_
  rintro e w1 ⟨rfl, hb1⟩
  have HT1 := Lib.hid (HT0.out.below hb1)
  obtain ⟨⟨r0, r1, r2, r3⟩, _⟩ := two_cells HT1.out
  clear hb1
  go_wp2_with fail
  refine (lawFew_any a ta b tb A c B d _ (HA.out.below HT1.out.bel) (HB.out.below HT1.out.bel)).mono ?_
  rintro e w2 ⟨v2, rfl, hb2⟩
  have HT2 := Lib.hid (HT1.out.below hb2)
  clear hb2 r0 r1 r2 r3
  cases v2 with
  | false =>
    go_wp2_with fail
    refine (awake_any _ (HTB.out.below HT2.out.bel)).mono ?_
    rintro e w3 ⟨rfl, hb3⟩
    have HB3 := Lib.hid (below_trans HT2.out.bel hb3)
    clear hb3
    go_wp2
    go_ret
    exact ⟨rfl, HB3.out⟩
  | true =>
    go_wp2_with fail
    refine wp_region_held_drew (S := (fun w' => (w'.cell? ⟨w.heap.size, 0, none⟩ = some (.slice A a.length c) ∧ w'.cell? ⟨w.heap.size, 1, none⟩ = some (.int .i64 ta) ∧ w'.cell? ⟨w.heap.size + 1, 0, none⟩ = some (.slice B b.length d) ∧ w'.cell? ⟨w.heap.size + 1, 1, none⟩ = some (.int .i64 tb)) ∧ Hid (TwoB w w' A a.length c ta B b.length d tb))) (by kernel_rfl) ?_ (fun hHeld => ?_)
    · (try dsimp only); exact two_cells (HT2.out.below (below_drewN (Below.refl _ _) 1))
    refine wpAnyH_take (i := 0) (v := ?v110) rfl (by kernel_rfl) (by kernel_rfl) (by kernel_rfl) (fun _ _ _ h => h) (Or.inl ⟨by rfl, ?hy110⟩) hHeld ?_
    case hy110 => (intro w hSw; (try dsimp only at hSw); go_simp; try with_reducible rfl)
    (try simp only [Act.put, List.setIfInBounds_toArray, List.set_cons_zero, List.set_cons_succ, List.getElem_toArray, List.getElem_cons_zero])
    refine wpAnyH_take (i := 2) (v := ?v111) rfl (by kernel_rfl) (by kernel_rfl) (by kernel_rfl) (fun _ _ _ h => h) (Or.inl ⟨by rfl, ?hy111⟩) hHeld ?_
    case hy111 => (intro w hSw; (try dsimp only at hSw); go_simp; try with_reducible rfl)
    (try simp only [Act.put, List.setIfInBounds_toArray, List.set_cons_zero, List.set_cons_succ, List.getElem_toArray, List.getElem_cons_zero, List.getElem_cons_succ])
    refine wpAnyH_ready (rs := [1]) (by kernel_rfl) (by simp) ?_
    refine (AllReadyH.cons rfl (fun K hK => ?_) AllReadyH.nil)
    go_simp
    (refine (rError_any a ta A c _ (HA.out.below hHeld.2.out.bel)).mono ?_; rintro e w3 ⟨rfl, hbz⟩)
    refine hK.out _ _ ?_ (fun hHeld => ?_)
    · (try dsimp only); exact two_cells (hHeld.2.out.below hbz)
    clear hK K
    (try simp only [Act.put, List.setIfInBounds_toArray, List.set_cons_zero, List.set_cons_succ, List.getElem_toArray, List.getElem_cons_zero, List.getElem_cons_succ])
    refine wpAnyH_ready (rs := [3]) (by kernel_rfl) (by simp) ?_
    refine (AllReadyH.cons rfl (fun K hK => ?_) AllReadyH.nil)
    go_simp
    (refine (rError_any b tb B d _ (HB.out.below hHeld.2.out.bel)).mono ?_; rintro e w4 ⟨rfl, hbz⟩)
    refine hK.out _ _ ?_ (fun hHeld => ?_)
    · (try dsimp only); exact two_cells (hHeld.2.out.below hbz)
    clear hK K
    (try simp only [Act.put, List.setIfInBounds_toArray, List.set_cons_zero, List.set_cons_succ, List.getElem_toArray, List.getElem_cons_zero, List.getElem_cons_succ])
    refine wpAnyH_take (i := 4) (v := ?v112) rfl (by kernel_rfl) (by kernel_rfl) (by kernel_rfl) (fun _ _ _ h => h) (Or.inl ⟨by rfl, ?hy112⟩) hHeld ?_
    case hy112 => (intro w hSw; (try dsimp only at hSw); go_simp; try with_reducible rfl)
    (try simp only [Act.put, List.setIfInBounds_toArray, List.set_cons_zero, List.set_cons_succ, List.getElem_toArray, List.getElem_cons_zero, List.getElem_cons_succ])
    refine wpAnyH_take (i := 5) (v := ?v113) rfl (by kernel_rfl) (by kernel_rfl) (by kernel_rfl) (fun _ _ _ h => h) (Or.inl ⟨by rfl, ?hy113⟩) hHeld ?_
    case hy113 => (intro w hSw; (try dsimp only at hSw); go_simp; try with_reducible rfl)
    (try simp only [Act.put, List.setIfInBounds_toArray, List.set_cons_zero, List.set_cons_succ, List.getElem_toArray, List.getElem_cons_zero, List.getElem_cons_succ])
    refine wpAnyH_done (by kernel_rfl) ?_ _
    have HT4 := Lib.hid hHeld.2.out
    clear hHeld
    obtain ⟨⟨r0, r1, r2, r3⟩, _⟩ := two_cells HT4.out
    go_wp2_with fail
    refine (equivalent_any a ta b tb A c B d _ (HA.out.below HT4.out.bel) (HB.out.below HT4.out.bel)).mono ?_
    rintro e w5 ⟨v5, rfl, hv5, hb5⟩
    obtain rfl := eqv_no hv5 HNO.out
    have HT5 := Lib.hid (HT4.out.below hb5)
    clear hb5 hv5 r0 r1 r2 r3
    obtain ⟨⟨r0, r1, r2, r3⟩, _⟩ := two_cells HT5.out
    go_wp2_with fail
    refine (wire_any a ta b tb A c B d _ (HA.out.below HT5.out.bel) (HB.out.below HT5.out.bel)).mono ?_
    rintro e w6 ⟨v6, rfl, hv6, hb6⟩
    obtain rfl := eqv_no hv6 HNO.out
    have HT6 := Lib.hid (HT5.out.below hb6)
    clear hb6 hv6 r0 r1 r2 r3
    obtain ⟨⟨r0, r1, r2, r3⟩, _⟩ := two_cells HT6.out
    go_wp2_with fail
    refine (distinguish_any a ta b tb A c B d _ (HA.out.below HT6.out.bel) (HB.out.below HT6.out.bel)).mono ?_
    rintro e w7 ⟨A7, c7, l7, err7, rfl, _, hd7, hb7⟩
    obtain ⟨rfl, rfl⟩ := HDI.out _ _ hd7
    have HT7 := Lib.hid (HT6.out.below hb7)
    clear hb7 hd7 r0 r1 r2 r3
    obtain ⟨⟨r0, r1, r2, r3⟩, _⟩ := two_cells HT7.out
    go_wp2_with fail
    refine (rError_any b tb B d _ (HB.out.below HT7.out.bel)).mono ?_
    rintro e w8 ⟨rfl, hb8⟩
    have HT8 := Lib.hid (HT7.out.below hb8)
    clear hb8 r0 r1 r2 r3
    obtain ⟨⟨r0, r1, r2, r3⟩, _⟩ := two_cells HT8.out
    go_wp2_with fail
    refine (canon_any b tb B d _ (HB.out.below HT8.out.bel) (HTB.out.below HT8.out.bel)).mono ?_
    rintro e w9 ⟨A9, c9, l9, rfl, _, _, hz9, hb9⟩
    have HT9 := Lib.hid ((HT8.out.below hb9).below (below_new w9 (.cells #[.slice A9 l9.length c9, .int .i64 0] 32)))
    have HZ9 := Lib.hid hz9
    have HC9 : Hid ((w9.alloc (.cells #[.slice A9 l9.length c9, .int .i64 0] 32)).cell? ⟨w9.heap.size, 0, none⟩ = some (.slice A9 l9.length c9)) := by show _ = _; rw [cell_of_row _ _ _ _ _ _ (heap_alloc_new w9 _)]; rfl
    obtain ⟨⟨s0, s1, s2, s3⟩, _⟩ := two_cells (HT8.out.below hb9)
    have z9 := lt_of_cell s0
    have y9 := lt_of_cell s2
    simp only at z9 y9
    clear hb9 hz9 r0 r1 r2 r3
    go_wp2_with fail
    clear s0 s1 s2 s3 z9 y9
    generalize w9.alloc (.cells #[.slice A9 l9.length c9, .int .i64 0] 32) = W9 at *
    refine (size_any b tb B d _ (HB.out.below HT9.out.bel) (HTB.out.below HT9.out.bel)).mono ?_
    rintro e w10 ⟨l10, rfl, _, hz10, hb10⟩
    have HT10 := Lib.hid (HT9.out.below hb10)
    have p9 := below_cell hb10 HC9.out
    obtain ⟨⟨r0, r1, r2, r3⟩, _⟩ := two_cells HT10.out
    by_cases e3 : rootErr b tb = 0
    · have q3 : (rootErr b tb != 0) = false := by simp [e3]
      have hvb : validD b = 0 := (root_ok e3).1
      have HVB := Lib.hid hvb
      clear hb10 e3 hvb hz10
      go_wp2_with fail
      refine (rValid_any b B d _ (HB.out.below HT10.out.bel)).mono ?_
      rintro e w11 ⟨rfl, hb11⟩
      rw [HVB.out]
      have HT11 := Lib.hid (HT10.out.below hb11)
      clear hb11 r0 r1 r2 r3 p9
      obtain ⟨⟨r0, r1, r2, r3⟩, _⟩ := two_cells HT11.out
      go_wp2_with fail
      refine (classes_any b B d _ (HB.out.below HT11.out.bel)).mono ?_
      rintro e w12 ⟨v12, l12, rfl, ho12, _, _, hb12⟩
      rw [HVB.out]
      have HB12 := Lib.hid (below_trans HT11.out.bel hb12)
      clear hb12 r0 r1 r2 r3
      go_wp2
      go_ret
      exact ⟨rfl, HB12.out⟩
    · have q3 : (rootErr b tb != 0) = true := by simp [e3]
      have q4 : (rootErr b tb != rootErr b tb) = false := by simp
      obtain rfl := HZ9.out e3
      obtain rfl := hz10 e3
      clear hb10 e3 hz10
      go_wp2_with fail
      refine (rValid_any b B d _ (HB.out.below HT10.out.bel)).mono ?_
      rintro e w11 ⟨rfl, hb11⟩
      have HT11 := Lib.hid (HT10.out.below hb11)
      clear hb11 r0 r1 r2 r3 p9
      obtain ⟨⟨r0, r1, r2, r3⟩, _⟩ := two_cells HT11.out
      go_wp2_with fail
      refine (classes_any b B d _ (HB.out.below HT11.out.bel)).mono ?_
      rintro e w12 ⟨v12, l12, rfl, ho12, _, hz12, hb12⟩
      obtain ⟨A12, c12, rfl, _⟩ := OwnL.reads ho12
      have q5 : (validD b == validD b) = true := by simp
      have HB12 := Lib.hid (below_trans HT11.out.bel hb12)
      by_cases e4 : validD b = 0
      · have q6 : (validD b == 0) = true := by simp [e4]
        clear hb12 r0 r1 r2 r3 ho12 hz12 e4
        go_wp2
        go_ret
        exact ⟨rfl, HB12.out⟩
      · have q6 : (validD b == 0) = false := by simp [e4]
        obtain rfl := hz12 e4
        clear hb12 r0 r1 r2 r3 ho12 hz12 e4
        go_wp2
        go_ret
        exact ⟨rfl, HB12.out⟩
set_option maxHeartbeats 8000000 in
set_option maxRecDepth 100000 in
theorem lawErrors_II (a : List TyD) (ta : Int) (b : List TyD) (tb : Int) (e1 : rootErr a ta = 0) (e2 : rootErr b tb ≠ 0) (A : Option Addr) (c : Nat) (B : Option Addr) (d : Nat) (w : World) (ha : TysR w A a) (hb : TysR w B b) (htab : Tab w) :
    Calls Tryz.prog 10 #[rootV A a.length c ta, rootV B b.length d tb] w (SamePost true w) := by
  have HA := Lib.hid ha
  have HB := Lib.hid hb
  have HTB := Lib.hid htab
  have HT0 := Lib.hid (two_new w A a.length c ta B b.length d tb)
  have HE1 := Lib.hid e1
  have HE2 := Lib.hid e2
  clear ha hb htab e1 e2
  have HNO : Hid (¬ (rootErr a ta = 0 ∧ rootErr b tb = 0)) := fun h => by first | exact HE1.out h.1 | exact HE2.out h.2
  have q1 : (rootErr a ta == 0) = true := by have := HE1.out; simp [this]
  have q1' : (rootErr b tb == 0) = false := by rw [beq_eq_false_iff_ne]; first | exact HE1.out | exact HE2.out
  have qn : (rootErr b tb != rootErr b tb) = false := by simp
  have HDI : Hid (∀ l err, DistIs a ta b tb l err → l = [] ∧ err = rootErr b tb) := fun l err h => by
    unfold DistIs at h
    first
      | (rw [if_pos HE1.out] at h; exact ⟨h.2, h.1⟩)
      | (rw [if_neg (by simp [HE1.out]), if_pos HE2.out] at h; exact ⟨h.2, h.1⟩)
  go_enter Tryz.func10, Tryz.ntmps10
  go_wp2_with fail
  refine (awake_any _ (HTB.out.below HT0.out.bel)).mono ?_
  rintro e w1 ⟨rfl, hb1⟩
  have HT1 := Lib.hid (HT0.out.below hb1)
  obtain ⟨⟨r0, r1, r2, r3⟩, _⟩ := two_cells HT1.out
  clear hb1
  go_wp2_with fail
  refine (lawFew_any a ta b tb A c B d _ (HA.out.below HT1.out.bel) (HB.out.below HT1.out.bel)).mono ?_
  rintro e w2 ⟨v2, rfl, hb2⟩
  have HT2 := Lib.hid (HT1.out.below hb2)
  clear hb2 r0 r1 r2 r3
  cases v2 with
  | false =>
    go_wp2_with fail
    refine (awake_any _ (HTB.out.below HT2.out.bel)).mono ?_
    rintro e w3 ⟨rfl, hb3⟩
    have HB3 := Lib.hid (below_trans HT2.out.bel hb3)
    clear hb3
    go_wp2
    go_ret
    exact ⟨rfl, HB3.out⟩
  | true =>
    go_wp2_with fail
    refine wp_region_held_drew (S := (fun w' => (w'.cell? ⟨w.heap.size, 0, none⟩ = some (.slice A a.length c) ∧ w'.cell? ⟨w.heap.size, 1, none⟩ = some (.int .i64 ta) ∧ w'.cell? ⟨w.heap.size + 1, 0, none⟩ = some (.slice B b.length d) ∧ w'.cell? ⟨w.heap.size + 1, 1, none⟩ = some (.int .i64 tb)) ∧ Hid (TwoB w w' A a.length c ta B b.length d tb))) (by kernel_rfl) ?_ (fun hHeld => ?_)
    · (try dsimp only); exact two_cells (HT2.out.below (below_drewN (Below.refl _ _) 1))
    refine wpAnyH_take (i := 0) (v := ?v114) rfl (by kernel_rfl) (by kernel_rfl) (by kernel_rfl) (fun _ _ _ h => h) (Or.inl ⟨by rfl, ?hy114⟩) hHeld ?_
    case hy114 => (intro w hSw; (try dsimp only at hSw); go_simp; try with_reducible rfl)
    (try simp only [Act.put, List.setIfInBounds_toArray, List.set_cons_zero, List.set_cons_succ, List.getElem_toArray, List.getElem_cons_zero])
    refine wpAnyH_take (i := 2) (v := ?v115) rfl (by kernel_rfl) (by kernel_rfl) (by kernel_rfl) (fun _ _ _ h => h) (Or.inl ⟨by rfl, ?hy115⟩) hHeld ?_
    case hy115 => (intro w hSw; (try dsimp only at hSw); go_simp; try with_reducible rfl)
    (try simp only [Act.put, List.setIfInBounds_toArray, List.set_cons_zero, List.set_cons_succ, List.getElem_toArray, List.getElem_cons_zero, List.getElem_cons_succ])
    refine wpAnyH_ready (rs := [1]) (by kernel_rfl) (by simp) ?_
    refine (AllReadyH.cons rfl (fun K hK => ?_) AllReadyH.nil)
    go_simp
    (refine (rError_any a ta A c _ (HA.out.below hHeld.2.out.bel)).mono ?_; rintro e w3 ⟨rfl, hbz⟩)
    refine hK.out _ _ ?_ (fun hHeld => ?_)
    · (try dsimp only); exact two_cells (hHeld.2.out.below hbz)
    clear hK K
    (try simp only [Act.put, List.setIfInBounds_toArray, List.set_cons_zero, List.set_cons_succ, List.getElem_toArray, List.getElem_cons_zero, List.getElem_cons_succ])
    refine wpAnyH_ready (rs := [3]) (by kernel_rfl) (by simp) ?_
    refine (AllReadyH.cons rfl (fun K hK => ?_) AllReadyH.nil)
    go_simp
    (refine (rError_any b tb B d _ (HB.out.below hHeld.2.out.bel)).mono ?_; rintro e w4 ⟨rfl, hbz⟩)
    refine hK.out _ _ ?_ (fun hHeld => ?_)
    · (try dsimp only); exact two_cells (hHeld.2.out.below hbz)
    clear hK K
    (try simp only [Act.put, List.setIfInBounds_toArray, List.set_cons_zero, List.set_cons_succ, List.getElem_toArray, List.getElem_cons_zero, List.getElem_cons_succ])
    refine wpAnyH_take (i := 4) (v := ?v116) rfl (by kernel_rfl) (by kernel_rfl) (by kernel_rfl) (fun _ _ _ h => h) (Or.inl ⟨by rfl, ?hy116⟩) hHeld ?_
    case hy116 => (intro w hSw; (try dsimp only at hSw); go_simp; try with_reducible rfl)
    (try simp only [Act.put, List.setIfInBounds_toArray, List.set_cons_zero, List.set_cons_succ, List.getElem_toArray, List.getElem_cons_zero, List.getElem_cons_succ])
    refine wpAnyH_take (i := 5) (v := ?v117) rfl (by kernel_rfl) (by kernel_rfl) (by kernel_rfl) (fun _ _ _ h => h) (Or.inl ⟨by rfl, ?hy117⟩) hHeld ?_
    case hy117 => (intro w hSw; (try dsimp only at hSw); go_simp; try with_reducible rfl)
    (try simp only [Act.put, List.setIfInBounds_toArray, List.set_cons_zero, List.set_cons_succ, List.getElem_toArray, List.getElem_cons_zero, List.getElem_cons_succ])
    refine wpAnyH_done (by kernel_rfl) ?_ _
    have HT4 := Lib.hid hHeld.2.out
    clear hHeld
    obtain ⟨⟨r0, r1, r2, r3⟩, _⟩ := two_cells HT4.out
    go_wp2_with fail
    refine (equivalent_any a ta b tb A c B d _ (HA.out.below HT4.out.bel) (HB.out.below HT4.out.bel)).mono ?_
    rintro e w5 ⟨v5, rfl, hv5, hb5⟩
    obtain rfl := eqv_no hv5 HNO.out
    have HT5 := Lib.hid (HT4.out.below hb5)
    clear hb5 hv5 r0 r1 r2 r3
    obtain ⟨⟨r0, r1, r2, r3⟩, _⟩ := two_cells HT5.out
    go_wp2_with fail
    refine (wire_any a ta b tb A c B d _ (HA.out.below HT5.out.bel) (HB.out.below HT5.out.bel)).mono ?_
    rintro e w6 ⟨v6, rfl, hv6, hb6⟩
    obtain rfl := eqv_no hv6 HNO.out
    have HT6 := Lib.hid (HT5.out.below hb6)
    clear hb6 hv6 r0 r1 r2 r3
    obtain ⟨⟨r0, r1, r2, r3⟩, _⟩ := two_cells HT6.out
    go_wp2_with fail
    refine (distinguish_any a ta b tb A c B d _ (HA.out.below HT6.out.bel) (HB.out.below HT6.out.bel)).mono ?_
    rintro e w7 ⟨A7, c7, l7, err7, rfl, _, hd7, hb7⟩
    obtain ⟨rfl, rfl⟩ := HDI.out _ _ hd7
    have HT7 := Lib.hid (HT6.out.below hb7)
    clear hb7 hd7 r0 r1 r2 r3
    obtain ⟨⟨r0, r1, r2, r3⟩, _⟩ := two_cells HT7.out
    go_wp2_with fail
    refine (rError_any b tb B d _ (HB.out.below HT7.out.bel)).mono ?_
    rintro e w8 ⟨rfl, hb8⟩
    have HT8 := Lib.hid (HT7.out.below hb8)
    clear hb8 r0 r1 r2 r3
    obtain ⟨⟨r0, r1, r2, r3⟩, _⟩ := two_cells HT8.out
    go_wp2_with fail
    refine (canon_any b tb B d _ (HB.out.below HT8.out.bel) (HTB.out.below HT8.out.bel)).mono ?_
    rintro e w9 ⟨A9, c9, l9, rfl, _, _, hz9, hb9⟩
    have HT9 := Lib.hid ((HT8.out.below hb9).below (below_new w9 (.cells #[.slice A9 l9.length c9, .int .i64 0] 32)))
    have HZ9 := Lib.hid hz9
    have HC9 : Hid ((w9.alloc (.cells #[.slice A9 l9.length c9, .int .i64 0] 32)).cell? ⟨w9.heap.size, 0, none⟩ = some (.slice A9 l9.length c9)) := by show _ = _; rw [cell_of_row _ _ _ _ _ _ (heap_alloc_new w9 _)]; rfl
    obtain ⟨⟨s0, s1, s2, s3⟩, _⟩ := two_cells (HT8.out.below hb9)
    have z9 := lt_of_cell s0
    have y9 := lt_of_cell s2
    simp only at z9 y9
    clear hb9 hz9 r0 r1 r2 r3
    go_wp2_with fail
    clear s0 s1 s2 s3 z9 y9
    generalize w9.alloc (.cells #[.slice A9 l9.length c9, .int .i64 0] 32) = W9 at *
    refine (size_any b tb B d _ (HB.out.below HT9.out.bel) (HTB.out.below HT9.out.bel)).mono ?_
    rintro e w10 ⟨l10, rfl, _, hz10, hb10⟩
    have HT10 := Lib.hid (HT9.out.below hb10)
    have p9 := below_cell hb10 HC9.out
    obtain ⟨⟨r0, r1, r2, r3⟩, _⟩ := two_cells HT10.out
    by_cases e3 : rootErr b tb = 0
    · have q3 : (rootErr b tb != 0) = false := by simp [e3]
      have hvb : validD b = 0 := (root_ok e3).1
      have HVB := Lib.hid hvb
      clear hb10 e3 hvb hz10
      go_wp2_with fail
      refine (rValid_any b B d _ (HB.out.below HT10.out.bel)).mono ?_
      rintro e w11 ⟨rfl, hb11⟩
      rw [HVB.out]
      have HT11 := Lib.hid (HT10.out.below hb11)
      clear hb11 r0 r1 r2 r3 p9
      obtain ⟨⟨r0, r1, r2, r3⟩, _⟩ := two_cells HT11.out
      go_wp2_with fail
      refine (classes_any b B d _ (HB.out.below HT11.out.bel)).mono ?_
      rintro e w12 ⟨v12, l12, rfl, ho12, _, _, hb12⟩
      rw [HVB.out]
      have HB12 := Lib.hid (below_trans HT11.out.bel hb12)
      clear hb12 r0 r1 r2 r3
      go_wp2
      go_ret
      exact ⟨rfl, HB12.out⟩
    · have q3 : (rootErr b tb != 0) = true := by simp [e3]
      have q4 : (rootErr b tb != rootErr b tb) = false := by simp
      obtain rfl := HZ9.out e3
      obtain rfl := hz10 e3
      clear hb10 e3 hz10
      go_wp2_with fail
      refine (rValid_any b B d _ (HB.out.below HT10.out.bel)).mono ?_
      rintro e w11 ⟨rfl, hb11⟩
      have HT11 := Lib.hid (HT10.out.below hb11)
      clear hb11 r0 r1 r2 r3 p9
      obtain ⟨⟨r0, r1, r2, r3⟩, _⟩ := two_cells HT11.out
      go_wp2_with fail
      refine (classes_any b B d _ (HB.out.below HT11.out.bel)).mono ?_
      rintro e w12 ⟨v12, l12, rfl, ho12, _, hz12, hb12⟩
      obtain ⟨A12, c12, rfl, _⟩ := OwnL.reads ho12
      have q5 : (validD b == validD b) = true := by simp
      have HB12 := Lib.hid (below_trans HT11.out.bel hb12)
      by_cases e4 : validD b = 0
      · have q6 : (validD b == 0) = true := by simp [e4]
        clear hb12 r0 r1 r2 r3 ho12 hz12 e4
        go_wp2
        go_ret
        exact ⟨rfl, HB12.out⟩
      · have q6 : (validD b == 0) = false := by simp [e4]
        obtain rfl := hz12 e4
        clear hb12 r0 r1 r2 r3 ho12 hz12 e4
        go_wp2
        go_ret
        exact ⟨rfl, HB12.out⟩
set_option maxHeartbeats 8000000 in
set_option maxRecDepth 100000 in
theorem lawErrors_0 (a : List TyD) (ta : Int) (b : List TyD) (tb : Int) (e1 : rootErr a ta = 0) (e2 : rootErr b tb = 0) (A : Option Addr) (c : Nat) (B : Option Addr) (d : Nat) (w : World) (ha : TysR w A a) (hb : TysR w B b) (htab : Tab w) :
    Calls Tryz.prog 10 #[rootV A a.length c ta, rootV B b.length d tb] w (SamePost true w) := by
  have HA := Lib.hid ha
  have HB := Lib.hid hb
  have HTB := Lib.hid htab
  have HT0 := Lib.hid (two_new w A a.length c ta B b.length d tb)
  have HE1 := Lib.hid e1
  have HE2 := Lib.hid e2
  clear ha hb htab e1 e2
  go_enter Tryz.func10, Tryz.ntmps10
  go_wp2_with fail
  refine (awake_any _ (HTB.out.below HT0.out.bel)).mono ?_
  rintro e w1 ⟨rfl, hb1⟩
  have HT1 := Lib.hid (HT0.out.below hb1)
  obtain ⟨⟨r0, r1, r2, r3⟩, _⟩ := two_cells HT1.out
  clear hb1
  go_wp2_with fail
  refine (lawFew_any a ta b tb A c B d _ (HA.out.below HT1.out.bel) (HB.out.below HT1.out.bel)).mono ?_
  rintro e w2 ⟨v2, rfl, hb2⟩
  have HT2 := Lib.hid (HT1.out.below hb2)
  clear hb2 r0 r1 r2 r3
  cases v2 with
  | false =>
    go_wp2_with fail
    refine (awake_any _ (HTB.out.below HT2.out.bel)).mono ?_
    rintro e w3 ⟨rfl, hb3⟩
    have HB3 := Lib.hid (below_trans HT2.out.bel hb3)
    clear hb3
    go_wp2
    go_ret
    exact ⟨rfl, HB3.out⟩
  | true =>
    go_wp2_with fail
    refine wp_region_held_drew (S := (fun w' => (w'.cell? ⟨w.heap.size, 0, none⟩ = some (.slice A a.length c) ∧ w'.cell? ⟨w.heap.size, 1, none⟩ = some (.int .i64 ta) ∧ w'.cell? ⟨w.heap.size + 1, 0, none⟩ = some (.slice B b.length d) ∧ w'.cell? ⟨w.heap.size + 1, 1, none⟩ = some (.int .i64 tb)) ∧ Hid (TwoB w w' A a.length c ta B b.length d tb))) (by kernel_rfl) ?_ (fun hHeld => ?_)
    · (try dsimp only); exact two_cells (HT2.out.below (below_drewN (Below.refl _ _) 1))
    refine wpAnyH_take (i := 0) (v := ?v118) rfl (by kernel_rfl) (by kernel_rfl) (by kernel_rfl) (fun _ _ _ h => h) (Or.inl ⟨by rfl, ?hy118⟩) hHeld ?_
    case hy118 => (intro w hSw; (try dsimp only at hSw); go_simp; try with_reducible rfl)
    (try simp only [Act.put, List.setIfInBounds_toArray, List.set_cons_zero, List.set_cons_succ, List.getElem_toArray, List.getElem_cons_zero])
    refine wpAnyH_take (i := 2) (v := ?v119) rfl (by kernel_rfl) (by kernel_rfl) (by kernel_rfl) (fun _ _ _ h => h) (Or.inl ⟨by rfl, ?hy119⟩) hHeld ?_
    case hy119 => (intro w hSw; (try dsimp only at hSw); go_simp; try with_reducible rfl)
    (try simp only [Act.put, List.setIfInBounds_toArray, List.set_cons_zero, List.set_cons_succ, List.getElem_toArray, List.getElem_cons_zero, List.getElem_cons_succ])
    refine wpAnyH_ready (rs := [1]) (by kernel_rfl) (by simp) ?_
    refine (AllReadyH.cons rfl (fun K hK => ?_) AllReadyH.nil)
    go_simp
    (refine (rError_any a ta A c _ (HA.out.below hHeld.2.out.bel)).mono ?_; rintro e w3 ⟨rfl, hbz⟩; rw [HE1.out])
    refine hK.out _ _ ?_ (fun hHeld => ?_)
    · (try dsimp only); exact two_cells (hHeld.2.out.below hbz)
    clear hK K
    (try simp only [Act.put, List.setIfInBounds_toArray, List.set_cons_zero, List.set_cons_succ, List.getElem_toArray, List.getElem_cons_zero, List.getElem_cons_succ])
    refine wpAnyH_ready (rs := [3]) (by kernel_rfl) (by simp) ?_
    refine (AllReadyH.cons rfl (fun K hK => ?_) AllReadyH.nil)
    go_simp
    (refine (rError_any b tb B d _ (HB.out.below hHeld.2.out.bel)).mono ?_; rintro e w4 ⟨rfl, hbz⟩; rw [HE2.out])
    refine hK.out _ _ ?_ (fun hHeld => ?_)
    · (try dsimp only); exact two_cells (hHeld.2.out.below hbz)
    clear hK K
    (try simp only [Act.put, List.setIfInBounds_toArray, List.set_cons_zero, List.set_cons_succ, List.getElem_toArray, List.getElem_cons_zero, List.getElem_cons_succ])
    refine wpAnyH_take (i := 4) (v := ?v120) rfl (by kernel_rfl) (by kernel_rfl) (by kernel_rfl) (fun _ _ _ h => h) (Or.inl ⟨by rfl, ?hy120⟩) hHeld ?_
    case hy120 => (intro w hSw; (try dsimp only at hSw); go_simp; try with_reducible rfl)
    (try simp only [Act.put, List.setIfInBounds_toArray, List.set_cons_zero, List.set_cons_succ, List.getElem_toArray, List.getElem_cons_zero, List.getElem_cons_succ])
    refine wpAnyH_take (i := 5) (v := ?v121) rfl (by kernel_rfl) (by kernel_rfl) (by kernel_rfl) (fun _ _ _ h => h) (Or.inl ⟨by rfl, ?hy121⟩) hHeld ?_
    case hy121 => (intro w hSw; (try dsimp only at hSw); go_simp; try with_reducible rfl)
    (try simp only [Act.put, List.setIfInBounds_toArray, List.set_cons_zero, List.set_cons_succ, List.getElem_toArray, List.getElem_cons_zero, List.getElem_cons_succ])
    refine wpAnyH_done (by kernel_rfl) ?_ _
    have HT4 := Lib.hid hHeld.2.out
    clear hHeld
    go_wp2
    go_ret
    exact ⟨rfl, HT4.out.bel⟩
theorem lawErrors_any (a : List TyD) (ta : Int) (b : List TyD) (tb : Int) (A : Option Addr) (c : Nat) (B : Option Addr) (d : Nat) (w : World) (ha : TysR w A a) (hb : TysR w B b) (htab : Tab w) :
    Calls Tryz.prog 10 #[rootV A a.length c ta, rootV B b.length d tb] w (SamePost true w) := by
  by_cases e1 : rootErr a ta = 0
  · by_cases e2 : rootErr b tb = 0
    · exact lawErrors_0 a ta b tb e1 e2 A c B d w ha hb htab
    · exact lawErrors_II a ta b tb e1 e2 A c B d w ha hb htab
  · exact lawErrors_I a ta b tb e1 trivial A c B d w ha hb htab
end Go.Proofs.YtkhpajneinmmiaaGreatDoor
