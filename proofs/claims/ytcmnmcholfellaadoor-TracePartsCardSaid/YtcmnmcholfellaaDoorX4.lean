/-
  Walks: the law TraceParts.
-/
import Derived.Test.YtcmnmcholfellaaDoorX3
import Derived.Test.YtcmnmcholfellaaDoorM6
import Derived.Test.YtcmnmcholfellaaDoorF3
namespace Go.Proofs.YtcmnmcholfellaaDoor
open Go.RowKit

def MergeOk (r : List Pt) (w : World) (e : Ending) (w' : World) : Prop := ∃ A c, e = .returned (.tuple #[.slice A r.length c, .int .i64 0]) ∧ PtsR w' A r ∧ Below w.heap.size w w'

theorem merge_is (a b r : List Pt) (h : mergeR a b = (r, 0)) (hla : a.length ≤ 10000) (hlb : b.length ≤ 10000) (A B : Option Addr) (c d : Nat) (w : World) (ha : PtsR w A a) (hb : PtsR w B b) :
    Calls Tryd.prog 16 #[.slice A a.length c, .slice B b.length d] w (MergeOk r w) := by
  refine (merge_any a b (stable_any _ (by omega)) A B c d w ha hb (by omega) (by omega)).mono fun e w' ⟨v, he, ⟨A', c', hv, hr⟩, hbw⟩ => ?_
  rw [h] at he hv hr
  subst hv
  exact ⟨A', c', he, hr, hbw⟩

theorem okP_nonneg {p : Pt} (h : okP p = true) : 0 ≤ p.at_ := by
  simp only [okP, Bool.and_eq_true, decide_eq_true_eq] at h; exact h.1.1.2

set_option maxHeartbeats 1000000 in
set_option maxRecDepth 100000 in
theorem traceParts_A (a b : List Pt) (t : Int) (hx : ¬ a.length ≤ 20) (A B : Option Addr) (c d : Nat) (w : World) (ha : PtsR w A a) (hb : PtsR w B b) (ht : Tab w) :
    Calls Tryd.prog 6 #[.slice A a.length c, .slice B b.length d, .int .i64 t] w fun e w' => e = .returned (.bool true) ∧ Below w.heap.size w w' := by
  have HT := Lib.hid ht
  have HA := Lib.hid ha
  have HB := Lib.hid hb
  clear ht ha hb
  have hd : (20 : Int) < (a.length : Int) := by omega
  clear hx
  go_enter Tryd.func6, Tryd.ntmps6
  go_wp2_with fail
  refine (awake_any _ HT.out).mono ?_
  rintro e w1 ⟨rfl, hb1⟩
  have HB1 := Lib.hid hb1
  clear hb1
  skip
  go_wp2_with fail
  refine (awake_any _ (HT.out.below HB1.out)).mono ?_
  rintro e w2 ⟨rfl, hb2⟩
  have HB2 := Lib.hid (below_trans HB1.out hb2)
  clear hb2
  go_wp2
  go_ret
  exact ⟨rfl, HB2.out⟩
set_option maxHeartbeats 1000000 in
set_option maxRecDepth 100000 in
theorem traceParts_B (a b : List Pt) (t : Int) (hx0 : a.length ≤ 20) (hx : ¬ b.length ≤ 20) (A B : Option Addr) (c d : Nat) (w : World) (ha : PtsR w A a) (hb : PtsR w B b) (ht : Tab w) :
    Calls Tryd.prog 6 #[.slice A a.length c, .slice B b.length d, .int .i64 t] w fun e w' => e = .returned (.bool true) ∧ Below w.heap.size w w' := by
  have HT := Lib.hid ht
  have HA := Lib.hid ha
  have HB := Lib.hid hb
  clear ht ha hb
  (have b1 : ¬ (20 : Int) < (a.length : Int) := by omega); (have hd : (20 : Int) < (b.length : Int) := by omega)
  clear hx
  go_enter Tryd.func6, Tryd.ntmps6
  go_wp2_with fail
  refine (awake_any _ HT.out).mono ?_
  rintro e w1 ⟨rfl, hb1⟩
  have HB1 := Lib.hid hb1
  clear hb1
  skip
  go_wp2_with fail
  refine (awake_any _ (HT.out.below HB1.out)).mono ?_
  rintro e w2 ⟨rfl, hb2⟩
  have HB2 := Lib.hid (below_trans HB1.out hb2)
  clear hb2
  go_wp2
  go_ret
  exact ⟨rfl, HB2.out⟩
set_option maxHeartbeats 1000000 in
set_option maxRecDepth 100000 in
theorem traceParts_C (a b : List Pt) (t : Int) (hx0 : a.length ≤ 20) (hx1 : b.length ≤ 20) (hx : ¬ valid a = 0) (A B : Option Addr) (c d : Nat) (w : World) (ha : PtsR w A a) (hb : PtsR w B b) (ht : Tab w) :
    Calls Tryd.prog 6 #[.slice A a.length c, .slice B b.length d, .int .i64 t] w fun e w' => e = .returned (.bool true) ∧ Below w.heap.size w w' := by
  have HT := Lib.hid ht
  have HA := Lib.hid ha
  have HB := Lib.hid hb
  clear ht ha hb
  (have b1 : ¬ (20 : Int) < (a.length : Int) := by omega); (have b2 : ¬ (20 : Int) < (b.length : Int) := by omega); (have hd : (valid a != 0) = true := by simp [hx])
  clear hx
  go_enter Tryd.func6, Tryd.ntmps6
  go_wp2_with fail
  refine (awake_any _ HT.out).mono ?_
  rintro e w1 ⟨rfl, hb1⟩
  have HB1 := Lib.hid hb1
  clear hb1
  (go_wp2_with fail; refine (refValid_any a A c _ (HA.out.below HB1.out)).mono ?_; rintro e w1' ⟨rfl, hb1⟩; replace HB1 := Lib.hid (below_trans HB1.out hb1); clear hb1)
  go_wp2_with fail
  refine (awake_any _ (HT.out.below HB1.out)).mono ?_
  rintro e w2 ⟨rfl, hb2⟩
  have HB2 := Lib.hid (below_trans HB1.out hb2)
  clear hb2
  go_wp2
  go_ret
  exact ⟨rfl, HB2.out⟩
set_option maxHeartbeats 1000000 in
set_option maxRecDepth 100000 in
theorem traceParts_D (a b : List Pt) (t : Int) (hx0 : a.length ≤ 20) (hx1 : b.length ≤ 20) (hy : valid a = 0) (hx : ¬ valid b = 0) (A B : Option Addr) (c d : Nat) (w : World) (ha : PtsR w A a) (hb : PtsR w B b) (ht : Tab w) :
    Calls Tryd.prog 6 #[.slice A a.length c, .slice B b.length d, .int .i64 t] w fun e w' => e = .returned (.bool true) ∧ Below w.heap.size w w' := by
  have HT := Lib.hid ht
  have HA := Lib.hid ha
  have HB := Lib.hid hb
  clear ht ha hb
  (have b1 : ¬ (20 : Int) < (a.length : Int) := by omega); (have b2 : ¬ (20 : Int) < (b.length : Int) := by omega); (have hd0 : (valid a != 0) = false := by simp [hy]); (have hd : (valid b != 0) = true := by simp [hx]); clear hy
  clear hx
  go_enter Tryd.func6, Tryd.ntmps6
  go_wp2_with fail
  refine (awake_any _ HT.out).mono ?_
  rintro e w1 ⟨rfl, hb1⟩
  have HB1 := Lib.hid hb1
  clear hb1
  (go_wp2_with fail; refine (refValid_any a A c _ (HA.out.below HB1.out)).mono ?_; rintro e w1' ⟨rfl, hb1⟩; replace HB1 := Lib.hid (below_trans HB1.out hb1); clear hb1); (go_wp2_with fail; refine (refValid_any b B d _ (HB.out.below HB1.out)).mono ?_; rintro e w1'' ⟨rfl, hb1⟩; replace HB1 := Lib.hid (below_trans HB1.out hb1); clear hb1)
  go_wp2_with fail
  refine (awake_any _ (HT.out.below HB1.out)).mono ?_
  rintro e w2 ⟨rfl, hb2⟩
  have HB2 := Lib.hid (below_trans HB1.out hb2)
  clear hb2
  go_wp2
  go_ret
  exact ⟨rfl, HB2.out⟩

set_option maxHeartbeats 2000000 in
set_option maxRecDepth 100000 in
theorem traceParts_main (a b : List Pt) (t : Int) (hx0 : a.length ≤ 20) (hx1 : b.length ≤ 20) (hya : valid a = 0) (hyb : valid b = 0) (hfa : ∀ p ∈ a, p.Fits) (A B : Option Addr) (c d : Nat) (w : World) (ha : PtsR w A a) (hb : PtsR w B b) (ht : Tab w) :
    Calls Tryd.prog 6 #[.slice A a.length c, .slice B b.length d, .int .i64 t] w fun e w' => e = .returned (.bool true) ∧ Below w.heap.size w w' := by
  have HT := Lib.hid ht
  have HA := Lib.hid ha
  have HB := Lib.hid hb
  have HFA := Lib.hid hfa
  have HTA := Lib.hid (trc_of_valid hya hx0)
  have HTB := Lib.hid (trc_of_valid hyb hx1)
  have b1 : ¬ (20 : Int) < (a.length : Int) := by omega
  have b2 : ¬ (20 : Int) < (b.length : Int) := by omega
  have hd0 : (valid a != 0) = false := by simp [hya]
  have hd1 : (valid b != 0) = false := by simp [hyb]
  clear ht ha hb hfa hya hyb
  go_enter Tryd.func6, Tryd.ntmps6
  go_wp2_with fail
  refine (awake_any _ HT.out).mono ?_
  rintro e w1 ⟨rfl, hb1⟩
  have HB1 := Lib.hid hb1
  clear hb1
  go_wp2_with fail
  refine (refValid_any a A c _ (HA.out.below HB1.out)).mono ?_
  rintro e w2 ⟨rfl, hb2⟩
  have HB2 := Lib.hid (below_trans HB1.out hb2)
  clear hb2
  go_wp2_with fail
  refine (refValid_any b B d _ (HB.out.below HB2.out)).mono ?_
  rintro e w3 ⟨rfl, hb3⟩
  have HB3 := Lib.hid (below_trans HB2.out hb3)
  clear hb3
  go_wp2_with fail
  refine (between_any a (by omega) A c 0 t _ (HA.out.below HB3.out)).mono ?_
  rintro e w4 ⟨v4, rfl, ⟨A4, c4, rfl, hr4⟩, hb4⟩
  obtain ⟨E, hE⟩ : ∃ E, E = a.filter fun p => !delT 0 t p := ⟨_, rfl⟩
  rw [← hE] at hr4 ⊢
  have HE := Lib.hid hE
  have HR4 := Lib.hid hr4
  have HB4 := Lib.hid (below_trans HB3.out hb4)
  clear hr4 hb4 hE
  go_wp2_with fail
  refine (between_any a (by omega) A c t 9223372036854775807 _ (HA.out.below HB4.out)).mono ?_
  rintro e w5 ⟨v5, rfl, ⟨A5, c5, rfl, hr5⟩, hb5⟩
  obtain ⟨L, hL⟩ : ∃ L, L = a.filter fun p => !delT t 9223372036854775807 p := ⟨_, rfl⟩
  rw [← hL] at hr5 ⊢
  have HL := Lib.hid hL
  have HR5 := Lib.hid hr5
  have HR4b := Lib.hid (HR4.out.below hb5)
  have HB5 := Lib.hid (below_trans HB4.out hb5)
  clear hr5 hb5 hL
  go_wp2
  go_loopw [50] (fun i wr => ∃ k : Nat, k ≤ a.length ∧ i = .int .i64 k ∧ Hid ((∀ j (hj : j < a.length), j < k → a[j].at_ ≠ 9223372036854775807) ∧ Below w5.heap.size w5 wr)) (fun i _ => a.length - (intOf i).toNat)
  case atStart => exact ⟨0, by omega, rfl, (fun j _ hj => absurd hj (by omega)), Below.refl _ _⟩
  case round =>
    obtain ⟨k, hk, rfl, hh⟩ := hrel
    obtain ⟨wo, rfl⟩ : ∃ wo : World, wo = wr := ⟨_, rfl⟩
    by_cases hlt : k < a.length
    · obtain ⟨b', o', rfl, hin, c0, c1, c2, c3, c4', c5', c6, c7, c8, c9, c10⟩ := (HA.out.below (below_trans HB5.out hh.out.2)).at_ hlt
      clear hin
      by_cases hd : a[k].at_ = 9223372036854775807
      · have hdb : (a[k].at_ == 9223372036854775807) = true := by simp [hd]
        clear hd
        go_wp2
        go_ret
        exact ⟨rfl, (below_trans HB5.out hh.out.2).alloc (below_trans HB5.out hh.out.2).size _⟩
      · have hdb : (a[k].at_ == 9223372036854775807) = false := by simp [hd]
        have HD := Lib.hid hd
        clear hd
        go_wp2
        go_roundw
        case rel =>
          refine ⟨k + 1, by omega, by go_num, fun j hj hjk => ?_, hh.out.2.alloc hh.out.2.size _⟩
          by_cases e : j = k
          · subst e; exact HD.out
          · exact hh.out.1 j hj (by omega)
        case measure => simp [intOf]; omega
    · have HLT : Hid (∀ p ∈ a, 0 ≤ p.at_ ∧ p.at_ < 9223372036854775807) := fun p hp => by
        obtain ⟨j, hj, rfl⟩ := List.getElem_of_mem hp
        have e1 := okP_nonneg (HTA.out.ok _ hp)
        have e2 := hh.out.1 j hj (by omega)
        have e3 := (HFA.out _ hp).at_.2
        omega
      have HTE : Hid (Trc 20 E) := by rw [HE.out]; exact HTA.out.filter _
      have HTL : Hid (Trc 20 L) := by rw [HL.out]; exact HTA.out.filter _
      have HW : Hid (mergeR E L = (a, 0)) := by
        show _ = _
        rw [mergeR_ok HTE.out HTL.out (by omega), HE.out, HL.out, parts_mrg HTA.out t 9223372036854775807 HLT.out]
      have HO1 := Lib.hid (mergeR_ok HTE.out HTB.out (by omega))
      have HO2 := Lib.hid (mergeR_ok (HTE.out.mrg HTB.out) HTL.out (by omega))
      have HP1 := Lib.hid (mergeR_ok HTB.out HTL.out (by omega))
      have HP2 := Lib.hid (mergeR_ok HTE.out (HTB.out.mrg HTL.out) (by omega))
      have HAS := Lib.hid (mrg_assoc HTE.out.asc HTB.out.asc HTL.out.asc)
      have hle : E.length ≤ 20 := HTE.out.len
      have hll : L.length ≤ 20 := HTL.out.len
      have HRE := Lib.hid (HR4b.out.below hh.out.2)
      have HRL := Lib.hid (HR5.out.below hh.out.2)
      have HB6 := Lib.hid (below_trans HB5.out hh.out.2)
      have HRB := Lib.hid (HB.out.below HB6.out)
      clear HR4 HR4b HR5 hh
      go_wp2_with fail
      refine (merge_is E L a HW.out (by omega) (by omega) A4 A5 c4 c5 _ HRE.out HRL.out).mono ?_
      rintro e w7 ⟨A7, c7, rfl, hr7, hb7⟩
      have HR7 := Lib.hid hr7
      have HK7 := Lib.hid hb7
      clear hr7 hb7
      go_wp2_with fail
      refine (merge_is E b _ HO1.out (by omega) (by omega) A4 B c4 d _ (HRE.out.below HK7.out) (HRB.out.below HK7.out)).mono ?_
      rintro e w8 ⟨A8, c8, rfl, hr8, hb8⟩
      have HR8 := Lib.hid hr8
      have HK8 := Lib.hid (below_trans HK7.out hb8)
      have HR7b := Lib.hid (HR7.out.below hb8)
      clear hr8 hb8
      go_wp2_with fail
      refine (merge_is _ L _ HO2.out (by rw [mrg_length]; omega) (by omega) A8 A5 c8 c5 _ HR8.out (HRL.out.below HK8.out)).mono ?_
      rintro e w9 ⟨A9, c9, rfl, hr9, hb9⟩
      have HR9 := Lib.hid hr9
      have HK9 := Lib.hid (below_trans HK8.out hb9)
      have HR7c := Lib.hid (HR7b.out.below hb9)
      clear hr9 hb9
      go_wp2_with fail
      refine (merge_is b L _ HP1.out (by omega) (by omega) B A5 d c5 _ (HRB.out.below HK9.out) (HRL.out.below HK9.out)).mono ?_
      rintro e w10 ⟨A10, c10, rfl, hr10, hb10⟩
      have HR10 := Lib.hid hr10
      have HK10 := Lib.hid (below_trans HK9.out hb10)
      have HR7d := Lib.hid (HR7c.out.below hb10)
      have HR9b := Lib.hid (HR9.out.below hb10)
      clear hr10 hb10
      go_wp2_with fail
      refine (merge_is E _ _ HP2.out (by omega) (by rw [mrg_length]; omega) A4 A10 c4 c10 _ (HRE.out.below HK10.out) HR10.out).mono ?_
      rintro e w11 ⟨A11, c11, rfl, hr11, hb11⟩
      have HR11 := Lib.hid hr11
      have HK11 := Lib.hid (below_trans HK10.out hb11)
      have HR7e := Lib.hid (HR7d.out.below hb11)
      have HR9c := Lib.hid (HR9b.out.below hb11)
      clear hr11 hb11
      go_wp2_with fail
      refine (same_any a a A7 A c7 c _ HR7e.out (HA.out.below (below_trans HB6.out HK11.out)) (by omega)).mono ?_
      rintro e w12 ⟨rfl, hb12⟩
      rw [decide_eq_true rfl]
      have HK12 := Lib.hid (below_trans HK11.out hb12)
      have HR9d := Lib.hid (HR9c.out.below hb12)
      have HR11b := Lib.hid (HR11.out.below hb12)
      clear hb12
      go_wp2_with fail
      refine (same_any _ _ A9 A11 c9 c11 _ HR9d.out HR11b.out (by rw [mrg_length, mrg_length]; omega)).mono ?_
      rintro e w13 ⟨rfl, hb13⟩
      rw [decide_eq_true HAS.out]
      have HK13 := Lib.hid (below_trans HK12.out hb13)
      clear hb13
      go_wp2
      go_ret
      exact ⟨rfl, below_trans HB6.out HK13.out⟩

theorem traceParts_any (a b : List Pt) (t : Int) (hfa : ∀ p ∈ a, p.Fits) (A B : Option Addr) (c d : Nat) (w : World) (ha : PtsR w A a) (hb : PtsR w B b) (ht : Tab w) :
    Calls Tryd.prog 6 #[.slice A a.length c, .slice B b.length d, .int .i64 t] w fun e w' => e = .returned (.bool true) ∧ Below w.heap.size w w' := by
  by_cases h1 : a.length ≤ 20
  · by_cases h2 : b.length ≤ 20
    · by_cases h3 : valid a = 0
      · by_cases h4 : valid b = 0
        · exact traceParts_main a b t h1 h2 h3 h4 hfa A B c d w ha hb ht
        · exact traceParts_D a b t h1 h2 h3 h4 A B c d w ha hb ht
      · exact traceParts_C a b t h1 h2 h3 A B c d w ha hb ht
    · exact traceParts_B a b t h1 h2 A B c d w ha hb ht
  · exact traceParts_A a b t h1 A B c d w ha hb ht
end Go.Proofs.YtcmnmcholfellaaDoor
