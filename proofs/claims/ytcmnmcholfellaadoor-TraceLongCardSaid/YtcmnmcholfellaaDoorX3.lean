/-
  Walks: the law TraceMerge.
-/
import Derived.Test.YtcmnmcholfellaaDoorZ7
import Derived.Test.YtcmnmcholfellaaDoorP1
import Derived.Test.YtcmnmcholfellaaDoorH1
import Derived.Test.YtcmnmcholfellaaDoorW6
namespace Go.Proofs.YtcmnmcholfellaaDoor
open Go.RowKit

theorem mergeR_small (a b : List Pt) : (mergeR a b).1.length ≤ a.length + b.length := by
  unfold mergeR
  split
  · simp
  · split
    · simp
    · split
      · simp
      · rw [mrg_length]; omega

set_option maxHeartbeats 1000000 in
set_option maxRecDepth 100000 in
theorem traceMerge_any (a b : List Pt) (A B : Option Addr) (c d : Nat) (w : World) (ha : PtsR w A a) (hb : PtsR w B b) (hac : a.length ≤ c) (hbd : b.length ≤ d) (hc63 : c ≤ 9223372036854775807) (hd63 : d ≤ 9223372036854775807) (ht : Tab w) :
    Calls Tryd.prog 5 #[.slice A a.length c, .slice B b.length d] w fun e w' => e = .returned (.bool true) ∧ Below w.heap.size w w' := by
  have HT := Lib.hid ht
  have HA := Lib.hid ha
  have HB := Lib.hid hb
  clear ht ha hb
  by_cases hsmall : a.length ≤ 20
  · have b1 : ¬ (20 : Int) < (a.length : Int) := by omega
    by_cases hsmall2 : b.length ≤ 20
    · have b2 : ¬ (20 : Int) < (b.length : Int) := by omega
      go_enter Tryd.func5, Tryd.ntmps5
      go_wp2_with fail
      refine (awake_any _ HT.out).mono ?_
      rintro e w1 ⟨rfl, hb1⟩
      have HB1 := Lib.hid hb1
      clear hb1
      go_wp2_with fail
      refine (clone_any a (by omega) A c _ (HA.out.below HB1.out)).mono ?_
      rintro e w2 ⟨v2, rfl, ho2, hb2⟩
      obtain ⟨A2, c2, rfl, hr2⟩ := ho2.reads
      have HR2 := Lib.hid hr2
      have HB2 := Lib.hid (below_trans HB1.out hb2)
      clear ho2 hr2 hb2
      go_wp2_with fail
      refine (clone_any b (by omega) B d _ (HB.out.below HB2.out)).mono ?_
      rintro e w3 ⟨v3, rfl, ho3, hb3⟩
      obtain ⟨A3, c3, rfl, hr3⟩ := ho3.reads
      have HR3 := Lib.hid hr3
      have HR2' := Lib.hid (HR2.out.below hb3)
      have HB3 := Lib.hid (below_trans HB2.out hb3)
      clear ho3 hr3 hb3
      go_wp2_with fail
      refine (merge_any a b (stable_any _ (by omega)) A2 A3 c2 c3 _ HR2'.out HR3.out (by omega) (by omega)).mono ?_
      rintro e w4 ⟨v4, rfl, ⟨A4, c4, rfl, hr4⟩, hb4⟩
      have HR4 := Lib.hid hr4
      have HB4 := Lib.hid (below_trans HB3.out hb4)
      clear hr4 hb4
      go_wp2_with fail
      refine (refMerge_any a b A B c d _ (HA.out.below HB4.out) (HB.out.below HB4.out) (by omega) (by omega) hac hbd hc63 hd63).mono ?_
      rintro e w5 ⟨v5, rfl, ⟨A5, c5, rfl, hr5⟩, hb5⟩
      have HR5 := Lib.hid hr5
      have HR4' := Lib.hid (HR4.out.below hb5)
      have HB5 := Lib.hid (below_trans HB4.out hb5)
      clear hr5 hb5
      go_wp2_with fail
      refine (same_any _ _ A4 A5 c4 c5 _ HR4'.out HR5.out (by have := mergeR_small a b; omega)).mono ?_
      rintro e w6 ⟨rfl, hb6⟩
      rw [decide_eq_true rfl]
      have HB6 := Lib.hid (below_trans HB5.out hb6)
      clear hb6
      have hself : ((mergeR a b).2 == (mergeR a b).2) = true := by simp
      go_wp2
      go_ret
      exact ⟨rfl, HB6.out⟩
    · have hd : (20 : Int) < (b.length : Int) := by omega
      go_enter Tryd.func5, Tryd.ntmps5
      go_wp2_with fail
      refine (awake_any _ HT.out).mono ?_
      rintro e w1 ⟨rfl, hb1⟩
      have HB1 := Lib.hid hb1
      clear hb1
      go_wp2_with fail
      refine (awake_any _ (HT.out.below HB1.out)).mono ?_
      rintro e w2 ⟨rfl, hb2⟩
      have HB2 := Lib.hid (below_trans HB1.out hb2)
      clear hb2
      go_wp2
      go_ret
      exact ⟨rfl, HB2.out⟩
  · have hd : (20 : Int) < (a.length : Int) := by omega
    go_enter Tryd.func5, Tryd.ntmps5
    go_wp2_with fail
    refine (awake_any _ HT.out).mono ?_
    rintro e w1 ⟨rfl, hb1⟩
    have HB1 := Lib.hid hb1
    clear hb1
    go_wp2_with fail
    refine (awake_any _ (HT.out.below HB1.out)).mono ?_
    rintro e w2 ⟨rfl, hb2⟩
    have HB2 := Lib.hid (below_trans HB1.out hb2)
    clear hb2
    go_wp2
    go_ret
    exact ⟨rfl, HB2.out⟩
end Go.Proofs.YtcmnmcholfellaaDoor
