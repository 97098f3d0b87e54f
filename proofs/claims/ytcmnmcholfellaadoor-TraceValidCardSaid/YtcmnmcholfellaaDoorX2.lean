/-
  Walks: the law TraceValid.
-/
import Derived.Test.YtcmnmcholfellaaDoorH1
import Derived.Test.YtcmnmcholfellaaDoorK1
import Derived.Test.YtcmnmcholfellaaDoorW8
namespace Go.Proofs.YtcmnmcholfellaaDoor
open Go.RowKit

set_option maxHeartbeats 1000000 in
set_option maxRecDepth 100000 in
theorem traceValid_any (l : List Pt) (n : Nat) (hn : n ≤ 65535) (A : Option Addr) (c : Nat) (w : World) (hl : PtsR w A l) (ht : Tab w) :
    Calls Tryd.prog 4 #[.slice A l.length c, .int .u16 n] w fun e w' => e = .returned (.bool true) ∧ Below w.heap.size w w' := by
  have HT := Lib.hid ht
  have HL := Lib.hid hl
  clear ht hl
  by_cases hsmall : l.length ≤ 20 ∧ n ≤ 10005
  · have b1 : ¬ (20 : Int) < (l.length : Int) := by omega
    have b2 : ¬ (10005 : Int) < (n : Int) := by omega
    have hle : l.length ≤ 1000000 := by omega
    have hle2 : (repL l n).length ≤ 1000000 := by have := repL_length l n; omega
    clear hsmall
    go_enter Tryd.func4, Tryd.ntmps4
    go_wp2_with fail
    refine (awake_any _ HT.out).mono ?_
    rintro e w1 ⟨rfl, hb1⟩
    have HB1 := Lib.hid hb1
    clear hb1
    go_wp2_with fail
    refine (repeat_any l n hn hle A c _ (HL.out.below HB1.out)).mono ?_
    rintro e w2 ⟨v2, rfl, ho2, hb2⟩
    obtain ⟨A2, c2, rfl, hr2⟩ := ho2.reads
    have HR2 := Lib.hid hr2
    have HB2 := Lib.hid (below_trans HB1.out hb2)
    clear ho2 hr2 hb2
    go_wp2_with fail
    refine (clone_any l hle A c _ (HL.out.below HB2.out)).mono ?_
    rintro e w3 ⟨v3, rfl, ho3, hb3⟩
    obtain ⟨A3, c3, rfl, hr3⟩ := ho3.reads
    have HR3 := Lib.hid hr3
    have HB3 := Lib.hid (below_trans HB2.out hb3)
    have HR2' := Lib.hid (HR2.out.below hb3)
    clear ho3 hr3 hb3 HR2
    go_wp2_with fail
    refine (valid_any l A3 c3 _ HR3.out).mono ?_
    rintro e w4 ⟨rfl, hb4⟩
    have HB4 := Lib.hid (below_trans HB3.out hb4)
    have HR4 := Lib.hid (HR2'.out.below hb4)
    clear hb4 HR2' HR3
    go_wp2_with fail
    refine (refValid_any l A c _ (HL.out.below HB4.out)).mono ?_
    rintro e w5 ⟨rfl, hb5⟩
    have HB5 := Lib.hid (below_trans HB4.out hb5)
    have HR5 := Lib.hid (HR4.out.below hb5)
    clear hb5 HR4
    have q1 : (valid l == valid l) = true := by simp
    go_wp2_with fail
    refine (clone_any (repL l n) hle2 A2 c2 _ HR5.out).mono ?_
    rintro e w6 ⟨v6, rfl, ho6, hb6⟩
    obtain ⟨A6, c6, rfl, hr6⟩ := ho6.reads
    have HR6 := Lib.hid hr6
    have HB6 := Lib.hid (below_trans HB5.out hb6)
    have HR7 := Lib.hid (HR5.out.below hb6)
    clear ho6 hr6 hb6 HR5
    go_wp2_with fail
    refine (valid_any (repL l n) A6 c6 _ HR6.out).mono ?_
    rintro e w7 ⟨rfl, hb7⟩
    have HB7 := Lib.hid (below_trans HB6.out hb7)
    have HR8 := Lib.hid (HR7.out.below hb7)
    clear hb7
    go_wp2_with fail
    refine (refValid_any (repL l n) A2 c2 _ HR8.out).mono ?_
    rintro e w8 ⟨rfl, hb8⟩
    have HB8 := Lib.hid (below_trans HB7.out hb8)
    clear hb8
    have q2 : (valid (repL l n) == valid (repL l n)) = true := by simp
    go_wp2
    go_ret
    exact ⟨rfl, HB8.out⟩
  · have hd : decide ((20 : Int) < (l.length : Int)) = true ∨ (decide ((20 : Int) < (l.length : Int)) = false ∧ decide ((10005 : Int) < (n : Int)) = true) := by
      simp only [decide_eq_true_eq, decide_eq_false_iff_not]; omega
    clear hsmall
    rcases hd with hd | ⟨hd, hd2⟩
    · have hd' : (20 : Int) < (l.length : Int) := by simpa using hd
      go_enter Tryd.func4, Tryd.ntmps4
      go_wp2_with fail
      refine (awake_any _ HT.out).mono ?_
      rintro e w1 ⟨rfl, hb1⟩
      have HB1 := Lib.hid hb1
      clear hb1
      go_wp2_with fail
      refine (awake_any _ (HT.out.below HB1.out)).mono ?_
      rintro e w2 ⟨rfl, hb2⟩
      have HB2 := Lib.hid (below_trans HB1.out hb2)
      clear hb2
      go_wp2
      go_ret
      exact ⟨rfl, HB2.out⟩
    · have hd' : ¬ (20 : Int) < (l.length : Int) := by simpa using hd
      have hd2' : (10005 : Int) < (n : Int) := by simpa using hd2
      go_enter Tryd.func4, Tryd.ntmps4
      go_wp2_with fail
      refine (awake_any _ HT.out).mono ?_
      rintro e w1 ⟨rfl, hb1⟩
      have HB1 := Lib.hid hb1
      clear hb1
      go_wp2_with fail
      refine (awake_any _ (HT.out.below HB1.out)).mono ?_
      rintro e w2 ⟨rfl, hb2⟩
      have HB2 := Lib.hid (below_trans HB1.out hb2)
      clear hb2
      go_wp2
      go_ret
      exact ⟨rfl, HB2.out⟩
end Go.Proofs.YtcmnmcholfellaaDoor
