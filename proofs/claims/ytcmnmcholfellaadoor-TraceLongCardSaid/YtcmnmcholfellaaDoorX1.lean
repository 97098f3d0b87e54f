/-
  Walks: the law TraceLong.
-/
import Derived.Test.YtcmnmcholfellaaDoorX3
import Derived.Test.YtcmnmcholfellaaDoorS5
import Derived.Test.YtcmnmcholfellaaDoorF3
namespace Go.Proofs.YtcmnmcholfellaaDoor
open Go.RowKit

theorem repL_fits {p : Pt} (h : p.Fits) {n : Nat} (hn : n ≤ 65535) : ∀ q ∈ repL [p] n, q.Fits := by
  intro q hq
  unfold repL at hq
  rw [if_neg (by simp)] at hq
  obtain ⟨i, hi, rfl⟩ := List.mem_map.1 hq
  have hi' := List.mem_range.1 hi
  have e : ([p].getD (i % [p].length) default) = p := by simp [Nat.mod_one]
  rw [e]
  have h1 : In64 ((i : Int) / 3) := by unfold In64; omega
  exact ⟨h1, h.kind, h.tbl, h.wri, h.rdr, h.idx, h.tok, h.rnd, h.rep, h.ver, h.hol⟩

theorem one_pts {w w' : World} {q : Pt} (hb : Below (w.alloc q.box).heap.size (w.alloc q.box) w') : PtsR w' (some ⟨w.heap.size, 0, none⟩) [q] := (new_pts w q _ rfl).below hb

theorem str_self (s : ByteArray) : (s != s) = false := by
  cases s with | mk d =>
  show (!(d == d)) = false
  simp

set_option maxHeartbeats 1000000 in
set_option maxRecDepth 100000 in
theorem traceLong_A (p : Pt) (n : Nat) (hn : n ≤ 65535) (hx : ¬ n ≤ 10005) (w : World) (ht : Tab w) :
    Calls Tryd.prog 3 #[p.v, .int .u16 n] w fun e w' => e = .returned (.bool true) ∧ Below w.heap.size w w' := by
  have HT := Lib.hid ht
  clear ht
  have hd : (10005 : Int) < (n : Int) := by omega
  go_enter Tryd.func3, Tryd.ntmps3
  go_wp2_with fail
  refine (awake_any _ (HT.out.below ((Below.refl _ _).alloc (Nat.le_refl _) _))).mono ?_
  rintro e w1 ⟨rfl, hb1⟩
  obtain ⟨c0, c1, c2, c3, c4, c5, c6, c7, c8, c9, c10⟩ := ptAt_box hb1
  have hz : w.heap.size < w1.heap.size := by have := hb1.size; simp at this; omega
  have HB1 := Lib.hid (below_alloc hb1)
  clear hb1
  skip
  go_wp2_with fail
  refine (awake_any _ (HT.out.below HB1.out)).mono ?_
  rintro e w2 ⟨rfl, hb2⟩
  have HB2 := Lib.hid (below_trans HB1.out hb2)
  clear hb2
  go_wp2
  go_ret
  exact ⟨rfl, HB2.out⟩
set_option maxHeartbeats 1000000 in
set_option maxRecDepth 100000 in
theorem traceLong_B (p : Pt) (n : Nat) (hn : n ≤ 65535) (hx0 : n ≤ 10005) (hx : okP p = false) (w : World) (ht : Tab w) :
    Calls Tryd.prog 3 #[p.v, .int .u16 n] w fun e w' => e = .returned (.bool true) ∧ Below w.heap.size w w' := by
  have HT := Lib.hid ht
  clear ht
  have b1 : ¬ (10005 : Int) < (n : Int) := by omega
  go_enter Tryd.func3, Tryd.ntmps3
  go_wp2_with fail
  refine (awake_any _ (HT.out.below ((Below.refl _ _).alloc (Nat.le_refl _) _))).mono ?_
  rintro e w1 ⟨rfl, hb1⟩
  obtain ⟨c0, c1, c2, c3, c4, c5, c6, c7, c8, c9, c10⟩ := ptAt_box hb1
  have hz : w.heap.size < w1.heap.size := by have := hb1.size; simp at this; omega
  have HB1 := Lib.hid (below_alloc hb1)
  clear hb1
  (go_wp2_with fail; refine (refPoint_any p _).mono ?_; rintro e w1' ⟨rfl, hb1⟩; rw [hx]; replace HB1 := Lib.hid (below_trans HB1.out hb1); clear hb1)
  go_wp2_with fail
  refine (awake_any _ (HT.out.below HB1.out)).mono ?_
  rintro e w2 ⟨rfl, hb2⟩
  have HB2 := Lib.hid (below_trans HB1.out hb2)
  clear hb2
  go_wp2
  go_ret
  exact ⟨rfl, HB2.out⟩

set_option maxHeartbeats 2000000 in
set_option maxRecDepth 100000 in
theorem traceLong_main (p : Pt) (hp : p.Fits) (n : Nat) (hn : n ≤ 10005) (hok : okP p = true) (w : World) (ht : Tab w) :
    Calls Tryd.prog 3 #[p.v, .int .u16 n] w fun e w' => e = .returned (.bool true) ∧ Below w.heap.size w w' := by
  have HT := Lib.hid ht
  have HP := Lib.hid hp
  have b1 : ¬ (10005 : Int) < (n : Int) := by omega
  have hrl : (repL [p] n).length ≤ 10005 := by have := repL_length [p] n; omega
  clear ht hp
  go_enter Tryd.func3, Tryd.ntmps3
  go_wp2_with fail
  refine (awake_any _ (HT.out.below ((Below.refl _ _).alloc (Nat.le_refl _) _))).mono ?_
  rintro e w1 ⟨rfl, hb1⟩
  have HP1 := Lib.hid (ptAt_box hb1)
  have HB1 := Lib.hid (below_alloc hb1)
  clear hb1
  obtain ⟨c0, c1, c2, c3, c4, c5, c6, c7, c8, c9, c10⟩ := HP1.out
  have hz1 := lt_of_cell c0
  simp only at hz1
  go_wp2_with fail
  refine (refPoint_any p _).mono ?_
  rintro e w2 ⟨rfl, hb2⟩
  rw [hok]
  have HP2 := Lib.hid (HP1.out.below hb2)
  have HB2 := Lib.hid (below_trans HB1.out hb2)
  clear hb2 c0 c1 c2 c3 c4 c5 c6 c7 c8 c9 c10 hz1 HP1
  obtain ⟨c0, c1, c2, c3, c4, c5, c6, c7, c8, c9, c10⟩ := HP2.out
  have hz2 := lt_of_cell c0
  simp only at hz2
  go_wp2_with fail
  refine (repeat_any [p] n (by omega) (by simp) (some ⟨w2.heap.size, 0, none⟩) 1 _ (new_pts w2 p _ rfl)).mono ?_
  rintro e w3 ⟨v3, rfl, ho3, hb3⟩
  obtain ⟨A3, c3', rfl, hr3⟩ := ho3.reads
  have hcap := ho3.cap
  obtain ⟨hcap1, hcap2⟩ := hcap
  have HF := Lib.hid (repL_fits HP.out (n := n) (by omega))
  obtain ⟨l, hl⟩ : ∃ l, l = repL [p] n := ⟨_, rfl⟩
  rw [← hl] at hr3 hcap1 hrl HF ⊢
  have HR3 := Lib.hid hr3
  have HP3 := Lib.hid (HP2.out.below (below_alloc hb3))
  have HB3 := Lib.hid (below_trans HB2.out (below_alloc hb3))
  clear hb3 ho3 hr3 hl c0 c1 c2 c3 c4 c5 c6 c7 c8 c9 c10 hz2 HP2
  go_wp2_with fail
  refine (format_any l HF.out A3 c3' _ HR3.out (HT.out.below HB3.out)).mono ?_
  rintro e w4 ⟨rfl, hb4⟩
  have HR4 := Lib.hid (HR3.out.below hb4)
  have HP4 := Lib.hid (HP3.out.below hb4)
  have HB4 := Lib.hid (below_trans HB3.out hb4)
  clear hb4 HR3 HP3
  go_wp2_with fail
  refine (refFormat_any l HF.out A3 c3' _ HR4.out (HT.out.below HB4.out)).mono ?_
  rintro e w5 ⟨rfl, hb5⟩
  have HR5 := Lib.hid (HR4.out.below hb5)
  have HP5 := Lib.hid (HP4.out.below hb5)
  have HB5 := Lib.hid (below_trans HB4.out hb5)
  clear hb5 HR4 HP4
  obtain ⟨c0, c1, c2, c3, c4, c5, c6, c7, c8, c9, c10⟩ := HP5.out
  have hz5 := lt_of_cell c0
  simp only at hz5
  have q1 := str_self (formatR l).1
  have q2 : ((formatR l).2 != (formatR l).2) = false := by simp
  go_wp2_with fail
  refine (merge_any l [p] (stable_any _ (by simp; omega)) A3 (some ⟨w5.heap.size, 0, none⟩) c3' 1 _ (HR5.out.below ((Below.refl _ _).alloc (Nat.le_refl _) _)) (new_pts w5 p _ rfl) (by omega) (by simp)).mono ?_
  rintro e w6 ⟨v6, rfl, ⟨A6, c6', rfl, hr6⟩, hb6⟩
  have HR6 := Lib.hid hr6
  have HQ6 := Lib.hid (HR5.out.below (below_alloc hb6))
  have HP6 := Lib.hid (HP5.out.below (below_alloc hb6))
  have HB6 := Lib.hid (below_trans HB5.out (below_alloc hb6))
  clear hb6 hr6 c0 c1 c2 c3 c4 c5 c6 c7 c8 c9 c10 hz5 HP5 HR5 q1 q2
  obtain ⟨c0, c1, c2, c3, c4, c5, c6, c7, c8, c9, c10⟩ := HP6.out
  have hz6 := lt_of_cell c0
  simp only at hz6
  go_wp2_with fail
  refine (refMerge_any l [p] A3 (some ⟨w6.heap.size, 0, none⟩) c3' 1 _ (HQ6.out.below ((Below.refl _ _).alloc (Nat.le_refl _) _)) (new_pts w6 p _ rfl) (by omega) (by simp) hcap1 (by simp) hcap2 (by omega)).mono ?_
  rintro e w7 ⟨v7, rfl, ⟨A7, c7', rfl, hr7⟩, hb7⟩
  have HR7 := Lib.hid hr7
  have HQ7 := Lib.hid (HR6.out.below (below_alloc hb7))
  have HB7 := Lib.hid (below_trans HB6.out (below_alloc hb7))
  clear hb7 hr7 c0 c1 c2 c3 c4 c5 c6 c7 c8 c9 c10 hz6 HP6 HR6
  have q3 : ((mergeR l [p]).2 == (mergeR l [p]).2) = true := by simp
  have hms := mergeR_small l [p]
  simp only [List.length_cons, List.length_nil] at hms
  go_wp2_with fail
  refine (same_any _ _ A6 A7 c6' c7' _ HQ7.out HR7.out (by omega)).mono ?_
  rintro e w8 ⟨rfl, hb8⟩
  rw [decide_eq_true rfl]
  have HB8 := Lib.hid (below_trans HB7.out hb8)
  clear hb8
  go_wp2
  go_ret
  exact ⟨rfl, HB8.out⟩

theorem traceLong_any (p : Pt) (hp : p.Fits) (n : Nat) (hn : n ≤ 65535) (w : World) (ht : Tab w) :
    Calls Tryd.prog 3 #[p.v, .int .u16 n] w fun e w' => e = .returned (.bool true) ∧ Below w.heap.size w w' := by
  by_cases h : n ≤ 10005
  · by_cases ho : okP p = true
    · exact traceLong_main p hp n h ho w ht
    · exact traceLong_B p n hn h (by simpa using ho) w ht
  · exact traceLong_A p n hn h w ht
end Go.Proofs.YtcmnmcholfellaaDoor
