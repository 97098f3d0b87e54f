/-
  Walks: the laws TraceParse and TraceText.
-/
import Derived.Test.YtcmnmcholfellaaDoorQ9
import Derived.Test.YtcmnmcholfellaaDoorS5
import Derived.Test.YtcmnmcholfellaaDoorH1
import Derived.Test.YtcmnmcholfellaaDoorW6
namespace Go.Proofs.YtcmnmcholfellaaDoor
open Go.RowKit

theorem textB_of {l : List Pt} {t : ByteArray} (h : textL l = t.data.toList) : textB l = t := by
  apply ByteArray.ext
  apply Array.ext'
  rw [textB_data, h]

theorem parseR_len (t : ByteArray) : (parseR t).1.length ≤ 10000 := by
  unfold parseR
  rcases parse_err _ t.data.toList [] (Nat.le_refl _) with h | h
  · have e : parseL t.data.toList [] = ((parseL t.data.toList []).1, (parseL t.data.toList []).2.1, 0) := by rw [← h]
    exact (parse_ok _ _ _ _ _ (Nat.le_refl _) e (fun p hp => by cases hp) List.Pairwise.nil (by simp)).2.2.2.1
  · rw [h]; simp

theorem parseR_format {t : ByteArray} (h : (parseR t).2.2 = 0) (hs : t.size ≤ 65536) : formatR (parseR t).1 = (t, 0) ∧ ∀ p ∈ (parseR t).1, p.Fits := by
  unfold parseR at h ⊢
  have e : parseL t.data.toList [] = ((parseL t.data.toList []).1, (parseL t.data.toList []).2.1, 0) := by rw [← h]
  obtain ⟨_, h2, h3, h4, h5, h6⟩ := parse_ok _ _ _ _ _ (Nat.le_refl _) e (fun p hp => by cases hp) List.Pairwise.nil (by simp)
  have ht : textB (parseL t.data.toList []).1 = t := textB_of (by rw [h5]; rfl)
  have hv := Trc.valid (n := 10000) ⟨h4, h2, h3⟩ (Nat.le_refl _)
  refine ⟨?_, fun p hp => (h6 p hp).elim (fun h => by cases h) id⟩
  rw [format_text hv (by rw [ht]; exact hs), ht]

set_option maxHeartbeats 2000000 in
set_option maxRecDepth 100000 in
theorem traceParse_any (s : ByteArray) (w : World) (hE : Env w) :
    Calls Tryd.prog 9 #[.string s] w fun e w' => e = .returned (.bool true) ∧ Below w.heap.size w w' := by
  have HE := Lib.hid hE
  clear hE
  by_cases hs : s.size ≤ 600
  · have hsI : ¬ (600 : Int) < (s.size : Int) := by omega
    have hrl := parseR_len s
    obtain ⟨r, hr⟩ : ∃ r, r = parseR s := ⟨_, rfl⟩
    have HF : Hid (r.2.2 = 0 → formatR r.1 = (s, 0) ∧ ∀ p ∈ r.1, p.Fits) := by rw [hr]; exact fun h => parseR_format h (by omega)
    rw [← hr] at hrl
    have HR := Lib.hid hr
    clear hr
    go_enter Tryd.func9, Tryd.ntmps9
    go_wp2_with fail
    refine (awake_any _ HE.out.tab).mono ?_
    rintro e w1 ⟨rfl, hb1⟩
    have HB1 := Lib.hid hb1
    clear hb1
    go_wp2_with fail
    refine (parse_any s (by omega) _ (HE.out.below HB1.out)).mono ?_
    rintro e w2 ⟨A2, c2, rfl, hr2, hb2⟩
    rw [← HR.out] at hr2 ⊢
    have HR2 := Lib.hid hr2
    have HB2 := Lib.hid (below_trans HB1.out hb2)
    clear hr2 hb2
    go_wp2_with fail
    refine (refParse_any s (by omega) _ (HE.out.below HB2.out)).mono ?_
    rintro e w3 ⟨A3, c3, rfl, hr3, hb3⟩
    rw [← HR.out] at hr3 ⊢
    have HR3 := Lib.hid hr3
    have HR2b := Lib.hid (HR2.out.below hb3)
    have HB3 := Lib.hid (below_trans HB2.out hb3)
    clear hr3 hb3
    have q1 : (r.2.1 != r.2.1) = false := by simp
    have q2 : (r.2.2 != r.2.2) = false := by simp
    have q3 : (r.2.1 == r.2.1) = true := by simp
    have q4 : (r.2.2 == r.2.2) = true := by simp
    go_wp2_with fail
    refine (same_any r.1 r.1 A2 A3 c2 c3 _ HR2b.out HR3.out (by omega)).mono ?_
    rintro e w4 ⟨rfl, hb4⟩
    rw [decide_eq_true rfl]
    have HR3b := Lib.hid (HR3.out.below hb4)
    have HR2c := Lib.hid (HR2b.out.below hb4)
    have HB4 := Lib.hid (below_trans HB3.out hb4)
    clear hb4
    by_cases he : r.2.2 = 0
    · obtain ⟨hf1, hf2⟩ := HF.out he
      have HF1 := Lib.hid hf1
      have HF2 := Lib.hid hf2
      have q5 : (r.2.2 != 0) = false := by simp [he]
      clear he hf1 hf2
      go_wp2_with fail
      refine (format_any r.1 HF2.out A2 c2 _ HR2c.out (HE.out.below HB4.out).tab).mono ?_
      rintro e w5 ⟨rfl, hb5⟩
      rw [HF1.out]
      have HB5 := Lib.hid (below_trans HB4.out hb5)
      clear hb5
      go_wp2
      go_ret
      exact ⟨rfl, HB5.out⟩
    · have q5 : (r.2.2 != 0) = true := by simp [he]
      clear he
      go_wp2_with fail
      refine (same_any r.1 r.1 A2 A3 c2 c3 _ HR2c.out HR3b.out (by omega)).mono ?_
      rintro e w5 ⟨rfl, hb5⟩
      rw [decide_eq_true rfl]
      have HB5 := Lib.hid (below_trans HB4.out hb5)
      clear hb5
      go_wp2
      go_ret
      exact ⟨rfl, HB5.out⟩
  · have hd : (600 : Int) < (s.size : Int) := by omega
    go_enter Tryd.func9, Tryd.ntmps9
    go_wp2_with fail
    refine (awake_any _ HE.out.tab).mono ?_
    rintro e w1 ⟨rfl, hb1⟩
    have HB1 := Lib.hid hb1
    clear hb1
    go_wp2_with fail
    refine (awake_any _ (HE.out.tab.below HB1.out)).mono ?_
    rintro e w2 ⟨rfl, hb2⟩
    have HB2 := Lib.hid (below_trans HB1.out hb2)
    clear hb2
    go_wp2
    go_ret
    exact ⟨rfl, HB2.out⟩

theorem formatR_ok {l : List Pt} (h : (formatR l).2 = 0) : valid l = 0 ∧ formatR l = (textB l, 0) ∧ (textB l).size ≤ 65536 := by
  unfold formatR at h ⊢
  by_cases hv : valid l = 0
  · rw [if_neg (by simp [hv])] at h ⊢
    split at h
    · cases h
    · rename_i h2
      exact ⟨hv, by rw [if_neg h2], by omega⟩
  · rw [if_pos (by simpa using hv)] at h
    exact absurd h hv

theorem parseR_text {l : List Pt} (hv : valid l = 0) (hf : ∀ p ∈ l, p.Fits) : parseR (textB l) = (l, 0, 0) := by
  have ht := trc_of_valid hv (okL_of_valid hv).1
  unfold parseR
  rw [textB_data, parse_text l [] ht.ok hf (by simpa using ht.asc) (by simpa using ht.len)]
  rfl

set_option maxHeartbeats 2000000 in
set_option maxRecDepth 100000 in
theorem traceText_any (l : List Pt) (hf : ∀ p ∈ l, p.Fits) (A : Option Addr) (c : Nat) (w : World) (hl : PtsR w A l) (hE : Env w) :
    Calls Tryd.prog 10 #[.slice A l.length c] w fun e w' => e = .returned (.bool true) ∧ Below w.heap.size w w' := by
  have HE := Lib.hid hE
  have HL := Lib.hid hl
  have HF := Lib.hid hf
  clear hE hl hf
  by_cases hs : l.length ≤ 20
  · have hsI : ¬ (20 : Int) < (l.length : Int) := by omega
    go_enter Tryd.func10, Tryd.ntmps10
    go_wp2_with fail
    refine (awake_any _ HE.out.tab).mono ?_
    rintro e w1 ⟨rfl, hb1⟩
    have HB1 := Lib.hid hb1
    clear hb1
    go_wp2_with fail
    refine (clone_any l (by omega) A c _ (HL.out.below HB1.out)).mono ?_
    rintro e w2 ⟨v2, rfl, ho2, hb2⟩
    obtain ⟨A2, c2, rfl, hr2⟩ := ho2.reads
    have HR2 := Lib.hid hr2
    have HB2 := Lib.hid (below_trans HB1.out hb2)
    clear ho2 hr2 hb2
    go_wp2_with fail
    refine (format_any l HF.out A2 c2 _ HR2.out (HE.out.below HB2.out).tab).mono ?_
    rintro e w3 ⟨rfl, hb3⟩
    have HB3 := Lib.hid (below_trans HB2.out hb3)
    clear hb3
    go_wp2_with fail
    refine (refFormat_any l HF.out A c _ (HL.out.below HB3.out) (HE.out.below HB3.out).tab).mono ?_
    rintro e w4 ⟨rfl, hb4⟩
    have HB4 := Lib.hid (below_trans HB3.out hb4)
    clear hb4
    by_cases he : (formatR l).2 = 0
    · obtain ⟨hv, hfm, hsz⟩ := formatR_ok he
      have HP := Lib.hid (parseR_text hv HF.out)
      rw [hfm]
      clear he hfm hv
      go_wp2_with fail
      refine (parse_any (textB l) hsz _ (HE.out.below HB4.out)).mono ?_
      rintro e w5 ⟨A5, c5, rfl, hr5, hb5⟩
      rw [HP.out] at hr5 ⊢
      have HR5 := Lib.hid hr5
      have HB5 := Lib.hid (below_trans HB4.out hb5)
      clear hr5 hb5
      go_wp2_with fail
      refine (same_any l l A5 A c5 c _ HR5.out (HL.out.below HB5.out) (by omega)).mono ?_
      rintro e w6 ⟨rfl, hb6⟩
      rw [decide_eq_true rfl]
      have HB6 := Lib.hid (below_trans HB5.out hb6)
      clear hb6
      go_wp2
      go_ret
      exact ⟨rfl, HB6.out⟩
    · have q1 : ((formatR l).2 != 0) = true := by simp [he]
      have q2 : ((formatR l).2 != (formatR l).2) = false := by simp
      have q3 : ((formatR l).2 == (formatR l).2) = true := by simp
      clear he
      go_wp2
      go_ret
      exact ⟨rfl, HB4.out⟩
  · have hd : (20 : Int) < (l.length : Int) := by omega
    go_enter Tryd.func10, Tryd.ntmps10
    go_wp2_with fail
    refine (awake_any _ HE.out.tab).mono ?_
    rintro e w1 ⟨rfl, hb1⟩
    have HB1 := Lib.hid hb1
    clear hb1
    go_wp2_with fail
    refine (awake_any _ (HE.out.tab.below HB1.out)).mono ?_
    rintro e w2 ⟨rfl, hb2⟩
    have HB2 := Lib.hid (below_trans HB1.out hb2)
    clear hb2
    go_wp2
    go_ret
    exact ⟨rfl, HB2.out⟩
end Go.Proofs.YtcmnmcholfellaaDoor
