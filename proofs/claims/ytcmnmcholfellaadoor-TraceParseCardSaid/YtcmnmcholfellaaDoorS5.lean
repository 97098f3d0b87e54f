/-
  Walks: the text of a trace, in the reference.
-/
import Derived.Test.YtcmnmcholfellaaDoorS3
import Derived.Test.YtcmnmcholfellaaDoorW8
namespace Go.Proofs.YtcmnmcholfellaaDoor
open Go.RowKit

theorem okP_kinds {p : Pt} (h : okP p = true) : 1 ≤ p.kind ∧ p.kind ≤ 7 := by
  simp [okP] at h; omega
theorem valid_okP {l : List Pt} (h : valid l = 0) {k : Nat} (hk : k < l.length) : okP l[k] = true := by
  unfold valid at h
  split at h
  · cases h
  · split at h
    · rename_i h2
      exact ((okL_iff l).1 h2 k _ (List.getElem?_eq_getElem hk)).1
    · cases h

set_option maxHeartbeats 1000000 in
theorem refFormat_any (l : List Pt) (hfit : ∀ p ∈ l, p.Fits) (A : Option Addr) (c : Nat) (w : World) (hl : PtsR w A l) (ht : Tab w) :
    Calls Tryd.prog 15 #[.slice A l.length c] w fun e w' => e = .returned (.tuple #[.string (formatR l).1, .int .i64 (formatR l).2]) ∧ Below w.heap.size w w' := by
  have HF := Lib.hid hfit
  have HL := Lib.hid hl
  have HT := Lib.hid ht
  clear hfit hl ht
  by_cases hv : valid l = 0
  · have hvb : (valid l != 0) = false := by simp [hv]
    have HR := Lib.hid (show formatR l = if 65536 < (textB l).size then (⟨#[]⟩, 3) else (textB l, 0) by simp [formatR, hv])
    have hle : l.length ≤ 10000 := by
      by_cases h : 10000 < l.length
      · rw [valid_big h] at hv; cases hv
      · omega
    have HV := Lib.hid hv
    clear hv
    go_enter Tryd.func15, Tryd.ntmps15
    go_wp2_with (go_at_call 21; refine (refValid_any l A _ _ HL.out).mono ?_; rintro e w1 ⟨rfl, hb1⟩)
    have HB0 := Lib.hid hb1
    go_loopw [5, 6] (fun s i wr => ∃ k : Nat, k ≤ l.length ∧ i = .int .i64 k ∧ s = .string (textB (l.take k)) ∧ (textB (l.take k)).size ≤ 65536 ∧ Hid (Below w.heap.size w wr)) (fun _ i _ => l.length - (intOf i).toNat)
    case atStart => exact ⟨0, by omega, rfl, rfl, Nat.zero_le _, HB0.out⟩
    case round =>
      obtain ⟨k, hk, rfl, rfl, hsz, hb⟩ := hrel
      by_cases hlt : k < l.length
      · obtain ⟨b, o, rfl, hin, c0, c1, c2, c3, c4, c5, c6, c7, c8, c9, c10⟩ := (HL.out.below hb.out).at_ hlt
        have HP := Lib.hid (HF.out _ (List.getElem_mem hlt))
        have HK := Lib.hid (okP_kinds (valid_okP HV.out hlt))
        have HS := Lib.hid (textB_snoc l hlt)
        have hls := lineB_size HP.out
        have n1 : ¬ 9223372036854775807 < (textB (l.take k)).size + (lineB l[k]).size := by omega
        by_cases hbig : 65536 < (textB (l.take k)).size + (lineB l[k]).size
        · have hd : (65536 : Int) < ((textB (l.take k)).size : Int) + ((lineB l[k]).size : Int) := by omega
          have HR2 := Lib.hid (show formatR l = (⟨#[]⟩, 3) by
            rw [HR.out, if_pos]
            have h1 := textB_mono l (k + 1)
            rw [HS.out, ByteArray.size_append] at h1
            omega)
          go_wp2_with (go_at_call 39; refine (refLine_any l[k] HP.out HK.out.1 HK.out.2 _ (HT.out.below hb.out)).mono ?_; rintro e w2 ⟨rfl, hb2⟩)
          go_ret2
          exact ⟨by rw [HR2.out]; rfl, below_trans hb.out hb2⟩
        · have hd : ¬ (65536 : Int) < ((textB (l.take k)).size : Int) + ((lineB l[k]).size : Int) := by omega
          go_wp2_with (go_at_call 39; refine (refLine_any l[k] HP.out HK.out.1 HK.out.2 _ (HT.out.below hb.out)).mono ?_; rintro e w2 ⟨rfl, hb2⟩)
          go_roundw
          case rel => exact ⟨k + 1, by omega, by go_num, by rw [HS.out], by rw [HS.out, ByteArray.size_append]; omega, below_trans hb.out hb2⟩
          case measure => simp [intOf]; omega
      · have HK := Lib.hid (show l.take k = l from List.take_of_length_le (by omega))
        have HR2 := Lib.hid (show formatR l = (textB l, 0) by
          rw [HR.out, if_neg]
          rw [HK.out] at hsz; omega)
        go_wp2
        go_ret2
        exact ⟨by rw [HR2.out, HK.out]; rfl, hb.out⟩
  · have hvb : (valid l != 0) = true := by simp [hv]
    have HR := Lib.hid (show formatR l = (⟨#[]⟩, valid l) by simp [formatR, hv])
    clear hv
    go_enter Tryd.func15, Tryd.ntmps15
    go_wp2_with (go_at_call 21; refine (refValid_any l A _ _ HL.out).mono ?_; rintro e w1 ⟨rfl, hb1⟩)
    go_ret2
    exact ⟨by rw [HR.out]; rfl, hb1⟩
end Go.Proofs.YtcmnmcholfellaaDoor
