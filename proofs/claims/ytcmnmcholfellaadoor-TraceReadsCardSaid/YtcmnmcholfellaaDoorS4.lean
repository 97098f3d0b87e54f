/-
  Walks: the text of a trace, in package trace.
-/
import Derived.Test.YtcmnmcholfellaaDoorS2
import Derived.Test.YtcmnmcholfellaaDoorW7
namespace Go.Proofs.YtcmnmcholfellaaDoor
open Go.RowKit

/-- The cells of a text. -/
abbrev cellsB (s : ByteArray) : List Value := Lib.byteCells s.data.toList

theorem cellsB_append (s t : ByteArray) : cellsB (s ++ t) = cellsB s ++ Lib.strCells t := by
  simp [cellsB, Lib.byteCells, Lib.strCells, ByteArray.data_append]

theorem cellsB_length (s : ByteArray) : (cellsB s).length = s.size := by
  simp [cellsB, Lib.byteCells]

theorem PtsR.fit_at {l : List Pt} (h : ∀ p ∈ l, p.Fits) {k : Nat} (hk : k < l.length) : (l[k]).Fits := h _ (List.getElem_mem hk)

set_option maxHeartbeats 1000000 in
theorem format_any (l : List Pt) (hfit : ∀ p ∈ l, p.Fits) (A : Option Addr) (c : Nat) (w : World) (hl : PtsR w A l) (ht : Tab w) :
    Calls Tryd.prog 14 #[.slice A l.length c] w fun e w' => e = .returned (.tuple #[.string (formatR l).1, .int .i64 (formatR l).2]) ∧ Below w.heap.size w w' := by
  have HF := Lib.hid hfit
  have HL := Lib.hid hl
  have HT := Lib.hid ht
  clear hfit hl ht
  by_cases hv : valid l = 0
  · have hvb : (valid l != 0) = false := by simp [hv]
    have HR := Lib.hid (show formatR l = if 65536 < (textB l).size then (⟨#[]⟩, 3) else (textB l, 0) by simp [formatR, hv])
    have hle : l.length ≤ 10000 := by
      by_cases h : 10000 < l.length
      · rw [valid_big h] at hv; cases hv
      · omega
    clear hv
    go_enter Tryd.func14, Tryd.ntmps14
    go_wp2_with (go_at_call 19; refine (valid_any l A _ _ HL.out).mono ?_; rintro e w1 ⟨rfl, hb1⟩)
    have HB0 : Hid (Below w.heap.size w (w1.alloc (.cells #[.pointer none, .slice none 0 0] 60))) := hb1.alloc hb1.size _
    have HI0 : Hid (Lib.IsBuilder 60 5 w.heap.size w1.heap.size (cellsB (textB [])) (w1.alloc (.cells #[.pointer none, .slice none 0 0] 60))) := Or.inl ⟨hb1.size, .slice none 0 0, heap_alloc_new w1 _, World.ownsRow_nil _ _ _ _, by simp [Value.ownBlock]⟩
    go_loopw [15] (fun i wr => ∃ k : Nat, k ≤ l.length ∧ i = .int .i64 k ∧ Hid (Below w.heap.size w wr ∧ Lib.IsBuilder 60 5 w.heap.size w1.heap.size (cellsB (textB (l.take k))) wr)) (fun i _ => l.length - (intOf i).toNat)
    case atStart => exact ⟨0, by omega, rfl, HB0.out, HI0.out⟩
    case round =>
      obtain ⟨k, hk, rfl, hb⟩ := hrel
      by_cases hlt : k < l.length
      · obtain ⟨b, o, rfl, hin, c0, c1, c2, c3, c4, c5, c6, c7, c8, c9, c10⟩ := (HL.out.below hb.out.1).at_ hlt
        have HP := Lib.hid (HF.out _ (List.getElem_mem hlt))
        have HS := Lib.hid (textB_snoc l hlt)
        have HZ : Hid ((cellsB (textB (l.take k))).length + (lineB l[k]).size ≤ 140737488355328) := by
          have h1 := textB_size (l := l.take k) (fun p hp => HF.out p (List.mem_of_mem_take hp))
          have h2 := lineB_size HP.out
          have h3 : (l.take k).length ≤ 10000 := by simp; omega
          show _ ≤ _
          rw [cellsB_length]; omega
        go_wp2_with (first
          | (go_at_call 36; refine (line_any l[k] HP.out _ ?_).mono ?_; (exact ((HT.out.below hb.out.1).below ((Below.refl _ _).alloc (Nat.le_refl _) _))); rintro e w2 ⟨rfl, hb2⟩)
          | (go_at_call 35; refine (writeString_any w.heap.size w1.heap.size (cellsB (textB (l.take k))) (lineB l[k]) _ ?_ HZ.out ?_).mono ?_; (exact isBuilder_below hb.out.2 (below_alloc hb2)); (exact Nat.le_trans hb.out.1.size (below_alloc hb2).size); rintro e w3 ⟨rfl, hI3, hb3⟩))
        go_roundw
        case rel => exact ⟨k + 1, by omega, by go_num, (below_trans hb.out.1 (below_alloc hb2)).trans hb3, by rw [HS.out, cellsB_append]; exact hI3⟩
        case measure => simp [intOf]; omega
      · have HK := Lib.hid (show l.take k = l from List.take_of_length_le (by omega))
        have hb' := hb.out
        rw [HK.out] at hb'
        have HBI := Lib.hid hb'
        clear hb'
        by_cases hbig : 65536 < (textB l).size
        · have hd : decide ((65536 : Int) < ((textB l).size : Int)) = true := by simp; omega
          have hd' : (65536 : Int) < ((textB l).size : Int) := by omega
          have HR2 := Lib.hid (show formatR l = (⟨#[]⟩, 3) by rw [HR.out, if_pos hbig])
          go_wp2_with (go_at_call 37; refine (Tryd.Builder_Len w.heap.size w1.heap.size (cellsB (textB l)) _ HBI.out.2).mono ?_; rintro e w' ⟨rfl, rfl⟩; rw [cellsB_length])
          go_ret2
          exact ⟨by rw [HR2.out]; rfl, HBI.out.1⟩
        · have hd : decide ((65536 : Int) < ((textB l).size : Int)) = false := by simp; omega
          have hd' : ¬ (65536 : Int) < ((textB l).size : Int) := by omega
          have HR2 := Lib.hid (show formatR l = (textB l, 0) by rw [HR.out, if_neg hbig])
          go_wp2_with (first
            | (go_at_call 37; refine (Tryd.Builder_Len w.heap.size w1.heap.size (cellsB (textB l)) _ HBI.out.2).mono ?_; rintro e w' ⟨rfl, rfl⟩; rw [cellsB_length])
            | (go_at_call 38; refine (Tryd.Builder_String_any w.heap.size w1.heap.size (textB l).data.toList _ HBI.out.2 HBI.out.1.size).mono ?_; rintro e w4 ⟨rfl, hb4⟩))
          go_ret2
          exact ⟨by rw [HR2.out]; rfl, HBI.out.1.trans hb4⟩
  · have hvb : (valid l != 0) = true := by simp [hv]
    have HR := Lib.hid (show formatR l = (⟨#[]⟩, valid l) by simp [formatR, hv])
    clear hv
    go_enter Tryd.func14, Tryd.ntmps14
    go_wp2_with (go_at_call 19; refine (valid_any l A _ _ HL.out).mono ?_; rintro e w1 ⟨rfl, hb1⟩)
    go_ret2
    exact ⟨by rw [HR.out]; rfl, hb1⟩
end Go.Proofs.YtcmnmcholfellaaDoor
