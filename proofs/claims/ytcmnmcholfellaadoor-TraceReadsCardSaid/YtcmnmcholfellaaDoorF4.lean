/-
  Walks: Filter and Between, in the reference.
-/
import Derived.Test.YtcmnmcholfellaaDoorF3
namespace Go.Proofs.YtcmnmcholfellaaDoor
open Go.RowKit

theorem filter_snoc (del : Pt → Bool) (l : List Pt) {k : Nat} (h : k < l.length) : ((l.take (k + 1)).filter fun p => !del p) = ((l.take k).filter fun p => !del p) ++ (if del l[k] then [] else [l[k]]) := by
  rw [List.take_succ_eq_append_getElem h, List.filter_append]
  cases hd : del l[k] <;> simp [hd]

theorem filter_len (del : Pt → Bool) (l : List Pt) (k : Nat) : ((l.take k).filter fun p => !del p).length ≤ l.length := by
  have h1 := List.length_filter_le (fun p => !del p) (l.take k)
  have h2 : (l.take k).length ≤ l.length := by simp; omega
  omega

theorem PtsV.of_own {w : World} {base : Nat} {v : Value} {l : List Pt} (h : Own w base v l) : PtsV w v l := by
  obtain ⟨A, c, hv, hr⟩ := h.reads
  exact ⟨A, c, hv, hr⟩

set_option maxHeartbeats 1000000 in
set_option maxRecDepth 100000 in
theorem refFilter_any (l : List Pt) (hn : l.length ≤ 100000) (A : Option Addr) (c : Nat) (k0 : Int) (w : World) (hl : PtsR w A l) :
    Calls Tryd.prog 24 #[.slice A l.length c, .int .i64 k0] w (ListPost (l.filter fun p => !delK k0 p) w) := by
  have HL := Lib.hid hl
  clear hl
  go_enter Tryd.func24, Tryd.ntmps24
  go_wp2
  go_loopw [5, 6] (fun s i wr => ∃ k : Nat, k ≤ l.length ∧ i = .int .i64 k ∧ Hid (Own wr w.heap.size s ((l.take k).filter fun p => !delK k0 p) ∧ Below w.heap.size w wr)) (fun _ i _ => l.length - (intOf i).toNat)
  case atStart => exact ⟨0, by omega, rfl, Own.nil _ _, Below.refl _ _⟩
  case round =>
    obtain ⟨k, hk, rfl, hh⟩ := hrel
    by_cases hlt : k < l.length
    · obtain ⟨b, o, rfl, hin, c0, c1, c2, c3, c4, c5, c6, c7, c8, c9, c10⟩ := (HL.out.below hh.out.2).at_ hlt
      clear hin
      by_cases hd : delK k0 l[k] = true
      · have he : (l[k].kind == k0) = false := by simpa [delK] using hd
        have HS := Lib.hid (show ((l.take (k + 1)).filter fun p => !delK k0 p) = ((l.take k).filter fun p => !delK k0 p) by rw [filter_snoc _ l hlt, hd]; simp)
        clear hd
        go_wp2
        go_roundw
        case rel => exact ⟨k + 1, by omega, by go_num, by rw [HS.out]; exact hh.out.1, hh.out.2⟩
        case measure => simp [intOf]; omega
      · have hd : delK k0 l[k] = false := by simpa using hd
        have he : (l[k].kind == k0) = true := by simpa [delK] using hd
        have HS := Lib.hid (show ((l.take (k + 1)).filter fun p => !delK k0 p) = ((l.take k).filter fun p => !delK k0 p) ++ [l[k]] by rw [filter_snoc _ l hlt, hd]; simp)
        clear hd
        have HQ : Hid (PtsR (wr.alloc (l[k]).box) (some ⟨wr.heap.size, 0, none⟩) [l[k]]) := new_pts _ _ _ rfl
        have HO : Hid (Own (wr.alloc (l[k]).box) w.heap.size _ ((l.take k).filter fun p => !delK k0 p)) := World.ownsRow.alloc hh.out.1 _
        have HN : Hid (((l.take k).filter fun p => !delK k0 p).length + 1 ≤ 1000000) := by have := filter_len (delK k0) l k; show _ ≤ _; omega
        go_wp2_with (at_builtin; refine wpList_append_pts _ rfl (.tmp 20) (.tmp 25) rfl w.heap.size _ ((l.take k).filter fun p => !delK k0 p) rfl ?_ (some ⟨wr.heap.size, 0, none⟩) 1 [l[k]] rfl ?_ ?_ ?_ ?_; (exact HO.out); (exact HQ.out); (exact HN.out); (have := hh.out.2.size; simp; omega); intro v2 w2 ho2 hg2)
        go_roundw
        case rel => exact ⟨k + 1, by omega, by go_num, by rw [HS.out]; exact ho2, (hh.out.2.alloc hh.out.2.size _).grown hg2 (by have := hh.out.2.size; simp; omega) HO.out.lt⟩
        case measure => simp [intOf]; omega
    · have HK := Lib.hid (show l.take k = l from List.take_of_length_le (by omega))
      go_wp2
      go_ret
      have h := hh.out.1
      rw [HK.out] at h
      exact ⟨_, rfl, PtsV.of_own h, hh.out.2⟩

set_option maxHeartbeats 1000000 in
set_option maxRecDepth 100000 in
theorem refBetween_any (l : List Pt) (hn : l.length ≤ 100000) (A : Option Addr) (c : Nat) (a0 b0 : Int) (w : World) (hl : PtsR w A l) :
    Calls Tryd.prog 25 #[.slice A l.length c, .int .i64 a0, .int .i64 b0] w (ListPost (l.filter fun p => !delT a0 b0 p) w) := by
  have HL := Lib.hid hl
  clear hl
  go_enter Tryd.func25, Tryd.ntmps25
  go_wp2
  go_loopw [7, 8] (fun s i wr => ∃ k : Nat, k ≤ l.length ∧ i = .int .i64 k ∧ Hid (Own wr w.heap.size s ((l.take k).filter fun p => !delT a0 b0 p) ∧ Below w.heap.size w wr)) (fun _ i _ => l.length - (intOf i).toNat)
  case atStart => exact ⟨0, by omega, rfl, Own.nil _ _, Below.refl _ _⟩
  case round =>
    obtain ⟨k, hk, rfl, hh⟩ := hrel
    by_cases hlt : k < l.length
    · obtain ⟨b, o, rfl, hin, c0, c1, c2, c3, c4, c5, c6, c7, c8, c9, c10⟩ := (HL.out.below hh.out.2).at_ hlt
      clear hin
      by_cases hd : delT a0 b0 l[k] = true
      · have HS := Lib.hid (show ((l.take (k + 1)).filter fun p => !delT a0 b0 p) = ((l.take k).filter fun p => !delT a0 b0 p) by rw [filter_snoc _ l hlt, hd]; simp)
        have hcase : decide (a0 ≤ l[k].at_) = false ∨ (decide (a0 ≤ l[k].at_) = true ∧ decide (l[k].at_ < b0) = false) := by
          simp [delT] at hd; simp only [decide_eq_true_eq, decide_eq_false_iff_not]; omega
        clear hd
        rcases hcase with he | ⟨he, he2⟩
        · go_wp2
          go_roundw
          case rel => exact ⟨k + 1, by omega, by go_num, by rw [HS.out]; exact hh.out.1, hh.out.2⟩
          case measure => simp [intOf]; omega
        · go_wp2
          go_roundw
          case rel => exact ⟨k + 1, by omega, by go_num, by rw [HS.out]; exact hh.out.1, hh.out.2⟩
          case measure => simp [intOf]; omega
      · have hd : delT a0 b0 l[k] = false := by simpa using hd
        have HS := Lib.hid (show ((l.take (k + 1)).filter fun p => !delT a0 b0 p) = ((l.take k).filter fun p => !delT a0 b0 p) ++ [l[k]] by rw [filter_snoc _ l hlt, hd]; simp)
        have he : decide (a0 ≤ l[k].at_) = true := by simp [delT] at hd; simp; omega
        have he2 : decide (l[k].at_ < b0) = true := by simp [delT] at hd; simp; omega
        clear hd
        have HQ : Hid (PtsR (wr.alloc (l[k]).box) (some ⟨wr.heap.size, 0, none⟩) [l[k]]) := new_pts _ _ _ rfl
        have HO : Hid (Own (wr.alloc (l[k]).box) w.heap.size _ ((l.take k).filter fun p => !delT a0 b0 p)) := World.ownsRow.alloc hh.out.1 _
        have HN : Hid (((l.take k).filter fun p => !delT a0 b0 p).length + 1 ≤ 1000000) := by have := filter_len (delT a0 b0) l k; show _ ≤ _; omega
        go_wp2_with (at_builtin; refine wpList_append_pts _ rfl (.tmp 31) (.tmp 36) rfl w.heap.size _ ((l.take k).filter fun p => !delT a0 b0 p) rfl ?_ (some ⟨wr.heap.size, 0, none⟩) 1 [l[k]] rfl ?_ ?_ ?_ ?_; (exact HO.out); (exact HQ.out); (exact HN.out); (have := hh.out.2.size; simp; omega); intro v2 w2 ho2 hg2)
        go_roundw
        case rel => exact ⟨k + 1, by omega, by go_num, by rw [HS.out]; exact ho2, (hh.out.2.alloc hh.out.2.size _).grown hg2 (by have := hh.out.2.size; simp; omega) HO.out.lt⟩
        case measure => simp [intOf]; omega
    · have HK := Lib.hid (show l.take k = l from List.take_of_length_le (by omega))
      go_wp2
      go_ret
      have h := hh.out.1
      rw [HK.out] at h
      exact ⟨_, rfl, PtsV.of_own h, hh.out.2⟩
end Go.Proofs.YtcmnmcholfellaaDoor
