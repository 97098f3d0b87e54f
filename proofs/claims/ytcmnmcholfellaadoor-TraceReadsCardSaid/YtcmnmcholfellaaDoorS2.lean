/-
  Walks: the text of a point, in package trace.
-/
import Derived.Test.YtcmnmcholfellaaDoorL0
import Derived.Test.YtcmnmcholfellaaDoorW5
import Derived.Deep.DeepCutAuto
namespace Go.Proofs.YtcmnmcholfellaaDoor
open Go.RowKit

set_option maxHeartbeats 1000000 in
theorem line_any (p : Pt) (hf : p.Fits) (w : World) (ht : Tab w) :
    Calls Tryd.prog 36 #[p.v] w fun e w' => e = .returned (.string (lineB p)) ∧ Below w.heap.size w w' := by
  have HF := Lib.hid hf
  have HT := Lib.hid ht
  have n1 : ¬ 9223372036854775807 < (decB p.at_).size + 1 := by have := decB_size hf.at_; omega
  have n2 : ¬ 9223372036854775807 < (decB p.at_).size + 1 + (wordB p.kind).size := by have := decB_size hf.at_; have := wordB_size p.kind; omega
  have hn3 := flds_le p
  clear hf ht
  go_enter Tryd.func36, Tryd.ntmps36
  go_wp2
  go_cut [3] (fun s3 w' => s3 = .string (headB p) ∧ PtAt w' w.heap.size p ∧ Hid (Below w.heap.size w w' ∧ Tab w'))
  case first =>
    obtain ⟨c0, c1, c2, c3, c4, c5, c6, c7, c8, c9, c10⟩ := ptAt_box (Below.refl (w.alloc p.box).heap.size (w.alloc p.box))
    have HB : Hid (Below w.heap.size w (w.alloc p.box).drew ∧ Tab (w.alloc p.box).drew) := ⟨((Below.refl _ _).alloc (Nat.le_refl _) _).drew, HT.out.below ((Below.refl _ _).alloc (Nat.le_refl _) _).drew⟩
    refine wp_region_held_drew (S := (fun w' => (w'.cell? ⟨w.heap.size, 0, none⟩ = some (.int .i64 p.at_) ∧ w'.cell? ⟨w.heap.size, 1, none⟩ = some (.int .i64 p.kind) ∧ w'.cell? ⟨w.heap.size, 2, none⟩ = some (.int .i64 p.tbl) ∧ w'.cell? ⟨w.heap.size, 3, none⟩ = some (.int .i64 p.wri) ∧ w'.cell? ⟨w.heap.size, 4, none⟩ = some (.int .i64 p.rdr) ∧ w'.cell? ⟨w.heap.size, 5, none⟩ = some (.int .i64 p.idx) ∧ w'.cell? ⟨w.heap.size, 6, none⟩ = some (.int .i64 p.tok) ∧ w'.cell? ⟨w.heap.size, 7, none⟩ = some (.int .i64 p.rnd) ∧ w'.cell? ⟨w.heap.size, 8, none⟩ = some (.int .i64 p.rep) ∧ w'.cell? ⟨w.heap.size, 9, none⟩ = some (.int .i64 p.ver) ∧ w'.cell? ⟨w.heap.size, 10, none⟩ = some (.int .i64 p.hol)) ∧ Hid (Below w.heap.size w w' ∧ Tab w'))) (by kernel_rfl) ?_ (fun hHeld => ?_)
    · (try dsimp only); exact ⟨⟨c0, c1, c2, c3, c4, c5, c6, c7, c8, c9, c10⟩, HB⟩
    refine wpAnyH_take (i := 0) (v := ?v216) rfl (by kernel_rfl) (by kernel_rfl) (by kernel_rfl) (fun _ _ _ h => h) (Or.inl ⟨by rfl, ?hy216⟩) hHeld ?_
    case hy216 => (intro w hSw; (try dsimp only at hSw); go_simp; try with_reducible rfl)
    (try simp only [Act.put, List.setIfInBounds_toArray, List.set_cons_zero, List.set_cons_succ, List.getElem_toArray, List.getElem_cons_zero])
    refine wpAnyH_take (i := 1) (v := ?v217) rfl (by kernel_rfl) (by kernel_rfl) (by kernel_rfl) (fun _ _ _ h => h) (Or.inl ⟨by rfl, ?hy217⟩) hHeld ?_
    case hy217 => (intro w hSw; (try dsimp only at hSw); go_simp; try with_reducible rfl)
    (try simp only [Act.put, List.setIfInBounds_toArray, List.set_cons_zero, List.set_cons_succ, List.getElem_toArray, List.getElem_cons_zero, List.getElem_cons_succ])
    refine wpAnyH_take (i := 4) (v := ?v218) rfl (by kernel_rfl) (by kernel_rfl) (by kernel_rfl) (fun _ _ _ h => h) (Or.inl ⟨by rfl, ?hy218⟩) hHeld ?_
    case hy218 => (intro w hSw; (try dsimp only at hSw); go_simp; try with_reducible rfl)
    (try simp only [Act.put, List.setIfInBounds_toArray, List.set_cons_zero, List.set_cons_succ, List.getElem_toArray, List.getElem_cons_zero, List.getElem_cons_succ])
    refine wpAnyH_take (i := 5) (v := ?v219) rfl (by kernel_rfl) (by kernel_rfl) (by kernel_rfl) (fun _ _ _ h => h) (Or.inl ⟨by rfl, ?hy219⟩) hHeld ?_
    case hy219 => (intro w hSw; (try dsimp only at hSw); go_simp; try with_reducible rfl)
    (try simp only [Act.put, List.setIfInBounds_toArray, List.set_cons_zero, List.set_cons_succ, List.getElem_toArray, List.getElem_cons_zero, List.getElem_cons_succ])
    refine wpAnyH_ready (rs := [2]) (by kernel_rfl) (by simp) ?_
    refine (AllReadyH.cons rfl (fun K hK => ?_) AllReadyH.nil)
    go_simp
    (refine (fmt_any p.at_ HF.out.at_ _ hHeld.2.2).mono ?_; rintro e w3 ⟨rfl, hb3⟩)
    refine hK.out _ _ ?_ (fun hHeld => ?_)
    · (try dsimp only); exact hold_keep Tab.below hHeld hb3
    clear hK K
    (try simp only [Act.put, List.setIfInBounds_toArray, List.set_cons_zero, List.set_cons_succ, List.getElem_toArray, List.getElem_cons_zero, List.getElem_cons_succ])
    refine wpAnyH_take (i := 3) (v := ?v220) rfl (by kernel_rfl) (by kernel_rfl) (by kernel_rfl) (fun _ _ _ h => h) (Or.inl ⟨by rfl, ?hy220⟩) hHeld ?_
    case hy220 => (intro w hSw; (try dsimp only at hSw); go_simp; try with_reducible rfl)
    (try simp only [Act.put, List.setIfInBounds_toArray, List.set_cons_zero, List.set_cons_succ, List.getElem_toArray, List.getElem_cons_zero, List.getElem_cons_succ])
    refine wpAnyH_ready (rs := [6]) (by kernel_rfl) (by simp) ?_
    refine (AllReadyH.cons rfl (fun K hK => ?_) AllReadyH.nil)
    go_simp
    (refine (word_any p.kind _).mono ?_; rintro e w4 ⟨rfl, hb4⟩)
    refine hK.out _ _ ?_ (fun hHeld => ?_)
    · (try dsimp only); exact hold_keep Tab.below hHeld hb4
    clear hK K
    (try simp only [Act.put, List.setIfInBounds_toArray, List.set_cons_zero, List.set_cons_succ, List.getElem_toArray, List.getElem_cons_zero, List.getElem_cons_succ])
    refine wpAnyH_take (i := 7) (v := ?v221) rfl (by kernel_rfl) (by kernel_rfl) (by kernel_rfl) (fun _ _ _ h => h) (Or.inl ⟨by rfl, ?hy221⟩) hHeld ?_
    case hy221 => (intro w hSw; (try dsimp only at hSw); go_simp; try with_reducible rfl)
    (try simp only [Act.put, List.setIfInBounds_toArray, List.set_cons_zero, List.set_cons_succ, List.getElem_toArray, List.getElem_cons_zero, List.getElem_cons_succ])
    refine wpAnyH_take (i := 8) (v := ?v222) rfl (by kernel_rfl) (by kernel_rfl) (by kernel_rfl) (fun _ _ _ h => h) (Or.inl ⟨by rfl, ?hy222⟩) hHeld ?_
    case hy222 => (intro w hSw; (try dsimp only at hSw); go_simp; try with_reducible rfl)
    (try simp only [Act.put, List.setIfInBounds_toArray, List.set_cons_zero, List.set_cons_succ, List.getElem_toArray, List.getElem_cons_zero, List.getElem_cons_succ])
    refine wpAnyH_done (by kernel_rfl) ?_ _
    (go_wp2; go_meet; exact ⟨rfl, ⟨hHeld.1.1, hHeld.1.2.1, hHeld.1.2.2.1, hHeld.1.2.2.2.1, hHeld.1.2.2.2.2.1, hHeld.1.2.2.2.2.2.1, hHeld.1.2.2.2.2.2.2.1, hHeld.1.2.2.2.2.2.2.2.1, hHeld.1.2.2.2.2.2.2.2.2.1, hHeld.1.2.2.2.2.2.2.2.2.2.1, hHeld.1.2.2.2.2.2.2.2.2.2.2⟩, hHeld.2⟩)
  case rest =>
    obtain ⟨rfl, ⟨c0, c1, c2, c3, c4, c5, c6, c7, c8, c9, c10⟩, HB⟩ := hcut
    clear n1 n2
    go_wp2_with (go_at_call 60; refine (fields_any p _).mono ?_; rintro e w2 ⟨b, rfl, hi, hb2⟩)
    have HI := Lib.hid hi
    have HB2 : Hid (Below w.heap.size w w2 ∧ Tab w2) := ⟨below_trans HB.out.1 hb2, HB.out.2.below hb2⟩
    clear hi hb2 c0 c1 c2 c3 c4 c5 c6 c7 c8 c9 c10
    go_loopw [3, 17] (fun s i wr => ∃ k : Nat, k ≤ (flds p).length ∧ i = .int .i64 k ∧ s = .string (lineTo p k) ∧ Hid (Below w.heap.size w wr ∧ Tab wr ∧ IntsIn wr b (flds p))) (fun _ i _ => (flds p).length - (intOf i).toNat)
    case atStart => exact ⟨0, by omega, rfl, rfl, HB2.out.1, HB2.out.2, HI.out⟩
    case round =>
      obtain ⟨k, hk, rfl, rfl, hb⟩ := hrel
      by_cases hlt : k < (flds p).length
      · have hx : wr.cell? ⟨b, k, none⟩ = some (.int .i64 (flds p)[k]) := hb.out.2.2 k _ (List.getElem?_eq_getElem hlt)
        have hxf : In64 (flds p)[k] := flds_fit HF.out _ (List.getElem_mem hlt)
        have n1 : ¬ 9223372036854775807 < 1 + (decB (flds p)[k]).size := by have := decB_size hxf; omega
        have n2 : ¬ 9223372036854775807 < (lineTo p k).size + (1 + (decB (flds p)[k]).size) := by have := decB_size hxf; have := lineTo_size HF.out k; omega
        have HS := Lib.hid (lineTo_succ hlt)
        have HX := Lib.hid hxf
        clear hxf
        go_wp2_with (go_at_call 58; refine (fmt_any (flds p)[k] HX.out _ hb.out.2.1).mono ?_; rintro e w3 ⟨rfl, hb3⟩)
        go_roundw
        case rel => exact ⟨k + 1, by omega, by go_num, by rw [HS.out], below_trans hb.out.1 hb3, hb.out.2.1.below hb3, fun j x hj => below_cell hb3 (hb.out.2.2 j x hj)⟩
        case measure => simp [intOf]; omega
      · have n1 : ¬ 9223372036854775807 < (lineTo p k).size + 1 := by have := lineTo_size HF.out k; omega
        have HK := Lib.hid (show k = (flds p).length by omega)
        go_wp2
        go_ret
        exact ⟨by rw [lineB, ← HK.out]; rfl, hb.out.1⟩
end Go.Proofs.YtcmnmcholfellaaDoor
