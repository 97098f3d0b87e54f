/-
  Walks: the text of a point, in the reference.
-/
import Derived.Test.YtcmnmcholfellaaDoorS2
namespace Go.Proofs.YtcmnmcholfellaaDoor
open Go.RowKit

/-- The words of the kinds lie from the start of a block on. -/
def WordsIn (w : World) (b : Nat) : Prop := ∀ k : Nat, k < 8 → w.cell? ⟨b, k, none⟩ = some (.string (wordB k))

def WordsPost (w : World) (e : Ending) (w' : World) : Prop := ∃ b, e = .returned (.slice (some ⟨b, 0, none⟩) 8 8) ∧ WordsIn w' b ∧ Below w.heap.size w w'

theorem words_cells (w : World) : WordsIn (w.alloc (.cells #[.string ⟨#[]⟩, .string ⟨#[114, 101, 97, 100]⟩, .string ⟨#[98, 101, 103, 105, 110]⟩, .string ⟨#[100, 111, 110, 101]⟩, .string ⟨#[97, 98, 111, 114, 116]⟩, .string ⟨#[114, 101, 115, 117, 109, 101]⟩, .string ⟨#[115, 119, 105, 116, 99, 104]⟩, .string ⟨#[108, 101, 97, 115, 101]⟩] 9)) w.heap.size := by
  intro k hk
  rw [cell_of_row _ _ _ _ _ _ (heap_alloc_new w _)]
  have h : k = 0 ∨ k = 1 ∨ k = 2 ∨ k = 3 ∨ k = 4 ∨ k = 5 ∨ k = 6 ∨ k = 7 := by omega
  rcases h with rfl | rfl | rfl | rfl | rfl | rfl | rfl | rfl <;> rfl

theorem words_any (w : World) : Calls Tryd.prog 61 #[] w (WordsPost w) := by
  go_enter Tryd.func61, Tryd.ntmps61
  go_wp2
  go_ret
  exact ⟨_, rfl, words_cells w, (Below.refl _ _).alloc (Nat.le_refl _) _⟩

set_option maxHeartbeats 1000000 in
theorem refLine_any (p : Pt) (hf : p.Fits) (hk1 : 1 ≤ p.kind) (hk7 : p.kind ≤ 7) (w : World) (ht : Tab w) :
    Calls Tryd.prog 39 #[p.v] w fun e w' => e = .returned (.string (lineB p)) ∧ Below w.heap.size w w' := by
  have HF := Lib.hid hf
  have HT := Lib.hid ht
  have n1 : ¬ 9223372036854775807 < (decB p.at_).size + 1 := by have := decB_size hf.at_; omega
  have n2 : ¬ 9223372036854775807 < (decB p.at_).size + 1 + (wordB p.kind).size := by have := decB_size hf.at_; have := wordB_size p.kind; omega
  have hn3 := flds_le p
  have hk0 : 0 ≤ p.kind := by omega
  have hk8 : p.kind < 8 := by omega
  clear hf ht
  go_enter Tryd.func39, Tryd.ntmps39
  go_wp2
  go_cut [3] (fun s3 w' => s3 = .string (headB p) ∧ PtAt w' w.heap.size p ∧ Hid (Below w.heap.size w w' ∧ Tab w'))
  case first =>
    obtain ⟨c0, c1, c2, c3, c4, c5, c6, c7, c8, c9, c10⟩ := ptAt_box (Below.refl (w.alloc p.box).heap.size (w.alloc p.box))
    have HB : Hid (Below w.heap.size w (w.alloc p.box).drew ∧ Tab (w.alloc p.box).drew) := ⟨((Below.refl _ _).alloc (Nat.le_refl _) _).drew, HT.out.below ((Below.refl _ _).alloc (Nat.le_refl _) _).drew⟩
    refine wp_region_held_drew (S := (fun w' => (w'.cell? ⟨w.heap.size, 0, none⟩ = some (.int .i64 p.at_) ∧ w'.cell? ⟨w.heap.size, 1, none⟩ = some (.int .i64 p.kind) ∧ w'.cell? ⟨w.heap.size, 2, none⟩ = some (.int .i64 p.tbl) ∧ w'.cell? ⟨w.heap.size, 3, none⟩ = some (.int .i64 p.wri) ∧ w'.cell? ⟨w.heap.size, 4, none⟩ = some (.int .i64 p.rdr) ∧ w'.cell? ⟨w.heap.size, 5, none⟩ = some (.int .i64 p.idx) ∧ w'.cell? ⟨w.heap.size, 6, none⟩ = some (.int .i64 p.tok) ∧ w'.cell? ⟨w.heap.size, 7, none⟩ = some (.int .i64 p.rnd) ∧ w'.cell? ⟨w.heap.size, 8, none⟩ = some (.int .i64 p.rep) ∧ w'.cell? ⟨w.heap.size, 9, none⟩ = some (.int .i64 p.ver) ∧ w'.cell? ⟨w.heap.size, 10, none⟩ = some (.int .i64 p.hol)) ∧ Hid (Below w.heap.size w w' ∧ Tab w'))) (by kernel_rfl) ?_ (fun hHeld => ?_)
    · (try dsimp only); exact ⟨⟨c0, c1, c2, c3, c4, c5, c6, c7, c8, c9, c10⟩, HB⟩
    refine wpAnyH_take (i := 0) (v := ?v223) rfl (by kernel_rfl) (by kernel_rfl) (by kernel_rfl) (fun _ _ _ h => h) (Or.inl ⟨by rfl, ?hy223⟩) hHeld ?_
    case hy223 => (intro w hSw; (try dsimp only at hSw); go_simp; try with_reducible rfl)
    (try simp only [Act.put, List.setIfInBounds_toArray, List.set_cons_zero, List.set_cons_succ, List.getElem_toArray, List.getElem_cons_zero])
    refine wpAnyH_take (i := 1) (v := ?v224) rfl (by kernel_rfl) (by kernel_rfl) (by kernel_rfl) (fun _ _ _ h => h) (Or.inl ⟨by rfl, ?hy224⟩) hHeld ?_
    case hy224 => (intro w hSw; (try dsimp only at hSw); go_simp; try with_reducible rfl)
    (try simp only [Act.put, List.setIfInBounds_toArray, List.set_cons_zero, List.set_cons_succ, List.getElem_toArray, List.getElem_cons_zero, List.getElem_cons_succ])
    refine wpAnyH_take (i := 5) (v := ?v225) rfl (by kernel_rfl) (by kernel_rfl) (by kernel_rfl) (fun _ _ _ h => h) (Or.inl ⟨by rfl, ?hy225⟩) hHeld ?_
    case hy225 => (intro w hSw; (try dsimp only at hSw); go_simp; try with_reducible rfl)
    (try simp only [Act.put, List.setIfInBounds_toArray, List.set_cons_zero, List.set_cons_succ, List.getElem_toArray, List.getElem_cons_zero, List.getElem_cons_succ])
    refine wpAnyH_take (i := 6) (v := ?v226) rfl (by kernel_rfl) (by kernel_rfl) (by kernel_rfl) (fun _ _ _ h => h) (Or.inl ⟨by rfl, ?hy226⟩) hHeld ?_
    case hy226 => (intro w hSw; (try dsimp only at hSw); go_simp; try with_reducible rfl)
    (try simp only [Act.put, List.setIfInBounds_toArray, List.set_cons_zero, List.set_cons_succ, List.getElem_toArray, List.getElem_cons_zero, List.getElem_cons_succ])
    refine wpAnyH_ready (rs := [2]) (by kernel_rfl) (by simp) ?_
    refine (AllReadyH.cons rfl (fun K hK => ?_) AllReadyH.nil)
    go_simp
    (refine (fmt_any p.at_ HF.out.at_ _ hHeld.2.2).mono ?_; rintro e w3 ⟨rfl, hb3⟩)
    refine hK.out _ _ ?_ (fun hHeld => ?_)
    · (try dsimp only); exact hold_keep Tab.below hHeld hb3
    clear hK K
    (try simp only [Act.put, List.setIfInBounds_toArray, List.set_cons_zero, List.set_cons_succ, List.getElem_toArray, List.getElem_cons_zero, List.getElem_cons_succ])
    refine wpAnyH_take (i := 3) (v := ?v227) rfl (by kernel_rfl) (by kernel_rfl) (by kernel_rfl) (fun _ _ _ h => h) (Or.inl ⟨by rfl, ?hy227⟩) hHeld ?_
    case hy227 => (intro w hSw; (try dsimp only at hSw); go_simp; try with_reducible rfl)
    (try simp only [Act.put, List.setIfInBounds_toArray, List.set_cons_zero, List.set_cons_succ, List.getElem_toArray, List.getElem_cons_zero, List.getElem_cons_succ])
    refine wpAnyH_ready (rs := [4]) (by kernel_rfl) (by simp) ?_
    refine (AllReadyH.cons rfl (fun K hK => ?_) AllReadyH.nil)
    go_simp
    (refine (words_any _).mono ?_; rintro e w4 ⟨b, rfl, hw4, hb4⟩; have hwc : w4.cell? ⟨b, p.kind.toNat, none⟩ = some (.string (wordB p.kind)) := (by have h := hw4 p.kind.toNat (by omega); rwa [show ((p.kind.toNat : Nat) : Int) = p.kind from by omega] at h); clear hw4)
    refine hK.out _ _ ?_ (fun hHeld => ?_)
    · (try dsimp only); exact hold_keep Tab.below hHeld hb4
    clear hK K
    (try simp only [Act.put, List.setIfInBounds_toArray, List.set_cons_zero, List.set_cons_succ, List.getElem_toArray, List.getElem_cons_zero, List.getElem_cons_succ])
    refine wpAnyH_take (i := 7) (v := ?v228) rfl (by kernel_rfl) (by kernel_rfl) (by kernel_rfl) (fun _ _ _ h => h) (Or.inl ⟨by rfl, ?hy228⟩) hHeld ?_
    case hy228 => (intro w hSw; (try dsimp only at hSw); go_simp; try with_reducible rfl)
    (try simp only [Act.put, List.setIfInBounds_toArray, List.set_cons_zero, List.set_cons_succ, List.getElem_toArray, List.getElem_cons_zero, List.getElem_cons_succ])
    refine wpAnyH_ready (rs := [8]) (by kernel_rfl) (by simp) ?_
    refine (AllReadyH.cons rfl (fun K hK => ?_) AllReadyH.nil)
    go_simp
    refine hK.out _ _ ?_ (fun hHeld => ?_)
    · (try dsimp only); exact hHeld
    clear hK K
    (try simp only [Act.put, List.setIfInBounds_toArray, List.set_cons_zero, List.set_cons_succ, List.getElem_toArray, List.getElem_cons_zero, List.getElem_cons_succ])
    refine wpAnyH_take (i := 9) (v := ?v229) rfl (by kernel_rfl) (by kernel_rfl) (by kernel_rfl) (fun _ _ _ h => h) (Or.inl ⟨by rfl, ?hy229⟩) hHeld ?_
    case hy229 => (intro w hSw; (try dsimp only at hSw); go_simp; try with_reducible rfl)
    (try simp only [Act.put, List.setIfInBounds_toArray, List.set_cons_zero, List.set_cons_succ, List.getElem_toArray, List.getElem_cons_zero, List.getElem_cons_succ])
    refine wpAnyH_take (i := 10) (v := ?v230) rfl (by kernel_rfl) (by kernel_rfl) (by kernel_rfl) (fun _ _ _ h => h) (Or.inl ⟨by rfl, ?hy230⟩) hHeld ?_
    case hy230 => (intro w hSw; (try dsimp only at hSw); go_simp; try with_reducible rfl)
    (try simp only [Act.put, List.setIfInBounds_toArray, List.set_cons_zero, List.set_cons_succ, List.getElem_toArray, List.getElem_cons_zero, List.getElem_cons_succ])
    refine wpAnyH_done (by kernel_rfl) ?_ _
    (go_wp2; go_meet; exact ⟨rfl, ⟨hHeld.1.1, hHeld.1.2.1, hHeld.1.2.2.1, hHeld.1.2.2.2.1, hHeld.1.2.2.2.2.1, hHeld.1.2.2.2.2.2.1, hHeld.1.2.2.2.2.2.2.1, hHeld.1.2.2.2.2.2.2.2.1, hHeld.1.2.2.2.2.2.2.2.2.1, hHeld.1.2.2.2.2.2.2.2.2.2.1, hHeld.1.2.2.2.2.2.2.2.2.2.2⟩, hHeld.2⟩)
  case rest =>
    obtain ⟨rfl, ⟨c0, c1, c2, c3, c4, c5, c6, c7, c8, c9, c10⟩, HB⟩ := hcut
    clear n1 n2
    go_wp2_with (go_at_call 33; refine (refFields_any p _).mono ?_; rintro e w2 ⟨b, rfl, hi, hb2⟩)
    have HI := Lib.hid hi
    have HB2 : Hid (Below w.heap.size w w2 ∧ Tab w2) := ⟨below_trans HB.out.1 hb2, HB.out.2.below hb2⟩
    clear hi hb2 c0 c1 c2 c3 c4 c5 c6 c7 c8 c9 c10
    go_loopw [3, 5] (fun s i wr => ∃ k : Nat, k ≤ (flds p).length ∧ i = .int .i64 k ∧ s = .string (lineTo p k) ∧ Hid (Below w.heap.size w wr ∧ Tab wr ∧ IntsIn wr b (flds p))) (fun _ i _ => (flds p).length - (intOf i).toNat)
    case atStart => exact ⟨0, by omega, rfl, rfl, HB2.out.1, HB2.out.2, HI.out⟩
    case round =>
      obtain ⟨k, hk, rfl, rfl, hb⟩ := hrel
      by_cases hlt : k < (flds p).length
      · have hx : wr.cell? ⟨b, k, none⟩ = some (.int .i64 (flds p)[k]) := hb.out.2.2 k _ (List.getElem?_eq_getElem hlt)
        have hxf : In64 (flds p)[k] := flds_fit HF.out _ (List.getElem_mem hlt)
        have n1 : ¬ 9223372036854775807 < (lineTo p k).size + 1 := by have := lineTo_size HF.out k; omega
        have n2 : ¬ 9223372036854775807 < (lineTo p k).size + 1 + (decB (flds p)[k]).size := by have := decB_size hxf; have := lineTo_size HF.out k; omega
        have HS := Lib.hid (lineTo_succ hlt)
        have HX := Lib.hid hxf
        clear hxf
        go_wp2_with (go_at_call 58; refine (fmt_any (flds p)[k] HX.out _ hb.out.2.1).mono ?_; rintro e w3 ⟨rfl, hb3⟩)
        go_roundw
        case rel => exact ⟨k + 1, by omega, by go_num, by rw [HS.out, ByteArray.append_assoc], below_trans hb.out.1 hb3, hb.out.2.1.below hb3, fun j x hj => below_cell hb3 (hb.out.2.2 j x hj)⟩
        case measure => simp [intOf]; omega
      · have n1 : ¬ 9223372036854775807 < (lineTo p k).size + 1 := by have := lineTo_size HF.out k; omega
        have HK := Lib.hid (show k = (flds p).length by omega)
        go_wp2
        go_ret
        exact ⟨by rw [lineB, ← HK.out]; rfl, hb.out.1⟩
end Go.Proofs.YtcmnmcholfellaaDoor
