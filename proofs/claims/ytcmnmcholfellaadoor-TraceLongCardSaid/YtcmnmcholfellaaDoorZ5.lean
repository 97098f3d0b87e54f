/-
  Walks: merging two neighbouring sorted parts in place (symMerge).
-/
import Derived.Test.YtcmnmcholfellaaDoorZ4
namespace Go.Proofs.YtcmnmcholfellaaDoor
open Go.RowKit

set_option maxHeartbeats 4000000 in
set_option maxRecDepth 100000 in
theorem symMerge_two (l0 : List Pt) (a m b : Nat) (hm : ¬ m - a = 1) (hm2 : b - m = 1) (ham : a < m) (hmb : m < b) (hbn : b ≤ l0.length) (hn : l0.length ≤ 1000000) (hs : SortedOn l0 a m) (g o c : Nat) (w : World) (hr : RowR w g o l0) :
    Calls Tryd.prog 80 #[.slice (some ⟨g, o, none⟩) l0.length c, .int .i64 a, .int .i64 m, .int .i64 b, cmpF] w (SortPost l0 a b g o w) := by
  have HR := Lib.hid hr
  have HS := Lib.hid hs
  have HM := Lib.hid hm2
  have hm1 : ((m : Int) - (a : Int) == 1) = false := by rw [beq_eq_false_iff_ne]; omega
  have hm3 : ((b : Int) - (m : Int) == 1) = true := by rw [beq_iff_eq]; omega
  clear hr hs hm hm2
  go_enter Tryd.func80, Tryd.ntmps80
  go_wp2
  go_loopw [14, 15] (fun s14 s15 wr => ∃ i j : Nat, i ≤ j ∧ a ≤ i ∧ j ≤ m ∧ s14 = .int .i64 i ∧ s15 = .int .i64 j ∧ Hid (BS (G2 l0 m) a m i j ∧ RowG l0 g o w wr)) (fun s14 s15 _ => (intOf s15).toNat - (intOf s14).toNat)
  case atStart => exact ⟨a, m, by omega, by omega, by omega, rfl, rfl, bs_start _ (by omega), HR.out, grown_refl _ _⟩
  case round =>
    obtain ⟨i, j, hij, hai, hjm, rfl, rfl, hh⟩ := hrel
    by_cases hlt : i < j
    · obtain ⟨wo, rfl⟩ : ∃ wo : World, wo = wr := ⟨_, rfl⟩
      obtain ⟨hB, hR, hG⟩ := hh.out
      obtain ⟨h, hh1, hh2, hhe⟩ : ∃ h : Nat, i ≤ h ∧ h < j ∧ ((i : Int) + (j : Int)) / 2 = (h : Int) := ⟨(i + j) / 2, by omega, by omega, by omega⟩
      have HH := Lib.hid hhe
      clear hhe
      have hi1 : h < l0.length := by omega
      have hi0 : m < l0.length := by omega
      obtain ⟨c0, c1, c2, c3, c4, c5, c6, c7, c8, c9, c10⟩ := hR.at_ hi1
      obtain ⟨d0, d1, d2, d3, d4, d5, d6, d7, d8, d9, d10⟩ := hR.at_ hi0
      have hgz := lt_of_cell c0
      simp only at hgz
      have b1 : (0 : Int) ≤ (h : Int) := by omega
      have b2 : (h : Int) < (l0.length : Int) := by omega
      have b3 : (0 : Int) ≤ (m : Int) := by omega
      have b4 : (m : Int) < (l0.length : Int) := by omega
      have HB := Lib.hid hB
      have HR2 := Lib.hid hR
      have HG := Lib.hid hG
      clear hB hR hG hh
      by_cases hc : l0[m].at_ < l0[h].at_
      · have hcd := cmpI_neg hc
        have HN := Lib.hid (bs_no HB.out (g2_mono HS.out) hh1 hh2 (show ¬ G2 l0 m h by unfold G2; rw [tm_eq hi1, tm_eq hi0]; omega))
        go_wp2
        rw [HH.out]
        refine wp_region_held_drew (S := (fun w' => (w'.cell? ⟨g, o + h * 11, none⟩ = some (.int .i64 l0[h].at_) ∧ w'.cell? ⟨g, o + h * 11 + 1, none⟩ = some (.int .i64 l0[h].kind) ∧ w'.cell? ⟨g, o + h * 11 + 2, none⟩ = some (.int .i64 l0[h].tbl) ∧ w'.cell? ⟨g, o + h * 11 + 3, none⟩ = some (.int .i64 l0[h].wri) ∧ w'.cell? ⟨g, o + h * 11 + 4, none⟩ = some (.int .i64 l0[h].rdr) ∧ w'.cell? ⟨g, o + h * 11 + 5, none⟩ = some (.int .i64 l0[h].idx) ∧ w'.cell? ⟨g, o + h * 11 + 6, none⟩ = some (.int .i64 l0[h].tok) ∧ w'.cell? ⟨g, o + h * 11 + 7, none⟩ = some (.int .i64 l0[h].rnd) ∧ w'.cell? ⟨g, o + h * 11 + 8, none⟩ = some (.int .i64 l0[h].rep) ∧ w'.cell? ⟨g, o + h * 11 + 9, none⟩ = some (.int .i64 l0[h].ver) ∧ w'.cell? ⟨g, o + h * 11 + 10, none⟩ = some (.int .i64 l0[h].hol)) ∧ (w'.cell? ⟨g, o + m * 11, none⟩ = some (.int .i64 l0[m].at_) ∧ w'.cell? ⟨g, o + m * 11 + 1, none⟩ = some (.int .i64 l0[m].kind) ∧ w'.cell? ⟨g, o + m * 11 + 2, none⟩ = some (.int .i64 l0[m].tbl) ∧ w'.cell? ⟨g, o + m * 11 + 3, none⟩ = some (.int .i64 l0[m].wri) ∧ w'.cell? ⟨g, o + m * 11 + 4, none⟩ = some (.int .i64 l0[m].rdr) ∧ w'.cell? ⟨g, o + m * 11 + 5, none⟩ = some (.int .i64 l0[m].idx) ∧ w'.cell? ⟨g, o + m * 11 + 6, none⟩ = some (.int .i64 l0[m].tok) ∧ w'.cell? ⟨g, o + m * 11 + 7, none⟩ = some (.int .i64 l0[m].rnd) ∧ w'.cell? ⟨g, o + m * 11 + 8, none⟩ = some (.int .i64 l0[m].rep) ∧ w'.cell? ⟨g, o + m * 11 + 9, none⟩ = some (.int .i64 l0[m].ver) ∧ w'.cell? ⟨g, o + m * 11 + 10, none⟩ = some (.int .i64 l0[m].hol)))) (by kernel_rfl) ?_ (fun hHeld => ?_)
        · (try dsimp only); go_keep
        refine wpAnyH_take (i := 0) (v := ?v58) rfl (by kernel_rfl) (by kernel_rfl) (by kernel_rfl) (fun _ _ _ h => h) (Or.inl ⟨by rfl, ?hy58⟩) hHeld ?_
        case hy58 => (intro w hSw; (try dsimp only at hSw); go_simp; try with_reducible rfl)
        (try simp only [Act.put, List.setIfInBounds_toArray, List.set_cons_zero, List.set_cons_succ, List.getElem_toArray, List.getElem_cons_zero])
        refine wpAnyH_take (i := 1) (v := ?v59) rfl (by kernel_rfl) (by kernel_rfl) (by kernel_rfl) (fun _ _ _ h => h) (Or.inl ⟨by rfl, ?hy59⟩) hHeld ?_
        case hy59 => (intro w hSw; (try dsimp only at hSw); go_simp; try with_reducible rfl)
        (try simp only [Act.put, List.setIfInBounds_toArray, List.set_cons_zero, List.set_cons_succ, List.getElem_toArray, List.getElem_cons_zero, List.getElem_cons_succ])
        refine wpAnyH_take (i := 2) (v := ?v60) rfl (by kernel_rfl) (by kernel_rfl) (by kernel_rfl) (fun _ _ _ h => h) (Or.inl ⟨by rfl, ?hy60⟩) hHeld ?_
        case hy60 => (intro w hSw; (try dsimp only at hSw); go_simp; try with_reducible rfl)
        (try simp only [Act.put, List.setIfInBounds_toArray, List.set_cons_zero, List.set_cons_succ, List.getElem_toArray, List.getElem_cons_zero, List.getElem_cons_succ])
        refine wpAnyH_take (i := 3) (v := ?v61) rfl (by kernel_rfl) (by kernel_rfl) (by kernel_rfl) (fun _ _ _ h => h) (Or.inl ⟨by rfl, ?hy61⟩) hHeld ?_
        case hy61 => (intro w hSw; (try dsimp only at hSw); go_simp; try with_reducible rfl)
        (try simp only [Act.put, List.setIfInBounds_toArray, List.set_cons_zero, List.set_cons_succ, List.getElem_toArray, List.getElem_cons_zero, List.getElem_cons_succ])
        refine wpAnyH_take (i := 4) (v := ?v62) rfl (by kernel_rfl) (by kernel_rfl) (by kernel_rfl) (fun _ _ _ h => h) (Or.inl ⟨by rfl, ?hy62⟩) hHeld ?_
        case hy62 => (intro w hSw; (try dsimp only at hSw); go_simp; try with_reducible rfl)
        (try simp only [Act.put, List.setIfInBounds_toArray, List.set_cons_zero, List.set_cons_succ, List.getElem_toArray, List.getElem_cons_zero, List.getElem_cons_succ])
        refine wpAnyH_take (i := 5) (v := ?v63) rfl (by kernel_rfl) (by kernel_rfl) (by kernel_rfl) (fun _ _ _ h => h) (Or.inl ⟨by rfl, ?hy63⟩) hHeld ?_
        case hy63 => (intro w hSw; (try dsimp only at hSw); go_simp; try with_reducible rfl)
        (try simp only [Act.put, List.setIfInBounds_toArray, List.set_cons_zero, List.set_cons_succ, List.getElem_toArray, List.getElem_cons_zero, List.getElem_cons_succ])
        refine wpAnyH_take (i := 6) (v := ?v64) rfl (by kernel_rfl) (by kernel_rfl) (by kernel_rfl) (fun _ _ _ h => h) (Or.inl ⟨by rfl, ?hy64⟩) hHeld ?_
        case hy64 => (intro w hSw; (try dsimp only at hSw); go_simp; try with_reducible rfl)
        (try simp only [Act.put, List.setIfInBounds_toArray, List.set_cons_zero, List.set_cons_succ, List.getElem_toArray, List.getElem_cons_zero, List.getElem_cons_succ])
        refine wpAnyH_take (i := 7) (v := ?v65) rfl (by kernel_rfl) (by kernel_rfl) (by kernel_rfl) (fun _ _ _ h => h) (Or.inl ⟨by rfl, ?hy65⟩) hHeld ?_
        case hy65 => (intro w hSw; (try dsimp only at hSw); go_simp; try with_reducible rfl)
        (try simp only [Act.put, List.setIfInBounds_toArray, List.set_cons_zero, List.set_cons_succ, List.getElem_toArray, List.getElem_cons_zero, List.getElem_cons_succ])
        refine wpAnyH_take (i := 8) (v := ?v66) rfl (by kernel_rfl) (by kernel_rfl) (by kernel_rfl) (fun _ _ _ h => h) (Or.inl ⟨by rfl, ?hy66⟩) hHeld ?_
        case hy66 => (intro w hSw; (try dsimp only at hSw); go_simp; try with_reducible rfl)
        (try simp only [Act.put, List.setIfInBounds_toArray, List.set_cons_zero, List.set_cons_succ, List.getElem_toArray, List.getElem_cons_zero, List.getElem_cons_succ])
        refine wpAnyH_ready (rs := [9]) (by kernel_rfl) (by simp) ?_
        refine (AllReadyH.cons rfl (fun K hK => ?_) AllReadyH.nil)
        go_simp
        (refine (cmpPt_any l0[m] l0[h] _).mono ?_; rintro e w3 ⟨rfl, hb3⟩; replace hb3 := undrew hb3; have hc3 := bcell hb3)
        refine hK.out _ _ ?_ (fun hHeld => ?_)
        · (try dsimp only); go_keep
        clear hK K
        (try simp only [Act.put, List.setIfInBounds_toArray, List.set_cons_zero, List.set_cons_succ, List.getElem_toArray, List.getElem_cons_zero, List.getElem_cons_succ])
        refine wpAnyH_take (i := 10) (v := ?v67) rfl (by kernel_rfl) (by kernel_rfl) (by kernel_rfl) (fun _ _ _ h => h) (Or.inl ⟨by rfl, ?hy67⟩) hHeld ?_
        case hy67 => (intro w hSw; (try dsimp only at hSw); go_simp; try with_reducible rfl)
        (try simp only [Act.put, List.setIfInBounds_toArray, List.set_cons_zero, List.set_cons_succ, List.getElem_toArray, List.getElem_cons_zero, List.getElem_cons_succ])
        refine wpAnyH_take (i := 11) (v := ?v68) rfl (by kernel_rfl) (by kernel_rfl) (by kernel_rfl) (fun _ _ _ h => h) (Or.inl ⟨by rfl, ?hy68⟩) hHeld ?_
        case hy68 => (intro w hSw; (try dsimp only at hSw); go_simp; try with_reducible rfl)
        (try simp only [Act.put, List.setIfInBounds_toArray, List.set_cons_zero, List.set_cons_succ, List.getElem_toArray, List.getElem_cons_zero, List.getElem_cons_succ])
        refine wpAnyH_done (by kernel_rfl) ?_ _
        go_wp2
        go_roundw
        case rel => exact ⟨i, h, by omega, by omega, by omega, rfl, rfl, HN.out, HR2.out.below (by omega) hb3, HG.out.trans (grown_below hb3 _)⟩
        case measure => simp [intOf]; omega
      · have hcd := cmpI_nneg hc
        have HN := Lib.hid (bs_yes HB.out (g2_mono HS.out) hh1 hh2 (show G2 l0 m h by unfold G2; rw [tm_eq hi1, tm_eq hi0]; omega))
        go_wp2
        rw [HH.out]
        refine wp_region_held_drew (S := (fun w' => (w'.cell? ⟨g, o + h * 11, none⟩ = some (.int .i64 l0[h].at_) ∧ w'.cell? ⟨g, o + h * 11 + 1, none⟩ = some (.int .i64 l0[h].kind) ∧ w'.cell? ⟨g, o + h * 11 + 2, none⟩ = some (.int .i64 l0[h].tbl) ∧ w'.cell? ⟨g, o + h * 11 + 3, none⟩ = some (.int .i64 l0[h].wri) ∧ w'.cell? ⟨g, o + h * 11 + 4, none⟩ = some (.int .i64 l0[h].rdr) ∧ w'.cell? ⟨g, o + h * 11 + 5, none⟩ = some (.int .i64 l0[h].idx) ∧ w'.cell? ⟨g, o + h * 11 + 6, none⟩ = some (.int .i64 l0[h].tok) ∧ w'.cell? ⟨g, o + h * 11 + 7, none⟩ = some (.int .i64 l0[h].rnd) ∧ w'.cell? ⟨g, o + h * 11 + 8, none⟩ = some (.int .i64 l0[h].rep) ∧ w'.cell? ⟨g, o + h * 11 + 9, none⟩ = some (.int .i64 l0[h].ver) ∧ w'.cell? ⟨g, o + h * 11 + 10, none⟩ = some (.int .i64 l0[h].hol)) ∧ (w'.cell? ⟨g, o + m * 11, none⟩ = some (.int .i64 l0[m].at_) ∧ w'.cell? ⟨g, o + m * 11 + 1, none⟩ = some (.int .i64 l0[m].kind) ∧ w'.cell? ⟨g, o + m * 11 + 2, none⟩ = some (.int .i64 l0[m].tbl) ∧ w'.cell? ⟨g, o + m * 11 + 3, none⟩ = some (.int .i64 l0[m].wri) ∧ w'.cell? ⟨g, o + m * 11 + 4, none⟩ = some (.int .i64 l0[m].rdr) ∧ w'.cell? ⟨g, o + m * 11 + 5, none⟩ = some (.int .i64 l0[m].idx) ∧ w'.cell? ⟨g, o + m * 11 + 6, none⟩ = some (.int .i64 l0[m].tok) ∧ w'.cell? ⟨g, o + m * 11 + 7, none⟩ = some (.int .i64 l0[m].rnd) ∧ w'.cell? ⟨g, o + m * 11 + 8, none⟩ = some (.int .i64 l0[m].rep) ∧ w'.cell? ⟨g, o + m * 11 + 9, none⟩ = some (.int .i64 l0[m].ver) ∧ w'.cell? ⟨g, o + m * 11 + 10, none⟩ = some (.int .i64 l0[m].hol)))) (by kernel_rfl) ?_ (fun hHeld => ?_)
        · (try dsimp only); go_keep
        refine wpAnyH_take (i := 0) (v := ?v69) rfl (by kernel_rfl) (by kernel_rfl) (by kernel_rfl) (fun _ _ _ h => h) (Or.inl ⟨by rfl, ?hy69⟩) hHeld ?_
        case hy69 => (intro w hSw; (try dsimp only at hSw); go_simp; try with_reducible rfl)
        (try simp only [Act.put, List.setIfInBounds_toArray, List.set_cons_zero, List.set_cons_succ, List.getElem_toArray, List.getElem_cons_zero])
        refine wpAnyH_take (i := 1) (v := ?v70) rfl (by kernel_rfl) (by kernel_rfl) (by kernel_rfl) (fun _ _ _ h => h) (Or.inl ⟨by rfl, ?hy70⟩) hHeld ?_
        case hy70 => (intro w hSw; (try dsimp only at hSw); go_simp; try with_reducible rfl)
        (try simp only [Act.put, List.setIfInBounds_toArray, List.set_cons_zero, List.set_cons_succ, List.getElem_toArray, List.getElem_cons_zero, List.getElem_cons_succ])
        refine wpAnyH_take (i := 2) (v := ?v71) rfl (by kernel_rfl) (by kernel_rfl) (by kernel_rfl) (fun _ _ _ h => h) (Or.inl ⟨by rfl, ?hy71⟩) hHeld ?_
        case hy71 => (intro w hSw; (try dsimp only at hSw); go_simp; try with_reducible rfl)
        (try simp only [Act.put, List.setIfInBounds_toArray, List.set_cons_zero, List.set_cons_succ, List.getElem_toArray, List.getElem_cons_zero, List.getElem_cons_succ])
        refine wpAnyH_take (i := 3) (v := ?v72) rfl (by kernel_rfl) (by kernel_rfl) (by kernel_rfl) (fun _ _ _ h => h) (Or.inl ⟨by rfl, ?hy72⟩) hHeld ?_
        case hy72 => (intro w hSw; (try dsimp only at hSw); go_simp; try with_reducible rfl)
        (try simp only [Act.put, List.setIfInBounds_toArray, List.set_cons_zero, List.set_cons_succ, List.getElem_toArray, List.getElem_cons_zero, List.getElem_cons_succ])
        refine wpAnyH_take (i := 4) (v := ?v73) rfl (by kernel_rfl) (by kernel_rfl) (by kernel_rfl) (fun _ _ _ h => h) (Or.inl ⟨by rfl, ?hy73⟩) hHeld ?_
        case hy73 => (intro w hSw; (try dsimp only at hSw); go_simp; try with_reducible rfl)
        (try simp only [Act.put, List.setIfInBounds_toArray, List.set_cons_zero, List.set_cons_succ, List.getElem_toArray, List.getElem_cons_zero, List.getElem_cons_succ])
        refine wpAnyH_take (i := 5) (v := ?v74) rfl (by kernel_rfl) (by kernel_rfl) (by kernel_rfl) (fun _ _ _ h => h) (Or.inl ⟨by rfl, ?hy74⟩) hHeld ?_
        case hy74 => (intro w hSw; (try dsimp only at hSw); go_simp; try with_reducible rfl)
        (try simp only [Act.put, List.setIfInBounds_toArray, List.set_cons_zero, List.set_cons_succ, List.getElem_toArray, List.getElem_cons_zero, List.getElem_cons_succ])
        refine wpAnyH_take (i := 6) (v := ?v75) rfl (by kernel_rfl) (by kernel_rfl) (by kernel_rfl) (fun _ _ _ h => h) (Or.inl ⟨by rfl, ?hy75⟩) hHeld ?_
        case hy75 => (intro w hSw; (try dsimp only at hSw); go_simp; try with_reducible rfl)
        (try simp only [Act.put, List.setIfInBounds_toArray, List.set_cons_zero, List.set_cons_succ, List.getElem_toArray, List.getElem_cons_zero, List.getElem_cons_succ])
        refine wpAnyH_take (i := 7) (v := ?v76) rfl (by kernel_rfl) (by kernel_rfl) (by kernel_rfl) (fun _ _ _ h => h) (Or.inl ⟨by rfl, ?hy76⟩) hHeld ?_
        case hy76 => (intro w hSw; (try dsimp only at hSw); go_simp; try with_reducible rfl)
        (try simp only [Act.put, List.setIfInBounds_toArray, List.set_cons_zero, List.set_cons_succ, List.getElem_toArray, List.getElem_cons_zero, List.getElem_cons_succ])
        refine wpAnyH_take (i := 8) (v := ?v77) rfl (by kernel_rfl) (by kernel_rfl) (by kernel_rfl) (fun _ _ _ h => h) (Or.inl ⟨by rfl, ?hy77⟩) hHeld ?_
        case hy77 => (intro w hSw; (try dsimp only at hSw); go_simp; try with_reducible rfl)
        (try simp only [Act.put, List.setIfInBounds_toArray, List.set_cons_zero, List.set_cons_succ, List.getElem_toArray, List.getElem_cons_zero, List.getElem_cons_succ])
        refine wpAnyH_ready (rs := [9]) (by kernel_rfl) (by simp) ?_
        refine (AllReadyH.cons rfl (fun K hK => ?_) AllReadyH.nil)
        go_simp
        (refine (cmpPt_any l0[m] l0[h] _).mono ?_; rintro e w3 ⟨rfl, hb3⟩; replace hb3 := undrew hb3; have hc3 := bcell hb3)
        refine hK.out _ _ ?_ (fun hHeld => ?_)
        · (try dsimp only); go_keep
        clear hK K
        (try simp only [Act.put, List.setIfInBounds_toArray, List.set_cons_zero, List.set_cons_succ, List.getElem_toArray, List.getElem_cons_zero, List.getElem_cons_succ])
        refine wpAnyH_take (i := 10) (v := ?v78) rfl (by kernel_rfl) (by kernel_rfl) (by kernel_rfl) (fun _ _ _ h => h) (Or.inl ⟨by rfl, ?hy78⟩) hHeld ?_
        case hy78 => (intro w hSw; (try dsimp only at hSw); go_simp; try with_reducible rfl)
        (try simp only [Act.put, List.setIfInBounds_toArray, List.set_cons_zero, List.set_cons_succ, List.getElem_toArray, List.getElem_cons_zero, List.getElem_cons_succ])
        refine wpAnyH_take (i := 11) (v := ?v79) rfl (by kernel_rfl) (by kernel_rfl) (by kernel_rfl) (fun _ _ _ h => h) (Or.inl ⟨by rfl, ?hy79⟩) hHeld ?_
        case hy79 => (intro w hSw; (try dsimp only at hSw); go_simp; try with_reducible rfl)
        (try simp only [Act.put, List.setIfInBounds_toArray, List.set_cons_zero, List.set_cons_succ, List.getElem_toArray, List.getElem_cons_zero, List.getElem_cons_succ])
        refine wpAnyH_done (by kernel_rfl) ?_ _
        go_wp2
        go_roundw
        case rel => exact ⟨h + 1, j, by omega, by omega, by omega, by go_num, rfl, HN.out, HR2.out.below (by omega) hb3, HG.out.trans (grown_below hb3 _)⟩
        case measure => simp [intOf]; omega
    · obtain rfl : i = j := by omega
      obtain ⟨wo, rfl⟩ : ∃ wo : World, wo = wr := ⟨_, rfl⟩
      go_wp2
      go_loopw [17] (fun s17 wr => ∃ k : Nat, i ≤ k ∧ k ≤ m ∧ s17 = .int .i64 k ∧ Hid (∃ l, DownSt l0 a m k l ∧ RowG l g o w wr)) (fun s17 _ => (intOf s17).toNat)
      case atStart => exact ⟨m, by omega, by omega, rfl, l0, down_start _ _ _, hh.out.2⟩
      case round =>
        obtain ⟨q, hiq, hqm, rfl, hu⟩ := hrel
        by_cases hlt2 : i < q
        · obtain ⟨k, rfl⟩ : ∃ k, q = k + 1 := ⟨q - 1, by omega⟩
          obtain ⟨wo2, rfl⟩ : ∃ wo2 : World, wo2 = wr := ⟨_, rfl⟩
          obtain ⟨l, hU, hR, hG⟩ := hu.out
          have hln : l.length = l0.length := hU.ins.len
          have hi1 : k + 1 < l.length := by omega
          have hi0 : k < l.length := by omega
          obtain ⟨c0, c1, c2, c3, c4, c5, c6, c7, c8, c9, c10⟩ := hR.at_ hi1
          obtain ⟨d0, d1, d2, d3, d4, d5, d6, d7, d8, d9, d10⟩ := hR.at_ hi0
          have hgz := lt_of_cell c0
          simp only at hgz
          have b1 : (0 : Int) ≤ (k : Int) + 1 := by omega
          have b2 : (k : Int) + 1 < (l0.length : Int) := by omega
          have b3 : (0 : Int) ≤ (k : Int) := by omega
          have b4 : (k : Int) < (l0.length : Int) := by omega
          have b5 : IntKind.i64.wrap (k : Int) = (k : Int) := IntWalk.i64_in _ (by omega)
          have b6 : (i : Int) < (k : Int) + 1 := by omega
          have HST := Lib.hid (down_step hU hlt2 (by omega) (fun x h1 h2 => by have := hh.out.1.no x h1 h2; unfold G2 at this; omega) hi1)
          have HG := Lib.hid hG
          have HR4 : Hid (RowR (wo2.drew.setCells g (o + (k + 1) * 11) (l[k]).cs) g o (l.set (k + 1) l[k])) := RowR.set (w := wo2.drew) (RowR.keep (w' := wo2.drew) hR rfl) hi1 _
          have HR5 : Hid (RowR ((wo2.drew.setCells g (o + (k + 1) * 11) (l[k]).cs).setCells g (o + k * 11) (l[k + 1]).cs) g o (swp l k hi1)) := HR4.out.set (by simpa using hi0) _
          have HG5 : Hid (w.grownBy ((wo2.drew.setCells g (o + (k + 1) * 11) (l[k]).cs).setCells g (o + k * 11) (l[k + 1]).cs) (some g)) := ((grown_drew HG.out).trans (grown_setCells _ _ _ _)).trans (grown_setCells _ _ _ _)
          have HT1 : Hid (wo2.drew.there g (o + (k + 1) * 11) 11) := RowR.there_at (w := wo2.drew) (RowR.keep (w' := wo2.drew) hR rfl) hi1
          have HT2 : Hid ((wo2.drew.setCells g (o + (k + 1) * 11) (l[k]).cs).there g (o + k * 11) 11) := HR4.out.there_at (by simpa using hi0)
          have HLN := Lib.hid hln
          clear hU hR hG hln hu
          go_wp2
          refine wp_region_any (by kernel_rfl) ?_
          (try (change wpAny _ _ _ _ _ _ _ (World.drew _)))
          refine wpAny_take (i := 0) (v := ?v80) rfl (by kernel_rfl) (by kernel_rfl) (by kernel_rfl) (fun _ _ _ h => h) (Or.inl ⟨by rfl, ?hy80⟩) ?_
          case hy80 => (intro w; go_simp; try with_reducible rfl)
          (try simp only [Act.put, List.setIfInBounds_toArray, List.set_cons_zero, List.set_cons_succ, List.getElem_toArray, List.getElem_cons_zero])
          refine wpAny_take (i := 1) (v := ?v81) rfl (by kernel_rfl) (by kernel_rfl) (by kernel_rfl) (fun _ _ _ h => h) (Or.inl ⟨by rfl, ?hy81⟩) ?_
          case hy81 => (intro w; go_simp; try with_reducible rfl)
          (try simp only [Act.put, List.setIfInBounds_toArray, List.set_cons_zero, List.set_cons_succ, List.getElem_toArray, List.getElem_cons_zero, List.getElem_cons_succ])
          refine wpAny_take (i := 2) (v := ?v82) rfl (by kernel_rfl) (by kernel_rfl) (by kernel_rfl) (fun _ _ _ h => h) (Or.inl ⟨by rfl, ?hy82⟩) ?_
          case hy82 => (intro w; go_simp; try with_reducible rfl)
          (try simp only [Act.put, List.setIfInBounds_toArray, List.set_cons_zero, List.set_cons_succ, List.getElem_toArray, List.getElem_cons_zero, List.getElem_cons_succ])
          refine wpAny_take (i := 3) (v := ?v83) rfl (by kernel_rfl) (by kernel_rfl) (by kernel_rfl) (fun _ _ _ h => h) (Or.inl ⟨by rfl, ?hy83⟩) ?_
          case hy83 => (intro w; go_simp; try with_reducible rfl)
          (try simp only [Act.put, List.setIfInBounds_toArray, List.set_cons_zero, List.set_cons_succ, List.getElem_toArray, List.getElem_cons_zero, List.getElem_cons_succ])
          refine wpAny_take (i := 4) (v := ?v84) rfl (by kernel_rfl) (by kernel_rfl) (by kernel_rfl) (fun _ _ _ h => h) (Or.inl ⟨by rfl, ?hy84⟩) ?_
          case hy84 => (intro w; go_simp; try with_reducible rfl)
          (try simp only [Act.put, List.setIfInBounds_toArray, List.set_cons_zero, List.set_cons_succ, List.getElem_toArray, List.getElem_cons_zero, List.getElem_cons_succ])
          refine wpAny_take (i := 5) (v := ?v85) rfl (by kernel_rfl) (by kernel_rfl) (by kernel_rfl) (fun _ _ _ h => h) (Or.inl ⟨by rfl, ?hy85⟩) ?_
          case hy85 => (intro w; go_simp; try with_reducible rfl)
          (try simp only [Act.put, List.setIfInBounds_toArray, List.set_cons_zero, List.set_cons_succ, List.getElem_toArray, List.getElem_cons_zero, List.getElem_cons_succ])
          refine wpAny_take (i := 6) (v := ?v86) rfl (by kernel_rfl) (by kernel_rfl) (by kernel_rfl) (fun _ _ _ h => h) (Or.inl ⟨by rfl, ?hy86⟩) ?_
          case hy86 => (intro w; go_simp; try with_reducible rfl)
          (try simp only [Act.put, List.setIfInBounds_toArray, List.set_cons_zero, List.set_cons_succ, List.getElem_toArray, List.getElem_cons_zero, List.getElem_cons_succ])
          refine wpAny_take (i := 7) (v := ?v87) rfl (by kernel_rfl) (by kernel_rfl) (by kernel_rfl) (fun _ _ _ h => h) (Or.inl ⟨by rfl, ?hy87⟩) ?_
          case hy87 => (intro w; go_simp; try with_reducible rfl)
          (try simp only [Act.put, List.setIfInBounds_toArray, List.set_cons_zero, List.set_cons_succ, List.getElem_toArray, List.getElem_cons_zero, List.getElem_cons_succ])
          refine wpAny_take (i := 8) (v := ?v88) rfl (by kernel_rfl) (by kernel_rfl) (by kernel_rfl) (fun _ _ _ h => h) (Or.inl ⟨by rfl, ?hy88⟩) ?_
          case hy88 => (intro w; go_simp; try with_reducible rfl)
          (try simp only [Act.put, List.setIfInBounds_toArray, List.set_cons_zero, List.set_cons_succ, List.getElem_toArray, List.getElem_cons_zero, List.getElem_cons_succ])
          refine wpAny_take (i := 10) (v := ?v89) rfl (by kernel_rfl) (by kernel_rfl) (by kernel_rfl) (fun _ _ _ h => h) (Or.inl ⟨by rfl, ?hy89⟩) ?_
          case hy89 => (intro w; go_simp; try with_reducible rfl)
          (try simp only [Act.put, List.setIfInBounds_toArray, List.set_cons_zero, List.set_cons_succ, List.getElem_toArray, List.getElem_cons_zero, List.getElem_cons_succ])
          refine wpAny_take (i := 11) (v := ?v90) rfl (by kernel_rfl) (by kernel_rfl) (by kernel_rfl) (fun _ _ _ h => h) (Or.inl ⟨by rfl, ?hy90⟩) ?_
          case hy90 => (intro w; go_simp; try with_reducible rfl)
          (try simp only [Act.put, List.setIfInBounds_toArray, List.set_cons_zero, List.set_cons_succ, List.getElem_toArray, List.getElem_cons_zero, List.getElem_cons_succ])
          refine wpAny_take (i := 12) (v := ?v91) rfl (by kernel_rfl) (by kernel_rfl) (by kernel_rfl) (fun _ _ _ h => h) (Or.inl ⟨by rfl, ?hy91⟩) ?_
          case hy91 => (intro w; go_simp; try with_reducible rfl)
          (try simp only [Act.put, List.setIfInBounds_toArray, List.set_cons_zero, List.set_cons_succ, List.getElem_toArray, List.getElem_cons_zero, List.getElem_cons_succ])
          refine wpAny_ready (rs := [9, 13]) (by kernel_rfl) (by simp) ?_
          refine (AllReady.cons rfl (fun K hK => ?_) (AllReady.cons rfl (fun K hK => ?_) AllReady.nil))
          ·
            go_simp
            refine hK _ _ ?_
            clear hK K
            (try simp only [Act.put, List.setIfInBounds_toArray, List.set_cons_zero, List.set_cons_succ, List.getElem_toArray, List.getElem_cons_zero, List.getElem_cons_succ])
            refine wpAny_ready (rs := [13]) (by kernel_rfl) (by simp) ?_
            refine (AllReady.cons rfl (fun K hK => ?_) AllReady.nil)
            go_simp
            refine hK _ _ ?_
            clear hK K
            (try simp only [Act.put, List.setIfInBounds_toArray, List.set_cons_zero, List.set_cons_succ, List.getElem_toArray, List.getElem_cons_zero, List.getElem_cons_succ])
            refine wpAny_take (i := 14) (v := ?v92) rfl (by kernel_rfl) (by kernel_rfl) (by kernel_rfl) (fun _ _ _ h => h) (Or.inl ⟨by rfl, ?hy92⟩) ?_
            case hy92 => (intro w; go_simp; try with_reducible rfl)
            (try simp only [Act.put, List.setIfInBounds_toArray, List.set_cons_zero, List.set_cons_succ, List.getElem_toArray, List.getElem_cons_zero, List.getElem_cons_succ])
            refine wpAny_ready (rs := [15]) (by kernel_rfl) (by simp) ?_
            refine (AllReady.cons rfl (fun K hK => ?_) AllReady.nil)
            (simp only [List.getElem_toArray, List.getElem_cons_zero, List.getElem_cons_succ]; rw [if_pos (by rfl)]; refine wp_store_mid 23 (.tmp 127) (.tmp 122) rfl (g) (o + (k + 1) * 11) ((l[k]).cs.toArray) (by rfl) (by rfl) ?_ ?_ ?_ ?_; (exact HT1.out); (exact pt_info); (exact pt_one _))
            refine hK _ _ ?_
            clear hK K
            (try simp only [Act.put])
            refine wpAny_take (i := 16) (v := ?v93) rfl (by kernel_rfl) (by kernel_rfl) (by kernel_rfl) (fun _ _ _ h => h) (Or.inl ⟨by rfl, ?hy93⟩) ?_
            case hy93 => (intro w; go_simp; try with_reducible rfl)
            (try simp only [Act.put, List.setIfInBounds_toArray, List.set_cons_zero, List.set_cons_succ, List.getElem_toArray, List.getElem_cons_zero, List.getElem_cons_succ])
            refine wpAny_ready (rs := [17]) (by kernel_rfl) (by simp) ?_
            refine (AllReady.cons rfl (fun K hK => ?_) AllReady.nil)
            (generalize wo2.drew.setCells g (o + (k + 1) * 11) l[k].cs = w4 at *; simp only [List.getElem_toArray, List.getElem_cons_zero, List.getElem_cons_succ]; rw [if_pos (by rfl)]; refine wp_store_mid 23 (.tmp 128) (.tmp 126) rfl (g) (o + k * 11) ((l[k + 1]).cs.toArray) (by rfl) (by rfl) ?_ ?_ ?_ ?_; (exact HT2.out); (exact pt_info); (exact pt_one _))
            refine hK _ _ ?_
            clear hK K
            (try simp only [Act.put])
            refine wpAny_done (by kernel_rfl) ?_ _
            (go_wp2; go_roundw; (case rel => exact ⟨k, by omega, by omega, by go_num, swp l k hi1, HST.out, HR5.out, HG5.out⟩); (case measure => simp [intOf]))
          ·
            go_simp
            refine hK _ _ ?_
            clear hK K
            (try simp only [Act.put, List.setIfInBounds_toArray, List.set_cons_zero, List.set_cons_succ, List.getElem_toArray, List.getElem_cons_zero, List.getElem_cons_succ])
            refine wpAny_ready (rs := [9]) (by kernel_rfl) (by simp) ?_
            refine (AllReady.cons rfl (fun K hK => ?_) AllReady.nil)
            go_simp
            refine hK _ _ ?_
            clear hK K
            (try simp only [Act.put, List.setIfInBounds_toArray, List.set_cons_zero, List.set_cons_succ, List.getElem_toArray, List.getElem_cons_zero, List.getElem_cons_succ])
            refine wpAny_take (i := 14) (v := ?v94) rfl (by kernel_rfl) (by kernel_rfl) (by kernel_rfl) (fun _ _ _ h => h) (Or.inl ⟨by rfl, ?hy94⟩) ?_
            case hy94 => (intro w; go_simp; try with_reducible rfl)
            (try simp only [Act.put, List.setIfInBounds_toArray, List.set_cons_zero, List.set_cons_succ, List.getElem_toArray, List.getElem_cons_zero, List.getElem_cons_succ])
            refine wpAny_ready (rs := [15]) (by kernel_rfl) (by simp) ?_
            refine (AllReady.cons rfl (fun K hK => ?_) AllReady.nil)
            (simp only [List.getElem_toArray, List.getElem_cons_zero, List.getElem_cons_succ]; rw [if_pos (by rfl)]; refine wp_store_mid 23 (.tmp 127) (.tmp 122) rfl (g) (o + (k + 1) * 11) ((l[k]).cs.toArray) (by rfl) (by rfl) ?_ ?_ ?_ ?_; (exact HT1.out); (exact pt_info); (exact pt_one _))
            refine hK _ _ ?_
            clear hK K
            (try simp only [Act.put])
            refine wpAny_take (i := 16) (v := ?v95) rfl (by kernel_rfl) (by kernel_rfl) (by kernel_rfl) (fun _ _ _ h => h) (Or.inl ⟨by rfl, ?hy95⟩) ?_
            case hy95 => (intro w; go_simp; try with_reducible rfl)
            (try simp only [Act.put, List.setIfInBounds_toArray, List.set_cons_zero, List.set_cons_succ, List.getElem_toArray, List.getElem_cons_zero, List.getElem_cons_succ])
            refine wpAny_ready (rs := [17]) (by kernel_rfl) (by simp) ?_
            refine (AllReady.cons rfl (fun K hK => ?_) AllReady.nil)
            (generalize wo2.drew.setCells g (o + (k + 1) * 11) l[k].cs = w4 at *; simp only [List.getElem_toArray, List.getElem_cons_zero, List.getElem_cons_succ]; rw [if_pos (by rfl)]; refine wp_store_mid 23 (.tmp 128) (.tmp 126) rfl (g) (o + k * 11) ((l[k + 1]).cs.toArray) (by rfl) (by rfl) ?_ ?_ ?_ ?_; (exact HT2.out); (exact pt_info); (exact pt_one _))
            refine hK _ _ ?_
            clear hK K
            (try simp only [Act.put])
            refine wpAny_done (by kernel_rfl) ?_ _
            (go_wp2; go_roundw; (case rel => exact ⟨k, by omega, by omega, by go_num, swp l k hi1, HST.out, HR5.out, HG5.out⟩); (case measure => simp [intOf]))
        · obtain rfl : i = q := by omega
          go_wp2
          go_end0
          obtain ⟨l, hU, hR, hG⟩ := hu.out
          have hB := hh.out.1
          have hm := HM.out
          obtain rfl : b = m + 1 := by omega
          obtain ⟨e1, e2⟩ := down_end hU (by omega) (by omega) HS.out (fun x h1 h2 => by have := hB.no x h1 h2; unfold G2 at this; omega) (fun x h1 h2 => hB.yes x h1 h2)
          exact ⟨rfl, l, e1, e2, hR, hG⟩
end Go.Proofs.YtcmnmcholfellaaDoor
