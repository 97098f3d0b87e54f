/-
  Walks: merging two neighbouring sorted parts in place (symMerge).
-/
import Derived.Test.YtcmnmcholfellaaDoorZ3
namespace Go.Proofs.YtcmnmcholfellaaDoor
open Go.RowKit

/-- A list in a row, the row's world grown. -/
def RowG (l : List Pt) (g o : Nat) (w wr : World) : Prop := RowR wr g o l ∧ w.grownBy wr (some g)

set_option maxHeartbeats 4000000 in
set_option maxRecDepth 100000 in
theorem symMerge_one (l0 : List Pt) (a m b : Nat) (hm : m - a = 1) (ham : a < m) (hmb : m < b) (hbn : b ≤ l0.length) (hn : l0.length ≤ 1000000) (hs : SortedOn l0 m b) (g o c : Nat) (w : World) (hr : RowR w g o l0) :
    Calls Tryd.prog 80 #[.slice (some ⟨g, o, none⟩) l0.length c, .int .i64 a, .int .i64 m, .int .i64 b, cmpF] w (SortPost l0 a b g o w) := by
  have HR := Lib.hid hr
  have HS := Lib.hid hs
  have HM := Lib.hid hm
  have hm1 : ((m : Int) - (a : Int) == 1) = true := by rw [beq_iff_eq]; omega
  clear hr hs hm
  go_enter Tryd.func80, Tryd.ntmps80
  go_wp2
  go_loopw [10, 11] (fun s10 s11 wr => ∃ i j : Nat, i ≤ j ∧ m ≤ i ∧ j ≤ b ∧ s10 = .int .i64 i ∧ s11 = .int .i64 j ∧ Hid (BS (G1 l0 a) m b i j ∧ RowG l0 g o w wr)) (fun s10 s11 _ => (intOf s11).toNat - (intOf s10).toNat)
  case atStart => exact ⟨m, b, by omega, by omega, by omega, rfl, rfl, bs_start _ (by omega), HR.out, grown_refl _ _⟩
  case round =>
    obtain ⟨i, j, hij, hmi, hjb, rfl, rfl, hh⟩ := hrel
    by_cases hlt : i < j
    · obtain ⟨wo, rfl⟩ : ∃ wo : World, wo = wr := ⟨_, rfl⟩
      obtain ⟨hB, hR, hG⟩ := hh.out
      obtain ⟨h, hh1, hh2, hhe⟩ : ∃ h : Nat, i ≤ h ∧ h < j ∧ ((i : Int) + (j : Int)) / 2 = (h : Int) := ⟨(i + j) / 2, by omega, by omega, by omega⟩
      have HH := Lib.hid hhe
      clear hhe
      have hi1 : h < l0.length := by omega
      have hi0 : a < l0.length := by omega
      obtain ⟨c0, c1, c2, c3, c4, c5, c6, c7, c8, c9, c10⟩ := hR.at_ hi1
      obtain ⟨d0, d1, d2, d3, d4, d5, d6, d7, d8, d9, d10⟩ := hR.at_ hi0
      have hgz := lt_of_cell c0
      simp only at hgz
      have b1 : (0 : Int) ≤ (h : Int) := by omega
      have b2 : (h : Int) < (l0.length : Int) := by omega
      have b3 : (0 : Int) ≤ (a : Int) := by omega
      have b4 : (a : Int) < (l0.length : Int) := by omega
      have HB := Lib.hid hB
      have HR2 := Lib.hid hR
      have HG := Lib.hid hG
      clear hB hR hG hh
      by_cases hc : l0[h].at_ < l0[a].at_
      · have hcd := cmpI_neg hc
        have HN := Lib.hid (bs_yes HB.out (g1_mono HS.out) hh1 hh2 (show G1 l0 a h by unfold G1; rw [tm_eq hi1, tm_eq hi0]; exact hc))
        go_wp2
        rw [HH.out]
        refine wp_region_held_drew (S := (fun w' => (w'.cell? ⟨g, o + h * 11, none⟩ = some (.int .i64 l0[h].at_) ∧ w'.cell? ⟨g, o + h * 11 + 1, none⟩ = some (.int .i64 l0[h].kind) ∧ w'.cell? ⟨g, o + h * 11 + 2, none⟩ = some (.int .i64 l0[h].tbl) ∧ w'.cell? ⟨g, o + h * 11 + 3, none⟩ = some (.int .i64 l0[h].wri) ∧ w'.cell? ⟨g, o + h * 11 + 4, none⟩ = some (.int .i64 l0[h].rdr) ∧ w'.cell? ⟨g, o + h * 11 + 5, none⟩ = some (.int .i64 l0[h].idx) ∧ w'.cell? ⟨g, o + h * 11 + 6, none⟩ = some (.int .i64 l0[h].tok) ∧ w'.cell? ⟨g, o + h * 11 + 7, none⟩ = some (.int .i64 l0[h].rnd) ∧ w'.cell? ⟨g, o + h * 11 + 8, none⟩ = some (.int .i64 l0[h].rep) ∧ w'.cell? ⟨g, o + h * 11 + 9, none⟩ = some (.int .i64 l0[h].ver) ∧ w'.cell? ⟨g, o + h * 11 + 10, none⟩ = some (.int .i64 l0[h].hol)) ∧ (w'.cell? ⟨g, o + a * 11, none⟩ = some (.int .i64 l0[a].at_) ∧ w'.cell? ⟨g, o + a * 11 + 1, none⟩ = some (.int .i64 l0[a].kind) ∧ w'.cell? ⟨g, o + a * 11 + 2, none⟩ = some (.int .i64 l0[a].tbl) ∧ w'.cell? ⟨g, o + a * 11 + 3, none⟩ = some (.int .i64 l0[a].wri) ∧ w'.cell? ⟨g, o + a * 11 + 4, none⟩ = some (.int .i64 l0[a].rdr) ∧ w'.cell? ⟨g, o + a * 11 + 5, none⟩ = some (.int .i64 l0[a].idx) ∧ w'.cell? ⟨g, o + a * 11 + 6, none⟩ = some (.int .i64 l0[a].tok) ∧ w'.cell? ⟨g, o + a * 11 + 7, none⟩ = some (.int .i64 l0[a].rnd) ∧ w'.cell? ⟨g, o + a * 11 + 8, none⟩ = some (.int .i64 l0[a].rep) ∧ w'.cell? ⟨g, o + a * 11 + 9, none⟩ = some (.int .i64 l0[a].ver) ∧ w'.cell? ⟨g, o + a * 11 + 10, none⟩ = some (.int .i64 l0[a].hol)))) (by kernel_rfl) ?_ (fun hHeld => ?_)
        · (try dsimp only); go_keep
        refine wpAnyH_take (i := 0) (v := ?v22) rfl (by kernel_rfl) (by kernel_rfl) (by kernel_rfl) (fun _ _ _ h => h) (Or.inl ⟨by rfl, ?hy22⟩) hHeld ?_
        case hy22 => (intro w hSw; (try dsimp only at hSw); go_simp; try with_reducible rfl)
        (try simp only [Act.put, List.setIfInBounds_toArray, List.set_cons_zero, List.set_cons_succ, List.getElem_toArray, List.getElem_cons_zero])
        refine wpAnyH_take (i := 1) (v := ?v23) rfl (by kernel_rfl) (by kernel_rfl) (by kernel_rfl) (fun _ _ _ h => h) (Or.inl ⟨by rfl, ?hy23⟩) hHeld ?_
        case hy23 => (intro w hSw; (try dsimp only at hSw); go_simp; try with_reducible rfl)
        (try simp only [Act.put, List.setIfInBounds_toArray, List.set_cons_zero, List.set_cons_succ, List.getElem_toArray, List.getElem_cons_zero, List.getElem_cons_succ])
        refine wpAnyH_take (i := 2) (v := ?v24) rfl (by kernel_rfl) (by kernel_rfl) (by kernel_rfl) (fun _ _ _ h => h) (Or.inl ⟨by rfl, ?hy24⟩) hHeld ?_
        case hy24 => (intro w hSw; (try dsimp only at hSw); go_simp; try with_reducible rfl)
        (try simp only [Act.put, List.setIfInBounds_toArray, List.set_cons_zero, List.set_cons_succ, List.getElem_toArray, List.getElem_cons_zero, List.getElem_cons_succ])
        refine wpAnyH_take (i := 3) (v := ?v25) rfl (by kernel_rfl) (by kernel_rfl) (by kernel_rfl) (fun _ _ _ h => h) (Or.inl ⟨by rfl, ?hy25⟩) hHeld ?_
        case hy25 => (intro w hSw; (try dsimp only at hSw); go_simp; try with_reducible rfl)
        (try simp only [Act.put, List.setIfInBounds_toArray, List.set_cons_zero, List.set_cons_succ, List.getElem_toArray, List.getElem_cons_zero, List.getElem_cons_succ])
        refine wpAnyH_take (i := 4) (v := ?v26) rfl (by kernel_rfl) (by kernel_rfl) (by kernel_rfl) (fun _ _ _ h => h) (Or.inl ⟨by rfl, ?hy26⟩) hHeld ?_
        case hy26 => (intro w hSw; (try dsimp only at hSw); go_simp; try with_reducible rfl)
        (try simp only [Act.put, List.setIfInBounds_toArray, List.set_cons_zero, List.set_cons_succ, List.getElem_toArray, List.getElem_cons_zero, List.getElem_cons_succ])
        refine wpAnyH_take (i := 5) (v := ?v27) rfl (by kernel_rfl) (by kernel_rfl) (by kernel_rfl) (fun _ _ _ h => h) (Or.inl ⟨by rfl, ?hy27⟩) hHeld ?_
        case hy27 => (intro w hSw; (try dsimp only at hSw); go_simp; try with_reducible rfl)
        (try simp only [Act.put, List.setIfInBounds_toArray, List.set_cons_zero, List.set_cons_succ, List.getElem_toArray, List.getElem_cons_zero, List.getElem_cons_succ])
        refine wpAnyH_take (i := 6) (v := ?v28) rfl (by kernel_rfl) (by kernel_rfl) (by kernel_rfl) (fun _ _ _ h => h) (Or.inl ⟨by rfl, ?hy28⟩) hHeld ?_
        case hy28 => (intro w hSw; (try dsimp only at hSw); go_simp; try with_reducible rfl)
        (try simp only [Act.put, List.setIfInBounds_toArray, List.set_cons_zero, List.set_cons_succ, List.getElem_toArray, List.getElem_cons_zero, List.getElem_cons_succ])
        refine wpAnyH_take (i := 7) (v := ?v29) rfl (by kernel_rfl) (by kernel_rfl) (by kernel_rfl) (fun _ _ _ h => h) (Or.inl ⟨by rfl, ?hy29⟩) hHeld ?_
        case hy29 => (intro w hSw; (try dsimp only at hSw); go_simp; try with_reducible rfl)
        (try simp only [Act.put, List.setIfInBounds_toArray, List.set_cons_zero, List.set_cons_succ, List.getElem_toArray, List.getElem_cons_zero, List.getElem_cons_succ])
        refine wpAnyH_take (i := 8) (v := ?v30) rfl (by kernel_rfl) (by kernel_rfl) (by kernel_rfl) (fun _ _ _ h => h) (Or.inl ⟨by rfl, ?hy30⟩) hHeld ?_
        case hy30 => (intro w hSw; (try dsimp only at hSw); go_simp; try with_reducible rfl)
        (try simp only [Act.put, List.setIfInBounds_toArray, List.set_cons_zero, List.set_cons_succ, List.getElem_toArray, List.getElem_cons_zero, List.getElem_cons_succ])
        refine wpAnyH_ready (rs := [9]) (by kernel_rfl) (by simp) ?_
        refine (AllReadyH.cons rfl (fun K hK => ?_) AllReadyH.nil)
        go_simp
        (refine (cmpPt_any l0[h] l0[a] _).mono ?_; rintro e w3 ⟨rfl, hb3⟩; replace hb3 := undrew hb3; have hc3 := bcell hb3)
        refine hK.out _ _ ?_ (fun hHeld => ?_)
        · (try dsimp only); go_keep
        clear hK K
        (try simp only [Act.put, List.setIfInBounds_toArray, List.set_cons_zero, List.set_cons_succ, List.getElem_toArray, List.getElem_cons_zero, List.getElem_cons_succ])
        refine wpAnyH_take (i := 10) (v := ?v31) rfl (by kernel_rfl) (by kernel_rfl) (by kernel_rfl) (fun _ _ _ h => h) (Or.inl ⟨by rfl, ?hy31⟩) hHeld ?_
        case hy31 => (intro w hSw; (try dsimp only at hSw); go_simp; try with_reducible rfl)
        (try simp only [Act.put, List.setIfInBounds_toArray, List.set_cons_zero, List.set_cons_succ, List.getElem_toArray, List.getElem_cons_zero, List.getElem_cons_succ])
        refine wpAnyH_done (by kernel_rfl) ?_ _
        go_wp2
        go_roundw
        case rel => exact ⟨h + 1, j, by omega, by omega, by omega, by go_num, rfl, HN.out, HR2.out.below (by omega) hb3, HG.out.trans (grown_below hb3 _)⟩
        case measure => simp [intOf]; omega
      · have hcd := cmpI_nneg hc
        have HN := Lib.hid (bs_no HB.out (g1_mono HS.out) hh1 hh2 (show ¬ G1 l0 a h by unfold G1; rw [tm_eq hi1, tm_eq hi0]; exact hc))
        go_wp2
        rw [HH.out]
        refine wp_region_held_drew (S := (fun w' => (w'.cell? ⟨g, o + h * 11, none⟩ = some (.int .i64 l0[h].at_) ∧ w'.cell? ⟨g, o + h * 11 + 1, none⟩ = some (.int .i64 l0[h].kind) ∧ w'.cell? ⟨g, o + h * 11 + 2, none⟩ = some (.int .i64 l0[h].tbl) ∧ w'.cell? ⟨g, o + h * 11 + 3, none⟩ = some (.int .i64 l0[h].wri) ∧ w'.cell? ⟨g, o + h * 11 + 4, none⟩ = some (.int .i64 l0[h].rdr) ∧ w'.cell? ⟨g, o + h * 11 + 5, none⟩ = some (.int .i64 l0[h].idx) ∧ w'.cell? ⟨g, o + h * 11 + 6, none⟩ = some (.int .i64 l0[h].tok) ∧ w'.cell? ⟨g, o + h * 11 + 7, none⟩ = some (.int .i64 l0[h].rnd) ∧ w'.cell? ⟨g, o + h * 11 + 8, none⟩ = some (.int .i64 l0[h].rep) ∧ w'.cell? ⟨g, o + h * 11 + 9, none⟩ = some (.int .i64 l0[h].ver) ∧ w'.cell? ⟨g, o + h * 11 + 10, none⟩ = some (.int .i64 l0[h].hol)) ∧ (w'.cell? ⟨g, o + a * 11, none⟩ = some (.int .i64 l0[a].at_) ∧ w'.cell? ⟨g, o + a * 11 + 1, none⟩ = some (.int .i64 l0[a].kind) ∧ w'.cell? ⟨g, o + a * 11 + 2, none⟩ = some (.int .i64 l0[a].tbl) ∧ w'.cell? ⟨g, o + a * 11 + 3, none⟩ = some (.int .i64 l0[a].wri) ∧ w'.cell? ⟨g, o + a * 11 + 4, none⟩ = some (.int .i64 l0[a].rdr) ∧ w'.cell? ⟨g, o + a * 11 + 5, none⟩ = some (.int .i64 l0[a].idx) ∧ w'.cell? ⟨g, o + a * 11 + 6, none⟩ = some (.int .i64 l0[a].tok) ∧ w'.cell? ⟨g, o + a * 11 + 7, none⟩ = some (.int .i64 l0[a].rnd) ∧ w'.cell? ⟨g, o + a * 11 + 8, none⟩ = some (.int .i64 l0[a].rep) ∧ w'.cell? ⟨g, o + a * 11 + 9, none⟩ = some (.int .i64 l0[a].ver) ∧ w'.cell? ⟨g, o + a * 11 + 10, none⟩ = some (.int .i64 l0[a].hol)))) (by kernel_rfl) ?_ (fun hHeld => ?_)
        · (try dsimp only); go_keep
        refine wpAnyH_take (i := 0) (v := ?v32) rfl (by kernel_rfl) (by kernel_rfl) (by kernel_rfl) (fun _ _ _ h => h) (Or.inl ⟨by rfl, ?hy32⟩) hHeld ?_
        case hy32 => (intro w hSw; (try dsimp only at hSw); go_simp; try with_reducible rfl)
        (try simp only [Act.put, List.setIfInBounds_toArray, List.set_cons_zero, List.set_cons_succ, List.getElem_toArray, List.getElem_cons_zero])
        refine wpAnyH_take (i := 1) (v := ?v33) rfl (by kernel_rfl) (by kernel_rfl) (by kernel_rfl) (fun _ _ _ h => h) (Or.inl ⟨by rfl, ?hy33⟩) hHeld ?_
        case hy33 => (intro w hSw; (try dsimp only at hSw); go_simp; try with_reducible rfl)
        (try simp only [Act.put, List.setIfInBounds_toArray, List.set_cons_zero, List.set_cons_succ, List.getElem_toArray, List.getElem_cons_zero, List.getElem_cons_succ])
        refine wpAnyH_take (i := 2) (v := ?v34) rfl (by kernel_rfl) (by kernel_rfl) (by kernel_rfl) (fun _ _ _ h => h) (Or.inl ⟨by rfl, ?hy34⟩) hHeld ?_
        case hy34 => (intro w hSw; (try dsimp only at hSw); go_simp; try with_reducible rfl)
        (try simp only [Act.put, List.setIfInBounds_toArray, List.set_cons_zero, List.set_cons_succ, List.getElem_toArray, List.getElem_cons_zero, List.getElem_cons_succ])
        refine wpAnyH_take (i := 3) (v := ?v35) rfl (by kernel_rfl) (by kernel_rfl) (by kernel_rfl) (fun _ _ _ h => h) (Or.inl ⟨by rfl, ?hy35⟩) hHeld ?_
        case hy35 => (intro w hSw; (try dsimp only at hSw); go_simp; try with_reducible rfl)
        (try simp only [Act.put, List.setIfInBounds_toArray, List.set_cons_zero, List.set_cons_succ, List.getElem_toArray, List.getElem_cons_zero, List.getElem_cons_succ])
        refine wpAnyH_take (i := 4) (v := ?v36) rfl (by kernel_rfl) (by kernel_rfl) (by kernel_rfl) (fun _ _ _ h => h) (Or.inl ⟨by rfl, ?hy36⟩) hHeld ?_
        case hy36 => (intro w hSw; (try dsimp only at hSw); go_simp; try with_reducible rfl)
        (try simp only [Act.put, List.setIfInBounds_toArray, List.set_cons_zero, List.set_cons_succ, List.getElem_toArray, List.getElem_cons_zero, List.getElem_cons_succ])
        refine wpAnyH_take (i := 5) (v := ?v37) rfl (by kernel_rfl) (by kernel_rfl) (by kernel_rfl) (fun _ _ _ h => h) (Or.inl ⟨by rfl, ?hy37⟩) hHeld ?_
        case hy37 => (intro w hSw; (try dsimp only at hSw); go_simp; try with_reducible rfl)
        (try simp only [Act.put, List.setIfInBounds_toArray, List.set_cons_zero, List.set_cons_succ, List.getElem_toArray, List.getElem_cons_zero, List.getElem_cons_succ])
        refine wpAnyH_take (i := 6) (v := ?v38) rfl (by kernel_rfl) (by kernel_rfl) (by kernel_rfl) (fun _ _ _ h => h) (Or.inl ⟨by rfl, ?hy38⟩) hHeld ?_
        case hy38 => (intro w hSw; (try dsimp only at hSw); go_simp; try with_reducible rfl)
        (try simp only [Act.put, List.setIfInBounds_toArray, List.set_cons_zero, List.set_cons_succ, List.getElem_toArray, List.getElem_cons_zero, List.getElem_cons_succ])
        refine wpAnyH_take (i := 7) (v := ?v39) rfl (by kernel_rfl) (by kernel_rfl) (by kernel_rfl) (fun _ _ _ h => h) (Or.inl ⟨by rfl, ?hy39⟩) hHeld ?_
        case hy39 => (intro w hSw; (try dsimp only at hSw); go_simp; try with_reducible rfl)
        (try simp only [Act.put, List.setIfInBounds_toArray, List.set_cons_zero, List.set_cons_succ, List.getElem_toArray, List.getElem_cons_zero, List.getElem_cons_succ])
        refine wpAnyH_take (i := 8) (v := ?v40) rfl (by kernel_rfl) (by kernel_rfl) (by kernel_rfl) (fun _ _ _ h => h) (Or.inl ⟨by rfl, ?hy40⟩) hHeld ?_
        case hy40 => (intro w hSw; (try dsimp only at hSw); go_simp; try with_reducible rfl)
        (try simp only [Act.put, List.setIfInBounds_toArray, List.set_cons_zero, List.set_cons_succ, List.getElem_toArray, List.getElem_cons_zero, List.getElem_cons_succ])
        refine wpAnyH_ready (rs := [9]) (by kernel_rfl) (by simp) ?_
        refine (AllReadyH.cons rfl (fun K hK => ?_) AllReadyH.nil)
        go_simp
        (refine (cmpPt_any l0[h] l0[a] _).mono ?_; rintro e w3 ⟨rfl, hb3⟩; replace hb3 := undrew hb3; have hc3 := bcell hb3)
        refine hK.out _ _ ?_ (fun hHeld => ?_)
        · (try dsimp only); go_keep
        clear hK K
        (try simp only [Act.put, List.setIfInBounds_toArray, List.set_cons_zero, List.set_cons_succ, List.getElem_toArray, List.getElem_cons_zero, List.getElem_cons_succ])
        refine wpAnyH_take (i := 10) (v := ?v41) rfl (by kernel_rfl) (by kernel_rfl) (by kernel_rfl) (fun _ _ _ h => h) (Or.inl ⟨by rfl, ?hy41⟩) hHeld ?_
        case hy41 => (intro w hSw; (try dsimp only at hSw); go_simp; try with_reducible rfl)
        (try simp only [Act.put, List.setIfInBounds_toArray, List.set_cons_zero, List.set_cons_succ, List.getElem_toArray, List.getElem_cons_zero, List.getElem_cons_succ])
        refine wpAnyH_done (by kernel_rfl) ?_ _
        go_wp2
        go_roundw
        case rel => exact ⟨i, h, by omega, by omega, by omega, rfl, rfl, HN.out, HR2.out.below (by omega) hb3, HG.out.trans (grown_below hb3 _)⟩
        case measure => simp [intOf]; omega
    · obtain rfl : i = j := by omega
      obtain ⟨wo, rfl⟩ : ∃ wo : World, wo = wr := ⟨_, rfl⟩
      go_wp2
      go_loopw [13] (fun s13 wr => ∃ k : Nat, a ≤ k ∧ k + 1 ≤ i ∧ s13 = .int .i64 k ∧ Hid (∃ l, UpSt l0 a b k l ∧ RowG l g o w wr)) (fun s13 _ => i - (intOf s13).toNat)
      case atStart => exact ⟨a, by omega, by omega, rfl, l0, up_start _ _ _, hh.out.2⟩
      case round =>
        obtain ⟨k, hak, hki, rfl, hu⟩ := hrel
        by_cases hlt2 : k + 1 < i
        · have hltI : (k : Int) < (i : Int) - 1 := by omega
          obtain ⟨wo2, rfl⟩ : ∃ wo2 : World, wo2 = wr := ⟨_, rfl⟩
          obtain ⟨l, hU, hR, hG⟩ := hu.out
          have hln : l.length = l0.length := hU.ins.len
          have hi1 : k + 1 < l.length := by omega
          have hi0 : k < l.length := by omega
          obtain ⟨c0, c1, c2, c3, c4, c5, c6, c7, c8, c9, c10⟩ := hR.at_ hi1
          obtain ⟨d0, d1, d2, d3, d4, d5, d6, d7, d8, d9, d10⟩ := hR.at_ hi0
          have hgz := lt_of_cell c0
          simp only at hgz
          have b1 : (0 : Int) ≤ (k : Int) + 1 := by omega
          have b2 : (k : Int) + 1 < (l0.length : Int) := by omega
          have b3 : (0 : Int) ≤ (k : Int) := by omega
          have b4 : (k : Int) < (l0.length : Int) := by omega
          have b5 : IntKind.i64.wrap ((k : Int) + 1) = (k : Int) + 1 := IntWalk.i64_in _ (by omega)
          have HST := Lib.hid (up_step hU hlt2 (by omega) (fun x h1 h2 => hh.out.1.yes x (by have := HM.out; omega) h2) hi1)
          have HG := Lib.hid hG
          have HR4 : Hid (RowR (wo2.drew.setCells g (o + k * 11) (l[k + 1]).cs) g o (l.set k l[k + 1])) := RowR.set (w := wo2.drew) (RowR.keep (w' := wo2.drew) hR rfl) hi0 _
          have HR5 : Hid (RowR ((wo2.drew.setCells g (o + k * 11) (l[k + 1]).cs).setCells g (o + (k + 1) * 11) (l[k]).cs) g o (exch l k (k + 1) hi0 hi1)) := HR4.out.set (by simpa using hi1) _
          have HG5 : Hid (w.grownBy ((wo2.drew.setCells g (o + k * 11) (l[k + 1]).cs).setCells g (o + (k + 1) * 11) (l[k]).cs) (some g)) := ((grown_drew HG.out).trans (grown_setCells _ _ _ _)).trans (grown_setCells _ _ _ _)
          have HT1 : Hid (wo2.drew.there g (o + k * 11) 11) := RowR.there_at (w := wo2.drew) (RowR.keep (w' := wo2.drew) hR rfl) hi0
          have HT2 : Hid ((wo2.drew.setCells g (o + k * 11) (l[k + 1]).cs).there g (o + (k + 1) * 11) 11) := HR4.out.there_at (by simpa using hi1)
          have HLN := Lib.hid hln
          have HX := Lib.hid (exch_swp hi0 hi1)
          clear hU hR hG hln hu
          go_wp2
          refine wp_region_any (by kernel_rfl) ?_
          (try (change wpAny _ _ _ _ _ _ _ (World.drew _)))
          refine wpAny_take (i := 0) (v := ?v42) rfl (by kernel_rfl) (by kernel_rfl) (by kernel_rfl) (fun _ _ _ h => h) (Or.inl ⟨by rfl, ?hy42⟩) ?_
          case hy42 => (intro w; go_simp; try with_reducible rfl)
          (try simp only [Act.put, List.setIfInBounds_toArray, List.set_cons_zero, List.set_cons_succ, List.getElem_toArray, List.getElem_cons_zero])
          refine wpAny_take (i := 1) (v := ?v43) rfl (by kernel_rfl) (by kernel_rfl) (by kernel_rfl) (fun _ _ _ h => h) (Or.inl ⟨by rfl, ?hy43⟩) ?_
          case hy43 => (intro w; go_simp; try with_reducible rfl)
          (try simp only [Act.put, List.setIfInBounds_toArray, List.set_cons_zero, List.set_cons_succ, List.getElem_toArray, List.getElem_cons_zero, List.getElem_cons_succ])
          refine wpAny_take (i := 2) (v := ?v44) rfl (by kernel_rfl) (by kernel_rfl) (by kernel_rfl) (fun _ _ _ h => h) (Or.inl ⟨by rfl, ?hy44⟩) ?_
          case hy44 => (intro w; go_simp; try with_reducible rfl)
          (try simp only [Act.put, List.setIfInBounds_toArray, List.set_cons_zero, List.set_cons_succ, List.getElem_toArray, List.getElem_cons_zero, List.getElem_cons_succ])
          refine wpAny_take (i := 3) (v := ?v45) rfl (by kernel_rfl) (by kernel_rfl) (by kernel_rfl) (fun _ _ _ h => h) (Or.inl ⟨by rfl, ?hy45⟩) ?_
          case hy45 => (intro w; go_simp; try with_reducible rfl)
          (try simp only [Act.put, List.setIfInBounds_toArray, List.set_cons_zero, List.set_cons_succ, List.getElem_toArray, List.getElem_cons_zero, List.getElem_cons_succ])
          refine wpAny_take (i := 4) (v := ?v46) rfl (by kernel_rfl) (by kernel_rfl) (by kernel_rfl) (fun _ _ _ h => h) (Or.inl ⟨by rfl, ?hy46⟩) ?_
          case hy46 => (intro w; go_simp; try with_reducible rfl)
          (try simp only [Act.put, List.setIfInBounds_toArray, List.set_cons_zero, List.set_cons_succ, List.getElem_toArray, List.getElem_cons_zero, List.getElem_cons_succ])
          refine wpAny_take (i := 5) (v := ?v47) rfl (by kernel_rfl) (by kernel_rfl) (by kernel_rfl) (fun _ _ _ h => h) (Or.inl ⟨by rfl, ?hy47⟩) ?_
          case hy47 => (intro w; go_simp; try with_reducible rfl)
          (try simp only [Act.put, List.setIfInBounds_toArray, List.set_cons_zero, List.set_cons_succ, List.getElem_toArray, List.getElem_cons_zero, List.getElem_cons_succ])
          refine wpAny_take (i := 6) (v := ?v48) rfl (by kernel_rfl) (by kernel_rfl) (by kernel_rfl) (fun _ _ _ h => h) (Or.inl ⟨by rfl, ?hy48⟩) ?_
          case hy48 => (intro w; go_simp; try with_reducible rfl)
          (try simp only [Act.put, List.setIfInBounds_toArray, List.set_cons_zero, List.set_cons_succ, List.getElem_toArray, List.getElem_cons_zero, List.getElem_cons_succ])
          refine wpAny_take (i := 7) (v := ?v49) rfl (by kernel_rfl) (by kernel_rfl) (by kernel_rfl) (fun _ _ _ h => h) (Or.inl ⟨by rfl, ?hy49⟩) ?_
          case hy49 => (intro w; go_simp; try with_reducible rfl)
          (try simp only [Act.put, List.setIfInBounds_toArray, List.set_cons_zero, List.set_cons_succ, List.getElem_toArray, List.getElem_cons_zero, List.getElem_cons_succ])
          refine wpAny_take (i := 8) (v := ?v50) rfl (by kernel_rfl) (by kernel_rfl) (by kernel_rfl) (fun _ _ _ h => h) (Or.inl ⟨by rfl, ?hy50⟩) ?_
          case hy50 => (intro w; go_simp; try with_reducible rfl)
          (try simp only [Act.put, List.setIfInBounds_toArray, List.set_cons_zero, List.set_cons_succ, List.getElem_toArray, List.getElem_cons_zero, List.getElem_cons_succ])
          refine wpAny_take (i := 10) (v := ?v51) rfl (by kernel_rfl) (by kernel_rfl) (by kernel_rfl) (fun _ _ _ h => h) (Or.inl ⟨by rfl, ?hy51⟩) ?_
          case hy51 => (intro w; go_simp; try with_reducible rfl)
          (try simp only [Act.put, List.setIfInBounds_toArray, List.set_cons_zero, List.set_cons_succ, List.getElem_toArray, List.getElem_cons_zero, List.getElem_cons_succ])
          refine wpAny_take (i := 11) (v := ?v52) rfl (by kernel_rfl) (by kernel_rfl) (by kernel_rfl) (fun _ _ _ h => h) (Or.inl ⟨by rfl, ?hy52⟩) ?_
          case hy52 => (intro w; go_simp; try with_reducible rfl)
          (try simp only [Act.put, List.setIfInBounds_toArray, List.set_cons_zero, List.set_cons_succ, List.getElem_toArray, List.getElem_cons_zero, List.getElem_cons_succ])
          refine wpAny_take (i := 12) (v := ?v53) rfl (by kernel_rfl) (by kernel_rfl) (by kernel_rfl) (fun _ _ _ h => h) (Or.inl ⟨by rfl, ?hy53⟩) ?_
          case hy53 => (intro w; go_simp; try with_reducible rfl)
          (try simp only [Act.put, List.setIfInBounds_toArray, List.set_cons_zero, List.set_cons_succ, List.getElem_toArray, List.getElem_cons_zero, List.getElem_cons_succ])
          refine wpAny_ready (rs := [9, 13]) (by kernel_rfl) (by simp) ?_
          refine (AllReady.cons rfl (fun K hK => ?_) (AllReady.cons rfl (fun K hK => ?_) AllReady.nil))
          ·
            go_simp
            refine hK _ _ ?_
            clear hK K
            (try simp only [Act.put, List.setIfInBounds_toArray, List.set_cons_zero, List.set_cons_succ, List.getElem_toArray, List.getElem_cons_zero, List.getElem_cons_succ])
            refine wpAny_ready (rs := [13]) (by kernel_rfl) (by simp) ?_
            refine (AllReady.cons rfl (fun K hK => ?_) AllReady.nil)
            go_simp
            refine hK _ _ ?_
            clear hK K
            (try simp only [Act.put, List.setIfInBounds_toArray, List.set_cons_zero, List.set_cons_succ, List.getElem_toArray, List.getElem_cons_zero, List.getElem_cons_succ])
            refine wpAny_take (i := 14) (v := ?v54) rfl (by kernel_rfl) (by kernel_rfl) (by kernel_rfl) (fun _ _ _ h => h) (Or.inl ⟨by rfl, ?hy54⟩) ?_
            case hy54 => (intro w; go_simp; try with_reducible rfl)
            (try simp only [Act.put, List.setIfInBounds_toArray, List.set_cons_zero, List.set_cons_succ, List.getElem_toArray, List.getElem_cons_zero, List.getElem_cons_succ])
            refine wpAny_ready (rs := [15]) (by kernel_rfl) (by simp) ?_
            refine (AllReady.cons rfl (fun K hK => ?_) AllReady.nil)
            (simp only [List.getElem_toArray, List.getElem_cons_zero, List.getElem_cons_succ]; rw [if_pos (by rfl)]; refine wp_store_mid 23 (.tmp 75) (.tmp 70) rfl (g) (o + k * 11) ((l[k + 1]).cs.toArray) (by rfl) (by rfl) ?_ ?_ ?_ ?_; (exact HT1.out); (exact pt_info); (exact pt_one _))
            refine hK _ _ ?_
            clear hK K
            (try simp only [Act.put])
            refine wpAny_take (i := 16) (v := ?v55) rfl (by kernel_rfl) (by kernel_rfl) (by kernel_rfl) (fun _ _ _ h => h) (Or.inl ⟨by rfl, ?hy55⟩) ?_
            case hy55 => (intro w; go_simp; try with_reducible rfl)
            (try simp only [Act.put, List.setIfInBounds_toArray, List.set_cons_zero, List.set_cons_succ, List.getElem_toArray, List.getElem_cons_zero, List.getElem_cons_succ])
            refine wpAny_ready (rs := [17]) (by kernel_rfl) (by simp) ?_
            refine (AllReady.cons rfl (fun K hK => ?_) AllReady.nil)
            (generalize wo2.drew.setCells g (o + k * 11) l[k + 1].cs = w4 at *; simp only [List.getElem_toArray, List.getElem_cons_zero, List.getElem_cons_succ]; rw [if_pos (by rfl)]; refine wp_store_mid 23 (.tmp 76) (.tmp 74) rfl (g) (o + (k + 1) * 11) ((l[k]).cs.toArray) (by rfl) (by rfl) ?_ ?_ ?_ ?_; (exact HT2.out); (exact pt_info); (exact pt_one _))
            refine hK _ _ ?_
            clear hK K
            (try simp only [Act.put])
            refine wpAny_done (by kernel_rfl) ?_ _
            (go_wp2; go_roundw; (case rel => exact ⟨k + 1, by omega, by omega, by go_num, swp l k hi1, HST.out, (by rw [← HX.out]; exact HR5.out), HG5.out⟩); (case measure => simp [intOf]; omega))
          ·
            go_simp
            refine hK _ _ ?_
            clear hK K
            (try simp only [Act.put, List.setIfInBounds_toArray, List.set_cons_zero, List.set_cons_succ, List.getElem_toArray, List.getElem_cons_zero, List.getElem_cons_succ])
            refine wpAny_ready (rs := [9]) (by kernel_rfl) (by simp) ?_
            refine (AllReady.cons rfl (fun K hK => ?_) AllReady.nil)
            go_simp
            refine hK _ _ ?_
            clear hK K
            (try simp only [Act.put, List.setIfInBounds_toArray, List.set_cons_zero, List.set_cons_succ, List.getElem_toArray, List.getElem_cons_zero, List.getElem_cons_succ])
            refine wpAny_take (i := 14) (v := ?v56) rfl (by kernel_rfl) (by kernel_rfl) (by kernel_rfl) (fun _ _ _ h => h) (Or.inl ⟨by rfl, ?hy56⟩) ?_
            case hy56 => (intro w; go_simp; try with_reducible rfl)
            (try simp only [Act.put, List.setIfInBounds_toArray, List.set_cons_zero, List.set_cons_succ, List.getElem_toArray, List.getElem_cons_zero, List.getElem_cons_succ])
            refine wpAny_ready (rs := [15]) (by kernel_rfl) (by simp) ?_
            refine (AllReady.cons rfl (fun K hK => ?_) AllReady.nil)
            (simp only [List.getElem_toArray, List.getElem_cons_zero, List.getElem_cons_succ]; rw [if_pos (by rfl)]; refine wp_store_mid 23 (.tmp 75) (.tmp 70) rfl (g) (o + k * 11) ((l[k + 1]).cs.toArray) (by rfl) (by rfl) ?_ ?_ ?_ ?_; (exact HT1.out); (exact pt_info); (exact pt_one _))
            refine hK _ _ ?_
            clear hK K
            (try simp only [Act.put])
            refine wpAny_take (i := 16) (v := ?v57) rfl (by kernel_rfl) (by kernel_rfl) (by kernel_rfl) (fun _ _ _ h => h) (Or.inl ⟨by rfl, ?hy57⟩) ?_
            case hy57 => (intro w; go_simp; try with_reducible rfl)
            (try simp only [Act.put, List.setIfInBounds_toArray, List.set_cons_zero, List.set_cons_succ, List.getElem_toArray, List.getElem_cons_zero, List.getElem_cons_succ])
            refine wpAny_ready (rs := [17]) (by kernel_rfl) (by simp) ?_
            refine (AllReady.cons rfl (fun K hK => ?_) AllReady.nil)
            (generalize wo2.drew.setCells g (o + k * 11) l[k + 1].cs = w4 at *; simp only [List.getElem_toArray, List.getElem_cons_zero, List.getElem_cons_succ]; rw [if_pos (by rfl)]; refine wp_store_mid 23 (.tmp 76) (.tmp 74) rfl (g) (o + (k + 1) * 11) ((l[k]).cs.toArray) (by rfl) (by rfl) ?_ ?_ ?_ ?_; (exact HT2.out); (exact pt_info); (exact pt_one _))
            refine hK _ _ ?_
            clear hK K
            (try simp only [Act.put])
            refine wpAny_done (by kernel_rfl) ?_ _
            (go_wp2; go_roundw; (case rel => exact ⟨k + 1, by omega, by omega, by go_num, swp l k hi1, HST.out, (by rw [← HX.out]; exact HR5.out), HG5.out⟩); (case measure => simp [intOf]; omega))
        · have hltI : ¬ ((k : Int) < (i : Int) - 1) := by omega
          obtain rfl : i = k + 1 := by omega
          go_wp2
          go_end0
          obtain ⟨l, hU, hR, hG⟩ := hu.out
          have hB := hh.out.1
          have hm := HM.out
          obtain rfl : m = a + 1 := by omega
          obtain ⟨e1, e2⟩ := up_end (i := k + 1) hU (by omega) (by omega) HS.out (fun x h1 h2 => hB.yes x h1 h2) (fun x h1 h2 => hB.no x h1 h2)
          exact ⟨rfl, l, e1, e2, hR, hG⟩
end Go.Proofs.YtcmnmcholfellaaDoor
