/-
  Walks: merging two neighbouring sorted parts in place (symMerge), by halves.
-/
import Derived.Test.YtcmnmcholfellaaDoorZ5
namespace Go.Proofs.YtcmnmcholfellaaDoor
open Go.RowKit

theorem rotate_at (l0 : List Pt) (a m b : Nat) (A M B : Int) (hA : A = a) (hM : M = m) (hB : B = b) (L : Nat) (hL : l0.length = L) (ham : a < m) (hmb : m < b) (hbn : b ≤ L) (hn : L ≤ 1000000) (g o c : Nat) (w : World) (hr : RowR w g o l0) :
    Calls Tryd.prog 100 #[.slice (some ⟨g, o, none⟩) L c, .int .i64 A, .int .i64 M, .int .i64 B, cmpF] w (MovePost (rotIx a m b) l0 g o w) := by
  subst hA hM hB hL; exact rotate_any l0 a m b ham hmb hbn hn g o c w hr

/-- symMerge of parts of so many points together. -/
def SymSaid (N : Nat) : Prop := ∀ (l0 : List Pt) (a m b : Nat) (A M B : Int) (L : Nat), A = a → M = m → B = b → l0.length = L → b - a ≤ N → a < m → m < b → b ≤ L → L ≤ 1000000 → SortedOn l0 a m → SortedOn l0 m b →
  ∀ (g o c : Nat) (w : World), RowR w g o l0 → Calls Tryd.prog 80 #[.slice (some ⟨g, o, none⟩) L c, .int .i64 A, .int .i64 M, .int .i64 B, cmpF] w (SortPost l0 a b g o w)

/-- The first half done. -/
def HalfD (l0 : List Pt) (a mid en b : Nat) (l1 : List Pt) : Prop := Ins l0 a b l1 ∧ SortedOn l1 a mid ∧ SortedOn l1 mid en ∧ SortedOn l1 en b ∧ (∀ x y, a ≤ x → x < mid → mid ≤ y → y < b → tm l1 x ≤ tm l1 y)

theorem half_none {l0 l : List Pt} {a s mid en b : Nat} (h : Halves l0 a s mid en b l) (h1 : a ≤ s) (h2 : s ≤ mid) (h3 : mid ≤ en) (h4 : en ≤ b) (hb : b ≤ l0.length) (hs : ¬ (a < s ∧ s < mid)) : HalfD l0 a mid en b l :=
  halves_first h h1 h2 h3 h4 hb (Ins.refl _ _ _) (by
    by_cases e : a = s
    · subst e; exact h.p2
    · obtain rfl : s = mid := by omega
      exact h.p1)

theorem half_end {l0 l : List Pt} {a mid en b : Nat} (h : HalfD l0 a mid en b l) (h1 : a ≤ mid) (h3 : mid ≤ en) (h4 : en ≤ b) (hs : ¬ (mid < en ∧ en < b)) (hb : b ≤ l0.length) : Ins l0 a b l ∧ SortedOn l a b :=
  halves_second h.1 h.2.1 h.2.2.2.2 h1 (by omega) hb (Ins.refl _ _ _) (by
    by_cases e : mid = en
    · subst e; exact h.2.2.2.1
    · obtain rfl : en = b := by omega
      exact h.2.2.1)

set_option maxHeartbeats 4000000 in
set_option maxRecDepth 100000 in
theorem symMerge_stepL (N : Nat) (ih : Hid (SymSaid N)) (l0 : List Pt) (a m b mid s0 r0 : Nat) (hN : b - a ≤ N + 1) (_hm : ¬ m - a = 1) (_hm2 : ¬ b - m = 1) (hmE : mid = (a + b) / 2) (hB : Bnd a m b mid s0 r0) (hc : mid < m) (hs0' : s0 = mid + m - b ∧ b ≤ mid + m) (hr0 : r0 = mid) (ham : a < m) (hmb : m < b) (hbn : b ≤ l0.length) (hn : l0.length ≤ 1000000) (hsl : SortedOn l0 a m) (hsr : SortedOn l0 m b) (g o c : Nat) (w : World) (hr : RowR w g o l0) :
    Calls Tryd.prog 80 #[.slice (some ⟨g, o, none⟩) l0.length c, .int .i64 a, .int .i64 m, .int .i64 b, cmpF] w (SortPost l0 a b g o w) := by
  have HR := Lib.hid hr
  have HSL := Lib.hid hsl
  have HSR := Lib.hid hsr
  have hm1 : ((m : Int) - (a : Int) == 1) = false := by rw [beq_eq_false_iff_ne]; omega
  have hm3 : ((b : Int) - (m : Int) == 1) = false := by rw [beq_eq_false_iff_ne]; omega
  have hme : ((a : Int) + (b : Int)) / 2 = (mid : Int) := by omega
  have hmid1 : a < mid := by omega
  have hmid2 : mid < b := by omega
  obtain ⟨hs0, hge⟩ := hs0'
  have HS0 := Lib.hid hs0
  have HR0 := Lib.hid hr0
  clear hr hsl hsr _hm _hm2 hmE
  have HB := Lib.hid hB
  obtain ⟨b1, b2, b3, b4, b5, b6, b7⟩ := hB
  clear b6 b7 hs0 hr0
  go_enter Tryd.func80, Tryd.ntmps80
  go_wp2
  clear hme
  go_loopw [20, 21] (fun s20 s21 wr => ∃ i j : Nat, i ≤ j ∧ s0 ≤ i ∧ j ≤ r0 ∧ s20 = .int .i64 i ∧ s21 = .int .i64 j ∧ Hid (BS (G3 l0 (mid + m - 1)) s0 r0 i j ∧ RowG l0 g o w wr)) (fun s20 s21 _ => (intOf s21).toNat - (intOf s20).toNat)
  case atStart => exact ⟨s0, r0, by omega, by omega, by omega, by rw [HS0.out]; try go_num, by rw [HR0.out], bs_start _ (by omega), HR.out, grown_refl _ _⟩
  case round =>
    obtain ⟨i, j, hij, hmi, hjb, rfl, rfl, hh⟩ := hrel
    by_cases hlt : i < j
    · obtain ⟨wo, rfl⟩ : ∃ wo : World, wo = wr := ⟨_, rfl⟩
      obtain ⟨hBS, hR, hG⟩ := hh.out
      obtain ⟨h, hh1, hh2, hhe⟩ : ∃ h : Nat, i ≤ h ∧ h < j ∧ ((i : Int) + (j : Int)) / 2 = (h : Int) := ⟨(i + j) / 2, by omega, by omega, by omega⟩
      obtain ⟨q, hqe, hq1, hq2⟩ : ∃ q : Nat, q + h + 1 = mid + m ∧ m ≤ q ∧ q < b := ⟨mid + m - 1 - h, by omega, by omega, by omega⟩
      have hi1 : q < l0.length := by omega
      have hi0 : h < l0.length := by omega
      obtain ⟨c0, c1, c2, c3, c4, c5, c6, c7, c8, c9, c10⟩ := hR.at_ hi1
      obtain ⟨d0, d1, d2, d3, d4, d5, d6, d7, d8, d9, d10⟩ := hR.at_ hi0
      have hgz := lt_of_cell c0
      simp only at hgz
      have b1' : (0 : Int) ≤ (h : Int) := by omega
      have b2' : (h : Int) < (l0.length : Int) := by omega
      have HPQ := Lib.hid (show mid + m - 1 - h = q by omega)
      have HBS := Lib.hid hBS
      have HR2 := Lib.hid hR
      have HG := Lib.hid hG
      have HG3 := Lib.hid (g3_mono (p := mid + m - 1) (s0 := s0) (r0 := r0) HSL.out HSR.out b1 b3 (by omega) (by omega))
      have b3' : (mid : Int) + (m : Int) - 1 - (h : Int) = (q : Int) := by omega
      have b4' : (0 : Int) ≤ (q : Int) := by omega
      have b5' : (q : Int) < (l0.length : Int) := by omega
      have b6' : IntKind.i64.wrap (q : Int) = (q : Int) := IntWalk.i64_in _ (by omega)
      clear hBS hR hG hh hqe
      by_cases hcc : l0[q].at_ < l0[h].at_
      · have hcd := cmpI_neg hcc
        have HN := Lib.hid (bs_no HBS.out HG3.out hh1 hh2 (show ¬ G3 l0 (mid + m - 1) h by unfold G3; rw [HPQ.out, tm_eq hi1, tm_eq hi0]; omega))
        go_wp2
        refine wp_region_held_drew (S := (fun w' => (w'.cell? ⟨g, o + q * 11, none⟩ = some (.int .i64 l0[q].at_) ∧ w'.cell? ⟨g, o + q * 11 + 1, none⟩ = some (.int .i64 l0[q].kind) ∧ w'.cell? ⟨g, o + q * 11 + 2, none⟩ = some (.int .i64 l0[q].tbl) ∧ w'.cell? ⟨g, o + q * 11 + 3, none⟩ = some (.int .i64 l0[q].wri) ∧ w'.cell? ⟨g, o + q * 11 + 4, none⟩ = some (.int .i64 l0[q].rdr) ∧ w'.cell? ⟨g, o + q * 11 + 5, none⟩ = some (.int .i64 l0[q].idx) ∧ w'.cell? ⟨g, o + q * 11 + 6, none⟩ = some (.int .i64 l0[q].tok) ∧ w'.cell? ⟨g, o + q * 11 + 7, none⟩ = some (.int .i64 l0[q].rnd) ∧ w'.cell? ⟨g, o + q * 11 + 8, none⟩ = some (.int .i64 l0[q].rep) ∧ w'.cell? ⟨g, o + q * 11 + 9, none⟩ = some (.int .i64 l0[q].ver) ∧ w'.cell? ⟨g, o + q * 11 + 10, none⟩ = some (.int .i64 l0[q].hol)) ∧ (w'.cell? ⟨g, o + h * 11, none⟩ = some (.int .i64 l0[h].at_) ∧ w'.cell? ⟨g, o + h * 11 + 1, none⟩ = some (.int .i64 l0[h].kind) ∧ w'.cell? ⟨g, o + h * 11 + 2, none⟩ = some (.int .i64 l0[h].tbl) ∧ w'.cell? ⟨g, o + h * 11 + 3, none⟩ = some (.int .i64 l0[h].wri) ∧ w'.cell? ⟨g, o + h * 11 + 4, none⟩ = some (.int .i64 l0[h].rdr) ∧ w'.cell? ⟨g, o + h * 11 + 5, none⟩ = some (.int .i64 l0[h].idx) ∧ w'.cell? ⟨g, o + h * 11 + 6, none⟩ = some (.int .i64 l0[h].tok) ∧ w'.cell? ⟨g, o + h * 11 + 7, none⟩ = some (.int .i64 l0[h].rnd) ∧ w'.cell? ⟨g, o + h * 11 + 8, none⟩ = some (.int .i64 l0[h].rep) ∧ w'.cell? ⟨g, o + h * 11 + 9, none⟩ = some (.int .i64 l0[h].ver) ∧ w'.cell? ⟨g, o + h * 11 + 10, none⟩ = some (.int .i64 l0[h].hol)))) (by kernel_rfl) ?_ (fun hHeld => ?_)
        · (try dsimp only); go_keep
        refine wpAnyH_take (i := 0) (v := ?v0) rfl (by kernel_rfl) (by kernel_rfl) (by kernel_rfl) (fun _ _ _ h => h) (Or.inl ⟨by rfl, ?hy0⟩) hHeld ?_
        case hy0 => (intro w hSw; (try dsimp only at hSw); go_simp; try with_reducible rfl)
        (try simp only [Act.put, List.setIfInBounds_toArray, List.set_cons_zero, List.set_cons_succ, List.getElem_toArray, List.getElem_cons_zero])
        refine wpAnyH_take (i := 1) (v := ?v1) rfl (by kernel_rfl) (by kernel_rfl) (by kernel_rfl) (fun _ _ _ h => h) (Or.inl ⟨by rfl, ?hy1⟩) hHeld ?_
        case hy1 => (intro w hSw; (try dsimp only at hSw); go_simp; try with_reducible rfl)
        (try simp only [Act.put, List.setIfInBounds_toArray, List.set_cons_zero, List.set_cons_succ, List.getElem_toArray, List.getElem_cons_zero, List.getElem_cons_succ])
        refine wpAnyH_take (i := 2) (v := ?v2) rfl (by kernel_rfl) (by kernel_rfl) (by kernel_rfl) (fun _ _ _ h => h) (Or.inl ⟨by rfl, ?hy2⟩) hHeld ?_
        case hy2 => (intro w hSw; (try dsimp only at hSw); go_simp; try with_reducible rfl)
        (try simp only [Act.put, List.setIfInBounds_toArray, List.set_cons_zero, List.set_cons_succ, List.getElem_toArray, List.getElem_cons_zero, List.getElem_cons_succ])
        refine wpAnyH_take (i := 3) (v := ?v3) rfl (by kernel_rfl) (by kernel_rfl) (by kernel_rfl) (fun _ _ _ h => h) (Or.inl ⟨by rfl, ?hy3⟩) hHeld ?_
        case hy3 => (intro w hSw; (try dsimp only at hSw); go_simp; try with_reducible rfl)
        (try simp only [Act.put, List.setIfInBounds_toArray, List.set_cons_zero, List.set_cons_succ, List.getElem_toArray, List.getElem_cons_zero, List.getElem_cons_succ])
        refine wpAnyH_take (i := 4) (v := ?v4) rfl (by kernel_rfl) (by kernel_rfl) (by kernel_rfl) (fun _ _ _ h => h) (Or.inl ⟨by rfl, ?hy4⟩) hHeld ?_
        case hy4 => (intro w hSw; (try dsimp only at hSw); go_simp; try with_reducible rfl)
        (try simp only [Act.put, List.setIfInBounds_toArray, List.set_cons_zero, List.set_cons_succ, List.getElem_toArray, List.getElem_cons_zero, List.getElem_cons_succ])
        refine wpAnyH_take (i := 5) (v := ?v5) rfl (by kernel_rfl) (by kernel_rfl) (by kernel_rfl) (fun _ _ _ h => h) (Or.inl ⟨by rfl, ?hy5⟩) hHeld ?_
        case hy5 => (intro w hSw; (try dsimp only at hSw); go_simp; try with_reducible rfl)
        (try simp only [Act.put, List.setIfInBounds_toArray, List.set_cons_zero, List.set_cons_succ, List.getElem_toArray, List.getElem_cons_zero, List.getElem_cons_succ])
        refine wpAnyH_take (i := 6) (v := ?v6) rfl (by kernel_rfl) (by kernel_rfl) (by kernel_rfl) (fun _ _ _ h => h) (Or.inl ⟨by rfl, ?hy6⟩) hHeld ?_
        case hy6 => (intro w hSw; (try dsimp only at hSw); go_simp; try with_reducible rfl)
        (try simp only [Act.put, List.setIfInBounds_toArray, List.set_cons_zero, List.set_cons_succ, List.getElem_toArray, List.getElem_cons_zero, List.getElem_cons_succ])
        refine wpAnyH_take (i := 7) (v := ?v7) rfl (by kernel_rfl) (by kernel_rfl) (by kernel_rfl) (fun _ _ _ h => h) (Or.inl ⟨by rfl, ?hy7⟩) hHeld ?_
        case hy7 => (intro w hSw; (try dsimp only at hSw); go_simp; try with_reducible rfl)
        (try simp only [Act.put, List.setIfInBounds_toArray, List.set_cons_zero, List.set_cons_succ, List.getElem_toArray, List.getElem_cons_zero, List.getElem_cons_succ])
        refine wpAnyH_take (i := 8) (v := ?v8) rfl (by kernel_rfl) (by kernel_rfl) (by kernel_rfl) (fun _ _ _ h => h) (Or.inl ⟨by rfl, ?hy8⟩) hHeld ?_
        case hy8 => (intro w hSw; (try dsimp only at hSw); go_simp; try with_reducible rfl)
        (try simp only [Act.put, List.setIfInBounds_toArray, List.set_cons_zero, List.set_cons_succ, List.getElem_toArray, List.getElem_cons_zero, List.getElem_cons_succ])
        refine wpAnyH_take (i := 9) (v := ?v9) rfl (by kernel_rfl) (by kernel_rfl) (by kernel_rfl) (fun _ _ _ h => h) (Or.inl ⟨by rfl, ?hy9⟩) hHeld ?_
        case hy9 => (intro w hSw; (try dsimp only at hSw); go_simp; try with_reducible rfl)
        (try simp only [Act.put, List.setIfInBounds_toArray, List.set_cons_zero, List.set_cons_succ, List.getElem_toArray, List.getElem_cons_zero, List.getElem_cons_succ])
        refine wpAnyH_take (i := 10) (v := ?v10) rfl (by kernel_rfl) (by kernel_rfl) (by kernel_rfl) (fun _ _ _ h => h) (Or.inl ⟨by rfl, ?hy10⟩) hHeld ?_
        case hy10 => (intro w hSw; (try dsimp only at hSw); go_simp; try with_reducible rfl)
        (try simp only [Act.put, List.setIfInBounds_toArray, List.set_cons_zero, List.set_cons_succ, List.getElem_toArray, List.getElem_cons_zero, List.getElem_cons_succ])
        refine wpAnyH_ready (rs := [11]) (by kernel_rfl) (by simp) ?_
        refine (AllReadyH.cons rfl (fun K hK => ?_) AllReadyH.nil)
        go_simp
        (refine (cmpPt_any l0[q] l0[h] _).mono ?_; rintro e w3 ⟨rfl, hb3⟩; replace hb3 := undrew hb3; have hc3 := bcell hb3)
        refine hK.out _ _ ?_ (fun hHeld => ?_)
        · (try dsimp only); go_keep
        clear hK K
        (try simp only [Act.put, List.setIfInBounds_toArray, List.set_cons_zero, List.set_cons_succ, List.getElem_toArray, List.getElem_cons_zero, List.getElem_cons_succ])
        refine wpAnyH_take (i := 12) (v := ?v11) rfl (by kernel_rfl) (by kernel_rfl) (by kernel_rfl) (fun _ _ _ h => h) (Or.inl ⟨by rfl, ?hy11⟩) hHeld ?_
        case hy11 => (intro w hSw; (try dsimp only at hSw); go_simp; try with_reducible rfl)
        (try simp only [Act.put, List.setIfInBounds_toArray, List.set_cons_zero, List.set_cons_succ, List.getElem_toArray, List.getElem_cons_zero, List.getElem_cons_succ])
        refine wpAnyH_take (i := 13) (v := ?v12) rfl (by kernel_rfl) (by kernel_rfl) (by kernel_rfl) (fun _ _ _ h => h) (Or.inl ⟨by rfl, ?hy12⟩) hHeld ?_
        case hy12 => (intro w hSw; (try dsimp only at hSw); go_simp; try with_reducible rfl)
        (try simp only [Act.put, List.setIfInBounds_toArray, List.set_cons_zero, List.set_cons_succ, List.getElem_toArray, List.getElem_cons_zero, List.getElem_cons_succ])
        refine wpAnyH_done (by kernel_rfl) ?_ _
        go_wp2
        go_roundw
        case rel => exact ⟨i, h, by omega, by omega, by omega, rfl, rfl, HN.out, HR2.out.below (by omega) hb3, HG.out.trans (grown_below hb3 _)⟩
        case measure => simp [intOf]; omega
      · have hcd := cmpI_nneg hcc
        have HN := Lib.hid (bs_yes HBS.out HG3.out hh1 hh2 (show G3 l0 (mid + m - 1) h by unfold G3; rw [HPQ.out, tm_eq hi1, tm_eq hi0]; omega))
        go_wp2
        refine wp_region_held_drew (S := (fun w' => (w'.cell? ⟨g, o + q * 11, none⟩ = some (.int .i64 l0[q].at_) ∧ w'.cell? ⟨g, o + q * 11 + 1, none⟩ = some (.int .i64 l0[q].kind) ∧ w'.cell? ⟨g, o + q * 11 + 2, none⟩ = some (.int .i64 l0[q].tbl) ∧ w'.cell? ⟨g, o + q * 11 + 3, none⟩ = some (.int .i64 l0[q].wri) ∧ w'.cell? ⟨g, o + q * 11 + 4, none⟩ = some (.int .i64 l0[q].rdr) ∧ w'.cell? ⟨g, o + q * 11 + 5, none⟩ = some (.int .i64 l0[q].idx) ∧ w'.cell? ⟨g, o + q * 11 + 6, none⟩ = some (.int .i64 l0[q].tok) ∧ w'.cell? ⟨g, o + q * 11 + 7, none⟩ = some (.int .i64 l0[q].rnd) ∧ w'.cell? ⟨g, o + q * 11 + 8, none⟩ = some (.int .i64 l0[q].rep) ∧ w'.cell? ⟨g, o + q * 11 + 9, none⟩ = some (.int .i64 l0[q].ver) ∧ w'.cell? ⟨g, o + q * 11 + 10, none⟩ = some (.int .i64 l0[q].hol)) ∧ (w'.cell? ⟨g, o + h * 11, none⟩ = some (.int .i64 l0[h].at_) ∧ w'.cell? ⟨g, o + h * 11 + 1, none⟩ = some (.int .i64 l0[h].kind) ∧ w'.cell? ⟨g, o + h * 11 + 2, none⟩ = some (.int .i64 l0[h].tbl) ∧ w'.cell? ⟨g, o + h * 11 + 3, none⟩ = some (.int .i64 l0[h].wri) ∧ w'.cell? ⟨g, o + h * 11 + 4, none⟩ = some (.int .i64 l0[h].rdr) ∧ w'.cell? ⟨g, o + h * 11 + 5, none⟩ = some (.int .i64 l0[h].idx) ∧ w'.cell? ⟨g, o + h * 11 + 6, none⟩ = some (.int .i64 l0[h].tok) ∧ w'.cell? ⟨g, o + h * 11 + 7, none⟩ = some (.int .i64 l0[h].rnd) ∧ w'.cell? ⟨g, o + h * 11 + 8, none⟩ = some (.int .i64 l0[h].rep) ∧ w'.cell? ⟨g, o + h * 11 + 9, none⟩ = some (.int .i64 l0[h].ver) ∧ w'.cell? ⟨g, o + h * 11 + 10, none⟩ = some (.int .i64 l0[h].hol)))) (by kernel_rfl) ?_ (fun hHeld => ?_)
        · (try dsimp only); go_keep
        refine wpAnyH_take (i := 0) (v := ?v13) rfl (by kernel_rfl) (by kernel_rfl) (by kernel_rfl) (fun _ _ _ h => h) (Or.inl ⟨by rfl, ?hy13⟩) hHeld ?_
        case hy13 => (intro w hSw; (try dsimp only at hSw); go_simp; try with_reducible rfl)
        (try simp only [Act.put, List.setIfInBounds_toArray, List.set_cons_zero, List.set_cons_succ, List.getElem_toArray, List.getElem_cons_zero])
        refine wpAnyH_take (i := 1) (v := ?v14) rfl (by kernel_rfl) (by kernel_rfl) (by kernel_rfl) (fun _ _ _ h => h) (Or.inl ⟨by rfl, ?hy14⟩) hHeld ?_
        case hy14 => (intro w hSw; (try dsimp only at hSw); go_simp; try with_reducible rfl)
        (try simp only [Act.put, List.setIfInBounds_toArray, List.set_cons_zero, List.set_cons_succ, List.getElem_toArray, List.getElem_cons_zero, List.getElem_cons_succ])
        refine wpAnyH_take (i := 2) (v := ?v15) rfl (by kernel_rfl) (by kernel_rfl) (by kernel_rfl) (fun _ _ _ h => h) (Or.inl ⟨by rfl, ?hy15⟩) hHeld ?_
        case hy15 => (intro w hSw; (try dsimp only at hSw); go_simp; try with_reducible rfl)
        (try simp only [Act.put, List.setIfInBounds_toArray, List.set_cons_zero, List.set_cons_succ, List.getElem_toArray, List.getElem_cons_zero, List.getElem_cons_succ])
        refine wpAnyH_take (i := 3) (v := ?v16) rfl (by kernel_rfl) (by kernel_rfl) (by kernel_rfl) (fun _ _ _ h => h) (Or.inl ⟨by rfl, ?hy16⟩) hHeld ?_
        case hy16 => (intro w hSw; (try dsimp only at hSw); go_simp; try with_reducible rfl)
        (try simp only [Act.put, List.setIfInBounds_toArray, List.set_cons_zero, List.set_cons_succ, List.getElem_toArray, List.getElem_cons_zero, List.getElem_cons_succ])
        refine wpAnyH_take (i := 4) (v := ?v17) rfl (by kernel_rfl) (by kernel_rfl) (by kernel_rfl) (fun _ _ _ h => h) (Or.inl ⟨by rfl, ?hy17⟩) hHeld ?_
        case hy17 => (intro w hSw; (try dsimp only at hSw); go_simp; try with_reducible rfl)
        (try simp only [Act.put, List.setIfInBounds_toArray, List.set_cons_zero, List.set_cons_succ, List.getElem_toArray, List.getElem_cons_zero, List.getElem_cons_succ])
        refine wpAnyH_take (i := 5) (v := ?v18) rfl (by kernel_rfl) (by kernel_rfl) (by kernel_rfl) (fun _ _ _ h => h) (Or.inl ⟨by rfl, ?hy18⟩) hHeld ?_
        case hy18 => (intro w hSw; (try dsimp only at hSw); go_simp; try with_reducible rfl)
        (try simp only [Act.put, List.setIfInBounds_toArray, List.set_cons_zero, List.set_cons_succ, List.getElem_toArray, List.getElem_cons_zero, List.getElem_cons_succ])
        refine wpAnyH_take (i := 6) (v := ?v19) rfl (by kernel_rfl) (by kernel_rfl) (by kernel_rfl) (fun _ _ _ h => h) (Or.inl ⟨by rfl, ?hy19⟩) hHeld ?_
        case hy19 => (intro w hSw; (try dsimp only at hSw); go_simp; try with_reducible rfl)
        (try simp only [Act.put, List.setIfInBounds_toArray, List.set_cons_zero, List.set_cons_succ, List.getElem_toArray, List.getElem_cons_zero, List.getElem_cons_succ])
        refine wpAnyH_take (i := 7) (v := ?v20) rfl (by kernel_rfl) (by kernel_rfl) (by kernel_rfl) (fun _ _ _ h => h) (Or.inl ⟨by rfl, ?hy20⟩) hHeld ?_
        case hy20 => (intro w hSw; (try dsimp only at hSw); go_simp; try with_reducible rfl)
        (try simp only [Act.put, List.setIfInBounds_toArray, List.set_cons_zero, List.set_cons_succ, List.getElem_toArray, List.getElem_cons_zero, List.getElem_cons_succ])
        refine wpAnyH_take (i := 8) (v := ?v21) rfl (by kernel_rfl) (by kernel_rfl) (by kernel_rfl) (fun _ _ _ h => h) (Or.inl ⟨by rfl, ?hy21⟩) hHeld ?_
        case hy21 => (intro w hSw; (try dsimp only at hSw); go_simp; try with_reducible rfl)
        (try simp only [Act.put, List.setIfInBounds_toArray, List.set_cons_zero, List.set_cons_succ, List.getElem_toArray, List.getElem_cons_zero, List.getElem_cons_succ])
        refine wpAnyH_take (i := 9) (v := ?v22) rfl (by kernel_rfl) (by kernel_rfl) (by kernel_rfl) (fun _ _ _ h => h) (Or.inl ⟨by rfl, ?hy22⟩) hHeld ?_
        case hy22 => (intro w hSw; (try dsimp only at hSw); go_simp; try with_reducible rfl)
        (try simp only [Act.put, List.setIfInBounds_toArray, List.set_cons_zero, List.set_cons_succ, List.getElem_toArray, List.getElem_cons_zero, List.getElem_cons_succ])
        refine wpAnyH_take (i := 10) (v := ?v23) rfl (by kernel_rfl) (by kernel_rfl) (by kernel_rfl) (fun _ _ _ h => h) (Or.inl ⟨by rfl, ?hy23⟩) hHeld ?_
        case hy23 => (intro w hSw; (try dsimp only at hSw); go_simp; try with_reducible rfl)
        (try simp only [Act.put, List.setIfInBounds_toArray, List.set_cons_zero, List.set_cons_succ, List.getElem_toArray, List.getElem_cons_zero, List.getElem_cons_succ])
        refine wpAnyH_ready (rs := [11]) (by kernel_rfl) (by simp) ?_
        refine (AllReadyH.cons rfl (fun K hK => ?_) AllReadyH.nil)
        go_simp
        (refine (cmpPt_any l0[q] l0[h] _).mono ?_; rintro e w3 ⟨rfl, hb3⟩; replace hb3 := undrew hb3; have hc3 := bcell hb3)
        refine hK.out _ _ ?_ (fun hHeld => ?_)
        · (try dsimp only); go_keep
        clear hK K
        (try simp only [Act.put, List.setIfInBounds_toArray, List.set_cons_zero, List.set_cons_succ, List.getElem_toArray, List.getElem_cons_zero, List.getElem_cons_succ])
        refine wpAnyH_take (i := 12) (v := ?v24) rfl (by kernel_rfl) (by kernel_rfl) (by kernel_rfl) (fun _ _ _ h => h) (Or.inl ⟨by rfl, ?hy24⟩) hHeld ?_
        case hy24 => (intro w hSw; (try dsimp only at hSw); go_simp; try with_reducible rfl)
        (try simp only [Act.put, List.setIfInBounds_toArray, List.set_cons_zero, List.set_cons_succ, List.getElem_toArray, List.getElem_cons_zero, List.getElem_cons_succ])
        refine wpAnyH_take (i := 13) (v := ?v25) rfl (by kernel_rfl) (by kernel_rfl) (by kernel_rfl) (fun _ _ _ h => h) (Or.inl ⟨by rfl, ?hy25⟩) hHeld ?_
        case hy25 => (intro w hSw; (try dsimp only at hSw); go_simp; try with_reducible rfl)
        (try simp only [Act.put, List.setIfInBounds_toArray, List.set_cons_zero, List.set_cons_succ, List.getElem_toArray, List.getElem_cons_zero, List.getElem_cons_succ])
        refine wpAnyH_done (by kernel_rfl) ?_ _
        go_wp2
        go_roundw
        case rel => exact ⟨h + 1, j, by omega, by omega, by omega, by go_num, rfl, HN.out, HR2.out.below (by omega) hb3, HG.out.trans (grown_below hb3 _)⟩
        case measure => simp [intOf]; omega
    · obtain rfl : i = j := by omega
      clear hlt
      obtain ⟨wo, rfl⟩ : ∃ wo : World, wo = wr := ⟨_, rfl⟩
      obtain ⟨en, hen, hen1, hen2, hen3⟩ : ∃ en : Nat, (mid : Int) + (m : Int) - (i : Int) = (en : Int) ∧ mid ≤ en ∧ m ≤ en ∧ en ≤ b := ⟨mid + m - i, by omega, by omega, by omega, by omega⟩
      have HEN := Lib.hid (show mid + m - i = en by omega)
      have him : i ≤ m := by omega
      have himid : i ≤ mid := by omega
      obtain ⟨hBS, hR, hG⟩ := hh.out
      have HBS := Lib.hid hBS
      have HR2 := Lib.hid hR
      have HG := Lib.hid hG
      clear hBS hR hG hh
      by_cases hA1 : i < mid
      · by_cases hA2 : i < m
        · have hA3 : m < en := by omega
          have hA4 : mid < en := by omega
          go_wp2_with fail
          refine (rotate_at l0 i m en _ _ _ rfl rfl rfl _ rfl hA2 hA3 (by omega) hn g o c _ HR2.out).mono ?_
          rintro e w1 ⟨rfl, l1, h1, h2, h3⟩
          have HL1 := Lib.hid (halves_of HB.out ham hmb hbn HSL.out HSR.out HBS.out (by rw [HEN.out]; exact h1))
          have HR3 := Lib.hid h2
          have HG3 := Lib.hid (HG.out.trans h3)
          clear h1 h2 h3
          rw [HEN.out] at HL1
          by_cases hT2 : a < i
          · go_wp2_with fail
            refine (ih.out l1 a i mid _ _ _ _ rfl rfl rfl (HL1.out.ins.len) (by omega) hT2 hA1 (by omega) hn HL1.out.p1 HL1.out.p2 g o c _ HR3.out).mono ?_
            rintro e w2 ⟨rfl, l2, h1, h2, h3, h4⟩
            have HL2 := Lib.hid (show HalfD l0 a mid en b l2 from halves_first HL1.out (by omega) (by omega) (by omega) (by omega) hbn h1 h2)
            have HR4 := Lib.hid h3
            have HG4 := Lib.hid (HG3.out.trans h4)
            clear h1 h2 h3 h4
            by_cases hT3 : en < b
            · go_wp2_with fail
              refine (ih.out l2 mid en b _ _ _ _ rfl rfl rfl (HL2.out.1.len) (by omega) hA4 hT3 (by omega) hn HL2.out.2.2.1 HL2.out.2.2.2.1 g o c _ HR4.out).mono ?_
              rintro e w3 ⟨rfl, l3, h1, h2, h3, h4⟩
              have HL3 := Lib.hid (halves_second HL2.out.1 HL2.out.2.1 HL2.out.2.2.2.2 (by omega) (by omega) hbn h1 h2)
              have HR5 := Lib.hid h3
              have HG5 := Lib.hid (HG4.out.trans h4)
              clear h1 h2 h3 h4
              go_wp2
              go_end0
              exact ⟨rfl, l3, HL3.out.1, HL3.out.2, HR5.out, HG5.out⟩
            · go_wp2
              go_end0
              have h := half_end HL2.out (by omega) (by omega) (by omega) (by omega) hbn
              exact ⟨rfl, l2, h.1, h.2, HR4.out, HG4.out⟩
          · have HL2 := Lib.hid (half_none HL1.out (by omega) (by omega) (by omega) (by omega) hbn (by omega))
            by_cases hT3 : en < b
            · go_wp2_with fail
              refine (ih.out l1 mid en b _ _ _ _ rfl rfl rfl (HL2.out.1.len) (by omega) hA4 hT3 (by omega) hn HL2.out.2.2.1 HL2.out.2.2.2.1 g o c _ HR3.out).mono ?_
              rintro e w3 ⟨rfl, l3, h1, h2, h3, h4⟩
              have HL3 := Lib.hid (halves_second HL2.out.1 HL2.out.2.1 HL2.out.2.2.2.2 (by omega) (by omega) hbn h1 h2)
              have HR5 := Lib.hid h3
              have HG5 := Lib.hid (HG3.out.trans h4)
              clear h1 h2 h3 h4
              go_wp2
              go_end0
              exact ⟨rfl, l3, HL3.out.1, HL3.out.2, HR5.out, HG5.out⟩
            · go_wp2
              go_end0
              have h := half_end HL2.out (by omega) (by omega) (by omega) (by omega) hbn
              exact ⟨rfl, l1, h.1, h.2, HR3.out, HG3.out⟩
        · have HL1 := Lib.hid (halves_of HB.out ham hmb hbn HSL.out HSR.out HBS.out (rotIx_none (by omega) (by omega) (by omega)))
          rw [HEN.out] at HL1
          have hT2 : a < i := by omega
          have hA4 : ¬ mid < en := by omega
          go_wp2_with fail
          refine (ih.out l0 a i mid _ _ _ _ rfl rfl rfl (HL1.out.ins.len) (by omega) hT2 hA1 (by omega) hn HL1.out.p1 HL1.out.p2 g o c _ HR2.out).mono ?_
          rintro e w2 ⟨rfl, l2, h1, h2, h3, h4⟩
          have HL2 := Lib.hid (show HalfD l0 a mid en b l2 from halves_first HL1.out (by omega) (by omega) (by omega) (by omega) hbn h1 h2)
          have HR4 := Lib.hid h3
          have HG4 := Lib.hid (HG.out.trans h4)
          clear h1 h2 h3 h4
          go_wp2
          go_end0
          have h := half_end HL2.out (by omega) (by omega) (by omega) (by omega) hbn
          exact ⟨rfl, l2, h.1, h.2, HR4.out, HG4.out⟩
      · have HL1 := Lib.hid (halves_of HB.out ham hmb hbn HSL.out HSR.out HBS.out (rotIx_none (by omega) (by omega) (by omega)))
        rw [HEN.out] at HL1
        have hT0 : a < i := by omega
        have hA3 : ¬ m < en := by omega
        have hT4 : en < b := by omega
        have HL2 := Lib.hid (half_none HL1.out (by omega) (by omega) (by omega) (by omega) hbn (by omega))
        by_cases hA2 : i < m
        · have hA4 : mid < en := by omega
          go_wp2_with fail
          refine (ih.out l0 mid en b _ _ _ _ rfl rfl rfl (HL2.out.1.len) (by omega) hA4 hT4 (by omega) hn HL2.out.2.2.1 HL2.out.2.2.2.1 g o c _ HR2.out).mono ?_
          rintro e w3 ⟨rfl, l3, h1, h2, h3, h4⟩
          have HL3 := Lib.hid (halves_second HL2.out.1 HL2.out.2.1 HL2.out.2.2.2.2 (by omega) (by omega) hbn h1 h2)
          have HR5 := Lib.hid h3
          have HG5 := Lib.hid (HG.out.trans h4)
          clear h1 h2 h3 h4
          go_wp2
          go_end0
          exact ⟨rfl, l3, HL3.out.1, HL3.out.2, HR5.out, HG5.out⟩
        · have hA4 : ¬ mid < en := by omega
          go_wp2
          go_end0
          have h := half_end HL2.out (by omega) (by omega) (by omega) (by omega) hbn
          exact ⟨rfl, l0, h.1, h.2, HR2.out, HG.out⟩
set_option maxHeartbeats 4000000 in
set_option maxRecDepth 100000 in
theorem symMerge_stepR (N : Nat) (ih : Hid (SymSaid N)) (l0 : List Pt) (a m b mid s0 r0 : Nat) (hN : b - a ≤ N + 1) (_hm : ¬ m - a = 1) (_hm2 : ¬ b - m = 1) (hmE : mid = (a + b) / 2) (hB : Bnd a m b mid s0 r0) (hc : ¬ mid < m) (hs0' : s0 = a ∧ True) (hr0 : r0 = m) (ham : a < m) (hmb : m < b) (hbn : b ≤ l0.length) (hn : l0.length ≤ 1000000) (hsl : SortedOn l0 a m) (hsr : SortedOn l0 m b) (g o c : Nat) (w : World) (hr : RowR w g o l0) :
    Calls Tryd.prog 80 #[.slice (some ⟨g, o, none⟩) l0.length c, .int .i64 a, .int .i64 m, .int .i64 b, cmpF] w (SortPost l0 a b g o w) := by
  have HR := Lib.hid hr
  have HSL := Lib.hid hsl
  have HSR := Lib.hid hsr
  have hm1 : ((m : Int) - (a : Int) == 1) = false := by rw [beq_eq_false_iff_ne]; omega
  have hm3 : ((b : Int) - (m : Int) == 1) = false := by rw [beq_eq_false_iff_ne]; omega
  have hme : ((a : Int) + (b : Int)) / 2 = (mid : Int) := by omega
  have hmid1 : a < mid := by omega
  have hmid2 : mid < b := by omega
  obtain ⟨hs0, hge⟩ := hs0'
  have HS0 := Lib.hid hs0
  have HR0 := Lib.hid hr0
  clear hr hsl hsr _hm _hm2 hmE
  have HB := Lib.hid hB
  obtain ⟨b1, b2, b3, b4, b5, b6, b7⟩ := hB
  clear b6 b7 hs0 hr0
  go_enter Tryd.func80, Tryd.ntmps80
  go_wp2
  clear hme
  go_loopw [20, 21] (fun s20 s21 wr => ∃ i j : Nat, i ≤ j ∧ s0 ≤ i ∧ j ≤ r0 ∧ s20 = .int .i64 i ∧ s21 = .int .i64 j ∧ Hid (BS (G3 l0 (mid + m - 1)) s0 r0 i j ∧ RowG l0 g o w wr)) (fun s20 s21 _ => (intOf s21).toNat - (intOf s20).toNat)
  case atStart => exact ⟨s0, r0, by omega, by omega, by omega, by rw [HS0.out]; try go_num, by rw [HR0.out], bs_start _ (by omega), HR.out, grown_refl _ _⟩
  case round =>
    obtain ⟨i, j, hij, hmi, hjb, rfl, rfl, hh⟩ := hrel
    by_cases hlt : i < j
    · obtain ⟨wo, rfl⟩ : ∃ wo : World, wo = wr := ⟨_, rfl⟩
      obtain ⟨hBS, hR, hG⟩ := hh.out
      obtain ⟨h, hh1, hh2, hhe⟩ : ∃ h : Nat, i ≤ h ∧ h < j ∧ ((i : Int) + (j : Int)) / 2 = (h : Int) := ⟨(i + j) / 2, by omega, by omega, by omega⟩
      obtain ⟨q, hqe, hq1, hq2⟩ : ∃ q : Nat, q + h + 1 = mid + m ∧ m ≤ q ∧ q < b := ⟨mid + m - 1 - h, by omega, by omega, by omega⟩
      have hi1 : q < l0.length := by omega
      have hi0 : h < l0.length := by omega
      obtain ⟨c0, c1, c2, c3, c4, c5, c6, c7, c8, c9, c10⟩ := hR.at_ hi1
      obtain ⟨d0, d1, d2, d3, d4, d5, d6, d7, d8, d9, d10⟩ := hR.at_ hi0
      have hgz := lt_of_cell c0
      simp only at hgz
      have b1' : (0 : Int) ≤ (h : Int) := by omega
      have b2' : (h : Int) < (l0.length : Int) := by omega
      have HPQ := Lib.hid (show mid + m - 1 - h = q by omega)
      have HBS := Lib.hid hBS
      have HR2 := Lib.hid hR
      have HG := Lib.hid hG
      have HG3 := Lib.hid (g3_mono (p := mid + m - 1) (s0 := s0) (r0 := r0) HSL.out HSR.out b1 b3 (by omega) (by omega))
      have b3' : (mid : Int) + (m : Int) - 1 - (h : Int) = (q : Int) := by omega
      have b4' : (0 : Int) ≤ (q : Int) := by omega
      have b5' : (q : Int) < (l0.length : Int) := by omega
      have b6' : IntKind.i64.wrap (q : Int) = (q : Int) := IntWalk.i64_in _ (by omega)
      clear hBS hR hG hh hqe
      by_cases hcc : l0[q].at_ < l0[h].at_
      · have hcd := cmpI_neg hcc
        have HN := Lib.hid (bs_no HBS.out HG3.out hh1 hh2 (show ¬ G3 l0 (mid + m - 1) h by unfold G3; rw [HPQ.out, tm_eq hi1, tm_eq hi0]; omega))
        go_wp2
        refine wp_region_held_drew (S := (fun w' => (w'.cell? ⟨g, o + q * 11, none⟩ = some (.int .i64 l0[q].at_) ∧ w'.cell? ⟨g, o + q * 11 + 1, none⟩ = some (.int .i64 l0[q].kind) ∧ w'.cell? ⟨g, o + q * 11 + 2, none⟩ = some (.int .i64 l0[q].tbl) ∧ w'.cell? ⟨g, o + q * 11 + 3, none⟩ = some (.int .i64 l0[q].wri) ∧ w'.cell? ⟨g, o + q * 11 + 4, none⟩ = some (.int .i64 l0[q].rdr) ∧ w'.cell? ⟨g, o + q * 11 + 5, none⟩ = some (.int .i64 l0[q].idx) ∧ w'.cell? ⟨g, o + q * 11 + 6, none⟩ = some (.int .i64 l0[q].tok) ∧ w'.cell? ⟨g, o + q * 11 + 7, none⟩ = some (.int .i64 l0[q].rnd) ∧ w'.cell? ⟨g, o + q * 11 + 8, none⟩ = some (.int .i64 l0[q].rep) ∧ w'.cell? ⟨g, o + q * 11 + 9, none⟩ = some (.int .i64 l0[q].ver) ∧ w'.cell? ⟨g, o + q * 11 + 10, none⟩ = some (.int .i64 l0[q].hol)) ∧ (w'.cell? ⟨g, o + h * 11, none⟩ = some (.int .i64 l0[h].at_) ∧ w'.cell? ⟨g, o + h * 11 + 1, none⟩ = some (.int .i64 l0[h].kind) ∧ w'.cell? ⟨g, o + h * 11 + 2, none⟩ = some (.int .i64 l0[h].tbl) ∧ w'.cell? ⟨g, o + h * 11 + 3, none⟩ = some (.int .i64 l0[h].wri) ∧ w'.cell? ⟨g, o + h * 11 + 4, none⟩ = some (.int .i64 l0[h].rdr) ∧ w'.cell? ⟨g, o + h * 11 + 5, none⟩ = some (.int .i64 l0[h].idx) ∧ w'.cell? ⟨g, o + h * 11 + 6, none⟩ = some (.int .i64 l0[h].tok) ∧ w'.cell? ⟨g, o + h * 11 + 7, none⟩ = some (.int .i64 l0[h].rnd) ∧ w'.cell? ⟨g, o + h * 11 + 8, none⟩ = some (.int .i64 l0[h].rep) ∧ w'.cell? ⟨g, o + h * 11 + 9, none⟩ = some (.int .i64 l0[h].ver) ∧ w'.cell? ⟨g, o + h * 11 + 10, none⟩ = some (.int .i64 l0[h].hol)))) (by kernel_rfl) ?_ (fun hHeld => ?_)
        · (try dsimp only); go_keep
        refine wpAnyH_take (i := 0) (v := ?v26) rfl (by kernel_rfl) (by kernel_rfl) (by kernel_rfl) (fun _ _ _ h => h) (Or.inl ⟨by rfl, ?hy26⟩) hHeld ?_
        case hy26 => (intro w hSw; (try dsimp only at hSw); go_simp; try with_reducible rfl)
        (try simp only [Act.put, List.setIfInBounds_toArray, List.set_cons_zero, List.set_cons_succ, List.getElem_toArray, List.getElem_cons_zero])
        refine wpAnyH_take (i := 1) (v := ?v27) rfl (by kernel_rfl) (by kernel_rfl) (by kernel_rfl) (fun _ _ _ h => h) (Or.inl ⟨by rfl, ?hy27⟩) hHeld ?_
        case hy27 => (intro w hSw; (try dsimp only at hSw); go_simp; try with_reducible rfl)
        (try simp only [Act.put, List.setIfInBounds_toArray, List.set_cons_zero, List.set_cons_succ, List.getElem_toArray, List.getElem_cons_zero, List.getElem_cons_succ])
        refine wpAnyH_take (i := 2) (v := ?v28) rfl (by kernel_rfl) (by kernel_rfl) (by kernel_rfl) (fun _ _ _ h => h) (Or.inl ⟨by rfl, ?hy28⟩) hHeld ?_
        case hy28 => (intro w hSw; (try dsimp only at hSw); go_simp; try with_reducible rfl)
        (try simp only [Act.put, List.setIfInBounds_toArray, List.set_cons_zero, List.set_cons_succ, List.getElem_toArray, List.getElem_cons_zero, List.getElem_cons_succ])
        refine wpAnyH_take (i := 3) (v := ?v29) rfl (by kernel_rfl) (by kernel_rfl) (by kernel_rfl) (fun _ _ _ h => h) (Or.inl ⟨by rfl, ?hy29⟩) hHeld ?_
        case hy29 => (intro w hSw; (try dsimp only at hSw); go_simp; try with_reducible rfl)
        (try simp only [Act.put, List.setIfInBounds_toArray, List.set_cons_zero, List.set_cons_succ, List.getElem_toArray, List.getElem_cons_zero, List.getElem_cons_succ])
        refine wpAnyH_take (i := 4) (v := ?v30) rfl (by kernel_rfl) (by kernel_rfl) (by kernel_rfl) (fun _ _ _ h => h) (Or.inl ⟨by rfl, ?hy30⟩) hHeld ?_
        case hy30 => (intro w hSw; (try dsimp only at hSw); go_simp; try with_reducible rfl)
        (try simp only [Act.put, List.setIfInBounds_toArray, List.set_cons_zero, List.set_cons_succ, List.getElem_toArray, List.getElem_cons_zero, List.getElem_cons_succ])
        refine wpAnyH_take (i := 5) (v := ?v31) rfl (by kernel_rfl) (by kernel_rfl) (by kernel_rfl) (fun _ _ _ h => h) (Or.inl ⟨by rfl, ?hy31⟩) hHeld ?_
        case hy31 => (intro w hSw; (try dsimp only at hSw); go_simp; try with_reducible rfl)
        (try simp only [Act.put, List.setIfInBounds_toArray, List.set_cons_zero, List.set_cons_succ, List.getElem_toArray, List.getElem_cons_zero, List.getElem_cons_succ])
        refine wpAnyH_take (i := 6) (v := ?v32) rfl (by kernel_rfl) (by kernel_rfl) (by kernel_rfl) (fun _ _ _ h => h) (Or.inl ⟨by rfl, ?hy32⟩) hHeld ?_
        case hy32 => (intro w hSw; (try dsimp only at hSw); go_simp; try with_reducible rfl)
        (try simp only [Act.put, List.setIfInBounds_toArray, List.set_cons_zero, List.set_cons_succ, List.getElem_toArray, List.getElem_cons_zero, List.getElem_cons_succ])
        refine wpAnyH_take (i := 7) (v := ?v33) rfl (by kernel_rfl) (by kernel_rfl) (by kernel_rfl) (fun _ _ _ h => h) (Or.inl ⟨by rfl, ?hy33⟩) hHeld ?_
        case hy33 => (intro w hSw; (try dsimp only at hSw); go_simp; try with_reducible rfl)
        (try simp only [Act.put, List.setIfInBounds_toArray, List.set_cons_zero, List.set_cons_succ, List.getElem_toArray, List.getElem_cons_zero, List.getElem_cons_succ])
        refine wpAnyH_take (i := 8) (v := ?v34) rfl (by kernel_rfl) (by kernel_rfl) (by kernel_rfl) (fun _ _ _ h => h) (Or.inl ⟨by rfl, ?hy34⟩) hHeld ?_
        case hy34 => (intro w hSw; (try dsimp only at hSw); go_simp; try with_reducible rfl)
        (try simp only [Act.put, List.setIfInBounds_toArray, List.set_cons_zero, List.set_cons_succ, List.getElem_toArray, List.getElem_cons_zero, List.getElem_cons_succ])
        refine wpAnyH_take (i := 9) (v := ?v35) rfl (by kernel_rfl) (by kernel_rfl) (by kernel_rfl) (fun _ _ _ h => h) (Or.inl ⟨by rfl, ?hy35⟩) hHeld ?_
        case hy35 => (intro w hSw; (try dsimp only at hSw); go_simp; try with_reducible rfl)
        (try simp only [Act.put, List.setIfInBounds_toArray, List.set_cons_zero, List.set_cons_succ, List.getElem_toArray, List.getElem_cons_zero, List.getElem_cons_succ])
        refine wpAnyH_take (i := 10) (v := ?v36) rfl (by kernel_rfl) (by kernel_rfl) (by kernel_rfl) (fun _ _ _ h => h) (Or.inl ⟨by rfl, ?hy36⟩) hHeld ?_
        case hy36 => (intro w hSw; (try dsimp only at hSw); go_simp; try with_reducible rfl)
        (try simp only [Act.put, List.setIfInBounds_toArray, List.set_cons_zero, List.set_cons_succ, List.getElem_toArray, List.getElem_cons_zero, List.getElem_cons_succ])
        refine wpAnyH_ready (rs := [11]) (by kernel_rfl) (by simp) ?_
        refine (AllReadyH.cons rfl (fun K hK => ?_) AllReadyH.nil)
        go_simp
        (refine (cmpPt_any l0[q] l0[h] _).mono ?_; rintro e w3 ⟨rfl, hb3⟩; replace hb3 := undrew hb3; have hc3 := bcell hb3)
        refine hK.out _ _ ?_ (fun hHeld => ?_)
        · (try dsimp only); go_keep
        clear hK K
        (try simp only [Act.put, List.setIfInBounds_toArray, List.set_cons_zero, List.set_cons_succ, List.getElem_toArray, List.getElem_cons_zero, List.getElem_cons_succ])
        refine wpAnyH_take (i := 12) (v := ?v37) rfl (by kernel_rfl) (by kernel_rfl) (by kernel_rfl) (fun _ _ _ h => h) (Or.inl ⟨by rfl, ?hy37⟩) hHeld ?_
        case hy37 => (intro w hSw; (try dsimp only at hSw); go_simp; try with_reducible rfl)
        (try simp only [Act.put, List.setIfInBounds_toArray, List.set_cons_zero, List.set_cons_succ, List.getElem_toArray, List.getElem_cons_zero, List.getElem_cons_succ])
        refine wpAnyH_take (i := 13) (v := ?v38) rfl (by kernel_rfl) (by kernel_rfl) (by kernel_rfl) (fun _ _ _ h => h) (Or.inl ⟨by rfl, ?hy38⟩) hHeld ?_
        case hy38 => (intro w hSw; (try dsimp only at hSw); go_simp; try with_reducible rfl)
        (try simp only [Act.put, List.setIfInBounds_toArray, List.set_cons_zero, List.set_cons_succ, List.getElem_toArray, List.getElem_cons_zero, List.getElem_cons_succ])
        refine wpAnyH_done (by kernel_rfl) ?_ _
        go_wp2
        go_roundw
        case rel => exact ⟨i, h, by omega, by omega, by omega, rfl, rfl, HN.out, HR2.out.below (by omega) hb3, HG.out.trans (grown_below hb3 _)⟩
        case measure => simp [intOf]; omega
      · have hcd := cmpI_nneg hcc
        have HN := Lib.hid (bs_yes HBS.out HG3.out hh1 hh2 (show G3 l0 (mid + m - 1) h by unfold G3; rw [HPQ.out, tm_eq hi1, tm_eq hi0]; omega))
        go_wp2
        refine wp_region_held_drew (S := (fun w' => (w'.cell? ⟨g, o + q * 11, none⟩ = some (.int .i64 l0[q].at_) ∧ w'.cell? ⟨g, o + q * 11 + 1, none⟩ = some (.int .i64 l0[q].kind) ∧ w'.cell? ⟨g, o + q * 11 + 2, none⟩ = some (.int .i64 l0[q].tbl) ∧ w'.cell? ⟨g, o + q * 11 + 3, none⟩ = some (.int .i64 l0[q].wri) ∧ w'.cell? ⟨g, o + q * 11 + 4, none⟩ = some (.int .i64 l0[q].rdr) ∧ w'.cell? ⟨g, o + q * 11 + 5, none⟩ = some (.int .i64 l0[q].idx) ∧ w'.cell? ⟨g, o + q * 11 + 6, none⟩ = some (.int .i64 l0[q].tok) ∧ w'.cell? ⟨g, o + q * 11 + 7, none⟩ = some (.int .i64 l0[q].rnd) ∧ w'.cell? ⟨g, o + q * 11 + 8, none⟩ = some (.int .i64 l0[q].rep) ∧ w'.cell? ⟨g, o + q * 11 + 9, none⟩ = some (.int .i64 l0[q].ver) ∧ w'.cell? ⟨g, o + q * 11 + 10, none⟩ = some (.int .i64 l0[q].hol)) ∧ (w'.cell? ⟨g, o + h * 11, none⟩ = some (.int .i64 l0[h].at_) ∧ w'.cell? ⟨g, o + h * 11 + 1, none⟩ = some (.int .i64 l0[h].kind) ∧ w'.cell? ⟨g, o + h * 11 + 2, none⟩ = some (.int .i64 l0[h].tbl) ∧ w'.cell? ⟨g, o + h * 11 + 3, none⟩ = some (.int .i64 l0[h].wri) ∧ w'.cell? ⟨g, o + h * 11 + 4, none⟩ = some (.int .i64 l0[h].rdr) ∧ w'.cell? ⟨g, o + h * 11 + 5, none⟩ = some (.int .i64 l0[h].idx) ∧ w'.cell? ⟨g, o + h * 11 + 6, none⟩ = some (.int .i64 l0[h].tok) ∧ w'.cell? ⟨g, o + h * 11 + 7, none⟩ = some (.int .i64 l0[h].rnd) ∧ w'.cell? ⟨g, o + h * 11 + 8, none⟩ = some (.int .i64 l0[h].rep) ∧ w'.cell? ⟨g, o + h * 11 + 9, none⟩ = some (.int .i64 l0[h].ver) ∧ w'.cell? ⟨g, o + h * 11 + 10, none⟩ = some (.int .i64 l0[h].hol)))) (by kernel_rfl) ?_ (fun hHeld => ?_)
        · (try dsimp only); go_keep
        refine wpAnyH_take (i := 0) (v := ?v39) rfl (by kernel_rfl) (by kernel_rfl) (by kernel_rfl) (fun _ _ _ h => h) (Or.inl ⟨by rfl, ?hy39⟩) hHeld ?_
        case hy39 => (intro w hSw; (try dsimp only at hSw); go_simp; try with_reducible rfl)
        (try simp only [Act.put, List.setIfInBounds_toArray, List.set_cons_zero, List.set_cons_succ, List.getElem_toArray, List.getElem_cons_zero])
        refine wpAnyH_take (i := 1) (v := ?v40) rfl (by kernel_rfl) (by kernel_rfl) (by kernel_rfl) (fun _ _ _ h => h) (Or.inl ⟨by rfl, ?hy40⟩) hHeld ?_
        case hy40 => (intro w hSw; (try dsimp only at hSw); go_simp; try with_reducible rfl)
        (try simp only [Act.put, List.setIfInBounds_toArray, List.set_cons_zero, List.set_cons_succ, List.getElem_toArray, List.getElem_cons_zero, List.getElem_cons_succ])
        refine wpAnyH_take (i := 2) (v := ?v41) rfl (by kernel_rfl) (by kernel_rfl) (by kernel_rfl) (fun _ _ _ h => h) (Or.inl ⟨by rfl, ?hy41⟩) hHeld ?_
        case hy41 => (intro w hSw; (try dsimp only at hSw); go_simp; try with_reducible rfl)
        (try simp only [Act.put, List.setIfInBounds_toArray, List.set_cons_zero, List.set_cons_succ, List.getElem_toArray, List.getElem_cons_zero, List.getElem_cons_succ])
        refine wpAnyH_take (i := 3) (v := ?v42) rfl (by kernel_rfl) (by kernel_rfl) (by kernel_rfl) (fun _ _ _ h => h) (Or.inl ⟨by rfl, ?hy42⟩) hHeld ?_
        case hy42 => (intro w hSw; (try dsimp only at hSw); go_simp; try with_reducible rfl)
        (try simp only [Act.put, List.setIfInBounds_toArray, List.set_cons_zero, List.set_cons_succ, List.getElem_toArray, List.getElem_cons_zero, List.getElem_cons_succ])
        refine wpAnyH_take (i := 4) (v := ?v43) rfl (by kernel_rfl) (by kernel_rfl) (by kernel_rfl) (fun _ _ _ h => h) (Or.inl ⟨by rfl, ?hy43⟩) hHeld ?_
        case hy43 => (intro w hSw; (try dsimp only at hSw); go_simp; try with_reducible rfl)
        (try simp only [Act.put, List.setIfInBounds_toArray, List.set_cons_zero, List.set_cons_succ, List.getElem_toArray, List.getElem_cons_zero, List.getElem_cons_succ])
        refine wpAnyH_take (i := 5) (v := ?v44) rfl (by kernel_rfl) (by kernel_rfl) (by kernel_rfl) (fun _ _ _ h => h) (Or.inl ⟨by rfl, ?hy44⟩) hHeld ?_
        case hy44 => (intro w hSw; (try dsimp only at hSw); go_simp; try with_reducible rfl)
        (try simp only [Act.put, List.setIfInBounds_toArray, List.set_cons_zero, List.set_cons_succ, List.getElem_toArray, List.getElem_cons_zero, List.getElem_cons_succ])
        refine wpAnyH_take (i := 6) (v := ?v45) rfl (by kernel_rfl) (by kernel_rfl) (by kernel_rfl) (fun _ _ _ h => h) (Or.inl ⟨by rfl, ?hy45⟩) hHeld ?_
        case hy45 => (intro w hSw; (try dsimp only at hSw); go_simp; try with_reducible rfl)
        (try simp only [Act.put, List.setIfInBounds_toArray, List.set_cons_zero, List.set_cons_succ, List.getElem_toArray, List.getElem_cons_zero, List.getElem_cons_succ])
        refine wpAnyH_take (i := 7) (v := ?v46) rfl (by kernel_rfl) (by kernel_rfl) (by kernel_rfl) (fun _ _ _ h => h) (Or.inl ⟨by rfl, ?hy46⟩) hHeld ?_
        case hy46 => (intro w hSw; (try dsimp only at hSw); go_simp; try with_reducible rfl)
        (try simp only [Act.put, List.setIfInBounds_toArray, List.set_cons_zero, List.set_cons_succ, List.getElem_toArray, List.getElem_cons_zero, List.getElem_cons_succ])
        refine wpAnyH_take (i := 8) (v := ?v47) rfl (by kernel_rfl) (by kernel_rfl) (by kernel_rfl) (fun _ _ _ h => h) (Or.inl ⟨by rfl, ?hy47⟩) hHeld ?_
        case hy47 => (intro w hSw; (try dsimp only at hSw); go_simp; try with_reducible rfl)
        (try simp only [Act.put, List.setIfInBounds_toArray, List.set_cons_zero, List.set_cons_succ, List.getElem_toArray, List.getElem_cons_zero, List.getElem_cons_succ])
        refine wpAnyH_take (i := 9) (v := ?v48) rfl (by kernel_rfl) (by kernel_rfl) (by kernel_rfl) (fun _ _ _ h => h) (Or.inl ⟨by rfl, ?hy48⟩) hHeld ?_
        case hy48 => (intro w hSw; (try dsimp only at hSw); go_simp; try with_reducible rfl)
        (try simp only [Act.put, List.setIfInBounds_toArray, List.set_cons_zero, List.set_cons_succ, List.getElem_toArray, List.getElem_cons_zero, List.getElem_cons_succ])
        refine wpAnyH_take (i := 10) (v := ?v49) rfl (by kernel_rfl) (by kernel_rfl) (by kernel_rfl) (fun _ _ _ h => h) (Or.inl ⟨by rfl, ?hy49⟩) hHeld ?_
        case hy49 => (intro w hSw; (try dsimp only at hSw); go_simp; try with_reducible rfl)
        (try simp only [Act.put, List.setIfInBounds_toArray, List.set_cons_zero, List.set_cons_succ, List.getElem_toArray, List.getElem_cons_zero, List.getElem_cons_succ])
        refine wpAnyH_ready (rs := [11]) (by kernel_rfl) (by simp) ?_
        refine (AllReadyH.cons rfl (fun K hK => ?_) AllReadyH.nil)
        go_simp
        (refine (cmpPt_any l0[q] l0[h] _).mono ?_; rintro e w3 ⟨rfl, hb3⟩; replace hb3 := undrew hb3; have hc3 := bcell hb3)
        refine hK.out _ _ ?_ (fun hHeld => ?_)
        · (try dsimp only); go_keep
        clear hK K
        (try simp only [Act.put, List.setIfInBounds_toArray, List.set_cons_zero, List.set_cons_succ, List.getElem_toArray, List.getElem_cons_zero, List.getElem_cons_succ])
        refine wpAnyH_take (i := 12) (v := ?v50) rfl (by kernel_rfl) (by kernel_rfl) (by kernel_rfl) (fun _ _ _ h => h) (Or.inl ⟨by rfl, ?hy50⟩) hHeld ?_
        case hy50 => (intro w hSw; (try dsimp only at hSw); go_simp; try with_reducible rfl)
        (try simp only [Act.put, List.setIfInBounds_toArray, List.set_cons_zero, List.set_cons_succ, List.getElem_toArray, List.getElem_cons_zero, List.getElem_cons_succ])
        refine wpAnyH_take (i := 13) (v := ?v51) rfl (by kernel_rfl) (by kernel_rfl) (by kernel_rfl) (fun _ _ _ h => h) (Or.inl ⟨by rfl, ?hy51⟩) hHeld ?_
        case hy51 => (intro w hSw; (try dsimp only at hSw); go_simp; try with_reducible rfl)
        (try simp only [Act.put, List.setIfInBounds_toArray, List.set_cons_zero, List.set_cons_succ, List.getElem_toArray, List.getElem_cons_zero, List.getElem_cons_succ])
        refine wpAnyH_done (by kernel_rfl) ?_ _
        go_wp2
        go_roundw
        case rel => exact ⟨h + 1, j, by omega, by omega, by omega, by go_num, rfl, HN.out, HR2.out.below (by omega) hb3, HG.out.trans (grown_below hb3 _)⟩
        case measure => simp [intOf]; omega
    · obtain rfl : i = j := by omega
      clear hlt
      obtain ⟨wo, rfl⟩ : ∃ wo : World, wo = wr := ⟨_, rfl⟩
      obtain ⟨en, hen, hen1, hen2, hen3⟩ : ∃ en : Nat, (mid : Int) + (m : Int) - (i : Int) = (en : Int) ∧ mid ≤ en ∧ m ≤ en ∧ en ≤ b := ⟨mid + m - i, by omega, by omega, by omega, by omega⟩
      have HEN := Lib.hid (show mid + m - i = en by omega)
      have him : i ≤ m := by omega
      have himid : i ≤ mid := by omega
      obtain ⟨hBS, hR, hG⟩ := hh.out
      have HBS := Lib.hid hBS
      have HR2 := Lib.hid hR
      have HG := Lib.hid hG
      clear hBS hR hG hh
      by_cases hA1 : i < mid
      · by_cases hA2 : i < m
        · have hA3 : m < en := by omega
          have hA4 : mid < en := by omega
          go_wp2_with fail
          refine (rotate_at l0 i m en _ _ _ rfl rfl rfl _ rfl hA2 hA3 (by omega) hn g o c _ HR2.out).mono ?_
          rintro e w1 ⟨rfl, l1, h1, h2, h3⟩
          have HL1 := Lib.hid (halves_of HB.out ham hmb hbn HSL.out HSR.out HBS.out (by rw [HEN.out]; exact h1))
          have HR3 := Lib.hid h2
          have HG3 := Lib.hid (HG.out.trans h3)
          clear h1 h2 h3
          rw [HEN.out] at HL1
          by_cases hT2 : a < i
          · go_wp2_with fail
            refine (ih.out l1 a i mid _ _ _ _ rfl rfl rfl (HL1.out.ins.len) (by omega) hT2 hA1 (by omega) hn HL1.out.p1 HL1.out.p2 g o c _ HR3.out).mono ?_
            rintro e w2 ⟨rfl, l2, h1, h2, h3, h4⟩
            have HL2 := Lib.hid (show HalfD l0 a mid en b l2 from halves_first HL1.out (by omega) (by omega) (by omega) (by omega) hbn h1 h2)
            have HR4 := Lib.hid h3
            have HG4 := Lib.hid (HG3.out.trans h4)
            clear h1 h2 h3 h4
            by_cases hT3 : en < b
            · go_wp2_with fail
              refine (ih.out l2 mid en b _ _ _ _ rfl rfl rfl (HL2.out.1.len) (by omega) hA4 hT3 (by omega) hn HL2.out.2.2.1 HL2.out.2.2.2.1 g o c _ HR4.out).mono ?_
              rintro e w3 ⟨rfl, l3, h1, h2, h3, h4⟩
              have HL3 := Lib.hid (halves_second HL2.out.1 HL2.out.2.1 HL2.out.2.2.2.2 (by omega) (by omega) hbn h1 h2)
              have HR5 := Lib.hid h3
              have HG5 := Lib.hid (HG4.out.trans h4)
              clear h1 h2 h3 h4
              go_wp2
              go_end0
              exact ⟨rfl, l3, HL3.out.1, HL3.out.2, HR5.out, HG5.out⟩
            · go_wp2
              go_end0
              have h := half_end HL2.out (by omega) (by omega) (by omega) (by omega) hbn
              exact ⟨rfl, l2, h.1, h.2, HR4.out, HG4.out⟩
          · have HL2 := Lib.hid (half_none HL1.out (by omega) (by omega) (by omega) (by omega) hbn (by omega))
            by_cases hT3 : en < b
            · go_wp2_with fail
              refine (ih.out l1 mid en b _ _ _ _ rfl rfl rfl (HL2.out.1.len) (by omega) hA4 hT3 (by omega) hn HL2.out.2.2.1 HL2.out.2.2.2.1 g o c _ HR3.out).mono ?_
              rintro e w3 ⟨rfl, l3, h1, h2, h3, h4⟩
              have HL3 := Lib.hid (halves_second HL2.out.1 HL2.out.2.1 HL2.out.2.2.2.2 (by omega) (by omega) hbn h1 h2)
              have HR5 := Lib.hid h3
              have HG5 := Lib.hid (HG3.out.trans h4)
              clear h1 h2 h3 h4
              go_wp2
              go_end0
              exact ⟨rfl, l3, HL3.out.1, HL3.out.2, HR5.out, HG5.out⟩
            · go_wp2
              go_end0
              have h := half_end HL2.out (by omega) (by omega) (by omega) (by omega) hbn
              exact ⟨rfl, l1, h.1, h.2, HR3.out, HG3.out⟩
        · have HL1 := Lib.hid (halves_of HB.out ham hmb hbn HSL.out HSR.out HBS.out (rotIx_none (by omega) (by omega) (by omega)))
          rw [HEN.out] at HL1
          have hT2 : a < i := by omega
          have hA4 : ¬ mid < en := by omega
          go_wp2_with fail
          refine (ih.out l0 a i mid _ _ _ _ rfl rfl rfl (HL1.out.ins.len) (by omega) hT2 hA1 (by omega) hn HL1.out.p1 HL1.out.p2 g o c _ HR2.out).mono ?_
          rintro e w2 ⟨rfl, l2, h1, h2, h3, h4⟩
          have HL2 := Lib.hid (show HalfD l0 a mid en b l2 from halves_first HL1.out (by omega) (by omega) (by omega) (by omega) hbn h1 h2)
          have HR4 := Lib.hid h3
          have HG4 := Lib.hid (HG.out.trans h4)
          clear h1 h2 h3 h4
          go_wp2
          go_end0
          have h := half_end HL2.out (by omega) (by omega) (by omega) (by omega) hbn
          exact ⟨rfl, l2, h.1, h.2, HR4.out, HG4.out⟩
      · have HL1 := Lib.hid (halves_of HB.out ham hmb hbn HSL.out HSR.out HBS.out (rotIx_none (by omega) (by omega) (by omega)))
        rw [HEN.out] at HL1
        have hT0 : a < i := by omega
        have hA3 : ¬ m < en := by omega
        have hT4 : en < b := by omega
        have HL2 := Lib.hid (half_none HL1.out (by omega) (by omega) (by omega) (by omega) hbn (by omega))
        by_cases hA2 : i < m
        · have hA4 : mid < en := by omega
          go_wp2_with fail
          refine (ih.out l0 mid en b _ _ _ _ rfl rfl rfl (HL2.out.1.len) (by omega) hA4 hT4 (by omega) hn HL2.out.2.2.1 HL2.out.2.2.2.1 g o c _ HR2.out).mono ?_
          rintro e w3 ⟨rfl, l3, h1, h2, h3, h4⟩
          have HL3 := Lib.hid (halves_second HL2.out.1 HL2.out.2.1 HL2.out.2.2.2.2 (by omega) (by omega) hbn h1 h2)
          have HR5 := Lib.hid h3
          have HG5 := Lib.hid (HG.out.trans h4)
          clear h1 h2 h3 h4
          go_wp2
          go_end0
          exact ⟨rfl, l3, HL3.out.1, HL3.out.2, HR5.out, HG5.out⟩
        · have hA4 : ¬ mid < en := by omega
          go_wp2
          go_end0
          have h := half_end HL2.out (by omega) (by omega) (by omega) (by omega) hbn
          exact ⟨rfl, l0, h.1, h.2, HR2.out, HG.out⟩

theorem symMerge_said : ∀ N : Nat, SymSaid N := by
  intro N
  induction N with
  | zero => intro l0 a m b A M B L _ _ _ _ h1 h2 h3; omega
  | succ N ih =>
    intro l0 a m b A M B L hA hM hB hL hN ham hmb hbn hn hsl hsr g o c w hr
    subst hA hM hB hL
    by_cases hm : m - a = 1
    · exact symMerge_one l0 a m b hm ham hmb hbn hn hsr g o c w hr
    by_cases hm2 : b - m = 1
    · exact symMerge_two l0 a m b hm hm2 ham hmb hbn hn hsl g o c w hr
    by_cases hc : (a + b) / 2 < m
    · exact symMerge_stepL N ih l0 a m b ((a + b) / 2) _ _ hN hm hm2 rfl (bnd_left ham hmb hc) hc ⟨rfl, by omega⟩ rfl ham hmb hbn hn hsl hsr g o c w hr
    · exact symMerge_stepR N ih l0 a m b ((a + b) / 2) _ _ hN hm hm2 rfl (bnd_right ham hmb hc) hc ⟨rfl, trivial⟩ rfl ham hmb hbn hn hsl hsr g o c w hr
end Go.Proofs.YtcmnmcholfellaaDoor
