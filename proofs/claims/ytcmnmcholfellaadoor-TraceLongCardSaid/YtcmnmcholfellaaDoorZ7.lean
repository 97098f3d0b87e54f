/-
  Walks: the stable sort of many points.
-/
import Derived.Test.YtcmnmcholfellaaDoorZ6
import Derived.Test.YtcmnmcholfellaaDoorG1
namespace Go.Proofs.YtcmnmcholfellaaDoor
open Go.RowKit

theorem insertion_at (l0 : List Pt) (a b : Nat) (A B : Int) (hA : A = a) (hB : B = b) (L : Nat) (hL : l0.length = L) (hab : a ≤ b) (hbn : b ≤ L) (hn : L ≤ 1000000) (g o c : Nat) (w : World) (hr : RowR w g o l0) :
    Calls Tryd.prog 79 #[.slice (some ⟨g, o, none⟩) L c, .int .i64 A, .int .i64 B, cmpF] w (SortPost l0 a b g o w) := by
  subst hA hB hL; exact insertion_any l0 a b hab hbn hn g o c w hr

/-- So many runs of a length are sorted, in memory. -/
def RunM (l0 : List Pt) (bs : Nat) (l1 : List Pt) (g o : Nat) (w : World) (q x : Nat) (wr : World) : Prop := Ins l0 0 l0.length l1 ∧ ∃ l, x = q * bs ∧ RunSt l1 bs q l ∧ RowG l g o w wr

/-- All runs of a length are sorted, in memory. -/
def AllM (l0 : List Pt) (bs : Nat) (l : List Pt) (g o : Nat) (w wr : World) : Prop := Ins l0 0 l0.length l ∧ Runs l bs l0.length ∧ RowG l g o w wr

theorem Ins.wider0 {l m : List Pt} {a n : Nat} (h : Ins l a n m) : Ins l 0 n m := h.wider (Nat.zero_le _) (Nat.le_refl _)

set_option maxHeartbeats 4000000 in
set_option maxRecDepth 100000 in
theorem stableCmp_many (l0 : List Pt) (n : Nat) (hln : l0.length = n) (hn0 : 20 ≤ n) (hn : n ≤ 1000000) (g o c : Nat) (w : World) (hr : RowR w g o l0) :
    Calls Tryd.prog 63 #[.slice (some ⟨g, o, none⟩) n c, .int .i64 n, cmpF] w (StablePost l0 (some ⟨g, o, none⟩) w) := by
  have HR := Lib.hid hr
  have HL := Lib.hid hln
  clear hr hln
  go_enter Tryd.func63, Tryd.ntmps63
  go_wp2
  go_loopw [7, 8] (fun s7 s8 wr => ∃ q x : Nat, x ≤ n ∧ s7 = .int .i64 x ∧ s8 = .int .i64 ((x : Int) + 20) ∧ Hid (RunM l0 20 l0 g o w q x wr)) (fun s7 _ _ => n - (intOf s7).toNat)
  case atStart => exact ⟨0, 0, by omega, rfl, rfl, Ins.refl _ _ _, l0, rfl, run_start _ _, HR.out, grown_refl _ _⟩
  case round =>
    obtain ⟨q, x, hxn, rfl, rfl, hh⟩ := hrel
    obtain ⟨wo, rfl⟩ : ∃ wo : World, wo = wr := ⟨_, rfl⟩
    obtain ⟨h0, l, hx, hS, hR, hG⟩ := hh.out
    have HX := Lib.hid hx
    have HS := Lib.hid hS
    have HR2 := Lib.hid hR
    have HG := Lib.hid hG
    have HLL := Lib.hid (show l.length = n from hS.ins.len.trans HL.out)
    clear h0 hx hS hR hG hh
    by_cases hlt : x + 20 ≤ n
    · have hltI : (x : Int) + 20 ≤ (n : Int) := by omega
      go_wp2_with fail
      refine (insertion_at l x (x + 20) _ _ rfl (by omega) _ HLL.out (by omega) hlt hn g o c _ HR2.out).mono ?_
      rintro e w1 ⟨rfl, l1, h1, h2, h3, h4⟩
      have HS2 := Lib.hid (run_step (l' := l1) HS.out (by rw [← HX.out]; exact h1) (by rw [← HX.out]; exact h2))
      have HR3 := Lib.hid h3
      have HG3 := Lib.hid (HG.out.trans h4)
      clear h1 h2 h3 h4
      go_wp2
      go_roundw
      case rel => exact ⟨q + 1, x + 20, hlt, by go_num, by go_num, Ins.refl _ _ _, l1, by rw [HX.out]; omega, HS2.out, HR3.out, HG3.out⟩
      case measure => simp [intOf]; omega
    · have hltI : ¬ ((x : Int) + 20 ≤ (n : Int)) := by omega
      go_wp2_with fail
      refine (insertion_at l x n _ _ rfl rfl _ HLL.out hxn (Nat.le_refl _) hn g o c _ HR2.out).mono ?_
      rintro e w1 ⟨rfl, l1, h1, h2, h3, h4⟩
      have HA := Lib.hid (show AllM l0 20 l1 g o w w1 from ⟨by rw [HL.out]; exact (run_end (n := n) HS.out (by rw [← HX.out]; exact hxn) (by rw [← HX.out]; omega) (by rw [← HX.out]; exact h1) (by rw [← HX.out]; exact h2)).1, by rw [HL.out]; exact (run_end (n := n) HS.out (by rw [← HX.out]; exact hxn) (by rw [← HX.out]; omega) (by rw [← HX.out]; exact h1) (by rw [← HX.out]; exact h2)).2, h3, HG.out.trans h4⟩)
      clear h1 h2 h3 h4 HX HS HR2 HG HLL hlt hltI
      go_wp2
      go_loopw [6] (fun s6 wr => ∃ bs : Nat, 0 < bs ∧ bs ≤ 3000000 ∧ s6 = .int .i64 bs ∧ Hid (∃ l, AllM l0 bs l g o w wr)) (fun s6 _ => n - (intOf s6).toNat)
      case atStart => exact ⟨20, by omega, by omega, rfl, l1, HA.out⟩
      case round =>
        obtain ⟨bs, hbs, hbs2, rfl, hh⟩ := hrel
        obtain ⟨wo, rfl⟩ : ∃ wo : World, wo = wr := ⟨_, rfl⟩
        obtain ⟨l, hl⟩ := hh.out
        have HLA := Lib.hid hl
        clear hl hh HA
        by_cases hlt : bs < n
        · go_wp2
          go_loopw [7, 8] (fun s7 s8 wr => ∃ q x : Nat, x ≤ n ∧ s7 = .int .i64 x ∧ s8 = .int .i64 ((x : Int) + 2 * (bs : Int)) ∧ Hid (RunM l0 (bs + bs) l g o w q x wr)) (fun s7 _ _ => n - (intOf s7).toNat)
          case atStart => exact ⟨0, 0, by omega, rfl, by simp, HLA.out.1, l, by omega, run_start _ _, HLA.out.2.2⟩
          case round =>
            obtain ⟨q, x, hxn, rfl, rfl, hh⟩ := hrel
            obtain ⟨wo2, rfl⟩ : ∃ wo2 : World, wo2 = wr := ⟨_, rfl⟩
            obtain ⟨h0, l2, hx, hS, hR, hG⟩ := hh.out
            have HX := Lib.hid hx
            have HS := Lib.hid hS
            have HR2 := Lib.hid hR
            have HG := Lib.hid hG
            have HLL := Lib.hid (show l2.length = n from hS.ins.len.trans (HLA.out.1.len.trans HL.out))
            have HP := Lib.hid (run_pair HLA.out.2.1 hS)
            rw [← hx, HL.out] at HP
            clear h0 hx hS hR hG hh
            by_cases hlt2 : x + 2 * bs ≤ n
            · have hltI : (x : Int) + 2 * (bs : Int) ≤ (n : Int) := by omega
              go_wp2_with fail
              refine (symMerge_said (2 * bs) l2 x (x + bs) (x + (bs + bs)) _ _ _ _ rfl (by omega) (by omega) HLL.out (by omega) (by omega) (by omega) (by omega) hn (HP.out.1.sub (Nat.le_refl _) (by omega)) (HP.out.2.sub (Nat.le_refl _) (by omega)) g o c _ HR2.out).mono ?_
              rintro e w3 ⟨rfl, l3, h1, h2, h3, h4⟩
              have HS2 := Lib.hid (run_step (l' := l3) HS.out (by rw [← HX.out]; exact h1) (by rw [← HX.out]; exact h2))
              have HR3 := Lib.hid h3
              have HG3 := Lib.hid (HG.out.trans h4)
              clear h1 h2 h3 h4
              go_wp2
              go_roundw
              case rel => exact ⟨q + 1, x + (bs + bs), by omega, by go_num, by go_num, HLA.out.1, l3, by rw [Nat.succ_mul, HX.out], HS2.out, HR3.out, HG3.out⟩
              case measure => simp [intOf]; omega
            · have hltI : ¬ ((x : Int) + 2 * (bs : Int) ≤ (n : Int)) := by omega
              by_cases hlt3 : x + bs < n
              · have hltI3 : (x : Int) + (bs : Int) < (n : Int) := by omega
                go_wp2_with fail
                refine (symMerge_said (2 * bs) l2 x (x + bs) n _ _ _ _ rfl (by omega) rfl HLL.out (by omega) (by omega) (by omega) (by omega) hn (HP.out.1.sub (Nat.le_refl _) (by omega)) (HP.out.2.sub (Nat.le_refl _) (by omega)) g o c _ HR2.out).mono ?_
                rintro e w3 ⟨rfl, l3, h1, h2, h3, h4⟩
                have HE := Lib.hid (run_end (n := n) (l' := l3) HS.out (by rw [← HX.out]; exact hxn) (by rw [← HX.out]; omega) (by rw [← HX.out]; exact h1) (by rw [← HX.out]; exact h2))
                have HR3 := Lib.hid h3
                have HG3 := Lib.hid (HG.out.trans h4)
                clear h1 h2 h3 h4
                go_wp2
                go_roundw
                case rel => exact ⟨bs + bs, by omega, by omega, by go_num, l3, HLA.out.1.trans (by rw [HL.out]; exact HE.out.1), by rw [HL.out]; exact HE.out.2, HR3.out, HG3.out⟩
                case measure => simp [intOf]; omega
              · have hltI3 : ¬ ((x : Int) + (bs : Int) < (n : Int)) := by omega
                have HE := Lib.hid (run_end (n := n) (l' := l2) HS.out (by rw [← HX.out]; exact hxn) (by rw [← HX.out]; omega) (Ins.refl _ _ _) (by rw [← HX.out]; exact HP.out.1.sub (Nat.le_refl _) (by omega)))
                go_wp2
                go_roundw
                case rel => exact ⟨bs + bs, by omega, by omega, by go_num, l2, HLA.out.1.trans (by rw [HL.out]; exact HE.out.1), by rw [HL.out]; exact HE.out.2, HR2.out, HG.out⟩
                case measure => simp [intOf]; omega
        · go_wp2
          go_end0
          obtain ⟨h1, h2, h3, h4⟩ := HLA.out
          exact ⟨rfl, l, h1.len, h1.alike, (by rw [h1.len]; exact runs_all h2 (by rw [HL.out]; omega)), (fun _ => ⟨g, o, rfl, h3⟩), h4⟩

set_option maxHeartbeats 400000 in
theorem sortStable_many (l0 : List Pt) (n : Nat) (hln : l0.length = n) (hn0 : 20 ≤ n) (hn : n ≤ 1000000) (A : Option Addr) (c : Nat) (w : World) (hr : RowV w A l0) :
    Calls Tryd.prog 41 #[.slice A n c, cmpF] w (StablePost l0 A w) := by
  obtain ⟨g, o, rfl, hR⟩ := hr (fun e => by subst e; simp at hln; omega)
  have HR := Lib.hid hR
  have HL := Lib.hid hln
  clear hR hln
  go_enter Tryd.func41, Tryd.ntmps41
  go_wp2_with (go_at_call 63; refine (stableCmp_many l0 n HL.out hn0 hn g o c _ HR.out).mono ?_; rintro e w' ⟨rfl, h⟩; have HE := Lib.hid h; clear h)
  go_end0
  exact ⟨rfl, HE.out⟩

/-- The stable sort, of up to a million points. -/
theorem stable_any (n : Nat) (h : n ≤ 1000000) : StableSaid n := fun l0 hl A c w hr => by
  by_cases h20 : n < 20
  · subst hl; exact sortStable_small l0 h20 A c w hr
  · exact sortStable_many l0 n hl (by omega) h A c w hr
end Go.Proofs.YtcmnmcholfellaaDoor
