/-
  Walks: two blocks of a slice of points change places (swapRange), and a rotation.
-/
import Derived.Test.YtcmnmcholfellaaDoorZ2
import Derived.Test.YtcmnmcholfellaaDoorM5
namespace Go.Proofs.YtcmnmcholfellaaDoor
open Go.RowKit

/-- What moving in place leaves. -/
def MovePost (f : Nat → Nat) (l0 : List Pt) (g o : Nat) (w : World) (e : Ending) (w' : World) : Prop :=
  e = .returned (.tuple #[]) ∧ ∃ l, ByIx f l0 l ∧ RowR w' g o l ∧ w.grownBy w' (some g)

set_option maxHeartbeats 4000000 in
set_option maxRecDepth 100000 in
theorem swapRange_any (l0 : List Pt) (a b n : Nat) (hab : a + n ≤ b) (hbn : b + n ≤ l0.length) (hn : l0.length ≤ 1000000) (g o c : Nat) (w : World) (hr : RowR w g o l0) :
    Calls Tryd.prog 122 #[.slice (some ⟨g, o, none⟩) l0.length c, .int .i64 a, .int .i64 b, .int .i64 n, cmpF] w (MovePost (swIx a b n) l0 g o w) := by
  have HR := Lib.hid hr
  clear hr
  go_enter Tryd.func122, Tryd.ntmps122
  go_wp2
  go_loopw [10] (fun i wr => ∃ k : Nat, k ≤ n ∧ i = .int .i64 k ∧ Hid (∃ l, ByIx (swIx a b k) l0 l ∧ RowR wr g o l ∧ w.grownBy wr (some g))) (fun i _ => n - (intOf i).toNat)
  case atStart => exact ⟨0, by omega, rfl, l0, swIx_zero a b l0, HR.out, grown_refl _ _⟩
  case round =>
    obtain ⟨k, hkn, rfl, hh⟩ := hrel
    by_cases hlt : k < n
    · obtain ⟨wo, rfl⟩ : ∃ wo : World, wo = wr := ⟨_, rfl⟩
      obtain ⟨l, hB, hR, hG⟩ := hh.out
      have hln : l.length = l0.length := hB.1
      have hi1 : b + k < l.length := by omega
      have hi0 : a + k < l.length := by omega
      obtain ⟨c0, c1, c2, c3, c4, c5, c6, c7, c8, c9, c10⟩ := hR.at_ hi1
      obtain ⟨d0, d1, d2, d3, d4, d5, d6, d7, d8, d9, d10⟩ := hR.at_ hi0
      have hgz := lt_of_cell c0
      simp only at hgz
      have b1 : (0 : Int) ≤ (b : Int) + (k : Int) := by omega
      have b2 : (b : Int) + (k : Int) < (l0.length : Int) := by omega
      have b3 : (0 : Int) ≤ (a : Int) + (k : Int) := by omega
      have b4 : (a : Int) + (k : Int) < (l0.length : Int) := by omega
      have b5 : IntKind.i64.wrap ((a : Int) + (k : Int)) = (a : Int) + (k : Int) := IntWalk.i64_in _ (by omega)
      have b6 : IntKind.i64.wrap ((b : Int) + (k : Int)) = (b : Int) + (k : Int) := IntWalk.i64_in _ (by omega)
      have b7 : ((a : Int) + (k : Int)).toNat = a + k := by omega
      have b8 : ((b : Int) + (k : Int)).toNat = b + k := by omega
      have HS := Lib.hid (swIx_step hB (by omega) hi0 hi1)
      have HG := Lib.hid hG
      have HR4 : Hid (RowR (wo.drew.setCells g (o + (a + k) * 11) (l[b + k]).cs) g o (l.set (a + k) l[b + k])) := RowR.set (w := wo.drew) (RowR.keep (w' := wo.drew) hR rfl) hi0 _
      have HR5 : Hid (RowR ((wo.drew.setCells g (o + (a + k) * 11) (l[b + k]).cs).setCells g (o + (b + k) * 11) (l[a + k]).cs) g o (exch l (a + k) (b + k) hi0 hi1)) := HR4.out.set (by simpa using hi1) _
      have HG5 : Hid (w.grownBy ((wo.drew.setCells g (o + (a + k) * 11) (l[b + k]).cs).setCells g (o + (b + k) * 11) (l[a + k]).cs) (some g)) := ((grown_drew HG.out).trans (grown_setCells _ _ _ _)).trans (grown_setCells _ _ _ _)
      have HT1 : Hid (wo.drew.there g (o + (a + k) * 11) 11) := RowR.there_at (w := wo.drew) (RowR.keep (w' := wo.drew) hR rfl) hi0
      have HT2 : Hid ((wo.drew.setCells g (o + (a + k) * 11) (l[b + k]).cs).there g (o + (b + k) * 11) 11) := HR4.out.there_at (by simpa using hi1)
      have HLN := Lib.hid hln
      clear hB hR hG hln hh
      go_wp2
      refine wp_region_any (by kernel_rfl) ?_
      (try (change wpAny _ _ _ _ _ _ _ (World.drew _)))
      refine wpAny_take (i := 0) (v := ?v0) rfl (by kernel_rfl) (by kernel_rfl) (by kernel_rfl) (fun _ _ _ h => h) (Or.inl ⟨by rfl, ?hy0⟩) ?_
      case hy0 => (intro w; go_simp; try with_reducible rfl)
      (try simp only [Act.put, List.setIfInBounds_toArray, List.set_cons_zero, List.set_cons_succ, List.getElem_toArray, List.getElem_cons_zero])
      refine wpAny_take (i := 1) (v := ?v1) rfl (by kernel_rfl) (by kernel_rfl) (by kernel_rfl) (fun _ _ _ h => h) (Or.inl ⟨by rfl, ?hy1⟩) ?_
      case hy1 => (intro w; go_simp; try with_reducible rfl)
      (try simp only [Act.put, List.setIfInBounds_toArray, List.set_cons_zero, List.set_cons_succ, List.getElem_toArray, List.getElem_cons_zero, List.getElem_cons_succ])
      refine wpAny_take (i := 2) (v := ?v2) rfl (by kernel_rfl) (by kernel_rfl) (by kernel_rfl) (fun _ _ _ h => h) (Or.inl ⟨by rfl, ?hy2⟩) ?_
      case hy2 => (intro w; go_simp; try with_reducible rfl)
      (try simp only [Act.put, List.setIfInBounds_toArray, List.set_cons_zero, List.set_cons_succ, List.getElem_toArray, List.getElem_cons_zero, List.getElem_cons_succ])
      refine wpAny_take (i := 3) (v := ?v3) rfl (by kernel_rfl) (by kernel_rfl) (by kernel_rfl) (fun _ _ _ h => h) (Or.inl ⟨by rfl, ?hy3⟩) ?_
      case hy3 => (intro w; go_simp; try with_reducible rfl)
      (try simp only [Act.put, List.setIfInBounds_toArray, List.set_cons_zero, List.set_cons_succ, List.getElem_toArray, List.getElem_cons_zero, List.getElem_cons_succ])
      refine wpAny_take (i := 4) (v := ?v4) rfl (by kernel_rfl) (by kernel_rfl) (by kernel_rfl) (fun _ _ _ h => h) (Or.inl ⟨by rfl, ?hy4⟩) ?_
      case hy4 => (intro w; go_simp; try with_reducible rfl)
      (try simp only [Act.put, List.setIfInBounds_toArray, List.set_cons_zero, List.set_cons_succ, List.getElem_toArray, List.getElem_cons_zero, List.getElem_cons_succ])
      refine wpAny_take (i := 5) (v := ?v5) rfl (by kernel_rfl) (by kernel_rfl) (by kernel_rfl) (fun _ _ _ h => h) (Or.inl ⟨by rfl, ?hy5⟩) ?_
      case hy5 => (intro w; go_simp; try with_reducible rfl)
      (try simp only [Act.put, List.setIfInBounds_toArray, List.set_cons_zero, List.set_cons_succ, List.getElem_toArray, List.getElem_cons_zero, List.getElem_cons_succ])
      refine wpAny_take (i := 6) (v := ?v6) rfl (by kernel_rfl) (by kernel_rfl) (by kernel_rfl) (fun _ _ _ h => h) (Or.inl ⟨by rfl, ?hy6⟩) ?_
      case hy6 => (intro w; go_simp; try with_reducible rfl)
      (try simp only [Act.put, List.setIfInBounds_toArray, List.set_cons_zero, List.set_cons_succ, List.getElem_toArray, List.getElem_cons_zero, List.getElem_cons_succ])
      refine wpAny_take (i := 7) (v := ?v7) rfl (by kernel_rfl) (by kernel_rfl) (by kernel_rfl) (fun _ _ _ h => h) (Or.inl ⟨by rfl, ?hy7⟩) ?_
      case hy7 => (intro w; go_simp; try with_reducible rfl)
      (try simp only [Act.put, List.setIfInBounds_toArray, List.set_cons_zero, List.set_cons_succ, List.getElem_toArray, List.getElem_cons_zero, List.getElem_cons_succ])
      refine wpAny_take (i := 8) (v := ?v8) rfl (by kernel_rfl) (by kernel_rfl) (by kernel_rfl) (fun _ _ _ h => h) (Or.inl ⟨by rfl, ?hy8⟩) ?_
      case hy8 => (intro w; go_simp; try with_reducible rfl)
      (try simp only [Act.put, List.setIfInBounds_toArray, List.set_cons_zero, List.set_cons_succ, List.getElem_toArray, List.getElem_cons_zero, List.getElem_cons_succ])
      refine wpAny_take (i := 9) (v := ?v9) rfl (by kernel_rfl) (by kernel_rfl) (by kernel_rfl) (fun _ _ _ h => h) (Or.inl ⟨by rfl, ?hy9⟩) ?_
      case hy9 => (intro w; go_simp; try with_reducible rfl)
      (try simp only [Act.put, List.setIfInBounds_toArray, List.set_cons_zero, List.set_cons_succ, List.getElem_toArray, List.getElem_cons_zero, List.getElem_cons_succ])
      refine wpAny_take (i := 10) (v := ?v10) rfl (by kernel_rfl) (by kernel_rfl) (by kernel_rfl) (fun _ _ _ h => h) (Or.inl ⟨by rfl, ?hy10⟩) ?_
      case hy10 => (intro w; go_simp; try with_reducible rfl)
      (try simp only [Act.put, List.setIfInBounds_toArray, List.set_cons_zero, List.set_cons_succ, List.getElem_toArray, List.getElem_cons_zero, List.getElem_cons_succ])
      refine wpAny_take (i := 11) (v := ?v11) rfl (by kernel_rfl) (by kernel_rfl) (by kernel_rfl) (fun _ _ _ h => h) (Or.inl ⟨by rfl, ?hy11⟩) ?_
      case hy11 => (intro w; go_simp; try with_reducible rfl)
      (try simp only [Act.put, List.setIfInBounds_toArray, List.set_cons_zero, List.set_cons_succ, List.getElem_toArray, List.getElem_cons_zero, List.getElem_cons_succ])
      refine wpAny_take (i := 12) (v := ?v12) rfl (by kernel_rfl) (by kernel_rfl) (by kernel_rfl) (fun _ _ _ h => h) (Or.inl ⟨by rfl, ?hy12⟩) ?_
      case hy12 => (intro w; go_simp; try with_reducible rfl)
      (try simp only [Act.put, List.setIfInBounds_toArray, List.set_cons_zero, List.set_cons_succ, List.getElem_toArray, List.getElem_cons_zero, List.getElem_cons_succ])
      refine wpAny_take (i := 14) (v := ?v13) rfl (by kernel_rfl) (by kernel_rfl) (by kernel_rfl) (fun _ _ _ h => h) (Or.inl ⟨by rfl, ?hy13⟩) ?_
      case hy13 => (intro w; go_simp; try with_reducible rfl)
      (try simp only [Act.put, List.setIfInBounds_toArray, List.set_cons_zero, List.set_cons_succ, List.getElem_toArray, List.getElem_cons_zero, List.getElem_cons_succ])
      refine wpAny_take (i := 15) (v := ?v14) rfl (by kernel_rfl) (by kernel_rfl) (by kernel_rfl) (fun _ _ _ h => h) (Or.inl ⟨by rfl, ?hy14⟩) ?_
      case hy14 => (intro w; go_simp; try with_reducible rfl)
      (try simp only [Act.put, List.setIfInBounds_toArray, List.set_cons_zero, List.set_cons_succ, List.getElem_toArray, List.getElem_cons_zero, List.getElem_cons_succ])
      refine wpAny_take (i := 16) (v := ?v15) rfl (by kernel_rfl) (by kernel_rfl) (by kernel_rfl) (fun _ _ _ h => h) (Or.inl ⟨by rfl, ?hy15⟩) ?_
      case hy15 => (intro w; go_simp; try with_reducible rfl)
      (try simp only [Act.put, List.setIfInBounds_toArray, List.set_cons_zero, List.set_cons_succ, List.getElem_toArray, List.getElem_cons_zero, List.getElem_cons_succ])
      refine wpAny_take (i := 17) (v := ?v16) rfl (by kernel_rfl) (by kernel_rfl) (by kernel_rfl) (fun _ _ _ h => h) (Or.inl ⟨by rfl, ?hy16⟩) ?_
      case hy16 => (intro w; go_simp; try with_reducible rfl)
      (try simp only [Act.put, List.setIfInBounds_toArray, List.set_cons_zero, List.set_cons_succ, List.getElem_toArray, List.getElem_cons_zero, List.getElem_cons_succ])
      refine wpAny_take (i := 18) (v := ?v17) rfl (by kernel_rfl) (by kernel_rfl) (by kernel_rfl) (fun _ _ _ h => h) (Or.inl ⟨by rfl, ?hy17⟩) ?_
      case hy17 => (intro w; go_simp; try with_reducible rfl)
      (try simp only [Act.put, List.setIfInBounds_toArray, List.set_cons_zero, List.set_cons_succ, List.getElem_toArray, List.getElem_cons_zero, List.getElem_cons_succ])
      refine wpAny_ready (rs := [13, 19]) (by kernel_rfl) (by simp) ?_
      refine (AllReady.cons rfl (fun K hK => ?_) (AllReady.cons rfl (fun K hK => ?_) AllReady.nil))
      ·
        go_simp
        refine hK _ _ ?_
        clear hK K
        (try simp only [Act.put, List.setIfInBounds_toArray, List.set_cons_zero, List.set_cons_succ, List.getElem_toArray, List.getElem_cons_zero, List.getElem_cons_succ])
        refine wpAny_ready (rs := [19]) (by kernel_rfl) (by simp) ?_
        refine (AllReady.cons rfl (fun K hK => ?_) AllReady.nil)
        go_simp
        refine hK _ _ ?_
        clear hK K
        (try simp only [Act.put, List.setIfInBounds_toArray, List.set_cons_zero, List.set_cons_succ, List.getElem_toArray, List.getElem_cons_zero, List.getElem_cons_succ])
        refine wpAny_take (i := 20) (v := ?v18) rfl (by kernel_rfl) (by kernel_rfl) (by kernel_rfl) (fun _ _ _ h => h) (Or.inl ⟨by rfl, ?hy18⟩) ?_
        case hy18 => (intro w; go_simp; try with_reducible rfl)
        (try simp only [Act.put, List.setIfInBounds_toArray, List.set_cons_zero, List.set_cons_succ, List.getElem_toArray, List.getElem_cons_zero, List.getElem_cons_succ])
        refine wpAny_ready (rs := [21]) (by kernel_rfl) (by simp) ?_
        refine (AllReady.cons rfl (fun K hK => ?_) AllReady.nil)
        (simp only [List.getElem_toArray, List.getElem_cons_zero, List.getElem_cons_succ]; rw [if_pos (by rfl)]; refine wp_store_mid 23 (.tmp 36) (.tmp 29) rfl (g) (o + (a + k) * 11) ((l[b + k]).cs.toArray) (by rfl) (by rfl) ?_ ?_ ?_ ?_; (exact HT1.out); (exact pt_info); (exact pt_one _))
        refine hK _ _ ?_
        clear hK K
        (try simp only [Act.put])
        refine wpAny_take (i := 22) (v := ?v19) rfl (by kernel_rfl) (by kernel_rfl) (by kernel_rfl) (fun _ _ _ h => h) (Or.inl ⟨by rfl, ?hy19⟩) ?_
        case hy19 => (intro w; go_simp; try with_reducible rfl)
        (try simp only [Act.put, List.setIfInBounds_toArray, List.set_cons_zero, List.set_cons_succ, List.getElem_toArray, List.getElem_cons_zero, List.getElem_cons_succ])
        refine wpAny_ready (rs := [23]) (by kernel_rfl) (by simp) ?_
        refine (AllReady.cons rfl (fun K hK => ?_) AllReady.nil)
        (generalize wo.drew.setCells g (o + (a + k) * 11) l[b + k].cs = w4 at *; simp only [List.getElem_toArray, List.getElem_cons_zero, List.getElem_cons_succ]; rw [if_pos (by rfl)]; refine wp_store_mid 23 (.tmp 37) (.tmp 35) rfl (g) (o + (b + k) * 11) ((l[a + k]).cs.toArray) (by rfl) (by rfl) ?_ ?_ ?_ ?_; (exact HT2.out); (exact pt_info); (exact pt_one _))
        refine hK _ _ ?_
        clear hK K
        (try simp only [Act.put])
        refine wpAny_done (by kernel_rfl) ?_ _
        (go_wp2; go_roundw; (case rel => exact ⟨k + 1, by omega, by go_num, exch l (a + k) (b + k) hi0 hi1, HS.out, HR5.out, HG5.out⟩); (case measure => simp [intOf]; omega))
      ·
        go_simp
        refine hK _ _ ?_
        clear hK K
        (try simp only [Act.put, List.setIfInBounds_toArray, List.set_cons_zero, List.set_cons_succ, List.getElem_toArray, List.getElem_cons_zero, List.getElem_cons_succ])
        refine wpAny_ready (rs := [13]) (by kernel_rfl) (by simp) ?_
        refine (AllReady.cons rfl (fun K hK => ?_) AllReady.nil)
        go_simp
        refine hK _ _ ?_
        clear hK K
        (try simp only [Act.put, List.setIfInBounds_toArray, List.set_cons_zero, List.set_cons_succ, List.getElem_toArray, List.getElem_cons_zero, List.getElem_cons_succ])
        refine wpAny_take (i := 20) (v := ?v20) rfl (by kernel_rfl) (by kernel_rfl) (by kernel_rfl) (fun _ _ _ h => h) (Or.inl ⟨by rfl, ?hy20⟩) ?_
        case hy20 => (intro w; go_simp; try with_reducible rfl)
        (try simp only [Act.put, List.setIfInBounds_toArray, List.set_cons_zero, List.set_cons_succ, List.getElem_toArray, List.getElem_cons_zero, List.getElem_cons_succ])
        refine wpAny_ready (rs := [21]) (by kernel_rfl) (by simp) ?_
        refine (AllReady.cons rfl (fun K hK => ?_) AllReady.nil)
        (simp only [List.getElem_toArray, List.getElem_cons_zero, List.getElem_cons_succ]; rw [if_pos (by rfl)]; refine wp_store_mid 23 (.tmp 36) (.tmp 29) rfl (g) (o + (a + k) * 11) ((l[b + k]).cs.toArray) (by rfl) (by rfl) ?_ ?_ ?_ ?_; (exact HT1.out); (exact pt_info); (exact pt_one _))
        refine hK _ _ ?_
        clear hK K
        (try simp only [Act.put])
        refine wpAny_take (i := 22) (v := ?v21) rfl (by kernel_rfl) (by kernel_rfl) (by kernel_rfl) (fun _ _ _ h => h) (Or.inl ⟨by rfl, ?hy21⟩) ?_
        case hy21 => (intro w; go_simp; try with_reducible rfl)
        (try simp only [Act.put, List.setIfInBounds_toArray, List.set_cons_zero, List.set_cons_succ, List.getElem_toArray, List.getElem_cons_zero, List.getElem_cons_succ])
        refine wpAny_ready (rs := [23]) (by kernel_rfl) (by simp) ?_
        refine (AllReady.cons rfl (fun K hK => ?_) AllReady.nil)
        (generalize wo.drew.setCells g (o + (a + k) * 11) l[b + k].cs = w4 at *; simp only [List.getElem_toArray, List.getElem_cons_zero, List.getElem_cons_succ]; rw [if_pos (by rfl)]; refine wp_store_mid 23 (.tmp 37) (.tmp 35) rfl (g) (o + (b + k) * 11) ((l[a + k]).cs.toArray) (by rfl) (by rfl) ?_ ?_ ?_ ?_; (exact HT2.out); (exact pt_info); (exact pt_one _))
        refine hK _ _ ?_
        clear hK K
        (try simp only [Act.put])
        refine wpAny_done (by kernel_rfl) ?_ _
        (go_wp2; go_roundw; (case rel => exact ⟨k + 1, by omega, by go_num, exch l (a + k) (b + k) hi0 hi1, HS.out, HR5.out, HG5.out⟩); (case measure => simp [intOf]; omega))
    · obtain rfl : k = n := by omega
      go_wp2
      go_end0
      exact ⟨rfl, hh.out⟩

theorem swapRange_at (l0 : List Pt) (a b n : Nat) (A B M : Int) (hA : A = a) (hB : B = b) (hM : M = n) (L : Nat) (hL : l0.length = L) (hab : a + n ≤ b) (hbn : b + n ≤ L) (hn : L ≤ 1000000) (g o c : Nat) (w : World) (hr : RowR w g o l0) :
    Calls Tryd.prog 122 #[.slice (some ⟨g, o, none⟩) L c, .int .i64 A, .int .i64 B, .int .i64 M, cmpF] w (MovePost (swIx a b n) l0 g o w) := by
  subst hA hB hM hL; exact swapRange_any l0 a b n hab hbn hn g o c w hr

/-- The state of a rotation, in memory. -/
def RotM (l0 : List Pt) (a m b : Nat) (g o : Nat) (w : World) (i j : Nat) (wr : World) : Prop := ∃ l, RotSt l0 a m b i j l ∧ RowR wr g o l ∧ w.grownBy wr (some g)

set_option maxHeartbeats 1000000 in
set_option maxRecDepth 100000 in
theorem rotate_any (l0 : List Pt) (a m b : Nat) (ham : a < m) (hmb : m < b) (hbn : b ≤ l0.length) (hn : l0.length ≤ 1000000) (g o c : Nat) (w : World) (hr : RowR w g o l0) :
    Calls Tryd.prog 100 #[.slice (some ⟨g, o, none⟩) l0.length c, .int .i64 a, .int .i64 m, .int .i64 b, cmpF] w (MovePost (rotIx a m b) l0 g o w) := by
  have HR := Lib.hid hr
  clear hr
  go_enter Tryd.func100, Tryd.ntmps100
  go_wp2
  go_loopw [10, 11] (fun s10 s11 wr => ∃ i j : Nat, 0 < i ∧ 0 < j ∧ i ≤ m - a ∧ j ≤ b - m ∧ s10 = .int .i64 i ∧ s11 = .int .i64 j ∧ Hid (RotM l0 a m b g o w i j wr)) (fun s10 s11 _ => (intOf s10).toNat + (intOf s11).toNat)
  case atStart => exact ⟨m - a, b - m, by omega, by omega, by omega, by omega, by go_num, by go_num, l0, rot_start l0 (by omega) (by omega), HR.out, grown_refl _ _⟩
  case round =>
    obtain ⟨i, j, hi0, hj0, hi1, hj1, rfl, rfl, hh⟩ := hrel
    by_cases hij : i = j
    · subst hij
      have hne : ((i : Int) != (i : Int)) = false := by simp
      obtain ⟨l, hS, hR, hG⟩ := hh.out
      have HL := Lib.hid hS.1
      have HS := Lib.hid hS
      have HR2 := Lib.hid hR
      have HG := Lib.hid hG
      clear hS hR hG hh
      go_wp2_with fail
      refine (swapRange_at l (m - i) m i _ _ _ (by omega) rfl rfl _ HL.out (by omega) (by omega) hn g o c _ HR2.out).mono ?_
      rintro e w1 ⟨rfl, l1, h1, h2, h3⟩
      have HE := Lib.hid (And.intro h1 (And.intro h2 h3))
      clear h1 h2 h3
      go_wp2
      go_end0
      obtain ⟨h1, h2, h3⟩ := HE.out
      exact ⟨rfl, l1, rot_end HS.out (by omega) h1, h2, HG.out.trans h3⟩
    · have hne : ((i : Int) != (j : Int)) = true := by rw [bne_iff_ne]; omega
      obtain ⟨wo, rfl⟩ : ∃ wo : World, wo = wr := ⟨_, rfl⟩
      by_cases hlt : j < i
      · obtain ⟨l, hS, hR, hG⟩ := hh.out
        have HL := Lib.hid hS.1
        have HS := Lib.hid hS
        have HR2 := Lib.hid hR
        have HG := Lib.hid hG
        clear hS hR hG hh
        go_wp2_with fail
        refine (swapRange_at l (m - i) m j _ _ _ (by omega) rfl rfl _ HL.out (by omega) (by omega) hn g o c _ HR2.out).mono ?_
        rintro e w1 ⟨rfl, l1, h1, h2, h3⟩
        have HE := Lib.hid (And.intro h1 (And.intro h2 h3))
        clear h1 h2 h3
        go_wp2
        go_roundw
        case rel => exact ⟨i - j, j, by omega, by omega, by omega, by omega, by go_num, rfl, l1, rot_left HS.out (by omega) hlt HE.out.1, HE.out.2.1, HG.out.trans HE.out.2.2⟩
        case measure => simp [intOf]; omega
      · have hlt2 : i < j := by omega
        obtain ⟨l, hS, hR, hG⟩ := hh.out
        have HL := Lib.hid hS.1
        have HS := Lib.hid hS
        have HR2 := Lib.hid hR
        have HG := Lib.hid hG
        clear hS hR hG hh
        go_wp2_with fail
        refine (swapRange_at l (m - i) (m + j - i) i _ _ _ (by omega) (by omega) rfl _ HL.out (by omega) (by omega) hn g o c _ HR2.out).mono ?_
        rintro e w1 ⟨rfl, l1, h1, h2, h3⟩
        have HE := Lib.hid (And.intro h1 (And.intro h2 h3))
        clear h1 h2 h3
        go_wp2
        go_roundw
        case rel => exact ⟨i, j - i, by omega, by omega, by omega, by omega, rfl, by go_num, l1, rot_right HS.out (by omega) hlt2 HE.out.1, HE.out.2.1, HG.out.trans HE.out.2.2⟩
        case measure => simp [intOf]; omega
end Go.Proofs.YtcmnmcholfellaaDoor
