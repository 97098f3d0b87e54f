/-
  Walks: comparing two points by time; insertion sort of a part of a slice of points.
-/
import Derived.Test.YtcmnmcholfellaaDoorR0
import Derived.Test.YtcmnmcholfellaaDoorM1
namespace Go.Proofs.YtcmnmcholfellaaDoor
open Go.RowKit

/-- cmp.Compare of two numbers. -/
def cmpI (x y : Int) : Int := if x < y then -1 else if y < x then 1 else 0

theorem isNaN_any (x : Int) (w : World) : Calls Tryd.prog 64 #[.int .i64 x] w fun e w' => e = .returned (.bool false) ∧ w = w' := by
  have h : (x != x) = false := by simp
  go_enter Tryd.func64, Tryd.ntmps64
  go_wp2
  go_ret
  exact ⟨rfl, rfl⟩

set_option maxHeartbeats 400000 in
theorem compare_any (x y : Int) (w : World) : Calls Tryd.prog 43 #[.int .i64 x, .int .i64 y] w fun e w' => e = .returned (.int .i64 (cmpI x y)) ∧ w = w' := by
  by_cases h1 : x < y
  · have HC := Lib.hid (show cmpI x y = -1 by simp [cmpI, h1])
    go_enter Tryd.func43, Tryd.ntmps43
    go_wp2_with (go_at_call 64; refine (isNaN_any _ _).mono ?_; rintro e w' ⟨rfl, rfl⟩)
    go_ret
    exact ⟨by rw [HC.out]; rfl, rfl⟩
  · by_cases h2 : y < x
    · have HC := Lib.hid (show cmpI x y = 1 by simp [cmpI, h1, h2])
      go_enter Tryd.func43, Tryd.ntmps43
      go_wp2_with (go_at_call 64; refine (isNaN_any _ _).mono ?_; rintro e w' ⟨rfl, rfl⟩)
      go_ret
      exact ⟨by rw [HC.out]; rfl, rfl⟩
    · have HC := Lib.hid (show cmpI x y = 0 by simp [cmpI, h1, h2])
      go_enter Tryd.func43, Tryd.ntmps43
      go_wp2_with (go_at_call 64; refine (isNaN_any _ _).mono ?_; rintro e w' ⟨rfl, rfl⟩)
      go_ret
      exact ⟨by rw [HC.out]; rfl, rfl⟩

set_option maxHeartbeats 400000 in
theorem cmpPt_any (p q : Pt) (w : World) : Calls Tryd.prog 42 #[p.v, q.v] w fun e w' => e = .returned (.int .i64 (cmpI p.at_ q.at_)) ∧ Below w.heap.size w w' := by
  go_enter Tryd.func42, Tryd.ntmps42
  go_wp2_with (go_at_call 43; refine (compare_any _ _ _).mono ?_; rintro e w' ⟨rfl, rfl⟩)
  go_ret
  exact ⟨rfl, ((Below.refl _ _).alloc (Nat.le_refl _) _).alloc (by simp) _⟩

theorem cmpI_neg {x y : Int} (h : x < y) : decide (cmpI x y < 0) = true := by simp [cmpI, h]
theorem cmpI_nneg {x y : Int} (h : ¬ x < y) : decide (cmpI x y < 0) = false := by
  simp only [cmpI, if_neg h]; split <;> simp

/-- The function value that compares. -/
abbrev cmpF : Value := .func (.func 42) #[] #[]

/-- What sorting in place leaves. -/
def SortPost (l0 : List Pt) (a b : Nat) (g o : Nat) (w : World) (e : Ending) (w' : World) : Prop :=
  e = .returned (.tuple #[]) ∧ ∃ l, Ins l0 a b l ∧ SortedOn l a b ∧ RowR w' g o l ∧ w.grownBy w' (some g)

set_option maxHeartbeats 4000000 in
set_option maxRecDepth 100000 in
theorem insertion_any (l0 : List Pt) (a b : Nat) (hab : a ≤ b) (hbn : b ≤ l0.length) (hn : l0.length ≤ 1000000) (g o c : Nat) (w : World) (hr : RowR w g o l0) :
    Calls Tryd.prog 79 #[.slice (some ⟨g, o, none⟩) l0.length c, .int .i64 a, .int .i64 b, cmpF] w (SortPost l0 a b g o w) := by
  have HR := Lib.hid hr
  clear hr
  go_enter Tryd.func79, Tryd.ntmps79
  go_wp2
  go_loopw [8] (fun i wr => ∃ k : Nat, a < k ∧ (k ≤ b ∨ k = a + 1) ∧ i = .int .i64 k ∧ Hid (∃ l, Ins l0 a b l ∧ SortedOn l a k ∧ RowR wr g o l ∧ w.grownBy wr (some g))) (fun i _ => b - (intOf i).toNat)
  case atStart => exact ⟨a + 1, by omega, .inr rfl, by go_num, l0, Ins.refl _ _ _, fun x y h1 h2 h3 => by omega, HR.out, grown_refl _ _⟩
  case round =>
    obtain ⟨k, hak, hkb, rfl, hh⟩ := hrel
    by_cases hlt : k < b
    · obtain ⟨wo, rfl⟩ : ∃ wo : World, wo = wr := ⟨_, rfl⟩
      have hkb' : k ≤ b := by omega
      go_wp2
      go_loopw [9] (fun i wi => ∃ j : Nat, a ≤ j ∧ j ≤ k ∧ i = .int .i64 j ∧ Hid (∃ l, Inner l0 a b k j l ∧ RowR wi g o l ∧ w.grownBy wi (some g))) (fun i _ => (intOf i).toNat)
      case atStart =>
        obtain ⟨l, h1, h2, h3, h4⟩ := hh.out
        exact ⟨k, by omega, by omega, rfl, l, inner_start h1 (by omega) h2, h3, h4⟩
      case round =>
        obtain ⟨j, haj, hjk, rfl, hi⟩ := hrel
        by_cases hja : j = a
        · subst hja
          have hg3 : decide ((j : Int) < (j : Int)) = false := by simp
          go_wp2
          refine wp_region_held_drew (S := (fun _ => True)) (by kernel_rfl) ?_ (fun hHeld => ?_)
          · (try dsimp only); (try trivial)
          refine wpAnyH_take (i := 0) (v := ?v376) rfl (by kernel_rfl) (by kernel_rfl) (by kernel_rfl) (fun _ _ _ h => h) (Or.inl ⟨by rfl, ?hy376⟩) hHeld ?_
          case hy376 => (intro w hSw; (try dsimp only at hSw); go_simp; try with_reducible rfl)
          (try simp only [Act.put, List.setIfInBounds_toArray, List.set_cons_zero, List.set_cons_succ, List.getElem_toArray, List.getElem_cons_zero])
          refine wpAnyH_take (i := 1) (v := ?v377) rfl (by kernel_rfl) (by kernel_rfl) (by kernel_rfl) (fun _ _ _ h => h) (Or.inl ⟨by rfl, ?hy377⟩) hHeld ?_
          case hy377 => (intro w hSw; (try dsimp only at hSw); go_simp; try with_reducible rfl)
          (try simp only [Act.put, List.setIfInBounds_toArray, List.set_cons_zero, List.set_cons_succ, List.getElem_toArray, List.getElem_cons_zero, List.getElem_cons_succ])
          refine wpAnyH_take (i := 2) (v := ?v378) rfl (by kernel_rfl) (by kernel_rfl) (by kernel_rfl) (fun _ _ _ h => h) (Or.inl ⟨by rfl, ?hy378⟩) hHeld ?_
          case hy378 => (intro w hSw; (try dsimp only at hSw); go_simp; try with_reducible rfl)
          (try simp only [Act.put, List.setIfInBounds_toArray, List.set_cons_zero, List.set_cons_succ, List.getElem_toArray, List.getElem_cons_zero, List.getElem_cons_succ])
          refine wpAnyH_take (i := 3) (v := ?v379) rfl (by kernel_rfl) (by kernel_rfl) (by kernel_rfl) (fun _ _ _ h => h) (Or.inl ⟨by rfl, ?hy379⟩) hHeld ?_
          case hy379 => (intro w hSw; (try dsimp only at hSw); go_simp; try with_reducible rfl)
          (try simp only [Act.put, List.setIfInBounds_toArray, List.set_cons_zero, List.set_cons_succ, List.getElem_toArray, List.getElem_cons_zero, List.getElem_cons_succ])
          refine wpAnyH_take (i := 4) (v := undef) rfl (by kernel_rfl) (by kernel_rfl) (by kernel_rfl) (fun _ _ _ h => h) (Or.inr ⟨by rfl, rfl⟩) hHeld ?_
          (try simp only [Act.put, List.setIfInBounds_toArray, List.set_cons_zero, List.set_cons_succ, List.getElem_toArray, List.getElem_cons_zero, List.getElem_cons_succ])
          refine wpAnyH_take (i := 5) (v := undef) rfl (by kernel_rfl) (by kernel_rfl) (by kernel_rfl) (fun _ _ _ h => h) (Or.inr ⟨by rfl, rfl⟩) hHeld ?_
          (try simp only [Act.put, List.setIfInBounds_toArray, List.set_cons_zero, List.set_cons_succ, List.getElem_toArray, List.getElem_cons_zero, List.getElem_cons_succ])
          refine wpAnyH_take (i := 6) (v := undef) rfl (by kernel_rfl) (by kernel_rfl) (by kernel_rfl) (fun _ _ _ h => h) (Or.inr ⟨by rfl, rfl⟩) hHeld ?_
          (try simp only [Act.put, List.setIfInBounds_toArray, List.set_cons_zero, List.set_cons_succ, List.getElem_toArray, List.getElem_cons_zero, List.getElem_cons_succ])
          refine wpAnyH_take (i := 7) (v := undef) rfl (by kernel_rfl) (by kernel_rfl) (by kernel_rfl) (fun _ _ _ h => h) (Or.inr ⟨by rfl, rfl⟩) hHeld ?_
          (try simp only [Act.put, List.setIfInBounds_toArray, List.set_cons_zero, List.set_cons_succ, List.getElem_toArray, List.getElem_cons_zero, List.getElem_cons_succ])
          refine wpAnyH_take (i := 8) (v := undef) rfl (by kernel_rfl) (by kernel_rfl) (by kernel_rfl) (fun _ _ _ h => h) (Or.inr ⟨by rfl, rfl⟩) hHeld ?_
          (try simp only [Act.put, List.setIfInBounds_toArray, List.set_cons_zero, List.set_cons_succ, List.getElem_toArray, List.getElem_cons_zero, List.getElem_cons_succ])
          refine wpAnyH_take (i := 9) (v := undef) rfl (by kernel_rfl) (by kernel_rfl) (by kernel_rfl) (fun _ _ _ h => h) (Or.inr ⟨by rfl, rfl⟩) hHeld ?_
          (try simp only [Act.put, List.setIfInBounds_toArray, List.set_cons_zero, List.set_cons_succ, List.getElem_toArray, List.getElem_cons_zero, List.getElem_cons_succ])
          refine wpAnyH_take (i := 10) (v := undef) rfl (by kernel_rfl) (by kernel_rfl) (by kernel_rfl) (fun _ _ _ h => h) (Or.inr ⟨by rfl, rfl⟩) hHeld ?_
          (try simp only [Act.put, List.setIfInBounds_toArray, List.set_cons_zero, List.set_cons_succ, List.getElem_toArray, List.getElem_cons_zero, List.getElem_cons_succ])
          refine wpAnyH_take (i := 11) (v := undef) rfl (by kernel_rfl) (by kernel_rfl) (by kernel_rfl) (fun _ _ _ h => h) (Or.inr ⟨by rfl, rfl⟩) hHeld ?_
          (try simp only [Act.put, List.setIfInBounds_toArray, List.set_cons_zero, List.set_cons_succ, List.getElem_toArray, List.getElem_cons_zero, List.getElem_cons_succ])
          refine wpAnyH_take (i := 12) (v := undef) rfl (by kernel_rfl) (by kernel_rfl) (by kernel_rfl) (fun _ _ _ h => h) (Or.inr ⟨by rfl, rfl⟩) hHeld ?_
          (try simp only [Act.put, List.setIfInBounds_toArray, List.set_cons_zero, List.set_cons_succ, List.getElem_toArray, List.getElem_cons_zero, List.getElem_cons_succ])
          refine wpAnyH_take (i := 13) (v := undef) rfl (by kernel_rfl) (by kernel_rfl) (by kernel_rfl) (fun _ _ _ h => h) (Or.inr ⟨by rfl, rfl⟩) hHeld ?_
          (try simp only [Act.put, List.setIfInBounds_toArray, List.set_cons_zero, List.set_cons_succ, List.getElem_toArray, List.getElem_cons_zero, List.getElem_cons_succ])
          refine wpAnyH_take (i := 14) (v := undef) rfl (by kernel_rfl) (by kernel_rfl) (by kernel_rfl) (fun _ _ _ h => h) (Or.inr ⟨by rfl, rfl⟩) hHeld ?_
          (try simp only [Act.put, List.setIfInBounds_toArray, List.set_cons_zero, List.set_cons_succ, List.getElem_toArray, List.getElem_cons_zero, List.getElem_cons_succ])
          refine wpAnyH_take (i := 15) (v := undef) rfl (by kernel_rfl) (by kernel_rfl) (by kernel_rfl) (fun _ _ _ h => h) (Or.inr ⟨by rfl, rfl⟩) hHeld ?_
          (try simp only [Act.put, List.setIfInBounds_toArray, List.set_cons_zero, List.set_cons_succ, List.getElem_toArray, List.getElem_cons_zero, List.getElem_cons_succ])
          refine wpAnyH_take (i := 16) (v := ?v380) rfl (by kernel_rfl) (by kernel_rfl) (by kernel_rfl) (fun _ _ _ h => h) (Or.inl ⟨by rfl, ?hy380⟩) hHeld ?_
          case hy380 => (intro w hSw; (try dsimp only at hSw); go_simp; try with_reducible rfl)
          (try simp only [Act.put, List.setIfInBounds_toArray, List.set_cons_zero, List.set_cons_succ, List.getElem_toArray, List.getElem_cons_zero, List.getElem_cons_succ])
          refine wpAnyH_done (by kernel_rfl) ?_ _
          go_wp2
          go_roundw
          case rel =>
            obtain ⟨l, h1, h2, h3⟩ := hi.out
            exact ⟨k + 1, by omega, by omega, by go_num, l, h1.ins, inner_end h1 (.inl rfl), h2.keep rfl, grown_drew h3⟩
          case measure => simp [intOf]; omega
        · obtain ⟨i, rfl⟩ : ∃ i, j = i + 1 := ⟨j - 1, by omega⟩
          obtain ⟨l, hI, hR, hG⟩ := hi.out
          have hln : l.length = l0.length := hI.ins.len
          have hi1 : i + 1 < l.length := by omega
          have hi0 : i < l.length := by omega
          obtain ⟨c0, c1, c2, c3, c4, c5, c6, c7, c8, c9, c10⟩ := hR.at_ hi1
          obtain ⟨d0, d1, d2, d3, d4, d5, d6, d7, d8, d9, d10⟩ := hR.at_ hi0
          have hgz := lt_of_cell c0
          simp only at hgz
          have b1 : (0 : Int) ≤ (i : Int) + 1 := by omega
          have b2 : (i : Int) + 1 < (l0.length : Int) := by omega
          have b3 : (0 : Int) ≤ (i : Int) := by omega
          have b4 : (i : Int) < (l0.length : Int) := by omega
          have b5 : IntKind.i64.wrap (i : Int) = i := IntWalk.i64_in _ (by omega)
          have b6 : (a : Int) < (i : Int) + 1 := by omega
          have HI := Lib.hid hI
          have HR2 := Lib.hid hR
          have HG := Lib.hid hG
          have HLN := Lib.hid hln
          clear hI hR hG hln hi
          by_cases hc : l[i + 1].at_ < l[i].at_
          · have hcd := cmpI_neg hc
            have HS := Lib.hid (inner_step HI.out (by omega) hlt hi1 (by rw [tm_eq hi1, tm_eq hi0]; exact hc))
            go_wp2
            refine wp_region_held_drew (S := (fun w' => (w'.cell? ⟨g, o + (i + 1) * 11, none⟩ = some (.int .i64 l[i + 1].at_) ∧ w'.cell? ⟨g, o + (i + 1) * 11 + 1, none⟩ = some (.int .i64 l[i + 1].kind) ∧ w'.cell? ⟨g, o + (i + 1) * 11 + 2, none⟩ = some (.int .i64 l[i + 1].tbl) ∧ w'.cell? ⟨g, o + (i + 1) * 11 + 3, none⟩ = some (.int .i64 l[i + 1].wri) ∧ w'.cell? ⟨g, o + (i + 1) * 11 + 4, none⟩ = some (.int .i64 l[i + 1].rdr) ∧ w'.cell? ⟨g, o + (i + 1) * 11 + 5, none⟩ = some (.int .i64 l[i + 1].idx) ∧ w'.cell? ⟨g, o + (i + 1) * 11 + 6, none⟩ = some (.int .i64 l[i + 1].tok) ∧ w'.cell? ⟨g, o + (i + 1) * 11 + 7, none⟩ = some (.int .i64 l[i + 1].rnd) ∧ w'.cell? ⟨g, o + (i + 1) * 11 + 8, none⟩ = some (.int .i64 l[i + 1].rep) ∧ w'.cell? ⟨g, o + (i + 1) * 11 + 9, none⟩ = some (.int .i64 l[i + 1].ver) ∧ w'.cell? ⟨g, o + (i + 1) * 11 + 10, none⟩ = some (.int .i64 l[i + 1].hol)) ∧ (w'.cell? ⟨g, o + i * 11, none⟩ = some (.int .i64 l[i].at_) ∧ w'.cell? ⟨g, o + i * 11 + 1, none⟩ = some (.int .i64 l[i].kind) ∧ w'.cell? ⟨g, o + i * 11 + 2, none⟩ = some (.int .i64 l[i].tbl) ∧ w'.cell? ⟨g, o + i * 11 + 3, none⟩ = some (.int .i64 l[i].wri) ∧ w'.cell? ⟨g, o + i * 11 + 4, none⟩ = some (.int .i64 l[i].rdr) ∧ w'.cell? ⟨g, o + i * 11 + 5, none⟩ = some (.int .i64 l[i].idx) ∧ w'.cell? ⟨g, o + i * 11 + 6, none⟩ = some (.int .i64 l[i].tok) ∧ w'.cell? ⟨g, o + i * 11 + 7, none⟩ = some (.int .i64 l[i].rnd) ∧ w'.cell? ⟨g, o + i * 11 + 8, none⟩ = some (.int .i64 l[i].rep) ∧ w'.cell? ⟨g, o + i * 11 + 9, none⟩ = some (.int .i64 l[i].ver) ∧ w'.cell? ⟨g, o + i * 11 + 10, none⟩ = some (.int .i64 l[i].hol)))) (by kernel_rfl) ?_ (fun hHeld => ?_)
            · (try dsimp only); go_keep
            refine wpAnyH_take (i := 0) (v := ?v381) rfl (by kernel_rfl) (by kernel_rfl) (by kernel_rfl) (fun _ _ _ h => h) (Or.inl ⟨by rfl, ?hy381⟩) hHeld ?_
            case hy381 => (intro w hSw; (try dsimp only at hSw); go_simp; try with_reducible rfl)
            (try simp only [Act.put, List.setIfInBounds_toArray, List.set_cons_zero, List.set_cons_succ, List.getElem_toArray, List.getElem_cons_zero])
            refine wpAnyH_take (i := 1) (v := ?v382) rfl (by kernel_rfl) (by kernel_rfl) (by kernel_rfl) (fun _ _ _ h => h) (Or.inl ⟨by rfl, ?hy382⟩) hHeld ?_
            case hy382 => (intro w hSw; (try dsimp only at hSw); go_simp; try with_reducible rfl)
            (try simp only [Act.put, List.setIfInBounds_toArray, List.set_cons_zero, List.set_cons_succ, List.getElem_toArray, List.getElem_cons_zero, List.getElem_cons_succ])
            refine wpAnyH_take (i := 2) (v := ?v383) rfl (by kernel_rfl) (by kernel_rfl) (by kernel_rfl) (fun _ _ _ h => h) (Or.inl ⟨by rfl, ?hy383⟩) hHeld ?_
            case hy383 => (intro w hSw; (try dsimp only at hSw); go_simp; try with_reducible rfl)
            (try simp only [Act.put, List.setIfInBounds_toArray, List.set_cons_zero, List.set_cons_succ, List.getElem_toArray, List.getElem_cons_zero, List.getElem_cons_succ])
            refine wpAnyH_take (i := 3) (v := ?v384) rfl (by kernel_rfl) (by kernel_rfl) (by kernel_rfl) (fun _ _ _ h => h) (Or.inl ⟨by rfl, ?hy384⟩) hHeld ?_
            case hy384 => (intro w hSw; (try dsimp only at hSw); go_simp; try with_reducible rfl)
            (try simp only [Act.put, List.setIfInBounds_toArray, List.set_cons_zero, List.set_cons_succ, List.getElem_toArray, List.getElem_cons_zero, List.getElem_cons_succ])
            refine wpAnyH_take (i := 4) (v := ?v385) rfl (by kernel_rfl) (by kernel_rfl) (by kernel_rfl) (fun _ _ _ h => h) (Or.inl ⟨by rfl, ?hy385⟩) hHeld ?_
            case hy385 => (intro w hSw; (try dsimp only at hSw); go_simp; try with_reducible rfl)
            (try simp only [Act.put, List.setIfInBounds_toArray, List.set_cons_zero, List.set_cons_succ, List.getElem_toArray, List.getElem_cons_zero, List.getElem_cons_succ])
            refine wpAnyH_take (i := 5) (v := ?v386) rfl (by kernel_rfl) (by kernel_rfl) (by kernel_rfl) (fun _ _ _ h => h) (Or.inl ⟨by rfl, ?hy386⟩) hHeld ?_
            case hy386 => (intro w hSw; (try dsimp only at hSw); go_simp; try with_reducible rfl)
            (try simp only [Act.put, List.setIfInBounds_toArray, List.set_cons_zero, List.set_cons_succ, List.getElem_toArray, List.getElem_cons_zero, List.getElem_cons_succ])
            refine wpAnyH_take (i := 6) (v := ?v387) rfl (by kernel_rfl) (by kernel_rfl) (by kernel_rfl) (fun _ _ _ h => h) (Or.inl ⟨by rfl, ?hy387⟩) hHeld ?_
            case hy387 => (intro w hSw; (try dsimp only at hSw); go_simp; try with_reducible rfl)
            (try simp only [Act.put, List.setIfInBounds_toArray, List.set_cons_zero, List.set_cons_succ, List.getElem_toArray, List.getElem_cons_zero, List.getElem_cons_succ])
            refine wpAnyH_take (i := 7) (v := ?v388) rfl (by kernel_rfl) (by kernel_rfl) (by kernel_rfl) (fun _ _ _ h => h) (Or.inl ⟨by rfl, ?hy388⟩) hHeld ?_
            case hy388 => (intro w hSw; (try dsimp only at hSw); go_simp; try with_reducible rfl)
            (try simp only [Act.put, List.setIfInBounds_toArray, List.set_cons_zero, List.set_cons_succ, List.getElem_toArray, List.getElem_cons_zero, List.getElem_cons_succ])
            refine wpAnyH_take (i := 8) (v := ?v389) rfl (by kernel_rfl) (by kernel_rfl) (by kernel_rfl) (fun _ _ _ h => h) (Or.inl ⟨by rfl, ?hy389⟩) hHeld ?_
            case hy389 => (intro w hSw; (try dsimp only at hSw); go_simp; try with_reducible rfl)
            (try simp only [Act.put, List.setIfInBounds_toArray, List.set_cons_zero, List.set_cons_succ, List.getElem_toArray, List.getElem_cons_zero, List.getElem_cons_succ])
            refine wpAnyH_take (i := 9) (v := ?v390) rfl (by kernel_rfl) (by kernel_rfl) (by kernel_rfl) (fun _ _ _ h => h) (Or.inl ⟨by rfl, ?hy390⟩) hHeld ?_
            case hy390 => (intro w hSw; (try dsimp only at hSw); go_simp; try with_reducible rfl)
            (try simp only [Act.put, List.setIfInBounds_toArray, List.set_cons_zero, List.set_cons_succ, List.getElem_toArray, List.getElem_cons_zero, List.getElem_cons_succ])
            refine wpAnyH_take (i := 10) (v := ?v391) rfl (by kernel_rfl) (by kernel_rfl) (by kernel_rfl) (fun _ _ _ h => h) (Or.inl ⟨by rfl, ?hy391⟩) hHeld ?_
            case hy391 => (intro w hSw; (try dsimp only at hSw); go_simp; try with_reducible rfl)
            (try simp only [Act.put, List.setIfInBounds_toArray, List.set_cons_zero, List.set_cons_succ, List.getElem_toArray, List.getElem_cons_zero, List.getElem_cons_succ])
            refine wpAnyH_take (i := 11) (v := ?v392) rfl (by kernel_rfl) (by kernel_rfl) (by kernel_rfl) (fun _ _ _ h => h) (Or.inl ⟨by rfl, ?hy392⟩) hHeld ?_
            case hy392 => (intro w hSw; (try dsimp only at hSw); go_simp; try with_reducible rfl)
            (try simp only [Act.put, List.setIfInBounds_toArray, List.set_cons_zero, List.set_cons_succ, List.getElem_toArray, List.getElem_cons_zero, List.getElem_cons_succ])
            refine wpAnyH_take (i := 12) (v := ?v393) rfl (by kernel_rfl) (by kernel_rfl) (by kernel_rfl) (fun _ _ _ h => h) (Or.inl ⟨by rfl, ?hy393⟩) hHeld ?_
            case hy393 => (intro w hSw; (try dsimp only at hSw); go_simp; try with_reducible rfl)
            (try simp only [Act.put, List.setIfInBounds_toArray, List.set_cons_zero, List.set_cons_succ, List.getElem_toArray, List.getElem_cons_zero, List.getElem_cons_succ])
            refine wpAnyH_take (i := 13) (v := ?v394) rfl (by kernel_rfl) (by kernel_rfl) (by kernel_rfl) (fun _ _ _ h => h) (Or.inl ⟨by rfl, ?hy394⟩) hHeld ?_
            case hy394 => (intro w hSw; (try dsimp only at hSw); go_simp; try with_reducible rfl)
            (try simp only [Act.put, List.setIfInBounds_toArray, List.set_cons_zero, List.set_cons_succ, List.getElem_toArray, List.getElem_cons_zero, List.getElem_cons_succ])
            refine wpAnyH_ready (rs := [14]) (by kernel_rfl) (by simp) ?_
            refine (AllReadyH.cons rfl (fun K hK => ?_) AllReadyH.nil)
            go_simp
            (refine (cmpPt_any l[i + 1] l[i] _).mono ?_; rintro e w3 ⟨rfl, hb3⟩; replace hb3 := undrew hb3; have hc3 := bcell hb3)
            refine hK.out _ _ ?_ (fun hHeld => ?_)
            · (try dsimp only); go_keep
            clear hK K
            (try simp only [Act.put, List.setIfInBounds_toArray, List.set_cons_zero, List.set_cons_succ, List.getElem_toArray, List.getElem_cons_zero, List.getElem_cons_succ])
            refine wpAnyH_take (i := 15) (v := ?v395) rfl (by kernel_rfl) (by kernel_rfl) (by kernel_rfl) (fun _ _ _ h => h) (Or.inl ⟨by rfl, ?hy395⟩) hHeld ?_
            case hy395 => (intro w hSw; (try dsimp only at hSw); go_simp; try with_reducible rfl)
            (try simp only [Act.put, List.setIfInBounds_toArray, List.set_cons_zero, List.set_cons_succ, List.getElem_toArray, List.getElem_cons_zero, List.getElem_cons_succ])
            refine wpAnyH_take (i := 16) (v := ?v396) rfl (by kernel_rfl) (by kernel_rfl) (by kernel_rfl) (fun _ _ _ h => h) (Or.inl ⟨by rfl, ?hy396⟩) hHeld ?_
            case hy396 => (intro w hSw; (try dsimp only at hSw); go_simp; try with_reducible rfl)
            (try simp only [Act.put, List.setIfInBounds_toArray, List.set_cons_zero, List.set_cons_succ, List.getElem_toArray, List.getElem_cons_zero, List.getElem_cons_succ])
            refine wpAnyH_done (by kernel_rfl) ?_ _
            go_wp2
            have HR3 : Hid (RowR w3.drew g o l) := (HR2.out.below (by omega) hb3).keep rfl
            have HG3 : Hid (w.grownBy w3.drew (some g)) := grown_drew (HG.out.trans (grown_below hb3 _))
            have HR4 : Hid (RowR (w3.drew.setCells g (o + (i + 1) * 11) (l[i]).cs) g o (l.set (i + 1) l[i])) := HR3.out.set hi1 _
            have HR5 : Hid (RowR ((w3.drew.setCells g (o + (i + 1) * 11) (l[i]).cs).setCells g (o + i * 11) (l[i + 1]).cs) g o (swp l i hi1)) := HR4.out.set (by simp; omega) _
            have HG5 : Hid (w.grownBy ((w3.drew.setCells g (o + (i + 1) * 11) (l[i]).cs).setCells g (o + i * 11) (l[i + 1]).cs) (some g)) := (HG3.out.trans (grown_setCells _ _ _ _)).trans (grown_setCells _ _ _ _)
            have HT1 : Hid (w3.drew.there g (o + (i + 1) * 11) 11) := HR3.out.there_at hi1
            have HT2 : Hid ((w3.drew.setCells g (o + (i + 1) * 11) (l[i]).cs).there g (o + i * 11) 11) := HR4.out.there_at (by simp; omega)
            refine wp_region_any (by kernel_rfl) ?_
            (try (change wpAny _ _ _ _ _ _ _ (World.drew _)))
            refine wpAny_take (i := 0) (v := ?v397) rfl (by kernel_rfl) (by kernel_rfl) (by kernel_rfl) (fun _ _ _ h => h) (Or.inl ⟨by rfl, ?hy397⟩) ?_
            case hy397 => (intro w; go_simp; try with_reducible rfl)
            (try simp only [Act.put, List.setIfInBounds_toArray, List.set_cons_zero, List.set_cons_succ, List.getElem_toArray, List.getElem_cons_zero])
            refine wpAny_take (i := 1) (v := ?v398) rfl (by kernel_rfl) (by kernel_rfl) (by kernel_rfl) (fun _ _ _ h => h) (Or.inl ⟨by rfl, ?hy398⟩) ?_
            case hy398 => (intro w; go_simp; try with_reducible rfl)
            (try simp only [Act.put, List.setIfInBounds_toArray, List.set_cons_zero, List.set_cons_succ, List.getElem_toArray, List.getElem_cons_zero, List.getElem_cons_succ])
            refine wpAny_take (i := 2) (v := ?v399) rfl (by kernel_rfl) (by kernel_rfl) (by kernel_rfl) (fun _ _ _ h => h) (Or.inl ⟨by rfl, ?hy399⟩) ?_
            case hy399 => (intro w; go_simp; try with_reducible rfl)
            (try simp only [Act.put, List.setIfInBounds_toArray, List.set_cons_zero, List.set_cons_succ, List.getElem_toArray, List.getElem_cons_zero, List.getElem_cons_succ])
            refine wpAny_take (i := 3) (v := ?v400) rfl (by kernel_rfl) (by kernel_rfl) (by kernel_rfl) (fun _ _ _ h => h) (Or.inl ⟨by rfl, ?hy400⟩) ?_
            case hy400 => (intro w; go_simp; try with_reducible rfl)
            (try simp only [Act.put, List.setIfInBounds_toArray, List.set_cons_zero, List.set_cons_succ, List.getElem_toArray, List.getElem_cons_zero, List.getElem_cons_succ])
            refine wpAny_take (i := 4) (v := ?v401) rfl (by kernel_rfl) (by kernel_rfl) (by kernel_rfl) (fun _ _ _ h => h) (Or.inl ⟨by rfl, ?hy401⟩) ?_
            case hy401 => (intro w; go_simp; try with_reducible rfl)
            (try simp only [Act.put, List.setIfInBounds_toArray, List.set_cons_zero, List.set_cons_succ, List.getElem_toArray, List.getElem_cons_zero, List.getElem_cons_succ])
            refine wpAny_take (i := 5) (v := ?v402) rfl (by kernel_rfl) (by kernel_rfl) (by kernel_rfl) (fun _ _ _ h => h) (Or.inl ⟨by rfl, ?hy402⟩) ?_
            case hy402 => (intro w; go_simp; try with_reducible rfl)
            (try simp only [Act.put, List.setIfInBounds_toArray, List.set_cons_zero, List.set_cons_succ, List.getElem_toArray, List.getElem_cons_zero, List.getElem_cons_succ])
            refine wpAny_take (i := 6) (v := ?v403) rfl (by kernel_rfl) (by kernel_rfl) (by kernel_rfl) (fun _ _ _ h => h) (Or.inl ⟨by rfl, ?hy403⟩) ?_
            case hy403 => (intro w; go_simp; try with_reducible rfl)
            (try simp only [Act.put, List.setIfInBounds_toArray, List.set_cons_zero, List.set_cons_succ, List.getElem_toArray, List.getElem_cons_zero, List.getElem_cons_succ])
            refine wpAny_take (i := 7) (v := ?v404) rfl (by kernel_rfl) (by kernel_rfl) (by kernel_rfl) (fun _ _ _ h => h) (Or.inl ⟨by rfl, ?hy404⟩) ?_
            case hy404 => (intro w; go_simp; try with_reducible rfl)
            (try simp only [Act.put, List.setIfInBounds_toArray, List.set_cons_zero, List.set_cons_succ, List.getElem_toArray, List.getElem_cons_zero, List.getElem_cons_succ])
            refine wpAny_take (i := 8) (v := ?v405) rfl (by kernel_rfl) (by kernel_rfl) (by kernel_rfl) (fun _ _ _ h => h) (Or.inl ⟨by rfl, ?hy405⟩) ?_
            case hy405 => (intro w; go_simp; try with_reducible rfl)
            (try simp only [Act.put, List.setIfInBounds_toArray, List.set_cons_zero, List.set_cons_succ, List.getElem_toArray, List.getElem_cons_zero, List.getElem_cons_succ])
            refine wpAny_take (i := 10) (v := ?v406) rfl (by kernel_rfl) (by kernel_rfl) (by kernel_rfl) (fun _ _ _ h => h) (Or.inl ⟨by rfl, ?hy406⟩) ?_
            case hy406 => (intro w; go_simp; try with_reducible rfl)
            (try simp only [Act.put, List.setIfInBounds_toArray, List.set_cons_zero, List.set_cons_succ, List.getElem_toArray, List.getElem_cons_zero, List.getElem_cons_succ])
            refine wpAny_take (i := 11) (v := ?v407) rfl (by kernel_rfl) (by kernel_rfl) (by kernel_rfl) (fun _ _ _ h => h) (Or.inl ⟨by rfl, ?hy407⟩) ?_
            case hy407 => (intro w; go_simp; try with_reducible rfl)
            (try simp only [Act.put, List.setIfInBounds_toArray, List.set_cons_zero, List.set_cons_succ, List.getElem_toArray, List.getElem_cons_zero, List.getElem_cons_succ])
            refine wpAny_take (i := 12) (v := ?v408) rfl (by kernel_rfl) (by kernel_rfl) (by kernel_rfl) (fun _ _ _ h => h) (Or.inl ⟨by rfl, ?hy408⟩) ?_
            case hy408 => (intro w; go_simp; try with_reducible rfl)
            (try simp only [Act.put, List.setIfInBounds_toArray, List.set_cons_zero, List.set_cons_succ, List.getElem_toArray, List.getElem_cons_zero, List.getElem_cons_succ])
            refine wpAny_ready (rs := [9, 13]) (by kernel_rfl) (by simp) ?_
            refine (AllReady.cons rfl (fun K hK => ?_) (AllReady.cons rfl (fun K hK => ?_) AllReady.nil))
            ·
              go_simp
              refine hK _ _ ?_
              clear hK K
              (try simp only [Act.put, List.setIfInBounds_toArray, List.set_cons_zero, List.set_cons_succ, List.getElem_toArray, List.getElem_cons_zero, List.getElem_cons_succ])
              refine wpAny_ready (rs := [13]) (by kernel_rfl) (by simp) ?_
              refine (AllReady.cons rfl (fun K hK => ?_) AllReady.nil)
              go_simp
              refine hK _ _ ?_
              clear hK K
              (try simp only [Act.put, List.setIfInBounds_toArray, List.set_cons_zero, List.set_cons_succ, List.getElem_toArray, List.getElem_cons_zero, List.getElem_cons_succ])
              refine wpAny_take (i := 14) (v := ?v409) rfl (by kernel_rfl) (by kernel_rfl) (by kernel_rfl) (fun _ _ _ h => h) (Or.inl ⟨by rfl, ?hy409⟩) ?_
              case hy409 => (intro w; go_simp; try with_reducible rfl)
              (try simp only [Act.put, List.setIfInBounds_toArray, List.set_cons_zero, List.set_cons_succ, List.getElem_toArray, List.getElem_cons_zero, List.getElem_cons_succ])
              refine wpAny_ready (rs := [15]) (by kernel_rfl) (by simp) ?_
              refine (AllReady.cons rfl (fun K hK => ?_) AllReady.nil)
              (simp only [List.getElem_toArray, List.getElem_cons_zero, List.getElem_cons_succ]; rw [if_pos (by rfl)]; refine wp_store_mid 23 (.tmp 51) (.tmp 46) rfl (g) (o + (i + 1) * 11) ((l[i]).cs.toArray) (by rfl) (by rfl) ?_ ?_ ?_ ?_; (exact HT1.out); (exact pt_info); (exact pt_one _))
              refine hK _ _ ?_
              clear hK K
              (try simp only [Act.put])
              refine wpAny_take (i := 16) (v := ?v410) rfl (by kernel_rfl) (by kernel_rfl) (by kernel_rfl) (fun _ _ _ h => h) (Or.inl ⟨by rfl, ?hy410⟩) ?_
              case hy410 => (intro w; go_simp; try with_reducible rfl)
              (try simp only [Act.put, List.setIfInBounds_toArray, List.set_cons_zero, List.set_cons_succ, List.getElem_toArray, List.getElem_cons_zero, List.getElem_cons_succ])
              refine wpAny_ready (rs := [17]) (by kernel_rfl) (by simp) ?_
              refine (AllReady.cons rfl (fun K hK => ?_) AllReady.nil)
              (generalize w3.drew.setCells g (o + (i + 1) * 11) l[i].cs = w4 at *; simp only [List.getElem_toArray, List.getElem_cons_zero, List.getElem_cons_succ]; rw [if_pos (by rfl)]; refine wp_store_mid 23 (.tmp 52) (.tmp 50) rfl (g) (o + i * 11) ((l[i + 1]).cs.toArray) (by rfl) (by rfl) ?_ ?_ ?_ ?_; (exact HT2.out); (exact pt_info); (exact pt_one _))
              refine hK _ _ ?_
              clear hK K
              (try simp only [Act.put])
              refine wpAny_done (by kernel_rfl) ?_ _
              (go_wp2; go_roundw; (case rel => exact ⟨i, by omega, by omega, by go_num, swp l i hi1, HS.out, HR5.out, HG5.out⟩); (case measure => simp [intOf]))
            ·
              go_simp
              refine hK _ _ ?_
              clear hK K
              (try simp only [Act.put, List.setIfInBounds_toArray, List.set_cons_zero, List.set_cons_succ, List.getElem_toArray, List.getElem_cons_zero, List.getElem_cons_succ])
              refine wpAny_ready (rs := [9]) (by kernel_rfl) (by simp) ?_
              refine (AllReady.cons rfl (fun K hK => ?_) AllReady.nil)
              go_simp
              refine hK _ _ ?_
              clear hK K
              (try simp only [Act.put, List.setIfInBounds_toArray, List.set_cons_zero, List.set_cons_succ, List.getElem_toArray, List.getElem_cons_zero, List.getElem_cons_succ])
              refine wpAny_take (i := 14) (v := ?v411) rfl (by kernel_rfl) (by kernel_rfl) (by kernel_rfl) (fun _ _ _ h => h) (Or.inl ⟨by rfl, ?hy411⟩) ?_
              case hy411 => (intro w; go_simp; try with_reducible rfl)
              (try simp only [Act.put, List.setIfInBounds_toArray, List.set_cons_zero, List.set_cons_succ, List.getElem_toArray, List.getElem_cons_zero, List.getElem_cons_succ])
              refine wpAny_ready (rs := [15]) (by kernel_rfl) (by simp) ?_
              refine (AllReady.cons rfl (fun K hK => ?_) AllReady.nil)
              (simp only [List.getElem_toArray, List.getElem_cons_zero, List.getElem_cons_succ]; rw [if_pos (by rfl)]; refine wp_store_mid 23 (.tmp 51) (.tmp 46) rfl (g) (o + (i + 1) * 11) ((l[i]).cs.toArray) (by rfl) (by rfl) ?_ ?_ ?_ ?_; (exact HT1.out); (exact pt_info); (exact pt_one _))
              refine hK _ _ ?_
              clear hK K
              (try simp only [Act.put])
              refine wpAny_take (i := 16) (v := ?v412) rfl (by kernel_rfl) (by kernel_rfl) (by kernel_rfl) (fun _ _ _ h => h) (Or.inl ⟨by rfl, ?hy412⟩) ?_
              case hy412 => (intro w; go_simp; try with_reducible rfl)
              (try simp only [Act.put, List.setIfInBounds_toArray, List.set_cons_zero, List.set_cons_succ, List.getElem_toArray, List.getElem_cons_zero, List.getElem_cons_succ])
              refine wpAny_ready (rs := [17]) (by kernel_rfl) (by simp) ?_
              refine (AllReady.cons rfl (fun K hK => ?_) AllReady.nil)
              (generalize w3.drew.setCells g (o + (i + 1) * 11) l[i].cs = w4 at *; simp only [List.getElem_toArray, List.getElem_cons_zero, List.getElem_cons_succ]; rw [if_pos (by rfl)]; refine wp_store_mid 23 (.tmp 52) (.tmp 50) rfl (g) (o + i * 11) ((l[i + 1]).cs.toArray) (by rfl) (by rfl) ?_ ?_ ?_ ?_; (exact HT2.out); (exact pt_info); (exact pt_one _))
              refine hK _ _ ?_
              clear hK K
              (try simp only [Act.put])
              refine wpAny_done (by kernel_rfl) ?_ _
              (go_wp2; go_roundw; (case rel => exact ⟨i, by omega, by omega, by go_num, swp l i hi1, HS.out, HR5.out, HG5.out⟩); (case measure => simp [intOf]))
          · have hcd := cmpI_nneg hc
            go_wp2
            refine wp_region_held_drew (S := (fun w' => (w'.cell? ⟨g, o + (i + 1) * 11, none⟩ = some (.int .i64 l[i + 1].at_) ∧ w'.cell? ⟨g, o + (i + 1) * 11 + 1, none⟩ = some (.int .i64 l[i + 1].kind) ∧ w'.cell? ⟨g, o + (i + 1) * 11 + 2, none⟩ = some (.int .i64 l[i + 1].tbl) ∧ w'.cell? ⟨g, o + (i + 1) * 11 + 3, none⟩ = some (.int .i64 l[i + 1].wri) ∧ w'.cell? ⟨g, o + (i + 1) * 11 + 4, none⟩ = some (.int .i64 l[i + 1].rdr) ∧ w'.cell? ⟨g, o + (i + 1) * 11 + 5, none⟩ = some (.int .i64 l[i + 1].idx) ∧ w'.cell? ⟨g, o + (i + 1) * 11 + 6, none⟩ = some (.int .i64 l[i + 1].tok) ∧ w'.cell? ⟨g, o + (i + 1) * 11 + 7, none⟩ = some (.int .i64 l[i + 1].rnd) ∧ w'.cell? ⟨g, o + (i + 1) * 11 + 8, none⟩ = some (.int .i64 l[i + 1].rep) ∧ w'.cell? ⟨g, o + (i + 1) * 11 + 9, none⟩ = some (.int .i64 l[i + 1].ver) ∧ w'.cell? ⟨g, o + (i + 1) * 11 + 10, none⟩ = some (.int .i64 l[i + 1].hol)) ∧ (w'.cell? ⟨g, o + i * 11, none⟩ = some (.int .i64 l[i].at_) ∧ w'.cell? ⟨g, o + i * 11 + 1, none⟩ = some (.int .i64 l[i].kind) ∧ w'.cell? ⟨g, o + i * 11 + 2, none⟩ = some (.int .i64 l[i].tbl) ∧ w'.cell? ⟨g, o + i * 11 + 3, none⟩ = some (.int .i64 l[i].wri) ∧ w'.cell? ⟨g, o + i * 11 + 4, none⟩ = some (.int .i64 l[i].rdr) ∧ w'.cell? ⟨g, o + i * 11 + 5, none⟩ = some (.int .i64 l[i].idx) ∧ w'.cell? ⟨g, o + i * 11 + 6, none⟩ = some (.int .i64 l[i].tok) ∧ w'.cell? ⟨g, o + i * 11 + 7, none⟩ = some (.int .i64 l[i].rnd) ∧ w'.cell? ⟨g, o + i * 11 + 8, none⟩ = some (.int .i64 l[i].rep) ∧ w'.cell? ⟨g, o + i * 11 + 9, none⟩ = some (.int .i64 l[i].ver) ∧ w'.cell? ⟨g, o + i * 11 + 10, none⟩ = some (.int .i64 l[i].hol)))) (by kernel_rfl) ?_ (fun hHeld => ?_)
            · (try dsimp only); go_keep
            refine wpAnyH_take (i := 0) (v := ?v413) rfl (by kernel_rfl) (by kernel_rfl) (by kernel_rfl) (fun _ _ _ h => h) (Or.inl ⟨by rfl, ?hy413⟩) hHeld ?_
            case hy413 => (intro w hSw; (try dsimp only at hSw); go_simp; try with_reducible rfl)
            (try simp only [Act.put, List.setIfInBounds_toArray, List.set_cons_zero, List.set_cons_succ, List.getElem_toArray, List.getElem_cons_zero])
            refine wpAnyH_take (i := 1) (v := ?v414) rfl (by kernel_rfl) (by kernel_rfl) (by kernel_rfl) (fun _ _ _ h => h) (Or.inl ⟨by rfl, ?hy414⟩) hHeld ?_
            case hy414 => (intro w hSw; (try dsimp only at hSw); go_simp; try with_reducible rfl)
            (try simp only [Act.put, List.setIfInBounds_toArray, List.set_cons_zero, List.set_cons_succ, List.getElem_toArray, List.getElem_cons_zero, List.getElem_cons_succ])
            refine wpAnyH_take (i := 2) (v := ?v415) rfl (by kernel_rfl) (by kernel_rfl) (by kernel_rfl) (fun _ _ _ h => h) (Or.inl ⟨by rfl, ?hy415⟩) hHeld ?_
            case hy415 => (intro w hSw; (try dsimp only at hSw); go_simp; try with_reducible rfl)
            (try simp only [Act.put, List.setIfInBounds_toArray, List.set_cons_zero, List.set_cons_succ, List.getElem_toArray, List.getElem_cons_zero, List.getElem_cons_succ])
            refine wpAnyH_take (i := 3) (v := ?v416) rfl (by kernel_rfl) (by kernel_rfl) (by kernel_rfl) (fun _ _ _ h => h) (Or.inl ⟨by rfl, ?hy416⟩) hHeld ?_
            case hy416 => (intro w hSw; (try dsimp only at hSw); go_simp; try with_reducible rfl)
            (try simp only [Act.put, List.setIfInBounds_toArray, List.set_cons_zero, List.set_cons_succ, List.getElem_toArray, List.getElem_cons_zero, List.getElem_cons_succ])
            refine wpAnyH_take (i := 4) (v := ?v417) rfl (by kernel_rfl) (by kernel_rfl) (by kernel_rfl) (fun _ _ _ h => h) (Or.inl ⟨by rfl, ?hy417⟩) hHeld ?_
            case hy417 => (intro w hSw; (try dsimp only at hSw); go_simp; try with_reducible rfl)
            (try simp only [Act.put, List.setIfInBounds_toArray, List.set_cons_zero, List.set_cons_succ, List.getElem_toArray, List.getElem_cons_zero, List.getElem_cons_succ])
            refine wpAnyH_take (i := 5) (v := ?v418) rfl (by kernel_rfl) (by kernel_rfl) (by kernel_rfl) (fun _ _ _ h => h) (Or.inl ⟨by rfl, ?hy418⟩) hHeld ?_
            case hy418 => (intro w hSw; (try dsimp only at hSw); go_simp; try with_reducible rfl)
            (try simp only [Act.put, List.setIfInBounds_toArray, List.set_cons_zero, List.set_cons_succ, List.getElem_toArray, List.getElem_cons_zero, List.getElem_cons_succ])
            refine wpAnyH_take (i := 6) (v := ?v419) rfl (by kernel_rfl) (by kernel_rfl) (by kernel_rfl) (fun _ _ _ h => h) (Or.inl ⟨by rfl, ?hy419⟩) hHeld ?_
            case hy419 => (intro w hSw; (try dsimp only at hSw); go_simp; try with_reducible rfl)
            (try simp only [Act.put, List.setIfInBounds_toArray, List.set_cons_zero, List.set_cons_succ, List.getElem_toArray, List.getElem_cons_zero, List.getElem_cons_succ])
            refine wpAnyH_take (i := 7) (v := ?v420) rfl (by kernel_rfl) (by kernel_rfl) (by kernel_rfl) (fun _ _ _ h => h) (Or.inl ⟨by rfl, ?hy420⟩) hHeld ?_
            case hy420 => (intro w hSw; (try dsimp only at hSw); go_simp; try with_reducible rfl)
            (try simp only [Act.put, List.setIfInBounds_toArray, List.set_cons_zero, List.set_cons_succ, List.getElem_toArray, List.getElem_cons_zero, List.getElem_cons_succ])
            refine wpAnyH_take (i := 8) (v := ?v421) rfl (by kernel_rfl) (by kernel_rfl) (by kernel_rfl) (fun _ _ _ h => h) (Or.inl ⟨by rfl, ?hy421⟩) hHeld ?_
            case hy421 => (intro w hSw; (try dsimp only at hSw); go_simp; try with_reducible rfl)
            (try simp only [Act.put, List.setIfInBounds_toArray, List.set_cons_zero, List.set_cons_succ, List.getElem_toArray, List.getElem_cons_zero, List.getElem_cons_succ])
            refine wpAnyH_take (i := 9) (v := ?v422) rfl (by kernel_rfl) (by kernel_rfl) (by kernel_rfl) (fun _ _ _ h => h) (Or.inl ⟨by rfl, ?hy422⟩) hHeld ?_
            case hy422 => (intro w hSw; (try dsimp only at hSw); go_simp; try with_reducible rfl)
            (try simp only [Act.put, List.setIfInBounds_toArray, List.set_cons_zero, List.set_cons_succ, List.getElem_toArray, List.getElem_cons_zero, List.getElem_cons_succ])
            refine wpAnyH_take (i := 10) (v := ?v423) rfl (by kernel_rfl) (by kernel_rfl) (by kernel_rfl) (fun _ _ _ h => h) (Or.inl ⟨by rfl, ?hy423⟩) hHeld ?_
            case hy423 => (intro w hSw; (try dsimp only at hSw); go_simp; try with_reducible rfl)
            (try simp only [Act.put, List.setIfInBounds_toArray, List.set_cons_zero, List.set_cons_succ, List.getElem_toArray, List.getElem_cons_zero, List.getElem_cons_succ])
            refine wpAnyH_take (i := 11) (v := ?v424) rfl (by kernel_rfl) (by kernel_rfl) (by kernel_rfl) (fun _ _ _ h => h) (Or.inl ⟨by rfl, ?hy424⟩) hHeld ?_
            case hy424 => (intro w hSw; (try dsimp only at hSw); go_simp; try with_reducible rfl)
            (try simp only [Act.put, List.setIfInBounds_toArray, List.set_cons_zero, List.set_cons_succ, List.getElem_toArray, List.getElem_cons_zero, List.getElem_cons_succ])
            refine wpAnyH_take (i := 12) (v := ?v425) rfl (by kernel_rfl) (by kernel_rfl) (by kernel_rfl) (fun _ _ _ h => h) (Or.inl ⟨by rfl, ?hy425⟩) hHeld ?_
            case hy425 => (intro w hSw; (try dsimp only at hSw); go_simp; try with_reducible rfl)
            (try simp only [Act.put, List.setIfInBounds_toArray, List.set_cons_zero, List.set_cons_succ, List.getElem_toArray, List.getElem_cons_zero, List.getElem_cons_succ])
            refine wpAnyH_take (i := 13) (v := ?v426) rfl (by kernel_rfl) (by kernel_rfl) (by kernel_rfl) (fun _ _ _ h => h) (Or.inl ⟨by rfl, ?hy426⟩) hHeld ?_
            case hy426 => (intro w hSw; (try dsimp only at hSw); go_simp; try with_reducible rfl)
            (try simp only [Act.put, List.setIfInBounds_toArray, List.set_cons_zero, List.set_cons_succ, List.getElem_toArray, List.getElem_cons_zero, List.getElem_cons_succ])
            refine wpAnyH_ready (rs := [14]) (by kernel_rfl) (by simp) ?_
            refine (AllReadyH.cons rfl (fun K hK => ?_) AllReadyH.nil)
            go_simp
            (refine (cmpPt_any l[i + 1] l[i] _).mono ?_; rintro e w3 ⟨rfl, hb3⟩; replace hb3 := undrew hb3; have hc3 := bcell hb3)
            refine hK.out _ _ ?_ (fun hHeld => ?_)
            · (try dsimp only); go_keep
            clear hK K
            (try simp only [Act.put, List.setIfInBounds_toArray, List.set_cons_zero, List.set_cons_succ, List.getElem_toArray, List.getElem_cons_zero, List.getElem_cons_succ])
            refine wpAnyH_take (i := 15) (v := ?v427) rfl (by kernel_rfl) (by kernel_rfl) (by kernel_rfl) (fun _ _ _ h => h) (Or.inl ⟨by rfl, ?hy427⟩) hHeld ?_
            case hy427 => (intro w hSw; (try dsimp only at hSw); go_simp; try with_reducible rfl)
            (try simp only [Act.put, List.setIfInBounds_toArray, List.set_cons_zero, List.set_cons_succ, List.getElem_toArray, List.getElem_cons_zero, List.getElem_cons_succ])
            refine wpAnyH_take (i := 16) (v := ?v428) rfl (by kernel_rfl) (by kernel_rfl) (by kernel_rfl) (fun _ _ _ h => h) (Or.inl ⟨by rfl, ?hy428⟩) hHeld ?_
            case hy428 => (intro w hSw; (try dsimp only at hSw); go_simp; try with_reducible rfl)
            (try simp only [Act.put, List.setIfInBounds_toArray, List.set_cons_zero, List.set_cons_succ, List.getElem_toArray, List.getElem_cons_zero, List.getElem_cons_succ])
            refine wpAnyH_done (by kernel_rfl) ?_ _
            go_wp2
            go_roundw
            case rel =>
              exact ⟨k + 1, by omega, by omega, by go_num, l, HI.out.ins, inner_end HI.out (.inr (by rw [tm_eq hi1, Nat.add_sub_cancel, tm_eq hi0]; omega)), HR2.out.below (by omega) hb3, HG.out.trans (grown_below hb3 _)⟩
            case measure => simp [intOf]; omega
    · go_wp2
      go_end0
      obtain ⟨l, h1, h2, h3, h4⟩ := hh.out
      refine ⟨rfl, l, h1, ?_, h3, h4⟩
      rcases hkb with h | h
      · obtain rfl : k = b := by omega
        exact h2
      · intro x y hx hy hz; omega
end Go.Proofs.YtcmnmcholfellaaDoor
