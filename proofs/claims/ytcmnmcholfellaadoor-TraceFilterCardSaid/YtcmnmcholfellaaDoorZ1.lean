/-
  Walks: comparing two points by time; insertion sort of a part of a slice of points.
-/
import Derived.Test.YtcmnmcholfellaaDoorR0
import Derived.Test.YtcmnmcholfellaaDoorM1
namespace Go.Proofs.YtcmnmcholfellaaDoor
open Go.RowKit

/-- cmp.Compare of two numbers. -/
def cmpI (x y : Int) : Int := if x < y then -1 else if y < x then 1 else 0

theorem isNaN_any (x : Int) (w : World) : Calls Tryd.prog 64 #[.int .i64 x] w fun e w' => e = .returned (.bool false) ∧ w = w' := by
  have h : (x != x) = false := by simp
  go_enter Tryd.func64, Tryd.ntmps64
  go_wp2
  go_ret
  exact ⟨rfl, rfl⟩

set_option maxHeartbeats 400000 in
theorem compare_any (x y : Int) (w : World) : Calls Tryd.prog 43 #[.int .i64 x, .int .i64 y] w fun e w' => e = .returned (.int .i64 (cmpI x y)) ∧ w = w' := by
  by_cases h1 : x < y
  · have HC := Lib.hid (show cmpI x y = -1 by simp [cmpI, h1])
    go_enter Tryd.func43, Tryd.ntmps43
    go_wp2_with (go_at_call 64; refine (isNaN_any _ _).mono ?_; rintro e w' ⟨rfl, rfl⟩)
    go_ret
    exact ⟨by rw [HC.out]; rfl, rfl⟩
  · by_cases h2 : y < x
    · have HC := Lib.hid (show cmpI x y = 1 by simp [cmpI, h1, h2])
      go_enter Tryd.func43, Tryd.ntmps43
      go_wp2_with (go_at_call 64; refine (isNaN_any _ _).mono ?_; rintro e w' ⟨rfl, rfl⟩)
      go_ret
      exact ⟨by rw [HC.out]; rfl, rfl⟩
    · have HC := Lib.hid (show cmpI x y = 0 by simp [cmpI, h1, h2])
      go_enter Tryd.func43, Tryd.ntmps43
      go_wp2_with (go_at_call 64; refine (isNaN_any _ _).mono ?_; rintro e w' ⟨rfl, rfl⟩)
      go_ret
      exact ⟨by rw [HC.out]; rfl, rfl⟩

set_option maxHeartbeats 400000 in
theorem cmpPt_any (p q : Pt) (w : World) : Calls Tryd.prog 42 #[p.v, q.v] w fun e w' => e = .returned (.int .i64 (cmpI p.at_ q.at_)) ∧ Below w.heap.size w w' := by
  go_enter Tryd.func42, Tryd.ntmps42
  go_wp2_with (go_at_call 43; refine (compare_any _ _ _).mono ?_; rintro e w' ⟨rfl, rfl⟩)
  go_ret
  exact ⟨rfl, ((Below.refl _ _).alloc (Nat.le_refl _) _).alloc (by simp) _⟩

theorem cmpI_neg {x y : Int} (h : x < y) : decide (cmpI x y < 0) = true := by simp [cmpI, h]
theorem cmpI_nneg {x y : Int} (h : ¬ x < y) : decide (cmpI x y < 0) = false := by
  simp only [cmpI, if_neg h]; split <;> simp

/-- The function value that compares. -/
abbrev cmpF : Value := .func (.func 42) #[] #[]

/-- What sorting in place leaves. -/
def SortPost (l0 : List Pt) (a b : Nat) (g o : Nat) (w : World) (e : Ending) (w' : World) : Prop :=
  e = .returned (.tuple #[]) ∧ ∃ l, Ins l0 a b l ∧ SortedOn l a b ∧ RowR w' g o l ∧ w.grownBy w' (some g)

set_option maxHeartbeats 4000000 in
set_option maxRecDepth 100000 in
theorem insertion_any (l0 : List Pt) (a b : Nat) (hab : a ≤ b) (hbn : b ≤ l0.length) (hn : l0.length ≤ 1000000) (g o c : Nat) (w : World) (hr : RowR w g o l0) :
    Calls Tryd.prog 79 #[.slice (some ⟨g, o, none⟩) l0.length c, .int .i64 a, .int .i64 b, cmpF] w (SortPost l0 a b g o w) := by
  have HR := Lib.hid hr
  clear hr
  go_enter Tryd.func79, Tryd.ntmps79
  go_wp2
  go_loopw [8] (fun i wr => ∃ k : Nat, a < k ∧ (k ≤ b ∨ k = a + 1) ∧ i = .int .i64 k ∧ Hid (∃ l, Ins l0 a b l ∧ SortedOn l a k ∧ RowR wr g o l ∧ w.grownBy wr (some g))) (fun i _ => b - (intOf i).toNat)
  case atStart => exact ⟨a + 1, by omega, .inr rfl, by go_num, l0, Ins.refl _ _ _, fun x y h1 h2 h3 => by omega, HR.out, grown_refl _ _⟩
  case round =>
    obtain ⟨k, hak, hkb, rfl, hh⟩ := hrel
    by_cases hlt : k < b
    · obtain ⟨wo, rfl⟩ : ∃ wo : World, wo = wr := ⟨_, rfl⟩
      have hkb' : k ≤ b := by omega
      go_wp2
      go_loopw [9] (fun i wi => ∃ j : Nat, a ≤ j ∧ j ≤ k ∧ i = .int .i64 j ∧ Hid (∃ l, Inner l0 a b k j l ∧ RowR wi g o l ∧ w.grownBy wi (some g))) (fun i _ => (intOf i).toNat)
      case atStart =>
        obtain ⟨l, h1, h2, h3, h4⟩ := hh.out
        exact ⟨k, by omega, by omega, rfl, l, inner_start h1 (by omega) h2, h3, h4⟩
      case round =>
        obtain ⟨j, haj, hjk, rfl, hi⟩ := hrel
        by_cases hja : j = a
        · subst hja
          have hg3 : decide ((j : Int) < (j : Int)) = false := by simp
          go_wp2
          refine wp_region_held_drew (S := (fun _ => True)) (by kernel_rfl) ?_ (fun hHeld => ?_)
          · (try dsimp only); (try trivial)
          refine wpAnyH_take (i := 0) (v := ?v0) rfl (by kernel_rfl) (by kernel_rfl) (by kernel_rfl) (fun _ _ _ h => h) (Or.inl ⟨by rfl, ?hy0⟩) hHeld ?_
          case hy0 => (intro w hSw; (try dsimp only at hSw); go_simp; try with_reducible rfl)
          (try simp only [Act.put, List.setIfInBounds_toArray, List.set_cons_zero, List.set_cons_succ, List.getElem_toArray, List.getElem_cons_zero])
          refine wpAnyH_take (i := 1) (v := ?v1) rfl (by kernel_rfl) (by kernel_rfl) (by kernel_rfl) (fun _ _ _ h => h) (Or.inl ⟨by rfl, ?hy1⟩) hHeld ?_
          case hy1 => (intro w hSw; (try dsimp only at hSw); go_simp; try with_reducible rfl)
          (try simp only [Act.put, List.setIfInBounds_toArray, List.set_cons_zero, List.set_cons_succ, List.getElem_toArray, List.getElem_cons_zero, List.getElem_cons_succ])
          refine wpAnyH_take (i := 2) (v := ?v2) rfl (by kernel_rfl) (by kernel_rfl) (by kernel_rfl) (fun _ _ _ h => h) (Or.inl ⟨by rfl, ?hy2⟩) hHeld ?_
          case hy2 => (intro w hSw; (try dsimp only at hSw); go_simp; try with_reducible rfl)
          (try simp only [Act.put, List.setIfInBounds_toArray, List.set_cons_zero, List.set_cons_succ, List.getElem_toArray, List.getElem_cons_zero, List.getElem_cons_succ])
          refine wpAnyH_take (i := 3) (v := ?v3) rfl (by kernel_rfl) (by kernel_rfl) (by kernel_rfl) (fun _ _ _ h => h) (Or.inl ⟨by rfl, ?hy3⟩) hHeld ?_
          case hy3 => (intro w hSw; (try dsimp only at hSw); go_simp; try with_reducible rfl)
          (try simp only [Act.put, List.setIfInBounds_toArray, List.set_cons_zero, List.set_cons_succ, List.getElem_toArray, List.getElem_cons_zero, List.getElem_cons_succ])
          refine wpAnyH_take (i := 4) (v := undef) rfl (by kernel_rfl) (by kernel_rfl) (by kernel_rfl) (fun _ _ _ h => h) (Or.inr ⟨by rfl, rfl⟩) hHeld ?_
          (try simp only [Act.put, List.setIfInBounds_toArray, List.set_cons_zero, List.set_cons_succ, List.getElem_toArray, List.getElem_cons_zero, List.getElem_cons_succ])
          refine wpAnyH_take (i := 5) (v := undef) rfl (by kernel_rfl) (by kernel_rfl) (by kernel_rfl) (fun _ _ _ h => h) (Or.inr ⟨by rfl, rfl⟩) hHeld ?_
          (try simp only [Act.put, List.setIfInBounds_toArray, List.set_cons_zero, List.set_cons_succ, List.getElem_toArray, List.getElem_cons_zero, List.getElem_cons_succ])
          refine wpAnyH_take (i := 6) (v := undef) rfl (by kernel_rfl) (by kernel_rfl) (by kernel_rfl) (fun _ _ _ h => h) (Or.inr ⟨by rfl, rfl⟩) hHeld ?_
          (try simp only [Act.put, List.setIfInBounds_toArray, List.set_cons_zero, List.set_cons_succ, List.getElem_toArray, List.getElem_cons_zero, List.getElem_cons_succ])
          refine wpAnyH_take (i := 7) (v := undef) rfl (by kernel_rfl) (by kernel_rfl) (by kernel_rfl) (fun _ _ _ h => h) (Or.inr ⟨by rfl, rfl⟩) hHeld ?_
          (try simp only [Act.put, List.setIfInBounds_toArray, List.set_cons_zero, List.set_cons_succ, List.getElem_toArray, List.getElem_cons_zero, List.getElem_cons_succ])
          refine wpAnyH_take (i := 8) (v := undef) rfl (by kernel_rfl) (by kernel_rfl) (by kernel_rfl) (fun _ _ _ h => h) (Or.inr ⟨by rfl, rfl⟩) hHeld ?_
          (try simp only [Act.put, List.setIfInBounds_toArray, List.set_cons_zero, List.set_cons_succ, List.getElem_toArray, List.getElem_cons_zero, List.getElem_cons_succ])
          refine wpAnyH_take (i := 9) (v := undef) rfl (by kernel_rfl) (by kernel_rfl) (by kernel_rfl) (fun _ _ _ h => h) (Or.inr ⟨by rfl, rfl⟩) hHeld ?_
          (try simp only [Act.put, List.setIfInBounds_toArray, List.set_cons_zero, List.set_cons_succ, List.getElem_toArray, List.getElem_cons_zero, List.getElem_cons_succ])
          refine wpAnyH_take (i := 10) (v := undef) rfl (by kernel_rfl) (by kernel_rfl) (by kernel_rfl) (fun _ _ _ h => h) (Or.inr ⟨by rfl, rfl⟩) hHeld ?_
          (try simp only [Act.put, List.setIfInBounds_toArray, List.set_cons_zero, List.set_cons_succ, List.getElem_toArray, List.getElem_cons_zero, List.getElem_cons_succ])
          refine wpAnyH_take (i := 11) (v := undef) rfl (by kernel_rfl) (by kernel_rfl) (by kernel_rfl) (fun _ _ _ h => h) (Or.inr ⟨by rfl, rfl⟩) hHeld ?_
          (try simp only [Act.put, List.setIfInBounds_toArray, List.set_cons_zero, List.set_cons_succ, List.getElem_toArray, List.getElem_cons_zero, List.getElem_cons_succ])
          refine wpAnyH_take (i := 12) (v := undef) rfl (by kernel_rfl) (by kernel_rfl) (by kernel_rfl) (fun _ _ _ h => h) (Or.inr ⟨by rfl, rfl⟩) hHeld ?_
          (try simp only [Act.put, List.setIfInBounds_toArray, List.set_cons_zero, List.set_cons_succ, List.getElem_toArray, List.getElem_cons_zero, List.getElem_cons_succ])
          refine wpAnyH_take (i := 13) (v := undef) rfl (by kernel_rfl) (by kernel_rfl) (by kernel_rfl) (fun _ _ _ h => h) (Or.inr ⟨by rfl, rfl⟩) hHeld ?_
          (try simp only [Act.put, List.setIfInBounds_toArray, List.set_cons_zero, List.set_cons_succ, List.getElem_toArray, List.getElem_cons_zero, List.getElem_cons_succ])
          refine wpAnyH_take (i := 14) (v := undef) rfl (by kernel_rfl) (by kernel_rfl) (by kernel_rfl) (fun _ _ _ h => h) (Or.inr ⟨by rfl, rfl⟩) hHeld ?_
          (try simp only [Act.put, List.setIfInBounds_toArray, List.set_cons_zero, List.set_cons_succ, List.getElem_toArray, List.getElem_cons_zero, List.getElem_cons_succ])
          refine wpAnyH_take (i := 15) (v := undef) rfl (by kernel_rfl) (by kernel_rfl) (by kernel_rfl) (fun _ _ _ h => h) (Or.inr ⟨by rfl, rfl⟩) hHeld ?_
          (try simp only [Act.put, List.setIfInBounds_toArray, List.set_cons_zero, List.set_cons_succ, List.getElem_toArray, List.getElem_cons_zero, List.getElem_cons_succ])
          refine wpAnyH_take (i := 16) (v := ?v4) rfl (by kernel_rfl) (by kernel_rfl) (by kernel_rfl) (fun _ _ _ h => h) (Or.inl ⟨by rfl, ?hy4⟩) hHeld ?_
          case hy4 => (intro w hSw; (try dsimp only at hSw); go_simp; try with_reducible rfl)
          (try simp only [Act.put, List.setIfInBounds_toArray, List.set_cons_zero, List.set_cons_succ, List.getElem_toArray, List.getElem_cons_zero, List.getElem_cons_succ])
          refine wpAnyH_done (by kernel_rfl) ?_ _
          go_wp2
          go_roundw
          case rel =>
            obtain ⟨l, h1, h2, h3⟩ := hi.out
            exact ⟨k + 1, by omega, by omega, by go_num, l, h1.ins, inner_end h1 (.inl rfl), h2.keep rfl, grown_drew h3⟩
          case measure => simp [intOf]; omega
        · obtain ⟨i, rfl⟩ : ∃ i, j = i + 1 := ⟨j - 1, by omega⟩
          obtain ⟨l, hI, hR, hG⟩ := hi.out
          have hln : l.length = l0.length := hI.ins.len
          have hi1 : i + 1 < l.length := by omega
          have hi0 : i < l.length := by omega
          obtain ⟨c0, c1, c2, c3, c4, c5, c6, c7, c8, c9, c10⟩ := hR.at_ hi1
          obtain ⟨d0, d1, d2, d3, d4, d5, d6, d7, d8, d9, d10⟩ := hR.at_ hi0
          have hgz := lt_of_cell c0
          simp only at hgz
          have b1 : (0 : Int) ≤ (i : Int) + 1 := by omega
          have b2 : (i : Int) + 1 < (l0.length : Int) := by omega
          have b3 : (0 : Int) ≤ (i : Int) := by omega
          have b4 : (i : Int) < (l0.length : Int) := by omega
          have b5 : IntKind.i64.wrap (i : Int) = i := IntWalk.i64_in _ (by omega)
          have b6 : (a : Int) < (i : Int) + 1 := by omega
          have HI := Lib.hid hI
          have HR2 := Lib.hid hR
          have HG := Lib.hid hG
          have HLN := Lib.hid hln
          clear hI hR hG hln hi
          by_cases hc : l[i + 1].at_ < l[i].at_
          · have hcd := cmpI_neg hc
            have HS := Lib.hid (inner_step HI.out (by omega) hlt hi1 (by rw [tm_eq hi1, tm_eq hi0]; exact hc))
            go_wp2
            refine wp_region_held_drew (S := (fun w' => (w'.cell? ⟨g, o + (i + 1) * 11, none⟩ = some (.int .i64 l[i + 1].at_) ∧ w'.cell? ⟨g, o + (i + 1) * 11 + 1, none⟩ = some (.int .i64 l[i + 1].kind) ∧ w'.cell? ⟨g, o + (i + 1) * 11 + 2, none⟩ = some (.int .i64 l[i + 1].tbl) ∧ w'.cell? ⟨g, o + (i + 1) * 11 + 3, none⟩ = some (.int .i64 l[i + 1].wri) ∧ w'.cell? ⟨g, o + (i + 1) * 11 + 4, none⟩ = some (.int .i64 l[i + 1].rdr) ∧ w'.cell? ⟨g, o + (i + 1) * 11 + 5, none⟩ = some (.int .i64 l[i + 1].idx) ∧ w'.cell? ⟨g, o + (i + 1) * 11 + 6, none⟩ = some (.int .i64 l[i + 1].tok) ∧ w'.cell? ⟨g, o + (i + 1) * 11 + 7, none⟩ = some (.int .i64 l[i + 1].rnd) ∧ w'.cell? ⟨g, o + (i + 1) * 11 + 8, none⟩ = some (.int .i64 l[i + 1].rep) ∧ w'.cell? ⟨g, o + (i + 1) * 11 + 9, none⟩ = some (.int .i64 l[i + 1].ver) ∧ w'.cell? ⟨g, o + (i + 1) * 11 + 10, none⟩ = some (.int .i64 l[i + 1].hol)) ∧ (w'.cell? ⟨g, o + i * 11, none⟩ = some (.int .i64 l[i].at_) ∧ w'.cell? ⟨g, o + i * 11 + 1, none⟩ = some (.int .i64 l[i].kind) ∧ w'.cell? ⟨g, o + i * 11 + 2, none⟩ = some (.int .i64 l[i].tbl) ∧ w'.cell? ⟨g, o + i * 11 + 3, none⟩ = some (.int .i64 l[i].wri) ∧ w'.cell? ⟨g, o + i * 11 + 4, none⟩ = some (.int .i64 l[i].rdr) ∧ w'.cell? ⟨g, o + i * 11 + 5, none⟩ = some (.int .i64 l[i].idx) ∧ w'.cell? ⟨g, o + i * 11 + 6, none⟩ = some (.int .i64 l[i].tok) ∧ w'.cell? ⟨g, o + i * 11 + 7, none⟩ = some (.int .i64 l[i].rnd) ∧ w'.cell? ⟨g, o + i * 11 + 8, none⟩ = some (.int .i64 l[i].rep) ∧ w'.cell? ⟨g, o + i * 11 + 9, none⟩ = some (.int .i64 l[i].ver) ∧ w'.cell? ⟨g, o + i * 11 + 10, none⟩ = some (.int .i64 l[i].hol)))) (by kernel_rfl) ?_ (fun hHeld => ?_)
            · (try dsimp only); go_keep
            refine wpAnyH_take (i := 0) (v := ?v5) rfl (by kernel_rfl) (by kernel_rfl) (by kernel_rfl) (fun _ _ _ h => h) (Or.inl ⟨by rfl, ?hy5⟩) hHeld ?_
            case hy5 => (intro w hSw; (try dsimp only at hSw); go_simp; try with_reducible rfl)
            (try simp only [Act.put, List.setIfInBounds_toArray, List.set_cons_zero, List.set_cons_succ, List.getElem_toArray, List.getElem_cons_zero])
            refine wpAnyH_take (i := 1) (v := ?v6) rfl (by kernel_rfl) (by kernel_rfl) (by kernel_rfl) (fun _ _ _ h => h) (Or.inl ⟨by rfl, ?hy6⟩) hHeld ?_
            case hy6 => (intro w hSw; (try dsimp only at hSw); go_simp; try with_reducible rfl)
            (try simp only [Act.put, List.setIfInBounds_toArray, List.set_cons_zero, List.set_cons_succ, List.getElem_toArray, List.getElem_cons_zero, List.getElem_cons_succ])
            refine wpAnyH_take (i := 2) (v := ?v7) rfl (by kernel_rfl) (by kernel_rfl) (by kernel_rfl) (fun _ _ _ h => h) (Or.inl ⟨by rfl, ?hy7⟩) hHeld ?_
            case hy7 => (intro w hSw; (try dsimp only at hSw); go_simp; try with_reducible rfl)
            (try simp only [Act.put, List.setIfInBounds_toArray, List.set_cons_zero, List.set_cons_succ, List.getElem_toArray, List.getElem_cons_zero, List.getElem_cons_succ])
            refine wpAnyH_take (i := 3) (v := ?v8) rfl (by kernel_rfl) (by kernel_rfl) (by kernel_rfl) (fun _ _ _ h => h) (Or.inl ⟨by rfl, ?hy8⟩) hHeld ?_
            case hy8 => (intro w hSw; (try dsimp only at hSw); go_simp; try with_reducible rfl)
            (try simp only [Act.put, List.setIfInBounds_toArray, List.set_cons_zero, List.set_cons_succ, List.getElem_toArray, List.getElem_cons_zero, List.getElem_cons_succ])
            refine wpAnyH_take (i := 4) (v := ?v9) rfl (by kernel_rfl) (by kernel_rfl) (by kernel_rfl) (fun _ _ _ h => h) (Or.inl ⟨by rfl, ?hy9⟩) hHeld ?_
            case hy9 => (intro w hSw; (try dsimp only at hSw); go_simp; try with_reducible rfl)
            (try simp only [Act.put, List.setIfInBounds_toArray, List.set_cons_zero, List.set_cons_succ, List.getElem_toArray, List.getElem_cons_zero, List.getElem_cons_succ])
            refine wpAnyH_take (i := 5) (v := ?v10) rfl (by kernel_rfl) (by kernel_rfl) (by kernel_rfl) (fun _ _ _ h => h) (Or.inl ⟨by rfl, ?hy10⟩) hHeld ?_
            case hy10 => (intro w hSw; (try dsimp only at hSw); go_simp; try with_reducible rfl)
            (try simp only [Act.put, List.setIfInBounds_toArray, List.set_cons_zero, List.set_cons_succ, List.getElem_toArray, List.getElem_cons_zero, List.getElem_cons_succ])
            refine wpAnyH_take (i := 6) (v := ?v11) rfl (by kernel_rfl) (by kernel_rfl) (by kernel_rfl) (fun _ _ _ h => h) (Or.inl ⟨by rfl, ?hy11⟩) hHeld ?_
            case hy11 => (intro w hSw; (try dsimp only at hSw); go_simp; try with_reducible rfl)
            (try simp only [Act.put, List.setIfInBounds_toArray, List.set_cons_zero, List.set_cons_succ, List.getElem_toArray, List.getElem_cons_zero, List.getElem_cons_succ])
            refine wpAnyH_take (i := 7) (v := ?v12) rfl (by kernel_rfl) (by kernel_rfl) (by kernel_rfl) (fun _ _ _ h => h) (Or.inl ⟨by rfl, ?hy12⟩) hHeld ?_
            case hy12 => (intro w hSw; (try dsimp only at hSw); go_simp; try with_reducible rfl)
            (try simp only [Act.put, List.setIfInBounds_toArray, List.set_cons_zero, List.set_cons_succ, List.getElem_toArray, List.getElem_cons_zero, List.getElem_cons_succ])
            refine wpAnyH_take (i := 8) (v := ?v13) rfl (by kernel_rfl) (by kernel_rfl) (by kernel_rfl) (fun _ _ _ h => h) (Or.inl ⟨by rfl, ?hy13⟩) hHeld ?_
            case hy13 => (intro w hSw; (try dsimp only at hSw); go_simp; try with_reducible rfl)
            (try simp only [Act.put, List.setIfInBounds_toArray, List.set_cons_zero, List.set_cons_succ, List.getElem_toArray, List.getElem_cons_zero, List.getElem_cons_succ])
            refine wpAnyH_take (i := 9) (v := ?v14) rfl (by kernel_rfl) (by kernel_rfl) (by kernel_rfl) (fun _ _ _ h => h) (Or.inl ⟨by rfl, ?hy14⟩) hHeld ?_
            case hy14 => (intro w hSw; (try dsimp only at hSw); go_simp; try with_reducible rfl)
            (try simp only [Act.put, List.setIfInBounds_toArray, List.set_cons_zero, List.set_cons_succ, List.getElem_toArray, List.getElem_cons_zero, List.getElem_cons_succ])
            refine wpAnyH_take (i := 10) (v := ?v15) rfl (by kernel_rfl) (by kernel_rfl) (by kernel_rfl) (fun _ _ _ h => h) (Or.inl ⟨by rfl, ?hy15⟩) hHeld ?_
            case hy15 => (intro w hSw; (try dsimp only at hSw); go_simp; try with_reducible rfl)
            (try simp only [Act.put, List.setIfInBounds_toArray, List.set_cons_zero, List.set_cons_succ, List.getElem_toArray, List.getElem_cons_zero, List.getElem_cons_succ])
            refine wpAnyH_take (i := 11) (v := ?v16) rfl (by kernel_rfl) (by kernel_rfl) (by kernel_rfl) (fun _ _ _ h => h) (Or.inl ⟨by rfl, ?hy16⟩) hHeld ?_
            case hy16 => (intro w hSw; (try dsimp only at hSw); go_simp; try with_reducible rfl)
            (try simp only [Act.put, List.setIfInBounds_toArray, List.set_cons_zero, List.set_cons_succ, List.getElem_toArray, List.getElem_cons_zero, List.getElem_cons_succ])
            refine wpAnyH_take (i := 12) (v := ?v17) rfl (by kernel_rfl) (by kernel_rfl) (by kernel_rfl) (fun _ _ _ h => h) (Or.inl ⟨by rfl, ?hy17⟩) hHeld ?_
            case hy17 => (intro w hSw; (try dsimp only at hSw); go_simp; try with_reducible rfl)
            (try simp only [Act.put, List.setIfInBounds_toArray, List.set_cons_zero, List.set_cons_succ, List.getElem_toArray, List.getElem_cons_zero, List.getElem_cons_succ])
            refine wpAnyH_take (i := 13) (v := ?v18) rfl (by kernel_rfl) (by kernel_rfl) (by kernel_rfl) (fun _ _ _ h => h) (Or.inl ⟨by rfl, ?hy18⟩) hHeld ?_
            case hy18 => (intro w hSw; (try dsimp only at hSw); go_simp; try with_reducible rfl)
            (try simp only [Act.put, List.setIfInBounds_toArray, List.set_cons_zero, List.set_cons_succ, List.getElem_toArray, List.getElem_cons_zero, List.getElem_cons_succ])
            refine wpAnyH_ready (rs := [14]) (by kernel_rfl) (by simp) ?_
            refine (AllReadyH.cons rfl (fun K hK => ?_) AllReadyH.nil)
            go_simp
            (refine (cmpPt_any l[i + 1] l[i] _).mono ?_; rintro e w3 ⟨rfl, hb3⟩; replace hb3 := undrew hb3; have hc3 := bcell hb3)
            refine hK.out _ _ ?_ (fun hHeld => ?_)
            · (try dsimp only); go_keep
            clear hK K
            (try simp only [Act.put, List.setIfInBounds_toArray, List.set_cons_zero, List.set_cons_succ, List.getElem_toArray, List.getElem_cons_zero, List.getElem_cons_succ])
            refine wpAnyH_take (i := 15) (v := ?v19) rfl (by kernel_rfl) (by kernel_rfl) (by kernel_rfl) (fun _ _ _ h => h) (Or.inl ⟨by rfl, ?hy19⟩) hHeld ?_
            case hy19 => (intro w hSw; (try dsimp only at hSw); go_simp; try with_reducible rfl)
            (try simp only [Act.put, List.setIfInBounds_toArray, List.set_cons_zero, List.set_cons_succ, List.getElem_toArray, List.getElem_cons_zero, List.getElem_cons_succ])
            refine wpAnyH_take (i := 16) (v := ?v20) rfl (by kernel_rfl) (by kernel_rfl) (by kernel_rfl) (fun _ _ _ h => h) (Or.inl ⟨by rfl, ?hy20⟩) hHeld ?_
            case hy20 => (intro w hSw; (try dsimp only at hSw); go_simp; try with_reducible rfl)
            (try simp only [Act.put, List.setIfInBounds_toArray, List.set_cons_zero, List.set_cons_succ, List.getElem_toArray, List.getElem_cons_zero, List.getElem_cons_succ])
            refine wpAnyH_done (by kernel_rfl) ?_ _
            go_wp2
            have HR3 : Hid (RowR w3.drew g o l) := (HR2.out.below (by omega) hb3).keep rfl
            have HG3 : Hid (w.grownBy w3.drew (some g)) := grown_drew (HG.out.trans (grown_below hb3 _))
            have HR4 : Hid (RowR (w3.drew.setCells g (o + (i + 1) * 11) (l[i]).cs) g o (l.set (i + 1) l[i])) := HR3.out.set hi1 _
            have HR5 : Hid (RowR ((w3.drew.setCells g (o + (i + 1) * 11) (l[i]).cs).setCells g (o + i * 11) (l[i + 1]).cs) g o (swp l i hi1)) := HR4.out.set (by simp; omega) _
            have HG5 : Hid (w.grownBy ((w3.drew.setCells g (o + (i + 1) * 11) (l[i]).cs).setCells g (o + i * 11) (l[i + 1]).cs) (some g)) := (HG3.out.trans (grown_setCells _ _ _ _)).trans (grown_setCells _ _ _ _)
            have HT1 : Hid (w3.drew.there g (o + (i + 1) * 11) 11) := HR3.out.there_at hi1
            have HT2 : Hid ((w3.drew.setCells g (o + (i + 1) * 11) (l[i]).cs).there g (o + i * 11) 11) := HR4.out.there_at (by simp; omega)
            refine wp_region_any (by kernel_rfl) ?_
            (try (change wpAny _ _ _ _ _ _ _ (World.drew _)))
            refine wpAny_take (i := 0) (v := ?v21) rfl (by kernel_rfl) (by kernel_rfl) (by kernel_rfl) (fun _ _ _ h => h) (Or.inl ⟨by rfl, ?hy21⟩) ?_
            case hy21 => (intro w; go_simp; try with_reducible rfl)
            (try simp only [Act.put, List.setIfInBounds_toArray, List.set_cons_zero, List.set_cons_succ, List.getElem_toArray, List.getElem_cons_zero])
            refine wpAny_take (i := 1) (v := ?v22) rfl (by kernel_rfl) (by kernel_rfl) (by kernel_rfl) (fun _ _ _ h => h) (Or.inl ⟨by rfl, ?hy22⟩) ?_
            case hy22 => (intro w; go_simp; try with_reducible rfl)
            (try simp only [Act.put, List.setIfInBounds_toArray, List.set_cons_zero, List.set_cons_succ, List.getElem_toArray, List.getElem_cons_zero, List.getElem_cons_succ])
            refine wpAny_take (i := 2) (v := ?v23) rfl (by kernel_rfl) (by kernel_rfl) (by kernel_rfl) (fun _ _ _ h => h) (Or.inl ⟨by rfl, ?hy23⟩) ?_
            case hy23 => (intro w; go_simp; try with_reducible rfl)
            (try simp only [Act.put, List.setIfInBounds_toArray, List.set_cons_zero, List.set_cons_succ, List.getElem_toArray, List.getElem_cons_zero, List.getElem_cons_succ])
            refine wpAny_take (i := 3) (v := ?v24) rfl (by kernel_rfl) (by kernel_rfl) (by kernel_rfl) (fun _ _ _ h => h) (Or.inl ⟨by rfl, ?hy24⟩) ?_
            case hy24 => (intro w; go_simp; try with_reducible rfl)
            (try simp only [Act.put, List.setIfInBounds_toArray, List.set_cons_zero, List.set_cons_succ, List.getElem_toArray, List.getElem_cons_zero, List.getElem_cons_succ])
            refine wpAny_take (i := 4) (v := ?v25) rfl (by kernel_rfl) (by kernel_rfl) (by kernel_rfl) (fun _ _ _ h => h) (Or.inl ⟨by rfl, ?hy25⟩) ?_
            case hy25 => (intro w; go_simp; try with_reducible rfl)
            (try simp only [Act.put, List.setIfInBounds_toArray, List.set_cons_zero, List.set_cons_succ, List.getElem_toArray, List.getElem_cons_zero, List.getElem_cons_succ])
            refine wpAny_take (i := 5) (v := ?v26) rfl (by kernel_rfl) (by kernel_rfl) (by kernel_rfl) (fun _ _ _ h => h) (Or.inl ⟨by rfl, ?hy26⟩) ?_
            case hy26 => (intro w; go_simp; try with_reducible rfl)
            (try simp only [Act.put, List.setIfInBounds_toArray, List.set_cons_zero, List.set_cons_succ, List.getElem_toArray, List.getElem_cons_zero, List.getElem_cons_succ])
            refine wpAny_take (i := 6) (v := ?v27) rfl (by kernel_rfl) (by kernel_rfl) (by kernel_rfl) (fun _ _ _ h => h) (Or.inl ⟨by rfl, ?hy27⟩) ?_
            case hy27 => (intro w; go_simp; try with_reducible rfl)
            (try simp only [Act.put, List.setIfInBounds_toArray, List.set_cons_zero, List.set_cons_succ, List.getElem_toArray, List.getElem_cons_zero, List.getElem_cons_succ])
            refine wpAny_take (i := 7) (v := ?v28) rfl (by kernel_rfl) (by kernel_rfl) (by kernel_rfl) (fun _ _ _ h => h) (Or.inl ⟨by rfl, ?hy28⟩) ?_
            case hy28 => (intro w; go_simp; try with_reducible rfl)
            (try simp only [Act.put, List.setIfInBounds_toArray, List.set_cons_zero, List.set_cons_succ, List.getElem_toArray, List.getElem_cons_zero, List.getElem_cons_succ])
            refine wpAny_take (i := 8) (v := ?v29) rfl (by kernel_rfl) (by kernel_rfl) (by kernel_rfl) (fun _ _ _ h => h) (Or.inl ⟨by rfl, ?hy29⟩) ?_
            case hy29 => (intro w; go_simp; try with_reducible rfl)
            (try simp only [Act.put, List.setIfInBounds_toArray, List.set_cons_zero, List.set_cons_succ, List.getElem_toArray, List.getElem_cons_zero, List.getElem_cons_succ])
            refine wpAny_take (i := 10) (v := ?v30) rfl (by kernel_rfl) (by kernel_rfl) (by kernel_rfl) (fun _ _ _ h => h) (Or.inl ⟨by rfl, ?hy30⟩) ?_
            case hy30 => (intro w; go_simp; try with_reducible rfl)
            (try simp only [Act.put, List.setIfInBounds_toArray, List.set_cons_zero, List.set_cons_succ, List.getElem_toArray, List.getElem_cons_zero, List.getElem_cons_succ])
            refine wpAny_take (i := 11) (v := ?v31) rfl (by kernel_rfl) (by kernel_rfl) (by kernel_rfl) (fun _ _ _ h => h) (Or.inl ⟨by rfl, ?hy31⟩) ?_
            case hy31 => (intro w; go_simp; try with_reducible rfl)
            (try simp only [Act.put, List.setIfInBounds_toArray, List.set_cons_zero, List.set_cons_succ, List.getElem_toArray, List.getElem_cons_zero, List.getElem_cons_succ])
            refine wpAny_take (i := 12) (v := ?v32) rfl (by kernel_rfl) (by kernel_rfl) (by kernel_rfl) (fun _ _ _ h => h) (Or.inl ⟨by rfl, ?hy32⟩) ?_
            case hy32 => (intro w; go_simp; try with_reducible rfl)
            (try simp only [Act.put, List.setIfInBounds_toArray, List.set_cons_zero, List.set_cons_succ, List.getElem_toArray, List.getElem_cons_zero, List.getElem_cons_succ])
            refine wpAny_ready (rs := [9, 13]) (by kernel_rfl) (by simp) ?_
            refine (AllReady.cons rfl (fun K hK => ?_) (AllReady.cons rfl (fun K hK => ?_) AllReady.nil))
            ·
              go_simp
              refine hK _ _ ?_
              clear hK K
              (try simp only [Act.put, List.setIfInBounds_toArray, List.set_cons_zero, List.set_cons_succ, List.getElem_toArray, List.getElem_cons_zero, List.getElem_cons_succ])
              refine wpAny_ready (rs := [13]) (by kernel_rfl) (by simp) ?_
              refine (AllReady.cons rfl (fun K hK => ?_) AllReady.nil)
              go_simp
              refine hK _ _ ?_
              clear hK K
              (try simp only [Act.put, List.setIfInBounds_toArray, List.set_cons_zero, List.set_cons_succ, List.getElem_toArray, List.getElem_cons_zero, List.getElem_cons_succ])
              refine wpAny_take (i := 14) (v := ?v33) rfl (by kernel_rfl) (by kernel_rfl) (by kernel_rfl) (fun _ _ _ h => h) (Or.inl ⟨by rfl, ?hy33⟩) ?_
              case hy33 => (intro w; go_simp; try with_reducible rfl)
              (try simp only [Act.put, List.setIfInBounds_toArray, List.set_cons_zero, List.set_cons_succ, List.getElem_toArray, List.getElem_cons_zero, List.getElem_cons_succ])
              refine wpAny_ready (rs := [15]) (by kernel_rfl) (by simp) ?_
              refine (AllReady.cons rfl (fun K hK => ?_) AllReady.nil)
              (simp only [List.getElem_toArray, List.getElem_cons_zero, List.getElem_cons_succ]; rw [if_pos (by rfl)]; refine wp_store_mid 23 (.tmp 51) (.tmp 46) rfl (g) (o + (i + 1) * 11) ((l[i]).cs.toArray) (by rfl) (by rfl) ?_ ?_ ?_ ?_; (exact HT1.out); (exact pt_info); (exact pt_one _))
              refine hK _ _ ?_
              clear hK K
              (try simp only [Act.put])
              refine wpAny_take (i := 16) (v := ?v34) rfl (by kernel_rfl) (by kernel_rfl) (by kernel_rfl) (fun _ _ _ h => h) (Or.inl ⟨by rfl, ?hy34⟩) ?_
              case hy34 => (intro w; go_simp; try with_reducible rfl)
              (try simp only [Act.put, List.setIfInBounds_toArray, List.set_cons_zero, List.set_cons_succ, List.getElem_toArray, List.getElem_cons_zero, List.getElem_cons_succ])
              refine wpAny_ready (rs := [17]) (by kernel_rfl) (by simp) ?_
              refine (AllReady.cons rfl (fun K hK => ?_) AllReady.nil)
              (generalize w3.drew.setCells g (o + (i + 1) * 11) l[i].cs = w4 at *; simp only [List.getElem_toArray, List.getElem_cons_zero, List.getElem_cons_succ]; rw [if_pos (by rfl)]; refine wp_store_mid 23 (.tmp 52) (.tmp 50) rfl (g) (o + i * 11) ((l[i + 1]).cs.toArray) (by rfl) (by rfl) ?_ ?_ ?_ ?_; (exact HT2.out); (exact pt_info); (exact pt_one _))
              refine hK _ _ ?_
              clear hK K
              (try simp only [Act.put])
              refine wpAny_done (by kernel_rfl) ?_ _
              (go_wp2; go_roundw; (case rel => exact ⟨i, by omega, by omega, by go_num, swp l i hi1, HS.out, HR5.out, HG5.out⟩); (case measure => simp [intOf]))
            ·
              go_simp
              refine hK _ _ ?_
              clear hK K
              (try simp only [Act.put, List.setIfInBounds_toArray, List.set_cons_zero, List.set_cons_succ, List.getElem_toArray, List.getElem_cons_zero, List.getElem_cons_succ])
              refine wpAny_ready (rs := [9]) (by kernel_rfl) (by simp) ?_
              refine (AllReady.cons rfl (fun K hK => ?_) AllReady.nil)
              go_simp
              refine hK _ _ ?_
              clear hK K
              (try simp only [Act.put, List.setIfInBounds_toArray, List.set_cons_zero, List.set_cons_succ, List.getElem_toArray, List.getElem_cons_zero, List.getElem_cons_succ])
              refine wpAny_take (i := 14) (v := ?v35) rfl (by kernel_rfl) (by kernel_rfl) (by kernel_rfl) (fun _ _ _ h => h) (Or.inl ⟨by rfl, ?hy35⟩) ?_
              case hy35 => (intro w; go_simp; try with_reducible rfl)
              (try simp only [Act.put, List.setIfInBounds_toArray, List.set_cons_zero, List.set_cons_succ, List.getElem_toArray, List.getElem_cons_zero, List.getElem_cons_succ])
              refine wpAny_ready (rs := [15]) (by kernel_rfl) (by simp) ?_
              refine (AllReady.cons rfl (fun K hK => ?_) AllReady.nil)
              (simp only [List.getElem_toArray, List.getElem_cons_zero, List.getElem_cons_succ]; rw [if_pos (by rfl)]; refine wp_store_mid 23 (.tmp 51) (.tmp 46) rfl (g) (o + (i + 1) * 11) ((l[i]).cs.toArray) (by rfl) (by rfl) ?_ ?_ ?_ ?_; (exact HT1.out); (exact pt_info); (exact pt_one _))
              refine hK _ _ ?_
              clear hK K
              (try simp only [Act.put])
              refine wpAny_take (i := 16) (v := ?v36) rfl (by kernel_rfl) (by kernel_rfl) (by kernel_rfl) (fun _ _ _ h => h) (Or.inl ⟨by rfl, ?hy36⟩) ?_
              case hy36 => (intro w; go_simp; try with_reducible rfl)
              (try simp only [Act.put, List.setIfInBounds_toArray, List.set_cons_zero, List.set_cons_succ, List.getElem_toArray, List.getElem_cons_zero, List.getElem_cons_succ])
              refine wpAny_ready (rs := [17]) (by kernel_rfl) (by simp) ?_
              refine (AllReady.cons rfl (fun K hK => ?_) AllReady.nil)
              (generalize w3.drew.setCells g (o + (i + 1) * 11) l[i].cs = w4 at *; simp only [List.getElem_toArray, List.getElem_cons_zero, List.getElem_cons_succ]; rw [if_pos (by rfl)]; refine wp_store_mid 23 (.tmp 52) (.tmp 50) rfl (g) (o + i * 11) ((l[i + 1]).cs.toArray) (by rfl) (by rfl) ?_ ?_ ?_ ?_; (exact HT2.out); (exact pt_info); (exact pt_one _))
              refine hK _ _ ?_
              clear hK K
              (try simp only [Act.put])
              refine wpAny_done (by kernel_rfl) ?_ _
              (go_wp2; go_roundw; (case rel => exact ⟨i, by omega, by omega, by go_num, swp l i hi1, HS.out, HR5.out, HG5.out⟩); (case measure => simp [intOf]))
          · have hcd := cmpI_nneg hc
            go_wp2
            refine wp_region_held_drew (S := (fun w' => (w'.cell? ⟨g, o + (i + 1) * 11, none⟩ = some (.int .i64 l[i + 1].at_) ∧ w'.cell? ⟨g, o + (i + 1) * 11 + 1, none⟩ = some (.int .i64 l[i + 1].kind) ∧ w'.cell? ⟨g, o + (i + 1) * 11 + 2, none⟩ = some (.int .i64 l[i + 1].tbl) ∧ w'.cell? ⟨g, o + (i + 1) * 11 + 3, none⟩ = some (.int .i64 l[i + 1].wri) ∧ w'.cell? ⟨g, o + (i + 1) * 11 + 4, none⟩ = some (.int .i64 l[i + 1].rdr) ∧ w'.cell? ⟨g, o + (i + 1) * 11 + 5, none⟩ = some (.int .i64 l[i + 1].idx) ∧ w'.cell? ⟨g, o + (i + 1) * 11 + 6, none⟩ = some (.int .i64 l[i + 1].tok) ∧ w'.cell? ⟨g, o + (i + 1) * 11 + 7, none⟩ = some (.int .i64 l[i + 1].rnd) ∧ w'.cell? ⟨g, o + (i + 1) * 11 + 8, none⟩ = some (.int .i64 l[i + 1].rep) ∧ w'.cell? ⟨g, o + (i + 1) * 11 + 9, none⟩ = some (.int .i64 l[i + 1].ver) ∧ w'.cell? ⟨g, o + (i + 1) * 11 + 10, none⟩ = some (.int .i64 l[i + 1].hol)) ∧ (w'.cell? ⟨g, o + i * 11, none⟩ = some (.int .i64 l[i].at_) ∧ w'.cell? ⟨g, o + i * 11 + 1, none⟩ = some (.int .i64 l[i].kind) ∧ w'.cell? ⟨g, o + i * 11 + 2, none⟩ = some (.int .i64 l[i].tbl) ∧ w'.cell? ⟨g, o + i * 11 + 3, none⟩ = some (.int .i64 l[i].wri) ∧ w'.cell? ⟨g, o + i * 11 + 4, none⟩ = some (.int .i64 l[i].rdr) ∧ w'.cell? ⟨g, o + i * 11 + 5, none⟩ = some (.int .i64 l[i].idx) ∧ w'.cell? ⟨g, o + i * 11 + 6, none⟩ = some (.int .i64 l[i].tok) ∧ w'.cell? ⟨g, o + i * 11 + 7, none⟩ = some (.int .i64 l[i].rnd) ∧ w'.cell? ⟨g, o + i * 11 + 8, none⟩ = some (.int .i64 l[i].rep) ∧ w'.cell? ⟨g, o + i * 11 + 9, none⟩ = some (.int .i64 l[i].ver) ∧ w'.cell? ⟨g, o + i * 11 + 10, none⟩ = some (.int .i64 l[i].hol)))) (by kernel_rfl) ?_ (fun hHeld => ?_)
            · (try dsimp only); go_keep
            refine wpAnyH_take (i := 0) (v := ?v37) rfl (by kernel_rfl) (by kernel_rfl) (by kernel_rfl) (fun _ _ _ h => h) (Or.inl ⟨by rfl, ?hy37⟩) hHeld ?_
            case hy37 => (intro w hSw; (try dsimp only at hSw); go_simp; try with_reducible rfl)
            (try simp only [Act.put, List.setIfInBounds_toArray, List.set_cons_zero, List.set_cons_succ, List.getElem_toArray, List.getElem_cons_zero])
            refine wpAnyH_take (i := 1) (v := ?v38) rfl (by kernel_rfl) (by kernel_rfl) (by kernel_rfl) (fun _ _ _ h => h) (Or.inl ⟨by rfl, ?hy38⟩) hHeld ?_
            case hy38 => (intro w hSw; (try dsimp only at hSw); go_simp; try with_reducible rfl)
            (try simp only [Act.put, List.setIfInBounds_toArray, List.set_cons_zero, List.set_cons_succ, List.getElem_toArray, List.getElem_cons_zero, List.getElem_cons_succ])
            refine wpAnyH_take (i := 2) (v := ?v39) rfl (by kernel_rfl) (by kernel_rfl) (by kernel_rfl) (fun _ _ _ h => h) (Or.inl ⟨by rfl, ?hy39⟩) hHeld ?_
            case hy39 => (intro w hSw; (try dsimp only at hSw); go_simp; try with_reducible rfl)
            (try simp only [Act.put, List.setIfInBounds_toArray, List.set_cons_zero, List.set_cons_succ, List.getElem_toArray, List.getElem_cons_zero, List.getElem_cons_succ])
            refine wpAnyH_take (i := 3) (v := ?v40) rfl (by kernel_rfl) (by kernel_rfl) (by kernel_rfl) (fun _ _ _ h => h) (Or.inl ⟨by rfl, ?hy40⟩) hHeld ?_
            case hy40 => (intro w hSw; (try dsimp only at hSw); go_simp; try with_reducible rfl)
            (try simp only [Act.put, List.setIfInBounds_toArray, List.set_cons_zero, List.set_cons_succ, List.getElem_toArray, List.getElem_cons_zero, List.getElem_cons_succ])
            refine wpAnyH_take (i := 4) (v := ?v41) rfl (by kernel_rfl) (by kernel_rfl) (by kernel_rfl) (fun _ _ _ h => h) (Or.inl ⟨by rfl, ?hy41⟩) hHeld ?_
            case hy41 => (intro w hSw; (try dsimp only at hSw); go_simp; try with_reducible rfl)
            (try simp only [Act.put, List.setIfInBounds_toArray, List.set_cons_zero, List.set_cons_succ, List.getElem_toArray, List.getElem_cons_zero, List.getElem_cons_succ])
            refine wpAnyH_take (i := 5) (v := ?v42) rfl (by kernel_rfl) (by kernel_rfl) (by kernel_rfl) (fun _ _ _ h => h) (Or.inl ⟨by rfl, ?hy42⟩) hHeld ?_
            case hy42 => (intro w hSw; (try dsimp only at hSw); go_simp; try with_reducible rfl)
            (try simp only [Act.put, List.setIfInBounds_toArray, List.set_cons_zero, List.set_cons_succ, List.getElem_toArray, List.getElem_cons_zero, List.getElem_cons_succ])
            refine wpAnyH_take (i := 6) (v := ?v43) rfl (by kernel_rfl) (by kernel_rfl) (by kernel_rfl) (fun _ _ _ h => h) (Or.inl ⟨by rfl, ?hy43⟩) hHeld ?_
            case hy43 => (intro w hSw; (try dsimp only at hSw); go_simp; try with_reducible rfl)
            (try simp only [Act.put, List.setIfInBounds_toArray, List.set_cons_zero, List.set_cons_succ, List.getElem_toArray, List.getElem_cons_zero, List.getElem_cons_succ])
            refine wpAnyH_take (i := 7) (v := ?v44) rfl (by kernel_rfl) (by kernel_rfl) (by kernel_rfl) (fun _ _ _ h => h) (Or.inl ⟨by rfl, ?hy44⟩) hHeld ?_
            case hy44 => (intro w hSw; (try dsimp only at hSw); go_simp; try with_reducible rfl)
            (try simp only [Act.put, List.setIfInBounds_toArray, List.set_cons_zero, List.set_cons_succ, List.getElem_toArray, List.getElem_cons_zero, List.getElem_cons_succ])
            refine wpAnyH_take (i := 8) (v := ?v45) rfl (by kernel_rfl) (by kernel_rfl) (by kernel_rfl) (fun _ _ _ h => h) (Or.inl ⟨by rfl, ?hy45⟩) hHeld ?_
            case hy45 => (intro w hSw; (try dsimp only at hSw); go_simp; try with_reducible rfl)
            (try simp only [Act.put, List.setIfInBounds_toArray, List.set_cons_zero, List.set_cons_succ, List.getElem_toArray, List.getElem_cons_zero, List.getElem_cons_succ])
            refine wpAnyH_take (i := 9) (v := ?v46) rfl (by kernel_rfl) (by kernel_rfl) (by kernel_rfl) (fun _ _ _ h => h) (Or.inl ⟨by rfl, ?hy46⟩) hHeld ?_
            case hy46 => (intro w hSw; (try dsimp only at hSw); go_simp; try with_reducible rfl)
            (try simp only [Act.put, List.setIfInBounds_toArray, List.set_cons_zero, List.set_cons_succ, List.getElem_toArray, List.getElem_cons_zero, List.getElem_cons_succ])
            refine wpAnyH_take (i := 10) (v := ?v47) rfl (by kernel_rfl) (by kernel_rfl) (by kernel_rfl) (fun _ _ _ h => h) (Or.inl ⟨by rfl, ?hy47⟩) hHeld ?_
            case hy47 => (intro w hSw; (try dsimp only at hSw); go_simp; try with_reducible rfl)
            (try simp only [Act.put, List.setIfInBounds_toArray, List.set_cons_zero, List.set_cons_succ, List.getElem_toArray, List.getElem_cons_zero, List.getElem_cons_succ])
            refine wpAnyH_take (i := 11) (v := ?v48) rfl (by kernel_rfl) (by kernel_rfl) (by kernel_rfl) (fun _ _ _ h => h) (Or.inl ⟨by rfl, ?hy48⟩) hHeld ?_
            case hy48 => (intro w hSw; (try dsimp only at hSw); go_simp; try with_reducible rfl)
            (try simp only [Act.put, List.setIfInBounds_toArray, List.set_cons_zero, List.set_cons_succ, List.getElem_toArray, List.getElem_cons_zero, List.getElem_cons_succ])
            refine wpAnyH_take (i := 12) (v := ?v49) rfl (by kernel_rfl) (by kernel_rfl) (by kernel_rfl) (fun _ _ _ h => h) (Or.inl ⟨by rfl, ?hy49⟩) hHeld ?_
            case hy49 => (intro w hSw; (try dsimp only at hSw); go_simp; try with_reducible rfl)
            (try simp only [Act.put, List.setIfInBounds_toArray, List.set_cons_zero, List.set_cons_succ, List.getElem_toArray, List.getElem_cons_zero, List.getElem_cons_succ])
            refine wpAnyH_take (i := 13) (v := ?v50) rfl (by kernel_rfl) (by kernel_rfl) (by kernel_rfl) (fun _ _ _ h => h) (Or.inl ⟨by rfl, ?hy50⟩) hHeld ?_
            case hy50 => (intro w hSw; (try dsimp only at hSw); go_simp; try with_reducible rfl)
            (try simp only [Act.put, List.setIfInBounds_toArray, List.set_cons_zero, List.set_cons_succ, List.getElem_toArray, List.getElem_cons_zero, List.getElem_cons_succ])
            refine wpAnyH_ready (rs := [14]) (by kernel_rfl) (by simp) ?_
            refine (AllReadyH.cons rfl (fun K hK => ?_) AllReadyH.nil)
            go_simp
            (refine (cmpPt_any l[i + 1] l[i] _).mono ?_; rintro e w3 ⟨rfl, hb3⟩; replace hb3 := undrew hb3; have hc3 := bcell hb3)
            refine hK.out _ _ ?_ (fun hHeld => ?_)
            · (try dsimp only); go_keep
            clear hK K
            (try simp only [Act.put, List.setIfInBounds_toArray, List.set_cons_zero, List.set_cons_succ, List.getElem_toArray, List.getElem_cons_zero, List.getElem_cons_succ])
            refine wpAnyH_take (i := 15) (v := ?v51) rfl (by kernel_rfl) (by kernel_rfl) (by kernel_rfl) (fun _ _ _ h => h) (Or.inl ⟨by rfl, ?hy51⟩) hHeld ?_
            case hy51 => (intro w hSw; (try dsimp only at hSw); go_simp; try with_reducible rfl)
            (try simp only [Act.put, List.setIfInBounds_toArray, List.set_cons_zero, List.set_cons_succ, List.getElem_toArray, List.getElem_cons_zero, List.getElem_cons_succ])
            refine wpAnyH_take (i := 16) (v := ?v52) rfl (by kernel_rfl) (by kernel_rfl) (by kernel_rfl) (fun _ _ _ h => h) (Or.inl ⟨by rfl, ?hy52⟩) hHeld ?_
            case hy52 => (intro w hSw; (try dsimp only at hSw); go_simp; try with_reducible rfl)
            (try simp only [Act.put, List.setIfInBounds_toArray, List.set_cons_zero, List.set_cons_succ, List.getElem_toArray, List.getElem_cons_zero, List.getElem_cons_succ])
            refine wpAnyH_done (by kernel_rfl) ?_ _
            go_wp2
            go_roundw
            case rel =>
              exact ⟨k + 1, by omega, by omega, by go_num, l, HI.out.ins, inner_end HI.out (.inr (by rw [tm_eq hi1, Nat.add_sub_cancel, tm_eq hi0]; omega)), HR2.out.below (by omega) hb3, HG.out.trans (grown_below hb3 _)⟩
            case measure => simp [intOf]; omega
    · go_wp2
      go_end0
      obtain ⟨l, h1, h2, h3, h4⟩ := hh.out
      refine ⟨rfl, l, h1, ?_, h3, h4⟩
      rcases hkb with h | h
      · obtain rfl : k = b := by omega
        exact h2
      · intro x y hx hy hz; omega
end Go.Proofs.YtcmnmcholfellaaDoor
