/-
  Walks: whether a point is valid, in package trace (II).
-/
import Derived.Test.YtcmnmcholfellaaDoorW3
import Derived.Test.YtcmnmcholfellaaDoorEq
namespace Go.Proofs.YtcmnmcholfellaaDoor
open Go.RowKit

theorem wordB_nil {k : Int} (h : ¬ (1 ≤ k ∧ k ≤ 7)) : (wordB k).toList = [] := by
  rw [(wordB_empty k).2 h]; decide +kernel
theorem wordB_cons {k : Int} (h : 1 ≤ k ∧ k ≤ 7) : (wordB k).toList.isEmpty = false := by
  have hk : k = 1 ∨ k = 2 ∨ k = 3 ∨ k = 4 ∨ k = 5 ∨ k = 6 ∨ k = 7 := by omega
  rcases hk with rfl | rfl | rfl | rfl | rfl | rfl | rfl <;> decide +kernel

set_option maxHeartbeats 400000 in
theorem right_any (p : Pt) (w : World) : Calls Tryd.prog 44 #[p.v] w fun e w' => e = .returned (.bool (okP p)) ∧ Below w.heap.size w w' := by
  by_cases hk : 1 ≤ p.kind ∧ p.kind ≤ 7
  · have he := wordB_cons hk
    have he' : ¬ ((wordB p.kind).toList = []) := by intro e; rw [e] at he; cases he
    by_cases ha : p.at_ < 0
    · have hd : decide (p.at_ < 0) = true := by simpa using ha
      have HO := Lib.hid (show okP p = false by simp [okP]; omega)
      clear hk ha
      go_enter Tryd.func44, Tryd.ntmps44
      go_wp2_with (go_at_call 59; refine (word_any _ _).mono ?_; rintro e w' ⟨rfl, hb1⟩; obtain ⟨c0, c1, c2, c3, c4, c5, c6, c7, c8, c9, c10⟩ := ptAt_box hb1)
      go_ret
      exact ⟨by rw [HO.out]; rfl, below_alloc hb1⟩
    · have hd : decide (p.at_ < 0) = false := by simpa using ha
      have HO := Lib.hid (show okP p = (decide (p = mk p.at_ p.kind (flds p)) && !anyNeg (flds p)) by
        have ha' : 0 ≤ p.at_ := by omega
        simp [okP, hk, ha'])
      have HN : Hid ((flds p).length ≤ 3) := by show (flds p).length ≤ 3; rw [flds_length]; unfold cnt; split <;> (try split) <;> omega
      have HF := Lib.hid (flds_length p)
      clear hk ha
      by_cases hq : p = mk p.at_ p.kind (flds p)
      · have heq : ∀ w, (binOp .eql 23 p.v (mk p.at_ p.kind (flds p)).v).run Tryd.prog w = .ok (.bool true) w := fun w => by rw [run_eql_pt, decide_eq_true hq]
        rw [decide_eq_true hq] at HO
        clear hq
        go_enter Tryd.func44, Tryd.ntmps44
        go_wp2_with (first
          | (go_at_call 59; refine (word_any _ _).mono ?_; rintro e w1 ⟨rfl, hb1⟩; obtain ⟨c0, c1, c2, c3, c4, c5, c6, c7, c8, c9, c10⟩ := ptAt_box hb1)
          | (go_at_call 60; refine (fields_any p _).mono ?_; rintro e w2 ⟨b, rfl, hi, hb2⟩))
        have hz1 : w.heap.size < w1.heap.size := by have := hb1.size; simp at this; omega
        have hz2 : w.heap.size < w2.heap.size := by have := hb2.size; omega
        obtain ⟨d0, d1, d2, d3, d4, d5, d6, d7, d8, d9, d10⟩ := (PtAt.mk c0 c1 c2 c3 c4 c5 c6 c7 c8 c9 c10).below hb2
        clear c0 c1 c2 c3 c4 c5 c6 c7 c8 c9 c10
        have HI := Lib.hid hi
        clear hi
        have HC : Hid (∀ k x, (flds p)[k]? = some x → w2.cell? ⟨b, 0 + k, none⟩ = some (.int .i64 x)) := fun k x hk => by rw [Nat.zero_add]; exact HI.out k x hk
        go_region_held3 (fun w' => w'.cell? ⟨w.heap.size, 0, none⟩ = some (.int .i64 p.at_) ∧ w'.cell? ⟨w.heap.size, 1, none⟩ = some (.int .i64 p.kind) ∧ w'.cell? ⟨w.heap.size, 2, none⟩ = some (.int .i64 p.tbl) ∧ w'.cell? ⟨w.heap.size, 3, none⟩ = some (.int .i64 p.wri) ∧ w'.cell? ⟨w.heap.size, 4, none⟩ = some (.int .i64 p.rdr) ∧ w'.cell? ⟨w.heap.size, 5, none⟩ = some (.int .i64 p.idx) ∧ w'.cell? ⟨w.heap.size, 6, none⟩ = some (.int .i64 p.tok) ∧ w'.cell? ⟨w.heap.size, 7, none⟩ = some (.int .i64 p.rnd) ∧ w'.cell? ⟨w.heap.size, 8, none⟩ = some (.int .i64 p.rep) ∧ w'.cell? ⟨w.heap.size, 9, none⟩ = some (.int .i64 p.ver) ∧ w'.cell? ⟨w.heap.size, 10, none⟩ = some (.int .i64 p.hol)) (go_keep)
          (first
            | (go_at_call 65; refine (point_any p.at_ p.kind (flds p) HF.out b 0 _ _ ?_).mono ?_; (exact HC.out); rintro e w3 ⟨rfl, hb3⟩; replace hb3 := undrew hb3; have hc3 := bcell hb3)
            | (go_at_call 66; refine (containsNeg_any (flds p) b _ _ ?_ HN.out).mono ?_; (exact (fun k x hk => below_cell hb3 (HI.out k x hk))); rintro e w4 ⟨rfl, rfl⟩))
        go_wp2
        go_ret
        refine ⟨?_, below_trans (below_trans (below_alloc hb1) hb2) hb3⟩
        rw [HO.out]; rfl
      · have heq : ∀ w, (binOp .eql 23 p.v (mk p.at_ p.kind (flds p)).v).run Tryd.prog w = .ok (.bool false) w := fun w => by rw [run_eql_pt, decide_eq_false hq]
        rw [decide_eq_false hq] at HO
        clear hq
        go_enter Tryd.func44, Tryd.ntmps44
        go_wp2_with (first
          | (go_at_call 59; refine (word_any _ _).mono ?_; rintro e w1 ⟨rfl, hb1⟩; obtain ⟨c0, c1, c2, c3, c4, c5, c6, c7, c8, c9, c10⟩ := ptAt_box hb1)
          | (go_at_call 60; refine (fields_any p _).mono ?_; rintro e w2 ⟨b, rfl, hi, hb2⟩))
        have hz1 : w.heap.size < w1.heap.size := by have := hb1.size; simp at this; omega
        have hz2 : w.heap.size < w2.heap.size := by have := hb2.size; omega
        obtain ⟨d0, d1, d2, d3, d4, d5, d6, d7, d8, d9, d10⟩ := (PtAt.mk c0 c1 c2 c3 c4 c5 c6 c7 c8 c9 c10).below hb2
        clear c0 c1 c2 c3 c4 c5 c6 c7 c8 c9 c10
        have HI := Lib.hid hi
        clear hi
        have HC : Hid (∀ k x, (flds p)[k]? = some x → w2.cell? ⟨b, 0 + k, none⟩ = some (.int .i64 x)) := fun k x hk => by rw [Nat.zero_add]; exact HI.out k x hk
        refine wp_region_held_drew (S := (fun w' => w'.cell? ⟨w.heap.size, 0, none⟩ = some (.int .i64 p.at_) ∧ w'.cell? ⟨w.heap.size, 1, none⟩ = some (.int .i64 p.kind) ∧ w'.cell? ⟨w.heap.size, 2, none⟩ = some (.int .i64 p.tbl) ∧ w'.cell? ⟨w.heap.size, 3, none⟩ = some (.int .i64 p.wri) ∧ w'.cell? ⟨w.heap.size, 4, none⟩ = some (.int .i64 p.rdr) ∧ w'.cell? ⟨w.heap.size, 5, none⟩ = some (.int .i64 p.idx) ∧ w'.cell? ⟨w.heap.size, 6, none⟩ = some (.int .i64 p.tok) ∧ w'.cell? ⟨w.heap.size, 7, none⟩ = some (.int .i64 p.rnd) ∧ w'.cell? ⟨w.heap.size, 8, none⟩ = some (.int .i64 p.rep) ∧ w'.cell? ⟨w.heap.size, 9, none⟩ = some (.int .i64 p.ver) ∧ w'.cell? ⟨w.heap.size, 10, none⟩ = some (.int .i64 p.hol))) (by kernel_rfl) ?_ (fun hHeld => ?_)
        · (try dsimp only); go_keep
        refine wpAnyH_take (i := 0) (v := ?v231) rfl (by kernel_rfl) (by kernel_rfl) (by kernel_rfl) (fun _ _ _ h => h) (Or.inl ⟨by rfl, ?hy231⟩) hHeld ?_
        case hy231 => (intro w hSw; (try dsimp only at hSw); go_simp; try with_reducible rfl)
        (try simp only [Act.put, List.setIfInBounds_toArray, List.set_cons_zero, List.set_cons_succ, List.getElem_toArray, List.getElem_cons_zero])
        refine wpAnyH_take (i := 1) (v := ?v232) rfl (by kernel_rfl) (by kernel_rfl) (by kernel_rfl) (fun _ _ _ h => h) (Or.inl ⟨by rfl, ?hy232⟩) hHeld ?_
        case hy232 => (intro w hSw; (try dsimp only at hSw); go_simp; try with_reducible rfl)
        (try simp only [Act.put, List.setIfInBounds_toArray, List.set_cons_zero, List.set_cons_succ, List.getElem_toArray, List.getElem_cons_zero, List.getElem_cons_succ])
        refine wpAnyH_take (i := 2) (v := ?v233) rfl (by kernel_rfl) (by kernel_rfl) (by kernel_rfl) (fun _ _ _ h => h) (Or.inl ⟨by rfl, ?hy233⟩) hHeld ?_
        case hy233 => (intro w hSw; (try dsimp only at hSw); go_simp; try with_reducible rfl)
        (try simp only [Act.put, List.setIfInBounds_toArray, List.set_cons_zero, List.set_cons_succ, List.getElem_toArray, List.getElem_cons_zero, List.getElem_cons_succ])
        refine wpAnyH_take (i := 3) (v := ?v234) rfl (by kernel_rfl) (by kernel_rfl) (by kernel_rfl) (fun _ _ _ h => h) (Or.inl ⟨by rfl, ?hy234⟩) hHeld ?_
        case hy234 => (intro w hSw; (try dsimp only at hSw); go_simp; try with_reducible rfl)
        (try simp only [Act.put, List.setIfInBounds_toArray, List.set_cons_zero, List.set_cons_succ, List.getElem_toArray, List.getElem_cons_zero, List.getElem_cons_succ])
        refine wpAnyH_take (i := 4) (v := ?v235) rfl (by kernel_rfl) (by kernel_rfl) (by kernel_rfl) (fun _ _ _ h => h) (Or.inl ⟨by rfl, ?hy235⟩) hHeld ?_
        case hy235 => (intro w hSw; (try dsimp only at hSw); go_simp; try with_reducible rfl)
        (try simp only [Act.put, List.setIfInBounds_toArray, List.set_cons_zero, List.set_cons_succ, List.getElem_toArray, List.getElem_cons_zero, List.getElem_cons_succ])
        refine wpAnyH_take (i := 5) (v := ?v236) rfl (by kernel_rfl) (by kernel_rfl) (by kernel_rfl) (fun _ _ _ h => h) (Or.inl ⟨by rfl, ?hy236⟩) hHeld ?_
        case hy236 => (intro w hSw; (try dsimp only at hSw); go_simp; try with_reducible rfl)
        (try simp only [Act.put, List.setIfInBounds_toArray, List.set_cons_zero, List.set_cons_succ, List.getElem_toArray, List.getElem_cons_zero, List.getElem_cons_succ])
        refine wpAnyH_ready (rs := [6]) (by kernel_rfl) (by simp) ?_
        refine (AllReadyH.cons rfl (fun K hK => ?_) AllReadyH.nil)
        go_simp
        (refine (point_any p.at_ p.kind (flds p) HF.out b 0 _ _ ?_).mono ?_; (exact HC.out); rintro e w3 ⟨rfl, hb3⟩; replace hb3 := undrew hb3; have hc3 := bcell hb3)
        refine hK.out _ _ ?_ (fun hHeld => ?_)
        · (try dsimp only); go_keep
        clear hK K
        (try simp only [Act.put, List.setIfInBounds_toArray, List.set_cons_zero, List.set_cons_succ, List.getElem_toArray, List.getElem_cons_zero, List.getElem_cons_succ])
        refine wpAnyH_take (i := 7) (v := ?v237) rfl (by kernel_rfl) (by kernel_rfl) (by kernel_rfl) (fun _ _ _ h => h) (Or.inl ⟨by rfl, ?hy237⟩) hHeld ?_
        case hy237 => (intro w hSw; (try dsimp only at hSw); go_simp; try with_reducible rfl)
        (try simp only [Act.put, List.setIfInBounds_toArray, List.set_cons_zero, List.set_cons_succ, List.getElem_toArray, List.getElem_cons_zero, List.getElem_cons_succ])
        refine wpAnyH_take (i := 8) (v := ?v238) rfl (by kernel_rfl) (by kernel_rfl) (by kernel_rfl) (fun _ _ _ h => h) (Or.inl ⟨by rfl, ?hy238⟩) hHeld ?_
        case hy238 => (intro w hSw; (try dsimp only at hSw); go_simp; try with_reducible rfl)
        (try simp only [Act.put, List.setIfInBounds_toArray, List.set_cons_zero, List.set_cons_succ, List.getElem_toArray, List.getElem_cons_zero, List.getElem_cons_succ])
        refine wpAnyH_take (i := 9) (v := undef) rfl (by kernel_rfl) (by kernel_rfl) (by kernel_rfl) (fun _ _ _ h => h) (Or.inr ⟨by rfl, rfl⟩) hHeld ?_
        (try simp only [Act.put, List.setIfInBounds_toArray, List.set_cons_zero, List.set_cons_succ, List.getElem_toArray, List.getElem_cons_zero, List.getElem_cons_succ])
        refine wpAnyH_take (i := 10) (v := undef) rfl (by kernel_rfl) (by kernel_rfl) (by kernel_rfl) (fun _ _ _ h => h) (Or.inr ⟨by rfl, rfl⟩) hHeld ?_
        (try simp only [Act.put, List.setIfInBounds_toArray, List.set_cons_zero, List.set_cons_succ, List.getElem_toArray, List.getElem_cons_zero, List.getElem_cons_succ])
        refine wpAnyH_take (i := 11) (v := undef) rfl (by kernel_rfl) (by kernel_rfl) (by kernel_rfl) (fun _ _ _ h => h) (Or.inr ⟨by rfl, rfl⟩) hHeld ?_
        (try simp only [Act.put, List.setIfInBounds_toArray, List.set_cons_zero, List.set_cons_succ, List.getElem_toArray, List.getElem_cons_zero, List.getElem_cons_succ])
        refine wpAnyH_take (i := 12) (v := ?v239) rfl (by kernel_rfl) (by kernel_rfl) (by kernel_rfl) (fun _ _ _ h => h) (Or.inl ⟨by rfl, ?hy239⟩) hHeld ?_
        case hy239 => (intro w hSw; (try dsimp only at hSw); go_simp; try with_reducible rfl)
        (try simp only [Act.put, List.setIfInBounds_toArray, List.set_cons_zero, List.set_cons_succ, List.getElem_toArray, List.getElem_cons_zero, List.getElem_cons_succ])
        refine wpAnyH_take (i := 13) (v := ?v240) rfl (by kernel_rfl) (by kernel_rfl) (by kernel_rfl) (fun _ _ _ h => h) (Or.inl ⟨by rfl, ?hy240⟩) hHeld ?_
        case hy240 => (intro w hSw; (try dsimp only at hSw); go_simp; try with_reducible rfl)
        (try simp only [Act.put, List.setIfInBounds_toArray, List.set_cons_zero, List.set_cons_succ, List.getElem_toArray, List.getElem_cons_zero, List.getElem_cons_succ])
        refine wpAnyH_done (by kernel_rfl) ?_ _
        go_wp2
        go_ret
        refine ⟨?_, below_trans (below_trans (below_alloc hb1) hb2) hb3⟩
        rw [HO.out]; rfl
  · have he := wordB_nil hk
    have HO := Lib.hid (show okP p = false by simp [okP]; omega)
    clear hk
    go_enter Tryd.func44, Tryd.ntmps44
    go_wp2_with (go_at_call 59; refine (word_any _ _).mono ?_; rintro e w' ⟨rfl, hb1⟩)
    go_ret
    exact ⟨by rw [HO.out]; rfl, below_alloc hb1⟩
end Go.Proofs.YtcmnmcholfellaaDoor
