/-
  Walks: whether a point is valid, in the reference.
-/
import Derived.Test.YtcmnmcholfellaaDoorW4
namespace Go.Proofs.YtcmnmcholfellaaDoor
open Go.RowKit

/-- Negative numbers: none before k. -/
theorem anyNeg_take {l : List Int} {k : Nat} (hk : k < l.length) : anyNeg (l.take (k + 1)) = (anyNeg (l.take k) || decide (l[k] < 0)) := by
  unfold anyNeg
  rw [List.take_succ_eq_append_getElem hk, List.any_append, List.any_cons, List.any_nil, Bool.or_false]

theorem anyNeg_of_take {l : List Int} {k : Nat} (hk : k < l.length) (h : l[k] < 0) : anyNeg l = true :=
  List.any_eq_true.2 ⟨l[k], List.getElem_mem hk, by simpa using h⟩

theorem okP_kind {p : Pt} (h : p.kind < 1 ∨ 7 < p.kind) : okP p = false := by
  simp [okP]; omega
theorem okP_at {p : Pt} (h : p.at_ < 0) : okP p = false := by
  simp [okP]; omega
theorem okP_neg {p : Pt} (h : anyNeg (flds p) = true) : okP p = false := by
  simp [okP, h]
theorem okP_eq {p : Pt} (h1 : 1 ≤ p.kind) (h7 : p.kind ≤ 7) (ha : 0 ≤ p.at_) (hn : anyNeg (flds p) = false) : okP p = decide (mk p.at_ p.kind (flds p) = p) := by
  simp only [okP, h1, h7, ha, hn, decide_true, Bool.true_and, Bool.not_false, Bool.and_true]
  rw [eq_comm]
  by_cases h : p = mk p.at_ p.kind (flds p)
  · rw [decide_eq_true h, decide_eq_true h.symm]
  · rw [decide_eq_false h, decide_eq_false (fun e => h e.symm)]

theorem flds_le (p : Pt) : (flds p).length ≤ 3 := by rw [flds_length]; unfold cnt; split <;> (try split) <;> omega

set_option maxHeartbeats 1000000 in
theorem refPoint_any (p : Pt) (w : World) : Calls Tryd.prog 12 #[p.v] w fun e w' => e = .returned (.bool (okP p)) ∧ Below w.heap.size w w' := by
  by_cases hk : p.kind < 1
  · have hd : decide (p.kind < 1) = true := by simpa using hk
    have HO := Lib.hid (okP_kind (.inl hk))
    clear hk
    go_enter Tryd.func12, Tryd.ntmps12
    go_wp2
    go_ret
    exact ⟨by rw [HO.out]; rfl, (Below.refl _ _).alloc (Nat.le_refl _) _⟩
  by_cases hk7 : 7 < p.kind
  · have hd : decide (p.kind < 1) = false := by simpa using hk
    have hd7 : decide (7 < p.kind) = true := by simpa using hk7
    have HO := Lib.hid (okP_kind (.inr hk7))
    clear hk hk7
    go_enter Tryd.func12, Tryd.ntmps12
    go_wp2
    go_ret
    exact ⟨by rw [HO.out]; rfl, (Below.refl _ _).alloc (Nat.le_refl _) _⟩
  have hd : decide (p.kind < 1) = false := by simpa using hk
  have hd7 : decide (7 < p.kind) = false := by simpa using hk7
  by_cases ha : p.at_ < 0
  · have hda : decide (p.at_ < 0) = true := by simpa using ha
    have HO := Lib.hid (okP_at ha)
    clear hk hk7 ha
    go_enter Tryd.func12, Tryd.ntmps12
    go_wp2
    go_ret
    exact ⟨by rw [HO.out]; rfl, (Below.refl _ _).alloc (Nat.le_refl _) _⟩
  have hda : decide (p.at_ < 0) = false := by simpa using ha
  have HP : Hid (1 ≤ p.kind ∧ p.kind ≤ 7 ∧ 0 ≤ p.at_) := ⟨by omega, by omega, by omega⟩
  have hn3 := flds_le p
  clear hk hk7 ha
  have heq : ∀ w, (binOp .eql 23 (mk p.at_ p.kind (flds p)).v p.v).run Tryd.prog w = .ok (.bool (decide (mk p.at_ p.kind (flds p) = p))) w := fun w => run_eql_pt _ _ w
  go_enter Tryd.func12, Tryd.ntmps12
  go_wp2_with (go_at_call 33; refine (refFields_any p _).mono ?_; rintro e w1 ⟨b, rfl, hi, hb1⟩; obtain ⟨c0, c1, c2, c3, c4, c5, c6, c7, c8, c9, c10⟩ := ptAt_box hb1)
  have HI := Lib.hid hi
  have HB := Lib.hid (below_alloc hb1)
  clear hi hb1
  go_loop [4] (fun i => ∃ k : Nat, k ≤ (flds p).length ∧ i = .int .i64 k ∧ Hid (anyNeg ((flds p).take k) = false)) (fun i => (flds p).length - (intOf i).toNat)
  case atStart => exact ⟨0, by omega, rfl, rfl⟩
  case round =>
    obtain ⟨k, hk, rfl, hno⟩ := hrel
    by_cases hlt : k < (flds p).length
    · have hx : w1.cell? ⟨b, k, none⟩ = some (.int .i64 (flds p)[k]) := HI.out k _ (List.getElem?_eq_getElem hlt)
      by_cases hneg : (flds p)[k] < 0
      · have hd : decide ((flds p)[k] < 0) = true := by simpa using hneg
        have HO := Lib.hid (okP_neg (anyNeg_of_take hlt hneg))
        go_wp2
        go_ret
        exact ⟨by rw [HO.out]; rfl, HB.out⟩
      · have hd : decide ((flds p)[k] < 0) = false := by simpa using hneg
        go_wp2
        go_round
        case rel => exact ⟨k + 1, by omega, by go_num, by show _ = false; rw [anyNeg_take hlt, hno.out, hd]; rfl⟩
        case measure => simp [intOf]; omega
    · have hall : anyNeg (flds p) = false := by have := hno.out; rwa [List.take_of_length_le (by omega)] at this
      have HO := Lib.hid (okP_eq HP.out.1 HP.out.2.1 HP.out.2.2 hall)
      have HC : Hid (∀ k x, (flds p)[k]? = some x → w1.cell? ⟨b, 0 + k, none⟩ = some (.int .i64 x)) := fun k x hk => by rw [Nat.zero_add]; exact HI.out k x hk
      have HF := Lib.hid (flds_length p)
      have hz := lt_of_cell c0
      simp only at hz
      clear hall
      go_wp2
      refine wp_region_held_drew (S := (fun w' => w'.cell? ⟨w.heap.size, 0, none⟩ = some (.int .i64 p.at_) ∧ w'.cell? ⟨w.heap.size, 1, none⟩ = some (.int .i64 p.kind) ∧ w'.cell? ⟨w.heap.size, 2, none⟩ = some (.int .i64 p.tbl) ∧ w'.cell? ⟨w.heap.size, 3, none⟩ = some (.int .i64 p.wri) ∧ w'.cell? ⟨w.heap.size, 4, none⟩ = some (.int .i64 p.rdr) ∧ w'.cell? ⟨w.heap.size, 5, none⟩ = some (.int .i64 p.idx) ∧ w'.cell? ⟨w.heap.size, 6, none⟩ = some (.int .i64 p.tok) ∧ w'.cell? ⟨w.heap.size, 7, none⟩ = some (.int .i64 p.rnd) ∧ w'.cell? ⟨w.heap.size, 8, none⟩ = some (.int .i64 p.rep) ∧ w'.cell? ⟨w.heap.size, 9, none⟩ = some (.int .i64 p.ver) ∧ w'.cell? ⟨w.heap.size, 10, none⟩ = some (.int .i64 p.hol))) (by kernel_rfl) ?_ (fun hHeld => ?_)
      · (try dsimp only); go_keep
      refine wpAnyH_take (i := 0) (v := ?v241) rfl (by kernel_rfl) (by kernel_rfl) (by kernel_rfl) (fun _ _ _ h => h) (Or.inl ⟨by rfl, ?hy241⟩) hHeld ?_
      case hy241 => (intro w hSw; (try dsimp only at hSw); go_simp; try with_reducible rfl)
      (try simp only [Act.put, List.setIfInBounds_toArray, List.set_cons_zero, List.set_cons_succ, List.getElem_toArray, List.getElem_cons_zero])
      refine wpAnyH_take (i := 1) (v := ?v242) rfl (by kernel_rfl) (by kernel_rfl) (by kernel_rfl) (fun _ _ _ h => h) (Or.inl ⟨by rfl, ?hy242⟩) hHeld ?_
      case hy242 => (intro w hSw; (try dsimp only at hSw); go_simp; try with_reducible rfl)
      (try simp only [Act.put, List.setIfInBounds_toArray, List.set_cons_zero, List.set_cons_succ, List.getElem_toArray, List.getElem_cons_zero, List.getElem_cons_succ])
      refine wpAnyH_take (i := 2) (v := ?v243) rfl (by kernel_rfl) (by kernel_rfl) (by kernel_rfl) (fun _ _ _ h => h) (Or.inl ⟨by rfl, ?hy243⟩) hHeld ?_
      case hy243 => (intro w hSw; (try dsimp only at hSw); go_simp; try with_reducible rfl)
      (try simp only [Act.put, List.setIfInBounds_toArray, List.set_cons_zero, List.set_cons_succ, List.getElem_toArray, List.getElem_cons_zero, List.getElem_cons_succ])
      refine wpAnyH_take (i := 3) (v := ?v244) rfl (by kernel_rfl) (by kernel_rfl) (by kernel_rfl) (fun _ _ _ h => h) (Or.inl ⟨by rfl, ?hy244⟩) hHeld ?_
      case hy244 => (intro w hSw; (try dsimp only at hSw); go_simp; try with_reducible rfl)
      (try simp only [Act.put, List.setIfInBounds_toArray, List.set_cons_zero, List.set_cons_succ, List.getElem_toArray, List.getElem_cons_zero, List.getElem_cons_succ])
      refine wpAnyH_take (i := 4) (v := ?v245) rfl (by kernel_rfl) (by kernel_rfl) (by kernel_rfl) (fun _ _ _ h => h) (Or.inl ⟨by rfl, ?hy245⟩) hHeld ?_
      case hy245 => (intro w hSw; (try dsimp only at hSw); go_simp; try with_reducible rfl)
      (try simp only [Act.put, List.setIfInBounds_toArray, List.set_cons_zero, List.set_cons_succ, List.getElem_toArray, List.getElem_cons_zero, List.getElem_cons_succ])
      refine wpAnyH_take (i := 6) (v := ?v246) rfl (by kernel_rfl) (by kernel_rfl) (by kernel_rfl) (fun _ _ _ h => h) (Or.inl ⟨by rfl, ?hy246⟩) hHeld ?_
      case hy246 => (intro w hSw; (try dsimp only at hSw); go_simp; try with_reducible rfl)
      (try simp only [Act.put, List.setIfInBounds_toArray, List.set_cons_zero, List.set_cons_succ, List.getElem_toArray, List.getElem_cons_zero, List.getElem_cons_succ])
      refine wpAnyH_ready (rs := [5]) (by kernel_rfl) (by simp) ?_
      refine (AllReadyH.cons rfl (fun K hK => ?_) AllReadyH.nil)
      go_simp
      (refine (refMake_any p.at_ p.kind (flds p) HF.out b 0 _ _ ?_).mono ?_; (exact HC.out); rintro e w3 ⟨rfl, hb3⟩; replace hb3 := undrew hb3; have hc3 := bcell hb3)
      refine hK.out _ _ ?_ (fun hHeld => ?_)
      · (try dsimp only); go_keep
      clear hK K
      (try simp only [Act.put, List.setIfInBounds_toArray, List.set_cons_zero, List.set_cons_succ, List.getElem_toArray, List.getElem_cons_zero, List.getElem_cons_succ])
      refine wpAnyH_take (i := 7) (v := ?v247) rfl (by kernel_rfl) (by kernel_rfl) (by kernel_rfl) (fun _ _ _ h => h) (Or.inl ⟨by rfl, ?hy247⟩) hHeld ?_
      case hy247 => (intro w hSw; (try dsimp only at hSw); go_simp; try with_reducible rfl)
      (try simp only [Act.put, List.setIfInBounds_toArray, List.set_cons_zero, List.set_cons_succ, List.getElem_toArray, List.getElem_cons_zero, List.getElem_cons_succ])
      refine wpAnyH_take (i := 8) (v := ?v248) rfl (by kernel_rfl) (by kernel_rfl) (by kernel_rfl) (fun _ _ _ h => h) (Or.inl ⟨by rfl, ?hy248⟩) hHeld ?_
      case hy248 => (intro w hSw; (try dsimp only at hSw); go_simp; try with_reducible rfl)
      (try simp only [Act.put, List.setIfInBounds_toArray, List.set_cons_zero, List.set_cons_succ, List.getElem_toArray, List.getElem_cons_zero, List.getElem_cons_succ])
      refine wpAnyH_done (by kernel_rfl) ?_ _
      go_wp2
      go_ret
      exact ⟨by rw [HO.out]; rfl, below_trans HB.out hb3⟩
end Go.Proofs.YtcmnmcholfellaaDoor
