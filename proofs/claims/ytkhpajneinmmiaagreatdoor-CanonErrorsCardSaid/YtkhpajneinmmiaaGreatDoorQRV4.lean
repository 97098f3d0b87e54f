/-
  Walks: whether a type is right, in the reference (written by gen_rv4.py).
-/
import Derived.Test.YtkhpajneinmmiaaGreatDoorQRV3
import Derived.Test.YtkhpajneinmmiaaGreatDoorQSC7
import Derived.Test.YtkhpajneinmmiaaGreatDoorQEQ6
namespace Go.Proofs.YtkhpajneinmmiaaGreatDoor
open Go.RowKit

theorem tb_cells {w w' : World} {t : TyD} {As : Option Addr} {cs : Nat} {Am : Option Addr} {cm : Nat} (h : TBox w' w.heap.size t As cs Am cm) (hb : Below w.heap.size w w') : (w'.cell? ⟨w.heap.size, 0, none⟩ = some (.int .i64 t.kind) ∧ w'.cell? ⟨w.heap.size, 1, none⟩ = some (.string t.name) ∧ w'.cell? ⟨w.heap.size, 2, none⟩ = some (.int .i64 t.low) ∧ w'.cell? ⟨w.heap.size, 3, none⟩ = some (.int .i64 t.high) ∧ w'.cell? ⟨w.heap.size, 4, none⟩ = some (.int .i64 t.max) ∧ w'.cell? ⟨w.heap.size, 5, none⟩ = some (.slice As t.syms.length cs) ∧ w'.cell? ⟨w.heap.size, 6, none⟩ = some (.slice Am t.mems.length cm) ∧ w'.cell? ⟨w.heap.size, 7, none⟩ = some (.int .i64 t.key) ∧ w'.cell? ⟨w.heap.size, 8, none⟩ = some (.int .i64 t.elem) ∧ w'.cell? ⟨w.heap.size, 9, none⟩ = some (.bool t.open_)) ∧ Hid (TBox w' w.heap.size t As cs Am cm ∧ Below w.heap.size w w') :=
  ⟨⟨h.cell 0, h.cell 1, h.cell 2, h.cell 3, h.cell 4, h.cell 5, h.cell 6, h.cell 7, h.cell 8, h.cell 9⟩, h, hb⟩
theorem tb_more {w wc w3 : World} {t : TyD} {As : Option Addr} {cs : Nat} {Am : Option Addr} {cm : Nat} (h : TBox wc w.heap.size t As cs Am cm ∧ Below w.heap.size w wc) (hb : Below wc.heap.size wc w3) : TBox w3 w.heap.size t As cs Am cm ∧ Below w.heap.size w w3 := ⟨h.1.below hb, below_trans h.2 hb⟩

/-- What the first test of 'own' says. -/
def badD (t : TyD) : Bool := !decide (t = plainD t) || (namedD t.kind && !nameB t.name)
theorem form_bad {t : TyD} (h : badD t = true) : formD t = false := by
  unfold badD at h
  unfold formD
  cases h1 : decide (t = plainD t) with
  | false => simp
  | true =>
    rw [h1] at h
    simp only [Bool.not_true, Bool.false_or, Bool.and_eq_true, Bool.not_eq_true'] at h
    rw [h.1, h.2]; simp
theorem form_good {t : TyD} (h1 : 1 ≤ t.kind) (h9 : t.kind ≤ 9) (h : badD t = false) : formD t = caseD t := by
  unfold badD at h
  unfold formD
  simp only [Bool.or_eq_false_iff, Bool.not_eq_false'] at h
  rw [h.1]
  have : (!namedD t.kind || nameB t.name) = true := by
    rcases Bool.and_eq_false_iff.1 h.2 with e | e
    · rw [e]; rfl
    · simp only [Bool.not_eq_false'] at e; rw [e]; simp
  rw [this]; simp [h1, h9]

set_option maxHeartbeats 8000000 in
set_option maxRecDepth 100000 in
theorem own_any (t : TyD) (As : Option Addr) (cs : Nat) (Am : Option Addr) (cm : Nat) (w : World) (ht : TyR w t As Am) :
    Calls Tryz.prog 62 #[t.v As cs Am cm] w (SamePost (formD t) w) := by
  have HX := Lib.hid ht
  clear ht
  have HTB : Hid (TBox (w.alloc (t.box As cs Am cm)) w.heap.size t As cs Am cm) := heap_alloc_new w (t.box As cs Am cm)
  have HB0 := Lib.hid (below_new w (t.box As cs Am cm))
  by_cases hlo : t.kind < 1
  · have HD := Lib.hid (form_out (t := t) (.inl hlo))
    have d1 : decide (t.kind < 1) = true := by simpa using hlo
    clear hlo
    go_enter Tryz.func62, Tryz.ntmps62
    go_wp2
    go_quiet (fail)
    go_wp2
    go_ret
    exact ⟨by rw [HD.out]; rfl, below_drewN (below_new _ _) _⟩
  by_cases hhi : 9 < t.kind
  · have HD := Lib.hid (form_out (t := t) (.inr hhi))
    have d1 : decide (t.kind < 1) = false := by simpa using hlo
    have d2 : decide (9 < t.kind) = true := by simpa using hhi
    clear hlo hhi
    go_enter Tryz.func62, Tryz.ntmps62
    go_wp2
    go_quiet (fail)
    go_wp2
    go_ret
    exact ⟨by rw [HD.out]; rfl, below_drewN (below_new _ _) _⟩
  have d1 : decide (t.kind < 1) = false := by simpa using hlo
  have d2 : decide (9 < t.kind) = false := by simpa using hhi
  have h1 : 1 ≤ t.kind := by omega
  have h9 : t.kind ≤ 9 := by omega
  clear hlo hhi
  go_enter Tryz.func62, Tryz.ntmps62
  go_upto_region 1 with fail
  go_cut [28] (fun s28 wx => s28 = .bool (badD t) ∧ Hid (TBox wx w.heap.size t As cs Am cm ∧ Below w.heap.size w wx))
  case first =>
    generalize w.alloc (t.box As cs Am cm) = wc at *
    have HC0 := Lib.hid (tb_cells HTB.out HB0.out)
    cases hsame : decide (t = plainD t) with
    | false =>
      have HSM := Lib.hid hsame
      have HBD := Lib.hid (show badD t = true by unfold badD; rw [hsame]; rfl)
      clear hsame
      refine wp_region_held_drew (S := (fun w' => (w'.cell? ⟨w.heap.size, 0, none⟩ = some (.int .i64 t.kind) ∧ w'.cell? ⟨w.heap.size, 1, none⟩ = some (.string t.name) ∧ w'.cell? ⟨w.heap.size, 2, none⟩ = some (.int .i64 t.low) ∧ w'.cell? ⟨w.heap.size, 3, none⟩ = some (.int .i64 t.high) ∧ w'.cell? ⟨w.heap.size, 4, none⟩ = some (.int .i64 t.max) ∧ w'.cell? ⟨w.heap.size, 5, none⟩ = some (.slice As t.syms.length cs) ∧ w'.cell? ⟨w.heap.size, 6, none⟩ = some (.slice Am t.mems.length cm) ∧ w'.cell? ⟨w.heap.size, 7, none⟩ = some (.int .i64 t.key) ∧ w'.cell? ⟨w.heap.size, 8, none⟩ = some (.int .i64 t.elem) ∧ w'.cell? ⟨w.heap.size, 9, none⟩ = some (.bool t.open_)) ∧ Hid (TBox w' w.heap.size t As cs Am cm ∧ Below w.heap.size w w'))) (by kernel_rfl) ?_ (fun hHeld => ?_)
      · (try dsimp only); exact tb_cells (w' := wc.drew) HTB.out (below_drewN HB0.out 1)
      refine wpAnyH_take (i := 0) (v := ?v364) rfl (by kernel_rfl) (by kernel_rfl) (by kernel_rfl) (fun _ _ _ h => h) (Or.inl ⟨by rfl, ?hy364⟩) hHeld ?_
      case hy364 => (intro w hSw; (try dsimp only at hSw); go_simp; try with_reducible rfl)
      (try simp only [Act.put, List.setIfInBounds_toArray, List.set_cons_zero, List.set_cons_succ, List.getElem_toArray, List.getElem_cons_zero])
      refine wpAnyH_take (i := 1) (v := ?v365) rfl (by kernel_rfl) (by kernel_rfl) (by kernel_rfl) (fun _ _ _ h => h) (Or.inl ⟨by rfl, ?hy365⟩) hHeld ?_
      case hy365 => (intro w hSw; (try dsimp only at hSw); go_simp; try with_reducible rfl)
      (try simp only [Act.put, List.setIfInBounds_toArray, List.set_cons_zero, List.set_cons_succ, List.getElem_toArray, List.getElem_cons_zero, List.getElem_cons_succ])
      refine wpAnyH_take (i := 2) (v := ?v366) rfl (by kernel_rfl) (by kernel_rfl) (by kernel_rfl) (fun _ _ _ h => h) (Or.inl ⟨by rfl, ?hy366⟩) hHeld ?_
      case hy366 => (intro w hSw; (try dsimp only at hSw); go_simp; try with_reducible rfl)
      (try simp only [Act.put, List.setIfInBounds_toArray, List.set_cons_zero, List.set_cons_succ, List.getElem_toArray, List.getElem_cons_zero, List.getElem_cons_succ])
      refine wpAnyH_take (i := 3) (v := ?v367) rfl (by kernel_rfl) (by kernel_rfl) (by kernel_rfl) (fun _ _ _ h => h) (Or.inl ⟨by rfl, ?hy367⟩) hHeld ?_
      case hy367 => (intro w hSw; (try dsimp only at hSw); go_simp; try with_reducible rfl)
      (try simp only [Act.put, List.setIfInBounds_toArray, List.set_cons_zero, List.set_cons_succ, List.getElem_toArray, List.getElem_cons_zero, List.getElem_cons_succ])
      refine wpAnyH_take (i := 4) (v := ?v368) rfl (by kernel_rfl) (by kernel_rfl) (by kernel_rfl) (fun _ _ _ h => h) (Or.inl ⟨by rfl, ?hy368⟩) hHeld ?_
      case hy368 => (intro w hSw; (try dsimp only at hSw); go_simp; try with_reducible rfl)
      (try simp only [Act.put, List.setIfInBounds_toArray, List.set_cons_zero, List.set_cons_succ, List.getElem_toArray, List.getElem_cons_zero, List.getElem_cons_succ])
      refine wpAnyH_take (i := 5) (v := ?v369) rfl (by kernel_rfl) (by kernel_rfl) (by kernel_rfl) (fun _ _ _ h => h) (Or.inl ⟨by rfl, ?hy369⟩) hHeld ?_
      case hy369 => (intro w hSw; (try dsimp only at hSw); go_simp; try with_reducible rfl)
      (try simp only [Act.put, List.setIfInBounds_toArray, List.set_cons_zero, List.set_cons_succ, List.getElem_toArray, List.getElem_cons_zero, List.getElem_cons_succ])
      refine wpAnyH_take (i := 6) (v := ?v370) rfl (by kernel_rfl) (by kernel_rfl) (by kernel_rfl) (fun _ _ _ h => h) (Or.inl ⟨by rfl, ?hy370⟩) hHeld ?_
      case hy370 => (intro w hSw; (try dsimp only at hSw); go_simp; try with_reducible rfl)
      (try simp only [Act.put, List.setIfInBounds_toArray, List.set_cons_zero, List.set_cons_succ, List.getElem_toArray, List.getElem_cons_zero, List.getElem_cons_succ])
      refine wpAnyH_take (i := 7) (v := ?v371) rfl (by kernel_rfl) (by kernel_rfl) (by kernel_rfl) (fun _ _ _ h => h) (Or.inl ⟨by rfl, ?hy371⟩) hHeld ?_
      case hy371 => (intro w hSw; (try dsimp only at hSw); go_simp; try with_reducible rfl)
      (try simp only [Act.put, List.setIfInBounds_toArray, List.set_cons_zero, List.set_cons_succ, List.getElem_toArray, List.getElem_cons_zero, List.getElem_cons_succ])
      refine wpAnyH_take (i := 8) (v := ?v372) rfl (by kernel_rfl) (by kernel_rfl) (by kernel_rfl) (fun _ _ _ h => h) (Or.inl ⟨by rfl, ?hy372⟩) hHeld ?_
      case hy372 => (intro w hSw; (try dsimp only at hSw); go_simp; try with_reducible rfl)
      (try simp only [Act.put, List.setIfInBounds_toArray, List.set_cons_zero, List.set_cons_succ, List.getElem_toArray, List.getElem_cons_zero, List.getElem_cons_succ])
      refine wpAnyH_take (i := 9) (v := ?v373) rfl (by kernel_rfl) (by kernel_rfl) (by kernel_rfl) (fun _ _ _ h => h) (Or.inl ⟨by rfl, ?hy373⟩) hHeld ?_
      case hy373 => (intro w hSw; (try dsimp only at hSw); go_simp; try with_reducible rfl)
      (try simp only [Act.put, List.setIfInBounds_toArray, List.set_cons_zero, List.set_cons_succ, List.getElem_toArray, List.getElem_cons_zero, List.getElem_cons_succ])
      refine wpAnyH_take (i := 10) (v := ?v374) rfl (by kernel_rfl) (by kernel_rfl) (by kernel_rfl) (fun _ _ _ h => h) (Or.inl ⟨by rfl, ?hy374⟩) hHeld ?_
      case hy374 => (intro w hSw; (try dsimp only at hSw); go_simp; try with_reducible rfl)
      (try simp only [Act.put, List.setIfInBounds_toArray, List.set_cons_zero, List.set_cons_succ, List.getElem_toArray, List.getElem_cons_zero, List.getElem_cons_succ])
      refine wpAnyH_ready (rs := [11]) (by kernel_rfl) (by simp) ?_
      refine (AllReadyH.cons rfl (fun K hK => ?_) AllReadyH.nil)
      go_simp
      (refine (plain_any t h1 h9 As cs Am cm _).mono ?_; rintro e w3 ⟨Bs, ds, Bm, dm, rfl, hpl, hbx⟩)
      refine hK.out _ _ ?_ (fun hHeld => ?_)
      · (try dsimp only); exact tb_cells (tb_more hHeld.2.out hbx).1 (tb_more hHeld.2.out hbx).2
      clear hK K
      (try simp only [Act.put, List.setIfInBounds_toArray, List.set_cons_zero, List.set_cons_succ, List.getElem_toArray, List.getElem_cons_zero, List.getElem_cons_succ])
      refine wpAnyH_ready (rs := [12]) (by kernel_rfl) (by simp) ?_
      refine (AllReadyH.cons rfl (fun K hK => ?_) AllReadyH.nil)
      go_simp
      (refine (sameType_any t (plainD t) As cs Am cm Bs ds Bm dm _ (HX.out.below (below_trans hHeld.2.out.2 (Below.refl _ _))) (plain_tyR (HX.out.below hHeld.2.out.2) hpl)).mono ?_; rintro e w4 ⟨rfl, hbx⟩; rw [HSM.out])
      refine hK.out _ _ ?_ (fun hHeld => ?_)
      · (try dsimp only); exact tb_cells (tb_more hHeld.2.out hbx).1 (tb_more hHeld.2.out hbx).2
      clear hK K
      (try simp only [Act.put, List.setIfInBounds_toArray, List.set_cons_zero, List.set_cons_succ, List.getElem_toArray, List.getElem_cons_zero, List.getElem_cons_succ])
      refine wpAnyH_take (i := 13) (v := ?v375) rfl (by kernel_rfl) (by kernel_rfl) (by kernel_rfl) (fun _ _ _ h => h) (Or.inl ⟨by rfl, ?hy375⟩) hHeld ?_
      case hy375 => (intro w hSw; (try dsimp only at hSw); go_simp; try with_reducible rfl)
      (try simp only [Act.put, List.setIfInBounds_toArray, List.set_cons_zero, List.set_cons_succ, List.getElem_toArray, List.getElem_cons_zero, List.getElem_cons_succ])
      refine wpAnyH_take (i := 14) (v := ?v376) rfl (by kernel_rfl) (by kernel_rfl) (by kernel_rfl) (fun _ _ _ h => h) (Or.inl ⟨by rfl, ?hy376⟩) hHeld ?_
      case hy376 => (intro w hSw; (try dsimp only at hSw); go_simp; try with_reducible rfl)
      (try simp only [Act.put, List.setIfInBounds_toArray, List.set_cons_zero, List.set_cons_succ, List.getElem_toArray, List.getElem_cons_zero, List.getElem_cons_succ])
      refine wpAnyH_take (i := 15) (v := ?v377) rfl (by kernel_rfl) (by kernel_rfl) (by kernel_rfl) (fun _ _ _ h => h) (Or.inl ⟨by rfl, ?hy377⟩) hHeld ?_
      case hy377 => (intro w hSw; (try dsimp only at hSw); go_simp; try with_reducible rfl)
      (try simp only [Act.put, List.setIfInBounds_toArray, List.set_cons_zero, List.set_cons_succ, List.getElem_toArray, List.getElem_cons_zero, List.getElem_cons_succ])
      refine wpAnyH_take (i := 16) (v := undef) rfl (by kernel_rfl) (by kernel_rfl) (by kernel_rfl) (fun _ _ _ h => h) (Or.inr ⟨by rfl, rfl⟩) hHeld ?_
      (try simp only [Act.put, List.setIfInBounds_toArray, List.set_cons_zero, List.set_cons_succ, List.getElem_toArray, List.getElem_cons_zero, List.getElem_cons_succ])
      refine wpAnyH_take (i := 17) (v := undef) rfl (by kernel_rfl) (by kernel_rfl) (by kernel_rfl) (fun _ _ _ h => h) (Or.inr ⟨by rfl, rfl⟩) hHeld ?_
      (try simp only [Act.put, List.setIfInBounds_toArray, List.set_cons_zero, List.set_cons_succ, List.getElem_toArray, List.getElem_cons_zero, List.getElem_cons_succ])
      refine wpAnyH_take (i := 18) (v := undef) rfl (by kernel_rfl) (by kernel_rfl) (by kernel_rfl) (fun _ _ _ h => h) (Or.inr ⟨by rfl, rfl⟩) hHeld ?_
      (try simp only [Act.put, List.setIfInBounds_toArray, List.set_cons_zero, List.set_cons_succ, List.getElem_toArray, List.getElem_cons_zero, List.getElem_cons_succ])
      refine wpAnyH_take (i := 19) (v := undef) rfl (by kernel_rfl) (by kernel_rfl) (by kernel_rfl) (fun _ _ _ h => h) (Or.inr ⟨by rfl, rfl⟩) hHeld ?_
      (try simp only [Act.put, List.setIfInBounds_toArray, List.set_cons_zero, List.set_cons_succ, List.getElem_toArray, List.getElem_cons_zero, List.getElem_cons_succ])
      refine wpAnyH_take (i := 20) (v := undef) rfl (by kernel_rfl) (by kernel_rfl) (by kernel_rfl) (fun _ _ _ h => h) (Or.inr ⟨by rfl, rfl⟩) hHeld ?_
      (try simp only [Act.put, List.setIfInBounds_toArray, List.set_cons_zero, List.set_cons_succ, List.getElem_toArray, List.getElem_cons_zero, List.getElem_cons_succ])
      refine wpAnyH_take (i := 21) (v := undef) rfl (by kernel_rfl) (by kernel_rfl) (by kernel_rfl) (fun _ _ _ h => h) (Or.inr ⟨by rfl, rfl⟩) hHeld ?_
      (try simp only [Act.put, List.setIfInBounds_toArray, List.set_cons_zero, List.set_cons_succ, List.getElem_toArray, List.getElem_cons_zero, List.getElem_cons_succ])
      refine wpAnyH_take (i := 22) (v := undef) rfl (by kernel_rfl) (by kernel_rfl) (by kernel_rfl) (fun _ _ _ h => h) (Or.inr ⟨by rfl, rfl⟩) hHeld ?_
      (try simp only [Act.put, List.setIfInBounds_toArray, List.set_cons_zero, List.set_cons_succ, List.getElem_toArray, List.getElem_cons_zero, List.getElem_cons_succ])
      refine wpAnyH_take (i := 23) (v := undef) rfl (by kernel_rfl) (by kernel_rfl) (by kernel_rfl) (fun _ _ _ h => h) (Or.inr ⟨by rfl, rfl⟩) hHeld ?_
      (try simp only [Act.put, List.setIfInBounds_toArray, List.set_cons_zero, List.set_cons_succ, List.getElem_toArray, List.getElem_cons_zero, List.getElem_cons_succ])
      refine wpAnyH_take (i := 24) (v := undef) rfl (by kernel_rfl) (by kernel_rfl) (by kernel_rfl) (fun _ _ _ h => h) (Or.inr ⟨by rfl, rfl⟩) hHeld ?_
      (try simp only [Act.put, List.setIfInBounds_toArray, List.set_cons_zero, List.set_cons_succ, List.getElem_toArray, List.getElem_cons_zero, List.getElem_cons_succ])
      refine wpAnyH_take (i := 25) (v := ?v378) rfl (by kernel_rfl) (by kernel_rfl) (by kernel_rfl) (fun _ _ _ h => h) (Or.inl ⟨by rfl, ?hy378⟩) hHeld ?_
      case hy378 => (intro w hSw; (try dsimp only at hSw); go_simp; try with_reducible rfl)
      (try simp only [Act.put, List.setIfInBounds_toArray, List.set_cons_zero, List.set_cons_succ, List.getElem_toArray, List.getElem_cons_zero, List.getElem_cons_succ])
      refine wpAnyH_done (by kernel_rfl) ?_ _
      have HEX := Lib.hid hHeld.2.out
      clear hHeld
      go_wp2_with fail
      go_meet
      exact ⟨by rw [HBD.out]; try rfl, HEX.out⟩
    | true =>
      have HSM := Lib.hid hsame
      cases hnm : namedD t.kind with
      | false =>
        have HNA := Lib.hid hnm
        have HBD := Lib.hid (show badD t = false by unfold badD; rw [hsame, hnm]; rfl)
        clear hsame hnm
        refine wp_region_held_drew (S := (fun w' => (w'.cell? ⟨w.heap.size, 0, none⟩ = some (.int .i64 t.kind) ∧ w'.cell? ⟨w.heap.size, 1, none⟩ = some (.string t.name) ∧ w'.cell? ⟨w.heap.size, 2, none⟩ = some (.int .i64 t.low) ∧ w'.cell? ⟨w.heap.size, 3, none⟩ = some (.int .i64 t.high) ∧ w'.cell? ⟨w.heap.size, 4, none⟩ = some (.int .i64 t.max) ∧ w'.cell? ⟨w.heap.size, 5, none⟩ = some (.slice As t.syms.length cs) ∧ w'.cell? ⟨w.heap.size, 6, none⟩ = some (.slice Am t.mems.length cm) ∧ w'.cell? ⟨w.heap.size, 7, none⟩ = some (.int .i64 t.key) ∧ w'.cell? ⟨w.heap.size, 8, none⟩ = some (.int .i64 t.elem) ∧ w'.cell? ⟨w.heap.size, 9, none⟩ = some (.bool t.open_)) ∧ Hid (TBox w' w.heap.size t As cs Am cm ∧ Below w.heap.size w w'))) (by kernel_rfl) ?_ (fun hHeld => ?_)
        · (try dsimp only); exact tb_cells (w' := wc.drew) HTB.out (below_drewN HB0.out 1)
        refine wpAnyH_take (i := 0) (v := ?v379) rfl (by kernel_rfl) (by kernel_rfl) (by kernel_rfl) (fun _ _ _ h => h) (Or.inl ⟨by rfl, ?hy379⟩) hHeld ?_
        case hy379 => (intro w hSw; (try dsimp only at hSw); go_simp; try with_reducible rfl)
        (try simp only [Act.put, List.setIfInBounds_toArray, List.set_cons_zero, List.set_cons_succ, List.getElem_toArray, List.getElem_cons_zero])
        refine wpAnyH_take (i := 1) (v := ?v380) rfl (by kernel_rfl) (by kernel_rfl) (by kernel_rfl) (fun _ _ _ h => h) (Or.inl ⟨by rfl, ?hy380⟩) hHeld ?_
        case hy380 => (intro w hSw; (try dsimp only at hSw); go_simp; try with_reducible rfl)
        (try simp only [Act.put, List.setIfInBounds_toArray, List.set_cons_zero, List.set_cons_succ, List.getElem_toArray, List.getElem_cons_zero, List.getElem_cons_succ])
        refine wpAnyH_take (i := 2) (v := ?v381) rfl (by kernel_rfl) (by kernel_rfl) (by kernel_rfl) (fun _ _ _ h => h) (Or.inl ⟨by rfl, ?hy381⟩) hHeld ?_
        case hy381 => (intro w hSw; (try dsimp only at hSw); go_simp; try with_reducible rfl)
        (try simp only [Act.put, List.setIfInBounds_toArray, List.set_cons_zero, List.set_cons_succ, List.getElem_toArray, List.getElem_cons_zero, List.getElem_cons_succ])
        refine wpAnyH_take (i := 3) (v := ?v382) rfl (by kernel_rfl) (by kernel_rfl) (by kernel_rfl) (fun _ _ _ h => h) (Or.inl ⟨by rfl, ?hy382⟩) hHeld ?_
        case hy382 => (intro w hSw; (try dsimp only at hSw); go_simp; try with_reducible rfl)
        (try simp only [Act.put, List.setIfInBounds_toArray, List.set_cons_zero, List.set_cons_succ, List.getElem_toArray, List.getElem_cons_zero, List.getElem_cons_succ])
        refine wpAnyH_take (i := 4) (v := ?v383) rfl (by kernel_rfl) (by kernel_rfl) (by kernel_rfl) (fun _ _ _ h => h) (Or.inl ⟨by rfl, ?hy383⟩) hHeld ?_
        case hy383 => (intro w hSw; (try dsimp only at hSw); go_simp; try with_reducible rfl)
        (try simp only [Act.put, List.setIfInBounds_toArray, List.set_cons_zero, List.set_cons_succ, List.getElem_toArray, List.getElem_cons_zero, List.getElem_cons_succ])
        refine wpAnyH_take (i := 5) (v := ?v384) rfl (by kernel_rfl) (by kernel_rfl) (by kernel_rfl) (fun _ _ _ h => h) (Or.inl ⟨by rfl, ?hy384⟩) hHeld ?_
        case hy384 => (intro w hSw; (try dsimp only at hSw); go_simp; try with_reducible rfl)
        (try simp only [Act.put, List.setIfInBounds_toArray, List.set_cons_zero, List.set_cons_succ, List.getElem_toArray, List.getElem_cons_zero, List.getElem_cons_succ])
        refine wpAnyH_take (i := 6) (v := ?v385) rfl (by kernel_rfl) (by kernel_rfl) (by kernel_rfl) (fun _ _ _ h => h) (Or.inl ⟨by rfl, ?hy385⟩) hHeld ?_
        case hy385 => (intro w hSw; (try dsimp only at hSw); go_simp; try with_reducible rfl)
        (try simp only [Act.put, List.setIfInBounds_toArray, List.set_cons_zero, List.set_cons_succ, List.getElem_toArray, List.getElem_cons_zero, List.getElem_cons_succ])
        refine wpAnyH_take (i := 7) (v := ?v386) rfl (by kernel_rfl) (by kernel_rfl) (by kernel_rfl) (fun _ _ _ h => h) (Or.inl ⟨by rfl, ?hy386⟩) hHeld ?_
        case hy386 => (intro w hSw; (try dsimp only at hSw); go_simp; try with_reducible rfl)
        (try simp only [Act.put, List.setIfInBounds_toArray, List.set_cons_zero, List.set_cons_succ, List.getElem_toArray, List.getElem_cons_zero, List.getElem_cons_succ])
        refine wpAnyH_take (i := 8) (v := ?v387) rfl (by kernel_rfl) (by kernel_rfl) (by kernel_rfl) (fun _ _ _ h => h) (Or.inl ⟨by rfl, ?hy387⟩) hHeld ?_
        case hy387 => (intro w hSw; (try dsimp only at hSw); go_simp; try with_reducible rfl)
        (try simp only [Act.put, List.setIfInBounds_toArray, List.set_cons_zero, List.set_cons_succ, List.getElem_toArray, List.getElem_cons_zero, List.getElem_cons_succ])
        refine wpAnyH_take (i := 9) (v := ?v388) rfl (by kernel_rfl) (by kernel_rfl) (by kernel_rfl) (fun _ _ _ h => h) (Or.inl ⟨by rfl, ?hy388⟩) hHeld ?_
        case hy388 => (intro w hSw; (try dsimp only at hSw); go_simp; try with_reducible rfl)
        (try simp only [Act.put, List.setIfInBounds_toArray, List.set_cons_zero, List.set_cons_succ, List.getElem_toArray, List.getElem_cons_zero, List.getElem_cons_succ])
        refine wpAnyH_take (i := 10) (v := ?v389) rfl (by kernel_rfl) (by kernel_rfl) (by kernel_rfl) (fun _ _ _ h => h) (Or.inl ⟨by rfl, ?hy389⟩) hHeld ?_
        case hy389 => (intro w hSw; (try dsimp only at hSw); go_simp; try with_reducible rfl)
        (try simp only [Act.put, List.setIfInBounds_toArray, List.set_cons_zero, List.set_cons_succ, List.getElem_toArray, List.getElem_cons_zero, List.getElem_cons_succ])
        refine wpAnyH_ready (rs := [11]) (by kernel_rfl) (by simp) ?_
        refine (AllReadyH.cons rfl (fun K hK => ?_) AllReadyH.nil)
        go_simp
        (refine (plain_any t h1 h9 As cs Am cm _).mono ?_; rintro e w3 ⟨Bs, ds, Bm, dm, rfl, hpl, hbx⟩)
        refine hK.out _ _ ?_ (fun hHeld => ?_)
        · (try dsimp only); exact tb_cells (tb_more hHeld.2.out hbx).1 (tb_more hHeld.2.out hbx).2
        clear hK K
        (try simp only [Act.put, List.setIfInBounds_toArray, List.set_cons_zero, List.set_cons_succ, List.getElem_toArray, List.getElem_cons_zero, List.getElem_cons_succ])
        refine wpAnyH_ready (rs := [12]) (by kernel_rfl) (by simp) ?_
        refine (AllReadyH.cons rfl (fun K hK => ?_) AllReadyH.nil)
        go_simp
        (refine (sameType_any t (plainD t) As cs Am cm Bs ds Bm dm _ (HX.out.below (below_trans hHeld.2.out.2 (Below.refl _ _))) (plain_tyR (HX.out.below hHeld.2.out.2) hpl)).mono ?_; rintro e w4 ⟨rfl, hbx⟩; rw [HSM.out])
        refine hK.out _ _ ?_ (fun hHeld => ?_)
        · (try dsimp only); exact tb_cells (tb_more hHeld.2.out hbx).1 (tb_more hHeld.2.out hbx).2
        clear hK K
        (try simp only [Act.put, List.setIfInBounds_toArray, List.set_cons_zero, List.set_cons_succ, List.getElem_toArray, List.getElem_cons_zero, List.getElem_cons_succ])
        refine wpAnyH_take (i := 13) (v := ?v390) rfl (by kernel_rfl) (by kernel_rfl) (by kernel_rfl) (fun _ _ _ h => h) (Or.inl ⟨by rfl, ?hy390⟩) hHeld ?_
        case hy390 => (intro w hSw; (try dsimp only at hSw); go_simp; try with_reducible rfl)
        (try simp only [Act.put, List.setIfInBounds_toArray, List.set_cons_zero, List.set_cons_succ, List.getElem_toArray, List.getElem_cons_zero, List.getElem_cons_succ])
        refine wpAnyH_take (i := 14) (v := ?v391) rfl (by kernel_rfl) (by kernel_rfl) (by kernel_rfl) (fun _ _ _ h => h) (Or.inl ⟨by rfl, ?hy391⟩) hHeld ?_
        case hy391 => (intro w hSw; (try dsimp only at hSw); go_simp; try with_reducible rfl)
        (try simp only [Act.put, List.setIfInBounds_toArray, List.set_cons_zero, List.set_cons_succ, List.getElem_toArray, List.getElem_cons_zero, List.getElem_cons_succ])
        refine wpAnyH_take (i := 15) (v := ?v392) rfl (by kernel_rfl) (by kernel_rfl) (by kernel_rfl) (fun _ _ _ h => h) (Or.inl ⟨by rfl, ?hy392⟩) hHeld ?_
        case hy392 => (intro w hSw; (try dsimp only at hSw); go_simp; try with_reducible rfl)
        (try simp only [Act.put, List.setIfInBounds_toArray, List.set_cons_zero, List.set_cons_succ, List.getElem_toArray, List.getElem_cons_zero, List.getElem_cons_succ])
        refine wpAnyH_take (i := 16) (v := ?v393) rfl (by kernel_rfl) (by kernel_rfl) (by kernel_rfl) (fun _ _ _ h => h) (Or.inl ⟨by rfl, ?hy393⟩) hHeld ?_
        case hy393 => (intro w hSw; (try dsimp only at hSw); go_simp; try with_reducible rfl)
        (try simp only [Act.put, List.setIfInBounds_toArray, List.set_cons_zero, List.set_cons_succ, List.getElem_toArray, List.getElem_cons_zero, List.getElem_cons_succ])
        refine wpAnyH_take (i := 17) (v := ?v394) rfl (by kernel_rfl) (by kernel_rfl) (by kernel_rfl) (fun _ _ _ h => h) (Or.inl ⟨by rfl, ?hy394⟩) hHeld ?_
        case hy394 => (intro w hSw; (try dsimp only at hSw); go_simp; try with_reducible rfl)
        (try simp only [Act.put, List.setIfInBounds_toArray, List.set_cons_zero, List.set_cons_succ, List.getElem_toArray, List.getElem_cons_zero, List.getElem_cons_succ])
        refine wpAnyH_ready (rs := [18]) (by kernel_rfl) (by simp) ?_
        refine (AllReadyH.cons rfl (fun K hK => ?_) AllReadyH.nil)
        go_simp
        (refine (rNamed_any _ _).mono ?_; rintro e w5 ⟨rfl, rfl⟩; rw [HNA.out])
        refine hK.out _ _ ?_ (fun hHeld => ?_)
        · (try dsimp only); exact hHeld
        clear hK K
        (try simp only [Act.put, List.setIfInBounds_toArray, List.set_cons_zero, List.set_cons_succ, List.getElem_toArray, List.getElem_cons_zero, List.getElem_cons_succ])
        refine wpAnyH_take (i := 19) (v := ?v395) rfl (by kernel_rfl) (by kernel_rfl) (by kernel_rfl) (fun _ _ _ h => h) (Or.inl ⟨by rfl, ?hy395⟩) hHeld ?_
        case hy395 => (intro w hSw; (try dsimp only at hSw); go_simp; try with_reducible rfl)
        (try simp only [Act.put, List.setIfInBounds_toArray, List.set_cons_zero, List.set_cons_succ, List.getElem_toArray, List.getElem_cons_zero, List.getElem_cons_succ])
        refine wpAnyH_take (i := 20) (v := undef) rfl (by kernel_rfl) (by kernel_rfl) (by kernel_rfl) (fun _ _ _ h => h) (Or.inr ⟨by rfl, rfl⟩) hHeld ?_
        (try simp only [Act.put, List.setIfInBounds_toArray, List.set_cons_zero, List.set_cons_succ, List.getElem_toArray, List.getElem_cons_zero, List.getElem_cons_succ])
        refine wpAnyH_take (i := 21) (v := undef) rfl (by kernel_rfl) (by kernel_rfl) (by kernel_rfl) (fun _ _ _ h => h) (Or.inr ⟨by rfl, rfl⟩) hHeld ?_
        (try simp only [Act.put, List.setIfInBounds_toArray, List.set_cons_zero, List.set_cons_succ, List.getElem_toArray, List.getElem_cons_zero, List.getElem_cons_succ])
        refine wpAnyH_take (i := 22) (v := undef) rfl (by kernel_rfl) (by kernel_rfl) (by kernel_rfl) (fun _ _ _ h => h) (Or.inr ⟨by rfl, rfl⟩) hHeld ?_
        (try simp only [Act.put, List.setIfInBounds_toArray, List.set_cons_zero, List.set_cons_succ, List.getElem_toArray, List.getElem_cons_zero, List.getElem_cons_succ])
        refine wpAnyH_take (i := 23) (v := undef) rfl (by kernel_rfl) (by kernel_rfl) (by kernel_rfl) (fun _ _ _ h => h) (Or.inr ⟨by rfl, rfl⟩) hHeld ?_
        (try simp only [Act.put, List.setIfInBounds_toArray, List.set_cons_zero, List.set_cons_succ, List.getElem_toArray, List.getElem_cons_zero, List.getElem_cons_succ])
        refine wpAnyH_take (i := 24) (v := ?v396) rfl (by kernel_rfl) (by kernel_rfl) (by kernel_rfl) (fun _ _ _ h => h) (Or.inl ⟨by rfl, ?hy396⟩) hHeld ?_
        case hy396 => (intro w hSw; (try dsimp only at hSw); go_simp; try with_reducible rfl)
        (try simp only [Act.put, List.setIfInBounds_toArray, List.set_cons_zero, List.set_cons_succ, List.getElem_toArray, List.getElem_cons_zero, List.getElem_cons_succ])
        refine wpAnyH_take (i := 25) (v := ?v397) rfl (by kernel_rfl) (by kernel_rfl) (by kernel_rfl) (fun _ _ _ h => h) (Or.inl ⟨by rfl, ?hy397⟩) hHeld ?_
        case hy397 => (intro w hSw; (try dsimp only at hSw); go_simp; try with_reducible rfl)
        (try simp only [Act.put, List.setIfInBounds_toArray, List.set_cons_zero, List.set_cons_succ, List.getElem_toArray, List.getElem_cons_zero, List.getElem_cons_succ])
        refine wpAnyH_done (by kernel_rfl) ?_ _
        have HEX := Lib.hid hHeld.2.out
        clear hHeld
        go_wp2_with fail
        go_meet
        exact ⟨by rw [HBD.out]; try rfl, HEX.out⟩
      | true =>
        have HNA := Lib.hid hnm
        have HBD := Lib.hid (show badD t = !nameB t.name by unfold badD; rw [hsame, hnm]; simp)
        clear hsame hnm
        cases hn : nameB t.name with
        | false =>
          have HNM := Lib.hid hn
          rw [hn] at HBD
          clear hn
          refine wp_region_held_drew (S := (fun w' => (w'.cell? ⟨w.heap.size, 0, none⟩ = some (.int .i64 t.kind) ∧ w'.cell? ⟨w.heap.size, 1, none⟩ = some (.string t.name) ∧ w'.cell? ⟨w.heap.size, 2, none⟩ = some (.int .i64 t.low) ∧ w'.cell? ⟨w.heap.size, 3, none⟩ = some (.int .i64 t.high) ∧ w'.cell? ⟨w.heap.size, 4, none⟩ = some (.int .i64 t.max) ∧ w'.cell? ⟨w.heap.size, 5, none⟩ = some (.slice As t.syms.length cs) ∧ w'.cell? ⟨w.heap.size, 6, none⟩ = some (.slice Am t.mems.length cm) ∧ w'.cell? ⟨w.heap.size, 7, none⟩ = some (.int .i64 t.key) ∧ w'.cell? ⟨w.heap.size, 8, none⟩ = some (.int .i64 t.elem) ∧ w'.cell? ⟨w.heap.size, 9, none⟩ = some (.bool t.open_)) ∧ Hid (TBox w' w.heap.size t As cs Am cm ∧ Below w.heap.size w w'))) (by kernel_rfl) ?_ (fun hHeld => ?_)
          · (try dsimp only); exact tb_cells (w' := wc.drew) HTB.out (below_drewN HB0.out 1)
          refine wpAnyH_take (i := 0) (v := ?v398) rfl (by kernel_rfl) (by kernel_rfl) (by kernel_rfl) (fun _ _ _ h => h) (Or.inl ⟨by rfl, ?hy398⟩) hHeld ?_
          case hy398 => (intro w hSw; (try dsimp only at hSw); go_simp; try with_reducible rfl)
          (try simp only [Act.put, List.setIfInBounds_toArray, List.set_cons_zero, List.set_cons_succ, List.getElem_toArray, List.getElem_cons_zero])
          refine wpAnyH_take (i := 1) (v := ?v399) rfl (by kernel_rfl) (by kernel_rfl) (by kernel_rfl) (fun _ _ _ h => h) (Or.inl ⟨by rfl, ?hy399⟩) hHeld ?_
          case hy399 => (intro w hSw; (try dsimp only at hSw); go_simp; try with_reducible rfl)
          (try simp only [Act.put, List.setIfInBounds_toArray, List.set_cons_zero, List.set_cons_succ, List.getElem_toArray, List.getElem_cons_zero, List.getElem_cons_succ])
          refine wpAnyH_take (i := 2) (v := ?v400) rfl (by kernel_rfl) (by kernel_rfl) (by kernel_rfl) (fun _ _ _ h => h) (Or.inl ⟨by rfl, ?hy400⟩) hHeld ?_
          case hy400 => (intro w hSw; (try dsimp only at hSw); go_simp; try with_reducible rfl)
          (try simp only [Act.put, List.setIfInBounds_toArray, List.set_cons_zero, List.set_cons_succ, List.getElem_toArray, List.getElem_cons_zero, List.getElem_cons_succ])
          refine wpAnyH_take (i := 3) (v := ?v401) rfl (by kernel_rfl) (by kernel_rfl) (by kernel_rfl) (fun _ _ _ h => h) (Or.inl ⟨by rfl, ?hy401⟩) hHeld ?_
          case hy401 => (intro w hSw; (try dsimp only at hSw); go_simp; try with_reducible rfl)
          (try simp only [Act.put, List.setIfInBounds_toArray, List.set_cons_zero, List.set_cons_succ, List.getElem_toArray, List.getElem_cons_zero, List.getElem_cons_succ])
          refine wpAnyH_take (i := 4) (v := ?v402) rfl (by kernel_rfl) (by kernel_rfl) (by kernel_rfl) (fun _ _ _ h => h) (Or.inl ⟨by rfl, ?hy402⟩) hHeld ?_
          case hy402 => (intro w hSw; (try dsimp only at hSw); go_simp; try with_reducible rfl)
          (try simp only [Act.put, List.setIfInBounds_toArray, List.set_cons_zero, List.set_cons_succ, List.getElem_toArray, List.getElem_cons_zero, List.getElem_cons_succ])
          refine wpAnyH_take (i := 5) (v := ?v403) rfl (by kernel_rfl) (by kernel_rfl) (by kernel_rfl) (fun _ _ _ h => h) (Or.inl ⟨by rfl, ?hy403⟩) hHeld ?_
          case hy403 => (intro w hSw; (try dsimp only at hSw); go_simp; try with_reducible rfl)
          (try simp only [Act.put, List.setIfInBounds_toArray, List.set_cons_zero, List.set_cons_succ, List.getElem_toArray, List.getElem_cons_zero, List.getElem_cons_succ])
          refine wpAnyH_take (i := 6) (v := ?v404) rfl (by kernel_rfl) (by kernel_rfl) (by kernel_rfl) (fun _ _ _ h => h) (Or.inl ⟨by rfl, ?hy404⟩) hHeld ?_
          case hy404 => (intro w hSw; (try dsimp only at hSw); go_simp; try with_reducible rfl)
          (try simp only [Act.put, List.setIfInBounds_toArray, List.set_cons_zero, List.set_cons_succ, List.getElem_toArray, List.getElem_cons_zero, List.getElem_cons_succ])
          refine wpAnyH_take (i := 7) (v := ?v405) rfl (by kernel_rfl) (by kernel_rfl) (by kernel_rfl) (fun _ _ _ h => h) (Or.inl ⟨by rfl, ?hy405⟩) hHeld ?_
          case hy405 => (intro w hSw; (try dsimp only at hSw); go_simp; try with_reducible rfl)
          (try simp only [Act.put, List.setIfInBounds_toArray, List.set_cons_zero, List.set_cons_succ, List.getElem_toArray, List.getElem_cons_zero, List.getElem_cons_succ])
          refine wpAnyH_take (i := 8) (v := ?v406) rfl (by kernel_rfl) (by kernel_rfl) (by kernel_rfl) (fun _ _ _ h => h) (Or.inl ⟨by rfl, ?hy406⟩) hHeld ?_
          case hy406 => (intro w hSw; (try dsimp only at hSw); go_simp; try with_reducible rfl)
          (try simp only [Act.put, List.setIfInBounds_toArray, List.set_cons_zero, List.set_cons_succ, List.getElem_toArray, List.getElem_cons_zero, List.getElem_cons_succ])
          refine wpAnyH_take (i := 9) (v := ?v407) rfl (by kernel_rfl) (by kernel_rfl) (by kernel_rfl) (fun _ _ _ h => h) (Or.inl ⟨by rfl, ?hy407⟩) hHeld ?_
          case hy407 => (intro w hSw; (try dsimp only at hSw); go_simp; try with_reducible rfl)
          (try simp only [Act.put, List.setIfInBounds_toArray, List.set_cons_zero, List.set_cons_succ, List.getElem_toArray, List.getElem_cons_zero, List.getElem_cons_succ])
          refine wpAnyH_take (i := 10) (v := ?v408) rfl (by kernel_rfl) (by kernel_rfl) (by kernel_rfl) (fun _ _ _ h => h) (Or.inl ⟨by rfl, ?hy408⟩) hHeld ?_
          case hy408 => (intro w hSw; (try dsimp only at hSw); go_simp; try with_reducible rfl)
          (try simp only [Act.put, List.setIfInBounds_toArray, List.set_cons_zero, List.set_cons_succ, List.getElem_toArray, List.getElem_cons_zero, List.getElem_cons_succ])
          refine wpAnyH_ready (rs := [11]) (by kernel_rfl) (by simp) ?_
          refine (AllReadyH.cons rfl (fun K hK => ?_) AllReadyH.nil)
          go_simp
          (refine (plain_any t h1 h9 As cs Am cm _).mono ?_; rintro e w3 ⟨Bs, ds, Bm, dm, rfl, hpl, hbx⟩)
          refine hK.out _ _ ?_ (fun hHeld => ?_)
          · (try dsimp only); exact tb_cells (tb_more hHeld.2.out hbx).1 (tb_more hHeld.2.out hbx).2
          clear hK K
          (try simp only [Act.put, List.setIfInBounds_toArray, List.set_cons_zero, List.set_cons_succ, List.getElem_toArray, List.getElem_cons_zero, List.getElem_cons_succ])
          refine wpAnyH_ready (rs := [12]) (by kernel_rfl) (by simp) ?_
          refine (AllReadyH.cons rfl (fun K hK => ?_) AllReadyH.nil)
          go_simp
          (refine (sameType_any t (plainD t) As cs Am cm Bs ds Bm dm _ (HX.out.below (below_trans hHeld.2.out.2 (Below.refl _ _))) (plain_tyR (HX.out.below hHeld.2.out.2) hpl)).mono ?_; rintro e w4 ⟨rfl, hbx⟩; rw [HSM.out])
          refine hK.out _ _ ?_ (fun hHeld => ?_)
          · (try dsimp only); exact tb_cells (tb_more hHeld.2.out hbx).1 (tb_more hHeld.2.out hbx).2
          clear hK K
          (try simp only [Act.put, List.setIfInBounds_toArray, List.set_cons_zero, List.set_cons_succ, List.getElem_toArray, List.getElem_cons_zero, List.getElem_cons_succ])
          refine wpAnyH_take (i := 13) (v := ?v409) rfl (by kernel_rfl) (by kernel_rfl) (by kernel_rfl) (fun _ _ _ h => h) (Or.inl ⟨by rfl, ?hy409⟩) hHeld ?_
          case hy409 => (intro w hSw; (try dsimp only at hSw); go_simp; try with_reducible rfl)
          (try simp only [Act.put, List.setIfInBounds_toArray, List.set_cons_zero, List.set_cons_succ, List.getElem_toArray, List.getElem_cons_zero, List.getElem_cons_succ])
          refine wpAnyH_take (i := 14) (v := ?v410) rfl (by kernel_rfl) (by kernel_rfl) (by kernel_rfl) (fun _ _ _ h => h) (Or.inl ⟨by rfl, ?hy410⟩) hHeld ?_
          case hy410 => (intro w hSw; (try dsimp only at hSw); go_simp; try with_reducible rfl)
          (try simp only [Act.put, List.setIfInBounds_toArray, List.set_cons_zero, List.set_cons_succ, List.getElem_toArray, List.getElem_cons_zero, List.getElem_cons_succ])
          refine wpAnyH_take (i := 15) (v := ?v411) rfl (by kernel_rfl) (by kernel_rfl) (by kernel_rfl) (fun _ _ _ h => h) (Or.inl ⟨by rfl, ?hy411⟩) hHeld ?_
          case hy411 => (intro w hSw; (try dsimp only at hSw); go_simp; try with_reducible rfl)
          (try simp only [Act.put, List.setIfInBounds_toArray, List.set_cons_zero, List.set_cons_succ, List.getElem_toArray, List.getElem_cons_zero, List.getElem_cons_succ])
          refine wpAnyH_take (i := 16) (v := ?v412) rfl (by kernel_rfl) (by kernel_rfl) (by kernel_rfl) (fun _ _ _ h => h) (Or.inl ⟨by rfl, ?hy412⟩) hHeld ?_
          case hy412 => (intro w hSw; (try dsimp only at hSw); go_simp; try with_reducible rfl)
          (try simp only [Act.put, List.setIfInBounds_toArray, List.set_cons_zero, List.set_cons_succ, List.getElem_toArray, List.getElem_cons_zero, List.getElem_cons_succ])
          refine wpAnyH_take (i := 17) (v := ?v413) rfl (by kernel_rfl) (by kernel_rfl) (by kernel_rfl) (fun _ _ _ h => h) (Or.inl ⟨by rfl, ?hy413⟩) hHeld ?_
          case hy413 => (intro w hSw; (try dsimp only at hSw); go_simp; try with_reducible rfl)
          (try simp only [Act.put, List.setIfInBounds_toArray, List.set_cons_zero, List.set_cons_succ, List.getElem_toArray, List.getElem_cons_zero, List.getElem_cons_succ])
          refine wpAnyH_ready (rs := [18]) (by kernel_rfl) (by simp) ?_
          refine (AllReadyH.cons rfl (fun K hK => ?_) AllReadyH.nil)
          go_simp
          (refine (rNamed_any _ _).mono ?_; rintro e w5 ⟨rfl, rfl⟩; rw [HNA.out])
          refine hK.out _ _ ?_ (fun hHeld => ?_)
          · (try dsimp only); exact hHeld
          clear hK K
          (try simp only [Act.put, List.setIfInBounds_toArray, List.set_cons_zero, List.set_cons_succ, List.getElem_toArray, List.getElem_cons_zero, List.getElem_cons_succ])
          refine wpAnyH_take (i := 19) (v := ?v414) rfl (by kernel_rfl) (by kernel_rfl) (by kernel_rfl) (fun _ _ _ h => h) (Or.inl ⟨by rfl, ?hy414⟩) hHeld ?_
          case hy414 => (intro w hSw; (try dsimp only at hSw); go_simp; try with_reducible rfl)
          (try simp only [Act.put, List.setIfInBounds_toArray, List.set_cons_zero, List.set_cons_succ, List.getElem_toArray, List.getElem_cons_zero, List.getElem_cons_succ])
          refine wpAnyH_take (i := 20) (v := ?v415) rfl (by kernel_rfl) (by kernel_rfl) (by kernel_rfl) (fun _ _ _ h => h) (Or.inl ⟨by rfl, ?hy415⟩) hHeld ?_
          case hy415 => (intro w hSw; (try dsimp only at hSw); go_simp; try with_reducible rfl)
          (try simp only [Act.put, List.setIfInBounds_toArray, List.set_cons_zero, List.set_cons_succ, List.getElem_toArray, List.getElem_cons_zero, List.getElem_cons_succ])
          refine wpAnyH_take (i := 21) (v := ?v416) rfl (by kernel_rfl) (by kernel_rfl) (by kernel_rfl) (fun _ _ _ h => h) (Or.inl ⟨by rfl, ?hy416⟩) hHeld ?_
          case hy416 => (intro w hSw; (try dsimp only at hSw); go_simp; try with_reducible rfl)
          (try simp only [Act.put, List.setIfInBounds_toArray, List.set_cons_zero, List.set_cons_succ, List.getElem_toArray, List.getElem_cons_zero, List.getElem_cons_succ])
          refine wpAnyH_ready (rs := [22]) (by kernel_rfl) (by simp) ?_
          refine (AllReadyH.cons rfl (fun K hK => ?_) AllReadyH.nil)
          go_simp
          (refine (refIsName_any _ HX.out.name _).mono ?_; rintro e w6 ⟨rfl, rfl⟩; rw [HNM.out])
          refine hK.out _ _ ?_ (fun hHeld => ?_)
          · (try dsimp only); exact hHeld
          clear hK K
          (try simp only [Act.put, List.setIfInBounds_toArray, List.set_cons_zero, List.set_cons_succ, List.getElem_toArray, List.getElem_cons_zero, List.getElem_cons_succ])
          refine wpAnyH_take (i := 23) (v := ?v417) rfl (by kernel_rfl) (by kernel_rfl) (by kernel_rfl) (fun _ _ _ h => h) (Or.inl ⟨by rfl, ?hy417⟩) hHeld ?_
          case hy417 => (intro w hSw; (try dsimp only at hSw); go_simp; try with_reducible rfl)
          (try simp only [Act.put, List.setIfInBounds_toArray, List.set_cons_zero, List.set_cons_succ, List.getElem_toArray, List.getElem_cons_zero, List.getElem_cons_succ])
          refine wpAnyH_take (i := 24) (v := ?v418) rfl (by kernel_rfl) (by kernel_rfl) (by kernel_rfl) (fun _ _ _ h => h) (Or.inl ⟨by rfl, ?hy418⟩) hHeld ?_
          case hy418 => (intro w hSw; (try dsimp only at hSw); go_simp; try with_reducible rfl)
          (try simp only [Act.put, List.setIfInBounds_toArray, List.set_cons_zero, List.set_cons_succ, List.getElem_toArray, List.getElem_cons_zero, List.getElem_cons_succ])
          refine wpAnyH_take (i := 25) (v := ?v419) rfl (by kernel_rfl) (by kernel_rfl) (by kernel_rfl) (fun _ _ _ h => h) (Or.inl ⟨by rfl, ?hy419⟩) hHeld ?_
          case hy419 => (intro w hSw; (try dsimp only at hSw); go_simp; try with_reducible rfl)
          (try simp only [Act.put, List.setIfInBounds_toArray, List.set_cons_zero, List.set_cons_succ, List.getElem_toArray, List.getElem_cons_zero, List.getElem_cons_succ])
          refine wpAnyH_done (by kernel_rfl) ?_ _
          have HEX := Lib.hid hHeld.2.out
          clear hHeld
          go_wp2_with fail
          go_meet
          exact ⟨by rw [HBD.out]; try rfl, HEX.out⟩
        | true =>
          have HNM := Lib.hid hn
          rw [hn] at HBD
          clear hn
          refine wp_region_held_drew (S := (fun w' => (w'.cell? ⟨w.heap.size, 0, none⟩ = some (.int .i64 t.kind) ∧ w'.cell? ⟨w.heap.size, 1, none⟩ = some (.string t.name) ∧ w'.cell? ⟨w.heap.size, 2, none⟩ = some (.int .i64 t.low) ∧ w'.cell? ⟨w.heap.size, 3, none⟩ = some (.int .i64 t.high) ∧ w'.cell? ⟨w.heap.size, 4, none⟩ = some (.int .i64 t.max) ∧ w'.cell? ⟨w.heap.size, 5, none⟩ = some (.slice As t.syms.length cs) ∧ w'.cell? ⟨w.heap.size, 6, none⟩ = some (.slice Am t.mems.length cm) ∧ w'.cell? ⟨w.heap.size, 7, none⟩ = some (.int .i64 t.key) ∧ w'.cell? ⟨w.heap.size, 8, none⟩ = some (.int .i64 t.elem) ∧ w'.cell? ⟨w.heap.size, 9, none⟩ = some (.bool t.open_)) ∧ Hid (TBox w' w.heap.size t As cs Am cm ∧ Below w.heap.size w w'))) (by kernel_rfl) ?_ (fun hHeld => ?_)
          · (try dsimp only); exact tb_cells (w' := wc.drew) HTB.out (below_drewN HB0.out 1)
          refine wpAnyH_take (i := 0) (v := ?v420) rfl (by kernel_rfl) (by kernel_rfl) (by kernel_rfl) (fun _ _ _ h => h) (Or.inl ⟨by rfl, ?hy420⟩) hHeld ?_
          case hy420 => (intro w hSw; (try dsimp only at hSw); go_simp; try with_reducible rfl)
          (try simp only [Act.put, List.setIfInBounds_toArray, List.set_cons_zero, List.set_cons_succ, List.getElem_toArray, List.getElem_cons_zero])
          refine wpAnyH_take (i := 1) (v := ?v421) rfl (by kernel_rfl) (by kernel_rfl) (by kernel_rfl) (fun _ _ _ h => h) (Or.inl ⟨by rfl, ?hy421⟩) hHeld ?_
          case hy421 => (intro w hSw; (try dsimp only at hSw); go_simp; try with_reducible rfl)
          (try simp only [Act.put, List.setIfInBounds_toArray, List.set_cons_zero, List.set_cons_succ, List.getElem_toArray, List.getElem_cons_zero, List.getElem_cons_succ])
          refine wpAnyH_take (i := 2) (v := ?v422) rfl (by kernel_rfl) (by kernel_rfl) (by kernel_rfl) (fun _ _ _ h => h) (Or.inl ⟨by rfl, ?hy422⟩) hHeld ?_
          case hy422 => (intro w hSw; (try dsimp only at hSw); go_simp; try with_reducible rfl)
          (try simp only [Act.put, List.setIfInBounds_toArray, List.set_cons_zero, List.set_cons_succ, List.getElem_toArray, List.getElem_cons_zero, List.getElem_cons_succ])
          refine wpAnyH_take (i := 3) (v := ?v423) rfl (by kernel_rfl) (by kernel_rfl) (by kernel_rfl) (fun _ _ _ h => h) (Or.inl ⟨by rfl, ?hy423⟩) hHeld ?_
          case hy423 => (intro w hSw; (try dsimp only at hSw); go_simp; try with_reducible rfl)
          (try simp only [Act.put, List.setIfInBounds_toArray, List.set_cons_zero, List.set_cons_succ, List.getElem_toArray, List.getElem_cons_zero, List.getElem_cons_succ])
          refine wpAnyH_take (i := 4) (v := ?v424) rfl (by kernel_rfl) (by kernel_rfl) (by kernel_rfl) (fun _ _ _ h => h) (Or.inl ⟨by rfl, ?hy424⟩) hHeld ?_
          case hy424 => (intro w hSw; (try dsimp only at hSw); go_simp; try with_reducible rfl)
          (try simp only [Act.put, List.setIfInBounds_toArray, List.set_cons_zero, List.set_cons_succ, List.getElem_toArray, List.getElem_cons_zero, List.getElem_cons_succ])
          refine wpAnyH_take (i := 5) (v := ?v425) rfl (by kernel_rfl) (by kernel_rfl) (by kernel_rfl) (fun _ _ _ h => h) (Or.inl ⟨by rfl, ?hy425⟩) hHeld ?_
          case hy425 => (intro w hSw; (try dsimp only at hSw); go_simp; try with_reducible rfl)
          (try simp only [Act.put, List.setIfInBounds_toArray, List.set_cons_zero, List.set_cons_succ, List.getElem_toArray, List.getElem_cons_zero, List.getElem_cons_succ])
          refine wpAnyH_take (i := 6) (v := ?v426) rfl (by kernel_rfl) (by kernel_rfl) (by kernel_rfl) (fun _ _ _ h => h) (Or.inl ⟨by rfl, ?hy426⟩) hHeld ?_
          case hy426 => (intro w hSw; (try dsimp only at hSw); go_simp; try with_reducible rfl)
          (try simp only [Act.put, List.setIfInBounds_toArray, List.set_cons_zero, List.set_cons_succ, List.getElem_toArray, List.getElem_cons_zero, List.getElem_cons_succ])
          refine wpAnyH_take (i := 7) (v := ?v427) rfl (by kernel_rfl) (by kernel_rfl) (by kernel_rfl) (fun _ _ _ h => h) (Or.inl ⟨by rfl, ?hy427⟩) hHeld ?_
          case hy427 => (intro w hSw; (try dsimp only at hSw); go_simp; try with_reducible rfl)
          (try simp only [Act.put, List.setIfInBounds_toArray, List.set_cons_zero, List.set_cons_succ, List.getElem_toArray, List.getElem_cons_zero, List.getElem_cons_succ])
          refine wpAnyH_take (i := 8) (v := ?v428) rfl (by kernel_rfl) (by kernel_rfl) (by kernel_rfl) (fun _ _ _ h => h) (Or.inl ⟨by rfl, ?hy428⟩) hHeld ?_
          case hy428 => (intro w hSw; (try dsimp only at hSw); go_simp; try with_reducible rfl)
          (try simp only [Act.put, List.setIfInBounds_toArray, List.set_cons_zero, List.set_cons_succ, List.getElem_toArray, List.getElem_cons_zero, List.getElem_cons_succ])
          refine wpAnyH_take (i := 9) (v := ?v429) rfl (by kernel_rfl) (by kernel_rfl) (by kernel_rfl) (fun _ _ _ h => h) (Or.inl ⟨by rfl, ?hy429⟩) hHeld ?_
          case hy429 => (intro w hSw; (try dsimp only at hSw); go_simp; try with_reducible rfl)
          (try simp only [Act.put, List.setIfInBounds_toArray, List.set_cons_zero, List.set_cons_succ, List.getElem_toArray, List.getElem_cons_zero, List.getElem_cons_succ])
          refine wpAnyH_take (i := 10) (v := ?v430) rfl (by kernel_rfl) (by kernel_rfl) (by kernel_rfl) (fun _ _ _ h => h) (Or.inl ⟨by rfl, ?hy430⟩) hHeld ?_
          case hy430 => (intro w hSw; (try dsimp only at hSw); go_simp; try with_reducible rfl)
          (try simp only [Act.put, List.setIfInBounds_toArray, List.set_cons_zero, List.set_cons_succ, List.getElem_toArray, List.getElem_cons_zero, List.getElem_cons_succ])
          refine wpAnyH_ready (rs := [11]) (by kernel_rfl) (by simp) ?_
          refine (AllReadyH.cons rfl (fun K hK => ?_) AllReadyH.nil)
          go_simp
          (refine (plain_any t h1 h9 As cs Am cm _).mono ?_; rintro e w3 ⟨Bs, ds, Bm, dm, rfl, hpl, hbx⟩)
          refine hK.out _ _ ?_ (fun hHeld => ?_)
          · (try dsimp only); exact tb_cells (tb_more hHeld.2.out hbx).1 (tb_more hHeld.2.out hbx).2
          clear hK K
          (try simp only [Act.put, List.setIfInBounds_toArray, List.set_cons_zero, List.set_cons_succ, List.getElem_toArray, List.getElem_cons_zero, List.getElem_cons_succ])
          refine wpAnyH_ready (rs := [12]) (by kernel_rfl) (by simp) ?_
          refine (AllReadyH.cons rfl (fun K hK => ?_) AllReadyH.nil)
          go_simp
          (refine (sameType_any t (plainD t) As cs Am cm Bs ds Bm dm _ (HX.out.below (below_trans hHeld.2.out.2 (Below.refl _ _))) (plain_tyR (HX.out.below hHeld.2.out.2) hpl)).mono ?_; rintro e w4 ⟨rfl, hbx⟩; rw [HSM.out])
          refine hK.out _ _ ?_ (fun hHeld => ?_)
          · (try dsimp only); exact tb_cells (tb_more hHeld.2.out hbx).1 (tb_more hHeld.2.out hbx).2
          clear hK K
          (try simp only [Act.put, List.setIfInBounds_toArray, List.set_cons_zero, List.set_cons_succ, List.getElem_toArray, List.getElem_cons_zero, List.getElem_cons_succ])
          refine wpAnyH_take (i := 13) (v := ?v431) rfl (by kernel_rfl) (by kernel_rfl) (by kernel_rfl) (fun _ _ _ h => h) (Or.inl ⟨by rfl, ?hy431⟩) hHeld ?_
          case hy431 => (intro w hSw; (try dsimp only at hSw); go_simp; try with_reducible rfl)
          (try simp only [Act.put, List.setIfInBounds_toArray, List.set_cons_zero, List.set_cons_succ, List.getElem_toArray, List.getElem_cons_zero, List.getElem_cons_succ])
          refine wpAnyH_take (i := 14) (v := ?v432) rfl (by kernel_rfl) (by kernel_rfl) (by kernel_rfl) (fun _ _ _ h => h) (Or.inl ⟨by rfl, ?hy432⟩) hHeld ?_
          case hy432 => (intro w hSw; (try dsimp only at hSw); go_simp; try with_reducible rfl)
          (try simp only [Act.put, List.setIfInBounds_toArray, List.set_cons_zero, List.set_cons_succ, List.getElem_toArray, List.getElem_cons_zero, List.getElem_cons_succ])
          refine wpAnyH_take (i := 15) (v := ?v433) rfl (by kernel_rfl) (by kernel_rfl) (by kernel_rfl) (fun _ _ _ h => h) (Or.inl ⟨by rfl, ?hy433⟩) hHeld ?_
          case hy433 => (intro w hSw; (try dsimp only at hSw); go_simp; try with_reducible rfl)
          (try simp only [Act.put, List.setIfInBounds_toArray, List.set_cons_zero, List.set_cons_succ, List.getElem_toArray, List.getElem_cons_zero, List.getElem_cons_succ])
          refine wpAnyH_take (i := 16) (v := ?v434) rfl (by kernel_rfl) (by kernel_rfl) (by kernel_rfl) (fun _ _ _ h => h) (Or.inl ⟨by rfl, ?hy434⟩) hHeld ?_
          case hy434 => (intro w hSw; (try dsimp only at hSw); go_simp; try with_reducible rfl)
          (try simp only [Act.put, List.setIfInBounds_toArray, List.set_cons_zero, List.set_cons_succ, List.getElem_toArray, List.getElem_cons_zero, List.getElem_cons_succ])
          refine wpAnyH_take (i := 17) (v := ?v435) rfl (by kernel_rfl) (by kernel_rfl) (by kernel_rfl) (fun _ _ _ h => h) (Or.inl ⟨by rfl, ?hy435⟩) hHeld ?_
          case hy435 => (intro w hSw; (try dsimp only at hSw); go_simp; try with_reducible rfl)
          (try simp only [Act.put, List.setIfInBounds_toArray, List.set_cons_zero, List.set_cons_succ, List.getElem_toArray, List.getElem_cons_zero, List.getElem_cons_succ])
          refine wpAnyH_ready (rs := [18]) (by kernel_rfl) (by simp) ?_
          refine (AllReadyH.cons rfl (fun K hK => ?_) AllReadyH.nil)
          go_simp
          (refine (rNamed_any _ _).mono ?_; rintro e w5 ⟨rfl, rfl⟩; rw [HNA.out])
          refine hK.out _ _ ?_ (fun hHeld => ?_)
          · (try dsimp only); exact hHeld
          clear hK K
          (try simp only [Act.put, List.setIfInBounds_toArray, List.set_cons_zero, List.set_cons_succ, List.getElem_toArray, List.getElem_cons_zero, List.getElem_cons_succ])
          refine wpAnyH_take (i := 19) (v := ?v436) rfl (by kernel_rfl) (by kernel_rfl) (by kernel_rfl) (fun _ _ _ h => h) (Or.inl ⟨by rfl, ?hy436⟩) hHeld ?_
          case hy436 => (intro w hSw; (try dsimp only at hSw); go_simp; try with_reducible rfl)
          (try simp only [Act.put, List.setIfInBounds_toArray, List.set_cons_zero, List.set_cons_succ, List.getElem_toArray, List.getElem_cons_zero, List.getElem_cons_succ])
          refine wpAnyH_take (i := 20) (v := ?v437) rfl (by kernel_rfl) (by kernel_rfl) (by kernel_rfl) (fun _ _ _ h => h) (Or.inl ⟨by rfl, ?hy437⟩) hHeld ?_
          case hy437 => (intro w hSw; (try dsimp only at hSw); go_simp; try with_reducible rfl)
          (try simp only [Act.put, List.setIfInBounds_toArray, List.set_cons_zero, List.set_cons_succ, List.getElem_toArray, List.getElem_cons_zero, List.getElem_cons_succ])
          refine wpAnyH_take (i := 21) (v := ?v438) rfl (by kernel_rfl) (by kernel_rfl) (by kernel_rfl) (fun _ _ _ h => h) (Or.inl ⟨by rfl, ?hy438⟩) hHeld ?_
          case hy438 => (intro w hSw; (try dsimp only at hSw); go_simp; try with_reducible rfl)
          (try simp only [Act.put, List.setIfInBounds_toArray, List.set_cons_zero, List.set_cons_succ, List.getElem_toArray, List.getElem_cons_zero, List.getElem_cons_succ])
          refine wpAnyH_ready (rs := [22]) (by kernel_rfl) (by simp) ?_
          refine (AllReadyH.cons rfl (fun K hK => ?_) AllReadyH.nil)
          go_simp
          (refine (refIsName_any _ HX.out.name _).mono ?_; rintro e w6 ⟨rfl, rfl⟩; rw [HNM.out])
          refine hK.out _ _ ?_ (fun hHeld => ?_)
          · (try dsimp only); exact hHeld
          clear hK K
          (try simp only [Act.put, List.setIfInBounds_toArray, List.set_cons_zero, List.set_cons_succ, List.getElem_toArray, List.getElem_cons_zero, List.getElem_cons_succ])
          refine wpAnyH_take (i := 23) (v := ?v439) rfl (by kernel_rfl) (by kernel_rfl) (by kernel_rfl) (fun _ _ _ h => h) (Or.inl ⟨by rfl, ?hy439⟩) hHeld ?_
          case hy439 => (intro w hSw; (try dsimp only at hSw); go_simp; try with_reducible rfl)
          (try simp only [Act.put, List.setIfInBounds_toArray, List.set_cons_zero, List.set_cons_succ, List.getElem_toArray, List.getElem_cons_zero, List.getElem_cons_succ])
          refine wpAnyH_take (i := 24) (v := ?v440) rfl (by kernel_rfl) (by kernel_rfl) (by kernel_rfl) (fun _ _ _ h => h) (Or.inl ⟨by rfl, ?hy440⟩) hHeld ?_
          case hy440 => (intro w hSw; (try dsimp only at hSw); go_simp; try with_reducible rfl)
          (try simp only [Act.put, List.setIfInBounds_toArray, List.set_cons_zero, List.set_cons_succ, List.getElem_toArray, List.getElem_cons_zero, List.getElem_cons_succ])
          refine wpAnyH_take (i := 25) (v := ?v441) rfl (by kernel_rfl) (by kernel_rfl) (by kernel_rfl) (fun _ _ _ h => h) (Or.inl ⟨by rfl, ?hy441⟩) hHeld ?_
          case hy441 => (intro w hSw; (try dsimp only at hSw); go_simp; try with_reducible rfl)
          (try simp only [Act.put, List.setIfInBounds_toArray, List.set_cons_zero, List.set_cons_succ, List.getElem_toArray, List.getElem_cons_zero, List.getElem_cons_succ])
          refine wpAnyH_done (by kernel_rfl) ?_ _
          have HEX := Lib.hid hHeld.2.out
          clear hHeld
          go_wp2_with fail
          go_meet
          exact ⟨by rw [HBD.out]; try rfl, HEX.out⟩
  case rest =>
    obtain ⟨rfl, hx⟩ := hcut
    have HEX := Lib.hid hx.out
    clear hx
    have p0 := HEX.out.1.cell 0
    have p2 := HEX.out.1.cell 2
    have p3 := HEX.out.1.cell 3
    have p4 := HEX.out.1.cell 4
    have p5 := HEX.out.1.cell 5
    have p6 := HEX.out.1.cell 6
    simp only [List.getElem?_toArray, List.getElem?_cons_succ, List.getElem?_cons_zero] at p0 p2 p3 p4 p5 p6
    cases hbad : badD t with
    | true =>
      have HD := Lib.hid (form_bad hbad)
      clear hbad
      go_wp2
      go_ret
      exact ⟨by rw [HD.out]; rfl, HEX.out.2⟩
    | false =>
      have HF := Lib.hid (form_good h1 h9 hbad)
      clear hbad
      by_cases hk : t.kind = 1
      · have HD := Lib.hid (show formD t = true by rw [HF.out]; simp [caseD, hk])
        have q2 : (t.kind == 2) = false := by simp [hk]
        have q3 : (t.kind == 3) = false := by simp [hk]
        have q4 : (t.kind == 4) = false := by simp [hk]
        have q5 : (t.kind == 5) = false := by simp [hk]
        have q6 : (t.kind == 6) = false := by simp [hk]
        have q7 : (t.kind == 7) = false := by simp [hk]
        have q8 : (t.kind == 8) = false := by simp [hk]
        clear hk
        go_wp2
        go_ret
        exact ⟨by rw [HD.out]; rfl, HEX.out.2⟩
      by_cases hk : t.kind = 2
      · have HD := Lib.hid (show formD t = decide (t.low ≤ t.high) by rw [HF.out]; simp [caseD, hk])
        have q2 : (t.kind == 2) = true := by simp [hk]
        have q3 : (t.kind == 3) = false := by simp [hk]
        have q4 : (t.kind == 4) = false := by simp [hk]
        have q5 : (t.kind == 5) = false := by simp [hk]
        have q6 : (t.kind == 6) = false := by simp [hk]
        have q7 : (t.kind == 7) = false := by simp [hk]
        have q8 : (t.kind == 8) = false := by simp [hk]
        clear hk
        go_wp2
        go_ret
        exact ⟨by rw [HD.out]; rfl, HEX.out.2⟩
      by_cases hk : t.kind = 3
      · have HD := Lib.hid (show formD t = (decide (0 ≤ t.max) && decide (t.max ≤ 200)) by rw [HF.out]; simp [caseD, hk])
        have q2 : (t.kind == 2) = false := by simp [hk]
        have q3 : (t.kind == 3) = true := by simp [hk]
        have q4 : (t.kind == 4) = false := by simp [hk]
        have q5 : (t.kind == 5) = false := by simp [hk]
        have q6 : (t.kind == 6) = false := by simp [hk]
        have q7 : (t.kind == 7) = false := by simp [hk]
        have q8 : (t.kind == 8) = false := by simp [hk]
        clear hk
        by_cases g1 : 0 ≤ t.max
        · by_cases g2 : t.max ≤ 200
          · go_wp2
            go_ret
            exact ⟨by rw [HD.out]; simp [g1, g2], HEX.out.2⟩
          · go_wp2
            go_ret
            exact ⟨by rw [HD.out]; simp [g1, g2], HEX.out.2⟩
        · go_wp2
          go_ret
          exact ⟨by rw [HD.out]; simp; omega, HEX.out.2⟩
      by_cases hk : t.kind = 4
      · have HD := Lib.hid (show formD t = symsD t.syms by rw [HF.out]; simp [caseD, hk])
        have q2 : (t.kind == 2) = false := by simp [hk]
        have q3 : (t.kind == 3) = false := by simp [hk]
        have q4 : (t.kind == 4) = true := by simp [hk]
        have q5 : (t.kind == 5) = false := by simp [hk]
        have q6 : (t.kind == 6) = false := by simp [hk]
        have q7 : (t.kind == 7) = false := by simp [hk]
        have q8 : (t.kind == 8) = false := by simp [hk]
        clear hk
        go_wp2_with fail
        refine (rSyms_any t.syms As cs _ (HX.out.syms.below HEX.out.2)).mono ?_
        rintro e w9 ⟨rfl, hb9⟩
        go_wp2
        go_ret
        exact ⟨by rw [HD.out]; rfl, below_trans HEX.out.2 hb9⟩
      by_cases hk : t.kind = 5
      · have HD := Lib.hid (show formD t = memsD true t.mems by rw [HF.out]; simp [caseD, hk])
        have q2 : (t.kind == 2) = false := by simp [hk]
        have q3 : (t.kind == 3) = false := by simp [hk]
        have q4 : (t.kind == 4) = false := by simp [hk]
        have q5 : (t.kind == 5) = true := by simp [hk]
        have q6 : (t.kind == 6) = false := by simp [hk]
        have q7 : (t.kind == 7) = false := by simp [hk]
        have q8 : (t.kind == 8) = false := by simp [hk]
        clear hk
        go_wp2_with fail
        refine (rMems_true t.mems Am cm _ (HX.out.mems.below HEX.out.2)).mono ?_
        rintro e w9 ⟨rfl, hb9⟩
        go_wp2
        go_ret
        exact ⟨by rw [HD.out]; rfl, below_trans HEX.out.2 hb9⟩
      by_cases hk : t.kind = 6
      · have HD := Lib.hid (show formD t = memsD false t.mems by rw [HF.out]; simp [caseD, hk])
        have q2 : (t.kind == 2) = false := by simp [hk]
        have q3 : (t.kind == 3) = false := by simp [hk]
        have q4 : (t.kind == 4) = false := by simp [hk]
        have q5 : (t.kind == 5) = false := by simp [hk]
        have q6 : (t.kind == 6) = true := by simp [hk]
        have q7 : (t.kind == 7) = false := by simp [hk]
        have q8 : (t.kind == 8) = false := by simp [hk]
        clear hk
        go_wp2_with fail
        refine (rMems_false t.mems Am cm _ (HX.out.mems.below HEX.out.2)).mono ?_
        rintro e w9 ⟨rfl, hb9⟩
        go_wp2
        go_ret
        exact ⟨by rw [HD.out]; rfl, below_trans HEX.out.2 hb9⟩
      by_cases hk : t.kind = 7
      · have HD := Lib.hid (show formD t = (decide (0 ≤ t.max) && decide (t.max ≤ 50)) by rw [HF.out]; simp [caseD, hk])
        have q2 : (t.kind == 2) = false := by simp [hk]
        have q3 : (t.kind == 3) = false := by simp [hk]
        have q4 : (t.kind == 4) = false := by simp [hk]
        have q5 : (t.kind == 5) = false := by simp [hk]
        have q6 : (t.kind == 6) = false := by simp [hk]
        have q7 : (t.kind == 7) = true := by simp [hk]
        have q8 : (t.kind == 8) = false := by simp [hk]
        clear hk
        by_cases g1 : 0 ≤ t.max
        · by_cases g2 : t.max ≤ 50
          · go_wp2
            go_ret
            exact ⟨by rw [HD.out]; simp [g1, g2], HEX.out.2⟩
          · go_wp2
            go_ret
            exact ⟨by rw [HD.out]; simp [g1, g2], HEX.out.2⟩
        · go_wp2
          go_ret
          exact ⟨by rw [HD.out]; simp; omega, HEX.out.2⟩
      by_cases hk : t.kind = 8
      · have HD := Lib.hid (show formD t = (decide (0 ≤ t.max) && decide (t.max ≤ 50)) by rw [HF.out]; simp [caseD, hk])
        have q2 : (t.kind == 2) = false := by simp [hk]
        have q3 : (t.kind == 3) = false := by simp [hk]
        have q4 : (t.kind == 4) = false := by simp [hk]
        have q5 : (t.kind == 5) = false := by simp [hk]
        have q6 : (t.kind == 6) = false := by simp [hk]
        have q7 : (t.kind == 7) = false := by simp [hk]
        have q8 : (t.kind == 8) = true := by simp [hk]
        clear hk
        by_cases g1 : 0 ≤ t.max
        · by_cases g2 : t.max ≤ 50
          · go_wp2
            go_ret
            exact ⟨by rw [HD.out]; simp [g1, g2], HEX.out.2⟩
          · go_wp2
            go_ret
            exact ⟨by rw [HD.out]; simp [g1, g2], HEX.out.2⟩
        · go_wp2
          go_ret
          exact ⟨by rw [HD.out]; simp; omega, HEX.out.2⟩
      by_cases hk : t.kind = 9
      · have HD := Lib.hid (show formD t = true by rw [HF.out]; simp [caseD, hk])
        have q2 : (t.kind == 2) = false := by simp [hk]
        have q3 : (t.kind == 3) = false := by simp [hk]
        have q4 : (t.kind == 4) = false := by simp [hk]
        have q5 : (t.kind == 5) = false := by simp [hk]
        have q6 : (t.kind == 6) = false := by simp [hk]
        have q7 : (t.kind == 7) = false := by simp [hk]
        have q8 : (t.kind == 8) = false := by simp [hk]
        clear hk
        go_wp2
        go_ret
        exact ⟨by rw [HD.out]; rfl, HEX.out.2⟩
      exfalso; omega
end Go.Proofs.YtkhpajneinmmiaaGreatDoor
