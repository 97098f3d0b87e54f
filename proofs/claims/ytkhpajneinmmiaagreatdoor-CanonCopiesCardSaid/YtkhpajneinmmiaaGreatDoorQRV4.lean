/-
  Walks: whether a type is right, in the reference (written by gen_rv4.py).
-/
import Derived.Test.YtkhpajneinmmiaaGreatDoorQRV3
import Derived.Test.YtkhpajneinmmiaaGreatDoorQSC7
import Derived.Test.YtkhpajneinmmiaaGreatDoorQEQ6
namespace Go.Proofs.YtkhpajneinmmiaaGreatDoor
open Go.RowKit
theorem tb_cells {w w' : World} {t : TyD} {As : Option Addr} {cs : Nat} {Am : Option Addr} {cm : Nat} (h : TBox w' w.heap.size t As cs Am cm) (hb : Below w.heap.size w w') : (w'.cell? ⟨w.heap.size, 0, none⟩ = some (.int .i64 t.kind) ∧ w'.cell? ⟨w.heap.size, 1, none⟩ = some (.string t.name) ∧ w'.cell? ⟨w.heap.size, 2, none⟩ = some (.int .i64 t.low) ∧ w'.cell? ⟨w.heap.size, 3, none⟩ = some (.int .i64 t.high) ∧ w'.cell? ⟨w.heap.size, 4, none⟩ = some (.int .i64 t.max) ∧ w'.cell? ⟨w.heap.size, 5, none⟩ = some (.slice As t.syms.length cs) ∧ w'.cell? ⟨w.heap.size, 6, none⟩ = some (.slice Am t.mems.length cm) ∧ w'.cell? ⟨w.heap.size, 7, none⟩ = some (.int .i64 t.key) ∧ w'.cell? ⟨w.heap.size, 8, none⟩ = some (.int .i64 t.elem) ∧ w'.cell? ⟨w.heap.size, 9, none⟩ = some (.bool t.open_)) ∧ Hid (TBox w' w.heap.size t As cs Am cm ∧ Below w.heap.size w w') :=
 ⟨⟨h.cell 0, h.cell 1, h.cell 2, h.cell 3, h.cell 4, h.cell 5, h.cell 6, h.cell 7, h.cell 8, h.cell 9⟩, h, hb⟩
theorem tb_more {w wc w3 : World} {t : TyD} {As : Option Addr} {cs : Nat} {Am : Option Addr} {cm : Nat} (h : TBox wc w.heap.size t As cs Am cm ∧ Below w.heap.size w wc) (hb : Below wc.heap.size wc w3) : TBox w3 w.heap.size t As cs Am cm ∧ Below w.heap.size w w3 := ⟨h.1.below hb, below_trans h.2 hb⟩
def badD (t : TyD) : Bool := !decide (t = plainD t) || (namedD t.kind && !nameB t.name)
theorem form_bad {t : TyD} (h : badD t = true) : formD t = false := by
 unfold badD at h
 unfold formD
 cases h1 : decide (t = plainD t) with
 | false => simp
 | true =>
  rw [h1] at h
  simp only [Bool.not_true, Bool.false_or, Bool.and_eq_true, Bool.not_eq_true'] at h
  rw [h.1, h.2]; simp
theorem form_good {t : TyD} (h1 : 1 ≤ t.kind) (h9 : t.kind ≤ 9) (h : badD t = false) : formD t = caseD t := by
 unfold badD at h
 unfold formD
 simp only [Bool.or_eq_false_iff, Bool.not_eq_false'] at h
 rw [h.1]
 have : (!namedD t.kind || nameB t.name) = true := by
  rcases Bool.and_eq_false_iff.1 h.2 with e | e
  ·rw [e]; rfl
  ·simp only [Bool.not_eq_false'] at e; rw [e]; simp
 rw [this]; simp [h1, h9]
set_option maxHeartbeats 8000000 in
set_option maxRecDepth 100000 in
theorem own_any (t : TyD) (As : Option Addr) (cs : Nat) (Am : Option Addr) (cm : Nat) (w : World) (ht : TyR w t As Am) :
  Calls Tryz.prog 62 #[t.v As cs Am cm] w (SamePost (formD t) w) := by
 have HX := Lib.hid ht
 clear ht
 have HTB : Hid (TBox (w.alloc (t.box As cs Am cm)) w.heap.size t As cs Am cm) := heap_alloc_new w (t.box As cs Am cm)
 have HB0 := Lib.hid (below_new w (t.box As cs Am cm))
 by_cases hlo : t.kind < 1
 ·have HD := Lib.hid (form_out (t := t) (.inl hlo))
  have d1 : decide (t.kind < 1) = true := by simpa using hlo
  clear hlo
  go_enter Tryz.func62, Tryz.ntmps62
  go_wp2
  go_quiet (fail)
  go_wp2
  go_ret
  exact ⟨by rw [HD.out]; rfl, below_drewN (below_new _ _) _⟩
 by_cases hhi : 9 < t.kind
 ·have HD := Lib.hid (form_out (t := t) (.inr hhi))
  have d1 : decide (t.kind < 1) = false := by simpa using hlo
  have d2 : decide (9 < t.kind) = true := by simpa using hhi
  clear hlo hhi
  go_enter Tryz.func62, Tryz.ntmps62
  go_wp2
  go_quiet (fail)
  go_wp2
  go_ret
  exact ⟨by rw [HD.out]; rfl, below_drewN (below_new _ _) _⟩
 have d1 : decide (t.kind < 1) = false := by simpa using hlo
 have d2 : decide (9 < t.kind) = false := by simpa using hhi
 have h1 : 1 ≤ t.kind := by omega
 have h9 : t.kind ≤ 9 := by omega
 clear hlo hhi
 go_enter Tryz.func62, Tryz.ntmps62
 go_upto_region 1 with fail
 go_cut [28] (fun s28 wx => s28 = .bool (badD t) ∧ Hid (TBox wx w.heap.size t As cs Am cm ∧ Below w.heap.size w wx))
 case first =>
  generalize w.alloc (t.box As cs Am cm) = wc at *
  have HC0 := Lib.hid (tb_cells HTB.out HB0.out)
  cases hsame : decide (t = plainD t) with
  | false =>
   have HSM := Lib.hid hsame
   have HBD := Lib.hid (show badD t = true by unfold badD; rw [hsame]; rfl)
   clear hsame
   refine wp_region_held_drew (S := (fun w' => (w'.cell? ⟨w.heap.size, 0, none⟩ = some (.int .i64 t.kind) ∧ w'.cell? ⟨w.heap.size, 1, none⟩ = some (.string t.name) ∧ w'.cell? ⟨w.heap.size, 2, none⟩ = some (.int .i64 t.low) ∧ w'.cell? ⟨w.heap.size, 3, none⟩ = some (.int .i64 t.high) ∧ w'.cell? ⟨w.heap.size, 4, none⟩ = some (.int .i64 t.max) ∧ w'.cell? ⟨w.heap.size, 5, none⟩ = some (.slice As t.syms.length cs) ∧ w'.cell? ⟨w.heap.size, 6, none⟩ = some (.slice Am t.mems.length cm) ∧ w'.cell? ⟨w.heap.size, 7, none⟩ = some (.int .i64 t.key) ∧ w'.cell? ⟨w.heap.size, 8, none⟩ = some (.int .i64 t.elem) ∧ w'.cell? ⟨w.heap.size, 9, none⟩ = some (.bool t.open_)) ∧ Hid (TBox w' w.heap.size t As cs Am cm ∧ Below w.heap.size w w'))) (by kernel_rfl) ?_ (fun hHeld => ?_)
   ·(try dsimp only); exact tb_cells (w' := wc.drew) HTB.out (below_drewN HB0.out 1)
   refine tkH 0 ?v0 rfl (by kernel_rfl) (.inl ⟨by rfl, ?y0⟩) hHeld ?_
   case y0 => (intro w hSw; (try dsimp only at hSw); go_simp; try with_reducible rfl)
   (try simp only [ps])
   refine tkH 1 ?v1 rfl (by kernel_rfl) (.inl ⟨by rfl, ?y1⟩) hHeld ?_
   case y1 => (intro w hSw; (try dsimp only at hSw); go_simp; try with_reducible rfl)
   (try simp only [ps])
   refine tkH 2 ?v2 rfl (by kernel_rfl) (.inl ⟨by rfl, ?y2⟩) hHeld ?_
   case y2 => (intro w hSw; (try dsimp only at hSw); go_simp; try with_reducible rfl)
   (try simp only [ps])
   refine tkH 3 ?v3 rfl (by kernel_rfl) (.inl ⟨by rfl, ?y3⟩) hHeld ?_
   case y3 => (intro w hSw; (try dsimp only at hSw); go_simp; try with_reducible rfl)
   (try simp only [ps])
   refine tkH 4 ?v4 rfl (by kernel_rfl) (.inl ⟨by rfl, ?y4⟩) hHeld ?_
   case y4 => (intro w hSw; (try dsimp only at hSw); go_simp; try with_reducible rfl)
   (try simp only [ps])
   refine tkH 5 ?v5 rfl (by kernel_rfl) (.inl ⟨by rfl, ?y5⟩) hHeld ?_
   case y5 => (intro w hSw; (try dsimp only at hSw); go_simp; try with_reducible rfl)
   (try simp only [ps])
   refine tkH 6 ?v6 rfl (by kernel_rfl) (.inl ⟨by rfl, ?y6⟩) hHeld ?_
   case y6 => (intro w hSw; (try dsimp only at hSw); go_simp; try with_reducible rfl)
   (try simp only [ps])
   refine tkH 7 ?v7 rfl (by kernel_rfl) (.inl ⟨by rfl, ?y7⟩) hHeld ?_
   case y7 => (intro w hSw; (try dsimp only at hSw); go_simp; try with_reducible rfl)
   (try simp only [ps])
   refine tkH 8 ?v8 rfl (by kernel_rfl) (.inl ⟨by rfl, ?y8⟩) hHeld ?_
   case y8 => (intro w hSw; (try dsimp only at hSw); go_simp; try with_reducible rfl)
   (try simp only [ps])
   refine tkH 9 ?v9 rfl (by kernel_rfl) (.inl ⟨by rfl, ?y9⟩) hHeld ?_
   case y9 => (intro w hSw; (try dsimp only at hSw); go_simp; try with_reducible rfl)
   (try simp only [ps])
   refine tkH 10 ?v10 rfl (by kernel_rfl) (.inl ⟨by rfl, ?y10⟩) hHeld ?_
   case y10 => (intro w hSw; (try dsimp only at hSw); go_simp; try with_reducible rfl)
   (try simp only [ps])
   refine wpAnyH_ready (rs := [11]) (by kernel_rfl) (by simp) ?_
   refine (AllReadyH.cons rfl (fun K hK => ?_) AllReadyH.nil)
   go_simp
   (refine (plain_any t h1 h9 As cs Am cm _).mono ?_; rintro e w3 ⟨Bs, ds, Bm, dm, rfl, hpl, hbx⟩)
   refine hK.out _ _ ?_ (fun hHeld => ?_)
   ·(try dsimp only); exact tb_cells (tb_more hHeld.2.out hbx).1 (tb_more hHeld.2.out hbx).2
   clear hK K
   (try simp only [ps])
   refine wpAnyH_ready (rs := [12]) (by kernel_rfl) (by simp) ?_
   refine (AllReadyH.cons rfl (fun K hK => ?_) AllReadyH.nil)
   go_simp
   (refine (sameType_any t (plainD t) As cs Am cm Bs ds Bm dm _ (HX.out.below (below_trans hHeld.2.out.2 (Below.refl _ _))) (plain_tyR (HX.out.below hHeld.2.out.2) hpl)).mono ?_; rintro e w4 ⟨rfl, hbx⟩; rw [HSM.out])
   refine hK.out _ _ ?_ (fun hHeld => ?_)
   ·(try dsimp only); exact tb_cells (tb_more hHeld.2.out hbx).1 (tb_more hHeld.2.out hbx).2
   clear hK K
   (try simp only [ps])
   refine tkH 13 ?v11 rfl (by kernel_rfl) (.inl ⟨by rfl, ?y11⟩) hHeld ?_
   case y11 => (intro w hSw; (try dsimp only at hSw); go_simp; try with_reducible rfl)
   (try simp only [ps])
   refine tkH 14 ?v12 rfl (by kernel_rfl) (.inl ⟨by rfl, ?y12⟩) hHeld ?_
   case y12 => (intro w hSw; (try dsimp only at hSw); go_simp; try with_reducible rfl)
   (try simp only [ps])
   refine tkH 15 ?v13 rfl (by kernel_rfl) (.inl ⟨by rfl, ?y13⟩) hHeld ?_
   case y13 => (intro w hSw; (try dsimp only at hSw); go_simp; try with_reducible rfl)
   (try simp only [ps])
   refine tkH 16 undef rfl (by kernel_rfl) (.inr ⟨by rfl, rfl⟩) hHeld ?_
   (try simp only [ps])
   refine tkH 17 undef rfl (by kernel_rfl) (.inr ⟨by rfl, rfl⟩) hHeld ?_
   (try simp only [ps])
   refine tkH 18 undef rfl (by kernel_rfl) (.inr ⟨by rfl, rfl⟩) hHeld ?_
   (try simp only [ps])
   refine tkH 19 undef rfl (by kernel_rfl) (.inr ⟨by rfl, rfl⟩) hHeld ?_
   (try simp only [ps])
   refine tkH 20 undef rfl (by kernel_rfl) (.inr ⟨by rfl, rfl⟩) hHeld ?_
   (try simp only [ps])
   refine tkH 21 undef rfl (by kernel_rfl) (.inr ⟨by rfl, rfl⟩) hHeld ?_
   (try simp only [ps])
   refine tkH 22 undef rfl (by kernel_rfl) (.inr ⟨by rfl, rfl⟩) hHeld ?_
   (try simp only [ps])
   refine tkH 23 undef rfl (by kernel_rfl) (.inr ⟨by rfl, rfl⟩) hHeld ?_
   (try simp only [ps])
   refine tkH 24 undef rfl (by kernel_rfl) (.inr ⟨by rfl, rfl⟩) hHeld ?_
   (try simp only [ps])
   refine tkH 25 ?v14 rfl (by kernel_rfl) (.inl ⟨by rfl, ?y14⟩) hHeld ?_
   case y14 => (intro w hSw; (try dsimp only at hSw); go_simp; try with_reducible rfl)
   (try simp only [ps])
   refine wpAnyH_done (by kernel_rfl) ?_ _
   have HEX := Lib.hid hHeld.2.out
   clear hHeld
   go_wp2_with fail
   go_meet
   exact ⟨by rw [HBD.out]; try rfl, HEX.out⟩
  | true =>
   have HSM := Lib.hid hsame
   cases hnm : namedD t.kind with
   | false =>
    have HNA := Lib.hid hnm
    have HBD := Lib.hid (show badD t = false by unfold badD; rw [hsame, hnm]; rfl)
    clear hsame hnm
    refine wp_region_held_drew (S := (fun w' => (w'.cell? ⟨w.heap.size, 0, none⟩ = some (.int .i64 t.kind) ∧ w'.cell? ⟨w.heap.size, 1, none⟩ = some (.string t.name) ∧ w'.cell? ⟨w.heap.size, 2, none⟩ = some (.int .i64 t.low) ∧ w'.cell? ⟨w.heap.size, 3, none⟩ = some (.int .i64 t.high) ∧ w'.cell? ⟨w.heap.size, 4, none⟩ = some (.int .i64 t.max) ∧ w'.cell? ⟨w.heap.size, 5, none⟩ = some (.slice As t.syms.length cs) ∧ w'.cell? ⟨w.heap.size, 6, none⟩ = some (.slice Am t.mems.length cm) ∧ w'.cell? ⟨w.heap.size, 7, none⟩ = some (.int .i64 t.key) ∧ w'.cell? ⟨w.heap.size, 8, none⟩ = some (.int .i64 t.elem) ∧ w'.cell? ⟨w.heap.size, 9, none⟩ = some (.bool t.open_)) ∧ Hid (TBox w' w.heap.size t As cs Am cm ∧ Below w.heap.size w w'))) (by kernel_rfl) ?_ (fun hHeld => ?_)
    ·(try dsimp only); exact tb_cells (w' := wc.drew) HTB.out (below_drewN HB0.out 1)
    refine tkH 0 ?v15 rfl (by kernel_rfl) (.inl ⟨by rfl, ?y15⟩) hHeld ?_
    case y15 => (intro w hSw; (try dsimp only at hSw); go_simp; try with_reducible rfl)
    (try simp only [ps])
    refine tkH 1 ?v16 rfl (by kernel_rfl) (.inl ⟨by rfl, ?y16⟩) hHeld ?_
    case y16 => (intro w hSw; (try dsimp only at hSw); go_simp; try with_reducible rfl)
    (try simp only [ps])
    refine tkH 2 ?v17 rfl (by kernel_rfl) (.inl ⟨by rfl, ?y17⟩) hHeld ?_
    case y17 => (intro w hSw; (try dsimp only at hSw); go_simp; try with_reducible rfl)
    (try simp only [ps])
    refine tkH 3 ?v18 rfl (by kernel_rfl) (.inl ⟨by rfl, ?y18⟩) hHeld ?_
    case y18 => (intro w hSw; (try dsimp only at hSw); go_simp; try with_reducible rfl)
    (try simp only [ps])
    refine tkH 4 ?v19 rfl (by kernel_rfl) (.inl ⟨by rfl, ?y19⟩) hHeld ?_
    case y19 => (intro w hSw; (try dsimp only at hSw); go_simp; try with_reducible rfl)
    (try simp only [ps])
    refine tkH 5 ?v20 rfl (by kernel_rfl) (.inl ⟨by rfl, ?y20⟩) hHeld ?_
    case y20 => (intro w hSw; (try dsimp only at hSw); go_simp; try with_reducible rfl)
    (try simp only [ps])
    refine tkH 6 ?v21 rfl (by kernel_rfl) (.inl ⟨by rfl, ?y21⟩) hHeld ?_
    case y21 => (intro w hSw; (try dsimp only at hSw); go_simp; try with_reducible rfl)
    (try simp only [ps])
    refine tkH 7 ?v22 rfl (by kernel_rfl) (.inl ⟨by rfl, ?y22⟩) hHeld ?_
    case y22 => (intro w hSw; (try dsimp only at hSw); go_simp; try with_reducible rfl)
    (try simp only [ps])
    refine tkH 8 ?v23 rfl (by kernel_rfl) (.inl ⟨by rfl, ?y23⟩) hHeld ?_
    case y23 => (intro w hSw; (try dsimp only at hSw); go_simp; try with_reducible rfl)
    (try simp only [ps])
    refine tkH 9 ?v24 rfl (by kernel_rfl) (.inl ⟨by rfl, ?y24⟩) hHeld ?_
    case y24 => (intro w hSw; (try dsimp only at hSw); go_simp; try with_reducible rfl)
    (try simp only [ps])
    refine tkH 10 ?v25 rfl (by kernel_rfl) (.inl ⟨by rfl, ?y25⟩) hHeld ?_
    case y25 => (intro w hSw; (try dsimp only at hSw); go_simp; try with_reducible rfl)
    (try simp only [ps])
    refine wpAnyH_ready (rs := [11]) (by kernel_rfl) (by simp) ?_
    refine (AllReadyH.cons rfl (fun K hK => ?_) AllReadyH.nil)
    go_simp
    (refine (plain_any t h1 h9 As cs Am cm _).mono ?_; rintro e w3 ⟨Bs, ds, Bm, dm, rfl, hpl, hbx⟩)
    refine hK.out _ _ ?_ (fun hHeld => ?_)
    ·(try dsimp only); exact tb_cells (tb_more hHeld.2.out hbx).1 (tb_more hHeld.2.out hbx).2
    clear hK K
    (try simp only [ps])
    refine wpAnyH_ready (rs := [12]) (by kernel_rfl) (by simp) ?_
    refine (AllReadyH.cons rfl (fun K hK => ?_) AllReadyH.nil)
    go_simp
    (refine (sameType_any t (plainD t) As cs Am cm Bs ds Bm dm _ (HX.out.below (below_trans hHeld.2.out.2 (Below.refl _ _))) (plain_tyR (HX.out.below hHeld.2.out.2) hpl)).mono ?_; rintro e w4 ⟨rfl, hbx⟩; rw [HSM.out])
    refine hK.out _ _ ?_ (fun hHeld => ?_)
    ·(try dsimp only); exact tb_cells (tb_more hHeld.2.out hbx).1 (tb_more hHeld.2.out hbx).2
    clear hK K
    (try simp only [ps])
    refine tkH 13 ?v26 rfl (by kernel_rfl) (.inl ⟨by rfl, ?y26⟩) hHeld ?_
    case y26 => (intro w hSw; (try dsimp only at hSw); go_simp; try with_reducible rfl)
    (try simp only [ps])
    refine tkH 14 ?v27 rfl (by kernel_rfl) (.inl ⟨by rfl, ?y27⟩) hHeld ?_
    case y27 => (intro w hSw; (try dsimp only at hSw); go_simp; try with_reducible rfl)
    (try simp only [ps])
    refine tkH 15 ?v28 rfl (by kernel_rfl) (.inl ⟨by rfl, ?y28⟩) hHeld ?_
    case y28 => (intro w hSw; (try dsimp only at hSw); go_simp; try with_reducible rfl)
    (try simp only [ps])
    refine tkH 16 ?v29 rfl (by kernel_rfl) (.inl ⟨by rfl, ?y29⟩) hHeld ?_
    case y29 => (intro w hSw; (try dsimp only at hSw); go_simp; try with_reducible rfl)
    (try simp only [ps])
    refine tkH 17 ?v30 rfl (by kernel_rfl) (.inl ⟨by rfl, ?y30⟩) hHeld ?_
    case y30 => (intro w hSw; (try dsimp only at hSw); go_simp; try with_reducible rfl)
    (try simp only [ps])
    refine wpAnyH_ready (rs := [18]) (by kernel_rfl) (by simp) ?_
    refine (AllReadyH.cons rfl (fun K hK => ?_) AllReadyH.nil)
    go_simp
    (refine (rNamed_any _ _).mono ?_; rintro e w5 ⟨rfl, rfl⟩; rw [HNA.out])
    refine hK.out _ _ ?_ (fun hHeld => ?_)
    ·(try dsimp only); exact hHeld
    clear hK K
    (try simp only [ps])
    refine tkH 19 ?v31 rfl (by kernel_rfl) (.inl ⟨by rfl, ?y31⟩) hHeld ?_
    case y31 => (intro w hSw; (try dsimp only at hSw); go_simp; try with_reducible rfl)
    (try simp only [ps])
    refine tkH 20 undef rfl (by kernel_rfl) (.inr ⟨by rfl, rfl⟩) hHeld ?_
    (try simp only [ps])
    refine tkH 21 undef rfl (by kernel_rfl) (.inr ⟨by rfl, rfl⟩) hHeld ?_
    (try simp only [ps])
    refine tkH 22 undef rfl (by kernel_rfl) (.inr ⟨by rfl, rfl⟩) hHeld ?_
    (try simp only [ps])
    refine tkH 23 undef rfl (by kernel_rfl) (.inr ⟨by rfl, rfl⟩) hHeld ?_
    (try simp only [ps])
    refine tkH 24 ?v32 rfl (by kernel_rfl) (.inl ⟨by rfl, ?y32⟩) hHeld ?_
    case y32 => (intro w hSw; (try dsimp only at hSw); go_simp; try with_reducible rfl)
    (try simp only [ps])
    refine tkH 25 ?v33 rfl (by kernel_rfl) (.inl ⟨by rfl, ?y33⟩) hHeld ?_
    case y33 => (intro w hSw; (try dsimp only at hSw); go_simp; try with_reducible rfl)
    (try simp only [ps])
    refine wpAnyH_done (by kernel_rfl) ?_ _
    have HEX := Lib.hid hHeld.2.out
    clear hHeld
    go_wp2_with fail
    go_meet
    exact ⟨by rw [HBD.out]; try rfl, HEX.out⟩
   | true =>
    have HNA := Lib.hid hnm
    have HBD := Lib.hid (show badD t = !nameB t.name by unfold badD; rw [hsame, hnm]; simp)
    clear hsame hnm
    cases hn : nameB t.name with
    | false =>
     have HNM := Lib.hid hn
     rw [hn] at HBD
     clear hn
     refine wp_region_held_drew (S := (fun w' => (w'.cell? ⟨w.heap.size, 0, none⟩ = some (.int .i64 t.kind) ∧ w'.cell? ⟨w.heap.size, 1, none⟩ = some (.string t.name) ∧ w'.cell? ⟨w.heap.size, 2, none⟩ = some (.int .i64 t.low) ∧ w'.cell? ⟨w.heap.size, 3, none⟩ = some (.int .i64 t.high) ∧ w'.cell? ⟨w.heap.size, 4, none⟩ = some (.int .i64 t.max) ∧ w'.cell? ⟨w.heap.size, 5, none⟩ = some (.slice As t.syms.length cs) ∧ w'.cell? ⟨w.heap.size, 6, none⟩ = some (.slice Am t.mems.length cm) ∧ w'.cell? ⟨w.heap.size, 7, none⟩ = some (.int .i64 t.key) ∧ w'.cell? ⟨w.heap.size, 8, none⟩ = some (.int .i64 t.elem) ∧ w'.cell? ⟨w.heap.size, 9, none⟩ = some (.bool t.open_)) ∧ Hid (TBox w' w.heap.size t As cs Am cm ∧ Below w.heap.size w w'))) (by kernel_rfl) ?_ (fun hHeld => ?_)
     ·(try dsimp only); exact tb_cells (w' := wc.drew) HTB.out (below_drewN HB0.out 1)
     refine tkH 0 ?v34 rfl (by kernel_rfl) (.inl ⟨by rfl, ?y34⟩) hHeld ?_
     case y34 => (intro w hSw; (try dsimp only at hSw); go_simp; try with_reducible rfl)
     (try simp only [ps])
     refine tkH 1 ?v35 rfl (by kernel_rfl) (.inl ⟨by rfl, ?y35⟩) hHeld ?_
     case y35 => (intro w hSw; (try dsimp only at hSw); go_simp; try with_reducible rfl)
     (try simp only [ps])
     refine tkH 2 ?v36 rfl (by kernel_rfl) (.inl ⟨by rfl, ?y36⟩) hHeld ?_
     case y36 => (intro w hSw; (try dsimp only at hSw); go_simp; try with_reducible rfl)
     (try simp only [ps])
     refine tkH 3 ?v37 rfl (by kernel_rfl) (.inl ⟨by rfl, ?y37⟩) hHeld ?_
     case y37 => (intro w hSw; (try dsimp only at hSw); go_simp; try with_reducible rfl)
     (try simp only [ps])
     refine tkH 4 ?v38 rfl (by kernel_rfl) (.inl ⟨by rfl, ?y38⟩) hHeld ?_
     case y38 => (intro w hSw; (try dsimp only at hSw); go_simp; try with_reducible rfl)
     (try simp only [ps])
     refine tkH 5 ?v39 rfl (by kernel_rfl) (.inl ⟨by rfl, ?y39⟩) hHeld ?_
     case y39 => (intro w hSw; (try dsimp only at hSw); go_simp; try with_reducible rfl)
     (try simp only [ps])
     refine tkH 6 ?v40 rfl (by kernel_rfl) (.inl ⟨by rfl, ?y40⟩) hHeld ?_
     case y40 => (intro w hSw; (try dsimp only at hSw); go_simp; try with_reducible rfl)
     (try simp only [ps])
     refine tkH 7 ?v41 rfl (by kernel_rfl) (.inl ⟨by rfl, ?y41⟩) hHeld ?_
     case y41 => (intro w hSw; (try dsimp only at hSw); go_simp; try with_reducible rfl)
     (try simp only [ps])
     refine tkH 8 ?v42 rfl (by kernel_rfl) (.inl ⟨by rfl, ?y42⟩) hHeld ?_
     case y42 => (intro w hSw; (try dsimp only at hSw); go_simp; try with_reducible rfl)
     (try simp only [ps])
     refine tkH 9 ?v43 rfl (by kernel_rfl) (.inl ⟨by rfl, ?y43⟩) hHeld ?_
     case y43 => (intro w hSw; (try dsimp only at hSw); go_simp; try with_reducible rfl)
     (try simp only [ps])
     refine tkH 10 ?v44 rfl (by kernel_rfl) (.inl ⟨by rfl, ?y44⟩) hHeld ?_
     case y44 => (intro w hSw; (try dsimp only at hSw); go_simp; try with_reducible rfl)
     (try simp only [ps])
     refine wpAnyH_ready (rs := [11]) (by kernel_rfl) (by simp) ?_
     refine (AllReadyH.cons rfl (fun K hK => ?_) AllReadyH.nil)
     go_simp
     (refine (plain_any t h1 h9 As cs Am cm _).mono ?_; rintro e w3 ⟨Bs, ds, Bm, dm, rfl, hpl, hbx⟩)
     refine hK.out _ _ ?_ (fun hHeld => ?_)
     ·(try dsimp only); exact tb_cells (tb_more hHeld.2.out hbx).1 (tb_more hHeld.2.out hbx).2
     clear hK K
     (try simp only [ps])
     refine wpAnyH_ready (rs := [12]) (by kernel_rfl) (by simp) ?_
     refine (AllReadyH.cons rfl (fun K hK => ?_) AllReadyH.nil)
     go_simp
     (refine (sameType_any t (plainD t) As cs Am cm Bs ds Bm dm _ (HX.out.below (below_trans hHeld.2.out.2 (Below.refl _ _))) (plain_tyR (HX.out.below hHeld.2.out.2) hpl)).mono ?_; rintro e w4 ⟨rfl, hbx⟩; rw [HSM.out])
     refine hK.out _ _ ?_ (fun hHeld => ?_)
     ·(try dsimp only); exact tb_cells (tb_more hHeld.2.out hbx).1 (tb_more hHeld.2.out hbx).2
     clear hK K
     (try simp only [ps])
     refine tkH 13 ?v45 rfl (by kernel_rfl) (.inl ⟨by rfl, ?y45⟩) hHeld ?_
     case y45 => (intro w hSw; (try dsimp only at hSw); go_simp; try with_reducible rfl)
     (try simp only [ps])
     refine tkH 14 ?v46 rfl (by kernel_rfl) (.inl ⟨by rfl, ?y46⟩) hHeld ?_
     case y46 => (intro w hSw; (try dsimp only at hSw); go_simp; try with_reducible rfl)
     (try simp only [ps])
     refine tkH 15 ?v47 rfl (by kernel_rfl) (.inl ⟨by rfl, ?y47⟩) hHeld ?_
     case y47 => (intro w hSw; (try dsimp only at hSw); go_simp; try with_reducible rfl)
     (try simp only [ps])
     refine tkH 16 ?v48 rfl (by kernel_rfl) (.inl ⟨by rfl, ?y48⟩) hHeld ?_
     case y48 => (intro w hSw; (try dsimp only at hSw); go_simp; try with_reducible rfl)
     (try simp only [ps])
     refine tkH 17 ?v49 rfl (by kernel_rfl) (.inl ⟨by rfl, ?y49⟩) hHeld ?_
     case y49 => (intro w hSw; (try dsimp only at hSw); go_simp; try with_reducible rfl)
     (try simp only [ps])
     refine wpAnyH_ready (rs := [18]) (by kernel_rfl) (by simp) ?_
     refine (AllReadyH.cons rfl (fun K hK => ?_) AllReadyH.nil)
     go_simp
     (refine (rNamed_any _ _).mono ?_; rintro e w5 ⟨rfl, rfl⟩; rw [HNA.out])
     refine hK.out _ _ ?_ (fun hHeld => ?_)
     ·(try dsimp only); exact hHeld
     clear hK K
     (try simp only [ps])
     refine tkH 19 ?v50 rfl (by kernel_rfl) (.inl ⟨by rfl, ?y50⟩) hHeld ?_
     case y50 => (intro w hSw; (try dsimp only at hSw); go_simp; try with_reducible rfl)
     (try simp only [ps])
     refine tkH 20 ?v51 rfl (by kernel_rfl) (.inl ⟨by rfl, ?y51⟩) hHeld ?_
     case y51 => (intro w hSw; (try dsimp only at hSw); go_simp; try with_reducible rfl)
     (try simp only [ps])
     refine tkH 21 ?v52 rfl (by kernel_rfl) (.inl ⟨by rfl, ?y52⟩) hHeld ?_
     case y52 => (intro w hSw; (try dsimp only at hSw); go_simp; try with_reducible rfl)
     (try simp only [ps])
     refine wpAnyH_ready (rs := [22]) (by kernel_rfl) (by simp) ?_
     refine (AllReadyH.cons rfl (fun K hK => ?_) AllReadyH.nil)
     go_simp
     (refine (refIsName_any _ HX.out.name _).mono ?_; rintro e w6 ⟨rfl, rfl⟩; rw [HNM.out])
     refine hK.out _ _ ?_ (fun hHeld => ?_)
     ·(try dsimp only); exact hHeld
     clear hK K
     (try simp only [ps])
     refine tkH 23 ?v53 rfl (by kernel_rfl) (.inl ⟨by rfl, ?y53⟩) hHeld ?_
     case y53 => (intro w hSw; (try dsimp only at hSw); go_simp; try with_reducible rfl)
     (try simp only [ps])
     refine tkH 24 ?v54 rfl (by kernel_rfl) (.inl ⟨by rfl, ?y54⟩) hHeld ?_
     case y54 => (intro w hSw; (try dsimp only at hSw); go_simp; try with_reducible rfl)
     (try simp only [ps])
     refine tkH 25 ?v55 rfl (by kernel_rfl) (.inl ⟨by rfl, ?y55⟩) hHeld ?_
     case y55 => (intro w hSw; (try dsimp only at hSw); go_simp; try with_reducible rfl)
     (try simp only [ps])
     refine wpAnyH_done (by kernel_rfl) ?_ _
     have HEX := Lib.hid hHeld.2.out
     clear hHeld
     go_wp2_with fail
     go_meet
     exact ⟨by rw [HBD.out]; try rfl, HEX.out⟩
    | true =>
     have HNM := Lib.hid hn
     rw [hn] at HBD
     clear hn
     refine wp_region_held_drew (S := (fun w' => (w'.cell? ⟨w.heap.size, 0, none⟩ = some (.int .i64 t.kind) ∧ w'.cell? ⟨w.heap.size, 1, none⟩ = some (.string t.name) ∧ w'.cell? ⟨w.heap.size, 2, none⟩ = some (.int .i64 t.low) ∧ w'.cell? ⟨w.heap.size, 3, none⟩ = some (.int .i64 t.high) ∧ w'.cell? ⟨w.heap.size, 4, none⟩ = some (.int .i64 t.max) ∧ w'.cell? ⟨w.heap.size, 5, none⟩ = some (.slice As t.syms.length cs) ∧ w'.cell? ⟨w.heap.size, 6, none⟩ = some (.slice Am t.mems.length cm) ∧ w'.cell? ⟨w.heap.size, 7, none⟩ = some (.int .i64 t.key) ∧ w'.cell? ⟨w.heap.size, 8, none⟩ = some (.int .i64 t.elem) ∧ w'.cell? ⟨w.heap.size, 9, none⟩ = some (.bool t.open_)) ∧ Hid (TBox w' w.heap.size t As cs Am cm ∧ Below w.heap.size w w'))) (by kernel_rfl) ?_ (fun hHeld => ?_)
     ·(try dsimp only); exact tb_cells (w' := wc.drew) HTB.out (below_drewN HB0.out 1)
     refine tkH 0 ?v56 rfl (by kernel_rfl) (.inl ⟨by rfl, ?y56⟩) hHeld ?_
     case y56 => (intro w hSw; (try dsimp only at hSw); go_simp; try with_reducible rfl)
     (try simp only [ps])
     refine tkH 1 ?v57 rfl (by kernel_rfl) (.inl ⟨by rfl, ?y57⟩) hHeld ?_
     case y57 => (intro w hSw; (try dsimp only at hSw); go_simp; try with_reducible rfl)
     (try simp only [ps])
     refine tkH 2 ?v58 rfl (by kernel_rfl) (.inl ⟨by rfl, ?y58⟩) hHeld ?_
     case y58 => (intro w hSw; (try dsimp only at hSw); go_simp; try with_reducible rfl)
     (try simp only [ps])
     refine tkH 3 ?v59 rfl (by kernel_rfl) (.inl ⟨by rfl, ?y59⟩) hHeld ?_
     case y59 => (intro w hSw; (try dsimp only at hSw); go_simp; try with_reducible rfl)
     (try simp only [ps])
     refine tkH 4 ?v60 rfl (by kernel_rfl) (.inl ⟨by rfl, ?y60⟩) hHeld ?_
     case y60 => (intro w hSw; (try dsimp only at hSw); go_simp; try with_reducible rfl)
     (try simp only [ps])
     refine tkH 5 ?v61 rfl (by kernel_rfl) (.inl ⟨by rfl, ?y61⟩) hHeld ?_
     case y61 => (intro w hSw; (try dsimp only at hSw); go_simp; try with_reducible rfl)
     (try simp only [ps])
     refine tkH 6 ?v62 rfl (by kernel_rfl) (.inl ⟨by rfl, ?y62⟩) hHeld ?_
     case y62 => (intro w hSw; (try dsimp only at hSw); go_simp; try with_reducible rfl)
     (try simp only [ps])
     refine tkH 7 ?v63 rfl (by kernel_rfl) (.inl ⟨by rfl, ?y63⟩) hHeld ?_
     case y63 => (intro w hSw; (try dsimp only at hSw); go_simp; try with_reducible rfl)
     (try simp only [ps])
     refine tkH 8 ?v64 rfl (by kernel_rfl) (.inl ⟨by rfl, ?y64⟩) hHeld ?_
     case y64 => (intro w hSw; (try dsimp only at hSw); go_simp; try with_reducible rfl)
     (try simp only [ps])
     refine tkH 9 ?v65 rfl (by kernel_rfl) (.inl ⟨by rfl, ?y65⟩) hHeld ?_
     case y65 => (intro w hSw; (try dsimp only at hSw); go_simp; try with_reducible rfl)
     (try simp only [ps])
     refine tkH 10 ?v66 rfl (by kernel_rfl) (.inl ⟨by rfl, ?y66⟩) hHeld ?_
     case y66 => (intro w hSw; (try dsimp only at hSw); go_simp; try with_reducible rfl)
     (try simp only [ps])
     refine wpAnyH_ready (rs := [11]) (by kernel_rfl) (by simp) ?_
     refine (AllReadyH.cons rfl (fun K hK => ?_) AllReadyH.nil)
     go_simp
     (refine (plain_any t h1 h9 As cs Am cm _).mono ?_; rintro e w3 ⟨Bs, ds, Bm, dm, rfl, hpl, hbx⟩)
     refine hK.out _ _ ?_ (fun hHeld => ?_)
     ·(try dsimp only); exact tb_cells (tb_more hHeld.2.out hbx).1 (tb_more hHeld.2.out hbx).2
     clear hK K
     (try simp only [ps])
     refine wpAnyH_ready (rs := [12]) (by kernel_rfl) (by simp) ?_
     refine (AllReadyH.cons rfl (fun K hK => ?_) AllReadyH.nil)
     go_simp
     (refine (sameType_any t (plainD t) As cs Am cm Bs ds Bm dm _ (HX.out.below (below_trans hHeld.2.out.2 (Below.refl _ _))) (plain_tyR (HX.out.below hHeld.2.out.2) hpl)).mono ?_; rintro e w4 ⟨rfl, hbx⟩; rw [HSM.out])
     refine hK.out _ _ ?_ (fun hHeld => ?_)
     ·(try dsimp only); exact tb_cells (tb_more hHeld.2.out hbx).1 (tb_more hHeld.2.out hbx).2
     clear hK K
     (try simp only [ps])
     refine tkH 13 ?v67 rfl (by kernel_rfl) (.inl ⟨by rfl, ?y67⟩) hHeld ?_
     case y67 => (intro w hSw; (try dsimp only at hSw); go_simp; try with_reducible rfl)
     (try simp only [ps])
     refine tkH 14 ?v68 rfl (by kernel_rfl) (.inl ⟨by rfl, ?y68⟩) hHeld ?_
     case y68 => (intro w hSw; (try dsimp only at hSw); go_simp; try with_reducible rfl)
     (try simp only [ps])
     refine tkH 15 ?v69 rfl (by kernel_rfl) (.inl ⟨by rfl, ?y69⟩) hHeld ?_
     case y69 => (intro w hSw; (try dsimp only at hSw); go_simp; try with_reducible rfl)
     (try simp only [ps])
     refine tkH 16 ?v70 rfl (by kernel_rfl) (.inl ⟨by rfl, ?y70⟩) hHeld ?_
     case y70 => (intro w hSw; (try dsimp only at hSw); go_simp; try with_reducible rfl)
     (try simp only [ps])
     refine tkH 17 ?v71 rfl (by kernel_rfl) (.inl ⟨by rfl, ?y71⟩) hHeld ?_
     case y71 => (intro w hSw; (try dsimp only at hSw); go_simp; try with_reducible rfl)
     (try simp only [ps])
     refine wpAnyH_ready (rs := [18]) (by kernel_rfl) (by simp) ?_
     refine (AllReadyH.cons rfl (fun K hK => ?_) AllReadyH.nil)
     go_simp
     (refine (rNamed_any _ _).mono ?_; rintro e w5 ⟨rfl, rfl⟩; rw [HNA.out])
     refine hK.out _ _ ?_ (fun hHeld => ?_)
     ·(try dsimp only); exact hHeld
     clear hK K
     (try simp only [ps])
     refine tkH 19 ?v72 rfl (by kernel_rfl) (.inl ⟨by rfl, ?y72⟩) hHeld ?_
     case y72 => (intro w hSw; (try dsimp only at hSw); go_simp; try with_reducible rfl)
     (try simp only [ps])
     refine tkH 20 ?v73 rfl (by kernel_rfl) (.inl ⟨by rfl, ?y73⟩) hHeld ?_
     case y73 => (intro w hSw; (try dsimp only at hSw); go_simp; try with_reducible rfl)
     (try simp only [ps])
     refine tkH 21 ?v74 rfl (by kernel_rfl) (.inl ⟨by rfl, ?y74⟩) hHeld ?_
     case y74 => (intro w hSw; (try dsimp only at hSw); go_simp; try with_reducible rfl)
     (try simp only [ps])
     refine wpAnyH_ready (rs := [22]) (by kernel_rfl) (by simp) ?_
     refine (AllReadyH.cons rfl (fun K hK => ?_) AllReadyH.nil)
     go_simp
     (refine (refIsName_any _ HX.out.name _).mono ?_; rintro e w6 ⟨rfl, rfl⟩; rw [HNM.out])
     refine hK.out _ _ ?_ (fun hHeld => ?_)
     ·(try dsimp only); exact hHeld
     clear hK K
     (try simp only [ps])
     refine tkH 23 ?v75 rfl (by kernel_rfl) (.inl ⟨by rfl, ?y75⟩) hHeld ?_
     case y75 => (intro w hSw; (try dsimp only at hSw); go_simp; try with_reducible rfl)
     (try simp only [ps])
     refine tkH 24 ?v76 rfl (by kernel_rfl) (.inl ⟨by rfl, ?y76⟩) hHeld ?_
     case y76 => (intro w hSw; (try dsimp only at hSw); go_simp; try with_reducible rfl)
     (try simp only [ps])
     refine tkH 25 ?v77 rfl (by kernel_rfl) (.inl ⟨by rfl, ?y77⟩) hHeld ?_
     case y77 => (intro w hSw; (try dsimp only at hSw); go_simp; try with_reducible rfl)
     (try simp only [ps])
     refine wpAnyH_done (by kernel_rfl) ?_ _
     have HEX := Lib.hid hHeld.2.out
     clear hHeld
     go_wp2_with fail
     go_meet
     exact ⟨by rw [HBD.out]; try rfl, HEX.out⟩
 case rest =>
  obtain ⟨rfl, hx⟩ := hcut
  have HEX := Lib.hid hx.out
  clear hx
  have p0 := HEX.out.1.cell 0
  have p2 := HEX.out.1.cell 2
  have p3 := HEX.out.1.cell 3
  have p4 := HEX.out.1.cell 4
  have p5 := HEX.out.1.cell 5
  have p6 := HEX.out.1.cell 6
  simp only [List.getElem?_toArray, List.getElem?_cons_succ, List.getElem?_cons_zero] at p0 p2 p3 p4 p5 p6
  cases hbad : badD t with
  | true =>
   have HD := Lib.hid (form_bad hbad)
   clear hbad
   go_wp2
   go_ret
   exact ⟨by rw [HD.out]; rfl, HEX.out.2⟩
  | false =>
   have HF := Lib.hid (form_good h1 h9 hbad)
   clear hbad
   by_cases hk : t.kind = 1
   ·have HD := Lib.hid (show formD t = true by rw [HF.out]; simp [caseD, hk])
    have q2 : (t.kind == 2) = false := by simp [hk]
    have q3 : (t.kind == 3) = false := by simp [hk]
    have q4 : (t.kind == 4) = false := by simp [hk]
    have q5 : (t.kind == 5) = false := by simp [hk]
    have q6 : (t.kind == 6) = false := by simp [hk]
    have q7 : (t.kind == 7) = false := by simp [hk]
    have q8 : (t.kind == 8) = false := by simp [hk]
    clear hk
    go_wp2
    go_ret
    exact ⟨by rw [HD.out]; rfl, HEX.out.2⟩
   by_cases hk : t.kind = 2
   ·have HD := Lib.hid (show formD t = decide (t.low ≤ t.high) by rw [HF.out]; simp [caseD, hk])
    have q2 : (t.kind == 2) = true := by simp [hk]
    have q3 : (t.kind == 3) = false := by simp [hk]
    have q4 : (t.kind == 4) = false := by simp [hk]
    have q5 : (t.kind == 5) = false := by simp [hk]
    have q6 : (t.kind == 6) = false := by simp [hk]
    have q7 : (t.kind == 7) = false := by simp [hk]
    have q8 : (t.kind == 8) = false := by simp [hk]
    clear hk
    go_wp2
    go_ret
    exact ⟨by rw [HD.out]; rfl, HEX.out.2⟩
   by_cases hk : t.kind = 3
   ·have HD := Lib.hid (show formD t = (decide (0 ≤ t.max) && decide (t.max ≤ 200)) by rw [HF.out]; simp [caseD, hk])
    have q2 : (t.kind == 2) = false := by simp [hk]
    have q3 : (t.kind == 3) = true := by simp [hk]
    have q4 : (t.kind == 4) = false := by simp [hk]
    have q5 : (t.kind == 5) = false := by simp [hk]
    have q6 : (t.kind == 6) = false := by simp [hk]
    have q7 : (t.kind == 7) = false := by simp [hk]
    have q8 : (t.kind == 8) = false := by simp [hk]
    clear hk
    by_cases g1 : 0 ≤ t.max
    ·by_cases g2 : t.max ≤ 200
     ·go_wp2
      go_ret
      exact ⟨by rw [HD.out]; simp [g1, g2], HEX.out.2⟩
     ·go_wp2
      go_ret
      exact ⟨by rw [HD.out]; simp [g1, g2], HEX.out.2⟩
    ·go_wp2
     go_ret
     exact ⟨by rw [HD.out]; simp; omega, HEX.out.2⟩
   by_cases hk : t.kind = 4
   ·have HD := Lib.hid (show formD t = symsD t.syms by rw [HF.out]; simp [caseD, hk])
    have q2 : (t.kind == 2) = false := by simp [hk]
    have q3 : (t.kind == 3) = false := by simp [hk]
    have q4 : (t.kind == 4) = true := by simp [hk]
    have q5 : (t.kind == 5) = false := by simp [hk]
    have q6 : (t.kind == 6) = false := by simp [hk]
    have q7 : (t.kind == 7) = false := by simp [hk]
    have q8 : (t.kind == 8) = false := by simp [hk]
    clear hk
    go_wp2_with fail
    refine (rSyms_any t.syms As cs _ (HX.out.syms.below HEX.out.2)).mono ?_
    rintro e w9 ⟨rfl, hb9⟩
    go_wp2
    go_ret
    exact ⟨by rw [HD.out]; rfl, below_trans HEX.out.2 hb9⟩
   by_cases hk : t.kind = 5
   ·have HD := Lib.hid (show formD t = memsD true t.mems by rw [HF.out]; simp [caseD, hk])
    have q2 : (t.kind == 2) = false := by simp [hk]
    have q3 : (t.kind == 3) = false := by simp [hk]
    have q4 : (t.kind == 4) = false := by simp [hk]
    have q5 : (t.kind == 5) = true := by simp [hk]
    have q6 : (t.kind == 6) = false := by simp [hk]
    have q7 : (t.kind == 7) = false := by simp [hk]
    have q8 : (t.kind == 8) = false := by simp [hk]
    clear hk
    go_wp2_with fail
    refine (rMems_true t.mems Am cm _ (HX.out.mems.below HEX.out.2)).mono ?_
    rintro e w9 ⟨rfl, hb9⟩
    go_wp2
    go_ret
    exact ⟨by rw [HD.out]; rfl, below_trans HEX.out.2 hb9⟩
   by_cases hk : t.kind = 6
   ·have HD := Lib.hid (show formD t = memsD false t.mems by rw [HF.out]; simp [caseD, hk])
    have q2 : (t.kind == 2) = false := by simp [hk]
    have q3 : (t.kind == 3) = false := by simp [hk]
    have q4 : (t.kind == 4) = false := by simp [hk]
    have q5 : (t.kind == 5) = false := by simp [hk]
    have q6 : (t.kind == 6) = true := by simp [hk]
    have q7 : (t.kind == 7) = false := by simp [hk]
    have q8 : (t.kind == 8) = false := by simp [hk]
    clear hk
    go_wp2_with fail
    refine (rMems_false t.mems Am cm _ (HX.out.mems.below HEX.out.2)).mono ?_
    rintro e w9 ⟨rfl, hb9⟩
    go_wp2
    go_ret
    exact ⟨by rw [HD.out]; rfl, below_trans HEX.out.2 hb9⟩
   by_cases hk : t.kind = 7
   ·have HD := Lib.hid (show formD t = (decide (0 ≤ t.max) && decide (t.max ≤ 50)) by rw [HF.out]; simp [caseD, hk])
    have q2 : (t.kind == 2) = false := by simp [hk]
    have q3 : (t.kind == 3) = false := by simp [hk]
    have q4 : (t.kind == 4) = false := by simp [hk]
    have q5 : (t.kind == 5) = false := by simp [hk]
    have q6 : (t.kind == 6) = false := by simp [hk]
    have q7 : (t.kind == 7) = true := by simp [hk]
    have q8 : (t.kind == 8) = false := by simp [hk]
    clear hk
    by_cases g1 : 0 ≤ t.max
    ·by_cases g2 : t.max ≤ 50
     ·go_wp2
      go_ret
      exact ⟨by rw [HD.out]; simp [g1, g2], HEX.out.2⟩
     ·go_wp2
      go_ret
      exact ⟨by rw [HD.out]; simp [g1, g2], HEX.out.2⟩
    ·go_wp2
     go_ret
     exact ⟨by rw [HD.out]; simp; omega, HEX.out.2⟩
   by_cases hk : t.kind = 8
   ·have HD := Lib.hid (show formD t = (decide (0 ≤ t.max) && decide (t.max ≤ 50)) by rw [HF.out]; simp [caseD, hk])
    have q2 : (t.kind == 2) = false := by simp [hk]
    have q3 : (t.kind == 3) = false := by simp [hk]
    have q4 : (t.kind == 4) = false := by simp [hk]
    have q5 : (t.kind == 5) = false := by simp [hk]
    have q6 : (t.kind == 6) = false := by simp [hk]
    have q7 : (t.kind == 7) = false := by simp [hk]
    have q8 : (t.kind == 8) = true := by simp [hk]
    clear hk
    by_cases g1 : 0 ≤ t.max
    ·by_cases g2 : t.max ≤ 50
     ·go_wp2
      go_ret
      exact ⟨by rw [HD.out]; simp [g1, g2], HEX.out.2⟩
     ·go_wp2
      go_ret
      exact ⟨by rw [HD.out]; simp [g1, g2], HEX.out.2⟩
    ·go_wp2
     go_ret
     exact ⟨by rw [HD.out]; simp; omega, HEX.out.2⟩
   by_cases hk : t.kind = 9
   ·have HD := Lib.hid (show formD t = true by rw [HF.out]; simp [caseD, hk])
    have q2 : (t.kind == 2) = false := by simp [hk]
    have q3 : (t.kind == 3) = false := by simp [hk]
    have q4 : (t.kind == 4) = false := by simp [hk]
    have q5 : (t.kind == 5) = false := by simp [hk]
    have q6 : (t.kind == 6) = false := by simp [hk]
    have q7 : (t.kind == 7) = false := by simp [hk]
    have q8 : (t.kind == 8) = false := by simp [hk]
    clear hk
    go_wp2
    go_ret
    exact ⟨by rw [HD.out]; rfl, HEX.out.2⟩
   exfalso; omega
end Go.Proofs.YtkhpajneinmmiaaGreatDoor


