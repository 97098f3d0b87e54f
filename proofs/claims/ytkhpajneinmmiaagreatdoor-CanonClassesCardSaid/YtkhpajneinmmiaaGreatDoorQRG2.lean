/-
  Walks: sheaveref18.Greatest (written by gen_rg2.py).
-/
import Derived.Test.YtkhpajneinmmiaaGreatDoorQRG1
import Derived.Test.YtkhpajneinmmiaaGreatDoorQRA
import Derived.Test.YtkhpajneinmmiaaGreatDoorQTB2
namespace Go.Proofs.YtkhpajneinmmiaaGreatDoor
open Go.RowKit
structure GSt (names : Bool) (a b : List TyD) (W0 : World) (M : List (List Bool)) (wr : World) : Prop where
 tab : ∃ rows, TabAt wr W0.heap.size W0.heap.size rows M
 inv : TabInv (alD names a b) (okD a b) a.length b.length M
 bel : Below W0.heap.size W0 wr
theorem row_same {rows : List Value} {i gi gi2 m m2 c c2 : Nat} (h : rows[i]? = some (.slice (some ⟨gi2, 0, none⟩) m2 c2)) (h2 : rows[i]? = some (.slice (some ⟨gi, 0, none⟩) m c)) : gi = gi2 ∧ c = c2 := by
 have e := Option.some.inj (h2.symm.trans h)
 injection e with e1 _ e2
 injection e1 with e1
 injection e1 with e1
 exact ⟨e1, e2⟩
structure PSt (W0 : World) (M : List (List Bool)) (wr : World) : Prop where
 tab : ∃ rows, TabAt wr W0.heap.size W0.heap.size rows M
 bel : Below W0.heap.size W0 wr
theorem al_uses {names : Bool} {a b : List TyD} {i k : Nat} (h : alD names a b i k = true) (hi : i < a.length) (hk : k < b.length) : (usesD a[i]).length = (usesD b[k]).length := by
 rw [alD_at hi hk] at h
 have := congrArg List.length (alikeD_uses h)
 simpa using this
set_option maxHeartbeats 8000000 in
set_option maxRecDepth 100000 in
theorem greatest_any (names : Bool) (a b : List TyD) (la : a.length ≤ 32) (lb : b.length ≤ 32) (ua : InR a) (ub : InR b) (A : Option Addr) (c : Nat) (B : Option Addr) (d : Nat) (w : World) (ha : TysR w A a) (hb : TysR w B b) :
  Calls Tryz.prog 34 #[.agg #[.slice A a.length c], .agg #[.slice B b.length d], .bool names] w (RelPost names a b w) := by
 have hmk := mk_rows a.length (by omega)
 have hmb := mk_bits b.length (by omega)
 have HA := Lib.hid ha
 have HB := Lib.hid hb
 have HUA := Lib.hid ua
 have HUB := Lib.hid ub
 clear ha hb ua ub
 go_enter Tryz.func34, Tryz.ntmps34
 go_wp2
 clear hmk
 have HB0 := Lib.hid (below_new2 w (.cells #[.slice A a.length c] 30) (.cells #[.slice B b.length d] 30))
 have HA0 := Lib.hid (HA.out.below HB0.out)
 have HBB0 := Lib.hid (HB.out.below HB0.out)
 have HCA : Hid (((w.alloc (.cells #[.slice A a.length c] 30)).alloc (.cells #[.slice B b.length d] 30)).cell? ⟨w.heap.size, 0, none⟩ = some (.slice A a.length c)) := below_cell (below_new _ _) (by rw [cell_of_row _ _ _ _ _ _ (heap_alloc_new w _)]; rfl)
 have HCB : Hid (((w.alloc (.cells #[.slice A a.length c] 30)).alloc (.cells #[.slice B b.length d] 30)).cell? ⟨w.heap.size + 1, 0, none⟩ = some (.slice B b.length d)) := Lib.hid (by
  have h := cell_of_row _ _ 0 _ _ _ (heap_alloc_new (w.alloc (.cells #[.slice A a.length c] 30)) (.cells #[.slice B b.length d] 30))
  rw [show (w.alloc (.cells #[.slice A a.length c] 30)).heap.size = w.heap.size + 1 by simp] at h
  exact h)
 have HS0 : Hid (((w.alloc (.cells #[.slice A a.length c] 30)).alloc (.cells #[.slice B b.length d] 30)).heap.size = w.heap.size + 1 + 1) := by show _ = _; simp
 rw [show w.heap.size + 1 + 1 = ((w.alloc (.cells #[.slice A a.length c] 30)).alloc (.cells #[.slice B b.length d] 30)).heap.size from HS0.out.symm]
 generalize (w.alloc (.cells #[.slice A a.length c] 30)).alloc (.cells #[.slice B b.length d] 30) = W0 at *
 have HF0 : Hid (PSt W0 (fillM (alD names a b) a.length b.length 0 0) (W0.alloc (.cells (List.replicate a.length (.slice none 0 0)).toArray 60))) := by
  refine ⟨⟨List.replicate a.length (.slice none 0 0), ?_⟩, below_new _ _⟩
  refine ⟨heap_alloc_new W0 _, Nat.le_refl _, by rw [fillM_len]; simp, fun i v l hv hl => ?_, fun i j v u k hij hv hu hk => ?_⟩
  ·rw [fillM_zero] at hl
   have e1 : v = .slice none 0 0 := (List.mem_replicate.1 (List.mem_of_getElem? hv)).2
   have e2 : l = [] := (List.mem_replicate.1 (List.mem_of_getElem? hl)).2
   subst e1; subst e2
   exact OwnL.nil _ _
  ·have e1 : v = .slice none 0 0 := (List.mem_replicate.1 (List.mem_of_getElem? hv)).2
   subst e1
   cases hk
 go_loopw [8] (fun s wr => ∃ i : Nat, i ≤ a.length ∧ s = .int .i64 i ∧ Hid (PSt W0 (fillM (alD names a b) a.length b.length i 0) wr)) (fun s _ => a.length - (intOf s).toNat)
 case atStart => exact ⟨0, by omega, rfl, HF0.out⟩
 case round =>
  obtain ⟨i, hi, rfl, hh⟩ := hrel
  obtain ⟨wo, rfl⟩ : ∃ wo : World, wo = wr := ⟨_, rfl⟩
  by_cases hlt : i < a.length
  ·have cB := below_cell hh.out.bel HCB.out
   have hzB := lt_of_cell cB
   simp only at hzB
   obtain ⟨rows, hta⟩ := hh.out.tab
   have HIL : Hid (i < (fillM (alD names a b) a.length b.length i 0).length) := by show _ < _; rw [fillM_len]; exact hlt
   obtain ⟨v0, hv0, _, c0, f0⟩ := hta.row HIL.out
   have hzg := lt_of_cell c0
   simp only at hzg
   have h1 : (0:Int) ≤ (i:Int) := by omega
   have h2 : (i : Int) < (a.length : Int) := by omega
   have HG0 : Hid (PSt W0 (gM (alD names a b) a.length b.length i 0) ((wo.setCell ⟨W0.heap.size, i, none⟩ (.slice (some ⟨wo.heap.size, 0, none⟩) b.length b.length)).alloc (.cells (Array.replicate b.length (.bool false)) 4))) := by
    rw [← World.setCell_alloc_past _ _ _ _ hzg, ← List.toArray_replicate]
    refine ⟨⟨rows.set i (.slice (some ⟨wo.heap.size, 0, none⟩) b.length b.length), ?_⟩, below_setg (hh.out.bel.alloc hh.out.bel.size _) _ _ (Nat.le_refl _) _⟩
    have := hta.setRow HIL.out hv0 (ownB_new wo W0.heap.size b.length hh.out.bel.size (by omega)) (World.grownBy_alloc wo _ _) (.inr rfl)
    unfold gM
    simpa using this
   clear hta hv0 hh
   go_wp2
   generalize (wo.setCell ⟨W0.heap.size, i, none⟩ (.slice (some ⟨wo.heap.size, 0, none⟩) b.length b.length)).alloc (.cells (Array.replicate b.length (.bool false)) 4) = w5 at *
   clear c0 f0 cB
   go_loopw [9] (fun s wr => ∃ k : Nat, k ≤ b.length ∧ s = .int .i64 k ∧ Hid (PSt W0 (gM (alD names a b) a.length b.length i k) wr)) (fun s _ => b.length - (intOf s).toNat)
   case atStart => exact ⟨0, by omega, rfl, HG0.out⟩
   case round =>
    obtain ⟨k, hk, rfl, hq⟩ := hrel
    obtain ⟨wp, rfl⟩ : ∃ wp : World, wp = wr := ⟨_, rfl⟩
    have HIG : Hid (i < (gM (alD names a b) a.length b.length i k).length) := by show _ < _; rw [gM_len]; exact hlt
    have HRWL := Lib.hid (gM_rowlen (alD names a b) (m := b.length) hlt hk HIG.out)
    obtain ⟨rows, hta⟩ := hq.out.tab
    by_cases hlk : k < b.length
    ·obtain ⟨b1, o1, As, cs, Am, cm, rfl, hr1, x0, x1, x2, x3, x4, x5, x6, x7, x8, x9⟩ := HA0.out.at10 hlt
     obtain ⟨b2, o2, Bs, ds, Bm, dm, rfl, hr2, y0, y1, y2, y3, y4, y5, y6, y7, y8, y9⟩ := HBB0.out.at10 hlk
     have HTX := Lib.hid hr1
     have HTY := Lib.hid hr2
     have HAK2 : Hid (alD names a b i k = alikeD names a[i] b[k]) := alD_at hlt hlk
     have HGS := Lib.hid (gM_set (alD names a b) (m := b.length) (k := k) hlt hlk)
     rw [HAK2.out] at HGS
     have g1 : (0:Int) ≤ (k:Int) := by omega
     have g2 : (k : Int) < (b.length : Int) := by omega
     generalize a[i] = x at *
     generalize b[k] = y at *
     obtain ⟨gi, cg, c1, c2, fz, hrow, hgi⟩ := hta.bit (k := k) HIG.out (by rw [HRWL.out]; exact hlk)
     rw [HRWL.out] at c1
     have HROW := Lib.hid hrow
     rw [HRWL.out] at HROW
     have HGI := Lib.hid hgi
     have HTA := Lib.hid hta
     have HOB : Hid (OwnB wp W0.heap.size (.slice (some ⟨gi, 0, none⟩) b.length cg) _) := hta.own i _ _ HROW.out (List.getElem?_eq_getElem HIG.out)
     have G9 : Hid (∀ w' : World, Below W0.heap.size W0 w' → w'.heap[W0.heap.size]? = some (.cells rows.toArray 60 (0, 0)) → (w'.cell? ⟨W0.heap.size, i, none⟩ = some (.slice (some ⟨gi, 0, none⟩) b.length cg) ∧ ((w'.cell? ⟨w.heap.size, 0, none⟩ = some (.slice (some ⟨b1, o1, none⟩) a.length c) ∧ w'.cell? ⟨w.heap.size + 1, 0, none⟩ = some (.slice (some ⟨b2, o2, none⟩) b.length d)) ∧ (w'.cell? ⟨b1, o1 + i * 10, none⟩ = some (.int .i64 x.kind) ∧ w'.cell? ⟨b1, o1 + i * 10 + 1, none⟩ = some (.string x.name) ∧ w'.cell? ⟨b1, o1 + i * 10 + 2, none⟩ = some (.int .i64 x.low) ∧ w'.cell? ⟨b1, o1 + i * 10 + 3, none⟩ = some (.int .i64 x.high) ∧ w'.cell? ⟨b1, o1 + i * 10 + 4, none⟩ = some (.int .i64 x.max) ∧ w'.cell? ⟨b1, o1 + i * 10 + 5, none⟩ = some (.slice As x.syms.length cs) ∧ w'.cell? ⟨b1, o1 + i * 10 + 6, none⟩ = some (.slice Am x.mems.length cm) ∧ w'.cell? ⟨b1, o1 + i * 10 + 7, none⟩ = some (.int .i64 x.key) ∧ w'.cell? ⟨b1, o1 + i * 10 + 8, none⟩ = some (.int .i64 x.elem) ∧ w'.cell? ⟨b1, o1 + i * 10 + 9, none⟩ = some (.bool x.open_)) ∧ (w'.cell? ⟨b2, o2 + k * 10, none⟩ = some (.int .i64 y.kind) ∧ w'.cell? ⟨b2, o2 + k * 10 + 1, none⟩ = some (.string y.name) ∧ w'.cell? ⟨b2, o2 + k * 10 + 2, none⟩ = some (.int .i64 y.low) ∧ w'.cell? ⟨b2, o2 + k * 10 + 3, none⟩ = some (.int .i64 y.high) ∧ w'.cell? ⟨b2, o2 + k * 10 + 4, none⟩ = some (.int .i64 y.max) ∧ w'.cell? ⟨b2, o2 + k * 10 + 5, none⟩ = some (.slice Bs y.syms.length ds) ∧ w'.cell? ⟨b2, o2 + k * 10 + 6, none⟩ = some (.slice Bm y.mems.length dm) ∧ w'.cell? ⟨b2, o2 + k * 10 + 7, none⟩ = some (.int .i64 y.key) ∧ w'.cell? ⟨b2, o2 + k * 10 + 8, none⟩ = some (.int .i64 y.elem) ∧ w'.cell? ⟨b2, o2 + k * 10 + 9, none⟩ = some (.bool y.open_)))) ∧ Hid (Below W0.heap.size W0 w' ∧ w'.heap[W0.heap.size]? = some (.cells rows.toArray 60 (0, 0)))) := fun w' hB hO => ⟨⟨by rw [cell_of_row _ _ _ _ _ _ hO]; simpa using HROW.out, ⟨below_cell hB HCA.out, below_cell hB HCB.out⟩, ⟨below_cell hB x0, below_cell hB x1, below_cell hB x2, below_cell hB x3, below_cell hB x4, below_cell hB x5, below_cell hB x6, below_cell hB x7, below_cell hB x8, below_cell hB x9⟩, ⟨below_cell hB y0, below_cell hB y1, below_cell hB y2, below_cell hB y3, below_cell hB y4, below_cell hB y5, below_cell hB y6, below_cell hB y7, below_cell hB y8, below_cell hB y9⟩⟩, hB, hO⟩
     have HBP := Lib.hid hq.out.bel
     clear hr1 hr2 hrow hgi hta c2 fz hq x0 y0 x1 y1 x2 y2 x3 y3 x4 y4 x5 y5 x6 y6 x7 y7 x8 y8 x9 y9
     go_wp2
     refine wp_region_held_drew (S := (fun w' => (w'.cell? ⟨W0.heap.size, i, none⟩ = some (.slice (some ⟨gi, 0, none⟩) b.length cg) ∧ ((w'.cell? ⟨w.heap.size, 0, none⟩ = some (.slice (some ⟨b1, o1, none⟩) a.length c) ∧ w'.cell? ⟨w.heap.size + 1, 0, none⟩ = some (.slice (some ⟨b2, o2, none⟩) b.length d)) ∧ (w'.cell? ⟨b1, o1 + i * 10, none⟩ = some (.int .i64 x.kind) ∧ w'.cell? ⟨b1, o1 + i * 10 + 1, none⟩ = some (.string x.name) ∧ w'.cell? ⟨b1, o1 + i * 10 + 2, none⟩ = some (.int .i64 x.low) ∧ w'.cell? ⟨b1, o1 + i * 10 + 3, none⟩ = some (.int .i64 x.high) ∧ w'.cell? ⟨b1, o1 + i * 10 + 4, none⟩ = some (.int .i64 x.max) ∧ w'.cell? ⟨b1, o1 + i * 10 + 5, none⟩ = some (.slice As x.syms.length cs) ∧ w'.cell? ⟨b1, o1 + i * 10 + 6, none⟩ = some (.slice Am x.mems.length cm) ∧ w'.cell? ⟨b1, o1 + i * 10 + 7, none⟩ = some (.int .i64 x.key) ∧ w'.cell? ⟨b1, o1 + i * 10 + 8, none⟩ = some (.int .i64 x.elem) ∧ w'.cell? ⟨b1, o1 + i * 10 + 9, none⟩ = some (.bool x.open_)) ∧ (w'.cell? ⟨b2, o2 + k * 10, none⟩ = some (.int .i64 y.kind) ∧ w'.cell? ⟨b2, o2 + k * 10 + 1, none⟩ = some (.string y.name) ∧ w'.cell? ⟨b2, o2 + k * 10 + 2, none⟩ = some (.int .i64 y.low) ∧ w'.cell? ⟨b2, o2 + k * 10 + 3, none⟩ = some (.int .i64 y.high) ∧ w'.cell? ⟨b2, o2 + k * 10 + 4, none⟩ = some (.int .i64 y.max) ∧ w'.cell? ⟨b2, o2 + k * 10 + 5, none⟩ = some (.slice Bs y.syms.length ds) ∧ w'.cell? ⟨b2, o2 + k * 10 + 6, none⟩ = some (.slice Bm y.mems.length dm) ∧ w'.cell? ⟨b2, o2 + k * 10 + 7, none⟩ = some (.int .i64 y.key) ∧ w'.cell? ⟨b2, o2 + k * 10 + 8, none⟩ = some (.int .i64 y.elem) ∧ w'.cell? ⟨b2, o2 + k * 10 + 9, none⟩ = some (.bool y.open_)))) ∧ Hid (Below W0.heap.size W0 w' ∧ w'.heap[W0.heap.size]? = some (.cells rows.toArray 60 (0, 0))))) (by kernel_rfl) ?_ (fun hHeld => ?_)
     ·(try dsimp only); exact G9.out wp.drew (below_drewN HBP.out 1) HTA.out.out
     (have HTD : Hid (TabAt wp.drew W0.heap.size W0.heap.size rows (gM (alD names a b) a.length b.length i k)) := HTA.out.below (below_drewN (Below.refl _ _) 1); have HBD : Hid (Below W0.heap.size W0 wp.drew) := below_drewN HBP.out 1; generalize wp.drew = wd at *)
     refine tkH 0 ?v0 rfl (by kernel_rfl) (.inl ⟨by rfl, ?y0⟩) hHeld ?_
     case y0 => (intro w hSw; (try dsimp only at hSw); go_simp; try with_reducible rfl)
     (try simp only [ps])
     refine tkH 1 ?v1 rfl (by kernel_rfl) (.inl ⟨by rfl, ?y1⟩) hHeld ?_
     case y1 => (intro w hSw; (try dsimp only at hSw); go_simp; try with_reducible rfl)
     (try simp only [ps])
     refine tkH 2 ?v2 rfl (by kernel_rfl) (.inl ⟨by rfl, ?y2⟩) hHeld ?_
     case y2 => (intro w hSw; (try dsimp only at hSw); go_simp; try with_reducible rfl)
     (try simp only [ps])
     refine tkH 3 ?v3 rfl (by kernel_rfl) (.inl ⟨by rfl, ?y3⟩) hHeld ?_
     case y3 => (intro w hSw; (try dsimp only at hSw); go_simp; try with_reducible rfl)
     (try simp only [ps])
     refine tkH 4 ?v4 rfl (by kernel_rfl) (.inl ⟨by rfl, ?y4⟩) hHeld ?_
     case y4 => (intro w hSw; (try dsimp only at hSw); go_simp; try with_reducible rfl)
     (try simp only [ps])
     refine tkH 5 ?v5 rfl (by kernel_rfl) (.inl ⟨by rfl, ?y5⟩) hHeld ?_
     case y5 => (intro w hSw; (try dsimp only at hSw); go_simp; try with_reducible rfl)
     (try simp only [ps])
     refine tkH 6 ?v6 rfl (by kernel_rfl) (.inl ⟨by rfl, ?y6⟩) hHeld ?_
     case y6 => (intro w hSw; (try dsimp only at hSw); go_simp; try with_reducible rfl)
     (try simp only [ps])
     refine tkH 7 ?v7 rfl (by kernel_rfl) (.inl ⟨by rfl, ?y7⟩) hHeld ?_
     case y7 => (intro w hSw; (try dsimp only at hSw); go_simp; try with_reducible rfl)
     (try simp only [ps])
     refine tkH 8 ?v8 rfl (by kernel_rfl) (.inl ⟨by rfl, ?y8⟩) hHeld ?_
     case y8 => (intro w hSw; (try dsimp only at hSw); go_simp; try with_reducible rfl)
     (try simp only [ps])
     refine tkH 9 ?v9 rfl (by kernel_rfl) (.inl ⟨by rfl, ?y9⟩) hHeld ?_
     case y9 => (intro w hSw; (try dsimp only at hSw); go_simp; try with_reducible rfl)
     (try simp only [ps])
     refine tkH 10 ?v10 rfl (by kernel_rfl) (.inl ⟨by rfl, ?y10⟩) hHeld ?_
     case y10 => (intro w hSw; (try dsimp only at hSw); go_simp; try with_reducible rfl)
     (try simp only [ps])
     refine tkH 11 ?v11 rfl (by kernel_rfl) (.inl ⟨by rfl, ?y11⟩) hHeld ?_
     case y11 => (intro w hSw; (try dsimp only at hSw); go_simp; try with_reducible rfl)
     (try simp only [ps])
     refine tkH 12 ?v12 rfl (by kernel_rfl) (.inl ⟨by rfl, ?y12⟩) hHeld ?_
     case y12 => (intro w hSw; (try dsimp only at hSw); go_simp; try with_reducible rfl)
     (try simp only [ps])
     refine tkH 13 ?v13 rfl (by kernel_rfl) (.inl ⟨by rfl, ?y13⟩) hHeld ?_
     case y13 => (intro w hSw; (try dsimp only at hSw); go_simp; try with_reducible rfl)
     (try simp only [ps])
     refine tkH 14 ?v14 rfl (by kernel_rfl) (.inl ⟨by rfl, ?y14⟩) hHeld ?_
     case y14 => (intro w hSw; (try dsimp only at hSw); go_simp; try with_reducible rfl)
     (try simp only [ps])
     refine tkH 15 ?v15 rfl (by kernel_rfl) (.inl ⟨by rfl, ?y15⟩) hHeld ?_
     case y15 => (intro w hSw; (try dsimp only at hSw); go_simp; try with_reducible rfl)
     (try simp only [ps])
     refine wpAnyH_ready (rs := [16]) (by kernel_rfl) (by simp) ?_
     refine (AllReadyH.cons rfl (fun K hK => ?_) AllReadyH.nil)
     go_simp
     (refine (rAlike_any names x y As cs Am cm Bs ds Bm dm _ (HTX.out.below HBD.out) (HTY.out.below HBD.out)).mono ?_; rintro e w16 ⟨rfl, hb16⟩; have HT16 := Lib.hid (HTD.out.below hb16); have HB16 := Lib.hid (below_trans HBD.out hb16))
     refine hK.out _ _ ?_ (fun hHeld => ?_)
     ·(try dsimp only); exact G9.out w16 HB16.out HT16.out.out
     clear hK K
     (try simp only [ps])
     refine tkH 17 ?v16 rfl (by kernel_rfl) (.inl ⟨by rfl, ?y16⟩) hHeld ?_
     case y16 => (intro w hSw; (try dsimp only at hSw); go_simp; try with_reducible rfl)
     (try simp only [ps])
     refine wpAnyH_ready (rs := [18]) (by kernel_rfl) (by simp) ?_
     refine (AllReadyH.cons rfl (fun K hK => ?_) AllReadyH.nil)
     (obtain ⟨gi2, cg2, d1, d2, fz, hrow2, _⟩ := HT16.out.bit (k := k) HIG.out (by rw [HRWL.out]; exact hlk); obtain ⟨e7, e8⟩ := row_same hrow2 HROW.out; subst e7; subst e8; have hz9 := lt_of_cell d2; clear d1 hrow2; go_simp)
     refine hK.out _ _ ?_ (fun hHeld => ?_)
     ·(try dsimp only); exact G9.out _ (below_setg HB16.out gi k HGI.out _) ((HT16.out.storeV HIG.out (gi := gi) (c := cg) (by rw [HRWL.out]; exact HROW.out) k _).1.out)
     clear hK K
     (try simp only [ps])
     refine wpAnyH_done (by kernel_rfl) ?_ _
     have HNX : Hid (PSt W0 (gM (alD names a b) a.length b.length i (k + 1)) (w16.setCell ⟨gi, k, none⟩ (.bool (alikeD names x y)))) := ⟨⟨rows, by rw [← HGS.out]; exact (HT16.out.storeV HIG.out (gi := gi) (c := cg) (by rw [HRWL.out]; exact HROW.out) k _).1⟩, below_setg HB16.out gi k HGI.out _⟩
     clear hHeld d2 fz hz9
     go_wp2
     go_roundw
     case rel => exact ⟨k + 1, by omega, by go_num, HNX.out⟩
     case measure => simp [intOf]; omega
    ·obtain ⟨v1, hv1, ho1, c1, f1⟩ := hta.row HIG.out
     obtain ⟨A1, cc1, e1, _⟩ := ho1.reads
     rw [HRWL.out] at e1
     subst e1
     have HNX : Hid (PSt W0 (fillM (alD names a b) a.length b.length (i + 1) 0) wp) := by
      have := hq.out
      rw [show k = b.length by omega, gM_full _ hlt] at this
      exact this
     go_wp2
     go_roundw
     case rel => exact ⟨i + 1, by omega, by go_num, HNX.out⟩
     case measure => simp [intOf]; omega
  ·have HR0 : Hid (GSt names a b W0 (fillM (alD names a b) a.length b.length a.length 0) wo) := by
    have := hh.out
    rw [show i = a.length by omega] at this
    exact ⟨this.tab, fillM_tab fun i k h => alD_lt h, this.bel⟩
   clear hh hmb
   go_wp2
   go_loopg [10] (cntM (fillM (alD names a b) a.length b.length a.length 0) + 1) (fun gk s wr => ∃ (ch : Bool) (M : List (List Bool)), s = .bool ch ∧ Hid (GSt names a b W0 M wr ∧ gk = cntM M + (if ch then 1 else 0) ∧ (ch = false → GreatestR (alD names a b) (okD a b) (getB M))))
   case atStart => exact ⟨true, _, rfl, HR0.out, rfl, fun h => by cases h⟩
   case round =>
    obtain ⟨ch, M, rfl, hg⟩ := hrel
    obtain ⟨wq, rfl⟩ : ∃ wq : World, wq = wr := ⟨_, rfl⟩
    cases ch with
    | false =>
     have HGR := Lib.hid (hg.out.2.2 rfl)
     have HGT := Lib.hid hg.out.1
     clear hg
     go_wp2
     go_ret
     obtain ⟨rows, ht⟩ := HGT.out.tab
     exact ⟨_, rows, M, rfl, ⟨ht.out, Nat.le_trans HB0.out.size ht.gb, ht.len, fun i v l hv hl => (ht.own i v l hv hl).base HB0.out.size, ht.dis⟩, HGT.out.inv.rows, HGT.out.inv.cols, HGR.out, below_trans HB0.out HGT.out.bel⟩
    | true =>
     have HGK := Lib.hid hg.out.2.1
     have HRQ := Lib.hid hg.out.1
     clear hlt hg
     go_wp2
     go_loopw [11, 10] (fun s s12 wr => ∃ i : Nat, i ≤ a.length ∧ s = .int .i64 i ∧ Hid (GSt names a b W0 (sweep (okD a b) (pairsTo b.length i 0) (M, false)).1 wr) ∧ s12 = .bool (sweep (okD a b) (pairsTo b.length i 0) (M, false)).2) (fun s _ _ => a.length - (intOf s).toNat)
     case atStart => exact ⟨0, by omega, rfl, HRQ.out, rfl⟩
     case round =>
      obtain ⟨i, hi, rfl, hh, rfl⟩ := hrel
      obtain ⟨wo, rfl⟩ : ∃ wo : World, wo = wr := ⟨_, rfl⟩
      by_cases hlt : i < a.length
      ·have h1 : (0:Int) ≤ (i:Int) := by omega
       have h2 : (i : Int) < (a.length : Int) := by omega
       go_wp2
       go_loopw [12, 10] (fun s s12 wr => ∃ k : Nat, k ≤ b.length ∧ s = .int .i64 k ∧ Hid (GSt names a b W0 (sweep (okD a b) (pairsTo b.length i k) (M, false)).1 wr) ∧ s12 = .bool (sweep (okD a b) (pairsTo b.length i k) (M, false)).2) (fun s _ _ => b.length - (intOf s).toNat)
       case atStart => exact ⟨0, by omega, rfl, hh.out, rfl⟩
       case round =>
        obtain ⟨k, hk, rfl, hq, rfl⟩ := hrel
        obtain ⟨wp, rfl⟩ : ∃ wp : World, wp = wr := ⟨_, rfl⟩
        by_cases hlk : k < b.length
        ·have HSW : Hid (sweep (okD a b) (pairsTo b.length i (k + 1)) (M, false) = strike (okD a b) (sweep (okD a b) (pairsTo b.length i k) (M, false)) i k) := by show _ = _; rw [pairsTo_next, sweep_snoc]
         have HTI := Lib.hid (tab_strike (alD names a b) (okD a b) (okD_mono a b) hq.out.inv i k)
         obtain ⟨T, hT⟩ : ∃ T, T = sweep (okD a b) (pairsTo b.length i k) (M, false) := ⟨_, rfl⟩
         have hq1 := hq.out
         rw [← hT] at HSW HTI hq1 ⊢
         have HQ1 := Lib.hid hq1
         clear hT hq hq1
         obtain ⟨b1, o1, As, cs, Am, cm, e1, hr1, x0, x1, x2, x3, x4, x5, x6, x7, x8, x9⟩ := HA0.out.at10 hlt
         subst e1
         obtain ⟨b2, o2, Bs, ds, Bm, dm, e2, hr2, y0, y1, y2, y3, y4, y5, y6, y7, y8, y9⟩ := HBB0.out.at10 hlk
         subst e2
         have HTX := Lib.hid hr1
         have HTY := Lib.hid hr2
         have HOK2 : Hid (okD a b (getB T.1) i k = usesOk (getB T.1) (usesD a[i]) (usesD b[k])) := okD_at hlt hlk
         have HUX := Lib.hid (HUA.out _ (List.getElem_mem hlt))
         have HUY := Lib.hid (HUB.out _ (List.getElem_mem hlk))
         have HUL : Hid (getB T.1 i k = true → (usesD a[i]).length = (usesD b[k]).length) := fun h => al_uses (HQ1.out.inv.like i k h) hlt hlk
         have g1 : (0:Int) ≤ (k:Int) := by omega
         have g2 : (k : Int) < (b.length : Int) := by omega
         generalize a[i] = x at *
         generalize b[k] = y at *
         obtain ⟨rows, hta⟩ := HQ1.out.tab
         have HRL := Lib.hid HQ1.out.inv.rows
         have HCL := Lib.hid HQ1.out.inv.cols
         have hiT : i < T.1.length := by rw [HRL.out]; exact hlt
         have hil : (T.1[i]).length = b.length := HCL.out _ (List.getElem_mem hiT)
         obtain ⟨gi, cg, t1, t2, t3, hrow, hgi⟩ := hta.bit (k := k) hiT (by rw [hil]; exact hlk)
         clear t1 t2 t3
         have HROW := Lib.hid hrow
         rw [hil] at HROW
         have HGI := Lib.hid hgi
         have HTA := Lib.hid hta
         have HOT : Hid (∀ w' : World, TabAt w' W0.heap.size W0.heap.size rows T.1 → w'.cell? ⟨W0.heap.size, i, none⟩ = some (.slice (some ⟨gi, 0, none⟩) b.length cg) ∧ w'.cell? ⟨gi, k, none⟩ = some (.bool (getB T.1 i k))) := fun w' hT => by
          have hra : RelAt (w'.alloc (.cells #[.slice (some ⟨W0.heap.size, 0, none⟩) a.length a.length] 61)) W0.heap.size w'.heap.size W0.heap.size rows T.1 a.length b.length := ⟨heap_alloc_new w' _, hT.below (below_new _ _), HRL.out, HCL.out⟩
          have hc1 : w'.cell? ⟨W0.heap.size, i, none⟩ = some (.slice (some ⟨gi, 0, none⟩) b.length cg) := by rw [cell_of_row _ _ _ _ _ _ hT.out]; simpa using HROW.out
          obtain ⟨gi3, c3, d1, d2⟩ := tab_bit hT HRL.out HCL.out hlt hlk
          have e := Option.some.inj (d1.symm.trans hc1)
          injection e with e1 _ _
          injection e1 with e1
          injection e1 with e1
          subst e1
          exact ⟨hc1, d2⟩
         have G19 : Hid (∀ w' : World, Below W0.heap.size W0 w' → getB T.1 i k = true → TabAt w' W0.heap.size W0.heap.size rows T.1 → ((w'.cell? ⟨W0.heap.size, i, none⟩ = some (.slice (some ⟨gi, 0, none⟩) b.length cg) ∧ w'.cell? ⟨gi, k, none⟩ = some (.bool true)) ∧ ((w'.cell? ⟨w.heap.size, 0, none⟩ = some (.slice (some ⟨b1, o1, none⟩) a.length c) ∧ w'.cell? ⟨w.heap.size + 1, 0, none⟩ = some (.slice (some ⟨b2, o2, none⟩) b.length d)) ∧ (w'.cell? ⟨b1, o1 + i * 10, none⟩ = some (.int .i64 x.kind) ∧ w'.cell? ⟨b1, o1 + i * 10 + 1, none⟩ = some (.string x.name) ∧ w'.cell? ⟨b1, o1 + i * 10 + 2, none⟩ = some (.int .i64 x.low) ∧ w'.cell? ⟨b1, o1 + i * 10 + 3, none⟩ = some (.int .i64 x.high) ∧ w'.cell? ⟨b1, o1 + i * 10 + 4, none⟩ = some (.int .i64 x.max) ∧ w'.cell? ⟨b1, o1 + i * 10 + 5, none⟩ = some (.slice As x.syms.length cs) ∧ w'.cell? ⟨b1, o1 + i * 10 + 6, none⟩ = some (.slice Am x.mems.length cm) ∧ w'.cell? ⟨b1, o1 + i * 10 + 7, none⟩ = some (.int .i64 x.key) ∧ w'.cell? ⟨b1, o1 + i * 10 + 8, none⟩ = some (.int .i64 x.elem) ∧ w'.cell? ⟨b1, o1 + i * 10 + 9, none⟩ = some (.bool x.open_)) ∧ (w'.cell? ⟨b2, o2 + k * 10, none⟩ = some (.int .i64 y.kind) ∧ w'.cell? ⟨b2, o2 + k * 10 + 1, none⟩ = some (.string y.name) ∧ w'.cell? ⟨b2, o2 + k * 10 + 2, none⟩ = some (.int .i64 y.low) ∧ w'.cell? ⟨b2, o2 + k * 10 + 3, none⟩ = some (.int .i64 y.high) ∧ w'.cell? ⟨b2, o2 + k * 10 + 4, none⟩ = some (.int .i64 y.max) ∧ w'.cell? ⟨b2, o2 + k * 10 + 5, none⟩ = some (.slice Bs y.syms.length ds) ∧ w'.cell? ⟨b2, o2 + k * 10 + 6, none⟩ = some (.slice Bm y.mems.length dm) ∧ w'.cell? ⟨b2, o2 + k * 10 + 7, none⟩ = some (.int .i64 y.key) ∧ w'.cell? ⟨b2, o2 + k * 10 + 8, none⟩ = some (.int .i64 y.elem) ∧ w'.cell? ⟨b2, o2 + k * 10 + 9, none⟩ = some (.bool y.open_)))) ∧ Hid (Below W0.heap.size W0 w' ∧ TabAt w' W0.heap.size W0.heap.size rows T.1)) := fun w' hB hbt hT => ⟨⟨⟨(HOT.out w' hT).1, hbt ▸ (HOT.out w' hT).2⟩, ⟨below_cell hB HCA.out, below_cell hB HCB.out⟩, ⟨below_cell hB x0, below_cell hB x1, below_cell hB x2, below_cell hB x3, below_cell hB x4, below_cell hB x5, below_cell hB x6, below_cell hB x7, below_cell hB x8, below_cell hB x9⟩, ⟨below_cell hB y0, below_cell hB y1, below_cell hB y2, below_cell hB y3, below_cell hB y4, below_cell hB y5, below_cell hB y6, below_cell hB y7, below_cell hB y8, below_cell hB y9⟩⟩, hB, hT⟩
         obtain ⟨c1, c2⟩ := HOT.out wp hta
         have HBP := Lib.hid HQ1.out.bel
         have cA := below_cell HBP.out HCA.out
         have cB := below_cell HBP.out HCB.out
         clear hr1 hr2 hrow hgi hta hiT hil x0 y0 x1 y1 x2 y2 x3 y3 x4 y4 x5 y5 x6 y6 x7 y7 x8 y8 x9 y9
         go_wp2
         cases hbit : getB T.1 i k with
         | false =>
          rw [hbit] at c2
          have HST := Lib.hid (strike_no (ok := okD a b) (s := T) (i := i) (k := k) (.inl hbit))
          rw [HST.out] at HSW
          clear hbit
          go_quiet (fail)
          go_wp2
          go_roundw
          case rel => exact ⟨k + 1, by omega, by go_num, (by rw [HSW.out]; exact ⟨⟨rows, HTA.out.below (below_drewN (Below.refl _ _) _)⟩, HQ1.out.inv, below_drewN HBP.out _⟩), (by rw [HSW.out])⟩
          case measure => simp [intOf]; omega
         | true =>
          have HBT := Lib.hid hbit
          have HUXn : Hid (∀ u ∈ usesD x, 0 ≤ u.2 ∧ u.2 < (a.length : Int)) := fun u hu => by have := HUX.out u hu; omega
          have HUYn : Hid (∀ u ∈ usesD y, 0 ≤ u.2 ∧ u.2 < (b.length : Int)) := fun u hu => by have := HUY.out u hu; omega
          have HNM2 : Hid (a.length ≤ 1000 ∧ b.length ≤ 1000) := ⟨by omega, by omega⟩
          have HULn := Lib.hid (HUL.out hbit)
          clear hbit c1 c2 cA cB
          cases hok : okD a b (getB T.1) i k with
          | true =>
           have HUO : Hid (usesOk (getB T.1) (usesD x) (usesD y) = true) := by rw [← HOK2.out]; exact hok
           have HST := Lib.hid (strike_no (ok := okD a b) (s := T) (i := i) (k := k) (.inr hok))
           rw [HST.out] at HSW
           clear hok
           refine wp_region_held_drew (S := (fun w' => ((w'.cell? ⟨W0.heap.size, i, none⟩ = some (.slice (some ⟨gi, 0, none⟩) b.length cg) ∧ w'.cell? ⟨gi, k, none⟩ = some (.bool true)) ∧ ((w'.cell? ⟨w.heap.size, 0, none⟩ = some (.slice (some ⟨b1, o1, none⟩) a.length c) ∧ w'.cell? ⟨w.heap.size + 1, 0, none⟩ = some (.slice (some ⟨b2, o2, none⟩) b.length d)) ∧ (w'.cell? ⟨b1, o1 + i * 10, none⟩ = some (.int .i64 x.kind) ∧ w'.cell? ⟨b1, o1 + i * 10 + 1, none⟩ = some (.string x.name) ∧ w'.cell? ⟨b1, o1 + i * 10 + 2, none⟩ = some (.int .i64 x.low) ∧ w'.cell? ⟨b1, o1 + i * 10 + 3, none⟩ = some (.int .i64 x.high) ∧ w'.cell? ⟨b1, o1 + i * 10 + 4, none⟩ = some (.int .i64 x.max) ∧ w'.cell? ⟨b1, o1 + i * 10 + 5, none⟩ = some (.slice As x.syms.length cs) ∧ w'.cell? ⟨b1, o1 + i * 10 + 6, none⟩ = some (.slice Am x.mems.length cm) ∧ w'.cell? ⟨b1, o1 + i * 10 + 7, none⟩ = some (.int .i64 x.key) ∧ w'.cell? ⟨b1, o1 + i * 10 + 8, none⟩ = some (.int .i64 x.elem) ∧ w'.cell? ⟨b1, o1 + i * 10 + 9, none⟩ = some (.bool x.open_)) ∧ (w'.cell? ⟨b2, o2 + k * 10, none⟩ = some (.int .i64 y.kind) ∧ w'.cell? ⟨b2, o2 + k * 10 + 1, none⟩ = some (.string y.name) ∧ w'.cell? ⟨b2, o2 + k * 10 + 2, none⟩ = some (.int .i64 y.low) ∧ w'.cell? ⟨b2, o2 + k * 10 + 3, none⟩ = some (.int .i64 y.high) ∧ w'.cell? ⟨b2, o2 + k * 10 + 4, none⟩ = some (.int .i64 y.max) ∧ w'.cell? ⟨b2, o2 + k * 10 + 5, none⟩ = some (.slice Bs y.syms.length ds) ∧ w'.cell? ⟨b2, o2 + k * 10 + 6, none⟩ = some (.slice Bm y.mems.length dm) ∧ w'.cell? ⟨b2, o2 + k * 10 + 7, none⟩ = some (.int .i64 y.key) ∧ w'.cell? ⟨b2, o2 + k * 10 + 8, none⟩ = some (.int .i64 y.elem) ∧ w'.cell? ⟨b2, o2 + k * 10 + 9, none⟩ = some (.bool y.open_)))) ∧ Hid (Below W0.heap.size W0 w' ∧ TabAt w' W0.heap.size W0.heap.size rows T.1))) (by kernel_rfl) ?_ (fun hHeld => ?_)
           ·(try dsimp only); exact G19.out wp.drew (below_drewN HBP.out 1) HBT.out (HTA.out.below (below_drewN (Below.refl _ _) 1))
           generalize wp.drew = wd at *
           refine tkH 0 ?v17 rfl (by kernel_rfl) (.inl ⟨by rfl, ?y17⟩) hHeld ?_
           case y17 => (intro w hSw; (try dsimp only at hSw); go_simp; try with_reducible rfl)
           (try simp only [ps])
           refine tkH 1 ?v18 rfl (by kernel_rfl) (.inl ⟨by rfl, ?y18⟩) hHeld ?_
           case y18 => (intro w hSw; (try dsimp only at hSw); go_simp; try with_reducible rfl)
           (try simp only [ps])
           refine tkH 2 ?v19 rfl (by kernel_rfl) (.inl ⟨by rfl, ?y19⟩) hHeld ?_
           case y19 => (intro w hSw; (try dsimp only at hSw); go_simp; try with_reducible rfl)
           (try simp only [ps])
           refine tkH 3 ?v20 rfl (by kernel_rfl) (.inl ⟨by rfl, ?y20⟩) hHeld ?_
           case y20 => (intro w hSw; (try dsimp only at hSw); go_simp; try with_reducible rfl)
           (try simp only [ps])
           refine tkH 4 ?v21 rfl (by kernel_rfl) (.inl ⟨by rfl, ?y21⟩) hHeld ?_
           case y21 => (intro w hSw; (try dsimp only at hSw); go_simp; try with_reducible rfl)
           (try simp only [ps])
           refine tkH 5 ?v22 rfl (by kernel_rfl) (.inl ⟨by rfl, ?y22⟩) hHeld ?_
           case y22 => (intro w hSw; (try dsimp only at hSw); go_simp; try with_reducible rfl)
           (try simp only [ps])
           refine tkH 6 ?v23 rfl (by kernel_rfl) (.inl ⟨by rfl, ?y23⟩) hHeld ?_
           case y23 => (intro w hSw; (try dsimp only at hSw); go_simp; try with_reducible rfl)
           (try simp only [ps])
           refine tkH 7 ?v24 rfl (by kernel_rfl) (.inl ⟨by rfl, ?y24⟩) hHeld ?_
           case y24 => (intro w hSw; (try dsimp only at hSw); go_simp; try with_reducible rfl)
           (try simp only [ps])
           refine tkH 8 ?v25 rfl (by kernel_rfl) (.inl ⟨by rfl, ?y25⟩) hHeld ?_
           case y25 => (intro w hSw; (try dsimp only at hSw); go_simp; try with_reducible rfl)
           (try simp only [ps])
           refine tkH 9 ?v26 rfl (by kernel_rfl) (.inl ⟨by rfl, ?y26⟩) hHeld ?_
           case y26 => (intro w hSw; (try dsimp only at hSw); go_simp; try with_reducible rfl)
           (try simp only [ps])
           refine tkH 10 ?v27 rfl (by kernel_rfl) (.inl ⟨by rfl, ?y27⟩) hHeld ?_
           case y27 => (intro w hSw; (try dsimp only at hSw); go_simp; try with_reducible rfl)
           (try simp only [ps])
           refine tkH 11 ?v28 rfl (by kernel_rfl) (.inl ⟨by rfl, ?y28⟩) hHeld ?_
           case y28 => (intro w hSw; (try dsimp only at hSw); go_simp; try with_reducible rfl)
           (try simp only [ps])
           refine tkH 12 ?v29 rfl (by kernel_rfl) (.inl ⟨by rfl, ?y29⟩) hHeld ?_
           case y29 => (intro w hSw; (try dsimp only at hSw); go_simp; try with_reducible rfl)
           (try simp only [ps])
           refine tkH 13 ?v30 rfl (by kernel_rfl) (.inl ⟨by rfl, ?y30⟩) hHeld ?_
           case y30 => (intro w hSw; (try dsimp only at hSw); go_simp; try with_reducible rfl)
           (try simp only [ps])
           refine tkH 14 ?v31 rfl (by kernel_rfl) (.inl ⟨by rfl, ?y31⟩) hHeld ?_
           case y31 => (intro w hSw; (try dsimp only at hSw); go_simp; try with_reducible rfl)
           (try simp only [ps])
           refine tkH 15 ?v32 rfl (by kernel_rfl) (.inl ⟨by rfl, ?y32⟩) hHeld ?_
           case y32 => (intro w hSw; (try dsimp only at hSw); go_simp; try with_reducible rfl)
           (try simp only [ps])
           refine tkH 16 ?v33 rfl (by kernel_rfl) (.inl ⟨by rfl, ?y33⟩) hHeld ?_
           case y33 => (intro w hSw; (try dsimp only at hSw); go_simp; try with_reducible rfl)
           (try simp only [ps])
           refine tkH 17 ?v34 rfl (by kernel_rfl) (.inl ⟨by rfl, ?y34⟩) hHeld ?_
           case y34 => (intro w hSw; (try dsimp only at hSw); go_simp; try with_reducible rfl)
           (try simp only [ps])
           refine tkH 18 ?v35 rfl (by kernel_rfl) (.inl ⟨by rfl, ?y35⟩) hHeld ?_
           case y35 => (intro w hSw; (try dsimp only at hSw); go_simp; try with_reducible rfl)
           (try simp only [ps])
           refine wpAnyH_ready (rs := [19]) (by kernel_rfl) (by simp) ?_
           refine (AllReadyH.cons rfl (fun K hK => ?_) AllReadyH.nil)
           go_simp
           (refine (rRelated_any x y As cs Am cm Bs ds Bm dm W0.heap.size W0.heap.size rows T.1 a.length b.length HNM2.out HRL.out HCL.out HULn.out HUXn.out HUYn.out _ (HTX.out.below hHeld.2.out.1) (HTY.out.below hHeld.2.out.1) hHeld.2.out.2).mono ?_; rintro e w13 ⟨rfl, hbz⟩; rw [HUO.out])
           refine hK.out _ _ ?_ (fun hHeld => ?_)
           ·(try dsimp only); exact G19.out _ (below_trans hHeld.2.out.1 hbz) HBT.out (hHeld.2.out.2.below hbz)
           clear hK K
           (try simp only [ps])
           refine tkH 20 ?v36 rfl (by kernel_rfl) (.inl ⟨by rfl, ?y36⟩) hHeld ?_
           case y36 => (intro w hSw; (try dsimp only at hSw); go_simp; try with_reducible rfl)
           (try simp only [ps])
           refine tkH 21 ?v37 rfl (by kernel_rfl) (.inl ⟨by rfl, ?y37⟩) hHeld ?_
           case y37 => (intro w hSw; (try dsimp only at hSw); go_simp; try with_reducible rfl)
           (try simp only [ps])
           refine wpAnyH_done (by kernel_rfl) ?_ _
           have HB13 := Lib.hid hHeld.2.out.1
           have HER := Lib.hid hHeld.2.out.2
           clear hHeld
           go_wp2
           go_roundw
           case rel => exact ⟨k + 1, by omega, by go_num, (by rw [HSW.out]; exact ⟨⟨rows, HER.out⟩, HQ1.out.inv, HB13.out⟩), (by rw [HSW.out])⟩
           case measure => simp [intOf]; omega
          | false =>
           have HUO : Hid (usesOk (getB T.1) (usesD x) (usesD y) = false) := by rw [← HOK2.out]; exact hok
           have HST := Lib.hid (strike_yes (ok := okD a b) (s := T) (i := i) (k := k) HBT.out hok)
           rw [HST.out] at HSW
           clear hok
           refine wp_region_held_drew (S := (fun w' => ((w'.cell? ⟨W0.heap.size, i, none⟩ = some (.slice (some ⟨gi, 0, none⟩) b.length cg) ∧ w'.cell? ⟨gi, k, none⟩ = some (.bool true)) ∧ ((w'.cell? ⟨w.heap.size, 0, none⟩ = some (.slice (some ⟨b1, o1, none⟩) a.length c) ∧ w'.cell? ⟨w.heap.size + 1, 0, none⟩ = some (.slice (some ⟨b2, o2, none⟩) b.length d)) ∧ (w'.cell? ⟨b1, o1 + i * 10, none⟩ = some (.int .i64 x.kind) ∧ w'.cell? ⟨b1, o1 + i * 10 + 1, none⟩ = some (.string x.name) ∧ w'.cell? ⟨b1, o1 + i * 10 + 2, none⟩ = some (.int .i64 x.low) ∧ w'.cell? ⟨b1, o1 + i * 10 + 3, none⟩ = some (.int .i64 x.high) ∧ w'.cell? ⟨b1, o1 + i * 10 + 4, none⟩ = some (.int .i64 x.max) ∧ w'.cell? ⟨b1, o1 + i * 10 + 5, none⟩ = some (.slice As x.syms.length cs) ∧ w'.cell? ⟨b1, o1 + i * 10 + 6, none⟩ = some (.slice Am x.mems.length cm) ∧ w'.cell? ⟨b1, o1 + i * 10 + 7, none⟩ = some (.int .i64 x.key) ∧ w'.cell? ⟨b1, o1 + i * 10 + 8, none⟩ = some (.int .i64 x.elem) ∧ w'.cell? ⟨b1, o1 + i * 10 + 9, none⟩ = some (.bool x.open_)) ∧ (w'.cell? ⟨b2, o2 + k * 10, none⟩ = some (.int .i64 y.kind) ∧ w'.cell? ⟨b2, o2 + k * 10 + 1, none⟩ = some (.string y.name) ∧ w'.cell? ⟨b2, o2 + k * 10 + 2, none⟩ = some (.int .i64 y.low) ∧ w'.cell? ⟨b2, o2 + k * 10 + 3, none⟩ = some (.int .i64 y.high) ∧ w'.cell? ⟨b2, o2 + k * 10 + 4, none⟩ = some (.int .i64 y.max) ∧ w'.cell? ⟨b2, o2 + k * 10 + 5, none⟩ = some (.slice Bs y.syms.length ds) ∧ w'.cell? ⟨b2, o2 + k * 10 + 6, none⟩ = some (.slice Bm y.mems.length dm) ∧ w'.cell? ⟨b2, o2 + k * 10 + 7, none⟩ = some (.int .i64 y.key) ∧ w'.cell? ⟨b2, o2 + k * 10 + 8, none⟩ = some (.int .i64 y.elem) ∧ w'.cell? ⟨b2, o2 + k * 10 + 9, none⟩ = some (.bool y.open_)))) ∧ Hid (Below W0.heap.size W0 w' ∧ TabAt w' W0.heap.size W0.heap.size rows T.1))) (by kernel_rfl) ?_ (fun hHeld => ?_)
           ·(try dsimp only); exact G19.out wp.drew (below_drewN HBP.out 1) HBT.out (HTA.out.below (below_drewN (Below.refl _ _) 1))
           generalize wp.drew = wd at *
           refine tkH 0 ?v38 rfl (by kernel_rfl) (.inl ⟨by rfl, ?y38⟩) hHeld ?_
           case y38 => (intro w hSw; (try dsimp only at hSw); go_simp; try with_reducible rfl)
           (try simp only [ps])
           refine tkH 1 ?v39 rfl (by kernel_rfl) (.inl ⟨by rfl, ?y39⟩) hHeld ?_
           case y39 => (intro w hSw; (try dsimp only at hSw); go_simp; try with_reducible rfl)
           (try simp only [ps])
           refine tkH 2 ?v40 rfl (by kernel_rfl) (.inl ⟨by rfl, ?y40⟩) hHeld ?_
           case y40 => (intro w hSw; (try dsimp only at hSw); go_simp; try with_reducible rfl)
           (try simp only [ps])
           refine tkH 3 ?v41 rfl (by kernel_rfl) (.inl ⟨by rfl, ?y41⟩) hHeld ?_
           case y41 => (intro w hSw; (try dsimp only at hSw); go_simp; try with_reducible rfl)
           (try simp only [ps])
           refine tkH 4 ?v42 rfl (by kernel_rfl) (.inl ⟨by rfl, ?y42⟩) hHeld ?_
           case y42 => (intro w hSw; (try dsimp only at hSw); go_simp; try with_reducible rfl)
           (try simp only [ps])
           refine tkH 5 ?v43 rfl (by kernel_rfl) (.inl ⟨by rfl, ?y43⟩) hHeld ?_
           case y43 => (intro w hSw; (try dsimp only at hSw); go_simp; try with_reducible rfl)
           (try simp only [ps])
           refine tkH 6 ?v44 rfl (by kernel_rfl) (.inl ⟨by rfl, ?y44⟩) hHeld ?_
           case y44 => (intro w hSw; (try dsimp only at hSw); go_simp; try with_reducible rfl)
           (try simp only [ps])
           refine tkH 7 ?v45 rfl (by kernel_rfl) (.inl ⟨by rfl, ?y45⟩) hHeld ?_
           case y45 => (intro w hSw; (try dsimp only at hSw); go_simp; try with_reducible rfl)
           (try simp only [ps])
           refine tkH 8 ?v46 rfl (by kernel_rfl) (.inl ⟨by rfl, ?y46⟩) hHeld ?_
           case y46 => (intro w hSw; (try dsimp only at hSw); go_simp; try with_reducible rfl)
           (try simp only [ps])
           refine tkH 9 ?v47 rfl (by kernel_rfl) (.inl ⟨by rfl, ?y47⟩) hHeld ?_
           case y47 => (intro w hSw; (try dsimp only at hSw); go_simp; try with_reducible rfl)
           (try simp only [ps])
           refine tkH 10 ?v48 rfl (by kernel_rfl) (.inl ⟨by rfl, ?y48⟩) hHeld ?_
           case y48 => (intro w hSw; (try dsimp only at hSw); go_simp; try with_reducible rfl)
           (try simp only [ps])
           refine tkH 11 ?v49 rfl (by kernel_rfl) (.inl ⟨by rfl, ?y49⟩) hHeld ?_
           case y49 => (intro w hSw; (try dsimp only at hSw); go_simp; try with_reducible rfl)
           (try simp only [ps])
           refine tkH 12 ?v50 rfl (by kernel_rfl) (.inl ⟨by rfl, ?y50⟩) hHeld ?_
           case y50 => (intro w hSw; (try dsimp only at hSw); go_simp; try with_reducible rfl)
           (try simp only [ps])
           refine tkH 13 ?v51 rfl (by kernel_rfl) (.inl ⟨by rfl, ?y51⟩) hHeld ?_
           case y51 => (intro w hSw; (try dsimp only at hSw); go_simp; try with_reducible rfl)
           (try simp only [ps])
           refine tkH 14 ?v52 rfl (by kernel_rfl) (.inl ⟨by rfl, ?y52⟩) hHeld ?_
           case y52 => (intro w hSw; (try dsimp only at hSw); go_simp; try with_reducible rfl)
           (try simp only [ps])
           refine tkH 15 ?v53 rfl (by kernel_rfl) (.inl ⟨by rfl, ?y53⟩) hHeld ?_
           case y53 => (intro w hSw; (try dsimp only at hSw); go_simp; try with_reducible rfl)
           (try simp only [ps])
           refine tkH 16 ?v54 rfl (by kernel_rfl) (.inl ⟨by rfl, ?y54⟩) hHeld ?_
           case y54 => (intro w hSw; (try dsimp only at hSw); go_simp; try with_reducible rfl)
           (try simp only [ps])
           refine tkH 17 ?v55 rfl (by kernel_rfl) (.inl ⟨by rfl, ?y55⟩) hHeld ?_
           case y55 => (intro w hSw; (try dsimp only at hSw); go_simp; try with_reducible rfl)
           (try simp only [ps])
           refine tkH 18 ?v56 rfl (by kernel_rfl) (.inl ⟨by rfl, ?y56⟩) hHeld ?_
           case y56 => (intro w hSw; (try dsimp only at hSw); go_simp; try with_reducible rfl)
           (try simp only [ps])
           refine wpAnyH_ready (rs := [19]) (by kernel_rfl) (by simp) ?_
           refine (AllReadyH.cons rfl (fun K hK => ?_) AllReadyH.nil)
           go_simp
           (refine (rRelated_any x y As cs Am cm Bs ds Bm dm W0.heap.size W0.heap.size rows T.1 a.length b.length HNM2.out HRL.out HCL.out HULn.out HUXn.out HUYn.out _ (HTX.out.below hHeld.2.out.1) (HTY.out.below hHeld.2.out.1) hHeld.2.out.2).mono ?_; rintro e w13 ⟨rfl, hbz⟩; rw [HUO.out])
           refine hK.out _ _ ?_ (fun hHeld => ?_)
           ·(try dsimp only); exact G19.out _ (below_trans hHeld.2.out.1 hbz) HBT.out (hHeld.2.out.2.below hbz)
           clear hK K
           (try simp only [ps])
           refine tkH 20 ?v57 rfl (by kernel_rfl) (.inl ⟨by rfl, ?y57⟩) hHeld ?_
           case y57 => (intro w hSw; (try dsimp only at hSw); go_simp; try with_reducible rfl)
           (try simp only [ps])
           refine tkH 21 ?v58 rfl (by kernel_rfl) (.inl ⟨by rfl, ?y58⟩) hHeld ?_
           case y58 => (intro w hSw; (try dsimp only at hSw); go_simp; try with_reducible rfl)
           (try simp only [ps])
           refine wpAnyH_done (by kernel_rfl) ?_ _
           have HB13 := Lib.hid hHeld.2.out.1
           have HER := Lib.hid hHeld.2.out.2
           clear hHeld
           obtain ⟨c1, c2⟩ := HOT.out w13 HER.out
           have hiM : i < T.1.length := by rw [HRL.out]; exact hlt
           have HMl : Hid ((T.1[i]).length = b.length) := HCL.out _ (List.getElem_mem hiM)
           obtain ⟨gi2, cg2, _, _, fz, hr2, _⟩ := HER.out.bit (k := k) hiM (by rw [HMl.out]; exact hlk)
           obtain ⟨e7, e8⟩ := row_same hr2 HROW.out
           subst e7; subst e8
           have HSTO := Lib.hid (HER.out.store hiM (gi := gi) (c := cg) (by rw [HMl.out]; exact HROW.out) k)
           have HTI2 := Lib.hid HTI.out
           rw [HST.out] at HTI2
           clear hr2
           go_wp2
           go_roundw
           case rel => exact ⟨k + 1, by omega, by go_num, (by rw [HSW.out]; exact ⟨⟨rows, HSTO.out.1⟩, HTI2.out, below_setg HB13.out gi k HGI.out _⟩), (by rw [HSW.out])⟩
           case measure => simp [intOf]; omega
        ·have HNX : Hid (GSt names a b W0 (sweep (okD a b) (pairsTo b.length (i + 1) 0) (M, false)).1 wp) := by
          have := hq.out
          rw [show k = b.length by omega, pairsTo_row] at this
          exact this
         have HKE : Hid (k = b.length) := by show _ = _; omega
         obtain ⟨rows, hta⟩ := hq.out.tab
         have hiT : i < (sweep (okD a b) (pairsTo b.length i k) (M, false)).1.length := by rw [hq.out.inv.rows]; exact hlt
         have hil := hq.out.inv.cols _ (List.getElem_mem hiT)
         obtain ⟨v1, hv1, ho1, c1, _⟩ := hta.row hiT
         obtain ⟨A1, cc1, e1, _⟩ := ho1.reads
         rw [hil] at e1
         subst e1
         clear hq hta ho1 hv1
         go_wp2
         go_roundw
         case rel => exact ⟨i + 1, by omega, by go_num, HNX.out, (by rw [HKE.out, pairsTo_row])⟩
         case measure => simp [intOf]; omega
      ·have HIE : Hid (i = a.length) := by show _ = _; omega
       have HC1 : Hid (cntM (sweep (okD a b) (pairsTo b.length a.length 0) (M, false)).1 ≤ cntM M) := (sweep_cnt (okD a b) (pairsTo b.length a.length 0) (M, false)).1
       have HC2 : Hid ((sweep (okD a b) (pairsTo b.length a.length 0) (M, false)).2 = true → cntM (sweep (okD a b) (pairsTo b.length a.length 0) (M, false)).1 < cntM M) := (sweep_cnt (okD a b) (pairsTo b.length a.length 0) (M, false)).2 rfl
       have HDN := Lib.hid (fun h => tab_done (alD names a b) (okD a b) HRQ.out.inv h)
       have hh2 := hh.out
       rw [HIE.out] at hh2 ⊢
       have HH2 := Lib.hid hh2
       clear hh hh2
       generalize sweep (okD a b) (pairsTo b.length a.length 0) (M, false) = T at *
       go_wp2
       go_roundg (cntM T.1 + (if T.2 then 1 else 0))
       case measure =>
        rw [HGK.out]
        have h1 := HC1.out
        have h2 := HC2.out
        cases hT2 : T.2 with
        | true => have := h2 hT2; simp; omega
        | false => simp; omega
       case rel => exact ⟨T.2, T.1, rfl, HH2.out, rfl, fun h => by have := HDN.out h; rw [this.2]; exact this.1⟩
end Go.Proofs.YtkhpajneinmmiaaGreatDoor


