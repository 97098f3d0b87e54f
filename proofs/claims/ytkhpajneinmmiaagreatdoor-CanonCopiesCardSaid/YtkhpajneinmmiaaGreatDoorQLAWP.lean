/-
  Walks: the law CanonCopies.
-/
import Derived.Test.YtkhpajneinmmiaaGreatDoorQSXCP
import Derived.Test.YtkhpajneinmmiaaGreatDoorQCO2
import Derived.Test.YtkhpajneinmmiaaGreatDoorQSM
import Derived.Test.YtkhpajneinmmiaaGreatDoorQPL
import Derived.Test.YtkhpajneinmmiaaGreatDoorQDT3
import Derived.Test.YtkhpajneinmmiaaGreatDoorQAW1
namespace Go.Proofs.YtkhpajneinmmiaaGreatDoor
open Go.RowKit
theorem there_boxR {w : World} {b : Nat} (h : w.heap[b]? = some zboxR) : w.there b 0 2 := fun j hj => by
 rw [Nat.zero_add]
 refine ⟨?_, frozen_of_row _ _ _ _ _ h⟩
 rw [cell_of_row _ _ _ _ _ _ h]
 match j, hj with
 | 0, _ => rfl
 | 1, _ => rfl
theorem root_info : (Tryz.prog.info? 32).map (·.size) = some 2 := by kernel_rfl
theorem root_one (A : Option Addr) (n c : Nat) : (#[Value.slice A n c, .int .i64 0]).all (·.oneCell') = true := by simp [Value.oneCell']
theorem root_set {w : World} {b : Nat} (h : w.heap[b]? = some zboxR) (A : Option Addr) (n c : Nat) : (w.setCells b 0 [.slice A n c, .int .i64 0]).heap[b]? = some (rootB A n c 0) := by
 rw [World.setCells, World.setCells, World.setCells, heap_setCell_same _ _ 1 _ _ _ (heap_setCell_same _ _ 0 _ _ _ h)]
 rfl
set_option maxHeartbeats 8000000 in
set_option maxRecDepth 100000 in
theorem lawCopies_any (d : List NodeD) (t8 : Nat) (bits : Nat) (A : Option Addr) (c : Nat) (w : World) (hd : NodesR w A d) (h8 : t8 < 256) (htab : Tab w) :
  Calls Tryz.prog 7 #[draftV A d.length c, .int .u8 t8, .int .u64 bits] w (SamePost true w) := by
 have HD := Lib.hid hd
 have HTB := Lib.hid htab
 have HB0 := Lib.hid (below_new w (.cells #[.slice A d.length c] 24))
 clear hd htab
 go_enter Tryz.func7, Tryz.ntmps7
 go_wp2_with fail
 refine (of_any d A c _ (HD.out.below HB0.out)).mono ?_
 rintro e w1 ⟨A1, c1, s, ok, rfl, hs, hok, hno, hb1⟩
 have HS1 := Lib.hid (hs.below (below_new w1 (.cells #[.slice A1 s.length c1] 30)))
 have HOK := Lib.hid hok
 have HB1 := Lib.hid (below_trans HB0.out (below_trans hb1 (below_new w1 (.cells #[.slice A1 s.length c1] 30))))
 have HX1 := Lib.hid (heap_alloc_new w1 (.cells #[.slice A1 s.length c1] 30))
 clear hs hok hno hb1
 go_wp2_with fail
 generalize w1.alloc (.cells #[.slice A1 s.length c1] 30) = W1 at *
 refine (awake_any _ (HTB.out.below HB1.out)).mono ?_
 rintro e w2 ⟨rfl, hb2⟩
 have HB2 := Lib.hid (below_trans HB1.out hb2)
 have HS2 := Lib.hid (HS1.out.below hb2)
 have HX2 := Lib.hid ((hb2.block _ (Array.getElem?_eq_some_iff.1 HX1.out).1).trans HX1.out)
 clear hb2
 cases ok with
 | false =>
  go_wp2_with fail
  refine (awake_any _ (HTB.out.below HB2.out)).mono ?_
  rintro e w3 ⟨rfl, hb3⟩
  have HB3 := Lib.hid (below_trans HB2.out hb3)
  clear hb3
  go_wp2
  go_ret
  exact ⟨rfl, HB3.out⟩
 | true =>
  obtain ⟨hv, hsh, hsl, hd1, hd5⟩ := HOK.out rfl
  have HV := Lib.hid hv
  have hs1 : 1 ≤ s.length := by omega
  have hs5 : s.length ≤ 5 := by omega
  have HSL := Lib.hid hsl
  clear hsl hd1 hd5
  have x0 : w2.cell? ⟨w1.heap.size, 0, none⟩ = some (.slice A1 s.length c1) := by rw [cell_of_row _ _ _ _ _ _ HX2.out]; rfl
  obtain ⟨i, hi⟩ : ∃ i : Nat, i = t8 % (2 * s.length) := ⟨_, rfl⟩
  have hil : i < 2 * s.length := by rw [hi]; exact Nat.mod_lt _ (by omega)
  obtain ⟨m2, hm2⟩ : ∃ m2 : Nat, m2 = 2 * s.length := ⟨_, rfl⟩
  have em : (2 : Int) * (s.length : Int) = (m2 : Int) := by omega
  have er1 : (t8 : Int).tmod (m2 : Int) = (i : Int) := by rw [hi, hm2]; rfl
  have er2 : (t8 : Int) % (m2 : Int) = (i : Int) := by rw [hi, hm2]; simp
  have hm10 : m2 ≤ 10 := by omega
  have hmz : ¬ ((m2 : Int) = 0) := by omega
  have HIL := Lib.hid hil
  clear hi hil hm2
  obtain ⟨j, hj⟩ : ∃ j : Nat, j = i % s.length := ⟨_, rfl⟩
  have HJJ := Lib.hid hj
  have hjl : j < s.length := by rw [hj]; exact Nat.mod_lt _ (by omega)
  have ej1 : (i : Int).tmod (s.length : Int) = (j : Int) := by rw [hj]; rfl
  have ej2 : (i : Int) % (s.length : Int) = (j : Int) := by rw [hj]; simp
  have hsz : ¬ ((s.length : Int) = 0) := by omega
  have hnil : ¬ (s = []) := fun e => by rw [e] at hs1; simp at hs1
  have HJL := Lib.hid hjl
  clear hj
  go_wp2_with fail
  refine (copied18_any s bits A1 c1 _ HS2.out hv hsh hs1 hs5).mono ?_
  rintro e w3 ⟨A3, c3, l, rfl, hl3, hc3, hb3⟩
  have HCP := Lib.hid hc3
  have HVL := Lib.hid (copy_valid hv hsh hc3 (by omega))
  have HLL : Hid (l.length = 2 * s.length) := hc3.1
  have HS3 := Lib.hid (hl3.below (below_new w3 (.cells #[.slice A3 l.length c3] 30)))
  have HSS3 := Lib.hid (HS2.out.below (below_trans hb3 (below_new w3 (.cells #[.slice A3 l.length c3] 30))))
  have HB3 := Lib.hid (below_trans HB2.out (below_trans hb3 (below_new w3 (.cells #[.slice A3 l.length c3] 30))))
  have HX3 := Lib.hid (heap_alloc_new w3 (.cells #[.slice A3 l.length c3] 30))
  have HY3 := Lib.hid (tmp_al ((hb3.block _ (Array.getElem?_eq_some_iff.1 HX2.out).1).trans HX2.out) (.cells #[.slice A3 l.length c3] 30))
  clear hl3 hc3 hb3 x0 hv hsh er1 er2 em hm10 hmz
  go_upto_region 7 with fail
  generalize w3.alloc (.cells #[.slice A3 l.length c3] 30) = W3 at *
  have HX7 : Hid (W3.cell? ⟨w1.heap.size, 0, none⟩ = some (.slice A1 s.length c1)) := Lib.hid (by rw [cell_of_row _ _ _ _ _ _ HY3.out]; rfl)
  have y7 := lt_of_cell HX7.out
  simp only at y7
  go_cut [12, 13] (fun s12 s13 wx => ∃ (p : Nat) (la : List TyD) (A5 : Option Addr) (c5 : Nat), s12 = .pointer (some ⟨p, 0, none⟩) ∧ s13 = .int .i64 0 ∧ Hid (TysR wx A5 la ∧ CanonIs s (j : Int) la ∧ Below W3.heap.size W3 wx ∧ wx.heap[p]? = some (rootB A5 la.length c5 0)))
  case first =>
   refine wp_region_held_drew (S := (fun w' => (w'.cell? ⟨w1.heap.size, 0, none⟩ = some (.slice A1 s.length c1)) ∧ Hid (Below W3.heap.size W3 w'))) (by kernel_rfl) ?_ (fun hHeld => ?_)
   ·(try dsimp only); exact ⟨HX7.out, below_drewN (Below.refl _ _) 1⟩
   refine tkH 0 ?v0 rfl (by kernel_rfl) (.inl ⟨by rfl, ?y0⟩) hHeld ?_
   case y0 => (intro w hSw; (try dsimp only at hSw); go_simp; try with_reducible rfl)
   (try simp only [ps])
   refine tkH 1 ?v1 rfl (by kernel_rfl) (.inl ⟨by rfl, ?y1⟩) hHeld ?_
   case y1 => (intro w hSw; (try dsimp only at hSw); go_simp; try with_reducible rfl)
   (try simp only [ps])
   refine tkH 2 ?v2 rfl (by kernel_rfl) (.inl ⟨by rfl, ?y2⟩) hHeld ?_
   case y2 => (intro w hSw; (try dsimp only at hSw); go_simp; try with_reducible rfl)
   (try simp only [ps])
   refine tkH 3 ?v3 rfl (by kernel_rfl) (.inl ⟨by rfl, ?y3⟩) hHeld ?_
   case y3 => (intro w hSw; (try dsimp only at hSw); go_simp; try with_reducible rfl)
   (try simp only [ps])
   refine tkH 4 ?v4 rfl (by kernel_rfl) (.inl ⟨by rfl, ?y4⟩) hHeld ?_
   case y4 => (intro w hSw; (try dsimp only at hSw); go_simp; try with_reducible rfl)
   (try simp only [ps])
   refine wpAnyH_ready (rs := [5, 9]) (by kernel_rfl) (by simp) ?_
   refine (AllReadyH.cons rfl (fun K hK => ?_) (AllReadyH.cons rfl (fun K hK => ?_) AllReadyH.nil))
   ·
    go_simp
    (refine (canon_any s (j : Int) A1 c1 _ (HSS3.out.below hHeld.2.out) (HTB.out.below (below_trans HB3.out hHeld.2.out))).mono ?_; rintro e w5 ⟨A5, c5, la, rfl, hla, hca, _, hb5⟩; rw [rootErr_ok HV.out HJL.out] at hca ⊢)
    refine hK.out _ _ ?_ (fun hHeld => ?_)
    ·(try dsimp only); exact ⟨below_cell hb5 hHeld.1, below_trans hHeld.2.out hb5⟩
    clear hK K
    (try simp only [ps])
    refine tkH 6 ?v5 rfl (by kernel_rfl) (.inl ⟨by rfl, ?y5⟩) hHeld ?_
    case y5 => (intro w hSw; (try dsimp only at hSw); go_simp; try with_reducible rfl)
    (try simp only [ps])
    refine tkH 7 ?v6 rfl (by kernel_rfl) (.inl ⟨by rfl, ?y6⟩) hHeld ?_
    case y6 => (intro w hSw; (try dsimp only at hSw); go_simp; try with_reducible rfl)
    (try simp only [ps])
    refine tkH 8 ?v7 rfl (by kernel_rfl) (.inl ⟨by rfl, ?y7⟩) hHeld ?_
    case y7 => (intro w hSw; (try dsimp only at hSw); go_simp; try with_reducible rfl)
    (try simp only [ps])
    refine wpAnyH_ready (rs := [9]) (by kernel_rfl) (by simp) ?_
    refine (AllReadyH.cons rfl (fun K hK => ?_) AllReadyH.nil)
    go_simp
    refine hK.out _ _ ?_ (fun hHeld => ?_)
    ·(try dsimp only); exact ⟨below_cell (below_new _ _) hHeld.1, below_trans hHeld.2.out (below_new _ _)⟩
    clear hK K
    (try simp only [ps])
    refine wpAnyH_ready (rs := [10]) (by kernel_rfl) (by simp) ?_
    refine (AllReadyH.cons rfl (fun K hK => ?_) AllReadyH.nil)
    (simp only [List.getElem_toArray, List.getElem_cons_zero, List.getElem_cons_succ]; rw [if_pos (by rfl)]; refine wp_store_mid 32 (.tmp 12) (.tmp 46) rfl (w5.heap.size) (0) (#[.slice A5 la.length c5, .int .i64 0]) (by rfl) (by rfl) ?_ ?_ ?_ ?_; (exact there_boxR (heap_alloc_new _ _)); (exact root_info); (exact root_one A5 la.length c5))
    refine hK.out _ _ ?_ (fun hHeld => ?_)
    ·(try dsimp only); exact ⟨by rw [World.cell?_of_block (w := w5.alloc zboxR) (heap_setCells_ne (by simp only; have h5 : W3.heap.size ≤ w5.heap.size := hb5.size; omega) _ _ _)]; exact hHeld.1, below_setsg _ (show W3.heap.size ≤ w5.heap.size from hb5.size) _ _ _ hHeld.2.out⟩
    clear hK K
    (try simp only [ps])
    refine tkH 11 ?v8 rfl (by kernel_rfl) (.inl ⟨by rfl, ?y8⟩) hHeld ?_
    case y8 => (intro w hSw; (try dsimp only at hSw); go_simp; try with_reducible rfl)
    (try simp only [ps])
    refine wpAnyH_done (by kernel_rfl) ?_ _
    (have HX := Lib.hid hHeld.2.out; have HL5 := Lib.hid hla; clear hHeld hla hb5; go_wp2; go_meet; exact ⟨_, la, A5, c5, rfl, rfl, HL5.out.below (below_setsg _ (Nat.le_refl _) _ _ _ (below_new _ _)), hca trivial, HX.out, root_set (heap_alloc_new _ _) A5 la.length c5⟩)
   ·
    go_simp
    refine hK.out _ _ ?_ (fun hHeld => ?_)
    ·(try dsimp only); exact ⟨below_cell (below_new _ _) hHeld.1, below_trans hHeld.2.out (below_new _ _)⟩
    clear hK K
    (try simp only [ps])
    refine wpAnyH_ready (rs := [5]) (by kernel_rfl) (by simp) ?_
    refine (AllReadyH.cons rfl (fun K hK => ?_) AllReadyH.nil)
    go_simp
    (refine (canon_any s (j : Int) A1 c1 _ (HSS3.out.below hHeld.2.out) (HTB.out.below (below_trans HB3.out hHeld.2.out))).mono ?_; rintro e w5 ⟨A5, c5, la, rfl, hla, hca, _, hb5⟩; rw [rootErr_ok HV.out HJL.out] at hca ⊢)
    refine hK.out _ _ ?_ (fun hHeld => ?_)
    ·(try dsimp only); exact ⟨below_cell hb5 hHeld.1, below_trans hHeld.2.out hb5⟩
    clear hK K
    (try simp only [ps])
    refine tkH 6 ?v9 rfl (by kernel_rfl) (.inl ⟨by rfl, ?y9⟩) hHeld ?_
    case y9 => (intro w hSw; (try dsimp only at hSw); go_simp; try with_reducible rfl)
    (try simp only [ps])
    refine tkH 7 ?v10 rfl (by kernel_rfl) (.inl ⟨by rfl, ?y10⟩) hHeld ?_
    case y10 => (intro w hSw; (try dsimp only at hSw); go_simp; try with_reducible rfl)
    (try simp only [ps])
    refine tkH 8 ?v11 rfl (by kernel_rfl) (.inl ⟨by rfl, ?y11⟩) hHeld ?_
    case y11 => (intro w hSw; (try dsimp only at hSw); go_simp; try with_reducible rfl)
    (try simp only [ps])
    refine wpAnyH_ready (rs := [10]) (by kernel_rfl) (by simp) ?_
    refine (AllReadyH.cons rfl (fun K hK => ?_) AllReadyH.nil)
    (simp only [List.getElem_toArray, List.getElem_cons_zero, List.getElem_cons_succ]; rw [if_pos (by rfl)]; refine wp_store_mid 32 (.tmp 12) (.tmp 46) rfl (W3.heap.size) (0) (#[.slice A5 la.length c5, .int .i64 0]) (by rfl) (by rfl) ?_ ?_ ?_ ?_; (exact there_boxR ((hb5.block _ (by simp)).trans (heap_alloc_new (W3.drewN 1) _))); (exact root_info); (exact root_one A5 la.length c5))
    refine hK.out _ _ ?_ (fun hHeld => ?_)
    ·(try dsimp only); exact ⟨by rw [World.cell?_of_block (w := w5) (heap_setCells_ne (by simp only; omega) _ _ _)]; exact hHeld.1, below_setsg _ (Nat.le_refl _) _ _ _ hHeld.2.out⟩
    clear hK K
    (try simp only [ps])
    refine tkH 11 ?v12 rfl (by kernel_rfl) (.inl ⟨by rfl, ?y12⟩) hHeld ?_
    case y12 => (intro w hSw; (try dsimp only at hSw); go_simp; try with_reducible rfl)
    (try simp only [ps])
    refine wpAnyH_done (by kernel_rfl) ?_ _
    (have HX := Lib.hid hHeld.2.out; have HZB := Lib.hid ((hb5.block W3.heap.size (by simp)).trans (heap_alloc_new (W3.drewN 1) zboxR)); have HL5 := Lib.hid (hla.bes2 (w' := w5.setCells W3.heap.size 0 [.slice A5 la.length c5, .int .i64 0]) ⟨⟨_, _, _, _, _, _, HZB.out⟩, fun q hq _ => heap_setCells_ne hq _ _ _⟩); clear hHeld hla hb5; go_wp2; go_meet; exact ⟨_, la, A5, c5, rfl, rfl, HL5.out, hca trivial, HX.out, root_set HZB.out A5 la.length c5⟩)
  case rest =>
  obtain ⟨p, la, A5, c5, rfl, rfl, hcc⟩ := hcut
  have HLA := Lib.hid hcc.out.1
  have HCA := Lib.hid hcc.out.2.1
  have HB7 := Lib.hid hcc.out.2.2.1
  have HX5 := Lib.hid hcc.out.2.2.2
  clear hcc
  have HX11 := Lib.hid ((HB7.out.block _ (Array.getElem?_eq_some_iff.1 HX3.out).1).trans HX3.out)
  have x11 := cell_of_row _ _ 0 _ _ _ HX11.out
  simp only [List.getElem?_toArray, List.getElem?_cons_zero] at x11
  have hill : i < l.length := by have := HIL.out; have := HLL.out; omega
  have HILL := Lib.hid hill
  have HJM : Hid (((i % s.length : Nat) : Int) = (j : Int)) := by show _ = _; rw [HJJ.out]
  clear hill ej1 ej2 hsz hnil y7
  go_wp2_with fail
  refine (canon_any l (i : Int) A3 c3 _ (HS3.out.below HB7.out) (HTB.out.below (below_trans HB3.out HB7.out))).mono ?_
  rintro e w8 ⟨A8, c8, lb, rfl, hlb, hcb, _, hb8⟩
  rw [rootErr_ok HVL.out HILL.out] at hcb ⊢
  obtain rfl : la = lb := copies_canon HV.out HCP.out HVL.out HILL.out (by rw [HJM.out]; exact HCA.out) (hcb rfl)
  have HL8 := Lib.hid (hlb.below (below_new w8 (rootB A8 la.length c8 0)))
  have HL5 := Lib.hid (HLA.out.below (below_trans hb8 (below_new w8 (rootB A8 la.length c8 0))))
  have HB8 := Lib.hid (below_trans (below_trans HB3.out HB7.out) (below_trans hb8 (below_new w8 (rootB A8 la.length c8 0))))
  have HP5 := Lib.hid (tmp_al ((hb8.block _ (Array.getElem?_eq_some_iff.1 HX5.out).1).trans HX5.out) (rootB A8 la.length c8 0))
  have HP8 := Lib.hid (heap_alloc_new w8 (rootB A8 la.length c8 0))
  clear hlb hcb hb8 x11
  have p0 : (w8.alloc (rootB A8 la.length c8 0)).cell? ⟨p, 0, none⟩ = some (.slice A5 la.length c5) := by rw [cell_of_row _ _ _ _ _ _ HP5.out]; rfl
  have p1 : (w8.alloc (rootB A8 la.length c8 0)).cell? ⟨p, 1, none⟩ = some (.int .i64 0) := by rw [cell_of_row _ _ _ _ _ _ HP5.out]; rfl
  have p2 : (w8.alloc (rootB A8 la.length c8 0)).cell? ⟨w8.heap.size, 0, none⟩ = some (.slice A8 la.length c8) := by rw [cell_of_row _ _ _ _ _ _ HP8.out]; rfl
  have p3 : (w8.alloc (rootB A8 la.length c8 0)).cell? ⟨w8.heap.size, 1, none⟩ = some (.int .i64 0) := by rw [cell_of_row _ _ _ _ _ _ HP8.out]; rfl
  go_upto_region 9 with fail
  generalize w8.alloc (rootB A8 la.length c8 0) = W8 at *
  go_wp2_with fail
  refine (rSameRoot_any la 0 la 0 A5 c5 A8 c8 _ HL5.out HL8.out).mono ?_
  rintro e w9 ⟨rfl, hb9⟩
  have HB9 := Lib.hid (below_trans HB8.out hb9)
  clear hb9
  go_wp2
  go_ret
  exact ⟨by simp, HB9.out⟩
end Go.Proofs.YtkhpajneinmmiaaGreatDoor


