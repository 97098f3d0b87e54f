/-
  Walks: readings counted, in package trace.
-/
import Derived.Test.YtcmnmcholfellaaDoorRD5
namespace Go.Proofs.YtcmnmcholfellaaDoor
open Go.RowKit

set_option maxHeartbeats 2000000 in
set_option maxRecDepth 100000 in
theorem reads_any (l : List Pt) (hn : l.length ≤ 1000) (A : Option Addr) (c : Nat) (w : World) (hl : PtsR w A l) :
    Calls Tryd.prog 26 #[.slice A l.length c] w (ReadsPost (rdL l) w) := by
  have HL := Lib.hid hl
  clear hl
  have hmm := @run_makeMap Tryd.prog
  go_enter Tryd.func26, Tryd.ntmps26
  go_wp2_with fail
  refine (filter_any l (by omega) A c 1 _ (HL.out.below ((Below.refl _ _).alloc (Nat.le_refl _) _))).mono ?_
  rintro e w1 ⟨v1, rfl, ⟨A1, c1, rfl, hr1⟩, hb1⟩
  obtain ⟨F, hF⟩ : ∃ F, F = l.filter fun p => !delK 1 p := ⟨_, rfl⟩
  have hfl : F.length ≤ 1000 := by have := List.length_filter_le (fun p => !delK 1 p) l; rw [hF]; omega
  have HRL : Hid (rdL l = F.map cfOf) := by rw [hF]; rfl
  rw [← hF] at hr1 ⊢
  clear hF hmm
  have HR1 := Lib.hid hr1
  have HM1 : Hid (MapAt Cf.v w1 w.heap.size (encM [])) := MapAt.below (w := w.alloc (.map #[] 0)) (heap_alloc_new w _) hb1
  have HB1 := Lib.hid (below_alloc hb1)
  clear hr1 hb1
  go_wp2
  go_loopw [16] (fun s16 wr => ∃ k : Nat, k ≤ F.length ∧ s16 = .int .i64 k ∧ Hid (CtSt F A1 w k wr)) (fun s16 _ => F.length - (intOf s16).toNat)
  case atStart => exact ⟨0, by omega, rfl, ⟨HR1.out, HM1.out, HB1.out⟩⟩
  case round =>
    obtain ⟨k, hk, rfl, hh⟩ := hrel
    obtain ⟨wo, rfl⟩ : ∃ wo : World, wo = wr := ⟨_, rfl⟩
    by_cases hlt : k < F.length
    · obtain ⟨b, o, rfl, hin, c0, c1, c2, c3, c4, c5, c6, c7, c8, c9, c10⟩ := hh.out.pts.at_ hlt
      have hbz := lt_of_cell c0
      simp only at hbz
      clear hin
      have HTK : Hid (cnts ((F.take (k + 1)).map cfOf) = bumpL (cnts ((F.take k).map cfOf)) (cfOf F[k])) := by
        rw [List.take_succ_eq_append_getElem hlt, List.map_append]; exact cnts_snoc _ _
      obtain ⟨M, hM⟩ : ∃ M, M = cnts ((F.take k).map cfOf) := ⟨_, rfl⟩
      have hcnt : 0 ≤ getI M (cfOf F[k]) ∧ getI M (cfOf F[k]) ≤ 1000 := by
        rw [hM, (cnts_spec _ _ rfl).2.2]
        have h1 := List.count_le_length (a := cfOf F[k]) (l := (F.take k).map cfOf)
        have h2 : ((F.take k).map cfOf).length ≤ 1000 := by rw [List.length_map, List.length_take]; omega
        omega
      rw [← hM] at HTK
      have HMc : Hid (MapAt Cf.v (wo.alloc F[k].box) w.heap.size (encM M)) := by rw [hM]; exact hh.out.map.below ((Below.refl _ _).alloc (Nat.le_refl _) _)
      have HBX := Lib.hid (ptAt_box (Below.refl (wo.alloc F[k].box).heap.size (wo.alloc F[k].box)))
      have HPc := Lib.hid (hh.out.pts.below ((Below.refl _ _).alloc (Nat.le_refl _) F[k].box))
      have HBc := Lib.hid (hh.out.bel.alloc hh.out.bel.size F[k].box)
      obtain ⟨n, hn⟩ : ∃ n, n = getI M (cfOf F[k]) := ⟨_, rfl⟩
      have HN := Lib.hid hn
      rw [← hn] at hcnt
      obtain ⟨hcnt0, hcnt1⟩ := hcnt
      clear hM hn hh
      go_wp2
      generalize wo.alloc F[k].box = wc at *
      have HMc2 : Hid (MapAt Cf.v wc.drew w.heap.size (encM M)) := HMc.out
      have HPc2 : Hid (PtsR wc.drew (some ⟨b, o, none⟩) F) := HPc.out.below (below_drewN (Below.refl _ _) 1)
      have HBc2 : Hid (Below w.heap.size w wc.drew) := below_drewN HBc.out 1
      have d2 := HBX.out.c2
      have d3 := HBX.out.c3
      have d4 := HBX.out.c4
      have g1 : IntKind.i64.wrap (n + 1) = n + 1 := IntWalk.i64_in _ (by omega)
      clear c0 c1 c2 c3 c4 c5 c6 c7 c8 c9 c10
      refine wp_region_held_drew (S := (fun w' => w'.cell? ⟨wo.heap.size, 2, none⟩ = some (.int .i64 F[k].tbl) ∧ w'.cell? ⟨wo.heap.size, 3, none⟩ = some (.int .i64 F[k].wri) ∧ w'.cell? ⟨wo.heap.size, 4, none⟩ = some (.int .i64 F[k].rdr))) (by kernel_rfl) ?_ (fun hHeld => ?_)
      · (try dsimp only); exact ⟨d2, d3, d4⟩
      refine wpAnyH_take (i := 0) (v := ?v0) rfl (by kernel_rfl) (by kernel_rfl) (by kernel_rfl) (fun _ _ _ h => h) (Or.inl ⟨by rfl, ?hy0⟩) hHeld ?_
      case hy0 => (intro w hSw; (try dsimp only at hSw); go_simp; try with_reducible rfl)
      (try simp only [Act.put, List.setIfInBounds_toArray, List.set_cons_zero, List.set_cons_succ, List.getElem_toArray, List.getElem_cons_zero])
      refine wpAnyH_take (i := 1) (v := ?v1) rfl (by kernel_rfl) (by kernel_rfl) (by kernel_rfl) (fun _ _ _ h => h) (Or.inl ⟨by rfl, ?hy1⟩) hHeld ?_
      case hy1 => (intro w hSw; (try dsimp only at hSw); go_simp; try with_reducible rfl)
      (try simp only [Act.put, List.setIfInBounds_toArray, List.set_cons_zero, List.set_cons_succ, List.getElem_toArray, List.getElem_cons_zero, List.getElem_cons_succ])
      refine wpAnyH_take (i := 2) (v := ?v2) rfl (by kernel_rfl) (by kernel_rfl) (by kernel_rfl) (fun _ _ _ h => h) (Or.inl ⟨by rfl, ?hy2⟩) hHeld ?_
      case hy2 => (intro w hSw; (try dsimp only at hSw); go_simp; try with_reducible rfl)
      (try simp only [Act.put, List.setIfInBounds_toArray, List.set_cons_zero, List.set_cons_succ, List.getElem_toArray, List.getElem_cons_zero, List.getElem_cons_succ])
      refine wpAnyH_take (i := 3) (v := ?v3) rfl (by kernel_rfl) (by kernel_rfl) (by kernel_rfl) (fun _ _ _ h => h) (Or.inl ⟨by rfl, ?hy3⟩) hHeld ?_
      case hy3 => (intro w hSw; (try dsimp only at hSw); go_simp; try with_reducible rfl)
      (try simp only [Act.put, List.setIfInBounds_toArray, List.set_cons_zero, List.set_cons_succ, List.getElem_toArray, List.getElem_cons_zero, List.getElem_cons_succ])
      refine wpAnyH_take (i := 4) (v := ?v4) rfl (by kernel_rfl) (by kernel_rfl) (by kernel_rfl) (fun _ _ _ h => h) (Or.inl ⟨by rfl, ?hy4⟩) hHeld ?_
      case hy4 => (intro w hSw; (try dsimp only at hSw); go_simp; try with_reducible rfl)
      (try simp only [Act.put, List.setIfInBounds_toArray, List.set_cons_zero, List.set_cons_succ, List.getElem_toArray, List.getElem_cons_zero, List.getElem_cons_succ])
      refine wpAnyH_take (i := 5) (v := ?v5) rfl (by kernel_rfl) (by kernel_rfl) (by kernel_rfl) (fun _ _ _ h => h) (Or.inl ⟨by rfl, ?hy5⟩) hHeld ?_
      case hy5 => (intro w hSw; (try dsimp only at hSw); go_simp; try with_reducible rfl)
      (try simp only [Act.put, List.setIfInBounds_toArray, List.set_cons_zero, List.set_cons_succ, List.getElem_toArray, List.getElem_cons_zero, List.getElem_cons_succ])
      refine wpAnyH_take (i := 6) (v := ?v6) rfl (by kernel_rfl) (by kernel_rfl) (by kernel_rfl) (fun _ _ _ h => h) (Or.inl ⟨by rfl, ?hy6⟩) hHeld ?_
      case hy6 => (intro w hSw; (try dsimp only at hSw); go_simp; try with_reducible rfl)
      (try simp only [Act.put, List.setIfInBounds_toArray, List.set_cons_zero, List.set_cons_succ, List.getElem_toArray, List.getElem_cons_zero, List.getElem_cons_succ])
      refine wpAnyH_take (i := 7) (v := ?v7) rfl (by kernel_rfl) (by kernel_rfl) (by kernel_rfl) (fun _ _ _ h => h) (Or.inl ⟨by rfl, ?hy7⟩) hHeld ?_
      case hy7 => (intro w hSw; (try dsimp only at hSw); go_simp; try with_reducible rfl)
      (try simp only [Act.put, List.setIfInBounds_toArray, List.set_cons_zero, List.set_cons_succ, List.getElem_toArray, List.getElem_cons_zero, List.getElem_cons_succ])
      refine wpAnyH_ready (rs := [8, 10]) (by kernel_rfl) (by simp) ?_
      refine (AllReadyH.cons rfl (fun K hK => ?_) (AllReadyH.cons rfl (fun K hK => ?_) AllReadyH.nil))
      ·
        (have hl : (Instr.lookup 73 (.map (some w.heap.size)) (.agg #[.int .i64 F[k].tbl, .int .i64 F[k].wri, .int .i64 F[k].rdr]) false).run Tryd.prog wc.drew = .ok (.int .i64 n) wc.drew := (by rw [HN.out]; exact look_cf HMc2.out (cfOf F[k])); go_simp)
        refine hK.out _ _ ?_ (fun hHeld => ?_)
        · (try dsimp only); exact hHeld
        clear hK K
        (try simp only [Act.put, List.setIfInBounds_toArray, List.set_cons_zero, List.set_cons_succ, List.getElem_toArray, List.getElem_cons_zero, List.getElem_cons_succ])
        refine wpAnyH_take (i := 9) (v := ?v8) rfl (by kernel_rfl) (by kernel_rfl) (by kernel_rfl) (fun _ _ _ h => h) (Or.inl ⟨by rfl, ?hy8⟩) hHeld ?_
        case hy8 => (intro w hSw; (try dsimp only at hSw); go_simp; try with_reducible rfl)
        (try simp only [Act.put, List.setIfInBounds_toArray, List.set_cons_zero, List.set_cons_succ, List.getElem_toArray, List.getElem_cons_zero, List.getElem_cons_succ])
        refine wpAnyH_ready (rs := [10]) (by kernel_rfl) (by simp) ?_
        refine (AllReadyH.cons rfl (fun K hK => ?_) AllReadyH.nil)
        (obtain ⟨w5, hr5', hm5, hg5, hs5⟩ := entry_cf HMc2.out (cfOf F[k]); have hr5 : (Instr.mapEntry 73 (.map (some w.heap.size)) (.agg #[.int .i64 F[k].tbl, .int .i64 F[k].wri, .int .i64 F[k].rdr])).run Tryd.prog wc.drew = .ok (.tuple #[.int .i64 n, .int .i64 (idxK (encM M) (cfOf F[k]))]) w5 := (by rw [HN.out]; exact hr5'); go_simp)
        refine hK.out _ _ ?_ (fun hHeld => ?_)
        · (try dsimp only); exact ⟨cell_grown hHeld.1 HMc2.out hg5, cell_grown hHeld.2.1 HMc2.out hg5, cell_grown hHeld.2.2 HMc2.out hg5⟩
        clear hK K
        (try simp only [Act.put, List.setIfInBounds_toArray, List.set_cons_zero, List.set_cons_succ, List.getElem_toArray, List.getElem_cons_zero, List.getElem_cons_succ])
        refine wpAnyH_take (i := 11) (v := ?v9) rfl (by kernel_rfl) (by kernel_rfl) (by kernel_rfl) (fun _ _ _ h => h) (Or.inl ⟨by rfl, ?hy9⟩) hHeld ?_
        case hy9 => (intro w hSw; (try dsimp only at hSw); go_simp; try with_reducible rfl)
        (try simp only [Act.put, List.setIfInBounds_toArray, List.set_cons_zero, List.set_cons_succ, List.getElem_toArray, List.getElem_cons_zero, List.getElem_cons_succ])
        refine wpAnyH_ready (rs := [12]) (by kernel_rfl) (by simp) ?_
        refine (AllReadyH.cons rfl (fun K hK => ?_) AllReadyH.nil)
        (obtain ⟨w6, hr6', hm6, hg6, hs6⟩ := store_cf hm5; have hr6 : (Instr.entryStore 73 (.map (some w.heap.size)) (.int .i64 (idxK (encM M) (cfOf F[k]))) (.int .i64 (n + 1))).run Tryd.prog w5 = .ok () w6 := (by rw [HN.out]; exact hr6'); go_simp)
        refine hK.out _ _ ?_ (fun hHeld => ?_)
        · (try dsimp only); exact ⟨cell_grown hHeld.1 hm5 hg6, cell_grown hHeld.2.1 hm5 hg6, cell_grown hHeld.2.2 hm5 hg6⟩
        clear hK K
        (try simp only [Act.put])
        refine wpAnyH_done (by kernel_rfl) ?_ _
        (have HPE := Lib.hid ((HPc2.out.map_grown HMc2.out hg5).map_grown hm5 hg6); have HME : Hid (MapAt Cf.v w6 w.heap.size (encM (cnts ((F.take (k + 1)).map cfOf)))) := (by rw [HTK.out]; exact hm6); have HBE := Lib.hid ((HBc2.out.grown hg5 HBc2.out.size (fun j hj => by injection hj with hj; omega)).grown hg6 (by rw [hs5]; exact HBc2.out.size) (fun j hj => by injection hj with hj; omega)); (go_wp2; go_roundw; (case rel => exact ⟨k + 1, by omega, by go_num, ⟨HPE.out, HME.out, HBE.out⟩⟩); (case measure => simp [intOf]; omega)))
      ·
        (obtain ⟨w5, hr5', hm5, hg5, hs5⟩ := entry_cf HMc2.out (cfOf F[k]); have hr5 : (Instr.mapEntry 73 (.map (some w.heap.size)) (.agg #[.int .i64 F[k].tbl, .int .i64 F[k].wri, .int .i64 F[k].rdr])).run Tryd.prog wc.drew = .ok (.tuple #[.int .i64 n, .int .i64 (idxK (encM M) (cfOf F[k]))]) w5 := (by rw [HN.out]; exact hr5'); go_simp)
        refine hK.out _ _ ?_ (fun hHeld => ?_)
        · (try dsimp only); exact ⟨cell_grown hHeld.1 HMc2.out hg5, cell_grown hHeld.2.1 HMc2.out hg5, cell_grown hHeld.2.2 HMc2.out hg5⟩
        clear hK K
        (try simp only [Act.put, List.setIfInBounds_toArray, List.set_cons_zero, List.set_cons_succ, List.getElem_toArray, List.getElem_cons_zero, List.getElem_cons_succ])
        refine wpAnyH_take (i := 11) (v := ?v10) rfl (by kernel_rfl) (by kernel_rfl) (by kernel_rfl) (fun _ _ _ h => h) (Or.inl ⟨by rfl, ?hy10⟩) hHeld ?_
        case hy10 => (intro w hSw; (try dsimp only at hSw); go_simp; try with_reducible rfl)
        (try simp only [Act.put, List.setIfInBounds_toArray, List.set_cons_zero, List.set_cons_succ, List.getElem_toArray, List.getElem_cons_zero, List.getElem_cons_succ])
        refine wpAnyH_ready (rs := [8]) (by kernel_rfl) (by simp) ?_
        refine (AllReadyH.cons rfl (fun K hK => ?_) AllReadyH.nil)
        (have hl : (Instr.lookup 73 (.map (some w.heap.size)) (.agg #[.int .i64 F[k].tbl, .int .i64 F[k].wri, .int .i64 F[k].rdr]) false).run Tryd.prog w5 = .ok (.int .i64 n) w5 := (by rw [HN.out]; exact look_cf2 hm5); go_simp)
        refine hK.out _ _ ?_ (fun hHeld => ?_)
        · (try dsimp only); exact hHeld
        clear hK K
        (try simp only [Act.put, List.setIfInBounds_toArray, List.set_cons_zero, List.set_cons_succ, List.getElem_toArray, List.getElem_cons_zero, List.getElem_cons_succ])
        refine wpAnyH_take (i := 9) (v := ?v11) rfl (by kernel_rfl) (by kernel_rfl) (by kernel_rfl) (fun _ _ _ h => h) (Or.inl ⟨by rfl, ?hy11⟩) hHeld ?_
        case hy11 => (intro w hSw; (try dsimp only at hSw); go_simp; try with_reducible rfl)
        (try simp only [Act.put, List.setIfInBounds_toArray, List.set_cons_zero, List.set_cons_succ, List.getElem_toArray, List.getElem_cons_zero, List.getElem_cons_succ])
        refine wpAnyH_ready (rs := [12]) (by kernel_rfl) (by simp) ?_
        refine (AllReadyH.cons rfl (fun K hK => ?_) AllReadyH.nil)
        (obtain ⟨w6, hr6', hm6, hg6, hs6⟩ := store_cf hm5; have hr6 : (Instr.entryStore 73 (.map (some w.heap.size)) (.int .i64 (idxK (encM M) (cfOf F[k]))) (.int .i64 (n + 1))).run Tryd.prog w5 = .ok () w6 := (by rw [HN.out]; exact hr6'); go_simp)
        refine hK.out _ _ ?_ (fun hHeld => ?_)
        · (try dsimp only); exact ⟨cell_grown hHeld.1 hm5 hg6, cell_grown hHeld.2.1 hm5 hg6, cell_grown hHeld.2.2 hm5 hg6⟩
        clear hK K
        (try simp only [Act.put])
        refine wpAnyH_done (by kernel_rfl) ?_ _
        (have HPE := Lib.hid ((HPc2.out.map_grown HMc2.out hg5).map_grown hm5 hg6); have HME : Hid (MapAt Cf.v w6 w.heap.size (encM (cnts ((F.take (k + 1)).map cfOf)))) := (by rw [HTK.out]; exact hm6); have HBE := Lib.hid ((HBc2.out.grown hg5 HBc2.out.size (fun j hj => by injection hj with hj; omega)).grown hg6 (by rw [hs5]; exact HBc2.out.size) (fun j hj => by injection hj with hj; omega)); (go_wp2; go_roundw; (case rel => exact ⟨k + 1, by omega, by go_num, ⟨HPE.out, HME.out, HBE.out⟩⟩); (case measure => simp [intOf]; omega)))
    · have hke : k = F.length := by omega
      obtain ⟨M, hM⟩ : ∃ M, M = cnts (F.map cfOf) := ⟨_, rfl⟩
      have HMM := Lib.hid hM
      have HM2 : Hid (MapAt Cf.v wo w.heap.size (encM M)) := by
        have := hh.out.map
        rw [hke, List.take_length, ← hM] at this
        exact this
      have HB2 := Lib.hid hh.out.bel
      have hml : M.length ≤ 1000 := by have := keys_length (F.map cfOf); rw [List.length_map, ← hM] at this; omega
      have hBz : w.heap.size < wo.heap.size := HM2.out.blt
      have HRG := Lib.hid (range_cf HM2.out)
      rw [encM_length] at HRG
      clear hM hke hh
      have hrg := HRG.out
      go_wp2
      clear hrg
      obtain ⟨w3, hw3⟩ : ∃ w3 : World, w3 = wo.alloc (.mapIter (some w.heap.size) M.length #[] M.length) := ⟨_, rfl⟩
      have HS3 : Hid (RgSt M w wo.heap.size [] (.slice none 0 0) w3) := by
        rw [hw3]
        exact ⟨HM2.out.below ((Below.refl _ _).alloc (Nat.le_refl _) _), heap_alloc_new wo _, List.nodup_nil, (fun j hj => by cases hj), OwnC.nil _ _, HB2.out.alloc HB2.out.size _⟩
      rw [← hw3]
      clear hw3
      obtain ⟨r, hr⟩ : ∃ r, r = wo.heap.size := ⟨_, rfl⟩
      rw [← hr] at HS3 ⊢
      have hBr : w.heap.size < r := by rw [hr]; exact hBz
      clear hr HRG
      go_loopw [7] (fun s7 wr => ∃ js : List Nat, js.length ≤ M.length ∧ Hid (RgSt M w r js s7 wr)) (fun s7 _ => M.length - (match s7 with | .slice _ n _ => n | _ => 0))
      case atStart => exact ⟨[], by simp, HS3.out⟩
      case round =>
        obtain ⟨js, hjl, hs⟩ := hrel
        obtain ⟨wp, rfl⟩ : ∃ wp : World, wp = wr := ⟨_, rfl⟩
        rcases next_cf hs.out.it hs.out.map with ⟨hall, hnx⟩ | ⟨j, hj, w4, hjn, hnx, hit4, hm4, hg4, hs4, hen⟩
        · have HPM := Lib.hid (js_all hs.out.nd hs.out.lt hall)
          obtain ⟨L, hL⟩ : ∃ L, L = js.map fun j => (M.getD j default).1 := ⟨_, rfl⟩
          have HOW : Hid (OwnC wp (r + 1) u7 L) := by rw [hL]; exact hs.out.own
          have hLl : L.length ≤ 1000 := by rw [hL, List.length_map]; omega
          rw [← hL] at HPM
          have HMp := Lib.hid hs.out.map
          have HBp := Lib.hid hs.out.bel
          have hrz : r < wp.heap.size := (Array.getElem?_eq_some_iff.1 hs.out.it).1
          clear hall hL hs
          go_wp2_with fail
          refine (sortC_any L (by omega) (r + 1) u7 _ HOW.out).mono ?_
          rintro e w5 ⟨rfl, A5, ho5, hp5, hs5, hg5⟩
          have HRD := Lib.hid (rdOut_mk (l := F.map cfOf) (A := A5) (by rw [← HMM.out]; exact hp5.trans HPM.out) hs5)
          rw [← HMM.out] at HRD
          have hAl : A5.length ≤ 1000 := by rw [hp5.length_eq]; exact hLl
          have HM5 : Hid (MapAt Cf.v w5 w.heap.size (encM M)) := HMp.out.keep (grown_block hg5 HMp.out.blt (fun q hq => by have := HOW.out.lt q hq; omega))
          have HB5 := Lib.hid (HBp.out.grown hg5 HBp.out.size (fun q hq => by have := HOW.out.lt q hq; omega))
          obtain ⟨AA, cA, eA, hrA⟩ := ho5.reads
          subst eA
          have HRA := Lib.hid hrA
          clear hrA ho5 hp5 hs5 hg5 hnx
          go_wp2
          go_loopw [47, 9] (fun s47 s9 wr => ∃ i : Nat, i ≤ A5.length ∧ s47 = .int .i64 i ∧ Hid (OwnJ wr w5.heap.size s9 ((A5.take i).map fun c => getI M c) ∧ Below w5.heap.size w5 wr)) (fun s47 _ _ => A5.length - (intOf s47).toNat)
          case atStart => exact ⟨0, by omega, rfl, OwnJ.nil _ _, Below.refl _ _⟩
          case round =>
            obtain ⟨i, hi, rfl, hq⟩ := hrel
            obtain ⟨wq, rfl⟩ : ∃ wq : World, wq = wr := ⟨_, rfl⟩
            by_cases hlt2 : i < A5.length
            · obtain ⟨b, o, rfl, e0, e1, e2⟩ := (HRA.out.below hq.out.2).at_ hlt2
              have hbz := lt_of_cell e0
              simp only at hbz
              have HMq : Hid (MapAt Cf.v (wq.alloc (A5[i]).box) w.heap.size (encM M)) := (HM5.out.below hq.out.2).below ((Below.refl _ _).alloc (Nat.le_refl _) _)
              obtain ⟨n, hn⟩ : ∃ n, n = getI M A5[i] := ⟨_, rfl⟩
              have hlk : (Instr.lookup 73 (.map (some w.heap.size)) (.agg #[.int .i64 (A5[i]).t, .int .i64 (A5[i]).w, .int .i64 (A5[i]).r]) false).run Tryd.prog (wq.alloc (A5[i]).box) = .ok (.int .i64 n) (wq.alloc (A5[i]).box) := by rw [hn]; exact look_cf HMq.out A5[i]
              have HTK : Hid ((A5.take (i + 1)).map (fun c => getI M c) = (A5.take i).map (fun c => getI M c) ++ [n]) := by
                rw [List.take_succ_eq_append_getElem hlt2, List.map_append, hn]; rfl
              have HRN : Hid (((wq.alloc (A5[i]).box).alloc (.cells #[.int .i64 n] 3)).rangeAt (wq.heap.size + 1) 0 [.int .i64 n]) := Lib.hid (by have := range_new (wq.alloc (A5[i]).box) [.int .i64 n] 3; simpa using this)
              have HOA : Hid (((wq.alloc (A5[i]).box).alloc (.cells #[.int .i64 n] 3)).ownsRow w5.heap.size 3 1 u9 _ _) := World.ownsRow.alloc (World.ownsRow.alloc hq.out.1 _) _
              have HLN : Hid (((A5.take i).map fun c => getI M c).length + 1 ≤ 1000000) := by show _ ≤ _; rw [List.length_map, List.length_take]; omega
              have HB7 := Lib.hid hq.out.2
              clear hn
              go_wp2_with (at_builtin; refine wpList_append_one elem_int _ rfl (.tmp 51) (.tmp 55) rfl w5.heap.size _ _ _ rfl HOA.out (wq.heap.size + 1) 0 1 [.int .i64 n] rfl rfl HRN.out (by simp [Value.oneCell']) HLN.out (by omega) (by have := HB7.out.size; simp; omega) ?_; intro v2 w8 ho8 hg8)
              go_roundw
              case rel => exact ⟨i + 1, by omega, by go_num, (by rw [HTK.out]; exact OwnJ.snoc ho8), ((HB7.out.alloc HB7.out.size _).alloc (by have := HB7.out.size; simp; omega) _).grown hg8 (by have := HB7.out.size; simp; omega) (OwnJ.lt hq.out.1)⟩
              case measure => simp [intOf]; omega
            · have HTL : Hid (A5.take i = A5) := List.take_of_length_le (by omega)
              go_wp2
              go_ret2
              have ho := hq.out.1
              rw [HTL.out] at ho
              obtain ⟨AB, cB, eB, hrB⟩ := ho.reads
              subst eB
              exact ⟨_, _, _, _, A5, _, rfl, (by rw [HRL.out]; exact HRD.out), HRA.out.below hq.out.2, hrB, below_trans HB5.out hq.out.2⟩
        · have hjl2 : (js ++ [j]).length ≤ M.length := js_len M.length (by rw [List.nodup_append]; exact ⟨hs.out.nd, by simp, fun a ha b hb => by rw [List.mem_singleton] at hb; rw [hb]; exact fun e => hjn (by rw [← e]; exact ha)⟩) (fun x hx => by
            rcases List.mem_append.1 hx with h | h
            · exact hs.out.lt x h
            · rw [List.mem_singleton] at h; rw [h]; exact hj)
          have HJ := Lib.hid hjn
          have HIT := Lib.hid hit4
          have HM4 := Lib.hid hm4
          have HS4 := Lib.hid hs4
          have hrz : r < w4.heap.size := (Array.getElem?_eq_some_iff.1 hit4).1
          have HB4 := Lib.hid (hs.out.bel.grown hg4 hs.out.bel.size (fun q hq => by have := Option.some.inj hq; omega))
          have HO4 : Hid (OwnC w4 (r + 1) u7 (js.map fun j => (M.getD j default).1)) := ownsRow_grown hs.out.own hg4 (by omega)
          have HGD : Hid ((M.getD j default).1 = (M[j]).1) := by show _ = _; rw [List.getD_eq_getElem?_getD, List.getElem?_eq_getElem hj]; rfl
          have HRN : Hid (((w4.alloc (M[j]).1.box).alloc (M[j]).1.box).rangeAt (w4.heap.size + 1) 0 (M[j]).1.cs) := Lib.hid (by have := range_new (w4.alloc (M[j]).1.box) (M[j]).1.cs 75; rw [show (w4.alloc (M[j]).1.box).heap.size = w4.heap.size + 1 from by simp] at this; exact this)
          have HOA : Hid (((w4.alloc (M[j]).1.box).alloc (M[j]).1.box).ownsRow (r + 1) 75 3 u7 _ _) := World.ownsRow.alloc (World.ownsRow.alloc HO4.out _) _
          have HLN : Hid ((js.map fun j => (M.getD j default).1).length + 1 ≤ 1000000) := by show _ ≤ _; rw [List.length_map]; omega
          obtain ⟨A7, c7, e7, _⟩ := HO4.out.reads
          have HE7 := Lib.hid e7
          clear hjn hit4 hm4 hg4 hs4 e7
          go_wp2_with (at_builtin; refine wpList_append_one elem_cf _ rfl (.tmp 39) (.tmp 41) rfl (r + 1) _ _ _ rfl HOA.out (w4.heap.size + 1) 0 1 (M[j]).1.cs rfl rfl HRN.out (by intro u hu; simp [Cf.cs] at hu; rcases hu with rfl | rfl | rfl <;> rfl) HLN.out (by omega) (by simp; omega) ?_; intro v2 w8 ho8 hg8)
          have HO8 : Hid (OwnC w8 (r + 1) v2 ((js ++ [j]).map fun j => (M.getD j default).1)) := by
            rw [List.map_append]
            show OwnC _ _ _ (_ ++ [(M.getD j default).1])
            rw [HGD.out]
            exact OwnC.snoc ho8
          have HGB : Hid (∀ b, b ≤ r → b < w4.heap.size → w8.heap[b]? = w4.heap[b]?) := fun b hb hz => by
            have h1 := grown_block hg8 (b := b) (by simp; omega) (fun q hq => by have := (OwnC.lt HO4.out) q hq; omega)
            have h2 := (((Below.refl w4.heap.size w4).alloc (Nat.le_refl _) (M[j]).1.box).alloc (by simp) (M[j]).1.box).block b hz
            exact h1.trans h2
          go_roundw
          case rel => exact ⟨js ++ [j], hjl2, ⟨HM4.out.keep (HGB.out _ (by omega) (by omega)), (HGB.out _ (Nat.le_refl _) hrz).trans HIT.out, (by rw [List.nodup_append]; exact ⟨hs.out.nd, by simp, fun a ha b hb => by rw [List.mem_singleton] at hb; rw [hb]; exact fun e => HJ.out (by rw [← e]; exact ha)⟩), (fun x hx => by
            rcases List.mem_append.1 hx with h | h
            · exact hs.out.lt x h
            · rw [List.mem_singleton] at h; rw [h]; exact hj), HO8.out, ((HB4.out.alloc HB4.out.size _).alloc (by have := HB4.out.size; simp; omega) _).grown hg8 (by have := HB4.out.size; simp; omega) (fun q hq => by have := (OwnC.lt HO4.out) q hq; omega)⟩⟩
          case measure =>
            obtain ⟨A8, c8, e8, _⟩ := HO8.out.reads
            rw [e8, HE7.out]
            simp only [List.length_map, List.length_append, List.length_cons, List.length_nil] at hjl2 ⊢
            omega
end Go.Proofs.YtcmnmcholfellaaDoor
