/-
  Walks: readings counted, in the other package.
-/
import Derived.Test.YtcmnmcholfellaaDoorRD7
namespace Go.Proofs.YtcmnmcholfellaaDoor
open Go.RowKit

theorem cfAt_new (w : World) (q : Cf) : CfAt (w.alloc (.cells #[.int .i64 q.t, .int .i64 q.w, .int .i64 q.r] 75)) w.heap.size q := by
  refine ⟨?_, ?_, ?_⟩ <;> (rw [cell_of_row _ _ _ _ _ _ (heap_alloc_new w _)]; rfl)

set_option maxHeartbeats 4000000 in
set_option maxRecDepth 100000 in
theorem refReads_any (l : List Pt) (hn : l.length ≤ 1000) (A : Option Addr) (c : Nat) (w : World) (hl : PtsR w A l) :
    Calls Tryd.prog 27 #[.slice A l.length c] w (ReadsPost (rdL l) w) := by
  have HL := Lib.hid hl
  clear hl
  go_enter Tryd.func27, Tryd.ntmps27
  go_wp2_with fail
  refine (refFilter_any l (by omega) A c 1 _ HL.out).mono ?_
  rintro e w1 ⟨v1, rfl, ⟨A1, c1, rfl, hr1⟩, hb1⟩
  obtain ⟨F, hF⟩ : ∃ F, F = l.filter fun p => !delK 1 p := ⟨_, rfl⟩
  have hfl : F.length ≤ 1000 := by have := List.length_filter_le (fun p => !delK 1 p) l; rw [hF]; omega
  obtain ⟨L, hL⟩ : ∃ L, L = F.map cfOf := ⟨_, rfl⟩
  have HRL : Hid (rdL l = L) := by rw [hL, hF]; rfl
  have HLL : Hid (L.length = F.length) := by rw [hL, List.length_map]; exact rfl
  have HLG : Hid (∀ k (h : k < F.length) (h' : k < L.length), cfOf F[k] = L[k]) := fun k h h' => by simp [hL]
  rw [← hF] at hr1 ⊢
  clear hF hL
  have HR1 := Lib.hid hr1
  have HB1 := Lib.hid hb1
  clear hr1 hb1
  go_wp2
  go_loopw [16, 5, 6] (fun s16 s5 s6 wr => ∃ (i : Nat) (As : List Cf), i ≤ F.length ∧ s16 = .int .i64 i ∧ Hid (RfSt L w1 i As s5 s6 wr)) (fun s16 _ _ _ => F.length - (intOf s16).toNat)
  case atStart => exact ⟨0, [], by omega, rfl, as_nil _, rfl, OwnC.nil _ _, OwnJ.nil _ _, Below.refl _ _⟩
  case round =>
    obtain ⟨i, As, hi, rfl, hh⟩ := hrel
    obtain ⟨wo, rfl⟩ : ∃ wo : World, wo = wr := ⟨_, rfl⟩
    obtain ⟨AA, cA, e5, hrA⟩ := hh.out.oc.reads
    rw [hh.out.len] at e5
    subst e5
    have HRA := Lib.hid hrA
    have HAL := Lib.hid hh.out.len
    clear hrA
    by_cases hout : i < F.length
    · go_wp2
      go_loopw [8, 7] (fun s8 s7 wr => ∃ (k : Nat) (f : Int), k ≤ F.length ∧ s8 = .int .i64 k ∧ s7 = .int .i64 f ∧ Hid (FdSt As L k f ∧ Below wo.heap.size wo wr)) (fun s8 _ _ => F.length - (intOf s8).toNat)
      case atStart => exact ⟨0, -1, by omega, rfl, rfl, fd_zero _ _, Below.refl _ _⟩
      case round =>
        obtain ⟨k, f, hk, rfl, rfl, hq⟩ := hrel
        obtain ⟨wp, rfl⟩ : ∃ wp : World, wp = wr := ⟨_, rfl⟩
        by_cases hlt : k < F.length
        · have hkL : k < L.length := by rw [HLL.out]; exact hlt
          obtain ⟨b, o, rfl, hin, c0, c1, c2, c3, c4, c5, c6, c7, c8, c9, c10⟩ := ((HR1.out.below hh.out.bel).below hq.out.2).at_ hlt
          have HIN := Lib.hid hin
          clear hin
          go_wp2_with fail
          refine (reading_any F[k] _).mono ?_
          rintro e w2 ⟨rfl, hb2⟩
          have HB2 := Lib.hid hb2
          clear hb2 c0 c1 c2 c3 c4 c5 c6 c7 c8 c9 c10
          generalize hqe : cfOf F[k] = q
          have HQ : Hid (q = L[k]) := by rw [← hqe]; exact HLG.out k hlt hkL
          clear hqe
          go_wp2_with fail
          have HCA0 := Lib.hid (cfAt_new w2 q)
          have HBC0 : Hid (Below wo.heap.size wo _) := (below_trans hq.out.2 HB2.out).alloc (below_trans hq.out.2 HB2.out).size (.cells #[.int .i64 q.t, .int .i64 q.w, .int .i64 q.r] 75)
          have HPC0 : Hid (PtsIn _ b o F) := PtsIn.below (w' := w2.alloc (.cells #[.int .i64 q.t, .int .i64 q.w, .int .i64 q.r] 75)) (HIN.out.below HB2.out) ((Below.refl _ _).alloc (Nat.le_refl _) _)
          generalize w2.alloc (.cells #[.int .i64 q.t, .int .i64 q.w, .int .i64 q.r] 75) = wc at *
          generalize w2.heap.size = bx at *
          have HCA := Lib.hid HCA0.out
          have HBC := Lib.hid HBC0.out
          have HPC := Lib.hid HPC0.out
          have HRC : Hid (CfsR wc AA As) := HRA.out.below HBC.out
          have HFD := Lib.hid hq.out.1
          have d0 := HCA.out.c0
          have d1 := HCA.out.c1
          have d2 := HCA.out.c2
          clear HCA0 HBC0 HPC0 HIN HB2 hq
          by_cases hz : i = 0
          · have HCD : Hid (candL As L[k] = true) := by
              have : As = [] := List.eq_nil_of_length_eq_zero (by rw [HAL.out]; exact hz)
              rw [this]; exact candL_nil _
            have hiz : ((i : Int) == 0) = true := by simp [hz]
            clear hz
            rcases Classical.em (f = -1) with hf | hf
            · subst hf
              refine wp_region_held_drew (S := (fun w' => Hid (Below wc.heap.size wc w'))) (by kernel_rfl) ?_ (fun hHeld => ?_)
              · (try dsimp only); exact below_drewN (Below.refl _ _) 1
              refine wpAnyH_take (i := 0) (v := ?v0) rfl (by kernel_rfl) (by kernel_rfl) (by kernel_rfl) (fun _ _ _ h => h) (Or.inl ⟨by rfl, ?hy0⟩) hHeld ?_
              case hy0 => (intro w hSw; (try dsimp only at hSw); go_simp; try with_reducible rfl)
              (try simp only [Act.put, List.setIfInBounds_toArray, List.set_cons_zero, List.set_cons_succ, List.getElem_toArray, List.getElem_cons_zero])
              refine wpAnyH_take (i := 1) (v := ?v1) rfl (by kernel_rfl) (by kernel_rfl) (by kernel_rfl) (fun _ _ _ h => h) (Or.inl ⟨by rfl, ?hy1⟩) hHeld ?_
              case hy1 => (intro w hSw; (try dsimp only at hSw); go_simp; try with_reducible rfl)
              (try simp only [Act.put, List.setIfInBounds_toArray, List.set_cons_zero, List.set_cons_succ, List.getElem_toArray, List.getElem_cons_zero, List.getElem_cons_succ])
              refine wpAnyH_take (i := 2) (v := ?v2) rfl (by kernel_rfl) (by kernel_rfl) (by kernel_rfl) (fun _ _ _ h => h) (Or.inl ⟨by rfl, ?hy2⟩) hHeld ?_
              case hy2 => (intro w hSw; (try dsimp only at hSw); go_simp; try with_reducible rfl)
              (try simp only [Act.put, List.setIfInBounds_toArray, List.set_cons_zero, List.set_cons_succ, List.getElem_toArray, List.getElem_cons_zero, List.getElem_cons_succ])
              refine wpAnyH_take (i := 3) (v := ?v3) rfl (by kernel_rfl) (by kernel_rfl) (by kernel_rfl) (fun _ _ _ h => h) (Or.inl ⟨by rfl, ?hy3⟩) hHeld ?_
              case hy3 => (intro w hSw; (try dsimp only at hSw); go_simp; try with_reducible rfl)
              (try simp only [Act.put, List.setIfInBounds_toArray, List.set_cons_zero, List.set_cons_succ, List.getElem_toArray, List.getElem_cons_zero, List.getElem_cons_succ])
              refine wpAnyH_take (i := 4) (v := undef) rfl (by kernel_rfl) (by kernel_rfl) (by kernel_rfl) (fun _ _ _ h => h) (Or.inr ⟨by rfl, rfl⟩) hHeld ?_
              (try simp only [Act.put, List.setIfInBounds_toArray, List.set_cons_zero, List.set_cons_succ, List.getElem_toArray, List.getElem_cons_zero, List.getElem_cons_succ])
              refine wpAnyH_take (i := 5) (v := undef) rfl (by kernel_rfl) (by kernel_rfl) (by kernel_rfl) (fun _ _ _ h => h) (Or.inr ⟨by rfl, rfl⟩) hHeld ?_
              (try simp only [Act.put, List.setIfInBounds_toArray, List.set_cons_zero, List.set_cons_succ, List.getElem_toArray, List.getElem_cons_zero, List.getElem_cons_succ])
              refine wpAnyH_take (i := 6) (v := undef) rfl (by kernel_rfl) (by kernel_rfl) (by kernel_rfl) (fun _ _ _ h => h) (Or.inr ⟨by rfl, rfl⟩) hHeld ?_
              (try simp only [Act.put, List.setIfInBounds_toArray, List.set_cons_zero, List.set_cons_succ, List.getElem_toArray, List.getElem_cons_zero, List.getElem_cons_succ])
              refine wpAnyH_take (i := 7) (v := undef) rfl (by kernel_rfl) (by kernel_rfl) (by kernel_rfl) (fun _ _ _ h => h) (Or.inr ⟨by rfl, rfl⟩) hHeld ?_
              (try simp only [Act.put, List.setIfInBounds_toArray, List.set_cons_zero, List.set_cons_succ, List.getElem_toArray, List.getElem_cons_zero, List.getElem_cons_succ])
              refine wpAnyH_take (i := 8) (v := undef) rfl (by kernel_rfl) (by kernel_rfl) (by kernel_rfl) (fun _ _ _ h => h) (Or.inr ⟨by rfl, rfl⟩) hHeld ?_
              (try simp only [Act.put, List.setIfInBounds_toArray, List.set_cons_zero, List.set_cons_succ, List.getElem_toArray, List.getElem_cons_zero, List.getElem_cons_succ])
              refine wpAnyH_take (i := 9) (v := undef) rfl (by kernel_rfl) (by kernel_rfl) (by kernel_rfl) (fun _ _ _ h => h) (Or.inr ⟨by rfl, rfl⟩) hHeld ?_
              (try simp only [Act.put, List.setIfInBounds_toArray, List.set_cons_zero, List.set_cons_succ, List.getElem_toArray, List.getElem_cons_zero, List.getElem_cons_succ])
              refine wpAnyH_take (i := 10) (v := undef) rfl (by kernel_rfl) (by kernel_rfl) (by kernel_rfl) (fun _ _ _ h => h) (Or.inr ⟨by rfl, rfl⟩) hHeld ?_
              (try simp only [Act.put, List.setIfInBounds_toArray, List.set_cons_zero, List.set_cons_succ, List.getElem_toArray, List.getElem_cons_zero, List.getElem_cons_succ])
              refine wpAnyH_take (i := 11) (v := undef) rfl (by kernel_rfl) (by kernel_rfl) (by kernel_rfl) (fun _ _ _ h => h) (Or.inr ⟨by rfl, rfl⟩) hHeld ?_
              (try simp only [Act.put, List.setIfInBounds_toArray, List.set_cons_zero, List.set_cons_succ, List.getElem_toArray, List.getElem_cons_zero, List.getElem_cons_succ])
              refine wpAnyH_take (i := 12) (v := ?v4) rfl (by kernel_rfl) (by kernel_rfl) (by kernel_rfl) (fun _ _ _ h => h) (Or.inl ⟨by rfl, ?hy4⟩) hHeld ?_
              case hy4 => (intro w hSw; (try dsimp only at hSw); go_simp; try with_reducible rfl)
              (try simp only [Act.put, List.setIfInBounds_toArray, List.set_cons_zero, List.set_cons_succ, List.getElem_toArray, List.getElem_cons_zero, List.getElem_cons_succ])
              refine wpAnyH_take (i := 13) (v := ?v5) rfl (by kernel_rfl) (by kernel_rfl) (by kernel_rfl) (fun _ _ _ h => h) (Or.inl ⟨by rfl, ?hy5⟩) hHeld ?_
              case hy5 => (intro w hSw; (try dsimp only at hSw); go_simp; try with_reducible rfl)
              (try simp only [Act.put, List.setIfInBounds_toArray, List.set_cons_zero, List.set_cons_succ, List.getElem_toArray, List.getElem_cons_zero, List.getElem_cons_succ])
              refine wpAnyH_take (i := 14) (v := ?v6) rfl (by kernel_rfl) (by kernel_rfl) (by kernel_rfl) (fun _ _ _ h => h) (Or.inl ⟨by rfl, ?hy6⟩) hHeld ?_
              case hy6 => (intro w hSw; (try dsimp only at hSw); go_simp; try with_reducible rfl)
              (try simp only [Act.put, List.setIfInBounds_toArray, List.set_cons_zero, List.set_cons_succ, List.getElem_toArray, List.getElem_cons_zero, List.getElem_cons_succ])
              refine wpAnyH_take (i := 15) (v := ?v7) rfl (by kernel_rfl) (by kernel_rfl) (by kernel_rfl) (fun _ _ _ h => h) (Or.inl ⟨by rfl, ?hy7⟩) hHeld ?_
              case hy7 => (intro w hSw; (try dsimp only at hSw); go_simp; try with_reducible rfl)
              (try simp only [Act.put, List.setIfInBounds_toArray, List.set_cons_zero, List.set_cons_succ, List.getElem_toArray, List.getElem_cons_zero, List.getElem_cons_succ])
              refine wpAnyH_take (i := 16) (v := ?v8) rfl (by kernel_rfl) (by kernel_rfl) (by kernel_rfl) (fun _ _ _ h => h) (Or.inl ⟨by rfl, ?hy8⟩) hHeld ?_
              case hy8 => (intro w hSw; (try dsimp only at hSw); go_simp; try with_reducible rfl)
              (try simp only [Act.put, List.setIfInBounds_toArray, List.set_cons_zero, List.set_cons_succ, List.getElem_toArray, List.getElem_cons_zero, List.getElem_cons_succ])
              refine wpAnyH_take (i := 17) (v := undef) rfl (by kernel_rfl) (by kernel_rfl) (by kernel_rfl) (fun _ _ _ h => h) (Or.inr ⟨by rfl, rfl⟩) hHeld ?_
              (try simp only [Act.put, List.setIfInBounds_toArray, List.set_cons_zero, List.set_cons_succ, List.getElem_toArray, List.getElem_cons_zero, List.getElem_cons_succ])
              refine wpAnyH_take (i := 18) (v := undef) rfl (by kernel_rfl) (by kernel_rfl) (by kernel_rfl) (fun _ _ _ h => h) (Or.inr ⟨by rfl, rfl⟩) hHeld ?_
              (try simp only [Act.put, List.setIfInBounds_toArray, List.set_cons_zero, List.set_cons_succ, List.getElem_toArray, List.getElem_cons_zero, List.getElem_cons_succ])
              refine wpAnyH_take (i := 19) (v := undef) rfl (by kernel_rfl) (by kernel_rfl) (by kernel_rfl) (fun _ _ _ h => h) (Or.inr ⟨by rfl, rfl⟩) hHeld ?_
              (try simp only [Act.put, List.setIfInBounds_toArray, List.set_cons_zero, List.set_cons_succ, List.getElem_toArray, List.getElem_cons_zero, List.getElem_cons_succ])
              refine wpAnyH_take (i := 20) (v := undef) rfl (by kernel_rfl) (by kernel_rfl) (by kernel_rfl) (fun _ _ _ h => h) (Or.inr ⟨by rfl, rfl⟩) hHeld ?_
              (try simp only [Act.put, List.setIfInBounds_toArray, List.set_cons_zero, List.set_cons_succ, List.getElem_toArray, List.getElem_cons_zero, List.getElem_cons_succ])
              refine wpAnyH_take (i := 21) (v := undef) rfl (by kernel_rfl) (by kernel_rfl) (by kernel_rfl) (fun _ _ _ h => h) (Or.inr ⟨by rfl, rfl⟩) hHeld ?_
              (try simp only [Act.put, List.setIfInBounds_toArray, List.set_cons_zero, List.set_cons_succ, List.getElem_toArray, List.getElem_cons_zero, List.getElem_cons_succ])
              refine wpAnyH_take (i := 22) (v := undef) rfl (by kernel_rfl) (by kernel_rfl) (by kernel_rfl) (fun _ _ _ h => h) (Or.inr ⟨by rfl, rfl⟩) hHeld ?_
              (try simp only [Act.put, List.setIfInBounds_toArray, List.set_cons_zero, List.set_cons_succ, List.getElem_toArray, List.getElem_cons_zero, List.getElem_cons_succ])
              refine wpAnyH_take (i := 23) (v := undef) rfl (by kernel_rfl) (by kernel_rfl) (by kernel_rfl) (fun _ _ _ h => h) (Or.inr ⟨by rfl, rfl⟩) hHeld ?_
              (try simp only [Act.put, List.setIfInBounds_toArray, List.set_cons_zero, List.set_cons_succ, List.getElem_toArray, List.getElem_cons_zero, List.getElem_cons_succ])
              refine wpAnyH_take (i := 24) (v := ?v9) rfl (by kernel_rfl) (by kernel_rfl) (by kernel_rfl) (fun _ _ _ h => h) (Or.inl ⟨by rfl, ?hy9⟩) hHeld ?_
              case hy9 => (intro w hSw; (try dsimp only at hSw); go_simp; try with_reducible rfl)
              (try simp only [Act.put, List.setIfInBounds_toArray, List.set_cons_zero, List.set_cons_succ, List.getElem_toArray, List.getElem_cons_zero, List.getElem_cons_succ])
              refine wpAnyH_take (i := 25) (v := ?v10) rfl (by kernel_rfl) (by kernel_rfl) (by kernel_rfl) (fun _ _ _ h => h) (Or.inl ⟨by rfl, ?hy10⟩) hHeld ?_
              case hy10 => (intro w hSw; (try dsimp only at hSw); go_simp; try with_reducible rfl)
              (try simp only [Act.put, List.setIfInBounds_toArray, List.set_cons_zero, List.set_cons_succ, List.getElem_toArray, List.getElem_cons_zero, List.getElem_cons_succ])
              refine wpAnyH_done (by kernel_rfl) ?_ _
              go_wp2
              go_roundw
              case rel => exact ⟨k + 1, k, by omega, by go_num, rfl, fd_first hkL HCD.out HFD.out, below_trans HBC.out hHeld.out⟩
              case measure => simp [intOf]; omega
            · obtain ⟨j, hfj, hjk⟩ : ∃ j : Nat, f = j ∧ j < k := by
                rcases HFD.out with ⟨h1, _⟩ | ⟨j, h1, h2, _⟩
                · exact absurd h1 hf
                · exact ⟨j, h1, h2⟩
              subst hfj
              clear hf
              have hjF : j < F.length := by omega
              have hjL : j < L.length := by omega
              have hjn : decide ((j : Int) < 0) = false := by simp
              have HQJ := Lib.hid (HLG.out j hjF hjL)
              refine wp_region_held_drew (S := (fun w' => (w'.cell? ⟨bx, 0, none⟩ = some (.int .i64 q.t) ∧ w'.cell? ⟨bx, 1, none⟩ = some (.int .i64 q.w) ∧ w'.cell? ⟨bx, 2, none⟩ = some (.int .i64 q.r)) ∧ (w'.cell? ⟨b, o + j * 11, none⟩ = some (.int .i64 F[j].at_) ∧ w'.cell? ⟨b, o + j * 11 + 1, none⟩ = some (.int .i64 F[j].kind) ∧ w'.cell? ⟨b, o + j * 11 + 2, none⟩ = some (.int .i64 F[j].tbl) ∧ w'.cell? ⟨b, o + j * 11 + 3, none⟩ = some (.int .i64 F[j].wri) ∧ w'.cell? ⟨b, o + j * 11 + 4, none⟩ = some (.int .i64 F[j].rdr) ∧ w'.cell? ⟨b, o + j * 11 + 5, none⟩ = some (.int .i64 F[j].idx) ∧ w'.cell? ⟨b, o + j * 11 + 6, none⟩ = some (.int .i64 F[j].tok) ∧ w'.cell? ⟨b, o + j * 11 + 7, none⟩ = some (.int .i64 F[j].rnd) ∧ w'.cell? ⟨b, o + j * 11 + 8, none⟩ = some (.int .i64 F[j].rep) ∧ w'.cell? ⟨b, o + j * 11 + 9, none⟩ = some (.int .i64 F[j].ver) ∧ w'.cell? ⟨b, o + j * 11 + 10, none⟩ = some (.int .i64 F[j].hol)) ∧ Hid (Below wc.heap.size wc w'))) (by kernel_rfl) ?_ (fun hHeld => ?_)
              · (try dsimp only); exact ⟨⟨d0, d1, d2⟩, (PtsIn.below (w' := wc.drew) HPC.out (below_drewN (Below.refl _ _) 1)).cells hjF, below_drewN (Below.refl _ _) 1⟩
              refine wpAnyH_take (i := 0) (v := ?v11) rfl (by kernel_rfl) (by kernel_rfl) (by kernel_rfl) (fun _ _ _ h => h) (Or.inl ⟨by rfl, ?hy11⟩) hHeld ?_
              case hy11 => (intro w hSw; (try dsimp only at hSw); go_simp; try with_reducible rfl)
              (try simp only [Act.put, List.setIfInBounds_toArray, List.set_cons_zero, List.set_cons_succ, List.getElem_toArray, List.getElem_cons_zero])
              refine wpAnyH_take (i := 1) (v := ?v12) rfl (by kernel_rfl) (by kernel_rfl) (by kernel_rfl) (fun _ _ _ h => h) (Or.inl ⟨by rfl, ?hy12⟩) hHeld ?_
              case hy12 => (intro w hSw; (try dsimp only at hSw); go_simp; try with_reducible rfl)
              (try simp only [Act.put, List.setIfInBounds_toArray, List.set_cons_zero, List.set_cons_succ, List.getElem_toArray, List.getElem_cons_zero, List.getElem_cons_succ])
              refine wpAnyH_take (i := 2) (v := ?v13) rfl (by kernel_rfl) (by kernel_rfl) (by kernel_rfl) (fun _ _ _ h => h) (Or.inl ⟨by rfl, ?hy13⟩) hHeld ?_
              case hy13 => (intro w hSw; (try dsimp only at hSw); go_simp; try with_reducible rfl)
              (try simp only [Act.put, List.setIfInBounds_toArray, List.set_cons_zero, List.set_cons_succ, List.getElem_toArray, List.getElem_cons_zero, List.getElem_cons_succ])
              refine wpAnyH_take (i := 3) (v := ?v14) rfl (by kernel_rfl) (by kernel_rfl) (by kernel_rfl) (fun _ _ _ h => h) (Or.inl ⟨by rfl, ?hy14⟩) hHeld ?_
              case hy14 => (intro w hSw; (try dsimp only at hSw); go_simp; try with_reducible rfl)
              (try simp only [Act.put, List.setIfInBounds_toArray, List.set_cons_zero, List.set_cons_succ, List.getElem_toArray, List.getElem_cons_zero, List.getElem_cons_succ])
              refine wpAnyH_take (i := 4) (v := undef) rfl (by kernel_rfl) (by kernel_rfl) (by kernel_rfl) (fun _ _ _ h => h) (Or.inr ⟨by rfl, rfl⟩) hHeld ?_
              (try simp only [Act.put, List.setIfInBounds_toArray, List.set_cons_zero, List.set_cons_succ, List.getElem_toArray, List.getElem_cons_zero, List.getElem_cons_succ])
              refine wpAnyH_take (i := 5) (v := undef) rfl (by kernel_rfl) (by kernel_rfl) (by kernel_rfl) (fun _ _ _ h => h) (Or.inr ⟨by rfl, rfl⟩) hHeld ?_
              (try simp only [Act.put, List.setIfInBounds_toArray, List.set_cons_zero, List.set_cons_succ, List.getElem_toArray, List.getElem_cons_zero, List.getElem_cons_succ])
              refine wpAnyH_take (i := 6) (v := undef) rfl (by kernel_rfl) (by kernel_rfl) (by kernel_rfl) (fun _ _ _ h => h) (Or.inr ⟨by rfl, rfl⟩) hHeld ?_
              (try simp only [Act.put, List.setIfInBounds_toArray, List.set_cons_zero, List.set_cons_succ, List.getElem_toArray, List.getElem_cons_zero, List.getElem_cons_succ])
              refine wpAnyH_take (i := 7) (v := undef) rfl (by kernel_rfl) (by kernel_rfl) (by kernel_rfl) (fun _ _ _ h => h) (Or.inr ⟨by rfl, rfl⟩) hHeld ?_
              (try simp only [Act.put, List.setIfInBounds_toArray, List.set_cons_zero, List.set_cons_succ, List.getElem_toArray, List.getElem_cons_zero, List.getElem_cons_succ])
              refine wpAnyH_take (i := 8) (v := undef) rfl (by kernel_rfl) (by kernel_rfl) (by kernel_rfl) (fun _ _ _ h => h) (Or.inr ⟨by rfl, rfl⟩) hHeld ?_
              (try simp only [Act.put, List.setIfInBounds_toArray, List.set_cons_zero, List.set_cons_succ, List.getElem_toArray, List.getElem_cons_zero, List.getElem_cons_succ])
              refine wpAnyH_take (i := 9) (v := undef) rfl (by kernel_rfl) (by kernel_rfl) (by kernel_rfl) (fun _ _ _ h => h) (Or.inr ⟨by rfl, rfl⟩) hHeld ?_
              (try simp only [Act.put, List.setIfInBounds_toArray, List.set_cons_zero, List.set_cons_succ, List.getElem_toArray, List.getElem_cons_zero, List.getElem_cons_succ])
              refine wpAnyH_take (i := 10) (v := undef) rfl (by kernel_rfl) (by kernel_rfl) (by kernel_rfl) (fun _ _ _ h => h) (Or.inr ⟨by rfl, rfl⟩) hHeld ?_
              (try simp only [Act.put, List.setIfInBounds_toArray, List.set_cons_zero, List.set_cons_succ, List.getElem_toArray, List.getElem_cons_zero, List.getElem_cons_succ])
              refine wpAnyH_take (i := 11) (v := undef) rfl (by kernel_rfl) (by kernel_rfl) (by kernel_rfl) (fun _ _ _ h => h) (Or.inr ⟨by rfl, rfl⟩) hHeld ?_
              (try simp only [Act.put, List.setIfInBounds_toArray, List.set_cons_zero, List.set_cons_succ, List.getElem_toArray, List.getElem_cons_zero, List.getElem_cons_succ])
              refine wpAnyH_take (i := 12) (v := ?v15) rfl (by kernel_rfl) (by kernel_rfl) (by kernel_rfl) (fun _ _ _ h => h) (Or.inl ⟨by rfl, ?hy15⟩) hHeld ?_
              case hy15 => (intro w hSw; (try dsimp only at hSw); go_simp; try with_reducible rfl)
              (try simp only [Act.put, List.setIfInBounds_toArray, List.set_cons_zero, List.set_cons_succ, List.getElem_toArray, List.getElem_cons_zero, List.getElem_cons_succ])
              refine wpAnyH_take (i := 13) (v := ?v16) rfl (by kernel_rfl) (by kernel_rfl) (by kernel_rfl) (fun _ _ _ h => h) (Or.inl ⟨by rfl, ?hy16⟩) hHeld ?_
              case hy16 => (intro w hSw; (try dsimp only at hSw); go_simp; try with_reducible rfl)
              (try simp only [Act.put, List.setIfInBounds_toArray, List.set_cons_zero, List.set_cons_succ, List.getElem_toArray, List.getElem_cons_zero, List.getElem_cons_succ])
              refine wpAnyH_take (i := 14) (v := ?v17) rfl (by kernel_rfl) (by kernel_rfl) (by kernel_rfl) (fun _ _ _ h => h) (Or.inl ⟨by rfl, ?hy17⟩) hHeld ?_
              case hy17 => (intro w hSw; (try dsimp only at hSw); go_simp; try with_reducible rfl)
              (try simp only [Act.put, List.setIfInBounds_toArray, List.set_cons_zero, List.set_cons_succ, List.getElem_toArray, List.getElem_cons_zero, List.getElem_cons_succ])
              refine wpAnyH_take (i := 15) (v := ?v18) rfl (by kernel_rfl) (by kernel_rfl) (by kernel_rfl) (fun _ _ _ h => h) (Or.inl ⟨by rfl, ?hy18⟩) hHeld ?_
              case hy18 => (intro w hSw; (try dsimp only at hSw); go_simp; try with_reducible rfl)
              (try simp only [Act.put, List.setIfInBounds_toArray, List.set_cons_zero, List.set_cons_succ, List.getElem_toArray, List.getElem_cons_zero, List.getElem_cons_succ])
              refine wpAnyH_take (i := 16) (v := ?v19) rfl (by kernel_rfl) (by kernel_rfl) (by kernel_rfl) (fun _ _ _ h => h) (Or.inl ⟨by rfl, ?hy19⟩) hHeld ?_
              case hy19 => (intro w hSw; (try dsimp only at hSw); go_simp; try with_reducible rfl)
              (try simp only [Act.put, List.setIfInBounds_toArray, List.set_cons_zero, List.set_cons_succ, List.getElem_toArray, List.getElem_cons_zero, List.getElem_cons_succ])
              refine wpAnyH_take (i := 17) (v := ?v20) rfl (by kernel_rfl) (by kernel_rfl) (by kernel_rfl) (fun _ _ _ h => h) (Or.inl ⟨by rfl, ?hy20⟩) hHeld ?_
              case hy20 => (intro w hSw; (try dsimp only at hSw); go_simp; try with_reducible rfl)
              (try simp only [Act.put, List.setIfInBounds_toArray, List.set_cons_zero, List.set_cons_succ, List.getElem_toArray, List.getElem_cons_zero, List.getElem_cons_succ])
              refine wpAnyH_take (i := 18) (v := ?v21) rfl (by kernel_rfl) (by kernel_rfl) (by kernel_rfl) (fun _ _ _ h => h) (Or.inl ⟨by rfl, ?hy21⟩) hHeld ?_
              case hy21 => (intro w hSw; (try dsimp only at hSw); go_simp; try with_reducible rfl)
              (try simp only [Act.put, List.setIfInBounds_toArray, List.set_cons_zero, List.set_cons_succ, List.getElem_toArray, List.getElem_cons_zero, List.getElem_cons_succ])
              refine wpAnyH_take (i := 19) (v := ?v22) rfl (by kernel_rfl) (by kernel_rfl) (by kernel_rfl) (fun _ _ _ h => h) (Or.inl ⟨by rfl, ?hy22⟩) hHeld ?_
              case hy22 => (intro w hSw; (try dsimp only at hSw); go_simp; try with_reducible rfl)
              (try simp only [Act.put, List.setIfInBounds_toArray, List.set_cons_zero, List.set_cons_succ, List.getElem_toArray, List.getElem_cons_zero, List.getElem_cons_succ])
              refine wpAnyH_take (i := 20) (v := ?v23) rfl (by kernel_rfl) (by kernel_rfl) (by kernel_rfl) (fun _ _ _ h => h) (Or.inl ⟨by rfl, ?hy23⟩) hHeld ?_
              case hy23 => (intro w hSw; (try dsimp only at hSw); go_simp; try with_reducible rfl)
              (try simp only [Act.put, List.setIfInBounds_toArray, List.set_cons_zero, List.set_cons_succ, List.getElem_toArray, List.getElem_cons_zero, List.getElem_cons_succ])
              refine wpAnyH_take (i := 21) (v := ?v24) rfl (by kernel_rfl) (by kernel_rfl) (by kernel_rfl) (fun _ _ _ h => h) (Or.inl ⟨by rfl, ?hy24⟩) hHeld ?_
              case hy24 => (intro w hSw; (try dsimp only at hSw); go_simp; try with_reducible rfl)
              (try simp only [Act.put, List.setIfInBounds_toArray, List.set_cons_zero, List.set_cons_succ, List.getElem_toArray, List.getElem_cons_zero, List.getElem_cons_succ])
              refine wpAnyH_ready (rs := [22]) (by kernel_rfl) (by simp) ?_
              refine (AllReadyH.cons rfl (fun K hK => ?_) AllReadyH.nil)
              go_simp
              (refine (reading_any F[j] _).mono ?_; rintro e w3 ⟨rfl, hbx⟩)
              refine hK.out _ _ ?_ (fun hHeld => ?_)
              · (try dsimp only); exact ⟨⟨below_cell hbx hHeld.1.1, below_cell hbx hHeld.1.2.1, below_cell hbx hHeld.1.2.2⟩, (HPC.out.below (below_trans hHeld.2.2.out hbx)).cells hjF, below_trans hHeld.2.2.out hbx⟩
              clear hK K
              (try simp only [Act.put, List.setIfInBounds_toArray, List.set_cons_zero, List.set_cons_succ, List.getElem_toArray, List.getElem_cons_zero, List.getElem_cons_succ])
              refine wpAnyH_ready (rs := [23]) (by kernel_rfl) (by simp) ?_
              refine (AllReadyH.cons rfl (fun K hK => ?_) AllReadyH.nil)
              go_simp
              (refine (less_any q (cfOf F[j]) _).mono ?_; rintro e w4 ⟨rfl, hbx⟩)
              refine hK.out _ _ ?_ (fun hHeld => ?_)
              · (try dsimp only); exact ⟨⟨below_cell hbx hHeld.1.1, below_cell hbx hHeld.1.2.1, below_cell hbx hHeld.1.2.2⟩, (HPC.out.below (below_trans hHeld.2.2.out hbx)).cells hjF, below_trans hHeld.2.2.out hbx⟩
              clear hK K
              (try simp only [Act.put, List.setIfInBounds_toArray, List.set_cons_zero, List.set_cons_succ, List.getElem_toArray, List.getElem_cons_zero, List.getElem_cons_succ])
              refine wpAnyH_take (i := 24) (v := ?v25) rfl (by kernel_rfl) (by kernel_rfl) (by kernel_rfl) (fun _ _ _ h => h) (Or.inl ⟨by rfl, ?hy25⟩) hHeld ?_
              case hy25 => (intro w hSw; (try dsimp only at hSw); go_simp; try with_reducible rfl)
              (try simp only [Act.put, List.setIfInBounds_toArray, List.set_cons_zero, List.set_cons_succ, List.getElem_toArray, List.getElem_cons_zero, List.getElem_cons_succ])
              refine wpAnyH_take (i := 25) (v := ?v26) rfl (by kernel_rfl) (by kernel_rfl) (by kernel_rfl) (fun _ _ _ h => h) (Or.inl ⟨by rfl, ?hy26⟩) hHeld ?_
              case hy26 => (intro w hSw; (try dsimp only at hSw); go_simp; try with_reducible rfl)
              (try simp only [Act.put, List.setIfInBounds_toArray, List.set_cons_zero, List.set_cons_succ, List.getElem_toArray, List.getElem_cons_zero, List.getElem_cons_succ])
              refine wpAnyH_done (by kernel_rfl) ?_ _
              have HBE := Lib.hid hHeld.2.2.out
              clear hHeld
              cases hb : ltC q (cfOf F[j]) with
              | true =>
                have HLT : Hid (ltC L[k] L[j] = true) := by rw [← HQ.out, ← HQJ.out]; exact hb
                clear hb
                go_wp2
                go_roundw
                case rel => exact ⟨k + 1, k, by omega, by go_num, rfl, fd_less hkL hjL HCD.out HLT.out HFD.out, below_trans HBC.out HBE.out⟩
                case measure => simp [intOf]; omega
              | false =>
                have HLT : Hid (ltC L[k] L[j] = false) := by rw [← HQ.out, ← HQJ.out]; exact hb
                clear hb
                go_wp2
                go_roundw
                case rel => exact ⟨k + 1, j, by omega, by go_num, rfl, fd_not hkL hjL HLT.out HFD.out, below_trans HBC.out HBE.out⟩
                case measure => simp [intOf]; omega
          · obtain ⟨m, hm⟩ : ∃ m, m + 1 = i := ⟨i - 1, by omega⟩
            have hmA : m < As.length := by rw [HAL.out]; omega
            obtain ⟨b5, o5, rfl, l0, l1, l2⟩ := HRC.out.at_ hmA
            have HCL := Lib.hid (show candL As L[k] = ltC As[m] q by
              have e : As.length - 1 = m := by rw [HAL.out]; omega
              rw [candL_last (by rw [HAL.out]; omega), HQ.out]
              simp only [e])
            generalize As[m] = a at *
            have hiz : ((i : Int) == 0) = false := by simp; omega
            have hsub : IntKind.i64.wrap ((i : Int) - 1) = ((m : Nat) : Int) := by rw [show (i : Int) - 1 = m by omega]; exact IntWalk.i64_in _ (by omega)
            have hmi : m < i := by omega
            clear hm hz
            cases hca : ltC a q with
            | false =>
              have HCD : Hid (candL As L[k] = false) := by rw [HCL.out]; exact hca
              refine wp_region_held_drew (S := (fun w' => (w'.cell? ⟨bx, 0, none⟩ = some (.int .i64 q.t) ∧ w'.cell? ⟨bx, 1, none⟩ = some (.int .i64 q.w) ∧ w'.cell? ⟨bx, 2, none⟩ = some (.int .i64 q.r)) ∧ (w'.cell? ⟨b5, o5 + m * 3, none⟩ = some (.int .i64 a.t) ∧ w'.cell? ⟨b5, o5 + m * 3 + 1, none⟩ = some (.int .i64 a.w) ∧ w'.cell? ⟨b5, o5 + m * 3 + 2, none⟩ = some (.int .i64 a.r)) ∧ Hid (Below wc.heap.size wc w'))) (by kernel_rfl) ?_ (fun hHeld => ?_)
              · (try dsimp only); exact ⟨⟨d0, d1, d2⟩, ⟨l0, l1, l2⟩, below_drewN (Below.refl _ _) 1⟩
              refine wpAnyH_take (i := 0) (v := ?v27) rfl (by kernel_rfl) (by kernel_rfl) (by kernel_rfl) (fun _ _ _ h => h) (Or.inl ⟨by rfl, ?hy27⟩) hHeld ?_
              case hy27 => (intro w hSw; (try dsimp only at hSw); go_simp; try with_reducible rfl)
              (try simp only [Act.put, List.setIfInBounds_toArray, List.set_cons_zero, List.set_cons_succ, List.getElem_toArray, List.getElem_cons_zero])
              refine wpAnyH_take (i := 1) (v := ?v28) rfl (by kernel_rfl) (by kernel_rfl) (by kernel_rfl) (fun _ _ _ h => h) (Or.inl ⟨by rfl, ?hy28⟩) hHeld ?_
              case hy28 => (intro w hSw; (try dsimp only at hSw); go_simp; try with_reducible rfl)
              (try simp only [Act.put, List.setIfInBounds_toArray, List.set_cons_zero, List.set_cons_succ, List.getElem_toArray, List.getElem_cons_zero, List.getElem_cons_succ])
              refine wpAnyH_take (i := 2) (v := ?v29) rfl (by kernel_rfl) (by kernel_rfl) (by kernel_rfl) (fun _ _ _ h => h) (Or.inl ⟨by rfl, ?hy29⟩) hHeld ?_
              case hy29 => (intro w hSw; (try dsimp only at hSw); go_simp; try with_reducible rfl)
              (try simp only [Act.put, List.setIfInBounds_toArray, List.set_cons_zero, List.set_cons_succ, List.getElem_toArray, List.getElem_cons_zero, List.getElem_cons_succ])
              refine wpAnyH_take (i := 3) (v := ?v30) rfl (by kernel_rfl) (by kernel_rfl) (by kernel_rfl) (fun _ _ _ h => h) (Or.inl ⟨by rfl, ?hy30⟩) hHeld ?_
              case hy30 => (intro w hSw; (try dsimp only at hSw); go_simp; try with_reducible rfl)
              (try simp only [Act.put, List.setIfInBounds_toArray, List.set_cons_zero, List.set_cons_succ, List.getElem_toArray, List.getElem_cons_zero, List.getElem_cons_succ])
              refine wpAnyH_take (i := 4) (v := ?v31) rfl (by kernel_rfl) (by kernel_rfl) (by kernel_rfl) (fun _ _ _ h => h) (Or.inl ⟨by rfl, ?hy31⟩) hHeld ?_
              case hy31 => (intro w hSw; (try dsimp only at hSw); go_simp; try with_reducible rfl)
              (try simp only [Act.put, List.setIfInBounds_toArray, List.set_cons_zero, List.set_cons_succ, List.getElem_toArray, List.getElem_cons_zero, List.getElem_cons_succ])
              refine wpAnyH_take (i := 5) (v := ?v32) rfl (by kernel_rfl) (by kernel_rfl) (by kernel_rfl) (fun _ _ _ h => h) (Or.inl ⟨by rfl, ?hy32⟩) hHeld ?_
              case hy32 => (intro w hSw; (try dsimp only at hSw); go_simp; try with_reducible rfl)
              (try simp only [Act.put, List.setIfInBounds_toArray, List.set_cons_zero, List.set_cons_succ, List.getElem_toArray, List.getElem_cons_zero, List.getElem_cons_succ])
              refine wpAnyH_take (i := 6) (v := ?v33) rfl (by kernel_rfl) (by kernel_rfl) (by kernel_rfl) (fun _ _ _ h => h) (Or.inl ⟨by rfl, ?hy33⟩) hHeld ?_
              case hy33 => (intro w hSw; (try dsimp only at hSw); go_simp; try with_reducible rfl)
              (try simp only [Act.put, List.setIfInBounds_toArray, List.set_cons_zero, List.set_cons_succ, List.getElem_toArray, List.getElem_cons_zero, List.getElem_cons_succ])
              refine wpAnyH_take (i := 7) (v := ?v34) rfl (by kernel_rfl) (by kernel_rfl) (by kernel_rfl) (fun _ _ _ h => h) (Or.inl ⟨by rfl, ?hy34⟩) hHeld ?_
              case hy34 => (intro w hSw; (try dsimp only at hSw); go_simp; try with_reducible rfl)
              (try simp only [Act.put, List.setIfInBounds_toArray, List.set_cons_zero, List.set_cons_succ, List.getElem_toArray, List.getElem_cons_zero, List.getElem_cons_succ])
              refine wpAnyH_take (i := 8) (v := ?v35) rfl (by kernel_rfl) (by kernel_rfl) (by kernel_rfl) (fun _ _ _ h => h) (Or.inl ⟨by rfl, ?hy35⟩) hHeld ?_
              case hy35 => (intro w hSw; (try dsimp only at hSw); go_simp; try with_reducible rfl)
              (try simp only [Act.put, List.setIfInBounds_toArray, List.set_cons_zero, List.set_cons_succ, List.getElem_toArray, List.getElem_cons_zero, List.getElem_cons_succ])
              refine wpAnyH_take (i := 9) (v := ?v36) rfl (by kernel_rfl) (by kernel_rfl) (by kernel_rfl) (fun _ _ _ h => h) (Or.inl ⟨by rfl, ?hy36⟩) hHeld ?_
              case hy36 => (intro w hSw; (try dsimp only at hSw); go_simp; try with_reducible rfl)
              (try simp only [Act.put, List.setIfInBounds_toArray, List.set_cons_zero, List.set_cons_succ, List.getElem_toArray, List.getElem_cons_zero, List.getElem_cons_succ])
              refine wpAnyH_take (i := 10) (v := ?v37) rfl (by kernel_rfl) (by kernel_rfl) (by kernel_rfl) (fun _ _ _ h => h) (Or.inl ⟨by rfl, ?hy37⟩) hHeld ?_
              case hy37 => (intro w hSw; (try dsimp only at hSw); go_simp; try with_reducible rfl)
              (try simp only [Act.put, List.setIfInBounds_toArray, List.set_cons_zero, List.set_cons_succ, List.getElem_toArray, List.getElem_cons_zero, List.getElem_cons_succ])
              refine wpAnyH_ready (rs := [11]) (by kernel_rfl) (by simp) ?_
              refine (AllReadyH.cons rfl (fun K hK => ?_) AllReadyH.nil)
              go_simp
              (refine (less_any a q _).mono ?_; rintro e w4 ⟨rfl, hbx⟩; rw [hca])
              refine hK.out _ _ ?_ (fun hHeld => ?_)
              · (try dsimp only); exact ⟨⟨below_cell hbx hHeld.1.1, below_cell hbx hHeld.1.2.1, below_cell hbx hHeld.1.2.2⟩, ⟨below_cell hbx hHeld.2.1.1, below_cell hbx hHeld.2.1.2.1, below_cell hbx hHeld.2.1.2.2⟩, below_trans hHeld.2.2.out hbx⟩
              clear hK K
              (try simp only [Act.put, List.setIfInBounds_toArray, List.set_cons_zero, List.set_cons_succ, List.getElem_toArray, List.getElem_cons_zero, List.getElem_cons_succ])
              refine wpAnyH_take (i := 12) (v := ?v38) rfl (by kernel_rfl) (by kernel_rfl) (by kernel_rfl) (fun _ _ _ h => h) (Or.inl ⟨by rfl, ?hy38⟩) hHeld ?_
              case hy38 => (intro w hSw; (try dsimp only at hSw); go_simp; try with_reducible rfl)
              (try simp only [Act.put, List.setIfInBounds_toArray, List.set_cons_zero, List.set_cons_succ, List.getElem_toArray, List.getElem_cons_zero, List.getElem_cons_succ])
              refine wpAnyH_take (i := 13) (v := ?v39) rfl (by kernel_rfl) (by kernel_rfl) (by kernel_rfl) (fun _ _ _ h => h) (Or.inl ⟨by rfl, ?hy39⟩) hHeld ?_
              case hy39 => (intro w hSw; (try dsimp only at hSw); go_simp; try with_reducible rfl)
              (try simp only [Act.put, List.setIfInBounds_toArray, List.set_cons_zero, List.set_cons_succ, List.getElem_toArray, List.getElem_cons_zero, List.getElem_cons_succ])
              refine wpAnyH_take (i := 14) (v := undef) rfl (by kernel_rfl) (by kernel_rfl) (by kernel_rfl) (fun _ _ _ h => h) (Or.inr ⟨by rfl, rfl⟩) hHeld ?_
              (try simp only [Act.put, List.setIfInBounds_toArray, List.set_cons_zero, List.set_cons_succ, List.getElem_toArray, List.getElem_cons_zero, List.getElem_cons_succ])
              refine wpAnyH_take (i := 15) (v := undef) rfl (by kernel_rfl) (by kernel_rfl) (by kernel_rfl) (fun _ _ _ h => h) (Or.inr ⟨by rfl, rfl⟩) hHeld ?_
              (try simp only [Act.put, List.setIfInBounds_toArray, List.set_cons_zero, List.set_cons_succ, List.getElem_toArray, List.getElem_cons_zero, List.getElem_cons_succ])
              refine wpAnyH_take (i := 16) (v := undef) rfl (by kernel_rfl) (by kernel_rfl) (by kernel_rfl) (fun _ _ _ h => h) (Or.inr ⟨by rfl, rfl⟩) hHeld ?_
              (try simp only [Act.put, List.setIfInBounds_toArray, List.set_cons_zero, List.set_cons_succ, List.getElem_toArray, List.getElem_cons_zero, List.getElem_cons_succ])
              refine wpAnyH_take (i := 17) (v := undef) rfl (by kernel_rfl) (by kernel_rfl) (by kernel_rfl) (fun _ _ _ h => h) (Or.inr ⟨by rfl, rfl⟩) hHeld ?_
              (try simp only [Act.put, List.setIfInBounds_toArray, List.set_cons_zero, List.set_cons_succ, List.getElem_toArray, List.getElem_cons_zero, List.getElem_cons_succ])
              refine wpAnyH_take (i := 18) (v := undef) rfl (by kernel_rfl) (by kernel_rfl) (by kernel_rfl) (fun _ _ _ h => h) (Or.inr ⟨by rfl, rfl⟩) hHeld ?_
              (try simp only [Act.put, List.setIfInBounds_toArray, List.set_cons_zero, List.set_cons_succ, List.getElem_toArray, List.getElem_cons_zero, List.getElem_cons_succ])
              refine wpAnyH_take (i := 19) (v := undef) rfl (by kernel_rfl) (by kernel_rfl) (by kernel_rfl) (fun _ _ _ h => h) (Or.inr ⟨by rfl, rfl⟩) hHeld ?_
              (try simp only [Act.put, List.setIfInBounds_toArray, List.set_cons_zero, List.set_cons_succ, List.getElem_toArray, List.getElem_cons_zero, List.getElem_cons_succ])
              refine wpAnyH_take (i := 20) (v := undef) rfl (by kernel_rfl) (by kernel_rfl) (by kernel_rfl) (fun _ _ _ h => h) (Or.inr ⟨by rfl, rfl⟩) hHeld ?_
              (try simp only [Act.put, List.setIfInBounds_toArray, List.set_cons_zero, List.set_cons_succ, List.getElem_toArray, List.getElem_cons_zero, List.getElem_cons_succ])
              refine wpAnyH_take (i := 21) (v := undef) rfl (by kernel_rfl) (by kernel_rfl) (by kernel_rfl) (fun _ _ _ h => h) (Or.inr ⟨by rfl, rfl⟩) hHeld ?_
              (try simp only [Act.put, List.setIfInBounds_toArray, List.set_cons_zero, List.set_cons_succ, List.getElem_toArray, List.getElem_cons_zero, List.getElem_cons_succ])
              refine wpAnyH_take (i := 22) (v := undef) rfl (by kernel_rfl) (by kernel_rfl) (by kernel_rfl) (fun _ _ _ h => h) (Or.inr ⟨by rfl, rfl⟩) hHeld ?_
              (try simp only [Act.put, List.setIfInBounds_toArray, List.set_cons_zero, List.set_cons_succ, List.getElem_toArray, List.getElem_cons_zero, List.getElem_cons_succ])
              refine wpAnyH_take (i := 23) (v := undef) rfl (by kernel_rfl) (by kernel_rfl) (by kernel_rfl) (fun _ _ _ h => h) (Or.inr ⟨by rfl, rfl⟩) hHeld ?_
              (try simp only [Act.put, List.setIfInBounds_toArray, List.set_cons_zero, List.set_cons_succ, List.getElem_toArray, List.getElem_cons_zero, List.getElem_cons_succ])
              refine wpAnyH_take (i := 24) (v := undef) rfl (by kernel_rfl) (by kernel_rfl) (by kernel_rfl) (fun _ _ _ h => h) (Or.inr ⟨by rfl, rfl⟩) hHeld ?_
              (try simp only [Act.put, List.setIfInBounds_toArray, List.set_cons_zero, List.set_cons_succ, List.getElem_toArray, List.getElem_cons_zero, List.getElem_cons_succ])
              refine wpAnyH_take (i := 25) (v := ?v40) rfl (by kernel_rfl) (by kernel_rfl) (by kernel_rfl) (fun _ _ _ h => h) (Or.inl ⟨by rfl, ?hy40⟩) hHeld ?_
              case hy40 => (intro w hSw; (try dsimp only at hSw); go_simp; try with_reducible rfl)
              (try simp only [Act.put, List.setIfInBounds_toArray, List.set_cons_zero, List.set_cons_succ, List.getElem_toArray, List.getElem_cons_zero, List.getElem_cons_succ])
              refine wpAnyH_done (by kernel_rfl) ?_ _
              have HBE := Lib.hid hHeld.2.2.out
              clear hHeld
              go_wp2
              go_roundw
              case rel => exact ⟨k + 1, f, by omega, by go_num, rfl, fd_no hkL HCD.out HFD.out, below_trans HBC.out HBE.out⟩
              case measure => simp [intOf]; omega
            | true =>
              have HCD : Hid (candL As L[k] = true) := by rw [HCL.out]; exact hca
              rcases Classical.em (f = -1) with hf | hf
              · subst hf
                refine wp_region_held_drew (S := (fun w' => (w'.cell? ⟨bx, 0, none⟩ = some (.int .i64 q.t) ∧ w'.cell? ⟨bx, 1, none⟩ = some (.int .i64 q.w) ∧ w'.cell? ⟨bx, 2, none⟩ = some (.int .i64 q.r)) ∧ (w'.cell? ⟨b5, o5 + m * 3, none⟩ = some (.int .i64 a.t) ∧ w'.cell? ⟨b5, o5 + m * 3 + 1, none⟩ = some (.int .i64 a.w) ∧ w'.cell? ⟨b5, o5 + m * 3 + 2, none⟩ = some (.int .i64 a.r)) ∧ Hid (Below wc.heap.size wc w'))) (by kernel_rfl) ?_ (fun hHeld => ?_)
                · (try dsimp only); exact ⟨⟨d0, d1, d2⟩, ⟨l0, l1, l2⟩, below_drewN (Below.refl _ _) 1⟩
                refine wpAnyH_take (i := 0) (v := ?v41) rfl (by kernel_rfl) (by kernel_rfl) (by kernel_rfl) (fun _ _ _ h => h) (Or.inl ⟨by rfl, ?hy41⟩) hHeld ?_
                case hy41 => (intro w hSw; (try dsimp only at hSw); go_simp; try with_reducible rfl)
                (try simp only [Act.put, List.setIfInBounds_toArray, List.set_cons_zero, List.set_cons_succ, List.getElem_toArray, List.getElem_cons_zero])
                refine wpAnyH_take (i := 1) (v := ?v42) rfl (by kernel_rfl) (by kernel_rfl) (by kernel_rfl) (fun _ _ _ h => h) (Or.inl ⟨by rfl, ?hy42⟩) hHeld ?_
                case hy42 => (intro w hSw; (try dsimp only at hSw); go_simp; try with_reducible rfl)
                (try simp only [Act.put, List.setIfInBounds_toArray, List.set_cons_zero, List.set_cons_succ, List.getElem_toArray, List.getElem_cons_zero, List.getElem_cons_succ])
                refine wpAnyH_take (i := 2) (v := ?v43) rfl (by kernel_rfl) (by kernel_rfl) (by kernel_rfl) (fun _ _ _ h => h) (Or.inl ⟨by rfl, ?hy43⟩) hHeld ?_
                case hy43 => (intro w hSw; (try dsimp only at hSw); go_simp; try with_reducible rfl)
                (try simp only [Act.put, List.setIfInBounds_toArray, List.set_cons_zero, List.set_cons_succ, List.getElem_toArray, List.getElem_cons_zero, List.getElem_cons_succ])
                refine wpAnyH_take (i := 3) (v := ?v44) rfl (by kernel_rfl) (by kernel_rfl) (by kernel_rfl) (fun _ _ _ h => h) (Or.inl ⟨by rfl, ?hy44⟩) hHeld ?_
                case hy44 => (intro w hSw; (try dsimp only at hSw); go_simp; try with_reducible rfl)
                (try simp only [Act.put, List.setIfInBounds_toArray, List.set_cons_zero, List.set_cons_succ, List.getElem_toArray, List.getElem_cons_zero, List.getElem_cons_succ])
                refine wpAnyH_take (i := 4) (v := ?v45) rfl (by kernel_rfl) (by kernel_rfl) (by kernel_rfl) (fun _ _ _ h => h) (Or.inl ⟨by rfl, ?hy45⟩) hHeld ?_
                case hy45 => (intro w hSw; (try dsimp only at hSw); go_simp; try with_reducible rfl)
                (try simp only [Act.put, List.setIfInBounds_toArray, List.set_cons_zero, List.set_cons_succ, List.getElem_toArray, List.getElem_cons_zero, List.getElem_cons_succ])
                refine wpAnyH_take (i := 5) (v := ?v46) rfl (by kernel_rfl) (by kernel_rfl) (by kernel_rfl) (fun _ _ _ h => h) (Or.inl ⟨by rfl, ?hy46⟩) hHeld ?_
                case hy46 => (intro w hSw; (try dsimp only at hSw); go_simp; try with_reducible rfl)
                (try simp only [Act.put, List.setIfInBounds_toArray, List.set_cons_zero, List.set_cons_succ, List.getElem_toArray, List.getElem_cons_zero, List.getElem_cons_succ])
                refine wpAnyH_take (i := 6) (v := ?v47) rfl (by kernel_rfl) (by kernel_rfl) (by kernel_rfl) (fun _ _ _ h => h) (Or.inl ⟨by rfl, ?hy47⟩) hHeld ?_
                case hy47 => (intro w hSw; (try dsimp only at hSw); go_simp; try with_reducible rfl)
                (try simp only [Act.put, List.setIfInBounds_toArray, List.set_cons_zero, List.set_cons_succ, List.getElem_toArray, List.getElem_cons_zero, List.getElem_cons_succ])
                refine wpAnyH_take (i := 7) (v := ?v48) rfl (by kernel_rfl) (by kernel_rfl) (by kernel_rfl) (fun _ _ _ h => h) (Or.inl ⟨by rfl, ?hy48⟩) hHeld ?_
                case hy48 => (intro w hSw; (try dsimp only at hSw); go_simp; try with_reducible rfl)
                (try simp only [Act.put, List.setIfInBounds_toArray, List.set_cons_zero, List.set_cons_succ, List.getElem_toArray, List.getElem_cons_zero, List.getElem_cons_succ])
                refine wpAnyH_take (i := 8) (v := ?v49) rfl (by kernel_rfl) (by kernel_rfl) (by kernel_rfl) (fun _ _ _ h => h) (Or.inl ⟨by rfl, ?hy49⟩) hHeld ?_
                case hy49 => (intro w hSw; (try dsimp only at hSw); go_simp; try with_reducible rfl)
                (try simp only [Act.put, List.setIfInBounds_toArray, List.set_cons_zero, List.set_cons_succ, List.getElem_toArray, List.getElem_cons_zero, List.getElem_cons_succ])
                refine wpAnyH_take (i := 9) (v := ?v50) rfl (by kernel_rfl) (by kernel_rfl) (by kernel_rfl) (fun _ _ _ h => h) (Or.inl ⟨by rfl, ?hy50⟩) hHeld ?_
                case hy50 => (intro w hSw; (try dsimp only at hSw); go_simp; try with_reducible rfl)
                (try simp only [Act.put, List.setIfInBounds_toArray, List.set_cons_zero, List.set_cons_succ, List.getElem_toArray, List.getElem_cons_zero, List.getElem_cons_succ])
                refine wpAnyH_take (i := 10) (v := ?v51) rfl (by kernel_rfl) (by kernel_rfl) (by kernel_rfl) (fun _ _ _ h => h) (Or.inl ⟨by rfl, ?hy51⟩) hHeld ?_
                case hy51 => (intro w hSw; (try dsimp only at hSw); go_simp; try with_reducible rfl)
                (try simp only [Act.put, List.setIfInBounds_toArray, List.set_cons_zero, List.set_cons_succ, List.getElem_toArray, List.getElem_cons_zero, List.getElem_cons_succ])
                refine wpAnyH_ready (rs := [11]) (by kernel_rfl) (by simp) ?_
                refine (AllReadyH.cons rfl (fun K hK => ?_) AllReadyH.nil)
                go_simp
                (refine (less_any a q _).mono ?_; rintro e w4 ⟨rfl, hbx⟩; rw [hca])
                refine hK.out _ _ ?_ (fun hHeld => ?_)
                · (try dsimp only); exact ⟨⟨below_cell hbx hHeld.1.1, below_cell hbx hHeld.1.2.1, below_cell hbx hHeld.1.2.2⟩, ⟨below_cell hbx hHeld.2.1.1, below_cell hbx hHeld.2.1.2.1, below_cell hbx hHeld.2.1.2.2⟩, below_trans hHeld.2.2.out hbx⟩
                clear hK K
                (try simp only [Act.put, List.setIfInBounds_toArray, List.set_cons_zero, List.set_cons_succ, List.getElem_toArray, List.getElem_cons_zero, List.getElem_cons_succ])
                refine wpAnyH_take (i := 12) (v := ?v52) rfl (by kernel_rfl) (by kernel_rfl) (by kernel_rfl) (fun _ _ _ h => h) (Or.inl ⟨by rfl, ?hy52⟩) hHeld ?_
                case hy52 => (intro w hSw; (try dsimp only at hSw); go_simp; try with_reducible rfl)
                (try simp only [Act.put, List.setIfInBounds_toArray, List.set_cons_zero, List.set_cons_succ, List.getElem_toArray, List.getElem_cons_zero, List.getElem_cons_succ])
                refine wpAnyH_take (i := 13) (v := ?v53) rfl (by kernel_rfl) (by kernel_rfl) (by kernel_rfl) (fun _ _ _ h => h) (Or.inl ⟨by rfl, ?hy53⟩) hHeld ?_
                case hy53 => (intro w hSw; (try dsimp only at hSw); go_simp; try with_reducible rfl)
                (try simp only [Act.put, List.setIfInBounds_toArray, List.set_cons_zero, List.set_cons_succ, List.getElem_toArray, List.getElem_cons_zero, List.getElem_cons_succ])
                refine wpAnyH_take (i := 14) (v := ?v54) rfl (by kernel_rfl) (by kernel_rfl) (by kernel_rfl) (fun _ _ _ h => h) (Or.inl ⟨by rfl, ?hy54⟩) hHeld ?_
                case hy54 => (intro w hSw; (try dsimp only at hSw); go_simp; try with_reducible rfl)
                (try simp only [Act.put, List.setIfInBounds_toArray, List.set_cons_zero, List.set_cons_succ, List.getElem_toArray, List.getElem_cons_zero, List.getElem_cons_succ])
                refine wpAnyH_take (i := 15) (v := ?v55) rfl (by kernel_rfl) (by kernel_rfl) (by kernel_rfl) (fun _ _ _ h => h) (Or.inl ⟨by rfl, ?hy55⟩) hHeld ?_
                case hy55 => (intro w hSw; (try dsimp only at hSw); go_simp; try with_reducible rfl)
                (try simp only [Act.put, List.setIfInBounds_toArray, List.set_cons_zero, List.set_cons_succ, List.getElem_toArray, List.getElem_cons_zero, List.getElem_cons_succ])
                refine wpAnyH_take (i := 16) (v := ?v56) rfl (by kernel_rfl) (by kernel_rfl) (by kernel_rfl) (fun _ _ _ h => h) (Or.inl ⟨by rfl, ?hy56⟩) hHeld ?_
                case hy56 => (intro w hSw; (try dsimp only at hSw); go_simp; try with_reducible rfl)
                (try simp only [Act.put, List.setIfInBounds_toArray, List.set_cons_zero, List.set_cons_succ, List.getElem_toArray, List.getElem_cons_zero, List.getElem_cons_succ])
                refine wpAnyH_take (i := 17) (v := undef) rfl (by kernel_rfl) (by kernel_rfl) (by kernel_rfl) (fun _ _ _ h => h) (Or.inr ⟨by rfl, rfl⟩) hHeld ?_
                (try simp only [Act.put, List.setIfInBounds_toArray, List.set_cons_zero, List.set_cons_succ, List.getElem_toArray, List.getElem_cons_zero, List.getElem_cons_succ])
                refine wpAnyH_take (i := 18) (v := undef) rfl (by kernel_rfl) (by kernel_rfl) (by kernel_rfl) (fun _ _ _ h => h) (Or.inr ⟨by rfl, rfl⟩) hHeld ?_
                (try simp only [Act.put, List.setIfInBounds_toArray, List.set_cons_zero, List.set_cons_succ, List.getElem_toArray, List.getElem_cons_zero, List.getElem_cons_succ])
                refine wpAnyH_take (i := 19) (v := undef) rfl (by kernel_rfl) (by kernel_rfl) (by kernel_rfl) (fun _ _ _ h => h) (Or.inr ⟨by rfl, rfl⟩) hHeld ?_
                (try simp only [Act.put, List.setIfInBounds_toArray, List.set_cons_zero, List.set_cons_succ, List.getElem_toArray, List.getElem_cons_zero, List.getElem_cons_succ])
                refine wpAnyH_take (i := 20) (v := undef) rfl (by kernel_rfl) (by kernel_rfl) (by kernel_rfl) (fun _ _ _ h => h) (Or.inr ⟨by rfl, rfl⟩) hHeld ?_
                (try simp only [Act.put, List.setIfInBounds_toArray, List.set_cons_zero, List.set_cons_succ, List.getElem_toArray, List.getElem_cons_zero, List.getElem_cons_succ])
                refine wpAnyH_take (i := 21) (v := undef) rfl (by kernel_rfl) (by kernel_rfl) (by kernel_rfl) (fun _ _ _ h => h) (Or.inr ⟨by rfl, rfl⟩) hHeld ?_
                (try simp only [Act.put, List.setIfInBounds_toArray, List.set_cons_zero, List.set_cons_succ, List.getElem_toArray, List.getElem_cons_zero, List.getElem_cons_succ])
                refine wpAnyH_take (i := 22) (v := undef) rfl (by kernel_rfl) (by kernel_rfl) (by kernel_rfl) (fun _ _ _ h => h) (Or.inr ⟨by rfl, rfl⟩) hHeld ?_
                (try simp only [Act.put, List.setIfInBounds_toArray, List.set_cons_zero, List.set_cons_succ, List.getElem_toArray, List.getElem_cons_zero, List.getElem_cons_succ])
                refine wpAnyH_take (i := 23) (v := undef) rfl (by kernel_rfl) (by kernel_rfl) (by kernel_rfl) (fun _ _ _ h => h) (Or.inr ⟨by rfl, rfl⟩) hHeld ?_
                (try simp only [Act.put, List.setIfInBounds_toArray, List.set_cons_zero, List.set_cons_succ, List.getElem_toArray, List.getElem_cons_zero, List.getElem_cons_succ])
                refine wpAnyH_take (i := 24) (v := ?v57) rfl (by kernel_rfl) (by kernel_rfl) (by kernel_rfl) (fun _ _ _ h => h) (Or.inl ⟨by rfl, ?hy57⟩) hHeld ?_
                case hy57 => (intro w hSw; (try dsimp only at hSw); go_simp; try with_reducible rfl)
                (try simp only [Act.put, List.setIfInBounds_toArray, List.set_cons_zero, List.set_cons_succ, List.getElem_toArray, List.getElem_cons_zero, List.getElem_cons_succ])
                refine wpAnyH_take (i := 25) (v := ?v58) rfl (by kernel_rfl) (by kernel_rfl) (by kernel_rfl) (fun _ _ _ h => h) (Or.inl ⟨by rfl, ?hy58⟩) hHeld ?_
                case hy58 => (intro w hSw; (try dsimp only at hSw); go_simp; try with_reducible rfl)
                (try simp only [Act.put, List.setIfInBounds_toArray, List.set_cons_zero, List.set_cons_succ, List.getElem_toArray, List.getElem_cons_zero, List.getElem_cons_succ])
                refine wpAnyH_done (by kernel_rfl) ?_ _
                have HBE := Lib.hid hHeld.2.2.out
                clear hHeld
                go_wp2
                go_roundw
                case rel => exact ⟨k + 1, k, by omega, by go_num, rfl, fd_first hkL HCD.out HFD.out, below_trans HBC.out HBE.out⟩
                case measure => simp [intOf]; omega
              · obtain ⟨j, hfj, hjk⟩ : ∃ j : Nat, f = j ∧ j < k := by
                  rcases HFD.out with ⟨h1, _⟩ | ⟨j, h1, h2, _⟩
                  · exact absurd h1 hf
                  · exact ⟨j, h1, h2⟩
                subst hfj
                clear hf
                have hjF : j < F.length := by omega
                have hjL : j < L.length := by omega
                have hjn : decide ((j : Int) < 0) = false := by simp
                have HQJ := Lib.hid (HLG.out j hjF hjL)
                refine wp_region_held_drew (S := (fun w' => (w'.cell? ⟨bx, 0, none⟩ = some (.int .i64 q.t) ∧ w'.cell? ⟨bx, 1, none⟩ = some (.int .i64 q.w) ∧ w'.cell? ⟨bx, 2, none⟩ = some (.int .i64 q.r)) ∧ (w'.cell? ⟨b5, o5 + m * 3, none⟩ = some (.int .i64 a.t) ∧ w'.cell? ⟨b5, o5 + m * 3 + 1, none⟩ = some (.int .i64 a.w) ∧ w'.cell? ⟨b5, o5 + m * 3 + 2, none⟩ = some (.int .i64 a.r)) ∧ (w'.cell? ⟨b, o + j * 11, none⟩ = some (.int .i64 F[j].at_) ∧ w'.cell? ⟨b, o + j * 11 + 1, none⟩ = some (.int .i64 F[j].kind) ∧ w'.cell? ⟨b, o + j * 11 + 2, none⟩ = some (.int .i64 F[j].tbl) ∧ w'.cell? ⟨b, o + j * 11 + 3, none⟩ = some (.int .i64 F[j].wri) ∧ w'.cell? ⟨b, o + j * 11 + 4, none⟩ = some (.int .i64 F[j].rdr) ∧ w'.cell? ⟨b, o + j * 11 + 5, none⟩ = some (.int .i64 F[j].idx) ∧ w'.cell? ⟨b, o + j * 11 + 6, none⟩ = some (.int .i64 F[j].tok) ∧ w'.cell? ⟨b, o + j * 11 + 7, none⟩ = some (.int .i64 F[j].rnd) ∧ w'.cell? ⟨b, o + j * 11 + 8, none⟩ = some (.int .i64 F[j].rep) ∧ w'.cell? ⟨b, o + j * 11 + 9, none⟩ = some (.int .i64 F[j].ver) ∧ w'.cell? ⟨b, o + j * 11 + 10, none⟩ = some (.int .i64 F[j].hol)) ∧ Hid (Below wc.heap.size wc w'))) (by kernel_rfl) ?_ (fun hHeld => ?_)
                · (try dsimp only); exact ⟨⟨d0, d1, d2⟩, ⟨l0, l1, l2⟩, (PtsIn.below (w' := wc.drew) HPC.out (below_drewN (Below.refl _ _) 1)).cells hjF, below_drewN (Below.refl _ _) 1⟩
                refine wpAnyH_take (i := 0) (v := ?v59) rfl (by kernel_rfl) (by kernel_rfl) (by kernel_rfl) (fun _ _ _ h => h) (Or.inl ⟨by rfl, ?hy59⟩) hHeld ?_
                case hy59 => (intro w hSw; (try dsimp only at hSw); go_simp; try with_reducible rfl)
                (try simp only [Act.put, List.setIfInBounds_toArray, List.set_cons_zero, List.set_cons_succ, List.getElem_toArray, List.getElem_cons_zero])
                refine wpAnyH_take (i := 1) (v := ?v60) rfl (by kernel_rfl) (by kernel_rfl) (by kernel_rfl) (fun _ _ _ h => h) (Or.inl ⟨by rfl, ?hy60⟩) hHeld ?_
                case hy60 => (intro w hSw; (try dsimp only at hSw); go_simp; try with_reducible rfl)
                (try simp only [Act.put, List.setIfInBounds_toArray, List.set_cons_zero, List.set_cons_succ, List.getElem_toArray, List.getElem_cons_zero, List.getElem_cons_succ])
                refine wpAnyH_take (i := 2) (v := ?v61) rfl (by kernel_rfl) (by kernel_rfl) (by kernel_rfl) (fun _ _ _ h => h) (Or.inl ⟨by rfl, ?hy61⟩) hHeld ?_
                case hy61 => (intro w hSw; (try dsimp only at hSw); go_simp; try with_reducible rfl)
                (try simp only [Act.put, List.setIfInBounds_toArray, List.set_cons_zero, List.set_cons_succ, List.getElem_toArray, List.getElem_cons_zero, List.getElem_cons_succ])
                refine wpAnyH_take (i := 3) (v := ?v62) rfl (by kernel_rfl) (by kernel_rfl) (by kernel_rfl) (fun _ _ _ h => h) (Or.inl ⟨by rfl, ?hy62⟩) hHeld ?_
                case hy62 => (intro w hSw; (try dsimp only at hSw); go_simp; try with_reducible rfl)
                (try simp only [Act.put, List.setIfInBounds_toArray, List.set_cons_zero, List.set_cons_succ, List.getElem_toArray, List.getElem_cons_zero, List.getElem_cons_succ])
                refine wpAnyH_take (i := 4) (v := ?v63) rfl (by kernel_rfl) (by kernel_rfl) (by kernel_rfl) (fun _ _ _ h => h) (Or.inl ⟨by rfl, ?hy63⟩) hHeld ?_
                case hy63 => (intro w hSw; (try dsimp only at hSw); go_simp; try with_reducible rfl)
                (try simp only [Act.put, List.setIfInBounds_toArray, List.set_cons_zero, List.set_cons_succ, List.getElem_toArray, List.getElem_cons_zero, List.getElem_cons_succ])
                refine wpAnyH_take (i := 5) (v := ?v64) rfl (by kernel_rfl) (by kernel_rfl) (by kernel_rfl) (fun _ _ _ h => h) (Or.inl ⟨by rfl, ?hy64⟩) hHeld ?_
                case hy64 => (intro w hSw; (try dsimp only at hSw); go_simp; try with_reducible rfl)
                (try simp only [Act.put, List.setIfInBounds_toArray, List.set_cons_zero, List.set_cons_succ, List.getElem_toArray, List.getElem_cons_zero, List.getElem_cons_succ])
                refine wpAnyH_take (i := 6) (v := ?v65) rfl (by kernel_rfl) (by kernel_rfl) (by kernel_rfl) (fun _ _ _ h => h) (Or.inl ⟨by rfl, ?hy65⟩) hHeld ?_
                case hy65 => (intro w hSw; (try dsimp only at hSw); go_simp; try with_reducible rfl)
                (try simp only [Act.put, List.setIfInBounds_toArray, List.set_cons_zero, List.set_cons_succ, List.getElem_toArray, List.getElem_cons_zero, List.getElem_cons_succ])
                refine wpAnyH_take (i := 7) (v := ?v66) rfl (by kernel_rfl) (by kernel_rfl) (by kernel_rfl) (fun _ _ _ h => h) (Or.inl ⟨by rfl, ?hy66⟩) hHeld ?_
                case hy66 => (intro w hSw; (try dsimp only at hSw); go_simp; try with_reducible rfl)
                (try simp only [Act.put, List.setIfInBounds_toArray, List.set_cons_zero, List.set_cons_succ, List.getElem_toArray, List.getElem_cons_zero, List.getElem_cons_succ])
                refine wpAnyH_take (i := 8) (v := ?v67) rfl (by kernel_rfl) (by kernel_rfl) (by kernel_rfl) (fun _ _ _ h => h) (Or.inl ⟨by rfl, ?hy67⟩) hHeld ?_
                case hy67 => (intro w hSw; (try dsimp only at hSw); go_simp; try with_reducible rfl)
                (try simp only [Act.put, List.setIfInBounds_toArray, List.set_cons_zero, List.set_cons_succ, List.getElem_toArray, List.getElem_cons_zero, List.getElem_cons_succ])
                refine wpAnyH_take (i := 9) (v := ?v68) rfl (by kernel_rfl) (by kernel_rfl) (by kernel_rfl) (fun _ _ _ h => h) (Or.inl ⟨by rfl, ?hy68⟩) hHeld ?_
                case hy68 => (intro w hSw; (try dsimp only at hSw); go_simp; try with_reducible rfl)
                (try simp only [Act.put, List.setIfInBounds_toArray, List.set_cons_zero, List.set_cons_succ, List.getElem_toArray, List.getElem_cons_zero, List.getElem_cons_succ])
                refine wpAnyH_take (i := 10) (v := ?v69) rfl (by kernel_rfl) (by kernel_rfl) (by kernel_rfl) (fun _ _ _ h => h) (Or.inl ⟨by rfl, ?hy69⟩) hHeld ?_
                case hy69 => (intro w hSw; (try dsimp only at hSw); go_simp; try with_reducible rfl)
                (try simp only [Act.put, List.setIfInBounds_toArray, List.set_cons_zero, List.set_cons_succ, List.getElem_toArray, List.getElem_cons_zero, List.getElem_cons_succ])
                refine wpAnyH_ready (rs := [11]) (by kernel_rfl) (by simp) ?_
                refine (AllReadyH.cons rfl (fun K hK => ?_) AllReadyH.nil)
                go_simp
                (refine (less_any a q _).mono ?_; rintro e w5 ⟨rfl, hbx⟩; rw [hca])
                refine hK.out _ _ ?_ (fun hHeld => ?_)
                · (try dsimp only); exact ⟨⟨below_cell hbx hHeld.1.1, below_cell hbx hHeld.1.2.1, below_cell hbx hHeld.1.2.2⟩, ⟨below_cell hbx hHeld.2.1.1, below_cell hbx hHeld.2.1.2.1, below_cell hbx hHeld.2.1.2.2⟩, (HPC.out.below (below_trans hHeld.2.2.2.out hbx)).cells hjF, below_trans hHeld.2.2.2.out hbx⟩
                clear hK K
                (try simp only [Act.put, List.setIfInBounds_toArray, List.set_cons_zero, List.set_cons_succ, List.getElem_toArray, List.getElem_cons_zero, List.getElem_cons_succ])
                refine wpAnyH_take (i := 12) (v := ?v70) rfl (by kernel_rfl) (by kernel_rfl) (by kernel_rfl) (fun _ _ _ h => h) (Or.inl ⟨by rfl, ?hy70⟩) hHeld ?_
                case hy70 => (intro w hSw; (try dsimp only at hSw); go_simp; try with_reducible rfl)
                (try simp only [Act.put, List.setIfInBounds_toArray, List.set_cons_zero, List.set_cons_succ, List.getElem_toArray, List.getElem_cons_zero, List.getElem_cons_succ])
                refine wpAnyH_take (i := 13) (v := ?v71) rfl (by kernel_rfl) (by kernel_rfl) (by kernel_rfl) (fun _ _ _ h => h) (Or.inl ⟨by rfl, ?hy71⟩) hHeld ?_
                case hy71 => (intro w hSw; (try dsimp only at hSw); go_simp; try with_reducible rfl)
                (try simp only [Act.put, List.setIfInBounds_toArray, List.set_cons_zero, List.set_cons_succ, List.getElem_toArray, List.getElem_cons_zero, List.getElem_cons_succ])
                refine wpAnyH_take (i := 14) (v := ?v72) rfl (by kernel_rfl) (by kernel_rfl) (by kernel_rfl) (fun _ _ _ h => h) (Or.inl ⟨by rfl, ?hy72⟩) hHeld ?_
                case hy72 => (intro w hSw; (try dsimp only at hSw); go_simp; try with_reducible rfl)
                (try simp only [Act.put, List.setIfInBounds_toArray, List.set_cons_zero, List.set_cons_succ, List.getElem_toArray, List.getElem_cons_zero, List.getElem_cons_succ])
                refine wpAnyH_take (i := 15) (v := ?v73) rfl (by kernel_rfl) (by kernel_rfl) (by kernel_rfl) (fun _ _ _ h => h) (Or.inl ⟨by rfl, ?hy73⟩) hHeld ?_
                case hy73 => (intro w hSw; (try dsimp only at hSw); go_simp; try with_reducible rfl)
                (try simp only [Act.put, List.setIfInBounds_toArray, List.set_cons_zero, List.set_cons_succ, List.getElem_toArray, List.getElem_cons_zero, List.getElem_cons_succ])
                refine wpAnyH_take (i := 16) (v := ?v74) rfl (by kernel_rfl) (by kernel_rfl) (by kernel_rfl) (fun _ _ _ h => h) (Or.inl ⟨by rfl, ?hy74⟩) hHeld ?_
                case hy74 => (intro w hSw; (try dsimp only at hSw); go_simp; try with_reducible rfl)
                (try simp only [Act.put, List.setIfInBounds_toArray, List.set_cons_zero, List.set_cons_succ, List.getElem_toArray, List.getElem_cons_zero, List.getElem_cons_succ])
                refine wpAnyH_take (i := 17) (v := ?v75) rfl (by kernel_rfl) (by kernel_rfl) (by kernel_rfl) (fun _ _ _ h => h) (Or.inl ⟨by rfl, ?hy75⟩) hHeld ?_
                case hy75 => (intro w hSw; (try dsimp only at hSw); go_simp; try with_reducible rfl)
                (try simp only [Act.put, List.setIfInBounds_toArray, List.set_cons_zero, List.set_cons_succ, List.getElem_toArray, List.getElem_cons_zero, List.getElem_cons_succ])
                refine wpAnyH_take (i := 18) (v := ?v76) rfl (by kernel_rfl) (by kernel_rfl) (by kernel_rfl) (fun _ _ _ h => h) (Or.inl ⟨by rfl, ?hy76⟩) hHeld ?_
                case hy76 => (intro w hSw; (try dsimp only at hSw); go_simp; try with_reducible rfl)
                (try simp only [Act.put, List.setIfInBounds_toArray, List.set_cons_zero, List.set_cons_succ, List.getElem_toArray, List.getElem_cons_zero, List.getElem_cons_succ])
                refine wpAnyH_take (i := 19) (v := ?v77) rfl (by kernel_rfl) (by kernel_rfl) (by kernel_rfl) (fun _ _ _ h => h) (Or.inl ⟨by rfl, ?hy77⟩) hHeld ?_
                case hy77 => (intro w hSw; (try dsimp only at hSw); go_simp; try with_reducible rfl)
                (try simp only [Act.put, List.setIfInBounds_toArray, List.set_cons_zero, List.set_cons_succ, List.getElem_toArray, List.getElem_cons_zero, List.getElem_cons_succ])
                refine wpAnyH_take (i := 20) (v := ?v78) rfl (by kernel_rfl) (by kernel_rfl) (by kernel_rfl) (fun _ _ _ h => h) (Or.inl ⟨by rfl, ?hy78⟩) hHeld ?_
                case hy78 => (intro w hSw; (try dsimp only at hSw); go_simp; try with_reducible rfl)
                (try simp only [Act.put, List.setIfInBounds_toArray, List.set_cons_zero, List.set_cons_succ, List.getElem_toArray, List.getElem_cons_zero, List.getElem_cons_succ])
                refine wpAnyH_take (i := 21) (v := ?v79) rfl (by kernel_rfl) (by kernel_rfl) (by kernel_rfl) (fun _ _ _ h => h) (Or.inl ⟨by rfl, ?hy79⟩) hHeld ?_
                case hy79 => (intro w hSw; (try dsimp only at hSw); go_simp; try with_reducible rfl)
                (try simp only [Act.put, List.setIfInBounds_toArray, List.set_cons_zero, List.set_cons_succ, List.getElem_toArray, List.getElem_cons_zero, List.getElem_cons_succ])
                refine wpAnyH_ready (rs := [22]) (by kernel_rfl) (by simp) ?_
                refine (AllReadyH.cons rfl (fun K hK => ?_) AllReadyH.nil)
                go_simp
                (refine (reading_any F[j] _).mono ?_; rintro e w3 ⟨rfl, hbx⟩)
                refine hK.out _ _ ?_ (fun hHeld => ?_)
                · (try dsimp only); exact ⟨⟨below_cell hbx hHeld.1.1, below_cell hbx hHeld.1.2.1, below_cell hbx hHeld.1.2.2⟩, ⟨below_cell hbx hHeld.2.1.1, below_cell hbx hHeld.2.1.2.1, below_cell hbx hHeld.2.1.2.2⟩, (HPC.out.below (below_trans hHeld.2.2.2.out hbx)).cells hjF, below_trans hHeld.2.2.2.out hbx⟩
                clear hK K
                (try simp only [Act.put, List.setIfInBounds_toArray, List.set_cons_zero, List.set_cons_succ, List.getElem_toArray, List.getElem_cons_zero, List.getElem_cons_succ])
                refine wpAnyH_ready (rs := [23]) (by kernel_rfl) (by simp) ?_
                refine (AllReadyH.cons rfl (fun K hK => ?_) AllReadyH.nil)
                go_simp
                (refine (less_any q (cfOf F[j]) _).mono ?_; rintro e w4 ⟨rfl, hbx⟩)
                refine hK.out _ _ ?_ (fun hHeld => ?_)
                · (try dsimp only); exact ⟨⟨below_cell hbx hHeld.1.1, below_cell hbx hHeld.1.2.1, below_cell hbx hHeld.1.2.2⟩, ⟨below_cell hbx hHeld.2.1.1, below_cell hbx hHeld.2.1.2.1, below_cell hbx hHeld.2.1.2.2⟩, (HPC.out.below (below_trans hHeld.2.2.2.out hbx)).cells hjF, below_trans hHeld.2.2.2.out hbx⟩
                clear hK K
                (try simp only [Act.put, List.setIfInBounds_toArray, List.set_cons_zero, List.set_cons_succ, List.getElem_toArray, List.getElem_cons_zero, List.getElem_cons_succ])
                refine wpAnyH_take (i := 24) (v := ?v80) rfl (by kernel_rfl) (by kernel_rfl) (by kernel_rfl) (fun _ _ _ h => h) (Or.inl ⟨by rfl, ?hy80⟩) hHeld ?_
                case hy80 => (intro w hSw; (try dsimp only at hSw); go_simp; try with_reducible rfl)
                (try simp only [Act.put, List.setIfInBounds_toArray, List.set_cons_zero, List.set_cons_succ, List.getElem_toArray, List.getElem_cons_zero, List.getElem_cons_succ])
                refine wpAnyH_take (i := 25) (v := ?v81) rfl (by kernel_rfl) (by kernel_rfl) (by kernel_rfl) (fun _ _ _ h => h) (Or.inl ⟨by rfl, ?hy81⟩) hHeld ?_
                case hy81 => (intro w hSw; (try dsimp only at hSw); go_simp; try with_reducible rfl)
                (try simp only [Act.put, List.setIfInBounds_toArray, List.set_cons_zero, List.set_cons_succ, List.getElem_toArray, List.getElem_cons_zero, List.getElem_cons_succ])
                refine wpAnyH_done (by kernel_rfl) ?_ _
                have HBE := Lib.hid hHeld.2.2.2.out
                clear hHeld
                cases hb : ltC q (cfOf F[j]) with
                | true =>
                  have HLT : Hid (ltC L[k] L[j] = true) := by rw [← HQ.out, ← HQJ.out]; exact hb
                  clear hb
                  go_wp2
                  go_roundw
                  case rel => exact ⟨k + 1, k, by omega, by go_num, rfl, fd_less hkL hjL HCD.out HLT.out HFD.out, below_trans HBC.out HBE.out⟩
                  case measure => simp [intOf]; omega
                | false =>
                  have HLT : Hid (ltC L[k] L[j] = false) := by rw [← HQ.out, ← HQJ.out]; exact hb
                  clear hb
                  go_wp2
                  go_roundw
                  case rel => exact ⟨k + 1, j, by omega, by go_num, rfl, fd_not hkL hjL HLT.out HFD.out, below_trans HBC.out HBE.out⟩
                  case measure => simp [intOf]; omega
        · have HFE : Hid (FdSt As L L.length f) := by rw [HLL.out, ← show k = F.length by omega]; exact hq.out.1
          have HBQ := Lib.hid hq.out.2
          clear hq
          rcases Classical.em (f = -1) with hf | hf
          · subst hf
            go_wp2
            go_ret2
            obtain ⟨AB, cB, eB, hrB⟩ := OwnJ.reads (ownsRow_belowE hh.out.oj HBQ.out)
            subst eB
            exact ⟨AA, AB, cA, cB, As, _, (by rw [HAL.out]; rfl), (by rw [HRL.out]; exact rdOut_of hh.out.st (as_done hh.out.st HFE.out)), HRA.out.below HBQ.out, hrB, below_trans HB1.out (below_trans hh.out.bel HBQ.out)⟩
          · obtain ⟨j, hfj, hjL⟩ : ∃ j : Nat, f = j ∧ j < L.length := by
              rcases HFE.out with ⟨h1, _⟩ | ⟨j, h1, h2, _⟩
              · exact absurd h1 hf
              · exact ⟨j, h1, h2⟩
            subst hfj
            clear hf
            have hjF : j < F.length := by rw [← HLL.out]; exact hjL
            have hjn : decide ((j : Int) < 0) = false := by simp
            have HQJ := Lib.hid (HLG.out j hjF hjL)
            obtain ⟨b, o, rfl, hin, c0, c1, c2, c3, c4, c5, c6, c7, c8, c9, c10⟩ := ((HR1.out.below hh.out.bel).below HBQ.out).at_ hjF
            have HIN := Lib.hid hin
            clear hin c0 c1 c2 c3 c4 c5 c6 c7 c8 c9 c10
            go_wp2
            go_loopw [11, 10] (fun s11 s10 wr => ∃ (k2 n : Nat), k2 ≤ F.length ∧ n ≤ k2 ∧ s11 = .int .i64 k2 ∧ s10 = .int .i64 n ∧ Hid (n = (L.take k2).count L[j] ∧ Below wp.heap.size wp wr)) (fun s11 _ _ => F.length - (intOf s11).toNat)
            case atStart => exact ⟨0, 0, by omega, by omega, rfl, rfl, by simp, Below.refl _ _⟩
            case round =>
              obtain ⟨k2, n, hk2, hnk, rfl, rfl, hr⟩ := hrel
              obtain ⟨wq, rfl⟩ : ∃ wq : World, wq = wr := ⟨_, rfl⟩
              have HPQ := Lib.hid (HIN.out.below hr.out.2)
              by_cases hk2l : k2 < F.length
              · have hk2L : k2 < L.length := by rw [HLL.out]; exact hk2l
                have HQK := Lib.hid (HLG.out k2 hk2l hk2L)
                by_cases he : cfOf F[k2] = cfOf F[j]
                · have heq : ∀ w, (binOp .eql 75 (cfOf F[k2]).v (cfOf F[j]).v).run Tryd.prog w = .ok (.bool true) w := fun w => by rw [run_eql_cf, decide_eq_true he]
                  have HCN := Lib.hid (show n + 1 = (L.take (k2 + 1)).count L[j] by
                    have h0 : L[k2] = L[j] := by rw [← HQK.out, ← HQJ.out, he]
                    rw [List.take_succ_eq_append_getElem hk2L, List.count_append, hr.out.1, h0, List.count_singleton_self])
                  have g1 : IntKind.i64.wrap ((n : Int) + 1) = ((n + 1 : Nat) : Int) := by rw [IntWalk.i64_in _ (by omega)]; rfl
                  clear he
                  go_wp2_with fail
                  refine wp_region_held_drew (S := (fun w' => (w'.cell? ⟨b, o + k2 * 11, none⟩ = some (.int .i64 F[k2].at_) ∧ w'.cell? ⟨b, o + k2 * 11 + 1, none⟩ = some (.int .i64 F[k2].kind) ∧ w'.cell? ⟨b, o + k2 * 11 + 2, none⟩ = some (.int .i64 F[k2].tbl) ∧ w'.cell? ⟨b, o + k2 * 11 + 3, none⟩ = some (.int .i64 F[k2].wri) ∧ w'.cell? ⟨b, o + k2 * 11 + 4, none⟩ = some (.int .i64 F[k2].rdr) ∧ w'.cell? ⟨b, o + k2 * 11 + 5, none⟩ = some (.int .i64 F[k2].idx) ∧ w'.cell? ⟨b, o + k2 * 11 + 6, none⟩ = some (.int .i64 F[k2].tok) ∧ w'.cell? ⟨b, o + k2 * 11 + 7, none⟩ = some (.int .i64 F[k2].rnd) ∧ w'.cell? ⟨b, o + k2 * 11 + 8, none⟩ = some (.int .i64 F[k2].rep) ∧ w'.cell? ⟨b, o + k2 * 11 + 9, none⟩ = some (.int .i64 F[k2].ver) ∧ w'.cell? ⟨b, o + k2 * 11 + 10, none⟩ = some (.int .i64 F[k2].hol)) ∧ (w'.cell? ⟨b, o + j * 11, none⟩ = some (.int .i64 F[j].at_) ∧ w'.cell? ⟨b, o + j * 11 + 1, none⟩ = some (.int .i64 F[j].kind) ∧ w'.cell? ⟨b, o + j * 11 + 2, none⟩ = some (.int .i64 F[j].tbl) ∧ w'.cell? ⟨b, o + j * 11 + 3, none⟩ = some (.int .i64 F[j].wri) ∧ w'.cell? ⟨b, o + j * 11 + 4, none⟩ = some (.int .i64 F[j].rdr) ∧ w'.cell? ⟨b, o + j * 11 + 5, none⟩ = some (.int .i64 F[j].idx) ∧ w'.cell? ⟨b, o + j * 11 + 6, none⟩ = some (.int .i64 F[j].tok) ∧ w'.cell? ⟨b, o + j * 11 + 7, none⟩ = some (.int .i64 F[j].rnd) ∧ w'.cell? ⟨b, o + j * 11 + 8, none⟩ = some (.int .i64 F[j].rep) ∧ w'.cell? ⟨b, o + j * 11 + 9, none⟩ = some (.int .i64 F[j].ver) ∧ w'.cell? ⟨b, o + j * 11 + 10, none⟩ = some (.int .i64 F[j].hol)) ∧ Hid (Below wq.heap.size wq w'))) (by kernel_rfl) ?_ (fun hHeld => ?_)
                  · (try dsimp only); exact ⟨(PtsIn.below (w' := wq.drew) HPQ.out (below_drewN (Below.refl _ _) 1)).cells hk2l, (PtsIn.below (w' := wq.drew) HPQ.out (below_drewN (Below.refl _ _) 1)).cells hjF, below_drewN (Below.refl _ _) 1⟩
                  refine wpAnyH_take (i := 0) (v := ?v82) rfl (by kernel_rfl) (by kernel_rfl) (by kernel_rfl) (fun _ _ _ h => h) (Or.inl ⟨by rfl, ?hy82⟩) hHeld ?_
                  case hy82 => (intro w hSw; (try dsimp only at hSw); go_simp; try with_reducible rfl)
                  (try simp only [Act.put, List.setIfInBounds_toArray, List.set_cons_zero, List.set_cons_succ, List.getElem_toArray, List.getElem_cons_zero])
                  refine wpAnyH_take (i := 1) (v := ?v83) rfl (by kernel_rfl) (by kernel_rfl) (by kernel_rfl) (fun _ _ _ h => h) (Or.inl ⟨by rfl, ?hy83⟩) hHeld ?_
                  case hy83 => (intro w hSw; (try dsimp only at hSw); go_simp; try with_reducible rfl)
                  (try simp only [Act.put, List.setIfInBounds_toArray, List.set_cons_zero, List.set_cons_succ, List.getElem_toArray, List.getElem_cons_zero, List.getElem_cons_succ])
                  refine wpAnyH_take (i := 2) (v := ?v84) rfl (by kernel_rfl) (by kernel_rfl) (by kernel_rfl) (fun _ _ _ h => h) (Or.inl ⟨by rfl, ?hy84⟩) hHeld ?_
                  case hy84 => (intro w hSw; (try dsimp only at hSw); go_simp; try with_reducible rfl)
                  (try simp only [Act.put, List.setIfInBounds_toArray, List.set_cons_zero, List.set_cons_succ, List.getElem_toArray, List.getElem_cons_zero, List.getElem_cons_succ])
                  refine wpAnyH_take (i := 3) (v := ?v85) rfl (by kernel_rfl) (by kernel_rfl) (by kernel_rfl) (fun _ _ _ h => h) (Or.inl ⟨by rfl, ?hy85⟩) hHeld ?_
                  case hy85 => (intro w hSw; (try dsimp only at hSw); go_simp; try with_reducible rfl)
                  (try simp only [Act.put, List.setIfInBounds_toArray, List.set_cons_zero, List.set_cons_succ, List.getElem_toArray, List.getElem_cons_zero, List.getElem_cons_succ])
                  refine wpAnyH_take (i := 5) (v := ?v86) rfl (by kernel_rfl) (by kernel_rfl) (by kernel_rfl) (fun _ _ _ h => h) (Or.inl ⟨by rfl, ?hy86⟩) hHeld ?_
                  case hy86 => (intro w hSw; (try dsimp only at hSw); go_simp; try with_reducible rfl)
                  (try simp only [Act.put, List.setIfInBounds_toArray, List.set_cons_zero, List.set_cons_succ, List.getElem_toArray, List.getElem_cons_zero, List.getElem_cons_succ])
                  refine wpAnyH_take (i := 6) (v := ?v87) rfl (by kernel_rfl) (by kernel_rfl) (by kernel_rfl) (fun _ _ _ h => h) (Or.inl ⟨by rfl, ?hy87⟩) hHeld ?_
                  case hy87 => (intro w hSw; (try dsimp only at hSw); go_simp; try with_reducible rfl)
                  (try simp only [Act.put, List.setIfInBounds_toArray, List.set_cons_zero, List.set_cons_succ, List.getElem_toArray, List.getElem_cons_zero, List.getElem_cons_succ])
                  refine wpAnyH_take (i := 7) (v := ?v88) rfl (by kernel_rfl) (by kernel_rfl) (by kernel_rfl) (fun _ _ _ h => h) (Or.inl ⟨by rfl, ?hy88⟩) hHeld ?_
                  case hy88 => (intro w hSw; (try dsimp only at hSw); go_simp; try with_reducible rfl)
                  (try simp only [Act.put, List.setIfInBounds_toArray, List.set_cons_zero, List.set_cons_succ, List.getElem_toArray, List.getElem_cons_zero, List.getElem_cons_succ])
                  refine wpAnyH_take (i := 8) (v := ?v89) rfl (by kernel_rfl) (by kernel_rfl) (by kernel_rfl) (fun _ _ _ h => h) (Or.inl ⟨by rfl, ?hy89⟩) hHeld ?_
                  case hy89 => (intro w hSw; (try dsimp only at hSw); go_simp; try with_reducible rfl)
                  (try simp only [Act.put, List.setIfInBounds_toArray, List.set_cons_zero, List.set_cons_succ, List.getElem_toArray, List.getElem_cons_zero, List.getElem_cons_succ])
                  refine wpAnyH_ready (rs := [4]) (by kernel_rfl) (by simp) ?_
                  refine (AllReadyH.cons rfl (fun K hK => ?_) AllReadyH.nil)
                  go_simp
                  (refine (reading_any F[k2] _).mono ?_; rintro e w3 ⟨rfl, hbx⟩)
                  refine hK.out _ _ ?_ (fun hHeld => ?_)
                  · (try dsimp only); exact ⟨(HPQ.out.below (below_trans hHeld.2.2.out hbx)).cells hk2l, (HPQ.out.below (below_trans hHeld.2.2.out hbx)).cells hjF, below_trans hHeld.2.2.out hbx⟩
                  clear hK K
                  (try simp only [Act.put, List.setIfInBounds_toArray, List.set_cons_zero, List.set_cons_succ, List.getElem_toArray, List.getElem_cons_zero, List.getElem_cons_succ])
                  refine wpAnyH_ready (rs := [9]) (by kernel_rfl) (by simp) ?_
                  refine (AllReadyH.cons rfl (fun K hK => ?_) AllReadyH.nil)
                  go_simp
                  (refine (reading_any F[j] _).mono ?_; rintro e w4 ⟨rfl, hbx⟩)
                  refine hK.out _ _ ?_ (fun hHeld => ?_)
                  · (try dsimp only); exact ⟨(HPQ.out.below (below_trans hHeld.2.2.out hbx)).cells hk2l, (HPQ.out.below (below_trans hHeld.2.2.out hbx)).cells hjF, below_trans hHeld.2.2.out hbx⟩
                  clear hK K
                  (try simp only [Act.put, List.setIfInBounds_toArray, List.set_cons_zero, List.set_cons_succ, List.getElem_toArray, List.getElem_cons_zero, List.getElem_cons_succ])
                  refine wpAnyH_take (i := 10) (v := ?v90) rfl (by kernel_rfl) (by kernel_rfl) (by kernel_rfl) (fun _ _ _ h => h) (Or.inl ⟨by rfl, ?hy90⟩) hHeld ?_
                  case hy90 => (intro w hSw; (try dsimp only at hSw); go_simp; try with_reducible rfl)
                  (try simp only [Act.put, List.setIfInBounds_toArray, List.set_cons_zero, List.set_cons_succ, List.getElem_toArray, List.getElem_cons_zero, List.getElem_cons_succ])
                  refine wpAnyH_done (by kernel_rfl) ?_ _
                  have HBE := Lib.hid hHeld.2.2.out
                  clear hHeld
                  go_wp2
                  go_roundw
                  case rel => exact ⟨k2 + 1, n + 1, by omega, by omega, by go_num, rfl, HCN.out, below_trans hr.out.2 HBE.out⟩
                  case measure => simp [intOf]; omega
                · have heq : ∀ w, (binOp .eql 75 (cfOf F[k2]).v (cfOf F[j]).v).run Tryd.prog w = .ok (.bool false) w := fun w => by rw [run_eql_cf, decide_eq_false he]
                  have HCN := Lib.hid (show n = (L.take (k2 + 1)).count L[j] by
                    have h0 : ¬ L[j] = L[k2] := by rw [← HQK.out, ← HQJ.out]; exact fun e => he e.symm
                    rw [List.take_succ_eq_append_getElem hk2L, List.count_append, ← hr.out.1, List.count_eq_zero_of_not_mem (l := [L[k2]]) (fun hm => h0 (List.mem_singleton.1 hm))]; rfl)
                  clear he
                  go_wp2_with fail
                  refine wp_region_held_drew (S := (fun w' => (w'.cell? ⟨b, o + k2 * 11, none⟩ = some (.int .i64 F[k2].at_) ∧ w'.cell? ⟨b, o + k2 * 11 + 1, none⟩ = some (.int .i64 F[k2].kind) ∧ w'.cell? ⟨b, o + k2 * 11 + 2, none⟩ = some (.int .i64 F[k2].tbl) ∧ w'.cell? ⟨b, o + k2 * 11 + 3, none⟩ = some (.int .i64 F[k2].wri) ∧ w'.cell? ⟨b, o + k2 * 11 + 4, none⟩ = some (.int .i64 F[k2].rdr) ∧ w'.cell? ⟨b, o + k2 * 11 + 5, none⟩ = some (.int .i64 F[k2].idx) ∧ w'.cell? ⟨b, o + k2 * 11 + 6, none⟩ = some (.int .i64 F[k2].tok) ∧ w'.cell? ⟨b, o + k2 * 11 + 7, none⟩ = some (.int .i64 F[k2].rnd) ∧ w'.cell? ⟨b, o + k2 * 11 + 8, none⟩ = some (.int .i64 F[k2].rep) ∧ w'.cell? ⟨b, o + k2 * 11 + 9, none⟩ = some (.int .i64 F[k2].ver) ∧ w'.cell? ⟨b, o + k2 * 11 + 10, none⟩ = some (.int .i64 F[k2].hol)) ∧ (w'.cell? ⟨b, o + j * 11, none⟩ = some (.int .i64 F[j].at_) ∧ w'.cell? ⟨b, o + j * 11 + 1, none⟩ = some (.int .i64 F[j].kind) ∧ w'.cell? ⟨b, o + j * 11 + 2, none⟩ = some (.int .i64 F[j].tbl) ∧ w'.cell? ⟨b, o + j * 11 + 3, none⟩ = some (.int .i64 F[j].wri) ∧ w'.cell? ⟨b, o + j * 11 + 4, none⟩ = some (.int .i64 F[j].rdr) ∧ w'.cell? ⟨b, o + j * 11 + 5, none⟩ = some (.int .i64 F[j].idx) ∧ w'.cell? ⟨b, o + j * 11 + 6, none⟩ = some (.int .i64 F[j].tok) ∧ w'.cell? ⟨b, o + j * 11 + 7, none⟩ = some (.int .i64 F[j].rnd) ∧ w'.cell? ⟨b, o + j * 11 + 8, none⟩ = some (.int .i64 F[j].rep) ∧ w'.cell? ⟨b, o + j * 11 + 9, none⟩ = some (.int .i64 F[j].ver) ∧ w'.cell? ⟨b, o + j * 11 + 10, none⟩ = some (.int .i64 F[j].hol)) ∧ Hid (Below wq.heap.size wq w'))) (by kernel_rfl) ?_ (fun hHeld => ?_)
                  · (try dsimp only); exact ⟨(PtsIn.below (w' := wq.drew) HPQ.out (below_drewN (Below.refl _ _) 1)).cells hk2l, (PtsIn.below (w' := wq.drew) HPQ.out (below_drewN (Below.refl _ _) 1)).cells hjF, below_drewN (Below.refl _ _) 1⟩
                  refine wpAnyH_take (i := 0) (v := ?v91) rfl (by kernel_rfl) (by kernel_rfl) (by kernel_rfl) (fun _ _ _ h => h) (Or.inl ⟨by rfl, ?hy91⟩) hHeld ?_
                  case hy91 => (intro w hSw; (try dsimp only at hSw); go_simp; try with_reducible rfl)
                  (try simp only [Act.put, List.setIfInBounds_toArray, List.set_cons_zero, List.set_cons_succ, List.getElem_toArray, List.getElem_cons_zero])
                  refine wpAnyH_take (i := 1) (v := ?v92) rfl (by kernel_rfl) (by kernel_rfl) (by kernel_rfl) (fun _ _ _ h => h) (Or.inl ⟨by rfl, ?hy92⟩) hHeld ?_
                  case hy92 => (intro w hSw; (try dsimp only at hSw); go_simp; try with_reducible rfl)
                  (try simp only [Act.put, List.setIfInBounds_toArray, List.set_cons_zero, List.set_cons_succ, List.getElem_toArray, List.getElem_cons_zero, List.getElem_cons_succ])
                  refine wpAnyH_take (i := 2) (v := ?v93) rfl (by kernel_rfl) (by kernel_rfl) (by kernel_rfl) (fun _ _ _ h => h) (Or.inl ⟨by rfl, ?hy93⟩) hHeld ?_
                  case hy93 => (intro w hSw; (try dsimp only at hSw); go_simp; try with_reducible rfl)
                  (try simp only [Act.put, List.setIfInBounds_toArray, List.set_cons_zero, List.set_cons_succ, List.getElem_toArray, List.getElem_cons_zero, List.getElem_cons_succ])
                  refine wpAnyH_take (i := 3) (v := ?v94) rfl (by kernel_rfl) (by kernel_rfl) (by kernel_rfl) (fun _ _ _ h => h) (Or.inl ⟨by rfl, ?hy94⟩) hHeld ?_
                  case hy94 => (intro w hSw; (try dsimp only at hSw); go_simp; try with_reducible rfl)
                  (try simp only [Act.put, List.setIfInBounds_toArray, List.set_cons_zero, List.set_cons_succ, List.getElem_toArray, List.getElem_cons_zero, List.getElem_cons_succ])
                  refine wpAnyH_take (i := 5) (v := ?v95) rfl (by kernel_rfl) (by kernel_rfl) (by kernel_rfl) (fun _ _ _ h => h) (Or.inl ⟨by rfl, ?hy95⟩) hHeld ?_
                  case hy95 => (intro w hSw; (try dsimp only at hSw); go_simp; try with_reducible rfl)
                  (try simp only [Act.put, List.setIfInBounds_toArray, List.set_cons_zero, List.set_cons_succ, List.getElem_toArray, List.getElem_cons_zero, List.getElem_cons_succ])
                  refine wpAnyH_take (i := 6) (v := ?v96) rfl (by kernel_rfl) (by kernel_rfl) (by kernel_rfl) (fun _ _ _ h => h) (Or.inl ⟨by rfl, ?hy96⟩) hHeld ?_
                  case hy96 => (intro w hSw; (try dsimp only at hSw); go_simp; try with_reducible rfl)
                  (try simp only [Act.put, List.setIfInBounds_toArray, List.set_cons_zero, List.set_cons_succ, List.getElem_toArray, List.getElem_cons_zero, List.getElem_cons_succ])
                  refine wpAnyH_take (i := 7) (v := ?v97) rfl (by kernel_rfl) (by kernel_rfl) (by kernel_rfl) (fun _ _ _ h => h) (Or.inl ⟨by rfl, ?hy97⟩) hHeld ?_
                  case hy97 => (intro w hSw; (try dsimp only at hSw); go_simp; try with_reducible rfl)
                  (try simp only [Act.put, List.setIfInBounds_toArray, List.set_cons_zero, List.set_cons_succ, List.getElem_toArray, List.getElem_cons_zero, List.getElem_cons_succ])
                  refine wpAnyH_take (i := 8) (v := ?v98) rfl (by kernel_rfl) (by kernel_rfl) (by kernel_rfl) (fun _ _ _ h => h) (Or.inl ⟨by rfl, ?hy98⟩) hHeld ?_
                  case hy98 => (intro w hSw; (try dsimp only at hSw); go_simp; try with_reducible rfl)
                  (try simp only [Act.put, List.setIfInBounds_toArray, List.set_cons_zero, List.set_cons_succ, List.getElem_toArray, List.getElem_cons_zero, List.getElem_cons_succ])
                  refine wpAnyH_ready (rs := [4]) (by kernel_rfl) (by simp) ?_
                  refine (AllReadyH.cons rfl (fun K hK => ?_) AllReadyH.nil)
                  go_simp
                  (refine (reading_any F[k2] _).mono ?_; rintro e w3 ⟨rfl, hbx⟩)
                  refine hK.out _ _ ?_ (fun hHeld => ?_)
                  · (try dsimp only); exact ⟨(HPQ.out.below (below_trans hHeld.2.2.out hbx)).cells hk2l, (HPQ.out.below (below_trans hHeld.2.2.out hbx)).cells hjF, below_trans hHeld.2.2.out hbx⟩
                  clear hK K
                  (try simp only [Act.put, List.setIfInBounds_toArray, List.set_cons_zero, List.set_cons_succ, List.getElem_toArray, List.getElem_cons_zero, List.getElem_cons_succ])
                  refine wpAnyH_ready (rs := [9]) (by kernel_rfl) (by simp) ?_
                  refine (AllReadyH.cons rfl (fun K hK => ?_) AllReadyH.nil)
                  go_simp
                  (refine (reading_any F[j] _).mono ?_; rintro e w4 ⟨rfl, hbx⟩)
                  refine hK.out _ _ ?_ (fun hHeld => ?_)
                  · (try dsimp only); exact ⟨(HPQ.out.below (below_trans hHeld.2.2.out hbx)).cells hk2l, (HPQ.out.below (below_trans hHeld.2.2.out hbx)).cells hjF, below_trans hHeld.2.2.out hbx⟩
                  clear hK K
                  (try simp only [Act.put, List.setIfInBounds_toArray, List.set_cons_zero, List.set_cons_succ, List.getElem_toArray, List.getElem_cons_zero, List.getElem_cons_succ])
                  refine wpAnyH_take (i := 10) (v := ?v99) rfl (by kernel_rfl) (by kernel_rfl) (by kernel_rfl) (fun _ _ _ h => h) (Or.inl ⟨by rfl, ?hy99⟩) hHeld ?_
                  case hy99 => (intro w hSw; (try dsimp only at hSw); go_simp; try with_reducible rfl)
                  (try simp only [Act.put, List.setIfInBounds_toArray, List.set_cons_zero, List.set_cons_succ, List.getElem_toArray, List.getElem_cons_zero, List.getElem_cons_succ])
                  refine wpAnyH_done (by kernel_rfl) ?_ _
                  have HBE := Lib.hid hHeld.2.2.out
                  clear hHeld
                  go_wp2
                  go_roundw
                  case rel => exact ⟨k2 + 1, n, by omega, by omega, by go_num, rfl, HCN.out, below_trans hr.out.2 HBE.out⟩
                  case measure => simp [intOf]; omega
              · have HCN : Hid (n = L.count L[j]) := by
                  have h := hr.out.1
                  rw [show k2 = L.length by rw [HLL.out]; omega, List.take_length] at h
                  exact h
                have HBZ := Lib.hid (below_trans HBQ.out hr.out.2)
                clear hr
                obtain ⟨c0, c1, c2, c3, c4, c5, c6, c7, c8, c9, c10⟩ := HPQ.out.cells hjF
                go_wp2_with fail
                refine (reading_any F[j] _).mono ?_
                rintro e w5 ⟨rfl, hb5⟩
                clear c0 c1 c2 c3 c4 c5 c6 c7 c8 c9 c10
                have HB5 := Lib.hid (below_trans HBZ.out hb5)
                clear hb5
                generalize hqe : cfOf F[j] = q
                have HQ : Hid (q = L[j]) := by rw [← hqe]; exact HQJ.out
                clear hqe
                have HW5 := Lib.hid (below_trans hh.out.bel HB5.out)
                have HOC5 := Lib.hid (World.ownsRow.alloc (ownsRow_belowE hh.out.oc HB5.out) q.box)
                have HOJ5 := Lib.hid (World.ownsRow.alloc (ownsRow_belowE hh.out.oj HB5.out) q.box)
                have HRN := Lib.hid (range_new w5 q.cs 75)
                have HLN : Hid (As.length + 1 ≤ 1000000) := by show _ ≤ _; rw [HAL.out]; omega
                go_wp2_with (at_builtin; first | (refine wpList_append_one elem_cf _ rfl (.tmp 77) (.tmp 83) rfl w1.heap.size _ _ _ rfl HOC5.out w5.heap.size 0 1 q.cs rfl rfl HRN.out (by intro u hu; simp [Cf.cs] at hu; rcases hu with rfl | rfl | rfl <;> rfl) HLN.out (by omega) (by have := HW5.out.size; simp; omega) ?_; intro v8 w8 ho8 hg8; (have HB8 := Lib.hid ((HW5.out.alloc HW5.out.size q.box).grown hg8 (by have := HW5.out.size; simp; omega) (fun x hx => (World.ownsRow.lt HOC5.out x hx).1))); (have HOJ8 := Lib.hid (World.ownsRow.alloc (ownsRow_apart (by decide) HOJ5.out HOC5.out hg8) (.cells #[.int .i64 n] 3))); (have HOC8 := Lib.hid (World.ownsRow.alloc ho8 (.cells #[.int .i64 n] 3))); (have HRN8 := Lib.hid (range_new w8 [.int .i64 n] 3)); (have HLJ : Hid ((As.map fun c => ((L.count c : Nat) : Int)).length + 1 ≤ 1000000) := by show _ ≤ _; rw [List.length_map, HAL.out]; omega); (clear ho8 hg8)) | (refine wpList_append_one elem_int _ rfl (.tmp 85) (.tmp 87) rfl w1.heap.size _ _ _ rfl HOJ8.out w8.heap.size 0 1 [.int .i64 n] rfl rfl HRN8.out (by simp [Value.oneCell']) HLJ.out (by omega) (by have := HB8.out.size; simp; omega) ?_; intro v9 w9 ho9 hg9))
                go_roundw
                case rel => exact ⟨i + 1, As ++ [L[j]], by omega, by go_num, as_step hjL hh.out.st HFE.out, by simp [HAL.out], (by rw [← HQ.out]; exact OwnC.snoc (ownsRow_apart (by decide) HOC8.out HOJ8.out hg9)), (by rw [List.map_append]; show OwnJ _ _ _ (_ ++ [((L.count L[j] : Nat) : Int)]); rw [← HCN.out]; exact OwnJ.snoc ho9), (HB8.out.alloc HB8.out.size _).grown hg9 (by have := HB8.out.size; simp; omega) (fun x hx => (World.ownsRow.lt HOJ8.out x hx).1)⟩
                case measure => simp [intOf]; omega
    · go_wp2
      go_ret2
      obtain ⟨AB, cB, eB, hrB⟩ := OwnJ.reads hh.out.oj
      subst eB
      exact ⟨AA, AB, cA, cB, As, _, (by rw [HAL.out]; rfl), (by rw [HRL.out]; exact rdOut_of hh.out.st (as_full hh.out.st (by rw [HAL.out, HLL.out]; omega))), HRA.out, hrB, below_trans HB1.out hh.out.bel⟩
end Go.Proofs.YtcmnmcholfellaaDoor
