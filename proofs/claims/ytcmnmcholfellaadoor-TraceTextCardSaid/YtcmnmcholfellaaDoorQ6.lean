/-
  Walks: a line read, in the reference.
-/
import Derived.Test.YtcmnmcholfellaaDoorQ5
namespace Go.Proofs.YtcmnmcholfellaaDoor
open Go.RowKit

/-- The state of the loop over the words. -/
structure RnSt (s : ByteArray) (w1 : World) (i : Nat) (v : Value) (wr : World) : Prop where
  ok : ∀ j (hj : j < (wordsB s).length), j < i → j ≠ 1 → okN ((wordsB s)[j]).data.toList
  own : OwnI wr w1.heap.size v (numsTo (spl 32 s.data.toList) i)
  bel : Below w1.heap.size w1 wr

theorem words_at_beq {k : Nat} {b : Nat} {w : World} (h : WordsIn w b) (hk : k + 1 < 8) : w.cell? ⟨b, k + 1, none⟩ = some (.string (wordB ((k : Int) + 1))) := by
  have := h (k + 1) hk
  rwa [show (((k + 1 : Nat)) : Int) = (k : Int) + 1 by omega] at this

set_option maxHeartbeats 4000000 in
set_option maxRecDepth 100000 in
theorem refRead_any (s : ByteArray) (hs : s.size ≤ 100000) (w : World) (hE : Env w) :
    Calls Tryd.prog 56 #[.string s] w (ReadPost s w) := by
  have HE := Lib.hid hE
  clear hE
  go_enter Tryd.func56, Tryd.ntmps56
  go_wp2_with fail
  refine (refSplit_any s (by omega) _).mono ?_
  rintro e w1 ⟨v1, ws, rfl, ho1, hws, hb1⟩
  obtain rfl := words_unique hws
  obtain ⟨A, c, rfl, hnc, hc63, hcl⟩ := ho1.reads
  have HCL := Lib.hid hcl
  have HBX1 : Hid (w1.heap[w.heap.size]? = some Pt.zero.box) := (hb1.block w.heap.size (by simp)).trans (heap_alloc_new w _)
  have HW1 := Lib.hid (below_alloc hb1)
  have hz0 : w.heap.size < w1.heap.size := by have := hb1.size; simp at this; omega
  clear hcl ho1 hws hb1
  have hlen : (wordsB s).length ≤ 100001 := by have := wordsB_few s; omega
  by_cases h4 : (wordsB s).length < 4
  · have h4I : ((wordsB s).length : Int) < 4 := by omega
    have HNL : Hid (¬ ∃ q, IsLine s.data.toList q) := fun ⟨q, hq⟩ => by
      have := congrArg List.length (line_words hq)
      rw [words_len] at this
      simp only [List.length_cons, List.length_map, flds_length] at this
      have : 2 ≤ cnt q.kind := by unfold cnt; split <;> (try split) <;> omega
      omega
    have hbx : w1.heap[w.heap.size]? = some Pt.zero.box := ((Below.refl w1.heap.size w1).block w.heap.size hz0).trans HBX1.out
    obtain ⟨c0, c1, c2, c3, c4, c5, c6, c7, c8, c9, c10⟩ := ptAt_of_heap hbx
    have hfr := frozen_of_box hbx
    have HPA := Lib.hid (ptAt_set (p := Pt.zero) (there_of_box hbx))
    have HBB := Lib.hid (below_setCells (below_trans HW1.out (Below.refl w1.heap.size w1)) (Nat.le_refl w.heap.size) (by have := (Below.refl w1.heap.size w1).size; omega) 0 Pt.zero.cs)
    clear hbx
    go_wp2
    refine bodyPost_world (w1.setCells w.heap.size 0 Pt.zero.cs) rfl ?_
    clear c0 c1 c2 c3 c4 c5 c6 c7 c8 c9 c10 hfr
    generalize w1.setCells w.heap.size 0 Pt.zero.cs = w9 at *
    obtain ⟨c0, c1, c2, c3, c4, c5, c6, c7, c8, c9, c10⟩ := HPA.out
    exact bodyPost_ret (v := .tuple #[Pt.zero.v, .bool false]) (by simp [results, Tryd.results56, go_sem, c0, c1, c2, c3, c4, c5, c6, c7, c8, c9, c10]) rfl ⟨Pt.zero, false, rfl, (fun h => by cases h), (fun h => absurd h HNL.out), HBB.out⟩
  by_cases h5 : 5 < (wordsB s).length
  · have h4I : ¬ ((wordsB s).length : Int) < 4 := by omega
    have h5I : (5 : Int) < ((wordsB s).length : Int) := by omega
    have HNL : Hid (¬ ∃ q, IsLine s.data.toList q) := fun ⟨q, hq⟩ => by
      have := congrArg List.length (line_words hq)
      rw [words_len] at this
      simp only [List.length_cons, List.length_map, flds_length] at this
      have : cnt q.kind ≤ 3 := by unfold cnt; split <;> (try split) <;> omega
      omega
    have hbx : w1.heap[w.heap.size]? = some Pt.zero.box := ((Below.refl w1.heap.size w1).block w.heap.size hz0).trans HBX1.out
    obtain ⟨c0, c1, c2, c3, c4, c5, c6, c7, c8, c9, c10⟩ := ptAt_of_heap hbx
    have hfr := frozen_of_box hbx
    have HPA := Lib.hid (ptAt_set (p := Pt.zero) (there_of_box hbx))
    have HBB := Lib.hid (below_setCells (below_trans HW1.out (Below.refl w1.heap.size w1)) (Nat.le_refl w.heap.size) (by have := (Below.refl w1.heap.size w1).size; omega) 0 Pt.zero.cs)
    clear hbx
    go_wp2
    refine bodyPost_world (w1.setCells w.heap.size 0 Pt.zero.cs) rfl ?_
    clear c0 c1 c2 c3 c4 c5 c6 c7 c8 c9 c10 hfr
    generalize w1.setCells w.heap.size 0 Pt.zero.cs = w9 at *
    obtain ⟨c0, c1, c2, c3, c4, c5, c6, c7, c8, c9, c10⟩ := HPA.out
    exact bodyPost_ret (v := .tuple #[Pt.zero.v, .bool false]) (by simp [results, Tryd.results56, go_sem, c0, c1, c2, c3, c4, c5, c6, c7, c8, c9, c10]) rfl ⟨Pt.zero, false, rfl, (fun h => by cases h), (fun h => absurd h HNL.out), HBB.out⟩
  have h4I : ¬ ((wordsB s).length : Int) < 4 := by omega
  have h5I : ¬ (5 : Int) < ((wordsB s).length : Int) := by omega
  have h1l : 1 < (wordsB s).length := by omega
  obtain ⟨gs, rfl, hst⟩ := HCL.out (fun e => by rw [e] at h1l; simp at h1l)
  have HST := Lib.hid hst
  have hgs : gs < w1.heap.size := lt_of_cell (hst 0 _ (List.getElem?_eq_getElem (show 0 < (wordsB s).length by omega)))
  clear hst HCL
  go_wp2
  go_loopw [5, 6] (fun s5 s6 wr => ∃ k : Nat, k ≤ 7 ∧ s5 = .int .i64 (kindTo (wordsB s)[1] k) ∧ s6 = .int .i64 ((k : Int) + 1) ∧ Hid (Below w1.heap.size w1 wr)) (fun _ s6 _ => 8 - (intOf s6).toNat)
  case atStart => exact ⟨0, by omega, rfl, rfl, Below.refl _ _⟩
  case round =>
    obtain ⟨k, hk, rfl, rfl, hbk⟩ := hrel
    obtain ⟨wo, rfl⟩ : ∃ wo : World, wo = wr := ⟨_, rfl⟩
    by_cases hk7 : k < 7
    · have hkI : (k : Int) + 1 < 8 := by omega
      have hkI0 : (0 : Int) ≤ (k : Int) + 1 := by omega
      have hkt : ((k : Int) + 1).toNat = k + 1 := by omega
      go_wp2_with fail
      refine (words_any _).mono ?_
      rintro e w2 ⟨b2, rfl, _, hb2⟩
      have HB2 := Lib.hid (below_trans hbk.out hb2)
      clear hb2
      have cw : w2.cell? ⟨gs, 1, none⟩ = some (.string (wordsB s)[1]) := below_cell HB2.out (HST.out 1 _ (List.getElem?_eq_getElem h1l))
      have hgz : gs < w2.heap.size := lt_of_cell cw
      have h1I : (1 : Int) < ((wordsB s).length : Int) := by omega
      by_cases hwd : wordB ((k : Int) + 1) = (wordsB s)[1]
      · have hwb := beqT_yes hwd
        have HK3 := Lib.hid (show kindTo (wordsB s)[1] (k + 1) = (k : Int) + 1 by rw [kindTo, if_pos hwd])
        clear hwd
        go_wp2
        refine wp_region_held_drew (S := (fun w' => w'.cell? ⟨gs, 1, none⟩ = some (.string (wordsB s)[1]) ∧ Hid (Below w1.heap.size w1 w'))) (by kernel_rfl) ?_ (fun hHeld => ?_)
        · (try dsimp only); exact ⟨cw, below_drewN HB2.out 1⟩
        refine wpAnyH_take (i := 1) (v := ?v82) rfl (by kernel_rfl) (by kernel_rfl) (by kernel_rfl) (fun _ _ _ h => h) (Or.inl ⟨by rfl, ?hy82⟩) hHeld ?_
        case hy82 => (intro w hSw; (try dsimp only at hSw); go_simp; try with_reducible rfl)
        (try simp only [Act.put, List.setIfInBounds_toArray, List.set_cons_zero, List.set_cons_succ, List.getElem_toArray, List.getElem_cons_zero, List.getElem_cons_succ])
        refine wpAnyH_take (i := 4) (v := ?v83) rfl (by kernel_rfl) (by kernel_rfl) (by kernel_rfl) (fun _ _ _ h => h) (Or.inl ⟨by rfl, ?hy83⟩) hHeld ?_
        case hy83 => (intro w hSw; (try dsimp only at hSw); go_simp; try with_reducible rfl)
        (try simp only [Act.put, List.setIfInBounds_toArray, List.set_cons_zero, List.set_cons_succ, List.getElem_toArray, List.getElem_cons_zero, List.getElem_cons_succ])
        refine wpAnyH_take (i := 5) (v := ?v84) rfl (by kernel_rfl) (by kernel_rfl) (by kernel_rfl) (fun _ _ _ h => h) (Or.inl ⟨by rfl, ?hy84⟩) hHeld ?_
        case hy84 => (intro w hSw; (try dsimp only at hSw); go_simp; try with_reducible rfl)
        (try simp only [Act.put, List.setIfInBounds_toArray, List.set_cons_zero, List.set_cons_succ, List.getElem_toArray, List.getElem_cons_zero, List.getElem_cons_succ])
        refine wpAnyH_take (i := 6) (v := ?v85) rfl (by kernel_rfl) (by kernel_rfl) (by kernel_rfl) (fun _ _ _ h => h) (Or.inl ⟨by rfl, ?hy85⟩) hHeld ?_
        case hy85 => (intro w hSw; (try dsimp only at hSw); go_simp; try with_reducible rfl)
        (try simp only [Act.put, List.setIfInBounds_toArray, List.set_cons_zero, List.set_cons_succ, List.getElem_toArray, List.getElem_cons_zero, List.getElem_cons_succ])
        refine wpAnyH_ready (rs := [0]) (by kernel_rfl) (by simp) ?_
        refine (AllReadyH.cons rfl (fun K hK => ?_) AllReadyH.nil)
        go_simp
        (refine (words_any _).mono ?_; rintro e w3 ⟨b3, rfl, hw3, hb3⟩; have cw3 := words_at_beq (k := k) hw3 (by omega))
        refine hK.out _ _ ?_ (fun hHeld => ?_)
        · (try dsimp only); exact ⟨below_cell hb3 hHeld.1, below_trans hHeld.2.out hb3⟩
        clear hK K
        (try simp only [Act.put, List.setIfInBounds_toArray, List.set_cons_zero, List.set_cons_succ, List.getElem_toArray, List.getElem_cons_zero])
        refine wpAnyH_take (i := 2) (v := ?v86) rfl (by kernel_rfl) (by kernel_rfl) (by kernel_rfl) (fun _ _ _ h => h) (Or.inl ⟨by rfl, ?hy86⟩) hHeld ?_
        case hy86 => (intro w hSw; (try dsimp only at hSw); go_simp; try with_reducible rfl)
        (try simp only [Act.put, List.setIfInBounds_toArray, List.set_cons_zero, List.set_cons_succ, List.getElem_toArray, List.getElem_cons_zero, List.getElem_cons_succ])
        refine wpAnyH_ready (rs := [3]) (by kernel_rfl) (by simp) ?_
        refine (AllReadyH.cons rfl (fun K hK => ?_) AllReadyH.nil)
        go_simp
        refine hK.out _ _ ?_ (fun hHeld => ?_)
        · (try dsimp only); exact hHeld
        clear hK K
        (try simp only [Act.put, List.setIfInBounds_toArray, List.set_cons_zero, List.set_cons_succ, List.getElem_toArray, List.getElem_cons_zero, List.getElem_cons_succ])
        refine wpAnyH_take (i := 7) (v := ?v87) rfl (by kernel_rfl) (by kernel_rfl) (by kernel_rfl) (fun _ _ _ h => h) (Or.inl ⟨by rfl, ?hy87⟩) hHeld ?_
        case hy87 => (intro w hSw; (try dsimp only at hSw); go_simp; try with_reducible rfl)
        (try simp only [Act.put, List.setIfInBounds_toArray, List.set_cons_zero, List.set_cons_succ, List.getElem_toArray, List.getElem_cons_zero, List.getElem_cons_succ])
        refine wpAnyH_done (by kernel_rfl) ?_ _
        go_wp2
        go_roundw
        case rel => exact ⟨k + 1, by omega, by rw [HK3.out], by go_num, hHeld.2.out⟩
        case measure => simp [intOf]; omega
      · have hwb := beqT_no hwd
        have HK3 := Lib.hid (show kindTo (wordsB s)[1] (k + 1) = kindTo (wordsB s)[1] k by rw [kindTo, if_neg hwd])
        clear hwd
        go_wp2
        refine wp_region_held_drew (S := (fun w' => w'.cell? ⟨gs, 1, none⟩ = some (.string (wordsB s)[1]) ∧ Hid (Below w1.heap.size w1 w'))) (by kernel_rfl) ?_ (fun hHeld => ?_)
        · (try dsimp only); exact ⟨cw, below_drewN HB2.out 1⟩
        refine wpAnyH_take (i := 1) (v := ?v88) rfl (by kernel_rfl) (by kernel_rfl) (by kernel_rfl) (fun _ _ _ h => h) (Or.inl ⟨by rfl, ?hy88⟩) hHeld ?_
        case hy88 => (intro w hSw; (try dsimp only at hSw); go_simp; try with_reducible rfl)
        (try simp only [Act.put, List.setIfInBounds_toArray, List.set_cons_zero, List.set_cons_succ, List.getElem_toArray, List.getElem_cons_zero, List.getElem_cons_succ])
        refine wpAnyH_take (i := 4) (v := ?v89) rfl (by kernel_rfl) (by kernel_rfl) (by kernel_rfl) (fun _ _ _ h => h) (Or.inl ⟨by rfl, ?hy89⟩) hHeld ?_
        case hy89 => (intro w hSw; (try dsimp only at hSw); go_simp; try with_reducible rfl)
        (try simp only [Act.put, List.setIfInBounds_toArray, List.set_cons_zero, List.set_cons_succ, List.getElem_toArray, List.getElem_cons_zero, List.getElem_cons_succ])
        refine wpAnyH_take (i := 5) (v := ?v90) rfl (by kernel_rfl) (by kernel_rfl) (by kernel_rfl) (fun _ _ _ h => h) (Or.inl ⟨by rfl, ?hy90⟩) hHeld ?_
        case hy90 => (intro w hSw; (try dsimp only at hSw); go_simp; try with_reducible rfl)
        (try simp only [Act.put, List.setIfInBounds_toArray, List.set_cons_zero, List.set_cons_succ, List.getElem_toArray, List.getElem_cons_zero, List.getElem_cons_succ])
        refine wpAnyH_take (i := 6) (v := ?v91) rfl (by kernel_rfl) (by kernel_rfl) (by kernel_rfl) (fun _ _ _ h => h) (Or.inl ⟨by rfl, ?hy91⟩) hHeld ?_
        case hy91 => (intro w hSw; (try dsimp only at hSw); go_simp; try with_reducible rfl)
        (try simp only [Act.put, List.setIfInBounds_toArray, List.set_cons_zero, List.set_cons_succ, List.getElem_toArray, List.getElem_cons_zero, List.getElem_cons_succ])
        refine wpAnyH_ready (rs := [0]) (by kernel_rfl) (by simp) ?_
        refine (AllReadyH.cons rfl (fun K hK => ?_) AllReadyH.nil)
        go_simp
        (refine (words_any _).mono ?_; rintro e w3 ⟨b3, rfl, hw3, hb3⟩; have cw3 := words_at_beq (k := k) hw3 (by omega))
        refine hK.out _ _ ?_ (fun hHeld => ?_)
        · (try dsimp only); exact ⟨below_cell hb3 hHeld.1, below_trans hHeld.2.out hb3⟩
        clear hK K
        (try simp only [Act.put, List.setIfInBounds_toArray, List.set_cons_zero, List.set_cons_succ, List.getElem_toArray, List.getElem_cons_zero])
        refine wpAnyH_take (i := 2) (v := ?v92) rfl (by kernel_rfl) (by kernel_rfl) (by kernel_rfl) (fun _ _ _ h => h) (Or.inl ⟨by rfl, ?hy92⟩) hHeld ?_
        case hy92 => (intro w hSw; (try dsimp only at hSw); go_simp; try with_reducible rfl)
        (try simp only [Act.put, List.setIfInBounds_toArray, List.set_cons_zero, List.set_cons_succ, List.getElem_toArray, List.getElem_cons_zero, List.getElem_cons_succ])
        refine wpAnyH_ready (rs := [3]) (by kernel_rfl) (by simp) ?_
        refine (AllReadyH.cons rfl (fun K hK => ?_) AllReadyH.nil)
        go_simp
        refine hK.out _ _ ?_ (fun hHeld => ?_)
        · (try dsimp only); exact hHeld
        clear hK K
        (try simp only [Act.put, List.setIfInBounds_toArray, List.set_cons_zero, List.set_cons_succ, List.getElem_toArray, List.getElem_cons_zero, List.getElem_cons_succ])
        refine wpAnyH_take (i := 7) (v := ?v93) rfl (by kernel_rfl) (by kernel_rfl) (by kernel_rfl) (fun _ _ _ h => h) (Or.inl ⟨by rfl, ?hy93⟩) hHeld ?_
        case hy93 => (intro w hSw; (try dsimp only at hSw); go_simp; try with_reducible rfl)
        (try simp only [Act.put, List.setIfInBounds_toArray, List.set_cons_zero, List.set_cons_succ, List.getElem_toArray, List.getElem_cons_zero, List.getElem_cons_succ])
        refine wpAnyH_done (by kernel_rfl) ?_ _
        go_wp2
        go_roundw
        case rel => exact ⟨k + 1, by omega, by rw [HK3.out], by go_num, hHeld.2.out⟩
        case measure => simp [intOf]; omega
    · obtain rfl : k = 7 := by omega
      have hkI : ¬ ((7 : Nat) : Int) + 1 < 8 := by omega
      go_wp2_with fail
      refine (words_any _).mono ?_
      rintro e w2 ⟨b2, rfl, _, hb2⟩
      have HB2 := Lib.hid (below_trans hbk.out hb2)
      clear hb2
      obtain ⟨kd, hkd⟩ : ∃ kd, kd = kindTo (wordsB s)[1] 7 := ⟨_, rfl⟩
      have HKD := Lib.hid hkd
      rw [← hkd]
      have hkr : 0 ≤ kd ∧ kd ≤ 7 := by have := kindTo_range (wordsB s)[1] 7; rw [hkd]; omega
      obtain ⟨hkr0, hkr7⟩ := hkr
      clear hkd
      go_wp2
      go_loopw [7, 8] (fun s7 s8 wr => ∃ i : Nat, i ≤ (wordsB s).length ∧ s8 = .int .i64 i ∧ Hid (RnSt s w1 i s7 wr)) (fun _ s8 _ => (wordsB s).length - (intOf s8).toNat)
      case atStart => exact ⟨0, by omega, rfl, ⟨fun j _ hj => absurd hj (by omega), OwnI.nil _ _, HB2.out⟩⟩
      case round =>
        obtain ⟨i, hi, rfl, hh⟩ := hrel
        obtain ⟨wo2, rfl⟩ : ∃ wo2 : World, wo2 = wr := ⟨_, rfl⟩
        by_cases hlt : i < (wordsB s).length
        · have cw : wo2.cell? ⟨gs, i, none⟩ = some (.string (wordsB s)[i]) := below_cell hh.out.bel (HST.out i _ (List.getElem?_eq_getElem hlt))
          have HSZ := Lib.hid (wordsB_size (List.getElem_mem hlt))
          have hltI : (i : Int) < ((wordsB s).length : Int) := by omega
          by_cases h1 : i = 1
          · have h1b : ((i : Int) == 1) = true := by rw [h1]; rfl
            have HI := Lib.hid h1
            clear h1
            go_wp2
            go_roundw
            case rel =>
              have h1 := HI.out
              subst h1
              exact ⟨2, by omega, by go_num, ⟨fun j hj h2 h3 => hh.out.ok j hj (by omega) h3, by rw [numsTo_two (by rw [words_len]; exact hlt)]; exact hh.out.own, hh.out.bel⟩⟩
            case measure => simp [intOf]; omega
          · have h1b : ((i : Int) == 1) = false := by rw [beq_eq_false_iff_ne]; omega
            have HI := Lib.hid h1
            clear h1
            by_cases hok : okN ((wordsB s)[i]).data.toList
            · have HO := Lib.hid hok
              have HNS := Lib.hid (numsTo_succ (W := spl 32 s.data.toList) (by rw [words_len]; exact hlt) HI.out)
              rw [words_at hlt] at HNS
              have hob : (numOut ((wordsB s)[i]).data.toList).2 = true := hok
              obtain ⟨x, hx⟩ : ∃ x, x = (numOut ((wordsB s)[i]).data.toList).1 := ⟨_, rfl⟩
              have HX : Hid (x = valI ((wordsB s)[i]).data.toList) := hx.trans (okN_okI hok).2.1.symm
              clear hok
              go_wp2_with fail
              refine (refNumber_any (wordsB s)[i] (by have := HSZ.out; omega) _).mono ?_
              rintro e w3 ⟨rfl, rfl⟩
              rw [← hx, hob]
              clear hx hob
              have HOW := Lib.hid hh.out.own
              have HBW := Lib.hid hh.out.bel
              have HLN := Lib.hid (show (numsTo (spl 32 s.data.toList) i).length + 1 ≤ 1000000 by have := numsTo_length (W := spl 32 s.data.toList) (i := i) (by rw [words_len]; omega); omega)
              have HRN := Lib.hid (range_new wo2 [.int .i64 x] 2)
              have HOA : Hid ((wo2.alloc (.cells #[.int .i64 x] 2)).ownsRow w1.heap.size 2 1 u7 _ _) := World.ownsRow.alloc HOW.out _
              go_wp2_with (at_builtin; refine wpList_append_one elem_i64 _ rfl (.tmp 57) (.tmp 59) rfl w1.heap.size _ _ _ rfl HOA.out wo2.heap.size 0 1 [.int .i64 x] rfl rfl HRN.out (by simp [Value.oneCell']) HLN.out (by omega) (by have := HBW.out.size; simp; omega) ?_; intro v2 w4 ho2 hg2)
              go_roundw
              case rel => exact ⟨i + 1, by omega, by go_num, ⟨fun j hj h2 h3 => (by
                by_cases e : j = i
                · subst e; exact HO.out
                · exact hh.out.ok j hj (by omega) h3), (by rw [HNS.out, ← HX.out]; exact OwnI.snoc ho2), (HBW.out.alloc HBW.out.size _).grown hg2 (by have := HBW.out.size; simp; omega) (OwnI.lt HOW.out)⟩⟩
              case measure => simp [intOf]; omega
            · have hob : (numOut ((wordsB s)[i]).data.toList).2 = false := by simpa [okN] using hok
              have HNL : Hid (¬ ∃ q, IsLine s.data.toList q) := fun ⟨q, hq⟩ => hok (line_okN hq hlt HI.out)
              clear hok
              go_wp2_with fail
              refine (refNumber_any (wordsB s)[i] (by have := HSZ.out; omega) _).mono ?_
              rintro e w3 ⟨rfl, rfl⟩
              rw [hob]
              clear hob
              have HBW := Lib.hid hh.out.bel
              have hbx : wo2.heap[w.heap.size]? = some Pt.zero.box := (HBW.out.block w.heap.size hz0).trans HBX1.out
              obtain ⟨c0, c1, c2, c3, c4, c5, c6, c7, c8, c9, c10⟩ := ptAt_of_heap hbx
              have hfr := frozen_of_box hbx
              have HPA := Lib.hid (ptAt_set (p := Pt.zero) (there_of_box hbx))
              have HBB := Lib.hid (below_setCells (below_trans HW1.out HBW.out) (Nat.le_refl w.heap.size) (by have := HBW.out.size; omega) 0 Pt.zero.cs)
              clear hbx
              go_wp2
              refine bodyPost_world (wo2.setCells w.heap.size 0 Pt.zero.cs) rfl ?_
              clear c0 c1 c2 c3 c4 c5 c6 c7 c8 c9 c10 hfr
              generalize wo2.setCells w.heap.size 0 Pt.zero.cs = w9 at *
              obtain ⟨c0, c1, c2, c3, c4, c5, c6, c7, c8, c9, c10⟩ := HPA.out
              exact bodyPost_ret (v := .tuple #[Pt.zero.v, .bool false]) (by simp [results, Tryd.results56, go_sem, c0, c1, c2, c3, c4, c5, c6, c7, c8, c9, c10]) rfl ⟨Pt.zero, false, rfl, (fun h => by cases h), (fun h => absurd h HNL.out), HBB.out⟩
        · have hie : i = (wordsB s).length := by omega
          have HIE := Lib.hid hie
          have hltI : ¬ (i : Int) < ((wordsB s).length : Int) := by omega
          clear hie
          obtain ⟨N, hN⟩ : ∃ N, N = numsTo (spl 32 s.data.toList) i := ⟨_, rfl⟩
          have HLI : Hid (∀ q, IsLine s.data.toList q → N = q.at_ :: flds q ∧ kd = q.kind) := fun q hq => by
            have h := line_nums hq
            unfold kindW at h
            rw [if_pos (by omega), List.getD_eq_getElem?_getD, List.getElem?_eq_getElem h1l] at h
            rw [← HIE.out, ← hN] at h
            exact ⟨h.1, HKD.out.trans h.2⟩
          have hown := hh.out.own
          rw [← hN] at hown
          have HOW := Lib.hid hown
          have HBL := Lib.hid hh.out.bel
          have HN64 : Hid (∀ x ∈ N, In64 x) := by
            rw [hN]; exact numsTo_in i hi (fun j hj h2 h3 => (okN_okI (hh.out.ok j hj h2 h3)).1)
          have HN0 : Hid (∀ x ∈ N, 0 ≤ x) := by
            rw [hN]; exact numsTo_nonneg i hi hh.out.ok
          have HLN9 : Hid (N.length ≤ 1000000) := by
            have := numsTo_length (W := spl 32 s.data.toList) (i := i) (by rw [words_len]; omega)
            rw [hN]; show _ ≤ _; omega
          clear hown hN
          obtain ⟨A, c, hv, hnc, hc63, hcl⟩ := HOW.out.reads
          subst hv
          have HCL := Lib.hid hcl
          clear hcl hh
          by_cases hk0 : kd = 0
          · have hkb : (kd == 0) = true := by rw [hk0]; rfl
            have HNL : Hid (¬ ∃ q, IsLine s.data.toList q) := fun ⟨q, hq⟩ => by
              have e := (HLI.out q hq).2
              have := (okP_parts hq.ok).1
              omega
            clear hk0
            have hbx : wo2.heap[w.heap.size]? = some Pt.zero.box := (HBL.out.block w.heap.size hz0).trans HBX1.out
            obtain ⟨c0, c1, c2, c3, c4, c5, c6, c7, c8, c9, c10⟩ := ptAt_of_heap hbx
            have hfr := frozen_of_box hbx
            have HPA := Lib.hid (ptAt_set (p := Pt.zero) (there_of_box hbx))
            have HBB := Lib.hid (below_setCells (below_trans HW1.out HBL.out) (Nat.le_refl w.heap.size) (by have := HBL.out.size; omega) 0 Pt.zero.cs)
            clear hbx
            go_wp2
            refine bodyPost_world (wo2.setCells w.heap.size 0 Pt.zero.cs) rfl ?_
            clear c0 c1 c2 c3 c4 c5 c6 c7 c8 c9 c10 hfr
            generalize wo2.setCells w.heap.size 0 Pt.zero.cs = w9 at *
            obtain ⟨c0, c1, c2, c3, c4, c5, c6, c7, c8, c9, c10⟩ := HPA.out
            exact bodyPost_ret (v := .tuple #[Pt.zero.v, .bool false]) (by simp [results, Tryd.results56, go_sem, c0, c1, c2, c3, c4, c5, c6, c7, c8, c9, c10]) rfl ⟨Pt.zero, false, rfl, (fun h => by cases h), (fun h => absurd h HNL.out), HBB.out⟩
          · have hkb : (kd == 0) = false := by rw [beq_eq_false_iff_ne]; exact hk0
            have HKR : Hid (1 ≤ kd ∧ kd ≤ 7) := by constructor <;> omega
            have HFL := Lib.hid (flds_length ⟨0, kd, 0, 0, 0, 0, 0, 0, 0, 0, 0⟩)
            have hcn : cnt kd ≤ 3 := by unfold cnt; split <;> (try split) <;> omega
            by_cases hL : N.length = cnt kd + 1
            · match N, hL, HOW, HLI, HN64, HN0, HCL, hnc with
              | a :: l, hL, HOW, HLI, HN64, HN0, HCL, hnc =>
                have hL2 : l.length = cnt kd := by simpa using hL
                have hLb : ((l.length : Int) + 1 != 1 + (cnt kd : Int)) = false := by rw [hL2, Int.add_comm]; simp
                obtain ⟨g, rfl, hcells⟩ := HCL.out (by simp)
                have HCS := Lib.hid hcells
                clear hcells
                have n0 : wo2.cell? ⟨g, 0, none⟩ = some (.int .i64 a) := HCS.out 0 a rfl
                have hgz := lt_of_cell n0
                simp only at hgz
                simp only [List.length_cons] at hnc ⊢
                have HL2 := Lib.hid hL2
                have hll : l.length ≤ 3 := by rw [hL2]; exact hcn
                have hl2 : 2 ≤ l.length := by rw [hL2]; unfold cnt; split <;> (try split) <;> omega
                have hc1 : ¬ c = 1 := by omega
                clear hL hL2 HCL
                go_wp2_with fail
                refine (refFields_any ⟨0, kd, 0, 0, 0, 0, 0, 0, 0, 0, 0⟩ _).mono ?_
                rintro e w3 ⟨b3, rfl, _, hb3⟩
                rw [HFL.out]
                have hb3c := bcell hb3
                have HB3 := Lib.hid (below_trans HBL.out hb3)
                clear hb3
                have HI3 : Hid (∀ k x, l[k]? = some x → w3.cell? ⟨g, 1 + k, none⟩ = some (.int .i64 x)) := fun k x hk => by
                  have := HCS.out (1 + k) x (by rw [Nat.add_comm]; simpa using hk)
                  rw [hb3c _ _ hgz]; exact this
                go_upto_region 21 with fail
                go_cut [11] (fun s12 wx => ∃ g12 : Nat, s12 = .pointer (some ⟨g12, 0, none⟩) ∧ Hid (PtAt wx g12 (mk a kd l) ∧ w1.heap.size ≤ g12 ∧ Below w1.heap.size w1 wx))
                case first =>
                  have n3 : w3.cell? ⟨g, 0, none⟩ = some (.int .i64 a) := (hb3c _ _ hgz).trans n0
                  have hg3 : g < w3.heap.size := lt_of_cell n3
                  have hb1 : (1 : Int) ≤ (l.length : Int) + 1 := by omega
                  refine wp_region_held_drew (S := (fun w' => w'.cell? ⟨g, 0, none⟩ = some (.int .i64 a) ∧ Hid (Below w3.heap.size w3 w'))) (by kernel_rfl) ?_ (fun hHeld => ?_)
                  · (try dsimp only); exact ⟨n3, below_drewN (Below.refl _ _) 1⟩
                  refine wpAnyH_take (i := 0) (v := ?v94) rfl (by kernel_rfl) (by kernel_rfl) (by kernel_rfl) (fun _ _ _ h => h) (Or.inl ⟨by rfl, ?hy94⟩) hHeld ?_
                  case hy94 => (intro w hSw; (try dsimp only at hSw); go_simp; try with_reducible rfl)
                  (try simp only [Act.put, List.setIfInBounds_toArray, List.set_cons_zero, List.set_cons_succ, List.getElem_toArray, List.getElem_cons_zero])
                  refine wpAnyH_take (i := 1) (v := ?v95) rfl (by kernel_rfl) (by kernel_rfl) (by kernel_rfl) (fun _ _ _ h => h) (Or.inl ⟨by rfl, ?hy95⟩) hHeld ?_
                  case hy95 => (intro w hSw; (try dsimp only at hSw); go_simp; try with_reducible rfl)
                  (try simp only [Act.put, List.setIfInBounds_toArray, List.set_cons_zero, List.set_cons_succ, List.getElem_toArray, List.getElem_cons_zero, List.getElem_cons_succ])
                  refine wpAnyH_take (i := 2) (v := ?v96) rfl (by kernel_rfl) (by kernel_rfl) (by kernel_rfl) (fun _ _ _ h => h) (Or.inl ⟨by rfl, ?hy96⟩) hHeld ?_
                  case hy96 => (intro w hSw; (try dsimp only at hSw); go_simp; try with_reducible rfl)
                  (try simp only [Act.put, List.setIfInBounds_toArray, List.set_cons_zero, List.set_cons_succ, List.getElem_toArray, List.getElem_cons_zero, List.getElem_cons_succ])
                  refine wpAnyH_take (i := 3) (v := ?v97) rfl (by kernel_rfl) (by kernel_rfl) (by kernel_rfl) (fun _ _ _ h => h) (Or.inl ⟨by rfl, ?hy97⟩) hHeld ?_
                  case hy97 => (intro w hSw; (try dsimp only at hSw); go_simp; try with_reducible rfl)
                  (try simp only [Act.put, List.setIfInBounds_toArray, List.set_cons_zero, List.set_cons_succ, List.getElem_toArray, List.getElem_cons_zero, List.getElem_cons_succ])
                  refine wpAnyH_take (i := 4) (v := ?v98) rfl (by kernel_rfl) (by kernel_rfl) (by kernel_rfl) (fun _ _ _ h => h) (Or.inl ⟨by rfl, ?hy98⟩) hHeld ?_
                  case hy98 => (intro w hSw; (try dsimp only at hSw); go_simp; try with_reducible rfl)
                  (try simp only [Act.put, List.setIfInBounds_toArray, List.set_cons_zero, List.set_cons_succ, List.getElem_toArray, List.getElem_cons_zero, List.getElem_cons_succ])
                  refine wpAnyH_take (i := 5) (v := ?v99) rfl (by kernel_rfl) (by kernel_rfl) (by kernel_rfl) (fun _ _ _ h => h) (Or.inl ⟨by rfl, ?hy99⟩) hHeld ?_
                  case hy99 => (intro w hSw; (try dsimp only at hSw); go_simp; try with_reducible rfl)
                  (try simp only [Act.put, List.setIfInBounds_toArray, List.set_cons_zero, List.set_cons_succ, List.getElem_toArray, List.getElem_cons_zero, List.getElem_cons_succ])
                  refine wpAnyH_ready (rs := [6, 7]) (by kernel_rfl) (by simp) ?_
                  refine (AllReadyH.cons rfl (fun K hK => ?_) (AllReadyH.cons rfl (fun K hK => ?_) AllReadyH.nil))
                  ·
                    go_simp
                    (refine (refMake_any a kd l HL2.out g 1 (c - 1) _ (fun k x hk => below_cell hHeld.2.out (HI3.out k x hk))).mono ?_; rintro e w4 ⟨rfl, hb4⟩)
                    refine hK.out _ _ ?_ (fun hHeld => ?_)
                    · (try dsimp only); exact ⟨below_cell hb4 hHeld.1, below_trans hHeld.2.out hb4⟩
                    clear hK K
                    (try simp only [Act.put, List.setIfInBounds_toArray, List.set_cons_zero, List.set_cons_succ, List.getElem_toArray, List.getElem_cons_zero, List.getElem_cons_succ])
                    refine wpAnyH_ready (rs := [7]) (by kernel_rfl) (by simp) ?_
                    refine (AllReadyH.cons rfl (fun K hK => ?_) AllReadyH.nil)
                    go_simp
                    refine hK.out _ _ ?_ (fun hHeld => ?_)
                    · (try dsimp only); exact ⟨below_cell ((Below.refl _ _).alloc (Nat.le_refl _) _) hHeld.1, below_trans hHeld.2.out ((Below.refl _ _).alloc (Nat.le_refl _) _)⟩
                    clear hK K
                    (try simp only [Act.put, List.setIfInBounds_toArray, List.set_cons_zero, List.set_cons_succ, List.getElem_toArray, List.getElem_cons_zero, List.getElem_cons_succ])
                    refine wpAnyH_ready (rs := [8]) (by kernel_rfl) (by simp) ?_
                    refine (AllReadyH.cons rfl (fun K hK => ?_) AllReadyH.nil)
                    (simp only [List.getElem_toArray, List.getElem_cons_zero, List.getElem_cons_succ]; rw [if_pos (by rfl)]; refine wp_store_mid 23 (.tmp 11) (.tmp 80) rfl (w4.heap.size) (0) ((mk a kd l).cs.toArray) (by rfl) (by rfl) ?_ ?_ ?_ ?_; (exact there_of_box (heap_alloc_new w4 Pt.zero.box)); (exact pt_info); (exact pt_one _))
                    refine hK.out _ _ ?_ (fun hHeld => ?_)
                    · (try dsimp only); exact set_held hHeld n3 (by have := hb4.size; simpa using this) (by simp) _
                    clear hK K
                    (try simp only [Act.put])
                    refine wpAnyH_done (by kernel_rfl) ?_ _
                    (go_wp2; go_meet; exact ⟨w4.heap.size, rfl, ptAt_set (there_of_box (heap_alloc_new w4 Pt.zero.box)), (by have h1 := hb4.size; have h2 := HB3.out.size; simp at h1; omega), below_trans HB3.out hHeld.2.out⟩)
                  ·
                    go_simp
                    refine hK.out _ _ ?_ (fun hHeld => ?_)
                    · (try dsimp only); exact ⟨below_cell ((Below.refl _ _).alloc (Nat.le_refl _) _) hHeld.1, below_trans hHeld.2.out ((Below.refl _ _).alloc (Nat.le_refl _) _)⟩
                    clear hK K
                    (try simp only [Act.put, List.setIfInBounds_toArray, List.set_cons_zero, List.set_cons_succ, List.getElem_toArray, List.getElem_cons_zero, List.getElem_cons_succ])
                    refine wpAnyH_ready (rs := [6]) (by kernel_rfl) (by simp) ?_
                    refine (AllReadyH.cons rfl (fun K hK => ?_) AllReadyH.nil)
                    go_simp
                    (refine (refMake_any a kd l HL2.out g 1 (c - 1) _ (fun k x hk => below_cell hHeld.2.out (HI3.out k x hk))).mono ?_; rintro e w4 ⟨rfl, hb4⟩)
                    refine hK.out _ _ ?_ (fun hHeld => ?_)
                    · (try dsimp only); exact ⟨below_cell hb4 hHeld.1, below_trans hHeld.2.out hb4⟩
                    clear hK K
                    (try simp only [Act.put, List.setIfInBounds_toArray, List.set_cons_zero, List.set_cons_succ, List.getElem_toArray, List.getElem_cons_zero, List.getElem_cons_succ])
                    refine wpAnyH_ready (rs := [8]) (by kernel_rfl) (by simp) ?_
                    refine (AllReadyH.cons rfl (fun K hK => ?_) AllReadyH.nil)
                    (simp only [List.getElem_toArray, List.getElem_cons_zero, List.getElem_cons_succ]; rw [if_pos (by rfl)]; refine wp_store_mid 23 (.tmp 11) (.tmp 80) rfl (w3.heap.size) (0) ((mk a kd l).cs.toArray) (by rfl) (by rfl) ?_ ?_ ?_ ?_; (exact there_of_box ((hb4.block w3.heap.size (by simp)).trans (heap_alloc_new w3.drew Pt.zero.box))); (exact pt_info); (exact pt_one _))
                    refine hK.out _ _ ?_ (fun hHeld => ?_)
                    · (try dsimp only); exact set_held hHeld n3 (Nat.le_refl _) (by have := hb4.size; simp at this; omega) _
                    clear hK K
                    (try simp only [Act.put])
                    refine wpAnyH_done (by kernel_rfl) ?_ _
                    (go_wp2; go_meet; exact ⟨w3.heap.size, rfl, ptAt_set (there_of_box ((hb4.block w3.heap.size (by simp)).trans (heap_alloc_new w3.drew Pt.zero.box))), HB3.out.size, below_trans HB3.out hHeld.2.out⟩)
                case rest =>
                  obtain ⟨g12, rfl, hcut⟩ := hcut
                  obtain ⟨p, hp⟩ : ∃ p, p = mk a kd l := ⟨_, rfl⟩
                  rw [← hp] at hcut
                  have HFP : Hid p.Fits := by rw [hp]; exact mk_fits (HN64.out a (List.mem_cons_self ..)) (by have := HKR.out; exact ⟨by omega, by omega⟩) (fun x hx => HN64.out x (List.mem_cons_of_mem _ hx))
                  have HPK : Hid (1 ≤ p.kind ∧ p.kind ≤ 7) := by rw [hp, (mk_at a kd l).2]; exact HKR.out
                  have HOK : Hid (okP p = true) := by rw [hp]; exact okP_mk HKR.out (HN0.out a (List.mem_cons_self ..)) HL2.out (fun x hx => HN0.out x (List.mem_cons_of_mem _ hx))
                  have HLP : Hid (∀ q, IsLine s.data.toList q → p = q) := fun q hq => by
                    obtain ⟨e1, e2⟩ := HLI.out q hq
                    injection e1 with e1 e3
                    rw [hp, e1, e2, e3]
                    exact (okP_parts hq.ok).2.2.1.symm
                  clear hp
                  obtain ⟨c0, c1, c2, c3, c4, c5, c6, c7, c8, c9, c10⟩ := hcut.out.1
                  have hg12 := Nat.lt_of_lt_of_le hz0 hcut.out.2.1
                  have HBC := Lib.hid hcut.out.2.2
                  have HXC : Hid (wc.heap[w.heap.size]? = some Pt.zero.box) := (HBC.out.block w.heap.size hz0).trans HBX1.out
                  clear hcut
                  have hsz : ¬ (9223372036854775807 < s.size + 1) := by omega
                  by_cases hln : lineB p = s ++ nl
                  · have hlb := beqT_yes hln
                    have HLN : Hid (IsLine s.data.toList p) := ⟨HOK.out, HFP.out, isLine_iff.1 hln⟩
                    clear hln
                    go_wp2
                    refine wp_region_held_drew (S := (fun w' => (w'.cell? ⟨g12, 0, none⟩ = some (.int .i64 p.at_) ∧ w'.cell? ⟨g12, 1, none⟩ = some (.int .i64 p.kind) ∧ w'.cell? ⟨g12, 2, none⟩ = some (.int .i64 p.tbl) ∧ w'.cell? ⟨g12, 3, none⟩ = some (.int .i64 p.wri) ∧ w'.cell? ⟨g12, 4, none⟩ = some (.int .i64 p.rdr) ∧ w'.cell? ⟨g12, 5, none⟩ = some (.int .i64 p.idx) ∧ w'.cell? ⟨g12, 6, none⟩ = some (.int .i64 p.tok) ∧ w'.cell? ⟨g12, 7, none⟩ = some (.int .i64 p.rnd) ∧ w'.cell? ⟨g12, 8, none⟩ = some (.int .i64 p.rep) ∧ w'.cell? ⟨g12, 9, none⟩ = some (.int .i64 p.ver) ∧ w'.cell? ⟨g12, 10, none⟩ = some (.int .i64 p.hol)) ∧ Hid (Below w.heap.size w w' ∧ w'.there w.heap.size 0 11))) (by kernel_rfl) ?_ (fun hHeld => ?_)
                    · (try dsimp only); exact ⟨⟨c0, c1, c2, c3, c4, c5, c6, c7, c8, c9, c10⟩, below_drewN (below_trans HW1.out HBC.out) 1, there_of_box (w := wc.drew) HXC.out⟩
                    refine wpAnyH_take (i := 0) (v := ?v100) rfl (by kernel_rfl) (by kernel_rfl) (by kernel_rfl) (fun _ _ _ h => h) (Or.inl ⟨by rfl, ?hy100⟩) hHeld ?_
                    case hy100 => (intro w hSw; (try dsimp only at hSw); go_simp; try with_reducible rfl)
                    (try simp only [Act.put, List.setIfInBounds_toArray, List.set_cons_zero, List.set_cons_succ, List.getElem_toArray, List.getElem_cons_zero])
                    refine wpAnyH_take (i := 1) (v := ?v101) rfl (by kernel_rfl) (by kernel_rfl) (by kernel_rfl) (fun _ _ _ h => h) (Or.inl ⟨by rfl, ?hy101⟩) hHeld ?_
                    case hy101 => (intro w hSw; (try dsimp only at hSw); go_simp; try with_reducible rfl)
                    (try simp only [Act.put, List.setIfInBounds_toArray, List.set_cons_zero, List.set_cons_succ, List.getElem_toArray, List.getElem_cons_zero, List.getElem_cons_succ])
                    refine wpAnyH_take (i := 3) (v := ?v102) rfl (by kernel_rfl) (by kernel_rfl) (by kernel_rfl) (fun _ _ _ h => h) (Or.inl ⟨by rfl, ?hy102⟩) hHeld ?_
                    case hy102 => (intro w hSw; (try dsimp only at hSw); go_simp; try with_reducible rfl)
                    (try simp only [Act.put, List.setIfInBounds_toArray, List.set_cons_zero, List.set_cons_succ, List.getElem_toArray, List.getElem_cons_zero, List.getElem_cons_succ])
                    refine wpAnyH_take (i := 4) (v := ?v103) rfl (by kernel_rfl) (by kernel_rfl) (by kernel_rfl) (fun _ _ _ h => h) (Or.inl ⟨by rfl, ?hy103⟩) hHeld ?_
                    case hy103 => (intro w hSw; (try dsimp only at hSw); go_simp; try with_reducible rfl)
                    (try simp only [Act.put, List.setIfInBounds_toArray, List.set_cons_zero, List.set_cons_succ, List.getElem_toArray, List.getElem_cons_zero, List.getElem_cons_succ])
                    refine wpAnyH_ready (rs := [2]) (by kernel_rfl) (by simp) ?_
                    refine (AllReadyH.cons rfl (fun K hK => ?_) AllReadyH.nil)
                    go_simp
                    (refine (refLine_any p HFP.out HPK.out.1 HPK.out.2 _ (HE.out.below hHeld.2.out.1).tab).mono ?_; rintro e w5 ⟨rfl, hb5⟩)
                    refine hK.out _ _ ?_ (fun hHeld => ?_)
                    · (try dsimp only); exact hold_keep (T := fun u => u.there w.heap.size 0 11) there_below hHeld hb5
                    clear hK K
                    (try simp only [Act.put, List.setIfInBounds_toArray, List.set_cons_zero, List.set_cons_succ, List.getElem_toArray, List.getElem_cons_zero, List.getElem_cons_succ])
                    refine wpAnyH_take (i := 5) (v := ?v104) rfl (by kernel_rfl) (by kernel_rfl) (by kernel_rfl) (fun _ _ _ h => h) (Or.inl ⟨by rfl, ?hy104⟩) hHeld ?_
                    case hy104 => (intro w hSw; (try dsimp only at hSw); go_simp; try with_reducible rfl)
                    (try simp only [Act.put, List.setIfInBounds_toArray, List.set_cons_zero, List.set_cons_succ, List.getElem_toArray, List.getElem_cons_zero, List.getElem_cons_succ])
                    refine wpAnyH_ready (rs := [6]) (by kernel_rfl) (by simp) ?_
                    refine (AllReadyH.cons rfl (fun K hK => ?_) AllReadyH.nil)
                    (have hTH := hHeld.2.out.2; simp only [List.getElem_toArray, List.getElem_cons_zero, List.getElem_cons_succ]; rw [if_pos (by rfl)]; refine wp_store_mid 23 (.tmp 2) (.tmp 81) rfl (w.heap.size) (0) (p.cs.toArray) (by rfl) (by rfl) ?_ ?_ ?_ ?_; (exact hHeld.2.out.2); (exact pt_info); (exact pt_one _))
                    refine hK.out _ _ ?_ (fun hHeld => ?_)
                    · (try dsimp only); exact held_set hHeld (by omega)
                    clear hK K
                    (try simp only [Act.put])
                    refine wpAnyH_take (i := 7) (v := ?v105) rfl (by kernel_rfl) (by kernel_rfl) (by kernel_rfl) (fun _ _ _ h => h) (Or.inl ⟨by rfl, ?hy105⟩) hHeld ?_
                    case hy105 => (intro w hSw; (try dsimp only at hSw); go_simp; try with_reducible rfl)
                    (try simp only [Act.put, List.setIfInBounds_toArray, List.set_cons_zero, List.set_cons_succ, List.getElem_toArray, List.getElem_cons_zero, List.getElem_cons_succ])
                    refine wpAnyH_done (by kernel_rfl) ?_ _
                    have HPA := Lib.hid (ptAt_set (p := p) hTH)
                    have HBB := Lib.hid hHeld.2.out.1
                    generalize w5.setCells w.heap.size 0 p.cs = w9 at *
                    clear c0 c1 c2 c3 c4 c5 c6 c7 c8 c9 c10 hHeld
                    go_wp2
                    obtain ⟨c0, c1, c2, c3, c4, c5, c6, c7, c8, c9, c10⟩ := HPA.out
                    exact bodyPost_ret (v := .tuple #[p.v, .bool true]) (by simp [results, Tryd.results56, go_sem, c0, c1, c2, c3, c4, c5, c6, c7, c8, c9, c10]) rfl ⟨p, true, rfl, (fun _ => HLN.out), (fun _ => rfl), HBB.out⟩
                  · have hlb := beqT_no hln
                    have HNL : Hid (¬ ∃ q, IsLine s.data.toList q) := fun ⟨q, hq⟩ => hln (by rw [HLP.out q hq]; exact isLine_iff.2 hq.eq)
                    clear hln
                    go_wp2
                    refine wp_region_held_drew (S := (fun w' => (w'.cell? ⟨g12, 0, none⟩ = some (.int .i64 p.at_) ∧ w'.cell? ⟨g12, 1, none⟩ = some (.int .i64 p.kind) ∧ w'.cell? ⟨g12, 2, none⟩ = some (.int .i64 p.tbl) ∧ w'.cell? ⟨g12, 3, none⟩ = some (.int .i64 p.wri) ∧ w'.cell? ⟨g12, 4, none⟩ = some (.int .i64 p.rdr) ∧ w'.cell? ⟨g12, 5, none⟩ = some (.int .i64 p.idx) ∧ w'.cell? ⟨g12, 6, none⟩ = some (.int .i64 p.tok) ∧ w'.cell? ⟨g12, 7, none⟩ = some (.int .i64 p.rnd) ∧ w'.cell? ⟨g12, 8, none⟩ = some (.int .i64 p.rep) ∧ w'.cell? ⟨g12, 9, none⟩ = some (.int .i64 p.ver) ∧ w'.cell? ⟨g12, 10, none⟩ = some (.int .i64 p.hol)) ∧ Hid (Below w.heap.size w w' ∧ w'.there w.heap.size 0 11))) (by kernel_rfl) ?_ (fun hHeld => ?_)
                    · (try dsimp only); exact ⟨⟨c0, c1, c2, c3, c4, c5, c6, c7, c8, c9, c10⟩, below_drewN (below_trans HW1.out HBC.out) 1, there_of_box (w := wc.drew) HXC.out⟩
                    refine wpAnyH_take (i := 0) (v := ?v106) rfl (by kernel_rfl) (by kernel_rfl) (by kernel_rfl) (fun _ _ _ h => h) (Or.inl ⟨by rfl, ?hy106⟩) hHeld ?_
                    case hy106 => (intro w hSw; (try dsimp only at hSw); go_simp; try with_reducible rfl)
                    (try simp only [Act.put, List.setIfInBounds_toArray, List.set_cons_zero, List.set_cons_succ, List.getElem_toArray, List.getElem_cons_zero])
                    refine wpAnyH_take (i := 1) (v := ?v107) rfl (by kernel_rfl) (by kernel_rfl) (by kernel_rfl) (fun _ _ _ h => h) (Or.inl ⟨by rfl, ?hy107⟩) hHeld ?_
                    case hy107 => (intro w hSw; (try dsimp only at hSw); go_simp; try with_reducible rfl)
                    (try simp only [Act.put, List.setIfInBounds_toArray, List.set_cons_zero, List.set_cons_succ, List.getElem_toArray, List.getElem_cons_zero, List.getElem_cons_succ])
                    refine wpAnyH_take (i := 3) (v := ?v108) rfl (by kernel_rfl) (by kernel_rfl) (by kernel_rfl) (fun _ _ _ h => h) (Or.inl ⟨by rfl, ?hy108⟩) hHeld ?_
                    case hy108 => (intro w hSw; (try dsimp only at hSw); go_simp; try with_reducible rfl)
                    (try simp only [Act.put, List.setIfInBounds_toArray, List.set_cons_zero, List.set_cons_succ, List.getElem_toArray, List.getElem_cons_zero, List.getElem_cons_succ])
                    refine wpAnyH_take (i := 4) (v := ?v109) rfl (by kernel_rfl) (by kernel_rfl) (by kernel_rfl) (fun _ _ _ h => h) (Or.inl ⟨by rfl, ?hy109⟩) hHeld ?_
                    case hy109 => (intro w hSw; (try dsimp only at hSw); go_simp; try with_reducible rfl)
                    (try simp only [Act.put, List.setIfInBounds_toArray, List.set_cons_zero, List.set_cons_succ, List.getElem_toArray, List.getElem_cons_zero, List.getElem_cons_succ])
                    refine wpAnyH_ready (rs := [2]) (by kernel_rfl) (by simp) ?_
                    refine (AllReadyH.cons rfl (fun K hK => ?_) AllReadyH.nil)
                    go_simp
                    (refine (refLine_any p HFP.out HPK.out.1 HPK.out.2 _ (HE.out.below hHeld.2.out.1).tab).mono ?_; rintro e w5 ⟨rfl, hb5⟩)
                    refine hK.out _ _ ?_ (fun hHeld => ?_)
                    · (try dsimp only); exact hold_keep (T := fun u => u.there w.heap.size 0 11) there_below hHeld hb5
                    clear hK K
                    (try simp only [Act.put, List.setIfInBounds_toArray, List.set_cons_zero, List.set_cons_succ, List.getElem_toArray, List.getElem_cons_zero, List.getElem_cons_succ])
                    refine wpAnyH_take (i := 5) (v := ?v110) rfl (by kernel_rfl) (by kernel_rfl) (by kernel_rfl) (fun _ _ _ h => h) (Or.inl ⟨by rfl, ?hy110⟩) hHeld ?_
                    case hy110 => (intro w hSw; (try dsimp only at hSw); go_simp; try with_reducible rfl)
                    (try simp only [Act.put, List.setIfInBounds_toArray, List.set_cons_zero, List.set_cons_succ, List.getElem_toArray, List.getElem_cons_zero, List.getElem_cons_succ])
                    refine wpAnyH_ready (rs := [6]) (by kernel_rfl) (by simp) ?_
                    refine (AllReadyH.cons rfl (fun K hK => ?_) AllReadyH.nil)
                    (have hTH := hHeld.2.out.2; simp only [List.getElem_toArray, List.getElem_cons_zero, List.getElem_cons_succ]; rw [if_pos (by rfl)]; refine wp_store_mid 23 (.tmp 2) (.tmp 81) rfl (w.heap.size) (0) (p.cs.toArray) (by rfl) (by rfl) ?_ ?_ ?_ ?_; (exact hHeld.2.out.2); (exact pt_info); (exact pt_one _))
                    refine hK.out _ _ ?_ (fun hHeld => ?_)
                    · (try dsimp only); exact held_set hHeld (by omega)
                    clear hK K
                    (try simp only [Act.put])
                    refine wpAnyH_take (i := 7) (v := ?v111) rfl (by kernel_rfl) (by kernel_rfl) (by kernel_rfl) (fun _ _ _ h => h) (Or.inl ⟨by rfl, ?hy111⟩) hHeld ?_
                    case hy111 => (intro w hSw; (try dsimp only at hSw); go_simp; try with_reducible rfl)
                    (try simp only [Act.put, List.setIfInBounds_toArray, List.set_cons_zero, List.set_cons_succ, List.getElem_toArray, List.getElem_cons_zero, List.getElem_cons_succ])
                    refine wpAnyH_done (by kernel_rfl) ?_ _
                    have HPA := Lib.hid (ptAt_set (p := p) hTH)
                    have HBB := Lib.hid hHeld.2.out.1
                    generalize w5.setCells w.heap.size 0 p.cs = w9 at *
                    clear c0 c1 c2 c3 c4 c5 c6 c7 c8 c9 c10 hHeld
                    go_wp2
                    obtain ⟨c0, c1, c2, c3, c4, c5, c6, c7, c8, c9, c10⟩ := HPA.out
                    exact bodyPost_ret (v := .tuple #[p.v, .bool false]) (by simp [results, Tryd.results56, go_sem, c0, c1, c2, c3, c4, c5, c6, c7, c8, c9, c10]) rfl ⟨p, false, rfl, (fun h => by cases h), (fun h => absurd h HNL.out), HBB.out⟩
            · have hlN : N.length ≤ 1000000 := HLN9.out
              have hLb : ((N.length : Int) != 1 + (cnt kd : Int)) = true := by rw [bne_iff_ne]; omega
              have HNL : Hid (¬ ∃ q, IsLine s.data.toList q) := fun ⟨q, hq⟩ => by
                obtain ⟨e1, e2⟩ := HLI.out q hq
                apply hL
                rw [e1, e2, List.length_cons, flds_length]
              have HL := Lib.hid hL
              clear hL
              go_wp2_with fail
              refine (refFields_any ⟨0, kd, 0, 0, 0, 0, 0, 0, 0, 0, 0⟩ _).mono ?_
              rintro e w3 ⟨b3, rfl, _, hb3⟩
              rw [HFL.out]
              have HB3 := Lib.hid (below_trans HBL.out hb3)
              clear hb3
              have hbx : w3.heap[w.heap.size]? = some Pt.zero.box := (HB3.out.block w.heap.size hz0).trans HBX1.out
              obtain ⟨c0, c1, c2, c3, c4, c5, c6, c7, c8, c9, c10⟩ := ptAt_of_heap hbx
              have hfr := frozen_of_box hbx
              have HPA := Lib.hid (ptAt_set (p := Pt.zero) (there_of_box hbx))
              have HBB := Lib.hid (below_setCells (below_trans HW1.out HB3.out) (Nat.le_refl w.heap.size) (by have := HB3.out.size; omega) 0 Pt.zero.cs)
              clear hbx
              go_wp2
              refine bodyPost_world (w3.setCells w.heap.size 0 Pt.zero.cs) rfl ?_
              clear c0 c1 c2 c3 c4 c5 c6 c7 c8 c9 c10 hfr
              generalize w3.setCells w.heap.size 0 Pt.zero.cs = w9 at *
              obtain ⟨c0, c1, c2, c3, c4, c5, c6, c7, c8, c9, c10⟩ := HPA.out
              exact bodyPost_ret (v := .tuple #[Pt.zero.v, .bool false]) (by simp [results, Tryd.results56, go_sem, c0, c1, c2, c3, c4, c5, c6, c7, c8, c9, c10]) rfl ⟨Pt.zero, false, rfl, (fun h => by cases h), (fun h => absurd h HNL.out), HBB.out⟩
end Go.Proofs.YtcmnmcholfellaaDoor
