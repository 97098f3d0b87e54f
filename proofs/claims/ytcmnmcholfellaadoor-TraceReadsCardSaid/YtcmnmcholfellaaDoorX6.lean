/-
  Walks: the law TraceReads.
-/
import Derived.Test.YtcmnmcholfellaaDoorRD6
import Derived.Test.YtcmnmcholfellaaDoorRD8
import Derived.Test.YtcmnmcholfellaaDoorP1
import Derived.Test.YtcmnmcholfellaaDoorH1
import Derived.Test.YtcmnmcholfellaaDoorW6
import Derived.Test.YtcmnmcholfellaaDoorK1
namespace Go.Proofs.YtcmnmcholfellaaDoor
open Go.RowKit

theorem rd_nats {l A : List Cf} {N : List Int} (h : RdOut l A N) : ∃ cs : List Nat, N = cs.map (fun n : Nat => (n : Int)) ∧ cs.sum = l.length ∧ ∀ k, (cs.take k).sum ≤ l.length := by
  have hs := sum_counts A l h.asc.nodup (fun c hc => (h.mem c).2 hc)
  refine ⟨A.map fun c => l.count c, by rw [h.num, List.map_map]; rfl, hs, fun k => ?_⟩
  have := congrArg List.sum (List.take_append_drop k (A.map fun c => l.count c))
  rw [List.sum_append, hs] at this
  omega

theorem IntsR.below {w w' : World} {A : Option Addr} {l : List Int} (h : IntsR w A l) (hb : Below w.heap.size w w') : IntsR w' A l := fun hn => by
  obtain ⟨b, o, e, hi⟩ := h hn
  exact ⟨b, o, e, fun j u hj => below_cell hb (hi j u hj)⟩

theorem IntsR.cell {w : World} {b o : Nat} {l : List Int} (hi : w.rangeAt b o (l.map (Value.int .i64))) {k : Nat} (hk : k < l.length) : w.cell? ⟨b, o + k, none⟩ = some (.int .i64 l[k]) :=
  hi k _ (by rw [List.getElem?_map, List.getElem?_eq_getElem hk]; rfl)

theorem eqInts_any (N : List Int) (hN : N.length ≤ 1000000) (A B : Option Addr) (c d : Nat) (w : World) (hA : IntsR w A N) (hB : IntsR w B N) :
    Calls Tryd.prog 29 #[.slice A N.length c, .slice B N.length d] w fun e w' => e = .returned (.bool true) ∧ Below w.heap.size w w' := by
  by_cases hn : N = []
  · subst hn
    refine (Tryd.slices_Equal_int_empty A B c 0 d w (by omega)).mono ?_
    rintro e w' ⟨rfl, rfl⟩
    exact ⟨rfl, Below.refl _ _⟩
  · obtain ⟨b, o, rfl, hi⟩ := hA hn
    obtain ⟨b', o', rfl, hi'⟩ := hB hn
    have key : ∀ j, j < N.length → N.getD j 0 = N[j]! := fun j hj => by simp [List.getD, hj]
    refine (Tryd.slices_Equal_int b o N.length c b' o' N.length d N N w (Nat.le_refl _) (Nat.le_refl _) (by omega) (by omega) (fun j hj => ?_) (fun j hj => ?_)).mono ?_
    · rw [IntsR.cell hi hj]; simp [List.getD, hj]
    · rw [IntsR.cell hi' hj]; simp [List.getD, hj]
    · rintro e w' ⟨rfl, q, rfl⟩
      exact ⟨by simp, below_drewN (Below.refl _ _) q⟩

set_option maxHeartbeats 1000000 in
set_option maxRecDepth 100000 in
theorem conflicts_any (l : List Cf) (hn : l.length ≤ 1000000) (A B : Option Addr) (c d : Nat) (w : World) (hl : CfsR w A l) (hm : CfsR w B l) :
    Calls Tryd.prog 28 #[.slice A l.length c, .slice B l.length d] w fun e w' => e = .returned (.bool true) ∧ Below w.heap.size w w' := by
  have HL := Lib.hid hl
  have HM := Lib.hid hm
  have hb0 : ((l.length : Int) != (l.length : Int)) = false := by simp
  clear hl hm
  go_enter Tryd.func28, Tryd.ntmps28
  go_wp2
  go_loopw [5] (fun i wr => ∃ k : Nat, k ≤ l.length ∧ i = .int .i64 k ∧ Hid (Below w.heap.size w wr)) (fun i _ => l.length - (intOf i).toNat)
  case atStart => exact ⟨0, by omega, rfl, Below.refl _ _⟩
  case round =>
    obtain ⟨k, hk, rfl, hbw⟩ := hrel
    by_cases hlt : k < l.length
    · obtain ⟨b, o, rfl, c0, c1, c2⟩ := (HL.out.below hbw.out).at_ hlt
      obtain ⟨b', o', rfl, d0, d1, d2⟩ := (HM.out.below hbw.out).at_ hlt
      have heq : ∀ w, (binOp .neq 75 (l[k]).v (l[k]).v).run Tryd.prog w = .ok (.bool false) w := fun w => by rw [run_neq_cf, decide_eq_true rfl]; rfl
      have h1 : (0:Int) ≤ (k:Int) := by omega
      have h2 : (k : Int) < (l.length : Int) := by omega
      go_wp2
      go_quiet (fail)
      go_wp2
      go_roundw
      case rel => exact ⟨k + 1, by omega, by go_num, below_drewN hbw.out _⟩
      case measure => simp [intOf]; omega
    · go_wp2
      go_ret
      exact ⟨rfl, hbw.out⟩

set_option maxHeartbeats 2000000 in
set_option maxRecDepth 100000 in
theorem traceReads_any (l : List Pt) (A : Option Addr) (c : Nat) (w : World) (hl : PtsR w A l) (ht : Tab w) :
    Calls Tryd.prog 8 #[.slice A l.length c] w fun e w' => e = .returned (.bool true) ∧ Below w.heap.size w w' := by
  have HT := Lib.hid ht
  have HL := Lib.hid hl
  clear ht hl
  by_cases hsmall : l.length ≤ 20
  · have b1 : ¬ (20 : Int) < (l.length : Int) := by omega
    go_enter Tryd.func8, Tryd.ntmps8
    go_wp2_with fail
    refine (awake_any _ HT.out).mono ?_
    rintro e w1 ⟨rfl, hb1⟩
    have HB1 := Lib.hid hb1
    clear hb1
    go_wp2_with fail
    refine (clone_any l (by omega) A c _ (HL.out.below HB1.out)).mono ?_
    rintro e w2 ⟨v2, rfl, ho2, hb2⟩
    obtain ⟨A2, c2, rfl, hr2⟩ := ho2.reads
    have HR2 := Lib.hid hr2
    have HB2 := Lib.hid (below_trans HB1.out hb2)
    clear ho2 hr2 hb2
    go_wp2_with fail
    refine (reads_any l (by omega) A2 c2 _ HR2.out).mono ?_
    rintro e w3 ⟨A3, B3, c3, d3, As, Ns, rfl, hrd, hra, hrn, hb3⟩
    have HRD := Lib.hid hrd
    have HA3 := Lib.hid hra
    have HN3 := Lib.hid hrn
    have HB3 := Lib.hid (below_trans HB2.out hb3)
    clear hrd hra hrn hb3
    go_wp2_with fail
    refine (refReads_any l (by omega) A c _ (HL.out.below HB3.out)).mono ?_
    rintro e w4 ⟨A4, B4, c4, d4, As', Ns', rfl, hrd', hra, hrn, hb4⟩
    obtain ⟨e1, e2⟩ := RdOut.unique hrd' HRD.out
    subst e1 e2
    have HA4 := Lib.hid hra
    have HN4 := Lib.hid hrn
    have HA3' := Lib.hid (HA3.out.below hb4)
    have HN3' := Lib.hid (HN3.out.below hb4)
    have HB4 := Lib.hid (below_trans HB3.out hb4)
    clear hrd' hra hrn hb4
    have hAs : As'.length ≤ 20 := by
      have h1 := nodup_le HRD.out.asc.nodup (fun a ha => (HRD.out.mem a).1 ha)
      have h2 : (rdL l).length ≤ l.length := by unfold rdL; rw [List.length_map]; exact List.length_filter_le _ _
      omega
    obtain ⟨cs, hcs, hsum, htk⟩ := rd_nats HRD.out
    have hrl : (rdL l).length = (l.filter fun p => !delK 1 p).length := by unfold rdL; rw [List.length_map]
    have hfl := List.length_filter_le (fun p => !delK 1 p) l
    have HSUM := Lib.hid (hsum.trans hrl)
    have HTK := Lib.hid htk
    have HNA : Hid (Ns'.length = As'.length) := by rw [HRD.out.num, List.length_map]; exact rfl
    have hnl : Ns'.length ≤ 20 := by rw [HNA.out]; exact hAs
    have HCL := Lib.hid (show cs.length = Ns'.length by rw [hcs, List.length_map])
    have HCS := Lib.hid hcs
    have HRL := Lib.hid hrl
    clear hcs hsum htk hrl HRD
    go_wp2
    go_loopw [31, 7] (fun s31 s7 wr => ∃ (k s : Nat), k ≤ Ns'.length ∧ s ≤ 20 ∧ s31 = .int .i64 k ∧ s7 = .int .i64 s ∧ Hid (s = (cs.take k).sum) ∧ wr = w4) (fun s31 _ _ => Ns'.length - (intOf s31).toNat)
    case atStart => exact ⟨0, 0, by omega, by omega, rfl, rfl, Lib.hid (by simp), by first | trivial | rfl⟩
    case round =>
      obtain ⟨k, s, hk, hs, rfl, rfl, hss, rfl⟩ := hrel
      by_cases hlt : k < Ns'.length
      · have hkc : k < cs.length := by rw [HCL.out]; exact hlt
        obtain ⟨b, o, rfl, hin⟩ := HN3'.out (fun e => by subst e; simp at hlt)
        have hc0 := IntsR.cell hin hlt
        have hnk : Ns'[k] = ((cs[k] : Nat) : Int) := by simp [HCS.out]
        have HST := Lib.hid (show s + cs[k] = (cs.take (k + 1)).sum by rw [List.take_succ_eq_append_getElem hkc, List.sum_append, ← hss.out]; simp)
        have hle : s + cs[k] ≤ 20 := by rw [HST.out]; have := HTK.out (k + 1); have := HRL.out; omega
        rw [hnk] at hc0
        generalize cs[k] = x at *
        have g1 : IntKind.i64.wrap ((s : Int) + (x : Int)) = ((s + x : Nat) : Int) := by rw [IntWalk.i64_in _ (by omega)]; rfl
        clear hin hnk
        go_wp2
        go_roundw
        case rel => exact ⟨k + 1, s + x, by omega, hle, by go_num, rfl, HST.out, by first | trivial | rfl⟩
        case measure => simp [intOf]; omega
      · have HSE := Lib.hid (show s = (l.filter fun p => !delK 1 p).length by rw [hss.out, List.take_of_length_le (by rw [HCL.out]; omega)]; exact HSUM.out)
        clear hss
        go_wp2_with fail
        refine (conflicts_any As' (by omega) A3 A4 c3 c4 _ HA3'.out HA4.out).mono ?_
        rintro e w5 ⟨rfl, hb5⟩
        have HB5 := Lib.hid (below_trans HB4.out hb5)
        have HN35 := Lib.hid (HN3'.out.below hb5)
        have HN45 := Lib.hid (HN4.out.below hb5)
        clear hb5
        go_wp2_with fail
        refine (eqInts_any Ns' (by omega) B3 B4 d3 d4 _ HN35.out HN45.out).mono ?_
        rintro e w6 ⟨rfl, hb6⟩
        have HB6 := Lib.hid (below_trans HB5.out hb6)
        clear hb6
        go_wp2_with fail
        refine (refFilter_any l (by omega) A c 1 _ (HL.out.below HB6.out)).mono ?_
        rintro e w7 ⟨v7, rfl, ⟨A7, c7, rfl, hr7⟩, hb7⟩
        have HB7 := Lib.hid (below_trans HB6.out hb7)
        clear hr7 hb7
        rw [← HSE.out]
        have hself : ((s : Int) == (s : Int)) = true := by simp
        go_wp2
        go_ret
        exact ⟨rfl, HB7.out⟩
  · have hd : (20 : Int) < (l.length : Int) := by omega
    go_enter Tryd.func8, Tryd.ntmps8
    go_wp2_with fail
    refine (awake_any _ HT.out).mono ?_
    rintro e w1 ⟨rfl, hb1⟩
    have HB1 := Lib.hid hb1
    clear hb1
    go_wp2_with fail
    refine (awake_any _ (HT.out.below HB1.out)).mono ?_
    rintro e w2 ⟨rfl, hb2⟩
    have HB2 := Lib.hid (below_trans HB1.out hb2)
    clear hb2
    go_wp2
    go_ret
    exact ⟨rfl, HB2.out⟩
end Go.Proofs.YtcmnmcholfellaaDoor
