/-
  Walks: whether two lists of points are equal.
-/
import Derived.Test.YtcmnmcholfellaaDoorEq
namespace Go.Proofs.YtcmnmcholfellaaDoor
open Go.RowKit

theorem take_eq_of {l m : List Pt} {k : Nat} (hl : k < l.length) (hm : k < m.length) (h : l.take k = m.take k) (he : l[k] = m[k]) : l.take (k + 1) = m.take (k + 1) := by
  rw [List.take_succ_eq_append_getElem hl, List.take_succ_eq_append_getElem hm, h, he]

set_option maxHeartbeats 1000000 in
theorem same_any (l m : List Pt) (A B : Option Addr) (c d : Nat) (w : World) (hl : PtsR w A l) (hm : PtsR w B m) (hn : l.length ≤ 4611686018427387904) :
    Calls Tryd.prog 18 #[.slice A l.length c, .slice B m.length d] w fun e w' => e = .returned (.bool (decide (l = m))) ∧ Below w.heap.size w w' := by
  by_cases hlen : l.length = m.length
  · rw [← hlen]
    have hb0 : ((l.length : Int) != (l.length : Int)) = false := by simp
    have HL := Lib.hid hl
    have HM := Lib.hid hm
    have HE := Lib.hid hlen
    clear hl hm hlen
    go_enter Tryd.func18, Tryd.ntmps18
    go_wp2
    go_loopw [5] (fun i wr => ∃ k : Nat, k ≤ l.length ∧ i = .int .i64 k ∧ Hid (l.take k = m.take k) ∧ Hid (Below w.heap.size w wr)) (fun i _ => l.length - (intOf i).toNat)
    case atStart => exact ⟨0, by omega, rfl, rfl, Below.refl _ _⟩
    case round =>
      obtain ⟨k, hk, rfl, htk, hbw⟩ := hrel
      by_cases hlt : k < l.length
      · have hlt' : k < m.length := by have := HE.out; omega
        obtain ⟨b, o, rfl, _, c0, c1, c2, c3, c4, c5, c6, c7, c8, c9, c10⟩ := (HL.out.below hbw.out).at_ hlt
        obtain ⟨b', o', rfl, _, d0, d1, d2, d3, d4, d5, d6, d7, d8, d9, d10⟩ := (HM.out.below hbw.out).at_ hlt'
        have h1 : (0:Int) ≤ (k:Int) := by omega
        have h2 : (k : Int) < (l.length : Int) := by omega
        by_cases he : l[k] = m[k]
        · have heq : ∀ w, (binOp .neq 23 (l[k]).v (m[k]).v).run Tryd.prog w = .ok (.bool false) w := fun w => by rw [run_neq_pt, decide_eq_true he]; rfl
          have HQ := Lib.hid (take_eq_of hlt hlt' htk.out he)
          clear he
          go_wp2
          go_quiet (fail)
          go_wp2
          go_roundw
          case rel => exact ⟨k + 1, by omega, by go_num, HQ.out, below_drewN hbw.out _⟩
          case measure => simp [intOf]; omega
        · have heq : ∀ w, (binOp .neq 23 (l[k]).v (m[k]).v).run Tryd.prog w = .ok (.bool true) w := fun w => by rw [run_neq_pt, decide_eq_false he]; rfl
          have HQ := Lib.hid (show decide (l = m) = false from decide_eq_false fun e => he (by subst e; rfl))
          clear he
          go_wp2
          go_quiet (fail)
          go_wp2
          go_ret
          exact ⟨by rw [HQ.out]; rfl, below_drewN hbw.out _⟩
      · have HQ := Lib.hid (show decide (l = m) = true from decide_eq_true (by
          have h := htk.out
          rwa [List.take_of_length_le (by omega), List.take_of_length_le (by have := HE.out; omega)] at h))
        go_wp2
        go_ret
        exact ⟨by rw [HQ.out]; rfl, hbw.out⟩
  · have hb0 : ((l.length : Int) != (m.length : Int)) = true := bne_iff_ne.2 (by omega)
    have HQ := Lib.hid (show decide (l = m) = false from decide_eq_false fun e => hlen (by rw [e]))
    clear hlen
    go_enter Tryd.func18, Tryd.ntmps18
    go_wp2
    go_ret
    exact ⟨by rw [HQ.out]; rfl, Below.refl _ _⟩
end Go.Proofs.YtcmnmcholfellaaDoor
