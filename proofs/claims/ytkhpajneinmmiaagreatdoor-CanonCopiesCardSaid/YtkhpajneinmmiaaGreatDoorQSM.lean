/-
  Walks: lists of numbers compared and searched; roots compared.
-/
import Derived.Test.YtkhpajneinmmiaaGreatDoorQRE1
import Derived.Test.YtkhpajneinmmiaaGreatDoorQPL
namespace Go.Proofs.YtkhpajneinmmiaaGreatDoor
open Go.RowKit
set_option maxHeartbeats 1000000 in
set_option maxRecDepth 100000 in
theorem equalInts_any (l m : List Int) (A B : Option Addr) (c d : Nat) (w : World) (hl : IntsR w A l) (hm : IntsR w B m) :
  Calls Tryz.prog 21 #[.slice A l.length c, .slice B m.length d] w (SamePost (decide (l = m)) w) := by
 have hn := hl.1.lt (by omega)
 by_cases hlen : l.length = m.length
 ·rw [← hlen]
  have hb0 : ((l.length : Int) != (l.length : Int)) = false := by simp
  have HL := Lib.hid hl
  have HM := Lib.hid hm
  have HE := Lib.hid hlen
  clear hl hm hlen
  go_enter Tryz.func21, Tryz.ntmps21
  go_wp2
  go_loopw [13] (fun i wr => ∃ k : Nat, k ≤ l.length ∧ i = .int .i64 k ∧ Hid (l.take k = m.take k) ∧ Hid (Below w.heap.size w wr)) (fun i _ => l.length - (intOf i).toNat)
  case atStart => exact ⟨0, by omega, rfl, rfl, Below.refl _ _⟩
  case round =>
   obtain ⟨k, hk, rfl, htk, hbw⟩ := hrel
   by_cases hlt : k < l.length
   ·have hlt' : k < m.length := by have := HE.out; omega
    obtain ⟨b, o, rfl, c0⟩ := (HL.out.below hbw.out).at1 hlt
    obtain ⟨b', o', rfl, d0⟩ := (HM.out.below hbw.out).at1 hlt'
    have h1 : (0:Int) ≤ (k:Int) := by omega
    have h2 : (k : Int) < (l.length : Int) := by omega
    by_cases he : l[k] = m[k]
    ·have heq : (l[k] != m[k]) = false := by simp [he]
     have HQ := Lib.hid (take_eq_of hlt hlt' htk.out he)
     clear he
     go_wp2
     go_quiet (fail)
     go_wp2
     go_roundw
     case rel => exact ⟨k + 1, by omega, by go_num, HQ.out, below_drewN hbw.out _⟩
     case measure => simp [intOf]; omega
    ·have heq : (l[k] != m[k]) = true := by simp [he]
     have HQ := Lib.hid (take_ne_of hlt hlt' he)
     clear he
     go_wp2
     go_quiet (fail)
     go_wp2
     go_ret
     exact ⟨by rw [HQ.out]; rfl, below_drewN hbw.out _⟩
   ·have HQ := Lib.hid (take_all hlt HE.out htk.out)
    go_wp2
    go_ret
    exact ⟨by rw [HQ.out]; rfl, hbw.out⟩
 ·have hb0 : ((l.length : Int) != (m.length : Int)) = true := bne_iff_ne.2 (by omega)
  have HQ := Lib.hid (show decide (l = m) = false from decide_eq_false fun e => hlen (by rw [e]))
  clear hlen
  go_enter Tryz.func21, Tryz.ntmps21
  go_wp2
  go_ret
  exact ⟨by rw [HQ.out]; rfl, Below.refl _ _⟩
end Go.Proofs.YtkhpajneinmmiaaGreatDoor


