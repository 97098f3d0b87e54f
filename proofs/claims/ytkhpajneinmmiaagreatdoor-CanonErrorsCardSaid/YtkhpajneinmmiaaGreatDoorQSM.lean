/-
  Walks: lists of numbers compared and searched; roots compared.
-/
import Derived.Test.YtkhpajneinmmiaaGreatDoorQRE1
import Derived.Test.YtkhpajneinmmiaaGreatDoorQPL
namespace Go.Proofs.YtkhpajneinmmiaaGreatDoor
open Go.RowKit

set_option maxHeartbeats 1000000 in
set_option maxRecDepth 100000 in
theorem equalInts_any (l m : List Int) (A B : Option Addr) (c d : Nat) (w : World) (hl : IntsR w A l) (hm : IntsR w B m) :
    Calls Tryz.prog 21 #[.slice A l.length c, .slice B m.length d] w (SamePost (decide (l = m)) w) := by
  have hn := hl.1.lt (by omega)
  by_cases hlen : l.length = m.length
  · rw [← hlen]
    have hb0 : ((l.length : Int) != (l.length : Int)) = false := by simp
    have HL := Lib.hid hl
    have HM := Lib.hid hm
    have HE := Lib.hid hlen
    clear hl hm hlen
    go_enter Tryz.func21, Tryz.ntmps21
    go_wp2
    go_loopw [13] (fun i wr => ∃ k : Nat, k ≤ l.length ∧ i = .int .i64 k ∧ Hid (l.take k = m.take k) ∧ Hid (Below w.heap.size w wr)) (fun i _ => l.length - (intOf i).toNat)
    case atStart => exact ⟨0, by omega, rfl, rfl, Below.refl _ _⟩
    case round =>
      obtain ⟨k, hk, rfl, htk, hbw⟩ := hrel
      by_cases hlt : k < l.length
      · have hlt' : k < m.length := by have := HE.out; omega
        obtain ⟨b, o, rfl, c0⟩ := (HL.out.below hbw.out).at1 hlt
        obtain ⟨b', o', rfl, d0⟩ := (HM.out.below hbw.out).at1 hlt'
        have h1 : (0:Int) ≤ (k:Int) := by omega
        have h2 : (k : Int) < (l.length : Int) := by omega
        by_cases he : l[k] = m[k]
        · have heq : (l[k] != m[k]) = false := by simp [he]
          have HQ := Lib.hid (take_eq_of hlt hlt' htk.out he)
          clear he
          go_wp2
          go_quiet (fail)
          go_wp2
          go_roundw
          case rel => exact ⟨k + 1, by omega, by go_num, HQ.out, below_drewN hbw.out _⟩
          case measure => simp [intOf]; omega
        · have heq : (l[k] != m[k]) = true := by simp [he]
          have HQ := Lib.hid (take_ne_of hlt hlt' he)
          clear he
          go_wp2
          go_quiet (fail)
          go_wp2
          go_ret
          exact ⟨by rw [HQ.out]; rfl, below_drewN hbw.out _⟩
      · have HQ := Lib.hid (take_all hlt HE.out htk.out)
        go_wp2
        go_ret
        exact ⟨by rw [HQ.out]; rfl, hbw.out⟩
  · have hb0 : ((l.length : Int) != (m.length : Int)) = true := bne_iff_ne.2 (by omega)
    have HQ := Lib.hid (show decide (l = m) = false from decide_eq_false fun e => hlen (by rw [e]))
    clear hlen
    go_enter Tryz.func21, Tryz.ntmps21
    go_wp2
    go_ret
    exact ⟨by rw [HQ.out]; rfl, Below.refl _ _⟩

set_option maxHeartbeats 1000000 in
set_option maxRecDepth 100000 in
theorem rIndex_any (l : List Int) (n : Int) (A : Option Addr) (c : Nat) (w : World) (hl : IntsR w A l) :
    Calls Tryz.prog 50 #[.slice A l.length c, .int .i64 n] w fun e w' => e = .returned (.int .i64 (idxI l n)) ∧ w = w' := by
  have hn := hl.1.lt (by omega)
  have HL := Lib.hid hl
  clear hl
  go_enter Tryz.func50, Tryz.ntmps50
  go_wp2
  go_loop [5] (fun i => ∃ k : Nat, k ≤ l.length ∧ i = .int .i64 k ∧ Hid (∀ j (hj : j < l.length), j < k → l[j] ≠ n)) (fun i => l.length - (intOf i).toNat)
  case atStart => exact ⟨0, by omega, rfl, fun j _ h => absurd h (by omega)⟩
  case round =>
    obtain ⟨k, hk, rfl, hh⟩ := hrel
    by_cases hlt : k < l.length
    · obtain ⟨b, o, rfl, c0⟩ := HL.out.at1 hlt
      have h1 : (0:Int) ≤ (k:Int) := by omega
      have h2 : (k : Int) < (l.length : Int) := by omega
      by_cases he : l[k] = n
      · have HD := Lib.hid (idxI_at hlt he fun j hj => hh.out j (by omega) hj)
        have heq : (l[k] == n) = true := by simp [he]
        clear he
        go_wp2
        go_ret
        exact ⟨by rw [HD.out]; rfl, rfl⟩
      · have HN := Lib.hid he
        have heq : (l[k] == n) = false := by simp [he]
        clear he
        go_wp2
        go_round
        case rel =>
          refine ⟨k + 1, by omega, by go_num, fun j hj hjk => ?_⟩
          by_cases e : j = k
          · subst e; exact HN.out
          · exact hh.out j hj (by omega)
        case measure => simp [intOf]; omega
    · have HD := Lib.hid (idxI_no fun j hj => hh.out j hj (by omega))
      go_wp2
      go_ret
      exact ⟨by rw [HD.out]; rfl, rfl⟩

set_option maxHeartbeats 1000000 in
set_option maxRecDepth 100000 in
theorem rSameRoot_any (a : List TyD) (ta : Int) (b : List TyD) (tb : Int) (A : Option Addr) (c : Nat) (B : Option Addr) (d : Nat) (w : World) (ha : TysR w A a) (hb : TysR w B b) :
    Calls Tryz.prog 25 #[rootV A a.length c ta, rootV B b.length d tb] w (SamePost (decide (ta = tb) && decide (a = b)) w) := by
  have HA := Lib.hid ha
  have HB := Lib.hid hb
  clear ha hb
  by_cases he : ta = tb
  · have heq : (ta == tb) = true := by simp [he]
    have HD := Lib.hid (show (decide (ta = tb) && decide (a = b)) = decide (a = b) by simp [he])
    clear he
    go_enter Tryz.func25, Tryz.ntmps25
    go_wp2_with fail
    refine (sEqual_any a b A c B d _ (HA.out.below (below_new2 _ _ _)) (HB.out.below (below_new2 _ _ _))).mono ?_
    rintro e w2 ⟨rfl, hb2⟩
    go_wp2
    go_ret
    exact ⟨by rw [HD.out]; rfl, below_alloc2 hb2⟩
  · have heq : (ta == tb) = false := by simp [he]
    have HD := Lib.hid (show (decide (ta = tb) && decide (a = b)) = false by simp [he])
    clear he
    go_enter Tryz.func25, Tryz.ntmps25
    go_wp2
    go_ret
    exact ⟨by rw [HD.out]; rfl, below_new2 _ _ _⟩

set_option maxHeartbeats 1000000 in
set_option maxRecDepth 100000 in
theorem rBefore_any (l m : List Int) (A B : Option Addr) (c d : Nat) (w : World) (hl : IntsR w A l) (hm : IntsR w B m) :
    Calls Tryz.prog 59 #[.slice A l.length c, .slice B m.length d] w (SamePost (ltL l m) w) := by
  have hn := hl.1.lt (by omega)
  have hn2 := hm.1.lt (by omega)
  have HL := Lib.hid hl
  have HM := Lib.hid hm
  clear hl hm
  go_enter Tryz.func59, Tryz.ntmps59
  go_wp2
  go_loopw [5] (fun i wr => ∃ k : Nat, k ≤ l.length ∧ k ≤ m.length ∧ i = .int .i64 k ∧ Hid (∀ j (h1 : j < l.length) (h2 : j < m.length), j < k → l[j] = m[j]) ∧ Hid (Below w.heap.size w wr)) (fun i _ => l.length - (intOf i).toNat)
  case atStart => exact ⟨0, by omega, by omega, rfl, (fun j _ _ h => absurd h (by omega)), Below.refl _ _⟩
  case round =>
    obtain ⟨k, hk, hk2, rfl, htk, hbw⟩ := hrel
    by_cases hlt : k < l.length
    · by_cases hlt' : k < m.length
      · obtain ⟨b, o, rfl, c0⟩ := (HL.out.below hbw.out).at1 hlt
        obtain ⟨b', o', rfl, d0⟩ := (HM.out.below hbw.out).at1 hlt'
        have h1 : (0:Int) ≤ (k:Int) := by omega
        have h2 : (k : Int) < (l.length : Int) := by omega
        have h3 : (k : Int) < (m.length : Int) := by omega
        by_cases he : l[k] = m[k]
        · have heq : (l[k] != m[k]) = false := by simp [he]
          have HQ := Lib.hid he
          clear he
          go_wp2
          go_quiet (fail)
          go_wp2
          go_roundw
          case rel =>
            refine ⟨k + 1, by omega, by omega, by go_num, (fun j g1 g2 hj => ?_), below_drewN hbw.out _⟩
            by_cases e : j = k
            · subst e; exact HQ.out
            · exact htk.out j g1 g2 (by omega)
          case measure => simp [intOf]; omega
        · have heq : (l[k] != m[k]) = true := by simp [he]
          have HD := Lib.hid (ltL_ne hlt hlt' htk.out he)
          clear he
          go_wp2
          go_quiet (fail)
          go_wp2
          go_quiet (fail)
          go_wp2
          go_ret
          exact ⟨by rw [HD.out]; rfl, below_drewN (below_drewN hbw.out _) _⟩
      · have HD := Lib.hid (ltL_end hk hk2 (by omega) htk.out)
        have hd' : decide (k < m.length) = false := by simp; omega
        go_wp2
        go_ret
        exact ⟨by rw [HD.out]; simp, hbw.out⟩
    · have HD := Lib.hid (ltL_end hk hk2 (by omega) htk.out)
      go_wp2
      go_ret
      exact ⟨by rw [HD.out]; simp, hbw.out⟩
end Go.Proofs.YtkhpajneinmmiaaGreatDoor
