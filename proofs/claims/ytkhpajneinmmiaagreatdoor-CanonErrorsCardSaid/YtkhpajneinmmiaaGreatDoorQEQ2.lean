/-
  Walks: equality of values, in the reference.
-/
import Derived.Test.YtkhpajneinmmiaaGreatDoorQEQ1
import Derived.Test.YtkhpajneinmmiaaGreatDoorQDM
import Derived.StillTailTactics
namespace Go.Proofs.YtkhpajneinmmiaaGreatDoor
open Go.RowKit

def rSameAt (x : Val) : Prop := ∀ (y : Val) (A1 : Option Addr) (c1 : Nat) (A2 : Option Addr) (c2 : Nat) (A3 : Option Addr) (c3 : Nat) (B1 : Option Addr) (d1 : Nat) (B2 : Option Addr) (d2 : Nat) (B3 : Option Addr) (d3 : Nat) (w : World),
  ValR w x A1 A2 A3 → ValR w y B1 B2 B3 → Calls Tryz.prog 86 #[x.v A1 c1 A2 c2 A3 c3, y.v B1 d1 B2 d2 B3 d3] w (SamePost (decide (x = y)) w)

set_option maxHeartbeats 1000000 in
set_option maxRecDepth 100000 in
theorem rSames_any (l m : List Val) (ih : ∀ x ∈ l, rSameAt x) (A B : Option Addr) (c d : Nat) (w : World) (hl : ValsR w A l) (hm : ValsR w B m) :
    Calls Tryz.prog 113 #[.slice A l.length c, .slice B m.length d] w (SamePost (decide (l = m)) w) := by
  have hn := hl.1.lt (by omega)
  by_cases hlen : l.length = m.length
  · rw [← hlen]
    have hb0 : ((l.length : Int) != (l.length : Int)) = false := by simp
    have HL := Lib.hid hl
    have HM := Lib.hid hm
    have HE := Lib.hid hlen
    have HI := Lib.hid ih
    clear hl hm hlen ih
    go_enter Tryz.func113, Tryz.ntmps113
    go_wp2
    go_loopw [5] (fun i wr => ∃ k : Nat, k ≤ l.length ∧ i = .int .i64 k ∧ Hid (l.take k = m.take k) ∧ Hid (Below w.heap.size w wr)) (fun i _ => l.length - (intOf i).toNat)
    case atStart => exact ⟨0, by omega, rfl, rfl, Below.refl _ _⟩
    case round =>
      obtain ⟨k, hk, rfl, htk, hbw⟩ := hrel
      by_cases hlt : k < l.length
      · have hlt' : k < m.length := by have := HE.out; omega
        obtain ⟨b, o, A1, c1, A2, c2, A3, c3, rfl, hr1, a0, a1, a2, a3, a4, a5, a6, a7⟩ := (HL.out.below hbw.out).at8 hlt
        obtain ⟨b', o', B1, d1, B2, d2, B3, d3, rfl, hr2, b0, b1, b2, b3, b4, b5, b6, b7⟩ := (HM.out.below hbw.out).at8 hlt'
        have h1 : (0:Int) ≤ (k:Int) := by omega
        have h2 : (k : Int) < (l.length : Int) := by omega
        have HR1 := Lib.hid hr1
        have HR2 := Lib.hid hr2
        have HX := Lib.hid (HI.out l[k] (List.getElem_mem hlt))
        clear hr1 hr2
        by_cases he : l[k] = m[k]
        · have HQ := Lib.hid (take_eq_of hlt hlt' htk.out he)
          have HD := Lib.hid (decide_eq_true he)
          clear he
          go_wp2
          go_still_tail 8, (by kernel_rfl)
          change wpList _ _ _ _ _ wr.drew
          go_wp2_with (go_at_call 86; refine (HX.out m[k] A1 c1 A2 c2 A3 c3 B1 d1 B2 d2 B3 d3 _ (HR1.out.below (below_drewN (Below.refl _ _) 1)) (HR2.out.below (below_drewN (Below.refl _ _) 1))).mono ?_; rintro e w2 ⟨rfl, hb2⟩; rw [HD.out])
          go_roundw
          case rel => exact ⟨k + 1, by omega, by go_num, HQ.out, below_trans hbw.out (undrew hb2)⟩
          case measure => simp [intOf]; omega
        · have HQ := Lib.hid (take_ne_of hlt hlt' he)
          have HD := Lib.hid (decide_eq_false he)
          clear he
          go_wp2
          go_still_tail 8, (by kernel_rfl)
          change wpList _ _ _ _ _ wr.drew
          go_wp2_with (go_at_call 86; refine (HX.out m[k] A1 c1 A2 c2 A3 c3 B1 d1 B2 d2 B3 d3 _ (HR1.out.below (below_drewN (Below.refl _ _) 1)) (HR2.out.below (below_drewN (Below.refl _ _) 1))).mono ?_; rintro e w2 ⟨rfl, hb2⟩; rw [HD.out])
          go_ret
          exact ⟨by rw [HQ.out]; rfl, below_trans hbw.out (undrew hb2)⟩
      · have HQ := Lib.hid (take_all hlt HE.out htk.out)
        go_wp2
        go_ret
        exact ⟨by rw [HQ.out]; rfl, hbw.out⟩
  · have hb0 : ((l.length : Int) != (m.length : Int)) = true := bne_iff_ne.2 (by omega)
    have HQ := Lib.hid (show decide (l = m) = false from decide_eq_false fun e => hlen (by rw [e]))
    clear hlen
    go_enter Tryz.func113, Tryz.ntmps113
    go_wp2
    go_ret
    exact ⟨by rw [HQ.out]; rfl, Below.refl _ _⟩

set_option maxHeartbeats 2000000 in
set_option maxRecDepth 100000 in
theorem rSame_step (x : Val) (ihk : ∀ z ∈ x.keys, rSameAt z) (ihi : ∀ z ∈ x.items, rSameAt z) : rSameAt x := by
  intro y A1 c1 A2 c2 A3 c3 B1 d1 B2 d2 B3 d3 w hx hy
  have HK := Lib.hid ihk
  have HI := Lib.hid ihi
  have HX := Lib.hid hx
  have HY := Lib.hid hy
  have hn := hx.rest.1.lt (by omega)
  clear ihk ihi hx hy
  by_cases q1 : x.kind = y.kind
  case neg =>
    have HD := Lib.hid (val_ne (x := x) (y := y) (fun h => q1 h.1))
    have e1 : (x.kind != y.kind) = true := by simpa using q1
    clear q1
    go_enter Tryz.func86, Tryz.ntmps86
    go_wp2
    go_ret
    exact ⟨by rw [HD.out]; rfl, below_new2 _ _ _⟩
  have e1 : (x.kind != y.kind) = false := by simpa using q1
  by_cases q2 : x.bool = y.bool
  case neg =>
    have HD := Lib.hid (val_ne (x := x) (y := y) (fun h => q2 h.2.1))
    have e2 : (x.bool == y.bool) = false := by simpa using q2
    have p2 : ¬ x.bool = y.bool := q2
    clear q1 q2
    go_enter Tryz.func86, Tryz.ntmps86
    go_wp2
    go_ret
    exact ⟨by rw [HD.out]; rfl, below_new2 _ _ _⟩
  have e2 : (x.bool == y.bool) = true := by simpa using q2
  by_cases q3 : x.int = y.int
  case neg =>
    have HD := Lib.hid (val_ne (x := x) (y := y) (fun h => q3 h.2.2.1))
    have e3 : (x.int != y.int) = true := by simpa using q3
    clear q1 q2 q3
    go_enter Tryz.func86, Tryz.ntmps86
    go_wp2
    go_ret
    exact ⟨by rw [HD.out]; rfl, below_new2 _ _ _⟩
  have e3 : (x.int != y.int) = false := by simpa using q3
  by_cases q4 : x.str = y.str
  case neg =>
    have HD := Lib.hid (val_ne (x := x) (y := y) (fun h => q4 h.2.2.2.1))
    have e4 : (x.str.toList == y.str.toList) = false := by rw [bytes_beq, decide_eq_false q4]
    have p4 : ¬ x.str.toList = y.str.toList := by simpa using e4
    clear q1 q2 q3 q4
    go_enter Tryz.func86, Tryz.ntmps86
    go_wp2
    go_ret
    exact ⟨by rw [HD.out]; rfl, below_new2 _ _ _⟩
  have e4 : (x.str.toList == y.str.toList) = true := by rw [bytes_beq, decide_eq_true q4]
  by_cases q5 : x.id = y.id
  case neg =>
    have HD := Lib.hid (val_ne (x := x) (y := y) (fun h => q5 h.2.2.2.2.1))
    have e5 : (x.id != y.id) = true := by simpa using q5
    clear q1 q2 q3 q4 q5
    go_enter Tryz.func86, Tryz.ntmps86
    go_wp2
    go_ret
    exact ⟨by rw [HD.out]; rfl, below_new2 _ _ _⟩
  have e5 : (x.id != y.id) = false := by simpa using q5
  by_cases q6 : x.rest.length = y.rest.length
  case neg =>
    have HD := Lib.hid (val_ne (x := x) (y := y) (fun h => q6 (by rw [h.2.2.2.2.2.1])))
    have e6 : ((x.rest.length : Int) != (y.rest.length : Int)) = true := bne_iff_ne.2 (by omega)
    clear q1 q2 q3 q4 q5 q6
    go_enter Tryz.func86, Tryz.ntmps86
    go_wp2
    go_ret
    exact ⟨by rw [HD.out]; rfl, below_new2 _ _ _⟩
  have HE := Lib.hid q6
  have HQ := Lib.hid (And.intro q1 (And.intro q2 (And.intro q3 (And.intro q4 q5))))
  obtain ⟨n6, hn6⟩ : ∃ n, n = y.rest.length := ⟨_, rfl⟩
  rw [← hn6] at q6
  have e6 : ((x.rest.length : Int) != (x.rest.length : Int)) = false := by simp
  have HV : Hid (y.v B1 d1 B2 d2 B3 d3 = .agg #[.int .i64 y.kind, .bool y.bool, .int .i64 y.int, .string y.str, .int .i64 y.id, .slice B1 y.keys.length d1, .slice B2 y.items.length d2, .slice B3 x.rest.length d3]) := by show _ = _; rw [HE.out]
  rw [HV.out]
  clear q1 q2 q3 q4 q5 q6 hn6
  go_enter Tryz.func86, Tryz.ntmps86
  go_wp2
  go_loopw [5] (fun i wr => ∃ k : Nat, k ≤ x.rest.length ∧ i = .int .i64 k ∧ Hid (x.rest.take k = y.rest.take k) ∧ Hid (Below (World.heap ((w.alloc (x.box A1 c1 A2 c2 A3 c3)).alloc (.cells #[.int .i64 y.kind, .bool y.bool, .int .i64 y.int, .string y.str, .int .i64 y.id, .slice B1 y.keys.length d1, .slice B2 y.items.length d2, .slice B3 x.rest.length d3] 81))).size ((w.alloc (x.box A1 c1 A2 c2 A3 c3)).alloc (.cells #[.int .i64 y.kind, .bool y.bool, .int .i64 y.int, .string y.str, .int .i64 y.id, .slice B1 y.keys.length d1, .slice B2 y.items.length d2, .slice B3 x.rest.length d3] 81)) wr)) (fun i _ => x.rest.length - (intOf i).toNat)
  case atStart => exact ⟨0, by omega, rfl, rfl, Below.refl _ _⟩
  case round =>
    obtain ⟨k, hk, rfl, htk, hbw⟩ := hrel
    have hc := bcell hbw.out
    have HB := Lib.hid (below_alloc2 hbw.out)
    have hz0 := hbw.out.size
    simp at hz0
    have hz1 : w.heap.size < wr.heap.size := by omega
    have hz2 : w.heap.size + 1 < wr.heap.size := by omega
    clear hz0
    by_cases hlt : k < x.rest.length
    · have hlt' : k < y.rest.length := by have := HE.out; omega
      obtain ⟨b, o, rfl, _, a0, a1⟩ := (HX.out.rest.below HB.out).at2 hlt
      obtain ⟨b', o', rfl, _, b0, b1⟩ := (HY.out.rest.below HB.out).at2 hlt'
      have h1 : (0:Int) ≤ (k:Int) := by omega
      have h2 : (k : Int) < (x.rest.length : Int) := by omega
      have hcx := hc w.heap.size 7 (by simp; omega)
      have hcy := hc (w.heap.size + 1) 7 (by simp)
      have hcx' : wr.cell? ⟨w.heap.size, 7, none⟩ = some (.slice (some ⟨b, o, none⟩) x.rest.length c3) := by rw [hcx]; go_simp
      have hcy' : wr.cell? ⟨w.heap.size + 1, 7, none⟩ = some (.slice (some ⟨b', o', none⟩) x.rest.length d3) := by rw [hcy]; go_simp
      clear hcx hcy hc
      by_cases he : x.rest[k] = y.rest[k]
      · have heq : ∀ w, (binOp .neq 151 (.agg #[.int .i64 (x.rest[k]).id, .string (x.rest[k]).data]) (.agg #[.int .i64 (y.rest[k]).id, .string (y.rest[k]).data])).run Tryz.prog w = .ok (.bool false) w := fun w => by rw [run_neq_raw, decide_eq_true ((RawD.ext_iff' _ _).2 he)]; rfl
        have HT := Lib.hid (take_eq_of hlt hlt' htk.out he)
        clear he
        go_wp2
        go_quiet (fail)
        go_wp2
        go_roundw
        case rel => exact ⟨k + 1, by omega, by go_num, HT.out, below_drewN hbw.out _⟩
        case measure => simp [intOf]; omega
      · have heq : ∀ w, (binOp .neq 151 (.agg #[.int .i64 (x.rest[k]).id, .string (x.rest[k]).data]) (.agg #[.int .i64 (y.rest[k]).id, .string (y.rest[k]).data])).run Tryz.prog w = .ok (.bool true) w := fun w => by rw [run_neq_raw, decide_eq_false (fun e => he ((RawD.ext_iff' _ _).1 e))]; rfl
        have HD := Lib.hid (val_ne (x := x) (y := y) fun h => by have := take_ne_of hlt hlt' he; rw [decide_eq_true h.2.2.2.2.2.1] at this; cases this)
        clear he
        go_wp2
        go_quiet (fail)
        go_wp2
        go_ret
        exact ⟨by rw [HD.out]; rfl, below_drewN HB.out _⟩
    · have HT := Lib.hid (of_decide_eq_true (take_all hlt HE.out htk.out))
      by_cases q7 : x.keys = y.keys
      · have H7 := Lib.hid (decide_eq_true q7)
        have HD := Lib.hid (show decide (x = y) = decide (x.items = y.items) by
          rw [decide_eq_decide, Val.ext_iff']
          obtain ⟨q1, q2, q3, q4, q5⟩ := HQ.out
          exact ⟨fun h => h.2.2.2.2.2.2.2, fun h => ⟨q1, q2, q3, q4, q5, HT.out, q7, h⟩⟩)
        clear q7
        go_wp2_with fail
        refine (rSames_any x.keys y.keys HK.out A1 B1 c1 d1 _ (HX.out.keys.below HB.out) (HY.out.keys.below HB.out)).mono ?_
        rintro e w3 ⟨rfl, hb3⟩
        rw [H7.out]
        have hc3 := bcell hb3
        have HB3 := Lib.hid (below_trans HB.out hb3)
        clear hb3
        go_wp2_with fail
        refine (rSames_any x.items y.items HI.out A2 B2 c2 d2 _ (HX.out.items.below HB3.out) (HY.out.items.below HB3.out)).mono ?_
        rintro e w4 ⟨rfl, hb4⟩
        go_wp2
        go_ret
        exact ⟨by rw [HD.out]; rfl, below_trans HB3.out hb4⟩
      · have H7 := Lib.hid (decide_eq_false q7)
        have HD := Lib.hid (val_ne (x := x) (y := y) fun h => q7 h.2.2.2.2.2.2.1)
        clear q7
        go_wp2_with fail
        refine (rSames_any x.keys y.keys HK.out A1 B1 c1 d1 _ (HX.out.keys.below HB.out) (HY.out.keys.below HB.out)).mono ?_
        rintro e w3 ⟨rfl, hb3⟩
        rw [H7.out]
        go_wp2
        go_ret
        exact ⟨by rw [HD.out]; rfl, below_trans HB.out hb3⟩

mutual
theorem rSame_all : ∀ x : Val, rSameAt x
  | .mk _ _ _ _ _ ks is _ => rSame_step _ (rSame_alls ks) (rSame_alls is)
theorem rSame_alls : ∀ (l : List Val), ∀ z ∈ l, rSameAt z
  | [], _, h => by cases h
  | x :: l, z, h => by
    rcases List.mem_cons.1 h with e | e
    · rw [e]; exact rSame_all x
    · exact rSame_alls l z e
end
end Go.Proofs.YtkhpajneinmmiaaGreatDoor
