/-
  Walks: equality of values, in packages schema and value.
-/
import Derived.Test.YtkhpajneinmmiaaGreatDoorQEQ0
namespace Go.Proofs.YtkhpajneinmmiaaGreatDoor
open Go.RowKit

theorem Val.ext_iff' (x y : Val) : x = y ↔ (x.kind = y.kind ∧ x.bool = y.bool ∧ x.int = y.int ∧ x.str = y.str ∧ x.id = y.id ∧ x.rest = y.rest ∧ x.keys = y.keys ∧ x.items = y.items) := by
  obtain ⟨k, b, i, s, d, ks, is, r⟩ := x
  obtain ⟨k', b', i', s', d', ks', is', r'⟩ := y
  simp only [Val.mk.injEq, Val.kind, Val.bool, Val.int, Val.str, Val.id, Val.rest, Val.keys, Val.items]
  constructor
  · rintro ⟨a1, a2, a3, a4, a5, a6, a7, a8⟩; exact ⟨a1, a2, a3, a4, a5, a8, a6, a7⟩
  · rintro ⟨a1, a2, a3, a4, a5, a8, a6, a7⟩; exact ⟨a1, a2, a3, a4, a5, a6, a7, a8⟩

theorem val_ne {x y : Val} (h : ¬ (x.kind = y.kind ∧ x.bool = y.bool ∧ x.int = y.int ∧ x.str = y.str ∧ x.id = y.id ∧ x.rest = y.rest ∧ x.keys = y.keys ∧ x.items = y.items)) : decide (x = y) = false :=
  decide_eq_false fun e => h ((Val.ext_iff' x y).1 e)

/-- What a comparison of values does. -/
def SamePost (b : Bool) (w : World) (e : Ending) (w' : World) : Prop := e = .returned (.bool b) ∧ Below w.heap.size w w'

def sameAt (x : Val) : Prop := ∀ (y : Val) (A1 : Option Addr) (c1 : Nat) (A2 : Option Addr) (c2 : Nat) (A3 : Option Addr) (c3 : Nat) (B1 : Option Addr) (d1 : Nat) (B2 : Option Addr) (d2 : Nat) (B3 : Option Addr) (d3 : Nat) (w : World),
  ValR w x A1 A2 A3 → ValR w y B1 B2 B3 → Calls Tryz.prog 123 #[x.v A1 c1 A2 c2 A3 c3, y.v B1 d1 B2 d2 B3 d3] w (SamePost (decide (x = y)) w)

set_option maxHeartbeats 1000000 in
theorem sames_any (l m : List Val) (ih : ∀ x ∈ l, sameAt x) (A B : Option Addr) (c d : Nat) (w : World) (hl : ValsR w A l) (hm : ValsR w B m) :
    Calls Tryz.prog 102 #[.slice A l.length c, .slice B m.length d, .func (.func 123) #[] #[]] w (SamePost (decide (l = m)) w) := by
  have hn := hl.1.lt (by omega)
  by_cases hlen : l.length = m.length
  · rw [← hlen]
    have hb0 : ((l.length : Int) != (l.length : Int)) = false := by simp
    have HL := Lib.hid hl
    have HM := Lib.hid hm
    have HE := Lib.hid hlen
    have HI := Lib.hid ih
    clear hl hm hlen ih
    go_enter Tryz.func102, Tryz.ntmps102
    go_wp2
    go_loopw [17] (fun i wr => ∃ k : Nat, k ≤ l.length ∧ i = .int .i64 k ∧ Hid (l.take k = m.take k) ∧ Hid (Below w.heap.size w wr)) (fun i _ => l.length - (intOf i).toNat)
    case atStart => exact ⟨0, by omega, rfl, rfl, Below.refl _ _⟩
    case round =>
      obtain ⟨k, hk, rfl, htk, hbw⟩ := hrel
      by_cases hlt : k < l.length
      · have hlt' : k < m.length := by have := HE.out; omega
        obtain ⟨b, o, A1, c1, A2, c2, A3, c3, rfl, hr1, a0, a1, a2, a3, a4, a5, a6, a7⟩ := (HL.out.below hbw.out).at8 hlt
        obtain ⟨b', o', B1, d1, B2, d2, B3, d3, rfl, hr2, b0, b1, b2, b3, b4, b5, b6, b7⟩ := (HM.out.below hbw.out).at8 hlt'
        have h1 : (0:Int) ≤ (k:Int) := by omega
        have h2 : (k : Int) < (l.length : Int) := by omega
        have hz1 := lt_of_cell a0
        have hz2 := lt_of_cell b0
        simp only at hz1 hz2
        have HR1 := Lib.hid hr1
        have HR2 := Lib.hid hr2
        have HX := Lib.hid (HI.out l[k] (List.getElem_mem hlt))
        clear hr1 hr2
        by_cases he : l[k] = m[k]
        · have HQ := Lib.hid (take_eq_of hlt hlt' htk.out he)
          have HD := Lib.hid (decide_eq_true he)
          clear he
          go_wp2_with (go_at_call 123; refine (HX.out m[k] A1 c1 A2 c2 A3 c3 B1 d1 B2 d2 B3 d3 _ (HR1.out.below (below_new2 _ _ _)) (HR2.out.below (below_new2 _ _ _))).mono ?_; rintro e w2 ⟨rfl, hb2⟩; rw [HD.out])
          go_roundw
          case rel => exact ⟨k + 1, by omega, by go_num, HQ.out, below_trans hbw.out (below_alloc2 hb2)⟩
          case measure => simp [intOf]; omega
        · have HQ := Lib.hid (take_ne_of hlt hlt' he)
          have HD := Lib.hid (decide_eq_false he)
          clear he
          go_wp2_with (go_at_call 123; refine (HX.out m[k] A1 c1 A2 c2 A3 c3 B1 d1 B2 d2 B3 d3 _ (HR1.out.below (below_new2 _ _ _)) (HR2.out.below (below_new2 _ _ _))).mono ?_; rintro e w2 ⟨rfl, hb2⟩; rw [HD.out])
          go_ret
          exact ⟨by rw [HQ.out]; rfl, below_trans hbw.out (below_alloc2 hb2)⟩
      · have HQ := Lib.hid (take_all hlt HE.out htk.out)
        go_wp2
        go_ret
        exact ⟨by rw [HQ.out]; rfl, hbw.out⟩
  · have hb0 : ((l.length : Int) != (m.length : Int)) = true := bne_iff_ne.2 (by omega)
    have HQ := Lib.hid (show decide (l = m) = false from decide_eq_false fun e => hlen (by rw [e]))
    clear hlen
    go_enter Tryz.func102, Tryz.ntmps102
    go_wp2
    go_ret
    exact ⟨by rw [HQ.out]; rfl, Below.refl _ _⟩

set_option maxHeartbeats 2000000 in
theorem same_step (x : Val) (ihk : ∀ z ∈ x.keys, sameAt z) (ihi : ∀ z ∈ x.items, sameAt z) : sameAt x := by
  intro y A1 c1 A2 c2 A3 c3 B1 d1 B2 d2 B3 d3 w hx hy
  have HK := Lib.hid ihk
  have HI := Lib.hid ihi
  have HX := Lib.hid hx
  have HY := Lib.hid hy
  clear ihk ihi hx hy
  by_cases q1 : x.kind = y.kind
  case neg =>
    have HD := Lib.hid (val_ne (x := x) (y := y) fun h => q1 h.1)
    have e1 : (x.kind == y.kind) = false := by simpa using q1
    clear q1
    go_enter Tryz.func123, Tryz.ntmps123
    go_wp2
    go_ret
    exact ⟨by rw [HD.out]; rfl, below_new2 _ _ _⟩
  have e1 : (x.kind == y.kind) = true := by simpa using q1
  by_cases q2 : x.bool = y.bool
  case neg =>
    have HD := Lib.hid (val_ne (x := x) (y := y) fun h => q2 h.2.1)
    have e2 : (x.bool == y.bool) = false := by simpa using q2
    clear q1 q2
    go_enter Tryz.func123, Tryz.ntmps123
    go_wp2
    go_ret
    exact ⟨by rw [HD.out]; rfl, below_new2 _ _ _⟩
  have e2 : (x.bool == y.bool) = true := by simpa using q2
  by_cases q3 : x.int = y.int
  case neg =>
    have HD := Lib.hid (val_ne (x := x) (y := y) fun h => q3 h.2.2.1)
    have e3 : (x.int == y.int) = false := by simpa using q3
    clear q1 q2 q3
    go_enter Tryz.func123, Tryz.ntmps123
    go_wp2
    go_ret
    exact ⟨by rw [HD.out]; rfl, below_new2 _ _ _⟩
  have e3 : (x.int == y.int) = true := by simpa using q3
  by_cases q4 : x.str = y.str
  case neg =>
    have HD := Lib.hid (val_ne (x := x) (y := y) fun h => q4 h.2.2.2.1)
    have e4 : (x.str.toList == y.str.toList) = false := by rw [bytes_beq]; exact decide_eq_false q4
    clear q1 q2 q3 q4
    go_enter Tryz.func123, Tryz.ntmps123
    go_wp2
    go_ret
    exact ⟨by rw [HD.out]; rfl, below_new2 _ _ _⟩
  have e4 : (x.str.toList == y.str.toList) = true := by rw [bytes_beq]; exact decide_eq_true q4
  by_cases q5 : x.id = y.id
  case neg =>
    have HD := Lib.hid (val_ne (x := x) (y := y) fun h => q5 h.2.2.2.2.1)
    have e5 : (x.id == y.id) = false := by simpa using q5
    clear q1 q2 q3 q4 q5
    go_enter Tryz.func123, Tryz.ntmps123
    go_wp2
    go_ret
    exact ⟨by rw [HD.out]; rfl, below_new2 _ _ _⟩
  have e5 : (x.id == y.id) = true := by simpa using q5
  by_cases q6 : x.rest = y.rest
  case neg =>
    have HD := Lib.hid (val_ne (x := x) (y := y) fun h => q6 h.2.2.2.2.2.1)
    have H6 := Lib.hid (decide_eq_false q6)
    clear q1 q2 q3 q4 q5 q6
    go_enter Tryz.func123, Tryz.ntmps123
    go_wp2_with (go_at_call 101; refine (equalRaws_any x.rest y.rest A3 B3 c3 d3 _ (HX.out.rest.below (below_new2 _ _ _)) (HY.out.rest.below (below_new2 _ _ _))).mono ?_; rintro e w2 ⟨rfl, hb2⟩; rw [H6.out])
    go_ret
    exact ⟨by rw [HD.out]; rfl, below_alloc2 hb2⟩
  have H6 := Lib.hid (decide_eq_true q6)
  by_cases q7 : x.keys = y.keys
  case neg =>
    have HD := Lib.hid (val_ne (x := x) (y := y) fun h => q7 h.2.2.2.2.2.2.1)
    have H7 := Lib.hid (decide_eq_false q7)
    clear q1 q2 q3 q4 q5 q6 q7
    go_enter Tryz.func123, Tryz.ntmps123
    go_wp2_with fail
    refine (equalRaws_any x.rest y.rest A3 B3 c3 d3 _ (HX.out.rest.below (below_new2 _ _ _)) (HY.out.rest.below (below_new2 _ _ _))).mono ?_
    rintro e w2 ⟨rfl, hb2⟩
    rw [H6.out]
    have hc2 := bcell hb2
    have HB2 := Lib.hid (below_alloc2 hb2)
    clear hb2
    go_wp2_with fail
    refine (sames_any x.keys y.keys HK.out A1 B1 c1 d1 _ (HX.out.keys.below HB2.out) (HY.out.keys.below HB2.out)).mono ?_
    rintro e w3 ⟨rfl, hb3⟩
    rw [H7.out]
    go_wp2
    go_ret
    exact ⟨by rw [HD.out]; rfl, below_trans HB2.out hb3⟩
  have H7 := Lib.hid (decide_eq_true q7)
  have HD := Lib.hid (show decide (x = y) = decide (x.items = y.items) by
    rw [decide_eq_decide, Val.ext_iff']
    exact ⟨fun h => h.2.2.2.2.2.2.2, fun h => ⟨q1, q2, q3, q4, q5, q6, q7, h⟩⟩)
  clear q1 q2 q3 q4 q5 q6 q7
  go_enter Tryz.func123, Tryz.ntmps123
  go_wp2_with fail
  refine (equalRaws_any x.rest y.rest A3 B3 c3 d3 _ (HX.out.rest.below (below_new2 _ _ _)) (HY.out.rest.below (below_new2 _ _ _))).mono ?_
  rintro e w2 ⟨rfl, hb2⟩
  rw [H6.out]
  have hc2 := bcell hb2
  have hz2 := hb2.size
  simp at hz2
  have hz2a : w.heap.size < w2.heap.size := by omega
  have hz2b : w.heap.size + 1 < w2.heap.size := by omega
  clear hz2
  have HB2 := Lib.hid (below_alloc2 hb2)
  clear hb2
  go_wp2_with fail
  refine (sames_any x.keys y.keys HK.out A1 B1 c1 d1 _ (HX.out.keys.below HB2.out) (HY.out.keys.below HB2.out)).mono ?_
  rintro e w3 ⟨rfl, hb3⟩
  rw [H7.out]
  have hc3 := bcell hb3
  have HB3 := Lib.hid (below_trans HB2.out hb3)
  clear hb3
  go_wp2_with fail
  refine (sames_any x.items y.items HI.out A2 B2 c2 d2 _ (HX.out.items.below HB3.out) (HY.out.items.below HB3.out)).mono ?_
  rintro e w4 ⟨rfl, hb4⟩
  go_wp2
  go_ret
  exact ⟨by rw [HD.out]; rfl, below_trans HB3.out hb4⟩

mutual
theorem same_all : ∀ x : Val, sameAt x
  | .mk _ _ _ _ _ ks is _ => same_step _ (same_alls ks) (same_alls is)
theorem same_alls : ∀ (l : List Val), ∀ z ∈ l, sameAt z
  | [], _, h => by cases h
  | x :: l, z, h => by
    rcases List.mem_cons.1 h with e | e
    · rw [e]; exact same_all x
    · exact same_alls l z e
end
def vEqualAt (x : Val) : Prop := ∀ (y : Val) (A1 : Option Addr) (c1 : Nat) (A2 : Option Addr) (c2 : Nat) (A3 : Option Addr) (c3 : Nat) (B1 : Option Addr) (d1 : Nat) (B2 : Option Addr) (d2 : Nat) (B3 : Option Addr) (d3 : Nat) (w : World),
  ValR w x A1 A2 A3 → ValR w y B1 B2 B3 → Calls Tryz.prog 82 #[x.v A1 c1 A2 c2 A3 c3, y.v B1 d1 B2 d2 B3 d3] w (SamePost (decide (x = y)) w)

set_option maxHeartbeats 1000000 in
theorem vEquals_any (l m : List Val) (ih : ∀ x ∈ l, vEqualAt x) (A B : Option Addr) (c d : Nat) (w : World) (hl : ValsR w A l) (hm : ValsR w B m) :
    Calls Tryz.prog 102 #[.slice A l.length c, .slice B m.length d, .func (.func 82) #[] #[]] w (SamePost (decide (l = m)) w) := by
  have hn := hl.1.lt (by omega)
  by_cases hlen : l.length = m.length
  · rw [← hlen]
    have hb0 : ((l.length : Int) != (l.length : Int)) = false := by simp
    have HL := Lib.hid hl
    have HM := Lib.hid hm
    have HE := Lib.hid hlen
    have HI := Lib.hid ih
    clear hl hm hlen ih
    go_enter Tryz.func102, Tryz.ntmps102
    go_wp2
    go_loopw [17] (fun i wr => ∃ k : Nat, k ≤ l.length ∧ i = .int .i64 k ∧ Hid (l.take k = m.take k) ∧ Hid (Below w.heap.size w wr)) (fun i _ => l.length - (intOf i).toNat)
    case atStart => exact ⟨0, by omega, rfl, rfl, Below.refl _ _⟩
    case round =>
      obtain ⟨k, hk, rfl, htk, hbw⟩ := hrel
      by_cases hlt : k < l.length
      · have hlt' : k < m.length := by have := HE.out; omega
        obtain ⟨b, o, A1, c1, A2, c2, A3, c3, rfl, hr1, a0, a1, a2, a3, a4, a5, a6, a7⟩ := (HL.out.below hbw.out).at8 hlt
        obtain ⟨b', o', B1, d1, B2, d2, B3, d3, rfl, hr2, b0, b1, b2, b3, b4, b5, b6, b7⟩ := (HM.out.below hbw.out).at8 hlt'
        have h1 : (0:Int) ≤ (k:Int) := by omega
        have h2 : (k : Int) < (l.length : Int) := by omega
        have hz1 := lt_of_cell a0
        have hz2 := lt_of_cell b0
        simp only at hz1 hz2
        have HR1 := Lib.hid hr1
        have HR2 := Lib.hid hr2
        have HX := Lib.hid (HI.out l[k] (List.getElem_mem hlt))
        clear hr1 hr2
        by_cases he : l[k] = m[k]
        · have HQ := Lib.hid (take_eq_of hlt hlt' htk.out he)
          have HD := Lib.hid (decide_eq_true he)
          clear he
          go_wp2_with (go_at_call 82; refine (HX.out m[k] A1 c1 A2 c2 A3 c3 B1 d1 B2 d2 B3 d3 _ (HR1.out.below (below_new2 _ _ _)) (HR2.out.below (below_new2 _ _ _))).mono ?_; rintro e w2 ⟨rfl, hb2⟩; rw [HD.out])
          go_roundw
          case rel => exact ⟨k + 1, by omega, by go_num, HQ.out, below_trans hbw.out (below_alloc2 hb2)⟩
          case measure => simp [intOf]; omega
        · have HQ := Lib.hid (take_ne_of hlt hlt' he)
          have HD := Lib.hid (decide_eq_false he)
          clear he
          go_wp2_with (go_at_call 82; refine (HX.out m[k] A1 c1 A2 c2 A3 c3 B1 d1 B2 d2 B3 d3 _ (HR1.out.below (below_new2 _ _ _)) (HR2.out.below (below_new2 _ _ _))).mono ?_; rintro e w2 ⟨rfl, hb2⟩; rw [HD.out])
          go_ret
          exact ⟨by rw [HQ.out]; rfl, below_trans hbw.out (below_alloc2 hb2)⟩
      · have HQ := Lib.hid (take_all hlt HE.out htk.out)
        go_wp2
        go_ret
        exact ⟨by rw [HQ.out]; rfl, hbw.out⟩
  · have hb0 : ((l.length : Int) != (m.length : Int)) = true := bne_iff_ne.2 (by omega)
    have HQ := Lib.hid (show decide (l = m) = false from decide_eq_false fun e => hlen (by rw [e]))
    clear hlen
    go_enter Tryz.func102, Tryz.ntmps102
    go_wp2
    go_ret
    exact ⟨by rw [HQ.out]; rfl, Below.refl _ _⟩

set_option maxHeartbeats 2000000 in
theorem vEqual_step (x : Val) (ihk : ∀ z ∈ x.keys, vEqualAt z) (ihi : ∀ z ∈ x.items, vEqualAt z) : vEqualAt x := by
  intro y A1 c1 A2 c2 A3 c3 B1 d1 B2 d2 B3 d3 w hx hy
  have HK := Lib.hid ihk
  have HI := Lib.hid ihi
  have HX := Lib.hid hx
  have HY := Lib.hid hy
  clear ihk ihi hx hy
  by_cases q1 : x.kind = y.kind
  case neg =>
    have HD := Lib.hid (val_ne (x := x) (y := y) fun h => q1 h.1)
    have e1 : (x.kind == y.kind) = false := by simpa using q1
    clear q1
    go_enter Tryz.func82, Tryz.ntmps82
    go_wp2
    go_ret
    exact ⟨by rw [HD.out]; rfl, below_new2 _ _ _⟩
  have e1 : (x.kind == y.kind) = true := by simpa using q1
  by_cases q2 : x.bool = y.bool
  case neg =>
    have HD := Lib.hid (val_ne (x := x) (y := y) fun h => q2 h.2.1)
    have e2 : (x.bool == y.bool) = false := by simpa using q2
    clear q1 q2
    go_enter Tryz.func82, Tryz.ntmps82
    go_wp2
    go_ret
    exact ⟨by rw [HD.out]; rfl, below_new2 _ _ _⟩
  have e2 : (x.bool == y.bool) = true := by simpa using q2
  by_cases q3 : x.int = y.int
  case neg =>
    have HD := Lib.hid (val_ne (x := x) (y := y) fun h => q3 h.2.2.1)
    have e3 : (x.int == y.int) = false := by simpa using q3
    clear q1 q2 q3
    go_enter Tryz.func82, Tryz.ntmps82
    go_wp2
    go_ret
    exact ⟨by rw [HD.out]; rfl, below_new2 _ _ _⟩
  have e3 : (x.int == y.int) = true := by simpa using q3
  by_cases q4 : x.str = y.str
  case neg =>
    have HD := Lib.hid (val_ne (x := x) (y := y) fun h => q4 h.2.2.2.1)
    have e4 : (x.str.toList == y.str.toList) = false := by rw [bytes_beq]; exact decide_eq_false q4
    clear q1 q2 q3 q4
    go_enter Tryz.func82, Tryz.ntmps82
    go_wp2
    go_ret
    exact ⟨by rw [HD.out]; rfl, below_new2 _ _ _⟩
  have e4 : (x.str.toList == y.str.toList) = true := by rw [bytes_beq]; exact decide_eq_true q4
  by_cases q5 : x.id = y.id
  case neg =>
    have HD := Lib.hid (val_ne (x := x) (y := y) fun h => q5 h.2.2.2.2.1)
    have e5 : (x.id == y.id) = false := by simpa using q5
    clear q1 q2 q3 q4 q5
    go_enter Tryz.func82, Tryz.ntmps82
    go_wp2
    go_ret
    exact ⟨by rw [HD.out]; rfl, below_new2 _ _ _⟩
  have e5 : (x.id == y.id) = true := by simpa using q5
  by_cases q6 : x.rest = y.rest
  case neg =>
    have HD := Lib.hid (val_ne (x := x) (y := y) fun h => q6 h.2.2.2.2.2.1)
    have H6 := Lib.hid (decide_eq_false q6)
    clear q1 q2 q3 q4 q5 q6
    go_enter Tryz.func82, Tryz.ntmps82
    go_wp2_with (go_at_call 101; refine (equalRaws_any x.rest y.rest A3 B3 c3 d3 _ (HX.out.rest.below (below_new2 _ _ _)) (HY.out.rest.below (below_new2 _ _ _))).mono ?_; rintro e w2 ⟨rfl, hb2⟩; rw [H6.out])
    go_ret
    exact ⟨by rw [HD.out]; rfl, below_alloc2 hb2⟩
  have H6 := Lib.hid (decide_eq_true q6)
  by_cases q7 : x.keys = y.keys
  case neg =>
    have HD := Lib.hid (val_ne (x := x) (y := y) fun h => q7 h.2.2.2.2.2.2.1)
    have H7 := Lib.hid (decide_eq_false q7)
    clear q1 q2 q3 q4 q5 q6 q7
    go_enter Tryz.func82, Tryz.ntmps82
    go_wp2_with fail
    refine (equalRaws_any x.rest y.rest A3 B3 c3 d3 _ (HX.out.rest.below (below_new2 _ _ _)) (HY.out.rest.below (below_new2 _ _ _))).mono ?_
    rintro e w2 ⟨rfl, hb2⟩
    rw [H6.out]
    have hc2 := bcell hb2
    have HB2 := Lib.hid (below_alloc2 hb2)
    clear hb2
    go_wp2_with fail
    refine (vEquals_any x.keys y.keys HK.out A1 B1 c1 d1 _ (HX.out.keys.below HB2.out) (HY.out.keys.below HB2.out)).mono ?_
    rintro e w3 ⟨rfl, hb3⟩
    rw [H7.out]
    go_wp2
    go_ret
    exact ⟨by rw [HD.out]; rfl, below_trans HB2.out hb3⟩
  have H7 := Lib.hid (decide_eq_true q7)
  have HD := Lib.hid (show decide (x = y) = decide (x.items = y.items) by
    rw [decide_eq_decide, Val.ext_iff']
    exact ⟨fun h => h.2.2.2.2.2.2.2, fun h => ⟨q1, q2, q3, q4, q5, q6, q7, h⟩⟩)
  clear q1 q2 q3 q4 q5 q6 q7
  go_enter Tryz.func82, Tryz.ntmps82
  go_wp2_with fail
  refine (equalRaws_any x.rest y.rest A3 B3 c3 d3 _ (HX.out.rest.below (below_new2 _ _ _)) (HY.out.rest.below (below_new2 _ _ _))).mono ?_
  rintro e w2 ⟨rfl, hb2⟩
  rw [H6.out]
  have hc2 := bcell hb2
  have hz2 := hb2.size
  simp at hz2
  have hz2a : w.heap.size < w2.heap.size := by omega
  have hz2b : w.heap.size + 1 < w2.heap.size := by omega
  clear hz2
  have HB2 := Lib.hid (below_alloc2 hb2)
  clear hb2
  go_wp2_with fail
  refine (vEquals_any x.keys y.keys HK.out A1 B1 c1 d1 _ (HX.out.keys.below HB2.out) (HY.out.keys.below HB2.out)).mono ?_
  rintro e w3 ⟨rfl, hb3⟩
  rw [H7.out]
  have hc3 := bcell hb3
  have HB3 := Lib.hid (below_trans HB2.out hb3)
  clear hb3
  go_wp2_with fail
  refine (vEquals_any x.items y.items HI.out A2 B2 c2 d2 _ (HX.out.items.below HB3.out) (HY.out.items.below HB3.out)).mono ?_
  rintro e w4 ⟨rfl, hb4⟩
  go_wp2
  go_ret
  exact ⟨by rw [HD.out]; rfl, below_trans HB3.out hb4⟩

mutual
theorem vEqual_all : ∀ x : Val, vEqualAt x
  | .mk _ _ _ _ _ ks is _ => vEqual_step _ (vEqual_alls ks) (vEqual_alls is)
theorem vEqual_alls : ∀ (l : List Val), ∀ z ∈ l, vEqualAt z
  | [], _, h => by cases h
  | x :: l, z, h => by
    rcases List.mem_cons.1 h with e | e
    · rw [e]; exact vEqual_all x
    · exact vEqual_alls l z e
end
end Go.Proofs.YtkhpajneinmmiaaGreatDoor
