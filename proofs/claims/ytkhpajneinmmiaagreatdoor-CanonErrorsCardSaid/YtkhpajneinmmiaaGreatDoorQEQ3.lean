/-
  Walks: equality of members and types (written by gen.py).
-/
import Derived.Test.YtkhpajneinmmiaaGreatDoorQEQ2
namespace Go.Proofs.YtkhpajneinmmiaaGreatDoor
open Go.RowKit

theorem mem_ext (x y : MemD) : x = y ↔ (x.id = y.id ∧ x.name = y.name ∧ x.type = y.type ∧ x.critical = y.critical ∧ x.hasDef = y.hasDef ∧ x.dflt = y.dflt) := by
  constructor
  · rintro rfl; simp
  · intro h; cases x; cases y; simp_all
theorem mem_ne {x y : MemD} (h : ¬ (x.id = y.id ∧ x.name = y.name ∧ x.type = y.type ∧ x.critical = y.critical ∧ x.hasDef = y.hasDef ∧ x.dflt = y.dflt)) : decide (x = y) = false := decide_eq_false fun e => h ((mem_ext x y).1 e)
theorem ty_ext (x y : TyD) : x = y ↔ (x.kind = y.kind ∧ x.name = y.name ∧ x.low = y.low ∧ x.high = y.high ∧ x.max = y.max ∧ x.key = y.key ∧ x.elem = y.elem ∧ x.open_ = y.open_ ∧ x.syms = y.syms ∧ x.mems = y.mems) := by
  constructor
  · rintro rfl; simp
  · intro h; cases x; cases y; simp_all
theorem ty_ne {x y : TyD} (h : ¬ (x.kind = y.kind ∧ x.name = y.name ∧ x.low = y.low ∧ x.high = y.high ∧ x.max = y.max ∧ x.key = y.key ∧ x.elem = y.elem ∧ x.open_ = y.open_ ∧ x.syms = y.syms ∧ x.mems = y.mems)) : decide (x = y) = false := decide_eq_false fun e => h ((ty_ext x y).1 e)

set_option maxHeartbeats 2000000 in
set_option maxRecDepth 100000 in
theorem equal1_any (x y : MemD) (A1 : Option Addr) (c1 : Nat) (A2 : Option Addr) (c2 : Nat) (A3 : Option Addr) (c3 : Nat) (B1 : Option Addr) (d1 : Nat) (B2 : Option Addr) (d2 : Nat) (B3 : Option Addr) (d3 : Nat) (w : World) (hx : MemR w x A1 A2 A3) (hy : MemR w y B1 B2 B3) :
    Calls Tryz.prog 122 #[x.v A1 c1 A2 c2 A3 c3, y.v B1 d1 B2 d2 B3 d3] w (SamePost (decide (x = y)) w) := by
  have HX := Lib.hid hx
  have HY := Lib.hid hy
  clear hx hy
  by_cases q1 : x.id = y.id
  case neg =>
    have HD := Lib.hid (mem_ne (x := x) (y := y) (fun h => q1 (h.1)))
    have e1 : (x.id == y.id) = false := by simpa using q1
    clear q1
    go_enter Tryz.func122, Tryz.ntmps122
    go_wp2
    go_ret
    exact ⟨by rw [HD.out]; rfl, below_new2 _ _ _⟩
  have e1 : (x.id == y.id) = true := by simpa using q1
  by_cases q2 : x.name = y.name
  case neg =>
    have HD := Lib.hid (mem_ne (x := x) (y := y) (fun h => q2 (h.2.1)))
    have e2 : (x.name.toList == y.name.toList) = false := by rw [bytes_beq]; exact decide_eq_false q2
    clear q1 q2
    go_enter Tryz.func122, Tryz.ntmps122
    go_wp2
    go_ret
    exact ⟨by rw [HD.out]; rfl, below_new2 _ _ _⟩
  have e2 : (x.name.toList == y.name.toList) = true := by rw [bytes_beq]; exact decide_eq_true q2
  by_cases q3 : x.type = y.type
  case neg =>
    have HD := Lib.hid (mem_ne (x := x) (y := y) (fun h => q3 (h.2.2.1)))
    have e3 : (x.type == y.type) = false := by simpa using q3
    clear q1 q2 q3
    go_enter Tryz.func122, Tryz.ntmps122
    go_wp2
    go_ret
    exact ⟨by rw [HD.out]; rfl, below_new2 _ _ _⟩
  have e3 : (x.type == y.type) = true := by simpa using q3
  by_cases q4 : x.critical = y.critical
  case neg =>
    have HD := Lib.hid (mem_ne (x := x) (y := y) (fun h => q4 (h.2.2.2.1)))
    have e4 : (x.critical == y.critical) = false := by simpa using q4
    clear q1 q2 q3 q4
    go_enter Tryz.func122, Tryz.ntmps122
    go_wp2
    go_ret
    exact ⟨by rw [HD.out]; rfl, below_new2 _ _ _⟩
  have e4 : (x.critical == y.critical) = true := by simpa using q4
  by_cases q5 : x.hasDef = y.hasDef
  case neg =>
    have HD := Lib.hid (mem_ne (x := x) (y := y) (fun h => q5 (h.2.2.2.2.1)))
    have e5 : (x.hasDef == y.hasDef) = false := by simpa using q5
    clear q1 q2 q3 q4 q5
    go_enter Tryz.func122, Tryz.ntmps122
    go_wp2
    go_ret
    exact ⟨by rw [HD.out]; rfl, below_new2 _ _ _⟩
  have e5 : (x.hasDef == y.hasDef) = true := by simpa using q5
  have HD := Lib.hid (show decide (x = y) = decide (x.dflt = y.dflt) by
    rw [decide_eq_decide, mem_ext]
    exact ⟨fun h => h.2.2.2.2.2, fun h => ⟨q1, q2, q3, q4, q5, h⟩⟩)
  clear q1 q2 q3 q4 q5
  go_enter Tryz.func122, Tryz.ntmps122
  go_wp2_with fail
  refine (same_all x.dflt y.dflt A1 c1 A2 c2 A3 c3 B1 d1 B2 d2 B3 d3 _ (HX.out.dflt.below (below_new2 _ _ _)) (HY.out.dflt.below (below_new2 _ _ _))).mono ?_
  rintro e w2 ⟨rfl, hb2⟩
  go_wp2
  go_ret
  exact ⟨by rw [HD.out]; rfl, below_alloc2 hb2⟩

set_option maxHeartbeats 2000000 in
set_option maxRecDepth 100000 in
theorem sameMember_any (x y : MemD) (A1 : Option Addr) (c1 : Nat) (A2 : Option Addr) (c2 : Nat) (A3 : Option Addr) (c3 : Nat) (B1 : Option Addr) (d1 : Nat) (B2 : Option Addr) (d2 : Nat) (B3 : Option Addr) (d3 : Nat) (w : World) (hx : MemR w x A1 A2 A3) (hy : MemR w y B1 B2 B3) :
    Calls Tryz.prog 100 #[x.v A1 c1 A2 c2 A3 c3, y.v B1 d1 B2 d2 B3 d3] w (SamePost (decide (x = y)) w) := by
  have HX := Lib.hid hx
  have HY := Lib.hid hy
  clear hx hy
  by_cases q1 : x.id = y.id
  case neg =>
    have HD := Lib.hid (mem_ne (x := x) (y := y) (fun h => q1 (h.1)))
    have e1 : (x.id == y.id) = false := by simpa using q1
    clear q1
    go_enter Tryz.func100, Tryz.ntmps100
    go_wp2
    go_ret
    exact ⟨by rw [HD.out]; rfl, below_new2 _ _ _⟩
  have e1 : (x.id == y.id) = true := by simpa using q1
  by_cases q2 : x.name = y.name
  case neg =>
    have HD := Lib.hid (mem_ne (x := x) (y := y) (fun h => q2 (h.2.1)))
    have e2 : (x.name.toList == y.name.toList) = false := by rw [bytes_beq]; exact decide_eq_false q2
    clear q1 q2
    go_enter Tryz.func100, Tryz.ntmps100
    go_wp2
    go_ret
    exact ⟨by rw [HD.out]; rfl, below_new2 _ _ _⟩
  have e2 : (x.name.toList == y.name.toList) = true := by rw [bytes_beq]; exact decide_eq_true q2
  by_cases q3 : x.type = y.type
  case neg =>
    have HD := Lib.hid (mem_ne (x := x) (y := y) (fun h => q3 (h.2.2.1)))
    have e3 : (x.type == y.type) = false := by simpa using q3
    clear q1 q2 q3
    go_enter Tryz.func100, Tryz.ntmps100
    go_wp2
    go_ret
    exact ⟨by rw [HD.out]; rfl, below_new2 _ _ _⟩
  have e3 : (x.type == y.type) = true := by simpa using q3
  by_cases q4 : x.critical = y.critical
  case neg =>
    have HD := Lib.hid (mem_ne (x := x) (y := y) (fun h => q4 (h.2.2.2.1)))
    have e4 : (x.critical == y.critical) = false := by simpa using q4
    clear q1 q2 q3 q4
    go_enter Tryz.func100, Tryz.ntmps100
    go_wp2
    go_ret
    exact ⟨by rw [HD.out]; rfl, below_new2 _ _ _⟩
  have e4 : (x.critical == y.critical) = true := by simpa using q4
  by_cases q5 : x.hasDef = y.hasDef
  case neg =>
    have HD := Lib.hid (mem_ne (x := x) (y := y) (fun h => q5 (h.2.2.2.2.1)))
    have e5 : (x.hasDef == y.hasDef) = false := by simpa using q5
    clear q1 q2 q3 q4 q5
    go_enter Tryz.func100, Tryz.ntmps100
    go_wp2
    go_ret
    exact ⟨by rw [HD.out]; rfl, below_new2 _ _ _⟩
  have e5 : (x.hasDef == y.hasDef) = true := by simpa using q5
  have HD := Lib.hid (show decide (x = y) = decide (x.dflt = y.dflt) by
    rw [decide_eq_decide, mem_ext]
    exact ⟨fun h => h.2.2.2.2.2, fun h => ⟨q1, q2, q3, q4, q5, h⟩⟩)
  clear q1 q2 q3 q4 q5
  go_enter Tryz.func100, Tryz.ntmps100
  go_wp2_with fail
  refine (rSame_all x.dflt y.dflt A1 c1 A2 c2 A3 c3 B1 d1 B2 d2 B3 d3 _ (HX.out.dflt.below (below_new2 _ _ _)) (HY.out.dflt.below (below_new2 _ _ _))).mono ?_
  rintro e w2 ⟨rfl, hb2⟩
  go_wp2
  go_ret
  exact ⟨by rw [HD.out]; rfl, below_alloc2 hb2⟩
end Go.Proofs.YtkhpajneinmmiaaGreatDoor
