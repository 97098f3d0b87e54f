/-
  Walks: the small functions of package trace on one point.
-/
import Derived.Test.YtcmnmcholfellaaDoorBase
namespace Go.Proofs.YtcmnmcholfellaaDoor
open Go.RowKit

/-- The word of a kind; none for other numbers. -/
def wordB (k : Int) : ByteArray :=
  if k = 1 then ⟨#[114, 101, 97, 100]⟩ else if k = 2 then ⟨#[98, 101, 103, 105, 110]⟩ else if k = 3 then ⟨#[100, 111, 110, 101]⟩ else if k = 4 then ⟨#[97, 98, 111, 114, 116]⟩
  else if k = 5 then ⟨#[114, 101, 115, 117, 109, 101]⟩ else if k = 6 then ⟨#[115, 119, 105, 116, 99, 104]⟩ else if k = 7 then ⟨#[108, 101, 97, 115, 101]⟩ else ⟨#[]⟩

theorem wordB_lo {k : Int} (h : k < 0) : wordB k = ⟨#[]⟩ := by unfold wordB; repeat rw [if_neg (by omega)]
theorem wordB_hi {k : Int} (h : 8 ≤ k) : wordB k = ⟨#[]⟩ := by unfold wordB; repeat rw [if_neg (by omega)]

set_option maxHeartbeats 400000 in
theorem word_any (k : Int) (w : World) :
    Calls Tryd.prog 59 #[.int .i64 k] w fun e w' => e = .returned (.string (wordB k)) ∧ Below w.heap.size w w' := by
  by_cases h : 0 ≤ k ∧ k < 8
  · obtain ⟨h0, h8⟩ := h
    have hk : k = 0 ∨ k = 1 ∨ k = 2 ∨ k = 3 ∨ k = 4 ∨ k = 5 ∨ k = 6 ∨ k = 7 := by omega
    rcases hk with rfl | rfl | rfl | rfl | rfl | rfl | rfl | rfl
    all_goals
      go_enter Tryd.func59, Tryd.ntmps59
      go_wp2
      go_ret
      exact ⟨rfl, (Below.refl _ _).alloc (Nat.le_refl _) _⟩
  · by_cases h0 : k < 0
    · rw [wordB_lo h0]
      go_enter Tryd.func59, Tryd.ntmps59
      go_wp2
      go_ret
      exact ⟨rfl, (Below.refl _ _).alloc (Nat.le_refl _) _⟩
    · have h8 : 8 ≤ k := by omega
      rw [wordB_hi h8]
      have h0' : 0 ≤ k := by omega
      clear h h0
      go_enter Tryd.func59, Tryd.ntmps59
      go_wp2
      go_ret
      exact ⟨rfl, (Below.refl _ _).alloc (Nat.le_refl _) _⟩

/-- The numbers of the kind of a point. -/
def flds (p : Pt) : List Int :=
  if p.kind = 1 then [p.tbl, p.wri, p.rdr] else if p.kind = 6 then [p.rep, p.ver, p.rnd] else if p.kind = 7 then [p.hol, p.tok] else [p.idx, p.tok]

/-- Numbers lie from the start of a block on. -/
def IntsIn (w : World) (b : Nat) (l : List Int) : Prop := ∀ k x, l[k]? = some x → w.cell? ⟨b, k, none⟩ = some (.int .i64 x)

/-- What the functions fields leave. -/
def FldsPost (p : Pt) (w : World) (e : Ending) (w' : World) : Prop :=
  ∃ b, e = .returned (.slice (some ⟨b, 0, none⟩) (flds p).length (flds p).length) ∧ IntsIn w' b (flds p) ∧ Below w.heap.size w w'

theorem fldsPost_mk {p : Pt} {w : World} {o : Obj} {L : List Int} (hL : flds p = L) (es : Array Value) (hes : es = (L.map (Value.int .i64)).toArray) :
    FldsPost p w (.returned (.slice (some ⟨w.heap.size + 1, 0, none⟩) L.length L.length)) ((w.alloc o).alloc (.cells es 2)) := by
  subst hL; subst hes
  refine ⟨_, rfl, fun k x hk => ?_, ((Below.refl _ _).alloc (Nat.le_refl _) _).alloc (by simp) _⟩
  have hh : ((w.alloc o).alloc (.cells ((flds p).map (Value.int .i64)).toArray 2)).heap[w.heap.size + 1]? = some (.cells ((flds p).map (Value.int .i64)).toArray 2 (0, 0)) := by
    have := heap_alloc_new (w.alloc o) (.cells ((flds p).map (Value.int .i64)).toArray 2)
    simpa using this
  rw [cell_of_row _ _ _ _ _ _ hh]
  simp [hk]

set_option maxHeartbeats 400000 in
theorem fields_any (p : Pt) (w : World) : Calls Tryd.prog 60 #[p.v] w (FldsPost p w) := by
  by_cases h1 : p.kind = 1
  · have hb : (p.kind == 1) = true := by simp [h1]
    have HL := Lib.hid (show flds p = [p.tbl, p.wri, p.rdr] by simp [flds, h1])
    clear h1
    go_enter Tryd.func60, Tryd.ntmps60
    go_wp2
    go_ret
    exact fldsPost_mk HL.out _ rfl
  by_cases h6 : p.kind = 6
  · have hb : (p.kind == 1) = false := by simp [h6]
    have hb6 : (p.kind == 6) = true := by simp [h6]
    have HL := Lib.hid (show flds p = [p.rep, p.ver, p.rnd] by simp [flds, h6])
    clear h1 h6
    go_enter Tryd.func60, Tryd.ntmps60
    go_wp2
    go_ret
    exact fldsPost_mk HL.out _ rfl
  by_cases h7 : p.kind = 7
  · have hb : (p.kind == 1) = false := by simp [h7]
    have hb6 : (p.kind == 6) = false := by simp [h7]
    have hb7 : (p.kind == 7) = true := by simp [h7]
    have HL := Lib.hid (show flds p = [p.hol, p.tok] by simp [flds, h7])
    clear h1 h6 h7
    go_enter Tryd.func60, Tryd.ntmps60
    go_wp2
    go_ret
    exact fldsPost_mk HL.out _ rfl
  · have hb : (p.kind == 1) = false := by simp [h1]
    have hb6 : (p.kind == 6) = false := by simp [h6]
    have hb7 : (p.kind == 7) = false := by simp [h7]
    have HL := Lib.hid (show flds p = [p.idx, p.tok] by simp [flds, h1, h6, h7])
    clear h1 h6 h7
    go_enter Tryd.func60, Tryd.ntmps60
    go_wp2
    go_ret
    exact fldsPost_mk HL.out _ rfl
set_option maxHeartbeats 400000 in
theorem refFields_any (p : Pt) (w : World) : Calls Tryd.prog 33 #[p.v] w (FldsPost p w) := by
  by_cases h1 : p.kind = 1
  · have hb : (p.kind == 1) = true := by simp [h1]
    have HL := Lib.hid (show flds p = [p.tbl, p.wri, p.rdr] by simp [flds, h1])
    clear h1
    go_enter Tryd.func33, Tryd.ntmps33
    go_wp2
    go_ret
    exact fldsPost_mk HL.out _ rfl
  by_cases h6 : p.kind = 6
  · have hb : (p.kind == 1) = false := by simp [h6]
    have hb6 : (p.kind == 6) = true := by simp [h6]
    have HL := Lib.hid (show flds p = [p.rep, p.ver, p.rnd] by simp [flds, h6])
    clear h1 h6
    go_enter Tryd.func33, Tryd.ntmps33
    go_wp2
    go_ret
    exact fldsPost_mk HL.out _ rfl
  by_cases h7 : p.kind = 7
  · have hb : (p.kind == 1) = false := by simp [h7]
    have hb6 : (p.kind == 6) = false := by simp [h7]
    have hb7 : (p.kind == 7) = true := by simp [h7]
    have HL := Lib.hid (show flds p = [p.hol, p.tok] by simp [flds, h7])
    clear h1 h6 h7
    go_enter Tryd.func33, Tryd.ntmps33
    go_wp2
    go_ret
    exact fldsPost_mk HL.out _ rfl
  · have hb : (p.kind == 1) = false := by simp [h1]
    have hb6 : (p.kind == 6) = false := by simp [h6]
    have hb7 : (p.kind == 7) = false := by simp [h7]
    have HL := Lib.hid (show flds p = [p.idx, p.tok] by simp [flds, h1, h6, h7])
    clear h1 h6 h7
    go_enter Tryd.func33, Tryd.ntmps33
    go_wp2
    go_ret
    exact fldsPost_mk HL.out _ rfl

/-- The point of a kind with these numbers. -/
def mk (a k : Int) (l : List Int) : Pt :=
  if k = 1 then ⟨a, k, l.getD 0 0, l.getD 1 0, l.getD 2 0, 0, 0, 0, 0, 0, 0⟩
  else if k = 6 then ⟨a, k, 0, 0, 0, 0, 0, l.getD 2 0, l.getD 0 0, l.getD 1 0, 0⟩
  else if k = 7 then ⟨a, k, 0, 0, 0, 0, l.getD 1 0, 0, 0, 0, l.getD 0 0⟩
  else ⟨a, k, 0, 0, 0, l.getD 0 0, l.getD 1 0, 0, 0, 0, 0⟩

/-- How many numbers a kind has. -/
def cnt (k : Int) : Nat := if k = 1 then 3 else if k = 6 then 3 else 2

theorem flds_length (p : Pt) : (flds p).length = cnt p.kind := by
  unfold flds cnt; split
  · rfl
  · split
    · rfl
    · split <;> rfl

end Go.Proofs.YtcmnmcholfellaaDoor
