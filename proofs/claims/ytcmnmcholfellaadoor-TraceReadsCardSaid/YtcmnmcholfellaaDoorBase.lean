/-
  Words for the points of a trace: a point as Lean data, its value, how a slice of points lies in memory; what memory keeps when blocks are added.
-/
import Derived.Test.YtcmnmcholfellaaDoorProg
import Derived.WalkKit
import Derived.ProofKit
import Derived.RowKit
import Derived.Lib.Hide
import Derived.Deep.RegionHeld3
import Derived.Deep.DrawnRows
import Derived.BigQuiet
import Derived.Deep.QuietTactic
namespace Go.Proofs.YtcmnmcholfellaaDoor
open Go.RowKit

/-- A point of a trace, its eleven numbers. -/
structure Pt where
  at_ : Int
  kind : Int
  tbl : Int
  wri : Int
  rdr : Int
  idx : Int
  tok : Int
  rnd : Int
  rep : Int
  ver : Int
  hol : Int
deriving DecidableEq, Repr

/-- The value of a point. -/
abbrev Pt.v (p : Pt) : Value := .agg #[.int .i64 p.at_, .int .i64 p.kind, .int .i64 p.tbl, .int .i64 p.wri, .int .i64 p.rdr, .int .i64 p.idx, .int .i64 p.tok, .int .i64 p.rnd, .int .i64 p.rep, .int .i64 p.ver, .int .i64 p.hol]

/-- The cells of a point. -/
def Pt.cs (p : Pt) : List Value := [.int .i64 p.at_, .int .i64 p.kind, .int .i64 p.tbl, .int .i64 p.wri, .int .i64 p.rdr, .int .i64 p.idx, .int .i64 p.tok, .int .i64 p.rnd, .int .i64 p.rep, .int .i64 p.ver, .int .i64 p.hol]

theorem Pt.cs_length (p : Pt) : p.cs.length = 11 := rfl

/-- A number of Go's type int64. -/
def In64 (n : Int) : Prop := -9223372036854775808 ≤ n ∧ n ≤ 9223372036854775807

/-- The numbers of a point are of Go's types. -/
structure Pt.Fits (p : Pt) : Prop where
  at_ : In64 p.at_
  kind : In64 p.kind
  tbl : In64 p.tbl
  wri : In64 p.wri
  rdr : In64 p.rdr
  idx : In64 p.idx
  tok : In64 p.tok
  rnd : In64 p.rnd
  rep : In64 p.rep
  ver : In64 p.ver
  hol : In64 p.hol

/-- The cells of a point lie from an offset of a block on. -/
structure PtIn (w : World) (b o : Nat) (p : Pt) : Prop where
  c0 : w.cell? ⟨b, o, none⟩ = some (.int .i64 p.at_)
  c1 : w.cell? ⟨b, o + 1, none⟩ = some (.int .i64 p.kind)
  c2 : w.cell? ⟨b, o + 2, none⟩ = some (.int .i64 p.tbl)
  c3 : w.cell? ⟨b, o + 3, none⟩ = some (.int .i64 p.wri)
  c4 : w.cell? ⟨b, o + 4, none⟩ = some (.int .i64 p.rdr)
  c5 : w.cell? ⟨b, o + 5, none⟩ = some (.int .i64 p.idx)
  c6 : w.cell? ⟨b, o + 6, none⟩ = some (.int .i64 p.tok)
  c7 : w.cell? ⟨b, o + 7, none⟩ = some (.int .i64 p.rnd)
  c8 : w.cell? ⟨b, o + 8, none⟩ = some (.int .i64 p.rep)
  c9 : w.cell? ⟨b, o + 9, none⟩ = some (.int .i64 p.ver)
  c10 : w.cell? ⟨b, o + 10, none⟩ = some (.int .i64 p.hol)

/-- The points of a list lie from an offset of a block on. -/
def PtsIn (w : World) (b o : Nat) (l : List Pt) : Prop := ∀ k p, l[k]? = some p → PtIn w b (o + k * 11) p

/-- A slice with this address, and as long as the list, reads as the list. -/
def PtsR (w : World) (A : Option Addr) (l : List Pt) : Prop := l ≠ [] → ∃ b o, A = some ⟨b, o, none⟩ ∧ PtsIn w b o l

theorem lt_of_cell {w : World} {a : Addr} {v : Value} (h : w.cell? a = some v) : a.block < w.heap.size := World.block_lt_of_cell? w a h

theorem PtIn.lt {w : World} {b o : Nat} {p : Pt} (h : PtIn w b o p) : b < w.heap.size := lt_of_cell h.c0

theorem PtIn.keep {w w' : World} {b o : Nat} {p : Pt} (h : PtIn w b o p) (hk : w'.heap[b]? = w.heap[b]?) : PtIn w' b o p := by
  have e : ∀ j, w'.cell? ⟨b, j, none⟩ = w.cell? ⟨b, j, none⟩ := fun j => World.cell?_of_block (a := ⟨b, j, none⟩) hk
  exact ⟨(e _).trans h.c0, (e _).trans h.c1, (e _).trans h.c2, (e _).trans h.c3, (e _).trans h.c4, (e _).trans h.c5, (e _).trans h.c6, (e _).trans h.c7, (e _).trans h.c8, (e _).trans h.c9, (e _).trans h.c10⟩

theorem PtsIn.keep {w w' : World} {b o : Nat} {l : List Pt} (h : PtsIn w b o l) (hk : w'.heap[b]? = w.heap[b]?) : PtsIn w' b o l :=
  fun k p hp => (h k p hp).keep hk

theorem PtsIn.lt {w : World} {b o : Nat} {l : List Pt} (h : PtsIn w b o l) (hn : l ≠ []) : b < w.heap.size := by
  cases l with
  | nil => exact absurd rfl hn
  | cons p r => exact (h 0 p rfl).lt

/-- What is read stays when old blocks stay. -/
theorem PtsR.below {w w' : World} {A : Option Addr} {l : List Pt} (h : PtsR w A l) (hb : Below w.heap.size w w') : PtsR w' A l := fun hn => by
  obtain ⟨b, o, e, hi⟩ := h hn
  exact ⟨b, o, e, hi.keep (hb.block b (hi.lt hn))⟩

theorem PtsR.nil (w : World) (A : Option Addr) : PtsR w A [] := fun h => absurd rfl h

theorem PtsR.at_ {w : World} {A : Option Addr} {l : List Pt} (h : PtsR w A l) {k : Nat} (hk : k < l.length) : ∃ b o, A = some ⟨b, o, none⟩ ∧ PtsIn w b o l ∧ PtIn w b (o + k * 11) (l[k]) := by
  obtain ⟨b, o, e, hi⟩ := h (fun e => by subst e; simp at hk)
  exact ⟨b, o, e, hi, hi k _ (List.getElem?_eq_getElem hk)⟩

/-- The cells of a point that lies alone in a block. -/
structure PtAt (w : World) (b : Nat) (p : Pt) : Prop where
  c0 : w.cell? ⟨b, 0, none⟩ = some (.int .i64 p.at_)
  c1 : w.cell? ⟨b, 1, none⟩ = some (.int .i64 p.kind)
  c2 : w.cell? ⟨b, 2, none⟩ = some (.int .i64 p.tbl)
  c3 : w.cell? ⟨b, 3, none⟩ = some (.int .i64 p.wri)
  c4 : w.cell? ⟨b, 4, none⟩ = some (.int .i64 p.rdr)
  c5 : w.cell? ⟨b, 5, none⟩ = some (.int .i64 p.idx)
  c6 : w.cell? ⟨b, 6, none⟩ = some (.int .i64 p.tok)
  c7 : w.cell? ⟨b, 7, none⟩ = some (.int .i64 p.rnd)
  c8 : w.cell? ⟨b, 8, none⟩ = some (.int .i64 p.rep)
  c9 : w.cell? ⟨b, 9, none⟩ = some (.int .i64 p.ver)
  c10 : w.cell? ⟨b, 10, none⟩ = some (.int .i64 p.hol)

/-- A point's own block. -/
abbrev Pt.box (p : Pt) : Obj := .cells #[.int .i64 p.at_, .int .i64 p.kind, .int .i64 p.tbl, .int .i64 p.wri, .int .i64 p.rdr, .int .i64 p.idx, .int .i64 p.tok, .int .i64 p.rnd, .int .i64 p.rep, .int .i64 p.ver, .int .i64 p.hol] 23

theorem ptAt_of_heap {w : World} {b : Nat} {p : Pt} (h : w.heap[b]? = some p.box) : PtAt w b p := by
  have e : ∀ j, w.cell? ⟨b, j, none⟩ = (#[.int .i64 p.at_, .int .i64 p.kind, .int .i64 p.tbl, .int .i64 p.wri, .int .i64 p.rdr, .int .i64 p.idx, .int .i64 p.tok, .int .i64 p.rnd, .int .i64 p.rep, .int .i64 p.ver, .int .i64 p.hol] : Array Value)[j]? := fun j => cell_of_row w b j _ _ _ h
  exact ⟨e 0, e 1, e 2, e 3, e 4, e 5, e 6, e 7, e 8, e 9, e 10⟩

/-- A boxed point, behind a call that adds blocks. -/
theorem ptAt_box {w w' : World} {p : Pt} (hb : Below (w.alloc p.box).heap.size (w.alloc p.box) w') : PtAt w' w.heap.size p :=
  ptAt_of_heap ((hb.block w.heap.size (by simp)).trans (heap_alloc_new w _))

theorem PtAt.below {w w' : World} {b : Nat} {p : Pt} (h : PtAt w b p) (hb : Below w.heap.size w w') : PtAt w' b p := by
  have e : ∀ j, w'.cell? ⟨b, j, none⟩ = w.cell? ⟨b, j, none⟩ := fun j => World.cell?_of_block (a := ⟨b, j, none⟩) (hb.block b (lt_of_cell h.c0))
  exact ⟨(e _).trans h.c0, (e _).trans h.c1, (e _).trans h.c2, (e _).trans h.c3, (e _).trans h.c4, (e _).trans h.c5, (e _).trans h.c6, (e _).trans h.c7, (e _).trans h.c8, (e _).trans h.c9, (e _).trans h.c10⟩

theorem below_alloc {w w' : World} {o : Obj} (hb : Below (w.alloc o).heap.size (w.alloc o) w') : Below w.heap.size w w' :=
  ((Below.refl _ _).alloc (Nat.le_refl _) o).trans (hb.mono (by simp))

/-- The kept world, cell by cell. -/
theorem below_cell {w w' : World} (hb : Below w.heap.size w w') {b o : Nat} {v : Value} (h : w.cell? ⟨b, o, none⟩ = some v) : w'.cell? ⟨b, o, none⟩ = some v :=
  (hb.cell (p := ⟨b, o, none⟩) (lt_of_cell h)).trans h

/-- Old cells and marks read as before: two rules for the walk. -/
theorem bcell {W w1 : World} (hb : Below W.heap.size W w1) : ∀ b o, b < W.heap.size → w1.cell? ⟨b, o, none⟩ = W.cell? ⟨b, o, none⟩ := fun b o h => hb.cell (p := ⟨b, o, none⟩) h

/-- A draw ahead turns nothing. -/
theorem undrew {W w1 : World} (h : Below W.drew.heap.size W.drew w1) : Below W.heap.size W w1 := ⟨h.os, h.tape, h.output, h.size, h.block⟩

/-- Draws turn no block. -/
theorem below_drewN {B : Nat} {a w : World} (h : Below B a w) (n : Nat) : Below B a (w.drewN n) := ⟨h.os, h.tape, h.output, h.size, h.block⟩

/-- What a region's worlds meet: a point in its box, and a fact T that growth keeps. -/
theorem hold_keep {w0 wc w3 : World} {b : Nat} {p : Pt} {T : World → Prop} (hT : ∀ {u v : World}, T u → Below u.heap.size u v → T v)
    (h : (wc.cell? ⟨b, 0, none⟩ = some (.int .i64 p.at_) ∧ wc.cell? ⟨b, 1, none⟩ = some (.int .i64 p.kind) ∧ wc.cell? ⟨b, 2, none⟩ = some (.int .i64 p.tbl) ∧ wc.cell? ⟨b, 3, none⟩ = some (.int .i64 p.wri) ∧ wc.cell? ⟨b, 4, none⟩ = some (.int .i64 p.rdr) ∧ wc.cell? ⟨b, 5, none⟩ = some (.int .i64 p.idx) ∧ wc.cell? ⟨b, 6, none⟩ = some (.int .i64 p.tok) ∧ wc.cell? ⟨b, 7, none⟩ = some (.int .i64 p.rnd) ∧ wc.cell? ⟨b, 8, none⟩ = some (.int .i64 p.rep) ∧ wc.cell? ⟨b, 9, none⟩ = some (.int .i64 p.ver) ∧ wc.cell? ⟨b, 10, none⟩ = some (.int .i64 p.hol)) ∧ Hid (Below w0.heap.size w0 wc ∧ T wc)) (hb : Below wc.heap.size wc w3) : (w3.cell? ⟨b, 0, none⟩ = some (.int .i64 p.at_) ∧ w3.cell? ⟨b, 1, none⟩ = some (.int .i64 p.kind) ∧ w3.cell? ⟨b, 2, none⟩ = some (.int .i64 p.tbl) ∧ w3.cell? ⟨b, 3, none⟩ = some (.int .i64 p.wri) ∧ w3.cell? ⟨b, 4, none⟩ = some (.int .i64 p.rdr) ∧ w3.cell? ⟨b, 5, none⟩ = some (.int .i64 p.idx) ∧ w3.cell? ⟨b, 6, none⟩ = some (.int .i64 p.tok) ∧ w3.cell? ⟨b, 7, none⟩ = some (.int .i64 p.rnd) ∧ w3.cell? ⟨b, 8, none⟩ = some (.int .i64 p.rep) ∧ w3.cell? ⟨b, 9, none⟩ = some (.int .i64 p.ver) ∧ w3.cell? ⟨b, 10, none⟩ = some (.int .i64 p.hol)) ∧ Hid (Below w0.heap.size w0 w3 ∧ T w3) := by
  obtain ⟨⟨c0, c1, c2, c3, c4, c5, c6, c7, c8, c9, c10⟩, hB, ht⟩ := h
  obtain ⟨d0, d1, d2, d3, d4, d5, d6, d7, d8, d9, d10⟩ := (PtAt.mk c0 c1 c2 c3 c4 c5 c6 c7 c8 c9 c10).below hb
  exact ⟨⟨d0, d1, d2, d3, d4, d5, d6, d7, d8, d9, d10⟩, hB.trans (hb.mono hB.size), hT ht hb⟩

/-- Growth of memory, in two steps. -/
theorem below_trans {w w1 w2 : World} (h1 : Below w.heap.size w w1) (h2 : Below w1.heap.size w1 w2) : Below w.heap.size w w2 :=
  h1.trans (h2.mono h1.size)

end Go.Proofs.YtcmnmcholfellaaDoor
