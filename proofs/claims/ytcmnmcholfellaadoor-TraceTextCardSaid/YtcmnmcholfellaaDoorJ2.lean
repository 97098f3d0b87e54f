/-
  A point by value that came in.
-/
import Derived.Test.YtcmnmcholfellaaDoorJ0
namespace Go.Proofs.YtcmnmcholfellaaDoor
open Go.ChangeShapes Go.WideShapes Go.ChangeAt Go.RowKit Go.Deep
set_option maxRecDepth 100000

theorem open_ptv {H : Type} {enc : TypeId × Value → H} {W : World} {r : Reach} {b0 : Nat} {v : Value} {d : DataW H} {p : List MemPlace} (hv : Value.okWide Tryd.prog W r b0 23 v) (h : DataW.Trod enc Tryd.prog W 0 (fun _ => true) true 23 v d p) :
    ∃ q : Pt, v = q.v ∧ q.Fits := by
  obtain ⟨cs, rfl, _, _⟩ : ∃ cs, v = .agg cs ∧ cs.size = Tryd.prog.cellsOf 23 ∧ Row.okWide Tryd.prog W r b0 23 cs := by
    have h' := hv
    unfold Value.okWide at h'
    rw [Tryd.underlying23] at h'
    exact h'
  obtain ⟨fuel, hf⟩ := h
  obtain ⟨q, e, hq⟩ := open_pt hf
  have e' : cs.toList = q.cs := e
  refine ⟨q, ?_, hq⟩
  have : cs = q.cs.toArray := by rw [← e']
  rw [this]; rfl
end Go.Proofs.YtcmnmcholfellaaDoor
