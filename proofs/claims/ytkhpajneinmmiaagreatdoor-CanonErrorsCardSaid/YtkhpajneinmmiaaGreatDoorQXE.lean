/-
  The law CanonErrors (sheave/sheavelaw18): for every two roots the call returns true, and the arguments read as before. Its conditions: none beside the row's own (the listed tables of Go's library hold what their text lays).
-/
import Derived.Test.YtkhpajneinmmiaaGreatDoorQLE
import Derived.Test.YtkhpajneinmmiaaGreatDoorQJJ
namespace Go.Proofs.YtkhpajneinmmiaaGreatDoor.canonErrors
open Go.ChangeShapes Go.WideShapes Go.ChangeAt Go.RowKit
set_option maxRecDepth 100000

theorem stays_ : Stays Tryz.f10.params.toList := by
  rw [Tryz.params10]
  intro t ht
  simp only [List.mem_cons, List.mem_nil_iff, or_false] at ht
  rcases ht with rfl | rfl
  · exact ⟨by kernel_rfl, of_decide_eq_true (by kernel_rfl)⟩
  · exact ⟨by kernel_rfl, of_decide_eq_true (by kernel_rfl)⟩

theorem contract (H : Type) (enc : TypeId × Value → H) (W : World) (base : Nat) (args : Array Value) (ds gs : List (DataW H)) (before : List MemPlace)
    (hval : ∀ (j : Nat) t v, Tryz.f10.params[j]? = some t → args[j]? = some v → Value.okWide Tryz.prog W .any base t v)
    (hW : DataW.Whole enc Tryz.prog Tryz.f10.params.toList Rows.canonErrorsSpec.vars false W args.toList ds gs before) (rs : List TypeId)
    (hwt : (DataW.weightsEach Tryz.prog (Tryz.f10.params.toList ++ rs) (ds ++ gs)).all (· ≤ reachBytes) = true) (hL : laidMetH Tryz.prog Rows.canonErrorsRow.laid W) :
    Calls Tryz.prog 10 args W fun e W' => ∃ v, e = .returned v ∧ Rows.canonErrorsSpec.post enc Tryz.prog Tryz.f10 false true false false W args v W' := by
  have hW' := hW
  obtain ⟨p, q, hA0, hV, rfl, hfz, hnd⟩ := hW
  have hA : DataW.TrodAll enc Tryz.prog W 0 (fun _ => true) true Tryz.f10.params.toList args.toList ds p := hA0
  have hw : ∀ w ∈ DataW.weightsEach Tryz.prog (Tryz.f10.params.toList ++ rs) (ds ++ gs), w ≤ reachBytes := fun w h => of_decide_eq_true (List.all_eq_true.1 hwt w h)
  rw [Tryz.params10] at hA hval hw
  obtain ⟨v0, vs0, d0, ds0, p0, q0, hargs, rfl, rfl, h0, r0⟩ := trodAll_cons hA
  obtain ⟨v1, vs1, d1, ds1, p1, q1, rfl, rfl, rfl, h1, r1⟩ := trodAll_cons r0
  obtain ⟨rfl, rfl, rfl⟩ := trodAll_nil r1
  obtain rfl : args = #[v0, v1] := by cases args; simp_all
  obtain ⟨A0, c0, s0, t0, rfl, hr0⟩ := open_root (hval 0 32 v0 rfl rfl) h0 (sz_each hw 0 _ _ rfl rfl)
  obtain ⟨A1, c1, s1, t1, rfl, hr1⟩ := open_root (hval 1 32 v1 rfl rfl) h1 (sz_each hw 1 _ _ rfl rfl)
  refine (lawErrors_any s0 t0 s1 t1 A0 c0 A1 c1 W hr0 hr1 (tab_of_laid hL)).mono fun e W' ⟨he, hb⟩ => ?_
  subst he
  exact ⟨_, rfl, law_post rfl rfl ⟨rfl, rfl, rfl⟩ stays_ hW' hb⟩

abbrev wv : Value := .agg #[.slice none 0 0, .int .i64 0]
theorem laid_met (os : Os) : laidMet Tryz.prog Rows.canonErrorsRow.laid ((laidWorld os).forCall (fun _ _ => 0) ⟨#[], #[wv, wv], []⟩).memory :=
  laidMet_of_run' 8 (by kernel_rfl) (by kernel_rfl)
theorem reads (os : Os) {H : Type} (enc : TypeId × Value → H) : ∃ places, DataW.whole enc Tryz.prog ((laidWorld os).forCall (fun _ _ => 0) ⟨#[], #[wv, wv], []⟩).memory Tryz.f10.params.toList Rows.canonErrorsSpec.vars false #[wv, wv].toList 8 = some ([.agg [.agg [.nil], .lit (.int .i64 0)], .agg [.agg [.nil], .lit (.int .i64 0)]], [], places) :=
  ⟨[], by kernel_rfl⟩

theorem lifted (os : Os) (started : os.Started) (H : Type) (enc : TypeId × Value → H) (F : Stop.Interp) :
    ReturnsInHanded {} Tryz.checked os 10 .any ((OpenSpec.ofChange Rows.canonErrorsSpec).preRow enc Tryz.prog Tryz.f10 Rows.canonErrorsRow.domain false Rows.canonErrorsRow.laid) (((OpenSpec.ofChange Rows.canonErrorsSpec).at F).post enc Tryz.prog Tryz.f10 false true false false) := by
  obtain ⟨places, hx⟩ := reads os enc
  refine returnsInHanded_of_row (C := Tryz.checked) (s := OpenSpec.ofChange Rows.canonErrorsSpec) own started (by kernel_rfl) Tryz.func10
    (witness_row_at (enc := enc) (C := Tryz.checked) false (laidWorld os) #[wv, wv] rfl (by kernel_rfl) (by kernel_rfl) (by kernel_rfl)
      (OpenSpec.preRow_of_cond 8 hx (by kernel_rfl) (fun k hk => by cases hk) (by kernel_rfl) (laid_met os))) ?_
  intro W base args ds gs before hval hW _ _ hwt hL _ _
  exact contract H enc W base args ds gs before hval hW _ hwt hL

theorem said : Rows.CanonErrorsSaid :=
  OpenClaim.holds_of_cond 10 Tryz.f10 rfl rfl rfl rfl rfl rfl rfl ⟨rfl, rfl, rfl, rfl, rfl⟩ rfl rfl rfl rfl rfl (by kernel_rfl) Tryz.func10 (by kernel_rfl)
    (of_decide_eq_true (by kernel_rfl)) (by unfold Func.isWrapper; first | (rw [if_pos (by decide +kernel)]; kernel_rfl) | (rw [if_neg (by decide +kernel)]; exact ⟨rfl, rfl⟩))
    (fun os started H enc _ F => by rw [OpenClaim.pre_eq_preRow]; exact lifted os started H enc F)

theorem plain (f : FuncId) (fn : Func) (hf : Tryz.pinned.checked.prog.funcNamed "sheave/sheavelaw18.CanonErrors" = some f) (hfn : Tryz.pinned.checked.prog.funcs[f]? = some fn) :
    false = Tryz.pinned.checked.prog.looks [] ∧ ∀ (j : Nat) t, fn.params[j]? = some t → Tryz.pinned.checked.prog.wantsStandIn t = false := by
  obtain rfl : f = 10 := Option.some.inj ((show Tryz.prog.funcNamed "sheave/sheavelaw18.CanonErrors" = some 10 by kernel_rfl).symm.trans hf) |>.symm
  obtain rfl : fn = Tryz.f10 := (Option.some.inj (Tryz.func10.symm.trans hfn)).symm
  refine ⟨by kernel_rfl, fun j t ht => ?_⟩
  rw [Tryz.params10] at ht
  have hm : t = 32 := by have h := Array.mem_of_getElem? ht; simp at h; omega
  subst hm
  exact (show Tryz.prog.wantsStandIn 32 = false by kernel_rfl)

/-- The card. -/
theorem card : Rows.CanonErrorsCardSaid :=
  Claim7.holds_tied_plain_at .later [] _ _ _ _ said (fun _ h => by cases h) (by kernel_rfl) (fun _ h => by cases h) canonErrors_row_tie rfl ⟨rfl, rfl⟩ (by kernel_rfl) rfl plain (by kernel_rfl)
end Go.Proofs.YtkhpajneinmmiaaGreatDoor.canonErrors
