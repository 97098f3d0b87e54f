/-
  A world for the witness: the tables hold what their initialisers lay.
-/
import Derived.Test.YtkhpajneinmmiaaGreatDoorCards
import Derived.Test.YtkhpajneinmmiaaGreatDoorTie
import Derived.Test.YtkhpajneinmmiaaGreatDoorQOP0
import Derived.Test.YtkhpajneinmmiaaGreatDoorQRN0
import Derived.Test.YtkhpajneinmmiaaGreatDoorQRE1
import Derived.ProofKit
import Derived.Deep.DeepHandedRow
import Derived.Lib.LaidTab
namespace Go.Proofs.YtkhpajneinmmiaaGreatDoor
open Go.ChangeShapes Go.WideShapes Go.ChangeAt Go.RowKit Go.Deep
set_option maxRecDepth 100000

theorem own : ownKnob Tryz.prog.godebug = none := by kernel_rfl
theorem laidOut : laidOutB Tryz.prog = true := by kernel_rfl

section
variable {H : Type} {enc : TypeId × Value → H}

/-- The parameters' types are such that a reading stays where memory stays. -/
def Stays (ts : List TypeId) : Prop := ∀ t ∈ ts, Tryz.prog.readableRec t = true ∧ t < Tryz.prog.types.size

theorem trodAll_stays {W W' : World} (hb : Below W.heap.size W W') (sp : Nat → Bool) : ∀ (ts : List TypeId) (vs : List Value) (ds : List (DataW H)) (ps : List MemPlace),
    Stays ts → DataW.TrodAll enc Tryz.prog W 0 (fun _ => true) true ts vs ds ps → (∀ p ∈ ps, p.block < W.heap.size) → (∀ p ∈ ps, sp p.block = true) → DataW.TrodAll enc Tryz.prog W' 0 sp true ts vs ds ps
  | [], [], [], ps, _, h, _, _ => h
  | t :: ts, v :: vs, d :: ds, ps, hs, h, hlt, hsp => by
    obtain ⟨p, q, h1, h2, rfl⟩ := h
    have hs' : (Tryz.prog.readableRec t = true ∧ t < Tryz.prog.types.size) ∧ Stays ts := ⟨hs t (List.mem_cons_self ..), fun u hu => hs u (List.mem_cons_of_mem _ hu)⟩
    refine ⟨p, q, WideElems.Trod_stays laidOut hs'.1.1 hs'.1.2 h1 (fun x hx => hb.same (hlt x (List.mem_append_left _ hx))) (fun x hx => hsp x (List.mem_append_left _ hx)), trodAll_stays hb sp ts vs ds q hs'.2 h2 (fun x hx => hlt x (List.mem_append_right _ hx)) (fun x hx => hsp x (List.mem_append_right _ hx)), rfl⟩
  | [], [], _ :: _, _, _, h, _, _ => by cases h
  | [], _ :: _, _, _, _, h, _, _ => by cases h
  | _ :: _, [], _, _, _, h, _, _ => by cases h
  | _ :: _, _ :: _, [], _, _, h, _, _ => by cases h

/-- The end of a law: it has returned true, and memory has only grown. -/
theorem law_post {f : Func} {s : ChangeSpec} {W W' : World} {args : Array Value} {ds gs : List (DataW H)} {before : List MemPlace} (hv : s.vars = []) (hrt : f.resultTypes = #[4])
    (hfn : (s.fn H ds).results = [.lit (.bool true)] ∧ (s.fn H ds).args = ds ∧ (s.fn H ds).vars = []) (hst : Stays f.params.toList)
    (hW : DataW.Whole enc Tryz.prog f.params.toList s.vars false W args.toList ds gs before) (hb : Below W.heap.size W W') :
    s.post enc Tryz.prog f false true false false W args (.bool true) W' := by
  have hlt : ∀ p ∈ before, p.block < W.heap.size := fun p hp => hW.lt p hp
  have hW0 := hW
  obtain ⟨p, q, h1, h2, rfl, h4, h5⟩ := hW
  rw [hv] at h2
  obtain ⟨rfl, rfl⟩ := trodVars_none h2
  have hold : ∀ x ∈ p ++ [], (fun b => decide (b < W.heap.size)) x.block = true := fun x hx => by simpa using hlt x hx
  have hres : ∀ (b : Nat) (sp : Nat → Bool) (hd : Bool), DataW.TrodAll enc Tryz.prog W' b sp hd f.resultTypes.toList ((Value.bool true).resultList f.resultTypes.size) (s.fn H (ds ++ [])).results [] := fun b sp hd => by
    rw [List.append_nil, hfn.1, hrt]
    exact trodAll_cons_mk (shut_bool Tryz.underlying4 _) trodAll_mk0
  have hargs : ∀ sp : Nat → Bool, (∀ x ∈ p ++ [], sp x.block = true) → DataW.TrodAll enc Tryz.prog W' 0 sp true f.params.toList args.toList (s.fn H (ds ++ [])).args p := fun sp hsp => by
    rw [List.append_nil, hfn.2.1]
    exact trodAll_stays hb sp _ _ _ _ hst h1 (fun x hx => hlt x (List.mem_append_left _ hx)) (fun x hx => hsp x (List.mem_append_left _ hx))
  have hvars : ∀ sp : Nat → Bool, DataW.TrodVars enc Tryz.prog W' sp s.vars (s.fn H (ds ++ [])).vars [] := fun sp => by
    rw [List.append_nil, hfn.2.2, hv]; rfl
  refine ⟨ds, [], p ++ [], [], p, [], hW0, hres _ _ _, hargs _ hold, hvars _, World.keptBut_mono (fun x hx => ⟨hx, Or.inr (List.mem_append.1 hx)⟩) (hb.frame (· ∈ p ++ [])), fun _ => ?_⟩
  refine ⟨ok_one hrt rfl (okWide_bool_mk Tryz.underlying4 _), _, _, ([] ++ p) ++ [], ⟨[] ++ p, [], trodAll_append (hargs _ (fun _ _ => rfl)) (hres _ _ _), hvars _, rfl, ?_, ?_⟩, ?_⟩
  · intro b off hp
    have hin : MemPlace.cell b off ∈ p ++ [] := by simpa using hp
    rw [hb.frozen (hlt _ hin)]
    exact h4 b off hin
  · intro ha; cases ha
  · intro x hx _
    simpa using hx

/-- A root that came in. -/
theorem open_root {W : World} {r : Reach} {b0 : Nat} {v : Value} {d : DataW H} {p : List MemPlace} (hv : Value.okWide Tryz.prog W r b0 32 v) (h : DataW.Trod enc Tryz.prog W 0 (fun _ => true) true 32 v d p) (hz : Sz 32 d) :
    ∃ (A : Option Addr) (c : Nat) (s : List TyD) (t : Int), v = rootV A s.length c t ∧ TysR W A s := by
  obtain ⟨cs, rfl, hsz, _⟩ : ∃ cs, v = .agg cs ∧ cs.size = Tryz.prog.cellsOf 32 ∧ Row.okWide Tryz.prog W r b0 32 cs := by
    have h' := hv
    unfold Value.okWide at h'
    rw [Tryz.underlying32] at h'
    exact h'
  have hc : Tryz.prog.cellsOf 32 = 2 := by kernel_rfl
  have hcS : Tryz.prog.cellsOf 30 = 1 := by kernel_rfl
  have hci : Tryz.prog.cellsOf 3 = 1 := by kernel_rfl
  have hcT : Tryz.prog.cellsOf 28 = 1 := by kernel_rfl
  obtain ⟨fuel, hf⟩ := h
  obtain ⟨l⟩ := cs
  match l, hsz.trans hc with
  | [c0, c1], _ =>
    obtain ⟨xs, m, _, hx, _, hxl, hi⟩ := DataW.trod_struct Tryz.underlying32 hf
    have hdd : d = .agg (xs.map (·.1)) := congrArg Prod.fst hx
    subst hdd
    have hs := sz_parts Tryz.underlying32 hz
    simp only [List.size_toArray, List.length_cons, List.length_nil] at hxl
    match xs, hxl with
    | [x0, x1], _ =>
      have h0 : DataW.trod enc Tryz.prog W 0 (fun _ => true) true m 30 (([c0, c1].drop 0).take (Tryz.prog.cellsOf 30)) = some x0 := hi 0 _ rfl
      have h1 : DataW.trod enc Tryz.prog W 0 (fun _ => true) true m 3 (([c0, c1].drop 1).take (Tryz.prog.cellsOf 3)) = some x1 := hi 1 _ rfl
      rw [hcS] at h0
      rw [hci] at h1
      obtain ⟨z, e1, _, _⟩ := DataW.trod_int Tryz.underlying3 h1
      obtain ⟨ys, m2, _, hy, _, hyl, hi2⟩ := DataW.trod_struct Tryz.underlying30 h0
      have hz0 : Sz 30 x0.1 := sz_each hs 0 _ _ rfl rfl
      have hd0 : x0.1 = .agg (ys.map (·.1)) := congrArg Prod.fst hy
      rw [hd0] at hz0
      have hs2 := sz_parts Tryz.underlying30 hz0
      simp only [List.size_toArray, List.length_cons, List.length_nil] at hyl
      obtain ⟨y0, rfl⟩ : ∃ y0, ys = [y0] := by
        match ys, hyl with
        | [y0], _ => exact ⟨y0, rfl⟩
      · skip
        have k0 : DataW.trod enc Tryz.prog W 0 (fun _ => true) true m2 28 ((([c0, c1].drop 0).take 1).drop 0 |>.take (Tryz.prog.cellsOf 28)) = some y0 := hi2 0 _ rfl
        rw [hcT] at k0
        obtain ⟨A, c, s, e0, hr⟩ := open_rows (α := TyD) (bytes := 120) Tryz.underlying28 (show Tryz.prog.cellsOf 70 = 10 by kernel_rfl) (by kernel_rfl) (by omega) (at_ := fun x cs => TyD.At W x cs) (fun y cs hy => by obtain ⟨As, cs', Am, cm, rfl, _⟩ := hy; rfl) (d := y0.1) (ps := y0.2) k0 (sz_each hs2 0 _ _ rfl rfl) (fun d' _ n' cs' ps' ht hz' => open_ty ht hz')
        injection (show [c0] = [Value.slice A s.length c] from e0) with g0 _
        injection (show [c1] = [Value.int .i64 z] from e1) with g1 _
        subst g0 g1
        exact ⟨A, c, s, z, rfl, hr⟩
/-- The table, out of the row's list. -/
theorem tab_of_laid {W : World} (h : laidMetH Tryz.prog [("math/bits.deBruijn32tab", Rows.laid_math_bits_deBruijn32tab), ("math/bits.deBruijn64tab", Rows.laid_math_bits_deBruijn64tab), ("internal/strconv.uint64pow10", Rows.laid_internal_strconv_uint64pow10)] W) : Tab W := by
  have h' : laidMet Tryz.prog [("math/bits.deBruijn32tab", Rows.laid_math_bits_deBruijn32tab), ("math/bits.deBruijn64tab", Rows.laid_math_bits_deBruijn64tab), ("internal/strconv.uint64pow10", Rows.laid_internal_strconv_uint64pow10)] W := h
  obtain ⟨ps, ⟨_, _, _, _, _, _, _, _, _, _, ⟨_, _, _, _, _, _, _, _, _, _, ⟨g, t, cs, fuel, p, q, hg, ht, hvar, hd, _, _⟩, _⟩, _⟩, _⟩ := h'
  have hg1 : Tryz.prog.globalNamed "internal/strconv.uint64pow10" = some 0 := by kernel_rfl
  have ht1 : (Tryz.prog.globals[0]?).map (·.type) = some 184 := by kernel_rfl
  obtain rfl := Option.some.inj (hg1.symm.trans hg)
  obtain rfl := Option.some.inj (ht1.symm.trans ht)
  unfold Tab Lib.TabIs
  rw [hvar, ← Lib.cells_of_tab Tryz.underlying184 Tryz.underlying39 (by kernel_rfl) (by kernel_rfl) hd]
end
end Go.Proofs.YtkhpajneinmmiaaGreatDoor
namespace Go.Proofs.YtkhpajneinmmiaaGreatDoor
open Go.ChangeShapes Go.WideShapes Go.ChangeAt Go.RowKit
set_option maxRecDepth 100000

/-- A block's cells laid anew. -/
def fillRow (cs : Array Value) : Obj → Obj
  | .cells _ t frozen => .cells cs t frozen
  | o => o

noncomputable def laidWorld (os : Os) : World :=
  { World.holding Tryz.prog os ⟨#[], #[], []⟩ with heap := (((World.holding Tryz.prog os ⟨#[], #[], []⟩).heap.modify 0 (fillRow #[.int .u64 1, .int .u64 10, .int .u64 100, .int .u64 1000, .int .u64 10000, .int .u64 100000, .int .u64 1000000, .int .u64 10000000, .int .u64 100000000, .int .u64 1000000000, .int .u64 10000000000, .int .u64 100000000000, .int .u64 1000000000000, .int .u64 10000000000000, .int .u64 100000000000000, .int .u64 1000000000000000, .int .u64 10000000000000000, .int .u64 100000000000000000, .int .u64 1000000000000000000, .int .u64 10000000000000000000])).modify 1 (fillRow #[.int .u8 0, .int .u8 1, .int .u8 28, .int .u8 2, .int .u8 29, .int .u8 14, .int .u8 24, .int .u8 3, .int .u8 30, .int .u8 22, .int .u8 20, .int .u8 15, .int .u8 25, .int .u8 17, .int .u8 4, .int .u8 8, .int .u8 31, .int .u8 27, .int .u8 13, .int .u8 23, .int .u8 21, .int .u8 19, .int .u8 16, .int .u8 7, .int .u8 26, .int .u8 12, .int .u8 18, .int .u8 6, .int .u8 11, .int .u8 5, .int .u8 10, .int .u8 9])).modify 2 (fillRow #[.int .u8 0, .int .u8 1, .int .u8 56, .int .u8 2, .int .u8 57, .int .u8 49, .int .u8 28, .int .u8 3, .int .u8 61, .int .u8 58, .int .u8 42, .int .u8 50, .int .u8 38, .int .u8 29, .int .u8 17, .int .u8 4, .int .u8 62, .int .u8 47, .int .u8 59, .int .u8 36, .int .u8 45, .int .u8 43, .int .u8 51, .int .u8 22, .int .u8 53, .int .u8 39, .int .u8 33, .int .u8 30, .int .u8 24, .int .u8 18, .int .u8 12, .int .u8 5, .int .u8 63, .int .u8 55, .int .u8 48, .int .u8 27, .int .u8 60, .int .u8 41, .int .u8 37, .int .u8 16, .int .u8 46, .int .u8 35, .int .u8 44, .int .u8 21, .int .u8 52, .int .u8 32, .int .u8 23, .int .u8 11, .int .u8 54, .int .u8 26, .int .u8 40, .int .u8 15, .int .u8 34, .int .u8 20, .int .u8 31, .int .u8 10, .int .u8 25, .int .u8 14, .int .u8 19, .int .u8 9, .int .u8 13, .int .u8 8, .int .u8 7, .int .u8 6]) }
end Go.Proofs.YtkhpajneinmmiaaGreatDoor
