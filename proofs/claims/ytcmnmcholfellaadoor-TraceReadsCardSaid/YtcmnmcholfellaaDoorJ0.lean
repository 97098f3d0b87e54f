/-
  From a walk to the law's statement: arguments opened, the table that FormatInt reads, the law's end.
-/
import Derived.Test.YtcmnmcholfellaaDoorCards
import Derived.Test.YtcmnmcholfellaaDoorTie
import Derived.Test.YtcmnmcholfellaaDoorH1
import Derived.ProofKit
import Derived.OpenShut
import Derived.Carry
import Derived.Deep.Slices
import Derived.Deep.Fields
import Derived.Deep.DeepHandedRow
import Derived.Lib.LaidTab
namespace Go.Proofs.YtcmnmcholfellaaDoor
open Go.ChangeShapes Go.WideShapes Go.ChangeAt Go.RowKit Go.Deep
set_option maxRecDepth 100000

theorem own : ownKnob Tryd.prog.godebug = none := by kernel_rfl
theorem laidOut : laidOutB Tryd.prog = true := by kernel_rfl

section
variable {H : Type} {enc : TypeId × Value → H}

/-- The parameters' types are such that a reading stays where memory stays. -/
def Stays (ts : List TypeId) : Prop := ∀ t ∈ ts, Tryd.prog.readableRec t = true ∧ t < Tryd.prog.types.size

theorem trodAll_stays {W W' : World} (hb : Below W.heap.size W W') (sp : Nat → Bool) : ∀ (ts : List TypeId) (vs : List Value) (ds : List (DataW H)) (ps : List MemPlace),
    Stays ts → DataW.TrodAll enc Tryd.prog W 0 (fun _ => true) true ts vs ds ps → (∀ p ∈ ps, p.block < W.heap.size) → (∀ p ∈ ps, sp p.block = true) → DataW.TrodAll enc Tryd.prog W' 0 sp true ts vs ds ps
  | [], [], [], ps, _, h, _, _ => h
  | t :: ts, v :: vs, d :: ds, ps, hs, h, hlt, hsp => by
    obtain ⟨p, q, h1, h2, rfl⟩ := h
    have hs' : (Tryd.prog.readableRec t = true ∧ t < Tryd.prog.types.size) ∧ Stays ts := ⟨hs t (List.mem_cons_self ..), fun u hu => hs u (List.mem_cons_of_mem _ hu)⟩
    refine ⟨p, q, WideElems.Trod_stays laidOut hs'.1.1 hs'.1.2 h1 (fun x hx => hb.same (hlt x (List.mem_append_left _ hx))) (fun x hx => hsp x (List.mem_append_left _ hx)), trodAll_stays hb sp ts vs ds q hs'.2 h2 (fun x hx => hlt x (List.mem_append_right _ hx)) (fun x hx => hsp x (List.mem_append_right _ hx)), rfl⟩
  | [], [], _ :: _, _, _, h, _, _ => by cases h
  | [], _ :: _, _, _, _, h, _, _ => by cases h
  | _ :: _, [], _, _, _, h, _, _ => by cases h
  | _ :: _, _ :: _, [], _, _, h, _, _ => by cases h

/-- The end of a law: it has returned true, and memory has only grown. -/
theorem law_post {f : Func} {s : ChangeSpec} {W W' : World} {args : Array Value} {ds gs : List (DataW H)} {before : List MemPlace} (hv : s.vars = []) (hrt : f.resultTypes = #[4])
    (hfn : (s.fn H ds).results = [.lit (.bool true)] ∧ (s.fn H ds).args = ds ∧ (s.fn H ds).vars = []) (hst : Stays f.params.toList)
    (hW : DataW.Whole enc Tryd.prog f.params.toList s.vars false W args.toList ds gs before) (hb : Below W.heap.size W W') :
    s.post enc Tryd.prog f false true false false W args (.bool true) W' := by
  have hlt : ∀ p ∈ before, p.block < W.heap.size := fun p hp => hW.lt p hp
  have hW0 := hW
  obtain ⟨p, q, h1, h2, rfl, h4, h5⟩ := hW
  rw [hv] at h2
  obtain ⟨rfl, rfl⟩ := trodVars_none h2
  have hold : ∀ x ∈ p ++ [], (fun b => decide (b < W.heap.size)) x.block = true := fun x hx => by simpa using hlt x hx
  have hres : ∀ (b : Nat) (sp : Nat → Bool) (hd : Bool), DataW.TrodAll enc Tryd.prog W' b sp hd f.resultTypes.toList ((Value.bool true).resultList f.resultTypes.size) (s.fn H (ds ++ [])).results [] := fun b sp hd => by
    rw [List.append_nil, hfn.1, hrt]
    exact trodAll_cons_mk (shut_bool Tryd.underlying4 _) trodAll_mk0
  have hargs : ∀ sp : Nat → Bool, (∀ x ∈ p ++ [], sp x.block = true) → DataW.TrodAll enc Tryd.prog W' 0 sp true f.params.toList args.toList (s.fn H (ds ++ [])).args p := fun sp hsp => by
    rw [List.append_nil, hfn.2.1]
    exact trodAll_stays hb sp _ _ _ _ hst h1 (fun x hx => hlt x (List.mem_append_left _ hx)) (fun x hx => hsp x (List.mem_append_left _ hx))
  have hvars : ∀ sp : Nat → Bool, DataW.TrodVars enc Tryd.prog W' sp s.vars (s.fn H (ds ++ [])).vars [] := fun sp => by
    rw [List.append_nil, hfn.2.2, hv]; rfl
  refine ⟨ds, [], p ++ [], [], p, [], hW0, hres _ _ _, hargs _ hold, hvars _, World.keptBut_mono (fun x hx => ⟨hx, Or.inr (List.mem_append.1 hx)⟩) (hb.frame (· ∈ p ++ [])), fun _ => ?_⟩
  refine ⟨ok_one hrt rfl (okWide_bool_mk Tryd.underlying4 _), _, _, ([] ++ p) ++ [], ⟨[] ++ p, [], trodAll_append (hargs _ (fun _ _ => rfl)) (hres _ _ _), hvars _, rfl, ?_, ?_⟩, ?_⟩
  · intro b off hp
    have hin : MemPlace.cell b off ∈ p ++ [] := by simpa using hp
    rw [hb.frozen (hlt _ hin)]
    exact h4 b off hin
  · intro ha; cases ha
  · intro x hx _
    simpa using hx

/-- One point out of memory. -/
theorem open_pt {W : World} {base : Nat} {sp : Nat → Bool} {n : Nat} {cs : List Value} {x : DataW H × List MemPlace} (h : DataW.trod enc Tryd.prog W base sp true n 23 cs = some x) : ∃ p : Pt, cs = p.cs ∧ p.Fits := by
  obtain ⟨xs, m, _, _, hlen, hxl, hf⟩ := DataW.trod_struct Tryd.underlying23 h
  have hc : Tryd.prog.cellsOf 23 = 11 := by kernel_rfl
  have hc2 : Tryd.prog.cellsOf 2 = 1 := by kernel_rfl
  have hc3 : Tryd.prog.cellsOf 3 = 1 := by kernel_rfl
  rw [hc] at hlen
  simp only [List.size_toArray, List.length_cons, List.length_nil] at hxl
  have key : ∀ (i : Nat) (f : Field) (hi : i < 11), (Tryd.prog.fieldsOf 23)[i]? = some f → f.offset = i ∧ (f.type = 2 ∨ f.type = 3) → ∃ z : Int, cs[i]? = some (.int .i64 z) ∧ In64 z := by
    intro i f hi hfi ⟨ho, hty⟩
    have h1 := hf i f (by unfold Program.fieldsOf at hfi; rw [Tryd.underlying23] at hfi; exact hfi)
    have hx : xs[i]? = some (xs[i]'(by omega)) := List.getElem?_eq_getElem (by omega)
    have hk : Tryd.prog.cellsOf f.type = 1 := by rcases hty with e | e <;> rw [e] <;> assumption
    have hu : Tryd.prog.underlying f.type = some (.int .i64) := by rcases hty with e | e <;> rw [e]; exact Tryd.underlying2; exact Tryd.underlying3
    rw [hx, ho, hk] at h1
    obtain ⟨z, hz, _, hwf⟩ := DataW.trod_int hu h1
    refine ⟨z, ?_, ?_⟩
    · have hd : (cs.drop i).take 1 = [cs[i]'(by omega)] := by
        rw [List.drop_eq_getElem_cons (by omega)]; rfl
      rw [hd] at hz
      injection hz with hz _
      rw [List.getElem?_eq_getElem (by omega), hz]
    · simpa [Lit.wf, IntKind.min, IntKind.max, IntKind.signed, IntKind.bits, In64] using hwf
  have hfs := Tryd.underlying23
  have get : ∀ i, i < 11 → ∃ z : Int, cs[i]? = some (.int .i64 z) ∧ In64 z := by
    intro i hi
    have hh : i = 0 ∨ i = 1 ∨ i = 2 ∨ i = 3 ∨ i = 4 ∨ i = 5 ∨ i = 6 ∨ i = 7 ∨ i = 8 ∨ i = 9 ∨ i = 10 := by omega
    have hF : Tryd.prog.fieldsOf 23 = (match Tryd.prog.underlying 23 with | some (.struct fs) => fs | _ => #[]) := rfl
    rw [hfs] at hF
    rcases hh with rfl | rfl | rfl | rfl | rfl | rfl | rfl | rfl | rfl | rfl | rfl
    all_goals exact key _ _ (by omega) (by rw [hF]; rfl) ⟨rfl, by first | exact .inl rfl | exact .inr rfl⟩
  obtain ⟨z0, e0, f0⟩ := get 0 (by omega)
  obtain ⟨z1, e1, f1⟩ := get 1 (by omega)
  obtain ⟨z2, e2, f2⟩ := get 2 (by omega)
  obtain ⟨z3, e3, f3⟩ := get 3 (by omega)
  obtain ⟨z4, e4, f4⟩ := get 4 (by omega)
  obtain ⟨z5, e5, f5⟩ := get 5 (by omega)
  obtain ⟨z6, e6, f6⟩ := get 6 (by omega)
  obtain ⟨z7, e7, f7⟩ := get 7 (by omega)
  obtain ⟨z8, e8, f8⟩ := get 8 (by omega)
  obtain ⟨z9, e9, f9⟩ := get 9 (by omega)
  obtain ⟨z10, e10, f10⟩ := get 10 (by omega)
  refine ⟨⟨z0, z1, z2, z3, z4, z5, z6, z7, z8, z9, z10⟩, ?_, ⟨f0, f1, f2, f3, f4, f5, f6, f7, f8, f9, f10⟩⟩
  clear get key hf h
  match cs, hlen, e0, e1, e2, e3, e4, e5, e6, e7, e8, e9, e10 with
  | [a0, a1, a2, a3, a4, a5, a6, a7, a8, a9, a10], _, e0, e1, e2, e3, e4, e5, e6, e7, e8, e9, e10 =>
    obtain rfl := Option.some.inj e0
    obtain rfl := Option.some.inj e1
    obtain rfl := Option.some.inj e2
    obtain rfl := Option.some.inj e3
    obtain rfl := Option.some.inj e4
    obtain rfl := Option.some.inj e5
    obtain rfl := Option.some.inj e6
    obtain rfl := Option.some.inj e7
    obtain rfl := Option.some.inj e8
    obtain rfl := Option.some.inj e9
    obtain rfl := Option.some.inj e10
    rfl

/-- A slice of points that came in. -/
theorem open_pts {W : World} {r : Reach} {b0 : Nat} {v : Value} {d : DataW H} {p : List MemPlace} (hv : Value.okWide Tryd.prog W r b0 27 v) (h : DataW.Trod enc Tryd.prog W 0 (fun _ => true) true 27 v d p) :
    ∃ (A : Option Addr) (c : Nat) (l : List Pt), v = .slice A l.length c ∧ PtsR W A l ∧ (∀ q ∈ l, q.Fits) ∧ l.length ≤ maxLen ∧ l.length ≤ c ∧ c ≤ maxLen := by
  obtain ⟨fuel, hf⟩ := h
  obtain ⟨A0, n0, c0, rfl⟩ := okWide_slice Tryd.underlying27 hv
  have hc : Tryd.prog.cellsOf 23 = 11 := by kernel_rfl
  rcases open_slice Tryd.underlying27 hf with ⟨hcs, _⟩ | ⟨a, len, cap, m, n, D, Pl, hcs, _, hlc, hcm, hm, _, hi⟩
  · have hcs' : ([.slice A0 n0 c0] : List Value) = [.slice none 0 0] := hcs
    injection hcs' with e _
    injection e with e1 e2 e3
    subst e1 e2 e3
    exact ⟨none, 0, [], rfl, PtsR.nil _ _, (fun q hq => absurd hq (List.not_mem_nil)), Nat.zero_le _, Nat.le_refl _, Nat.zero_le _⟩
  · have hcs' : ([.slice A0 n0 c0] : List Value) = [.slice (some a) len cap] := hcs
    injection hcs' with e _
    injection e with e1 e2 e3
    subst e1 e2 e3
    rw [hc] at hi
    have hlm : n0 ≤ m := by rw [hm]; simp only [if_true]; omega
    have cells : ∀ i, i < n0 → ∃ q : Pt, (∀ j, j < 11 → W.cell? ((a.add (i * 11)).add j) = q.cs[j]?) ∧ q.Fits := by
      intro i hlt
      obtain ⟨cs', hcell, ht⟩ := hi i (by omega)
      obtain ⟨q, rfl, hq⟩ := open_pt ht
      exact ⟨q, (World.cells?_some hcell).2.2, hq⟩
    have hex : ∀ i, ∃ q : Pt, i < n0 → ((∀ j, j < 11 → W.cell? ((a.add (i * 11)).add j) = q.cs[j]?) ∧ q.Fits) := fun i => by
      by_cases hlt : i < n0
      · obtain ⟨q, h⟩ := cells i hlt; exact ⟨q, fun _ => h⟩
      · exact ⟨default, fun h => absurd h hlt⟩
    obtain ⟨f, hff⟩ := Classical.skolem.1 hex
    have hlen : ((List.range n0).map f).length = n0 := by simp
    refine ⟨some a, c0, (List.range n0).map f, by rw [hlen], fun hne => ?_, fun q hq => ?_, by rw [hlen]; omega, by rw [hlen]; exact hlc, hcm⟩
    · have hpos : 0 < n0 := by
        rcases Nat.eq_zero_or_pos n0 with e | e
        · subst e; exact absurd rfl hne
        · exact e
      have hsp : a.spot = none := by
        have h0 := (hff 0 hpos).1 0 (by omega)
        have ea : (a.add (0 * 11)).add 0 = a := by simp [Addr.add]
        rw [ea] at h0
        cases hs : a.spot with
        | none => rfl
        | some x =>
          unfold World.cell? at h0
          rw [hs] at h0
          simp [Pt.cs] at h0
          split at h0 <;> cases h0
      obtain ⟨b, o, s⟩ := a
      simp only at hsp
      subst hsp
      refine ⟨b, o, rfl, fun k q hk => ?_⟩
      have hk' : k < n0 := by
        have := (List.getElem?_eq_some_iff.1 hk).1
        rwa [hlen] at this
      have hq : q = f k := by
        rw [List.getElem?_map, List.getElem?_range hk'] at hk
        exact (Option.some.inj hk).symm
      subst hq
      rw [ptIn_range]
      intro j v hj
      have hj' : j < 11 := by
        have := (List.getElem?_eq_some_iff.1 hj).1
        rwa [Pt.cs_length] at this
      have := (hff k hk').1 j hj'
      rw [Addr.add_mid, Addr.add_mid] at this
      rw [this, hj]
    · obtain ⟨i, hi, rfl⟩ := List.mem_map.1 hq
      exact (hff i (List.mem_range.1 hi)).2

/-- The table, out of the row's list. -/
theorem tab_of_laid {W : World} (h : laidMetH Tryd.prog [("math/bits.deBruijn32tab", Rows.laid_math_bits_deBruijn32tab), ("math/bits.deBruijn64tab", Rows.laid_math_bits_deBruijn64tab), ("internal/strconv.uint64pow10", Rows.laid_internal_strconv_uint64pow10)] W) : Tab W := by
  have h' : laidMet Tryd.prog [("math/bits.deBruijn32tab", Rows.laid_math_bits_deBruijn32tab), ("math/bits.deBruijn64tab", Rows.laid_math_bits_deBruijn64tab), ("internal/strconv.uint64pow10", Rows.laid_internal_strconv_uint64pow10)] W := h
  obtain ⟨ps, ⟨_, _, _, _, _, _, _, _, _, _, ⟨_, _, _, _, _, _, _, _, _, _, ⟨g, t, cs, fuel, p, q, hg, ht, hvar, hd, _, _⟩, _⟩, _⟩, _⟩ := h'
  have hg1 : Tryd.prog.globalNamed "internal/strconv.uint64pow10" = some 1 := by kernel_rfl
  have ht1 : (Tryd.prog.globals[1]?).map (·.type) = some 147 := by kernel_rfl
  obtain rfl := Option.some.inj (hg1.symm.trans hg)
  obtain rfl := Option.some.inj (ht1.symm.trans ht)
  unfold Tab Lib.TabIs
  rw [hvar, ← Lib.cells_of_tab Tryd.underlying147 Tryd.underlying123 (by kernel_rfl) (by kernel_rfl) hd]
end
end Go.Proofs.YtcmnmcholfellaaDoor
