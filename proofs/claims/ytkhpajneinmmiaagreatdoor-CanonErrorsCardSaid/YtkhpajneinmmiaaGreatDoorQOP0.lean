/-
  Roots that came in, opened.
-/
import Derived.Test.YtkhpajneinmmiaaGreatDoorQDM
import Derived.OpenShut
import Derived.Carry
import Derived.Deep.Slices
import Derived.Deep.Fields
namespace Go.Proofs.YtkhpajneinmmiaaGreatDoor
open Go.ChangeShapes Go.WideShapes Go.ChangeAt Go.RowKit Go.Deep
set_option maxRecDepth 100000

section
variable {H : Type} {enc : TypeId × Value → H} {W : World}

/-- Nothing in it is too large. -/
def Sz (t : TypeId) (d : DataW H) : Prop := ∀ w ∈ d.weights Tryz.prog t, w ≤ reachBytes
theorem sz_all {e : TypeId} : ∀ {l : List (DataW H)}, (∀ w ∈ DataW.weightsAll Tryz.prog e l, w ≤ reachBytes) → ∀ d ∈ l, Sz e d
  | [], _, _, h => by cases h
  | x :: l, hw, d, hd => by
    rw [DataW.weightsAll] at hw
    rcases List.mem_cons.1 hd with e | e
    · subst e; exact fun w h => hw w (List.mem_append_left _ h)
    · exact sz_all (fun w h => hw w (List.mem_append_right _ h)) d e
theorem spot_none {a : Addr} {v : Value} (h : W.cell? a = some v) : a.spot = none := by
  cases hs : a.spot with
  | none => rfl
  | some x =>
    unfold World.cell? at h
    rw [hs] at h
    simp at h
    split at h <;> cases h

theorem open_rows {α : Type} [Inhabited α] {T E : TypeId} {k bytes : Nat} (hu : Tryz.prog.underlying T = some (.slice E)) (hk : Tryz.prog.cellsOf E = k) (hby : Tryz.prog.bytesOf E = bytes) (hk0 : 0 < k) {at_ : α → List Value → Prop} (hlen : ∀ y cs, at_ y cs → cs.length = k)
    {n : Nat} {cs : List Value} {d : DataW H} {ps : List MemPlace} (h : DataW.trod enc Tryz.prog W 0 (fun _ => true) true n T cs = some (d, ps)) (hz : Sz T d)
    (hel : ∀ d' : DataW H, SizeOf.sizeOf d' < SizeOf.sizeOf d → ∀ n' cs' ps', DataW.trod enc Tryz.prog W 0 (fun _ => true) true n' E cs' = some (d', ps') → Sz E d' → ∃ y, at_ y cs') :
    ∃ (A : Option Addr) (c : Nat) (l : List α), cs = [.slice A l.length c] ∧ RowsR k bytes at_ W A l := by
  rcases open_slice hu h with ⟨hcs, _⟩ | ⟨a, len, cap, m, n', D, Pl, hcs, _, hlc, hcm, hm, hx, hi⟩
  · exact ⟨none, 0, [], hcs, RowsR.nil _ _ _ _ _⟩
  · have hd : d = .slice ((List.range len).map D) ((List.range (m - len)).map fun j => D (len + j)) := by
      have := congrArg Prod.fst hx; exact this
    rw [hk] at hi
    have hlm : len ≤ m := by rw [hm]; simp only [if_true]; omega
    have hw : ∀ w ∈ (((List.range len).map D).length + ((List.range (m - len)).map fun j => D (len + j)).length) * bytes :: (DataW.weightsAll Tryz.prog E ((List.range len).map D) ++ DataW.weightsAll Tryz.prog E ((List.range (m - len)).map fun j => D (len + j))), w ≤ reachBytes := by
      intro w hw
      refine hz w ?_
      rw [hd, DataW.weights, hu]
      rw [← hby] at hw
      exact hw
    have hbig := hw _ List.mem_cons_self
    have hall := sz_all (fun w h => hw w (List.mem_cons_of_mem _ (List.mem_append_left _ h)))
    have hLim : Lim bytes len := by
      unfold Lim
      have h1 : len * bytes ≤ (((List.range len).map D).length + ((List.range (m - len)).map fun j => D (len + j)).length) * bytes := Nat.mul_le_mul_right _ (by simp)
      have h2 : reachBytes ≤ 140737488355328 := by decide
      omega
    have each : ∀ i, ∃ y : α, i < len → ∃ cs', at_ y cs' ∧ ∀ j, j < k → W.cell? ((a.add (i * k)).add j) = cs'[j]? := fun i => by
      by_cases hl : i < len
      · obtain ⟨cs', hcell, ht⟩ := hi i (by omega)
        have hmem : D i ∈ (List.range len).map D := List.mem_map.2 ⟨i, List.mem_range.2 hl, rfl⟩
        obtain ⟨y, hy⟩ := hel (D i) (by rw [hd]; have := List.sizeOf_lt_of_mem hmem; simp only [DataW.slice.sizeOf_spec]; omega) n' cs' (Pl i) ht (hall _ hmem)
        exact ⟨y, fun _ => ⟨cs', hy, (World.cells?_some hcell).2.2⟩⟩
      · exact ⟨default, fun h => absurd h hl⟩
    obtain ⟨f, hf⟩ := Classical.skolem.1 each
    have hlenr : ((List.range len).map f).length = len := by simp
    refine ⟨some a, cap, (List.range len).map f, by rw [hlenr]; exact hcs, by rw [hlenr]; exact hLim, fun hne => ?_⟩
    have hpos : 0 < len := by
      rcases Nat.eq_zero_or_pos len with e | e
      · subst e; exact absurd rfl hne
      · exact e
    have hsp : a.spot = none := by
      obtain ⟨cs0, h0, h1⟩ := hf 0 hpos
      have h2 := h1 0 hk0
      have hl := hlen _ _ h0
      rw [List.getElem?_eq_getElem (by omega)] at h2
      have ea : (a.add (0 * k)).add 0 = a := by simp [Addr.add]
      rw [ea] at h2
      exact spot_none h2
    obtain ⟨b, o, s⟩ := a
    simp only at hsp
    subst hsp
    refine ⟨b, o, rfl, fun i y hy => ?_⟩
    have hi' : i < len := by
      have := (List.getElem?_eq_some_iff.1 hy).1
      rwa [hlenr] at this
    have hyf : y = f i := by
      rw [List.getElem?_map, List.getElem?_range hi'] at hy
      exact (Option.some.inj hy).symm
    subst hyf
    obtain ⟨cs', h1, h2⟩ := hf i hi'
    refine ⟨cs', h1, fun j u hj => ?_⟩
    have hjk : j < k := by rw [← hlen _ _ h1]; exact (List.getElem?_eq_some_iff.1 hj).1
    have := h2 j hjk
    rw [Addr.add_mid, Addr.add_mid] at this
    rw [this, hj]

theorem sok_of {s : ByteArray} (h : s.size ≤ maxLen) : SOk s := by unfold maxLen at h; unfold SOk; omega

/-- Raws, symbols. -/
theorem open_raw {n : Nat} {cs : List Value} {d : DataW H} {ps : List MemPlace} (h : DataW.trod enc Tryz.prog W 0 (fun _ => true) true n 151 cs = some (d, ps)) : ∃ r : RawD, r.At cs := by
  obtain ⟨xs, m, _, _, hlen, hxl, hf⟩ := DataW.trod_struct Tryz.underlying151 h
  have hc : Tryz.prog.cellsOf 151 = 2 := by kernel_rfl
  have hci : Tryz.prog.cellsOf 3 = 1 := by kernel_rfl
  have hcs : Tryz.prog.cellsOf 9 = 1 := by kernel_rfl
  rw [hc] at hlen
  simp only [List.size_toArray, List.length_cons, List.length_nil] at hxl
  match cs, hlen, xs, hxl with
  | [c0, c1], _, [x0, x1], _ =>
    have h0 : DataW.trod enc Tryz.prog W 0 (fun _ => true) true m 3 (([c0, c1].drop 0).take (Tryz.prog.cellsOf 3)) = some x0 := hf 0 _ rfl
    rw [hci] at h0
    have h1 : DataW.trod enc Tryz.prog W 0 (fun _ => true) true m 9 (([c0, c1].drop 1).take (Tryz.prog.cellsOf 9)) = some x1 := hf 1 _ rfl
    rw [hcs] at h1
    obtain ⟨z, hz, _, _⟩ := DataW.trod_int Tryz.underlying3 h0
    obtain ⟨s, hs, _, hsz⟩ := DataW.trod_string Tryz.underlying9 h1
    injection (show [c0] = [Value.int .i64 z] from hz) with gz _
    injection (show [c1] = [Value.string s] from hs) with gs _
    subst gz; subst gs
    exact ⟨⟨z, s⟩, sok_of hsz, rfl⟩
theorem open_sym {n : Nat} {cs : List Value} {d : DataW H} {ps : List MemPlace} (h : DataW.trod enc Tryz.prog W 0 (fun _ => true) true n 75 cs = some (d, ps)) : ∃ r : SymD, r.At cs := by
  obtain ⟨xs, m, _, _, hlen, hxl, hf⟩ := DataW.trod_struct Tryz.underlying75 h
  have hc : Tryz.prog.cellsOf 75 = 2 := by kernel_rfl
  have hci : Tryz.prog.cellsOf 3 = 1 := by kernel_rfl
  have hcs : Tryz.prog.cellsOf 9 = 1 := by kernel_rfl
  rw [hc] at hlen
  simp only [List.size_toArray, List.length_cons, List.length_nil] at hxl
  match cs, hlen, xs, hxl with
  | [c0, c1], _, [x0, x1], _ =>
    have h0 : DataW.trod enc Tryz.prog W 0 (fun _ => true) true m 3 (([c0, c1].drop 0).take (Tryz.prog.cellsOf 3)) = some x0 := hf 0 _ rfl
    rw [hci] at h0
    have h1 : DataW.trod enc Tryz.prog W 0 (fun _ => true) true m 9 (([c0, c1].drop 1).take (Tryz.prog.cellsOf 9)) = some x1 := hf 1 _ rfl
    rw [hcs] at h1
    obtain ⟨z, hz, _, _⟩ := DataW.trod_int Tryz.underlying3 h0
    obtain ⟨s, hs, _, hsz⟩ := DataW.trod_string Tryz.underlying9 h1
    injection (show [c0] = [Value.int .i64 z] from hz) with gz _
    injection (show [c1] = [Value.string s] from hs) with gs _
    subst gz; subst gs
    exact ⟨⟨z, s⟩, sok_of hsz, rfl⟩

instance : Inhabited RawD := ⟨⟨0, ⟨#[]⟩⟩⟩
instance : Inhabited SymD := ⟨⟨0, ⟨#[]⟩⟩⟩
instance : Inhabited Val := ⟨.mk 0 false 0 ⟨#[]⟩ 0 [] [] []⟩
instance : Inhabited MemD := ⟨⟨0, ⟨#[]⟩, 0, false, false, default⟩⟩
instance : Inhabited TyD := ⟨⟨0, ⟨#[]⟩, 0, 0, 0, [], [], 0, 0, false⟩⟩
theorem sz_parts {t : TypeId} {fs : Array Field} {l : List (DataW H)} (hu : Tryz.prog.underlying t = some (.struct fs)) (hz : Sz t (.agg l)) : ∀ w ∈ DataW.weightsEach Tryz.prog (fs.toList.map (·.type)) l, w ≤ reachBytes := by
  intro w hw
  refine hz w ?_
  rw [DataW.weights, hu]; exact hw
theorem sz_each : ∀ {ts : List TypeId} {l : List (DataW H)}, (∀ w ∈ DataW.weightsEach Tryz.prog ts l, w ≤ reachBytes) → ∀ (i : Nat) t d, ts[i]? = some t → l[i]? = some d → Sz t d
  | [], _, _, _, _, _, h, _ => by simp at h
  | _ :: _, [], _, _, _, _, _, h => by simp at h
  | t0 :: ts, d0 :: l, hw, i, t, d, ht, hd => by
    rw [DataW.weightsEach] at hw
    cases i with
    | zero =>
      obtain rfl : t0 = t := by simpa using ht
      obtain rfl : d0 = d := by simpa using hd
      exact fun w h => hw w (List.mem_append_left _ h)
    | succ i => exact sz_each (fun w h => hw w (List.mem_append_right _ h)) i t d (by simpa using ht) (by simpa using hd)
theorem agg_lt {l : List (DataW H)} {d : DataW H} (h : d ∈ l) : SizeOf.sizeOf d < SizeOf.sizeOf (DataW.agg l) := by
  have := List.sizeOf_lt_of_mem h
  simp only [DataW.agg.sizeOf_spec]; omega

theorem open_val : ∀ (k : Nat) (d : DataW H), SizeOf.sizeOf d ≤ k → ∀ (n : Nat) (cs : List Value) (ps : List MemPlace), DataW.trod enc Tryz.prog W 0 (fun _ => true) true n 81 cs = some (d, ps) → Sz 81 d → ∃ x : Val, x.At W cs := by
  intro k
  induction k with
  | zero => intro d hd n cs ps h hz; exact absurd hd (by cases d <;> simp)
  | succ k ih =>
    intro d hd n cs ps h hz
    obtain ⟨xs, m, _, hx, hlen, hxl, hf⟩ := DataW.trod_struct Tryz.underlying81 h
    have hdd : d = .agg (xs.map (·.1)) := congrArg Prod.fst hx
    subst hdd
    have hc : Tryz.prog.cellsOf 81 = 8 := by kernel_rfl
    have hci : Tryz.prog.cellsOf 3 = 1 := by kernel_rfl
    have hci64 : Tryz.prog.cellsOf 2 = 1 := by kernel_rfl
    have hcb : Tryz.prog.cellsOf 4 = 1 := by kernel_rfl
    have hcs : Tryz.prog.cellsOf 9 = 1 := by kernel_rfl
    have hcv : Tryz.prog.cellsOf 78 = 1 := by kernel_rfl
    have hcr : Tryz.prog.cellsOf 79 = 1 := by kernel_rfl
    have hsz := sz_parts Tryz.underlying81 hz
    rw [hc] at hlen
    simp only [List.size_toArray, List.length_cons, List.length_nil] at hxl
    match cs, hlen, xs, hxl with
    | [c0, c1, c2, c3, c4, c5, c6, c7], _, [x0, x1, x2, x3, x4, x5, x6, x7], _ =>
      have h0 : DataW.trod enc Tryz.prog W 0 (fun _ => true) true m 3 (([c0, c1, c2, c3, c4, c5, c6, c7].drop 0).take (Tryz.prog.cellsOf 3)) = some x0 := hf 0 _ rfl
      rw [hci] at h0
      have h1 : DataW.trod enc Tryz.prog W 0 (fun _ => true) true m 4 (([c0, c1, c2, c3, c4, c5, c6, c7].drop 1).take (Tryz.prog.cellsOf 4)) = some x1 := hf 1 _ rfl
      rw [hcb] at h1
      have h2 : DataW.trod enc Tryz.prog W 0 (fun _ => true) true m 2 (([c0, c1, c2, c3, c4, c5, c6, c7].drop 2).take (Tryz.prog.cellsOf 2)) = some x2 := hf 2 _ rfl
      rw [hci64] at h2
      have h3 : DataW.trod enc Tryz.prog W 0 (fun _ => true) true m 9 (([c0, c1, c2, c3, c4, c5, c6, c7].drop 3).take (Tryz.prog.cellsOf 9)) = some x3 := hf 3 _ rfl
      rw [hcs] at h3
      have h4 : DataW.trod enc Tryz.prog W 0 (fun _ => true) true m 3 (([c0, c1, c2, c3, c4, c5, c6, c7].drop 4).take (Tryz.prog.cellsOf 3)) = some x4 := hf 4 _ rfl
      rw [hci] at h4
      have h5 : DataW.trod enc Tryz.prog W 0 (fun _ => true) true m 78 (([c0, c1, c2, c3, c4, c5, c6, c7].drop 5).take (Tryz.prog.cellsOf 78)) = some x5 := hf 5 _ rfl
      rw [hcv] at h5
      have h6 : DataW.trod enc Tryz.prog W 0 (fun _ => true) true m 78 (([c0, c1, c2, c3, c4, c5, c6, c7].drop 6).take (Tryz.prog.cellsOf 78)) = some x6 := hf 6 _ rfl
      rw [hcv] at h6
      have h7 : DataW.trod enc Tryz.prog W 0 (fun _ => true) true m 79 (([c0, c1, c2, c3, c4, c5, c6, c7].drop 7).take (Tryz.prog.cellsOf 79)) = some x7 := hf 7 _ rfl
      rw [hcr] at h7
      obtain ⟨z0, e0, _, _⟩ := DataW.trod_int Tryz.underlying3 h0
      obtain ⟨z1, e1, _⟩ := DataW.trod_bool Tryz.underlying4 h1
      obtain ⟨z2, e2, _, _⟩ := DataW.trod_int Tryz.underlying2 h2
      obtain ⟨z3, e3, _, s3⟩ := DataW.trod_string Tryz.underlying9 h3
      obtain ⟨z4, e4, _, _⟩ := DataW.trod_int Tryz.underlying3 h4
      have hl5 : SizeOf.sizeOf x5.1 < SizeOf.sizeOf (DataW.agg ([x0, x1, x2, x3, x4, x5, x6, x7].map (·.1))) := agg_lt (by simp)
      have hl6 : SizeOf.sizeOf x6.1 < SizeOf.sizeOf (DataW.agg ([x0, x1, x2, x3, x4, x5, x6, x7].map (·.1))) := agg_lt (by simp)
      obtain ⟨A1, c1', l1, e5, r5⟩ := open_rows (α := Val) (bytes := 120) Tryz.underlying78 hc (by kernel_rfl) (by omega) (at_ := fun x cs => Val.At W x cs) (fun y cs hy => by obtain ⟨A1, c1, A2, c2, A3, c3, rfl, _⟩ := Val.at_iff.1 hy; rfl) (d := x5.1) (ps := x5.2) h5 (sz_each hsz 5 _ _ rfl rfl) (fun d' hd' n' cs' ps' ht hz' => ih d' (by omega) n' cs' ps' ht hz')
      obtain ⟨A2, c2', l2, e6, r6⟩ := open_rows (α := Val) (bytes := 120) Tryz.underlying78 hc (by kernel_rfl) (by omega) (at_ := fun x cs => Val.At W x cs) (fun y cs hy => by obtain ⟨A1, c1, A2, c2, A3, c3, rfl, _⟩ := Val.at_iff.1 hy; rfl) (d := x6.1) (ps := x6.2) h6 (sz_each hsz 6 _ _ rfl rfl) (fun d' hd' n' cs' ps' ht hz' => ih d' (by omega) n' cs' ps' ht hz')
      obtain ⟨A3, c3', l3, e7, r7⟩ := open_rows (α := RawD) (bytes := 24) Tryz.underlying79 (show Tryz.prog.cellsOf 151 = 2 by kernel_rfl) (by kernel_rfl) (by omega) (at_ := fun x cs => RawD.At x cs) (fun y cs hy => by rw [hy.2]; rfl) (d := x7.1) (ps := x7.2) h7 (sz_each hsz 7 _ _ rfl rfl) (fun d' _ n' cs' ps' ht _ => open_raw ht)
      injection (show [c0] = [Value.int .i64 z0] from e0) with g0 _
      injection (show [c1] = [Value.bool z1] from e1) with g1 _
      injection (show [c2] = [Value.int .i64 z2] from e2) with g2 _
      injection (show [c3] = [Value.string z3] from e3) with g3 _
      injection (show [c4] = [Value.int .i64 z4] from e4) with g4 _
      injection (show [c5] = [Value.slice A1 l1.length c1'] from e5) with g5 _
      injection (show [c6] = [Value.slice A2 l2.length c2'] from e6) with g6 _
      injection (show [c7] = [Value.slice A3 l3.length c3'] from e7) with g7 _
      subst g0 g1 g2 g3 g4 g5 g6 g7
      exact ⟨.mk z0 z1 z2 z3 z4 l1 l2 l3, Val.at_iff.2 ⟨A1, c1', A2, c2', A3, c3', rfl, sok_of s3, r5, r6, r7⟩⟩

theorem open_mem {n : Nat} {cs : List Value} {d : DataW H} {ps : List MemPlace} (h : DataW.trod enc Tryz.prog W 0 (fun _ => true) true n 83 cs = some (d, ps)) (hz : Sz 83 d) : ∃ x : MemD, x.At W cs := by
  obtain ⟨xs, m, _, hx, hlen, hxl, hf⟩ := DataW.trod_struct Tryz.underlying83 h
  have hdd : d = .agg (xs.map (·.1)) := congrArg Prod.fst hx
  subst hdd
  have hc : Tryz.prog.cellsOf 83 = 13 := by kernel_rfl
  have hci : Tryz.prog.cellsOf 3 = 1 := by kernel_rfl
  have hcb : Tryz.prog.cellsOf 4 = 1 := by kernel_rfl
  have hcs : Tryz.prog.cellsOf 9 = 1 := by kernel_rfl
  have hcV : Tryz.prog.cellsOf 81 = 8 := by kernel_rfl
  have hsz := sz_parts Tryz.underlying83 hz
  rw [hc] at hlen
  simp only [List.size_toArray, List.length_cons, List.length_nil] at hxl
  match cs, hlen, xs, hxl with
  | [c0, c1, c2, c3, c4, c5, c6, c7, c8, c9, c10, c11, c12], _, [x0, x1, x2, x3, x4, x5], _ =>
    have h0 : DataW.trod enc Tryz.prog W 0 (fun _ => true) true m 3 (([c0, c1, c2, c3, c4, c5, c6, c7, c8, c9, c10, c11, c12].drop 0).take (Tryz.prog.cellsOf 3)) = some x0 := hf 0 _ rfl
    rw [hci] at h0
    have h1 : DataW.trod enc Tryz.prog W 0 (fun _ => true) true m 9 (([c0, c1, c2, c3, c4, c5, c6, c7, c8, c9, c10, c11, c12].drop 1).take (Tryz.prog.cellsOf 9)) = some x1 := hf 1 _ rfl
    rw [hcs] at h1
    have h2 : DataW.trod enc Tryz.prog W 0 (fun _ => true) true m 3 (([c0, c1, c2, c3, c4, c5, c6, c7, c8, c9, c10, c11, c12].drop 2).take (Tryz.prog.cellsOf 3)) = some x2 := hf 2 _ rfl
    rw [hci] at h2
    have h3 : DataW.trod enc Tryz.prog W 0 (fun _ => true) true m 4 (([c0, c1, c2, c3, c4, c5, c6, c7, c8, c9, c10, c11, c12].drop 3).take (Tryz.prog.cellsOf 4)) = some x3 := hf 3 _ rfl
    rw [hcb] at h3
    have h4 : DataW.trod enc Tryz.prog W 0 (fun _ => true) true m 4 (([c0, c1, c2, c3, c4, c5, c6, c7, c8, c9, c10, c11, c12].drop 4).take (Tryz.prog.cellsOf 4)) = some x4 := hf 4 _ rfl
    rw [hcb] at h4
    have h5 : DataW.trod enc Tryz.prog W 0 (fun _ => true) true m 81 (([c0, c1, c2, c3, c4, c5, c6, c7, c8, c9, c10, c11, c12].drop 5).take (Tryz.prog.cellsOf 81)) = some x5 := hf 5 _ rfl
    rw [hcV] at h5
    obtain ⟨z0, e0, _, _⟩ := DataW.trod_int Tryz.underlying3 h0
    obtain ⟨z1, e1, _, s1⟩ := DataW.trod_string Tryz.underlying9 h1
    obtain ⟨z2, e2, _, _⟩ := DataW.trod_int Tryz.underlying3 h2
    obtain ⟨z3, e3, _⟩ := DataW.trod_bool Tryz.underlying4 h3
    obtain ⟨z4, e4, _⟩ := DataW.trod_bool Tryz.underlying4 h4
    obtain ⟨v, hv⟩ := open_val _ x5.1 (Nat.le_refl _) m _ x5.2 h5 (sz_each hsz 5 _ _ rfl rfl)
    obtain ⟨A1, c1', A2, c2', A3, c3', e5, hr⟩ := Val.at_iff.1 hv
    injection (show [c0] = [Value.int .i64 z0] from e0) with g0 _
    injection (show [c1] = [Value.string z1] from e1) with g1 _
    injection (show [c2] = [Value.int .i64 z2] from e2) with g2 _
    injection (show [c3] = [Value.bool z3] from e3) with g3 _
    injection (show [c4] = [Value.bool z4] from e4) with g4 _
    have e5' : [c5, c6, c7, c8, c9, c10, c11, c12] = v.cs A1 c1' A2 c2' A3 c3' := e5
    simp only [Val.cs, List.cons.injEq, and_true] at e5'
    obtain ⟨k0, k1, k2, k3, k4, k5, k6, k7⟩ := e5'
    subst g0 g1 g2 g3 g4 k0 k1 k2 k3 k4 k5 k6 k7
    exact ⟨⟨z0, z1, z2, z3, z4, v⟩, A1, c1', A2, c2', A3, c3', rfl, sok_of s1, hr⟩
theorem open_ty {n : Nat} {cs : List Value} {d : DataW H} {ps : List MemPlace} (h : DataW.trod enc Tryz.prog W 0 (fun _ => true) true n 70 cs = some (d, ps)) (hz : Sz 70 d) : ∃ x : TyD, x.At W cs := by
  obtain ⟨xs, m, _, hx, hlen, hxl, hf⟩ := DataW.trod_struct Tryz.underlying70 h
  have hdd : d = .agg (xs.map (·.1)) := congrArg Prod.fst hx
  subst hdd
  have hc : Tryz.prog.cellsOf 70 = 10 := by kernel_rfl
  have hci : Tryz.prog.cellsOf 3 = 1 := by kernel_rfl
  have hci64 : Tryz.prog.cellsOf 2 = 1 := by kernel_rfl
  have hcb : Tryz.prog.cellsOf 4 = 1 := by kernel_rfl
  have hcs : Tryz.prog.cellsOf 9 = 1 := by kernel_rfl
  have hcy : Tryz.prog.cellsOf 67 = 1 := by kernel_rfl
  have hcm : Tryz.prog.cellsOf 68 = 1 := by kernel_rfl
  have hsz := sz_parts Tryz.underlying70 hz
  rw [hc] at hlen
  simp only [List.size_toArray, List.length_cons, List.length_nil] at hxl
  match cs, hlen, xs, hxl with
  | [c0, c1, c2, c3, c4, c5, c6, c7, c8, c9], _, [x0, x1, x2, x3, x4, x5, x6, x7, x8, x9], _ =>
    have h0 : DataW.trod enc Tryz.prog W 0 (fun _ => true) true m 3 (([c0, c1, c2, c3, c4, c5, c6, c7, c8, c9].drop 0).take (Tryz.prog.cellsOf 3)) = some x0 := hf 0 _ rfl
    rw [hci] at h0
    have h1 : DataW.trod enc Tryz.prog W 0 (fun _ => true) true m 9 (([c0, c1, c2, c3, c4, c5, c6, c7, c8, c9].drop 1).take (Tryz.prog.cellsOf 9)) = some x1 := hf 1 _ rfl
    rw [hcs] at h1
    have h2 : DataW.trod enc Tryz.prog W 0 (fun _ => true) true m 2 (([c0, c1, c2, c3, c4, c5, c6, c7, c8, c9].drop 2).take (Tryz.prog.cellsOf 2)) = some x2 := hf 2 _ rfl
    rw [hci64] at h2
    have h3 : DataW.trod enc Tryz.prog W 0 (fun _ => true) true m 2 (([c0, c1, c2, c3, c4, c5, c6, c7, c8, c9].drop 3).take (Tryz.prog.cellsOf 2)) = some x3 := hf 3 _ rfl
    rw [hci64] at h3
    have h4 : DataW.trod enc Tryz.prog W 0 (fun _ => true) true m 3 (([c0, c1, c2, c3, c4, c5, c6, c7, c8, c9].drop 4).take (Tryz.prog.cellsOf 3)) = some x4 := hf 4 _ rfl
    rw [hci] at h4
    have h5 : DataW.trod enc Tryz.prog W 0 (fun _ => true) true m 67 (([c0, c1, c2, c3, c4, c5, c6, c7, c8, c9].drop 5).take (Tryz.prog.cellsOf 67)) = some x5 := hf 5 _ rfl
    rw [hcy] at h5
    have h6 : DataW.trod enc Tryz.prog W 0 (fun _ => true) true m 68 (([c0, c1, c2, c3, c4, c5, c6, c7, c8, c9].drop 6).take (Tryz.prog.cellsOf 68)) = some x6 := hf 6 _ rfl
    rw [hcm] at h6
    have h7 : DataW.trod enc Tryz.prog W 0 (fun _ => true) true m 3 (([c0, c1, c2, c3, c4, c5, c6, c7, c8, c9].drop 7).take (Tryz.prog.cellsOf 3)) = some x7 := hf 7 _ rfl
    rw [hci] at h7
    have h8 : DataW.trod enc Tryz.prog W 0 (fun _ => true) true m 3 (([c0, c1, c2, c3, c4, c5, c6, c7, c8, c9].drop 8).take (Tryz.prog.cellsOf 3)) = some x8 := hf 8 _ rfl
    rw [hci] at h8
    have h9 : DataW.trod enc Tryz.prog W 0 (fun _ => true) true m 4 (([c0, c1, c2, c3, c4, c5, c6, c7, c8, c9].drop 9).take (Tryz.prog.cellsOf 4)) = some x9 := hf 9 _ rfl
    rw [hcb] at h9
    obtain ⟨z0, e0, _, _⟩ := DataW.trod_int Tryz.underlying3 h0
    obtain ⟨z1, e1, _, s1⟩ := DataW.trod_string Tryz.underlying9 h1
    obtain ⟨z2, e2, _, _⟩ := DataW.trod_int Tryz.underlying2 h2
    obtain ⟨z3, e3, _, _⟩ := DataW.trod_int Tryz.underlying2 h3
    obtain ⟨z4, e4, _, _⟩ := DataW.trod_int Tryz.underlying3 h4
    obtain ⟨z7, e7, _, _⟩ := DataW.trod_int Tryz.underlying3 h7
    obtain ⟨z8, e8, _, _⟩ := DataW.trod_int Tryz.underlying3 h8
    obtain ⟨z9, e9, _⟩ := DataW.trod_bool Tryz.underlying4 h9
    obtain ⟨A1, c1', l1, e5, r5⟩ := open_rows (α := SymD) (bytes := 24) Tryz.underlying67 (show Tryz.prog.cellsOf 75 = 2 by kernel_rfl) (by kernel_rfl) (by omega) (at_ := fun x cs => SymD.At x cs) (fun y cs hy => by rw [hy.2]; rfl) (d := x5.1) (ps := x5.2) h5 (sz_each hsz 5 _ _ rfl rfl) (fun d' _ n' cs' ps' ht _ => open_sym ht)
    obtain ⟨A2, c2', l2, e6, r6⟩ := open_rows (α := MemD) (bytes := 160) Tryz.underlying68 (show Tryz.prog.cellsOf 83 = 13 by kernel_rfl) (by kernel_rfl) (by omega) (at_ := fun x cs => MemD.At W x cs) (fun y cs hy => by obtain ⟨A1, c1, A2, c2, A3, c3, rfl, _⟩ := hy; rfl) (d := x6.1) (ps := x6.2) h6 (sz_each hsz 6 _ _ rfl rfl) (fun d' _ n' cs' ps' ht hz' => open_mem ht hz')
    injection (show [c0] = [Value.int .i64 z0] from e0) with g0 _
    injection (show [c1] = [Value.string z1] from e1) with g1 _
    injection (show [c2] = [Value.int .i64 z2] from e2) with g2 _
    injection (show [c3] = [Value.int .i64 z3] from e3) with g3 _
    injection (show [c4] = [Value.int .i64 z4] from e4) with g4 _
    injection (show [c5] = [Value.slice A1 l1.length c1'] from e5) with g5 _
    injection (show [c6] = [Value.slice A2 l2.length c2'] from e6) with g6 _
    injection (show [c7] = [Value.int .i64 z7] from e7) with g7 _
    injection (show [c8] = [Value.int .i64 z8] from e8) with g8 _
    injection (show [c9] = [Value.bool z9] from e9) with g9 _
    subst g0 g1 g2 g3 g4 g5 g6 g7 g8 g9
    exact ⟨⟨z0, z1, z2, z3, z4, l1, l2, z7, z8, z9⟩, A1, c1', A2, c2', rfl, sok_of s1, r5, r6⟩
end
end Go.Proofs.YtkhpajneinmmiaaGreatDoor
