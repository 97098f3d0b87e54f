/-
  Walks: slices.DeleteFunc with the closures of Filter and Between.
-/
import Derived.Test.YtcmnmcholfellaaDoorF1
import Derived.Test.YtcmnmcholfellaaDoorG1
namespace Go.Proofs.YtcmnmcholfellaaDoor
open Go.RowKit

theorem zero23 (w : World) : (zeroValue 23).run Tryd.prog w = .ok zPt w := by kernel_rfl

/-- Many zero cells. -/
def zeros (n : Nat) : List Value := (Builtin.zeroCells zPt.cells n).toList
theorem zeros_length (n : Nat) : (zeros n).length = n * 11 := by
  unfold zeros
  rw [Array.length_toList, size_zeroCells]; rfl
theorem zeros_one (n : Nat) : ∀ v ∈ zeros n, v.oneCell' = true := by
  intro v hv
  unfold zeros Builtin.zeroCells at hv
  simp [Value.cells] at hv
  obtain ⟨i, _, rfl⟩ := hv
  have h : i % 11 < 11 := Nat.mod_lt _ (by omega)
  generalize i % 11 = k at *
  have hh : k = 0 ∨ k = 1 ∨ k = 2 ∨ k = 3 ∨ k = 4 ∨ k = 5 ∨ k = 6 ∨ k = 7 ∨ k = 8 ∨ k = 9 ∨ k = 10 := by omega
  rcases hh with rfl | rfl | rfl | rfl | rfl | rfl | rfl | rfl | rfl | rfl | rfl <;> rfl

theorem run_clear_pts (w : World) (ty : TypeId) (b o n c : Nat) (hn : 0 < n) (ht : w.there b o (n * 11)) :
    (Builtin.clear_ #[27] ty #[.slice (some ⟨b, o, none⟩) n c]).run Tryd.prog w = .ok (.tuple #[]) (w.setCells b o (zeros n)) := by
  have hst := run_storeCells_cells (P := Tryd.prog) b o (zeros n) 0 w (fun j hj => by rw [zeros_length] at hj; exact (ht j hj).1) (fun j hj => by rw [zeros_length] at hj; exact (ht j hj).2) (zeros_one n)
  simp only [Nat.add_zero] at hst
  obtain ⟨m, rfl⟩ : ∃ m, n = m + 1 := ⟨n - 1, by omega⟩
  have hz := zero23
  unfold zeros at hst
  simp [Builtin.clear_, run_underlying Tryd.underlying27, hz, hst, zeros]

theorem wpList_clear_pts (w : World) {ops : Array Oper} {rest : List Oper} {op : Oper} {a : Act} {Q : Exit → Act → World → Prop} (hgd : op.guard = none) (x : Operand)
    (ho : op.op = .call { callee := .builtin .clear, args := #[x], argTypes := #[27] }) (b o n c : Nat) (hx : a.eval x = .slice (some ⟨b, o, none⟩) n c) (hn : 0 < n) (ht : w.there b o (n * 11))
    (hk : wpList Tryd.prog ops Q rest (a.put op.dst (.tuple #[])) (w.setCells b o (zeros n))) : wpList Tryd.prog ops Q (op :: rest) a w := by
  refine wpList_plain hgd fun K hK => ?_
  have hr := run_clear_pts w op.type b o n c hn ht
  unfold Oper.wp execOp
  simp only [ho, resolve, invoke, builtin, Sem.run_bind, Sem.run_pure, Result.andThen_ok, List.map_toArray, List.map_cons, List.map_nil, hx, hr]
  exact hK _ _ hk

/-- The first points of a row, behind a store further on. -/
theorem RowR.cleared {w : World} {g o : Nat} {m : List Pt} (h : RowR w g o m) {i : Nat} (hi : i ≤ m.length) (vs : List Value) : PtsIn (w.setCells g (o + i * 11) vs) g o (m.take i) := by
  intro k p hk
  have hk' : k < i := by
    have := (List.getElem?_eq_some_iff.1 hk).1
    simp at this; omega
  rw [List.getElem?_take_of_lt hk'] at hk
  rw [ptIn_range]
  refine World.rangeAt_setCells_apart (ptIn_range.1 (h.pts k p hk)) g _ _ (Or.inr (Or.inl ?_))
  rw [Pt.cs_length]
  omega

def DelPost (r : List Pt) (A : Option Addr) (w : World) (e : Ending) (w' : World) : Prop := ∃ v, e = .returned v ∧ PtsV w' v r ∧ w.grownBy w' (A.map (·.block))

theorem capK_set (x : Nat) (k0 : Int) {w : World} (h : CapK x k0 w) {g : Nat} (hne : g ≠ x) (o : Nat) (vs : List Value) : CapK x k0 (w.setCells g o vs) := by
  first
    | exact (World.cell?_of_block (w := w) (a := ⟨x, 0, none⟩) (setCells_heap g vs o w x (fun e => hne e.symm))).trans h
    | exact ⟨(World.cell?_of_block (w := w) (a := ⟨x, 0, none⟩) (setCells_heap g vs o w x (fun e => hne.1 e.symm))).trans h.1, (World.cell?_of_block (w := w) (a := ⟨y, 0, none⟩) (setCells_heap g vs o w y (fun e => hne.2 e.symm))).trans h.2⟩

set_option maxHeartbeats 2000000 in
set_option maxRecDepth 100000 in
theorem deleteK_any (x : Nat) (k0 : Int) (l : List Pt) (hn : l.length ≤ 1000000) (A : Option Addr) (c : Nat) (hlc : l.length ≤ c) (hc63 : c ≤ 9223372036854775807) (w : World) (hr : RowV w A l) (hcap : CapK x k0 w) (hne : ∀ g, A.map (·.block) = some g → g ≠ x) :
    Calls Tryd.prog 45 #[.slice A l.length c, .func (.func 47) #[] #[.pointer (some ⟨x, 0, none⟩)]] w (DelPost (l.filter fun p => !delK k0 p) A w) := by
  have HR := Lib.hid hr
  have HC := Lib.hid hcap
  have HN := Lib.hid hne
  have HP : Hid (PtsR w A l) := fun h => by obtain ⟨g, o, e, hR⟩ := hr h; exact ⟨g, o, e, hR.pts⟩
  clear hr hcap hne
  go_enter Tryd.func45, Tryd.ntmps45
  go_wp2_with fail
  refine (indexK_any x k0 l hn A c _ HP.out HC.out).mono ?_
  rintro e w1 ⟨n, rfl, hf, hb1⟩
  have HB1 := Lib.hid hb1
  clear hb1
  rcases hf with ⟨rfl, hall⟩ | ⟨i, hi, rfl, hdi, hbef⟩
  · have HA := Lib.hid (filter_all hall)
    clear hall
    go_wp2
    go_ret
    rw [HA.out]
    exact ⟨_, rfl, ⟨A, c, rfl, HP.out.below HB1.out⟩, grown_below HB1.out _⟩
  · have HD0 := Lib.hid (del_start hi hdi hbef)
    clear hbef hdi
    obtain ⟨g, o, rfl, hR⟩ := HR.out (fun e => by subst e; simp at hi)
    have hb1 : ((i : Int) == -1) = false := beq_eq_false_iff_ne.2 (by omega)
    have HR1 := Lib.hid (hR.below (by omega) HB1.out)
    have HNE := Lib.hid (HN.out g rfl)
    clear hR
    go_wp2
    go_loopw [5, 6] (fun s t wr => ∃ i j : Nat, i < j ∧ j ≤ l.length ∧ s = .int .i64 i ∧ t = .int .i64 j ∧ Hid (∃ m, Del (delK k0) l i j m ∧ RowR wr g o m ∧ w.grownBy wr (some g) ∧ CapK x k0 wr)) (fun _ t _ => l.length - (intOf t).toNat)
    case atStart => exact ⟨i, i + 1, by omega, by omega, rfl, by go_num, l, HD0.out, HR1.out, grown_below HB1.out _, CapK_below HC.out HB1.out⟩
    case round =>
      obtain ⟨i, j, hij, hjl, rfl, rfl, hh⟩ := hrel
      obtain ⟨m, hD, hR, hG, hC⟩ := hh.out
      have hml := hD.len
      by_cases hlt : j < l.length
      · have hjm : j < m.length := by omega
        have him : i < m.length := by omega
        have hmj := del_at hD hlt
        obtain ⟨c0, c1, c2, c3, c4, c5, c6, c7, c8, c9, c10⟩ := hR.at_ hjm
        rw [hmj] at c0 c1 c2 c3 c4 c5 c6 c7 c8 c9 c10
        have hgz := lt_of_cell c0
        simp only at hgz
        have HH := Lib.hid (And.intro hD (And.intro hR (And.intro hG hC)))
        have b1 : (0 : Int) ≤ (i : Int) := by omega
        have b2 : (i : Int) < (l.length : Int) := by omega
        clear hD hR hG hC hml hmj hh
        by_cases hd : delK k0 l[j] = true
        · have HS := Lib.hid (del_drop HH.out.1 hlt hd)
          go_wp2_with fail
          refine (delK_any x k0 l[j] _ (CapK_below HH.out.2.2.2 ((Below.refl _ _).alloc (Nat.le_refl _) _))).mono ?_
          rintro e w3 ⟨rfl, hb3⟩
          rw [hd]
          have HB3 := Lib.hid (below_alloc hb3)
          clear hb3
          go_wp2
          go_roundw
          case rel => exact ⟨i, j + 1, by omega, by omega, rfl, by go_num, m, HS.out, HH.out.2.1.below (by omega) HB3.out, HH.out.2.2.1.trans (grown_below HB3.out _), CapK_below HH.out.2.2.2 HB3.out⟩
          case measure => simp [intOf]; omega
        · have hd : delK k0 l[j] = false := by simpa using hd
          have HS := Lib.hid (del_keep HH.out.1 hlt hd)
          go_wp2_with fail
          refine (delK_any x k0 l[j] _ (CapK_below HH.out.2.2.2 ((Below.refl _ _).alloc (Nat.le_refl _) _))).mono ?_
          rintro e w3 ⟨rfl, hb3⟩
          rw [hd]
          obtain ⟨d0, d1, d2, d3, d4, d5, d6, d7, d8, d9, d10⟩ := ptAt_box hb3
          have HB3 := Lib.hid (below_alloc hb3)
          clear hb3
          have HT : Hid (w3.there g (o + i * 11) 11) := (HH.out.2.1.below (by omega) HB3.out).there_at him
          have HR4 : Hid (RowR (w3.setCells g (o + i * 11) (l[j]).cs) g o (m.set i l[j])) := (HH.out.2.1.below (by omega) HB3.out).set him _
          have HG4 : Hid (w.grownBy (w3.setCells g (o + i * 11) (l[j]).cs) (some g)) := (HH.out.2.2.1.trans (grown_below HB3.out _)).trans (grown_setCells _ _ _ _)
          have HC4 : Hid (CapK x k0 (w3.setCells g (o + i * 11) (l[j]).cs)) := capK_set x k0 (CapK_below HH.out.2.2.2 HB3.out) HNE.out _ _
          go_wp2_with (refine wpList_store_mid rfl 23 (.tmp 33) (.tmp 32) rfl g (o + i * 11) (l[j]).cs.toArray (by rfl) (by rfl) ?_ ?_ ?_ ?_; (exact HT.out); (exact pt_info); (exact pt_one _))
          go_roundw
          case rel => exact ⟨i + 1, j + 1, by omega, by omega, by go_num, by go_num, m.set i l[j], HS.out, HR4.out, HG4.out, HC4.out⟩
          case measure => simp [intOf]; omega
      · have hj : j = l.length := by omega
        subst hj
        have HE := Lib.hid (del_end hD)
        have him : i < m.length := by omega
        have b1 : (0 : Int) ≤ (i : Int) := by omega
        have b2 : (i : Int) ≤ (l.length : Int) := by omega
        have b3 : (l.length : Int) ≤ (c : Int) := by omega
        have b4 : (i : Int) ≤ (c : Int) := by omega
        have b5 : ¬ (c = i) := by omega
        have HT : Hid (wr.there g (o + i * 11) ((l.length - i) * 11)) := fun k hk => by
          have := hR.there (i * 11 + k) (by rw [hml]; omega)
          rwa [← Nat.add_assoc] at this
        have HPI : Hid (PtsIn (wr.setCells g (o + i * 11) (zeros (l.length - i))) g o (m.take i)) := hR.cleared (by omega) _
        have HG : Hid (w.grownBy (wr.setCells g (o + i * 11) (zeros (l.length - i))) (some g)) := hG.trans (grown_setCells _ _ _ _)
        have HL : Hid ((m.take i).length = i) := by show _ = _; simp; omega
        have hpos : 0 < l.length - i := by omega
        clear hD hR hG hC hh hlt
        go_wp2_with (refine wpList_clear_pts _ rfl (.tmp 38) rfl g (o + i * 11) (l.length - i) (c - i) ?_ hpos ?_ ?_; (rfl); (exact HT.out))
        go_ret
        rw [← HE.out]
        exact ⟨_, rfl, ⟨some ⟨g, o, none⟩, c, by rw [HL.out]; rfl, fun _ => ⟨g, o, rfl, HPI.out⟩⟩, HG.out⟩
theorem capT_set (x y : Nat) (a0 b0 : Int) {w : World} (h : CapT x y a0 b0 w) {g : Nat} (hne : g ≠ x ∧ g ≠ y) (o : Nat) (vs : List Value) : CapT x y a0 b0 (w.setCells g o vs) := by
  first
    | exact (World.cell?_of_block (w := w) (a := ⟨x, 0, none⟩) (setCells_heap g vs o w x (fun e => hne e.symm))).trans h
    | exact ⟨(World.cell?_of_block (w := w) (a := ⟨x, 0, none⟩) (setCells_heap g vs o w x (fun e => hne.1 e.symm))).trans h.1, (World.cell?_of_block (w := w) (a := ⟨y, 0, none⟩) (setCells_heap g vs o w y (fun e => hne.2 e.symm))).trans h.2⟩

set_option maxHeartbeats 2000000 in
set_option maxRecDepth 100000 in
theorem deleteT_any (x y : Nat) (a0 b0 : Int) (l : List Pt) (hn : l.length ≤ 1000000) (A : Option Addr) (c : Nat) (hlc : l.length ≤ c) (hc63 : c ≤ 9223372036854775807) (w : World) (hr : RowV w A l) (hcap : CapT x y a0 b0 w) (hne : ∀ g, A.map (·.block) = some g → g ≠ x ∧ g ≠ y) :
    Calls Tryd.prog 45 #[.slice A l.length c, .func (.func 46) #[] #[.pointer (some ⟨x, 0, none⟩), .pointer (some ⟨y, 0, none⟩)]] w (DelPost (l.filter fun p => !delT a0 b0 p) A w) := by
  have HR := Lib.hid hr
  have HC := Lib.hid hcap
  have HN := Lib.hid hne
  have HP : Hid (PtsR w A l) := fun h => by obtain ⟨g, o, e, hR⟩ := hr h; exact ⟨g, o, e, hR.pts⟩
  clear hr hcap hne
  go_enter Tryd.func45, Tryd.ntmps45
  go_wp2_with fail
  refine (indexT_any x y a0 b0 l hn A c _ HP.out HC.out).mono ?_
  rintro e w1 ⟨n, rfl, hf, hb1⟩
  have HB1 := Lib.hid hb1
  clear hb1
  rcases hf with ⟨rfl, hall⟩ | ⟨i, hi, rfl, hdi, hbef⟩
  · have HA := Lib.hid (filter_all hall)
    clear hall
    go_wp2
    go_ret
    rw [HA.out]
    exact ⟨_, rfl, ⟨A, c, rfl, HP.out.below HB1.out⟩, grown_below HB1.out _⟩
  · have HD0 := Lib.hid (del_start hi hdi hbef)
    clear hbef hdi
    obtain ⟨g, o, rfl, hR⟩ := HR.out (fun e => by subst e; simp at hi)
    have hb1 : ((i : Int) == -1) = false := beq_eq_false_iff_ne.2 (by omega)
    have HR1 := Lib.hid (hR.below (by omega) HB1.out)
    have HNE := Lib.hid (HN.out g rfl)
    clear hR
    go_wp2
    go_loopw [5, 6] (fun s t wr => ∃ i j : Nat, i < j ∧ j ≤ l.length ∧ s = .int .i64 i ∧ t = .int .i64 j ∧ Hid (∃ m, Del (delT a0 b0) l i j m ∧ RowR wr g o m ∧ w.grownBy wr (some g) ∧ CapT x y a0 b0 wr)) (fun _ t _ => l.length - (intOf t).toNat)
    case atStart => exact ⟨i, i + 1, by omega, by omega, rfl, by go_num, l, HD0.out, HR1.out, grown_below HB1.out _, CapT.below HC.out HB1.out⟩
    case round =>
      obtain ⟨i, j, hij, hjl, rfl, rfl, hh⟩ := hrel
      obtain ⟨m, hD, hR, hG, hC⟩ := hh.out
      have hml := hD.len
      by_cases hlt : j < l.length
      · have hjm : j < m.length := by omega
        have him : i < m.length := by omega
        have hmj := del_at hD hlt
        obtain ⟨c0, c1, c2, c3, c4, c5, c6, c7, c8, c9, c10⟩ := hR.at_ hjm
        rw [hmj] at c0 c1 c2 c3 c4 c5 c6 c7 c8 c9 c10
        have hgz := lt_of_cell c0
        simp only at hgz
        have HH := Lib.hid (And.intro hD (And.intro hR (And.intro hG hC)))
        have b1 : (0 : Int) ≤ (i : Int) := by omega
        have b2 : (i : Int) < (l.length : Int) := by omega
        clear hD hR hG hC hml hmj hh
        by_cases hd : delT a0 b0 l[j] = true
        · have HS := Lib.hid (del_drop HH.out.1 hlt hd)
          go_wp2_with fail
          refine (delT_any x y a0 b0 l[j] _ (CapT.below HH.out.2.2.2 ((Below.refl _ _).alloc (Nat.le_refl _) _))).mono ?_
          rintro e w3 ⟨rfl, hb3⟩
          rw [hd]
          have HB3 := Lib.hid (below_alloc hb3)
          clear hb3
          go_wp2
          go_roundw
          case rel => exact ⟨i, j + 1, by omega, by omega, rfl, by go_num, m, HS.out, HH.out.2.1.below (by omega) HB3.out, HH.out.2.2.1.trans (grown_below HB3.out _), CapT.below HH.out.2.2.2 HB3.out⟩
          case measure => simp [intOf]; omega
        · have hd : delT a0 b0 l[j] = false := by simpa using hd
          have HS := Lib.hid (del_keep HH.out.1 hlt hd)
          go_wp2_with fail
          refine (delT_any x y a0 b0 l[j] _ (CapT.below HH.out.2.2.2 ((Below.refl _ _).alloc (Nat.le_refl _) _))).mono ?_
          rintro e w3 ⟨rfl, hb3⟩
          rw [hd]
          obtain ⟨d0, d1, d2, d3, d4, d5, d6, d7, d8, d9, d10⟩ := ptAt_box hb3
          have HB3 := Lib.hid (below_alloc hb3)
          clear hb3
          have HT : Hid (w3.there g (o + i * 11) 11) := (HH.out.2.1.below (by omega) HB3.out).there_at him
          have HR4 : Hid (RowR (w3.setCells g (o + i * 11) (l[j]).cs) g o (m.set i l[j])) := (HH.out.2.1.below (by omega) HB3.out).set him _
          have HG4 : Hid (w.grownBy (w3.setCells g (o + i * 11) (l[j]).cs) (some g)) := (HH.out.2.2.1.trans (grown_below HB3.out _)).trans (grown_setCells _ _ _ _)
          have HC4 : Hid (CapT x y a0 b0 (w3.setCells g (o + i * 11) (l[j]).cs)) := capT_set x y a0 b0 (CapT.below HH.out.2.2.2 HB3.out) HNE.out _ _
          go_wp2_with (refine wpList_store_mid rfl 23 (.tmp 33) (.tmp 32) rfl g (o + i * 11) (l[j]).cs.toArray (by rfl) (by rfl) ?_ ?_ ?_ ?_; (exact HT.out); (exact pt_info); (exact pt_one _))
          go_roundw
          case rel => exact ⟨i + 1, j + 1, by omega, by omega, by go_num, by go_num, m.set i l[j], HS.out, HR4.out, HG4.out, HC4.out⟩
          case measure => simp [intOf]; omega
      · have hj : j = l.length := by omega
        subst hj
        have HE := Lib.hid (del_end hD)
        have him : i < m.length := by omega
        have b1 : (0 : Int) ≤ (i : Int) := by omega
        have b2 : (i : Int) ≤ (l.length : Int) := by omega
        have b3 : (l.length : Int) ≤ (c : Int) := by omega
        have b4 : (i : Int) ≤ (c : Int) := by omega
        have b5 : ¬ (c = i) := by omega
        have HT : Hid (wr.there g (o + i * 11) ((l.length - i) * 11)) := fun k hk => by
          have := hR.there (i * 11 + k) (by rw [hml]; omega)
          rwa [← Nat.add_assoc] at this
        have HPI : Hid (PtsIn (wr.setCells g (o + i * 11) (zeros (l.length - i))) g o (m.take i)) := hR.cleared (by omega) _
        have HG : Hid (w.grownBy (wr.setCells g (o + i * 11) (zeros (l.length - i))) (some g)) := hG.trans (grown_setCells _ _ _ _)
        have HL : Hid ((m.take i).length = i) := by show _ = _; simp; omega
        have hpos : 0 < l.length - i := by omega
        clear hD hR hG hC hh hlt
        go_wp2_with (refine wpList_clear_pts _ rfl (.tmp 38) rfl g (o + i * 11) (l.length - i) (c - i) ?_ hpos ?_ ?_; (rfl); (exact HT.out))
        go_ret
        rw [← HE.out]
        exact ⟨_, rfl, ⟨some ⟨g, o, none⟩, c, by rw [HL.out]; rfl, fun _ => ⟨g, o, rfl, HPI.out⟩⟩, HG.out⟩
end Go.Proofs.YtcmnmcholfellaaDoor
