/-
  Walks: a line read, in package trace.
-/
import Derived.Test.YtcmnmcholfellaaDoorQ2
import Derived.Deep.DeepCutAuto
import Derived.Deep.RegionWith
namespace Go.Proofs.YtcmnmcholfellaaDoor
open Go.RowKit

/-- The state of the loop over the words. -/
structure RdSt (s : ByteArray) (w1 : World) (i : Nat) (s5 : Value) (wr : World) : Prop where
  ok : ∀ j (hj : j < (wordsB s).length), j < i → j ≠ 1 → okI ((wordsB s)[j]).data.toList
  own : OwnI wr w1.heap.size s5 (numsTo (spl 32 s.data.toList) i)
  bel : Below w1.heap.size w1 wr

/-- The world behind Split: the result's block, and the words. -/
structure RdW (s : ByteArray) (w w1 : World) : Prop where
  box : w1.heap[w.heap.size]? = some Pt.zero.box
  strs : StrsIn w1 (w.heap.size + 1) (wordsB s)
  bel : Below w.heap.size w w1
  size : w1.heap.size = w.heap.size + 2

theorem rdW_mk (s : ByteArray) (w : World) : RdW s w ((w.alloc Pt.zero.box).alloc (.cells ((wordsB s).map Value.string).toArray 9)) := by
  refine ⟨?_, ?_, ((Below.refl _ _).alloc (Nat.le_refl _) _).alloc (by simp) _, by simp⟩
  · have h := ((Below.refl (w.alloc Pt.zero.box).heap.size (w.alloc Pt.zero.box)).alloc (Nat.le_refl _) (.cells ((wordsB s).map Value.string).toArray 9)).block w.heap.size (by simp)
    exact h.trans (heap_alloc_new w _)
  · have := strs_new (w.alloc Pt.zero.box) (wordsB s)
    simpa using this

theorem frozen_of_box {w : World} {b : Nat} {p : Pt} (h : w.heap[b]? = some p.box) (j : Nat) : w.frozen? ⟨b, j, none⟩ = false := by
  simp [World.frozen?, h]

theorem there_of_box {w : World} {b : Nat} {p : Pt} (h : w.heap[b]? = some p.box) : w.there b 0 11 := fun j hj => by
  rw [Nat.zero_add]
  constructor
  · rw [cell_of_row _ _ _ _ _ _ h, Array.getElem?_eq_getElem (by simpa using hj)]; rfl
  · simp [World.frozen?, h]

theorem ptAt_set {w : World} {b : Nat} {p : Pt} (h : w.there b 0 11) : PtAt (w.setCells b 0 p.cs) b p := by
  obtain ⟨c0, c1, c2, c3, c4, c5, c6, c7, c8, c9, c10⟩ := ptIn_range.2 (World.rangeAt_setCells_same w b 0 p.cs h)
  exact ⟨c0, c1, c2, c3, c4, c5, c6, c7, c8, c9, c10⟩

theorem below_setCells {B : Nat} {a w : World} (h : Below B a w) {g : Nat} (hg : B ≤ g) (hB : B ≤ w.heap.size) (o : Nat) (vs : List Value) : Below B a (w.setCells g o vs) :=
  h.grown (grown_setCells w g o vs) hB (fun k hk => by injection hk with hk; omega)

theorem bodyPost_world {P : Program} {f : Func} {post : Ending → World → Prop} {x : Exit} {a : Act} {W : World} (W' : World) (h : W' = W) (hb : bodyPost P f post x a W') : bodyPost P f post x a W := h ▸ hb

theorem there_below {b : Nat} {u v : World} (h : u.there b 0 11) (hb : Below u.heap.size u v) : v.there b 0 11 := fun j hj => by
  have hlt : b < u.heap.size := by
    have h0 := (h j hj).1
    cases hc : u.cell? ⟨b, 0 + j, none⟩ with
    | none => rw [hc] at h0; cases h0
    | some x => exact lt_of_cell hc
  have e1 := hb.cell (p := ⟨b, 0 + j, none⟩) hlt
  have e2 := hb.frozen (p := ⟨b, 0 + j, none⟩) hlt
  rw [e1, e2]; exact h j hj

theorem held_set {w0 wc : World} {g : Nat} {p q : Pt} (h : (wc.cell? ⟨g, 0, none⟩ = some (.int .i64 p.at_) ∧ wc.cell? ⟨g, 1, none⟩ = some (.int .i64 p.kind) ∧ wc.cell? ⟨g, 2, none⟩ = some (.int .i64 p.tbl) ∧ wc.cell? ⟨g, 3, none⟩ = some (.int .i64 p.wri) ∧ wc.cell? ⟨g, 4, none⟩ = some (.int .i64 p.rdr) ∧ wc.cell? ⟨g, 5, none⟩ = some (.int .i64 p.idx) ∧ wc.cell? ⟨g, 6, none⟩ = some (.int .i64 p.tok) ∧ wc.cell? ⟨g, 7, none⟩ = some (.int .i64 p.rnd) ∧ wc.cell? ⟨g, 8, none⟩ = some (.int .i64 p.rep) ∧ wc.cell? ⟨g, 9, none⟩ = some (.int .i64 p.ver) ∧ wc.cell? ⟨g, 10, none⟩ = some (.int .i64 p.hol)) ∧ Hid (Below w0.heap.size w0 wc ∧ wc.there w0.heap.size 0 11)) (hg : w0.heap.size < g) :
    ((wc.setCells w0.heap.size 0 q.cs).cell? ⟨g, 0, none⟩ = some (.int .i64 p.at_) ∧ (wc.setCells w0.heap.size 0 q.cs).cell? ⟨g, 1, none⟩ = some (.int .i64 p.kind) ∧ (wc.setCells w0.heap.size 0 q.cs).cell? ⟨g, 2, none⟩ = some (.int .i64 p.tbl) ∧ (wc.setCells w0.heap.size 0 q.cs).cell? ⟨g, 3, none⟩ = some (.int .i64 p.wri) ∧ (wc.setCells w0.heap.size 0 q.cs).cell? ⟨g, 4, none⟩ = some (.int .i64 p.rdr) ∧ (wc.setCells w0.heap.size 0 q.cs).cell? ⟨g, 5, none⟩ = some (.int .i64 p.idx) ∧ (wc.setCells w0.heap.size 0 q.cs).cell? ⟨g, 6, none⟩ = some (.int .i64 p.tok) ∧ (wc.setCells w0.heap.size 0 q.cs).cell? ⟨g, 7, none⟩ = some (.int .i64 p.rnd) ∧ (wc.setCells w0.heap.size 0 q.cs).cell? ⟨g, 8, none⟩ = some (.int .i64 p.rep) ∧ (wc.setCells w0.heap.size 0 q.cs).cell? ⟨g, 9, none⟩ = some (.int .i64 p.ver) ∧ (wc.setCells w0.heap.size 0 q.cs).cell? ⟨g, 10, none⟩ = some (.int .i64 p.hol)) ∧ Hid (Below w0.heap.size w0 (wc.setCells w0.heap.size 0 q.cs) ∧ (wc.setCells w0.heap.size 0 q.cs).there w0.heap.size 0 11) := by
  have e : ∀ j, (wc.setCells w0.heap.size 0 q.cs).cell? ⟨g, j, none⟩ = wc.cell? ⟨g, j, none⟩ := fun j => World.cell?_of_block (a := ⟨g, j, none⟩) (setCells_heap w0.heap.size q.cs 0 wc g (by omega))
  refine ⟨?_, below_setCells h.2.out.1 (Nat.le_refl _) h.2.out.1.size _ _, World.there_setCells h.2.out.2 _ _ _⟩
  simp only [e]; exact h.1

theorem set_held {w3 wc : World} {g b : Nat} {a : Int} {vs : List Value} (h : wc.cell? ⟨g, 0, none⟩ = some (.int .i64 a) ∧ Hid (Below w3.heap.size w3 wc)) (n3 : w3.cell? ⟨g, 0, none⟩ = some (.int .i64 a)) (hb : w3.heap.size ≤ b) (_hs : b < wc.heap.size) (o : Nat) :
    (wc.setCells b o vs).cell? ⟨g, 0, none⟩ = some (.int .i64 a) ∧ Hid (Below w3.heap.size w3 (wc.setCells b o vs)) := by
  have hB := below_setCells h.2.out hb h.2.out.size o vs
  exact ⟨below_cell hB n3, hB⟩

set_option maxHeartbeats 2000000 in
set_option maxRecDepth 100000 in
theorem read_any (s : ByteArray) (hs : s.size ≤ 100000) (w : World) (hE : Env w) :
    Calls Tryd.prog 55 #[.string s] w (ReadPost s w) := by
  have HE := Lib.hid hE
  clear hE
  go_enter Tryd.func55, Tryd.ntmps55
  go_wp2_with fail
  refine (split_any s (by omega) _ (HE.out.below ((Below.refl _ _).alloc (Nat.le_refl _) _))).mono ?_
  rintro e w1 ⟨rfl, hw1⟩
  have hlen : (wordsB s).length ≤ 100001 := by have := wordsB_few s; omega
  have HW : Hid (RdW s w w1) := by rw [hw1]; exact rdW_mk s w
  have hz0 : w.heap.size < w1.heap.size := by have := HW.out.size; omega
  have hz1 : w.heap.size + 1 < w1.heap.size := by have := HW.out.size; omega
  clear hw1
  go_wp2
  go_loopw [17, 5, 6] (fun s17 s5 s6 wr => ∃ i : Nat, i ≤ (wordsB s).length ∧ s17 = .int .i64 i ∧ s6 = .int .i64 (kindW (wordsB s) i) ∧ Hid (RdSt s w1 i s5 wr)) (fun s17 _ _ _ => (wordsB s).length - (intOf s17).toNat)
  case atStart => exact ⟨0, by omega, rfl, rfl, ⟨fun j _ hj => absurd hj (by omega), OwnI.nil _ _, Below.refl _ _⟩⟩
  case round =>
    obtain ⟨i, hi, rfl, rfl, hh⟩ := hrel
    obtain ⟨wo, rfl⟩ : ∃ wo : World, wo = wr := ⟨_, rfl⟩
    by_cases hlt : i < (wordsB s).length
    · have cw : wo.cell? ⟨w.heap.size + 1, i, none⟩ = some (.string (wordsB s)[i]) := below_cell hh.out.bel (HW.out.strs i _ (List.getElem?_eq_getElem hlt))
      have HSZ := Lib.hid (wordsB_size (List.getElem_mem hlt))
      by_cases h1 : i = 1
      · subst h1
        have HK := Lib.hid (show kindW (wordsB s) 1 = 0 from rfl)
        have HK2 := Lib.hid (show kindW (wordsB s) (1 + 1) = kindTo (wordsB s)[1] 7 by unfold kindW; rw [if_pos (by omega), List.getD_eq_getElem?_getD, List.getElem?_eq_getElem hlt]; rfl)
        rw [HK.out, show ((1 : Nat) : Int) = 1 from rfl]
        have hltI : (1 : Int) < ((wordsB s).length : Int) := by omega
        go_wp2
        go_loopw [9, 6] (fun s9 s6 wr => ∃ k : Nat, k ≤ 7 ∧ s9 = .int .i64 ((k : Int) + 1) ∧ s6 = .int .i64 (kindTo (wordsB s)[1] k) ∧ Hid (RdSt s w1 1 u5 wr)) (fun s9 _ _ => 8 - (intOf s9).toNat)
        case atStart => exact ⟨0, by omega, rfl, rfl, hh.out⟩
        case round =>
          obtain ⟨k, hk, rfl, rfl, hq⟩ := hrel
          by_cases hk7 : k < 7
          · have hkI : (k : Int) + 1 ≤ 7 := by omega
            by_cases hwd : wordB ((k : Int) + 1) = (wordsB s)[1]
            · have hwb := beqT_yes hwd
              have HK3 := Lib.hid (show kindTo (wordsB s)[1] (k + 1) = (k : Int) + 1 by rw [kindTo, if_pos hwd])
              clear hwd
              go_wp2_with (go_at_call 59; refine (word_any _ _).mono ?_; rintro e w3 ⟨rfl, hb3⟩)
              go_roundw
              case rel => exact ⟨k + 1, by omega, by go_num, by rw [HK3.out], ⟨hq.out.ok, hq.out.own.below hb3, below_trans hq.out.bel hb3⟩⟩
              case measure => simp [intOf]; omega
            · have hwb := beqT_no hwd
              have HK3 := Lib.hid (show kindTo (wordsB s)[1] (k + 1) = kindTo (wordsB s)[1] k by rw [kindTo, if_neg hwd])
              clear hwd
              go_wp2_with (go_at_call 59; refine (word_any _ _).mono ?_; rintro e w3 ⟨rfl, hb3⟩)
              go_roundw
              case rel => exact ⟨k + 1, by omega, by go_num, by rw [HK3.out], ⟨hq.out.ok, hq.out.own.below hb3, below_trans hq.out.bel hb3⟩⟩
              case measure => simp [intOf]; omega
          · obtain rfl : k = 7 := by omega
            go_wp2
            go_roundw
            case rel => exact ⟨2, by omega, by go_num, by rw [HK2.out], ⟨fun j hj h2 h3 => hq.out.ok j hj (by omega) h3, by rw [numsTo_two (by rw [words_len]; exact hlt)]; exact hq.out.own, hq.out.bel⟩⟩
            case measure => simp [intOf]; omega
      · have h1b : ((i : Int) == 1) = false := by rw [beq_eq_false_iff_ne]; omega
        have hltI : (i : Int) < ((wordsB s).length : Int) := by omega
        have HI := Lib.hid h1
        clear h1
        by_cases hok : okI ((wordsB s)[i]).data.toList
        · have HO := Lib.hid hok
          have HV := Lib.hid (valI_in hok)
          have HNS := Lib.hid (numsTo_succ (W := spl 32 s.data.toList) (by rw [words_len]; exact hlt) HI.out)
          rw [words_at hlt] at HNS
          have HKW := Lib.hid (show kindW (wordsB s) (i + 1) = kindW (wordsB s) i by have := HI.out; unfold kindW; by_cases h2 : 2 ≤ i; (rw [if_pos h2, if_pos (by omega)]); (rw [if_neg h2, if_neg (by omega)]))
          clear hok
          obtain ⟨x, hx⟩ : ∃ x, x = valI ((wordsB s)[i]).data.toList := ⟨_, rfl⟩
          have HX := Lib.hid hx
          clear hx
          go_wp2_with fail
          refine (parseInt_yes (wordsB s)[i] (by have := HSZ.out; omega) HO.out _).mono ?_
          rintro e w3 ⟨rfl, hb3⟩
          rw [← HX.out]
          have HOW := Lib.hid (hh.out.own.below hb3)
          have HBW := Lib.hid (below_trans hh.out.bel hb3)
          have HLN := Lib.hid (show (numsTo (spl 32 s.data.toList) i).length + 1 ≤ 1000000 by have := numsTo_length (W := spl 32 s.data.toList) (i := i) (by rw [words_len]; omega); omega)
          clear hb3
          have HRN := Lib.hid (range_new w3 [.int .i64 x] 2)
          have HOA : Hid ((w3.alloc (.cells #[.int .i64 x] 2)).ownsRow w1.heap.size 2 1 u5 _ _) := World.ownsRow.alloc HOW.out _
          go_wp2_with (at_builtin; refine wpList_append_one elem_i64 _ rfl (.tmp 41) (.tmp 43) rfl w1.heap.size _ _ _ rfl HOA.out w3.heap.size 0 1 [.int .i64 x] rfl rfl HRN.out (by simp [Value.oneCell']) HLN.out (by omega) (by have := HBW.out.size; simp; omega) ?_; intro v2 w4 ho2 hg2)
          go_roundw
          case rel => exact ⟨i + 1, by omega, by go_num, by rw [HKW.out], ⟨fun j hj h2 h3 => (by
            by_cases e : j = i
            · subst e; exact HO.out
            · exact hh.out.ok j hj (by omega) h3), (by rw [HNS.out, ← HX.out]; exact OwnI.snoc ho2), (HBW.out.alloc HBW.out.size _).grown hg2 (by have := HBW.out.size; simp; omega) (OwnI.lt HOW.out)⟩⟩
          case measure => simp [intOf]; omega
        · go_wp2_with fail
          refine (parseInt_no (wordsB s)[i] (by have := HSZ.out; omega) hok _ (HE.out.below (below_trans HW.out.bel hh.out.bel))).mono ?_
          rintro e w3 ⟨n3, t3, p3, rfl, hb3⟩
          have hbx : w3.heap[w.heap.size]? = some Pt.zero.box := ((below_trans hh.out.bel hb3).block w.heap.size hz0).trans HW.out.box
          have HBX := Lib.hid hbx
          obtain ⟨c0, c1, c2, c3, c4, c5, c6, c7, c8, c9, c10⟩ := ptAt_of_heap hbx
          have hfr := frozen_of_box hbx
          have HPA := Lib.hid (ptAt_set (p := Pt.zero) (there_of_box hbx))
          have HBB := Lib.hid (below_setCells (below_trans HW.out.bel (below_trans hh.out.bel hb3)) (Nat.le_refl w.heap.size) (by have := hb3.size; have := hh.out.bel.size; omega) 0 Pt.zero.cs)
          clear hbx
          go_wp2
          refine bodyPost_world (w3.setCells w.heap.size 0 Pt.zero.cs) rfl ?_
          clear c0 c1 c2 c3 c4 c5 c6 c7 c8 c9 c10 hfr HBX
          generalize w3.setCells w.heap.size 0 Pt.zero.cs = w9 at *
          obtain ⟨c0, c1, c2, c3, c4, c5, c6, c7, c8, c9, c10⟩ := HPA.out
          refine bodyPost_ret (v := .tuple #[Pt.zero.v, .bool false]) (by simp [results, Tryd.results55, go_sem, c0, c1, c2, c3, c4, c5, c6, c7, c8, c9, c10]) rfl ⟨Pt.zero, false, rfl, (fun h => by cases h), (fun ⟨q, hq⟩ => absurd (line_okI hq hlt HI.out) hok), HBB.out⟩
    · have hie : i = (wordsB s).length := by omega
      have HIE := Lib.hid hie
      have hltI : ¬ (i : Int) < ((wordsB s).length : Int) := by omega
      clear hie
      obtain ⟨kd, hK⟩ : ∃ kd, kd = kindW (wordsB s) i := ⟨_, rfl⟩
      obtain ⟨N, hN⟩ : ∃ N, N = numsTo (spl 32 s.data.toList) i := ⟨_, rfl⟩
      have HLI : Hid (∀ q, IsLine s.data.toList q → N = q.at_ :: flds q ∧ kd = q.kind) := fun q hq => by
        have := line_nums hq
        rw [← HIE.out, ← hK, ← hN] at this
        exact this
      have hown := hh.out.own
      rw [← hN] at hown
      have HOW := Lib.hid hown
      have HBL := Lib.hid hh.out.bel
      have HN64 : Hid (∀ x ∈ N, In64 x) := by
        rw [hN]; exact numsTo_in i hi hh.out.ok
      have HKR : Hid (In64 kd) := by
        rw [hK]
        show In64 _
        unfold kindW
        have := kindTo_range ((wordsB s).getD 1 ⟨#[]⟩) 7
        split <;> exact ⟨by omega, by omega⟩
      have HLN9 : Hid (N.length ≤ 1000000) := by
        have := numsTo_length (W := spl 32 s.data.toList) (i := i) (by rw [words_len]; omega)
        rw [hN]; show _ ≤ _; omega
      rw [← hK]
      clear hown hN hK
      obtain ⟨A, c, hv, hnc, hc63, hcl⟩ := HOW.out.reads
      subst hv
      have HCL := Lib.hid hcl
      clear hcl hh
      have hbx : wo.heap[w.heap.size]? = some Pt.zero.box := (HBL.out.block w.heap.size hz0).trans HW.out.box
      have HBX := Lib.hid hbx
      clear hbx
      by_cases hk0 : kd = 0
      · have hkb : (kd == 0) = true := by rw [hk0]; rfl
        have HNL : Hid (¬ ∃ q, IsLine s.data.toList q) := fun ⟨q, hq⟩ => by
          have e := (HLI.out q hq).2
          have := (okP_parts hq.ok).1
          omega
        clear hk0
        have hbx : wo.heap[w.heap.size]? = some Pt.zero.box := (HBL.out.block w.heap.size hz0).trans HW.out.box
        obtain ⟨c0, c1, c2, c3, c4, c5, c6, c7, c8, c9, c10⟩ := ptAt_of_heap hbx
        have hfr := frozen_of_box hbx
        have HPA := Lib.hid (ptAt_set (p := Pt.zero) (there_of_box hbx))
        have HBB := Lib.hid (below_setCells (below_trans HW.out.bel HBL.out) (Nat.le_refl w.heap.size) (by have := HBL.out.size; omega) 0 Pt.zero.cs)
        clear hbx
        go_wp2
        refine bodyPost_world (wo.setCells w.heap.size 0 Pt.zero.cs) rfl ?_
        clear c0 c1 c2 c3 c4 c5 c6 c7 c8 c9 c10 hfr
        generalize wo.setCells w.heap.size 0 Pt.zero.cs = w9 at *
        obtain ⟨c0, c1, c2, c3, c4, c5, c6, c7, c8, c9, c10⟩ := HPA.out
        exact bodyPost_ret (v := .tuple #[Pt.zero.v, .bool false]) (by simp [results, Tryd.results55, go_sem, c0, c1, c2, c3, c4, c5, c6, c7, c8, c9, c10]) rfl ⟨Pt.zero, false, rfl, (fun h => by cases h), (fun h => absurd h HNL.out), HBB.out⟩
      · have hkb : (kd == 0) = false := by rw [beq_eq_false_iff_ne]; exact hk0
        have HFL := Lib.hid (flds_length ⟨0, kd, 0, 0, 0, 0, 0, 0, 0, 0, 0⟩)
        by_cases hL : N.length = cnt kd + 1
        · have hLb : ((N.length : Int) - 1 != (cnt kd : Int)) = false := by rw [hL]; simp
          match N, hL, HOW, HLI, HN64, HCL, hnc, hLb with
          | a :: l, hL, HOW, HLI, HN64, HCL, hnc, hLb =>
            have hL2 : l.length = cnt kd := by simpa using hL
            obtain ⟨g, rfl, hcells⟩ := HCL.out (by simp)
            have HCS := Lib.hid hcells
            clear hcells
            have n0 : wo.cell? ⟨g, 0, none⟩ = some (.int .i64 a) := HCS.out 0 a rfl
            have hgz := lt_of_cell n0
            simp only at hgz
            simp only [List.length_cons] at hLb hnc ⊢
            have HL2 := Lib.hid hL2
            have hll : l.length ≤ 3 := by rw [hL2]; unfold cnt; split <;> (try split) <;> omega
            have hl2 : 2 ≤ l.length := by rw [hL2]; unfold cnt; split <;> (try split) <;> omega
            have hc1 : ¬ c = 1 := by omega
            clear hL hL2 HCL
            go_wp2_with fail
            refine (fields_any ⟨0, kd, 0, 0, 0, 0, 0, 0, 0, 0, 0⟩ _).mono ?_
            rintro e w3 ⟨b3, rfl, _, hb3⟩
            rw [HFL.out]
            have hb3c := bcell hb3
            have HB3 := Lib.hid (below_trans HBL.out hb3)
            clear hb3
            have HI3 : Hid (∀ k x, l[k]? = some x → w3.cell? ⟨g, 1 + k, none⟩ = some (.int .i64 x)) := fun k x hk => by
              have := HCS.out (1 + k) x (by rw [Nat.add_comm]; simpa using hk)
              rw [hb3c _ _ hgz]; exact this
            go_upto_region 20 with fail
            go_cut [12] (fun s12 wx => ∃ g12 : Nat, s12 = .pointer (some ⟨g12, 0, none⟩) ∧ Hid (PtAt wx g12 (mk a kd l) ∧ w1.heap.size ≤ g12 ∧ Below w1.heap.size w1 wx))
            case first =>
              have n3 : w3.cell? ⟨g, 0, none⟩ = some (.int .i64 a) := (hb3c _ _ hgz).trans n0
              have hg3 : g < w3.heap.size := lt_of_cell n3
              have hb1 : (1 : Int) ≤ (l.length : Int) + 1 := by omega
              refine wp_region_held_drew (S := (fun w' => w'.cell? ⟨g, 0, none⟩ = some (.int .i64 a) ∧ Hid (Below w3.heap.size w3 w'))) (by kernel_rfl) ?_ (fun hHeld => ?_)
              · (try dsimp only); exact ⟨n3, below_drewN (Below.refl _ _) 1⟩
              refine wpAnyH_take (i := 0) (v := ?v53) rfl (by kernel_rfl) (by kernel_rfl) (by kernel_rfl) (fun _ _ _ h => h) (Or.inl ⟨by rfl, ?hy53⟩) hHeld ?_
              case hy53 => (intro w hSw; (try dsimp only at hSw); go_simp; try with_reducible rfl)
              (try simp only [Act.put, List.setIfInBounds_toArray, List.set_cons_zero, List.set_cons_succ, List.getElem_toArray, List.getElem_cons_zero])
              refine wpAnyH_take (i := 1) (v := ?v54) rfl (by kernel_rfl) (by kernel_rfl) (by kernel_rfl) (fun _ _ _ h => h) (Or.inl ⟨by rfl, ?hy54⟩) hHeld ?_
              case hy54 => (intro w hSw; (try dsimp only at hSw); go_simp; try with_reducible rfl)
              (try simp only [Act.put, List.setIfInBounds_toArray, List.set_cons_zero, List.set_cons_succ, List.getElem_toArray, List.getElem_cons_zero, List.getElem_cons_succ])
              refine wpAnyH_take (i := 2) (v := ?v55) rfl (by kernel_rfl) (by kernel_rfl) (by kernel_rfl) (fun _ _ _ h => h) (Or.inl ⟨by rfl, ?hy55⟩) hHeld ?_
              case hy55 => (intro w hSw; (try dsimp only at hSw); go_simp; try with_reducible rfl)
              (try simp only [Act.put, List.setIfInBounds_toArray, List.set_cons_zero, List.set_cons_succ, List.getElem_toArray, List.getElem_cons_zero, List.getElem_cons_succ])
              refine wpAnyH_take (i := 3) (v := ?v56) rfl (by kernel_rfl) (by kernel_rfl) (by kernel_rfl) (fun _ _ _ h => h) (Or.inl ⟨by rfl, ?hy56⟩) hHeld ?_
              case hy56 => (intro w hSw; (try dsimp only at hSw); go_simp; try with_reducible rfl)
              (try simp only [Act.put, List.setIfInBounds_toArray, List.set_cons_zero, List.set_cons_succ, List.getElem_toArray, List.getElem_cons_zero, List.getElem_cons_succ])
              refine wpAnyH_take (i := 4) (v := ?v57) rfl (by kernel_rfl) (by kernel_rfl) (by kernel_rfl) (fun _ _ _ h => h) (Or.inl ⟨by rfl, ?hy57⟩) hHeld ?_
              case hy57 => (intro w hSw; (try dsimp only at hSw); go_simp; try with_reducible rfl)
              (try simp only [Act.put, List.setIfInBounds_toArray, List.set_cons_zero, List.set_cons_succ, List.getElem_toArray, List.getElem_cons_zero, List.getElem_cons_succ])
              refine wpAnyH_take (i := 5) (v := ?v58) rfl (by kernel_rfl) (by kernel_rfl) (by kernel_rfl) (fun _ _ _ h => h) (Or.inl ⟨by rfl, ?hy58⟩) hHeld ?_
              case hy58 => (intro w hSw; (try dsimp only at hSw); go_simp; try with_reducible rfl)
              (try simp only [Act.put, List.setIfInBounds_toArray, List.set_cons_zero, List.set_cons_succ, List.getElem_toArray, List.getElem_cons_zero, List.getElem_cons_succ])
              refine wpAnyH_ready (rs := [6, 7]) (by kernel_rfl) (by simp) ?_
              refine (AllReadyH.cons rfl (fun K hK => ?_) (AllReadyH.cons rfl (fun K hK => ?_) AllReadyH.nil))
              ·
                go_simp
                (refine (point_any a kd l HL2.out g 1 (c - 1) _ (fun k x hk => below_cell hHeld.2.out (HI3.out k x hk))).mono ?_; rintro e w4 ⟨rfl, hb4⟩)
                refine hK.out _ _ ?_ (fun hHeld => ?_)
                · (try dsimp only); exact ⟨below_cell hb4 hHeld.1, below_trans hHeld.2.out hb4⟩
                clear hK K
                (try simp only [Act.put, List.setIfInBounds_toArray, List.set_cons_zero, List.set_cons_succ, List.getElem_toArray, List.getElem_cons_zero, List.getElem_cons_succ])
                refine wpAnyH_ready (rs := [7]) (by kernel_rfl) (by simp) ?_
                refine (AllReadyH.cons rfl (fun K hK => ?_) AllReadyH.nil)
                go_simp
                refine hK.out _ _ ?_ (fun hHeld => ?_)
                · (try dsimp only); exact ⟨below_cell ((Below.refl _ _).alloc (Nat.le_refl _) _) hHeld.1, below_trans hHeld.2.out ((Below.refl _ _).alloc (Nat.le_refl _) _)⟩
                clear hK K
                (try simp only [Act.put, List.setIfInBounds_toArray, List.set_cons_zero, List.set_cons_succ, List.getElem_toArray, List.getElem_cons_zero, List.getElem_cons_succ])
                refine wpAnyH_ready (rs := [8]) (by kernel_rfl) (by simp) ?_
                refine (AllReadyH.cons rfl (fun K hK => ?_) AllReadyH.nil)
                (simp only [List.getElem_toArray, List.getElem_cons_zero, List.getElem_cons_succ]; rw [if_pos (by rfl)]; refine wp_store_mid 23 (.tmp 12) (.tmp 65) rfl (w4.heap.size) (0) ((mk a kd l).cs.toArray) (by rfl) (by rfl) ?_ ?_ ?_ ?_; (exact there_of_box (heap_alloc_new w4 Pt.zero.box)); (exact pt_info); (exact pt_one _))
                refine hK.out _ _ ?_ (fun hHeld => ?_)
                · (try dsimp only); exact set_held hHeld n3 (by have := hb4.size; simpa using this) (by simp) _
                clear hK K
                (try simp only [Act.put])
                refine wpAnyH_done (by kernel_rfl) ?_ _
                (go_wp2; go_meet; exact ⟨w4.heap.size, rfl, ptAt_set (there_of_box (heap_alloc_new w4 Pt.zero.box)), (by have h1 := hb4.size; have h2 := HB3.out.size; simp at h1; omega), below_trans HB3.out hHeld.2.out⟩)
              ·
                go_simp
                refine hK.out _ _ ?_ (fun hHeld => ?_)
                · (try dsimp only); exact ⟨below_cell ((Below.refl _ _).alloc (Nat.le_refl _) _) hHeld.1, below_trans hHeld.2.out ((Below.refl _ _).alloc (Nat.le_refl _) _)⟩
                clear hK K
                (try simp only [Act.put, List.setIfInBounds_toArray, List.set_cons_zero, List.set_cons_succ, List.getElem_toArray, List.getElem_cons_zero, List.getElem_cons_succ])
                refine wpAnyH_ready (rs := [6]) (by kernel_rfl) (by simp) ?_
                refine (AllReadyH.cons rfl (fun K hK => ?_) AllReadyH.nil)
                go_simp
                (refine (point_any a kd l HL2.out g 1 (c - 1) _ (fun k x hk => below_cell hHeld.2.out (HI3.out k x hk))).mono ?_; rintro e w4 ⟨rfl, hb4⟩)
                refine hK.out _ _ ?_ (fun hHeld => ?_)
                · (try dsimp only); exact ⟨below_cell hb4 hHeld.1, below_trans hHeld.2.out hb4⟩
                clear hK K
                (try simp only [Act.put, List.setIfInBounds_toArray, List.set_cons_zero, List.set_cons_succ, List.getElem_toArray, List.getElem_cons_zero, List.getElem_cons_succ])
                refine wpAnyH_ready (rs := [8]) (by kernel_rfl) (by simp) ?_
                refine (AllReadyH.cons rfl (fun K hK => ?_) AllReadyH.nil)
                (simp only [List.getElem_toArray, List.getElem_cons_zero, List.getElem_cons_succ]; rw [if_pos (by rfl)]; refine wp_store_mid 23 (.tmp 12) (.tmp 65) rfl (w3.heap.size) (0) ((mk a kd l).cs.toArray) (by rfl) (by rfl) ?_ ?_ ?_ ?_; (exact there_of_box ((hb4.block w3.heap.size (by simp)).trans (heap_alloc_new w3.drew Pt.zero.box))); (exact pt_info); (exact pt_one _))
                refine hK.out _ _ ?_ (fun hHeld => ?_)
                · (try dsimp only); exact set_held hHeld n3 (Nat.le_refl _) (by have := hb4.size; simp at this; omega) _
                clear hK K
                (try simp only [Act.put])
                refine wpAnyH_done (by kernel_rfl) ?_ _
                (go_wp2; go_meet; exact ⟨w3.heap.size, rfl, ptAt_set (there_of_box ((hb4.block w3.heap.size (by simp)).trans (heap_alloc_new w3.drew Pt.zero.box))), HB3.out.size, below_trans HB3.out hHeld.2.out⟩)
            case rest =>
              obtain ⟨g12, rfl, hcut⟩ := hcut
              obtain ⟨p, hp⟩ : ∃ p, p = mk a kd l := ⟨_, rfl⟩
              rw [← hp] at hcut
              have HFP : Hid p.Fits := by rw [hp]; exact mk_fits (HN64.out a (List.mem_cons_self ..)) (HKR.out) (fun x hx => HN64.out x (List.mem_cons_of_mem _ hx))
              have HLP : Hid (∀ q, IsLine s.data.toList q → p = q) := fun q hq => by
                obtain ⟨e1, e2⟩ := HLI.out q hq
                injection e1 with e1 e3
                rw [hp, e1, e2, e3]
                exact (okP_parts hq.ok).2.2.1.symm
              clear hp
              obtain ⟨c0, c1, c2, c3, c4, c5, c6, c7, c8, c9, c10⟩ := hcut.out.1
              have hg12 := Nat.lt_of_lt_of_le hz0 hcut.out.2.1
              have HBC := Lib.hid hcut.out.2.2
              have HXC : Hid (wc.heap[w.heap.size]? = some Pt.zero.box) := (HBC.out.block w.heap.size hz0).trans HW.out.box
              have HEC := Lib.hid (HE.out.below (below_trans HW.out.bel HBC.out))
              clear hcut
              have hsz : ¬ (9223372036854775807 < s.size + 1) := by omega
              by_cases hok : okP p = true
              · by_cases hln : lineB p = s ++ nl
                · have hlb := beqT_yes hln
                  have HLN : Hid (IsLine s.data.toList p) := ⟨hok, HFP.out, isLine_iff.1 hln⟩
                  clear hln
                  go_wp2
                  refine wp_region_held_drew (S := (fun w' => (w'.cell? ⟨g12, 0, none⟩ = some (.int .i64 p.at_) ∧ w'.cell? ⟨g12, 1, none⟩ = some (.int .i64 p.kind) ∧ w'.cell? ⟨g12, 2, none⟩ = some (.int .i64 p.tbl) ∧ w'.cell? ⟨g12, 3, none⟩ = some (.int .i64 p.wri) ∧ w'.cell? ⟨g12, 4, none⟩ = some (.int .i64 p.rdr) ∧ w'.cell? ⟨g12, 5, none⟩ = some (.int .i64 p.idx) ∧ w'.cell? ⟨g12, 6, none⟩ = some (.int .i64 p.tok) ∧ w'.cell? ⟨g12, 7, none⟩ = some (.int .i64 p.rnd) ∧ w'.cell? ⟨g12, 8, none⟩ = some (.int .i64 p.rep) ∧ w'.cell? ⟨g12, 9, none⟩ = some (.int .i64 p.ver) ∧ w'.cell? ⟨g12, 10, none⟩ = some (.int .i64 p.hol)) ∧ Hid (Below w.heap.size w w' ∧ w'.there w.heap.size 0 11))) (by kernel_rfl) ?_ (fun hHeld => ?_)
                  · (try dsimp only); exact ⟨⟨c0, c1, c2, c3, c4, c5, c6, c7, c8, c9, c10⟩, below_drewN (below_trans HW.out.bel HBC.out) 1, there_of_box (w := wc.drew) HXC.out⟩
                  refine wpAnyH_take (i := 0) (v := ?v59) rfl (by kernel_rfl) (by kernel_rfl) (by kernel_rfl) (fun _ _ _ h => h) (Or.inl ⟨by rfl, ?hy59⟩) hHeld ?_
                  case hy59 => (intro w hSw; (try dsimp only at hSw); go_simp; try with_reducible rfl)
                  (try simp only [Act.put, List.setIfInBounds_toArray, List.set_cons_zero, List.set_cons_succ, List.getElem_toArray, List.getElem_cons_zero])
                  refine wpAnyH_take (i := 1) (v := ?v60) rfl (by kernel_rfl) (by kernel_rfl) (by kernel_rfl) (fun _ _ _ h => h) (Or.inl ⟨by rfl, ?hy60⟩) hHeld ?_
                  case hy60 => (intro w hSw; (try dsimp only at hSw); go_simp; try with_reducible rfl)
                  (try simp only [Act.put, List.setIfInBounds_toArray, List.set_cons_zero, List.set_cons_succ, List.getElem_toArray, List.getElem_cons_zero, List.getElem_cons_succ])
                  refine wpAnyH_ready (rs := [2]) (by kernel_rfl) (by simp) ?_
                  refine (AllReadyH.cons rfl (fun K hK => ?_) AllReadyH.nil)
                  go_simp
                  (refine (right_any p _).mono ?_; rintro e w4 ⟨rfl, hb4⟩; rw [hok])
                  refine hK.out _ _ ?_ (fun hHeld => ?_)
                  · (try dsimp only); exact hold_keep (T := fun u => u.there w.heap.size 0 11) there_below hHeld hb4
                  clear hK K
                  (try simp only [Act.put, List.setIfInBounds_toArray, List.set_cons_zero, List.set_cons_succ, List.getElem_toArray, List.getElem_cons_zero, List.getElem_cons_succ])
                  refine wpAnyH_take (i := 3) (v := ?v61) rfl (by kernel_rfl) (by kernel_rfl) (by kernel_rfl) (fun _ _ _ h => h) (Or.inl ⟨by rfl, ?hy61⟩) hHeld ?_
                  case hy61 => (intro w hSw; (try dsimp only at hSw); go_simp; try with_reducible rfl)
                  (try simp only [Act.put, List.setIfInBounds_toArray, List.set_cons_zero, List.set_cons_succ, List.getElem_toArray, List.getElem_cons_zero, List.getElem_cons_succ])
                  refine wpAnyH_take (i := 4) (v := ?v62) rfl (by kernel_rfl) (by kernel_rfl) (by kernel_rfl) (fun _ _ _ h => h) (Or.inl ⟨by rfl, ?hy62⟩) hHeld ?_
                  case hy62 => (intro w hSw; (try dsimp only at hSw); go_simp; try with_reducible rfl)
                  (try simp only [Act.put, List.setIfInBounds_toArray, List.set_cons_zero, List.set_cons_succ, List.getElem_toArray, List.getElem_cons_zero, List.getElem_cons_succ])
                  refine wpAnyH_take (i := 6) (v := ?v63) rfl (by kernel_rfl) (by kernel_rfl) (by kernel_rfl) (fun _ _ _ h => h) (Or.inl ⟨by rfl, ?hy63⟩) hHeld ?_
                  case hy63 => (intro w hSw; (try dsimp only at hSw); go_simp; try with_reducible rfl)
                  (try simp only [Act.put, List.setIfInBounds_toArray, List.set_cons_zero, List.set_cons_succ, List.getElem_toArray, List.getElem_cons_zero, List.getElem_cons_succ])
                  refine wpAnyH_take (i := 7) (v := ?v64) rfl (by kernel_rfl) (by kernel_rfl) (by kernel_rfl) (fun _ _ _ h => h) (Or.inl ⟨by rfl, ?hy64⟩) hHeld ?_
                  case hy64 => (intro w hSw; (try dsimp only at hSw); go_simp; try with_reducible rfl)
                  (try simp only [Act.put, List.setIfInBounds_toArray, List.set_cons_zero, List.set_cons_succ, List.getElem_toArray, List.getElem_cons_zero, List.getElem_cons_succ])
                  refine wpAnyH_ready (rs := [5]) (by kernel_rfl) (by simp) ?_
                  refine (AllReadyH.cons rfl (fun K hK => ?_) AllReadyH.nil)
                  go_simp
                  (refine (line_any p HFP.out _ (HE.out.below hHeld.2.out.1).tab).mono ?_; rintro e w5 ⟨rfl, hb5⟩)
                  refine hK.out _ _ ?_ (fun hHeld => ?_)
                  · (try dsimp only); exact hold_keep (T := fun u => u.there w.heap.size 0 11) there_below hHeld hb5
                  clear hK K
                  (try simp only [Act.put, List.setIfInBounds_toArray, List.set_cons_zero, List.set_cons_succ, List.getElem_toArray, List.getElem_cons_zero, List.getElem_cons_succ])
                  refine wpAnyH_take (i := 8) (v := ?v65) rfl (by kernel_rfl) (by kernel_rfl) (by kernel_rfl) (fun _ _ _ h => h) (Or.inl ⟨by rfl, ?hy65⟩) hHeld ?_
                  case hy65 => (intro w hSw; (try dsimp only at hSw); go_simp; try with_reducible rfl)
                  (try simp only [Act.put, List.setIfInBounds_toArray, List.set_cons_zero, List.set_cons_succ, List.getElem_toArray, List.getElem_cons_zero, List.getElem_cons_succ])
                  refine wpAnyH_take (i := 9) (v := ?v66) rfl (by kernel_rfl) (by kernel_rfl) (by kernel_rfl) (fun _ _ _ h => h) (Or.inl ⟨by rfl, ?hy66⟩) hHeld ?_
                  case hy66 => (intro w hSw; (try dsimp only at hSw); go_simp; try with_reducible rfl)
                  (try simp only [Act.put, List.setIfInBounds_toArray, List.set_cons_zero, List.set_cons_succ, List.getElem_toArray, List.getElem_cons_zero, List.getElem_cons_succ])
                  refine wpAnyH_ready (rs := [10]) (by kernel_rfl) (by simp) ?_
                  refine (AllReadyH.cons rfl (fun K hK => ?_) AllReadyH.nil)
                  (have hTH := hHeld.2.out.2; simp only [List.getElem_toArray, List.getElem_cons_zero, List.getElem_cons_succ]; rw [if_pos (by rfl)]; refine wp_store_mid 23 (.tmp 2) (.tmp 66) rfl (w.heap.size) (0) (p.cs.toArray) (by rfl) (by rfl) ?_ ?_ ?_ ?_; (exact hHeld.2.out.2); (exact pt_info); (exact pt_one _))
                  refine hK.out _ _ ?_ (fun hHeld => ?_)
                  · (try dsimp only); exact held_set hHeld (by omega)
                  clear hK K
                  (try simp only [Act.put])
                  refine wpAnyH_take (i := 11) (v := ?v67) rfl (by kernel_rfl) (by kernel_rfl) (by kernel_rfl) (fun _ _ _ h => h) (Or.inl ⟨by rfl, ?hy67⟩) hHeld ?_
                  case hy67 => (intro w hSw; (try dsimp only at hSw); go_simp; try with_reducible rfl)
                  (try simp only [Act.put, List.setIfInBounds_toArray, List.set_cons_zero, List.set_cons_succ, List.getElem_toArray, List.getElem_cons_zero, List.getElem_cons_succ])
                  refine wpAnyH_done (by kernel_rfl) ?_ _
                  have HPA := Lib.hid (ptAt_set (p := p) hTH)
                  have HBB := Lib.hid hHeld.2.out.1
                  generalize w5.setCells w.heap.size 0 p.cs = w9 at *
                  clear c0 c1 c2 c3 c4 c5 c6 c7 c8 c9 c10 hHeld
                  go_wp2
                  obtain ⟨c0, c1, c2, c3, c4, c5, c6, c7, c8, c9, c10⟩ := HPA.out
                  exact bodyPost_ret (v := .tuple #[p.v, .bool true]) (by simp [results, Tryd.results55, go_sem, c0, c1, c2, c3, c4, c5, c6, c7, c8, c9, c10]) rfl ⟨p, true, rfl, (fun _ => HLN.out), (fun _ => rfl), HBB.out⟩
                · have hlb := beqT_no hln
                  have HNL : Hid (¬ ∃ q, IsLine s.data.toList q) := fun ⟨q, hq⟩ => hln (by rw [HLP.out q hq]; exact isLine_iff.2 hq.eq)
                  clear hln
                  go_wp2
                  refine wp_region_held_drew (S := (fun w' => (w'.cell? ⟨g12, 0, none⟩ = some (.int .i64 p.at_) ∧ w'.cell? ⟨g12, 1, none⟩ = some (.int .i64 p.kind) ∧ w'.cell? ⟨g12, 2, none⟩ = some (.int .i64 p.tbl) ∧ w'.cell? ⟨g12, 3, none⟩ = some (.int .i64 p.wri) ∧ w'.cell? ⟨g12, 4, none⟩ = some (.int .i64 p.rdr) ∧ w'.cell? ⟨g12, 5, none⟩ = some (.int .i64 p.idx) ∧ w'.cell? ⟨g12, 6, none⟩ = some (.int .i64 p.tok) ∧ w'.cell? ⟨g12, 7, none⟩ = some (.int .i64 p.rnd) ∧ w'.cell? ⟨g12, 8, none⟩ = some (.int .i64 p.rep) ∧ w'.cell? ⟨g12, 9, none⟩ = some (.int .i64 p.ver) ∧ w'.cell? ⟨g12, 10, none⟩ = some (.int .i64 p.hol)) ∧ Hid (Below w.heap.size w w' ∧ w'.there w.heap.size 0 11))) (by kernel_rfl) ?_ (fun hHeld => ?_)
                  · (try dsimp only); exact ⟨⟨c0, c1, c2, c3, c4, c5, c6, c7, c8, c9, c10⟩, below_drewN (below_trans HW.out.bel HBC.out) 1, there_of_box (w := wc.drew) HXC.out⟩
                  refine wpAnyH_take (i := 0) (v := ?v68) rfl (by kernel_rfl) (by kernel_rfl) (by kernel_rfl) (fun _ _ _ h => h) (Or.inl ⟨by rfl, ?hy68⟩) hHeld ?_
                  case hy68 => (intro w hSw; (try dsimp only at hSw); go_simp; try with_reducible rfl)
                  (try simp only [Act.put, List.setIfInBounds_toArray, List.set_cons_zero, List.set_cons_succ, List.getElem_toArray, List.getElem_cons_zero])
                  refine wpAnyH_take (i := 1) (v := ?v69) rfl (by kernel_rfl) (by kernel_rfl) (by kernel_rfl) (fun _ _ _ h => h) (Or.inl ⟨by rfl, ?hy69⟩) hHeld ?_
                  case hy69 => (intro w hSw; (try dsimp only at hSw); go_simp; try with_reducible rfl)
                  (try simp only [Act.put, List.setIfInBounds_toArray, List.set_cons_zero, List.set_cons_succ, List.getElem_toArray, List.getElem_cons_zero, List.getElem_cons_succ])
                  refine wpAnyH_ready (rs := [2]) (by kernel_rfl) (by simp) ?_
                  refine (AllReadyH.cons rfl (fun K hK => ?_) AllReadyH.nil)
                  go_simp
                  (refine (right_any p _).mono ?_; rintro e w4 ⟨rfl, hb4⟩; rw [hok])
                  refine hK.out _ _ ?_ (fun hHeld => ?_)
                  · (try dsimp only); exact hold_keep (T := fun u => u.there w.heap.size 0 11) there_below hHeld hb4
                  clear hK K
                  (try simp only [Act.put, List.setIfInBounds_toArray, List.set_cons_zero, List.set_cons_succ, List.getElem_toArray, List.getElem_cons_zero, List.getElem_cons_succ])
                  refine wpAnyH_take (i := 3) (v := ?v70) rfl (by kernel_rfl) (by kernel_rfl) (by kernel_rfl) (fun _ _ _ h => h) (Or.inl ⟨by rfl, ?hy70⟩) hHeld ?_
                  case hy70 => (intro w hSw; (try dsimp only at hSw); go_simp; try with_reducible rfl)
                  (try simp only [Act.put, List.setIfInBounds_toArray, List.set_cons_zero, List.set_cons_succ, List.getElem_toArray, List.getElem_cons_zero, List.getElem_cons_succ])
                  refine wpAnyH_take (i := 4) (v := ?v71) rfl (by kernel_rfl) (by kernel_rfl) (by kernel_rfl) (fun _ _ _ h => h) (Or.inl ⟨by rfl, ?hy71⟩) hHeld ?_
                  case hy71 => (intro w hSw; (try dsimp only at hSw); go_simp; try with_reducible rfl)
                  (try simp only [Act.put, List.setIfInBounds_toArray, List.set_cons_zero, List.set_cons_succ, List.getElem_toArray, List.getElem_cons_zero, List.getElem_cons_succ])
                  refine wpAnyH_take (i := 6) (v := ?v72) rfl (by kernel_rfl) (by kernel_rfl) (by kernel_rfl) (fun _ _ _ h => h) (Or.inl ⟨by rfl, ?hy72⟩) hHeld ?_
                  case hy72 => (intro w hSw; (try dsimp only at hSw); go_simp; try with_reducible rfl)
                  (try simp only [Act.put, List.setIfInBounds_toArray, List.set_cons_zero, List.set_cons_succ, List.getElem_toArray, List.getElem_cons_zero, List.getElem_cons_succ])
                  refine wpAnyH_take (i := 7) (v := ?v73) rfl (by kernel_rfl) (by kernel_rfl) (by kernel_rfl) (fun _ _ _ h => h) (Or.inl ⟨by rfl, ?hy73⟩) hHeld ?_
                  case hy73 => (intro w hSw; (try dsimp only at hSw); go_simp; try with_reducible rfl)
                  (try simp only [Act.put, List.setIfInBounds_toArray, List.set_cons_zero, List.set_cons_succ, List.getElem_toArray, List.getElem_cons_zero, List.getElem_cons_succ])
                  refine wpAnyH_ready (rs := [5]) (by kernel_rfl) (by simp) ?_
                  refine (AllReadyH.cons rfl (fun K hK => ?_) AllReadyH.nil)
                  go_simp
                  (refine (line_any p HFP.out _ (HE.out.below hHeld.2.out.1).tab).mono ?_; rintro e w5 ⟨rfl, hb5⟩)
                  refine hK.out _ _ ?_ (fun hHeld => ?_)
                  · (try dsimp only); exact hold_keep (T := fun u => u.there w.heap.size 0 11) there_below hHeld hb5
                  clear hK K
                  (try simp only [Act.put, List.setIfInBounds_toArray, List.set_cons_zero, List.set_cons_succ, List.getElem_toArray, List.getElem_cons_zero, List.getElem_cons_succ])
                  refine wpAnyH_take (i := 8) (v := ?v74) rfl (by kernel_rfl) (by kernel_rfl) (by kernel_rfl) (fun _ _ _ h => h) (Or.inl ⟨by rfl, ?hy74⟩) hHeld ?_
                  case hy74 => (intro w hSw; (try dsimp only at hSw); go_simp; try with_reducible rfl)
                  (try simp only [Act.put, List.setIfInBounds_toArray, List.set_cons_zero, List.set_cons_succ, List.getElem_toArray, List.getElem_cons_zero, List.getElem_cons_succ])
                  refine wpAnyH_take (i := 9) (v := ?v75) rfl (by kernel_rfl) (by kernel_rfl) (by kernel_rfl) (fun _ _ _ h => h) (Or.inl ⟨by rfl, ?hy75⟩) hHeld ?_
                  case hy75 => (intro w hSw; (try dsimp only at hSw); go_simp; try with_reducible rfl)
                  (try simp only [Act.put, List.setIfInBounds_toArray, List.set_cons_zero, List.set_cons_succ, List.getElem_toArray, List.getElem_cons_zero, List.getElem_cons_succ])
                  refine wpAnyH_ready (rs := [10]) (by kernel_rfl) (by simp) ?_
                  refine (AllReadyH.cons rfl (fun K hK => ?_) AllReadyH.nil)
                  (have hTH := hHeld.2.out.2; simp only [List.getElem_toArray, List.getElem_cons_zero, List.getElem_cons_succ]; rw [if_pos (by rfl)]; refine wp_store_mid 23 (.tmp 2) (.tmp 66) rfl (w.heap.size) (0) (p.cs.toArray) (by rfl) (by rfl) ?_ ?_ ?_ ?_; (exact hHeld.2.out.2); (exact pt_info); (exact pt_one _))
                  refine hK.out _ _ ?_ (fun hHeld => ?_)
                  · (try dsimp only); exact held_set hHeld (by omega)
                  clear hK K
                  (try simp only [Act.put])
                  refine wpAnyH_take (i := 11) (v := ?v76) rfl (by kernel_rfl) (by kernel_rfl) (by kernel_rfl) (fun _ _ _ h => h) (Or.inl ⟨by rfl, ?hy76⟩) hHeld ?_
                  case hy76 => (intro w hSw; (try dsimp only at hSw); go_simp; try with_reducible rfl)
                  (try simp only [Act.put, List.setIfInBounds_toArray, List.set_cons_zero, List.set_cons_succ, List.getElem_toArray, List.getElem_cons_zero, List.getElem_cons_succ])
                  refine wpAnyH_done (by kernel_rfl) ?_ _
                  have HPA := Lib.hid (ptAt_set (p := p) hTH)
                  have HBB := Lib.hid hHeld.2.out.1
                  generalize w5.setCells w.heap.size 0 p.cs = w9 at *
                  clear c0 c1 c2 c3 c4 c5 c6 c7 c8 c9 c10 hHeld
                  go_wp2
                  obtain ⟨c0, c1, c2, c3, c4, c5, c6, c7, c8, c9, c10⟩ := HPA.out
                  exact bodyPost_ret (v := .tuple #[p.v, .bool false]) (by simp [results, Tryd.results55, go_sem, c0, c1, c2, c3, c4, c5, c6, c7, c8, c9, c10]) rfl ⟨p, false, rfl, (fun h => by cases h), (fun h => absurd h HNL.out), HBB.out⟩
              · have hok : okP p = false := by simpa using hok
                have HNL : Hid (¬ ∃ q, IsLine s.data.toList q) := fun ⟨q, hq⟩ => by
                  have e := HLP.out q hq
                  rw [e, hq.ok] at hok; cases hok
                go_wp2
                refine wp_region_held_drew (S := (fun w' => (w'.cell? ⟨g12, 0, none⟩ = some (.int .i64 p.at_) ∧ w'.cell? ⟨g12, 1, none⟩ = some (.int .i64 p.kind) ∧ w'.cell? ⟨g12, 2, none⟩ = some (.int .i64 p.tbl) ∧ w'.cell? ⟨g12, 3, none⟩ = some (.int .i64 p.wri) ∧ w'.cell? ⟨g12, 4, none⟩ = some (.int .i64 p.rdr) ∧ w'.cell? ⟨g12, 5, none⟩ = some (.int .i64 p.idx) ∧ w'.cell? ⟨g12, 6, none⟩ = some (.int .i64 p.tok) ∧ w'.cell? ⟨g12, 7, none⟩ = some (.int .i64 p.rnd) ∧ w'.cell? ⟨g12, 8, none⟩ = some (.int .i64 p.rep) ∧ w'.cell? ⟨g12, 9, none⟩ = some (.int .i64 p.ver) ∧ w'.cell? ⟨g12, 10, none⟩ = some (.int .i64 p.hol)) ∧ Hid (Below w.heap.size w w' ∧ w'.there w.heap.size 0 11))) (by kernel_rfl) ?_ (fun hHeld => ?_)
                · (try dsimp only); exact ⟨⟨c0, c1, c2, c3, c4, c5, c6, c7, c8, c9, c10⟩, below_drewN (below_trans HW.out.bel HBC.out) 1, there_of_box (w := wc.drew) HXC.out⟩
                refine wpAnyH_take (i := 0) (v := ?v77) rfl (by kernel_rfl) (by kernel_rfl) (by kernel_rfl) (fun _ _ _ h => h) (Or.inl ⟨by rfl, ?hy77⟩) hHeld ?_
                case hy77 => (intro w hSw; (try dsimp only at hSw); go_simp; try with_reducible rfl)
                (try simp only [Act.put, List.setIfInBounds_toArray, List.set_cons_zero, List.set_cons_succ, List.getElem_toArray, List.getElem_cons_zero])
                refine wpAnyH_take (i := 1) (v := ?v78) rfl (by kernel_rfl) (by kernel_rfl) (by kernel_rfl) (fun _ _ _ h => h) (Or.inl ⟨by rfl, ?hy78⟩) hHeld ?_
                case hy78 => (intro w hSw; (try dsimp only at hSw); go_simp; try with_reducible rfl)
                (try simp only [Act.put, List.setIfInBounds_toArray, List.set_cons_zero, List.set_cons_succ, List.getElem_toArray, List.getElem_cons_zero, List.getElem_cons_succ])
                refine wpAnyH_ready (rs := [2]) (by kernel_rfl) (by simp) ?_
                refine (AllReadyH.cons rfl (fun K hK => ?_) AllReadyH.nil)
                go_simp
                (refine (right_any p _).mono ?_; rintro e w4 ⟨rfl, hb4⟩; rw [hok])
                refine hK.out _ _ ?_ (fun hHeld => ?_)
                · (try dsimp only); exact hold_keep (T := fun u => u.there w.heap.size 0 11) there_below hHeld hb4
                clear hK K
                (try simp only [Act.put, List.setIfInBounds_toArray, List.set_cons_zero, List.set_cons_succ, List.getElem_toArray, List.getElem_cons_zero, List.getElem_cons_succ])
                refine wpAnyH_take (i := 3) (v := ?v79) rfl (by kernel_rfl) (by kernel_rfl) (by kernel_rfl) (fun _ _ _ h => h) (Or.inl ⟨by rfl, ?hy79⟩) hHeld ?_
                case hy79 => (intro w hSw; (try dsimp only at hSw); go_simp; try with_reducible rfl)
                (try simp only [Act.put, List.setIfInBounds_toArray, List.set_cons_zero, List.set_cons_succ, List.getElem_toArray, List.getElem_cons_zero, List.getElem_cons_succ])
                refine wpAnyH_take (i := 4) (v := undef) rfl (by kernel_rfl) (by kernel_rfl) (by kernel_rfl) (fun _ _ _ h => h) (Or.inr ⟨by rfl, rfl⟩) hHeld ?_
                (try simp only [Act.put, List.setIfInBounds_toArray, List.set_cons_zero, List.set_cons_succ, List.getElem_toArray, List.getElem_cons_zero, List.getElem_cons_succ])
                refine wpAnyH_take (i := 5) (v := undef) rfl (by kernel_rfl) (by kernel_rfl) (by kernel_rfl) (fun _ _ _ h => h) (Or.inr ⟨by rfl, rfl⟩) hHeld ?_
                (try simp only [Act.put, List.setIfInBounds_toArray, List.set_cons_zero, List.set_cons_succ, List.getElem_toArray, List.getElem_cons_zero, List.getElem_cons_succ])
                refine wpAnyH_take (i := 6) (v := undef) rfl (by kernel_rfl) (by kernel_rfl) (by kernel_rfl) (fun _ _ _ h => h) (Or.inr ⟨by rfl, rfl⟩) hHeld ?_
                (try simp only [Act.put, List.setIfInBounds_toArray, List.set_cons_zero, List.set_cons_succ, List.getElem_toArray, List.getElem_cons_zero, List.getElem_cons_succ])
                refine wpAnyH_take (i := 7) (v := undef) rfl (by kernel_rfl) (by kernel_rfl) (by kernel_rfl) (fun _ _ _ h => h) (Or.inr ⟨by rfl, rfl⟩) hHeld ?_
                (try simp only [Act.put, List.setIfInBounds_toArray, List.set_cons_zero, List.set_cons_succ, List.getElem_toArray, List.getElem_cons_zero, List.getElem_cons_succ])
                refine wpAnyH_take (i := 8) (v := undef) rfl (by kernel_rfl) (by kernel_rfl) (by kernel_rfl) (fun _ _ _ h => h) (Or.inr ⟨by rfl, rfl⟩) hHeld ?_
                (try simp only [Act.put, List.setIfInBounds_toArray, List.set_cons_zero, List.set_cons_succ, List.getElem_toArray, List.getElem_cons_zero, List.getElem_cons_succ])
                refine wpAnyH_take (i := 9) (v := ?v80) rfl (by kernel_rfl) (by kernel_rfl) (by kernel_rfl) (fun _ _ _ h => h) (Or.inl ⟨by rfl, ?hy80⟩) hHeld ?_
                case hy80 => (intro w hSw; (try dsimp only at hSw); go_simp; try with_reducible rfl)
                (try simp only [Act.put, List.setIfInBounds_toArray, List.set_cons_zero, List.set_cons_succ, List.getElem_toArray, List.getElem_cons_zero, List.getElem_cons_succ])
                refine wpAnyH_ready (rs := [10]) (by kernel_rfl) (by simp) ?_
                refine (AllReadyH.cons rfl (fun K hK => ?_) AllReadyH.nil)
                (have hTH := hHeld.2.out.2; simp only [List.getElem_toArray, List.getElem_cons_zero, List.getElem_cons_succ]; rw [if_pos (by rfl)]; refine wp_store_mid 23 (.tmp 2) (.tmp 66) rfl (w.heap.size) (0) (p.cs.toArray) (by rfl) (by rfl) ?_ ?_ ?_ ?_; (exact hHeld.2.out.2); (exact pt_info); (exact pt_one _))
                refine hK.out _ _ ?_ (fun hHeld => ?_)
                · (try dsimp only); exact held_set hHeld (by omega)
                clear hK K
                (try simp only [Act.put])
                refine wpAnyH_take (i := 11) (v := ?v81) rfl (by kernel_rfl) (by kernel_rfl) (by kernel_rfl) (fun _ _ _ h => h) (Or.inl ⟨by rfl, ?hy81⟩) hHeld ?_
                case hy81 => (intro w hSw; (try dsimp only at hSw); go_simp; try with_reducible rfl)
                (try simp only [Act.put, List.setIfInBounds_toArray, List.set_cons_zero, List.set_cons_succ, List.getElem_toArray, List.getElem_cons_zero, List.getElem_cons_succ])
                refine wpAnyH_done (by kernel_rfl) ?_ _
                have HPA := Lib.hid (ptAt_set (p := p) hTH)
                have HBB := Lib.hid hHeld.2.out.1
                generalize w4.setCells w.heap.size 0 p.cs = w9 at *
                clear c0 c1 c2 c3 c4 c5 c6 c7 c8 c9 c10 hHeld
                go_wp2
                obtain ⟨c0, c1, c2, c3, c4, c5, c6, c7, c8, c9, c10⟩ := HPA.out
                exact bodyPost_ret (v := .tuple #[p.v, .bool false]) (by simp [results, Tryd.results55, go_sem, c0, c1, c2, c3, c4, c5, c6, c7, c8, c9, c10]) rfl ⟨p, false, rfl, (fun h => by cases h), (fun h => absurd h HNL.out), HBB.out⟩
        · have hLb : ((N.length : Int) - 1 != (cnt kd : Int)) = true := by rw [bne_iff_ne]; omega
          have HNL : Hid (¬ ∃ q, IsLine s.data.toList q) := fun ⟨q, hq⟩ => by
            obtain ⟨e1, e2⟩ := HLI.out q hq
            apply hL
            rw [e1, e2, List.length_cons, flds_length]
          have HL := Lib.hid hL
          have hlN : N.length ≤ 1000000 := HLN9.out
          clear hL
          go_wp2_with fail
          refine (fields_any ⟨0, kd, 0, 0, 0, 0, 0, 0, 0, 0, 0⟩ _).mono ?_
          rintro e w3 ⟨b3, rfl, _, hb3⟩
          rw [HFL.out]
          have HB3 := Lib.hid (below_trans HBL.out hb3)
          clear hb3
          have hbx : w3.heap[w.heap.size]? = some Pt.zero.box := (HB3.out.block w.heap.size hz0).trans HW.out.box
          obtain ⟨c0, c1, c2, c3, c4, c5, c6, c7, c8, c9, c10⟩ := ptAt_of_heap hbx
          have hfr := frozen_of_box hbx
          have HPA := Lib.hid (ptAt_set (p := Pt.zero) (there_of_box hbx))
          have HBB := Lib.hid (below_setCells (below_trans HW.out.bel HB3.out) (Nat.le_refl w.heap.size) (by have := HB3.out.size; omega) 0 Pt.zero.cs)
          clear hbx
          go_wp2
          refine bodyPost_world (w3.setCells w.heap.size 0 Pt.zero.cs) rfl ?_
          clear c0 c1 c2 c3 c4 c5 c6 c7 c8 c9 c10 hfr
          generalize w3.setCells w.heap.size 0 Pt.zero.cs = w9 at *
          obtain ⟨c0, c1, c2, c3, c4, c5, c6, c7, c8, c9, c10⟩ := HPA.out
          exact bodyPost_ret (v := .tuple #[Pt.zero.v, .bool false]) (by simp [results, Tryd.results55, go_sem, c0, c1, c2, c3, c4, c5, c6, c7, c8, c9, c10]) rfl ⟨Pt.zero, false, rfl, (fun h => by cases h), (fun h => absurd h HNL.out), HBB.out⟩
end Go.Proofs.YtcmnmcholfellaaDoor
