/-
  Walks: a trace read from its text, in package trace.
-/
import Derived.Test.YtcmnmcholfellaaDoorQ3
import Derived.Test.YtcmnmcholfellaaDoorQ7
import Derived.Test.YtcmnmcholfellaaDoorG1
import Derived.Test.YtcmnmcholfellaaDoorK1
namespace Go.Proofs.YtcmnmcholfellaaDoor
open Go.RowKit

/-- What Parse leaves. -/
def ParsePost (r : List Pt × Int × Int) (w : World) (e : Ending) (w' : World) : Prop :=
  ∃ A c, e = .returned (.tuple #[.slice A r.1.length c, .int .i64 r.2.1, .int .i64 r.2.2]) ∧ PtsR w' A r.1 ∧ Below w.heap.size w w'

theorem mkB_data (l : List UInt8) : (⟨l.toArray⟩ : ByteArray).data.toList = l := by simp

theorem cut_parts {t : List UInt8} : (Lib.cut t [10]).1.length ≤ t.length ∧ (Lib.cut t [10]).2.1.length ≤ t.length := by
  by_cases hm : (10 : UInt8) ∈ t
  · obtain ⟨a, b, rfl, ha⟩ := List.eq_append_cons_of_mem hm
    rw [cut_yes ha]; simp; omega
  · rw [cut_no hm]; simp

/-- The state of the loop. -/
structure PaSt (text : ByteArray) (w : World) (t : ByteArray) (out : List Pt) (v : Value) (wr : World) : Prop where
  eq : parseL t.data.toList out = parseL text.data.toList []
  own : Own wr w.heap.size v out
  bel : Below w.heap.size w wr

theorem late_nil (p : Pt) : late [] p = false := rfl
theorem late_last {out : List Pt} {p : Pt} (h : 0 < out.length) : late out p = decide (p.at_ < (out[out.length - 1]'(by omega)).at_) := by
  unfold late
  rw [List.getLast?_eq_getElem?, List.getElem?_eq_getElem (by omega)]

theorem Own.below {w w' : World} {base : Nat} {v : Value} {l : List Pt} (h : Own w base v l) (hb : Below w.heap.size w w') : Own w' base v l := ownsRow_below h hb

set_option maxHeartbeats 4000000 in
set_option maxRecDepth 100000 in
theorem parse_any (text : ByteArray) (hs : text.size ≤ 65536) (w : World) (hE : Env w) :
    Calls Tryd.prog 30 #[.string text] w (ParsePost (parseR text) w) := by
  have HE := Lib.hid hE
  clear hE
  have hsI : ¬ (65536 : Int) < (text.size : Int) := by omega
  go_enter Tryd.func30, Tryd.ntmps30
  go_wp2
  go_loopw [0, 5, 6] (fun s0 s5 s6 wr => ∃ (t : ByteArray) (out : List Pt) (A : Option Addr) (c : Nat), t.size ≤ text.size ∧ out.length ≤ 10000 ∧ s0 = .string t ∧ s5 = .slice A out.length c ∧ s6 = .int .i64 ((out.length : Int) + 1) ∧ Hid (PaSt text w t out (.slice A out.length c) wr)) (fun s0 _ _ _ => match s0 with | .string t => t.size | _ => 0)
  case atStart => exact ⟨text, [], none, 0, by omega, by simp, rfl, rfl, rfl, ⟨rfl, Own.nil _ _, Below.refl _ _⟩⟩
  case round =>
    obtain ⟨t, out, A, c, hts, hol, rfl, rfl, rfl, hh⟩ := hrel
    obtain ⟨wo, rfl⟩ : ∃ wo : World, wo = wr := ⟨_, rfl⟩
    by_cases ht0 : t.size = 0
    · have h1 : t.toList = [] := by rw [Lib.toList_data]; exact List.eq_nil_of_length_eq_zero ht0
      have h3 : t.toList.isEmpty = true := by rw [h1]; rfl
      have HR : Hid (parseR text = (out, 0, 0)) := by
        show parseR text = _
        unfold parseR
        rw [← hh.out.eq, show t.data.toList = [] from List.eq_nil_of_length_eq_zero ht0, parseL_nil]
      clear ht0
      go_wp2
      go_ret3
      rw [HR.out]
      obtain ⟨A2, c2, e2, hr2⟩ := hh.out.own.reads
      injection e2 with e2 _ _
      subst e2
      exact ⟨A, c, rfl, hr2, hh.out.bel⟩
    · have h1 : ¬ t.toList = [] := by rw [Lib.toList_data]; intro e; exact ht0 (congrArg List.length e)
      have h3 : t.toList.isEmpty = false := by simpa using h1
      have HT0 : Hid (t.data.toList ≠ []) := by rw [← Lib.toList_data]; exact h1
      clear ht0
      go_wp2_with fail
      refine (cut_any t (by omega) _ (HE.out.below hh.out.bel)).mono ?_
      rintro e w2 ⟨rfl, hb2⟩
      have HCP := Lib.hid (cut_parts (t := t.data.toList))
      have HCL := Lib.hid (cut_lt (t := t.data.toList))
      obtain ⟨⟨a, b, ok⟩, hc⟩ : ∃ x, x = Lib.cut t.data.toList [10] := ⟨_, rfl⟩
      have HC := Lib.hid hc
      rw [← hc] at HCP HCL ⊢
      have hal : a.length ≤ t.size := HCP.out.1
      have hbl : b.length ≤ t.size := HCP.out.2
      have HB2 := Lib.hid (below_trans hh.out.bel hb2)
      have HO2 := Lib.hid (hh.out.own.below hb2)
      have HEQ := Lib.hid hh.out.eq
      clear hc hb2 hh
      go_wp2_with fail
      refine (read_any ⟨a.toArray⟩ (by show a.toArray.size ≤ _; simp; omega) _ (HE.out.below HB2.out)).mono ?_
      rintro e w3 ⟨p, fine, rfl, hy, hn, hb3⟩
      rw [mkB_data] at hy hn
      have HY := Lib.hid hy
      have HN := Lib.hid hn
      have HB3 := Lib.hid (below_trans HB2.out hb3)
      have HO3 := Lib.hid (HO2.out.below hb3)
      clear hy hn hb3
      cases ok with
      | false =>
        have HR : Hid (parseR text = ([], (out.length : Int) + 1, 2)) := by
          show parseR text = _
          unfold parseR
          rw [← HEQ.out, parseL_open HT0.out (by rw [← HC.out])]
        go_wp2
        go_ret3
        rw [HR.out]
        exact ⟨none, 0, rfl, PtsR.nil _ _, HB3.out.alloc HB3.out.size _⟩
      | true =>
        cases fine with
        | false =>
          have HR : Hid (parseR text = ([], (out.length : Int) + 1, 2)) := by
            show parseR text = _
            unfold parseR
            rw [← HEQ.out, parseL_bad HT0.out (by rw [← HC.out]; exact readP_none (fun h => by have := HN.out h; cases this))]
          go_wp2
          go_ret3
          rw [HR.out]
          exact ⟨none, 0, rfl, PtsR.nil _ _, HB3.out.alloc HB3.out.size _⟩
        | true =>
          have HRP : Hid (readP (Lib.cut t.data.toList [10]).1 = some p) := by rw [← HC.out]; exact readP_some (HY.out rfl)
          have HC2 : Hid ((Lib.cut t.data.toList [10]).2.2 = true) := by rw [← HC.out]; rfl
          have HBL : Hid (b.length < t.size) := HCL.out rfl
          have HP4 := Lib.hid (ptAt_box (Below.refl (w3.alloc p.box).heap.size (w3.alloc p.box)))
          have HO4 : Hid (Own (w3.alloc p.box) w.heap.size (.slice A out.length c) out) := World.ownsRow.alloc HO3.out _
          have HB4 := Lib.hid (HB3.out.alloc HB3.out.size p.box)
          go_wp2
          generalize w3.alloc p.box = w4 at *
          by_cases hne : 0 < out.length
          · have hneI : (0 : Int) < (out.length : Int) := by omega
            have hned : decide ((0 : Int) < (out.length : Int)) = true := by simpa using hneI
            have hlast : out.length - 1 < out.length := by omega
            have p0 : w4.cell? ⟨w3.heap.size, 0, none⟩ = some (.int .i64 p.at_) := HP4.out.c0
            have HLL := Lib.hid (late_last (p := p) hne)
            obtain ⟨A2, c2, e2, hr2⟩ := HO4.out.reads
            injection e2 with e2 _ e3
            subst e2
            obtain ⟨b', o', rfl, _, ⟨l0, _, _, _, _, _, _, _, _, _, _⟩⟩ := hr2.at_ hlast
            clear hr2 e3
            have g1 : IntKind.i64.wrap ((out.length : Int) - 1) = (out.length : Int) - 1 := IntWalk.i64_in _ (by omega)
            have g2 : (0 : Int) ≤ (out.length : Int) - 1 := by omega
            have g3 : ((out.length : Int) - 1).toNat = out.length - 1 := by omega
            have g4 : (out.length : Int) - 1 < (out.length : Int) := by omega
            have g5 : (1 : Int) ≤ (out.length : Int) := by omega
            by_cases hlt : p.at_ < (out[out.length - 1]).at_
            · have hltd : decide (p.at_ < (out[out.length - 1]).at_) = true := by simpa using hlt
              have HR : Hid (parseR text = ([], (out.length : Int) + 1, 1)) := by
                show parseR text = _
                unfold parseR
                rw [← HEQ.out, parseL_late HT0.out HC2.out HRP.out (by rw [HLL.out]; exact hltd)]
              refine wp_region_held_drew (S := (fun w' => w'.cell? ⟨w3.heap.size, 0, none⟩ = some (.int .i64 p.at_) ∧ w'.cell? ⟨b', o' + (out.length - 1) * 11, none⟩ = some (.int .i64 (out[out.length - 1]).at_))) (by kernel_rfl) ?_ (fun hHeld => ?_)
              · (try dsimp only); go_keep
              refine wpAnyH_take (i := 0) (v := ?v112) rfl (by kernel_rfl) (by kernel_rfl) (by kernel_rfl) (fun _ _ _ h => h) (Or.inl ⟨by rfl, ?hy112⟩) hHeld ?_
              case hy112 => (intro w hSw; (try dsimp only at hSw); go_simp; try with_reducible rfl)
              (try simp only [Act.put, List.setIfInBounds_toArray, List.set_cons_zero, List.set_cons_succ, List.getElem_toArray, List.getElem_cons_zero])
              refine wpAnyH_take (i := 1) (v := ?v113) rfl (by kernel_rfl) (by kernel_rfl) (by kernel_rfl) (fun _ _ _ h => h) (Or.inl ⟨by rfl, ?hy113⟩) hHeld ?_
              case hy113 => (intro w hSw; (try dsimp only at hSw); go_simp; try with_reducible rfl)
              (try simp only [Act.put, List.setIfInBounds_toArray, List.set_cons_zero, List.set_cons_succ, List.getElem_toArray, List.getElem_cons_zero, List.getElem_cons_succ])
              refine wpAnyH_take (i := 2) (v := ?v114) rfl (by kernel_rfl) (by kernel_rfl) (by kernel_rfl) (fun _ _ _ h => h) (Or.inl ⟨by rfl, ?hy114⟩) hHeld ?_
              case hy114 => (intro w hSw; (try dsimp only at hSw); go_simp; try with_reducible rfl)
              (try simp only [Act.put, List.setIfInBounds_toArray, List.set_cons_zero, List.set_cons_succ, List.getElem_toArray, List.getElem_cons_zero, List.getElem_cons_succ])
              refine wpAnyH_take (i := 3) (v := ?v115) rfl (by kernel_rfl) (by kernel_rfl) (by kernel_rfl) (fun _ _ _ h => h) (Or.inl ⟨by rfl, ?hy115⟩) hHeld ?_
              case hy115 => (intro w hSw; (try dsimp only at hSw); go_simp; try with_reducible rfl)
              (try simp only [Act.put, List.setIfInBounds_toArray, List.set_cons_zero, List.set_cons_succ, List.getElem_toArray, List.getElem_cons_zero, List.getElem_cons_succ])
              refine wpAnyH_take (i := 4) (v := ?v116) rfl (by kernel_rfl) (by kernel_rfl) (by kernel_rfl) (fun _ _ _ h => h) (Or.inl ⟨by rfl, ?hy116⟩) hHeld ?_
              case hy116 => (intro w hSw; (try dsimp only at hSw); go_simp; try with_reducible rfl)
              (try simp only [Act.put, List.setIfInBounds_toArray, List.set_cons_zero, List.set_cons_succ, List.getElem_toArray, List.getElem_cons_zero, List.getElem_cons_succ])
              refine wpAnyH_take (i := 5) (v := ?v117) rfl (by kernel_rfl) (by kernel_rfl) (by kernel_rfl) (fun _ _ _ h => h) (Or.inl ⟨by rfl, ?hy117⟩) hHeld ?_
              case hy117 => (intro w hSw; (try dsimp only at hSw); go_simp; try with_reducible rfl)
              (try simp only [Act.put, List.setIfInBounds_toArray, List.set_cons_zero, List.set_cons_succ, List.getElem_toArray, List.getElem_cons_zero, List.getElem_cons_succ])
              refine wpAnyH_take (i := 6) (v := ?v118) rfl (by kernel_rfl) (by kernel_rfl) (by kernel_rfl) (fun _ _ _ h => h) (Or.inl ⟨by rfl, ?hy118⟩) hHeld ?_
              case hy118 => (intro w hSw; (try dsimp only at hSw); go_simp; try with_reducible rfl)
              (try simp only [Act.put, List.setIfInBounds_toArray, List.set_cons_zero, List.set_cons_succ, List.getElem_toArray, List.getElem_cons_zero, List.getElem_cons_succ])
              refine wpAnyH_take (i := 7) (v := ?v119) rfl (by kernel_rfl) (by kernel_rfl) (by kernel_rfl) (fun _ _ _ h => h) (Or.inl ⟨by rfl, ?hy119⟩) hHeld ?_
              case hy119 => (intro w hSw; (try dsimp only at hSw); go_simp; try with_reducible rfl)
              (try simp only [Act.put, List.setIfInBounds_toArray, List.set_cons_zero, List.set_cons_succ, List.getElem_toArray, List.getElem_cons_zero, List.getElem_cons_succ])
              refine wpAnyH_take (i := 8) (v := ?v120) rfl (by kernel_rfl) (by kernel_rfl) (by kernel_rfl) (fun _ _ _ h => h) (Or.inl ⟨by rfl, ?hy120⟩) hHeld ?_
              case hy120 => (intro w hSw; (try dsimp only at hSw); go_simp; try with_reducible rfl)
              (try simp only [Act.put, List.setIfInBounds_toArray, List.set_cons_zero, List.set_cons_succ, List.getElem_toArray, List.getElem_cons_zero, List.getElem_cons_succ])
              refine wpAnyH_take (i := 9) (v := ?v121) rfl (by kernel_rfl) (by kernel_rfl) (by kernel_rfl) (fun _ _ _ h => h) (Or.inl ⟨by rfl, ?hy121⟩) hHeld ?_
              case hy121 => (intro w hSw; (try dsimp only at hSw); go_simp; try with_reducible rfl)
              (try simp only [Act.put, List.setIfInBounds_toArray, List.set_cons_zero, List.set_cons_succ, List.getElem_toArray, List.getElem_cons_zero, List.getElem_cons_succ])
              refine wpAnyH_take (i := 10) (v := ?v122) rfl (by kernel_rfl) (by kernel_rfl) (by kernel_rfl) (fun _ _ _ h => h) (Or.inl ⟨by rfl, ?hy122⟩) hHeld ?_
              case hy122 => (intro w hSw; (try dsimp only at hSw); go_simp; try with_reducible rfl)
              (try simp only [Act.put, List.setIfInBounds_toArray, List.set_cons_zero, List.set_cons_succ, List.getElem_toArray, List.getElem_cons_zero, List.getElem_cons_succ])
              refine wpAnyH_take (i := 11) (v := ?v123) rfl (by kernel_rfl) (by kernel_rfl) (by kernel_rfl) (fun _ _ _ h => h) (Or.inl ⟨by rfl, ?hy123⟩) hHeld ?_
              case hy123 => (intro w hSw; (try dsimp only at hSw); go_simp; try with_reducible rfl)
              (try simp only [Act.put, List.setIfInBounds_toArray, List.set_cons_zero, List.set_cons_succ, List.getElem_toArray, List.getElem_cons_zero, List.getElem_cons_succ])
              refine wpAnyH_take (i := 12) (v := ?v124) rfl (by kernel_rfl) (by kernel_rfl) (by kernel_rfl) (fun _ _ _ h => h) (Or.inl ⟨by rfl, ?hy124⟩) hHeld ?_
              case hy124 => (intro w hSw; (try dsimp only at hSw); go_simp; try with_reducible rfl)
              (try simp only [Act.put, List.setIfInBounds_toArray, List.set_cons_zero, List.set_cons_succ, List.getElem_toArray, List.getElem_cons_zero, List.getElem_cons_succ])
              refine wpAnyH_take (i := 13) (v := ?v125) rfl (by kernel_rfl) (by kernel_rfl) (by kernel_rfl) (fun _ _ _ h => h) (Or.inl ⟨by rfl, ?hy125⟩) hHeld ?_
              case hy125 => (intro w hSw; (try dsimp only at hSw); go_simp; try with_reducible rfl)
              (try simp only [Act.put, List.setIfInBounds_toArray, List.set_cons_zero, List.set_cons_succ, List.getElem_toArray, List.getElem_cons_zero, List.getElem_cons_succ])
              refine wpAnyH_take (i := 14) (v := ?v126) rfl (by kernel_rfl) (by kernel_rfl) (by kernel_rfl) (fun _ _ _ h => h) (Or.inl ⟨by rfl, ?hy126⟩) hHeld ?_
              case hy126 => (intro w hSw; (try dsimp only at hSw); go_simp; try with_reducible rfl)
              (try simp only [Act.put, List.setIfInBounds_toArray, List.set_cons_zero, List.set_cons_succ, List.getElem_toArray, List.getElem_cons_zero, List.getElem_cons_succ])
              refine wpAnyH_take (i := 15) (v := ?v127) rfl (by kernel_rfl) (by kernel_rfl) (by kernel_rfl) (fun _ _ _ h => h) (Or.inl ⟨by rfl, ?hy127⟩) hHeld ?_
              case hy127 => (intro w hSw; (try dsimp only at hSw); go_simp; try with_reducible rfl)
              (try simp only [Act.put, List.setIfInBounds_toArray, List.set_cons_zero, List.set_cons_succ, List.getElem_toArray, List.getElem_cons_zero, List.getElem_cons_succ])
              refine wpAnyH_done (by kernel_rfl) ?_ _
              go_wp2
              go_ret3
              rw [HR.out]
              exact ⟨none, 0, rfl, PtsR.nil _ _, below_drewN HB4.out 1⟩
            · have hltd : decide (p.at_ < (out[out.length - 1]).at_) = false := by simpa using hlt
              have HL0 : Hid (late out p = false) := by rw [HLL.out]; exact hltd
              by_cases hmany : out.length = 10000
              · have hmI : (10000 : Int) < (out.length : Int) + 1 := by omega
                have HR : Hid (parseR text = ([], (out.length : Int) + 1, 3)) := by
                  show parseR text = _
                  unfold parseR
                  rw [← HEQ.out, parseL_many HT0.out HC2.out HRP.out HL0.out (by omega)]
                have HM := Lib.hid hmany
                clear hmany
                refine wp_region_held_drew (S := (fun w' => w'.cell? ⟨w3.heap.size, 0, none⟩ = some (.int .i64 p.at_) ∧ w'.cell? ⟨b', o' + (out.length - 1) * 11, none⟩ = some (.int .i64 (out[out.length - 1]).at_))) (by kernel_rfl) ?_ (fun hHeld => ?_)
                · (try dsimp only); go_keep
                refine wpAnyH_take (i := 0) (v := ?v128) rfl (by kernel_rfl) (by kernel_rfl) (by kernel_rfl) (fun _ _ _ h => h) (Or.inl ⟨by rfl, ?hy128⟩) hHeld ?_
                case hy128 => (intro w hSw; (try dsimp only at hSw); go_simp; try with_reducible rfl)
                (try simp only [Act.put, List.setIfInBounds_toArray, List.set_cons_zero, List.set_cons_succ, List.getElem_toArray, List.getElem_cons_zero])
                refine wpAnyH_take (i := 1) (v := ?v129) rfl (by kernel_rfl) (by kernel_rfl) (by kernel_rfl) (fun _ _ _ h => h) (Or.inl ⟨by rfl, ?hy129⟩) hHeld ?_
                case hy129 => (intro w hSw; (try dsimp only at hSw); go_simp; try with_reducible rfl)
                (try simp only [Act.put, List.setIfInBounds_toArray, List.set_cons_zero, List.set_cons_succ, List.getElem_toArray, List.getElem_cons_zero, List.getElem_cons_succ])
                refine wpAnyH_take (i := 2) (v := ?v130) rfl (by kernel_rfl) (by kernel_rfl) (by kernel_rfl) (fun _ _ _ h => h) (Or.inl ⟨by rfl, ?hy130⟩) hHeld ?_
                case hy130 => (intro w hSw; (try dsimp only at hSw); go_simp; try with_reducible rfl)
                (try simp only [Act.put, List.setIfInBounds_toArray, List.set_cons_zero, List.set_cons_succ, List.getElem_toArray, List.getElem_cons_zero, List.getElem_cons_succ])
                refine wpAnyH_take (i := 3) (v := ?v131) rfl (by kernel_rfl) (by kernel_rfl) (by kernel_rfl) (fun _ _ _ h => h) (Or.inl ⟨by rfl, ?hy131⟩) hHeld ?_
                case hy131 => (intro w hSw; (try dsimp only at hSw); go_simp; try with_reducible rfl)
                (try simp only [Act.put, List.setIfInBounds_toArray, List.set_cons_zero, List.set_cons_succ, List.getElem_toArray, List.getElem_cons_zero, List.getElem_cons_succ])
                refine wpAnyH_take (i := 4) (v := ?v132) rfl (by kernel_rfl) (by kernel_rfl) (by kernel_rfl) (fun _ _ _ h => h) (Or.inl ⟨by rfl, ?hy132⟩) hHeld ?_
                case hy132 => (intro w hSw; (try dsimp only at hSw); go_simp; try with_reducible rfl)
                (try simp only [Act.put, List.setIfInBounds_toArray, List.set_cons_zero, List.set_cons_succ, List.getElem_toArray, List.getElem_cons_zero, List.getElem_cons_succ])
                refine wpAnyH_take (i := 5) (v := ?v133) rfl (by kernel_rfl) (by kernel_rfl) (by kernel_rfl) (fun _ _ _ h => h) (Or.inl ⟨by rfl, ?hy133⟩) hHeld ?_
                case hy133 => (intro w hSw; (try dsimp only at hSw); go_simp; try with_reducible rfl)
                (try simp only [Act.put, List.setIfInBounds_toArray, List.set_cons_zero, List.set_cons_succ, List.getElem_toArray, List.getElem_cons_zero, List.getElem_cons_succ])
                refine wpAnyH_take (i := 6) (v := ?v134) rfl (by kernel_rfl) (by kernel_rfl) (by kernel_rfl) (fun _ _ _ h => h) (Or.inl ⟨by rfl, ?hy134⟩) hHeld ?_
                case hy134 => (intro w hSw; (try dsimp only at hSw); go_simp; try with_reducible rfl)
                (try simp only [Act.put, List.setIfInBounds_toArray, List.set_cons_zero, List.set_cons_succ, List.getElem_toArray, List.getElem_cons_zero, List.getElem_cons_succ])
                refine wpAnyH_take (i := 7) (v := ?v135) rfl (by kernel_rfl) (by kernel_rfl) (by kernel_rfl) (fun _ _ _ h => h) (Or.inl ⟨by rfl, ?hy135⟩) hHeld ?_
                case hy135 => (intro w hSw; (try dsimp only at hSw); go_simp; try with_reducible rfl)
                (try simp only [Act.put, List.setIfInBounds_toArray, List.set_cons_zero, List.set_cons_succ, List.getElem_toArray, List.getElem_cons_zero, List.getElem_cons_succ])
                refine wpAnyH_take (i := 8) (v := ?v136) rfl (by kernel_rfl) (by kernel_rfl) (by kernel_rfl) (fun _ _ _ h => h) (Or.inl ⟨by rfl, ?hy136⟩) hHeld ?_
                case hy136 => (intro w hSw; (try dsimp only at hSw); go_simp; try with_reducible rfl)
                (try simp only [Act.put, List.setIfInBounds_toArray, List.set_cons_zero, List.set_cons_succ, List.getElem_toArray, List.getElem_cons_zero, List.getElem_cons_succ])
                refine wpAnyH_take (i := 9) (v := ?v137) rfl (by kernel_rfl) (by kernel_rfl) (by kernel_rfl) (fun _ _ _ h => h) (Or.inl ⟨by rfl, ?hy137⟩) hHeld ?_
                case hy137 => (intro w hSw; (try dsimp only at hSw); go_simp; try with_reducible rfl)
                (try simp only [Act.put, List.setIfInBounds_toArray, List.set_cons_zero, List.set_cons_succ, List.getElem_toArray, List.getElem_cons_zero, List.getElem_cons_succ])
                refine wpAnyH_take (i := 10) (v := ?v138) rfl (by kernel_rfl) (by kernel_rfl) (by kernel_rfl) (fun _ _ _ h => h) (Or.inl ⟨by rfl, ?hy138⟩) hHeld ?_
                case hy138 => (intro w hSw; (try dsimp only at hSw); go_simp; try with_reducible rfl)
                (try simp only [Act.put, List.setIfInBounds_toArray, List.set_cons_zero, List.set_cons_succ, List.getElem_toArray, List.getElem_cons_zero, List.getElem_cons_succ])
                refine wpAnyH_take (i := 11) (v := ?v139) rfl (by kernel_rfl) (by kernel_rfl) (by kernel_rfl) (fun _ _ _ h => h) (Or.inl ⟨by rfl, ?hy139⟩) hHeld ?_
                case hy139 => (intro w hSw; (try dsimp only at hSw); go_simp; try with_reducible rfl)
                (try simp only [Act.put, List.setIfInBounds_toArray, List.set_cons_zero, List.set_cons_succ, List.getElem_toArray, List.getElem_cons_zero, List.getElem_cons_succ])
                refine wpAnyH_take (i := 12) (v := ?v140) rfl (by kernel_rfl) (by kernel_rfl) (by kernel_rfl) (fun _ _ _ h => h) (Or.inl ⟨by rfl, ?hy140⟩) hHeld ?_
                case hy140 => (intro w hSw; (try dsimp only at hSw); go_simp; try with_reducible rfl)
                (try simp only [Act.put, List.setIfInBounds_toArray, List.set_cons_zero, List.set_cons_succ, List.getElem_toArray, List.getElem_cons_zero, List.getElem_cons_succ])
                refine wpAnyH_take (i := 13) (v := ?v141) rfl (by kernel_rfl) (by kernel_rfl) (by kernel_rfl) (fun _ _ _ h => h) (Or.inl ⟨by rfl, ?hy141⟩) hHeld ?_
                case hy141 => (intro w hSw; (try dsimp only at hSw); go_simp; try with_reducible rfl)
                (try simp only [Act.put, List.setIfInBounds_toArray, List.set_cons_zero, List.set_cons_succ, List.getElem_toArray, List.getElem_cons_zero, List.getElem_cons_succ])
                refine wpAnyH_take (i := 14) (v := ?v142) rfl (by kernel_rfl) (by kernel_rfl) (by kernel_rfl) (fun _ _ _ h => h) (Or.inl ⟨by rfl, ?hy142⟩) hHeld ?_
                case hy142 => (intro w hSw; (try dsimp only at hSw); go_simp; try with_reducible rfl)
                (try simp only [Act.put, List.setIfInBounds_toArray, List.set_cons_zero, List.set_cons_succ, List.getElem_toArray, List.getElem_cons_zero, List.getElem_cons_succ])
                refine wpAnyH_take (i := 15) (v := ?v143) rfl (by kernel_rfl) (by kernel_rfl) (by kernel_rfl) (fun _ _ _ h => h) (Or.inl ⟨by rfl, ?hy143⟩) hHeld ?_
                case hy143 => (intro w hSw; (try dsimp only at hSw); go_simp; try with_reducible rfl)
                (try simp only [Act.put, List.setIfInBounds_toArray, List.set_cons_zero, List.set_cons_succ, List.getElem_toArray, List.getElem_cons_zero, List.getElem_cons_succ])
                refine wpAnyH_done (by kernel_rfl) ?_ _
                go_wp2
                go_ret3
                rw [HR.out]
                exact ⟨none, 0, rfl, PtsR.nil _ _, below_drewN HB4.out 1⟩
              · have hmI : ¬ (10000 : Int) < (out.length : Int) + 1 := by omega
                refine wp_region_held_drew (S := (fun w' => w'.cell? ⟨w3.heap.size, 0, none⟩ = some (.int .i64 p.at_) ∧ w'.cell? ⟨b', o' + (out.length - 1) * 11, none⟩ = some (.int .i64 (out[out.length - 1]).at_))) (by kernel_rfl) ?_ (fun hHeld => ?_)
                · (try dsimp only); go_keep
                refine wpAnyH_take (i := 0) (v := ?v144) rfl (by kernel_rfl) (by kernel_rfl) (by kernel_rfl) (fun _ _ _ h => h) (Or.inl ⟨by rfl, ?hy144⟩) hHeld ?_
                case hy144 => (intro w hSw; (try dsimp only at hSw); go_simp; try with_reducible rfl)
                (try simp only [Act.put, List.setIfInBounds_toArray, List.set_cons_zero, List.set_cons_succ, List.getElem_toArray, List.getElem_cons_zero])
                refine wpAnyH_take (i := 1) (v := ?v145) rfl (by kernel_rfl) (by kernel_rfl) (by kernel_rfl) (fun _ _ _ h => h) (Or.inl ⟨by rfl, ?hy145⟩) hHeld ?_
                case hy145 => (intro w hSw; (try dsimp only at hSw); go_simp; try with_reducible rfl)
                (try simp only [Act.put, List.setIfInBounds_toArray, List.set_cons_zero, List.set_cons_succ, List.getElem_toArray, List.getElem_cons_zero, List.getElem_cons_succ])
                refine wpAnyH_take (i := 2) (v := ?v146) rfl (by kernel_rfl) (by kernel_rfl) (by kernel_rfl) (fun _ _ _ h => h) (Or.inl ⟨by rfl, ?hy146⟩) hHeld ?_
                case hy146 => (intro w hSw; (try dsimp only at hSw); go_simp; try with_reducible rfl)
                (try simp only [Act.put, List.setIfInBounds_toArray, List.set_cons_zero, List.set_cons_succ, List.getElem_toArray, List.getElem_cons_zero, List.getElem_cons_succ])
                refine wpAnyH_take (i := 3) (v := ?v147) rfl (by kernel_rfl) (by kernel_rfl) (by kernel_rfl) (fun _ _ _ h => h) (Or.inl ⟨by rfl, ?hy147⟩) hHeld ?_
                case hy147 => (intro w hSw; (try dsimp only at hSw); go_simp; try with_reducible rfl)
                (try simp only [Act.put, List.setIfInBounds_toArray, List.set_cons_zero, List.set_cons_succ, List.getElem_toArray, List.getElem_cons_zero, List.getElem_cons_succ])
                refine wpAnyH_take (i := 4) (v := ?v148) rfl (by kernel_rfl) (by kernel_rfl) (by kernel_rfl) (fun _ _ _ h => h) (Or.inl ⟨by rfl, ?hy148⟩) hHeld ?_
                case hy148 => (intro w hSw; (try dsimp only at hSw); go_simp; try with_reducible rfl)
                (try simp only [Act.put, List.setIfInBounds_toArray, List.set_cons_zero, List.set_cons_succ, List.getElem_toArray, List.getElem_cons_zero, List.getElem_cons_succ])
                refine wpAnyH_take (i := 5) (v := ?v149) rfl (by kernel_rfl) (by kernel_rfl) (by kernel_rfl) (fun _ _ _ h => h) (Or.inl ⟨by rfl, ?hy149⟩) hHeld ?_
                case hy149 => (intro w hSw; (try dsimp only at hSw); go_simp; try with_reducible rfl)
                (try simp only [Act.put, List.setIfInBounds_toArray, List.set_cons_zero, List.set_cons_succ, List.getElem_toArray, List.getElem_cons_zero, List.getElem_cons_succ])
                refine wpAnyH_take (i := 6) (v := ?v150) rfl (by kernel_rfl) (by kernel_rfl) (by kernel_rfl) (fun _ _ _ h => h) (Or.inl ⟨by rfl, ?hy150⟩) hHeld ?_
                case hy150 => (intro w hSw; (try dsimp only at hSw); go_simp; try with_reducible rfl)
                (try simp only [Act.put, List.setIfInBounds_toArray, List.set_cons_zero, List.set_cons_succ, List.getElem_toArray, List.getElem_cons_zero, List.getElem_cons_succ])
                refine wpAnyH_take (i := 7) (v := ?v151) rfl (by kernel_rfl) (by kernel_rfl) (by kernel_rfl) (fun _ _ _ h => h) (Or.inl ⟨by rfl, ?hy151⟩) hHeld ?_
                case hy151 => (intro w hSw; (try dsimp only at hSw); go_simp; try with_reducible rfl)
                (try simp only [Act.put, List.setIfInBounds_toArray, List.set_cons_zero, List.set_cons_succ, List.getElem_toArray, List.getElem_cons_zero, List.getElem_cons_succ])
                refine wpAnyH_take (i := 8) (v := ?v152) rfl (by kernel_rfl) (by kernel_rfl) (by kernel_rfl) (fun _ _ _ h => h) (Or.inl ⟨by rfl, ?hy152⟩) hHeld ?_
                case hy152 => (intro w hSw; (try dsimp only at hSw); go_simp; try with_reducible rfl)
                (try simp only [Act.put, List.setIfInBounds_toArray, List.set_cons_zero, List.set_cons_succ, List.getElem_toArray, List.getElem_cons_zero, List.getElem_cons_succ])
                refine wpAnyH_take (i := 9) (v := ?v153) rfl (by kernel_rfl) (by kernel_rfl) (by kernel_rfl) (fun _ _ _ h => h) (Or.inl ⟨by rfl, ?hy153⟩) hHeld ?_
                case hy153 => (intro w hSw; (try dsimp only at hSw); go_simp; try with_reducible rfl)
                (try simp only [Act.put, List.setIfInBounds_toArray, List.set_cons_zero, List.set_cons_succ, List.getElem_toArray, List.getElem_cons_zero, List.getElem_cons_succ])
                refine wpAnyH_take (i := 10) (v := ?v154) rfl (by kernel_rfl) (by kernel_rfl) (by kernel_rfl) (fun _ _ _ h => h) (Or.inl ⟨by rfl, ?hy154⟩) hHeld ?_
                case hy154 => (intro w hSw; (try dsimp only at hSw); go_simp; try with_reducible rfl)
                (try simp only [Act.put, List.setIfInBounds_toArray, List.set_cons_zero, List.set_cons_succ, List.getElem_toArray, List.getElem_cons_zero, List.getElem_cons_succ])
                refine wpAnyH_take (i := 11) (v := ?v155) rfl (by kernel_rfl) (by kernel_rfl) (by kernel_rfl) (fun _ _ _ h => h) (Or.inl ⟨by rfl, ?hy155⟩) hHeld ?_
                case hy155 => (intro w hSw; (try dsimp only at hSw); go_simp; try with_reducible rfl)
                (try simp only [Act.put, List.setIfInBounds_toArray, List.set_cons_zero, List.set_cons_succ, List.getElem_toArray, List.getElem_cons_zero, List.getElem_cons_succ])
                refine wpAnyH_take (i := 12) (v := ?v156) rfl (by kernel_rfl) (by kernel_rfl) (by kernel_rfl) (fun _ _ _ h => h) (Or.inl ⟨by rfl, ?hy156⟩) hHeld ?_
                case hy156 => (intro w hSw; (try dsimp only at hSw); go_simp; try with_reducible rfl)
                (try simp only [Act.put, List.setIfInBounds_toArray, List.set_cons_zero, List.set_cons_succ, List.getElem_toArray, List.getElem_cons_zero, List.getElem_cons_succ])
                refine wpAnyH_take (i := 13) (v := ?v157) rfl (by kernel_rfl) (by kernel_rfl) (by kernel_rfl) (fun _ _ _ h => h) (Or.inl ⟨by rfl, ?hy157⟩) hHeld ?_
                case hy157 => (intro w hSw; (try dsimp only at hSw); go_simp; try with_reducible rfl)
                (try simp only [Act.put, List.setIfInBounds_toArray, List.set_cons_zero, List.set_cons_succ, List.getElem_toArray, List.getElem_cons_zero, List.getElem_cons_succ])
                refine wpAnyH_take (i := 14) (v := ?v158) rfl (by kernel_rfl) (by kernel_rfl) (by kernel_rfl) (fun _ _ _ h => h) (Or.inl ⟨by rfl, ?hy158⟩) hHeld ?_
                case hy158 => (intro w hSw; (try dsimp only at hSw); go_simp; try with_reducible rfl)
                (try simp only [Act.put, List.setIfInBounds_toArray, List.set_cons_zero, List.set_cons_succ, List.getElem_toArray, List.getElem_cons_zero, List.getElem_cons_succ])
                refine wpAnyH_take (i := 15) (v := ?v159) rfl (by kernel_rfl) (by kernel_rfl) (by kernel_rfl) (fun _ _ _ h => h) (Or.inl ⟨by rfl, ?hy159⟩) hHeld ?_
                case hy159 => (intro w hSw; (try dsimp only at hSw); go_simp; try with_reducible rfl)
                (try simp only [Act.put, List.setIfInBounds_toArray, List.set_cons_zero, List.set_cons_succ, List.getElem_toArray, List.getElem_cons_zero, List.getElem_cons_succ])
                refine wpAnyH_done (by kernel_rfl) ?_ _
                clear g1 g2 g3 g4 g5
                obtain ⟨w5, hw5⟩ : ∃ w5 : World, w5 = w4.drew := ⟨_, rfl⟩
                have HP5 : Hid (PtAt w5 w3.heap.size p) := by rw [hw5]; exact HP4.out.below (below_drewN (Below.refl _ _) 1)
                have HO5 : Hid (Own w5 w.heap.size (.slice (some ⟨b', o', none⟩) out.length c) out) := by rw [hw5]; exact HO4.out
                have HB5 : Hid (Below w.heap.size w w5) := by rw [hw5]; exact below_drewN HB4.out 1
                rw [← hw5]
                clear hw5 HP4 HO4 HB4
                obtain ⟨c0, c1, c2, c3, c4, c5, c6, c7, c8, c9, c10⟩ := HP5.out
                have hz5 := lt_of_cell c0
                simp only at hz5
                have HQ := Lib.hid (new_pts w5 p _ rfl)
                have HOA : Hid (Own (w5.alloc p.box) w.heap.size (.slice (some ⟨b', o', none⟩) out.length c) out) := World.ownsRow.alloc HO5.out _
                have HNX : Hid (parseL b (out ++ [p]) = parseL text.data.toList []) := by
                  show _ = _
                  rw [← HEQ.out, parseL_next HT0.out HC2.out HRP.out HL0.out (by omega), ← HC.out]
                go_wp2_with (at_builtin; refine wpList_append_pts _ rfl (.tmp 59) (.tmp 61) rfl w.heap.size _ out rfl ?_ (some ⟨w5.heap.size, 0, none⟩) 1 [p] rfl ?_ ?_ ?_ ?_; (exact HOA.out); (exact HQ.out); (simp; omega); (have := HB5.out.size; simp; omega); intro v6 w6 ho6 hg6)
                obtain ⟨A6, c6', e6, _⟩ := ho6.reads
                subst e6
                go_roundw
                case rel => exact ⟨⟨b.toArray⟩, out ++ [p], A6, c6', (by show b.toArray.size ≤ _; simp; omega), (by simp; omega), rfl, rfl, (by rw [List.length_append]; go_num), ⟨(by rw [mkB_data]; exact HNX.out), ho6, (HB5.out.alloc HB5.out.size _).grown hg6 (by have := HB5.out.size; simp; omega) HOA.out.lt⟩⟩
                case measure => have := HBL.out; show b.toArray.size < t.size; simpa using this
          · have HL0 : Hid (late out p = false) := by rw [List.eq_nil_of_length_eq_zero (show out.length = 0 by omega)]; rfl
            have hneI : ¬ (0 : Int) < (out.length : Int) := by omega
            have hned : decide ((0 : Int) < (out.length : Int)) = false := by simpa using hneI
            have hmI : ¬ (10000 : Int) < (out.length : Int) + 1 := by omega
            refine wp_region_held_drew (S := (fun _ => True)) (by kernel_rfl) ?_ (fun hHeld => ?_)
            · (try dsimp only); (try trivial)
            refine wpAnyH_take (i := 0) (v := ?v160) rfl (by kernel_rfl) (by kernel_rfl) (by kernel_rfl) (fun _ _ _ h => h) (Or.inl ⟨by rfl, ?hy160⟩) hHeld ?_
            case hy160 => (intro w hSw; (try dsimp only at hSw); go_simp; try with_reducible rfl)
            (try simp only [Act.put, List.setIfInBounds_toArray, List.set_cons_zero, List.set_cons_succ, List.getElem_toArray, List.getElem_cons_zero])
            refine wpAnyH_take (i := 1) (v := ?v161) rfl (by kernel_rfl) (by kernel_rfl) (by kernel_rfl) (fun _ _ _ h => h) (Or.inl ⟨by rfl, ?hy161⟩) hHeld ?_
            case hy161 => (intro w hSw; (try dsimp only at hSw); go_simp; try with_reducible rfl)
            (try simp only [Act.put, List.setIfInBounds_toArray, List.set_cons_zero, List.set_cons_succ, List.getElem_toArray, List.getElem_cons_zero, List.getElem_cons_succ])
            refine wpAnyH_take (i := 2) (v := ?v162) rfl (by kernel_rfl) (by kernel_rfl) (by kernel_rfl) (fun _ _ _ h => h) (Or.inl ⟨by rfl, ?hy162⟩) hHeld ?_
            case hy162 => (intro w hSw; (try dsimp only at hSw); go_simp; try with_reducible rfl)
            (try simp only [Act.put, List.setIfInBounds_toArray, List.set_cons_zero, List.set_cons_succ, List.getElem_toArray, List.getElem_cons_zero, List.getElem_cons_succ])
            refine wpAnyH_take (i := 3) (v := ?v163) rfl (by kernel_rfl) (by kernel_rfl) (by kernel_rfl) (fun _ _ _ h => h) (Or.inl ⟨by rfl, ?hy163⟩) hHeld ?_
            case hy163 => (intro w hSw; (try dsimp only at hSw); go_simp; try with_reducible rfl)
            (try simp only [Act.put, List.setIfInBounds_toArray, List.set_cons_zero, List.set_cons_succ, List.getElem_toArray, List.getElem_cons_zero, List.getElem_cons_succ])
            refine wpAnyH_take (i := 4) (v := undef) rfl (by kernel_rfl) (by kernel_rfl) (by kernel_rfl) (fun _ _ _ h => h) (Or.inr ⟨by rfl, rfl⟩) hHeld ?_
            (try simp only [Act.put, List.setIfInBounds_toArray, List.set_cons_zero, List.set_cons_succ, List.getElem_toArray, List.getElem_cons_zero, List.getElem_cons_succ])
            refine wpAnyH_take (i := 5) (v := undef) rfl (by kernel_rfl) (by kernel_rfl) (by kernel_rfl) (fun _ _ _ h => h) (Or.inr ⟨by rfl, rfl⟩) hHeld ?_
            (try simp only [Act.put, List.setIfInBounds_toArray, List.set_cons_zero, List.set_cons_succ, List.getElem_toArray, List.getElem_cons_zero, List.getElem_cons_succ])
            refine wpAnyH_take (i := 6) (v := undef) rfl (by kernel_rfl) (by kernel_rfl) (by kernel_rfl) (fun _ _ _ h => h) (Or.inr ⟨by rfl, rfl⟩) hHeld ?_
            (try simp only [Act.put, List.setIfInBounds_toArray, List.set_cons_zero, List.set_cons_succ, List.getElem_toArray, List.getElem_cons_zero, List.getElem_cons_succ])
            refine wpAnyH_take (i := 7) (v := undef) rfl (by kernel_rfl) (by kernel_rfl) (by kernel_rfl) (fun _ _ _ h => h) (Or.inr ⟨by rfl, rfl⟩) hHeld ?_
            (try simp only [Act.put, List.setIfInBounds_toArray, List.set_cons_zero, List.set_cons_succ, List.getElem_toArray, List.getElem_cons_zero, List.getElem_cons_succ])
            refine wpAnyH_take (i := 8) (v := undef) rfl (by kernel_rfl) (by kernel_rfl) (by kernel_rfl) (fun _ _ _ h => h) (Or.inr ⟨by rfl, rfl⟩) hHeld ?_
            (try simp only [Act.put, List.setIfInBounds_toArray, List.set_cons_zero, List.set_cons_succ, List.getElem_toArray, List.getElem_cons_zero, List.getElem_cons_succ])
            refine wpAnyH_take (i := 9) (v := undef) rfl (by kernel_rfl) (by kernel_rfl) (by kernel_rfl) (fun _ _ _ h => h) (Or.inr ⟨by rfl, rfl⟩) hHeld ?_
            (try simp only [Act.put, List.setIfInBounds_toArray, List.set_cons_zero, List.set_cons_succ, List.getElem_toArray, List.getElem_cons_zero, List.getElem_cons_succ])
            refine wpAnyH_take (i := 10) (v := undef) rfl (by kernel_rfl) (by kernel_rfl) (by kernel_rfl) (fun _ _ _ h => h) (Or.inr ⟨by rfl, rfl⟩) hHeld ?_
            (try simp only [Act.put, List.setIfInBounds_toArray, List.set_cons_zero, List.set_cons_succ, List.getElem_toArray, List.getElem_cons_zero, List.getElem_cons_succ])
            refine wpAnyH_take (i := 11) (v := undef) rfl (by kernel_rfl) (by kernel_rfl) (by kernel_rfl) (fun _ _ _ h => h) (Or.inr ⟨by rfl, rfl⟩) hHeld ?_
            (try simp only [Act.put, List.setIfInBounds_toArray, List.set_cons_zero, List.set_cons_succ, List.getElem_toArray, List.getElem_cons_zero, List.getElem_cons_succ])
            refine wpAnyH_take (i := 12) (v := undef) rfl (by kernel_rfl) (by kernel_rfl) (by kernel_rfl) (fun _ _ _ h => h) (Or.inr ⟨by rfl, rfl⟩) hHeld ?_
            (try simp only [Act.put, List.setIfInBounds_toArray, List.set_cons_zero, List.set_cons_succ, List.getElem_toArray, List.getElem_cons_zero, List.getElem_cons_succ])
            refine wpAnyH_take (i := 13) (v := undef) rfl (by kernel_rfl) (by kernel_rfl) (by kernel_rfl) (fun _ _ _ h => h) (Or.inr ⟨by rfl, rfl⟩) hHeld ?_
            (try simp only [Act.put, List.setIfInBounds_toArray, List.set_cons_zero, List.set_cons_succ, List.getElem_toArray, List.getElem_cons_zero, List.getElem_cons_succ])
            refine wpAnyH_take (i := 14) (v := ?v164) rfl (by kernel_rfl) (by kernel_rfl) (by kernel_rfl) (fun _ _ _ h => h) (Or.inl ⟨by rfl, ?hy164⟩) hHeld ?_
            case hy164 => (intro w hSw; (try dsimp only at hSw); go_simp; try with_reducible rfl)
            (try simp only [Act.put, List.setIfInBounds_toArray, List.set_cons_zero, List.set_cons_succ, List.getElem_toArray, List.getElem_cons_zero, List.getElem_cons_succ])
            refine wpAnyH_take (i := 15) (v := ?v165) rfl (by kernel_rfl) (by kernel_rfl) (by kernel_rfl) (fun _ _ _ h => h) (Or.inl ⟨by rfl, ?hy165⟩) hHeld ?_
            case hy165 => (intro w hSw; (try dsimp only at hSw); go_simp; try with_reducible rfl)
            (try simp only [Act.put, List.setIfInBounds_toArray, List.set_cons_zero, List.set_cons_succ, List.getElem_toArray, List.getElem_cons_zero, List.getElem_cons_succ])
            refine wpAnyH_done (by kernel_rfl) ?_ _
            obtain ⟨w5, hw5⟩ : ∃ w5 : World, w5 = w4.drew := ⟨_, rfl⟩
            have HP5 : Hid (PtAt w5 w3.heap.size p) := by rw [hw5]; exact HP4.out.below (below_drewN (Below.refl _ _) 1)
            have HO5 : Hid (Own w5 w.heap.size (.slice A out.length c) out) := by rw [hw5]; exact HO4.out
            have HB5 : Hid (Below w.heap.size w w5) := by rw [hw5]; exact below_drewN HB4.out 1
            rw [← hw5]
            clear hw5 HP4 HO4 HB4
            obtain ⟨c0, c1, c2, c3, c4, c5, c6, c7, c8, c9, c10⟩ := HP5.out
            have hz5 := lt_of_cell c0
            simp only at hz5
            have HQ := Lib.hid (new_pts w5 p _ rfl)
            have HOA : Hid (Own (w5.alloc p.box) w.heap.size (.slice A out.length c) out) := World.ownsRow.alloc HO5.out _
            have HNX : Hid (parseL b (out ++ [p]) = parseL text.data.toList []) := by
              show _ = _
              rw [← HEQ.out, parseL_next HT0.out HC2.out HRP.out HL0.out (by omega), ← HC.out]
            go_wp2_with (at_builtin; refine wpList_append_pts _ rfl (.tmp 59) (.tmp 61) rfl w.heap.size _ out rfl ?_ (some ⟨w5.heap.size, 0, none⟩) 1 [p] rfl ?_ ?_ ?_ ?_; (exact HOA.out); (exact HQ.out); (simp; omega); (have := HB5.out.size; simp; omega); intro v6 w6 ho6 hg6)
            obtain ⟨A6, c6', e6, _⟩ := ho6.reads
            subst e6
            go_roundw
            case rel => exact ⟨⟨b.toArray⟩, out ++ [p], A6, c6', (by show b.toArray.size ≤ _; simp; omega), (by simp; omega), rfl, rfl, (by rw [List.length_append]; go_num), ⟨(by rw [mkB_data]; exact HNX.out), ho6, (HB5.out.alloc HB5.out.size _).grown hg6 (by have := HB5.out.size; simp; omega) HOA.out.lt⟩⟩
            case measure => have := HBL.out; show b.toArray.size < t.size; simpa using this
end Go.Proofs.YtcmnmcholfellaaDoor
