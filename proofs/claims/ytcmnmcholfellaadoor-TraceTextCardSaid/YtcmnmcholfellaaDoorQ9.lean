/-
  Walks: a trace read from its text, in the reference.
-/
import Derived.Test.YtcmnmcholfellaaDoorQ8
import Derived.Test.YtcmnmcholfellaaDoorQ6
namespace Go.Proofs.YtcmnmcholfellaaDoor
open Go.RowKit

/-- The state of the loop. -/
structure PbSt (text : ByteArray) (w : World) (b i : Nat) (out : List Pt) (v : Value) (wr : World) : Prop where
  eq : parseL (text.data.toList.drop b) out = parseL text.data.toList []
  no : (10 : UInt8) ∉ (text.data.toList.drop b).take (i - b)
  own : Own wr w.heap.size v out
  bel : Below w.heap.size w wr

theorem cut_hit {S : List UInt8} {b i : Nat} (hb : b ≤ i) (hi : i < S.length) (h : S[i] = 10) (hn : (10 : UInt8) ∉ (S.drop b).take (i - b)) : Lib.cut (S.drop b) [10] = ((S.drop b).take (i - b), S.drop (i + 1), true) := by
  conv => lhs; rw [drop_at hb hi, h]
  exact cut_yes hn

set_option maxHeartbeats 4000000 in
set_option maxRecDepth 100000 in
theorem refParse_any (text : ByteArray) (hs : text.size ≤ 65536) (w : World) (hE : Env w) :
    Calls Tryd.prog 31 #[.string text] w (ParsePost (parseR text) w) := by
  have HE := Lib.hid hE
  clear hE
  have hsI : ¬ (65536 : Int) < (text.size : Int) := by omega
  go_enter Tryd.func31, Tryd.ntmps31
  go_wp2
  go_loopw [5, 6, 7] (fun s5 s6 s7 wr => ∃ (b i : Nat) (out : List Pt) (A : Option Addr) (c : Nat), b ≤ i ∧ i ≤ text.size ∧ out.length ≤ 10000 ∧ s5 = .slice A out.length c ∧ s6 = .int .i64 b ∧ s7 = .int .i64 i ∧ Hid (PbSt text w b i out (.slice A out.length c) wr)) (fun _ _ s7 _ => text.size - (intOf s7).toNat)
  case atStart => exact ⟨0, 0, [], none, 0, by omega, by omega, by simp, rfl, rfl, rfl, ⟨rfl, by simp, Own.nil _ _, Below.refl _ _⟩⟩
  case round =>
    obtain ⟨b, i, out, A, c, hbi, hi, hol, rfl, rfl, rfl, hh⟩ := hrel
    obtain ⟨wo, rfl⟩ : ∃ wo : World, wo = wr := ⟨_, rfl⟩
    by_cases hlt : i < text.size
    · have hlt' : i < text.data.toList.length := hlt
      have HI := Lib.hid (show text.data.toList[i] = text[i] from rfl)
      by_cases h10 : text[i] = 10
      · have hb10 : ((text[i].toNat : Int) != 10) = false := by rw [h10]; rfl
        have HC := Lib.hid (cut_hit hbi hlt' (HI.out.trans h10) hh.out.no)
        have HX := Lib.hid (Lib.extract_data text b i)
        have HT0 : Hid (text.data.toList.drop b ≠ []) := fun e => by
          have := congrArg List.length e
          rw [List.length_drop] at this
          simp only [List.length_nil] at this
          omega
        have HB2 := Lib.hid hh.out.bel
        have HO2 := Lib.hid hh.out.own
        have HEQ := Lib.hid hh.out.eq
        have HSX : Hid ((text.extract b i).size ≤ 100000) := by show (text.extract b i).size ≤ _; rw [ByteArray.size_extract]; omega
        clear h10 hh HI
        go_wp2_with fail
        refine (refRead_any (text.extract b i) HSX.out _ (HE.out.below HB2.out)).mono ?_
        rintro e w3 ⟨p, fine, rfl, hy, hn, hb3⟩
        rw [HX.out] at hy hn
        have HY := Lib.hid hy
        have HN := Lib.hid hn
        have HB3 := Lib.hid (below_trans HB2.out hb3)
        have HO3 := Lib.hid (HO2.out.below hb3)
        clear hy hn hb3
        cases fine with
        | false =>
          have HR : Hid (parseR text = ([], (out.length : Int) + 1, 2)) := by
            show parseR text = _
            unfold parseR
            rw [← HEQ.out, parseL_bad HT0.out (by rw [HC.out]; exact readP_none (fun h => by have := HN.out h; cases this))]
          go_wp2
          go_ret3
          rw [HR.out]
          exact ⟨none, 0, rfl, PtsR.nil _ _, HB3.out.alloc HB3.out.size _⟩
        | true =>
          have HRP : Hid (readP (Lib.cut (text.data.toList.drop b) [10]).1 = some p) := by rw [HC.out]; exact readP_some (HY.out rfl)
          have HC2 : Hid ((Lib.cut (text.data.toList.drop b) [10]).2.2 = true) := by rw [HC.out]; rfl
          have HP4 := Lib.hid (ptAt_box (Below.refl (w3.alloc p.box).heap.size (w3.alloc p.box)))
          have HO4 : Hid (Own (w3.alloc p.box) w.heap.size (.slice A out.length c) out) := World.ownsRow.alloc HO3.out _
          have HB4 := Lib.hid (HB3.out.alloc HB3.out.size p.box)
          go_wp2
          generalize w3.alloc p.box = w4 at *
          by_cases hne : 0 < out.length
          · have hneI : (0 : Int) < (out.length : Int) := by omega
            have hned : decide ((0 : Int) < (out.length : Int)) = true := by simpa using hneI
            have hlast : out.length - 1 < out.length := by omega
            have p0 : w4.cell? ⟨w3.heap.size, 0, none⟩ = some (.int .i64 p.at_) := HP4.out.c0
            have HLL := Lib.hid (late_last (p := p) hne)
            obtain ⟨A2, c2, e2, hr2⟩ := HO4.out.reads
            injection e2 with e2 _ e3
            subst e2
            obtain ⟨b', o', rfl, _, ⟨l0, _, _, _, _, _, _, _, _, _, _⟩⟩ := hr2.at_ hlast
            clear hr2 e3
            have g1 : IntKind.i64.wrap ((out.length : Int) - 1) = (out.length : Int) - 1 := IntWalk.i64_in _ (by omega)
            have g2 : (0 : Int) ≤ (out.length : Int) - 1 := by omega
            have g3 : ((out.length : Int) - 1).toNat = out.length - 1 := by omega
            have g4 : (out.length : Int) - 1 < (out.length : Int) := by omega
            have g5 : (1 : Int) ≤ (out.length : Int) := by omega
            by_cases hle : p.at_ < (out[out.length - 1]).at_
            · have hltd : decide (p.at_ < (out[out.length - 1]).at_) = true := by simpa using hle
              have HR : Hid (parseR text = ([], (out.length : Int) + 1, 1)) := by
                show parseR text = _
                unfold parseR
                rw [← HEQ.out, parseL_late HT0.out HC2.out HRP.out (by rw [HLL.out]; exact hltd)]
              refine wp_region_held_drew (S := (fun w' => w'.cell? ⟨w3.heap.size, 0, none⟩ = some (.int .i64 p.at_) ∧ w'.cell? ⟨b', o' + (out.length - 1) * 11, none⟩ = some (.int .i64 (out[out.length - 1]).at_))) (by kernel_rfl) ?_ (fun hHeld => ?_)
              · (try dsimp only); go_keep
              refine wpAnyH_take (i := 0) (v := ?v166) rfl (by kernel_rfl) (by kernel_rfl) (by kernel_rfl) (fun _ _ _ h => h) (Or.inl ⟨by rfl, ?hy166⟩) hHeld ?_
              case hy166 => (intro w hSw; (try dsimp only at hSw); go_simp; try with_reducible rfl)
              (try simp only [Act.put, List.setIfInBounds_toArray, List.set_cons_zero, List.set_cons_succ, List.getElem_toArray, List.getElem_cons_zero])
              refine wpAnyH_take (i := 1) (v := ?v167) rfl (by kernel_rfl) (by kernel_rfl) (by kernel_rfl) (fun _ _ _ h => h) (Or.inl ⟨by rfl, ?hy167⟩) hHeld ?_
              case hy167 => (intro w hSw; (try dsimp only at hSw); go_simp; try with_reducible rfl)
              (try simp only [Act.put, List.setIfInBounds_toArray, List.set_cons_zero, List.set_cons_succ, List.getElem_toArray, List.getElem_cons_zero, List.getElem_cons_succ])
              refine wpAnyH_take (i := 2) (v := ?v168) rfl (by kernel_rfl) (by kernel_rfl) (by kernel_rfl) (fun _ _ _ h => h) (Or.inl ⟨by rfl, ?hy168⟩) hHeld ?_
              case hy168 => (intro w hSw; (try dsimp only at hSw); go_simp; try with_reducible rfl)
              (try simp only [Act.put, List.setIfInBounds_toArray, List.set_cons_zero, List.set_cons_succ, List.getElem_toArray, List.getElem_cons_zero, List.getElem_cons_succ])
              refine wpAnyH_take (i := 3) (v := ?v169) rfl (by kernel_rfl) (by kernel_rfl) (by kernel_rfl) (fun _ _ _ h => h) (Or.inl ⟨by rfl, ?hy169⟩) hHeld ?_
              case hy169 => (intro w hSw; (try dsimp only at hSw); go_simp; try with_reducible rfl)
              (try simp only [Act.put, List.setIfInBounds_toArray, List.set_cons_zero, List.set_cons_succ, List.getElem_toArray, List.getElem_cons_zero, List.getElem_cons_succ])
              refine wpAnyH_take (i := 4) (v := ?v170) rfl (by kernel_rfl) (by kernel_rfl) (by kernel_rfl) (fun _ _ _ h => h) (Or.inl ⟨by rfl, ?hy170⟩) hHeld ?_
              case hy170 => (intro w hSw; (try dsimp only at hSw); go_simp; try with_reducible rfl)
              (try simp only [Act.put, List.setIfInBounds_toArray, List.set_cons_zero, List.set_cons_succ, List.getElem_toArray, List.getElem_cons_zero, List.getElem_cons_succ])
              refine wpAnyH_take (i := 5) (v := ?v171) rfl (by kernel_rfl) (by kernel_rfl) (by kernel_rfl) (fun _ _ _ h => h) (Or.inl ⟨by rfl, ?hy171⟩) hHeld ?_
              case hy171 => (intro w hSw; (try dsimp only at hSw); go_simp; try with_reducible rfl)
              (try simp only [Act.put, List.setIfInBounds_toArray, List.set_cons_zero, List.set_cons_succ, List.getElem_toArray, List.getElem_cons_zero, List.getElem_cons_succ])
              refine wpAnyH_take (i := 6) (v := ?v172) rfl (by kernel_rfl) (by kernel_rfl) (by kernel_rfl) (fun _ _ _ h => h) (Or.inl ⟨by rfl, ?hy172⟩) hHeld ?_
              case hy172 => (intro w hSw; (try dsimp only at hSw); go_simp; try with_reducible rfl)
              (try simp only [Act.put, List.setIfInBounds_toArray, List.set_cons_zero, List.set_cons_succ, List.getElem_toArray, List.getElem_cons_zero, List.getElem_cons_succ])
              refine wpAnyH_take (i := 7) (v := ?v173) rfl (by kernel_rfl) (by kernel_rfl) (by kernel_rfl) (fun _ _ _ h => h) (Or.inl ⟨by rfl, ?hy173⟩) hHeld ?_
              case hy173 => (intro w hSw; (try dsimp only at hSw); go_simp; try with_reducible rfl)
              (try simp only [Act.put, List.setIfInBounds_toArray, List.set_cons_zero, List.set_cons_succ, List.getElem_toArray, List.getElem_cons_zero, List.getElem_cons_succ])
              refine wpAnyH_take (i := 8) (v := ?v174) rfl (by kernel_rfl) (by kernel_rfl) (by kernel_rfl) (fun _ _ _ h => h) (Or.inl ⟨by rfl, ?hy174⟩) hHeld ?_
              case hy174 => (intro w hSw; (try dsimp only at hSw); go_simp; try with_reducible rfl)
              (try simp only [Act.put, List.setIfInBounds_toArray, List.set_cons_zero, List.set_cons_succ, List.getElem_toArray, List.getElem_cons_zero, List.getElem_cons_succ])
              refine wpAnyH_take (i := 9) (v := ?v175) rfl (by kernel_rfl) (by kernel_rfl) (by kernel_rfl) (fun _ _ _ h => h) (Or.inl ⟨by rfl, ?hy175⟩) hHeld ?_
              case hy175 => (intro w hSw; (try dsimp only at hSw); go_simp; try with_reducible rfl)
              (try simp only [Act.put, List.setIfInBounds_toArray, List.set_cons_zero, List.set_cons_succ, List.getElem_toArray, List.getElem_cons_zero, List.getElem_cons_succ])
              refine wpAnyH_take (i := 10) (v := ?v176) rfl (by kernel_rfl) (by kernel_rfl) (by kernel_rfl) (fun _ _ _ h => h) (Or.inl ⟨by rfl, ?hy176⟩) hHeld ?_
              case hy176 => (intro w hSw; (try dsimp only at hSw); go_simp; try with_reducible rfl)
              (try simp only [Act.put, List.setIfInBounds_toArray, List.set_cons_zero, List.set_cons_succ, List.getElem_toArray, List.getElem_cons_zero, List.getElem_cons_succ])
              refine wpAnyH_take (i := 11) (v := ?v177) rfl (by kernel_rfl) (by kernel_rfl) (by kernel_rfl) (fun _ _ _ h => h) (Or.inl ⟨by rfl, ?hy177⟩) hHeld ?_
              case hy177 => (intro w hSw; (try dsimp only at hSw); go_simp; try with_reducible rfl)
              (try simp only [Act.put, List.setIfInBounds_toArray, List.set_cons_zero, List.set_cons_succ, List.getElem_toArray, List.getElem_cons_zero, List.getElem_cons_succ])
              refine wpAnyH_take (i := 12) (v := ?v178) rfl (by kernel_rfl) (by kernel_rfl) (by kernel_rfl) (fun _ _ _ h => h) (Or.inl ⟨by rfl, ?hy178⟩) hHeld ?_
              case hy178 => (intro w hSw; (try dsimp only at hSw); go_simp; try with_reducible rfl)
              (try simp only [Act.put, List.setIfInBounds_toArray, List.set_cons_zero, List.set_cons_succ, List.getElem_toArray, List.getElem_cons_zero, List.getElem_cons_succ])
              refine wpAnyH_take (i := 13) (v := ?v179) rfl (by kernel_rfl) (by kernel_rfl) (by kernel_rfl) (fun _ _ _ h => h) (Or.inl ⟨by rfl, ?hy179⟩) hHeld ?_
              case hy179 => (intro w hSw; (try dsimp only at hSw); go_simp; try with_reducible rfl)
              (try simp only [Act.put, List.setIfInBounds_toArray, List.set_cons_zero, List.set_cons_succ, List.getElem_toArray, List.getElem_cons_zero, List.getElem_cons_succ])
              refine wpAnyH_take (i := 14) (v := ?v180) rfl (by kernel_rfl) (by kernel_rfl) (by kernel_rfl) (fun _ _ _ h => h) (Or.inl ⟨by rfl, ?hy180⟩) hHeld ?_
              case hy180 => (intro w hSw; (try dsimp only at hSw); go_simp; try with_reducible rfl)
              (try simp only [Act.put, List.setIfInBounds_toArray, List.set_cons_zero, List.set_cons_succ, List.getElem_toArray, List.getElem_cons_zero, List.getElem_cons_succ])
              refine wpAnyH_done (by kernel_rfl) ?_ _
              go_wp2
              go_ret3
              rw [HR.out]
              exact ⟨none, 0, rfl, PtsR.nil _ _, below_drewN HB4.out 1⟩
            · have hltd : decide (p.at_ < (out[out.length - 1]).at_) = false := by simpa using hle
              have HL0 : Hid (late out p = false) := by rw [HLL.out]; exact hltd
              by_cases hmany : out.length = 10000
              · have hmI : ((out.length : Int) == 10000) = true := by rw [beq_iff_eq]; omega
                have HR : Hid (parseR text = ([], (out.length : Int) + 1, 3)) := by
                  show parseR text = _
                  unfold parseR
                  rw [← HEQ.out, parseL_many HT0.out HC2.out HRP.out HL0.out (by omega)]
                have HM := Lib.hid hmany
                clear hmany
                refine wp_region_held_drew (S := (fun w' => w'.cell? ⟨w3.heap.size, 0, none⟩ = some (.int .i64 p.at_) ∧ w'.cell? ⟨b', o' + (out.length - 1) * 11, none⟩ = some (.int .i64 (out[out.length - 1]).at_))) (by kernel_rfl) ?_ (fun hHeld => ?_)
                · (try dsimp only); go_keep
                refine wpAnyH_take (i := 0) (v := ?v181) rfl (by kernel_rfl) (by kernel_rfl) (by kernel_rfl) (fun _ _ _ h => h) (Or.inl ⟨by rfl, ?hy181⟩) hHeld ?_
                case hy181 => (intro w hSw; (try dsimp only at hSw); go_simp; try with_reducible rfl)
                (try simp only [Act.put, List.setIfInBounds_toArray, List.set_cons_zero, List.set_cons_succ, List.getElem_toArray, List.getElem_cons_zero])
                refine wpAnyH_take (i := 1) (v := ?v182) rfl (by kernel_rfl) (by kernel_rfl) (by kernel_rfl) (fun _ _ _ h => h) (Or.inl ⟨by rfl, ?hy182⟩) hHeld ?_
                case hy182 => (intro w hSw; (try dsimp only at hSw); go_simp; try with_reducible rfl)
                (try simp only [Act.put, List.setIfInBounds_toArray, List.set_cons_zero, List.set_cons_succ, List.getElem_toArray, List.getElem_cons_zero, List.getElem_cons_succ])
                refine wpAnyH_take (i := 2) (v := ?v183) rfl (by kernel_rfl) (by kernel_rfl) (by kernel_rfl) (fun _ _ _ h => h) (Or.inl ⟨by rfl, ?hy183⟩) hHeld ?_
                case hy183 => (intro w hSw; (try dsimp only at hSw); go_simp; try with_reducible rfl)
                (try simp only [Act.put, List.setIfInBounds_toArray, List.set_cons_zero, List.set_cons_succ, List.getElem_toArray, List.getElem_cons_zero, List.getElem_cons_succ])
                refine wpAnyH_take (i := 3) (v := ?v184) rfl (by kernel_rfl) (by kernel_rfl) (by kernel_rfl) (fun _ _ _ h => h) (Or.inl ⟨by rfl, ?hy184⟩) hHeld ?_
                case hy184 => (intro w hSw; (try dsimp only at hSw); go_simp; try with_reducible rfl)
                (try simp only [Act.put, List.setIfInBounds_toArray, List.set_cons_zero, List.set_cons_succ, List.getElem_toArray, List.getElem_cons_zero, List.getElem_cons_succ])
                refine wpAnyH_take (i := 4) (v := ?v185) rfl (by kernel_rfl) (by kernel_rfl) (by kernel_rfl) (fun _ _ _ h => h) (Or.inl ⟨by rfl, ?hy185⟩) hHeld ?_
                case hy185 => (intro w hSw; (try dsimp only at hSw); go_simp; try with_reducible rfl)
                (try simp only [Act.put, List.setIfInBounds_toArray, List.set_cons_zero, List.set_cons_succ, List.getElem_toArray, List.getElem_cons_zero, List.getElem_cons_succ])
                refine wpAnyH_take (i := 5) (v := ?v186) rfl (by kernel_rfl) (by kernel_rfl) (by kernel_rfl) (fun _ _ _ h => h) (Or.inl ⟨by rfl, ?hy186⟩) hHeld ?_
                case hy186 => (intro w hSw; (try dsimp only at hSw); go_simp; try with_reducible rfl)
                (try simp only [Act.put, List.setIfInBounds_toArray, List.set_cons_zero, List.set_cons_succ, List.getElem_toArray, List.getElem_cons_zero, List.getElem_cons_succ])
                refine wpAnyH_take (i := 6) (v := ?v187) rfl (by kernel_rfl) (by kernel_rfl) (by kernel_rfl) (fun _ _ _ h => h) (Or.inl ⟨by rfl, ?hy187⟩) hHeld ?_
                case hy187 => (intro w hSw; (try dsimp only at hSw); go_simp; try with_reducible rfl)
                (try simp only [Act.put, List.setIfInBounds_toArray, List.set_cons_zero, List.set_cons_succ, List.getElem_toArray, List.getElem_cons_zero, List.getElem_cons_succ])
                refine wpAnyH_take (i := 7) (v := ?v188) rfl (by kernel_rfl) (by kernel_rfl) (by kernel_rfl) (fun _ _ _ h => h) (Or.inl ⟨by rfl, ?hy188⟩) hHeld ?_
                case hy188 => (intro w hSw; (try dsimp only at hSw); go_simp; try with_reducible rfl)
                (try simp only [Act.put, List.setIfInBounds_toArray, List.set_cons_zero, List.set_cons_succ, List.getElem_toArray, List.getElem_cons_zero, List.getElem_cons_succ])
                refine wpAnyH_take (i := 8) (v := ?v189) rfl (by kernel_rfl) (by kernel_rfl) (by kernel_rfl) (fun _ _ _ h => h) (Or.inl ⟨by rfl, ?hy189⟩) hHeld ?_
                case hy189 => (intro w hSw; (try dsimp only at hSw); go_simp; try with_reducible rfl)
                (try simp only [Act.put, List.setIfInBounds_toArray, List.set_cons_zero, List.set_cons_succ, List.getElem_toArray, List.getElem_cons_zero, List.getElem_cons_succ])
                refine wpAnyH_take (i := 9) (v := ?v190) rfl (by kernel_rfl) (by kernel_rfl) (by kernel_rfl) (fun _ _ _ h => h) (Or.inl ⟨by rfl, ?hy190⟩) hHeld ?_
                case hy190 => (intro w hSw; (try dsimp only at hSw); go_simp; try with_reducible rfl)
                (try simp only [Act.put, List.setIfInBounds_toArray, List.set_cons_zero, List.set_cons_succ, List.getElem_toArray, List.getElem_cons_zero, List.getElem_cons_succ])
                refine wpAnyH_take (i := 10) (v := ?v191) rfl (by kernel_rfl) (by kernel_rfl) (by kernel_rfl) (fun _ _ _ h => h) (Or.inl ⟨by rfl, ?hy191⟩) hHeld ?_
                case hy191 => (intro w hSw; (try dsimp only at hSw); go_simp; try with_reducible rfl)
                (try simp only [Act.put, List.setIfInBounds_toArray, List.set_cons_zero, List.set_cons_succ, List.getElem_toArray, List.getElem_cons_zero, List.getElem_cons_succ])
                refine wpAnyH_take (i := 11) (v := ?v192) rfl (by kernel_rfl) (by kernel_rfl) (by kernel_rfl) (fun _ _ _ h => h) (Or.inl ⟨by rfl, ?hy192⟩) hHeld ?_
                case hy192 => (intro w hSw; (try dsimp only at hSw); go_simp; try with_reducible rfl)
                (try simp only [Act.put, List.setIfInBounds_toArray, List.set_cons_zero, List.set_cons_succ, List.getElem_toArray, List.getElem_cons_zero, List.getElem_cons_succ])
                refine wpAnyH_take (i := 12) (v := ?v193) rfl (by kernel_rfl) (by kernel_rfl) (by kernel_rfl) (fun _ _ _ h => h) (Or.inl ⟨by rfl, ?hy193⟩) hHeld ?_
                case hy193 => (intro w hSw; (try dsimp only at hSw); go_simp; try with_reducible rfl)
                (try simp only [Act.put, List.setIfInBounds_toArray, List.set_cons_zero, List.set_cons_succ, List.getElem_toArray, List.getElem_cons_zero, List.getElem_cons_succ])
                refine wpAnyH_take (i := 13) (v := ?v194) rfl (by kernel_rfl) (by kernel_rfl) (by kernel_rfl) (fun _ _ _ h => h) (Or.inl ⟨by rfl, ?hy194⟩) hHeld ?_
                case hy194 => (intro w hSw; (try dsimp only at hSw); go_simp; try with_reducible rfl)
                (try simp only [Act.put, List.setIfInBounds_toArray, List.set_cons_zero, List.set_cons_succ, List.getElem_toArray, List.getElem_cons_zero, List.getElem_cons_succ])
                refine wpAnyH_take (i := 14) (v := ?v195) rfl (by kernel_rfl) (by kernel_rfl) (by kernel_rfl) (fun _ _ _ h => h) (Or.inl ⟨by rfl, ?hy195⟩) hHeld ?_
                case hy195 => (intro w hSw; (try dsimp only at hSw); go_simp; try with_reducible rfl)
                (try simp only [Act.put, List.setIfInBounds_toArray, List.set_cons_zero, List.set_cons_succ, List.getElem_toArray, List.getElem_cons_zero, List.getElem_cons_succ])
                refine wpAnyH_done (by kernel_rfl) ?_ _
                go_wp2
                go_ret3
                rw [HR.out]
                exact ⟨none, 0, rfl, PtsR.nil _ _, below_drewN HB4.out 1⟩
              · have hmI : ((out.length : Int) == 10000) = false := by rw [beq_eq_false_iff_ne]; omega
                refine wp_region_held_drew (S := (fun w' => w'.cell? ⟨w3.heap.size, 0, none⟩ = some (.int .i64 p.at_) ∧ w'.cell? ⟨b', o' + (out.length - 1) * 11, none⟩ = some (.int .i64 (out[out.length - 1]).at_))) (by kernel_rfl) ?_ (fun hHeld => ?_)
                · (try dsimp only); go_keep
                refine wpAnyH_take (i := 0) (v := ?v196) rfl (by kernel_rfl) (by kernel_rfl) (by kernel_rfl) (fun _ _ _ h => h) (Or.inl ⟨by rfl, ?hy196⟩) hHeld ?_
                case hy196 => (intro w hSw; (try dsimp only at hSw); go_simp; try with_reducible rfl)
                (try simp only [Act.put, List.setIfInBounds_toArray, List.set_cons_zero, List.set_cons_succ, List.getElem_toArray, List.getElem_cons_zero])
                refine wpAnyH_take (i := 1) (v := ?v197) rfl (by kernel_rfl) (by kernel_rfl) (by kernel_rfl) (fun _ _ _ h => h) (Or.inl ⟨by rfl, ?hy197⟩) hHeld ?_
                case hy197 => (intro w hSw; (try dsimp only at hSw); go_simp; try with_reducible rfl)
                (try simp only [Act.put, List.setIfInBounds_toArray, List.set_cons_zero, List.set_cons_succ, List.getElem_toArray, List.getElem_cons_zero, List.getElem_cons_succ])
                refine wpAnyH_take (i := 2) (v := ?v198) rfl (by kernel_rfl) (by kernel_rfl) (by kernel_rfl) (fun _ _ _ h => h) (Or.inl ⟨by rfl, ?hy198⟩) hHeld ?_
                case hy198 => (intro w hSw; (try dsimp only at hSw); go_simp; try with_reducible rfl)
                (try simp only [Act.put, List.setIfInBounds_toArray, List.set_cons_zero, List.set_cons_succ, List.getElem_toArray, List.getElem_cons_zero, List.getElem_cons_succ])
                refine wpAnyH_take (i := 3) (v := ?v199) rfl (by kernel_rfl) (by kernel_rfl) (by kernel_rfl) (fun _ _ _ h => h) (Or.inl ⟨by rfl, ?hy199⟩) hHeld ?_
                case hy199 => (intro w hSw; (try dsimp only at hSw); go_simp; try with_reducible rfl)
                (try simp only [Act.put, List.setIfInBounds_toArray, List.set_cons_zero, List.set_cons_succ, List.getElem_toArray, List.getElem_cons_zero, List.getElem_cons_succ])
                refine wpAnyH_take (i := 4) (v := ?v200) rfl (by kernel_rfl) (by kernel_rfl) (by kernel_rfl) (fun _ _ _ h => h) (Or.inl ⟨by rfl, ?hy200⟩) hHeld ?_
                case hy200 => (intro w hSw; (try dsimp only at hSw); go_simp; try with_reducible rfl)
                (try simp only [Act.put, List.setIfInBounds_toArray, List.set_cons_zero, List.set_cons_succ, List.getElem_toArray, List.getElem_cons_zero, List.getElem_cons_succ])
                refine wpAnyH_take (i := 5) (v := ?v201) rfl (by kernel_rfl) (by kernel_rfl) (by kernel_rfl) (fun _ _ _ h => h) (Or.inl ⟨by rfl, ?hy201⟩) hHeld ?_
                case hy201 => (intro w hSw; (try dsimp only at hSw); go_simp; try with_reducible rfl)
                (try simp only [Act.put, List.setIfInBounds_toArray, List.set_cons_zero, List.set_cons_succ, List.getElem_toArray, List.getElem_cons_zero, List.getElem_cons_succ])
                refine wpAnyH_take (i := 6) (v := ?v202) rfl (by kernel_rfl) (by kernel_rfl) (by kernel_rfl) (fun _ _ _ h => h) (Or.inl ⟨by rfl, ?hy202⟩) hHeld ?_
                case hy202 => (intro w hSw; (try dsimp only at hSw); go_simp; try with_reducible rfl)
                (try simp only [Act.put, List.setIfInBounds_toArray, List.set_cons_zero, List.set_cons_succ, List.getElem_toArray, List.getElem_cons_zero, List.getElem_cons_succ])
                refine wpAnyH_take (i := 7) (v := ?v203) rfl (by kernel_rfl) (by kernel_rfl) (by kernel_rfl) (fun _ _ _ h => h) (Or.inl ⟨by rfl, ?hy203⟩) hHeld ?_
                case hy203 => (intro w hSw; (try dsimp only at hSw); go_simp; try with_reducible rfl)
                (try simp only [Act.put, List.setIfInBounds_toArray, List.set_cons_zero, List.set_cons_succ, List.getElem_toArray, List.getElem_cons_zero, List.getElem_cons_succ])
                refine wpAnyH_take (i := 8) (v := ?v204) rfl (by kernel_rfl) (by kernel_rfl) (by kernel_rfl) (fun _ _ _ h => h) (Or.inl ⟨by rfl, ?hy204⟩) hHeld ?_
                case hy204 => (intro w hSw; (try dsimp only at hSw); go_simp; try with_reducible rfl)
                (try simp only [Act.put, List.setIfInBounds_toArray, List.set_cons_zero, List.set_cons_succ, List.getElem_toArray, List.getElem_cons_zero, List.getElem_cons_succ])
                refine wpAnyH_take (i := 9) (v := ?v205) rfl (by kernel_rfl) (by kernel_rfl) (by kernel_rfl) (fun _ _ _ h => h) (Or.inl ⟨by rfl, ?hy205⟩) hHeld ?_
                case hy205 => (intro w hSw; (try dsimp only at hSw); go_simp; try with_reducible rfl)
                (try simp only [Act.put, List.setIfInBounds_toArray, List.set_cons_zero, List.set_cons_succ, List.getElem_toArray, List.getElem_cons_zero, List.getElem_cons_succ])
                refine wpAnyH_take (i := 10) (v := ?v206) rfl (by kernel_rfl) (by kernel_rfl) (by kernel_rfl) (fun _ _ _ h => h) (Or.inl ⟨by rfl, ?hy206⟩) hHeld ?_
                case hy206 => (intro w hSw; (try dsimp only at hSw); go_simp; try with_reducible rfl)
                (try simp only [Act.put, List.setIfInBounds_toArray, List.set_cons_zero, List.set_cons_succ, List.getElem_toArray, List.getElem_cons_zero, List.getElem_cons_succ])
                refine wpAnyH_take (i := 11) (v := ?v207) rfl (by kernel_rfl) (by kernel_rfl) (by kernel_rfl) (fun _ _ _ h => h) (Or.inl ⟨by rfl, ?hy207⟩) hHeld ?_
                case hy207 => (intro w hSw; (try dsimp only at hSw); go_simp; try with_reducible rfl)
                (try simp only [Act.put, List.setIfInBounds_toArray, List.set_cons_zero, List.set_cons_succ, List.getElem_toArray, List.getElem_cons_zero, List.getElem_cons_succ])
                refine wpAnyH_take (i := 12) (v := ?v208) rfl (by kernel_rfl) (by kernel_rfl) (by kernel_rfl) (fun _ _ _ h => h) (Or.inl ⟨by rfl, ?hy208⟩) hHeld ?_
                case hy208 => (intro w hSw; (try dsimp only at hSw); go_simp; try with_reducible rfl)
                (try simp only [Act.put, List.setIfInBounds_toArray, List.set_cons_zero, List.set_cons_succ, List.getElem_toArray, List.getElem_cons_zero, List.getElem_cons_succ])
                refine wpAnyH_take (i := 13) (v := ?v209) rfl (by kernel_rfl) (by kernel_rfl) (by kernel_rfl) (fun _ _ _ h => h) (Or.inl ⟨by rfl, ?hy209⟩) hHeld ?_
                case hy209 => (intro w hSw; (try dsimp only at hSw); go_simp; try with_reducible rfl)
                (try simp only [Act.put, List.setIfInBounds_toArray, List.set_cons_zero, List.set_cons_succ, List.getElem_toArray, List.getElem_cons_zero, List.getElem_cons_succ])
                refine wpAnyH_take (i := 14) (v := ?v210) rfl (by kernel_rfl) (by kernel_rfl) (by kernel_rfl) (fun _ _ _ h => h) (Or.inl ⟨by rfl, ?hy210⟩) hHeld ?_
                case hy210 => (intro w hSw; (try dsimp only at hSw); go_simp; try with_reducible rfl)
                (try simp only [Act.put, List.setIfInBounds_toArray, List.set_cons_zero, List.set_cons_succ, List.getElem_toArray, List.getElem_cons_zero, List.getElem_cons_succ])
                refine wpAnyH_done (by kernel_rfl) ?_ _
                clear g1 g2 g3 g4 g5
                obtain ⟨w5, hw5⟩ : ∃ w5 : World, w5 = w4.drew := ⟨_, rfl⟩
                have HP5 : Hid (PtAt w5 w3.heap.size p) := by rw [hw5]; exact HP4.out.below (below_drewN (Below.refl _ _) 1)
                have HO5 : Hid (Own w5 w.heap.size (.slice (some ⟨b', o', none⟩) out.length c) out) := by rw [hw5]; exact HO4.out
                have HB5 : Hid (Below w.heap.size w w5) := by rw [hw5]; exact below_drewN HB4.out 1
                rw [← hw5]
                clear hw5 HP4 HO4 HB4
                obtain ⟨c0, c1, c2, c3, c4, c5, c6, c7, c8, c9, c10⟩ := HP5.out
                have hz5 := lt_of_cell c0
                simp only at hz5
                have HQ := Lib.hid (new_pts w5 p _ rfl)
                have HOA : Hid (Own (w5.alloc p.box) w.heap.size (.slice (some ⟨b', o', none⟩) out.length c) out) := World.ownsRow.alloc HO5.out _
                have HNX : Hid (parseL (text.data.toList.drop (i + 1)) (out ++ [p]) = parseL text.data.toList []) := by
                  show _ = _
                  rw [← HEQ.out, parseL_next HT0.out HC2.out HRP.out HL0.out (by omega), HC.out]
                go_wp2_with (at_builtin; refine wpList_append_pts _ rfl (.tmp 60) (.tmp 62) rfl w.heap.size _ out rfl ?_ (some ⟨w5.heap.size, 0, none⟩) 1 [p] rfl ?_ ?_ ?_ ?_; (exact HOA.out); (exact HQ.out); (simp; omega); (have := HB5.out.size; simp; omega); intro v6 w6 ho6 hg6)
                obtain ⟨A6, c6', e6, _⟩ := ho6.reads
                subst e6
                go_roundw
                case rel => exact ⟨i + 1, i + 1, out ++ [p], A6, c6', by omega, by omega, (by simp; omega), rfl, by go_num, by go_num, ⟨HNX.out, (by simp), ho6, (HB5.out.alloc HB5.out.size _).grown hg6 (by have := HB5.out.size; simp; omega) HOA.out.lt⟩⟩
                case measure => simp [intOf]; omega
          · have HL0 : Hid (late out p = false) := by rw [List.eq_nil_of_length_eq_zero (show out.length = 0 by omega)]; rfl
            have hneI : ¬ (0 : Int) < (out.length : Int) := by omega
            have hned : decide ((0 : Int) < (out.length : Int)) = false := by simpa using hneI
            have hmI : ((out.length : Int) == 10000) = false := by rw [beq_eq_false_iff_ne]; omega
            refine wp_region_held_drew (S := (fun _ => True)) (by kernel_rfl) ?_ (fun hHeld => ?_)
            · (try dsimp only); (try trivial)
            refine wpAnyH_take (i := 0) (v := ?v211) rfl (by kernel_rfl) (by kernel_rfl) (by kernel_rfl) (fun _ _ _ h => h) (Or.inl ⟨by rfl, ?hy211⟩) hHeld ?_
            case hy211 => (intro w hSw; (try dsimp only at hSw); go_simp; try with_reducible rfl)
            (try simp only [Act.put, List.setIfInBounds_toArray, List.set_cons_zero, List.set_cons_succ, List.getElem_toArray, List.getElem_cons_zero])
            refine wpAnyH_take (i := 1) (v := ?v212) rfl (by kernel_rfl) (by kernel_rfl) (by kernel_rfl) (fun _ _ _ h => h) (Or.inl ⟨by rfl, ?hy212⟩) hHeld ?_
            case hy212 => (intro w hSw; (try dsimp only at hSw); go_simp; try with_reducible rfl)
            (try simp only [Act.put, List.setIfInBounds_toArray, List.set_cons_zero, List.set_cons_succ, List.getElem_toArray, List.getElem_cons_zero, List.getElem_cons_succ])
            refine wpAnyH_take (i := 2) (v := ?v213) rfl (by kernel_rfl) (by kernel_rfl) (by kernel_rfl) (fun _ _ _ h => h) (Or.inl ⟨by rfl, ?hy213⟩) hHeld ?_
            case hy213 => (intro w hSw; (try dsimp only at hSw); go_simp; try with_reducible rfl)
            (try simp only [Act.put, List.setIfInBounds_toArray, List.set_cons_zero, List.set_cons_succ, List.getElem_toArray, List.getElem_cons_zero, List.getElem_cons_succ])
            refine wpAnyH_take (i := 3) (v := ?v214) rfl (by kernel_rfl) (by kernel_rfl) (by kernel_rfl) (fun _ _ _ h => h) (Or.inl ⟨by rfl, ?hy214⟩) hHeld ?_
            case hy214 => (intro w hSw; (try dsimp only at hSw); go_simp; try with_reducible rfl)
            (try simp only [Act.put, List.setIfInBounds_toArray, List.set_cons_zero, List.set_cons_succ, List.getElem_toArray, List.getElem_cons_zero, List.getElem_cons_succ])
            refine wpAnyH_take (i := 4) (v := undef) rfl (by kernel_rfl) (by kernel_rfl) (by kernel_rfl) (fun _ _ _ h => h) (Or.inr ⟨by rfl, rfl⟩) hHeld ?_
            (try simp only [Act.put, List.setIfInBounds_toArray, List.set_cons_zero, List.set_cons_succ, List.getElem_toArray, List.getElem_cons_zero, List.getElem_cons_succ])
            refine wpAnyH_take (i := 5) (v := undef) rfl (by kernel_rfl) (by kernel_rfl) (by kernel_rfl) (fun _ _ _ h => h) (Or.inr ⟨by rfl, rfl⟩) hHeld ?_
            (try simp only [Act.put, List.setIfInBounds_toArray, List.set_cons_zero, List.set_cons_succ, List.getElem_toArray, List.getElem_cons_zero, List.getElem_cons_succ])
            refine wpAnyH_take (i := 6) (v := undef) rfl (by kernel_rfl) (by kernel_rfl) (by kernel_rfl) (fun _ _ _ h => h) (Or.inr ⟨by rfl, rfl⟩) hHeld ?_
            (try simp only [Act.put, List.setIfInBounds_toArray, List.set_cons_zero, List.set_cons_succ, List.getElem_toArray, List.getElem_cons_zero, List.getElem_cons_succ])
            refine wpAnyH_take (i := 7) (v := undef) rfl (by kernel_rfl) (by kernel_rfl) (by kernel_rfl) (fun _ _ _ h => h) (Or.inr ⟨by rfl, rfl⟩) hHeld ?_
            (try simp only [Act.put, List.setIfInBounds_toArray, List.set_cons_zero, List.set_cons_succ, List.getElem_toArray, List.getElem_cons_zero, List.getElem_cons_succ])
            refine wpAnyH_take (i := 8) (v := undef) rfl (by kernel_rfl) (by kernel_rfl) (by kernel_rfl) (fun _ _ _ h => h) (Or.inr ⟨by rfl, rfl⟩) hHeld ?_
            (try simp only [Act.put, List.setIfInBounds_toArray, List.set_cons_zero, List.set_cons_succ, List.getElem_toArray, List.getElem_cons_zero, List.getElem_cons_succ])
            refine wpAnyH_take (i := 9) (v := undef) rfl (by kernel_rfl) (by kernel_rfl) (by kernel_rfl) (fun _ _ _ h => h) (Or.inr ⟨by rfl, rfl⟩) hHeld ?_
            (try simp only [Act.put, List.setIfInBounds_toArray, List.set_cons_zero, List.set_cons_succ, List.getElem_toArray, List.getElem_cons_zero, List.getElem_cons_succ])
            refine wpAnyH_take (i := 10) (v := undef) rfl (by kernel_rfl) (by kernel_rfl) (by kernel_rfl) (fun _ _ _ h => h) (Or.inr ⟨by rfl, rfl⟩) hHeld ?_
            (try simp only [Act.put, List.setIfInBounds_toArray, List.set_cons_zero, List.set_cons_succ, List.getElem_toArray, List.getElem_cons_zero, List.getElem_cons_succ])
            refine wpAnyH_take (i := 11) (v := undef) rfl (by kernel_rfl) (by kernel_rfl) (by kernel_rfl) (fun _ _ _ h => h) (Or.inr ⟨by rfl, rfl⟩) hHeld ?_
            (try simp only [Act.put, List.setIfInBounds_toArray, List.set_cons_zero, List.set_cons_succ, List.getElem_toArray, List.getElem_cons_zero, List.getElem_cons_succ])
            refine wpAnyH_take (i := 12) (v := undef) rfl (by kernel_rfl) (by kernel_rfl) (by kernel_rfl) (fun _ _ _ h => h) (Or.inr ⟨by rfl, rfl⟩) hHeld ?_
            (try simp only [Act.put, List.setIfInBounds_toArray, List.set_cons_zero, List.set_cons_succ, List.getElem_toArray, List.getElem_cons_zero, List.getElem_cons_succ])
            refine wpAnyH_take (i := 13) (v := undef) rfl (by kernel_rfl) (by kernel_rfl) (by kernel_rfl) (fun _ _ _ h => h) (Or.inr ⟨by rfl, rfl⟩) hHeld ?_
            (try simp only [Act.put, List.setIfInBounds_toArray, List.set_cons_zero, List.set_cons_succ, List.getElem_toArray, List.getElem_cons_zero, List.getElem_cons_succ])
            refine wpAnyH_take (i := 14) (v := ?v215) rfl (by kernel_rfl) (by kernel_rfl) (by kernel_rfl) (fun _ _ _ h => h) (Or.inl ⟨by rfl, ?hy215⟩) hHeld ?_
            case hy215 => (intro w hSw; (try dsimp only at hSw); go_simp; try with_reducible rfl)
            (try simp only [Act.put, List.setIfInBounds_toArray, List.set_cons_zero, List.set_cons_succ, List.getElem_toArray, List.getElem_cons_zero, List.getElem_cons_succ])
            refine wpAnyH_done (by kernel_rfl) ?_ _
            obtain ⟨w5, hw5⟩ : ∃ w5 : World, w5 = w4.drew := ⟨_, rfl⟩
            have HP5 : Hid (PtAt w5 w3.heap.size p) := by rw [hw5]; exact HP4.out.below (below_drewN (Below.refl _ _) 1)
            have HO5 : Hid (Own w5 w.heap.size (.slice A out.length c) out) := by rw [hw5]; exact HO4.out
            have HB5 : Hid (Below w.heap.size w w5) := by rw [hw5]; exact below_drewN HB4.out 1
            rw [← hw5]
            clear hw5 HP4 HO4 HB4
            obtain ⟨c0, c1, c2, c3, c4, c5, c6, c7, c8, c9, c10⟩ := HP5.out
            have hz5 := lt_of_cell c0
            simp only at hz5
            have HQ := Lib.hid (new_pts w5 p _ rfl)
            have HOA : Hid (Own (w5.alloc p.box) w.heap.size (.slice A out.length c) out) := World.ownsRow.alloc HO5.out _
            have HNX : Hid (parseL (text.data.toList.drop (i + 1)) (out ++ [p]) = parseL text.data.toList []) := by
              show _ = _
              rw [← HEQ.out, parseL_next HT0.out HC2.out HRP.out HL0.out (by omega), HC.out]
            go_wp2_with (at_builtin; refine wpList_append_pts _ rfl (.tmp 60) (.tmp 62) rfl w.heap.size _ out rfl ?_ (some ⟨w5.heap.size, 0, none⟩) 1 [p] rfl ?_ ?_ ?_ ?_; (exact HOA.out); (exact HQ.out); (simp; omega); (have := HB5.out.size; simp; omega); intro v6 w6 ho6 hg6)
            obtain ⟨A6, c6', e6, _⟩ := ho6.reads
            subst e6
            go_roundw
            case rel => exact ⟨i + 1, i + 1, out ++ [p], A6, c6', by omega, by omega, (by simp; omega), rfl, by go_num, by go_num, ⟨HNX.out, (by simp), ho6, (HB5.out.alloc HB5.out.size _).grown hg6 (by have := HB5.out.size; simp; omega) HOA.out.lt⟩⟩
            case measure => simp [intOf]; omega
      · have hb10 : ((text[i].toNat : Int) != 10) = true := by
          rw [bne_iff_ne]; intro e; apply h10
          apply UInt8.toNat_inj.1; show _ = 10; omega
        have H10 := Lib.hid h10
        clear h10
        go_wp2
        go_roundw
        case rel => exact ⟨b, i + 1, out, A, c, by omega, by omega, hol, rfl, rfl, by go_num, ⟨hh.out.eq, (by rw [piece_succ hbi hlt']; exact not_snoc hh.out.no H10.out), hh.out.own, hh.out.bel⟩⟩
        case measure => simp [intOf]; omega
    · obtain rfl : i = text.size := by omega
      have HNO : Hid ((10 : UInt8) ∉ text.data.toList.drop b) := by
        have := hh.out.no
        rwa [List.take_of_length_le (by rw [List.length_drop]; exact Nat.le_refl _)] at this
      by_cases hbe : b < text.size
      · have HR : Hid (parseR text = ([], (out.length : Int) + 1, 2)) := by
          show parseR text = _
          unfold parseR
          rw [← hh.out.eq, parseL_open (fun e => by
            have := congrArg List.length e
            rw [List.length_drop] at this
            simp only [List.length_nil] at this
            have h2 : text.data.toList.length = text.size := rfl
            omega) (by rw [cut_no HNO.out])]
        go_wp2
        go_ret3
        rw [HR.out]
        exact ⟨none, 0, rfl, PtsR.nil _ _, hh.out.bel⟩
      · have HR : Hid (parseR text = (out, 0, 0)) := by
          show parseR text = _
          unfold parseR
          rw [← hh.out.eq, List.drop_of_length_le (show text.data.toList.length ≤ b by have h2 : text.data.toList.length = text.size := rfl; omega), parseL_nil]
        go_wp2
        go_ret3
        rw [HR.out]
        obtain ⟨A2, c2, e2, hr2⟩ := hh.out.own.reads
        injection e2 with e2 _ _
        subst e2
        exact ⟨A, c, rfl, hr2, hh.out.bel⟩
end Go.Proofs.YtcmnmcholfellaaDoor
