/-
  Walks: a text divided at its spaces, and a number read, in the reference.
-/
import Derived.Test.YtcmnmcholfellaaDoorQ2
import Derived.WalkSpells
namespace Go.Proofs.YtcmnmcholfellaaDoor
open Go.RowKit

/-- A slice value that owns texts. -/
def OwnS (w : World) (base : Nat) (v : Value) (l : List ByteArray) : Prop := w.ownsRow base 9 1 v l.length (l.map Value.string)

theorem OwnS.nil (w : World) (base : Nat) : OwnS w base (.slice none 0 0) [] := World.ownsRow_nil w base 9 1
theorem OwnS.lt {w : World} {base : Nat} {v : Value} {l : List ByteArray} (h : OwnS w base v l) : ∀ k, v.ownBlock = some k → base ≤ k := fun k hk => (World.ownsRow.lt h k hk).1
theorem OwnS.snoc {w : World} {base : Nat} {v : Value} {l : List ByteArray} {x : ByteArray} (h : w.ownsRow base 9 1 v (l.length + 1) (l.map Value.string ++ [.string x])) : OwnS w base v (l ++ [x]) := by
  unfold OwnS; rw [List.length_append, List.map_append]; exact h
theorem OwnS.below {w w' : World} {base : Nat} {v : Value} {l : List ByteArray} (h : OwnS w base v l) (hb : Below w.heap.size w w') : OwnS w' base v l := ownsRow_below h hb
theorem elem_str : Elem 89 9 1 16 := ⟨Tryd.underlying89, ⟨.string ⟨#[]⟩, by kernel_rfl, rfl⟩, by omega⟩

theorem OwnS.reads {w : World} {base : Nat} {v : Value} {l : List ByteArray} (h : OwnS w base v l) : ∃ A c, v = .slice A l.length c ∧ l.length ≤ c ∧ c ≤ 9223372036854775807 ∧ (l ≠ [] → ∃ g, A = some ⟨g, 0, none⟩ ∧ StrsIn w g l) := by
  rcases h.2 with ⟨hv, h0⟩ | ⟨g, cap, cur, hv, _, hg, hnc, hcm, _, ht⟩
  · have : l = [] := List.eq_nil_of_length_eq_zero h0
    subst this
    exact ⟨none, 0, hv, Nat.le_refl _, by omega, fun h => absurd rfl h⟩
  · unfold maxLen at hcm
    refine ⟨some ⟨g, 0, none⟩, cap, hv, hnc, by omega, fun _ => ⟨g, rfl, fun k x hk => ?_⟩⟩
    have := World.ownsRow.cells h (g := g) (by rw [hv]; rfl) k (.string x) (by rw [List.getElem?_map, hk]; rfl)
    rwa [Addr.add_mid, Nat.zero_add] at this

theorem drop_at {S : List UInt8} {b i : Nat} (hb : b ≤ i) (hi : i < S.length) : S.drop b = (S.drop b).take (i - b) ++ S[i] :: S.drop (i + 1) := by
  have e : (S.drop b).drop (i - b) = S[i] :: S.drop (i + 1) := by
    rw [List.drop_drop, show b + (i - b) = i by omega, List.drop_eq_getElem_cons hi]
  rw [← e, List.take_append_drop]

theorem split_hit {S : List UInt8} {b i : Nat} (hb : b ≤ i) (hi : i < S.length) (h : S[i] = 32) (hn : (32 : UInt8) ∉ (S.drop b).take (i - b)) : spl 32 (S.drop b) = (S.drop b).take (i - b) :: spl 32 (S.drop (i + 1)) := by
  conv => lhs; rw [drop_at hb hi, h]
  exact spl_at hn

theorem piece_succ {S : List UInt8} {b i : Nat} (hb : b ≤ i) (hi : i < S.length) : (S.drop b).take (i + 1 - b) = (S.drop b).take (i - b) ++ [S[i]] := by
  rw [show i + 1 - b = (i - b) + 1 by omega, List.take_succ_eq_append_getElem (by simp; omega)]
  congr 2
  rw [List.getElem_drop]
  congr 1; omega

theorem not_snoc {c x : UInt8} {l : List UInt8} (h : c ∉ l) (hx : ¬ x = c) : c ∉ l ++ [x] := fun hm => by
  rcases List.mem_append.1 hm with e | e
  · exact h e
  · rw [List.mem_singleton] at e; exact hx e.symm

def SplitPost (s : ByteArray) (w : World) (e : Ending) (w' : World) : Prop :=
  ∃ v ws, e = .returned v ∧ OwnS w' w.heap.size v ws ∧ ws.map (·.data.toList) = spl 32 s.data.toList ∧ Below w.heap.size w w'

/-- The state of the loop. -/
structure SpSt (s : ByteArray) (w : World) (b i : Nat) (v : Value) (wr : World) : Prop where
  st : ∃ ws : List ByteArray, OwnS wr w.heap.size v ws ∧ ws.map (·.data.toList) ++ spl 32 (s.data.toList.drop b) = spl 32 s.data.toList ∧ ws.length ≤ i
  no : (32 : UInt8) ∉ (s.data.toList.drop b).take (i - b)
  bel : Below w.heap.size w wr

set_option maxHeartbeats 1000000 in
set_option maxRecDepth 100000 in
theorem refSplit_any (s : ByteArray) (hs : s.size ≤ 100000) (w : World) :
    Calls Tryd.prog 75 #[.string s] w (SplitPost s w) := by
  go_enter Tryd.func75, Tryd.ntmps75
  go_wp2
  go_loopw [3, 4, 5] (fun s3 s4 s5 wr => ∃ b i : Nat, b ≤ i ∧ i ≤ s.size ∧ s4 = .int .i64 b ∧ s5 = .int .i64 i ∧ Hid (SpSt s w b i s3 wr)) (fun _ _ s5 _ => s.size - (intOf s5).toNat)
  case atStart => exact ⟨0, 0, by omega, by omega, rfl, rfl, ⟨⟨[], OwnS.nil _ _, by simp, by simp⟩, by simp, Below.refl _ _⟩⟩
  case round =>
    obtain ⟨b, i, hbi, hi, rfl, rfl, hh⟩ := hrel
    obtain ⟨wo, rfl⟩ : ∃ wo : World, wo = wr := ⟨_, rfl⟩
    by_cases hlt : i < s.size
    · have hlt' : i < s.data.toList.length := hlt
      have HE := Lib.hid (show s.data.toList[i] = s[i] from rfl)
      by_cases h32 : s[i] = 32
      · have hb32 : ((s[i].toNat : Int) == 32) = true := by rw [h32]; rfl
        obtain ⟨ws, ho, he, hwl⟩ := hh.out.st
        have HX := Lib.hid (Lib.extract_data s b i)
        have HSP := Lib.hid (split_hit hbi hlt' (HE.out.trans h32) hh.out.no)
        have HO := Lib.hid ho
        have HEE := Lib.hid he
        have HBL := Lib.hid hh.out.bel
        clear ho he h32 HE
        have HRN := Lib.hid (range_new wo [.string (s.extract b i)] 9)
        have HOA : Hid ((wo.alloc (.cells #[.string (s.extract b i)] 9)).ownsRow w.heap.size 9 1 u3 _ _) := World.ownsRow.alloc HO.out _
        go_wp2_with (at_builtin; refine wpList_append_one elem_str _ rfl (.tmp 16) (.tmp 21) rfl w.heap.size _ _ _ rfl HOA.out wo.heap.size 0 1 [.string (s.extract b i)] rfl rfl HRN.out (by simp [Value.oneCell']) (by omega) (by omega) (by have := HBL.out.size; simp; omega) ?_; intro v2 w4 ho2 hg2)
        go_roundw
        case rel => exact ⟨i + 1, i + 1, by omega, by omega, by go_num, by go_num, ⟨⟨ws ++ [s.extract b i], OwnS.snoc ho2, (by rw [← HEE.out, HSP.out, List.map_append, List.append_assoc, ← HX.out]; rfl), (by rw [List.length_append]; simp; omega)⟩, (by simp), (HBL.out.alloc HBL.out.size _).grown hg2 (by have := HBL.out.size; simp; omega) (OwnS.lt HO.out)⟩⟩
        case measure => simp [intOf]; omega
      · have hb32 : ((s[i].toNat : Int) == 32) = false := by
          rw [beq_eq_false_iff_ne]; intro e; apply h32
          apply UInt8.toNat_inj.1; show _ = 32; omega
        have H32 := Lib.hid h32
        clear h32
        go_wp2
        go_roundw
        case rel =>
          obtain ⟨ws, ho, he, hwl⟩ := hh.out.st
          exact ⟨b, i + 1, by omega, by omega, rfl, by go_num, ⟨⟨ws, ho, he, by omega⟩, (by rw [piece_succ hbi hlt']; exact not_snoc hh.out.no H32.out), hh.out.bel⟩⟩
        case measure => simp [intOf]; omega
    · obtain rfl : i = s.size := by omega
      obtain ⟨ws, ho, he, hwl⟩ := hh.out.st
      have HX := Lib.hid (Lib.extract_to_end s b)
      have HSP : Hid (spl 32 (s.data.toList.drop b) = [s.data.toList.drop b]) := spl_none (by
        have := hh.out.no
        rwa [List.take_of_length_le (by rw [List.length_drop]; exact Nat.le_refl _)] at this)
      have HO := Lib.hid ho
      have HEE := Lib.hid he
      have HBL := Lib.hid hh.out.bel
      clear ho he
      have HRN := Lib.hid (range_new wo [.string (s.extract b s.size)] 9)
      have HOA : Hid ((wo.alloc (.cells #[.string (s.extract b s.size)] 9)).ownsRow w.heap.size 9 1 u3 _ _) := World.ownsRow.alloc HO.out _
      go_wp2_with (at_builtin; refine wpList_append_one elem_str _ rfl (.tmp 25) (.tmp 29) rfl w.heap.size _ _ _ rfl HOA.out wo.heap.size 0 1 [.string (s.extract b s.size)] rfl rfl HRN.out (by simp [Value.oneCell']) (by omega) (by omega) (by have := HBL.out.size; simp; omega) ?_; intro v2 w4 ho2 hg2)
      go_ret
      exact ⟨_, ws ++ [s.extract b s.size], rfl, OwnS.snoc ho2, (by rw [← HEE.out, HSP.out, List.map_append, ← HX.out]; rfl), (HBL.out.alloc HBL.out.size _).grown hg2 (by have := HBL.out.size; simp; omega) (OwnS.lt HO.out)⟩

/-- What the reference's number returns. -/
def numOut (S : List UInt8) : Int × Bool := match numR 0 S with | some v => ((v : Int), !S.isEmpty) | none => (0, false)

set_option maxHeartbeats 1000000 in
theorem refNumber_any (s : ByteArray) (hs : s.size ≤ 100000) (w : World) :
    Calls Tryd.prog 76 #[.string s] w fun e w' => e = .returned (.tuple #[.int .i64 (numOut s.data.toList).1, .bool (numOut s.data.toList).2]) ∧ w = w' := by
  go_enter Tryd.func76, Tryd.ntmps76
  go_wp2
  go_loop [4, 5] (fun s4 s5 => ∃ acc i : Nat, acc ≤ 9223372036854775807 ∧ i ≤ s.size ∧ s4 = .int .i64 acc ∧ s5 = .int .i64 i ∧ Hid (numR 0 s.data.toList = numR acc (s.data.toList.drop i))) (fun _ s5 => s.size - (intOf s5).toNat)
  case atStart => exact ⟨0, 0, by omega, by omega, rfl, rfl, rfl⟩
  case round =>
    obtain ⟨acc, i, hacc, hi, rfl, rfl, hh⟩ := hrel
    by_cases hlt : i < s.size
    · have hlt' : i < s.data.toList.length := hlt
      have HD : Hid (s.data.toList.drop i = s[i] :: s.data.toList.drop (i + 1)) := by rw [List.drop_eq_getElem_cons hlt']; rfl
      have h255 : s[i].toNat < 256 := UInt8.toNat_lt _
      by_cases hlo : s[i].toNat < 48
      · have HN : Hid (numOut s.data.toList = (0, false)) := by
          show numOut _ = _
          unfold numOut; rw [hh.out, HD.out, numR, if_neg (by omega)]
        have h1 : decide ((s[i].toNat : Int) - 48 < 0) = true := by simp; omega
        have h2 : (s[i].toNat : Int) - 48 < 0 := by omega
        go_wp2
        go_ret2
        rw [HN.out]; exact ⟨rfl, rfl⟩
      · have h1 : decide ((s[i].toNat : Int) - 48 < 0) = false := by simp; omega
        have h2 : ¬ (s[i].toNat : Int) - 48 < 0 := by omega
        by_cases hhi : 57 < s[i].toNat
        · have HN : Hid (numOut s.data.toList = (0, false)) := by
            show numOut _ = _
            unfold numOut; rw [hh.out, HD.out, numR, if_neg (by omega)]
          have h3 : decide ((9 : Int) < (s[i].toNat : Int) - 48) = true := by simp; omega
          have h4 : (9 : Int) < (s[i].toNat : Int) - 48 := by omega
          go_wp2
          go_ret2
          rw [HN.out]; exact ⟨rfl, rfl⟩
        · have h3 : decide ((9 : Int) < (s[i].toNat : Int) - 48) = false := by simp; omega
          have h4 : ¬ (9 : Int) < (s[i].toNat : Int) - 48 := by omega
          by_cases hov : 9223372036854775807 < acc * 10 + (s[i].toNat - 48)
          · have HN : Hid (numOut s.data.toList = (0, false)) := by
              show numOut _ = _
              unfold numOut; rw [hh.out, HD.out, numR, if_neg (by omega)]
            have h5 : (9223372036854775807 - ((s[i].toNat : Int) - 48)) / 10 < (acc : Int) := by omega
            have h6 : decide ((9223372036854775807 - ((s[i].toNat : Int) - 48)) / 10 < (acc : Int)) = true := by simpa using h5
            clear hov
            go_wp2
            go_ret2
            rw [HN.out]; exact ⟨rfl, rfl⟩
          · have h5 : ¬ (9223372036854775807 - ((s[i].toNat : Int) - 48)) / 10 < (acc : Int) := by omega
            have h6 : decide ((9223372036854775807 - ((s[i].toNat : Int) - 48)) / 10 < (acc : Int)) = false := by simpa using h5
            have HN : Hid (numR acc (s.data.toList.drop i) = numR (acc * 10 + (s[i].toNat - 48)) (s.data.toList.drop (i + 1))) := by
              show _ = _
              rw [HD.out, numR, if_pos (by omega)]
            have h7 : 10 * (acc : Int) ≤ 9223372036854775807 := by omega
            have h8 : 10 * (acc : Int) + ((s[i].toNat : Int) - 48) ≤ 9223372036854775807 := by omega
            go_wp2
            go_round
            case rel => exact ⟨acc * 10 + (s[i].toNat - 48), i + 1, by omega, by omega, by go_num, by go_num, hh.out.trans HN.out⟩
            case measure => simp [intOf]; omega
    · obtain rfl : i = s.size := by omega
      have HE : Hid (numR 0 s.data.toList = some acc) := by
        show _ = _
        rw [hh.out, List.drop_of_length_le (show s.data.toList.length ≤ s.size from Nat.le_refl _)]; rfl
      by_cases he : s.size = 0
      · have h1 : s.toList = [] := by rw [Lib.toList_data]; exact List.eq_nil_of_length_eq_zero he
        have h2 : s.data.toList = [] := List.eq_nil_of_length_eq_zero he
        have HN : Hid (numOut s.data.toList = ((acc : Int), false)) := by
          show _ = _
          unfold numOut; rw [HE.out]; simp [h2]
        have h3 : s.toList.isEmpty = true := by rw [h1]; rfl
        clear he h2
        go_wp2
        go_ret2
        rw [HN.out]; exact ⟨rfl, rfl⟩
      · have h1 : ¬ s.toList = [] := by rw [Lib.toList_data]; intro e; exact he (congrArg List.length e)
        have HN : Hid (numOut s.data.toList = ((acc : Int), true)) := by
          show _ = _
          unfold numOut; rw [HE.out]
          have : s.data.toList.isEmpty = false := by rw [← Lib.toList_data]; simpa using h1
          simp [this]
        have h3 : s.toList.isEmpty = false := by simpa using h1
        clear he
        go_wp2
        go_ret2
        rw [HN.out]; exact ⟨rfl, rfl⟩
end Go.Proofs.YtcmnmcholfellaaDoor
