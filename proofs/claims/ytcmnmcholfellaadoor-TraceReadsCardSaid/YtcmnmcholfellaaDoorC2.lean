/-
  Walks: slices.Concat of two slices of points.
-/
import Derived.Test.YtcmnmcholfellaaDoorC1
namespace Go.Proofs.YtcmnmcholfellaaDoor
open Go.RowKit

/-- The two slices in their block. -/
def TwoIn (w : World) (b : Nat) (u v : Value) : Prop := w.cell? ⟨b, 0, none⟩ = some u ∧ w.cell? ⟨b, 1, none⟩ = some v

theorem TwoIn.below {w w' : World} {b : Nat} {u v : Value} (h : TwoIn w b u v) (hb : Below w.heap.size w w') : TwoIn w' b u v := ⟨below_cell hb h.1, below_cell hb h.2⟩

set_option maxHeartbeats 1000000 in
theorem concat_any (l m : List Pt) (hlen : l.length + m.length ≤ 100000) (A B : Option Addr) (c d : Nat) (b : Nat) (w : World) (ht : TwoIn w b (.slice A l.length c) (.slice B m.length d)) (hl : PtsR w A l) (hm : PtsR w B m) :
    Calls Tryd.prog 40 #[.slice (some ⟨b, 0, none⟩) 2 2] w (OwnPost (l ++ m) w) := by
  have c0 := ht.1
  have c1 := ht.2
  have HT := Lib.hid ht
  have HL := Lib.hid hl
  have HM := Lib.hid hm
  clear ht hl hm
  go_enter Tryd.func40, Tryd.ntmps40
  go_wp2
  go_loop [3, 11] (fun s i => ∃ k : Nat, k ≤ 2 ∧ i = .int .i64 k ∧ s = .int .i64 (if k = 0 then 0 else if k = 1 then (l.length : Int) else (l.length : Int) + (m.length : Int))) (fun _ i => 2 - (intOf i).toNat)
  case atStart => exact ⟨0, by omega, rfl, rfl⟩
  case round =>
    obtain ⟨k, hk, rfl, rfl⟩ := hrel
    match k, hk with
    | 0, _ =>
      go_wp2
      go_round
      case rel => exact ⟨1, by omega, rfl, rfl⟩
      case measure => simp [intOf]
    | 1, _ =>
      go_wp2
      go_round
      case rel => exact ⟨2, by omega, rfl, rfl⟩
      case measure => simp [intOf]
    | 2, _ =>
      go_wp2_with (go_at_call 62; refine (grow_any (l.length + m.length) (by omega) _).mono ?_; rintro e w1 ⟨v, rfl, ho, hb1⟩)
      have HO := Lib.hid ho
      have HB1 := Lib.hid hb1
      clear ho hb1
      go_loopw [6, 27] (fun s i wr => ∃ k : Nat, k ≤ 2 ∧ i = .int .i64 k ∧ Hid (Own wr w.heap.size s (if k = 0 then [] else if k = 1 then l else l ++ m) ∧ Below w.heap.size w wr)) (fun _ i _ => 2 - (intOf i).toNat)
      case atStart => exact ⟨0, by omega, rfl, HO.out, HB1.out⟩
      case round =>
        obtain ⟨k, hk, rfl, hh⟩ := hrel
        have e0 := (HT.out.below hh.out.2).1
        have e1 := (HT.out.below hh.out.2).2
        match k, hk, hh with
        | 0, _, hh =>
          go_wp2_with (at_builtin; refine wpList_append_pts _ rfl (.tmp 31) (.tmp 32) rfl w.heap.size _ [] rfl ?_ A c l rfl ?_ ?_ ?_ ?_; (exact hh.out.1); (exact HL.out.below hh.out.2); (simp; omega); (exact hh.out.2.size); intro v2 w2 ho2 hg2)
          go_roundw
          case rel => exact ⟨1, by omega, rfl, ho2, hh.out.2.grown hg2 hh.out.2.size hh.out.1.lt⟩
          case measure => simp [intOf]
        | 1, _, hh =>
          go_wp2_with (at_builtin; refine wpList_append_pts _ rfl (.tmp 31) (.tmp 32) rfl w.heap.size _ l rfl ?_ B d m rfl ?_ ?_ ?_ ?_; (exact hh.out.1); (exact HM.out.below hh.out.2); (omega); (exact hh.out.2.size); intro v2 w2 ho2 hg2)
          go_roundw
          case rel => exact ⟨2, by omega, rfl, ho2, hh.out.2.grown hg2 hh.out.2.size hh.out.1.lt⟩
          case measure => simp [intOf]
        | 2, _, hh =>
          go_wp2
          go_ret
          exact ⟨_, rfl, hh.out.1, hh.out.2⟩
end Go.Proofs.YtcmnmcholfellaaDoor
