/-
  Walks: copies of slices of points; points repeated.
-/
import Derived.Test.YtcmnmcholfellaaDoorC1
import Derived.Test.YtcmnmcholfellaaDoorM0
namespace Go.Proofs.YtcmnmcholfellaaDoor
open Go.RowKit

theorem own_empty (w : World) (base : Nat) (hb : base ≤ w.heap.size) : Own (w.alloc (.cells #[] 23)) base (.slice (some ⟨w.heap.size, 0, none⟩) 0 0) [] :=
  ⟨rfl, .inr ⟨w.heap.size, 0, #[], rfl, hb, heap_alloc_new w _, Nat.le_refl _, Nat.zero_le _, rfl, rfl⟩⟩

set_option maxHeartbeats 400000 in
set_option maxRecDepth 100000 in
theorem clone_any (l : List Pt) (hn : l.length ≤ 1000000) (A : Option Addr) (c : Nat) (w : World) (hl : PtsR w A l) :
    Calls Tryd.prog 20 #[.slice A l.length c] w (OwnPost l w) := by
  have HL := Lib.hid hl
  cases A with
  | none =>
    have hln : l = [] := by
      by_cases e : l = []
      · exact e
      · obtain ⟨b, o, e2, _⟩ := hl e; cases e2
    subst hln
    clear hl
    have hnil := fun (w : World) => Lib.run_eql_slice_nil (P := Tryd.prog) w 27 23 none 0 c 0 0 Tryd.underlying27
    go_enter Tryd.func20, Tryd.ntmps20
    go_wp2
    go_ret
    exact ⟨_, rfl, Own.nil _ _, Below.refl _ _⟩
  | some a =>
    clear hl
    have hnil := fun (w : World) => Lib.run_eql_slice_nil (P := Tryd.prog) w 27 23 (some a) l.length c 0 0 Tryd.underlying27
    have HO : Hid (Own (w.alloc (.cells #[] 23)) w.heap.size (.slice (some ⟨w.heap.size, 0, none⟩) 0 0) []) := own_empty w _ (Nat.le_refl _)
    go_enter Tryd.func20, Tryd.ntmps20
    go_wp2_with (at_builtin; refine wpList_append_pts _ rfl (.tmp 5) (.tmp 6) rfl w.heap.size _ [] rfl ?_ (some a) c l rfl ?_ ?_ ?_ ?_; (exact HO.out); (exact HL.out.below ((Below.refl _ _).alloc (Nat.le_refl _) _)); (simp; omega); (simp); intro v2 w2 ho2 hg2)
    go_ret
    exact ⟨_, rfl, ho2, ((Below.refl _ _).alloc (Nat.le_refl _) _).grown hg2 (by simp) HO.out.lt⟩

theorem new_pts (w : World) (q : Pt) (H : Nat) (hH : w.heap.size = H) : PtsR (w.alloc q.box) (some ⟨H, 0, none⟩) [q] := fun _ => ⟨H, 0, rfl, fun k p hk => by
  subst hH
  cases k with
  | zero =>
    simp at hk; subst hk
    obtain ⟨c0, c1, c2, c3, c4, c5, c6, c7, c8, c9, c10⟩ := ptAt_box (Below.refl (w.alloc q.box).heap.size (w.alloc q.box))
    exact ⟨c0, c1, c2, c3, c4, c5, c6, c7, c8, c9, c10⟩
  | succ k => simp at hk⟩

/-- A point at another time. -/
def Pt.atTime (p : Pt) (t : Int) : Pt := { p with at_ := t }

/-- Points repeated, three at a time. -/
def repL (l : List Pt) (n : Nat) : List Pt := if l = [] then [] else (List.range n).map fun i => (l.getD (i % l.length) default).atTime ((i : Int) / 3)

theorem repL_succ {l : List Pt} (h : 0 < l.length) (k : Nat) : repL l (k + 1) = repL l k ++ [(l[k % l.length]'(Nat.mod_lt _ h)).atTime ((k : Int) / 3)] := by
  have hne : l ≠ [] := List.length_pos_iff.1 h
  unfold repL
  rw [if_neg hne, if_neg hne, List.range_succ, List.map_append]
  simp [List.getD, List.getElem?_eq_getElem (Nat.mod_lt k h)]
theorem repL_nil (k : Nat) : repL [] k = [] := by simp [repL]
theorem repL_length (l : List Pt) (k : Nat) : (repL l k).length ≤ k := by
  unfold repL; split <;> simp

set_option maxHeartbeats 1000000 in
set_option maxRecDepth 100000 in
theorem repeat_any (l : List Pt) (n : Nat) (hn : n ≤ 65535) (hln : l.length ≤ 1000000) (A : Option Addr) (c : Nat) (w : World) (hl : PtsR w A l) :
    Calls Tryd.prog 13 #[.slice A l.length c, .int .i64 n] w (OwnPost (repL l n) w) := by
  have HL := Lib.hid hl
  clear hl
  by_cases he : l = []
  · subst he
    rw [repL_nil]
    go_enter Tryd.func13, Tryd.ntmps13
    go_wp2
    go_loop [5, 6] (fun s i => s = .slice none 0 0 ∧ i = .int .i64 0) (fun _ _ => 0)
    case atStart => exact ⟨rfl, rfl⟩
    case round =>
      obtain ⟨rfl, rfl⟩ := hrel
      by_cases h0 : (0 : Int) < (n : Int)
      · go_wp2
        go_ret
        exact ⟨_, rfl, Own.nil _ _, Below.refl _ _⟩
      · go_wp2
        go_ret
        exact ⟨_, rfl, Own.nil _ _, Below.refl _ _⟩
  · have hpos : 0 < l.length := List.length_pos_iff.2 he
    have hposI : (0 : Int) < (l.length : Int) := by omega
    clear he
    go_enter Tryd.func13, Tryd.ntmps13
    go_wp2
    go_loopw [5, 6] (fun s i wr => ∃ k : Nat, k ≤ n ∧ i = .int .i64 k ∧ Hid (Own wr w.heap.size s (repL l k) ∧ Below w.heap.size w wr)) (fun _ i _ => n - (intOf i).toNat)
    case atStart => exact ⟨0, by omega, rfl, by unfold repL; split <;> exact Own.nil _ _, Below.refl _ _⟩
    case round =>
      obtain ⟨k, hk, rfl, hh⟩ := hrel
      by_cases hlt : k < n
      · have hmod : k % l.length < l.length := Nat.mod_lt _ hpos
        obtain ⟨b, o, rfl, hin, c0, c1, c2, c3, c4, c5, c6, c7, c8, c9, c10⟩ := (HL.out.below hh.out.2).at_ hmod
        clear hin
        have HS := Lib.hid (repL_succ hpos k)
        have HQ : Hid (PtsR ((wr.alloc ((l[k % l.length]).atTime ((k : Int) / 3)).box).alloc ((l[k % l.length]).atTime ((k : Int) / 3)).box) (some ⟨wr.heap.size + 1, 0, none⟩) [(l[k % l.length]).atTime ((k : Int) / 3)]) := new_pts _ _ _ (by simp)
        have HO : Hid (Own ((wr.alloc ((l[k % l.length]).atTime ((k : Int) / 3)).box).alloc ((l[k % l.length]).atTime ((k : Int) / 3)).box) w.heap.size _ (repL l k)) := World.ownsRow.alloc (World.ownsRow.alloc hh.out.1 _) _
        have HN : Hid ((repL l k).length + 1 ≤ 1000000) := by have := repL_length l k; show _ ≤ _; omega
        go_wp2_with (at_builtin; refine wpList_append_pts _ rfl (.tmp 28) (.tmp 30) rfl w.heap.size _ (repL l k) rfl ?_ (some ⟨wr.heap.size + 1, 0, none⟩) 1 [(l[k % l.length]).atTime ((k : Int) / 3)] rfl ?_ ?_ ?_ ?_; (exact HO.out); (exact HQ.out); (exact HN.out); (have := hh.out.2.size; simp; omega); intro v2 w2 ho2 hg2)
        go_roundw
        case rel => exact ⟨k + 1, by omega, by go_num, by rw [HS.out]; exact ho2, ((hh.out.2.alloc hh.out.2.size _).alloc (by have := hh.out.2.size; simp; omega) _).grown hg2 (by have := hh.out.2.size; simp; omega) HO.out.lt⟩
        case measure => simp [intOf]; omega
      · have HK := Lib.hid (show k = n by omega)
        go_wp2
        go_ret
        rw [← HK.out]
        exact ⟨_, rfl, hh.out.1, hh.out.2⟩
end Go.Proofs.YtcmnmcholfellaaDoor
