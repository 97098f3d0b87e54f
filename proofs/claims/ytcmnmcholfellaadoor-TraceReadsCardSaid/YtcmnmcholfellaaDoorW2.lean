/-
  Walks: the functions that make a point of a kind and numbers.
-/
import Derived.Test.YtcmnmcholfellaaDoorW1
namespace Go.Proofs.YtcmnmcholfellaaDoor
open Go.RowKit

set_option maxHeartbeats 400000 in
theorem point_any (a k : Int) (l : List Int) (hl : l.length = cnt k) (b o c : Nat) (w : World) (hi : ∀ k x, l[k]? = some x → w.cell? ⟨b, o + k, none⟩ = some (.int .i64 x)) :
    Calls Tryd.prog 65 #[.int .i64 a, .int .i64 k, .slice (some ⟨b, o, none⟩) l.length c] w fun e w' => e = .returned (mk a k l).v ∧ Below w.heap.size w w' := by
  by_cases h1 : k = 1
  · subst h1
    match l, hl with
    | [x, y, z], _ =>
      have c0 : w.cell? ⟨b, o, none⟩ = some (.int .i64 x) := hi 0 x rfl
      have c1 : w.cell? ⟨b, o + 1, none⟩ = some (.int .i64 y) := hi 1 y rfl
      have c2 : w.cell? ⟨b, o + 2, none⟩ = some (.int .i64 z) := hi 2 z rfl
      have hb := lt_of_cell c0
      simp only at hb
      clear hi hl
      go_enter Tryd.func65, Tryd.ntmps65
      go_wp2
      go_region
      go_wp2
      exact bodyPost_ret (v := (mk a 1 [x, y, z]).v) (by simp [results, Tryd.results65, go_sem, mk]) rfl ⟨rfl, (((Below.refl _ _).alloc (Nat.le_refl _) _).alloc (by simp) _).drew⟩
  by_cases h6 : k = 6
  · subst h6
    match l, hl with
    | [x, y, z], _ =>
      have c0 : w.cell? ⟨b, o, none⟩ = some (.int .i64 x) := hi 0 x rfl
      have c1 : w.cell? ⟨b, o + 1, none⟩ = some (.int .i64 y) := hi 1 y rfl
      have c2 : w.cell? ⟨b, o + 2, none⟩ = some (.int .i64 z) := hi 2 z rfl
      have hb := lt_of_cell c0
      simp only at hb
      clear hi hl h1
      go_enter Tryd.func65, Tryd.ntmps65
      go_wp2
      go_region
      go_wp2
      exact bodyPost_ret (v := (mk a 6 [x, y, z]).v) (by simp [results, Tryd.results65, go_sem, mk]) rfl ⟨rfl, (((Below.refl _ _).alloc (Nat.le_refl _) _).alloc (by simp) _).drew⟩
  have hc : cnt k = 2 := by simp [cnt, h1, h6]
  rw [hc] at hl
  by_cases h7 : k = 7
  · subst h7
    match l, hl with
    | [x, y], _ =>
      have c0 : w.cell? ⟨b, o, none⟩ = some (.int .i64 x) := hi 0 x rfl
      have c1 : w.cell? ⟨b, o + 1, none⟩ = some (.int .i64 y) := hi 1 y rfl
      have hb := lt_of_cell c0
      simp only at hb
      clear hi hl h1 h6 hc
      go_enter Tryd.func65, Tryd.ntmps65
      go_wp2
      go_region
      go_wp2
      exact bodyPost_ret (v := (mk a 7 [x, y]).v) (by simp [results, Tryd.results65, go_sem, mk]) rfl ⟨rfl, (((Below.refl _ _).alloc (Nat.le_refl _) _).alloc (by simp) _).drew⟩
  · match l, hl with
    | [x, y], _ =>
      have c0 : w.cell? ⟨b, o, none⟩ = some (.int .i64 x) := hi 0 x rfl
      have c1 : w.cell? ⟨b, o + 1, none⟩ = some (.int .i64 y) := hi 1 y rfl
      have hb := lt_of_cell c0
      simp only at hb
      have e1 : (k == 1) = false := by simp [h1]
      have e6 : (k == 6) = false := by simp [h6]
      have e7 : (k == 7) = false := by simp [h7]
      have HM := Lib.hid (show mk a k [x, y] = ⟨a, k, 0, 0, 0, x, y, 0, 0, 0, 0⟩ by simp [mk, h1, h6, h7])
      clear hi hl h1 h6 h7 hc
      go_enter Tryd.func65, Tryd.ntmps65
      go_wp2
      go_region
      go_wp2
      rw [HM.out]
      exact bodyPost_ret (v := (⟨a, k, 0, 0, 0, x, y, 0, 0, 0, 0⟩ : Pt).v) (by simp [results, Tryd.results65, go_sem]) rfl ⟨rfl, (((Below.refl _ _).alloc (Nat.le_refl _) _).alloc (by simp) _).drew⟩
set_option maxHeartbeats 400000 in
theorem refMake_any (a k : Int) (l : List Int) (hl : l.length = cnt k) (b o c : Nat) (w : World) (hi : ∀ k x, l[k]? = some x → w.cell? ⟨b, o + k, none⟩ = some (.int .i64 x)) :
    Calls Tryd.prog 34 #[.int .i64 a, .int .i64 k, .slice (some ⟨b, o, none⟩) l.length c] w fun e w' => e = .returned (mk a k l).v ∧ Below w.heap.size w w' := by
  by_cases h1 : k = 1
  · subst h1
    match l, hl with
    | [x, y, z], _ =>
      have c0 : w.cell? ⟨b, o, none⟩ = some (.int .i64 x) := hi 0 x rfl
      have c1 : w.cell? ⟨b, o + 1, none⟩ = some (.int .i64 y) := hi 1 y rfl
      have c2 : w.cell? ⟨b, o + 2, none⟩ = some (.int .i64 z) := hi 2 z rfl
      have hb := lt_of_cell c0
      simp only at hb
      clear hi hl
      go_enter Tryd.func34, Tryd.ntmps34
      go_wp2
      go_region
      go_wp2
      exact bodyPost_ret (v := (mk a 1 [x, y, z]).v) (by simp [results, Tryd.results34, go_sem, mk]) rfl ⟨rfl, (((Below.refl _ _).alloc (Nat.le_refl _) _).alloc (by simp) _).drew⟩
  by_cases h6 : k = 6
  · subst h6
    match l, hl with
    | [x, y, z], _ =>
      have c0 : w.cell? ⟨b, o, none⟩ = some (.int .i64 x) := hi 0 x rfl
      have c1 : w.cell? ⟨b, o + 1, none⟩ = some (.int .i64 y) := hi 1 y rfl
      have c2 : w.cell? ⟨b, o + 2, none⟩ = some (.int .i64 z) := hi 2 z rfl
      have hb := lt_of_cell c0
      simp only at hb
      clear hi hl h1
      go_enter Tryd.func34, Tryd.ntmps34
      go_wp2
      go_region
      go_wp2
      exact bodyPost_ret (v := (mk a 6 [x, y, z]).v) (by simp [results, Tryd.results34, go_sem, mk]) rfl ⟨rfl, (((Below.refl _ _).alloc (Nat.le_refl _) _).alloc (by simp) _).drew⟩
  have hc : cnt k = 2 := by simp [cnt, h1, h6]
  rw [hc] at hl
  by_cases h7 : k = 7
  · subst h7
    match l, hl with
    | [x, y], _ =>
      have c0 : w.cell? ⟨b, o, none⟩ = some (.int .i64 x) := hi 0 x rfl
      have c1 : w.cell? ⟨b, o + 1, none⟩ = some (.int .i64 y) := hi 1 y rfl
      have hb := lt_of_cell c0
      simp only at hb
      clear hi hl h1 h6 hc
      go_enter Tryd.func34, Tryd.ntmps34
      go_wp2
      go_region
      go_wp2
      exact bodyPost_ret (v := (mk a 7 [x, y]).v) (by simp [results, Tryd.results34, go_sem, mk]) rfl ⟨rfl, (((Below.refl _ _).alloc (Nat.le_refl _) _).alloc (by simp) _).drew⟩
  · match l, hl with
    | [x, y], _ =>
      have c0 : w.cell? ⟨b, o, none⟩ = some (.int .i64 x) := hi 0 x rfl
      have c1 : w.cell? ⟨b, o + 1, none⟩ = some (.int .i64 y) := hi 1 y rfl
      have hb := lt_of_cell c0
      simp only at hb
      have e1 : (k == 1) = false := by simp [h1]
      have e6 : (k == 6) = false := by simp [h6]
      have e7 : (k == 7) = false := by simp [h7]
      have HM := Lib.hid (show mk a k [x, y] = ⟨a, k, 0, 0, 0, x, y, 0, 0, 0, 0⟩ by simp [mk, h1, h6, h7])
      clear hi hl h1 h6 h7 hc
      go_enter Tryd.func34, Tryd.ntmps34
      go_wp2
      go_region
      go_wp2
      rw [HM.out]
      exact bodyPost_ret (v := (⟨a, k, 0, 0, 0, x, y, 0, 0, 0, 0⟩ : Pt).v) (by simp [results, Tryd.results34, go_sem]) rfl ⟨rfl, (((Below.refl _ _).alloc (Nat.le_refl _) _).alloc (by simp) _).drew⟩
end Go.Proofs.YtcmnmcholfellaaDoor
