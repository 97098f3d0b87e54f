/-
  Walks: the closures of Filter and Between; slices.IndexFunc with them.
-/
import Derived.Test.YtcmnmcholfellaaDoorF0
import Derived.Test.YtcmnmcholfellaaDoorA0
namespace Go.Proofs.YtcmnmcholfellaaDoor
open Go.RowKit

/-- A point of another kind. -/
def delK (k : Int) (p : Pt) : Bool := p.kind != k
/-- A point of another time. -/
def delT (a b : Int) (p : Pt) : Bool := decide (p.at_ < a) || decide (b ≤ p.at_)

/-- What the closures have captured. -/
abbrev CapK (x : Nat) (k : Int) (w : World) : Prop := w.cell? ⟨x, 0, none⟩ = some (.int .i64 k)
def CapT (x y : Nat) (a b : Int) (w : World) : Prop := w.cell? ⟨x, 0, none⟩ = some (.int .i64 a) ∧ w.cell? ⟨y, 0, none⟩ = some (.int .i64 b)

set_option maxHeartbeats 400000 in
theorem delK_any (x : Nat) (k : Int) (p : Pt) (w : World) (h : CapK x k w) :
    Calls Tryd.prog 47 #[p.v, .pointer (some ⟨x, 0, none⟩)] w fun e w' => e = .returned (.bool (delK k p)) ∧ Below w.heap.size w w' := by
  have hx := lt_of_cell h
  simp only at hx
  go_enter Tryd.func47, Tryd.ntmps47
  go_wp2
  go_ret
  exact ⟨rfl, (Below.refl _ _).alloc (Nat.le_refl _) _⟩

set_option maxHeartbeats 400000 in
theorem delT_any (x y : Nat) (a b : Int) (p : Pt) (w : World) (h : CapT x y a b w) :
    Calls Tryd.prog 46 #[p.v, .pointer (some ⟨x, 0, none⟩), .pointer (some ⟨y, 0, none⟩)] w fun e w' => e = .returned (.bool (delT a b p)) ∧ Below w.heap.size w w' := by
  obtain ⟨h1, h2⟩ := h
  have hx := lt_of_cell h1
  have hy := lt_of_cell h2
  simp only at hx hy
  by_cases hlt : p.at_ < a
  · have hd : decide (p.at_ < a) = true := by simpa using hlt
    have HD := Lib.hid (show delT a b p = true by simp [delT, hlt])
    clear hlt
    go_enter Tryd.func46, Tryd.ntmps46
    go_wp2
    go_ret
    exact ⟨by rw [HD.out]; rfl, (Below.refl _ _).alloc (Nat.le_refl _) _⟩
  · have hd : decide (p.at_ < a) = false := by simpa using hlt
    have HD := Lib.hid (show delT a b p = decide (b ≤ p.at_) by simp [delT, hlt])
    clear hlt
    go_enter Tryd.func46, Tryd.ntmps46
    go_wp2
    go_ret
    exact ⟨by rw [HD.out]; rfl, (Below.refl _ _).alloc (Nat.le_refl _) _⟩

theorem CapT.below {x y : Nat} {a b : Int} {w w' : World} (h : CapT x y a b w) (hb : Below w.heap.size w w') : CapT x y a b w' := ⟨below_cell hb h.1, below_cell hb h.2⟩
theorem CapK_below {x : Nat} {k : Int} {w w' : World} (h : CapK x k w) (hb : Below w.heap.size w w') : CapK x k w' := below_cell hb h

def FirstPost (del : Pt → Bool) (l : List Pt) (w : World) (e : Ending) (w' : World) : Prop := ∃ n, e = .returned (.int .i64 n) ∧ FirstDel del l n ∧ Below w.heap.size w w'

set_option maxHeartbeats 1000000 in
theorem indexK_any (x : Nat) (k0 : Int) (l : List Pt) (hn : l.length ≤ 1000000) (A : Option Addr) (c : Nat) (w : World) (hl : PtsR w A l) (hcap : CapK x k0 w) :
    Calls Tryd.prog 68 #[.slice A l.length c, .func (.func 47) #[] #[.pointer (some ⟨x, 0, none⟩)]] w (FirstPost (delK k0) l w) := by
  have HL := Lib.hid hl
  have HC := Lib.hid hcap
  clear hl hcap
  go_enter Tryd.func68, Tryd.ntmps68
  go_wp2
  go_loopw [8] (fun i wr => ∃ k : Nat, k ≤ l.length ∧ i = .int .i64 k ∧ Hid ((∀ j (hj : j < l.length), j < k → delK k0 l[j] = false) ∧ Below w.heap.size w wr)) (fun i _ => l.length - (intOf i).toNat)
  case atStart => exact ⟨0, by omega, rfl, (fun j _ hj => absurd hj (by omega)), Below.refl _ _⟩
  case round =>
    obtain ⟨k, hk, rfl, hh⟩ := hrel
    by_cases hlt : k < l.length
    · obtain ⟨b, o, rfl, hin, c0, c1, c2, c3, c4, c5, c6, c7, c8, c9, c10⟩ := (HL.out.below hh.out.2).at_ hlt
      clear hin
      by_cases hd : delK k0 l[k] = true
      · go_wp2_with (go_at_call 47; refine (delK_any x k0 l[k] _ (CapK_below HC.out hh.out.2)).mono ?_; rintro e w2 ⟨rfl, hb2⟩; rw [hd])
        go_ret
        exact ⟨k, rfl, .inr ⟨k, hlt, rfl, hd, fun j hj => hh.out.1 j (by omega) hj⟩, below_trans hh.out.2 hb2⟩
      · have hd : delK k0 l[k] = false := by simpa using hd
        go_wp2_with (go_at_call 47; refine (delK_any x k0 l[k] _ (CapK_below HC.out hh.out.2)).mono ?_; rintro e w2 ⟨rfl, hb2⟩; rw [hd])
        go_roundw
        case rel =>
          refine ⟨k + 1, by omega, by go_num, fun j hj hjk => ?_, below_trans hh.out.2 hb2⟩
          by_cases e : j = k
          · subst e; exact hd
          · exact hh.out.1 j hj (by omega)
        case measure => simp [intOf]; omega
    · go_wp2
      go_ret
      refine ⟨-1, rfl, .inl ⟨rfl, fun p hp => ?_⟩, hh.out.2⟩
      obtain ⟨j, hj, rfl⟩ := List.getElem_of_mem hp
      exact hh.out.1 j hj (by omega)
set_option maxHeartbeats 1000000 in
theorem indexT_any (x y : Nat) (a0 b0 : Int) (l : List Pt) (hn : l.length ≤ 1000000) (A : Option Addr) (c : Nat) (w : World) (hl : PtsR w A l) (hcap : CapT x y a0 b0 w) :
    Calls Tryd.prog 68 #[.slice A l.length c, .func (.func 46) #[] #[.pointer (some ⟨x, 0, none⟩), .pointer (some ⟨y, 0, none⟩)]] w (FirstPost (delT a0 b0) l w) := by
  have HL := Lib.hid hl
  have HC := Lib.hid hcap
  clear hl hcap
  go_enter Tryd.func68, Tryd.ntmps68
  go_wp2
  go_loopw [8] (fun i wr => ∃ k : Nat, k ≤ l.length ∧ i = .int .i64 k ∧ Hid ((∀ j (hj : j < l.length), j < k → delT a0 b0 l[j] = false) ∧ Below w.heap.size w wr)) (fun i _ => l.length - (intOf i).toNat)
  case atStart => exact ⟨0, by omega, rfl, (fun j _ hj => absurd hj (by omega)), Below.refl _ _⟩
  case round =>
    obtain ⟨k, hk, rfl, hh⟩ := hrel
    by_cases hlt : k < l.length
    · obtain ⟨b, o, rfl, hin, c0, c1, c2, c3, c4, c5, c6, c7, c8, c9, c10⟩ := (HL.out.below hh.out.2).at_ hlt
      clear hin
      by_cases hd : delT a0 b0 l[k] = true
      · go_wp2_with (go_at_call 46; refine (delT_any x y a0 b0 l[k] _ (CapT.below HC.out hh.out.2)).mono ?_; rintro e w2 ⟨rfl, hb2⟩; rw [hd])
        go_ret
        exact ⟨k, rfl, .inr ⟨k, hlt, rfl, hd, fun j hj => hh.out.1 j (by omega) hj⟩, below_trans hh.out.2 hb2⟩
      · have hd : delT a0 b0 l[k] = false := by simpa using hd
        go_wp2_with (go_at_call 46; refine (delT_any x y a0 b0 l[k] _ (CapT.below HC.out hh.out.2)).mono ?_; rintro e w2 ⟨rfl, hb2⟩; rw [hd])
        go_roundw
        case rel =>
          refine ⟨k + 1, by omega, by go_num, fun j hj hjk => ?_, below_trans hh.out.2 hb2⟩
          by_cases e : j = k
          · subst e; exact hd
          · exact hh.out.1 j hj (by omega)
        case measure => simp [intOf]; omega
    · go_wp2
      go_ret
      refine ⟨-1, rfl, .inl ⟨rfl, fun p hp => ?_⟩, hh.out.2⟩
      obtain ⟨j, hj, rfl⟩ := List.getElem_of_mem hp
      exact hh.out.1 j hj (by omega)
end Go.Proofs.YtcmnmcholfellaaDoor
