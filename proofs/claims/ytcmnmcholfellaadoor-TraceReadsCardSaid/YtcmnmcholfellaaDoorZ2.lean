/-
  Walks: the stable sort of few points.
-/
import Derived.Test.YtcmnmcholfellaaDoorZ1
namespace Go.Proofs.YtcmnmcholfellaaDoor
open Go.RowKit

theorem insertion_none (A : Option Addr) (c : Nat) (w : World) :
    Calls Tryd.prog 79 #[.slice A 0 c, .int .i64 0, .int .i64 0, cmpF] w fun e w' => e = .returned (.tuple #[]) ∧ w = w' := by
  go_enter Tryd.func79, Tryd.ntmps79
  go_wp2
  go_loop [8] (fun i => i = .int .i64 1) (fun _ => 0)
  case atStart => rfl
  case round =>
    subst hrel
    go_wp2
    go_end0
    exact ⟨rfl, rfl⟩

/-- A slice of points that may be sorted in place: none, or a row. -/
def RowV (w : World) (A : Option Addr) (l : List Pt) : Prop := l ≠ [] → ∃ g o, A = some ⟨g, o, none⟩ ∧ RowR w g o l

def StablePost (l0 : List Pt) (A : Option Addr) (w : World) (e : Ending) (w' : World) : Prop :=
  e = .returned (.tuple #[]) ∧ ∃ l, l.length = l0.length ∧ Alike l l0 ∧ SortedOn l 0 l.length ∧ RowV w' A l ∧ w.grownBy w' (A.map (·.block))

set_option maxHeartbeats 400000 in
theorem stableCmp_small (l0 : List Pt) (hn : l0.length < 20) (A : Option Addr) (c : Nat) (w : World) (hr : RowV w A l0) :
    Calls Tryd.prog 63 #[.slice A l0.length c, .int .i64 l0.length, cmpF] w (StablePost l0 A w) := by
  have hb1 : ¬ ((20 : Int) ≤ (l0.length : Int)) := by omega
  have hb2 : ¬ ((20 : Int) < (l0.length : Int)) := by omega
  have HR := Lib.hid hr
  clear hr
  go_enter Tryd.func63, Tryd.ntmps63
  go_wp2
  go_loop [7, 8] (fun x y => x = .int .i64 0 ∧ y = .int .i64 20) (fun _ _ => 0)
  case atStart => exact ⟨rfl, rfl⟩
  case round =>
    obtain ⟨rfl, rfl⟩ := hrel
    by_cases h0 : l0 = []
    · subst h0
      have hl0 : (List.length ([] : List Pt)) = 0 := rfl
      go_wp2_with (go_at_call 79; refine (insertion_none A c _).mono ?_; rintro e w' ⟨rfl, rfl⟩)
      go_loop [6] (fun x => x = .int .i64 20) (fun _ => 0)
      case atStart => rfl
      case round =>
        subst hrel
        go_wp2
        go_end0
        exact ⟨rfl, [], rfl, Alike.refl _, (fun x y _ _ h => by simp at h), (fun h => absurd rfl h), grown_refl _ _⟩
    · obtain ⟨g, o, rfl, hR⟩ := HR.out h0
      have HRR := Lib.hid hR
      clear hR
      go_wp2_with (go_at_call 79; refine (insertion_any l0 0 l0.length (by omega) (by omega) (by omega) g o c _ HRR.out).mono ?_; rintro e w' ⟨rfl, l, h1, h2, h3, h4⟩; have HE := Lib.hid (And.intro h1 (And.intro h2 (And.intro h3 h4))); clear h1 h2 h3 h4)
      go_loop [6] (fun x => x = .int .i64 20) (fun _ => 0)
      case atStart => rfl
      case round =>
        subst hrel
        go_wp2
        go_end0
        obtain ⟨h1, h2, h3, h4⟩ := HE.out
        exact ⟨rfl, l, h1.len, h1.alike, (by rw [h1.len]; exact h2), (fun _ => ⟨g, o, rfl, h3⟩), h4⟩

set_option maxHeartbeats 400000 in
theorem sortStable_small (l0 : List Pt) (hn : l0.length < 20) (A : Option Addr) (c : Nat) (w : World) (hr : RowV w A l0) :
    Calls Tryd.prog 41 #[.slice A l0.length c, cmpF] w (StablePost l0 A w) := by
  have HR := Lib.hid hr
  clear hr
  go_enter Tryd.func41, Tryd.ntmps41
  go_wp2_with (go_at_call 63; refine (stableCmp_small l0 hn A c _ HR.out).mono ?_; rintro e w' ⟨rfl, h⟩; have HE := Lib.hid h; clear h)
  go_end0
  exact ⟨rfl, HE.out⟩
end Go.Proofs.YtcmnmcholfellaaDoor
