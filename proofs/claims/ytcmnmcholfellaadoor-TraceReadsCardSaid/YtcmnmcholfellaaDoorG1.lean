/-
  Walks: merging two traces, in package trace.
-/
import Derived.Test.YtcmnmcholfellaaDoorZ2
import Derived.Test.YtcmnmcholfellaaDoorC2
import Derived.Test.YtcmnmcholfellaaDoorM2
import Derived.Test.YtcmnmcholfellaaDoorW7
namespace Go.Proofs.YtcmnmcholfellaaDoor
open Go.RowKit

/-- A slice value that reads as points. -/
def PtsV (w : World) (v : Value) (l : List Pt) : Prop := ∃ A c, v = .slice A l.length c ∧ PtsR w A l

/-- The stable sort of so many points. -/
def StableSaid (n : Nat) : Prop := ∀ (l0 : List Pt), l0.length = n → ∀ (A : Option Addr) (c : Nat) (w : World), RowV w A l0 →
  Calls Tryd.prog 41 #[.slice A n c, cmpF] w (StablePost l0 A w)

theorem stable_few (n : Nat) (h : n < 20) : StableSaid n := fun l0 hl A c w hr => by
  subst hl; exact sortStable_small l0 h A c w hr

def MergePost (r : List Pt × Int) (w : World) (e : Ending) (w' : World) : Prop := ∃ v, e = .returned (.tuple #[v, .int .i64 r.2]) ∧ PtsV w' v r.1 ∧ Below w.heap.size w w'

theorem Own.row {w : World} {base : Nat} {A : Option Addr} {c : Nat} {l : List Pt} (h : Own w base (.slice A l.length c) l) : RowV w A l ∧ (∀ k, A.map (·.block) = some k → base ≤ k) := by
  refine ⟨fun hn => ?_, fun k hk => ?_⟩
  · rcases h.2 with ⟨hv, h0⟩ | ⟨g, cap, cur, hv, _, hg, hnc, _, hcs, ht⟩
    · exact absurd (List.eq_nil_of_length_eq_zero h0) hn
    · obtain ⟨A', c', hv', hr⟩ := h.reads
      injection hv with hA _ hc
      subst hA
      injection hv' with hA' _ _
      subst hA'
      obtain ⟨b, o, e, hin⟩ := hr hn
      have e2 := Option.some.inj e
      injection e2 with e3 e4
      subst e3; subst e4
      refine ⟨g, 0, rfl, hin, fun j hj => ?_⟩
      have hj' : j < cur.size := by rw [hcs]; have := Nat.mul_le_mul_right 11 hnc; omega
      rw [Nat.zero_add]
      constructor
      · rw [cell_of_row _ _ _ _ _ _ hg, Array.getElem?_eq_getElem hj']; rfl
      · simp [World.frozen?, hg]
  · cases A with
    | none => cases hk
    | some a =>
      injection hk with hk
      exact h.lt k (by rw [← hk]; rfl)

set_option maxHeartbeats 1000000 in
set_option maxRecDepth 100000 in
theorem merge_any (a b : List Pt) (hs : StableSaid (a.length + b.length)) (A B : Option Addr) (c d : Nat) (w : World) (ha : PtsR w A a) (hb : PtsR w B b) (hla : a.length ≤ 100000) (hlb : b.length ≤ 100000) :
    Calls Tryd.prog 16 #[.slice A a.length c, .slice B b.length d] w (MergePost (mergeR a b) w) := by
  have HA := Lib.hid ha
  have HB := Lib.hid hb
  have HS := Lib.hid hs
  clear ha hb hs
  by_cases hva : valid a = 0
  · have hvab : (valid a != 0) = false := by simp [hva]
    by_cases hvb : valid b = 0
    · have hvbb : (valid b != 0) = false := by simp [hvb]
      by_cases hbig : 10000 < a.length + b.length
      · have hbI : (10000 : Int) < (a.length : Int) + (b.length : Int) := by omega
        have HM := Lib.hid (show mergeR a b = ([], 3) by simp [mergeR, hva, hvb, hbig])
        clear hva hvb hbig
        go_enter Tryd.func16, Tryd.ntmps16
        go_wp2_with fail
        refine (valid_any a A c _ HA.out).mono ?_
        rintro e w1 ⟨rfl, hb1⟩
        have HB1 := Lib.hid hb1
        clear hb1
        go_wp2_with fail
        refine (valid_any b B d _ (HB.out.below HB1.out)).mono ?_
        rintro e w2 ⟨rfl, hb2⟩
        have HB2 := Lib.hid hb2
        clear hb2
        go_wp2
        go_ret2
        rw [HM.out]
        exact ⟨_, rfl, ⟨none, 0, rfl, PtsR.nil _ _⟩, below_trans HB1.out HB2.out⟩
      · have hbI : ¬ (10000 : Int) < (a.length : Int) + (b.length : Int) := by omega
        have hsum : a.length + b.length ≤ 100000 := by omega
        have HM := Lib.hid (show mergeR a b = (mrg a b, 0) by simp [mergeR, hva, hvb, hbig])
        have HASC := Lib.hid (And.intro (asc_of_okL (okL_of_valid hva).2) (asc_of_okL (okL_of_valid hvb).2))
        clear hva hvb hbig
        go_enter Tryd.func16, Tryd.ntmps16
        go_wp2_with fail
        refine (valid_any a A c _ HA.out).mono ?_
        rintro e w1 ⟨rfl, hb1⟩
        have HB1 := Lib.hid hb1
        clear hb1
        go_wp2_with fail
        refine (valid_any b B d _ (HB.out.below HB1.out)).mono ?_
        rintro e w2 ⟨rfl, hb2⟩
        have HB2 := Lib.hid (below_trans HB1.out hb2)
        clear hb2
        go_wp2_with fail
        refine (concat_any a b hsum A B c d w2.heap.size _ ?_ ?_ ?_).mono ?_
        · exact ⟨by rw [cell_of_row _ _ _ _ _ _ (heap_alloc_new w2 _)]; rfl, by rw [cell_of_row _ _ _ _ _ _ (heap_alloc_new w2 _)]; rfl⟩
        · exact (HA.out.below HB2.out).below ((Below.refl _ _).alloc (Nat.le_refl _) _)
        · exact (HB.out.below HB2.out).below ((Below.refl _ _).alloc (Nat.le_refl _) _)
        rintro e w3 ⟨v, rfl, ho, hb3⟩
        obtain ⟨A3, c3, rfl, hr3⟩ := ho.reads
        have HO := Lib.hid ho
        have HB3 := Lib.hid (below_trans HB2.out (below_alloc hb3))
        have HBS := Lib.hid (show w.heap.size ≤ (w2.alloc (.cells #[.slice A a.length c, .slice B b.length d] 27)).heap.size by have := HB2.out.size; simp; omega)
        clear ho hr3 hb3
        go_wp2_with fail
        refine (HS.out (a ++ b) (by simp) A3 c3 _ HO.out.row.1).mono ?_
        rintro e w4 ⟨rfl, l, h1, h2, h3, h4, h5⟩
        have HE := Lib.hid (And.intro h1 (And.intro h2 (And.intro h3 (And.intro h4 h5))))
        clear h1 h2 h3 h4 h5
        go_wp2
        go_ret2
        rw [HM.out]
        obtain ⟨h1, h2, h3, h4, h5⟩ := HE.out
        have hl : l = mrg a b := sorted_is_mrg HASC.out.1 HASC.out.2 h2 h3
        subst hl
        refine ⟨_, rfl, ⟨A3, c3, by rw [h1, List.length_append]; rfl, fun hn => ?_⟩, ?_⟩
        · obtain ⟨g, o, e, hR⟩ := h4 hn
          exact ⟨g, o, e, hR.pts⟩
        · exact HB3.out.grown h5 HB3.out.size (fun k hk => Nat.le_trans HBS.out (HO.out.row.2 k hk))
    · have hvbb : (valid b != 0) = true := by simp [hvb]
      have HM := Lib.hid (show mergeR a b = ([], valid b) by simp [mergeR, hva, hvb])
      clear hva hvb
      go_enter Tryd.func16, Tryd.ntmps16
      go_wp2_with fail
      refine (valid_any a A c _ HA.out).mono ?_
      rintro e w1 ⟨rfl, hb1⟩
      have HB1 := Lib.hid hb1
      clear hb1
      go_wp2_with fail
      refine (valid_any b B d _ (HB.out.below HB1.out)).mono ?_
      rintro e w2 ⟨rfl, hb2⟩
      have HB2 := Lib.hid hb2
      clear hb2
      go_wp2
      go_ret2
      rw [HM.out]
      exact ⟨_, rfl, ⟨none, 0, rfl, PtsR.nil _ _⟩, below_trans HB1.out HB2.out⟩
  · have hvab : (valid a != 0) = true := by simp [hva]
    have HM := Lib.hid (show mergeR a b = ([], valid a) by simp [mergeR, hva])
    clear hva
    go_enter Tryd.func16, Tryd.ntmps16
    go_wp2_with fail
    refine (valid_any a A c _ HA.out).mono ?_
    rintro e w1 ⟨rfl, hb1⟩
    have HB1 := Lib.hid hb1
    clear hb1
    go_wp2
    go_ret2
    rw [HM.out]
    exact ⟨_, rfl, ⟨none, 0, rfl, PtsR.nil _ _⟩, HB1.out⟩
end Go.Proofs.YtcmnmcholfellaaDoor
