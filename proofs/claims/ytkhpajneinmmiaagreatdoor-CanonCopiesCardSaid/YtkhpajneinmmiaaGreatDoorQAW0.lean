/-
  What the examples answer: plain Lean.
-/
import Derived.Test.YtkhpajneinmmiaaGreatDoorQPL
import Derived.Test.YtkhpajneinmmiaaGreatDoorQEX
namespace Go.Proofs.YtkhpajneinmmiaaGreatDoor
def relM (names : Bool) (a b : List TyD) : Nat → List (List Bool)
 | 0 => fillM (alD names a b) a.length b.length a.length 0
 | n + 1 => (sweep (okD a b) (pairsTo b.length a.length 0) (relM names a b n, false)).1
theorem relM_tab (names : Bool) (a b : List TyD) : ∀ n, TabInv (alD names a b) (okD a b) a.length b.length (relM names a b n)
 | 0 => fillM_tab fun _ _ h => alD_lt h
 | n + 1 => tab_sweep _ _ (okD_mono a b) _ (relM_tab names a b n)
theorem relM_done {names : Bool} {a b : List TyD} {n : Nat} (h : (sweep (okD a b) (pairsTo b.length a.length 0) (relM names a b n, false)).2 = false) : GreatestR (alD names a b) (okD a b) (getB (relM names a b n)) :=
 (tab_done _ _ (relM_tab names a b n) h).1
def exT : List (List Bool) :=
  [[true, false, false, true, false, true, false, false], [false, true, false, false, false, false, false, false],
   [false, false, true, false, true, false, true, false], [true, false, false, true, false, true, false, false],
   [false, false, true, false, true, false, true, false], [true, false, false, true, false, true, false, false],
   [false, false, true, false, true, false, true, false], [false, false, false, false, false, false, false, true]]
theorem exT_is : relM false (exS 1) (exS 1) 0 = exT := by decide +kernel
theorem exT_done : (sweep (okD (exS 1) (exS 1)) (pairsTo (exS 1).length (exS 1).length 0) (exT, false)).2 = false := by decide +kernel
theorem ex_great : GreatestR (alD false (exS 1) (exS 1)) (okD (exS 1) (exS 1)) (getB exT) := exT_is ▸ relM_done (n := 0) (by rw [exT_is]; exact exT_done)
theorem ex_clsD : clsD (getB exT) (exS 1).length = [0, 1, 2, 0, 2, 0, 2, 7] := by decide +kernel
theorem ex_cls {l : List Int} (h : ClsIs (exS 1) l) : l = [0, 1, 2, 0, 2, 0, 2, 7] := h.unique ⟨_, ex_great, ex_clsD.symm⟩
theorem ex_size {l : List TyD} (h : CanonIs (exS 1) 5 l) : l.length = 3 := by
 obtain ⟨cls, hc, rfl⟩ := h
 rw [ex_cls hc, canon_len]
 decide +kernel
theorem ex_root (t : Int) (h : 0 ≤ t ∧ t < 8) : rootErr (exS 1) t = 0 := by
 unfold rootErr
 rw [if_neg (by rw [ex_valid1]; simp), if_neg]
 have : ((exS 1).length : Int) = 8 := rfl
 omega
theorem ex_root7 (t : Int) (h : 0 ≤ t ∧ t < 8) : rootErr (exS 7) t = 0 := by
 unfold rootErr
 rw [if_neg (by rw [ex_valid7]; simp), if_neg]
 have : ((exS 7).length : Int) = 8 := rfl
 omega
theorem ex_wire {v : Bool} (h : EqvIs false (exS 1) 0 (exS 1) 3 v) : v = true := by
 obtain ⟨S, hS, e⟩ := h.1 (ex_root 0 (by omega)) (ex_root 3 (by omega))
 rw [e, hS.unique _ _ ex_great]
 decide +kernel
theorem ex_equiv {v : Bool} (h : EqvIs true (exS 1) 0 (exS 1) 3 v) : v = false := by
 obtain ⟨S, hS, e⟩ := h.1 (ex_root 0 (by omega)) (ex_root 3 (by omega))
 rw [e]
 cases hs : S (0 : Int).toNat (3 : Int).toNat with
 | false => rfl
 | true =>
  have h1 := (hS.closed _ _ hs).1
  have h2 : alD true (exS 1) (exS 1) (0 : Int).toNat (3 : Int).toNat = false := by decide +kernel
  rw [h2] at h1; cases h1
def stepsOf (a b : List TyD) (t : Int × Int) : List (Int × (Int × Int)) :=
 if alikeD false (tyAt a t.1) (tyAt b t.2) then (usesD (tyAt a t.1)).flatMap fun u => (usesD (tyAt b t.2)).filterMap fun v => if u.1 = v.1 then some (u.1, (u.2, v.2)) else none else []
def walksN (a b : List TyD) (r : Int × Int) : Nat → List (List Int × (Int × Int))
 | 0 => [([], r)]
 | n + 1 => (walksN a b r n).flatMap fun w => (stepsOf a b w.2).map fun e => (w.1 ++ [e.1], e.2)
theorem mem_steps {a b : List TyD} {t : Int × Int} {st : Int} {t' : Int × Int} (h : NxE a b t st t') : (st, t') ∈ stepsOf a b t := by
 obtain ⟨h1, h2, h3⟩ := h
 unfold stepsOf
 rw [h1, if_pos rfl]
 exact List.mem_flatMap.2 ⟨_, h2, List.mem_filterMap.2 ⟨_, h3, by simp⟩⟩
theorem steps_mem {a b : List TyD} {t : Int × Int} {st : Int} {t' : Int × Int} (h : (st, t') ∈ stepsOf a b t) : NxE a b t st t' := by
 unfold stepsOf at h
 split at h
 ·rename_i h1
  obtain ⟨u, hu, h2⟩ := List.mem_flatMap.1 h
  obtain ⟨v, hv, h3⟩ := List.mem_filterMap.1 h2
  split at h3
  ·rename_i e
   injection h3 with h3
   injection h3 with h4 h5
   subst h4; subst h5
   refine ⟨h1, hu, ?_⟩
   rw [e]; exact hv
  ·cases h3
 ·cases h
theorem mem_walks {a b : List TyD} {r : Int × Int} : ∀ (n : Nat) (l : List Int) (t : Int × Int), l.length = n → Wk (NxE a b) r l t → (l, t) ∈ walksN a b r n
 | 0, l, t, hl, hw => by
  obtain rfl : l = [] := List.eq_nil_of_length_eq_zero hl
  cases hw
  exact List.mem_singleton.2 rfl
 | n + 1, l, t, hl, hw => by
  obtain ⟨m, st, t2, rfl, h1, h2⟩ := hw.last (by intro e; rw [e] at hl; simp at hl)
  have := mem_walks n m t2 (by simpa using hl) h1
  exact List.mem_flatMap.2 ⟨_, this, List.mem_map.2 ⟨_, mem_steps h2, rfl⟩⟩
theorem walks_mem {a b : List TyD} {r : Int × Int} : ∀ (n : Nat) (w : List Int × (Int × Int)), w ∈ walksN a b r n → Wk (NxE a b) r w.1 w.2
 | 0, w, h => by
  obtain rfl : w = ([], r) := List.mem_singleton.1 h
  exact .nil _
 | n + 1, w, h => by
  obtain ⟨v, hv, h2⟩ := List.mem_flatMap.1 h
  obtain ⟨e, he, rfl⟩ := List.mem_map.1 h2
  exact (walks_mem n v hv).snoc (steps_mem he)
def sleB (l m : List Int) : Bool := decide (l.length < m.length) || (decide (l.length = m.length) && !ltL m l)
theorem sleB_iff {l m : List Int} : sleB l m = true ↔ sle l m := by
 unfold sleB sle
 simp
theorem ex_best : Best (NxE (exS 1) (exS 7)) (BadP (exS 1) (exS 7)) (0, 3) [2, -1, 1] := by
 constructor
 ·have h : ((walksN (exS 1) (exS 7) (0, 3) 3).find? fun w => decide (w.1 = [2, -1, 1]) && !alikeD false (tyAt (exS 1) w.2.1) (tyAt (exS 7) w.2.2)).isSome = true := by decide +kernel
  obtain ⟨w, hw⟩ := Option.isSome_iff_exists.1 h
  have h1 := List.mem_of_find?_eq_some hw
  have h2 := List.find?_some hw
  simp only [Bool.and_eq_true, decide_eq_true_eq, Bool.not_eq_true'] at h2
  exact ⟨w.2, h2.1 ▸ walks_mem 3 w h1, h2.2⟩
 ·intro l' t' hw hb
  by_cases hl : l'.length < 4
  ·have h : ((List.range 4).all fun n => (walksN (exS 1) (exS 7) (0, 3) n).all fun w => alikeD false (tyAt (exS 1) w.2.1) (tyAt (exS 7) w.2.2) || sleB [2, -1, 1] w.1) = true := by decide +kernel
   have h1 := List.all_eq_true.1 h l'.length (List.mem_range.2 hl)
   have h2 := List.all_eq_true.1 h1 (l', t') (mem_walks _ l' t' rfl hw)
   unfold BadP at hb
   simp only [hb, Bool.false_or] at h2
   exact sleB_iff.1 h2
  ·exact .inl (by simp; omega)
theorem ex_dist {l : List Int} {e : Int} (h : DistIs (exS 1) 0 (exS 7) 3 l e) : l = [2, -1, 1] ∧ e = 0 := by
 refine h.unique ?_
 unfold DistIs
 rw [if_neg (by rw [ex_root 0 (by omega)]; simp), if_neg (by rw [ex_root7 3 (by omega)]; simp)]
 exact .inl ⟨rfl, ex_best⟩
end Go.Proofs.YtkhpajneinmmiaaGreatDoor


