/-
  Walks: a line read, in the reference.
-/
import Derived.Test.YtcmnmcholfellaaDoorQ3
import Derived.Test.YtcmnmcholfellaaDoorQ4
import Derived.Test.YtcmnmcholfellaaDoorS3
namespace Go.Proofs.YtcmnmcholfellaaDoor
open Go.RowKit

/-- The reference reads a number. -/
def okN (l : List UInt8) : Prop := (numOut l).2 = true

theorem numR_parse : ∀ (l : List UInt8) (acc v : Nat), numR acc l = some v → Lib.parseUintM 18446744073709551615 acc l = .ok v
  | [], acc, v, h => by rw [numR] at h; injection h with h; subst h; rfl
  | c :: r, acc, v, h => by
    rw [numR] at h
    split at h
    · rename_i h1
      rw [Lib.parseUintM, if_pos h1.1, if_neg (by omega), if_neg (by omega)]
      exact numR_parse r _ v h
    · cases h

theorem okN_okI {l : List UInt8} (h : okN l) : okI l ∧ valI l = (numOut l).1 ∧ 0 ≤ valI l := by
  unfold okN numOut at h
  cases hn : numR 0 l with
  | none => rw [hn] at h; cases h
  | some v =>
    have hv : (numOut l).1 = (v : Int) := by unfold numOut; rw [hn]
    cases l with
    | nil => rw [hn] at h; cases h
    | cons c r =>
      have hle := numR_le _ _ _ (by omega) hn
      have hm : 48 ≤ c.toNat ∧ c.toNat ≤ 57 := by
        rw [numR] at hn
        split at hn
        · rename_i h1; exact h1.1
        · cases hn
      have hp := numR_parse _ _ _ hn
      have e : Lib.parseIntB 64 (c :: r) = .ok (v : Int) := by
        unfold Lib.parseIntB
        have h1 : ¬ c.toNat = 43 := by omega
        have h2 : ¬ c.toNat = 45 := by omega
        simp only [h1, h2, if_false, or_false]
        unfold Lib.parseUintB
        rw [if_neg (by simp)]
        have e : (2 ^ 64 - 1 : Nat) = 18446744073709551615 := by decide
        rw [e, hp]
        have e2 : (2 ^ (64 - 1) : Nat) = 9223372036854775808 := by decide
        simp only [e2]
        rw [if_neg (by omega), if_neg (by simp)]
      obtain ⟨h1, h2⟩ := okI_of e
      exact ⟨h1, by rw [h2, hv], by rw [h2]; omega⟩

theorem itoa_okN {x : Int} (h : 0 ≤ x) (hx : In64 x) : okN (Lib.itoa x) := by
  have h1 := numR_dec x.toNat (by have := hx.2; omega)
  rw [← itoa_of_nonneg h] at h1
  have h2 : (Lib.itoa x).isEmpty = false := by
    rw [itoa_of_nonneg h]
    cases hd : Lib.decDigits x.toNat with
    | nil => exact absurd hd (decDigits_ne _)
    | cons c r => rfl
  unfold okN numOut
  rw [h1]; simp [h2]

theorem line_okN {s : ByteArray} {q : Pt} (h : IsLine s.data.toList q) {k : Nat} (hk : k < (wordsB s).length) (h1 : k ≠ 1) : okN ((wordsB s)[k]).data.toList := by
  obtain ⟨x, h0, hx, e⟩ := line_ok h hk h1
  rw [e]; exact itoa_okN h0 hx

theorem numsTo_nonneg {s : ByteArray} : ∀ (i : Nat), i ≤ (wordsB s).length → (∀ j (hj : j < (wordsB s).length), j < i → j ≠ 1 → okN ((wordsB s)[j]).data.toList) → ∀ x ∈ numsTo (spl 32 s.data.toList) i, 0 ≤ x
  | 0, _, _, x, hx => by simp [numsTo] at hx
  | k + 1, hi, hok, x, hx => by
    have ih := numsTo_nonneg k (by omega) (fun j hj h1 h2 => hok j hj (by omega) h2)
    by_cases h1 : k = 1
    · subst h1
      rw [numsTo_two (by rw [words_len]; omega)] at hx
      exact ih x hx
    · rw [numsTo_succ (by rw [words_len]; omega) h1, words_at (by omega)] at hx
      rcases List.mem_append.1 hx with h | h
      · exact ih x h
      · rw [List.mem_singleton] at h
        subst h
        exact (okN_okI (hok k (by omega) (by omega) h1)).2.2

theorem flds_mk {a k : Int} {l : List Int} (h : l.length = cnt k) : flds (mk a k l) = l := by
  unfold cnt at h
  by_cases h1 : k = 1
  · rw [if_pos h1] at h
    match l, h with
    | [x, y, z], _ => simp [mk, flds, h1]
  · rw [if_neg h1] at h
    by_cases h6 : k = 6
    · rw [if_pos h6] at h
      match l, h with
      | [x, y, z], _ => simp [mk, flds, h6]
    · rw [if_neg h6] at h
      match l, h with
      | [x, y], _ =>
        by_cases h7 : k = 7
        · simp [mk, flds, h7]
        · simp [mk, flds, h1, h6, h7]

theorem mk_at (a k : Int) (l : List Int) : (mk a k l).at_ = a ∧ (mk a k l).kind = k := by
  unfold mk; split
  · exact ⟨rfl, rfl⟩
  · split
    · exact ⟨rfl, rfl⟩
    · split <;> exact ⟨rfl, rfl⟩

theorem okP_mk {a k : Int} {l : List Int} (hk : 1 ≤ k ∧ k ≤ 7) (ha : 0 ≤ a) (h : l.length = cnt k) (hl : ∀ x ∈ l, 0 ≤ x) : okP (mk a k l) = true := by
  obtain ⟨e1, e2⟩ := mk_at a k l
  refine okP_of_parts (by rw [e2]; exact hk) (by rw [e1]; exact ha) ?_ (by rw [flds_mk h]; exact hl)
  rw [e1, e2, flds_mk h]

theorem words_unique {s : ByteArray} {ws : List ByteArray} (h : ws.map (·.data.toList) = spl 32 s.data.toList) : ws = wordsB s := by
  rw [← wordsB_data] at h
  have inj : ∀ a b : ByteArray, a.data.toList = b.data.toList → a = b := fun a b e => ByteArray.ext (Array.ext' e)
  have key : ∀ (l m : List ByteArray), l.map (·.data.toList) = m.map (·.data.toList) → l = m := by
    intro l
    induction l with
    | nil => intro m hm; cases m with | nil => rfl | cons x r => cases hm
    | cons x r ih =>
      intro m hm
      cases m with
      | nil => cases hm
      | cons y t =>
        simp only [List.map_cons] at hm
        injection hm with h1 h2
        rw [inj x y h1, ih t h2]
  exact key _ _ h

end Go.Proofs.YtcmnmcholfellaaDoor
