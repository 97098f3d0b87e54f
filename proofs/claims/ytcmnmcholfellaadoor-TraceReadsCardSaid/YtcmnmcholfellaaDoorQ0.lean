/-
  The words of a line, and numbers read back: plain Lean.
-/
import Derived.Test.YtcmnmcholfellaaDoorL0
import Derived.Lib.Split
import Derived.Lib.ParseIntBTie
import Derived.Lib.ParseIntBCases
namespace Go.Proofs.YtcmnmcholfellaaDoor

/-- A text divided at a byte. -/
def spl (c : UInt8) : List UInt8 → List (List UInt8)
  | [] => [[]]
  | b :: r => if b = c then [] :: spl c r else (b :: (spl c r).headD []) :: (spl c r).tail

theorem spl_none {c : UInt8} : ∀ {s : List UInt8}, c ∉ s → spl c s = [s]
  | [], _ => rfl
  | b :: r, h => by
    have h1 : b ≠ c := fun e => h (by rw [e]; exact List.mem_cons_self ..)
    have h2 : c ∉ r := fun e => h (List.mem_cons_of_mem _ e)
    rw [spl, if_neg h1, spl_none h2]; rfl

theorem spl_at {c : UInt8} {b : List UInt8} : ∀ {a : List UInt8}, c ∉ a → spl c (a ++ c :: b) = a :: spl c b
  | [], _ => by rw [List.nil_append, spl, if_pos rfl]
  | x :: r, h => by
    have h1 : x ≠ c := fun e => h (by rw [e]; exact List.mem_cons_self ..)
    have h2 : c ∉ r := fun e => h (List.mem_cons_of_mem _ e)
    rw [List.cons_append, spl, if_neg h1, spl_at h2]; rfl

theorem index_no {c : UInt8} : ∀ {s : List UInt8}, c ∉ s → Lib.index s [c] = -1
  | [], _ => rfl
  | b :: r, h => by
    have h1 : ¬ c = b := fun e => h (by rw [e]; exact List.mem_cons_self ..)
    have h2 : c ∉ r := fun e => h (List.mem_cons_of_mem _ e)
    rw [Lib.index, index_no h2]
    simp [List.isPrefixOf, h1]

theorem index_yes {c : UInt8} {b : List UInt8} : ∀ {a : List UInt8}, c ∉ a → Lib.index (a ++ c :: b) [c] = (a.length : Int)
  | [], _ => by rw [List.nil_append, Lib.index]; simp [List.isPrefixOf]
  | x :: r, h => by
    have h1 : ¬ c = x := fun e => h (by rw [e]; exact List.mem_cons_self ..)
    have h2 : c ∉ r := fun e => h (List.mem_cons_of_mem _ e)
    rw [List.cons_append, Lib.index, index_yes h2]
    have h3 : ((r.length : Int) == -1) = false := by rw [beq_eq_false_iff_ne]; omega
    simp [List.isPrefixOf, h1, h3]

theorem cut_no {c : UInt8} {s : List UInt8} (h : c ∉ s) : Lib.cut s [c] = (s, [], false) := by
  unfold Lib.cut; rw [index_no h]; rfl
theorem cut_yes {c : UInt8} {a b : List UInt8} (h : c ∉ a) : Lib.cut (a ++ c :: b) [c] = (a, b, true) := by
  unfold Lib.cut; rw [index_yes h, if_pos (by omega)]; simp

theorem splitK_spl (c : UInt8) : ∀ (n : Nat) (s : List UInt8), s.length ≤ n → Lib.splitK [c] 0 (Lib.count s [c]) s = spl c s := by
  intro n
  induction n with
  | zero =>
    intro s hs
    have : s = [] := List.eq_nil_of_length_eq_zero (by omega)
    subst this
    rw [Lib.count_miss (index_no (by simp))]; rfl
  | succ n ih =>
    intro s hs
    by_cases h : c ∈ s
    · obtain ⟨a, b, rfl, ha⟩ := List.eq_append_cons_of_mem h
      have hi := index_yes (b := b) ha
      have hd : (a ++ c :: b).drop (a.length + [c].length) = b := by simp
      rw [Lib.count_hit (by simp) hi, hd, Nat.add_comm 1, Lib.splitK, hi]
      have h3 : ((a.length : Int) == -1) = false := by rw [beq_eq_false_iff_ne]; omega
      rw [h3]
      simp only [Bool.false_eq_true, if_false, Int.toNat_natCast, Nat.add_zero]
      rw [hd, ih b (by simp at hs; omega), spl_at ha]
      simp
    · rw [Lib.count_miss (index_no h), spl_none h]; rfl

theorem splitB_spl (c : UInt8) (s : ByteArray) : (Lib.splitB ⟨#[c]⟩ 0 (Lib.countB s ⟨#[c]⟩) s).map (·.data.toList) = spl c s.data.toList := by
  rw [Lib.splitB_data]; exact splitK_spl c _ _ (Nat.le_refl _)

/-- The digits of a number. -/
theorem decDigits_mem : ∀ (u : Nat) (b : UInt8), b ∈ Lib.decDigits u → 48 ≤ b.toNat ∧ b.toNat ≤ 57 := by
  intro u
  induction u using Nat.strongRecOn with
  | _ u ih =>
    intro b hb
    rw [Lib.decDigits] at hb
    split at hb
    · rw [List.mem_singleton] at hb
      subst hb
      rw [UInt8.toNat_ofNat']
      omega
    · rw [List.mem_append, List.mem_singleton] at hb
      rcases hb with hb | hb
      · exact ih (u / 10) (by omega) b hb
      · subst hb
        rw [UInt8.toNat_ofNat']
        omega

theorem decDigits_no {u : Nat} {c : UInt8} (h : c.toNat < 48) : c ∉ Lib.decDigits u := fun hc => by
  have := decDigits_mem u c hc; omega

theorem digit_val {d : Nat} (h : d < 10) : (UInt8.ofNat (48 + d)).toNat = 48 + d := by
  rw [UInt8.toNat_ofNat']; omega

theorem decDigits_ne (u : Nat) : Lib.decDigits u ≠ [] := by
  rw [Lib.decDigits]; split <;> simp

/-- ParseUint of digits, the last one apart. -/
theorem parseUintM_snoc (M : Nat) (c : UInt8) : ∀ (l : List UInt8) (acc u : Nat), Lib.parseUintM M acc l = .ok u → Lib.parseUintM M acc (l ++ [c]) = Lib.parseUintM M u [c]
  | [], acc, u, h => by
    rw [Lib.parseUintM] at h
    injection h with h
    subst h; rfl
  | b :: r, acc, u, h => by
    rw [Lib.parseUintM] at h
    rw [List.cons_append, Lib.parseUintM]
    split at h
    · rename_i h1
      rw [if_pos h1]
      split at h
      · cases h
      · rename_i h2
        rw [if_neg h2]
        split at h
        · cases h
        · rename_i h3
          rw [if_neg h3]
          exact parseUintM_snoc M c r _ u h
    · cases h

theorem parseUintM_dec : ∀ (u : Nat), u ≤ 18446744073709551615 → Lib.parseUintM 18446744073709551615 0 (Lib.decDigits u) = .ok u := by
  intro u
  induction u using Nat.strongRecOn with
  | _ u ih =>
    intro hu
    rw [Lib.decDigits]
    split
    · rename_i h
      have e := digit_val h
      rw [Lib.parseUintM, e, if_pos (by omega), if_neg (by omega), if_neg (by omega), Lib.parseUintM]
      congr 1; omega
    · rw [parseUintM_snoc _ _ _ _ _ (ih (u / 10) (by omega) (by omega))]
      have e := digit_val (show u % 10 < 10 by omega)
      rw [Lib.parseUintM, e, if_pos (by omega), if_neg (by omega), if_neg (by omega), Lib.parseUintM]
      congr 1; omega

theorem parseIntB_dec {u : Nat} (hu : u ≤ 9223372036854775807) : Lib.parseIntB 64 (Lib.decDigits u) = .ok (u : Int) := by
  cases hd : Lib.decDigits u with
  | nil => exact absurd hd (decDigits_ne u)
  | cons c r =>
    have hm := decDigits_mem u c (by rw [hd]; exact List.mem_cons_self ..)
    unfold Lib.parseIntB
    have h1 : ¬ c.toNat = 43 := by omega
    have h2 : ¬ c.toNat = 45 := by omega
    simp only [h1, h2, if_false, or_false]
    unfold Lib.parseUintB
    rw [if_neg (by simp), ← hd]
    have e : (2 ^ 64 - 1 : Nat) = 18446744073709551615 := by decide
    rw [e, parseUintM_dec u (by omega)]
    have e2 : (2 ^ (64 - 1) : Nat) = 9223372036854775808 := by decide
    simp only [e2]
    rw [if_neg (by omega), if_neg (by simp)]

/-- What the reference reads of digits. -/
def numR (acc : Nat) : List UInt8 → Option Nat
  | [] => some acc
  | c :: r => if (48 ≤ c.toNat ∧ c.toNat ≤ 57) ∧ acc * 10 + (c.toNat - 48) ≤ 9223372036854775807 then numR (acc * 10 + (c.toNat - 48)) r else none

theorem numR_le : ∀ (l : List UInt8) (acc v : Nat), acc ≤ 9223372036854775807 → numR acc l = some v → v ≤ 9223372036854775807
  | [], acc, v, h, e => by rw [numR] at e; injection e with e; omega
  | c :: r, acc, v, h, e => by
    rw [numR] at e
    split at e
    · rename_i h1; exact numR_le r _ v h1.2 e
    · cases e

theorem numR_snoc (c : UInt8) : ∀ (l : List UInt8) (acc : Nat), numR acc (l ++ [c]) = (numR acc l).bind fun u => numR u [c]
  | [], acc => rfl
  | b :: r, acc => by
    rw [List.cons_append, numR, numR]
    split
    · exact numR_snoc c r _
    · rfl

theorem numR_dec : ∀ (u : Nat), u ≤ 9223372036854775807 → numR 0 (Lib.decDigits u) = some u := by
  intro u
  induction u using Nat.strongRecOn with
  | _ u ih =>
    intro hu
    rw [Lib.decDigits]
    split
    · rename_i h
      have e := digit_val h
      rw [numR, e, if_pos (by omega), numR]
      congr 1; omega
    · rw [numR_snoc, ih (u / 10) (by omega) (by omega)]
      have e := digit_val (show u % 10 < 10 by omega)
      show numR (u / 10) _ = _
      rw [numR, e, if_pos (by omega), numR]
      congr 1; omega

/-- The word of a kind, out of the first k kinds. -/
def kindTo (w : ByteArray) : Nat → Int
  | 0 => 0
  | k + 1 => if wordB ((k : Int) + 1) = w then (k : Int) + 1 else kindTo w k

theorem kindTo_range (w : ByteArray) : ∀ k : Nat, 0 ≤ kindTo w k ∧ kindTo w k ≤ k
  | 0 => by simp [kindTo]
  | k + 1 => by
    have := kindTo_range w k
    rw [kindTo]; split <;> omega

theorem kindTo_word {k : Int} (h : 1 ≤ k ∧ k ≤ 7) : kindTo (wordB k) 7 = k := by
  have hk : k = 1 ∨ k = 2 ∨ k = 3 ∨ k = 4 ∨ k = 5 ∨ k = 6 ∨ k = 7 := by omega
  rcases hk with rfl | rfl | rfl | rfl | rfl | rfl | rfl <;> decide

/-- The bytes of a line, without its line feed. -/
def bodyL (p : Pt) : List UInt8 := Lib.itoa p.at_ ++ 32 :: ((wordB p.kind).data.toList ++ (flds p).flatMap fun x => 32 :: Lib.itoa x)

theorem data_app (a b : ByteArray) : (a ++ b).data.toList = a.data.toList ++ b.data.toList := by
  rw [ByteArray.data_append, Array.toList_append]

theorem numsB_data : ∀ (l : List Int) (s : ByteArray), (numsB s l).data.toList = s.data.toList ++ l.flatMap fun x => 32 :: Lib.itoa x
  | [], s => by simp [numsB]
  | x :: r, s => by
    rw [numsB, numsB_data r, data_app, data_app]
    simp [decB]

theorem lineB_data (p : Pt) : (lineB p).data.toList = bodyL p ++ [10] := by
  unfold lineB lineTo
  rw [data_app, List.take_length, numsB_data]
  unfold headB bodyL
  rw [data_app, data_app]
  simp [decB]

/-- A text is the line of a valid point, without its line feed. -/
structure IsLine (s : List UInt8) (q : Pt) : Prop where
  ok : okP q = true
  fits : q.Fits
  eq : bodyL q = s

theorem isLine_iff {s : ByteArray} {q : Pt} : lineB q = s ++ nl ↔ bodyL q = s.data.toList := by
  constructor
  · intro h
    have := congrArg (fun x : ByteArray => x.data.toList) h
    simp only [lineB_data, data_app] at this
    exact List.append_cancel_right (this.trans (by rfl))
  · intro h
    apply ByteArray.ext
    apply Array.ext'
    rw [lineB_data, data_app, h]

theorem okP_parts {q : Pt} (h : okP q = true) : (1 ≤ q.kind ∧ q.kind ≤ 7) ∧ 0 ≤ q.at_ ∧ q = mk q.at_ q.kind (flds q) ∧ ∀ x ∈ flds q, 0 ≤ x := by
  unfold okP at h
  simp only [Bool.and_eq_true, decide_eq_true_eq, Bool.not_eq_true'] at h
  refine ⟨h.1.1.1, h.1.1.2, h.1.2, fun x hx => ?_⟩
  have h2 := h.2
  unfold anyNeg at h2
  rw [List.any_eq_false] at h2
  have := h2 x hx
  simp at this
  exact this

theorem okP_of_parts {q : Pt} (h1 : 1 ≤ q.kind ∧ q.kind ≤ 7) (h2 : 0 ≤ q.at_) (h3 : q = mk q.at_ q.kind (flds q)) (h4 : ∀ x ∈ flds q, 0 ≤ x) : okP q = true := by
  unfold okP
  simp only [Bool.and_eq_true, decide_eq_true_eq, Bool.not_eq_true']
  refine ⟨⟨⟨h1, h2⟩, h3⟩, ?_⟩
  unfold anyNeg
  rw [List.any_eq_false]
  intro x hx
  have := h4 x hx
  simp; omega

theorem itoa_of_nonneg {x : Int} (h : 0 ≤ x) : Lib.itoa x = Lib.decDigits x.toNat := by
  unfold Lib.itoa; rw [if_neg (by omega)]

theorem itoa_no {x : Int} (h : 0 ≤ x) {c : UInt8} (hc : c.toNat < 48) : c ∉ Lib.itoa x := by
  rw [itoa_of_nonneg h]; exact decDigits_no hc

theorem wordB_no (k : Int) {c : UInt8} (hc : c.toNat < 48) : c ∉ (wordB k).data.toList := by
  unfold wordB
  repeat' split
  all_goals
    intro h
    simp at h
    try (rcases h with rfl | rfl | rfl | rfl | rfl | rfl <;> simp at hc)
    try (rcases h with rfl | rfl | rfl | rfl | rfl <;> simp at hc)
    try (rcases h with rfl | rfl | rfl | rfl <;> simp at hc)

theorem spl_nums {a : List UInt8} (ha : (32 : UInt8) ∉ a) : ∀ (l : List Int), (∀ x ∈ l, 0 ≤ x) → spl 32 (a ++ l.flatMap fun x => 32 :: Lib.itoa x) = a :: l.map Lib.itoa := by
  intro l
  induction l generalizing a with
  | nil => intro _; simp [spl_none ha]
  | cons x r ih =>
    intro h
    have hx : (32 : UInt8) ∉ Lib.itoa x := itoa_no (h x (List.mem_cons_self ..)) (by decide)
    rw [List.flatMap_cons, List.cons_append, spl_at ha, ih hx (fun y hy => h y (List.mem_cons_of_mem _ hy))]
    simp

/-- The words of the line of a valid point. -/
theorem line_words {s : List UInt8} {q : Pt} (h : IsLine s q) : spl 32 s = Lib.itoa q.at_ :: (wordB q.kind).data.toList :: (flds q).map Lib.itoa := by
  obtain ⟨hk, ha, _, hf⟩ := okP_parts h.ok
  rw [← h.eq]
  unfold bodyL
  rw [spl_at (itoa_no ha (by decide)), spl_nums (wordB_no _ (by decide)) _ hf]

theorem line_no_nl {s : List UInt8} {q : Pt} (h : IsLine s q) : (10 : UInt8) ∉ s := by
  obtain ⟨hk, ha, _, hf⟩ := okP_parts h.ok
  rw [← h.eq]
  unfold bodyL
  intro hm
  rw [List.mem_append, List.mem_cons, List.mem_append, List.mem_flatMap] at hm
  rcases hm with hm | hm | hm | ⟨x, hx, hm⟩
  · exact itoa_no ha (by decide) hm
  · exact absurd hm (by decide)
  · exact wordB_no _ (by decide) hm
  · rcases List.mem_cons.1 hm with e | e
    · exact absurd e (by decide)
    · exact itoa_no (hf x hx) (by decide) e

/-- The number in a word, as ParseInt reads it. -/
def valI (l : List UInt8) : Int := match Lib.parseIntB 64 l with | .ok v => v | _ => 0
def okI (l : List UInt8) : Prop := Lib.parseIntB 64 l = .ok (valI l)

theorem okI_of {l : List UInt8} {v : Int} (h : Lib.parseIntB 64 l = .ok v) : okI l ∧ valI l = v := by
  have e : valI l = v := by unfold valI; rw [h]
  exact ⟨by unfold okI; rw [e]; exact h, e⟩

theorem itoa_parse {x : Int} (h : 0 ≤ x) (hx : In64 x) : okI (Lib.itoa x) ∧ valI (Lib.itoa x) = x := by
  have := parseIntB_dec (u := x.toNat) (by have := hx.2; omega)
  rw [← itoa_of_nonneg h] at this
  have e : ((x.toNat : Nat) : Int) = x := by omega
  rw [e] at this
  exact okI_of this

theorem valI_in {l : List UInt8} (h : okI l) : In64 (valI l) := by
  have := Lib.parseIntB_bounds h
  have e2 : (2 ^ (64 - 1) : Nat) = 9223372036854775808 := by decide
  rw [e2] at this
  exact ⟨by omega, by omega⟩

theorem mk_fits {a k : Int} {l : List Int} (ha : In64 a) (hk : In64 k) (hl : ∀ x ∈ l, In64 x) : (mk a k l).Fits := by
  have h0 : In64 0 := ⟨by omega, by omega⟩
  have hg : ∀ i, In64 (l.getD i 0) := fun i => by
    by_cases hi : i < l.length
    · rw [List.getD_eq_getElem?_getD, List.getElem?_eq_getElem hi]; exact hl _ (List.getElem_mem hi)
    · rw [List.getD_eq_getElem?_getD, List.getElem?_eq_none (by omega)]; exact h0
  unfold mk
  split
  · exact ⟨ha, hk, hg 0, hg 1, hg 2, h0, h0, h0, h0, h0, h0⟩
  · split
    · exact ⟨ha, hk, h0, h0, h0, h0, h0, hg 2, hg 0, hg 1, h0⟩
    · split
      · exact ⟨ha, hk, h0, h0, h0, h0, hg 1, h0, h0, h0, hg 0⟩
      · exact ⟨ha, hk, h0, h0, h0, hg 0, hg 1, h0, h0, h0, h0⟩

/-- Two points with one line are equal. -/
theorem line_unique {s : List UInt8} {p q : Pt} (hp : IsLine s p) (hq : IsLine s q) : p = q := by
  have e := (line_words hp).symm.trans (line_words hq)
  injection e with e1 e2
  injection e2 with e2 e3
  obtain ⟨hk, ha, hm, hf⟩ := okP_parts hp.ok
  obtain ⟨hk', ha', hm', hf'⟩ := okP_parts hq.ok
  have a1 : p.at_ = q.at_ := by
    rw [← (itoa_parse ha hp.fits.at_).2, ← (itoa_parse ha' hq.fits.at_).2, e1]
  have a2 : p.kind = q.kind := by
    have e2' : wordB p.kind = wordB q.kind := ByteArray.ext (Array.ext' e2)
    rw [← kindTo_word hk, ← kindTo_word hk', e2']
  have a3 : flds p = flds q := by
    have h1 : (flds p).map (fun x => valI (Lib.itoa x)) = flds p := by
      conv => rhs; rw [← List.map_id (flds p)]
      exact List.map_congr_left fun x hx => (itoa_parse (hf x hx) (flds_fit hp.fits x hx)).2
    have h2 : (flds q).map (fun x => valI (Lib.itoa x)) = flds q := by
      conv => rhs; rw [← List.map_id (flds q)]
      exact List.map_congr_left fun x hx => (itoa_parse (hf' x hx) (flds_fit hq.fits x hx)).2
    have h3 : ∀ l : List Int, l.map (fun x => valI (Lib.itoa x)) = (l.map Lib.itoa).map valI := fun l => by rw [List.map_map]; rfl
    rw [← h1, ← h2, h3, h3, e3]
  rw [hm, hm', a1, a2, a3]
end Go.Proofs.YtcmnmcholfellaaDoor
