/-
  Walks: a line read, in package trace: plain part.
-/
import Derived.Test.YtcmnmcholfellaaDoorQ1
import Derived.Test.YtcmnmcholfellaaDoorA1
import Derived.Test.YtcmnmcholfellaaDoorW4
import Derived.Test.YtcmnmcholfellaaDoorS2
namespace Go.Proofs.YtcmnmcholfellaaDoor
open Go.RowKit

theorem beqT_yes {a b : ByteArray} (h : a = b) : (a.toList == b.toList) = true := by subst h; simp
theorem beqT_no {a b : ByteArray} (h : ¬ a = b) : (a.toList == b.toList) = false := by
  rw [Lib.toList_data, Lib.toList_data, beq_eq_false_iff_ne]
  exact fun e => h (ByteArray.ext (Array.ext' e))

theorem ownsRow_below {w w' : World} {base E size : Nat} {v : Value} {n : Nat} {xs : List Value} (h : w.ownsRow base E size v n xs) (hb : Below w.heap.size w w') : w'.ownsRow base E size v n xs := by
  refine ⟨h.1, ?_⟩
  rcases h.2 with h0 | ⟨g, cap, cur, hv, hg, hh, h1⟩
  · exact .inl h0
  · exact .inr ⟨g, cap, cur, hv, hg, (hb.block g (by have := (Array.getElem?_eq_some_iff.1 hh).1; exact this)).trans hh, h1⟩

theorem OwnI.below {w w' : World} {base : Nat} {v : Value} {l : List Int} (h : OwnI w base v l) (hb : Below w.heap.size w w') : OwnI w' base v l := ownsRow_below h hb

/-- The numbers of the first words, the second one left out. -/
def numsTo (W : List (List UInt8)) (i : Nat) : List Int := ((W.take i).eraseIdx 1).map valI

theorem numsTo_succ {W : List (List UInt8)} {k : Nat} (h : k < W.length) (h1 : k ≠ 1) : numsTo W (k + 1) = numsTo W k ++ [valI W[k]] := by
  unfold numsTo
  rw [List.take_succ_eq_append_getElem h]
  by_cases h0 : k = 0
  · subst h0; simp
  · rw [List.eraseIdx_append_of_lt_length (by simp; omega), List.map_append]; rfl

theorem numsTo_two {W : List (List UInt8)} (h : 1 < W.length) : numsTo W (1 + 1) = numsTo W 1 := by
  match W, h with
  | a :: b :: r, _ => rfl

theorem numsTo_length {W : List (List UInt8)} {i : Nat} (h : i ≤ W.length) : (numsTo W i).length ≤ i := by
  unfold numsTo
  rw [List.length_map]
  have := List.length_eraseIdx_le (W.take i) 1
  simp at this; omega

/-- The kind of the words, once the second one has been read. -/
def kindW (ws : List ByteArray) (i : Nat) : Int := if 2 ≤ i then kindTo (ws.getD 1 ⟨#[]⟩) 7 else 0

theorem words_at {s : ByteArray} {k : Nat} (h : k < (wordsB s).length) : (spl 32 s.data.toList)[k]'(by rw [← wordsB_data]; simpa using h) = ((wordsB s)[k]).data.toList := by
  have := wordsB_data s
  simp only [← this, List.getElem_map]

theorem words_len (s : ByteArray) : (spl 32 s.data.toList).length = (wordsB s).length := by rw [← wordsB_data, List.length_map]

/-- In a valid point's line each word but the second one is a number. -/
theorem line_ok {s : ByteArray} {q : Pt} (h : IsLine s.data.toList q) {k : Nat} (hk : k < (wordsB s).length) (h1 : k ≠ 1) : ∃ x, 0 ≤ x ∧ In64 x ∧ ((wordsB s)[k]).data.toList = Lib.itoa x := by
  obtain ⟨hk', ha, _, hf⟩ := okP_parts h.ok
  have hw := line_words h
  rw [← words_at hk]
  match k, hk, h1 with
  | 0, hk, _ => exact ⟨q.at_, ha, h.fits.at_, by simp only [hw]; rfl⟩
  | j + 2, hk, _ =>
    have hj : j < (flds q).length := by
      rw [← words_len, hw] at hk; simpa using hk
    exact ⟨(flds q)[j], hf _ (List.getElem_mem hj), flds_fit h.fits _ (List.getElem_mem hj), by simp only [hw, List.getElem_cons_succ, List.getElem_map]⟩

theorem line_okI {s : ByteArray} {q : Pt} (h : IsLine s.data.toList q) {k : Nat} (hk : k < (wordsB s).length) (h1 : k ≠ 1) : okI ((wordsB s)[k]).data.toList := by
  obtain ⟨x, h0, hx, e⟩ := line_ok h hk h1
  rw [e]; exact (itoa_parse h0 hx).1

theorem line_nums {s : ByteArray} {q : Pt} (h : IsLine s.data.toList q) : numsTo (spl 32 s.data.toList) (wordsB s).length = q.at_ :: flds q ∧ kindW (wordsB s) (wordsB s).length = q.kind := by
  obtain ⟨hk, ha, _, hf⟩ := okP_parts h.ok
  have hw := line_words h
  have hl : (wordsB s).length = (flds q).length + 2 := by rw [← words_len, hw]; simp
  constructor
  · unfold numsTo
    rw [← words_len, List.take_length, hw]
    simp only [List.eraseIdx_cons_succ, List.eraseIdx_cons_zero, List.map_cons, List.map_map]
    rw [(itoa_parse ha h.fits.at_).2]
    congr 1
    conv => rhs; rw [← List.map_id (flds q)]
    exact List.map_congr_left fun x hx => (itoa_parse (hf x hx) (flds_fit h.fits x hx)).2
  · unfold kindW
    rw [if_pos (by omega)]
    have h1 : 1 < (wordsB s).length := by omega
    have e := words_at h1
    simp only [hw, List.getElem_cons_succ, List.getElem_cons_zero] at e
    have e2 : (wordsB s).getD 1 ⟨#[]⟩ = wordB q.kind := by
      rw [List.getD_eq_getElem?_getD, List.getElem?_eq_getElem h1]
      exact ByteArray.ext (Array.ext' e.symm)
    rw [e2, kindTo_word hk]

theorem numsTo_in {s : ByteArray} : ∀ (i : Nat), i ≤ (wordsB s).length → (∀ j (hj : j < (wordsB s).length), j < i → j ≠ 1 → okI ((wordsB s)[j]).data.toList) → ∀ x ∈ numsTo (spl 32 s.data.toList) i, In64 x
  | 0, _, _, x, hx => by simp [numsTo] at hx
  | k + 1, hi, hok, x, hx => by
    have ih := numsTo_in k (by omega) (fun j hj h1 h2 => hok j hj (by omega) h2)
    by_cases h1 : k = 1
    · subst h1
      rw [numsTo_two (by rw [words_len]; omega)] at hx
      exact ih x hx
    · rw [numsTo_succ (by rw [words_len]; omega) h1, words_at (by omega)] at hx
      rcases List.mem_append.1 hx with h | h
      · exact ih x h
      · rw [List.mem_singleton] at h
        subst h
        exact valI_in (hok k (by omega) (by omega) h1)

/-- What reading a line leaves: the point of the line, or 'no'. -/
def ReadPost (s : ByteArray) (w : World) (e : Ending) (w' : World) : Prop :=
  ∃ p b, e = .returned (.tuple #[Pt.v p, .bool b]) ∧ (b = true → IsLine s.data.toList p) ∧ ((∃ q, IsLine s.data.toList q) → b = true) ∧ Below w.heap.size w w'

/-- The point with no numbers. -/
abbrev Pt.zero : Pt := ⟨0, 0, 0, 0, 0, 0, 0, 0, 0, 0, 0⟩

/-- The words in memory. -/
def StrsIn (w : World) (b : Nat) (ws : List ByteArray) : Prop := ∀ k x, ws[k]? = some x → w.cell? ⟨b, k, none⟩ = some (.string x)

theorem StrsIn.below {w w' : World} {b : Nat} {ws : List ByteArray} (h : StrsIn w b ws) (hb : Below w.heap.size w w') : StrsIn w' b ws := fun k x hk => below_cell hb (h k x hk)

theorem strs_new (w : World) (ws : List ByteArray) : StrsIn (w.alloc (.cells (ws.map Value.string).toArray 9)) w.heap.size ws := fun k x hk => by
  have := range_new w (ws.map Value.string) 9 k (.string x) (by rw [List.getElem?_map, hk]; rfl)
  rwa [Nat.zero_add] at this
end Go.Proofs.YtcmnmcholfellaaDoor
