/-
  The text of a point and of a trace: plain Lean.
-/
import Derived.Test.YtcmnmcholfellaaDoorS1
import Derived.Test.YtcmnmcholfellaaDoorV0
import Derived.Lib.ItoaLen
namespace Go.Proofs.YtcmnmcholfellaaDoor

theorem decB_size {n : Int} (h : In64 n) : (decB n).size ≤ 21 := Lib.itoa_length_le n h.1 h.2
theorem wordB_size (k : Int) : (wordB k).size ≤ 6 := by
  unfold wordB
  repeat' split
  all_goals decide

/-- A blank. -/
abbrev sp : ByteArray := ⟨#[32]⟩
/-- A line feed. -/
abbrev nl : ByteArray := ⟨#[10]⟩

/-- The beginning of a point's line: its time and the word of its kind. -/
def headB (p : Pt) : ByteArray := decB p.at_ ++ sp ++ wordB p.kind

/-- .. with numbers behind it. -/
def numsB (s : ByteArray) : List Int → ByteArray
  | [] => s
  | x :: r => numsB (s ++ (sp ++ decB x)) r

/-- .. with the first k numbers of its kind. -/
def lineTo (p : Pt) (k : Nat) : ByteArray := numsB (headB p) ((flds p).take k)

/-- The line of a point. -/
def lineB (p : Pt) : ByteArray := lineTo p (flds p).length ++ nl

theorem numsB_append (s : ByteArray) (l m : List Int) : numsB s (l ++ m) = numsB (numsB s l) m := by
  induction l generalizing s with
  | nil => rfl
  | cons x r ih => exact ih _

theorem lineTo_zero (p : Pt) : lineTo p 0 = headB p := rfl
theorem lineTo_succ {p : Pt} {k : Nat} (h : k < (flds p).length) : lineTo p (k + 1) = lineTo p k ++ (sp ++ decB (flds p)[k]) := by
  unfold lineTo
  rw [List.take_succ_eq_append_getElem h, numsB_append]
  rfl

theorem flds_fit {p : Pt} (h : p.Fits) : ∀ x ∈ flds p, In64 x := by
  intro x hx
  unfold flds at hx
  split at hx
  · simp at hx; rcases hx with rfl | rfl | rfl
    · exact h.tbl
    · exact h.wri
    · exact h.rdr
  · split at hx
    · simp at hx; rcases hx with rfl | rfl | rfl
      · exact h.rep
      · exact h.ver
      · exact h.rnd
    · split at hx
      · simp at hx; rcases hx with rfl | rfl
        · exact h.hol
        · exact h.tok
      · simp at hx; rcases hx with rfl | rfl
        · exact h.idx
        · exact h.tok

theorem headB_size {p : Pt} (h : p.Fits) : (headB p).size ≤ 28 := by
  have h1 := decB_size h.at_
  have h2 := wordB_size p.kind
  unfold headB
  simp only [ByteArray.size_append]
  have : sp.size = 1 := rfl
  omega

theorem numsB_size {s : ByteArray} : ∀ {l : List Int}, (∀ x ∈ l, In64 x) → (numsB s l).size ≤ s.size + 22 * l.length := by
  intro l
  induction l generalizing s with
  | nil => intro _; simp [numsB]
  | cons x r ih =>
    intro h
    have h1 := ih (s := s ++ (sp ++ decB x)) (fun y hy => h y (by simp [hy]))
    have h2 := decB_size (h x (by simp))
    simp only [ByteArray.size_append] at h1
    have : sp.size = 1 := rfl
    show (numsB (s ++ (sp ++ decB x)) r).size ≤ _
    simp only [List.length_cons]
    omega

theorem lineTo_size {p : Pt} (h : p.Fits) (k : Nat) : (lineTo p k).size ≤ 100 := by
  have h1 := headB_size h
  have h2 := numsB_size (s := headB p) (l := (flds p).take k) (fun x hx => flds_fit h x (List.mem_of_mem_take hx))
  have h3 : ((flds p).take k).length ≤ 3 := by
    have : (flds p).length ≤ 3 := by rw [flds_length]; unfold cnt; split <;> (try split) <;> omega
    simp; omega
  unfold lineTo
  omega

theorem lineB_size {p : Pt} (h : p.Fits) : (lineB p).size ≤ 101 := by
  have := lineTo_size h (flds p).length
  unfold lineB
  simp only [ByteArray.size_append]
  have : nl.size = 1 := rfl
  omega

/-- The text of a trace. -/
def textB : List Pt → ByteArray
  | [] => ⟨#[]⟩
  | p :: r => lineB p ++ textB r

theorem emptyB : (⟨#[]⟩ : ByteArray) = ByteArray.empty := rfl

theorem textB_append (l m : List Pt) : textB (l ++ m) = textB l ++ textB m := by
  induction l with
  | nil => simp [textB, emptyB]
  | cons p r ih => simp only [List.cons_append, textB, ih, ByteArray.append_assoc]

theorem textB_snoc (l : List Pt) {k : Nat} (h : k < l.length) : textB (l.take (k + 1)) = textB (l.take k) ++ lineB l[k] := by
  rw [List.take_succ_eq_append_getElem h, textB_append]
  simp [textB, emptyB]

theorem textB_size {l : List Pt} (h : ∀ p ∈ l, p.Fits) : (textB l).size ≤ 101 * l.length := by
  induction l with
  | nil => simp [textB, emptyB]
  | cons p r ih =>
    have h1 := ih (fun q hq => h q (by simp [hq]))
    have h2 := lineB_size (h p (by simp))
    simp only [textB, ByteArray.size_append, List.length_cons]
    omega
theorem textB_mono (l : List Pt) (k : Nat) : (textB (l.take k)).size ≤ (textB l).size := by
  have h : textB l = textB (l.take k) ++ textB (l.drop k) := by rw [← textB_append, List.take_append_drop]
  rw [h, ByteArray.size_append]; omega

/-- What Format returns. -/
def formatR (l : List Pt) : ByteArray × Int :=
  if valid l ≠ 0 then (⟨#[]⟩, valid l) else if 65536 < (textB l).size then (⟨#[]⟩, 3) else (textB l, 0)
end Go.Proofs.YtcmnmcholfellaaDoor
