/-
  Rotating two neighbouring blocks, and merging in place by halves (symMerge): plain Lean.
-/
import Derived.Test.YtcmnmcholfellaaDoorM1
namespace Go.Proofs.YtcmnmcholfellaaDoor

/-- Where the point at k came from, when blocks of n points at a and at b change places. -/
def swIx (a b n k : Nat) : Nat := if a ≤ k ∧ k < a + n then k + (b - a) else if b ≤ k ∧ k < b + n then k - (b - a) else k

/-- Where the point at k came from, when the blocks from a to m and from m to b change places. -/
def rotIx (a m b k : Nat) : Nat := if a ≤ k ∧ k < a + (b - m) then k + (m - a) else if a + (b - m) ≤ k ∧ k < b then k - (b - m) else k

theorem swIx_is (a b n k : Nat) : ((a ≤ k ∧ k < a + n) ∧ swIx a b n k = k + (b - a)) ∨ (¬ (a ≤ k ∧ k < a + n) ∧ (b ≤ k ∧ k < b + n) ∧ swIx a b n k = k - (b - a)) ∨ (¬ (a ≤ k ∧ k < a + n) ∧ ¬ (b ≤ k ∧ k < b + n) ∧ swIx a b n k = k) := by
  unfold swIx; split
  · exact .inl ⟨‹_›, rfl⟩
  · split
    · exact .inr (.inl ⟨‹_›, ‹_›, rfl⟩)
    · exact .inr (.inr ⟨‹_›, ‹_›, rfl⟩)
theorem rotIx_is (a m b k : Nat) : ((a ≤ k ∧ k < a + (b - m)) ∧ rotIx a m b k = k + (m - a)) ∨ (¬ (a ≤ k ∧ k < a + (b - m)) ∧ (a + (b - m) ≤ k ∧ k < b) ∧ rotIx a m b k = k - (b - m)) ∨ (¬ (a ≤ k ∧ k < a + (b - m)) ∧ ¬ (a + (b - m) ≤ k ∧ k < b) ∧ rotIx a m b k = k) := by
  unfold rotIx; split
  · exact .inl ⟨‹_›, rfl⟩
  · split
    · exact .inr (.inl ⟨‹_›, ‹_›, rfl⟩)
    · exact .inr (.inr ⟨‹_›, ‹_›, rfl⟩)

/-- A list that is another one, its places drawn by a function. -/
def ByIx (f : Nat → Nat) (l l' : List Pt) : Prop := l'.length = l.length ∧ ∀ k, l'[k]? = l[f k]?

theorem ByIx.tm {f : Nat → Nat} {l l' : List Pt} (h : ByIx f l l') (k : Nat) : tm l' k = tm l (f k) := by
  unfold Go.Proofs.YtcmnmcholfellaaDoor.tm; simp only [List.getD, h.2 k]

theorem swIx_zero (a b : Nat) (l : List Pt) : ByIx (swIx a b 0) l l := by
  refine ⟨rfl, fun k => ?_⟩
  have : swIx a b 0 k = k := by unfold swIx; rw [if_neg (by omega), if_neg (by omega)]
  rw [this]

/-- Two places change. -/
def exch (l : List Pt) (i j : Nat) (hi : i < l.length) (hj : j < l.length) : List Pt := (l.set i l[j]).set j l[i]

theorem exch_get {l : List Pt} {i j : Nat} (hi : i < l.length) (hj : j < l.length) (k : Nat) : (exch l i j hi hj)[k]? = if k = j then l[i]? else if k = i then l[j]? else l[k]? := by
  unfold exch
  by_cases e : k = j
  · subst e; rw [List.getElem?_set_self (by simpa using hj), if_pos rfl, List.getElem?_eq_getElem hi]
  · rw [List.getElem?_set_ne (Ne.symm e), if_neg e]
    by_cases e2 : k = i
    · subst e2; rw [List.getElem?_set_self hi, if_pos rfl, List.getElem?_eq_getElem hj]
    · rw [List.getElem?_set_ne (Ne.symm e2), if_neg e2]

theorem swIx_step {l l1 : List Pt} {a b n : Nat} (h : ByIx (swIx a b n) l l1) (hab : a + n < b) (hi : a + n < l1.length) (hj : b + n < l1.length) : ByIx (swIx a b (n + 1)) l (exch l1 (a + n) (b + n) hi hj) := by
  refine ⟨by simp [exch, h.1], fun k => ?_⟩
  rw [exch_get, h.2, h.2, h.2]
  have i1 := swIx_is a b (n + 1) k
  have i2 := swIx_is a b n k
  have i3 := swIx_is a b n (a + n)
  have i4 := swIx_is a b n (b + n)
  by_cases e : k = b + n
  · rw [if_pos e]; congr 1; omega
  · rw [if_neg e]
    by_cases e2 : k = a + n
    · rw [if_pos e2]; congr 1; omega
    · rw [if_neg e2]; congr 1; omega

/-- The state of a rotation: what is left is the rotation of the blocks of i and of j points about m. -/
def RotSt (l0 : List Pt) (a m b i j : Nat) (l : List Pt) : Prop := l.length = l0.length ∧ ∀ k, l0[rotIx a m b k]? = l[rotIx (m - i) m (m + j) k]?

theorem rot_start (l : List Pt) {a m b : Nat} (h1 : a ≤ m) (h2 : m ≤ b) : RotSt l a m b (m - a) (b - m) l := by
  refine ⟨rfl, fun k => ?_⟩
  rw [show m - (m - a) = a by omega, show m + (b - m) = b by omega]

theorem rot_left {l0 l l' : List Pt} {a m b i j : Nat} (h : RotSt l0 a m b i j l) (hi : i ≤ m) (hj : j < i) (hs : ByIx (swIx (m - i) m j) l l') : RotSt l0 a m b (i - j) j l' := by
  refine ⟨hs.1.trans h.1, fun k => ?_⟩
  rw [h.2, hs.2]
  congr 1
  have i1 := rotIx_is (m - i) m (m + j) k
  have i2 := rotIx_is (m - (i - j)) m (m + j) k
  have i3 := swIx_is (m - i) m j (rotIx (m - (i - j)) m (m + j) k)
  omega

theorem rot_right {l0 l l' : List Pt} {a m b i j : Nat} (h : RotSt l0 a m b i j l) (hi : i ≤ m) (hj : i < j) (hs : ByIx (swIx (m - i) (m + j - i) i) l l') : RotSt l0 a m b i (j - i) l' := by
  refine ⟨hs.1.trans h.1, fun k => ?_⟩
  rw [h.2, hs.2]
  congr 1
  have i1 := rotIx_is (m - i) m (m + j) k
  have i2 := rotIx_is (m - i) m (m + (j - i)) k
  have i3 := swIx_is (m - i) (m + j - i) i (rotIx (m - i) m (m + (j - i)) k)
  omega

theorem rot_end {l0 l l' : List Pt} {a m b i : Nat} (h : RotSt l0 a m b i i l) (hi : i ≤ m) (hs : ByIx (swIx (m - i) m i) l l') : ByIx (rotIx a m b) l0 l' := by
  refine ⟨hs.1.trans h.1, fun k => ?_⟩
  rw [hs.2, h.2]
  congr 1
  have i1 := rotIx_is (m - i) m (m + i) k
  have i3 := swIx_is (m - i) m i k
  omega

/-- A rotation in lists. -/
theorem rot_list {l l' : List Pt} {a m b : Nat} (h : ByIx (rotIx a m b) l l') (h1 : a ≤ m) (h2 : m ≤ b) (h3 : b ≤ l.length) :
    l = l.take a ++ ((l.drop a).take (m - a) ++ (l.drop m).take (b - m)) ++ l.drop b ∧ l' = l.take a ++ ((l.drop m).take (b - m) ++ (l.drop a).take (m - a)) ++ l.drop b := by
  constructor
  · apply List.ext_getElem?
    intro k
    rcases Nat.lt_or_ge k a with c | c
    · rw [List.append_assoc, List.getElem?_append_left (by simp; omega), List.getElem?_take_of_lt c]
    · rcases Nat.lt_or_ge k b with c2 | c2
      · rw [List.append_assoc, List.getElem?_append_right (by simp; omega), List.getElem?_append_left (by simp; omega)]
        rcases Nat.lt_or_ge k m with c3 | c3
        · rw [List.getElem?_append_left (by simp; omega), List.getElem?_take_of_lt (by simp; omega), List.getElem?_drop]; congr 1; simp; omega
        · rw [List.getElem?_append_right (by simp; omega), List.getElem?_take_of_lt (by simp; omega), List.getElem?_drop]; congr 1; simp; omega
      · rw [List.getElem?_append_right (by simp; omega), List.getElem?_drop]; congr 1; simp; omega
  · apply List.ext_getElem?
    intro k
    rw [h.2]
    unfold rotIx
    rcases Nat.lt_or_ge k a with c | c
    · rw [if_neg (by omega), if_neg (by omega), List.append_assoc, List.getElem?_append_left (by simp; omega), List.getElem?_take_of_lt c]
    · rcases Nat.lt_or_ge k b with c2 | c2
      · rw [List.append_assoc, List.getElem?_append_right (by simp; omega), List.getElem?_append_left (by simp; omega)]
        rcases Nat.lt_or_ge k (a + (b - m)) with c3 | c3
        · rw [if_pos ⟨c, c3⟩, List.getElem?_append_left (by simp; omega), List.getElem?_take_of_lt (by simp; omega), List.getElem?_drop]; congr 1; simp; omega
        · rw [if_neg (by omega), if_pos ⟨c3, c2⟩, List.getElem?_append_right (by simp; omega), List.getElem?_take_of_lt (by simp; omega), List.getElem?_drop]; congr 1; simp; omega
      · rw [if_neg (by omega), if_neg (by omega), List.getElem?_append_right (by simp; omega), List.getElem?_drop]; congr 1; simp; omega

theorem mem_part {l : List Pt} {x n : Nat} {p : Pt} (h : p ∈ (l.drop x).take n) (hx : x + n ≤ l.length) : ∃ k, x ≤ k ∧ k < x + n ∧ tm l k = p.at_ := by
  obtain ⟨j, hj, e⟩ := List.getElem_of_mem h
  have hl : j < n := by simp at hj; omega
  refine ⟨x + j, by omega, by omega, ?_⟩
  rw [tm_eq (show x + j < l.length by omega), ← e]
  simp

theorem keyed_nil {t : Int} {l : List Pt} (h : ∀ p ∈ l, p.at_ ≠ t) : keyed t l = [] := by
  unfold keyed; rw [List.filter_eq_nil_iff]; intro p hp; simpa using h p hp

/-- Blocks change places, the points of the second one all earlier than those of the first one: the same points of each time, in the same order. -/
theorem rot_ins {l l' : List Pt} {a m b A B : Nat} (h : ByIx (rotIx a m b) l l') (h1 : a ≤ m) (h2 : m ≤ b) (h3 : b ≤ l.length) (hA : A ≤ a) (hB : b ≤ B)
    (hlt : ∀ x y, a ≤ x → x < m → m ≤ y → y < b → tm l y < tm l x) : Ins l A B l' := by
  refine ⟨h.1, ?_, fun k hk => ?_, fun k hk => ?_⟩
  · obtain ⟨e1, e2⟩ := rot_list h h1 h2 h3
    rw [e2]
    conv => rhs; rw [e1]
    refine ((Alike.refl _).append ?_).append (Alike.refl _)
    intro t
    rw [keyed_append, keyed_append]
    by_cases c : ∃ p ∈ (l.drop a).take (m - a), p.at_ = t
    · obtain ⟨p, hp, hpt⟩ := c
      obtain ⟨x, hx1, hx2, hx3⟩ := mem_part hp (by omega)
      have : keyed t ((l.drop m).take (b - m)) = [] := keyed_nil fun q hq e => by
        obtain ⟨y, hy1, hy2, hy3⟩ := mem_part hq (by omega)
        have := hlt x y (by omega) (by omega) (by omega) (by omega)
        omega
      rw [this]; simp
    · have : keyed t ((l.drop a).take (m - a)) = [] := keyed_nil fun q hq e => c ⟨q, hq, e⟩
      rw [this]; simp
  · rw [h.2]; unfold rotIx; rw [if_neg (by omega), if_neg (by omega)]
  · rw [h.2]; unfold rotIx; rw [if_neg (by omega), if_neg (by omega)]

/-- A part between, of which the points of each time are kept: its times are times of the part. -/
theorem Ins.times {l l' : List Pt} {a b : Nat} (h : Ins l a b l') (hab : a ≤ b) (hb : b ≤ l.length) {x : Nat} (h1 : a ≤ x) (h2 : x < b) : ∃ y, a ≤ y ∧ y < b ∧ tm l y = tm l' x := by
  have hl := h.len
  have hx : x < l'.length := by omega
  have sp : ∀ {m : List Pt}, b ≤ m.length → m = m.take a ++ (m.drop a).take (b - a) ++ m.drop b := fun {m} hm => by
    rw [← List.take_add, show a + (b - a) = b by omega, List.take_append_drop]
  have et : l'.take a = l.take a := by
    apply List.ext_getElem?; intro k
    rcases Nat.lt_or_ge k a with c | c
    · rw [List.getElem?_take_of_lt c, List.getElem?_take_of_lt c]; exact h.pre k c
    · rw [List.getElem?_eq_none (by simp; omega), List.getElem?_eq_none (by simp; omega)]
  have ed : l'.drop b = l.drop b := by
    apply List.ext_getElem?; intro k
    rw [List.getElem?_drop, List.getElem?_drop]; exact h.post _ (by omega)
  have key : ∀ t, keyed t ((l'.drop a).take (b - a)) = keyed t ((l.drop a).take (b - a)) := fun t => by
    have ha := h.alike t
    rw [sp (m := l') (by omega), sp (m := l) hb, keyed_append, keyed_append, keyed_append, keyed_append, et, ed] at ha
    exact List.append_cancel_left (List.append_cancel_right ha)
  have hm : l'[x] ∈ (l'.drop a).take (b - a) := by
    rw [List.mem_iff_getElem?]
    refine ⟨x - a, ?_⟩
    rw [List.getElem?_take_of_lt (by omega), List.getElem?_drop, show a + (x - a) = x by omega, List.getElem?_eq_getElem hx]
  have hm2 : l'[x] ∈ (l.drop a).take (b - a) := by
    have hk : l'[x] ∈ keyed l'[x].at_ ((l'.drop a).take (b - a)) := mem_keyed.2 ⟨hm, rfl⟩
    rw [key] at hk
    exact (mem_keyed.1 hk).1
  obtain ⟨y, hy1, hy2, hy3⟩ := mem_part hm2 (by omega)
  exact ⟨y, hy1, by omega, by rw [hy3, tm_eq hx]⟩
end Go.Proofs.YtcmnmcholfellaaDoor
