/-
  Merging in place by halves (symMerge): the plain laws of its loops and of its end.
-/
import Derived.Test.YtcmnmcholfellaaDoorM3
namespace Go.Proofs.YtcmnmcholfellaaDoor

/-- A search by halves: what is before s goes on, what is from r on does not. -/
structure BS (G : Nat → Prop) (s0 r0 s r : Nat) : Prop where
  lo : s0 ≤ s
  mid : s ≤ r
  hi : r ≤ r0
  yes : ∀ x, s0 ≤ x → x < s → G x
  no : ∀ x, r ≤ x → x < r0 → ¬ G x

theorem bs_start (G : Nat → Prop) {s0 r0 : Nat} (h : s0 ≤ r0) : BS G s0 r0 s0 r0 := ⟨Nat.le_refl _, h, Nat.le_refl _, fun x _ _ => by omega, fun x _ _ => by omega⟩
theorem bs_yes {G : Nat → Prop} {s0 r0 s r c : Nat} (h : BS G s0 r0 s r) (hm : ∀ x y, s0 ≤ x → x ≤ y → y < r0 → G y → G x) (h1 : s ≤ c) (h2 : c < r) (hg : G c) : BS G s0 r0 (c + 1) r :=
  ⟨by have := h.lo; omega, by omega, h.hi, fun x hx1 hx2 => hm x c hx1 (by omega) (by have := h.hi; omega) hg, h.no⟩
theorem bs_no {G : Nat → Prop} {s0 r0 s r c : Nat} (h : BS G s0 r0 s r) (hm : ∀ x y, s0 ≤ x → x ≤ y → y < r0 → G y → G x) (h1 : s ≤ c) (h2 : c < r) (hg : ¬ G c) : BS G s0 r0 s c :=
  ⟨h.lo, h1, by have := h.hi; omega, h.yes, fun x hx1 hx2 hgx => hg (hm c x (by have := h.lo; omega) hx1 hx2 hgx)⟩

theorem SortedOn.le {l : List Pt} {a b x y : Nat} (h : SortedOn l a b) (h1 : a ≤ x) (h2 : x ≤ y) (h3 : y < b) : tm l x ≤ tm l y := by
  rcases Nat.lt_or_ge x y with c | c
  · exact h x y h1 c h3
  · obtain rfl : x = y := by omega
    exact Int.le_refl _

theorem SortedOn.sub {l : List Pt} {a b a' b' : Nat} (h : SortedOn l a b) (h1 : a ≤ a') (h2 : b' ≤ b) : SortedOn l a' b' := fun x y hx hxy hy => h x y (by omega) hxy (by omega)

/-- The three questions of the searches. -/
def G1 (l : List Pt) (a x : Nat) : Prop := tm l x < tm l a
def G2 (l : List Pt) (m x : Nat) : Prop := tm l x ≤ tm l m
def G3 (l : List Pt) (p x : Nat) : Prop := tm l x ≤ tm l (p - x)

theorem g1_mono {l : List Pt} {a m b : Nat} (h : SortedOn l m b) : ∀ x y, m ≤ x → x ≤ y → y < b → G1 l a y → G1 l a x := fun x y h1 h2 h3 hg => by
  have := h.le h1 h2 h3; unfold G1 at *; omega
theorem g2_mono {l : List Pt} {a m : Nat} (h : SortedOn l a m) : ∀ x y, a ≤ x → x ≤ y → y < m → G2 l m y → G2 l m x := fun x y h1 h2 h3 hg => by
  have := h.le h1 h2 h3; unfold G2 at *; omega
theorem g3_mono {l : List Pt} {a m b p s0 r0 : Nat} (h : SortedOn l a m) (k : SortedOn l m b) (h1 : a ≤ s0) (h2 : r0 ≤ m) (h3 : m + r0 ≤ p + 1) (h4 : p < b + s0) : ∀ x y, s0 ≤ x → x ≤ y → y < r0 → G3 l p y → G3 l p x := fun x y c1 c2 c3 hg => by
  have e1 := h.le (x := x) (y := y) (by omega) c2 (by omega)
  have e2 := k.le (x := p - y) (y := p - x) (by omega) (by omega) (by omega)
  unfold G3 at *; omega

theorem Ins.tm_pre {l l' : List Pt} {a b : Nat} (h : Ins l a b l') {k : Nat} (hk : k < a) : tm l' k = tm l k := by
  unfold tm; simp only [List.getD, h.pre k hk]
theorem Ins.tm_post {l l' : List Pt} {a b : Nat} (h : Ins l a b l') {k : Nat} (hk : b ≤ k) : tm l' k = tm l k := by
  unfold tm; simp only [List.getD, h.post k hk]

theorem exch_swp {l : List Pt} {k : Nat} (h1 : k < l.length) (h2 : k + 1 < l.length) : exch l k (k + 1) h1 h2 = swp l k h2 := by
  unfold exch swp; rw [List.set_comm _ _ (by omega)]

theorem swp_ins {l : List Pt} {a b k : Nat} (h2 : k + 1 < l.length) (ha : a ≤ k) (hb : k + 1 < b) (hne : tm l (k + 1) ≠ tm l k) : Ins l a b (swp l k h2) := by
  refine ⟨by simp [swp], alike_swap h2 (by rw [tm_eq h2, tm_eq (show k < l.length by omega)] at hne; exact hne), fun x hx => ?_, fun x hx => ?_⟩
  · unfold swp; rw [List.getElem?_set_ne (by omega), List.getElem?_set_ne (by omega)]
  · unfold swp; rw [List.getElem?_set_ne (by omega), List.getElem?_set_ne (by omega)]

/-- The point at a on its way up: it has come to k. -/
structure UpSt (l0 : List Pt) (a b k : Nat) (l : List Pt) : Prop where
  ins : Ins l0 a b l
  lo : a ≤ k
  down : ∀ x, a ≤ x → x < k → tm l x = tm l0 (x + 1)
  it : tm l k = tm l0 a
  rest : ∀ x, k < x → tm l x = tm l0 x

theorem up_start (l : List Pt) (a b : Nat) : UpSt l a b a l := ⟨Ins.refl _ _ _, Nat.le_refl _, fun x _ _ => by omega, rfl, fun _ _ => rfl⟩

theorem up_step {l0 l : List Pt} {a b i k : Nat} (h : UpSt l0 a b k l) (hk : k + 1 < i) (hib : i ≤ b) (hs : ∀ x, a + 1 ≤ x → x < i → tm l0 x < tm l0 a) (h2 : k + 1 < l.length) : UpSt l0 a b (k + 1) (swp l k h2) := by
  have hlo := h.lo
  have e1 := h.rest (k + 1) (by omega)
  have e2 := h.it
  have e3 := hs (k + 1) (by omega) hk
  refine ⟨h.ins.trans (swp_ins h2 hlo (by omega) (by omega)), by omega, fun x h3 h4 => ?_, ?_, fun x h3 => ?_⟩
  · rw [tm_swp]
    by_cases c : x = k
    · rw [if_pos c, e1, c]
    · rw [if_neg c, if_neg (by omega)]; exact h.down x h3 (by omega)
  · rw [tm_swp, if_neg (by omega), if_pos rfl, e2]
  · rw [tm_swp, if_neg (by omega), if_neg (by omega)]; exact h.rest x (by omega)

theorem up_end {l0 l : List Pt} {a b i : Nat} (h : UpSt l0 a b (i - 1) l) (hi : a + 1 ≤ i) (hib : i ≤ b) (hsrt : SortedOn l0 (a + 1) b) (hs : ∀ x, a + 1 ≤ x → x < i → tm l0 x < tm l0 a) (hn : ∀ x, i ≤ x → x < b → ¬ tm l0 x < tm l0 a) : Ins l0 a b l ∧ SortedOn l a b := by
  refine ⟨h.ins, fun x y h1 h2 h3 => ?_⟩
  rcases Nat.lt_trichotomy y (i - 1) with c | c | c
  · rw [h.down x h1 (by omega), h.down y (by omega) c]; exact hsrt _ _ (by omega) (by omega) (by omega)
  · subst c; rw [h.it, h.down x h1 h2]; have := hs (x + 1) (by omega) (by omega); omega
  · rw [h.rest y c]
    rcases Nat.lt_trichotomy x (i - 1) with d | d | d
    · rw [h.down x h1 d]; exact hsrt.le (by omega) (by omega) h3
    · subst d; rw [h.it]; have := hn y (by omega) h3; omega
    · rw [h.rest x d]; exact hsrt _ _ (by omega) h2 h3

/-- The point at m on its way down: it has come to k. -/
structure DownSt (l0 : List Pt) (a m k : Nat) (l : List Pt) : Prop where
  ins : Ins l0 a (m + 1) l
  hi : k ≤ m
  up : ∀ x, k < x → x ≤ m → tm l x = tm l0 (x - 1)
  it : tm l k = tm l0 m
  rest : ∀ x, x < k → tm l x = tm l0 x

theorem down_start (l : List Pt) (a m : Nat) : DownSt l a m m l := ⟨Ins.refl _ _ _, Nat.le_refl _, fun x _ _ => by omega, rfl, fun _ _ => rfl⟩

theorem down_step {l0 l : List Pt} {a m i k : Nat} (h : DownSt l0 a m (k + 1) l) (hk : i < k + 1) (hia : a ≤ i) (hs : ∀ x, i ≤ x → x < m → tm l0 m < tm l0 x) (h2 : k + 1 < l.length) : DownSt l0 a m k (swp l k h2) := by
  have hhi := h.hi
  have e1 := h.rest k (by omega)
  have e2 := h.it
  have e3 := hs k (by omega) (by omega)
  refine ⟨h.ins.trans (swp_ins h2 (by omega) (by omega) (by omega)), by omega, fun x h3 h4 => ?_, ?_, fun x h3 => ?_⟩
  · rw [tm_swp, if_neg (by omega)]
    by_cases c : x = k + 1
    · rw [if_pos c, e1, c]; rfl
    · rw [if_neg c]; exact h.up x (by omega) h4
  · rw [tm_swp, if_pos rfl, e2]
  · rw [tm_swp, if_neg (by omega), if_neg (by omega)]; exact h.rest x (by omega)

theorem down_end {l0 l : List Pt} {a m i : Nat} (h : DownSt l0 a m i l) (hi : a ≤ i) (him : i ≤ m) (hsrt : SortedOn l0 a m) (hs : ∀ x, i ≤ x → x < m → tm l0 m < tm l0 x) (hn : ∀ x, a ≤ x → x < i → tm l0 x ≤ tm l0 m) : Ins l0 a (m + 1) l ∧ SortedOn l a (m + 1) := by
  refine ⟨h.ins, fun x y h1 h2 h3 => ?_⟩
  rcases Nat.lt_trichotomy x i with c | c | c
  · rw [h.rest x c]
    rcases Nat.lt_trichotomy y i with d | d | d
    · rw [h.rest y d]; exact hsrt _ _ h1 h2 (by omega)
    · subst d; rw [h.it]; exact hn x h1 c
    · rw [h.up y d (by omega)]; exact hsrt.le h1 (by omega) (by omega)
  · subst c; rw [h.it, h.up y h2 (by omega)]; have := hs (y - 1) (by omega) (by omega); omega
  · rw [h.up x c (by omega), h.up y (by omega) (by omega)]; exact hsrt _ _ (by omega) (by omega) (by omega)

/-- What stands behind the search and the rotation: two halves, each of two sorted parts, the first half not behind the second one. -/
structure Halves (l0 : List Pt) (a s mid en b : Nat) (l : List Pt) : Prop where
  ins : Ins l0 a b l
  p1 : SortedOn l a s
  p2 : SortedOn l s mid
  p3 : SortedOn l mid en
  p4 : SortedOn l en b
  le : ∀ x y, a ≤ x → x < mid → mid ≤ y → y < b → tm l x ≤ tm l y

/-- The bounds of the search. -/
structure Bnd (a m b mid s0 r0 : Nat) : Prop where
  h1 : a ≤ s0
  h2 : s0 ≤ r0
  h3 : r0 ≤ m
  h4 : r0 ≤ mid
  h5 : mid + m ≤ b + s0
  e1 : s0 = a ∨ mid + m = b + s0
  e2 : r0 = m ∨ r0 = mid

theorem bnd_left {a m b : Nat} (_h1 : a < m) (h2 : m < b) (h : (a + b) / 2 < m) : Bnd a m b ((a + b) / 2) ((a + b) / 2 + m - b) ((a + b) / 2) :=
  ⟨by omega, by omega, by omega, by omega, by omega, by omega, by omega⟩
theorem bnd_right {a m b : Nat} (h1 : a < m) (_h2 : m < b) (h : ¬ (a + b) / 2 < m) : Bnd a m b ((a + b) / 2) a m :=
  ⟨by omega, by omega, by omega, by omega, by omega, by omega, by omega⟩

theorem halves_of {l0 l : List Pt} {a m b mid s0 r0 s : Nat} (hB : Bnd a m b mid s0 r0) (hm : a < m) (hmb : m < b) (hb : b ≤ l0.length) (hsl : SortedOn l0 a m) (hsr : SortedOn l0 m b)
    (hs : BS (G3 l0 (mid + m - 1)) s0 r0 s s) (hr : ByIx (rotIx s m (mid + m - s)) l0 l) : Halves l0 a s mid (mid + m - s) b l := by
  obtain ⟨b1, b2, b3, b4, b5, b6, b7⟩ := hB
  have c1 := hs.lo
  have c2 := hs.hi
  have hlt : ∀ x y, s ≤ x → x < m → m ≤ y → y < mid + m - s → tm l0 y < tm l0 x := fun x y h1 h2 h3 h4 => by
    have hsr0 : s < r0 := by rcases b7 with e | e <;> omega
    have hg := hs.no s (Nat.le_refl _) hsr0
    unfold G3 at hg
    have k1 := hsl.le (x := s) (y := x) (by omega) h1 h2
    have k2 := hsr.le (x := y) (y := mid + m - 1 - s) h3 (by omega) (by omega)
    omega
  have hle : ∀ x y, a ≤ x → x < s → mid + m - s ≤ y → y < b → tm l0 x ≤ tm l0 y := fun x y h1 h2 h3 h4 => by
    have hs0 : s0 < s := by rcases b6 with e | e <;> omega
    have hg := hs.yes (s - 1) (by omega) (by omega)
    unfold G3 at hg
    have k1 := hsl.le (x := x) (y := s - 1) (by omega) (by omega) (by omega)
    have k2 := hsr.le (x := mid + m - 1 - (s - 1)) (y := y) (by omega) (by omega) h4
    omega
  have t1 : ∀ x, x < s → tm l x = tm l0 x := fun x hx => by rw [hr.tm]; unfold rotIx; rw [if_neg (by omega), if_neg (by omega)]
  have t2 : ∀ x, s ≤ x → x < mid → tm l x = tm l0 (x + (m - s)) := fun x hx hx2 => by rw [hr.tm]; unfold rotIx; rw [if_pos (by omega)]
  have t3 : ∀ x, mid ≤ x → x < mid + m - s → tm l x = tm l0 (x - (mid - s)) := fun x hx hx2 => by rw [hr.tm]; unfold rotIx; rw [if_neg (by omega), if_pos (by omega)]; congr 1; omega
  have t4 : ∀ x, mid + m - s ≤ x → tm l x = tm l0 x := fun x hx => by rw [hr.tm]; unfold rotIx; rw [if_neg (by omega), if_neg (by omega)]
  refine ⟨rot_ins hr (by omega) (by omega) (by omega) (by omega) (by omega) hlt, fun x y h1 h2 h3 => ?_, fun x y h1 h2 h3 => ?_, fun x y h1 h2 h3 => ?_, fun x y h1 h2 h3 => ?_, fun x y h1 h2 h3 h4 => ?_⟩
  · rw [t1 x (by omega), t1 y h3]; exact hsl x y h1 h2 (by omega)
  · rw [t2 x h1 (by omega), t2 y (by omega) h3]; exact hsr _ _ (by omega) (by omega) (by omega)
  · rw [t3 x h1 (by omega), t3 y (by omega) h3]; exact hsl _ _ (by omega) (by omega) (by omega)
  · rw [t4 x h1, t4 y (by omega)]; exact hsr _ _ (by omega) (by omega) (by omega)
  · rcases Nat.lt_or_ge x s with d | d
    · rw [t1 x d]
      rcases Nat.lt_or_ge y (mid + m - s) with f | f
      · rw [t3 y h3 f]; exact hsl.le h1 (by omega) (by omega)
      · rw [t4 y f]; exact hle x y h1 d f h4
    · rw [t2 x d h2]
      rcases Nat.lt_or_ge y (mid + m - s) with f | f
      · rw [t3 y h3 f]; exact Int.le_of_lt (hlt _ _ (by omega) (by omega) (by omega) (by omega))
      · rw [t4 y f]; exact hsr.le (by omega) (by omega) (by omega)

theorem rotIx_none {l : List Pt} {s m e : Nat} (h : ¬ (s < m ∧ m < e)) (h1 : s ≤ m) (h2 : m ≤ e) : ByIx (rotIx s m e) l l := by
  refine ⟨rfl, fun k => ?_⟩
  congr 1
  unfold rotIx
  split
  · omega
  · split <;> omega

/-- The first half sorted. -/
theorem halves_first {l0 l l1 : List Pt} {a s mid en b : Nat} (h : Halves l0 a s mid en b l) (h1 : a ≤ s) (h2 : s ≤ mid) (h3 : mid ≤ en) (h4 : en ≤ b) (hb : b ≤ l0.length) (hi : Ins l a mid l1) (hs : SortedOn l1 a mid) :
    Ins l0 a b l1 ∧ SortedOn l1 a mid ∧ SortedOn l1 mid en ∧ SortedOn l1 en b ∧ (∀ x y, a ≤ x → x < mid → mid ≤ y → y < b → tm l1 x ≤ tm l1 y) := by
  refine ⟨h.ins.trans (hi.wider (Nat.le_refl _) (by omega)), hs, fun x y c1 c2 c3 => ?_, fun x y c1 c2 c3 => ?_, fun x y c1 c2 c3 c4 => ?_⟩
  · rw [hi.tm_post c1, hi.tm_post (by omega)]; exact h.p3 x y c1 c2 c3
  · rw [hi.tm_post (by omega), hi.tm_post (by omega)]; exact h.p4 x y c1 c2 c3
  · obtain ⟨z, z1, z2, z3⟩ := hi.times (by omega) (by rw [h.ins.len]; omega) c1 c2
    rw [← z3, hi.tm_post c3]; exact h.le z y z1 z2 c3 c4

/-- The second half sorted, too. -/
theorem halves_second {l0 l1 l2 : List Pt} {a mid b : Nat} (h : Ins l0 a b l1) (hs1 : SortedOn l1 a mid) (hle : ∀ x y, a ≤ x → x < mid → mid ≤ y → y < b → tm l1 x ≤ tm l1 y) (h1 : a ≤ mid) (h2 : mid ≤ b) (hb : b ≤ l0.length) (hi : Ins l1 mid b l2) (hs : SortedOn l2 mid b) :
    Ins l0 a b l2 ∧ SortedOn l2 a b := by
  refine ⟨h.trans (hi.wider h1 (Nat.le_refl _)), fun x y c1 c2 c3 => ?_⟩
  rcases Nat.lt_or_ge x mid with d | d
  · rw [hi.tm_pre d]
    rcases Nat.lt_or_ge y mid with f | f
    · rw [hi.tm_pre f]; exact hs1 x y c1 c2 f
    · obtain ⟨z, z1, z2, z3⟩ := hi.times h2 (by rw [h.len]; omega) f c3
      rw [← z3]; exact hle x z c1 d z1 z2
  · exact hs x y d c2 c3
end Go.Proofs.YtcmnmcholfellaaDoor
