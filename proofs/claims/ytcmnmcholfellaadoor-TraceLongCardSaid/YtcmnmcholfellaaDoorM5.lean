/-
  Sorting in runs of a length: the plain laws of the stable sort's outer loops.
-/
import Derived.Test.YtcmnmcholfellaaDoorM4
namespace Go.Proofs.YtcmnmcholfellaaDoor

/-- The runs of so many points, up to n, are sorted. -/
def Runs (l : List Pt) (bs n : Nat) : Prop := ∀ q, SortedOn l (q * bs) (min (q * bs + bs) n)

/-- The first q runs are sorted; nothing behind them has changed. -/
structure RunSt (l1 : List Pt) (bs q : Nat) (l : List Pt) : Prop where
  ins : Ins l1 0 (q * bs) l
  srt : ∀ r, r < q → SortedOn l (r * bs) (r * bs + bs)

theorem run_start (l : List Pt) (bs : Nat) : RunSt l bs 0 l := ⟨Ins.refl _ _ _, fun r h => by omega⟩

theorem run_step {l1 l l' : List Pt} {bs q : Nat} (h : RunSt l1 bs q l) (hi : Ins l (q * bs) (q * bs + bs) l') (hs : SortedOn l' (q * bs) (q * bs + bs)) : RunSt l1 bs (q + 1) l' := by
  have e : (q + 1) * bs = q * bs + bs := Nat.succ_mul _ _
  refine ⟨?_, fun r hr => ?_⟩
  · rw [e]; exact (h.ins.wider (Nat.le_refl _) (by omega)).trans (hi.wider (Nat.zero_le _) (Nat.le_refl _))
  · by_cases c : r = q
    · subst c; exact hs
    · have hm : r * bs + bs ≤ q * bs := by
        have := Nat.mul_le_mul_right bs (show r + 1 ≤ q by omega)
        rwa [Nat.succ_mul] at this
      intro x y h1 h2 h3
      rw [hi.tm_pre (by omega), hi.tm_pre (by omega)]
      exact h.srt r (by omega) x y h1 h2 h3

theorem run_end {l1 l l' : List Pt} {bs q n : Nat} (h : RunSt l1 bs q l) (h1 : q * bs ≤ n) (h2 : n < q * bs + bs) (hi : Ins l (q * bs) n l') (hs : SortedOn l' (q * bs) n) : Ins l1 0 n l' ∧ Runs l' bs n := by
  refine ⟨(h.ins.wider (Nat.le_refl _) h1).trans (hi.wider (Nat.zero_le _) (Nat.le_refl _)), fun r => ?_⟩
  rcases Nat.lt_trichotomy r q with c | c | c
  · have hm : r * bs + bs ≤ q * bs := by
      have := Nat.mul_le_mul_right bs (show r + 1 ≤ q by omega)
      rwa [Nat.succ_mul] at this
    intro x y k1 k2 k3
    rw [hi.tm_pre (by omega), hi.tm_pre (by omega)]
    exact h.srt r c x y k1 k2 (by omega)
  · subst c; exact hs.sub (Nat.le_refl _) (by omega)
  · have hm : q * bs + bs ≤ r * bs := by
      have := Nat.mul_le_mul_right bs (show q + 1 ≤ r by omega)
      rwa [Nat.succ_mul] at this
    intro x y k1 k2 k3
    omega

/-- Two neighbouring runs, not touched yet. -/
theorem run_pair {l1 l : List Pt} {bs q n : Nat} (hr : Runs l1 bs n) (h : RunSt l1 (bs + bs) q l) : SortedOn l (q * (bs + bs)) (min (q * (bs + bs) + bs) n) ∧ SortedOn l (q * (bs + bs) + bs) (min (q * (bs + bs) + (bs + bs)) n) := by
  have e0 : 2 * q * bs = q * (bs + bs) := by rw [Nat.mul_comm 2 q, Nat.mul_assoc, Nat.two_mul]
  have e1 : (2 * q + 1) * bs = q * (bs + bs) + bs := by rw [Nat.succ_mul, e0]
  have r0 := hr (2 * q)
  have r1 := hr (2 * q + 1)
  rw [e0] at r0
  rw [e1] at r1
  refine ⟨fun x y k1 k2 k3 => ?_, fun x y k1 k2 k3 => ?_⟩
  · rw [h.ins.tm_post (by omega), h.ins.tm_post (by omega)]; exact r0 x y k1 k2 k3
  · rw [h.ins.tm_post (by omega), h.ins.tm_post (by omega)]; exact r1 x y k1 k2 (by omega)

theorem runs_all {l : List Pt} {bs n : Nat} (h : Runs l bs n) (hb : n ≤ bs) : SortedOn l 0 n := by
  have := h 0
  rw [Nat.zero_mul] at this
  exact this.sub (Nat.le_refl _) (by omega)
end Go.Proofs.YtcmnmcholfellaaDoor
