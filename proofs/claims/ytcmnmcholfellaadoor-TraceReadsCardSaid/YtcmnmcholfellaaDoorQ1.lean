/-
  Contracts: Split, Cut, ParseInt, at this program; what they read of the library's variables.
-/
import Derived.Test.YtcmnmcholfellaaDoorQ0
import Derived.Test.YtcmnmcholfellaaDoorShelfB
import Derived.Lib.SplitLaws
import Derived.Lib.AtoiErrMem
namespace Go.Proofs.YtcmnmcholfellaaDoor
open Go.RowKit

/-- What the library's variables hold. -/
structure Env (w : World) : Prop where
  tab : Tab w
  len : ∃ m, w.cell? ⟨0, 0, none⟩ = some (.int .i64 m)
  syn : ∃ t p, w.cell? ⟨2, 0, none⟩ = some (.iface t p)
  rng : ∃ t p, w.cell? ⟨3, 0, none⟩ = some (.iface t p)

theorem Env.below {w w' : World} (h : Env w) (hb : Below w.heap.size w w') : Env w' := by
  obtain ⟨m, hm⟩ := h.len
  obtain ⟨t, p, hs⟩ := h.syn
  obtain ⟨t', p', hr⟩ := h.rng
  exact ⟨h.tab.below hb, ⟨m, below_cell hb hm⟩, ⟨t, p, below_cell hb hs⟩, ⟨t', p', below_cell hb hr⟩⟩

theorem parseInt_yes (s : ByteArray) (hs : s.size ≤ 1000000) (h : okI s.data.toList) (w : World) :
    Calls Tryd.prog 74 #[.string s, .int .i64 10, .int .i64 64] w fun e w' => e = .returned (.tuple #[.int .i64 (valI s.data.toList), .nilIface]) ∧ Below w.heap.size w w' := by
  refine (Tryd.strconv_ParseInt_10_at64_ok s (by omega) _ h w).mono fun e w' ⟨he, hw⟩ => ⟨he, ?_⟩
  rcases hw with rfl | ⟨t, rfl⟩
  · exact Below.refl _ _
  · exact Lib.bytesWorld_below _ _ _

def ErrPost (w : World) (e : Ending) (w' : World) : Prop := ∃ n t p, e = .returned (.tuple #[.int .i64 n, .iface t p]) ∧ Below w.heap.size w w'

theorem parseInt_no (s : ByteArray) (hs : s.size ≤ 1000000) (h : ¬ okI s.data.toList) (w : World) (hE : Env w) :
    Calls Tryd.prog 74 #[.string s, .int .i64 10, .int .i64 64] w (ErrPost w) := by
  cases hp : Lib.parseIntB 64 s.data.toList
  · exact absurd (okI_of hp).1 h
  · obtain ⟨t, p, hv⟩ := hE.syn
    refine (Any.strconv_ParseInt_10_at64_syntax Tryd.laysC174 s (by omega) hp (.iface t p) w hv (Or.inr ⟨t, p, rfl⟩)).mono fun e w' ⟨N, he, _, _, hb⟩ => ⟨_, _, _, he, hb⟩
  · obtain ⟨t, p, hv⟩ := hE.rng
    refine (Any.strconv_ParseInt_10_at64_range Tryd.laysC174 s (by omega) hp (.iface t p) w hv (Or.inr ⟨t, p, rfl⟩)).mono fun e w' ⟨N, he, _, _, hb⟩ => ⟨_, _, _, he, hb⟩

/-- The words of a text. -/
def wordsB (s : ByteArray) : List ByteArray := Lib.splitB sp 0 (Lib.countB s sp) s

theorem wordsB_data (s : ByteArray) : (wordsB s).map (·.data.toList) = spl 32 s.data.toList := splitB_spl 32 s
theorem wordsB_length (s : ByteArray) : (wordsB s).length = Lib.countB s sp + 1 := Lib.splitB_all sp (by decide) 0 _ s rfl

theorem spl_size (c : UInt8) : ∀ (s : List UInt8) (x : List UInt8), x ∈ spl c s → x.length ≤ s.length
  | [], x, h => by simp [spl] at h; subst h; exact Nat.le_refl _
  | b :: r, x, h => by
    rw [spl] at h
    split at h
    · rcases List.mem_cons.1 h with e | e
      · subst e; simp
      · have := spl_size c r x e; simp; omega
    · rcases List.mem_cons.1 h with e | e
      · subst e
        cases hs : spl c r with
        | nil => simp
        | cons y t =>
          have := spl_size c r y (by rw [hs]; exact List.mem_cons_self ..)
          simp; omega
      · have := spl_size c r x (List.mem_of_mem_tail e); simp; omega

theorem wordsB_size {s w : ByteArray} (h : w ∈ wordsB s) : w.size ≤ s.size := by
  have := spl_size 32 s.data.toList w.data.toList (by rw [← wordsB_data]; exact List.mem_map.2 ⟨w, h, rfl⟩)
  exact this

theorem spl_length (c : UInt8) : ∀ s : List UInt8, (spl c s).length ≤ s.length + 1
  | [] => Nat.le_refl _
  | b :: r => by
    have := spl_length c r
    rw [spl]; split
    · simp; omega
    · simp; omega

theorem wordsB_few (s : ByteArray) : (wordsB s).length ≤ s.size + 1 := by
  have := spl_length 32 s.data.toList
  rw [← wordsB_data, List.length_map] at this
  exact this

theorem split_any (s : ByteArray) (hs : s.size ≤ 1000000) (w : World) (hE : Env w) :
    Calls Tryd.prog 73 #[.string s, .string ⟨#[32]⟩] w fun e w' => e = .returned (.slice (some ⟨w.heap.size, 0, none⟩) (wordsB s).length (wordsB s).length) ∧ w' = w.alloc (.cells ((wordsB s).map Value.string).toArray 9) := by
  obtain ⟨m, hm⟩ := hE.len
  rw [wordsB_length]
  exact Tryd.strings_Split s sp m w (by omega) hm (by decide)

theorem cut_any (s : ByteArray) (hs : s.size ≤ 1000000) (w : World) (hE : Env w) :
    Calls Tryd.prog 54 #[.string s, .string ⟨#[10]⟩] w fun e w' => e = .returned (.tuple #[.string ⟨(Lib.cut s.data.toList [10]).1.toArray⟩, .string ⟨(Lib.cut s.data.toList [10]).2.1.toArray⟩, .bool (Lib.cut s.data.toList [10]).2.2]) ∧ Below w.heap.size w w' := by
  obtain ⟨m, hm⟩ := hE.len
  refine (Tryd.strings_Cut s nl m w (by omega) hm).mono fun e w' ⟨he, n, hw⟩ => ⟨he, ?_⟩
  subst hw
  exact below_drewN (Below.refl _ _) n
end Go.Proofs.YtcmnmcholfellaaDoor
