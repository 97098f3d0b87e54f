/-
  Maps that only grow: entries in the order in which they came; what looking up, entering and storing do.
-/
import Derived.Test.YtcmnmcholfellaaDoorR0
import Derived.Test.YtcmnmcholfellaaDoorEq
import Derived.MapKept
namespace Go.Proofs.YtcmnmcholfellaaDoor
open Go.RowKit

section
set_option linter.unusedSectionVars false
variable {P : Program} {κ : Type} [DecidableEq κ]

theorem gobj {w : World} {b : Nat} {es : Array MapEntry} {c : Nat} (hm : w.heap[b]? = some (.map es c)) : (getObj b).run P w = .ok (.map es c) w := Go.MapKept.run_getObj_map hm
theorem sobj {w : World} {b : Nat} {es : Array MapEntry} {c : Nat} (o : Obj) (hm : w.heap[b]? = some (.map es c)) : (setObj b o).run P w = .ok () { w with heap := w.heap.setIfInBounds b o } := Go.MapKept.run_setObj_map o hm

/-- The place and the value of a key. -/
def fnd (k : κ) : List (κ × Value) → Nat → Option (Nat × Value)
  | [], _ => none
  | x :: r, i => if k = x.1 then some (i, x.2) else fnd k r (i + 1)

/-- The entries of a map, the first with birth number i. -/
def ents (ek : κ → Value) : Nat → List (κ × Value) → List MapEntry
  | _, [] => []
  | i, x :: r => ⟨ek x.1, x.2, i⟩ :: ents ek (i + 1) r

theorem ents_length (ek : κ → Value) : ∀ (l : List (κ × Value)) (i : Nat), (ents ek i l).length = l.length
  | [], _ => rfl
  | x :: r, i => by simp [ents, ents_length ek r]

theorem ents_get (ek : κ → Value) : ∀ (l : List (κ × Value)) (i j : Nat), (ents ek i l)[j]? = (l[j]?).map fun x => ⟨ek x.1, x.2, i + j⟩
  | [], _, _ => by simp [ents]
  | x :: r, i, 0 => by simp [ents]
  | x :: r, i, j + 1 => by
    simp only [ents, List.getElem?_cons_succ, ents_get ek r (i + 1) j]
    rw [show i + 1 + j = i + (j + 1) by omega]

theorem ents_append (ek : κ → Value) : ∀ (l m : List (κ × Value)) (i : Nat), ents ek i (l ++ m) = ents ek i l ++ ents ek (i + l.length) m
  | [], m, i => by simp [ents]
  | x :: r, m, i => by
    simp only [List.cons_append, ents, ents_append ek r m (i + 1), List.length_cons]
    rw [show i + 1 + r.length = i + (r.length + 1) by omega]

/-- What a type of keys can do. -/
structure KeyOk (P : Program) (KT : TypeId) (ek : κ → Value) : Prop where
  check : ∀ (w : World) (em : Bool) (k : κ), (Instr.checkKey em 10000 KT (ek k)).run P w = .ok () w
  find : ∀ (w : World) (k : κ) (l : List (κ × Value)), (Instr.findKey KT (ek k) (ents ek 0 l)).run P w = .ok (fnd k l 0) w
  stays : ∀ (w : World) (k : κ), (Instr.keyThatStays (ek k) (ek k)).run P w = .ok (ek k) w

/-- Keys that are compared by '=='. -/
theorem find_asking {KT : TypeId} {ek : κ → Value} (heq : ∀ (w : World) (a b : κ), (Op.equal KT (ek a) (ek b)).run P w = .ok (decide (a = b)) w) (w : World) (k : κ) :
    ∀ (l : List (κ × Value)) (i j : Nat), (Instr.findAsking KT (ek k) (ents ek j l) i).run P w = .ok (fnd k l i) w
  | [], i, j => by simp [ents, Instr.findAsking, fnd]
  | x :: r, i, j => by
    simp only [ents, Instr.findAsking, fnd, Sem.run_bind, heq, Result.andThen_ok]
    by_cases h : k = x.1
    · simp [h]
    · simp [h, find_asking heq w k r (i + 1) (j + 1)]

/-- A map in memory. -/
def MapAt (ek : κ → Value) (w : World) (b : Nat) (l : List (κ × Value)) : Prop := w.heap[b]? = some (.map (ents ek 0 l).toArray l.length)

def getV (l : List (κ × Value)) (k : κ) (z : Value) : Value := match fnd k l 0 with | some (_, v) => v | none => z
def hasK (l : List (κ × Value)) (k : κ) : Bool := (fnd k l 0).isSome
def idxK (l : List (κ × Value)) (k : κ) : Nat := match fnd k l 0 with | some (i, _) => i | none => l.length
def addK (l : List (κ × Value)) (k : κ) (z : Value) : List (κ × Value) := match fnd k l 0 with | some _ => l | none => l ++ [(k, z)]
def setV (l : List (κ × Value)) (i : Nat) (v : Value) : List (κ × Value) := l.modify i fun x => (x.1, v)

variable {KT MT ET : TypeId} {ek : κ → Value} {z : Value}

theorem lookup_run (hK : KeyOk P KT ek) (hu : P.underlying MT = some (.map KT ET)) (hz : ∀ w, (zeroValue ET).run P w = .ok z w) {w : World} {b : Nat} {l : List (κ × Value)} (hm : MapAt ek w b l) (k : κ) (c : Bool) :
    (Instr.lookup MT (.map (some b)) (ek k) c).run P w = .ok (if c then .tuple #[getV l k z, .bool (hasK l k)] else getV l k z) w := by
  unfold Instr.lookup getV hasK
  simp only [Sem.run_bind, run_underlying hu, Result.andThen_ok, gobj hm, Sem.run_pure, hK.check, hK.find]
  cases h : fnd k l 0 with
  | none => cases c <;> simp [hz]
  | some x => cases c <;> simp

theorem fnd_lt : ∀ (l : List (κ × Value)) (k : κ) (i j : Nat) (v : Value), fnd k l i = some (j, v) → ∃ m, j = i + m ∧ l[m]? = some (k, v)
  | [], _, _, _, _, h => by cases h
  | x :: r, k, i, j, v, h => by
    rw [fnd] at h
    split at h
    · rename_i e
      injection h with h
      injection h with h1 h2
      subst h1; subst h2
      exact ⟨0, rfl, by rw [e]; rfl⟩
    · obtain ⟨m, h1, h2⟩ := fnd_lt r k (i + 1) j v h
      exact ⟨m + 1, by omega, by simpa using h2⟩

theorem size_set (w : World) (b : Nat) (o : Obj) : ({ w with heap := w.heap.setIfInBounds b o } : World).heap.size = w.heap.size := by simp

theorem grown_set (w : World) (b : Nat) (o : Obj) : w.grownBy { w with heap := w.heap.setIfInBounds b o } (some b) :=
  ⟨rfl, rfl, rfl, by simp, fun k _ hk => by
    have : b ≠ k := fun e => hk (by rw [e])
    simp [this]⟩

theorem heap_set {w : World} {b : Nat} {o o' : Obj} (h : w.heap[b]? = some o') : ({ w with heap := w.heap.setIfInBounds b o } : World).heap[b]? = some o := by
  have hb : b < w.heap.size := (Array.getElem?_eq_some_iff.1 h).1
  simp [hb]

theorem modify_same {α : Type} : ∀ (l : List α) (i : Nat) (f : α → α), (∀ x, l[i]? = some x → f x = x) → l.modify i f = l
  | [], _, _, _ => by simp
  | x :: r, 0, f, h => by simp [h x rfl]
  | x :: r, i + 1, f, h => by simp [modify_same r i f (fun y hy => h y (by simpa using hy))]

/-- A key entered, if it was not there. -/
theorem mapEntry_run (hK : KeyOk P KT ek) (hu : P.underlying MT = some (.map KT ET)) (hz : ∀ w, (zeroValue ET).run P w = .ok z w) {w : World} {b : Nat} {l : List (κ × Value)} (hm : MapAt ek w b l) (k : κ) :
    ∃ w', (Instr.mapEntry MT (.map (some b)) (ek k)).run P w = .ok (.tuple #[getV l k z, goInt (idxK l k)]) w' ∧ MapAt ek w' b (addK l k z) ∧ w.grownBy w' (some b) ∧ w'.heap.size = w.heap.size := by
  unfold Instr.mapEntry getV idxK addK
  simp only [Sem.run_bind, run_underlying hu, Result.andThen_ok, gobj hm, hK.check, hK.find]
  cases h : fnd k l 0 with
  | none =>
    refine ⟨{ w with heap := w.heap.setIfInBounds b (.map (ents ek 0 (l ++ [(k, z)])).toArray (l ++ [(k, z)]).length) }, ?_, heap_set hm, grown_set _ _ _, size_set _ _ _⟩
    simp only [Sem.run_bind, hz, Result.andThen_ok, sobj _ hm, Sem.run_pure]
    rw [ents_append, List.length_append]
    simp [ents]
  | some x =>
    obtain ⟨j, v⟩ := x
    obtain ⟨m, hj, hl⟩ := fnd_lt l k 0 j v h
    obtain rfl : j = m := by omega
    have hent : (ents ek 0 l)[j]? = some ⟨ek k, v, j⟩ := by rw [ents_get, hl]; simp
    have hmod : ((ents ek 0 l).modify j fun e => { e with key := ek k }) = ents ek 0 l := modify_same _ _ _ (fun y hy => by
      rw [hent] at hy; injection hy with hy; subst hy; rfl)
    refine ⟨{ w with heap := w.heap.setIfInBounds b (.map (ents ek 0 l).toArray l.length) }, ?_, heap_set hm, grown_set _ _ _, size_set _ _ _⟩
    simp only [Sem.run_bind, List.getElem?_toArray, hent, Option.map_some, Option.getD_some, hK.stays, Result.andThen_ok, sobj _ hm, Sem.run_pure]
    simp [hmod]

theorem findIdx_ents (ek : κ → Value) : ∀ (l : List (κ × Value)) (i j : Nat), j < l.length → (ents ek i l).findIdx? (fun e => ((e.born : Nat) : Int) == ((i + j : Nat) : Int)) = some j
  | [], _, _, h => by simp at h
  | x :: r, i, 0, _ => by simp [ents, List.findIdx?_cons]
  | x :: r, i, j + 1, h => by
    have hne : (((i : Nat) : Int) == ((i + (j + 1) : Nat) : Int)) = false := by rw [beq_eq_false_iff_ne]; omega
    simp only [ents, List.findIdx?_cons, hne]
    have ih := findIdx_ents ek r (i + 1) j (by simpa using h)
    rw [show i + 1 + j = i + (j + 1) by omega] at ih
    rw [ih]; rfl

theorem ents_modify (ek : κ → Value) (v : Value) : ∀ (l : List (κ × Value)) (i j : Nat), ((ents ek i l).modify j fun e => { e with val := v }) = ents ek i (setV l j v)
  | [], _, _ => by simp [ents, setV]
  | x :: r, i, 0 => by simp [ents, setV]
  | x :: r, i, j + 1 => by
    have ih := ents_modify ek v r (i + 1) j
    unfold setV at ih ⊢
    simp [ents, ih]

/-- A value stored at an entry. -/
theorem entryStore_run {w : World} {b : Nat} {l : List (κ × Value)} (hm : MapAt ek w b l) {i : Nat} (hi : i < l.length) (v : Value) :
    ∃ w', (Instr.entryStore MT (.map (some b)) (goInt i) v).run P w = .ok () w' ∧ MapAt ek w' b (setV l i v) ∧ w.grownBy w' (some b) ∧ w'.heap.size = w.heap.size := by
  have hf := findIdx_ents ek l 0 i hi
  rw [Nat.zero_add] at hf
  refine ⟨{ w with heap := w.heap.setIfInBounds b (.map (ents ek 0 (setV l i v)).toArray (setV l i v).length) }, ?_, heap_set hm, grown_set _ _ _, size_set _ _ _⟩
  unfold Instr.entryStore
  simp only [Sem.run_bind, gobj hm, Result.andThen_ok, goInt, asInt, asIntOf, Sem.run_pure, List.findIdx?_toArray, hf, sobj _ hm]
  have e : (setV l i v).length = l.length := by simp [setV]
  rw [← ents_modify, e]
  simp
end
end Go.Proofs.YtcmnmcholfellaaDoor
