/-
  Data in memory stays where a root's block is written.
-/
import Derived.Test.YtkhpajneinmmiaaGreatDoorQSXCP
import Derived.Test.YtkhpajneinmmiaaGreatDoorQDM
namespace Go.Proofs.YtkhpajneinmmiaaGreatDoor
open Go.RowKit
def El (cs : List Value) : Prop := 3 ≤ cs.length ∨ ∃ n s, cs = [.int .i64 n, .string s]
def Bes2 (b : Nat) (w w' : World) : Prop := (∃ A n c y T fr, w.heap[b]? = some (.cells #[.slice A n c, y] T fr)) ∧ ∀ q, q ≠ b → q < w.heap.size → w'.heap[q]? = w.heap[q]?
theorem range_bes2 {b : Nat} {w w' : World} (hb : Bes2 b w w') {q o : Nat} {cs : List Value} (h2 : El cs) (h : w.rangeAt q o cs) : w'.rangeAt q o cs := by
 have hne : q ≠ b := fun e => by
  subst e
  obtain ⟨⟨A, n, c, y, T, fr, hx⟩, _⟩ := hb
  rcases h2 with h3 | ⟨m, s, rfl⟩
  ·have h1 := h 2 _ (List.getElem?_eq_getElem (by omega))
   rw [cell_of_row _ _ _ _ _ _ hx] at h1
   have := (Array.getElem?_eq_some_iff.1 h1).1
   simp at this
   omega
  ·have h0 := h 0 _ rfl
   have h1 := h 1 _ rfl
   rw [cell_of_row _ _ _ _ _ _ hx] at h0 h1
   have h3 := (Array.getElem?_eq_some_iff.1 h1).1
   simp at h3
   obtain rfl : o = 0 := by omega
   simp at h0
 intro j u hj
 have h0 := h j u hj
 rw [World.cell?_of_block (w := w) (w' := w') (a := ⟨q, o + j, none⟩) (hb.2 q hne (lt_of_cell h0))]
 exact h0
theorem RowsR.bes2 {α : Type} {k bytes : Nat} {at_ at' : α → List Value → Prop} {b : Nat} {w w' : World} {A : Option Addr} {l : List α} (h : RowsR k bytes at_ w A l) (ha : ∀ x ∈ l, ∀ cs, at_ x cs → at' x cs ∧ El cs) (hb : Bes2 b w w') : RowsR k bytes at' w' A l := by
 refine ⟨h.1, fun hn => ?_⟩
 obtain ⟨q, o, e, hi⟩ := h.2 hn
 refine ⟨q, o, e, fun i x hx => ?_⟩
 obtain ⟨cs, h1, h2⟩ := hi i x hx
 have h3 := ha x (List.mem_of_getElem? hx) cs h1
 exact ⟨cs, h3.1, range_bes2 hb h3.2 h2⟩
theorem RawsR.bes2 {b : Nat} {w w' : World} {A : Option Addr} {l : List RawD} (h : RawsR w A l) (hb : Bes2 b w w') : RawsR w' A l := RowsR.bes2 h (fun _ _ _ h => ⟨h, .inr ⟨_, _, h.2⟩⟩) hb
theorem SymsR.bes2 {b : Nat} {w w' : World} {A : Option Addr} {l : List SymD} (h : SymsR w A l) (hb : Bes2 b w w') : SymsR w' A l := RowsR.bes2 h (fun _ _ _ h => ⟨h, .inr ⟨_, _, h.2⟩⟩) hb
theorem Val.at_el {w : World} {x : Val} {cs : List Value} (h : x.At w cs) : El cs := by
 obtain ⟨A1, c1, A2, c2, A3, c3, rfl, _⟩ := Val.at_iff.1 h
 exact .inl (by simp)
mutual
theorem Val.at_bes2 {b : Nat} {w w' : World} (hb : Bes2 b w w') : ∀ (x : Val) (cs : List Value), x.At w cs → x.At w' cs
 | .mk k b' i s d ks is r, cs, h => by
  rw [Val.At] at h ⊢
  obtain ⟨h0, A1, c1, A2, c2, A3, c3, e, ⟨l1, h1⟩, ⟨l2, h2⟩, h3⟩ := h
  refine ⟨h0, A1, c1, A2, c2, A3, c3, e, ⟨l1, fun hn => ?_⟩, ⟨l2, fun hn => ?_⟩, h3.bes2 hb⟩
  ·obtain ⟨q, o, e, hi⟩ := h1 hn
   exact ⟨q, o, e, Val.in_bes2 hb ks q o hi⟩
  ·obtain ⟨q, o, e, hi⟩ := h2 hn
   exact ⟨q, o, e, Val.in_bes2 hb is q o hi⟩
theorem Val.in_bes2 {b : Nat} {w w' : World} (hb : Bes2 b w w') : ∀ (l : List Val) (q o : Nat), Val.In w l q o → Val.In w' l q o
 | [], _, _, _ => by rw [Val.In]; trivial
 | v :: l, q, o, h => by
  rw [Val.In] at h ⊢
  obtain ⟨⟨cs, h1, h2⟩, h3⟩ := h
  exact ⟨⟨cs, Val.at_bes2 hb v cs h1, range_bes2 hb (Val.at_el h1) h2⟩, Val.in_bes2 hb l q (o + 8) h3⟩
end
theorem ValsR.bes2 {b : Nat} {w w' : World} {A : Option Addr} {l : List Val} (h : ValsR w A l) (hb : Bes2 b w w') : ValsR w' A l :=
 RowsR.bes2 h (fun x _ cs h => ⟨Val.at_bes2 hb x cs h, Val.at_el h⟩) hb
theorem ValR.bes2 {b : Nat} {w w' : World} {x : Val} {A1 A2 A3 : Option Addr} (h : ValR w x A1 A2 A3) (hb : Bes2 b w w') : ValR w' x A1 A2 A3 :=
 ⟨h.str, h.keys.bes2 hb, h.items.bes2 hb, h.rest.bes2 hb⟩
theorem MemR.bes2 {b : Nat} {w w' : World} {x : MemD} {A1 A2 A3 : Option Addr} (h : MemR w x A1 A2 A3) (hb : Bes2 b w w') : MemR w' x A1 A2 A3 := ⟨h.name, h.dflt.bes2 hb⟩
theorem MemsR.bes2 {b : Nat} {w w' : World} {A : Option Addr} {l : List MemD} (h : MemsR w A l) (hb : Bes2 b w w') : MemsR w' A l :=
 RowsR.bes2 h (fun _ _ _ ⟨A1, c1, A2, c2, A3, c3, e, h⟩ => ⟨⟨A1, c1, A2, c2, A3, c3, e, h.bes2 hb⟩, by rw [e]; exact .inl (by simp)⟩) hb
theorem TyR.bes2 {b : Nat} {w w' : World} {x : TyD} {A1 A2 : Option Addr} (h : TyR w x A1 A2) (hb : Bes2 b w w') : TyR w' x A1 A2 := ⟨h.name, h.syms.bes2 hb, h.mems.bes2 hb⟩
theorem TysR.bes2 {b : Nat} {w w' : World} {A : Option Addr} {l : List TyD} (h : TysR w A l) (hb : Bes2 b w w') : TysR w' A l :=
 RowsR.bes2 h (fun _ _ _ ⟨A1, c1, A2, c2, e, h⟩ => ⟨⟨A1, c1, A2, c2, e, h.bes2 hb⟩, by rw [e]; exact .inl (by simp)⟩) hb
end Go.Proofs.YtkhpajneinmmiaaGreatDoor


