/-
  What the law XCP wants besides.
-/
import Derived.Test.YtkhpajneinmmiaaGreatDoorQPL
import Derived.Test.YtkhpajneinmmiaaGreatDoorQDM
import Derived.Test.YtkhpajneinmmiaaGreatDoorQEQ0
import Derived.Test.YtkhpajneinmmiaaGreatDoorQUS
import Derived.Test.YtkhpajneinmmiaaGreatDoorQTB
import Derived.Test.YtkhpajneinmmiaaGreatDoorQEQA
import Derived.Test.YtkhpajneinmmiaaGreatDoorQEQ4
import Derived.Test.YtkhpajneinmmiaaGreatDoorQRL1
import Derived.Test.YtkhpajneinmmiaaGreatDoorQSCA
import Derived.Test.YtkhpajneinmmiaaGreatDoorQSC4
import Derived.Test.YtkhpajneinmmiaaGreatDoorQSC5
import Derived.Test.YtkhpajneinmmiaaGreatDoorQEQ5
import Derived.Test.YtkhpajneinmmiaaGreatDoorQSC6
import Derived.Test.YtkhpajneinmmiaaGreatDoorQSC7
import Derived.Test.YtkhpajneinmmiaaGreatDoorQRL2
import Derived.Test.YtkhpajneinmmiaaGreatDoorQRV1
import Derived.Test.YtkhpajneinmmiaaGreatDoorQRV2
import Derived.Test.YtkhpajneinmmiaaGreatDoorQRV3
import Derived.Test.YtkhpajneinmmiaaGreatDoorQEQ6
import Derived.Test.YtkhpajneinmmiaaGreatDoorQRV4
import Derived.Test.YtkhpajneinmmiaaGreatDoorQRV5
import Derived.Test.YtkhpajneinmmiaaGreatDoorQRE1
import Derived.Test.YtkhpajneinmmiaaGreatDoorQSM
import Derived.Test.YtkhpajneinmmiaaGreatDoorQEX
import Derived.Test.YtkhpajneinmmiaaGreatDoorQAW0
import Derived.Test.YtkhpajneinmmiaaGreatDoorQCP2
import Derived.Test.YtkhpajneinmmiaaGreatDoorQRNA
import Derived.Test.YtkhpajneinmmiaaGreatDoorQRN2
import Derived.Test.YtkhpajneinmmiaaGreatDoorQCL
import Derived.Test.YtkhpajneinmmiaaGreatDoorQCAA
import Derived.Test.YtkhpajneinmmiaaGreatDoorQCA3
import Derived.Test.YtkhpajneinmmiaaGreatDoorQDSA
import Derived.Test.YtkhpajneinmmiaaGreatDoorQDS1
import Derived.Test.YtkhpajneinmmiaaGreatDoorQDRA
import Derived.Test.YtkhpajneinmmiaaGreatDoorQDR2
import Derived.Test.YtkhpajneinmmiaaGreatDoorQDR3
import Derived.Test.YtkhpajneinmmiaaGreatDoorQDR4
import Derived.Test.YtkhpajneinmmiaaGreatDoorQCOA
import Derived.Test.YtkhpajneinmmiaaGreatDoorQCO2
import Derived.Test.YtkhpajneinmmiaaGreatDoorQJJ
import Derived.BigQuiet
import Derived.Carry
import Derived.ChangeKeysEq
import Derived.Deep.CutBlock
import Derived.Deep.DeepCutAuto
import Derived.Deep.DeepHandedRow
import Derived.Deep.DrawnRows
import Derived.Deep.Fields
import Derived.Deep.LoopGhost
import Derived.Deep.QuietTactic
import Derived.Deep.RegionHeld3
import Derived.Deep.Slices
import Derived.Lib.AppendIntMem
import Derived.Lib.Bytealg
import Derived.Lib.Hide
import Derived.Lib.ItoaLen
import Derived.Lib.LaidTab
import Derived.Lib.SliceRun
import Derived.MapKept
import Derived.Maps.AppendAt
import Derived.OpenShut
import Derived.OwnWalk
import Derived.ProofKit
import Derived.RowKit
import Derived.Shelf.SlSortCmp.NoneTotal
import Derived.Sort.OwnSorted
import Derived.StillTailTactics
import Derived.WalkKit
namespace Go.Proofs.YtkhpajneinmmiaaGreatDoor
end Go.Proofs.YtkhpajneinmmiaaGreatDoor
namespace Go.Proofs.YtkhpajneinmmiaaGreatDoor
end Go.Proofs.YtkhpajneinmmiaaGreatDoor
namespace Go.Proofs.YtkhpajneinmmiaaGreatDoor
section
variable (al : Nat → Nat → Bool) (ok : (Nat → Nat → Bool) → Nat → Nat → Bool)
end
end Go.Proofs.YtkhpajneinmmiaaGreatDoor
namespace Go.Proofs.YtkhpajneinmmiaaGreatDoor
end Go.Proofs.YtkhpajneinmmiaaGreatDoor
namespace Go.Proofs.YtkhpajneinmmiaaGreatDoor
end Go.Proofs.YtkhpajneinmmiaaGreatDoor
namespace Go.Proofs.YtkhpajneinmmiaaGreatDoor
end Go.Proofs.YtkhpajneinmmiaaGreatDoor
namespace Go.Proofs.YtkhpajneinmmiaaGreatDoor
section
variable (al : Nat → Nat → Bool) (ok : (Nat → Nat → Bool) → Nat → Nat → Bool)
end
end Go.Proofs.YtkhpajneinmmiaaGreatDoor
namespace Go.Proofs.YtkhpajneinmmiaaGreatDoor
end Go.Proofs.YtkhpajneinmmiaaGreatDoor
namespace Go.Proofs.YtkhpajneinmmiaaGreatDoor
section
variable {next : Int → List Int} {c0 : Int}
end
theorem fold_map {f : Int → Int} : ∀ (l o : List Int), (∀ x ∈ o ++ l, ∀ y ∈ o ++ l, f x = f y → x = y) → (l.map f).foldl addN (o.map f) = (l.foldl addN o).map f
 | [], _, _ => rfl
 | c :: l, o, h => by
  rw [List.map_cons, List.foldl_cons, List.foldl_cons]
  have hm : f c ∈ o.map f ↔ c ∈ o := by
   rw [List.mem_map]
   constructor
   ·rintro ⟨x, hx, e⟩
    rwa [← h x (by simp [hx]) c (by simp) e]
   ·exact fun hc => ⟨c, hc, rfl⟩
  have he : addN (o.map f) (f c) = (addN o c).map f := by
   unfold addN
   by_cases hc : c ∈ o
   ·rw [if_pos hc, if_pos (hm.2 hc)]
   ·rw [if_neg hc, if_neg (fun k => hc (hm.1 k))]; simp
  rw [he]
  refine fold_map l (addN o c) fun x hx y hy e => h x ?_ y ?_ e
  ·rcases List.mem_append.1 hx with k | k
   ·rcases mem_addN.1 k with k | k
    ·simp [k]
    ·simp [k]
   ·simp [k]
  ·rcases List.mem_append.1 hy with k | k
   ·rcases mem_addN.1 k with k | k
    ·simp [k]
    ·simp [k]
   ·simp [k]
theorem bfs_map {f : Int → Int} {next next2 : Int → List Int} {c0 : Int} {p : Int → Prop} (h0 : p c0) (hp : ∀ c, p c → ∀ x ∈ next c, p x) (hf : ∀ x, p x → ∀ y, p y → f x = f y → x = y) (hn : ∀ c, p c → next2 (f c) = (next c).map f) : ∀ i, bfsN next2 (f c0) i = (bfsN next c0 i).map f
 | 0 => rfl
 | i + 1 => by
  have ih := bfs_map h0 hp hf hn i
  have ha := bfs_all (next := next) h0 hp i
  rw [bfsN, bfsN, ih]
  by_cases hi : i < (bfsN next c0 i).length
  ·rw [bfs_at (by simpa using hi), bfs_at hi]
   have hc := ha _ (List.getElem_mem hi)
   rw [List.getElem_map, hn _ hc]
   refine fold_map _ _ fun x hx y hy => hf x ?_ y ?_
   ·rcases List.mem_append.1 hx with k | k
    ·exact ha x k
    ·exact hp _ hc x k
   ·rcases List.mem_append.1 hy with k | k
    ·exact ha y k
    ·exact hp _ hc y k
  ·rw [bfs_end (by simp at hi ⊢; exact hi), bfs_end (by omega)]
end Go.Proofs.YtkhpajneinmmiaaGreatDoor
namespace Go.Proofs.YtkhpajneinmmiaaGreatDoor
end Go.Proofs.YtkhpajneinmmiaaGreatDoor
namespace Go.Proofs.YtkhpajneinmmiaaGreatDoor
section
variable {s : List TyD} {S : Nat → Nat → Bool}
end
section
variable {s : List TyD} {S : Nat → Nat → Bool}
end
theorem idxI_map {f : Int → Int} {l : List Int} {c : Int} (h : ∀ x ∈ l, f x = f c → x = c) : idxI (l.map f) (f c) = idxI l c := by
 by_cases hm : c ∈ l
 ·obtain ⟨k, hk, e, hg⟩ := idxI_mem hm
  rw [e]
  have hk' : l[k] = c := by rw [List.getElem?_eq_getElem hk] at hg; exact Option.some.inj hg
  refine idxI_at (by simpa using hk) (by simp [hk']) fun j hj hc => ?_
  have hjl : j < l.length := by omega
  have h1 : l[j] = c := h _ (List.getElem_mem hjl) (by simpa using hc)
  have h2 : idxI l c = ((l.idxOf c : Nat) : Int) := by unfold idxI; rw [if_pos hm]
  have h3 : l.idxOf c ≤ j := idxOf_le l j hjl h1
  omega
 ·unfold idxI
  rw [if_neg hm, if_neg]
  rintro hx
  obtain ⟨x, h1, h2⟩ := List.mem_map.1 hx
  exact hm (h x h1 h2 ▸ h1)
end Go.Proofs.YtkhpajneinmmiaaGreatDoor
namespace Go.Proofs.YtkhpajneinmmiaaGreatDoor
theorem form_key {t : TyD} (h : formD t = true) (hk : t.kind ≠ 8) : t.key = 0 := by
 unfold formD at h
 simp only [Bool.and_eq_true, decide_eq_true_eq] at h
 obtain ⟨⟨⟨⟨h1, h2⟩, h3⟩, h4⟩, h5⟩ := h
 rw [h3]
 unfold plainD
 simp only [hk, if_false]
 repeat' split
 all_goals rfl
theorem form_elem {t : TyD} (h : formD t = true) (hk : ¬ (t.kind = 8 ∨ t.kind = 7 ∨ t.kind = 9)) : t.elem = 0 := by
 unfold formD at h
 simp only [Bool.and_eq_true, decide_eq_true_eq] at h
 obtain ⟨⟨⟨⟨h1, h2⟩, h3⟩, h4⟩, h5⟩ := h
 rw [h3]
 have k8 : ¬ t.kind = 8 := fun e => hk (.inl e)
 have k7 : ¬ t.kind = 7 := fun e => hk (.inr (.inl e))
 have k9 : ¬ t.kind = 9 := fun e => hk (.inr (.inr e))
 unfold plainD
 simp only [k8, k7, if_false]
 repeat' split
 all_goals first | rfl | (exfalso; omega)
theorem renD_eq {n : Nat} {f g : Int → Int} {x y : TyD} (hx : formD x = true) (hy : formD y = true) (ha : alikeD false x y = true) (hu : (usesD x).map (fun u => f u.2) = (usesD y).map (fun u => g u.2)) : renD n f x = renD n g y := by
 have hnx := form_name hx
 have hny := form_name hy
 have hkx := form_key hx
 have hky := form_key hy
 have hex := form_elem hx
 have hey := form_elem hy
 simp only [alikeD, decide_eq_true_eq] at ha
 obtain ⟨h1, h2, h3, h4, h5, _, h7, h8⟩ := ha
 have hlen : x.mems.length = y.mems.length := by simpa using congrArg List.length h8
 rw [uses_tail, uses_tail, ← h1] at hu
 simp only [List.map_append] at hu
 have ht1 := List.append_inj_left' hu (by split <;> rfl)
 have ht2 := List.append_inj_right' hu (by split <;> rfl)
 have hm := List.append_inj_left' ht1 (by split <;> rfl)
 have hk := List.append_inj_right' ht1 (by split <;> rfl)
 simp only [List.map_map, Function.comp_def] at hm
 have hname : (if x.name = ⟨#[]⟩ then x.name else nameN 84 n) = (if y.name = ⟨#[]⟩ then y.name else nameN 84 n) := by
  rw [← h1] at hny
  by_cases e : x.name = ⟨#[]⟩
  ·rw [if_pos e, if_pos (hny.2 (hnx.1 e)), e, hny.2 (hnx.1 e)]
  ·rw [if_neg e, if_neg (fun e2 => e (hnx.2 (hny.1 e2)))]
 have hsyms : x.syms.map (fun s => { s with name := nameN 115 s.id }) = y.syms.map (fun s => { s with name := nameN 115 s.id }) := by
  have := congrArg (List.map fun (p : Int × ByteArray) => (⟨p.1, nameN 115 p.1⟩ : SymD)) h7
  simpa [List.map_map, Function.comp_def] using this
 have hmems : x.mems.map (fun m => { m with name := nameN 102 m.id, type := f m.type }) = y.mems.map (fun m => { m with name := nameN 102 m.id, type := g m.type }) := by
  apply List.ext_getElem
  ·simpa using hlen
  ·intro i hi hj
   have i1 : i < x.mems.length := by simpa using hi
   have i2 : i < y.mems.length := by simpa using hj
   have e1 : f (x.mems[i]).type = g (y.mems[i]).type := by
    have := congrArg (fun l => l[i]?) hm
    simpa [i1, i2] using this
   have e2 : (x.mems[i]).id = (y.mems[i]).id ∧ (x.mems[i]).critical = (y.mems[i]).critical ∧ (x.mems[i]).hasDef = (y.mems[i]).hasDef ∧ (x.mems[i]).dflt = (y.mems[i]).dflt := by
    have := congrArg (fun l => l[i]?) h8
    simpa [i1, i2] using this
   simp only [List.getElem_map]
   rw [e1, e2.1, e2.2.1, e2.2.2.1, e2.2.2.2]
 have hkey : (if x.kind = 8 then f x.key else x.key) = (if y.kind = 8 then g y.key else y.key) := by
  by_cases e : x.kind = 8
  ·rw [if_pos e, if_pos (h1 ▸ e)]
   simpa [e] using hk
  ·rw [if_neg e, if_neg (h1 ▸ e), hkx e, hky (h1 ▸ e)]
 have helem : (if x.kind = 8 ∨ x.kind = 7 ∨ x.kind = 9 then f x.elem else x.elem) = (if y.kind = 8 ∨ y.kind = 7 ∨ y.kind = 9 then g y.elem else y.elem) := by
  by_cases e : x.kind = 8 ∨ x.kind = 7 ∨ x.kind = 9
  ·rw [if_pos e, if_pos (h1 ▸ e)]
   simpa [e] using ht2
  ·rw [if_neg e, if_neg (h1 ▸ e), hex e, hey (h1 ▸ e)]
 unfold renD
 rw [hname, hsyms, hmems, hkey, helem, h1, h2, h3, h4, h5]
theorem usesOk_zip {R : Nat → Nat → Bool} {p q : Int → Int} : ∀ l m : List (Int × Int), usesOk R l m = true → (∀ u ∈ l, 0 ≤ u.2) → (∀ v ∈ m, 0 ≤ v.2) → (∀ i k : Nat, R i k = true → p (i : Int) = q (k : Int)) → l.map (fun u => p u.2) = m.map (fun v => q v.2)
 | [], [], _, _, _, _ => rfl
 | [], _ :: _, h, _, _, _ => by simp [usesOk] at h
 | _ :: _, [], h, _, _, _ => by simp [usesOk] at h
 | u :: l, v :: m, h, hl, hm, hpq => by
  simp only [usesOk, Bool.and_eq_true] at h
  rw [List.map_cons, List.map_cons, usesOk_zip l m h.2 (fun x hx => hl x (List.mem_cons_of_mem _ hx)) (fun x hx => hm x (List.mem_cons_of_mem _ hx)) hpq]
  have h1 := hpq _ _ h.1
  rw [Int.toNat_of_nonneg (hl u List.mem_cons_self), Int.toNat_of_nonneg (hm v List.mem_cons_self)] at h1
  rw [h1]
theorem usesOk_left {R : Nat → Nat → Bool} : ∀ l m : List (Int × Int), usesOk R l m = true → ∀ u ∈ l, ∃ v ∈ m, R u.2.toNat v.2.toNat = true
 | [], _, _, u, hu => by cases hu
 | _ :: _, [], h, _, _ => by simp [usesOk] at h
 | x :: l, y :: m, h, u, hu => by
  simp only [usesOk, Bool.and_eq_true] at h
  rcases List.mem_cons.1 hu with e | e
  ·exact ⟨y, List.mem_cons_self, e ▸ h.1⟩
  ·obtain ⟨v, hv, hr⟩ := usesOk_left l m h.2 u e
   exact ⟨v, List.mem_cons_of_mem _ hv, hr⟩
section
variable {a b : List TyD} {S T U : Nat → Nat → Bool}
def toB (b : List TyD) (U : Nat → Nat → Bool) (c : Int) : Int := fstB ((List.range b.length).map (U c.toNat))
theorem toB_cls (hua : InR a) (hS : Eqv a a S) (hT : Eqv b b T) (hU : Eqv a b U) {i k : Nat} (h : U i k = true) : toB b U (clsAt (clsD S a.length) (i : Int)) = clsAt (clsD T b.length) (k : Int) := by
 obtain ⟨hi, hk⟩ := eqv_lt hU h
 obtain ⟨j, h1, h2, h3, _⟩ := cls_spec hua hS hi
 rw [h2, clsAt_D hk]
 unfold toB
 rw [Int.toNat_natCast]
 have hV := greatest_turn hU
 refine fst_congr fun m _ => ?_
 have hjk : U j k = true := greatest_trans hS hU hU (eqv_symm hS h3) h
 cases e1 : U j m with
 | true => exact (greatest_trans hV hU hT hjk e1).symm
 | false =>
  cases e2 : T k m with
  | false => rfl
  | true => rw [greatest_trans hU hT hU hjk e2] at e1; cases e1
def Met (a : List TyD) (S U : Nat → Nat → Bool) (c : Int) : Prop := 0 ≤ c ∧ c < (a.length : Int) ∧ clsAt (clsD S a.length) c = c ∧ ∃ k, U c.toNat k = true
theorem met_to (hU : Eqv a b U) {c : Int} (h : Met a S U c) : ∃ k : Nat, k < b.length ∧ toB b U c = (k : Int) ∧ U c.toNat k = true := by
 obtain ⟨_, _, _, k, hk⟩ := h
 obtain ⟨j, h1, h2, h3, _⟩ := fst_spec (n := b.length) (p := U c.toNat) ⟨k, (eqv_lt hU hk).2, hk⟩
 exact ⟨j, h1, h2, h3⟩
theorem met_inj (hS : Eqv a a S) (hU : Eqv a b U) {c d : Int} (hc : Met a S U c) (hd : Met a S U d) (he : toB b U c = toB b U d) : c = d := by
 obtain ⟨k, _, h2, h3⟩ := met_to hU hc
 obtain ⟨l, _, g2, g3⟩ := met_to hU hd
 have : k = l := by rw [h2, g2] at he; exact Int.ofNat.inj he
 subst this
 have hs : S c.toNat d.toNat = true := greatest_trans hU (greatest_turn hU) hS h3 g3
 have := cls_eq hS hs
 rw [Int.toNat_of_nonneg hc.1, Int.toNat_of_nonneg hd.1, hc.2.2.1, hd.2.2.1] at this
 exact this
theorem met_cls (hua : InR a) (hS : Eqv a a S) (hU : Eqv a b U) {i k : Nat} (h : U i k = true) : Met a S U (clsAt (clsD S a.length) (i : Int)) := by
 obtain ⟨hi, hk⟩ := eqv_lt hU h
 obtain ⟨j, h1, h2, h3, _⟩ := cls_spec hua hS hi
 have hc := cls_idem hua hS hi
 rw [h2] at hc ⊢
 exact ⟨by omega, by omega, hc, k, by rw [Int.toNat_natCast]; exact greatest_trans hS hU hU (eqv_symm hS h3) h⟩
theorem met_uses (hU : Eqv a b U) {c : Int} {k : Nat} (_h0 : 0 ≤ c) (h : U c.toNat k = true) : alikeD false (tyAt a c) (tyAt b (k : Int)) = true ∧ usesOk U (usesD (tyAt a c)) (usesD (tyAt b (k : Int))) = true ∧ tyAt a c ∈ a ∧ tyAt b (k : Int) ∈ b := by
 obtain ⟨x, y, hx, hy, h1, h2⟩ := closed_lt hU.closed h
 have e1 : tyAt a c = x := by unfold tyAt; rw [List.getD_eq_getElem?_getD, hx]; rfl
 have e2 : tyAt b (k : Int) = y := by unfold tyAt; rw [List.getD_eq_getElem?_getD, Int.toNat_natCast, hy]; rfl
 rw [e1, e2]
 exact ⟨h1, h2, List.mem_of_getElem? hx, List.mem_of_getElem? hy⟩
theorem ord_map (hua : InR a) (hub : InR b) (hS : Eqv a a S) (hT : Eqv b b T) (hU : Eqv a b U) {i k : Nat} (h : U i k = true) :
  ordD b (clsD T b.length) (k : Int) = (ordD a (clsD S a.length) (i : Int)).map (toB b U) ∧ ∀ c ∈ ordD a (clsD S a.length) (i : Int), Met a S U c := by
 obtain ⟨hi, hk⟩ := eqv_lt hU h
 have hp : ∀ c, Met a S U c → ∀ x ∈ nextD a (clsD S a.length) c, Met a S U x := by
  intro c hc x hx
  obtain ⟨u, hm, rfl⟩ := List.mem_map.1 hx
  obtain ⟨j, _, _, hj⟩ := met_to hU hc
  obtain ⟨v, _, hv⟩ := usesOk_left _ _ (met_uses hU hc.1 hj).2.1 u hm
  have := uses_range hua hc.1 hc.2.1 hm
  have h2 := met_cls hua hS hU hv
  rwa [Int.toNat_of_nonneg this.1] at h2
 have hn : ∀ c, Met a S U c → nextD b (clsD T b.length) (toB b U c) = (nextD a (clsD S a.length) c).map (toB b U) := by
  intro c hc
  obtain ⟨j, hjb, ej, hj⟩ := met_to hU hc
  obtain ⟨_, hok, hxa, hyb⟩ := met_uses hU hc.1 hj
  rw [ej]
  unfold nextD
  rw [List.map_map]
  exact (usesOk_zip (R := U) (p := fun u => toB b U (clsAt (clsD S a.length) u)) (q := fun v => clsAt (clsD T b.length) v) _ _ hok (fun u hu => (hua _ hxa u hu).1) (fun u hu => (hub _ hyb u hu).1) (fun i k hik => toB_cls hua hS hT hU hik)).symm
 have hmet := bfs_all (next := nextD a (clsD S a.length)) (met_cls hua hS hU h) hp
 have hmap := bfs_map (f := toB b U) (next := nextD a (clsD S a.length)) (next2 := nextD b (clsD T b.length)) (met_cls hua hS hU h) hp (fun x hx y hy => met_inj hS hU hx hy) hn
 refine ⟨?_, hmet _⟩
 unfold ordD
 rw [← hmap a.length, toB_cls hua hS hT hU h]
 refine bfs_done (ord_len hub hT (by omega) (by omega)) ?_
 rw [← toB_cls hua hS hT hU h, hmap, List.length_map]
 exact ord_len hua hS (by omega) (by omega) _
theorem canon_eq (hva : validD a = 0) (hvb : validD b = 0) (hS : Eqv a a S) (hT : Eqv b b T) (hU : Eqv a b U) {i k : Nat} (h : U i k = true) : canonL a (clsD S a.length) (i : Int) = canonL b (clsD T b.length) (k : Int) := by
 have hua := valid_inR hva
 have hub := valid_inR hvb
 obtain ⟨ho, hmet⟩ := ord_map hua hub hS hT hU h
 obtain ⟨hi, hk⟩ := eqv_lt hU h
 unfold canonL
 rw [ho, List.length_map]
 refine List.map_congr_left fun n hn => ?_
 have hn' : n < (ordD a (clsD S a.length) (i : Int)).length := List.mem_range.1 hn
 have hc := hmet _ (List.getElem_mem hn')
 rw [List.getD_eq_getElem?_getD, List.getD_eq_getElem?_getD, List.getElem?_map, List.getElem?_eq_getElem hn']
 show renD n _ (tyAt a (ordD a (clsD S a.length) (i : Int))[n]) = renD n _ (tyAt b (toB b U (ordD a (clsD S a.length) (i : Int))[n]))
 obtain ⟨j, hjb, ej, hj⟩ := met_to hU hc
 obtain ⟨hal, hok, hxa, hyb⟩ := met_uses hU hc.1 hj
 rw [ej]
 refine renD_eq (valid_tys hva hxa).1 (valid_tys hvb hyb).1 hal ?_
 refine usesOk_zip (R := U) (p := fun u => idxI (ordD a (clsD S a.length) (i : Int)) (clsAt (clsD S a.length) u)) (q := fun v => idxI ((ordD a (clsD S a.length) (i : Int)).map (toB b U)) (clsAt (clsD T b.length) v)) _ _ hok (fun u hu => (hua _ hxa u hu).1) (fun u hu => (hub _ hyb u hu).1) (fun p q hpq => ?_)
 show idxI _ _ = idxI _ _
 rw [← toB_cls hua hS hT hU hpq]
 exact (idxI_map fun x hx e => met_inj hS hU (hmet x hx) (met_cls hua hS hU hpq) e).symm
end
end Go.Proofs.YtkhpajneinmmiaaGreatDoor
namespace Go.Proofs.YtkhpajneinmmiaaGreatDoor
section
variable {s : List TyD} {S : Nat → Nat → Bool} {t : Int}
end
end Go.Proofs.YtkhpajneinmmiaaGreatDoor
namespace Go.Proofs.YtkhpajneinmmiaaGreatDoor
end Go.Proofs.YtkhpajneinmmiaaGreatDoor
namespace Go.Proofs.YtkhpajneinmmiaaGreatDoor
end Go.Proofs.YtkhpajneinmmiaaGreatDoor
namespace Go.Proofs.YtkhpajneinmmiaaGreatDoor
section
variable {d : List NodeD} {i : Nat}
end
end Go.Proofs.YtkhpajneinmmiaaGreatDoor
namespace Go.Proofs.YtkhpajneinmmiaaGreatDoor
section
variable {n : Nat} {x : Bool} {t : TyD} {ms : List MemD} {k e : Int}
end
section
variable {s c : List TyD}
theorem usesOk_sh {n : Nat} {R : Nat → Nat → Bool} : ∀ {l m : List (Int × Int)}, UsSh n l m → (∀ u ∈ l, ∀ v : Int, Sh n u.2 v → R u.2.toNat v.toNat = true) → usesOk R l m = true
 | [], [], _, _ => rfl
 | u :: l, v :: m, h, hr => by
  rw [usesOk, Bool.and_eq_true]
  exact ⟨hr u List.mem_cons_self v.2 h.1.2, usesOk_sh h.2 fun x hx => hr x (List.mem_cons_of_mem _ hx)⟩
 | [], _ :: _, h, _ => h.elim
 | _ :: _, [], h, _ => h.elim
theorem copy_wire (hv : validD s = 0) (h : CopyIs s c) {U : Nat → Nat → Bool} (hU : Eqv s c U) {i : Nat} (hi : i < c.length) : U (i % s.length) i = true := by
 have hu := valid_inR hv
 refine hU.top (fun j k => decide (k < c.length ∧ j = k % s.length)) (fun j k hjk => ?_) _ _ (decide_eq_true ⟨hi, rfl⟩)
 obtain ⟨hk, rfl⟩ := of_decide_eq_true hjk
 obtain ⟨ms, ky, e, hc, hat⟩ := copy_at h hk
 have hsm := copy_from h hk
 have hl : k % s.length < s.length := Nat.mod_lt _ (by have := h.1; omega)
 rw [tyAt_nat hk] at hat
 rw [tyAt_nat hl] at hat hc hsm
 unfold alD okD
 rw [List.getElem?_eq_getElem hl, List.getElem?_eq_getElem hk, hat]
 refine ⟨hc.alike, usesOk_sh hc.uses fun u hul v hsh => ?_⟩
 have hr := hu _ hsm u hul
 obtain ⟨m1, m2, m3⟩ := hsh.mod hr.1 hr.2
 exact decide_eq_true ⟨by have := h.1; omega, m1.symm⟩
end
end Go.Proofs.YtkhpajneinmmiaaGreatDoor
namespace Go.Proofs.YtkhpajneinmmiaaGreatDoor
open Classical in
theorem eqv_ex (names : Bool) (a b : List TyD) : ∃ U, GreatestR (alD names a b) (okD a b) U := by
 refine ⟨fun i k => decide (∃ T, ClosedR (alD names a b) (okD a b) T ∧ T i k = true), fun i k h => ?_, fun T hT i k h => ?_⟩
 ·obtain ⟨T, hT, hi⟩ := of_decide_eq_true h
  obtain ⟨h1, h2⟩ := hT i k hi
  exact ⟨h1, okD_mono a b T _ i k (fun i k hk => decide_eq_true ⟨T, hT, hk⟩) h2⟩
 ·exact decide_eq_true ⟨T, hT, h⟩
theorem rootErr_ok {s : List TyD} {i : Nat} (hv : validD s = 0) (hi : i < s.length) : rootErr s (i : Int) = 0 := by
 unfold rootErr
 rw [if_neg (by simp [hv]), if_neg (by omega)]
theorem copies_canon {s c : List TyD} (hv : validD s = 0) (hc : CopyIs s c) (hvc : validD c = 0) {i : Nat} (hi : i < c.length) {x y : List TyD} (hx : CanonIs s ((i % s.length : Nat) : Int) x) (hy : CanonIs c (i : Int) y) : x = y := by
 obtain ⟨_, ⟨S, hS, rfl⟩, rfl⟩ := hx
 obtain ⟨_, ⟨T, hT, rfl⟩, rfl⟩ := hy
 obtain ⟨U, hU⟩ := eqv_ex false s c
 exact canon_eq hv hvc hS hT hU (copy_wire hv hc hU hi)
section
variable {a b la lb : List TyD} {ta tb : Nat}
end
end Go.Proofs.YtkhpajneinmmiaaGreatDoor
namespace Go.Proofs.YtkhpajneinmmiaaGreatDoor
section
variable {P : Type} {E : P → Int → P → Prop} {Bad : P → Prop} {r : P}
end
end Go.Proofs.YtkhpajneinmmiaaGreatDoor
namespace Go.Proofs.YtkhpajneinmmiaaGreatDoor
section
variable {a b : List TyD} {ta tb : Int}
end
end Go.Proofs.YtkhpajneinmmiaaGreatDoor
namespace Go.Proofs.YtkhpajneinmmiaaGreatDoor
section
variable {a b : List TyD} {t : Int × Int} {L M : List (Int × Int)}
end
end Go.Proofs.YtkhpajneinmmiaaGreatDoor

namespace Go.Proofs.YtkhpajneinmmiaaGreatDoor
open Go.RowKit
set_option maxHeartbeats 2000000 in
set_option maxRecDepth 100000 in
theorem sEqual_any (l m : List TyD) (A : Option Addr) (c : Nat) (B : Option Addr) (d : Nat) (w : World) (hl : TysR w A l) (hm : TysR w B m) :
  Calls Tryz.prog 52 #[.agg #[.slice A l.length c], .agg #[.slice B m.length d]] w (SamePost (decide (l = m)) w) := by
 have hn := hl.1.lt (by omega)
 have HL := Lib.hid hl
 have HM := Lib.hid hm
 clear hl hm
 by_cases hlen : l.length = m.length
 ·rw [← hlen]
  have hb0 : ((l.length : Int) != (l.length : Int)) = false := by simp
  have HE := Lib.hid hlen
  clear hlen
  go_enter Tryz.func52, Tryz.ntmps52
  go_wp2
  go_loopw [5] (fun i wr => ∃ k : Nat, k ≤ l.length ∧ i = .int .i64 k ∧ Hid (l.take k = m.take k) ∧ Hid (Below (World.heap ((w.alloc (.cells #[.slice A l.length c] 30)).alloc (.cells #[.slice B l.length d] 30))).size ((w.alloc (.cells #[.slice A l.length c] 30)).alloc (.cells #[.slice B l.length d] 30)) wr)) (fun i _ => l.length - (intOf i).toNat)
  case atStart => exact ⟨0, by omega, rfl, rfl, Below.refl _ _⟩
  case round =>
   obtain ⟨k, hk, rfl, htk, hbw⟩ := hrel
   have hc := bcell hbw.out
   have HB := Lib.hid (below_alloc2 hbw.out)
   have hz0 := hbw.out.size
   simp at hz0
   have hz1 : w.heap.size < wr.heap.size := by omega
   have hz2 : w.heap.size + 1 < wr.heap.size := by omega
   clear hz0
   have f5 : wr.cell? ⟨w.heap.size, 0, none⟩ = some (.slice A l.length c) := by rw [hc w.heap.size 0 (by simp; omega)]; go_simp
   have g5 : wr.cell? ⟨w.heap.size + 1, 0, none⟩ = some (.slice B l.length d) := by rw [hc (w.heap.size + 1) 0 (by simp)]; go_simp
   clear hc
   by_cases hlt : k < l.length
   ·have hlt' : k < m.length := by have := HE.out; omega
    obtain ⟨b, o, As, cs, Am, cm, rfl, hr1, a0, a1, a2, a3, a4, a5, a6, a7, a8, a9⟩ := (HL.out.below HB.out).at10 hlt
    obtain ⟨b', o', Bs, ds, Bm, dm, rfl, hr2, b0, b1, b2, b3, b4, b5, b6, b7, b8, b9⟩ := (HM.out.below HB.out).at10 hlt'
    have h1 : (0:Int) ≤ (k:Int) := by omega
    have h2 : (k : Int) < (l.length : Int) := by omega
    have HR1 := Lib.hid hr1
    have HR2 := Lib.hid hr2
    clear hr1 hr2
    by_cases he : l[k] = m[k]
    ·have HT := Lib.hid (take_eq_of hlt hlt' htk.out he)
     have HD := Lib.hid (decide_eq_true he)
     clear he
     go_wp2
     go_still_tail 10, (by kernel_rfl)
     change wpList _ _ _ _ _ wr.drew
     go_wp2_with (go_at_call 77; refine (sameType_any l[k] m[k] As cs Am cm Bs ds Bm dm _ (HR1.out.below (below_drewN (Below.refl _ _) 1)) (HR2.out.below (below_drewN (Below.refl _ _) 1))).mono ?_; rintro e w2 ⟨rfl, hb2⟩; rw [HD.out])
     go_roundw
     case rel => exact ⟨k + 1, by omega, by go_num, HT.out, hbw.out.trans ((undrew hb2).mono hbw.out.size)⟩
     case measure => simp [intOf]; omega
    ·have HT := Lib.hid (take_ne_of hlt hlt' he)
     have HD := Lib.hid (decide_eq_false he)
     clear he
     go_wp2
     go_still_tail 10, (by kernel_rfl)
     change wpList _ _ _ _ _ wr.drew
     go_wp2_with (go_at_call 77; refine (sameType_any l[k] m[k] As cs Am cm Bs ds Bm dm _ (HR1.out.below (below_drewN (Below.refl _ _) 1)) (HR2.out.below (below_drewN (Below.refl _ _) 1))).mono ?_; rintro e w2 ⟨rfl, hb2⟩; rw [HD.out])
     go_ret
     exact ⟨by rw [HT.out]; rfl, below_trans HB.out (undrew hb2)⟩
   ·have HD := Lib.hid (take_all hlt HE.out htk.out)
    go_wp2
    go_ret
    exact ⟨by rw [HD.out]; rfl, HB.out⟩
 ·have hb0 : ((l.length : Int) != (m.length : Int)) = true := bne_iff_ne.2 (by omega)
  have HQ := Lib.hid (show decide (l = m) = false from decide_eq_false fun e => hlen (by rw [e]))
  clear hlen
  go_enter Tryz.func52, Tryz.ntmps52
  go_wp2
  go_ret
  exact ⟨by rw [HQ.out]; rfl, below_new2 _ _ _⟩
end Go.Proofs.YtkhpajneinmmiaaGreatDoor

namespace Go.Proofs.YtkhpajneinmmiaaGreatDoor
open Go.RowKit
set_option maxHeartbeats 1000000 in
set_option maxRecDepth 100000 in
theorem rSameRoot_any (a : List TyD) (ta : Int) (b : List TyD) (tb : Int) (A : Option Addr) (c : Nat) (B : Option Addr) (d : Nat) (w : World) (ha : TysR w A a) (hb : TysR w B b) :
  Calls Tryz.prog 25 #[rootV A a.length c ta, rootV B b.length d tb] w (SamePost (decide (ta = tb) && decide (a = b)) w) := by
 have HA := Lib.hid ha
 have HB := Lib.hid hb
 clear ha hb
 by_cases he : ta = tb
 ·have heq : (ta == tb) = true := by simp [he]
  have HD := Lib.hid (show (decide (ta = tb) && decide (a = b)) = decide (a = b) by simp [he])
  clear he
  go_enter Tryz.func25, Tryz.ntmps25
  go_wp2_with fail
  refine (sEqual_any a b A c B d _ (HA.out.below (below_new2 _ _ _)) (HB.out.below (below_new2 _ _ _))).mono ?_
  rintro e w2 ⟨rfl, hb2⟩
  go_wp2
  go_ret
  exact ⟨by rw [HD.out]; rfl, below_alloc2 hb2⟩
 ·have heq : (ta == tb) = false := by simp [he]
  have HD := Lib.hid (show (decide (ta = tb) && decide (a = b)) = false by simp [he])
  clear he
  go_enter Tryz.func25, Tryz.ntmps25
  go_wp2
  go_ret
  exact ⟨by rw [HD.out]; rfl, below_new2 _ _ _⟩
end Go.Proofs.YtkhpajneinmmiaaGreatDoor

namespace Go.Proofs.YtkhpajneinmmiaaGreatDoor
open Go.ChangeShapes Go.WideShapes Go.ChangeAt Go.RowKit Go.Deep
set_option maxRecDepth 100000
section
variable {H : Type} {enc : TypeId × Value → H} {W : World}
end
end Go.Proofs.YtkhpajneinmmiaaGreatDoor
namespace Go.Proofs.YtkhpajneinmmiaaGreatDoor
open Go.ChangeShapes Go.WideShapes Go.ChangeAt Go.RowKit Go.Deep
set_option maxRecDepth 100000
section
variable {H : Type} {enc : TypeId × Value → H}
end
end Go.Proofs.YtkhpajneinmmiaaGreatDoor
namespace Go.Proofs.YtkhpajneinmmiaaGreatDoor
open Go.ChangeShapes Go.WideShapes Go.ChangeAt Go.RowKit
set_option maxRecDepth 100000
end Go.Proofs.YtkhpajneinmmiaaGreatDoor
namespace Go.Proofs.YtkhpajneinmmiaaGreatDoor
open Go.ChangeShapes Go.WideShapes Go.ChangeAt Go.RowKit Go.Deep
set_option maxRecDepth 100000
section
variable {H : Type} {enc : TypeId × Value → H} {W : World}
theorem open_arg_u8 {r : Reach} {b0 : Nat} {v : Value} (hv : Value.okWide Tryz.prog W r b0 5 v) : ∃ k : Nat, k < 256 ∧ v = .int .u8 k := by
 obtain ⟨z, rfl, h⟩ := open_arg_int Tryz.underlying5 hv
 simp [IntKind.has, IntKind.min, IntKind.max, IntKind.signed, IntKind.bits] at h
 exact ⟨z.toNat, by omega, by rw [show ((z.toNat : Nat) : Int) = z by omega]⟩
end
end Go.Proofs.YtkhpajneinmmiaaGreatDoor


