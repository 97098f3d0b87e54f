/-
  What the law XLT wants besides.
-/
import Derived.Test.YthkkllmmbefedaaGreatDoorQGA0
import Derived.Test.YthkkllmmbefedaaGreatDoorQGA1
import Derived.Test.YthkkllmmbefedaaGreatDoorQGA2
import Derived.Test.YthkkllmmbefedaaGreatDoorQGA3
import Derived.Test.YthkkllmmbefedaaGreatDoorQGA4
import Derived.Test.YthkkllmmbefedaaGreatDoorQGA5
import Derived.Test.YthkkllmmbefedaaGreatDoorQGA6
import Derived.Test.YthkkllmmbefedaaGreatDoorQGA7
import Derived.Test.YthkkllmmbefedaaGreatDoorQVC1
import Derived.Test.YthkkllmmbefedaaGreatDoorQGA8
import Derived.Test.YthkkllmmbefedaaGreatDoorQGR0
import Derived.Test.YthkkllmmbefedaaGreatDoorQGC0
import Derived.Test.YthkkllmmbefedaaGreatDoorQNRH
import Derived.Test.YthkkllmmbefedaaGreatDoorQGD0
import Derived.Test.YthkkllmmbefedaaGreatDoorQNRJ
import Derived.Test.YthkkllmmbefedaaGreatDoorQGA9
import Derived.Test.YthkkllmmbefedaaGreatDoorQVF7
import Derived.Test.YthkkllmmbefedaaGreatDoorQGL0
import Derived.Test.YthkkllmmbefedaaGreatDoorQLXWA
import Derived.Test.YthkkllmmbefedaaGreatDoorQGA10
import Derived.Test.YthkkllmmbefedaaGreatDoorQGW0
import Derived.Test.YthkkllmmbefedaaGreatDoorQLW7
import Derived.Test.YthkkllmmbefedaaGreatDoorQLW8
import Derived.Test.YthkkllmmbefedaaGreatDoorQGA11
import Derived.Test.YthkkllmmbefedaaGreatDoorQGB0
import Derived.Test.YthkkllmmbefedaaGreatDoorQGE0
import Derived.Test.YthkkllmmbefedaaGreatDoorQAT1
import Derived.Test.YthkkllmmbefedaaGreatDoorQNRM
import Derived.Test.YthkkllmmbefedaaGreatDoorQGF0
import Derived.Test.YthkkllmmbefedaaGreatDoorQAK2
import Derived.Test.YthkkllmmbefedaaGreatDoorQRT0
import Derived.Test.YthkkllmmbefedaaGreatDoorQGX0
import Derived.Test.YthkkllmmbefedaaGreatDoorQDR4
import Derived.BigQuiet
import Derived.BigRegion
import Derived.Carry
import Derived.ChangeMaps5
import Derived.Deep.CutBlock
import Derived.Deep.DeepCutAuto
import Derived.Deep.DeepHandedRow
import Derived.Deep.DeepWitnessRowRef
import Derived.Deep.DrawnRows
import Derived.Deep.Fields
import Derived.Deep.LoopGhost
import Derived.Deep.MidRow
import Derived.Deep.QuietTactic
import Derived.Deep.RegionHeld3
import Derived.Deep.Slices
import Derived.Laws.IdiomStrings
import Derived.Laws.OwnMore
import Derived.Laws.Rows
import Derived.Lib.AppendIntMem
import Derived.Lib.Bytealg
import Derived.Lib.Hide
import Derived.Lib.ItoaLen
import Derived.Lib.ItoaMem
import Derived.Lib.Join
import Derived.Lib.LaidTab
import Derived.Lib.MinMax
import Derived.Lib.ParseIntBCases
import Derived.Lib.ParseIntBTie
import Derived.Lib.SliceRun
import Derived.Lib.Zigzag
import Derived.MapKept
import Derived.Maps.AppendAt
import Derived.OpenShut
import Derived.OwnWalk
import Derived.ProofKit
import Derived.RowKit
import Derived.Shelf.Strings.BuilderK
import Derived.Shelf.Vars
import Derived.SliceStrings
import Derived.StillTailTactics
import Derived.Stop.LaidErr
import Derived.WalkKit
namespace Go.Proofs.YthkkllmmbefedaaGreatDoor
open Go.RowKit
set_option maxHeartbeats 16000000
set_option maxRecDepth 100000
section
variable {P:Program} {ops:Array Oper} {Q:Exit→Act→World→Prop} {md:Region.Mode} {S:World→Prop} {oi:Oper} {fuel:Nat} {listed:Array Bool} {a:Act} {w:World}
end
theorem below_alloc {w w':World} {o:Obj} (hb:Below (w.alloc o).heap.size (w.alloc o) w'):Below w.heap.size w w' :=
 ((Below.refl _ _).alloc (Nat.le_refl _) o).trans (hb.mono (by simp))
theorem below_alloc2 {w w':World} {o o2:Obj} (hb:Below ((w.alloc o).alloc o2).heap.size ((w.alloc o).alloc o2) w'):Below w.heap.size w w' :=
 below_alloc (below_alloc hb)
theorem bcell {W w1:World} (hb:Below W.heap.size W w1):∀b o,b<W.heap.size→w1.cell? ⟨b,o,none⟩=W.cell? ⟨b,o,none⟩:=fun b o h=>hb.cell (p:=⟨b,o,none⟩) h
theorem undrew {W w1:World} (h:Below W.drew.heap.size W.drew w1):Below W.heap.size W w1:=⟨h.os,h.tape,h.output,h.size,h.block⟩
section
set_option linter.unusedSectionVars false
variable {P:Program} {κ:Type} [DecidableEq κ]
variable {KT MT ET:TypeId} {ek:κ→Value} {z:Value}
end
section
variable {α:Type} {E size:Nat} {enc:α→List Value}
end
section
variable {P:Program} {ops:Array Oper} {Q:Exit→Act→World→Prop} {md:Region.Mode} {S:World→Prop} {s:Nat}
end
section
variable {P:Program} {ops:Array Oper} {Q:Exit→Act→World→Prop} {md:Region.Mode} {S:World→Prop} {s:Nat} {oi:Oper} {fuel:Nat} {listed:Array Bool} {a:Act} {w:World}
end
section
variable {s:List TyD} {t:Int}
end
theorem hexV_hexB {n:Nat} (h:n<16):hexV (hexB n)=some n:=by
 have:∀m:Fin 16,hexV (hexB m.1)=some m.1:=by decide
 exact this ⟨n,h⟩
theorem quB_size (c:UInt8):(quB c).size=(quBL c).length:=by rw[←quB_list];rfl
theorem part_of (b:UInt8) (l:List UInt8) (h:quBL b <+: l) (hq:∀c r,l=c::r→c.toNat≠34):partL l=some (b,(quBL b).length):=by
 obtain ⟨r,rfl⟩:=h;unfold quBL at *
 split at hq
 ·rename_i h1
  rw[if_pos h1]
  show partL (92::b::r)=_
  rw[partL,if_pos (show (92:UInt8).toNat=92 from rfl)];unfold escL;simp only[if_pos h1];rfl
 ·rename_i h1
  rw[if_neg h1]
  split at hq
  ·rename_i h2
   rw[if_pos h2]
   show partL (92::110::r)=_
   rw[partL,if_pos (show (92:UInt8).toNat=92 from rfl)];unfold escL;simp only[];rw[if_neg (by decide),if_pos (show (110:UInt8).toNat=110 from rfl)]
   rw[show b=10 from byte_eq h2];rfl
  ·rename_i h2
   rw[if_neg h2]
   split at hq
   ·rename_i h3
    rw[if_pos h3];have hb:=b.toNat_lt
    show partL (92::120::hexB (b.toNat / 16)::hexB (b.toNat % 16)::r)=_
    rw[partL,if_pos (show (92:UInt8).toNat=92 from rfl),escL,if_neg (by decide),if_neg (by decide),if_pos (show (120:UInt8).toNat=120 from rfl)]
    simp only[hexV_hexB (show b.toNat / 16<16 by omega),hexV_hexB (show b.toNat % 16<16 by omega)]
    rw[if_pos (by omega)]
    have e:UInt8.ofNat (16 * (b.toNat / 16)+b.toNat % 16)=b:=by
     apply byte_eq
     rw[UInt8.toNat_ofNat'];omega
    rw[e];rfl
   ·rename_i h3
    rw[if_neg h3]
    show partL (b::r)=_
    rw[partL,if_neg (by omega),if_neg h3];rfl
def accL (sg a:Int):List UInt8→Int
 | []=>a
 | c::r=>accL sg (10 * a+sg * ((c.toNat:Int) - 48)) r
theorem accL_snoc (sg:Int) (c:UInt8):∀ (l:List UInt8) (a:Int),accL sg a (l++[c])=10 * accL sg a l+sg * ((c.toNat:Int) - 48)
 | [],_=>rfl
 | b::r,a=>by rw[List.cons_append,accL,accL,accL_snoc sg c r]
theorem accL_dec (sg:Int):∀ (u:Nat),accL sg 0 (Lib.decDigits u)=sg * u:=by
 intro u
 induction u using Nat.strongRecOn with
 | _ u ih =>
  rw[Lib.decDigits]
  split
  ·rename_i h
   rw[accL,accL,digitL_val h];rw[show ((48+u:Nat):Int) - 48=u by omega]
   omega
  ·rw[accL_snoc,ih (u / 10) (by omega),digitL_val (show u % 10<10 by omega)]
   rw[show ((48+u % 10:Nat):Int) - 48=((u % 10:Nat):Int) by omega]
   have h1:(u:Int)=10 * ((u / 10:Nat):Int)+((u % 10:Nat):Int):=by omega
   generalize ((u / 10:Nat):Int)=a at *;generalize ((u % 10:Nat):Int)=b at *;rw[h1,Int.mul_add,Int.mul_left_comm]
def rawI (t:List UInt8):Int:=match t with
 | []=>0
 | c::r=>if c.toNat=45 then accL (-1) 0 r else accL 1 0 (c::r)
theorem rawI_itoa (v:Int):rawI (Lib.itoa v)=v:=by
 by_cases hn:v<0
 ·have hv:v = -(v.natAbs:Int):=by omega
  rw[hv,Lib.itoa_neg _ (by omega)]
  unfold rawI;simp only;rw[if_pos (show (45:UInt8).toNat=45 from rfl),accL_dec];omega
 ·have hv:v=(v.toNat:Int):=by omega
  rw[hv,Lib.itoa_nonneg]
  cases hd:Lib.decDigits v.toNat with
  | nil=>exact absurd hd (decDigitsL_ne _)
  | cons c r =>
   have hm:=decDigitsL_mem v.toNat c (by rw[hd];exact List.mem_cons_self ..)
   unfold rawI;simp only;rw[if_neg (by omega),←hd,accL_dec];omega
theorem intL_raw {t:List UInt8} {n k:Int} (h1:-9223372036854775808≤n) (h2:n≤9223372036854775807) (hk:n=rawI t+18446744073709551616 * k) :
  intL t=if Lib.itoa n=t then some n else none:=by
 split
 ·rename_i h
  exact intL_iff.2 ⟨⟨h1,h2⟩,h⟩
 ·rename_i h
  cases hi:intL t with
  | none=>rfl
  | some v =>
   obtain ⟨⟨g1,g2⟩,g3⟩:=intL_iff.1 hi;have:rawI t=v:=by rw[←g3,rawI_itoa]
   have hnv:n=v:=by omega
   exact absurd (by rw[hnv];exact g3) h
theorem sym_two {c d:UInt8} {r:List UInt8}:[c,d]∈symsT↔symL (c::d::r)=some 2:=by
 constructor
 ·intro h
  have:∀x∈symsT,∀a b,x=[a,b]→(a.toNat=45∧b.toNat=62)∨(a.toNat=46∧b.toNat=46):=by
   intro x hx a b e
   subst e;simp only[symsT,List.mem_cons,List.cons.injEq,and_true,reduceCtorEq,and_false,or_false,List.not_mem_nil] at hx
   rcases hx with ⟨rfl,rfl⟩|⟨rfl,rfl⟩
   ·exact Or.inl ⟨rfl,rfl⟩
   ·exact Or.inr ⟨rfl,rfl⟩
  exact symL_two (this _ h c d rfl)
 ·intro h
  rw[symL] at h
  split at h
  ·rename_i hc
   rw[show c=45 from byte_eq hc.1,show d=62 from byte_eq hc.2];decide
  ·split at h
   ·rename_i hc
    rw[show c=46 from byte_eq hc.1,show d=46 from byte_eq hc.2];decide
   ·split at h
    ·cases h
    ·cases h
theorem sym_one {c:UInt8} {r:List UInt8} (h2:symL (c::r)≠some 2):[c]∈symsT↔symL (c::r)=some 1:=by
 constructor
 ·intro h
  have h3:oneS c.toNat:=by
   simp only[symsT,List.mem_cons,List.cons.injEq,and_true,reduceCtorEq,and_false,or_false,false_or,List.not_mem_nil] at h;unfold oneS
   rcases h with h|h|h|h|h|h|h|h|h|h|h|h|h|h|h|h <;> subst h <;> decide
  refine symL_one (fun hc=>h2 ?_) (fun hc=>h2 ?_) h3
  ·cases r with
   | nil=>exact absurd hc.2 (by decide)
   | cons d q=>exact symL_two (Or.inl hc)
  ·cases r with
   | nil=>exact absurd hc.2 (by decide)
   | cons d q=>exact symL_two (Or.inr hc)
 ·intro h
  rw[symL] at h
  split at h
  ·cases h
  ·split at h
   ·cases h
   ·split at h
    ·rename_i hd
     have:∀n:Nat,oneS n→[UInt8.ofNat n]∈symsT:=fun n hn=>by
      unfold oneS at hn
      rcases hn with h|h|h|h|h|h|h|h|h|h|h|h|h|h|h|h <;> subst h <;> decide
     have:=this _ hd
     rwa [UInt8.ofNat_toNat] at this
    ·cases h
theorem symL_cases {l:List UInt8}:symL l=none∨symL l=some 1∨symL l=some 2:=by
 cases h:symL l with
 | none=>exact Or.inl rfl
 | some n =>
  have:=symL_le h;have:n=1∨n=2:=by omega
  rcases this with rfl|rfl
  ·exact Or.inr (Or.inl rfl)
  ·exact Or.inr (Or.inr rfl)
theorem lettK_all:∀l:List UInt8,(l.take (lettK l)).all (fun d=>isLetB d||zZ d)=true
 | []=>rfl
 | c::r=>by
  rw[lettK]
  split
  ·rename_i h
   rw[List.take_succ_cons,List.all_cons,h,lettK_all r];rfl
  ·rfl
theorem nameB_take {c:UInt8} {r:List UInt8} (h:isLetB c=true):nameB (bA ((c::r).take (lettK (c::r))))=decide (lettK (c::r)≤24):=by
 have hk:lettK (c::r)=lettK r+1:=by rw[lettK,h,Bool.true_or,if_pos rfl]
 have ha:=lettK_all (c::r);have hl:((c::r).take (lettK (c::r))).length=lettK (c::r):=by rw[List.length_take];exact Nat.min_eq_left (lettK_le _)
 unfold nameB bA
 show (decide (0<((c::r).take (lettK (c::r))).toArray.size)&&decide (((c::r).take (lettK (c::r))).toArray.size≤24)&&letC (((((c::r).take (lettK (c::r))).getD 0 0).toNat:Nat):Int)&&((c::r).take (lettK (c::r))).all chB)=_
 rw[List.size_toArray,hl];have h1:((c::r).take (lettK (c::r))).all chB=true:=ha;have h2:((c::r).take (lettK (c::r))).getD 0 0=c:=by rw[hk];rfl
 have h3:letC ((c.toNat:Nat):Int)=true:=h;have h4:decide (0<lettK (c::r))=true:=by rw[hk];simp
 rw[h1,h2,h3,h4,Bool.true_and,Bool.and_true,Bool.and_true]
section
variable (m:Bool) (f:Int→List TokD→Bool→PR Val)
end
section
variable {α:Type} {part part':List TokD→Bool→PR α}
end
section
variable {m:Bool} {f g:Int→List TokD→Bool→PR Val}
end
section
variable {m:Bool} {f g:Int→List TokD→Bool→PR Val}
end
structure Rel {α:Type} (bad:α→Prop) (k:Bool) (v:α) (k':Bool) (v':α):Prop where
 mono:k=true→k'=true
 rel:(v'=v∧k'=k)∨(bad v'∧(k'=true∨bad v))
def RelP {α:Type} (bad:α→Prop) (k:Bool) (a b:PR α):Prop :=
 (∃e,a = .error e∧b = .error e)∨∃v v' r k',a = .ok (v,r,k')∧b = .ok (v',r,false)∧Rel bad k v k' v'
section
variable {α β γ:Type} {bad:α→Prop} {bad2:β→Prop} {bad3:γ→Prop} {k:Bool}
theorem relOk {v v':α} {r:List TokD} {k':Bool} (h:Rel bad k v k' v'):RelP bad k (.ok (v,r,k')) (.ok (v',r,false)):=Or.inr ⟨v,v',r,k',rfl,rfl,h⟩
theorem relErr (e:Int):RelP bad k (.error e) (.error e):=Or.inl ⟨e,rfl,rfl⟩
theorem relSame (v:α) (k:Bool):Rel bad k v k v:=⟨id,Or.inl ⟨rfl,rfl⟩⟩
theorem relBind {a b:PR α} (h:RelP bad k a b) {g g':α×List TokD×Bool→PR β} (G:∀v v' r k',Rel bad k v k' v'→RelP bad2 k (g (v,r,k')) (g' (v',r,false))):RelP bad2 k (a.bind g) (b.bind g'):=by
 rcases h with ⟨e,rfl,rfl⟩|⟨v,v',r,k',rfl,rfl,h⟩
 ·exact relErr e
 ·exact G v v' r k' h
theorem relTok {δ:Type} (a:Except Int δ) {g g':δ→PR β} (G:∀p,a = .ok p→RelP bad2 k (g p) (g' p)):RelP bad2 k (a.bind g) (a.bind g'):=by
 cases a with
 | error e=>exact relErr e
 | ok p=>exact G p rfl
theorem relPair {v1 v1':α} {v2 v2':β} {k1 k2:Bool} (h1:Rel bad k v1 k1 v1') (h2:Rel bad2 k1 v2 k2 v2') (c:α→β→γ) (b1:∀x y,bad x→bad3 (c x y)) (b2:∀x y,bad2 y→bad3 (c x y)):Rel bad3 k (c v1 v2) k2 (c v1' v2'):=by
 refine ⟨fun h=>h2.mono (h1.mono h),?_⟩
 rcases h1.rel with ⟨rfl,rfl⟩|⟨g1,g2⟩
 ·rcases h2.rel with ⟨rfl,rfl⟩|⟨g3,g4⟩
  ·exact Or.inl ⟨rfl,rfl⟩
  ·exact Or.inr ⟨b2 _ _ g3,g4.imp id fun h=>b2 _ _ h⟩
 ·exact Or.inr ⟨b1 _ _ g1,g2.imp (fun h=>h2.mono h) fun h=>b1 _ _ h⟩
theorem relMap {v1 v1':α} {k1:Bool} (h1:Rel bad k v1 k1 v1') (c:α→γ) (b1:∀x,bad x→bad3 (c x)):Rel bad3 k (c v1) k1 (c v1'):=by
 refine ⟨h1.mono,?_⟩
 rcases h1.rel with ⟨rfl,rfl⟩|⟨g1,g2⟩
 ·exact Or.inl ⟨rfl,rfl⟩
 ·exact Or.inr ⟨b1 _ g1,g2.imp id fun h=>b1 _ h⟩
end
theorem idF_false (n:Int):idF false n=n:=by unfold idF;simp
theorem idF_true {n:Int} (h:idF true n≠n):idF true n=0∧(n<0∨1000000<n):=by
 unfold idF at *
 split at h
 ·rename_i hc
  rw[if_pos hc];exact ⟨rfl,hc.2⟩
 ·exact absurd rfl h
theorem idF_bad {n:Int} (h:idF true n≠n):¬ (1≤idF true n∧idF true n≤1000)∧¬ (1≤n∧n≤1000):=by
 have:=idF_true h
 omega
theorem know_in {x:TyD} (h:IdsT x) {n:Int} (hk:knowP x n=true):1≤n∧n≤1000:=by
 unfold knowP at hk;rw[List.any_eq_true] at hk;obtain ⟨y,hy,he⟩:=hk;have:=h.1 y hy;rw[decide_eq_true_eq] at he
 omega
theorem relSep {α:Type} {bad:α→Prop} {p p':List TokD→Bool→PR α} (hp:∀l k,RelP bad k (p l k) (p' l false)):∀ (n:Nat) (l:List TokD) (k:Bool),RelP (fun xs:List α=>∃x∈xs,bad x) k (sepP p n l k) (sepP p' n l false)
 | 0,_,_=>relErr 0
 | n+1,l,k=>by
  rw[sepP,sepP];refine relBind (hp l k) fun v v' r k' h=>?_
  simp only
  split
  ·rcases relSep hp n r.tail k' with ⟨e,h1,h2⟩|⟨q,q',r2,k2,h1,h2,h3⟩
   ·rw[h1,h2];exact relErr e
   ·rw[h1,h2]
    exact relOk (relPair h h3 (fun x y=>x::y) (fun x y hx=>⟨x,List.mem_cons_self ..,hx⟩) fun x y ⟨z,hz,hb⟩=>⟨z,List.mem_cons_of_mem _ hz,hb⟩)
  ·exact relOk (relMap h (fun x=>[x]) fun x hx=>⟨x,List.mem_singleton.2 rfl,hx⟩)
section
variable {s:List TyD} {f f':Int→List TokD→Bool→PR Val}
def RelF (s:List TyD) (f f':Int→List TokD→Bool→PR Val):Prop:=∀t l k,RelP (fun v=>¬ okV s t v) k (f t l k) (f' t l false)
theorem relList (hf:RelF s f f') (x:TyD) (l:List TokD) (k:Bool):RelP (fun vs:List Val=>∃v∈vs,¬ okV s x.elem v) k (listP f x l k) (listP f' x l false):=by
 unfold listP;refine relTok _ fun l1 _=>?_
 split
 ·exact relOk (relSame _ _)
 ·refine relBind (relSep (hf x.elem) (l1.length+1) l1 k) fun v v' r k' h=>?_
  refine relTok _ fun l2 _=>?_
  exact relOk h
theorem relEnt (hf:RelF s f f') (x:TyD) (l:List TokD) (k:Bool):RelP (fun p:Val×Val=>¬ okV s x.key p.1∨¬ okV s x.elem p.2) k (entrP f x l k) (entrP f' x l false):=by
 unfold entrP;refine relBind (hf x.key l k) fun v v' r k' h=>?_
 refine relTok _ fun l1 _=>?_
 rcases hf x.elem l1 k' with ⟨e,h1,h2⟩|⟨q,q',r2,k2,h1,h2,h3⟩
 ·simp only[h1,h2];exact relErr e
 ·simp only[h1,h2]
  exact relOk (relPair h h3 (fun a b=>(a,b)) (fun _ _=>Or.inl) fun _ _=>Or.inr)
theorem relMapP (hf:RelF s f f') (x:TyD) (l:List TokD) (k:Bool):RelP (fun ps:List (Val×Val)=>∃p∈ps,¬ okV s x.key p.1∨¬ okV s x.elem p.2) k (mapP f x l k) (mapP f' x l false):=by
 unfold mapP;refine relTok _ fun l1 _=>?_
 split
 ·refine relTok _ fun l2 _=>?_
  exact relOk (relSame _ _)
 ·split
  ·exact relErr 2
  ·refine relBind (relSep (relEnt hf x) (l1.length+1) l1 k) fun v v' r k' h=>?_
   refine relTok _ fun l2 _=>?_
   exact relOk h
theorem relOpt (hf:RelF s f f') (x:TyD) (l:List TokD) (k:Bool):RelP (fun vs:List Val=>∃v∈vs,¬ okV s x.elem v) k (optP f x l k) (optP f' x l false):=by
 unfold optP;refine relTok _ fun p _=>?_
 split
 ·exact relOk (relSame _ _)
 ·split
  ·refine relTok _ fun l2 _=>?_
   refine relBind (hf x.elem l2 k) fun v v' r k' h=>?_
   refine relTok _ fun l4 _=>?_
   exact relOk (relMap h (fun v=>[v]) fun v hv=>⟨v,List.mem_singleton.2 rfl,hv⟩)
  ·exact relErr 2
def badMs (s:List TyD) (ms:List MemD) (vs:List Val):Prop:=∃ (i:Nat) (h:i<ms.length) (h':i<vs.length),¬ okV s ms[i].type vs[i]
theorem relMems (hf:RelF s f f'):∀ (ms:List MemD) (first:Bool) (l:List TokD) (k:Bool),RelP (badMs s ms) k (memsP f first ms l k) (memsP f' first ms l false)
 | [],_,l,k=>relOk (relSame _ _)
 | y::ms,first,l,k=>by
  rw[memsP,memsP];refine relTok _ fun l0 _=>?_
  refine relTok _ fun p _=>?_
  split
  ·refine relTok _ fun l2 _=>?_
   refine relBind (hf y.type l2 k) fun v v' r k' h=>?_
   simp only
   rcases relMems hf ms false r k' with ⟨e,h1,h2⟩|⟨q,q',r2,k2,h1,h2,h3⟩
   ·rw[h1,h2];exact relErr e
   ·rw[h1,h2]
    exact relOk (relPair h h3 (fun a b=>a::b) (fun a b ha=>⟨0,by simp,by simp,ha⟩) fun a b ⟨i,h4,h5,h6⟩=>⟨i+1,by simpa using h4,by simpa using h5,by simpa using h6⟩)
  ·exact relErr 4
theorem relRaws:∀ (n:Nat) (first:Bool) (l:List TokD),(∃e,rawsP false n first l = .error e∧rawsP true n first l = .error e) ∨
  ∃v v' r,rawsP false n first l = .ok (v,r)∧rawsP true n first l = .ok (v',r)∧(v'=v∨((∃x∈v,freeD x.id=false)∧∃x∈v',freeD x.id=false))
 | 0,_,_=>Or.inl ⟨0,rfl,rfl⟩
 | n+1,first,l=>by
  rw[rawsP,rawsP]
  split
  ·exact Or.inr ⟨[],[],l,rfl,rfl,Or.inl rfl⟩
  ·generalize (if first=true then Except.ok l else syP ⟨#[44]⟩ l)=a1
   cases a1 with
   | error e=>exact Or.inl ⟨e,rfl,rfl⟩
   | ok l1 =>
    simp only[zM];generalize tkP 2 l1=a2
    cases a2 with
    | error e=>exact Or.inl ⟨e,rfl,rfl⟩
    | ok p =>
     simp only[zM];generalize syP ⟨#[58]⟩ p.2=a3
     cases a3 with
     | error e=>exact Or.inl ⟨e,rfl,rfl⟩
     | ok l3 =>
      simp only[zM];generalize tkP 3 l3=a4
      cases a4 with
      | error e=>exact Or.inl ⟨e,rfl,rfl⟩
      | ok q =>
       simp only[zM]
       rcases relRaws n false q.2 with ⟨e,h1,h2⟩|⟨v,v',r,h1,h2,h3⟩
       ·rw[h1,h2];exact Or.inl ⟨e,rfl,rfl⟩
       ·rw[h1,h2]
        refine Or.inr ⟨_,_,_,rfl,rfl,?_⟩;rw[idF_false];simp only
        by_cases hi:idF true p.1.int=p.1.int
        ·rw[hi]
         rcases h3 with rfl|⟨⟨x,hx,h4⟩,⟨y,hy,h5⟩⟩
         ·exact Or.inl rfl
         ·exact Or.inr ⟨⟨x,List.mem_cons_of_mem _ hx,h4⟩,⟨y,List.mem_cons_of_mem _ hy,h5⟩⟩
        ·have:=idF_bad hi
         refine Or.inr ⟨⟨_,List.mem_cons_self ..,?_⟩,⟨_,List.mem_cons_self ..,?_⟩⟩
         ·rw[Bool.eq_false_iff,ne_eq,free_iff];exact this.2
         ·rw[Bool.eq_false_iff,ne_eq,free_iff];exact this.1
def badRec (s:List TyD) (x:TyD) (p:List Val×List RawD):Prop:=badMs s x.mems p.1∨∃r∈p.2,freeD r.id=false
theorem relRec (hf:RelF s f f') (x:TyD) (l:List TokD) (k:Bool):RelP (badRec s x) k (recP false f x l k) (recP true f' x l false):=by
 unfold recP;refine relTok _ fun l1 _=>?_
 refine relBind (relMems hf x.mems true l1 k) fun v v' r k' h=>?_
 simp only
 rcases relRaws (r.length+1) x.mems.isEmpty r with ⟨e,h1,h2⟩|⟨w,w',r2,h1,h2,h3⟩
 ·rw[h1,h2];exact relErr e
 ·rw[h1,h2]
  simp only[zM];refine relTok _ fun l2 _=>?_
  have h4:Rel (fun w:List RawD=>∃x∈w,freeD x.id=false) k' w k' w':=by
   refine ⟨id,?_⟩
   rcases h3 with h3|h3
   ·exact Or.inl ⟨h3,rfl⟩
   ·exact Or.inr ⟨h3.2,Or.inr h3.1⟩
  exact relOk (relPair h h4 (fun a b=>(a,b)) (fun _ _=>Or.inl) fun _ _=>Or.inr)
def badUni (s:List TyD) (x:TyD) (p:Int×List Val×List RawD):Prop:=¬ (1≤p.1∧p.1≤1000)∨∃y∈x.mems,y.id=p.1∧x.mems.find? (fun z=>decide (z.id=p.1))=some y∧∃v∈p.2.1,¬ okV s y.type v
theorem find_id {x:TyD} (hd:(x.mems.map MemD.id).Nodup) {y:MemD} (hy:y∈x.mems):x.mems.find? (fun z=>decide (z.id=y.id))=some y:=by
 generalize x.mems=l at *
 induction l with
 | nil=>cases hy
 | cons a l ih =>
  rw[List.map_cons,List.nodup_cons] at hd;rw[List.find?_cons]
  rcases List.mem_cons.1 hy with rfl|hy
  ·simp
  ·have:a.id≠y.id:=fun e=>hd.1 (by rw[e];exact List.mem_map_of_mem hy)
   simp only[this,decide_false];exact ih hd.2 hy
theorem relUni (hf:RelF s f f') {x:TyD} (hd:(x.mems.map MemD.id).Nodup) (l:List TokD) (k:Bool):RelP (badUni s x) k (uniP false f x l k) (uniP true f' x l false):=by
 unfold uniP
 split
 ·refine relTok _ fun p _=>?_
  refine relTok _ fun l2 _=>?_
  refine relTok _ fun q _=>?_
  refine relTok _ fun l4 _=>?_
  refine relOk ⟨id,?_⟩;rw[idF_false]
  by_cases hi:idF true p.1.int=p.1.int
  ·rw[hi];exact Or.inl ⟨rfl,rfl⟩
  ·have:=idF_bad hi
   exact Or.inr ⟨Or.inl this.1,Or.inr (Or.inl this.2)⟩
 ·refine relTok _ fun p _=>?_
  cases hc:x.mems.find? (fun y=>decide (y.name=p.1.text)) with
  | none=>exact relErr 4
  | some y =>
   simp only;refine relTok _ fun l2 _=>?_
   refine relBind (hf y.type l2 k) fun v v' r k' h=>?_
   refine relTok _ fun l4 _=>?_
   have hy:=List.mem_of_find?_eq_some hc;exact relOk (relMap h (fun v=>(y.id,[v],([]:List RawD))) fun v hv=>Or.inr ⟨y,hy,rfl,find_id hd hy,v,List.mem_singleton.2 rfl,hv⟩)
theorem relEnum {x:TyD} (hx:IdsT x) (l:List TokD) (k:Bool):RelP (fun n:Int=>¬ (1≤n∧n≤1000)) k (enumP false x l k) (enumP true x l false):=by
 unfold enumP
 split
 ·refine relTok _ fun p _=>?_
  rw[idF_false]
  by_cases hi:idF true p.1.int=p.1.int
  ·rw[hi]
   cases hk:knowP x p.1.int with
   | true =>
    simp only[if_true,Bool.false_eq_true,if_false];exact relOk ⟨fun _=>rfl,Or.inr ⟨by omega,Or.inl rfl⟩⟩
   | false =>
    simp only[Bool.false_eq_true,if_false];exact relOk (relSame _ _)
  ·have hb:=idF_bad hi
   have h1:knowP x p.1.int=false:=by
    cases hk:knowP x p.1.int with
    | false=>rfl
    | true=>exact absurd (know_in hx hk) hb.2
   have h2:knowP x (idF true p.1.int)=false:=by
    cases hk:knowP x (idF true p.1.int) with
    | false=>rfl
    | true=>exact absurd (know_in hx hk) hb.1
   rw[h1,h2];simp only[Bool.false_eq_true,if_false];exact relOk ⟨id,Or.inr ⟨hb.1,Or.inr hb.2⟩⟩
 ·refine relTok _ fun p _=>?_
  split
  ·exact relOk (relSame _ _)
  ·exact relErr 4
end
theorem okV_out {s:List TyD} {t:Int} {v:Val} (h:okV s t v):v.kind=(tyAt s t).kind∧∃n,fitB (fitF s false n) false (tyAt s t) v=true:=by
 obtain ⟨n,hn⟩:=h
 cases n with
 | zero=>cases hn
 | succ n =>
  rw[fitF] at hn
  split at hn
  ·cases hn
  ·split at hn
   ·cases hn
   ·rename_i h2
    exact ⟨by simp only[not_or,ne_eq,Decidable.not_not] at h2;exact h2.1,n,hn⟩
section
variable {s:List TyD} {f f':Int→List TokD→Bool→PR Val} {t:Int} {k:Bool}
theorem ok4 {n:Int} (hx:IdsT (tyAt s t)) (h:okV s t (.mk 4 false 0 ⟨#[]⟩ n [] [] [])):1≤n∧n≤1000:=by
 obtain ⟨hk,m,hf⟩:=okV_out h;have e:(tyAt s t).kind=4:=hk.symm;unfold fitB at hf;rw[if_neg (by omega),if_neg (by omega),if_pos e,Bool.or_eq_true] at hf
 rcases hf with hf|hf
 ·exact know_in hx hf
 ·rw[Bool.and_eq_true] at hf
  exact free_iff.1 hf.2
theorem ok5 {vs:List Val} {rs:List RawD} (h:okV s t (.mk 5 false 0 ⟨#[]⟩ 0 [] vs rs)):¬ badRec s (tyAt s t) (vs,rs):=by
 obtain ⟨hk,m,hf⟩:=okV_out h;have e:(tyAt s t).kind=5:=hk.symm;unfold fitB at hf;rw[if_neg (by omega),if_neg (by omega),if_neg (by omega),if_pos e] at hf
 simp only[Bool.and_eq_true] at hf;rintro (⟨i,h1,h2,h3⟩|⟨r,hr,h3⟩)
 ·exact h3 ⟨m,okZips _ _ hf.2 i h1 h2⟩
 ·rw[okRaws hf.1.2 r hr] at h3;cases h3
theorem ok6 {n:Int} {vs:List Val} {rs:List RawD} (hx:IdsT (tyAt s t)) (h:okV s t (.mk 6 false 0 ⟨#[]⟩ n [] vs rs)):¬ badUni s (tyAt s t) (n,vs,rs):=by
 obtain ⟨hk,m,hf⟩:=okV_out h;have e:(tyAt s t).kind=6:=hk.symm;unfold fitB at hf;rw[if_neg (by omega),if_neg (by omega),if_neg (by omega),if_neg (by omega),if_pos e] at hf
 rintro (hn|⟨y,hy,h1,h2,v,hv,h3⟩)
 ·cases hc:(tyAt s t).mems.find? fun m=>decide (m.id=(Val.mk 6 false 0 ⟨#[]⟩ n [] vs rs).id) with
  | none =>
   rw[hc] at hf;simp only[Bool.and_eq_true] at hf;exact hn (free_iff.1 hf.1.1.1.2)
  | some y =>
   have h1:=List.find?_some hc;have h2:=hx.2 y (List.mem_of_find?_eq_some hc);rw[decide_eq_true_eq] at h1;have h3:y.id=n:=h1
   omega
 ·have h2':(tyAt s t).mems.find? (fun m=>decide (m.id=(Val.mk 6 false 0 ⟨#[]⟩ n [] vs rs).id))=some y:=h2
  rw[h2'] at hf;simp only[Bool.and_eq_true,List.all_eq_true] at hf;exact h3 ⟨m,hf.2 v hv⟩
theorem ok7 {vs:List Val} (h:okV s t (.mk 7 false 0 ⟨#[]⟩ 0 [] vs [])):¬ ∃v∈vs,¬ okV s (tyAt s t).elem v:=by
 obtain ⟨hk,m,hf⟩:=okV_out h;have e:(tyAt s t).kind=7:=hk.symm;unfold fitB at hf;rw[if_neg (by omega),if_neg (by omega),if_neg (by omega),if_neg (by omega),if_neg (by omega),if_pos e] at hf
 simp only[Bool.and_eq_true,List.all_eq_true] at hf;rintro ⟨v,hv,h3⟩;exact h3 ⟨m,hf.2 v hv⟩
theorem ok8 {ps:List (Val×Val)} (h:okV s t (.mk 8 false 0 ⟨#[]⟩ 0 (ps.map Prod.fst) (ps.map Prod.snd) [])):¬ ∃p∈ps,¬ okV s (tyAt s t).key p.1∨¬ okV s (tyAt s t).elem p.2:=by
 obtain ⟨hk,m,hf⟩:=okV_out h;have e:(tyAt s t).kind=8:=hk.symm;unfold fitB at hf;rw[if_neg (by omega),if_neg (by omega),if_neg (by omega),if_neg (by omega),if_neg (by omega),if_neg (by omega),if_pos e] at hf
 simp only[Bool.and_eq_true,List.all_eq_true] at hf;rintro ⟨p,hp,h3|h3⟩
 ·exact h3 ⟨m,hf.1.1.2 _ (List.mem_map_of_mem hp)⟩
 ·exact h3 ⟨m,hf.2 _ (List.mem_map_of_mem hp)⟩
theorem ok9 {vs:List Val} (h:okV s t (.mk 9 false 0 ⟨#[]⟩ 0 [] vs [])):¬ ∃v∈vs,¬ okV s (tyAt s t).elem v:=by
 obtain ⟨hk,m,hf⟩:=okV_out h;have e:(tyAt s t).kind=9:=hk.symm;unfold fitB at hf;rw[if_neg (by omega),if_neg (by omega),if_neg (by omega),if_neg (by omega),if_neg (by omega),if_neg (by omega),if_neg (by omega),if_pos e] at hf
 simp only[Bool.and_eq_true,List.all_eq_true] at hf;rintro ⟨v,hv,h3⟩;exact h3 ⟨m,hf.2 v hv⟩
theorem relVal (hf:RelF s f f') (hx:IdsT (tyAt s t)) (hd:((tyAt s t).mems.map MemD.id).Nodup) (l:List TokD) (k:Bool):RelP (fun v=>¬ okV s t v) k (valB false f (tyAt s t) l k) (valB true f' (tyAt s t) l false):=by
 unfold valB
 repeat' split
 ·cases hb:boolP l k with
  | error e =>
   have:boolP l false = .error e:=by
    unfold boolP at *
    cases ht:tkP 1 l with
    | error e'=>rw[ht] at hb;exact hb
    | ok p =>
     rw[ht] at hb;simp only[zM] at *
     split at hb
     ·cases hb
     ·rename_i h1
      rw[if_neg h1]
      split at hb
      ·cases hb
      ·rename_i h2
       rw[if_neg h2];exact hb
   rw[this];exact relErr e
  | ok p =>
   obtain ⟨b,r,k'⟩:=p;have:boolP l false = .ok (b,r,false)∧k'=k:=by
    unfold boolP at *
    cases ht:tkP 1 l with
    | error e'=>rw[ht] at hb;cases hb
    | ok p =>
     rw[ht] at hb;simp only[zM] at *
     split at hb
     ·rename_i h1
      rw[if_pos h1]
      injection hb with hb;injection hb with h3 h4;injection h4 with h4 h5
      subst h3 h4 h5;exact ⟨rfl,rfl⟩
     ·rename_i h1
      rw[if_neg h1]
      split at hb
      ·rename_i h2
       rw[if_pos h2]
       injection hb with hb;injection hb with h3 h4;injection h4 with h4 h5
       subst h3 h4 h5;exact ⟨rfl,rfl⟩
      ·cases hb
   rw[this.1,this.2];exact relOk (relSame _ _)
 ·exact relTok _ fun p _=>relOk (relSame _ _)
 ·exact relTok _ fun p _=>relOk (relSame _ _)
 ·exact relBind (relEnum hx l k) fun v v' r k' h=>relOk (relMap h (fun n=>Val.mk 4 false 0 ⟨#[]⟩ n [] [] []) fun n hn hok=>hn (ok4 hx hok))
 ·exact relBind (relRec hf _ l k) fun v v' r k' h=>relOk (relMap h (fun p:List Val×List RawD=>Val.mk 5 false 0 ⟨#[]⟩ 0 [] p.1 p.2) fun p hp hok=>ok5 hok hp)
 ·exact relBind (relUni hf hd l k) fun v v' r k' h=>relOk (relMap h (fun p:Int×List Val×List RawD=>Val.mk 6 false 0 ⟨#[]⟩ p.1 [] p.2.1 p.2.2) fun p hp hok=>ok6 hx hok hp)
 ·exact relBind (relList hf _ l k) fun v v' r k' h=>relOk (relMap h (fun p:List Val=>Val.mk 7 false 0 ⟨#[]⟩ 0 [] p []) fun p hp hok=>ok7 hok hp)
 ·exact relBind (relMapP hf _ l k) fun v v' r k' h=>relOk (relMap h (fun p:List (Val×Val)=>Val.mk 8 false 0 ⟨#[]⟩ 0 (p.map Prod.fst) (p.map Prod.snd) []) fun p hp hok=>ok8 hok hp)
 ·exact relBind (relOpt hf _ l k) fun v v' r k' h=>relOk (relMap h (fun p:List Val=>Val.mk 9 false 0 ⟨#[]⟩ 0 [] p []) fun p hp hok=>ok9 hok hp)
end
theorem relValP {s:List TyD} (hx:∀t,IdsT (tyAt s t)) (hd:∀t,((tyAt s t).mems.map MemD.id).Nodup):∀n,RelF s (valP false s n) (valP true s n)
 | 0=>fun _ _ _=>relErr 0
 | n+1=>fun t l k=>relVal (relValP hx hd n) (hx t) (hd t) l k
def nmK (s:ByteArray):TokD:=⟨1,s,0,⟨#[]⟩,0⟩
def inK (n:Int):TokD:=⟨2,⟨#[]⟩,n,⟨#[]⟩,0⟩
def stK (s:ByteArray):TokD:=⟨3,⟨#[]⟩,0,s,0⟩
def syK (s:ByteArray):TokD:=⟨4,s,0,⟨#[]⟩,0⟩
def sepT {α:Type} (g:α→List TokD):List α→List TokD
 | []=>[]
 | [x]=>g x
 | x::y::r=>g x++syK ⟨#[44]⟩::sepT g (y::r)
def mtk (f:Int→Val→List TokD):Bool→List MemD→List Val→List TokD
 | first,y::ms,v::vs=>(if first=true then [] else [syK ⟨#[44]⟩])++nmK y.name::syK ⟨#[58]⟩::(f y.type v++mtk f false ms vs)
 | _,_,_=>[]
def rtk:Bool→List RawD→List TokD
 | first,r::rs=>(if first=true then [] else [syK ⟨#[44]⟩])++inK r.id::syK ⟨#[58]⟩::stK r.data::rtk false rs
 | _,[]=>[]
def etk (f g:Val→List TokD) (p:Val×Val):List TokD:=f p.1++syK ⟨#[45,62]⟩::g p.2
def enumT (x:TyD) (n:Int):List TokD:=match x.syms.find? fun y=>decide (y.id=n) with
 | some y=>[nmK y.name]
 | none=>[syK ⟨#[64]⟩,inK n]
def headV (h:Val→List TokD):List Val→List TokD
 | y::_=>h y
 | []=>[]
def headR:List RawD→List TokD
 | r::_=>[stK r.data]
 | []=>[]
def uniT (f:Int→Val→List TokD) (x:TyD) (n:Int) (vs:List Val) (rs:List RawD):List TokD:=match x.mems.find? fun m=>decide (m.id=n) with
 | some m=>nmK m.name::syK ⟨#[40]⟩::(headV (f m.type) vs++[syK ⟨#[41]⟩])
 | none=>syK ⟨#[64]⟩::inK n::syK ⟨#[40]⟩::(headR rs++[syK ⟨#[41]⟩])
def optT (h:Val→List TokD):List Val→List TokD
 | []=>[nmK ⟨#[110,111,110,101]⟩]
 | y::_=>nmK ⟨#[115,111,109,101]⟩::syK ⟨#[40]⟩::(h y++[syK ⟨#[41]⟩])
def tkBy (f:Int→Val→List TokD) (x:TyD) (v:Val):List TokD :=
 if x.kind=1 then [nmK (if v.bool then ⟨#[116,114,117,101]⟩ else ⟨#[102,97,108,115,101]⟩)]
 else if x.kind=2 then [inK v.int]
 else if x.kind=3 then [stK v.str]
 else if x.kind=4 then enumT x v.id
 else if x.kind=5 then syK ⟨#[123]⟩::(mtk f true x.mems v.items++(rtk x.mems.isEmpty v.rest++[syK ⟨#[125]⟩]))
 else if x.kind=6 then uniT f x v.id v.items v.rest
 else if x.kind=7 then syK ⟨#[91]⟩::(sepT (f x.elem) v.items++[syK ⟨#[93]⟩])
 else if x.kind=8 then syK ⟨#[91]⟩::(if v.keys.length=0 then [syK ⟨#[45,62]⟩,syK ⟨#[93]⟩] else sepT (etk (f x.key) (f x.elem)) (v.keys.zip v.items)++[syK ⟨#[93]⟩])
 else optT (f x.elem) v.items
def tkF (s:List TyD):Nat→Int→Val→List TokD
 | 0,_,_=>[]
 | n+1,t,v=>tkBy (tkF s n) (tyAt s t) v
theorem proper_eq {v:Val} (h:zJ v=true):v=bareD v:=by
 unfold zJ at h;simp only[Bool.and_eq_true,decide_eq_true_eq] at h;obtain ⟨⟨⟨⟨⟨⟨h1,h2⟩,h3⟩,h4⟩,h5⟩,h6⟩,h7⟩:=h;obtain ⟨k,b,i,s,d,ks,is,r⟩:=v;unfold bareD at *;simp only[Val.kind,Val.bool,Val.int,Val.str,Val.id,Val.keys,Val.items,Val.rest] at *;rw[←h1,←h2,←h3,←h4];have g:∀ {α:Type} (p:Prop) [Decidable p] (l:List α),l.length=(if p then l else []).length→l=if p then l else []:=fun p _ l h=>by
  split at h
  ·rename_i hp;rw[if_pos hp]
  ·rename_i hp;rw[if_neg hp];exact List.eq_nil_of_length_eq_zero h
 rw[←g _ _ h5,←g _ _ h6,←g _ _ h7]
theorem find_key {α β:Type} [DecidableEq β] {g:α→β}:∀ {l:List α},(l.map g).Nodup→∀ {y:α},y∈l→l.find? (fun z=>decide (g z=g y))=some y
 | a::l,hd,y,hy=>by
  rw[List.map_cons,List.nodup_cons] at hd;rw[List.find?_cons]
  rcases List.mem_cons.1 hy with rfl|hy
  ·simp
  ·have:g a≠g y:=fun e=>hd.1 (by rw[e];exact List.mem_map_of_mem hy)
   simp only[this,decide_false];exact find_key hd.2 hy
section
variable {f:Int→List TokD→Bool→PR Val} {g:Int→Val→List TokD}
end
theorem LexA.appS {a b:List UInt8} {u w:List TokD} (h1:LexA a u) (h2:LexS b w):LexS (a++b) (u++w):=fun ln rest hr=>by
 rw[List.append_assoc,h1,h2 ln rest hr,map_map_e,List.map_append]
theorem LexS.appS {a b:List UInt8} {u w:List TokD} (h1:LexS a u) (hb:Stop b) (h2:LexS b w):LexS (a++b) (u++w):=fun ln rest hr=>by
 rw[List.append_assoc,h1 ln _ (hb.sep rest),h2 ln rest hr,map_map_e,List.map_append]
theorem sep_nil:SepL []:=fun c q h=>by cases h
theorem lex_tok {c:UInt8} {r rest:List UInt8} {t:TokD} (ln:Int) (h1:c.toNat≠10) (h2:¬ (c.toNat=32∨c.toNat=9)) (h3:¬ (c.toNat=47∧((r++rest).headD 0).toNat=47)) (ht:tokL (c::(r++rest))=some (t,(c::r).length)) :
  toksL ln (c::r++rest)=(toksL ln rest).map fun o=>[t].map (atL ln)++o:=by
 rw[List.cons_append,toksL_cons,if_neg h1,if_neg h2,if_neg h3,ht];simp only;rw[show (c::(r++rest)).drop (c::r).length=rest by rw[←List.cons_append];exact List.drop_left]
 rfl
theorem letDig {c:UInt8} (h:zZ c=true):isLetB c=false:=let_no (by have:=dig_rng.1 h;omega)
theorem lett_app {a r:List UInt8} (ha:a.all (fun d=>isLetB d||zZ d)=true) (hr:SepL r):lettK (a++r)=a.length:=by
 induction a with
 | nil =>
  cases r with
  | nil=>rfl
  | cons c q=>rw[List.nil_append,lettK,hr c q rfl];rfl
 | cons c q ih =>
  rw[List.all_cons,Bool.and_eq_true] at ha;rw[List.cons_append,lettK,if_pos ha.1,ih ha.2];rfl
theorem digi_app {a r:List UInt8} (ha:∀c∈a,zZ c=true) (hr:SepL r):digiK (a++r)=a.length:=by
 induction a with
 | nil =>
  cases r with
  | nil=>rfl
  | cons c q =>
   have:=hr c q rfl;rw[Bool.or_eq_false_iff] at this;rw[List.nil_append,digiK,this.2];rfl
 | cons c q ih =>
  rw[List.cons_append,digiK,if_pos (ha c (List.mem_cons_self ..)),ih fun d hd=>ha d (List.mem_cons_of_mem _ hd)];rfl
theorem bA_list (s:ByteArray):bA s.data.toList=s:=rfl
theorem lex_nm {s:ByteArray} (h:nameB s=true):LexS s.data.toList [nmK s]:=fun ln rest hr=>by
 unfold nameB at h;simp only[Bool.and_eq_true,decide_eq_true_eq] at h;obtain ⟨⟨⟨h0,h1⟩,h2⟩,h3⟩:=h;have hlen:s.data.toList.length=s.size:=rfl;have hbs:=bA_list s;generalize s.data.toList=l at *
 cases l with
 | nil=>rw[←hlen] at h0;cases h0
 | cons c q =>
  have hc:isLetB c=true:=h2;have hg:=let_rng hc;have ha:(c::q).all (fun d=>isLetB d||zZ d)=true:=h3
  refine lex_tok ln (by omega) (by omega) (by omega) ?_
  have hk:=lett_app ha hr;rw[List.cons_append] at hk;rw[tokL,hc,if_pos rfl,hk,if_pos (by rw[hlen];exact h1)]
  have ht:(c::(q++rest)).take (c::q).length=c::q:=by rw[←List.cons_append];exact List.take_left
  rw[ht,hbs];rfl
theorem itoa_parts (v:Int):(∃c q,Lib.itoa v=c::q∧zZ c=true∧∀d∈q,zZ d=true)∨(∃d q,Lib.itoa v=45::d::q∧zZ d=true∧∀e∈q,zZ e=true):=by
 have hd:∀u:Nat,∀b∈Lib.decDigits u,zZ b=true:=fun u b hb=>dig_rng.2 (decDigitsL_mem u b hb)
 by_cases hn:v<0
 ·have hv:v = -(v.natAbs:Int):=by omega
  rw[hv,Lib.itoa_neg _ (by omega)]
  cases hc:Lib.decDigits v.natAbs with
  | nil=>exact absurd hc (decDigitsL_ne _)
  | cons c q=>exact Or.inr ⟨c,q,rfl,hd _ _ (by rw[hc];exact List.mem_cons_self ..),fun d hm=>hd v.natAbs d (by rw[hc];exact List.mem_cons_of_mem _ hm)⟩
 ·have hv:v=(v.toNat:Int):=by omega
  rw[hv,Lib.itoa_nonneg]
  cases hc:Lib.decDigits v.toNat with
  | nil=>exact absurd hc (decDigitsL_ne _)
  | cons c q=>exact Or.inl ⟨c,q,rfl,hd _ _ (by rw[hc];exact List.mem_cons_self ..),fun d hm=>hd v.toNat d (by rw[hc];exact List.mem_cons_of_mem _ hm)⟩
theorem lex_in {v:Int} (h:-9223372036854775808≤v∧v≤9223372036854775807):LexS (Lib.itoa v) [inK v]:=fun ln rest hr=>by
 have hi:intL (Lib.itoa v)=some v:=intL_iff.2 ⟨h,rfl⟩
 rcases itoa_parts v with ⟨c,q,e,hc,hq⟩|⟨d,q,e,hd,hq⟩
 ·rw[e] at hi ⊢
  have hg:=dig_rng.1 hc;refine lex_tok ln (by omega) (by omega) (by omega) ?_
  have hk:=digi_app hq hr;rw[tokL,letDig hc,if_neg (by simp),hc,Bool.true_or,if_pos rfl,hk]
  have ht:(c::(q++rest)).take (1+q.length)=c::q:=by rw[Nat.add_comm,List.take_succ_cons,List.take_left]
  rw[ht,hi,Nat.add_comm];rfl
 ·rw[e] at hi ⊢
  have hg:=dig_rng.1 hd;have h45:(45:UInt8).toNat=45:=rfl;refine lex_tok ln (by omega) (by omega) (by omega) ?_
  have hk:digiK (d::q++rest)=(d::q).length:=digi_app (fun c hc=>by
   rcases List.mem_cons.1 hc with rfl|hc
   ·exact hd
   ·exact hq c hc) hr
  rw[tokL,let_no (by omega),if_neg (by simp),dig_no (by omega),Bool.false_or]
  have h1:(decide ((45:UInt8).toNat=45)&&zZ ((d::q++rest).headD 0))=true:=by
   rw[Bool.and_eq_true];exact ⟨rfl,hd⟩
  rw[h1,if_pos rfl,hk];have ht:((45:UInt8)::(d::q++rest)).take (1+(d::q).length)=45::d::q:=by rw[Nat.add_comm,List.take_succ_cons,List.take_left]
  rw[ht,hi,Nat.add_comm];rfl
theorem quBL_head (b:UInt8):∃c q,quBL b=c::q∧c.toNat≠34:=by
 unfold quBL
 split
 ·exact ⟨92,_,rfl,by decide⟩
 ·rename_i h1
  split
  ·exact ⟨92,_,rfl,by decide⟩
  ·split
   ·exact ⟨92,_,rfl,by decide⟩
   ·exact ⟨b,_,rfl,by omega⟩
theorem quo_all:∀ (l rest:List UInt8),quoL (l.flatMap quBL++34::rest)=some (l,(l.flatMap quBL).length+1)
 | [],rest=>by
  rw[List.flatMap_nil,List.nil_append,quoL_cons,if_pos (show (34:UInt8).toNat=34 from rfl)];rfl
 | b::l,rest=>by
  obtain ⟨c,q,hc,hn⟩:=quBL_head b;have hp:partL (quBL b++(l.flatMap quBL++34::rest))=some (b,(quBL b).length):=part_of b _ ⟨_,rfl⟩ fun d p e=>by
   rw[hc] at e
   injection e with e1 e2
   rw[←e1];exact hn
  have hd:(quBL b++(l.flatMap quBL++34::rest)).drop (quBL b).length=l.flatMap quBL++34::rest:=List.drop_left;rw[List.flatMap_cons,List.append_assoc];rw[hc] at hp hd ⊢;rw[List.cons_append] at hp hd ⊢;rw[quoL_cons,if_neg hn,hp];simp only;rw[hd,quo_all l rest];simp only[Option.map_some,List.length_append,List.length_cons]
  congr 2
  omega
theorem lex_st (s:ByteArray):LexA (quD s).data.toList [stK s]:=fun ln rest=>by
 rw[quD_list];have h34:(34:UInt8).toNat=34:=rfl;refine lex_tok ln (by omega) (by omega) (by omega) ?_
 rw[tokL,let_no (by omega),if_neg (by simp),dig_no (by omega),if_neg (by simp[h34]),if_pos h34]
 rw[List.append_assoc,List.singleton_append,quo_all];simp only[Option.map_some,List.length_cons,List.length_append,List.length_nil]
 rfl
theorem lex_sy {c:UInt8} (h:c.toNat=123∨c.toNat=125∨c.toNat=40∨c.toNat=41∨c.toNat=91∨c.toNat=93∨c.toNat=44∨c.toNat=58∨c.toNat=64):LexA [c] [syK ⟨#[c]⟩]:=fun ln rest=>by
 refine lex_tok ln (by omega) (by omega) (by omega) ?_
 rw[List.nil_append,tokL,let_no (by omega),if_neg (by simp),dig_no (by omega),Bool.false_or]
 rw[if_neg (by rw[Bool.and_eq_true,decide_eq_true_eq];omega),if_neg (by omega)]
 rw[symL_one (by omega) (by omega) (by unfold oneS;omega)];rfl
theorem lex_to:LexA [45,62] [syK ⟨#[45,62]⟩]:=fun ln rest=>by
 have h45:(45:UInt8).toNat=45:=rfl;refine lex_tok ln (by omega) (by omega) (by omega) ?_
 rw[List.singleton_append,tokL,let_no (by omega),if_neg (by simp),dig_no (by omega),Bool.false_or,List.headD_cons,dig_no (by decide),Bool.and_false]
 rw[if_neg (by simp),if_neg (by omega),symL_two (Or.inl ⟨rfl,rfl⟩)];rfl
theorem lex_sp:LexA [32] []:=fun ln rest=>by
 rw[List.singleton_append,toksL_cons,if_neg (by decide),if_pos (by decide)]
 cases toksL ln rest <;> rfl
section
variable {f:Int→List TokD→Bool→PR Val} {g:Int→Val→List TokD} {x:TyD} {k:Bool} {more:List TokD}
end
section
variable {s:List TyD} {n:Nat} {t:Int} {v:Val}
end
def CanT (t:TokD):Prop:=(t.kind=1→stripT t=nmK t.text)∧(t.kind=2→stripT t=inK t.int)∧(t.kind=3→stripT t=stK t.str)∧(t.kind=4→stripT t=syK t.text)
def CanL (l:List TokD):Prop:=∀t∈l,CanT t
theorem Front.can {l r w:List TokD} (h:Front l r w) (hc:CanL l):CanL r:=fun t ht=>by
 obtain ⟨pre,rfl,_⟩:=h;exact hc t (List.mem_append_right _ ht)
theorem tk_front {k:Int} {l r:List TokD} {t:TokD} (h:tkP k l = .ok (t,r)):Front l r [stripT t]:=by
 obtain ⟨_,rfl,_⟩:=tkP_lt h;exact ⟨[t],rfl,rfl⟩
theorem tk_mem {k:Int} {l r:List TokD} {t:TokD} (h:tkP k l = .ok (t,r)):t∈l∧t.kind=k:=by
 obtain ⟨_,rfl,h2⟩:=tkP_lt h;exact ⟨List.mem_cons_self ..,h2⟩
theorem nm_front {l r:List TokD} {t:TokD} (hc:CanL l) (h:tkP 1 l = .ok (t,r)):Front l r [nmK t.text]:=by
 have:=tk_front h
 rwa [(hc t (tk_mem h).1).1 (tk_mem h).2] at this
theorem in_front {l r:List TokD} {t:TokD} (hc:CanL l) (h:tkP 2 l = .ok (t,r)):Front l r [inK t.int]:=by
 have:=tk_front h
 rwa [(hc t (tk_mem h).1).2.1 (tk_mem h).2] at this
theorem st_front {l r:List TokD} {t:TokD} (hc:CanL l) (h:tkP 3 l = .ok (t,r)):Front l r [stK t.str]:=by
 have:=tk_front h
 rwa [(hc t (tk_mem h).1).2.2.1 (tk_mem h).2] at this
theorem is_front {s:ByteArray} {l:List TokD} (hc:CanL l) (h:isP s l=true):Front l l.tail [syK s]:=by
 obtain ⟨t,r,rfl,hk,ht⟩:=isP_cons h;refine ⟨[t],rfl,?_⟩;rw[List.map_singleton,(hc t (List.mem_cons_self ..)).2.2.2 hk,ht]
theorem sy_front {s:ByteArray} {l r:List TokD} (hc:CanL l) (h:syP s l = .ok r):Front l r [syK s]:=by
 obtain ⟨_,hi,rfl⟩:=zU h;exact is_front hc hi
theorem mono_of {α:Type} {part part':List TokD→Bool→PR α} {bad:α→Prop} (h:∀l k,RelP bad k (part l k) (part' l false)):Mono part:=fun l k x r k' he hk=>by
 rcases h l k with ⟨e,h1,_⟩|⟨v,v',r',k'',h1,_,h3⟩
 ·rw[he] at h1;cases h1
 ·rw[he] at h1
  injection h1 with h1;injection h1 with h4 h5;injection h5 with h5 h6
  rw[h6];exact h3.mono hk
theorem sep_fwd {α:Type} {part:List TokD→Bool→PR α} (hm:Mono part) (hms:∀n,Mono (sepP part n)) {g:α→List TokD} (P:α→Prop) (hp:∀l k x r,CanL l→part l k = .ok (x,r,false)→P x→Front l r (g x)) :
  ∀ (n:Nat) l k xs r,CanL l→sepP part n l k = .ok (xs,r,false)→(∀x∈xs,P x)→Front l r (sepT g xs)
 | 0,_,_,_,_,_,h,_=>by cases h
 | n+1,l,k,xs,r,hc,h,hx=>by
  rw[sepP] at h;obtain ⟨⟨x,l1,k1⟩,h1,h⟩:=zS h;simp only at h
  split at h
  ·rename_i hi
   obtain ⟨⟨q,l2,k2⟩,h2,h⟩:=zS h
   injection h with h;injection h with h3 h4;injection h4 with h4 h5
   try simp only at h4 h5
   subst h3 h4 h5;have hk1:=(hms n).false h2;subst hk1;have f1:=hp _ _ _ _ hc h1 (hx x (List.mem_cons_self ..));have c1:=f1.can hc;have f2:=is_front c1 hi;have f3:=sep_fwd hm hms P hp n _ _ _ _ (f2.can c1) h2 fun y hy=>hx y (List.mem_cons_of_mem _ hy)
   have:=f1.app (f2.app f3)
   cases q with
   | nil=>exact absurd h2 (by
     intro h2
     cases n with
     | zero=>cases h2
     | succ n =>
      rw[sepP] at h2;obtain ⟨⟨y,l3,k3⟩,_,h2⟩:=zS h2;try simp only at h2
      split at h2
      ·obtain ⟨⟨z,l4,k4⟩,_,h2⟩:=zS h2
       injection h2 with h2;injection h2 with h2 _;cases h2
      ·injection h2 with h2;injection h2 with h2 _;cases h2)
   | cons y q=>exact this
  ·injection h with h;injection h with h3 h4;injection h4 with h4 h5
   try simp only at h4 h5
   subst h3 h4 h5;exact hp _ _ _ _ hc h1 (hx x (List.mem_cons_self ..))
section
variable {f:Int→List TokD→Bool→PR Val} {g:Int→Val→List TokD}
def Fwd (f:Int→List TokD→Bool→PR Val) (g:Int→Val→List TokD) (P:Int→Val→Prop):Prop:=∀t l k v r,CanL l→f t l k = .ok (v,r,false)→P t v→Front l r (g t v)
variable {P:Int→Val→Prop}
theorem ent_fwd (hm:∀t,Mono (f t)) (hf:Fwd f g P) (x:TyD):∀l k p r,CanL l→entrP f x l k = .ok (p,r,false)→(P x.key p.1∧P x.elem p.2)→Front l r (etk (g x.key) (g x.elem) p):=fun l k p r hc h hp=>by
 unfold entrP at h;obtain ⟨⟨a,l1,k1⟩,h1,h⟩:=zS h;obtain ⟨l2,h2,h⟩:=zS h;obtain ⟨⟨b,l3,k3⟩,h3,h⟩:=zS h
 injection h with h;injection h with h4 h5;injection h5 with h5 h6
 try simp only at h2 h3 h5 h6
 subst h4 h5 h6;have hk:=(hm _).false h3;subst hk;have f1:=hf _ _ _ _ _ hc h1 hp.1;have c1:=f1.can hc;have f2:=sy_front c1 h2;have c2:=f2.can c1;exact f1.app (f2.app (hf _ _ _ _ _ c2 h3 hp.2))
theorem mems_fwd (hm:∀t,Mono (f t)) (hms:∀b ms,Mono (memsP f b ms)) (hf:Fwd f g P):∀ (ms:List MemD) (first:Bool) l k vs r,CanL l→memsP f first ms l k = .ok (vs,r,false)→(∀i (h:i<ms.length) (h':i<vs.length),P ms[i].type vs[i])→Front l r (mtk g first ms vs)
 | [],first,l,k,vs,r,_,h,_=>by
  rw[memsP] at h
  injection h with h;injection h with h1 h2;injection h2 with h2 h3
  subst h1 h2
  cases first <;> exact Front.refl _
 | y::ms,first,l,k,vs,r,hc,h,hP=>by
  rw[memsP] at h;obtain ⟨l0,h0,h⟩:=zS h;obtain ⟨⟨t,l1⟩,h1,h⟩:=zS h;simp only at h
  split at h
  ·rename_i htx
   obtain ⟨l2,h2,h⟩:=zS h;obtain ⟨⟨a,l3,k3⟩,h3,h⟩:=zS h;obtain ⟨⟨b,l4,k4⟩,h4,h⟩:=zS h
   injection h with h;injection h with h5 h6;injection h6 with h6 h7
   try simp only at h4 h6 h7
   subst h5 h6 h7;have hk:=(hms _ _).false h4;subst hk;have f0:Front l l0 (if first=true then [] else [syK ⟨#[44]⟩]):=by
    cases first
    ·exact sy_front hc h0
    ·injection h0 with h0;subst h0;exact Front.refl _
   have c0:=f0.can hc;have f1:=nm_front c0 h1;have c1:=f1.can c0;have f2:=sy_front c1 h2;have c2:=f2.can c1;have f3:=hf _ _ _ _ _ c2 h3 (hP 0 (by simp) (by simp))
   have c3:=f3.can c2;have f4:=mems_fwd hm hms hf ms false _ _ _ _ c3 h4 fun i h1 h2=>hP (i+1) (by simpa using h1) (by simpa using h2)
   have:=f0.app (f1.app (f2.app (f3.app f4)));rw[htx] at this;exact this
  ·cases h
theorem raws_fwd:∀ (n:Nat) (first:Bool) l rs r,CanL l→rawsP false n first l = .ok (rs,r)→Front l r (rtk first rs)
 | 0,_,_,_,_,_,h=>by cases h
 | n+1,first,l,rs,r,hc,h=>by
  rw[rawsP] at h
  split at h
  ·injection h with h;injection h with h1 h2
   subst h1 h2
   cases first <;> exact Front.refl _
  ·obtain ⟨l0,h0,h⟩:=zS h
   obtain ⟨⟨t,l1⟩,h1,h⟩:=zS h;obtain ⟨l2,h2,h⟩:=zS h;obtain ⟨⟨u,l3⟩,h3,h⟩:=zS h;obtain ⟨⟨b,l4⟩,h4,h⟩:=zS h
   injection h with h;injection h with h5 h6
   try simp only at h4 h6
   subst h5 h6;have f0:Front l l0 (if first=true then [] else [syK ⟨#[44]⟩]):=by
    cases first
    ·exact sy_front hc h0
    ·injection h0 with h0;subst h0;exact Front.refl _
   have c0:=f0.can hc;have f1:=in_front c0 h1;have c1:=f1.can c0;have f2:=sy_front c1 h2;have c2:=f2.can c1;have f3:=st_front c2 h3;have c3:=f3.can c2;have f4:=raws_fwd n false _ _ _ c3 h4;rw[idF_false];exact f0.app (f1.app (f2.app (f3.app f4)))
theorem rec_fwd (hm:∀t,Mono (f t)) (hms:∀b ms,Mono (memsP f b ms)) (hf:Fwd f g P) (x:TyD) {l k vs rs r} (hc:CanL l) (h:recP false f x l k = .ok ((vs,rs),r,false)) (hP:∀i (h:i<x.mems.length) (h':i<vs.length),P x.mems[i].type vs[i]) :
  Front l r (syK ⟨#[123]⟩::(mtk g true x.mems vs++(rtk x.mems.isEmpty rs++[syK ⟨#[125]⟩]))):=by
 unfold recP at h;obtain ⟨l1,h1,h⟩:=zS h;obtain ⟨⟨a,l2,k2⟩,h2,h⟩:=zS h;obtain ⟨⟨b,l3⟩,h3,h⟩:=zS h;obtain ⟨l4,h4,h⟩:=zS h
 injection h with h;injection h with h5 h6;injection h6 with h6 h7
 injection h5 with h8 h9
 try simp only at h3 h4 h7 h8 h9
 subst h6 h7 h8 h9;have f1:=sy_front hc h1;have c1:=f1.can hc;have f2:=mems_fwd hm hms hf _ _ _ _ _ _ c1 h2 hP;have c2:=f2.can c1;have f3:=raws_fwd _ _ _ _ _ c2 h3;have c3:=f3.can c2;exact f1.app (f2.app (f3.app (sy_front c3 h4)))
theorem uni_fwd (hf:Fwd f g P) {x:TyD} (hx:TyOkL x) {l k n vs rs r} (hc:CanL l) (h:uniP false f x l k = .ok ((n,vs,rs),r,false)) (hno:vs=[]→x.mems.find? (fun m=>decide (m.id=n))=none) (hP:∀y v,x.mems.find? (fun m=>decide (m.id=n))=some y→v∈vs→P y.type v) :
  Front l r (uniT g x n vs rs):=by
 unfold uniP at h
 split at h
 ·rename_i hi
  obtain ⟨⟨t,l1⟩,h1,h⟩:=zS h;obtain ⟨l2,h2,h⟩:=zS h;obtain ⟨⟨u,l3⟩,h3,h⟩:=zS h;obtain ⟨l4,h4,h⟩:=zS h
  injection h with h;injection h with h5 h6;injection h6 with h6 h7
  injection h5 with h8 h9;injection h9 with h9 h10
  rw[idF_false] at h8 h10;try simp only at h2 h4 h8 h9 h10
  subst h6 h8 h9 h10;have f0:=is_front hc hi;have c0:=f0.can hc;have f1:=in_front c0 h1;have c1:=f1.can c0;have f2:=sy_front c1 h2;have c2:=f2.can c1;have f3:=st_front c2 h3;have c3:=f3.can c2;have:=f0.app (f1.app (f2.app (f3.app (sy_front c3 h4))));unfold uniT;rw[hno rfl];exact this
 ·obtain ⟨⟨t,l1⟩,h1,h⟩:=zS h
  simp only at h
  split at h
  ·cases h
  ·rename_i y hy
   obtain ⟨l2,h2,h⟩:=zS h;obtain ⟨⟨a,l3,k3⟩,h3,h⟩:=zS h;obtain ⟨l4,h4,h⟩:=zS h
   injection h with h;injection h with h5 h6;injection h6 with h6 h7
   injection h5 with h8 h9;injection h9 with h9 h10
   try simp only at h4 h7 h9 h10
   subst h6 h7 h8 h9 h10;have hmem:=List.mem_of_find?_eq_some hy;have hfi:=find_id hx.midN hmem;have hnm:=List.find?_some hy;rw[decide_eq_true_eq] at hnm;have f1:=nm_front hc h1;have c1:=f1.can hc;have f2:=sy_front c1 h2;have c2:=f2.can c1;have f3:=hf _ _ _ _ _ c2 h3 (hP y a hfi (List.mem_singleton.2 rfl));have c3:=f3.can c2;have:=f1.app (f2.app (f3.app (sy_front c3 h4)));unfold uniT;rw[hfi]
   rw[←hnm] at this;exact this
theorem list_fwd (hm:∀t,Mono (f t)) (hs:∀t n,Mono (sepP (f t) n)) (hf:Fwd f g P) (x:TyD) {l k vs r} (hc:CanL l) (h:listP f x l k = .ok (vs,r,false)) (hP:∀v∈vs,P x.elem v) :
  Front l r (syK ⟨#[91]⟩::(sepT (g x.elem) vs++[syK ⟨#[93]⟩])):=by
 unfold listP at h;obtain ⟨l1,h1,h⟩:=zS h;have f1:=sy_front hc h1;have c1:=f1.can hc
 split at h
 ·rename_i hi
  injection h with h;injection h with h5 h6;injection h6 with h6 h7
  subst h5 h6;exact f1.app (is_front c1 hi)
 ·obtain ⟨⟨a,l2,k2⟩,h2,h⟩:=zS h
  obtain ⟨l3,h3,h⟩:=zS h
  injection h with h;injection h with h5 h6;injection h6 with h6 h7
  try simp only at h3 h5 h7
  subst h5 h6 h7;have f2:=sep_fwd (hm _) (hs _) (P x.elem) (fun l k v r hc h hp=>hf _ _ _ _ _ hc h hp) _ _ _ _ _ c1 h2 hP
  have c2:=f2.can c1;exact f1.app (f2.app (sy_front c2 h3))
theorem map_fwd (hm:∀t,Mono (f t)) (hme:∀x,Mono (entrP f x)) (hs:∀x n,Mono (sepP (entrP f x) n)) (hf:Fwd f g P) (x:TyD) {l k ps r} (hc:CanL l) (h:mapP f x l k = .ok (ps,r,false)) (hP:∀p∈ps,P x.key p.1∧P x.elem p.2) :
  Front l r (syK ⟨#[91]⟩::(if ps.length=0 then [syK ⟨#[45,62]⟩,syK ⟨#[93]⟩] else sepT (etk (g x.key) (g x.elem)) ps++[syK ⟨#[93]⟩])):=by
 unfold mapP at h;obtain ⟨l1,h1,h⟩:=zS h;have f1:=sy_front hc h1;have c1:=f1.can hc
 split at h
 ·rename_i hi
  obtain ⟨l3,h3,h⟩:=zS h
  injection h with h;injection h with h5 h6;injection h6 with h6 h7
  subst h5 h6;have f2:=is_front c1 hi;exact f1.app (f2.app (sy_front (f2.can c1) h3))
 ·split at h
  ·cases h
  ·obtain ⟨⟨a,l2,k2⟩,h2,h⟩:=zS h
   obtain ⟨l3,h3,h⟩:=zS h
   injection h with h;injection h with h5 h6;injection h6 with h6 h7
   try simp only at h3 h5 h7
   subst h5 h6 h7;have f2:=sep_fwd (hme x) (hs x) (fun p=>P x.key p.1∧P x.elem p.2) (fun l k v r hc h hp=>ent_fwd hm hf x l k v r hc h hp) _ _ _ _ _ c1 h2 hP
   have c2:=f2.can c1;have hne:¬ a.length=0:=fun h0=>by
    have:a=[]:=List.eq_nil_of_length_eq_zero h0;subst this;rw[sepP] at h2;obtain ⟨⟨y,l3,k3⟩,_,h2⟩:=zS h2;try simp only at h2
    split at h2
    ·obtain ⟨⟨z,l4,k4⟩,_,h2⟩:=zS h2
     injection h2 with h2;injection h2 with h2 _;cases h2
    ·injection h2 with h2;injection h2 with h2 _;cases h2
   rw[if_neg hne];exact f1.app (f2.app (sy_front c2 h3))
theorem opt_fwd (hf:Fwd f g P) (x:TyD) {l k vs r} (hc:CanL l) (h:optP f x l k = .ok (vs,r,false)) (hP:∀v∈vs,P x.elem v):Front l r (optT (g x.elem) vs):=by
 unfold optP at h;obtain ⟨⟨t,l1⟩,h1,h⟩:=zS h;have f1:=nm_front hc h1;have c1:=f1.can hc;simp only at h
 split at h
 ·rename_i ht
  injection h with h;injection h with h5 h6;injection h6 with h6 h7
  subst h5 h6;rw[ht] at f1;exact f1
 ·split at h
  ·rename_i ht
   obtain ⟨l2,h2,h⟩:=zS h;obtain ⟨⟨a,l3,k3⟩,h3,h⟩:=zS h;obtain ⟨l4,h4,h⟩:=zS h
   injection h with h;injection h with h5 h6;injection h6 with h6 h7
   try simp only at h4 h7
   subst h5 h6 h7;rw[ht] at f1;have f2:=sy_front c1 h2;have c2:=f2.can c1;have f3:=hf _ _ _ _ _ c2 h3 (hP a (List.mem_singleton.2 rfl));have c3:=f3.can c2;exact f1.app (f2.app (f3.app (sy_front c3 h4)))
  ·cases h
end
theorem relR {s:List TyD} (hT:∀t,TyOkL (tyAt s t)):RelF s (valR false s) (valR true s):=fun t l k=>relValP (fun t=>(hT t).ids) (fun t=>(hT t).midN) (l.length+1) t l k
theorem zip_maps {α β:Type}:∀ps:List (α×β),(ps.map Prod.fst).zip (ps.map Prod.snd)=ps
 | []=>rfl
 | a::r=>by rw[List.map_cons,List.map_cons,List.zip_cons_cons,zip_maps r]
theorem val_fwd {s:List TyD} (hT:∀t,TyOkL (tyAt s t)) (hS:∀t,((tyAt s t).syms.map SymD.id).Nodup) (hK:∀t,0≤t→t<(s.length:Int)→1≤(tyAt s t).kind∧(tyAt s t).kind≤9):∀ (n:Nat),Fwd (valR false s) (tkF s n) (fun t v=>fitF s false n t v=true)
 | 0=>fun _ _ _ _ _ _ _ h=>by cases h
 | n+1=>fun t l k v r hc h hfit=>by
  obtain ⟨h1,h2,hk,hp,hf⟩:=fit_parts hfit;have hkr:=hK t h1 h2;have hR:=relR hT;have hm:∀t,Mono (valR false s t):=fun t=>mono_of (hR t)
  have hms:∀b ms,Mono (memsP (valR false s) b ms):=fun b ms=>mono_of (relMems hR ms b)
  have hse:∀t n,Mono (sepP (valR false s t) n):=fun t n=>mono_of (relSep (hR t) n)
  have hen:∀x,Mono (entrP (valR false s) x):=fun x=>mono_of (relEnt hR x)
  have hes:∀x n,Mono (sepP (entrP (valR false s) x) n):=fun x n=>mono_of (relSep (relEnt hR x) n)
  have ih:=val_fwd hT hS hK n;have hx:=hT t;have hsy:=hS t;rw[valR_eq] at h;rw[tkF];generalize tyAt s t=x at *;have hcs:x.kind=1∨x.kind=2∨x.kind=3∨x.kind=4∨x.kind=5∨x.kind=6∨x.kind=7∨x.kind=8∨x.kind=9:=by omega
  unfold valB at h;unfold tkBy
  rcases hcs with e|e|e|e|e|e|e|e|e
  ·rw[if_pos e] at h
   rw[if_pos e];obtain ⟨⟨b,l1,k1⟩,h3,h⟩:=zS h
   injection h with h;injection h with h5 h6;injection h6 with h6 h7
   subst h5 h6;unfold boolP at h3;obtain ⟨⟨t',l2⟩,h4,h3⟩:=zS h3;have f1:=nm_front hc h4;simp only at h3
   split at h3
   ·rename_i ht
    injection h3 with h3;injection h3 with h8 h9;injection h9 with h9 h10
    subst h8 h9;rw[ht] at f1;exact f1
   ·split at h3
    ·rename_i ht
     injection h3 with h3;injection h3 with h8 h9;injection h9 with h9 h10
     subst h8 h9;rw[ht] at f1;exact f1
    ·cases h3
  ·rw[if_neg (by omega),if_pos e] at h
   rw[if_neg (by omega),if_pos e]
   obtain ⟨⟨t',l2⟩,h4,h⟩:=zS h
   injection h with h;injection h with h5 h6;injection h6 with h6 h7
   subst h5 h6;exact in_front hc h4
  ·rw[if_neg (by omega),if_neg (by omega),if_pos e] at h
   rw[if_neg (by omega),if_neg (by omega),if_pos e]
   obtain ⟨⟨t',l2⟩,h4,h⟩:=zS h
   injection h with h;injection h with h5 h6;injection h6 with h6 h7
   subst h5 h6;exact st_front hc h4
  ·rw[if_neg (by omega),if_neg (by omega),if_neg (by omega),if_pos e] at h
   rw[if_neg (by omega),if_neg (by omega),if_neg (by omega),if_pos e]
   obtain ⟨⟨b,l1,k1⟩,h3,h⟩:=zS h
   injection h with h;injection h with h5 h6;injection h6 with h6 h7
   try simp only at h7
   subst h5 h6 h7
   show Front l l1 (enumT x b)
   unfold enumP at h3
   split at h3
   ·rename_i hi
    obtain ⟨⟨t',l2⟩,h4,h3⟩:=zS h3;rw[idF_false] at h3;simp only at h3
    split at h3
    ·simp only[Bool.false_eq_true,if_false] at h3
     injection h3 with h3;injection h3 with h8 h9;injection h9 with h9 h10
     cases h10
    ·rename_i hkn
     injection h3 with h3;injection h3 with h8 h9;injection h9 with h9 h10
     subst h8 h9;have f0:=is_front hc hi;have f1:=in_front (f0.can hc) h4;have hno:x.syms.find? (fun y=>decide (y.id=t'.int))=none:=by
      rw[List.find?_eq_none]
      intro y hy hd
      exact hkn (by unfold knowP;rw[List.any_eq_true];exact ⟨y,hy,hd⟩)
     unfold enumT;rw[hno];exact f0.app f1
   ·obtain ⟨⟨t',l2⟩,h4,h3⟩:=zS h3
    simp only at h3
    split at h3
    ·rename_i y hy
     injection h3 with h3;injection h3 with h8 h9;injection h9 with h9 h10
     subst h8 h9;have hmem:=List.mem_of_find?_eq_some hy;have hnm:=List.find?_some hy;rw[decide_eq_true_eq] at hnm;have f1:=nm_front hc h4;unfold enumT;rw[find_key hsy hmem];rw[←hnm] at f1;exact f1
    ·cases h3
  ·rw[if_neg (by omega),if_neg (by omega),if_neg (by omega),if_neg (by omega),if_pos e] at h
   rw[if_neg (by omega),if_neg (by omega),if_neg (by omega),if_neg (by omega),if_pos e]
   obtain ⟨⟨⟨vs,rs⟩,l1,k1⟩,h3,h⟩:=zS h
   injection h with h;injection h with h5 h6;injection h6 with h6 h7
   try simp only at h7
   subst h5 h6 h7;unfold fitB at hf;rw[if_neg (by omega),if_neg (by omega),if_neg (by omega),if_pos e] at hf
   simp only[Bool.and_eq_true] at hf;exact rec_fwd hm hms ih x hc h3 fun i h1 h2=>okZips _ _ hf.2 i h1 h2
  ·rw[if_neg (by omega),if_neg (by omega),if_neg (by omega),if_neg (by omega),if_neg (by omega),if_pos e] at h
   rw[if_neg (by omega),if_neg (by omega),if_neg (by omega),if_neg (by omega),if_neg (by omega),if_pos e]
   obtain ⟨⟨⟨d,vs,rs⟩,l1,k1⟩,h3,h⟩:=zS h
   injection h with h;injection h with h5 h6;injection h6 with h6 h7
   try simp only at h7
   subst h5 h6 h7;unfold fitB at hf;rw[if_neg (by omega),if_neg (by omega),if_neg (by omega),if_neg (by omega),if_pos e] at hf
   have hf2:(match x.mems.find? (fun m=>decide (m.id=d)) with
    | some m=>decide (vs.length=1)&&decide (rs.length=0)&&vs.all fun y=>fitF s false n m.type y
    | none=>x.open_ && !false&&freeD d&&decide (vs.length=0)&&decide (rs.length=1)&&rs.all fun q=>decide (q.id=d))=true:=hf
   clear hf;refine uni_fwd ih hx hc h3 (fun hv=>?_) fun y v hy hv=>?_
   ·cases hm:x.mems.find? fun m=>decide (m.id=d) with
    | none=>exact hm
    | some m =>
     rw[hm] at hf2;simp only[Bool.and_eq_true,decide_eq_true_eq] at hf2;have hv2:vs=[]:=hv;rw[hv2] at hf2;exact absurd hf2.1.1 (by simp)
   ·have hy2:x.mems.find? (fun m=>decide (m.id=d))=some y:=hy
    rw[hy2] at hf2;simp only[Bool.and_eq_true,List.all_eq_true] at hf2;exact hf2.2 v hv
  ·rw[if_neg (by omega),if_neg (by omega),if_neg (by omega),if_neg (by omega),if_neg (by omega),if_neg (by omega),if_pos e] at h
   rw[if_neg (by omega),if_neg (by omega),if_neg (by omega),if_neg (by omega),if_neg (by omega),if_neg (by omega),if_pos e]
   obtain ⟨⟨vs,l1,k1⟩,h3,h⟩:=zS h
   injection h with h;injection h with h5 h6;injection h6 with h6 h7
   try simp only at h7
   subst h5 h6 h7;unfold fitB at hf;rw[if_neg (by omega),if_neg (by omega),if_neg (by omega),if_neg (by omega),if_neg (by omega),if_pos e] at hf
   simp only[Bool.and_eq_true,List.all_eq_true] at hf;exact list_fwd hm hse ih x hc h3 hf.2
  ·rw[if_neg (by omega),if_neg (by omega),if_neg (by omega),if_neg (by omega),if_neg (by omega),if_neg (by omega),if_neg (by omega),if_pos e] at h
   rw[if_neg (by omega),if_neg (by omega),if_neg (by omega),if_neg (by omega),if_neg (by omega),if_neg (by omega),if_neg (by omega),if_pos e]
   obtain ⟨⟨ps,l1,k1⟩,h3,h⟩:=zS h
   injection h with h;injection h with h5 h6;injection h6 with h6 h7
   try simp only at h7
   subst h5 h6 h7;unfold fitB at hf;rw[if_neg (by omega),if_neg (by omega),if_neg (by omega),if_neg (by omega),if_neg (by omega),if_neg (by omega),if_pos e] at hf
   simp only[Bool.and_eq_true,List.all_eq_true] at hf;have:=map_fwd hm hen hes ih x hc h3 fun p hp=>⟨hf.1.1.2 _ (List.mem_map_of_mem hp),hf.2 _ (List.mem_map_of_mem hp)⟩
   have hz:=zip_maps ps
   show Front l l1 (syK ⟨#[91]⟩::(if (ps.map Prod.fst).length=0 then [syK ⟨#[45,62]⟩,syK ⟨#[93]⟩] else sepT (etk (tkF s n x.key) (tkF s n x.elem)) ((ps.map Prod.fst).zip (ps.map Prod.snd))++[syK ⟨#[93]⟩]))
   rw[hz]
   by_cases h0:ps.length=0
   ·rw[if_pos h0] at this
    rw[if_pos (by rw[List.length_map];exact h0)]
    exact this
   ·rw[if_neg h0] at this
    rw[if_neg (by rw[List.length_map];exact h0)]
    exact this
  ·rw[if_neg (by omega),if_neg (by omega),if_neg (by omega),if_neg (by omega),if_neg (by omega),if_neg (by omega),if_neg (by omega),if_neg (by omega)] at h
   rw[if_neg (by omega),if_neg (by omega),if_neg (by omega),if_neg (by omega),if_neg (by omega),if_neg (by omega),if_neg (by omega),if_neg (by omega)]
   obtain ⟨⟨vs,l1,k1⟩,h3,h⟩:=zS h
   injection h with h;injection h with h5 h6;injection h6 with h6 h7
   try simp only at h7
   subst h5 h6 h7;unfold fitB at hf;rw[if_neg (by omega),if_neg (by omega),if_neg (by omega),if_neg (by omega),if_neg (by omega),if_neg (by omega),if_neg (by omega),if_pos e] at hf
   simp only[Bool.and_eq_true,List.all_eq_true] at hf;exact opt_fwd ih x hc h3 hf.2
theorem sepT_id {α:Type} (g:α→List TokD):∀xs:List α,sepT g xs=sepT id (xs.map g)
 | []=>rfl
 | [x]=>rfl
 | x::y::r=>by rw[sepT,sepT_id g (y::r)];rfl
theorem lexJoin:∀ps:List (List UInt8×List TokD),(∀p∈ps,LexS p.1 p.2)→LexS (jnL (ps.map Prod.fst)) (sepT id (ps.map Prod.snd))
 | [],_=>LexA.nil.s
 | [p],h=>h p (List.mem_singleton.2 rfl)
 | p::q::r,h=>by
  have h1:=lexJoin (q::r) fun x hx=>h x (List.mem_cons_of_mem _ hx)
  have h2:LexS ([44]++([32]++jnL ((q::r).map Prod.fst))) ([syK ⟨#[44]⟩]++([]++sepT id ((q::r).map Prod.snd))):=(lex_sy (by decide)).appS (lex_sp.appS h1)
  exact (h p (List.mem_cons_self ..)).appS ⟨44,_,rfl,by decide⟩ h2
def partM (g:Int→Val→List TokD) (p:MemD×Val):List TokD:=nmK p.1.name::syK ⟨#[58]⟩::g p.1.type p.2
def partR (r:RawD):List TokD:=[inK r.id,syK ⟨#[58]⟩,stK r.data]
theorem sepT_flat:∀ (p:List TokD) (ps:List (List TokD)),sepT id (p::ps)=p++ps.flatMap fun q=>syK ⟨#[44]⟩::q
 | p,[]=>by rw[sepT];simp
 | p,q::r=>by rw[sepT,sepT_flat q r];simp
theorem mtk_flat (g:Int→Val→List TokD):∀ (ms:List MemD) (vs:List Val),mtk g false ms vs=((ms.zip vs).map (partM g)).flatMap fun q=>syK ⟨#[44]⟩::q
 | [],vs=>by cases vs <;> rfl
 | _::_,[]=>rfl
 | y::ms,v::vs=>by rw[mtk,mtk_flat g ms vs];simp[partM]
theorem rtk_flat:∀rs:List RawD,rtk false rs=(rs.map partR).flatMap fun q=>syK ⟨#[44]⟩::q
 | []=>rfl
 | r::rs=>by rw[rtk,rtk_flat rs];simp[partR]
theorem rec_sep (g:Int→Val→List TokD) {ms:List MemD} {vs:List Val} (h:vs.length=ms.length) (rs:List RawD) :
  mtk g true ms vs++rtk ms.isEmpty rs=sepT id ((ms.zip vs).map (partM g)++rs.map partR):=by
 cases ms with
 | nil =>
  have:vs=[]:=List.eq_nil_of_length_eq_zero h;subst this
  cases rs with
  | nil=>rfl
  | cons r rs =>
   show rtk true (r::rs)=sepT id (partR r::rs.map partR)
   rw[sepT_flat,rtk,rtk_flat];simp[partR]
 | cons y ms =>
  cases vs with
  | nil=>cases h
  | cons v vs =>
   show mtk g true (y::ms) (v::vs)++rtk false rs=sepT id (partM g (y,v)::((ms.zip vs).map (partM g)++rs.map partR))
   rw[sepT_flat,mtk,mtk_flat,rtk_flat];simp[partM]
section
variable {f:Int→Val→ByteArray} {g:Int→Val→List TokD} {x:TyD}
def LexV (f:Int→Val→ByteArray) (g:Int→Val→List TokD) (t:Int) (v:Val):Prop:=LexS (f t v).data.toList (g t v)
theorem free_in2 {n:Int} (h:freeD n=true):-9223372036854775808≤n∧n≤9223372036854775807:=by
 have:=free_iff.1 h
 omega
theorem lex_raw {r:RawD} (h:freeD r.id=true):LexS (rawP r).data.toList (partR r):=by
 unfold rawP partR;rw[data_app2,data_app2];have h2:LexA ([58]++[32]) ([syK ⟨#[58]⟩]++[]):=(lex_sy (by decide)).app lex_sp
 exact ((lex_in (free_in2 h)).app ⟨58,_,rfl,by decide⟩ h2).appS (lex_st r.data).s
theorem lex_mem (hx:NamOk x) {y:MemD} (hy:y∈x.mems) {v:Val} (h:LexV f g y.type v):LexS (memP f (y,v)).data.toList (partM g (y,v)):=by
 unfold memP partM;rw[data_app2,data_app2];have h2:LexA ([58]++[32]) ([syK ⟨#[58]⟩]++[]):=(lex_sy (by decide)).app lex_sp
 exact ((lex_nm (hx.mems y hy)).app ⟨58,_,rfl,by decide⟩ h2).appS h
theorem lex_rec (hx:NamOk x) {vs:List Val} {rs:List RawD} (hl:vs.length=x.mems.length) (h:∀i (h:i<x.mems.length) (h':i<vs.length),LexV f g x.mems[i].type vs[i]) (hr:∀r∈rs,freeD r.id=true) :
  LexS (⟨#[123]⟩++catL ((x.mems.zip vs).map (memP f)++rs.map rawP)++⟨#[125]⟩:ByteArray).data.toList (syK ⟨#[123]⟩::(mtk g true x.mems vs++(rtk x.mems.isEmpty rs++[syK ⟨#[125]⟩]))):=by
 rw[data_app2,data_app2,cat_jn,←List.append_assoc,rec_sep g hl];have hz:∀p∈x.mems.zip vs,p.1∈x.mems∧LexV f g p.1.type p.2:=fun p hp=>by
  obtain ⟨i,hi,he⟩:=List.mem_iff_getElem.1 hp;rw[List.getElem_zip] at he;rw[List.length_zip] at hi;subst he;exact ⟨List.getElem_mem _,h i (by omega) (by omega)⟩
 have hj:=lexJoin ((x.mems.zip vs).map (fun p=>((memP f p).data.toList,partM g p))++rs.map fun r=>((rawP r).data.toList,partR r)) fun p hp=>by
  rcases List.mem_append.1 hp with hp|hp
  ·obtain ⟨q,hq,rfl⟩:=List.mem_map.1 hp
   exact lex_mem hx (hz q hq).1 (hz q hq).2
  ·obtain ⟨q,hq,rfl⟩:=List.mem_map.1 hp
   exact lex_raw (hr q hq)
 simp only[List.map_append,List.map_map] at hj;simp only[List.map_append,List.map_map];have h1:LexA [123] [syK ⟨#[123]⟩]:=lex_sy (by decide)
 have h2:LexA [125] [syK ⟨#[125]⟩]:=lex_sy (by decide)
 rw[List.append_assoc];exact (h1.app (LexS.app hj ⟨125,_,rfl,by decide⟩ h2)).s
theorem lex_list {α:Type} {h:α→ByteArray} {k:α→List TokD} {vs:List α} (hv:∀v∈vs,LexS (h v).data.toList (k v)) :
  LexS (⟨#[91]⟩++catL (vs.map h)++⟨#[93]⟩:ByteArray).data.toList (syK ⟨#[91]⟩::(sepT k vs++[syK ⟨#[93]⟩])):=by
 rw[data_app2,data_app2,cat_jn,sepT_id];have hj:=lexJoin (vs.map fun p=>((h p).data.toList,k p)) fun p hp=>by
  obtain ⟨q,hq,rfl⟩:=List.mem_map.1 hp;exact hv q hq
 simp only[List.map_map] at hj;simp only[List.map_map];have h1:LexA [91] [syK ⟨#[91]⟩]:=lex_sy (by decide)
 have h2:LexA [93] [syK ⟨#[93]⟩]:=lex_sy (by decide)
 rw[List.append_assoc];exact (h1.app (LexS.app hj ⟨93,_,rfl,by decide⟩ h2)).s
theorem lex_ent {a b:ByteArray} {u w:List TokD} (h1:LexS a.data.toList u) (h2:LexS b.data.toList w):LexS (a++⟨#[32,45,62,32]⟩++b).data.toList (u++syK ⟨#[45,62]⟩::w):=by
 rw[data_app2,data_app2];have h3:LexA ([32]++([45,62]++[32])) ([]++([syK ⟨#[45,62]⟩]++[])):=lex_sp.app (lex_to.app lex_sp);have:=(h1.app ⟨32,_,rfl,by decide⟩ h3).appS h2
 rw[show u++syK ⟨#[45,62]⟩::w=u++([]++([syK ⟨#[45,62]⟩]++[]))++w by simp]
 exact this
end
section
variable (f:Int→Val→ByteArray) {x:TyD}
end
section
variable (g:Int→Val→List TokD) {x:TyD} {v:Val}
theorem tkB6 (hc:x.kind=6):tkBy g x v=uniT g x v.id v.items v.rest:=by
 unfold tkBy;rw[if_neg (by omega),if_neg (by omega),if_neg (by omega),if_neg (by omega),if_neg (by omega),if_pos hc]
theorem tkB8 (hc:x.kind=8):tkBy g x v=syK ⟨#[91]⟩::(if v.keys.length=0 then [syK ⟨#[45,62]⟩,syK ⟨#[93]⟩] else sepT (etk (g x.key) (g x.elem)) (v.keys.zip v.items)++[syK ⟨#[93]⟩]):=by
 unfold tkBy;rw[if_neg (by omega),if_neg (by omega),if_neg (by omega),if_neg (by omega),if_neg (by omega),if_neg (by omega),if_neg (by omega),if_pos hc]
theorem tkB9 (hc:x.kind=9):tkBy g x v=optT (g x.elem) v.items:=by
 unfold tkBy;rw[if_neg (by omega),if_neg (by omega),if_neg (by omega),if_neg (by omega),if_neg (by omega),if_neg (by omega),if_neg (by omega),if_neg (by omega)]
end
theorem uniS (g:Int→Val→List TokD) {x:TyD} {d:Int} {w:Val} {rs:List RawD} {m:MemD} (hm:x.mems.find? (fun m=>decide (m.id=d))=some m):uniT g x d [w] rs=nmK m.name::syK ⟨#[40]⟩::(g m.type w++[syK ⟨#[41]⟩]):=by
 unfold uniT;rw[hm];rfl
theorem uniN (g:Int→Val→List TokD) {x:TyD} {d:Int} {vs:List Val} {r:RawD} (hm:x.mems.find? (fun m=>decide (m.id=d))=none):uniT g x d vs [r]=[syK ⟨#[64]⟩,inK d,syK ⟨#[40]⟩,stK r.data,syK ⟨#[41]⟩]:=by
 unfold uniT;rw[hm];rfl
theorem lex_some {a:List UInt8} {w:List TokD} (h:LexS a w):LexA ([115,111,109,101,40]++a++[41]) (nmK ⟨#[115,111,109,101]⟩::syK ⟨#[40]⟩::(w++[syK ⟨#[41]⟩])):=by
 have c1:LexA [40] [syK ⟨#[40]⟩]:=lex_sy (by decide)
 have c2:LexA [41] [syK ⟨#[41]⟩]:=lex_sy (by decide)
 have c3:LexS [115,111,109,101] [nmK ⟨#[115,111,109,101]⟩]:=lex_nm (s:=⟨#[115,111,109,101]⟩) (by decide)
 have:=((c3.app ⟨40,_,rfl,by decide⟩ c1).appS h).app ⟨41,_,rfl,by decide⟩ c2
 simpa using this
theorem val_lex {s:List TyD} (hN:∀t,NamOk (tyAt s t)) (hK:∀t,0≤t→t<(s.length:Int)→1≤(tyAt s t).kind∧(tyAt s t).kind≤9):∀ (n:Nat) (t:Int) (v:Val),fitF s false n t v=true→LexV (litF s n) (tkF s n) t v
 | 0,_,_,h=>by cases h
 | n+1,t,v,hfit=>by
  obtain ⟨h1,h2,hk,hp,hf⟩:=fit_parts hfit;have hkr:=hK t h1 h2;have hx:=hN t;have ih:=val_lex hN hK n;unfold LexV;rw[litF,tkF];have e:=proper_eq hp;obtain ⟨kd,b,i,u,d,ks,is,r⟩:=v;generalize tyAt s t=x at *;simp only[Val.kind] at hk;subst hk;unfold bareD at e;simp only[Val.kind,Val.bool,Val.int,Val.str,Val.id,Val.keys,Val.items,Val.rest,Val.mk.injEq,true_and] at e;obtain ⟨e1,e2,e3,e4,e5,e6,e7⟩:=e
  have hc:x.kind=1∨x.kind=2∨x.kind=3∨x.kind=4∨x.kind=5∨x.kind=6∨x.kind=7∨x.kind=8∨x.kind=9:=by omega
  unfold fitB at hf;simp only[Val.int,Val.str,Val.id,Val.keys,Val.items,Val.rest] at hf
  rcases hc with hc|hc|hc|hc|hc|hc|hc|hc|hc
  ·unfold litB tkBy
   rw[if_pos hc,if_pos hc]
   cases b
   ·exact lex_nm (s:=⟨#[102,97,108,115,101]⟩) (by decide)
   ·exact lex_nm (s:=⟨#[116,114,117,101]⟩) (by decide)
  ·rw[if_pos hc] at hf
   unfold litB tkBy;rw[if_neg (by omega),if_pos hc,if_neg (by omega),if_pos hc]
   simp only[Bool.and_eq_true] at hf;have g1:=of_decide_eq_true hf.1;have g2:=of_decide_eq_true hf.2;have g3:=hx.low;have g4:=hx.high;exact lex_in (v:=i) ⟨by omega,by omega⟩
  ·unfold litB tkBy
   rw[if_neg (by omega),if_neg (by omega),if_pos hc,if_neg (by omega),if_neg (by omega),if_pos hc]
   exact (lex_st u).s
  ·rw[if_neg (by omega),if_neg (by omega),if_pos hc] at hf
   unfold litB tkBy;rw[if_neg (by omega),if_neg (by omega),if_neg (by omega),if_pos hc,if_neg (by omega),if_neg (by omega),if_neg (by omega),if_pos hc]
   show LexS (match x.syms.find? fun y=>decide (y.id=d) with
    | some y=>y.name
    | none=>⟨#[64]⟩++decB d:ByteArray).data.toList (enumT x d)
   unfold enumT
   cases hm:x.syms.find? fun y=>decide (y.id=d) with
   | some y=>exact lex_nm (hx.syms y (List.mem_of_find?_eq_some hm))
   | none =>
    have hno:(x.syms.any fun y=>decide (y.id=d))=false:=by
     rw[List.any_eq_false]
     intro y hy hd
     exact (List.find?_eq_none.1 hm y hy) hd
    have hf2:((x.syms.any fun y=>decide (y.id=d))||x.open_ && !false&&freeD d)=true:=hf
    rw[hno,Bool.false_or,Bool.and_eq_true] at hf2;rw[data_app2];exact (show LexA [64] [syK ⟨#[64]⟩] from lex_sy (by decide)).appS (lex_in (free_in2 hf2.2))
  ·rw[if_neg (by omega),if_neg (by omega),if_neg (by omega),if_pos hc] at hf
   unfold litB tkBy;rw[if_neg (by omega),if_neg (by omega),if_neg (by omega),if_neg (by omega),if_pos hc,if_neg (by omega),if_neg (by omega),if_neg (by omega),if_neg (by omega),if_pos hc]
   simp only[Bool.and_eq_true] at hf;exact lex_rec hx (of_decide_eq_true hf.1.1.1) (fun i h1 h2=>ih _ _ (okZips _ _ hf.2 i h1 h2)) (okRaws hf.1.2)
  ·rw[if_neg (by omega),if_neg (by omega),if_neg (by omega),if_neg (by omega),if_pos hc] at hf
   have hf2:(match x.mems.find? (fun m=>decide (m.id=d)) with
    | some m=>decide (is.length=1)&&decide (r.length=0)&&is.all fun y=>fitF s false n m.type y
    | none=>x.open_ && !false&&freeD d&&decide (is.length=0)&&decide (r.length=1)&&r.all fun q=>decide (q.id=d))=true:=hf
   clear hf;have c1:LexA [40] [syK ⟨#[40]⟩]:=lex_sy (by decide)
   have c2:LexA [41] [syK ⟨#[41]⟩]:=lex_sy (by decide)
   have c3:LexA [64] [syK ⟨#[64]⟩]:=lex_sy (by decide)
   rw[tkB6 _ hc]
   show LexS _ (uniT (tkF s n) x d is r)
   cases hm:x.mems.find? fun m=>decide (m.id=d) with
   | some m =>
    rw[hm] at hf2;simp only[Bool.and_eq_true,decide_eq_true_eq] at hf2;obtain ⟨w,rfl⟩:=List.length_eq_one_iff.1 hf2.1.1;have hw:fitF s false n m.type w=true:=by simpa using hf2.2
    rw[lit6s _ hc (v:=Val.mk x.kind b i u d ks [w] r) hm rfl,uniS _ hm,data_app2,data_app2,data_app2];have:=(((lex_nm (hx.mems m (List.mem_of_find?_eq_some hm))).app ⟨40,_,rfl,by decide⟩ c1).appS (ih _ _ hw)).app ⟨41,_,rfl,by decide⟩ c2
    rw[show nmK m.name::syK ⟨#[40]⟩::(tkF s n m.type w++[syK ⟨#[41]⟩])=[nmK m.name]++[syK ⟨#[40]⟩]++tkF s n m.type w++[syK ⟨#[41]⟩] by simp]
    exact this.s
   | none =>
    rw[hm] at hf2;simp only[Bool.and_eq_true,decide_eq_true_eq] at hf2;obtain ⟨w,rfl⟩:=List.length_eq_one_iff.1 hf2.1.2;rw[lit6n _ hc (v:=Val.mk x.kind b i u d ks is [w]) hm rfl,uniN _ hm,data_app2,data_app2,data_app2,data_app2];exact ((((c3.appS (lex_in (free_in2 hf2.1.1.1.2))).app ⟨40,_,rfl,by decide⟩ c1).app (lex_st w.data)).app c2).s
  ·rw[if_neg (by omega),if_neg (by omega),if_neg (by omega),if_neg (by omega),if_neg (by omega),if_pos hc] at hf
   unfold litB tkBy;rw[if_neg (by omega),if_neg (by omega),if_neg (by omega),if_neg (by omega),if_neg (by omega),if_neg (by omega),if_pos hc,if_neg (by omega),if_neg (by omega),if_neg (by omega),if_neg (by omega),if_neg (by omega),if_neg (by omega),if_pos hc]
   simp only[Bool.and_eq_true,List.all_eq_true] at hf;exact lex_list fun v hv=>ih _ _ (hf.2 v hv)
  ·rw[if_neg (by omega),if_neg (by omega),if_neg (by omega),if_neg (by omega),if_neg (by omega),if_neg (by omega),if_pos hc] at hf
   rw[lit8k _ hc,tkB8 _ hc];simp only[Bool.and_eq_true,List.all_eq_true] at hf;have hl:is.length=ks.length:=of_decide_eq_true hf.1.1.1.2
   cases ks with
   | nil =>
    have:is=[]:=List.eq_nil_of_length_eq_zero hl;subst this;have c1:LexA [91] [syK ⟨#[91]⟩]:=lex_sy (by decide)
    have c2:LexA [93] [syK ⟨#[93]⟩]:=lex_sy (by decide)
    exact (c1.app (lex_to.app c2)).s
   | cons a q =>
    show LexS (⟨#[91]⟩++(if (a::q).length=0 then ⟨#[45,62]⟩ else ⟨#[]⟩)++catL (((a::q).zip is).map (entP (litF s n x.key) (litF s n x.elem)))++⟨#[93]⟩:ByteArray).data.toList (syK ⟨#[91]⟩::(if (a::q).length=0 then [syK ⟨#[45,62]⟩,syK ⟨#[93]⟩] else sepT (etk (tkF s n x.key) (tkF s n x.elem)) ((a::q).zip is)++[syK ⟨#[93]⟩]))
    rw[show (if (a::q).length=0 then [syK ⟨#[45,62]⟩,syK ⟨#[93]⟩] else sepT (etk (tkF s n x.key) (tkF s n x.elem)) ((a::q).zip is)++[syK ⟨#[93]⟩])=sepT (etk (tkF s n x.key) (tkF s n x.elem)) ((a::q).zip is)++[syK ⟨#[93]⟩] from if_neg (by simp)]
    have e0:(⟨#[91]⟩++(if (a::q).length=0 then ⟨#[45,62]⟩ else ⟨#[]⟩):ByteArray)=⟨#[91]⟩:=by rw[if_neg (by simp)];rfl
    rw[e0];refine lex_list fun p hp=>?_
    obtain ⟨p1,p2⟩:=p;have hm:=List.of_mem_zip hp;exact lex_ent (ih _ _ (hf.1.1.2 p1 hm.1)) (ih _ _ (hf.2 p2 hm.2))
  ·rw[if_neg (by omega),if_neg (by omega),if_neg (by omega),if_neg (by omega),if_neg (by omega),if_neg (by omega),if_neg (by omega),if_pos hc] at hf
   simp only[Bool.and_eq_true,List.all_eq_true] at hf
   cases is with
   | nil =>
    rw[lit9n _ hc rfl,tkB9 _ hc];exact lex_nm (s:=⟨#[110,111,110,101]⟩) (by decide)
   | cons w q =>
    rw[lit9s _ hc rfl,tkB9 _ hc,data_app2,data_app2];exact (lex_some (ih _ _ (hf.2 w (List.mem_cons_self ..)))).s
def WordOk (t:TokD):Prop:=(t.kind=1∧nameB t.text=true)∨(t.kind=2 ∧ -9223372036854775808≤t.int∧t.int≤9223372036854775807)∨t.kind=3∨(t.kind=4∧t.text.data.toList∈symsT)
theorem sym_take {l:List UInt8} {n:Nat} (h:symL l=some n):l.take n∈symsT:=by
 have hl:=symL_le h;have hn:n=1∨n=2:=by omega
 rcases hn with rfl|rfl
 ·cases l with
  | nil=>cases h
  | cons c r=>exact (sym_one (by rw[h];simp)).2 h
 ·match l,h with
  | c::d::r,h=>exact sym_two.2 h
  | [c],_=>simp at hl
  | [],_=>simp at hl
theorem can_nm (a:ByteArray):CanT (nmK a):=by
 unfold CanT;refine ⟨fun _=>rfl,fun e=>?_,fun e=>?_,fun e=>?_⟩ <;> exact absurd e (by show ¬ (1:Int)=_;decide)
theorem can_in (a:Int):CanT (inK a):=by
 unfold CanT;refine ⟨fun e=>?_,fun _=>rfl,fun e=>?_,fun e=>?_⟩ <;> exact absurd e (by show ¬ (2:Int)=_;decide)
theorem can_st (a:ByteArray):CanT (stK a):=by
 unfold CanT;refine ⟨fun e=>?_,fun e=>?_,fun _=>rfl,fun e=>?_⟩ <;> exact absurd e (by show ¬ (3:Int)=_;decide)
theorem can_sy (a:ByteArray):CanT (syK a):=by
 unfold CanT;refine ⟨fun e=>?_,fun e=>?_,fun e=>?_,fun _=>rfl⟩ <;> exact absurd e (by show ¬ (4:Int)=_;decide)
theorem tokL_ok {l:List UInt8} {t:TokD} {k:Nat} (h:tokL l=some (t,k)):CanT t∧WordOk t:=by
 unfold tokL at h
 split at h
 ·cases h
 ·rename_i c r
  split at h
  ·rename_i hc
   split at h
   ·rename_i h24
    injection h with h;injection h with h1 h2
    subst h1;refine ⟨can_nm _,Or.inl ⟨rfl,?_⟩⟩;have:=nameB_take (r:=r) hc;rw[decide_eq_true h24] at this;exact this
   ·cases h
  ·split at h
   ·rw[Option.map_eq_some_iff] at h
    obtain ⟨v,hv,h⟩:=h
    injection h with h1 h2
    subst h1;exact ⟨can_in _,Or.inr (Or.inl ⟨rfl,(intL_iff.1 hv).1⟩)⟩
   ·split at h
    ·rw[Option.map_eq_some_iff] at h
     obtain ⟨v,hv,h⟩:=h
     injection h with h1 h2
     subst h1;exact ⟨can_st _,Or.inr (Or.inr (Or.inl rfl))⟩
    ·rw[Option.map_eq_some_iff] at h
     obtain ⟨v,hv,h⟩:=h
     injection h with h1 h2
     subst h1;exact ⟨can_sy _,Or.inr (Or.inr (Or.inr ⟨rfl,sym_take hv⟩))⟩
theorem toks_ok:∀ (n:Nat) (ln:Int) (l:List UInt8) (o:List TokD),l.length≤n→toksL ln l = .ok o→∀t∈o,CanT t∧WordOk t
 | _,ln,[],o,_,h,t,ht=>by
  rw[toksL_nil] at h
  injection h with h
  subst h;cases ht
 | 0,_,_::_,_,hn,_,_,_=>by simp at hn
 | n+1,ln,c::r,o,hn,h,t,ht=>by
  have hr:r.length≤n:=by simpa using hn
  rw[toksL_cons] at h
  split at h
  ·exact toks_ok n _ r o hr h t ht
  ·split at h
   ·exact toks_ok n _ r o hr h t ht
   ·split at h
    ·exact toks_ok n _ _ o (Nat.le_trans (lineL_le r) hr) h t ht
    ·split at h
     ·cases h
     ·rename_i u k hk
      obtain ⟨q,hq,rfl⟩:=map_ok h;have hle:=tokL_le hk
      rcases List.mem_cons.1 ht with rfl|ht
      ·have:=tokL_ok hk
       exact ⟨this.1,this.2⟩
      ·exact toks_ok n _ _ q (by rw[List.length_drop];simp only[List.length_cons] at *;omega) hq t ht
theorem bytes_app:∀ (a b:List TokD),bytesT (a++b)=bytesT a+bytesT b
 | [],b=>by rw[List.nil_append,bytesT,Nat.zero_add]
 | t::a,b=>by rw[List.cons_append,bytesT,bytesT,bytes_app a b,Nat.add_assoc]
theorem bytes_strip:∀l:List TokD,bytesT (l.map stripT)=bytesT l
 | []=>rfl
 | t::l=>by rw[List.map_cons,bytesT,bytesT,bytes_strip l];rfl
def bigT (l:List TokD):Nat:=bytesT l+2 * l.length
theorem big_app (a b:List TokD):bigT (a++b)=bigT a+bigT b:=by
 unfold bigT;rw[bytes_app,List.length_append];omega
theorem big_cons (t:TokD) (l:List TokD):bigT (t::l)=(wordT t).size+2+bigT l:=by
 unfold bigT;rw[bytesT,List.length_cons];omega
theorem w_nm (s:ByteArray):(wordT (nmK s)).size=s.size:=rfl
theorem w_sy (s:ByteArray):(wordT (syK s)).size=s.size:=rfl
theorem w_in (n:Int):(wordT (inK n)).size=(decB n).size:=rfl
theorem w_st (s:ByteArray):(wordT (stK s)).size=(quD s).size:=rfl
def LenV (f:Int→Val→ByteArray) (g:Int→Val→List TokD) (t:Int) (v:Val):Prop:=(f t v).size≤bigT (g t v)
theorem lenJoin:∀ps:List (List UInt8×List TokD),(∀p∈ps,p.1.length≤bigT p.2)→(jnL (ps.map Prod.fst)).length≤bigT (sepT id (ps.map Prod.snd))
 | [],_=>Nat.le_refl _
 | [p],h=>h p (List.mem_singleton.2 rfl)
 | p::q::r,h=>by
  have h1:=lenJoin (q::r) fun x hx=>h x (List.mem_cons_of_mem _ hx)
  have h2:=h p (List.mem_cons_self ..)
  show (p.1++44::32::jnL ((q::r).map Prod.fst)).length≤bigT (p.2++syK ⟨#[44]⟩::sepT id ((q::r).map Prod.snd))
  rw[List.length_append,List.length_cons,List.length_cons,big_app,big_cons,w_sy]
  show _≤_+(1+2+_)
  omega
theorem len_list {α:Type} {h:α→ByteArray} {k:α→List TokD} {vs:List α} (hv:∀v∈vs,(h v).size≤bigT (k v)):(catL (vs.map h)).size≤bigT (sepT k vs):=by
 have hj:=lenJoin (vs.map fun p=>((h p).data.toList,k p)) fun p hp=>by
  obtain ⟨q,hq,rfl⟩:=List.mem_map.1 hp;exact hv q hq
 rw[cat_size,sepT_id];simp only[List.map_map] at hj ⊢;exact hj
theorem len_rec {f:Int→Val→ByteArray} {g:Int→Val→List TokD} {x:TyD} {vs:List Val} {rs:List RawD} (hl:vs.length=x.mems.length) (h:∀i (h:i<x.mems.length) (h':i<vs.length),LenV f g x.mems[i].type vs[i]) :
  (⟨#[123]⟩++catL ((x.mems.zip vs).map (memP f)++rs.map rawP)++⟨#[125]⟩:ByteArray).size≤bigT (syK ⟨#[123]⟩::(mtk g true x.mems vs++(rtk x.mems.isEmpty rs++[syK ⟨#[125]⟩]))):=by
 rw[←List.append_assoc,rec_sep g hl,ByteArray.size_append,ByteArray.size_append,cat_size,big_cons,big_app,big_cons,w_sy,w_sy,one_size,one_size];have hz:∀p∈x.mems.zip vs,LenV f g p.1.type p.2:=fun p hp=>by
  obtain ⟨i,hi,he⟩:=List.mem_iff_getElem.1 hp;rw[List.getElem_zip] at he;rw[List.length_zip] at hi;subst he;exact h i (by omega) (by omega)
 have hj:=lenJoin ((x.mems.zip vs).map (fun p=>((memP f p).data.toList,partM g p))++rs.map fun r=>((rawP r).data.toList,partR r)) fun p hp=>by
  rcases List.mem_append.1 hp with hp|hp
  ·obtain ⟨q,hq,rfl⟩:=List.mem_map.1 hp
   have:=hz q hq;unfold LenV at this
   show (memP f q).size≤_
   unfold memP partM;rw[ByteArray.size_append,ByteArray.size_append,big_cons,big_cons,w_nm,w_sy,one_size]
   show _+2+_≤_
   omega
  ·obtain ⟨q,hq,rfl⟩:=List.mem_map.1 hp
   show (rawP q).size≤_
   unfold rawP partR;rw[ByteArray.size_append,ByteArray.size_append,big_cons,big_cons,big_cons,w_in,w_sy,w_st,one_size]
   show _+2+_≤_
   omega
 simp only[List.map_append,List.map_map] at hj ⊢;have hj2:(jnL ((x.mems.zip vs).map ((fun b:ByteArray=>b.data.toList)∘memP f)++rs.map ((fun b:ByteArray=>b.data.toList)∘rawP))).length≤bigT (sepT id ((x.mems.zip vs).map (partM g)++rs.map partR)):=hj
 omega
theorem val_len {s:List TyD} (hK:∀t,0≤t→t<(s.length:Int)→1≤(tyAt s t).kind∧(tyAt s t).kind≤9):∀ (n:Nat) (t:Int) (v:Val),fitF s false n t v=true→LenV (litF s n) (tkF s n) t v
 | 0,_,_,h=>by cases h
 | n+1,t,v,hfit=>by
  obtain ⟨h1,h2,hk,hp,hf⟩:=fit_parts hfit;have hkr:=hK t h1 h2;have ih:=val_len hK n;unfold LenV;rw[litF,tkF];generalize tyAt s t=x at *;have hc:x.kind=1∨x.kind=2∨x.kind=3∨x.kind=4∨x.kind=5∨x.kind=6∨x.kind=7∨x.kind=8∨x.kind=9:=by omega
  unfold fitB at hf
  rcases hc with hc|hc|hc|hc|hc|hc|hc|hc|hc
  ·unfold litB tkBy
   rw[if_pos hc,if_pos hc,big_cons,w_nm]
   omega
  ·unfold litB tkBy
   rw[if_neg (by omega),if_pos hc,if_neg (by omega),if_pos hc,big_cons,w_in]
   omega
  ·unfold litB tkBy
   rw[if_neg (by omega),if_neg (by omega),if_pos hc,if_neg (by omega),if_neg (by omega),if_pos hc,big_cons,w_st]
   omega
  ·unfold litB tkBy
   rw[if_neg (by omega),if_neg (by omega),if_neg (by omega),if_pos hc,if_neg (by omega),if_neg (by omega),if_neg (by omega),if_pos hc]
   unfold enumT
   cases hm:x.syms.find? fun y=>decide (y.id=v.id) with
   | some y=>simp only;rw[big_cons,w_nm];omega
   | none=>simp only;rw[big_cons,big_cons,w_in,w_sy,ByteArray.size_append];omega
  ·rw[if_neg (by omega),if_neg (by omega),if_neg (by omega),if_pos hc] at hf
   unfold litB tkBy;rw[if_neg (by omega),if_neg (by omega),if_neg (by omega),if_neg (by omega),if_pos hc,if_neg (by omega),if_neg (by omega),if_neg (by omega),if_neg (by omega),if_pos hc]
   simp only[Bool.and_eq_true] at hf;exact len_rec (of_decide_eq_true hf.1.1.1) fun i h1 h2=>ih _ _ (okZips _ _ hf.2 i h1 h2)
  ·rw[if_neg (by omega),if_neg (by omega),if_neg (by omega),if_neg (by omega),if_pos hc] at hf
   rw[tkB6 _ hc]
   cases hm:x.mems.find? fun m=>decide (m.id=v.id) with
   | some m =>
    rw[hm] at hf;simp only[Bool.and_eq_true] at hf;obtain ⟨w,hw⟩:=List.length_eq_one_iff.1 (of_decide_eq_true hf.1.1);rw[hw] at hf ⊢;have hw2:fitF s false n m.type w=true:=by simpa using hf.2
    have:=ih _ _ hw2;unfold LenV at this;rw[lit6s _ hc hm hw,uniS _ hm,ByteArray.size_append,ByteArray.size_append,ByteArray.size_append,big_cons,big_cons,big_app,big_cons,w_nm,w_sy,w_sy,one_size,one_size]
    omega
   | none =>
    rw[hm] at hf;simp only[Bool.and_eq_true] at hf;obtain ⟨w,hw⟩:=List.length_eq_one_iff.1 (of_decide_eq_true hf.1.2);rw[hw];rw[lit6n _ hc hm hw,uniN _ hm,ByteArray.size_append,ByteArray.size_append,ByteArray.size_append,ByteArray.size_append,big_cons,big_cons,big_cons,big_cons,big_cons,w_in,w_sy,w_sy,w_sy,w_st,one_size,one_size,one_size]
    omega
  ·rw[if_neg (by omega),if_neg (by omega),if_neg (by omega),if_neg (by omega),if_neg (by omega),if_pos hc] at hf
   unfold litB tkBy;rw[if_neg (by omega),if_neg (by omega),if_neg (by omega),if_neg (by omega),if_neg (by omega),if_neg (by omega),if_pos hc,if_neg (by omega),if_neg (by omega),if_neg (by omega),if_neg (by omega),if_neg (by omega),if_neg (by omega),if_pos hc]
   simp only[Bool.and_eq_true,List.all_eq_true] at hf;have:=len_list (h:=litF s n x.elem) (k:=tkF s n x.elem) (vs:=v.items) fun v hv=>ih _ _ (hf.2 v hv)
   rw[ByteArray.size_append,ByteArray.size_append,big_cons,big_app,big_cons,w_sy,w_sy,one_size,one_size]
   omega
  ·rw[if_neg (by omega),if_neg (by omega),if_neg (by omega),if_neg (by omega),if_neg (by omega),if_neg (by omega),if_pos hc] at hf
   rw[lit8k _ hc,tkB8 _ hc];simp only[Bool.and_eq_true,List.all_eq_true] at hf;rw[ByteArray.size_append,ByteArray.size_append,ByteArray.size_append,big_cons,w_sy,one_size,one_size];have:=len_list (h:=entP (litF s n x.key) (litF s n x.elem)) (k:=etk (tkF s n x.key) (tkF s n x.elem)) (vs:=v.keys.zip v.items) fun p hp=>by
    obtain ⟨p1,p2⟩:=p;have hm:=List.of_mem_zip hp;have h1:=ih _ _ (hf.1.1.2 p1 hm.1);have h2:=ih _ _ (hf.2 p2 hm.2);unfold LenV at h1 h2;unfold entP etk;rw[ByteArray.size_append,ByteArray.size_append,big_app,big_cons,w_sy]
    show _+4+_≤_+(2+2+_)
    simp only
    omega
   by_cases h0:v.keys.length=0
   ·have e1:v.keys=[]:=List.eq_nil_of_length_eq_zero h0
    rw[if_pos h0,if_pos h0,e1]
    show 1+2+(catL ([]:List ByteArray)).size+1≤1+2+bigT [syK ⟨#[45,62]⟩,syK ⟨#[93]⟩]
    decide
   ·rw[if_neg h0,if_neg h0,big_app,big_cons,w_sy,one_size]
    show 1+0+_+1≤_
    omega
  ·rw[if_neg (by omega),if_neg (by omega),if_neg (by omega),if_neg (by omega),if_neg (by omega),if_neg (by omega),if_neg (by omega),if_pos hc] at hf
   simp only[Bool.and_eq_true,List.all_eq_true] at hf
   cases hi:v.items with
   | nil =>
    rw[lit9n _ hc hi,tkB9 _ hc,hi]
    show 4≤bigT [nmK ⟨#[110,111,110,101]⟩]
    decide
   | cons w q =>
    have:=ih _ _ (hf.2 w (by rw[hi];exact List.mem_cons_self ..))
    unfold LenV at this;rw[lit9s _ hc hi,tkB9 _ hc,hi]
    show _≤bigT (nmK ⟨#[115,111,109,101]⟩::syK ⟨#[40]⟩::(tkF s n x.elem w++[syK ⟨#[41]⟩]))
    rw[ByteArray.size_append,ByteArray.size_append,big_cons,big_cons,big_app,big_cons,w_nm,w_sy,w_sy,one_size,one_size]
    show 5+_+1≤4+2+(1+2+(_+(1+2+_)))
    omega
section
variable {m:Bool} {f:Int→List TokD→Bool→PR Val}
end
theorem parse_out {s:List TyD} {t:Int} {x:ByteArray} {v:Val} (h:parseS false s t x=(v,0)) :
  (0≤t∧t<(s.length:Int))∧x.size≤65536∧fitV s false t v=true∧∃l,toksL 1 x.data.toList = .ok l∧readP false s t l = .ok (v,[],false):=by
 unfold parseS at h
 split at h
 ·injection h with _ h;cases h
 ·rename_i ht
  split at h
  ·injection h with _ h;cases h
  ·rename_i hx
   cases hl:toksL 1 x.data.toList with
   | error e=>rw[hl] at h;injection h with _ h;cases h
   | ok l =>
    rw[hl] at h;simp only at h
    cases hr:readP false s t l with
    | error e =>
     rw[hr] at h
     injection h with _ h
     try simp only at h
     subst h;exact absurd hr (valR_nz false s t l false)
    | ok p =>
     obtain ⟨w,r,k⟩:=p;rw[hr] at h;simp only at h
     split at h
     ·injection h with _ h;cases h
     ·rename_i hr0
      split at h
      ·injection h with _ h;cases h
      ·rename_i hk
       injection h with h _
       subst h;simp only[ne_eq,Decidable.not_not] at hr0;subst hr0;simp only[not_or,Bool.not_eq_true,Bool.not_eq_false] at hk;rw[hk.1] at hr;exact ⟨⟨by omega,by omega⟩,by omega,hk.2,l,rfl,hr⟩
theorem lit_toks {s:List TyD} (h:SchOk s) {t:Int} {v:Val} (hf:fitV s false t v=true) (ln:Int):toksL ln (litV s t v).data.toList = .ok ((tkF s (SizeOf.sizeOf v) t v).map (atL ln)):=by
 have:=val_lex h.nam h.kind (SizeOf.sizeOf v) t v hf ln [] sep_nil;rw[List.append_nil,toksL_nil] at this
 show toksL ln (litF s (SizeOf.sizeOf v) t v).data.toList=_
 rw[this];exact congrArg Except.ok (List.append_nil _)
theorem strip_at (ln:Int) (l:List TokD):(l.map (atL ln)).map stripT=l.map stripT:=by
 rw[List.map_map];rfl
theorem strip_twice (l:List TokD):(l.map stripT).map stripT=l.map stripT:=by
 rw[List.map_map];rfl
theorem tokens_law {s:List TyD} (h:SchOk s) {t:Int} {x:ByteArray} {v:Val} (hp:parseS false s t x=(v,0)) :
  fitV s false t v=true∧(litV s t v).size≤3 * x.size∧∃a b,toksL 1 x.data.toList = .ok a∧toksL 1 (litV s t v).data.toList = .ok b∧a.map stripT=b.map stripT:=by
 obtain ⟨ht,hx,hf,l,hl,hr⟩:=parse_out hp;have hc:CanL l:=fun u hu=>(toks_ok _ 1 _ l (Nat.le_refl _) hl u hu).1
 obtain ⟨pre,h1,h2⟩:=val_fwd h.ty h.sym h.kind (SizeOf.sizeOf v) t l false v [] hc hr hf;rw[List.append_nil] at h1;subst h1;have hsz:=val_len h.kind (SizeOf.sizeOf v) t v hf;have hts:=toks_size _ 1 _ l (Nat.le_refl _) hl;refine ⟨hf,?_,l,_,hl,lit_toks h hf 1,?_⟩
 ·show (litF s (SizeOf.sizeOf v) t v).size≤_
  unfold LenV bigT at hsz;rw[←h2,bytes_strip,List.length_map] at hsz;have hxl:x.data.toList.length=x.size:=rfl
  omega
 ·rw[strip_at,←h2,strip_twice]
section
variable {P:Program} (w:World)
theorem part_num {P:Program} (w:World) (t:TypeId) (k k':IntKind) (cs:Array Value) (off:Nat) (n:Int) (ht:P.underlying t=some (.int k')) (hc:cs[off]? = some (.int k n)) :
  (part t cs off).run P w = .ok (.int k n) w:=by
 unfold part;simp[go_sem,isAgg,run_underlying ht,hc]
theorem part_str {P:Program} (w:World) (t:TypeId) (cs:Array Value) (off:Nat) (n:ByteArray) (ht:P.underlying t=some .string) (hc:cs[off]? = some (.string n)) :
  (part t cs off).run P w = .ok (.string n) w:=by
 unfold part;simp[go_sem,isAgg,run_underlying ht,hc]
theorem eqF_num (d : Nat) (xs ys : Array Value) (f : Field) (fs : List Field) (a b : Int) (k k' : IntKind) (hn : f.name ≠ "_")
  (hx:(part f.type xs f.offset).run P w = .ok (.int k a) w) (hy:(part f.type ys f.offset).run P w = .ok (.int k b) w) (ht:P.underlying f.type=some (.int k')) :
  (Op.eqFields (d+1) xs ys (f::fs)).run P w=if a=b then (Op.eqFields (d+1) xs ys fs).run P w else .ok false w:=by
 simp only[Op.eqFields,if_pos hn,Sem.run_bind,hx,hy,Result.andThen_ok,run_equalIn_int w d f.type k k' a b ht]
 by_cases h:a=b
 ·subst h;simp
 ·have:(a==b)=false:=by simpa using h
  simp[this,h]
theorem eqF_str (d : Nat) (xs ys : Array Value) (f : Field) (fs : List Field) (a b : ByteArray) (hn : f.name ≠ "_")
  (hx:(part f.type xs f.offset).run P w = .ok (.string a) w) (hy:(part f.type ys f.offset).run P w = .ok (.string b) w) (ht:P.underlying f.type=some .string) :
  (Op.eqFields (d+1) xs ys (f::fs)).run P w=if a=b then (Op.eqFields (d+1) xs ys fs).run P w else .ok false w:=by
 simp only[Op.eqFields,if_pos hn,Sem.run_bind,hx,hy,Result.andThen_ok,run_equalIn_string w d f.type a b ht,bytes_beq]
 by_cases h:a=b
 ·subst h;simp
 ·simp[h]
end
theorem raw_self:Tryz.prog.underlying 97=some (.struct (Tryz.prog.fieldsOf 97)):=by
 unfold Program.fieldsOf;rw[Tryz.underlying97]
theorem run_equalIn_raw (d:Nat) (a b:Int) (s t:ByteArray) (w:World):(Op.equalIn (d+2) 97 (.agg #[.int .i64 a,.string s]) (.agg #[.int .i64 b,.string t])).run Tryz.prog w = .ok (decide (a=b∧s=t)) w:=by
 rw[run_equalIn_struct w (d+1) 97 _ _ raw_self (by kernel_rfl)]
 unfold Program.fieldsOf;rw[Tryz.underlying97];simp only;rw[eqF_num w d _ _ _ _ a b .i64 .i64 (by decide) (part_num w _ .i64 .i64 _ _ a Tryz.underlying3 rfl) (part_num w _ .i64 .i64 _ _ b Tryz.underlying3 rfl) Tryz.underlying3,
  eqF_str w d _ _ _ _ s t (by decide) (part_str w _ _ _ s Tryz.underlying9 rfl) (part_str w _ _ _ t Tryz.underlying9 rfl) Tryz.underlying9]
 by_cases h:a=b <;> by_cases h2:s=t <;> simp[h,h2,Op.eqFields]
theorem run_neq_raw (a b:Int) (s t:ByteArray) (w:World):(binOp .neq 97 (.agg #[.int .i64 a,.string s]) (.agg #[.int .i64 b,.string t])).run Tryz.prog w = .ok (.bool (!decide (a=b∧s=t))) w:=by
 rw[run_neq_struct,run_equalIn_raw 9998];rfl
theorem take_eq_of {α:Type} {l m:List α} {k:Nat} (hl:k<l.length) (hm:k<m.length) (h:l.take k=m.take k) (he:l[k]=m[k]):l.take (k+1)=m.take (k+1):=by
 rw[List.take_succ_eq_append_getElem hl,List.take_succ_eq_append_getElem hm,h,he]
theorem take_ne_of {α:Type} [DecidableEq α] {l m:List α} {k:Nat} (hl:k<l.length) (hm:k<m.length) (he:¬ l[k]=m[k]):decide (l=m)=false :=
 decide_eq_false fun e=>he (by subst e;rfl)
theorem take_all {α:Type} [DecidableEq α] {l m:List α} {k:Nat} (hk:¬ k<l.length) (hlen:l.length=m.length) (h:l.take k=m.take k):decide (l=m)=true :=
 decide_eq_true (by rwa [List.take_of_length_le (by omega),List.take_of_length_le (by omega)] at h)
theorem RawD.ext_iff' (x y:RawD):(x.id=y.id∧x.data=y.data)↔x=y:=by
 cases x;cases y;simp
theorem SymD.ext_iff' (x y:SymD):(x.id=y.id∧x.name=y.name)↔x=y:=by
 cases x;cases y;simp
theorem Val.ext_iff' (x y:Val):x=y↔(x.kind=y.kind∧x.bool=y.bool∧x.int=y.int∧x.str=y.str∧x.id=y.id∧x.rest=y.rest∧x.keys=y.keys∧x.items=y.items):=by
 obtain ⟨k,b,i,s,d,ks,is,r⟩:=x;obtain ⟨k',b',i',s',d',ks',is',r'⟩:=y;simp only[Val.mk.injEq,Val.kind,Val.bool,Val.int,Val.str,Val.id,Val.rest,Val.keys,Val.items]
 constructor
 ·rintro ⟨a1,a2,a3,a4,a5,a6,a7,a8⟩;exact ⟨a1,a2,a3,a4,a5,a8,a6,a7⟩
 ·rintro ⟨a1,a2,a3,a4,a5,a8,a6,a7⟩;exact ⟨a1,a2,a3,a4,a5,a6,a7,a8⟩
theorem val_ne {x y:Val} (h:¬ (x.kind=y.kind∧x.bool=y.bool∧x.int=y.int∧x.str=y.str∧x.id=y.id∧x.rest=y.rest∧x.keys=y.keys∧x.items=y.items)):decide (x=y)=false :=
 decide_eq_false fun e=>h ((Val.ext_iff' x y).1 e)
theorem letter_any (n : Int) (w : World) : Calls Tryz.prog 82 #[.int .u8 n] w fun e w' => e = .returned (.bool (letC n)) ∧ w = w' := by
  by_cases h1 : n = 95
  · subst h1
    go_enter Tryz.func82, Tryz.ntmps82
    go_wp2
    go_ret
    exact ⟨rfl, rfl⟩
  have e1 : (n == 95) = false := by simp [h1]
  by_cases h2 : 97 ≤ n <;> by_cases h3 : n ≤ 122 <;> by_cases h4 : 65 ≤ n <;> by_cases h5 : n ≤ 90
  all_goals first
    | (exfalso; omega)
    | (have HL := zh (show letC n = _ by unfold letC; simp only [h1, h2, h3, h4, h5]; rfl)
       clear h1
       go_enter Tryz.func82, Tryz.ntmps82
       go_wp2
       go_ret
       exact ⟨by rw [HL.out]; rfl, rfl⟩)
theorem digit_any (n : Int) (w : World) : Calls Tryz.prog 83 #[.int .u8 n] w fun e w' => e = .returned (.bool (digI n)) ∧ w = w' := by
  by_cases h2 : 48 ≤ n <;> by_cases h3 : n ≤ 57
  all_goals
    (have HL := zh (show digI n = _ by unfold digI; simp only [h2, h3]; rfl)
     go_enter Tryz.func83, Tryz.ntmps83
     go_wp2
     go_ret
     exact ⟨by rw [HL.out]; rfl, rfl⟩)
theorem name_get0 {s:ByteArray} (h:0<s.size):s.data.toList.getD 0 0=s[0]:=by
 have h':0<s.data.toList.length:=by simpa using h
 rw[List.getD_eq_getElem?_getD,zl h'];rfl
theorem name_big {s:ByteArray} (h:24<s.size):nameB s=false:=by
 unfold nameB;simp;omega
theorem name_head {s:ByteArray} (h:0<s.size) (hl:letC ((s[0].toNat:Nat):Int)=false):nameB s=false:=by
 unfold nameB;rw[name_get0 h,hl];simp
theorem name_bad {s:ByteArray} {k:Nat} (h:k<s.size) (hl:chB s[k]=false):nameB s=false:=by
 have:s.data.toList.all chB=false:=by
  rw[List.all_eq_false];refine ⟨s[k],?_,by simp[hl]⟩
  exact List.getElem_mem (l:=s.data.toList) (by simpa using h)
 unfold nameB;rw[this];simp
theorem name_good {s:ByteArray} (h:0<s.size) (h2:s.size≤24) (hl:letC ((s[0].toNat:Nat):Int)=true) (ha:∀k (hk:k<s.size),chB s[k]=true):nameB s=true:=by
 unfold nameB;rw[name_get0 h,hl];have:s.data.toList.all chB=true:=by
  rw[List.all_eq_true]
  intro c hc
  obtain ⟨k,hk,rfl⟩:=List.getElem_of_mem hc;exact ha k (by simpa using hk)
 rw[this];simp[h,h2]
theorem refIsName_any (s:ByteArray) (hs:SOk s) (w:World):Calls Tryz.prog 84 #[.string s] w fun e w'=>e = .returned (.bool (nameB s))∧w=w':=by
 unfold SOk at hs
 by_cases h0:s.size=0
 ·obtain rfl:s=⟨#[]⟩:=by
   obtain ⟨d⟩:=s;have:d.size=0:=h0;rw[Array.eq_empty_of_size_eq_zero this]
  clear hs h0
  go_enter Tryz.func84,Tryz.ntmps84
  go_wp2
  go_ret
  exact ⟨by rfl,rfl⟩
 have hp:0<s.size:=by omega
 have hne:=bytes_cons hp;have hne2:s.toList.isEmpty=false:=by simpa using hne
 by_cases hbig:24<s.size
 ·have HN:=zh (name_big hbig)
  clear h0
  go_enter Tryz.func84,Tryz.ntmps84
  go_wp2
  go_ret
  exact ⟨by rw[HN.out];rfl,rfl⟩
 have hle:s.size≤24:=by omega
 cases hl:letC ((s[0].toNat:Nat):Int) with
 | false =>
  have HN:=zh (name_head hp hl);have HL:=zh hl;clear h0 hbig hl
  go_enter Tryz.func84,Tryz.ntmps84
  go_wp2_with (go_at_call 82;refine (letter_any _ _).mono ?_;rintro e w' ⟨rfl,rfl⟩;rw[HL.out])
  go_ret
  exact ⟨by rw[HN.out];rfl,rfl⟩
 | true =>
  have HL:=zh hl;clear h0 hbig hl
  go_enter Tryz.func84,Tryz.ntmps84
  go_wp2_with (go_at_call 82;refine (letter_any _ _).mono ?_;rintro e w' ⟨rfl,rfl⟩;rw[HL.out])
  go_loop [3] (fun i=>∃k:Nat,k≤s.size∧i = .int .i64 k∧Hid (∀j (hj:j<s.size),j<k→chB s[j]=true)) (fun i=>s.size - (intOf i).toNat)
  case atStart=>exact ⟨0,by omega,rfl,fun j hj h=>absurd h (by omega)⟩
  case round =>
   obtain ⟨k,hk,rfl,hh⟩:=hrel
   by_cases hlt:k<s.size
   ·cases h1:letC ((s[k].toNat:Nat):Int) with
    | true =>
     have HC:Hid (chB s[k]=true):=by show _=_;unfold chB;rw[h1];rfl
     have H1:=zh h1;clear h1;go_wp2_with (go_at_call 82;refine (letter_any _ _).mono ?_;rintro e w' ⟨rfl,rfl⟩;rw[H1.out])
     go_round
     case rel =>
      refine ⟨k+1,by omega,by go_num,fun j hj hjk=>?_⟩
      by_cases e:j=k
      ·subst e;exact HC.out
      ·exact hh.out j hj (by omega)
     case measure=>simp[intOf];omega
    | false =>
     cases h2:digI ((s[k].toNat:Nat):Int) with
     | true =>
      have HC:Hid (chB s[k]=true):=by show _=_;unfold chB;rw[h1,h2];rfl
      have H1:=zh h1;have H2:=zh h2;clear h1 h2;go_wp2_with (first|(go_at_call 82;refine (letter_any _ _).mono ?_;rintro e w' ⟨rfl,rfl⟩;rw[H1.out])|(go_at_call 83;refine (digit_any _ _).mono ?_;rintro e w' ⟨rfl,rfl⟩;rw[H2.out]))
      go_round
      case rel =>
       refine ⟨k+1,by omega,by go_num,fun j hj hjk=>?_⟩
       by_cases e:j=k
       ·subst e;exact HC.out
       ·exact hh.out j hj (by omega)
      case measure=>simp[intOf];omega
     | false =>
      have HN:=zh (name_bad hlt (show chB s[k]=false by unfold chB;rw[h1,h2];rfl))
      have H1:=zh h1;have H2:=zh h2;clear h1 h2;go_wp2_with (first|(go_at_call 82;refine (letter_any _ _).mono ?_;rintro e w' ⟨rfl,rfl⟩;rw[H1.out])|(go_at_call 83;refine (digit_any _ _).mono ?_;rintro e w' ⟨rfl,rfl⟩;rw[H2.out]));go_ret;exact ⟨by rw[HN.out];rfl,rfl⟩
   ·have HN:=zh (name_good hp hle HL.out fun k hk=>hh.out k hk (by omega))
    go_wp2
    go_ret
    exact ⟨by rw[HN.out];rfl,rfl⟩
def rSameAt (x:Val):Prop:=∀ (y:Val) (A1:zo) (c1:Nat) (A2:zo) (c2:Nat) (A3:zo) (c3:Nat) (B1:zo) (d1:Nat) (B2:zo) (d2:Nat) (B3:zo) (d3:Nat) (w:World),
 ValR w x A1 A2 A3→ValR w y B1 B2 B3→Calls Tryz.prog 51 #[x.v A1 c1 A2 c2 A3 c3,y.v B1 d1 B2 d2 B3 d3] w (SamePost (decide (x=y)) w)
theorem rSames_any (l m:List Val) (ih:∀x∈l,rSameAt x) (A B:zo) (c d:Nat) (w:World) (hl:ValsR w A l) (hm:ValsR w B m) :
  Calls Tryz.prog 80 #[.slice A l.length c,.slice B m.length d] w (SamePost (decide (l=m)) w):=by
 have hn:=hl.1.lt (by omega)
 by_cases hlen:l.length=m.length
 ·rw[←hlen]
  have hb0:((l.length:Int) != (l.length:Int))=false:=by simp
  have HL:=zh hl;have HM:=zh hm;have HE:=zh hlen;have HI:=zh ih;clear hl hm hlen ih
  go_enter Tryz.func80,Tryz.ntmps80
  go_wp2
  go_loopw [5] (fun i wr=>∃k:Nat,k≤l.length∧i = .int .i64 k∧Hid (l.take k=m.take k)∧Hid (Below w.heap.size w wr)) (fun i _=>l.length - (intOf i).toNat)
  case atStart=>exact ⟨0,by omega,rfl,rfl,Below.refl _ _⟩
  case round =>
   obtain ⟨k,hk,rfl,htk,hbw⟩:=hrel
   by_cases hlt:k<l.length
   ·have hlt':k<m.length:=by have:=HE.out;omega
    obtain ⟨b,o,A1,c1,A2,c2,A3,c3,rfl,hr1,a0,a1,a2,a3,a4,a5,a6,a7⟩:=(HL.out.below hbw.out).at8 hlt;obtain ⟨b',o',B1,d1,B2,d2,B3,d3,rfl,hr2,b0,b1,b2,b3,b4,b5,b6,b7⟩:=(HM.out.below hbw.out).at8 hlt';have h1:(0:Int)≤(k:Int):=by omega
    have h2:(k:Int)<(l.length:Int):=by omega
    have HR1:=zh hr1;have HR2:=zh hr2;have HX:=zh (HI.out l[k] (List.getElem_mem hlt));clear hr1 hr2
    by_cases he:l[k]=m[k]
    ·have HQ:=zh (take_eq_of hlt hlt' htk.out he)
     have HD:=zh (decide_eq_true he);clear he;go_wp2
     go_still_tail 8,(by kernel_rfl)
     change wpList _ _ _ _ _ wr.drew
     go_wp2_with (go_at_call 51;refine (HX.out m[k] A1 c1 A2 c2 A3 c3 B1 d1 B2 d2 B3 d3 _ (HR1.out.below (zC (Below.refl _ _) 1)) (HR2.out.below (zC (Below.refl _ _) 1))).mono ?_;rintro e w2 ⟨rfl,hb2⟩;rw[HD.out])
     go_roundw
     case rel=>exact ⟨k+1,by omega,by go_num,HQ.out,zB hbw.out (undrew hb2)⟩
     case measure=>simp[intOf];omega
    ·have HQ:=zh (take_ne_of hlt hlt' he)
     have HD:=zh (decide_eq_false he);clear he;go_wp2
     go_still_tail 8,(by kernel_rfl)
     change wpList _ _ _ _ _ wr.drew
     go_wp2_with (go_at_call 51;refine (HX.out m[k] A1 c1 A2 c2 A3 c3 B1 d1 B2 d2 B3 d3 _ (HR1.out.below (zC (Below.refl _ _) 1)) (HR2.out.below (zC (Below.refl _ _) 1))).mono ?_;rintro e w2 ⟨rfl,hb2⟩;rw[HD.out])
     go_ret
     exact ⟨by rw[HQ.out];rfl,zB hbw.out (undrew hb2)⟩
   ·have HQ:=zh (take_all hlt HE.out htk.out)
    go_wp2
    go_ret
    exact ⟨by rw[HQ.out];rfl,hbw.out⟩
 ·have hb0:((l.length:Int) != (m.length:Int))=true:=bne_iff_ne.2 (by omega)
  have HQ:=zh (show decide (l=m)=false from decide_eq_false fun e=>hlen (by rw[e]))
  clear hlen
  go_enter Tryz.func80,Tryz.ntmps80
  go_wp2
  go_ret
  exact ⟨by rw[HQ.out];rfl,Below.refl _ _⟩
theorem rSame_step (x:Val) (ihk:∀z∈x.keys,rSameAt z) (ihi:∀z∈x.items,rSameAt z):rSameAt x:=by
 intro y A1 c1 A2 c2 A3 c3 B1 d1 B2 d2 B3 d3 w hx hy
 have HK:=zh ihk;have HI:=zh ihi;have HX:=zh hx;have HY:=zh hy;have hn:=hx.rest.1.lt (by omega)
 clear ihk ihi hx hy
 by_cases q1:x.kind=y.kind
 case neg =>
  have HD:=zh (val_ne (x:=x) (y:=y) (fun h=>q1 h.1))
  have e1:(x.kind != y.kind)=true:=by simpa using q1
  clear q1
  go_enter Tryz.func51,Tryz.ntmps51
  go_wp2
  go_ret
  exact ⟨by rw[HD.out];rfl,zI _ _ _⟩
 have e1:(x.kind != y.kind)=false:=by simpa using q1
 by_cases q2:x.bool=y.bool
 case neg =>
  have HD:=zh (val_ne (x:=x) (y:=y) (fun h=>q2 h.2.1))
  have e2:(x.bool==y.bool)=false:=by simpa using q2
  have p2:¬ x.bool=y.bool:=q2;clear q1 q2
  go_enter Tryz.func51,Tryz.ntmps51
  go_wp2
  go_ret
  exact ⟨by rw[HD.out];rfl,zI _ _ _⟩
 have e2:(x.bool==y.bool)=true:=by simpa using q2
 by_cases q3:x.int=y.int
 case neg =>
  have HD:=zh (val_ne (x:=x) (y:=y) (fun h=>q3 h.2.2.1))
  have e3:(x.int != y.int)=true:=by simpa using q3
  clear q1 q2 q3
  go_enter Tryz.func51,Tryz.ntmps51
  go_wp2
  go_ret
  exact ⟨by rw[HD.out];rfl,zI _ _ _⟩
 have e3:(x.int != y.int)=false:=by simpa using q3
 by_cases q4:x.str=y.str
 case neg =>
  have HD:=zh (val_ne (x:=x) (y:=y) (fun h=>q4 h.2.2.2.1))
  have e4:(x.str.toList==y.str.toList)=false:=by rw[bytes_beq,decide_eq_false q4]
  have p4:¬ x.str.toList=y.str.toList:=by simpa using e4
  clear q1 q2 q3 q4
  go_enter Tryz.func51,Tryz.ntmps51
  go_wp2
  go_ret
  exact ⟨by rw[HD.out];rfl,zI _ _ _⟩
 have e4:(x.str.toList==y.str.toList)=true:=by rw[bytes_beq,decide_eq_true q4]
 by_cases q5:x.id=y.id
 case neg =>
  have HD:=zh (val_ne (x:=x) (y:=y) (fun h=>q5 h.2.2.2.2.1))
  have e5:(x.id != y.id)=true:=by simpa using q5
  clear q1 q2 q3 q4 q5
  go_enter Tryz.func51,Tryz.ntmps51
  go_wp2
  go_ret
  exact ⟨by rw[HD.out];rfl,zI _ _ _⟩
 have e5:(x.id != y.id)=false:=by simpa using q5
 by_cases q6:x.rest.length=y.rest.length
 case neg =>
  have HD:=zh (val_ne (x:=x) (y:=y) (fun h=>q6 (by rw[h.2.2.2.2.2.1])))
  have e6:((x.rest.length:Int) != (y.rest.length:Int))=true:=bne_iff_ne.2 (by omega)
  clear q1 q2 q3 q4 q5 q6
  go_enter Tryz.func51,Tryz.ntmps51
  go_wp2
  go_ret
  exact ⟨by rw[HD.out];rfl,zI _ _ _⟩
 have HE:=zh q6;have HQ:=zh (And.intro q1 (And.intro q2 (And.intro q3 (And.intro q4 q5))));obtain ⟨n6,hn6⟩:∃n,n=y.rest.length:=⟨_,rfl⟩;rw[←hn6] at q6;have e6:((x.rest.length:Int) != (x.rest.length:Int))=false:=by simp
 have HV:Hid (y.v B1 d1 B2 d2 B3 d3 = .agg #[.int .i64 y.kind,.bool y.bool,.int .i64 y.int,.string y.str,.int .i64 y.id,.slice B1 y.keys.length d1,.slice B2 y.items.length d2,.slice B3 x.rest.length d3]):=by show _=_;rw[HE.out]
 rw[HV.out];clear q1 q2 q3 q4 q5 q6 hn6
 go_enter Tryz.func51,Tryz.ntmps51
 go_wp2
 go_loopw [5] (fun i wr=>∃k:Nat,k≤x.rest.length∧i = .int .i64 k∧Hid (x.rest.take k=y.rest.take k)∧Hid (Below (World.heap ((w.alloc (x.box A1 c1 A2 c2 A3 c3)).alloc (.cells #[.int .i64 y.kind,.bool y.bool,.int .i64 y.int,.string y.str,.int .i64 y.id,.slice B1 y.keys.length d1,.slice B2 y.items.length d2,.slice B3 x.rest.length d3] 28))).size ((w.alloc (x.box A1 c1 A2 c2 A3 c3)).alloc (.cells #[.int .i64 y.kind,.bool y.bool,.int .i64 y.int,.string y.str,.int .i64 y.id,.slice B1 y.keys.length d1,.slice B2 y.items.length d2,.slice B3 x.rest.length d3] 28)) wr)) (fun i _=>x.rest.length - (intOf i).toNat)
 case atStart=>exact ⟨0,by omega,rfl,rfl,Below.refl _ _⟩
 case round =>
  obtain ⟨k,hk,rfl,htk,hbw⟩:=hrel;have hc:=bcell hbw.out;have HB:=zh (below_alloc2 hbw.out);have hz0:=hbw.out.size;simp at hz0;have hz1:w.heap.size<wr.heap.size:=by omega
  have hz2:w.heap.size+1<wr.heap.size:=by omega
  clear hz0
  by_cases hlt:k<x.rest.length
  ·have hlt':k<y.rest.length:=by have:=HE.out;omega
   obtain ⟨b,o,rfl,_,a0,a1⟩:=(HX.out.rest.below HB.out).at2 hlt;obtain ⟨b',o',rfl,_,b0,b1⟩:=(HY.out.rest.below HB.out).at2 hlt';have h1:(0:Int)≤(k:Int):=by omega
   have h2:(k:Int)<(x.rest.length:Int):=by omega
   have hcx:=hc w.heap.size 7 (by simp;omega)
   have hcy:=hc (w.heap.size+1) 7 (by simp)
   have hcx':wr.cell? ⟨w.heap.size,7,none⟩=some (.slice (some ⟨b,o,none⟩) x.rest.length c3):=by rw[hcx];go_simp
   have hcy':wr.cell? ⟨w.heap.size+1,7,none⟩=some (.slice (some ⟨b',o',none⟩) x.rest.length d3):=by rw[hcy];go_simp
   clear hcx hcy hc
   by_cases he:x.rest[k]=y.rest[k]
   ·have heq:∀w,(binOp .neq 97 (.agg #[.int .i64 (x.rest[k]).id,.string (x.rest[k]).data]) (.agg #[.int .i64 (y.rest[k]).id,.string (y.rest[k]).data])).run Tryz.prog w = .ok (.bool false) w:=fun w=>by rw[run_neq_raw,decide_eq_true ((RawD.ext_iff' _ _).2 he)];rfl
    have HT:=zh (take_eq_of hlt hlt' htk.out he);clear he;go_wp2
    go_quiet (fail)
    go_wp2
    go_roundw
    case rel=>exact ⟨k+1,by omega,by go_num,HT.out,zC hbw.out _⟩
    case measure=>simp[intOf];omega
   ·have heq:∀w,(binOp .neq 97 (.agg #[.int .i64 (x.rest[k]).id,.string (x.rest[k]).data]) (.agg #[.int .i64 (y.rest[k]).id,.string (y.rest[k]).data])).run Tryz.prog w = .ok (.bool true) w:=fun w=>by rw[run_neq_raw,decide_eq_false (fun e=>he ((RawD.ext_iff' _ _).1 e))];rfl
    have HD:=zh (val_ne (x:=x) (y:=y) fun h=>by have:=take_ne_of hlt hlt' he;rw[decide_eq_true h.2.2.2.2.2.1] at this;cases this)
    clear he;go_wp2
    go_quiet (fail)
    go_wp2
    go_ret
    exact ⟨by rw[HD.out];rfl,zC HB.out _⟩
  ·have HT:=zh (of_decide_eq_true (take_all hlt HE.out htk.out))
   by_cases q7:x.keys=y.keys
   ·have H7:=zh (decide_eq_true q7)
    have HD:=zh (show decide (x=y)=decide (x.items=y.items) by
     rw[decide_eq_decide,Val.ext_iff'];obtain ⟨q1,q2,q3,q4,q5⟩:=HQ.out;exact ⟨fun h=>h.2.2.2.2.2.2.2,fun h=>⟨q1,q2,q3,q4,q5,HT.out,q7,h⟩⟩)
    clear q7;go_wp2_with fail;refine (rSames_any x.keys y.keys HK.out A1 B1 c1 d1 _ (HX.out.keys.below HB.out) (HY.out.keys.below HB.out)).mono ?_;rintro e w3 ⟨rfl,hb3⟩;rw[H7.out];have hc3:=bcell hb3;have HB3:=zh (zB HB.out hb3);clear hb3;go_wp2_with fail;refine (rSames_any x.items y.items HI.out A2 B2 c2 d2 _ (HX.out.items.below HB3.out) (HY.out.items.below HB3.out)).mono ?_;rintro e w4 ⟨rfl,hb4⟩
    go_wp2
    go_ret
    exact ⟨by rw[HD.out];rfl,zB HB3.out hb4⟩
   ·have H7:=zh (decide_eq_false q7)
    have HD:=zh (val_ne (x:=x) (y:=y) fun h=>q7 h.2.2.2.2.2.2.1)
    clear q7;go_wp2_with fail;refine (rSames_any x.keys y.keys HK.out A1 B1 c1 d1 _ (HX.out.keys.below HB.out) (HY.out.keys.below HB.out)).mono ?_;rintro e w3 ⟨rfl,hb3⟩;rw[H7.out];go_wp2;go_ret;exact ⟨by rw[HD.out];rfl,zB HB.out hb3⟩
mutual
theorem rSame_all:∀x:Val,rSameAt x
 | .mk _ _ _ _ _ ks is _=>rSame_step _ (rSame_alls ks) (rSame_alls is)
theorem rSame_alls:∀ (l:List Val),∀z∈l,rSameAt z
 | [],_,h=>by cases h
 | x::l,z,h=>by
  rcases List.mem_cons.1 h with e|e
  ·rw[e];exact rSame_all x
  ·exact rSame_alls l z e
end
section
variable {α:Type} {E k:Nat} {at_:World→α→List Value→Prop} {wr:World} {base H3 H:Nat} {A:zo} {c:Nat} {l:List α} {i:Nat}
end
section
variable {C:RCx} {V:Vx}
end
theorem r08Equal_any (x y:Val) (A1:zo) (c1:Nat) (A2:zo) (c2:Nat) (A3:zo) (c3:Nat) (B1:zo) (d1:Nat) (B2:zo) (d2:Nat) (B3:zo) (d3:Nat) (w:World) (hx:ValR w x A1 A2 A3) (hy:ValR w y B1 B2 B3) :
  Calls Tryz.prog 18 #[x.v A1 c1 A2 c2 A3 c3,y.v B1 d1 B2 d2 B3 d3] w (SamePost (decide (x=y)) w):=by
 have HB0:=zh (zI w (x.box A1 c1 A2 c2 A3 c3) (y.box B1 d1 B2 d2 B3 d3));have HX0:=zh (vc_box_new w (x.box A1 c1 A2 c2 A3 c3) (y.box B1 d1 B2 d2 B3 d3));have HS:=zh (rSame_all x y A1 c1 A2 c2 A3 c3 B1 d1 B2 d2 B3 d3 _ (hx.below HB0.out) (hy.below HB0.out));clear hx hy;generalize decide (x=y)=bb at *
 go_enter Tryz.func18,Tryz.ntmps18
 go_upto_region 1 with fail
 generalize (w.alloc (x.box A1 c1 A2 c2 A3 c3)).alloc (y.box B1 d1 B2 d2 B3 d3)=W0 at *;obtain ⟨v0,v1,v2,v3,v4,v5,v6,v7⟩:=vbox8 HX0.out.1;obtain ⟨u0,u1,u2,u3,u4,u5,u6,u7⟩:=vbox8 HX0.out.2.1;go_wp2_with fail;refine HS.out.mono ?_;rintro e w2 ⟨rfl,hb2⟩;have HB2:=zh (zB HB0.out hb2);clear hb2 v0 v1 v2 v3 v4 v5 v6 v7 u0 u1 u2 u3 u4 u5 u6 u7;go_wp2;go_ret;exact ⟨rfl,HB2.out⟩
open Go.ChangeShapes Go.WideShapes Go.ChangeAt Go.RowKit Go.Deep
set_option maxRecDepth 100000
section
variable {H:Type} {enc:TypeId×Value→H} {W:World}
end
open Go.ChangeShapes Go.WideShapes Go.ChangeAt Go.RowKit Go.Deep
set_option maxRecDepth 100000
section
variable {H:Type} {enc:TypeId×Value→H}
end
open Go.ChangeShapes Go.WideShapes Go.ChangeAt Go.RowKit Go.Deep
set_option maxRecDepth 100000
section
variable {H:Type} {enc:TypeId×Value→H} {W:World}
end
open Go.ChangeShapes Go.WideShapes Go.ChangeAt Go.RowKit Go.Deep
set_option maxRecDepth 100000
section
variable {H:Type} {enc:TypeId×Value→H} {W:World}
end
open Go.ChangeShapes Go.WideShapes Go.ChangeAt Go.RowKit Go.Deep
set_option maxRecDepth 100000
section
variable {H:Type} {enc:TypeId×Value→H} {W:World}
theorem open_strA {r:Reach} {b0:Nat} {v:Value} {d:DataW H} {p:List MemPlace} (hv:Value.okWide Tryz.prog W r b0 9 v) (h:DataW.Trod enc Tryz.prog W 0 (fun _=>true) true 9 v d p) (hz:Sz 9 d) :
  ∃s:ByteArray,v = .string s∧s.size≤140737488355328:=by
 obtain ⟨s,e,e2,_,_⟩:=Go.ChangeMaps.open_string Tryz.underlying9 hv h;subst e2;exact ⟨s,e,str_sz hz⟩
end
end Go.Proofs.YthkkllmmbefedaaGreatDoor


