/-
  What a valid schema is good for: plain Lean.
-/
import Derived.Test.YthkkllmmbefedaaGreatDoorProg
import Derived.Lib.Hide
namespace Go.Proofs.YthkkllmmbefedaaGreatDoor
open Go.RowKit
set_option maxHeartbeats 16000000
set_option maxRecDepth 100000
theorem _root_.Go.RowKit.Hid.O {p:Prop} (h:RowKit.Hid p):p:=h
universe u
abbrev Pe:=@Below.refl
abbrev AAD:=@Bool.and_eq_true
abbrev ACE:=@Bool.or_eq_true
abbrev ABX:=@ByteArray.append_assoc
abbrev AAH:=@ByteArray.size_append
abbrev AAh:=@Int.eq_ofNat_of_zero_le
abbrev ABQ:=@List.all_eq_true
abbrev ABx:=@List.any_eq_true
abbrev AAo:=@List.append_assoc
abbrev AAs:=@List.cons_append
abbrev ABf:=@List.drop_eq_getElem_cons
abbrev ABg:=@List.drop_eq_nil_of_le
abbrev AAn:=@List.eq_nil_of_length_eq_zero
abbrev ACA:=@List.find?_cons
abbrev ABy:=@List.flatMap_cons
abbrev AA1:=@List.getD_eq_getElem?_getD
abbrev ABo:=@List.getElem?_append_left
abbrev ABm:=@List.getElem?_append_right
abbrev AAv:=@List.getElem?_eq_some_iff
abbrev AAL:=@List.getElem_mem
abbrev ABi:=@List.getElem_of_mem
abbrev ABF:=@List.length_append
abbrev AAI:=@List.length_cons
abbrev AA8:=@List.length_drop
abbrev AAt:=@List.length_map
abbrev ABh:=@List.map_cons
abbrev ABY:=@List.mem_append
abbrev ABj:=@List.mem_append_left
abbrev ABw:=@List.mem_append_right
abbrev ABP:=@List.mem_cons
abbrev ABZ:=@List.mem_cons_of_mem
abbrev ABT:=@List.mem_cons_self
abbrev ABp:=@List.mem_of_getElem?
abbrev ABG:=@List.setIfInBounds_toArray
abbrev ABq:=@List.take_succ_eq_append_getElem
abbrev AAM:=@Nat.le_of_lt
abbrev AAF:=@Nat.le_refl
abbrev ABa:=@Nat.lt_of_lt_of_le
abbrev AB1:=@Nat.lt_succ_self
abbrev ABc:=@Option.map_eq_some_iff
abbrev ABW:=@Option.some.inj
abbrev ABs:=@beq_eq_false_iff_ne
abbrev ABz:=@beq_iff_eq
abbrev AAC:=@cell_of_row
abbrev AAP:=@decide_eq_false
abbrev AAJ:=@decide_eq_true
abbrev AAV:=@decide_eq_true_eq
abbrev AAG:=@frozen_of_row
abbrev AAA:=@heap_alloc_new
abbrev AAE:=@heap_setCell_other
abbrev AAK:=@heap_setCell_same
theorem Pd {c:Prop} {h:Decidable c} (hnc:¬c) {α:Sort u} {t e:α}:ite c t e=e:=if_neg hnc
abbrev AAB:=@if_pos
abbrev AAr:=@of_decide_eq_true
theorem zh {p:Prop} (h:p):Hid p:=h
theorem zg {α:Type} {xs:Array α} {i:Nat} {b:α}:xs[i]? = some b↔∃h:i<xs.size,xs[i]=b:=Array.getElem?_eq_some_iff
theorem zl {α:Type} {l:List α} {i:Nat} (h:i<l.length):l[i]? = some l[i]:=getElem?_pos l i h
theorem zb {w:World} {p ty:Nat} {v:Value} {fr:Nat×Nat} (h:w.heap[p]? = some (.cells #[v] ty fr)):w.cell? ⟨p,0,none⟩=some v:=by rw[AAC _ _ _ _ _ _ h];rfl
theorem zw (w:World) (x y:Obj):((w.alloc x).alloc y).heap[w.heap.size]? = some x:=by
 have h:=AAA w x;exact (((Pe (w.alloc x).heap.size (w.alloc x)).alloc (AAF _) y).block _ (zg.1 h).1).trans h
theorem zx (w:World) (x y:Obj):((w.alloc x).alloc y).heap[w.heap.size+1]? = some y:=by
 have h:=AAA (w.alloc x) y
 simpa using h
section
variable {k:Int}
theorem zk1 (h:k=1):(k==1)=true:=by simp[h]
theorem zk2 (h:k=2):(k==1)=false/\(k==2)=true:=by simp[h]
theorem zk3 (h:k=3):(k==1)=false/\(k==2)=false/\(k==3)=true:=by simp[h]
theorem zk4 (h:k=4):(k==1)=false/\(k==2)=false/\(k==3)=false/\(k==4)=true:=by simp[h]
theorem zk5 (h:k=5):(k==1)=false/\(k==2)=false/\(k==3)=false/\(k==4)=false/\(k==5)=true:=by simp[h]
theorem zk6 (h:k=6):(k==1)=false/\(k==2)=false/\(k==3)=false/\(k==4)=false/\(k==5)=false/\(k==6)=true:=by simp[h]
theorem zk7 (h:k=7):(k==1)=false/\(k==2)=false/\(k==3)=false/\(k==4)=false/\(k==5)=false/\(k==6)=false/\(k==7)=true:=by simp[h]
theorem zk8 (h:k=8):(k==1)=false/\(k==2)=false/\(k==3)=false/\(k==4)=false/\(k==5)=false/\(k==6)=false/\(k==7)=false/\(k==8)=true:=by simp[h]
theorem zk9 (h:k=9):(k==1)=false/\(k==2)=false/\(k==3)=false/\(k==4)=false/\(k==5)=false/\(k==6)=false/\(k==7)=false/\(k==8)=false:=by simp[h]
end
abbrev zo:=Option Addr
def LV {κ:Type} [DecidableEq κ] (k:κ) (K:List κ):Bool:=decide (k∈K)
theorem kC {κ:Type} [DecidableEq κ] {k:κ} {K:List κ}:LV k K=true↔k∈K:=by simp[LV]
theorem Rj {κ:Type} [DecidableEq κ] (k a:κ) (K:List κ):LV k (K++[a])=(LV k K||decide (k=a)):=by simp[LV]
structure Af where
 id:Int
 data:ByteArray
 deriving DecidableEq
inductive Val where
 | mk (kind:Int) (bool:Bool) (int:Int) (str:ByteArray) (id:Int) (keys items:List Val) (rest:List Af)
mutual
def jB:Val->Val->Bool
 | .mk k b i s d ks is r,.mk k' b' i' s' d' ks' is' r'=>decide (k=k')&&(decide (b=b')&&(decide (i=i')&&(decide (s=s')&&(decide (d=d')&&(decide (r=r')&&(Jh ks ks'&&Jh is is'))))))
def Jh:List Val->List Val->Bool
 | [],[]=>true
 | a::l,b::m=>jB a b&&Jh l m
 | _,_=>false
end
mutual
theorem RH:∀a b:Val,jB a b=true↔a=b
 | .mk k b i s d ks is r,.mk k' b' i' s' d' ks' is' r'=>by
  have h1:=LJ ks ks';have h2:=LJ is is';simp only[jB,AAD,AAV,h1,h2,Val.mk.injEq]
  constructor
  ·rintro ⟨a1,a2,a3,a4,a5,a6,a7,a8⟩;exact ⟨a1,a2,a3,a4,a5,a7,a8,a6⟩
  ·rintro ⟨a1,a2,a3,a4,a5,a7,a8,a6⟩;exact ⟨a1,a2,a3,a4,a5,a6,a7,a8⟩
theorem LJ:∀l m:List Val,Jh l m=true↔l=m
 | [],[]=>by simp[Jh]
 | [],_::_=>by simp[Jh]
 | _::_,[]=>by simp[Jh]
 | a::l,b::m=>by
  have h1:=RH a b;have h2:=LJ l m;simp only[Jh,AAD,h1,h2,List.cons.injEq]
end
instance:DecidableEq Val:=fun a b=>decidable_of_iff _ (RH a b)
structure Bu where
 id:Int
 name:ByteArray
 deriving DecidableEq
structure Ac where
 id:Int
 name:ByteArray
 type:Int
 critical:Bool
 Et:Bool
 dflt:Val
 deriving DecidableEq
structure Aa where
 kind:Int
 name:ByteArray
 low:Int
 high:Int
 max:Int
 AX:List Bu
 AA:List Ac
 key:Int
 elem:Int
 open_:Bool
 deriving DecidableEq
def Jc (t:Aa):List (Int×Int) :=
 t.AA.map (fun m=>(m.id,m.type))++(if t.kind=8 then [(0,t.key),(-1,t.elem)] else if t.kind=7\/t.kind=9 then [(-1,t.elem)] else [])
def Dn (n:Int):Bool:=decide (n=95)||(decide (97<=n)&&decide (n<=122))||(decide (65<=n)&&decide (n<=90))
def FX (n:Int):Bool:=decide (48<=n)&&decide (n<=57)
def LA (c:UInt8):Bool:=Dn c.toNat||FX c.toNat
def Bz (s:ByteArray):Bool:=decide (0<s.size)&&decide (s.size<=24)&&Dn (((s.data.toList.getD 0 0).toNat:Nat):Int)&&s.data.toList.all LA
def OU (before:Int) (seen:List ByteArray):List (Int×ByteArray)->Bool
 | []=>true
 | x::r=>decide (1<=x.1)&&decide (x.1<=1000)&&decide (before<x.1) && !LV x.2 seen&&Bz x.2&&OU x.1 (seen++[x.2]) r
def TT (l:List (Int×ByteArray)):Bool:=OU 0 [] l&&decide (l.length<=16)
def zeroV:Val := .mk 0 false 0 ⟨#[]⟩ 0 [] [] []
def Ai:Aa:=⟨0,⟨#[]⟩,0,0,0,[],[],0,0,false⟩
def Yt (l:List Bu):Bool:=TT (l.map fun s=>(s.id,s.name))&&decide (l≠[])
def Ri (rec:Bool) (m:Ac):Bool:=(rec || !(m.critical||m.Et)) && !(m.critical&&m.Et)&&(m.Et||decide (m.dflt=zeroV))
def OJ (rec:Bool) (l:List Ac):Bool:=l.all (Ri rec)&&TT (l.map fun m=>(m.id,m.name))&&(rec||decide (l≠[]))
def F6 (t:Aa):Aa :=
 if t.kind=1 then { Ai with kind:=t.kind }
 else if t.kind=2 then { Ai with kind:=t.kind,low:=t.low,high:=t.high }
 else if t.kind=3 then { Ai with kind:=t.kind,max:=t.max }
 else if t.kind=4 then { Ai with kind:=t.kind,name:=t.name,AX:=t.AX,open_:=t.open_ }
 else if t.kind=5 then { Ai with kind:=t.kind,name:=t.name,AA:=t.AA }
 else if t.kind=6 then { Ai with kind:=t.kind,name:=t.name,AA:=t.AA,open_:=t.open_ }
 else if t.kind=7 then { Ai with kind:=t.kind,max:=t.max,elem:=t.elem }
 else if t.kind=8 then { Ai with kind:=t.kind,max:=t.max,key:=t.key,elem:=t.elem }
 else { Ai with kind:=t.kind,elem:=t.elem }
def Db (k:Int):Bool:=decide (k=4)||decide (k=5)||decide (k=6)
def LB (t:Aa):Bool :=
 if t.kind=2 then decide (t.low<=t.high)
 else if t.kind=3 then decide (0<=t.max)&&decide (t.max<=200)
 else if t.kind=4 then Yt t.AX
 else if t.kind=5 then OJ true t.AA
 else if t.kind=6 then OJ false t.AA
 else if t.kind=7\/t.kind=8 then decide (0<=t.max)&&decide (t.max<=50)
 else true
def Gm (t:Aa):Bool:=decide (1<=t.kind)&&decide (t.kind<=9)&&decide (t=F6 t)&&(!Db t.kind||Bz t.name)&&LB t
def iH (t:Aa):List Int:=(Jc t).map (·.2)
def BV (k:Int):Bool:=decide (1<=k)&&decide (k<=4)
def K4 (s:List Aa) (seen:List ByteArray) (t:Aa):Int :=
 if !Gm t||(decide (t.name≠⟨#[]⟩)&&LV t.name seen) then 1
 else if (iH t).any (fun u=>decide (u<0)||decide ((s.length:Int)<=u)) then 4
 else if decide (t.kind=8) && !BV ((s.getD t.key.toNat Ai).kind) then 1
 else 0
def ND (s:List Aa) (seen:List ByteArray):List Aa->Int
 | []=>0
 | t::r=>if K4 s seen t=0 then ND s (seen++[t.name]) r else K4 s seen t
def zQ (s:List Aa):Int:=if 32<s.length then 3 else ND s [] s
section
variable (al:Nat->Nat->Bool) (ok:(Nat->Nat->Bool)->Nat->Nat->Bool)
end
end Go.Proofs.YthkkllmmbefedaaGreatDoor
namespace Go.Proofs.YthkkllmmbefedaaGreatDoor
end Go.Proofs.YthkkllmmbefedaaGreatDoor
namespace Go.Proofs.YthkkllmmbefedaaGreatDoor
def Nh:List Int->List Int->Bool
 | [],[]=>false
 | [],_::_=>true
 | _::_,[]=>false
 | a::l,b::m=>if a=b then Nh l m else decide (a<b)
section
variable (al:Nat->Nat->Bool) (ok:(Nat->Nat->Bool)->Nat->Nat->Bool)
end
end Go.Proofs.YthkkllmmbefedaaGreatDoor
namespace Go.Proofs.YthkkllmmbefedaaGreatDoor
section
variable {next:Int->List Int} {c0:Int}
end
theorem Jd {s:List Aa}:∀ (l:List Aa) (K:List ByteArray),ND s K l=0->∀t∈l,∃K,K4 s K t=0
 | [],_,_,t,h=>by cases h
 | x::r,K,h,t,ht=>by
  rw[ND] at h
  split at h
  ·rename_i h0
   rcases ABP.1 ht with e|e
   ·rw[e];exact ⟨K,h0⟩
   ·exact Jd r _ h t e
  ·rename_i h0;exact absurd h h0
variable {s:List Aa}
theorem Wx {K:List ByteArray} {t:Aa} (h:K4 s K t=0):Gm t=true/\∀u∈iH t,0<=u/\u<(s.length:Int):=by
 unfold K4 at h
 split at h
 ·cases h
 ·rename_i h1
  split at h
  ·cases h
  ·rename_i h2
   refine ⟨?_,fun u hu=>?_⟩
   ·cases hf:Gm t with
    | true=>rfl
    | false=>rw[hf] at h1;simp at h1
   ·have h3:(iH t).any (fun u=>decide (u<0)||decide ((s.length:Int)<=u))=false:=by simpa using h2
    rw[List.any_eq_false] at h3;have:=h3 u hu;simp at this
    omega
theorem NC (h:zQ s=0):s.length<=32:=by
 unfold zQ at h
 split at h
 ·cases h
 ·omega
theorem Dx (h:zQ s=0) {t:Aa} (ht:t∈s):Gm t=true/\∀u∈iH t,0<=u/\u<(s.length:Int):=by
 unfold zQ at h
 split at h
 ·cases h
 ·obtain ⟨K,hK⟩:=Jd s [] h t ht
  exact Wx hK
