/-
  What a valid schema is good for: plain Lean.
-/
import Derived.Test.YthkkllmmbefedaaGreatDoorProg
import Derived.Lib.Hide
import Derived.Laws.Rows
namespace Go.Proofs.YthkkllmmbefedaaGreatDoor
open Go.RowKit
set_option maxHeartbeats 16000000
set_option maxRecDepth 100000
universe u
abbrev Pe:=@Below.refl
abbrev AAM:=@Bool.and_eq_true
abbrev ABp:=@Bool.or_eq_true
abbrev AAk:=@ByteArray.append_assoc
abbrev AAQ:=@ByteArray.size_append
abbrev AAY:=@Int.eq_ofNat_of_zero_le
abbrev AAj:=@List.all_eq_true
abbrev ABh:=@List.any_eq_true
abbrev AAb:=@List.append_assoc
abbrev AAc:=@List.cons_append
abbrev ABJ:=@List.drop_eq_getElem_cons
abbrev ABW:=@List.drop_eq_nil_of_le
abbrev AAa:=@List.eq_nil_of_length_eq_zero
abbrev ABl:=@List.find?_cons
abbrev ABf:=@List.flatMap_cons
abbrev AAg:=@List.getD_eq_getElem?_getD
abbrev ABS:=@List.getElem?_append_left
abbrev ABQ:=@List.getElem?_append_right
abbrev AAf:=@List.getElem?_eq_some_iff
abbrev AAU:=@List.getElem_mem
abbrev ABT:=@List.getElem_of_mem
abbrev AAp:=@List.length_append
abbrev AAS:=@List.length_cons
abbrev AAy:=@List.length_drop
abbrev AAd:=@List.length_map
abbrev AA5:=@List.map_cons
abbrev AAm:=@List.mem_append
abbrev ABH:=@List.mem_append_left
abbrev ABe:=@List.mem_append_right
abbrev AAi:=@List.mem_cons
abbrev ABD:=@List.mem_cons_of_mem
abbrev AAl:=@List.mem_cons_self
abbrev ABX:=@List.mem_of_getElem?
abbrev ABV:=@List.setIfInBounds_toArray
abbrev ABd:=@List.take_succ_eq_append_getElem
abbrev AAV:=@Nat.le_of_lt
abbrev AAP:=@Nat.le_refl
abbrev AA2:=@Nat.lt_of_lt_of_le
abbrev AA4:=@Option.map_eq_some_iff
abbrev AAh:=@Option.some.inj
abbrev ABY:=@beq_eq_false_iff_ne
abbrev ABj:=@beq_iff_eq
abbrev AAN:=@cell_of_row
abbrev AAZ:=@decide_eq_false
abbrev AAT:=@decide_eq_true
abbrev AAX:=@decide_eq_true_eq
abbrev AAR:=@frozen_of_row
abbrev AAL:=@heap_alloc_new
abbrev AAO:=@heap_setCell_other
abbrev AAW:=@heap_setCell_same
theorem Pd {c:Prop} {h:Decidable c} (hnc:¬c) {α:Sort u} {t e:α}:ite c t e=e:=if_neg hnc
abbrev AAH:=@if_pos
abbrev AAe:=@of_decide_eq_true
theorem zh {p:Prop} (h:p):Hid p:=h
theorem zg {α:Type} {xs:Array α} {i:Nat} {b:α}:xs[i]? = some b↔∃h:i<xs.size,xs[i]=b:=Array.getElem?_eq_some_iff
theorem zl {α:Type} {l:List α} {i:Nat} (h:i<l.length):l[i]? = some l[i]:=getElem?_pos l i h
theorem zb {w:World} {p ty:Nat} {v:Value} {fr:Nat×Nat} (h:w.heap[p]? = some (.cells #[v] ty fr)):w.cell? ⟨p,0,none⟩=some v:=by rw[AAN _ _ _ _ _ _ h];rfl
theorem zw (w:World) (x y:Obj):((w.alloc x).alloc y).heap[w.heap.size]? = some x:=by
 have h:=AAL w x;exact (((Pe (w.alloc x).heap.size (w.alloc x)).alloc (AAP _) y).block _ (zg.1 h).1).trans h
theorem zx (w:World) (x y:Obj):((w.alloc x).alloc y).heap[w.heap.size+1]? = some y:=by
 have h:=AAL (w.alloc x) y
 simpa using h
section
variable {k:Int}
theorem zk1 (h:k=1):(k==1)=true:=by simp[h]
theorem zk2 (h:k=2):(k==1)=false/\(k==2)=true:=by simp[h]
theorem zk3 (h:k=3):(k==1)=false/\(k==2)=false/\(k==3)=true:=by simp[h]
theorem zk4 (h:k=4):(k==1)=false/\(k==2)=false/\(k==3)=false/\(k==4)=true:=by simp[h]
theorem zk5 (h:k=5):(k==1)=false/\(k==2)=false/\(k==3)=false/\(k==4)=false/\(k==5)=true:=by simp[h]
theorem zk6 (h:k=6):(k==1)=false/\(k==2)=false/\(k==3)=false/\(k==4)=false/\(k==5)=false/\(k==6)=true:=by simp[h]
theorem zk7 (h:k=7):(k==1)=false/\(k==2)=false/\(k==3)=false/\(k==4)=false/\(k==5)=false/\(k==6)=false/\(k==7)=true:=by simp[h]
theorem zk8 (h:k=8):(k==1)=false/\(k==2)=false/\(k==3)=false/\(k==4)=false/\(k==5)=false/\(k==6)=false/\(k==7)=false/\(k==8)=true:=by simp[h]
theorem zk9 (h:k=9):(k==1)=false/\(k==2)=false/\(k==3)=false/\(k==4)=false/\(k==5)=false/\(k==6)=false/\(k==7)=false/\(k==8)=false:=by simp[h]
end
abbrev zo:=Option Addr
def Ky {κ:Type} [DecidableEq κ] (k:κ) (K:List κ):Bool:=decide (k∈K)
theorem fe {κ:Type} [DecidableEq κ] {k:κ} {K:List κ}:Ky k K=true↔k∈K:=by simp[Ky]
theorem Qs {κ:Type} [DecidableEq κ] (k a:κ) (K:List κ):Ky k (K++[a])=(Ky k K||decide (k=a)):=by simp[Ky]
structure Af where
 id:Int
 data:ByteArray
 deriving DecidableEq
inductive Val where
 | mk (kind:Int) (bool:Bool) (int:Int) (str:ByteArray) (id:Int) (keys items:List Val) (rest:List Af)
mutual
def dh:Val->Val->Bool
 | .mk k b i s d ks is r,.mk k' b' i' s' d' ks' is' r'=>decide (k=k')&&(decide (b=b')&&(decide (i=i')&&(decide (s=s')&&(decide (d=d')&&(decide (r=r')&&(JH ks ks'&&JH is is'))))))
def JH:List Val->List Val->Bool
 | [],[]=>true
 | a::l,b::m=>dh a b&&JH l m
 | _,_=>false
end
mutual
theorem QY:∀a b:Val,dh a b=true↔a=b
 | .mk k b i s d ks is r,.mk k' b' i' s' d' ks' is' r'=>by
  have h1:=Kq ks ks';have h2:=Kq is is';simp only[dh,AAM,AAX,h1,h2,Val.mk.injEq]
  constructor
  ·rintro ⟨a1,a2,a3,a4,a5,a6,a7,a8⟩;exact ⟨a1,a2,a3,a4,a5,a7,a8,a6⟩
  ·rintro ⟨a1,a2,a3,a4,a5,a7,a8,a6⟩;exact ⟨a1,a2,a3,a4,a5,a6,a7,a8⟩
theorem Kq:∀l m:List Val,JH l m=true↔l=m
 | [],[]=>by simp[JH]
 | [],_::_=>by simp[JH]
 | _::_,[]=>by simp[JH]
 | a::l,b::m=>by
  have h1:=QY a b;have h2:=Kq l m;simp only[JH,AAM,h1,h2,List.cons.injEq]
end
instance:DecidableEq Val:=fun a b=>decidable_of_iff _ (QY a b)
structure Bq where
 id:Int
 name:ByteArray
 deriving DecidableEq
structure AY where
 id:Int
 name:ByteArray
 type:Int
 critical:Bool
 EY:Bool
 dflt:Val
 deriving DecidableEq
structure Aa where
 kind:Int
 name:ByteArray
 low:Int
 high:Int
 max:Int
 AV:List Bq
 AA:List AY
 key:Int
 elem:Int
 open_:Bool
 deriving DecidableEq
def JC (t:Aa):List (Int×Int) :=
 t.AA.map (fun m=>(m.id,m.type))++(if t.kind=8 then [(0,t.key),(-1,t.elem)] else if t.kind=7\/t.kind=9 then [(-1,t.elem)] else [])
def Ho (n:Int):Bool:=decide (n=95)||(decide (97<=n)&&decide (n<=122))||(decide (65<=n)&&decide (n<=90))
def Hw (n:Int):Bool:=decide (48<=n)&&decide (n<=57)
def jb (c:UInt8):Bool:=Ho c.toNat||Hw c.toNat
def EG (s:ByteArray):Bool:=decide (0<s.size)&&decide (s.size<=24)&&Ho (((s.data.toList.getD 0 0).toNat:Nat):Int)&&s.data.toList.all jb
def Nk (before:Int) (seen:List ByteArray):List (Int×ByteArray)->Bool
 | []=>true
 | x::r=>decide (1<=x.1)&&decide (x.1<=1000)&&decide (before<x.1) && !Ky x.2 seen&&EG x.2&&Nk x.1 (seen++[x.2]) r
def SB (l:List (Int×ByteArray)):Bool:=Nk 0 [] l&&decide (l.length<=16)
def zeroV:Val := .mk 0 false 0 ⟨#[]⟩ 0 [] [] []
def Ai:Aa:=⟨0,⟨#[]⟩,0,0,0,[],[],0,0,false⟩
def Xa (l:List Bq):Bool:=SB (l.map fun s=>(s.id,s.name))&&decide (l≠[])
def Qr (rec:Bool) (m:AY):Bool:=(rec || !(m.critical||m.EY)) && !(m.critical&&m.EY)&&(m.EY||decide (m.dflt=zeroV))
def Nb (rec:Bool) (l:List AY):Bool:=l.all (Qr rec)&&SB (l.map fun m=>(m.id,m.name))&&(rec||decide (l≠[]))
def FW (t:Aa):Aa :=
 if t.kind=1 then { Ai with kind:=t.kind }
 else if t.kind=2 then { Ai with kind:=t.kind,low:=t.low,high:=t.high }
 else if t.kind=3 then { Ai with kind:=t.kind,max:=t.max }
 else if t.kind=4 then { Ai with kind:=t.kind,name:=t.name,AV:=t.AV,open_:=t.open_ }
 else if t.kind=5 then { Ai with kind:=t.kind,name:=t.name,AA:=t.AA }
 else if t.kind=6 then { Ai with kind:=t.kind,name:=t.name,AA:=t.AA,open_:=t.open_ }
 else if t.kind=7 then { Ai with kind:=t.kind,max:=t.max,elem:=t.elem }
 else if t.kind=8 then { Ai with kind:=t.kind,max:=t.max,key:=t.key,elem:=t.elem }
 else { Ai with kind:=t.kind,elem:=t.elem }
def Cz (k:Int):Bool:=decide (k=4)||decide (k=5)||decide (k=6)
def Ki (t:Aa):Bool :=
 if t.kind=2 then decide (t.low<=t.high)
 else if t.kind=3 then decide (0<=t.max)&&decide (t.max<=200)
 else if t.kind=4 then Xa t.AV
 else if t.kind=5 then Nb true t.AA
 else if t.kind=6 then Nb false t.AA
 else if t.kind=7\/t.kind=8 then decide (0<=t.max)&&decide (t.max<=50)
 else true
def GQ (t:Aa):Bool:=decide (1<=t.kind)&&decide (t.kind<=9)&&decide (t=FW t)&&(!Cz t.kind||EG t.name)&&Ki t
def dG (t:Aa):List Int:=(JC t).map (·.2)
def BU (k:Int):Bool:=decide (1<=k)&&decide (k<=4)
def Kb (s:List Aa) (seen:List ByteArray) (t:Aa):Int :=
 if !GQ t||(decide (t.name≠⟨#[]⟩)&&Ky t.name seen) then 1
 else if (dG t).any (fun u=>decide (u<0)||decide ((s.length:Int)<=u)) then 4
 else if decide (t.kind=8) && !BU ((s.getD t.key.toNat Ai).kind) then 1
 else 0
def Ma (s:List Aa) (seen:List ByteArray):List Aa->Int
 | []=>0
 | t::r=>if Kb s seen t=0 then Ma s (seen++[t.name]) r else Kb s seen t
def zQ (s:List Aa):Int:=if 32<s.length then 3 else Ma s [] s
section
variable (al:Nat->Nat->Bool) (ok:(Nat->Nat->Bool)->Nat->Nat->Bool)
end
end Go.Proofs.YthkkllmmbefedaaGreatDoor
namespace Go.Proofs.YthkkllmmbefedaaGreatDoor
end Go.Proofs.YthkkllmmbefedaaGreatDoor
namespace Go.Proofs.YthkkllmmbefedaaGreatDoor
def M5:List Int->List Int->Bool
 | [],[]=>false
 | [],_::_=>true
 | _::_,[]=>false
 | a::l,b::m=>if a=b then M5 l m else decide (a<b)
section
variable (al:Nat->Nat->Bool) (ok:(Nat->Nat->Bool)->Nat->Nat->Bool)
end
end Go.Proofs.YthkkllmmbefedaaGreatDoor
namespace Go.Proofs.YthkkllmmbefedaaGreatDoor
section
variable {next:Int->List Int} {c0:Int}
end
theorem JD {s:List Aa}:∀ (l:List Aa) (K:List ByteArray),Ma s K l=0->∀t∈l,∃K,Kb s K t=0
 | [],_,_,t,h=>by cases h
 | x::r,K,h,t,ht=>by
  rw[Ma] at h
  split at h
  ·rename_i h0
   rcases AAi.1 ht with e|e
   ·rw[e];exact ⟨K,h0⟩
   ·exact JD r _ h t e
  ·rename_i h0;exact absurd h h0
variable {s:List Aa}
theorem Va {K:List ByteArray} {t:Aa} (h:Kb s K t=0):GQ t=true/\∀u∈dG t,0<=u/\u<(s.length:Int):=by
 unfold Kb at h
 split at h
 ·cases h
 ·rename_i h1
  split at h
  ·cases h
  ·rename_i h2
   refine ⟨?_,fun u hu=>?_⟩
   ·cases hf:GQ t with
    | true=>rfl
    | false=>rw[hf] at h1;simp at h1
   ·have h3:(dG t).any (fun u=>decide (u<0)||decide ((s.length:Int)<=u))=false:=by simpa using h2
    rw[List.any_eq_false] at h3;have:=h3 u hu;simp at this
    omega
theorem MZ (h:zQ s=0):s.length<=32:=by
 unfold zQ at h
 split at h
 ·cases h
 ·omega
theorem Df (h:zQ s=0) {t:Aa} (ht:t∈s):GQ t=true/\∀u∈dG t,0<=u/\u<(s.length:Int):=by
 unfold zQ at h
 split at h
 ·cases h
 ·obtain ⟨K,hK⟩:=JD s [] h t ht
  exact Va hK
end Go.Proofs.YthkkllmmbefedaaGreatDoor



