/-
  What a valid schema is good for: plain Lean.
-/
import Derived.Test.YthkkllmmbefedaaGreatDoorProg
import Derived.Lib.Hide
import Derived.Laws.Rows
namespace Go.Proofs.YthkkllmmbefedaaGreatDoor
open Go.RowKit
set_option maxHeartbeats 16000000
set_option maxRecDepth 100000
universe u
abbrev Pe:=@Below.refl
abbrev AAJ:=@Bool.and_eq_true
abbrev ABS:=@Bool.or_eq_true
abbrev AA8:=@ByteArray.append_assoc
abbrev AAa:=@ByteArray.size_append
abbrev AAT:=@Int.eq_ofNat_of_zero_le
abbrev AA3:=@List.all_eq_true
abbrev ABO:=@List.any_eq_true
abbrev AA0:=@List.append_assoc
abbrev ABJ:=@List.cons_append
abbrev AAv:=@List.drop_eq_getElem_cons
abbrev AA7:=@List.drop_eq_nil_of_le
abbrev AAf:=@List.eq_nil_of_length_eq_zero
abbrev ABR:=@List.find?_cons
abbrev ABN:=@List.flatMap_cons
abbrev AAl:=@List.getD_eq_getElem?_getD
abbrev ABD:=@List.getElem?_append_left
abbrev ABB:=@List.getElem?_append_right
abbrev AAi:=@List.getElem?_eq_some_iff
abbrev AAK:=@List.getElem_mem
abbrev AAw:=@List.getElem_of_mem
abbrev AAt:=@List.length_append
abbrev AAS:=@List.length_cons
abbrev AA1:=@List.length_drop
abbrev AAZ:=@List.length_map
abbrev AA4:=@List.map_cons
abbrev AAo:=@List.mem_append
abbrev AAz:=@List.mem_append_left
abbrev ABM:=@List.mem_append_right
abbrev AAr:=@List.mem_cons
abbrev ABE:=@List.mem_cons_of_mem
abbrev ABH:=@List.mem_cons_self
abbrev ABF:=@List.mem_of_getElem?
abbrev ABA:=@List.setIfInBounds_toArray
abbrev ABC:=@List.take_succ_eq_append_getElem
abbrev AAe:=@Nat.le_of_lt
abbrev AAH:=@Nat.le_refl
abbrev AAq:=@Nat.lt_of_lt_of_le
abbrev AAs:=@Option.map_eq_some_iff
abbrev AAm:=@Option.some.inj
abbrev AAc:=@beq_eq_false_iff_ne
abbrev ABP:=@beq_iff_eq
abbrev AAE:=@cell_of_row
abbrev AAU:=@decide_eq_false
abbrev AAX:=@decide_eq_true
abbrev AAd:=@decide_eq_true_eq
abbrev AAL:=@frozen_of_row
abbrev AAC:=@heap_alloc_new
abbrev AAF:=@heap_setCell_other
abbrev AAW:=@heap_setCell_same
theorem Pd {c:Prop} {h:Decidable c} (hnc:¬c) {α:Sort u} {t e:α}:ite c t e=e:=if_neg hnc
abbrev AAG:=@if_pos
abbrev AAu:=@of_decide_eq_true
theorem zh {p:Prop} (h:p):Hid p:=h
theorem zg {α:Type} {xs:Array α} {i:Nat} {b:α}:xs[i]? = some b↔∃h:i<xs.size,xs[i]=b:=Array.getElem?_eq_some_iff
theorem zl {α:Type} {l:List α} {i:Nat} (h:i<l.length):l[i]? = some l[i]:=getElem?_pos l i h
theorem zb {w:World} {p ty:Nat} {v:Value} {fr:Nat×Nat} (h:w.heap[p]? = some (.cells #[v] ty fr)):w.cell? ⟨p,0,none⟩=some v:=by rw[AAE _ _ _ _ _ _ h];rfl
theorem zw (w:World) (x y:Obj):((w.alloc x).alloc y).heap[w.heap.size]? = some x:=by
 have h:=AAC w x;exact (((Pe (w.alloc x).heap.size (w.alloc x)).alloc (AAH _) y).block _ (zg.1 h).1).trans h
theorem zx (w:World) (x y:Obj):((w.alloc x).alloc y).heap[w.heap.size+1]? = some y:=by
 have h:=AAC (w.alloc x) y
 simpa using h
section
variable {k:Int}
theorem zk1 (h:k=1):(k==1)=true:=by simp[h]
theorem zk2 (h:k=2):(k==1)=false/\(k==2)=true:=by simp[h]
theorem zk3 (h:k=3):(k==1)=false/\(k==2)=false/\(k==3)=true:=by simp[h]
theorem zk4 (h:k=4):(k==1)=false/\(k==2)=false/\(k==3)=false/\(k==4)=true:=by simp[h]
theorem zk5 (h:k=5):(k==1)=false/\(k==2)=false/\(k==3)=false/\(k==4)=false/\(k==5)=true:=by simp[h]
theorem zk6 (h:k=6):(k==1)=false/\(k==2)=false/\(k==3)=false/\(k==4)=false/\(k==5)=false/\(k==6)=true:=by simp[h]
theorem zk7 (h:k=7):(k==1)=false/\(k==2)=false/\(k==3)=false/\(k==4)=false/\(k==5)=false/\(k==6)=false/\(k==7)=true:=by simp[h]
theorem zk8 (h:k=8):(k==1)=false/\(k==2)=false/\(k==3)=false/\(k==4)=false/\(k==5)=false/\(k==6)=false/\(k==7)=false/\(k==8)=true:=by simp[h]
theorem zk9 (h:k=9):(k==1)=false/\(k==2)=false/\(k==3)=false/\(k==4)=false/\(k==5)=false/\(k==6)=false/\(k==7)=false/\(k==8)=false:=by simp[h]
end
abbrev zo:=Option Addr
def IQ {κ:Type} [DecidableEq κ] (k:κ) (K:List κ):Bool:=decide (k∈K)
theorem TM {κ:Type} [DecidableEq κ] {k:κ} {K:List κ}:IQ k K=true↔k∈K:=by simp[IQ]
theorem P9 {κ:Type} [DecidableEq κ] (k a:κ) (K:List κ):IQ k (K++[a])=(IQ k K||decide (k=a)):=by simp[IQ]
structure Ak where
 id:Int
 data:ByteArray
 deriving DecidableEq
inductive Val where
 | mk (kind:Int) (bool:Bool) (int:Int) (str:ByteArray) (id:Int) (keys items:List Val) (rest:List Ak)
mutual
def aN:Val->Val->Bool
 | .mk k b i s d ks is r,.mk k' b' i' s' d' ks' is' r'=>decide (k=k')&&(decide (b=b')&&(decide (i=i')&&(decide (s=s')&&(decide (d=d')&&(decide (r=r')&&(Im ks ks'&&Im is is'))))))
def Im:List Val->List Val->Bool
 | [],[]=>true
 | a::l,b::m=>aN a b&&Im l m
 | _,_=>false
end
mutual
theorem Pf:∀a b:Val,aN a b=true↔a=b
 | .mk k b i s d ks is r,.mk k' b' i' s' d' ks' is' r'=>by
  have h1:=Jw ks ks';have h2:=Jw is is';simp only[aN,AAJ,AAd,h1,h2,Val.mk.injEq]
  constructor
  ·rintro ⟨a1,a2,a3,a4,a5,a6,a7,a8⟩;exact ⟨a1,a2,a3,a4,a5,a7,a8,a6⟩
  ·rintro ⟨a1,a2,a3,a4,a5,a7,a8,a6⟩;exact ⟨a1,a2,a3,a4,a5,a6,a7,a8⟩
theorem Jw:∀l m:List Val,Im l m=true↔l=m
 | [],[]=>by simp[Im]
 | [],_::_=>by simp[Im]
 | _::_,[]=>by simp[Im]
 | a::l,b::m=>by
  have h1:=Pf a b;have h2:=Jw l m;simp only[Im,AAJ,h1,h2,List.cons.injEq]
end
instance:DecidableEq Val:=fun a b=>decidable_of_iff _ (Pf a b)
structure Bu where
 id:Int
 name:ByteArray
 deriving DecidableEq
structure AZ where
 id:Int
 name:ByteArray
 type:Int
 critical:Bool
 ED:Bool
 dflt:Val
 deriving DecidableEq
structure Ae where
 kind:Int
 name:ByteArray
 low:Int
 high:Int
 max:Int
 Aj:List Bu
 AA:List AZ
 key:Int
 elem:Int
 open_:Bool
 deriving DecidableEq
def Ih (t:Ae):List (Int×Int) :=
 t.AA.map (fun m=>(m.id,m.type))++(if t.kind=8 then [(0,t.key),(-1,t.elem)] else if t.kind=7\/t.kind=9 then [(-1,t.elem)] else [])
def IU (n:Int):Bool:=decide (n=95)||(decide (97<=n)&&decide (n<=122))||(decide (65<=n)&&decide (n<=90))
def IV (n:Int):Bool:=decide (48<=n)&&decide (n<=57)
def gI (c:UInt8):Bool:=IU c.toNat||IV c.toNat
def Dw (s:ByteArray):Bool:=decide (0<s.size)&&decide (s.size<=24)&&IU (((s.data.toList.getD 0 0).toNat:Nat):Int)&&s.data.toList.all gI
def Md (before:Int) (seen:List ByteArray):List (Int×ByteArray)->Bool
 | []=>true
 | x::r=>decide (1<=x.1)&&decide (x.1<=1000)&&decide (before<x.1) && !IQ x.2 seen&&Dw x.2&&Md x.1 (seen++[x.2]) r
def RG (l:List (Int×ByteArray)):Bool:=Md 0 [] l&&decide (l.length<=16)
def zeroV:Val := .mk 0 false 0 ⟨#[]⟩ 0 [] [] []
def Al:Ae:=⟨0,⟨#[]⟩,0,0,0,[],[],0,0,false⟩
def WJ (l:List Bu):Bool:=RG (l.map fun s=>(s.id,s.name))&&decide (l≠[])
def P8 (rec:Bool) (m:AZ):Bool:=(rec || !(m.critical||m.ED)) && !(m.critical&&m.ED)&&(m.ED||decide (m.dflt=zeroV))
def MW (rec:Bool) (l:List AZ):Bool:=l.all (P8 rec)&&RG (l.map fun m=>(m.id,m.name))&&(rec||decide (l≠[]))
def FB (t:Ae):Ae :=
 if t.kind=1 then { Al with kind:=t.kind }
 else if t.kind=2 then { Al with kind:=t.kind,low:=t.low,high:=t.high }
 else if t.kind=3 then { Al with kind:=t.kind,max:=t.max }
 else if t.kind=4 then { Al with kind:=t.kind,name:=t.name,Aj:=t.Aj,open_:=t.open_ }
 else if t.kind=5 then { Al with kind:=t.kind,name:=t.name,AA:=t.AA }
 else if t.kind=6 then { Al with kind:=t.kind,name:=t.name,AA:=t.AA,open_:=t.open_ }
 else if t.kind=7 then { Al with kind:=t.kind,max:=t.max,elem:=t.elem }
 else if t.kind=8 then { Al with kind:=t.kind,max:=t.max,key:=t.key,elem:=t.elem }
 else { Al with kind:=t.kind,elem:=t.elem }
def Cv (k:Int):Bool:=decide (k=4)||decide (k=5)||decide (k=6)
def Js (t:Ae):Bool :=
 if t.kind=2 then decide (t.low<=t.high)
 else if t.kind=3 then decide (0<=t.max)&&decide (t.max<=200)
 else if t.kind=4 then WJ t.Aj
 else if t.kind=5 then MW true t.AA
 else if t.kind=6 then MW false t.AA
 else if t.kind=7\/t.kind=8 then decide (0<=t.max)&&decide (t.max<=50)
 else true
def Fx (t:Ae):Bool:=decide (1<=t.kind)&&decide (t.kind<=9)&&decide (t=FB t)&&(!Cv t.kind||Dw t.name)&&Js t
def Zy (t:Ae):List Int:=(Ih t).map (·.2)
def Bc (k:Int):Bool:=decide (1<=k)&&decide (k<=4)
def Jl (s:List Ae) (seen:List ByteArray) (t:Ae):Int :=
 if !Fx t||(decide (t.name≠⟨#[]⟩)&&IQ t.name seen) then 1
 else if (Zy t).any (fun u=>decide (u<0)||decide ((s.length:Int)<=u)) then 4
 else if decide (t.kind=8) && !Bc ((s.getD t.key.toNat Al).kind) then 1
 else 0
def LX (s:List Ae) (seen:List ByteArray):List Ae->Int
 | []=>0
 | t::r=>if Jl s seen t=0 then LX s (seen++[t.name]) r else Jl s seen t
def zQ (s:List Ae):Int:=if 32<s.length then 3 else LX s [] s
section
variable (al:Nat->Nat->Bool) (ok:(Nat->Nat->Bool)->Nat->Nat->Bool)
end
end Go.Proofs.YthkkllmmbefedaaGreatDoor
namespace Go.Proofs.YthkkllmmbefedaaGreatDoor
end Go.Proofs.YthkkllmmbefedaaGreatDoor
namespace Go.Proofs.YthkkllmmbefedaaGreatDoor
def Lu:List Int->List Int->Bool
 | [],[]=>false
 | [],_::_=>true
 | _::_,[]=>false
 | a::l,b::m=>if a=b then Lu l m else decide (a<b)
section
variable (al:Nat->Nat->Bool) (ok:(Nat->Nat->Bool)->Nat->Nat->Bool)
end
end Go.Proofs.YthkkllmmbefedaaGreatDoor
namespace Go.Proofs.YthkkllmmbefedaaGreatDoor
section
variable {next:Int->List Int} {c0:Int}
end
theorem Ii {s:List Ae}:∀ (l:List Ae) (K:List ByteArray),LX s K l=0->∀t∈l,∃K,Jl s K t=0
 | [],_,_,t,h=>by cases h
 | x::r,K,h,t,ht=>by
  rw[LX] at h
  split at h
  ·rename_i h0
   rcases AAr.1 ht with e|e
   ·rw[e];exact ⟨K,h0⟩
   ·exact Ii r _ h t e
  ·rename_i h0;exact absurd h h0
variable {s:List Ae}
theorem Ug {K:List ByteArray} {t:Ae} (h:Jl s K t=0):Fx t=true/\∀u∈Zy t,0<=u/\u<(s.length:Int):=by
 unfold Jl at h
 split at h
 ·cases h
 ·rename_i h1
  split at h
  ·cases h
  ·rename_i h2
   refine ⟨?_,fun u hu=>?_⟩
   ·cases hf:Fx t with
    | true=>rfl
    | false=>rw[hf] at h1;simp at h1
   ·have h3:(Zy t).any (fun u=>decide (u<0)||decide ((s.length:Int)<=u))=false:=by simpa using h2
    rw[List.any_eq_false] at h3;have:=h3 u hu;simp at this
    omega
theorem LV (h:zQ s=0):s.length<=32:=by
 unfold zQ at h
 split at h
 ·cases h
 ·omega
theorem DV (h:zQ s=0) {t:Ae} (ht:t∈s):Fx t=true/\∀u∈Zy t,0<=u/\u<(s.length:Int):=by
 unfold zQ at h
 split at h
 ·cases h
 ·obtain ⟨K,hK⟩:=Ii s [] h t ht
  exact Ug hK
end Go.Proofs.YthkkllmmbefedaaGreatDoor



