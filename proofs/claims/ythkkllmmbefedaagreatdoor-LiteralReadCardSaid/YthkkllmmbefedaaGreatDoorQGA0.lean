/-
  What a valid schema is good for: plain Lean.
-/
import Derived.Test.YthkkllmmbefedaaGreatDoorProg
import Derived.Lib.Hide
import Derived.Laws.Rows
namespace Go.Proofs.YthkkllmmbefedaaGreatDoor
open Go.RowKit
set_option maxHeartbeats 16000000
set_option maxRecDepth 100000
universe u
abbrev Pd:=@Below.refl
abbrev AAG:=@Bool.and_eq_true
abbrev AAu:=@ByteArray.append_assoc
abbrev AAa:=@ByteArray.size_append
abbrev AAh:=@Int.eq_ofNat_of_zero_le
abbrev AAq:=@List.all_eq_true
abbrev ABF:=@List.any_eq_true
abbrev AAx:=@List.append_assoc
abbrev ABE:=@List.cons_append
abbrev AAy:=@List.drop_eq_getElem_cons
abbrev AAp:=@List.drop_eq_nil_of_le
abbrev AAo:=@List.eq_nil_of_length_eq_zero
abbrev ABJ:=@List.find?_cons
abbrev ABG:=@List.flatMap_cons
abbrev AAi:=@List.getD_eq_getElem?_getD
abbrev AA8:=@List.getElem?_append_left
abbrev AAw:=@List.getElem?_append_right
abbrev AAZ:=@List.getElem?_eq_some_iff
abbrev AAW:=@List.getElem_mem
abbrev AAs:=@List.getElem_of_mem
abbrev AA6:=@List.length_append
abbrev AAS:=@List.length_cons
abbrev AAc:=@List.length_drop
abbrev AAk:=@List.length_map
abbrev ABB:=@List.map_cons
abbrev AAl:=@List.mem_append
abbrev AAn:=@List.mem_append_left
abbrev ABC:=@List.mem_append_right
abbrev AAf:=@List.mem_cons
abbrev ABA:=@List.mem_cons_of_mem
abbrev AA9:=@List.mem_cons_self
abbrev AAz:=@List.mem_of_getElem?
abbrev AAd:=@List.setIfInBounds_toArray
abbrev ABD:=@List.take_succ_eq_append_getElem
abbrev AAT:=@Nat.le_of_lt
abbrev AAQ:=@Nat.le_refl
abbrev AAt:=@Nat.lt_of_lt_of_le
abbrev AAj:=@Option.map_eq_some_iff
abbrev AAb:=@Option.some.inj
abbrev AAX:=@beq_eq_false_iff_ne
abbrev ABH:=@beq_iff_eq
abbrev AAB:=@cell_of_row
abbrev AAE:=@decide_eq_false
abbrev AAM:=@decide_eq_true
abbrev AAY:=@decide_eq_true_eq
abbrev AAK:=@frozen_of_row
abbrev AAA:=@heap_alloc_new
abbrev AAO:=@heap_setCell_other
abbrev AAV:=@heap_setCell_same
theorem Pe {c:Prop} {h:Decidable c} (hnc:¬c) {α:Sort u} {t e:α}:ite c t e=e:=if_neg hnc
abbrev AAC:=@if_pos
abbrev AAm:=@of_decide_eq_true
theorem zh {p:Prop} (h:p):Hid p:=h
theorem zg {α:Type} {xs:Array α} {i:Nat} {b:α}:xs[i]? = some b↔∃h:i<xs.size,xs[i]=b:=Array.getElem?_eq_some_iff
theorem zl {α:Type} {l:List α} {i:Nat} (h:i<l.length):l[i]? = some l[i]:=getElem?_pos l i h
theorem zb {w:World} {p ty:Nat} {v:Value} {fr:Nat×Nat} (h:w.heap[p]? = some (.cells #[v] ty fr)):w.cell? ⟨p,0,none⟩=some v:=by rw[AAB _ _ _ _ _ _ h];rfl
theorem zw (w:World) (x y:Obj):((w.alloc x).alloc y).heap[w.heap.size]? = some x:=by
 have h:=AAA w x;exact (((Pd (w.alloc x).heap.size (w.alloc x)).alloc (AAQ _) y).block _ (zg.1 h).1).trans h
theorem zx (w:World) (x y:Obj):((w.alloc x).alloc y).heap[w.heap.size+1]? = some y:=by
 have h:=AAA (w.alloc x) y
 simpa using h
section
variable {k:Int}
theorem zk1 (h:k=1):(k==1)=true:=by simp[h]
theorem zk2 (h:k=2):(k==1)=false/\(k==2)=true:=by simp[h]
theorem zk3 (h:k=3):(k==1)=false/\(k==2)=false/\(k==3)=true:=by simp[h]
theorem zk4 (h:k=4):(k==1)=false/\(k==2)=false/\(k==3)=false/\(k==4)=true:=by simp[h]
theorem zk5 (h:k=5):(k==1)=false/\(k==2)=false/\(k==3)=false/\(k==4)=false/\(k==5)=true:=by simp[h]
theorem zk6 (h:k=6):(k==1)=false/\(k==2)=false/\(k==3)=false/\(k==4)=false/\(k==5)=false/\(k==6)=true:=by simp[h]
theorem zk7 (h:k=7):(k==1)=false/\(k==2)=false/\(k==3)=false/\(k==4)=false/\(k==5)=false/\(k==6)=false/\(k==7)=true:=by simp[h]
theorem zk8 (h:k=8):(k==1)=false/\(k==2)=false/\(k==3)=false/\(k==4)=false/\(k==5)=false/\(k==6)=false/\(k==7)=false/\(k==8)=true:=by simp[h]
theorem zk9 (h:k=9):(k==1)=false/\(k==2)=false/\(k==3)=false/\(k==4)=false/\(k==5)=false/\(k==6)=false/\(k==7)=false/\(k==8)=false:=by simp[h]
end
abbrev zo:=Option Addr
def K6 {κ:Type} [DecidableEq κ] (k:κ) (K:List κ):Bool:=decide (k∈K)
theorem dV {κ:Type} [DecidableEq κ] {k:κ} {K:List κ}:K6 k K=true↔k∈K:=by simp[K6]
theorem Qj {κ:Type} [DecidableEq κ] (k a:κ) (K:List κ):K6 k (K++[a])=(K6 k K||decide (k=a)):=by simp[K6]
structure Ac where
 id:Int
 data:ByteArray
 deriving DecidableEq
inductive Val where
 | mk (kind:Int) (bool:Bool) (int:Int) (str:ByteArray) (id:Int) (keys items:List Val) (rest:List Ac)
mutual
def bV:Val->Val->Bool
 | .mk k b i s d ks is r,.mk k' b' i' s' d' ks' is' r'=>decide (k=k')&&(decide (b=b')&&(decide (i=i')&&(decide (s=s')&&(decide (d=d')&&(decide (r=r')&&(Je ks ks'&&Je is is'))))))
def Je:List Val->List Val->Bool
 | [],[]=>true
 | a::l,b::m=>bV a b&&Je l m
 | _,_=>false
end
mutual
theorem QV:∀a b:Val,bV a b=true↔a=b
 | .mk k b i s d ks is r,.mk k' b' i' s' d' ks' is' r'=>by
  have h1:=Ky ks ks';have h2:=Ky is is';simp only[bV,AAG,AAY,h1,h2,Val.mk.injEq]
  constructor
  ·rintro ⟨a1,a2,a3,a4,a5,a6,a7,a8⟩;exact ⟨a1,a2,a3,a4,a5,a7,a8,a6⟩
  ·rintro ⟨a1,a2,a3,a4,a5,a7,a8,a6⟩;exact ⟨a1,a2,a3,a4,a5,a6,a7,a8⟩
theorem Ky:∀l m:List Val,Je l m=true↔l=m
 | [],[]=>by simp[Je]
 | [],_::_=>by simp[Je]
 | _::_,[]=>by simp[Je]
 | a::l,b::m=>by
  have h1:=QV a b;have h2:=Ky l m;simp only[Je,AAG,h1,h2,List.cons.injEq]
end
instance:DecidableEq Val:=fun a b=>decidable_of_iff _ (QV a b)
structure CB where
 id:Int
 name:ByteArray
 deriving DecidableEq
structure AY where
 id:Int
 name:ByteArray
 type:Int
 critical:Bool
 G7:Bool
 dflt:Val
 deriving DecidableEq
structure AZ where
 kind:Int
 name:ByteArray
 low:Int
 high:Int
 max:Int
 Ab:List CB
 AA:List AY
 key:Int
 elem:Int
 open_:Bool
 deriving DecidableEq
def JZ (t:AZ):List (Int×Int) :=
 t.AA.map (fun m=>(m.id,m.type))++(if t.kind=8 then [(0,t.key),(-1,t.elem)] else if t.kind=7\/t.kind=9 then [(-1,t.elem)] else [])
def DT (n:Int):Bool:=decide (n=95)||(decide (97<=n)&&decide (n<=122))||(decide (65<=n)&&decide (n<=90))
def Eb (n:Int):Bool:=decide (48<=n)&&decide (n<=57)
def Ko (c:UInt8):Bool:=DT c.toNat||Eb c.toNat
def CV (s:ByteArray):Bool:=decide (0<s.size)&&decide (s.size<=24)&&DT (((s.data.toList.getD 0 0).toNat:Nat):Int)&&s.data.toList.all Ko
def Nb (before:Int) (seen:List ByteArray):List (Int×ByteArray)->Bool
 | []=>true
 | x::r=>decide (1<=x.1)&&decide (x.1<=1000)&&decide (before<x.1) && !K6 x.2 seen&&CV x.2&&Nb x.1 (seen++[x.2]) r
def SL (l:List (Int×ByteArray)):Bool:=Nb 0 [] l&&decide (l.length<=16)
def zeroV:Val := .mk 0 false 0 ⟨#[]⟩ 0 [] [] []
def Ar:AZ:=⟨0,⟨#[]⟩,0,0,0,[],[],0,0,false⟩
def Xj (l:List CB):Bool:=SL (l.map fun s=>(s.id,s.name))&&decide (l≠[])
def Qi (rec:Bool) (m:AY):Bool:=(rec || !(m.critical||m.G7)) && !(m.critical&&m.G7)&&(m.G7||decide (m.dflt=zeroV))
def NV (rec:Bool) (l:List AY):Bool:=l.all (Qi rec)&&SL (l.map fun m=>(m.id,m.name))&&(rec||decide (l≠[]))
def Fe (t:AZ):AZ :=
 if t.kind=1 then { Ar with kind:=t.kind }
 else if t.kind=2 then { Ar with kind:=t.kind,low:=t.low,high:=t.high }
 else if t.kind=3 then { Ar with kind:=t.kind,max:=t.max }
 else if t.kind=4 then { Ar with kind:=t.kind,name:=t.name,Ab:=t.Ab,open_:=t.open_ }
 else if t.kind=5 then { Ar with kind:=t.kind,name:=t.name,AA:=t.AA }
 else if t.kind=6 then { Ar with kind:=t.kind,name:=t.name,AA:=t.AA,open_:=t.open_ }
 else if t.kind=7 then { Ar with kind:=t.kind,max:=t.max,elem:=t.elem }
 else if t.kind=8 then { Ar with kind:=t.kind,max:=t.max,key:=t.key,elem:=t.elem }
 else { Ar with kind:=t.kind,elem:=t.elem }
def DR (k:Int):Bool:=decide (k=4)||decide (k=5)||decide (k=6)
def Kq (t:AZ):Bool :=
 if t.kind=2 then decide (t.low<=t.high)
 else if t.kind=3 then decide (0<=t.max)&&decide (t.max<=200)
 else if t.kind=4 then Xj t.Ab
 else if t.kind=5 then NV true t.AA
 else if t.kind=6 then NV false t.AA
 else if t.kind=7\/t.kind=8 then decide (0<=t.max)&&decide (t.max<=50)
 else true
def GZ (t:AZ):Bool:=decide (1<=t.kind)&&decide (t.kind<=9)&&decide (t=Fe t)&&(!DR t.kind||CV t.name)&&Kq t
def bF (t:AZ):List Int:=(JZ t).map (·.2)
def Bd (k:Int):Bool:=decide (1<=k)&&decide (k<=4)
def Kj (s:List AZ) (seen:List ByteArray) (t:AZ):Int :=
 if !GZ t||(decide (t.name≠⟨#[]⟩)&&K6 t.name seen) then 1
 else if (bF t).any (fun u=>decide (u<0)||decide ((s.length:Int)<=u)) then 4
 else if decide (t.kind=8) && !Bd ((s.getD t.key.toNat Ar).kind) then 1
 else 0
def Mg (s:List AZ) (seen:List ByteArray):List AZ->Int
 | []=>0
 | t::r=>if Kj s seen t=0 then Mg s (seen++[t.name]) r else Kj s seen t
def zQ (s:List AZ):Int:=if 32<s.length then 3 else Mg s [] s
section
variable (al:Nat->Nat->Bool) (ok:(Nat->Nat->Bool)->Nat->Nat->Bool)
end
end Go.Proofs.YthkkllmmbefedaaGreatDoor
namespace Go.Proofs.YthkkllmmbefedaaGreatDoor
end Go.Proofs.YthkkllmmbefedaaGreatDoor
namespace Go.Proofs.YthkkllmmbefedaaGreatDoor
def M6:List Int->List Int->Bool
 | [],[]=>false
 | [],_::_=>true
 | _::_,[]=>false
 | a::l,b::m=>if a=b then M6 l m else decide (a<b)
section
variable (al:Nat->Nat->Bool) (ok:(Nat->Nat->Bool)->Nat->Nat->Bool)
end
end Go.Proofs.YthkkllmmbefedaaGreatDoor
namespace Go.Proofs.YthkkllmmbefedaaGreatDoor
section
variable {next:Int->List Int} {c0:Int}
end
theorem Ja {s:List AZ}:∀ (l:List AZ) (K:List ByteArray),Mg s K l=0->∀t∈l,∃K,Kj s K t=0
 | [],_,_,t,h=>by cases h
 | x::r,K,h,t,ht=>by
  rw[Mg] at h
  split at h
  ·rename_i h0
   rcases AAf.1 ht with e|e
   ·rw[e];exact ⟨K,h0⟩
   ·exact Ja r _ h t e
  ·rename_i h0;exact absurd h h0
variable {s:List AZ}
theorem Vk {K:List ByteArray} {t:AZ} (h:Kj s K t=0):GZ t=true/\∀u∈bF t,0<=u/\u<(s.length:Int):=by
 unfold Kj at h
 split at h
 ·cases h
 ·rename_i h1
  split at h
  ·cases h
  ·rename_i h2
   refine ⟨?_,fun u hu=>?_⟩
   ·cases hf:GZ t with
    | true=>rfl
    | false=>rw[hf] at h1;simp at h1
   ·have h3:(bF t).any (fun u=>decide (u<0)||decide ((s.length:Int)<=u))=false:=by simpa using h2
    rw[List.any_eq_false] at h3;have:=h3 u hu;simp at this
    omega
theorem F9 (h:zQ s=0):s.length<=32:=by
 unfold zQ at h
 split at h
 ·cases h
 ·omega
theorem Dk (h:zQ s=0) {t:AZ} (ht:t∈s):GZ t=true/\∀u∈bF t,0<=u/\u<(s.length:Int):=by
 unfold zQ at h
 split at h
 ·cases h
 ·obtain ⟨K,hK⟩:=Ja s [] h t ht
  exact Vk hK
end Go.Proofs.YthkkllmmbefedaaGreatDoor



