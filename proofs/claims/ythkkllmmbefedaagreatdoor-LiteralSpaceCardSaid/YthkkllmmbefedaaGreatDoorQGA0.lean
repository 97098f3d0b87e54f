/-
  What a valid schema is good for: plain Lean.
-/
import Derived.Test.YthkkllmmbefedaaGreatDoorProg
import Derived.Lib.Hide
import Derived.Laws.Rows
namespace Go.Proofs.YthkkllmmbefedaaGreatDoor
open Go.RowKit
set_option maxHeartbeats 16000000
set_option maxRecDepth 100000
theorem zh {p:Prop} (h:p):Hid p:=h
theorem zg {α:Type} {xs:Array α} {i:Nat} {b:α}:xs[i]? = some b↔∃h:i<xs.size,xs[i]=b:=Array.getElem?_eq_some_iff
theorem zl {α:Type} {l:List α} {i:Nat} (h:i<l.length):l[i]? = some l[i]:=getElem?_pos l i h
theorem zb {w:World} {p ty:Nat} {v:Value} {fr:Nat×Nat} (h:w.heap[p]? = some (.cells #[v] ty fr)):w.cell? ⟨p,0,none⟩=some v:=by rw[cell_of_row _ _ _ _ _ _ h];rfl
theorem zw (w:World) (x y:Obj):((w.alloc x).alloc y).heap[w.heap.size]? = some x:=by
 have h:=heap_alloc_new w x;exact (((Below.refl (w.alloc x).heap.size (w.alloc x)).alloc (Nat.le_refl _) y).block _ (zg.1 h).1).trans h
theorem zx (w:World) (x y:Obj):((w.alloc x).alloc y).heap[w.heap.size+1]? = some y:=by
 have h:=heap_alloc_new (w.alloc x) y
 simpa using h
section
variable {k:Int}
theorem zk1 (h:k=1):(k==1)=true:=by simp[h]
theorem zk2 (h:k=2):(k==1)=false∧(k==2)=true:=by simp[h]
theorem zk3 (h:k=3):(k==1)=false∧(k==2)=false∧(k==3)=true:=by simp[h]
theorem zk4 (h:k=4):(k==1)=false∧(k==2)=false∧(k==3)=false∧(k==4)=true:=by simp[h]
theorem zk5 (h:k=5):(k==1)=false∧(k==2)=false∧(k==3)=false∧(k==4)=false∧(k==5)=true:=by simp[h]
theorem zk6 (h:k=6):(k==1)=false∧(k==2)=false∧(k==3)=false∧(k==4)=false∧(k==5)=false∧(k==6)=true:=by simp[h]
theorem zk7 (h:k=7):(k==1)=false∧(k==2)=false∧(k==3)=false∧(k==4)=false∧(k==5)=false∧(k==6)=false∧(k==7)=true:=by simp[h]
theorem zk8 (h:k=8):(k==1)=false∧(k==2)=false∧(k==3)=false∧(k==4)=false∧(k==5)=false∧(k==6)=false∧(k==7)=false∧(k==8)=true:=by simp[h]
theorem zk9 (h:k=9):(k==1)=false∧(k==2)=false∧(k==3)=false∧(k==4)=false∧(k==5)=false∧(k==6)=false∧(k==7)=false∧(k==8)=false:=by simp[h]
end
abbrev zo:=Option Addr
def memD {κ:Type} [DecidableEq κ] (k:κ) (K:List κ):Bool:=decide (k∈K)
theorem memD_iff {κ:Type} [DecidableEq κ] {k:κ} {K:List κ}:memD k K=true↔k∈K:=by simp[memD]
theorem memD_snoc {κ:Type} [DecidableEq κ] (k a:κ) (K:List κ):memD k (K++[a])=(memD k K||decide (k=a)):=by simp[memD]
structure RawD where
 id:Int
 data:ByteArray
 deriving DecidableEq
inductive Val where
 | mk (kind:Int) (bool:Bool) (int:Int) (str:ByteArray) (id:Int) (keys items:List Val) (rest:List RawD)
mutual
def sameV:Val→Val→Bool
 | .mk k b i s d ks is r,.mk k' b' i' s' d' ks' is' r'=>decide (k=k')&&(decide (b=b')&&(decide (i=i')&&(decide (s=s')&&(decide (d=d')&&(decide (r=r')&&(sameVs ks ks'&&sameVs is is'))))))
def sameVs:List Val→List Val→Bool
 | [],[]=>true
 | a::l,b::m=>sameV a b&&sameVs l m
 | _,_=>false
end
mutual
theorem sameV_iff:∀a b:Val,sameV a b=true↔a=b
 | .mk k b i s d ks is r,.mk k' b' i' s' d' ks' is' r'=>by
  have h1:=sameVs_iff ks ks';have h2:=sameVs_iff is is';simp only[sameV,Bool.and_eq_true,decide_eq_true_eq,h1,h2,Val.mk.injEq]
  constructor
  ·rintro ⟨a1,a2,a3,a4,a5,a6,a7,a8⟩;exact ⟨a1,a2,a3,a4,a5,a7,a8,a6⟩
  ·rintro ⟨a1,a2,a3,a4,a5,a7,a8,a6⟩;exact ⟨a1,a2,a3,a4,a5,a6,a7,a8⟩
theorem sameVs_iff:∀l m:List Val,sameVs l m=true↔l=m
 | [],[]=>by simp[sameVs]
 | [],_::_=>by simp[sameVs]
 | _::_,[]=>by simp[sameVs]
 | a::l,b::m=>by
  have h1:=sameV_iff a b;have h2:=sameVs_iff l m;simp only[sameVs,Bool.and_eq_true,h1,h2,List.cons.injEq]
end
instance:DecidableEq Val:=fun a b=>decidable_of_iff _ (sameV_iff a b)
structure SymD where
 id:Int
 name:ByteArray
 deriving DecidableEq
structure MemD where
 id:Int
 name:ByteArray
 type:Int
 critical:Bool
 hasDef:Bool
 dflt:Val
 deriving DecidableEq
structure TyD where
 kind:Int
 name:ByteArray
 low:Int
 high:Int
 max:Int
 syms:List SymD
 mems:List MemD
 key:Int
 elem:Int
 open_:Bool
 deriving DecidableEq
def usesD (t:TyD):List (Int×Int) :=
 t.mems.map (fun m=>(m.id,m.type))++(if t.kind=8 then [(0,t.key),(-1,t.elem)] else if t.kind=7∨t.kind=9 then [(-1,t.elem)] else [])
def letC (n:Int):Bool:=decide (n=95)||(decide (97≤n)&&decide (n≤122))||(decide (65≤n)&&decide (n≤90))
def digI (n:Int):Bool:=decide (48≤n)&&decide (n≤57)
def chB (c:UInt8):Bool:=letC c.toNat||digI c.toNat
def nameB (s:ByteArray):Bool:=decide (0<s.size)&&decide (s.size≤24)&&letC (((s.data.toList.getD 0 0).toNat:Nat):Int)&&s.data.toList.all chB
def idsOk (before:Int) (seen:List ByteArray):List (Int×ByteArray)→Bool
 | []=>true
 | x::r=>decide (1≤x.1)&&decide (x.1≤1000)&&decide (before<x.1) && !memD x.2 seen&&nameB x.2&&idsOk x.1 (seen++[x.2]) r
def idsD (l:List (Int×ByteArray)):Bool:=idsOk 0 [] l&&decide (l.length≤16)
def zeroV:Val := .mk 0 false 0 ⟨#[]⟩ 0 [] [] []
def zeroT:TyD:=⟨0,⟨#[]⟩,0,0,0,[],[],0,0,false⟩
def symsD (l:List SymD):Bool:=idsD (l.map fun s=>(s.id,s.name))&&decide (l≠[])
def memOk (rec:Bool) (m:MemD):Bool:=(rec || !(m.critical||m.hasDef)) && !(m.critical&&m.hasDef)&&(m.hasDef||decide (m.dflt=zeroV))
def memsD (rec:Bool) (l:List MemD):Bool:=l.all (memOk rec)&&idsD (l.map fun m=>(m.id,m.name))&&(rec||decide (l≠[]))
def plainD (t:TyD):TyD :=
 if t.kind=1 then { zeroT with kind:=t.kind }
 else if t.kind=2 then { zeroT with kind:=t.kind,low:=t.low,high:=t.high }
 else if t.kind=3 then { zeroT with kind:=t.kind,max:=t.max }
 else if t.kind=4 then { zeroT with kind:=t.kind,name:=t.name,syms:=t.syms,open_:=t.open_ }
 else if t.kind=5 then { zeroT with kind:=t.kind,name:=t.name,mems:=t.mems }
 else if t.kind=6 then { zeroT with kind:=t.kind,name:=t.name,mems:=t.mems,open_:=t.open_ }
 else if t.kind=7 then { zeroT with kind:=t.kind,max:=t.max,elem:=t.elem }
 else if t.kind=8 then { zeroT with kind:=t.kind,max:=t.max,key:=t.key,elem:=t.elem }
 else { zeroT with kind:=t.kind,elem:=t.elem }
def namedD (k:Int):Bool:=decide (k=4)||decide (k=5)||decide (k=6)
def caseD (t:TyD):Bool :=
 if t.kind=2 then decide (t.low≤t.high)
 else if t.kind=3 then decide (0≤t.max)&&decide (t.max≤200)
 else if t.kind=4 then symsD t.syms
 else if t.kind=5 then memsD true t.mems
 else if t.kind=6 then memsD false t.mems
 else if t.kind=7∨t.kind=8 then decide (0≤t.max)&&decide (t.max≤50)
 else true
def formD (t:TyD):Bool:=decide (1≤t.kind)&&decide (t.kind≤9)&&decide (t=plainD t)&&(!namedD t.kind||nameB t.name)&&caseD t
def toD (t:TyD):List Int:=(usesD t).map (·.2)
def keyKind (k:Int):Bool:=decide (1≤k)&&decide (k≤4)
def tyErr (s:List TyD) (seen:List ByteArray) (t:TyD):Int :=
 if !formD t||(decide (t.name≠⟨#[]⟩)&&memD t.name seen) then 1
 else if (toD t).any (fun u=>decide (u<0)||decide ((s.length:Int)≤u)) then 4
 else if decide (t.kind=8) && !keyKind ((s.getD t.key.toNat zeroT).kind) then 1
 else 0
def tysErr (s:List TyD) (seen:List ByteArray):List TyD→Int
 | []=>0
 | t::r=>if tyErr s seen t=0 then tysErr s (seen++[t.name]) r else tyErr s seen t
def zQ (s:List TyD):Int:=if 32<s.length then 3 else tysErr s [] s
section
variable (al:Nat→Nat→Bool) (ok:(Nat→Nat→Bool)→Nat→Nat→Bool)
end
end Go.Proofs.YthkkllmmbefedaaGreatDoor
namespace Go.Proofs.YthkkllmmbefedaaGreatDoor
end Go.Proofs.YthkkllmmbefedaaGreatDoor
namespace Go.Proofs.YthkkllmmbefedaaGreatDoor
def ltL:List Int→List Int→Bool
 | [],[]=>false
 | [],_::_=>true
 | _::_,[]=>false
 | a::l,b::m=>if a=b then ltL l m else decide (a<b)
section
variable (al:Nat→Nat→Bool) (ok:(Nat→Nat→Bool)→Nat→Nat→Bool)
end
end Go.Proofs.YthkkllmmbefedaaGreatDoor
namespace Go.Proofs.YthkkllmmbefedaaGreatDoor
section
variable {next:Int→List Int} {c0:Int}
end
theorem tysErr_zero {s:List TyD}:∀ (l:List TyD) (K:List ByteArray),tysErr s K l=0→∀t∈l,∃K,tyErr s K t=0
 | [],_,_,t,h=>by cases h
 | x::r,K,h,t,ht=>by
  rw[tysErr] at h
  split at h
  ·rename_i h0
   rcases List.mem_cons.1 ht with e|e
   ·rw[e];exact ⟨K,h0⟩
   ·exact tysErr_zero r _ h t e
  ·rename_i h0;exact absurd h h0
theorem tyErr_zero {s:List TyD} {K:List ByteArray} {t:TyD} (h:tyErr s K t=0):formD t=true∧∀u∈toD t,0≤u∧u<(s.length:Int):=by
 unfold tyErr at h
 split at h
 ·cases h
 ·rename_i h1
  split at h
  ·cases h
  ·rename_i h2
   refine ⟨?_,fun u hu=>?_⟩
   ·cases hf:formD t with
    | true=>rfl
    | false=>rw[hf] at h1;simp at h1
   ·have h3:(toD t).any (fun u=>decide (u<0)||decide ((s.length:Int)≤u))=false:=by simpa using h2
    rw[List.any_eq_false] at h3;have:=h3 u hu;simp at this
    omega
theorem valid_len {s:List TyD} (h:zQ s=0):s.length≤32:=by
 unfold zQ at h
 split at h
 ·cases h
 ·omega
theorem valid_tys {s:List TyD} (h:zQ s=0) {t:TyD} (ht:t∈s):formD t=true∧∀u∈toD t,0≤u∧u<(s.length:Int):=by
 unfold zQ at h
 split at h
 ·cases h
 ·obtain ⟨K,hK⟩:=tysErr_zero s [] h t ht
  exact tyErr_zero hK
end Go.Proofs.YthkkllmmbefedaaGreatDoor


