/-
  Numbers found breadth first from one of them: plain Lean.
-/
import Derived.Test.YtdfolgmcggdjdaaGreatDoorProg
import Derived.Lib.Hide
import Derived.Laws.Rows
namespace Go.Proofs.YtdfolgmcggdjdaaGreatDoor
open Go.RowKit
set_option maxHeartbeats 16000000
set_option maxRecDepth 100000
theorem zh {p:Prop} (h:p):Hid p:=h
theorem zg {α:Type} {xs:Array α} {i:Nat} {b:α}:xs[i]? = some b↔∃h:i<xs.size,xs[i]=b:=Array.getElem?_eq_some_iff
theorem zl {α:Type} {l:List α} {i:Nat} (h:i<l.length):l[i]? = some l[i]:=getElem?_pos l i h
theorem zb {w:World} {p ty:Nat} {v:Value} {fr:Nat×Nat} (h:w.heap[p]? = some (.cells #[v] ty fr)):w.cell? ⟨p,0,none⟩=some v:=by rw[cell_of_row _ _ _ _ _ _ h];rfl
theorem zw (w:World) (x y:Obj):((w.alloc x).alloc y).heap[w.heap.size]? = some x:=by
 have h:=heap_alloc_new w x;exact (((Below.refl (w.alloc x).heap.size (w.alloc x)).alloc (Nat.le_refl _) y).block _ (zg.1 h).1).trans h
theorem zx (w:World) (x y:Obj):((w.alloc x).alloc y).heap[w.heap.size+1]? = some y:=by
 have h:=heap_alloc_new (w.alloc x) y
 simpa using h
section
variable {k:Int}
theorem zk1 (h:k=1):(k==1)=true:=by simp[h]
theorem zk2 (h:k=2):(k==1)=false∧(k==2)=true:=by simp[h]
theorem zk3 (h:k=3):(k==1)=false∧(k==2)=false∧(k==3)=true:=by simp[h]
theorem zk4 (h:k=4):(k==1)=false∧(k==2)=false∧(k==3)=false∧(k==4)=true:=by simp[h]
theorem zk5 (h:k=5):(k==1)=false∧(k==2)=false∧(k==3)=false∧(k==4)=false∧(k==5)=true:=by simp[h]
theorem zk6 (h:k=6):(k==1)=false∧(k==2)=false∧(k==3)=false∧(k==4)=false∧(k==5)=false∧(k==6)=true:=by simp[h]
theorem zk7 (h:k=7):(k==1)=false∧(k==2)=false∧(k==3)=false∧(k==4)=false∧(k==5)=false∧(k==6)=false∧(k==7)=true:=by simp[h]
theorem zk8 (h:k=8):(k==1)=false∧(k==2)=false∧(k==3)=false∧(k==4)=false∧(k==5)=false∧(k==6)=false∧(k==7)=false∧(k==8)=true:=by simp[h]
theorem zk9 (h:k=9):(k==1)=false∧(k==2)=false∧(k==3)=false∧(k==4)=false∧(k==5)=false∧(k==6)=false∧(k==7)=false∧(k==8)=false:=by simp[h]
end
abbrev zo:=Option Addr
def memD {κ:Type} [DecidableEq κ] (k:κ) (K:List κ):Bool:=decide (k∈K)
theorem memD_iff {κ:Type} [DecidableEq κ] {k:κ} {K:List κ}:memD k K=true↔k∈K:=by simp[memD]
theorem memD_snoc {κ:Type} [DecidableEq κ] (k a:κ) (K:List κ):memD k (K++[a])=(memD k K||decide (k=a)):=by simp[memD]
structure RawD where
 id:Int
 data:ByteArray
 deriving DecidableEq
inductive Val where
 | mk (kind:Int) (bool:Bool) (int:Int) (str:ByteArray) (id:Int) (keys items:List Val) (rest:List RawD)
mutual
def sameV:Val→Val→Bool
 | .mk k b i s d ks is r,.mk k' b' i' s' d' ks' is' r'=>decide (k=k')&&(decide (b=b')&&(decide (i=i')&&(decide (s=s')&&(decide (d=d')&&(decide (r=r')&&(sameVs ks ks'&&sameVs is is'))))))
def sameVs:List Val→List Val→Bool
 | [],[]=>true
 | a::l,b::m=>sameV a b&&sameVs l m
 | _,_=>false
end
mutual
theorem sameV_iff:∀a b:Val,sameV a b=true↔a=b
 | .mk k b i s d ks is r,.mk k' b' i' s' d' ks' is' r'=>by
  have h1:=sameVs_iff ks ks';have h2:=sameVs_iff is is';simp only[sameV,Bool.and_eq_true,decide_eq_true_eq,h1,h2,Val.mk.injEq]
  constructor
  ·rintro ⟨a1,a2,a3,a4,a5,a6,a7,a8⟩;exact ⟨a1,a2,a3,a4,a5,a7,a8,a6⟩
  ·rintro ⟨a1,a2,a3,a4,a5,a7,a8,a6⟩;exact ⟨a1,a2,a3,a4,a5,a6,a7,a8⟩
theorem sameVs_iff:∀l m:List Val,sameVs l m=true↔l=m
 | [],[]=>by simp[sameVs]
 | [],_::_=>by simp[sameVs]
 | _::_,[]=>by simp[sameVs]
 | a::l,b::m=>by
  have h1:=sameV_iff a b;have h2:=sameVs_iff l m;simp only[sameVs,Bool.and_eq_true,h1,h2,List.cons.injEq]
end
instance:DecidableEq Val:=fun a b=>decidable_of_iff _ (sameV_iff a b)
structure SymD where
 id:Int
 name:ByteArray
 deriving DecidableEq
structure MemD where
 id:Int
 name:ByteArray
 type:Int
 critical:Bool
 hasDef:Bool
 dflt:Val
 deriving DecidableEq
structure TyD where
 kind:Int
 name:ByteArray
 low:Int
 high:Int
 max:Int
 syms:List SymD
 mems:List MemD
 key:Int
 elem:Int
 open_:Bool
 deriving DecidableEq
def usesD (t:TyD):List (Int×Int) :=
 t.mems.map (fun m=>(m.id,m.type))++(if t.kind=8 then [(0,t.key),(-1,t.elem)] else if t.kind=7∨t.kind=9 then [(-1,t.elem)] else [])
def letC (n:Int):Bool:=decide (n=95)||(decide (97≤n)&&decide (n≤122))||(decide (65≤n)&&decide (n≤90))
def digI (n:Int):Bool:=decide (48≤n)&&decide (n≤57)
def chB (c:UInt8):Bool:=letC c.toNat||digI c.toNat
def nameB (s:ByteArray):Bool:=decide (0<s.size)&&decide (s.size≤24)&&letC (((s.data.toList.getD 0 0).toNat:Nat):Int)&&s.data.toList.all chB
def idsOk (before:Int) (seen:List ByteArray):List (Int×ByteArray)→Bool
 | []=>true
 | x::r=>decide (1≤x.1)&&decide (x.1≤1000)&&decide (before<x.1) && !memD x.2 seen&&nameB x.2&&idsOk x.1 (seen++[x.2]) r
def idsD (l:List (Int×ByteArray)):Bool:=idsOk 0 [] l&&decide (l.length≤16)
def zeroV:Val := .mk 0 false 0 ⟨#[]⟩ 0 [] [] []
def zeroT:TyD:=⟨0,⟨#[]⟩,0,0,0,[],[],0,0,false⟩
def symsD (l:List SymD):Bool:=idsD (l.map fun s=>(s.id,s.name))&&decide (l≠[])
def memOk (rec:Bool) (m:MemD):Bool:=(rec || !(m.critical||m.hasDef)) && !(m.critical&&m.hasDef)&&(m.hasDef||decide (m.dflt=zeroV))
def memsD (rec:Bool) (l:List MemD):Bool:=l.all (memOk rec)&&idsD (l.map fun m=>(m.id,m.name))&&(rec||decide (l≠[]))
def zV (t:TyD):TyD :=
 if t.kind=1 then { zeroT with kind:=t.kind }
 else if t.kind=2 then { zeroT with kind:=t.kind,low:=t.low,high:=t.high }
 else if t.kind=3 then { zeroT with kind:=t.kind,max:=t.max }
 else if t.kind=4 then { zeroT with kind:=t.kind,name:=t.name,syms:=t.syms,open_:=t.open_ }
 else if t.kind=5 then { zeroT with kind:=t.kind,name:=t.name,mems:=t.mems }
 else if t.kind=6 then { zeroT with kind:=t.kind,name:=t.name,mems:=t.mems,open_:=t.open_ }
 else if t.kind=7 then { zeroT with kind:=t.kind,max:=t.max,elem:=t.elem }
 else if t.kind=8 then { zeroT with kind:=t.kind,max:=t.max,key:=t.key,elem:=t.elem }
 else { zeroT with kind:=t.kind,elem:=t.elem }
def zL (k:Int):Bool:=decide (k=4)||decide (k=5)||decide (k=6)
def caseD (t:TyD):Bool :=
 if t.kind=2 then decide (t.low≤t.high)
 else if t.kind=3 then decide (0≤t.max)&&decide (t.max≤200)
 else if t.kind=4 then symsD t.syms
 else if t.kind=5 then memsD true t.mems
 else if t.kind=6 then memsD false t.mems
 else if t.kind=7∨t.kind=8 then decide (0≤t.max)&&decide (t.max≤50)
 else true
def formD (t:TyD):Bool:=decide (1≤t.kind)&&decide (t.kind≤9)&&decide (t=zV t)&&(!zL t.kind||nameB t.name)&&caseD t
def toD (t:TyD):List Int:=(usesD t).map (·.2)
def keyKind (k:Int):Bool:=decide (1≤k)&&decide (k≤4)
def tyErr (s:List TyD) (seen:List ByteArray) (t:TyD):Int :=
 if !formD t||(decide (t.name≠⟨#[]⟩)&&memD t.name seen) then 1
 else if (toD t).any (fun u=>decide (u<0)||decide ((s.length:Int)≤u)) then 4
 else if decide (t.kind=8) && !keyKind ((s.getD t.key.toNat zeroT).kind) then 1
 else 0
def tysErr (s:List TyD) (seen:List ByteArray):List TyD→Int
 | []=>0
 | t::r=>if tyErr s seen t=0 then tysErr s (seen++[t.name]) r else tyErr s seen t
def zJ (s:List TyD):Int:=if 32<s.length then 3 else tysErr s [] s
def restD (t:TyD):TyD :=
 if t.kind=1 then { t with kind:=0 }
 else if t.kind=2 then { t with kind:=0,low:=0,high:=0 }
 else if t.kind=3 then { t with kind:=0,max:=0 }
 else if t.kind=4 then { t with kind:=0,name:=⟨#[]⟩,syms:=[],open_:=false }
 else if t.kind=5 then { t with kind:=0,name:=⟨#[]⟩,mems:=[] }
 else if t.kind=6 then { t with kind:=0,name:=⟨#[]⟩,mems:=[],open_:=false }
 else if t.kind=7 then { t with kind:=0,max:=0,elem:=0 }
 else if t.kind=8 then { t with kind:=0,max:=0,key:=0,elem:=0 }
 else { t with kind:=0,elem:=0 }
theorem restD_iff (t:TyD):(restD t=zeroT)↔t=zV t:=by
 obtain ⟨k,n,lo,hi,mx,ss,ms,ky,el,op⟩:=t;unfold restD zV zeroT;simp only
 by_cases h1:k=1
 ·subst h1;simp
 rw[if_neg h1,if_neg h1]
 by_cases h2:k=2
 ·subst h2;simp
 rw[if_neg h2,if_neg h2]
 by_cases h3:k=3
 ·subst h3;simp
 rw[if_neg h3,if_neg h3]
 by_cases h4:k=4
 ·subst h4;simp
 rw[if_neg h4,if_neg h4]
 by_cases h5:k=5
 ·subst h5;simp
 rw[if_neg h5,if_neg h5]
 by_cases h6:k=6
 ·subst h6;simp
 rw[if_neg h6,if_neg h6]
 by_cases h7:k=7
 ·subst h7;simp
 rw[if_neg h7,if_neg h7]
 by_cases h8:k=8
 ·subst h8;simp
 rw[if_neg h8,if_neg h8];simp
theorem idsOk_snoc:∀ (l:List (Int×ByteArray)) (b:Int) (seen:List ByteArray) (x:Int×ByteArray),idsOk b seen (l++[x]) =
  (idsOk b seen l&&(decide (1≤x.1)&&decide (x.1≤1000)&&decide ((((l.getLast?).map (·.1)).getD b)<x.1) && !memD x.2 (seen++l.map (·.2))&&nameB x.2))
 | [],b,seen,x=>by simp only[idsOk,List.nil_append,List.getLast?_nil,Option.map_none,Option.getD_none,List.map_nil,List.append_nil,Bool.true_and,Bool.and_true];rfl
 | y::r,b,seen,x=>by
  rw[List.cons_append,idsOk,idsOk_snoc r y.1 (seen++[y.2]) x,idsOk];have e:((y::r).getLast?.map (·.1)).getD b=((r.getLast?).map (·.1)).getD y.1:=by
   cases r with
   | nil=>rfl
   | cons z r=>rw[List.getLast?_cons_cons];cases h:(z::r).getLast? with
    | none=>simp at h
    | some v=>rfl
  rw[e,List.map_cons,show seen++y.2::r.map (·.2)=seen++[y.2]++r.map (·.2) by simp]
  simp only[Bool.and_assoc]
theorem idsOk_take_false {l:List (Int×ByteArray)} {b:Int} {seen:List ByteArray}:∀ {k:Nat},idsOk b seen (l.take k)=false→idsOk b seen l=false:=by
 induction l generalizing b seen with
 | nil=>intro k h;simpa using h
 | cons y r ih =>
  intro k h
  cases k with
  | zero=>simp[idsOk] at h
  | succ k =>
   rw[List.take_succ_cons,idsOk] at h;rw[idsOk]
   cases hr:idsOk y.1 (seen++[y.2]) (r.take k) with
   | false=>rw[ih hr];simp
   | true=>rw[hr,Bool.and_true] at h;rw[h];rfl
section
variable (al:Nat→Nat→Bool) (ok:(Nat→Nat→Bool)→Nat→Nat→Bool)
end
end Go.Proofs.YtdfolgmcggdjdaaGreatDoor
namespace Go.Proofs.YtdfolgmcggdjdaaGreatDoor
end Go.Proofs.YtdfolgmcggdjdaaGreatDoor
namespace Go.Proofs.YtdfolgmcggdjdaaGreatDoor
def ltL:List Int→List Int→Bool
 | [],[]=>false
 | [],_::_=>true
 | _::_,[]=>false
 | a::l,b::m=>if a=b then ltL l m else decide (a<b)
section
variable (al:Nat→Nat→Bool) (ok:(Nat→Nat→Bool)→Nat→Nat→Bool)
end
end Go.Proofs.YtdfolgmcggdjdaaGreatDoor
namespace Go.Proofs.YtdfolgmcggdjdaaGreatDoor
section
variable {next:Int→List Int} {c0:Int}
end
theorem nodup_len:∀ (n:Nat) (l:List Int),l.Nodup→(∀c∈l,0≤c∧c<(n:Int))→l.length≤n
 | 0,[],_,_=>by simp
 | 0,c::l,_,h=>by
  have:=h c List.mem_cons_self
  omega
 | n+1,l,hl,h=>by
  have h1:(l.erase (n:Int)).length≤n:=nodup_len n _ (hl.erase _) fun c hc=>by
   have h2:=h c (List.mem_of_mem_erase hc);have h3:c≠(n:Int):=fun e=>by
    rw[e] at hc;exact (List.Nodup.not_mem_erase hl) hc
   omega
  have:=List.length_erase (a:=(n:Int)) (l:=l)
  split at this <;> omega
end Go.Proofs.YtdfolgmcggdjdaaGreatDoor


