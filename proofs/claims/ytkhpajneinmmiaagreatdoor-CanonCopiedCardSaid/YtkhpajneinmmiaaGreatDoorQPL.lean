/-
  Ways level by level: plain Lean.
-/
import Derived.Test.YtkhpajneinmmiaaGreatDoorProg
import Derived.Lib.Hide
import Derived.Lib.ItoaLen
namespace Go.Proofs.YtkhpajneinmmiaaGreatDoor
open Go.RowKit
set_option maxHeartbeats 16000000
set_option maxRecDepth 100000
theorem zh {p:Prop} (h:p):Hid p:=h
theorem zg {α:Type} {xs:Array α} {i:Nat} {b:α}:xs[i]? = some b↔∃h:i<xs.size,xs[i]=b:=Array.getElem?_eq_some_iff
theorem zl {α:Type} {l:List α} {i:Nat} (h:i<l.length):l[i]? = some l[i]:=getElem?_pos l i h
def memD {κ:Type} [DecidableEq κ] (k:κ) (K:List κ):Bool:=decide (k∈K)
theorem memD_iff {κ:Type} [DecidableEq κ] {k:κ} {K:List κ}:memD k K=true↔k∈K:=by simp[memD]
theorem memD_snoc {κ:Type} [DecidableEq κ] (k a:κ) (K:List κ):memD k (K++[a])=(memD k K||decide (k=a)):=by simp[memD]
structure RawD where
 id:Int
 data:ByteArray
 deriving DecidableEq
inductive Val where
 | mk (kind:Int) (bool:Bool) (int:Int) (str:ByteArray) (id:Int) (keys items:List Val) (rest:List RawD)
mutual
def sameV:Val→Val→Bool
 | .mk k b i s d ks is r,.mk k' b' i' s' d' ks' is' r'=>decide (k=k')&&(decide (b=b')&&(decide (i=i')&&(decide (s=s')&&(decide (d=d')&&(decide (r=r')&&(sameVs ks ks'&&sameVs is is'))))))
def sameVs:List Val→List Val→Bool
 | [],[]=>true
 | a::l,b::m=>sameV a b&&sameVs l m
 | _,_=>false
end
mutual
theorem sameV_iff:∀a b:Val,sameV a b=true↔a=b
 | .mk k b i s d ks is r,.mk k' b' i' s' d' ks' is' r'=>by
  have h1:=sameVs_iff ks ks'
  have h2:=sameVs_iff is is'
  simp only[sameV,Bool.and_eq_true,decide_eq_true_eq,h1,h2,Val.mk.injEq]
  constructor
  ·rintro ⟨a1,a2,a3,a4,a5,a6,a7,a8⟩;exact ⟨a1,a2,a3,a4,a5,a7,a8,a6⟩
  ·rintro ⟨a1,a2,a3,a4,a5,a7,a8,a6⟩;exact ⟨a1,a2,a3,a4,a5,a6,a7,a8⟩
theorem sameVs_iff:∀l m:List Val,sameVs l m=true↔l=m
 | [],[]=>by simp[sameVs]
 | [],_::_=>by simp[sameVs]
 | _::_,[]=>by simp[sameVs]
 | a::l,b::m=>by
  have h1:=sameV_iff a b
  have h2:=sameVs_iff l m
  simp only[sameVs,Bool.and_eq_true,h1,h2,List.cons.injEq]
end
instance:DecidableEq Val:=fun a b=>decidable_of_iff _ (sameV_iff a b)
structure SymD where
 id:Int
 name:ByteArray
 deriving DecidableEq
structure MemD where
 id:Int
 name:ByteArray
 type:Int
 critical:Bool
 hasDef:Bool
 dflt:Val
 deriving DecidableEq
structure TyD where
 kind:Int
 name:ByteArray
 low:Int
 high:Int
 max:Int
 syms:List SymD
 mems:List MemD
 key:Int
 elem:Int
 open_:Bool
 deriving DecidableEq
def usesD (t:TyD):List (Int×Int) :=
 t.mems.map (fun m=>(m.id,m.type))++(if t.kind=8 then [(0,t.key),(-1,t.elem)] else if t.kind=7∨t.kind=9 then [(-1,t.elem)] else [])
def zM (names:Bool) (x y:TyD):Bool :=
 decide (x.kind=y.kind∧x.low=y.low∧x.high=y.high∧x.max=y.max∧x.open_=y.open_∧(names=true→x.name=y.name) ∧
  x.syms.map (fun s=>(s.id,if names then s.name else ⟨#[]⟩))=y.syms.map (fun s=>(s.id,if names then s.name else ⟨#[]⟩)) ∧
  x.mems.map (fun m=>(m.id,m.critical,m.hasDef,m.dflt,if names then m.name else ⟨#[]⟩))=y.mems.map (fun m=>(m.id,m.critical,m.hasDef,m.dflt,if names then m.name else ⟨#[]⟩)))
theorem alikeD_refl (names:Bool) (x:TyD):zM names x x=true:=by simp[zM]
theorem alikeD_symm (names:Bool) (x y:TyD):zM names x y=zM names y x:=by
 simp only[zM,decide_eq_decide]
 constructor <;> (rintro ⟨a,b,c,d,e,f,g,h⟩;exact ⟨a.symm,b.symm,c.symm,d.symm,e.symm,fun n=>(f n).symm,g.symm,h.symm⟩)
theorem alikeD_uses {names:Bool} {x y:TyD} (h:zM names x y=true):(usesD x).map (·.1)=(usesD y).map (·.1):=by
 simp only[zM,decide_eq_true_eq] at h
 obtain ⟨hk,_,_,_,_,_,_,hm⟩:=h
 have hid:x.mems.map (·.id)=y.mems.map (·.id):=by
  have:=congrArg (List.map fun (p:Int×Bool×Bool×Val×ByteArray)=>p.1) hm
  simpa[List.map_map,Function.comp_def] using this
 unfold usesD
 rw[hk,List.map_append,List.map_append,List.map_map,List.map_map]
 have h1:x.mems.map ((fun p:Int×Int=>p.1)∘fun m=>(m.id,m.type))=y.mems.map ((fun p:Int×Int=>p.1)∘fun m=>(m.id,m.type)):=hid
 rw[h1]
 congr 1
 split
 ·rfl
 ·split <;> rfl
def letC (n:Int):Bool:=decide (n=95)||(decide (97≤n)&&decide (n≤122))||(decide (65≤n)&&decide (n≤90))
def digI (n:Int):Bool:=decide (48≤n)&&decide (n≤57)
def chB (c:UInt8):Bool:=letC c.toNat||digI c.toNat
def nameB (s:ByteArray):Bool:=decide (0<s.size)&&decide (s.size≤24)&&letC (((s.data.toList.getD 0 0).toNat:Nat):Int)&&s.data.toList.all chB
def idsOk (before:Int) (seen:List ByteArray):List (Int×ByteArray)→Bool
 | []=>true
 | x::r=>decide (1≤x.1)&&decide (x.1≤1000)&&decide (before<x.1) && !memD x.2 seen&&nameB x.2&&idsOk x.1 (seen++[x.2]) r
def idsD (l:List (Int×ByteArray)):Bool:=idsOk 0 [] l&&decide (l.length≤16)
def zeroV:Val := .mk 0 false 0 ⟨#[]⟩ 0 [] [] []
def zeroT:TyD:=⟨0,⟨#[]⟩,0,0,0,[],[],0,0,false⟩
def symsD (l:List SymD):Bool:=idsD (l.map fun s=>(s.id,s.name))&&decide (l≠[])
def memOk (rec:Bool) (m:MemD):Bool:=(rec || !(m.critical||m.hasDef)) && !(m.critical&&m.hasDef)&&(m.hasDef||decide (m.dflt=zeroV))
def memsD (rec:Bool) (l:List MemD):Bool:=l.all (memOk rec)&&idsD (l.map fun m=>(m.id,m.name))&&(rec||decide (l≠[]))
def zT (t:TyD):TyD :=
 if t.kind=1 then { zeroT with kind:=t.kind }
 else if t.kind=2 then { zeroT with kind:=t.kind,low:=t.low,high:=t.high }
 else if t.kind=3 then { zeroT with kind:=t.kind,max:=t.max }
 else if t.kind=4 then { zeroT with kind:=t.kind,name:=t.name,syms:=t.syms,open_:=t.open_ }
 else if t.kind=5 then { zeroT with kind:=t.kind,name:=t.name,mems:=t.mems }
 else if t.kind=6 then { zeroT with kind:=t.kind,name:=t.name,mems:=t.mems,open_:=t.open_ }
 else if t.kind=7 then { zeroT with kind:=t.kind,max:=t.max,elem:=t.elem }
 else if t.kind=8 then { zeroT with kind:=t.kind,max:=t.max,key:=t.key,elem:=t.elem }
 else { zeroT with kind:=t.kind,elem:=t.elem }
def zU (k:Int):Bool:=decide (k=4)||decide (k=5)||decide (k=6)
def caseD (t:TyD):Bool :=
 if t.kind=2 then decide (t.low≤t.high)
 else if t.kind=3 then decide (0≤t.max)&&decide (t.max≤200)
 else if t.kind=4 then symsD t.syms
 else if t.kind=5 then memsD true t.mems
 else if t.kind=6 then memsD false t.mems
 else if t.kind=7∨t.kind=8 then decide (0≤t.max)&&decide (t.max≤50)
 else true
def formD (t:TyD):Bool:=decide (1≤t.kind)&&decide (t.kind≤9)&&decide (t=zT t)&&(!zU t.kind||nameB t.name)&&caseD t
def toD (t:TyD):List Int:=(usesD t).map (·.2)
def yH (k:Int):Bool:=decide (1≤k)&&decide (k≤4)
def tyErr (s:List TyD) (seen:List ByteArray) (t:TyD):Int :=
 if !formD t||(decide (t.name≠⟨#[]⟩)&&memD t.name seen) then 1
 else if (toD t).any (fun u=>decide (u<0)||decide ((s.length:Int)≤u)) then 4
 else if decide (t.kind=8) && !yH ((s.getD t.key.toNat zeroT).kind) then 1
 else 0
def tysErr (s:List TyD) (seen:List ByteArray):List TyD→Int
 | []=>0
 | t::r=>if tyErr s seen t=0 then tysErr s (seen++[t.name]) r else tyErr s seen t
def zQ (s:List TyD):Int:=if 32<s.length then 3 else tysErr s [] s
def zH (s:List TyD) (t:Int):Int:=if zQ s≠0 then zQ s else if t<0∨(s.length:Int)≤t then 4 else 0
def restD (t:TyD):TyD :=
 if t.kind=1 then { t with kind:=0 }
 else if t.kind=2 then { t with kind:=0,low:=0,high:=0 }
 else if t.kind=3 then { t with kind:=0,max:=0 }
 else if t.kind=4 then { t with kind:=0,name:=⟨#[]⟩,syms:=[],open_:=false }
 else if t.kind=5 then { t with kind:=0,name:=⟨#[]⟩,mems:=[] }
 else if t.kind=6 then { t with kind:=0,name:=⟨#[]⟩,mems:=[],open_:=false }
 else if t.kind=7 then { t with kind:=0,max:=0,elem:=0 }
 else if t.kind=8 then { t with kind:=0,max:=0,key:=0,elem:=0 }
 else { t with kind:=0,elem:=0 }
theorem restD_iff (t:TyD):(restD t=zeroT)↔t=zT t:=by
 obtain ⟨k,n,lo,hi,mx,ss,ms,ky,el,op⟩:=t
 unfold restD zT zeroT
 simp only
 by_cases h1:k=1
 ·subst h1;simp
 rw[if_neg h1,if_neg h1]
 by_cases h2:k=2
 ·subst h2;simp
 rw[if_neg h2,if_neg h2]
 by_cases h3:k=3
 ·subst h3;simp
 rw[if_neg h3,if_neg h3]
 by_cases h4:k=4
 ·subst h4;simp
 rw[if_neg h4,if_neg h4]
 by_cases h5:k=5
 ·subst h5;simp
 rw[if_neg h5,if_neg h5]
 by_cases h6:k=6
 ·subst h6;simp
 rw[if_neg h6,if_neg h6]
 by_cases h7:k=7
 ·subst h7;simp
 rw[if_neg h7,if_neg h7]
 by_cases h8:k=8
 ·subst h8;simp
 rw[if_neg h8,if_neg h8]
 simp
theorem idsOk_snoc:∀ (l:List (Int×ByteArray)) (b:Int) (seen:List ByteArray) (x:Int×ByteArray),idsOk b seen (l++[x]) =
  (idsOk b seen l&&(decide (1≤x.1)&&decide (x.1≤1000)&&decide ((((l.getLast?).map (·.1)).getD b)<x.1) && !memD x.2 (seen++l.map (·.2))&&nameB x.2))
 | [],b,seen,x=>by simp only[idsOk,List.nil_append,List.getLast?_nil,Option.map_none,Option.getD_none,List.map_nil,List.append_nil,Bool.true_and,Bool.and_true];rfl
 | y::r,b,seen,x=>by
  rw[List.cons_append,idsOk,idsOk_snoc r y.1 (seen++[y.2]) x,idsOk]
  have e:((y::r).getLast?.map (·.1)).getD b=((r.getLast?).map (·.1)).getD y.1:=by
   cases r with
   | nil=>rfl
   | cons z r=>rw[List.getLast?_cons_cons];cases h:(z::r).getLast? with
    | none=>simp at h
    | some v=>rfl
  rw[e,List.map_cons,show seen++y.2::r.map (·.2)=seen++[y.2]++r.map (·.2) by simp]
  simp only[Bool.and_assoc]
theorem idsOk_take_false {l:List (Int×ByteArray)} {b:Int} {seen:List ByteArray}:∀ {k:Nat},idsOk b seen (l.take k)=false→idsOk b seen l=false:=by
 induction l generalizing b seen with
 | nil=>intro k h;simpa using h
 | cons y r ih =>
  intro k h
  cases k with
  | zero=>simp[idsOk] at h
  | succ k =>
   rw[List.take_succ_cons,idsOk] at h
   rw[idsOk]
   cases hr:idsOk y.1 (seen++[y.2]) (r.take k) with
   | false=>rw[ih hr];simp
   | true=>rw[hr,Bool.and_true] at h;rw[h];rfl
def getB (M:List (List Bool)) (i k:Nat):Bool:=(M.getD i []).getD k false
def setF (M:List (List Bool)) (i k:Nat):List (List Bool):=M.set i ((M.getD i []).set k false)
theorem getB_setF (M:List (List Bool)) (i k a b:Nat):getB (setF M i k) a b=(getB M a b && !(decide (a=i)&&decide (b=k))):=by
 unfold getB setF
 simp only[List.getD_eq_getElem?_getD,List.getElem?_set]
 by_cases ha:i=a
 ·subst ha
  by_cases hl:i<M.length
  ·simp only[hl,if_true,zl hl,Option.getD_some,List.getElem?_set]
   by_cases hb:k=b
   ·subst hb
    by_cases hk:k<(M[i]).length
    ·simp[hk]
    ·simp[hk]
   ·have hb':¬ b=k:=fun e=>hb e.symm
    simp[hb,hb']
  ·simp[hl]
 ·have ha':¬ a=i:=fun e=>ha e.symm
  simp[ha,ha']
def cntR (l:List Bool):Nat:=l.count true
def cntM (M:List (List Bool)):Nat:=(M.map cntR).sum
theorem cntR_set:∀ (l:List Bool) (k:Nat),l.getD k false=true→cntR (l.set k false)+1=cntR l
 | [],k,h=>by simp at h
 | x::r,0,h=>by
  have:x=true:=by simpa using h
  subst this
  simp[cntR]
 | x::r,k+1,h=>by
  have ih:=cntR_set r k (by simpa using h)
  unfold cntR at ih ⊢
  rw[List.set_cons_succ,List.count_cons,List.count_cons]
  omega
theorem cntM_set:∀ (M:List (List Bool)) (i k:Nat),getB M i k=true→cntM (setF M i k)+1=cntM M
 | [],i,k,h=>by simp[getB] at h
 | x::r,0,k,h=>by
  have:=cntR_set x k (by simpa[getB] using h)
  simp only[setF,cntM,List.getD_cons_zero,List.set_cons_zero,List.map_cons,List.sum_cons]
  omega
 | x::r,i+1,k,h=>by
  have ih:=cntM_set r i k (by simpa[getB] using h)
  simp only[setF,cntM,List.getD_cons_succ,List.set_cons_succ,List.map_cons,List.sum_cons] at ih ⊢
  omega
section
variable (al:Nat→Nat→Bool) (ok:(Nat→Nat→Bool)→Nat→Nat→Bool)
def ClosedR (S:Nat→Nat→Bool):Prop:=∀i k,S i k=true→al i k=true∧ok S i k=true
def LeR (S T:Nat→Nat→Bool):Prop:=∀i k,S i k=true→T i k=true
def MonoR:Prop:=∀S T i k,LeR S T→ok S i k=true→ok T i k=true
structure GreatestR (S:Nat→Nat→Bool):Prop where
 closed:ClosedR al ok S
 top:∀T,ClosedR al ok T→LeR T S
theorem GreatestR.unique {S T:Nat→Nat→Bool} (h:GreatestR al ok S) (k:GreatestR al ok T):S=T:=by
 funext i j
 have h1:=h.top T k.closed i j
 have h2:=k.top S h.closed i j
 cases hs:S i j <;> cases ht:T i j <;> simp_all
def strike (s:List (List Bool)×Bool) (i k:Nat):List (List Bool)×Bool :=
 if getB s.1 i k && !ok (getB s.1) i k then (setF s.1 i k,true) else s
def sweep:List (Nat×Nat)→List (List Bool)×Bool→List (List Bool)×Bool
 | [],s=>s
 | p::P,s=>sweep P (strike ok s p.1 p.2)
theorem strike_le (s:List (List Bool)×Bool) (i k:Nat):LeR (getB (strike ok s i k).1) (getB s.1):=by
 intro a b h
 unfold strike at h
 split at h
 ·rw[getB_setF] at h
  simp only[Bool.and_eq_true] at h
  exact h.1
 ·exact h
theorem strike_keep (hm:MonoR ok) {S:Nat→Nat→Bool} (hS:ClosedR al ok S) {s:List (List Bool)×Bool} (hs:LeR S (getB s.1)) (i k:Nat):LeR S (getB (strike ok s i k).1):=by
 intro a b h
 unfold strike
 split
 ·rename_i hc
  rw[getB_setF,hs a b h]
  by_cases he:a=i∧b=k
  ·obtain ⟨rfl,rfl⟩:=he
   have:=hm S (getB s.1) a b hs (hS a b h).2
   simp[this] at hc
  ·simp only[Bool.true_and,Bool.not_eq_true',Bool.and_eq_false_iff,decide_eq_false_iff_not]
   by_cases ha:a=i
   ·exact .inr fun hb=>he ⟨ha,hb⟩
   ·exact .inl ha
 ·exact hs a b h
theorem strike_true {s:List (List Bool)×Bool} (h:s.2=true) (i k:Nat):(strike ok s i k).2=true:=by
 unfold strike;split
 ·rfl
 ·exact h
theorem sweep_true:∀ (P:List (Nat×Nat)) (s:List (List Bool)×Bool),s.2=true→(sweep ok P s).2=true
 | [],_,h=>h
 | p::P,_,h=>sweep_true P _ (strike_true ok h p.1 p.2)
theorem sweep_false:∀ (P:List (Nat×Nat)) (s:List (List Bool)×Bool),(sweep ok P s).2=false→sweep ok P s=s∧∀p∈P,getB s.1 p.1 p.2=true→ok (getB s.1) p.1 p.2=true
 | [],_,_=>⟨rfl,fun _ h=>(by cases h)⟩
 | p::P,s,h=>by
  have hst:strike ok s p.1 p.2=s∧(getB s.1 p.1 p.2=true→ok (getB s.1) p.1 p.2=true):=by
   by_cases hc:(getB s.1 p.1 p.2 && !ok (getB s.1) p.1 p.2)=true
   ·have ht:(strike ok s p.1 p.2).2=true:=by unfold strike;rw[if_pos hc]
    have:=sweep_true ok P _ ht
    rw[sweep] at h
    rw[h] at this;cases this
   ·refine ⟨by unfold strike;rw[if_neg hc],fun hg=>?_⟩
    cases ho:ok (getB s.1) p.1 p.2 with
    | true=>rfl
    | false=>simp[hg,ho] at hc
  rw[sweep,hst.1] at h ⊢
  obtain ⟨h1,h2⟩:=sweep_false P s h
  refine ⟨h1,fun q hq=>?_⟩
  rcases List.mem_cons.1 hq with e|e
  ·rw[e];exact hst.2
  ·exact h2 q e
theorem sweep_cnt:∀ (P:List (Nat×Nat)) (s:List (List Bool)×Bool),cntM (sweep ok P s).1≤cntM s.1∧(s.2=false→(sweep ok P s).2=true→cntM (sweep ok P s).1<cntM s.1)
 | [],s=>⟨Nat.le_refl _,fun h k=>by rw[sweep,h] at k;cases k⟩
 | p::P,s=>by
  obtain ⟨h1,h2⟩:=sweep_cnt P (strike ok s p.1 p.2)
  rw[sweep]
  by_cases hc:(getB s.1 p.1 p.2 && !ok (getB s.1) p.1 p.2)=true
  ·have hg:getB s.1 p.1 p.2=true:=by simp only[Bool.and_eq_true] at hc;exact hc.1
   have he:(strike ok s p.1 p.2).1=setF s.1 p.1 p.2:=by unfold strike;rw[if_pos hc]
   have:=cntM_set s.1 p.1 p.2 hg
   rw[he] at h1
   exact ⟨by omega,fun _ _=>by omega⟩
  ·have he:strike ok s p.1 p.2=s:=by unfold strike;rw[if_neg hc]
   rw[he] at h1 h2 ⊢
   exact ⟨h1,h2⟩
theorem greatest_of {M:List (List Bool)} {P:List (Nat×Nat)} (ha:∀i k,getB M i k=true→al i k=true∧(i,k)∈P) (hf:(sweep ok P (M,false)).2=false) (ht:∀T,ClosedR al ok T→LeR T (getB M)):GreatestR al ok (getB M) :=
 ⟨fun i k h=>⟨(ha i k h).1,(sweep_false ok P (M,false) hf).2 (i,k) (ha i k h).2 h⟩,ht⟩
end
def zR (S:Nat→Nat→Bool):List (Int×Int)→List (Int×Int)→Bool
 | [],[]=>true
 | u::l,v::m=>S u.2.toNat v.2.toNat&&zR S l m
 | _,_=>false
theorem usesOk_mono {S T:Nat→Nat→Bool} (h:LeR S T):∀l m,zR S l m=true→zR T l m=true
 | [],[],_=>rfl
 | [],_::_,k=>by simp[zR] at k
 | _::_,[],k=>by simp[zR] at k
 | u::l,v::m,k=>by
  simp only[zR,Bool.and_eq_true] at k ⊢
  exact ⟨h _ _ k.1,usesOk_mono h l m k.2⟩
theorem usesOk_turn (S:Nat→Nat→Bool):∀l m,zR (fun i k=>S k i) m l=zR S l m
 | [],[]=>rfl
 | [],_::_=>rfl
 | _::_,[]=>rfl
 | u::l,v::m=>by simp only[zR,usesOk_turn S l m]
theorem usesOk_refl {S:Nat→Nat→Bool}:∀l:List (Int×Int),(∀u∈l,S u.2.toNat u.2.toNat=true)→zR S l l=true
 | [],_=>rfl
 | u::l,h=>by
  simp only[zR,Bool.and_eq_true]
  exact ⟨h u (List.mem_cons_self ..),usesOk_refl l fun v hv=>h v (List.mem_cons_of_mem _ hv)⟩
def okD (a b:List TyD) (S:Nat→Nat→Bool) (i k:Nat):Bool:=match a[i]?,b[k]? with
 | some x,some y=>zR S (usesD x) (usesD y)
 | _,_=>false
def alD (names:Bool) (a b:List TyD) (i k:Nat):Bool:=match a[i]?,b[k]? with
 | some x,some y=>zM names x y
 | _,_=>false
theorem okD_mono (a b:List TyD):MonoR (okD a b):=by
 intro S T i k h hk
 unfold okD at hk ⊢
 split at hk
 ·exact usesOk_mono h _ _ hk
 ·cases hk
theorem okD_turn (a b:List TyD) (S:Nat→Nat→Bool) (i k:Nat):okD b a (fun i k=>S k i) k i=okD a b S i k:=by
 unfold okD
 cases a[i]? <;> cases b[k]? <;> simp[usesOk_turn]
theorem alD_turn (names:Bool) (a b:List TyD) (i k:Nat):alD names b a k i=alD names a b i k:=by
 unfold alD
 cases a[i]? <;> cases b[k]? <;> simp[alikeD_symm]
theorem closed_turn {names:Bool} {a b:List TyD} {S:Nat→Nat→Bool} (h:ClosedR (alD names a b) (okD a b) S):ClosedR (alD names b a) (okD b a) (fun i k=>S k i):=by
 intro i k hs
 rw[alD_turn,okD_turn]
 exact h k i hs
theorem greatest_turn {names:Bool} {a b:List TyD} {S:Nat→Nat→Bool} (h:GreatestR (alD names a b) (okD a b) S):GreatestR (alD names b a) (okD b a) (fun i k=>S k i) :=
 ⟨closed_turn h.closed,fun T hT i k ht=>h.top (fun i k=>T k i) (closed_turn hT) k i ht⟩
def InR (a:List TyD):Prop:=∀t∈a,∀u∈usesD t,0≤u.2∧u.2.toNat<a.length
theorem greatest_refl {names:Bool} {a:List TyD} (hu:InR a) {S:Nat→Nat→Bool} (h:GreatestR (alD names a a) (okD a a) S) {i:Nat} (hi:i<a.length):S i i=true:=by
 refine h.top (fun i k=>decide (i=k∧i<a.length)) (fun i k hs=>?_) i i (by simp[hi])
 have hs':i=k∧i<a.length:=by simpa using hs
 obtain ⟨rfl,hl⟩:=hs'
 unfold alD okD
 rw[zl hl]
 refine ⟨alikeD_refl _ _,usesOk_refl _ fun u hm=>?_⟩
 simpa using (hu _ (List.getElem_mem hl) u hm).2
theorem alikeD_less {x y:TyD} (h:zM true x y=true):zM false x y=true:=by
 simp only[zM,decide_eq_true_eq] at h ⊢
 obtain ⟨h1,h2,h3,h4,h5,_,h7,h8⟩:=h
 refine ⟨h1,h2,h3,h4,h5,(fun e=>nomatch e),?_,?_⟩
 ·have:=congrArg (List.map fun (p:Int×ByteArray)=>(p.1,(⟨#[]⟩:ByteArray))) h7
  simpa[List.map_map,Function.comp_def] using this
 ·have:=congrArg (List.map fun (p:Int×Bool×Bool×Val×ByteArray)=>(p.1,p.2.1,p.2.2.1,p.2.2.2.1,(⟨#[]⟩:ByteArray))) h8
  simpa[List.map_map,Function.comp_def] using this
theorem alD_less {a b:List TyD} {i j:Nat} (h:alD true a b i j=true):alD false a b i j=true:=by
 unfold alD at h ⊢
 split at h
 ·exact alikeD_less h
 ·cases h
theorem greatest_less {a b:List TyD} {S T:Nat→Nat→Bool} (h:GreatestR (alD true a b) (okD a b) S) (k:GreatestR (alD false a b) (okD a b) T):LeR S T :=
 k.top S fun i j hs=>⟨alD_less (h.closed i j hs).1,(h.closed i j hs).2⟩
theorem alikeD_trans {names:Bool} {x y z:TyD} (h:zM names x y=true) (k:zM names y z=true):zM names x z=true:=by
 simp only[zM,decide_eq_true_eq] at h k ⊢
 obtain ⟨h1,h2,h3,h4,h5,h6,h7,h8⟩:=h
 obtain ⟨k1,k2,k3,k4,k5,k6,k7,k8⟩:=k
 exact ⟨h1.trans k1,h2.trans k2,h3.trans k3,h4.trans k4,h5.trans k5,fun e=>(h6 e).trans (k6 e),h7.trans k7,h8.trans k8⟩
def compR (n:Nat) (S T:Nat→Nat→Bool) (i j:Nat):Bool:=(List.range n).any fun k=>S i k&&T k j
theorem compR_iff {n:Nat} {S T:Nat→Nat→Bool} {i j:Nat}:compR n S T i j=true↔∃k,k<n∧S i k=true∧T k j=true:=by
 simp[compR]
theorem usesOk_comp {n:Nat} {S T:Nat→Nat→Bool} (hs:∀i k,S i k=true→k<n):∀l m r,zR S l m=true→zR T m r=true→zR (compR n S T) l r=true
 | [],[],[],_,_=>rfl
 | [],[],_::_,_,k=>by simp[zR] at k
 | [],_::_,_,h,_=>by simp[zR] at h
 | _::_,[],_,h,_=>by simp[zR] at h
 | _::_,_::_,[],_,k=>by simp[zR] at k
 | u::l,v::m,w::r,h,k=>by
  simp only[zR,Bool.and_eq_true] at h k ⊢
  exact ⟨compR_iff.2 ⟨_,hs _ _ h.1,h.1,k.1⟩,usesOk_comp hs l m r h.2 k.2⟩
theorem closed_lt {names:Bool} {a b:List TyD} {S:Nat→Nat→Bool} (h:ClosedR (alD names a b) (okD a b) S) {i k:Nat} (hs:S i k=true):∃x y,a[i]? = some x∧b[k]? = some y∧zM names x y=true∧zR S (usesD x) (usesD y)=true:=by
 obtain ⟨h1,h2⟩:=h i k hs
 unfold alD at h1
 unfold okD at h2
 cases ha:a[i]? with
 | none=>simp[ha] at h1
 | some x =>
  cases hb:b[k]? with
  | none=>simp[ha,hb] at h1
  | some y=>exact ⟨x,y,rfl,rfl,by simpa[ha,hb] using h1,by simpa[ha,hb] using h2⟩
theorem greatest_trans {names:Bool} {a b c:List TyD} {S T U:Nat→Nat→Bool} (h1:GreatestR (alD names a b) (okD a b) S) (h2:GreatestR (alD names b c) (okD b c) T) (h3:GreatestR (alD names a c) (okD a c) U) {i k j:Nat} (hs:S i k=true) (ht:T k j=true):U i j=true:=by
 have hlt:∀i k,S i k=true→k<b.length:=fun i k h=>by
  obtain ⟨_,_,_,hb,_⟩:=closed_lt h1.closed h
  exact (List.getElem?_eq_some_iff.1 hb).1
 refine h3.top (compR b.length S T) (fun i j h=>?_) i j (compR_iff.2 ⟨k,hlt i k hs,hs,ht⟩)
 obtain ⟨k,_,h4,h5⟩:=compR_iff.1 h
 obtain ⟨x,y,ha,hb,e1,e2⟩:=closed_lt h1.closed h4
 obtain ⟨y',z,hb',hc,f1,f2⟩:=closed_lt h2.closed h5
 obtain rfl:y=y':=Option.some.inj (hb.symm.trans hb')
 unfold alD okD
 rw[ha,hc]
 exact ⟨alikeD_trans e1 f1,usesOk_comp hlt _ _ _ e2 f2⟩
def fstB:List Bool→Int
 | [] => -1
 | b::r=>if b then 0 else if fstB r<0 then -1 else fstB r+1
theorem fstB_at:∀ (l:List Bool) (k:Nat) (hk:k<l.length),l[k]=true→(∀j (hj:j<k),l[j]'(by omega)=false)→fstB l=k
 | [],_,h,_,_=>absurd h (by simp)
 | b::r,0,_,h,_=>by have:b=true:=h;simp[fstB,this]
 | b::r,k+1,hk,h,hn=>by
  have hb:b=false:=hn 0 (by omega)
  have:=fstB_at r k (by simpa using hk) (by simpa using h) (fun j hj=>by have:=hn (j+1) (by omega);simpa using this)
  simp only[fstB,hb,this]
  simp;omega
theorem fstB_no:∀ (l:List Bool),(∀j (hj:j<l.length),l[j]=false)→fstB l = -1
 | [],_=>rfl
 | b::r,h=>by
  have hb:b=false:=h 0 (by simp)
  have:=fstB_no r (fun j hj=>by have:=h (j+1) (by simpa using hj);simpa using this)
  simp[fstB,hb,this]
def clsD (S:Nat→Nat→Bool) (n:Nat):List Int:=(List.range n).map fun i=>fstB ((List.range n).map (S i))
def ClsIs (s:List TyD) (l:List Int):Prop:=∃S,GreatestR (alD false s s) (okD s s) S∧l=clsD S s.length
theorem ClsIs.unique {s:List TyD} {l m:List Int} (h:ClsIs s l) (k:ClsIs s m):l=m:=by
 obtain ⟨S,hS,rfl⟩:=h
 obtain ⟨T,hT,rfl⟩:=k
 rw[hS.unique _ _ hT]
theorem idxOf_le {n:Int}:∀ (l:List Int) (k:Nat) (hk:k<l.length),l[k]=n→l.idxOf n≤k:=by
 intro l
 induction l with
 | nil=>intro k hk;simp at hk
 | cons a r ih =>
  intro k hk h
  by_cases e:a=n
  ·subst e;simp
  ·cases k with
   | zero=>exact absurd h e
   | succ k =>
    have hbe:(a==n)=false:=by simpa using e
    have hi:(a::r).idxOf n=r.idxOf n+1:=by rw[List.idxOf_cons,hbe];rfl
    rw[hi]
    have:=ih k (by simpa using hk) (by simpa using h)
    omega
def idxI (l:List Int) (n:Int):Int:=if n∈l then ((l.idxOf n:Nat):Int) else -1
theorem idxI_at {l:List Int} {n:Int} {k:Nat} (hk:k<l.length) (h:l[k]=n) (hn:∀j (hj:j<k),l[j]'(by omega)≠n):idxI l n=k:=by
 have hm:n∈l:=h▸List.getElem_mem hk
 unfold idxI
 rw[if_pos hm]
 have h1:l.idxOf n<l.length:=List.idxOf_lt_length_of_mem hm
 have h2:l[l.idxOf n]=n:=List.getElem_idxOf h1
 rcases Nat.lt_trichotomy (l.idxOf n) k with h3|h3|h3
 ·exact absurd h2 (hn _ h3)
 ·rw[h3]
 ·exfalso
  have:=idxOf_le l k hk h
  omega
theorem idxI_no {l:List Int} {n:Int} (h:∀j (hj:j<l.length),l[j]≠n):idxI l n = -1:=by
 unfold idxI
 rw[if_neg]
 intro hm
 obtain ⟨j,hj,e⟩:=List.getElem_of_mem hm
 exact h j hj e
def ltL:List Int→List Int→Bool
 | [],[]=>false
 | [],_::_=>true
 | _::_,[]=>false
 | a::l,b::m=>if a=b then ltL l m else decide (a<b)
theorem ltL_skip:∀ (k:Nat) (l m:List Int) (_hl:k≤l.length) (_hm:k≤m.length),(∀j (h1:j<l.length) (h2:j<m.length),j<k→l[j]=m[j])→ltL l m=ltL (l.drop k) (m.drop k)
 | 0,_,_,_,_,_=>rfl
 | k+1,[],_,h,_,_=>absurd h (by simp)
 | k+1,_::_,[],_,h,_=>absurd h (by simp)
 | k+1,a::l,b::m,hl,hm,h=>by
  have e:a=b:=h 0 (by simp) (by simp) (by omega)
  rw[ltL,if_pos e,List.drop_succ_cons,List.drop_succ_cons]
  exact ltL_skip k l m (by simpa using hl) (by simpa using hm) fun j h1 h2 hj=>by
   have:=h (j+1) (by simpa using h1) (by simpa using h2) (by omega)
   simpa using this
theorem ltL_ne {l m:List Int} {k:Nat} (h1:k<l.length) (h2:k<m.length) (he:∀j (h1:j<l.length) (h2:j<m.length),j<k→l[j]=m[j]) (hne:l[k]≠m[k]):ltL l m=decide (l[k]<m[k]):=by
 rw[ltL_skip k l m (by omega) (by omega) he,List.drop_eq_getElem_cons h1,List.drop_eq_getElem_cons h2,ltL,if_neg hne]
theorem ltL_end {l m:List Int} {k:Nat} (hk:k≤l.length) (hk2:k≤m.length) (hd:¬ (k<l.length∧k<m.length)) (he:∀j (h1:j<l.length) (h2:j<m.length),j<k→l[j]=m[j]):ltL l m=decide (l.length<m.length):=by
 rw[ltL_skip k l m hk hk2 he]
 by_cases h1:k<l.length
 ·have:m.drop k=[]:=List.drop_eq_nil_of_le (by omega)
  rw[this,List.drop_eq_getElem_cons h1,ltL]
  symm;simp;omega
 ·have:l.drop k=[]:=List.drop_eq_nil_of_le (by omega)
  rw[this]
  by_cases h2:k<m.length
  ·rw[List.drop_eq_getElem_cons h2,ltL]
   symm;simp;omega
  ·rw[List.drop_eq_nil_of_le (by omega),ltL]
   symm;simp;omega
section
variable (al:Nat→Nat→Bool) (ok:(Nat→Nat→Bool)→Nat→Nat→Bool)
theorem sweep_snoc:∀ (P:List (Nat×Nat)) (p:Nat×Nat) (s:List (List Bool)×Bool),sweep ok (P++[p]) s=strike ok (sweep ok P s) p.1 p.2
 | [],_,_=>rfl
 | q::P,p,s=>by rw[List.cons_append,sweep,sweep_snoc P p,sweep]
structure TabInv (n m:Nat) (M:List (List Bool)):Prop where
 rows:M.length=n
 cols:∀r∈M,r.length=m
 like:∀i k,getB M i k=true→al i k=true
 top:∀T,ClosedR al ok T→LeR T (getB M)
theorem tab_strike {n m:Nat} {s:List (List Bool)×Bool} (hm:MonoR ok) (h:TabInv al ok n m s.1) (i k:Nat):TabInv al ok n m (strike ok s i k).1:=by
 refine ⟨?_,?_,fun a b hab=>h.like a b (strike_le ok s i k a b hab),fun T hT=>strike_keep al ok hm hT (h.top T hT) i k⟩
 ·unfold strike
  split
  ·simp[setF,h.rows]
  ·exact h.rows
 ·intro r hr
  unfold strike at hr
  split at hr
  ·rename_i hc
   have hg:getB s.1 i k=true:=by simp only[Bool.and_eq_true] at hc;exact hc.1
   rcases List.mem_or_eq_of_mem_set hr with e|e
   ·exact h.cols r e
   ·rw[e,List.length_set]
    by_cases hi:i<s.1.length
    ·rw[List.getD_eq_getElem?_getD,zl hi];exact h.cols _ (List.getElem_mem hi)
    ·rw[getB,List.getD_eq_getElem?_getD (l:=s.1),List.getElem?_eq_none (by omega)] at hg
     simp at hg
  ·exact h.cols r hr
theorem tab_sweep {n m:Nat} (hm:MonoR ok):∀ (P:List (Nat×Nat)) {s:List (List Bool)×Bool},TabInv al ok n m s.1→TabInv al ok n m (sweep ok P s).1
 | [],_,h=>h
 | p::P,_,h=>tab_sweep hm P (tab_strike al ok hm h p.1 p.2)
def yA (m i k:Nat):List (Nat×Nat):=(List.range i).flatMap (fun a=>(List.range m).map fun b=>(a,b))++(List.range k).map fun b=>(i,b)
theorem pairsTo_next (m i k:Nat):yA m i (k+1)=yA m i k++[(i,k)]:=by
 unfold yA;rw[List.range_succ,List.map_append,←List.append_assoc];rfl
theorem pairsTo_row (m i:Nat):yA m i m=yA m (i+1) 0:=by
 unfold yA;rw[List.range_succ,List.flatMap_append];simp
theorem mem_pairs {n m i k:Nat} (hi:i<n) (hk:k<m):(i,k)∈yA m n 0:=by
 unfold yA
 simp[hi,hk]
theorem getB_lt {n m:Nat} {M:List (List Bool)} (h:TabInv al ok n m M) {i k:Nat} (hg:getB M i k=true):i<n∧k<m:=by
 unfold getB at hg
 by_cases hi:i<M.length
 ·rw[List.getD_eq_getElem?_getD (l:=M),zl hi,Option.getD_some] at hg
  have hl:=h.cols _ (List.getElem_mem hi)
  refine ⟨h.rows▸hi,?_⟩
  rcases Nat.lt_or_ge k (M[i]).length with hk|hk
  ·omega
  ·rw[List.getD_eq_getElem?_getD,List.getElem?_eq_none hk] at hg;simp at hg
 ·rw[List.getD_eq_getElem?_getD (l:=M),List.getElem?_eq_none (by omega)] at hg;simp at hg
theorem tab_done {n m:Nat} {M:List (List Bool)} (h:TabInv al ok n m M) (hf:(sweep ok (yA m n 0) (M,false)).2=false):GreatestR al ok (getB M)∧(sweep ok (yA m n 0) (M,false)).1=M :=
 ⟨greatest_of al ok (fun i k hg=>⟨h.like i k hg,mem_pairs (getB_lt al ok h hg).1 (getB_lt al ok h hg).2⟩) hf h.top,by rw[(sweep_false ok _ _ hf).1]⟩
end
def fillM (al:Nat→Nat→Bool) (n m i k:Nat):List (List Bool) :=
 (List.range n).map fun j=>if j<i then (List.range m).map (al j) else if j=i then (List.range k).map (al j) else []
theorem fillM_len (al:Nat→Nat→Bool) (n m i k:Nat):(fillM al n m i k).length=n:=by simp[fillM]
theorem fillM_get (al:Nat→Nat→Bool) {n m i k j:Nat} (_hj:j<n) (h:j<(fillM al n m i k).length):(fillM al n m i k)[j]=if j<i then (List.range m).map (al j) else if j=i then (List.range k).map (al j) else []:=by
 simp[fillM]
theorem fillM_zero (al:Nat→Nat→Bool) (n m:Nat):fillM al n m 0 0=List.replicate n []:=by
 apply List.ext_getElem
 ·simp[fillM]
 ·intro j h1 h2
  simp[fillM]
theorem fillM_row (al:Nat→Nat→Bool) (n m i:Nat):fillM al n m i m=fillM al n m (i+1) 0:=by
 unfold fillM
 apply List.map_congr_left
 intro j _
 by_cases h:j<i
 ·rw[if_pos h,if_pos (by omega)]
 ·by_cases e:j=i
  ·subst e;rw[if_neg h,if_pos rfl,if_pos (by omega)]
  ·rw[if_neg h,if_neg e,if_neg (by omega)]
   by_cases e2:j=i+1
   ·rw[if_pos e2];rfl
   ·rw[if_neg e2]
theorem fillM_push (al:Nat→Nat→Bool) {n m i k:Nat} (hi:i<n) (h:i<(fillM al n m i k).length):(fillM al n m i k).set i ((fillM al n m i k)[i]++[al i k])=fillM al n m i (k+1):=by
 apply List.ext_getElem
 ·simp[fillM]
 ·intro j h1 h2
  have hj:j<n:=by simpa[fillM] using h2
  rw[fillM_get al hj h2]
  by_cases e:j=i
  ·subst e
   rw[List.getElem_set_self,fillM_get al hj]
   rw[if_neg (by omega),if_pos rfl,if_neg (by omega),if_pos rfl,List.range_succ,List.map_append];rfl
  ·rw[List.getElem_set_ne (fun e2=>e e2.symm),fillM_get al hj]
   by_cases h:j<i
   ·rw[if_pos h,if_pos h]
   ·rw[if_neg h,if_neg h,if_neg e,if_neg e]
theorem fillM_rowlen (al:Nat→Nat→Bool) {n m i k:Nat} (hi:i<n) (h:i<(fillM al n m i k).length):(fillM al n m i k)[i]=(List.range k).map (al i):=by
 rw[fillM_get al hi h,if_neg (by omega),if_pos rfl]
theorem fillM_tab {al:Nat→Nat→Bool} {ok:(Nat→Nat→Bool)→Nat→Nat→Bool} {n m:Nat} (hal:∀i k,al i k=true→i<n∧k<m):TabInv al ok n m (fillM al n m n 0):=by
 have hg:∀i k,getB (fillM al n m n 0) i k=al i k:=by
  intro i k
  unfold getB
  by_cases hi:i<n
  ·rw[List.getD_eq_getElem?_getD (l:=fillM al n m n 0),zl (by rw[fillM_len];exact hi),Option.getD_some,fillM_get al hi,if_pos hi]
   by_cases hk:k<m
   ·simp[hk]
   ·have:al i k=false:=by
     cases h:al i k with
     | false=>rfl
     | true=>exact absurd (hal i k h).2 hk
    rw[this,List.getD_eq_getElem?_getD,List.getElem?_eq_none (by simpa using hk)];rfl
  ·have:al i k=false:=by
    cases h:al i k with
    | false=>rfl
    | true=>exact absurd (hal i k h).1 hi
   rw[this,List.getD_eq_getElem?_getD (l:=fillM al n m n 0),List.getElem?_eq_none (by rw[fillM_len];omega)];rfl
 refine ⟨fillM_len ..,fun r hr=>?_,fun i k h=>by rwa [hg] at h,fun T hT i k h=>by rw[hg];exact (hT i k h).1⟩
 obtain ⟨j,hj,rfl⟩:=List.getElem_of_mem hr
 have hjn:j<n:=by rwa [fillM_len] at hj
 rw[fillM_get al hjn hj,if_pos hjn];simp
theorem alD_lt {names:Bool} {a b:List TyD} {i k:Nat} (h:alD names a b i k=true):i<a.length∧k<b.length:=by
 unfold alD at h
 split at h
 ·rename_i x y hx hy
  exact ⟨(List.getElem?_eq_some_iff.1 hx).1,(List.getElem?_eq_some_iff.1 hy).1⟩
 ·cases h
theorem alD_at {names:Bool} {a b:List TyD} {i k:Nat} (hi:i<a.length) (hk:k<b.length):alD names a b i k=zM names a[i] b[k]:=by
 unfold alD
 rw[zl hi,zl hk]
theorem okD_at {a b:List TyD} {S:Nat→Nat→Bool} {i k:Nat} (hi:i<a.length) (hk:k<b.length):okD a b S i k=zR S (usesD a[i]) (usesD b[k]):=by
 unfold okD
 rw[zl hi,zl hk]
def addN (o:List Int) (c:Int):List Int:=if c∈o then o else o++[c]
def bfsStep (next:Int→List Int) (i:Nat) (o:List Int):List Int:=match o[i]? with
 | some c=>(next c).foldl addN o
 | none=>o
def bfsN (next:Int→List Int) (c0:Int):Nat→List Int
 | 0=>[c0]
 | i+1=>bfsStep next i (bfsN next c0 i)
theorem addN_nodup {o:List Int} {c:Int} (h:o.Nodup):(addN o c).Nodup:=by
 unfold addN
 split
 ·exact h
 ·rename_i hc
  rw[List.nodup_append]
  refine ⟨h,by simp,?_⟩
  intro a ha b hb e
  obtain rfl:b=c:=by simpa using hb
  exact hc (e▸ha)
theorem mem_addN {o:List Int} {c x:Int}:x∈addN o c↔x∈o∨x=c:=by
 unfold addN
 split
 ·rename_i h
  exact ⟨.inl,fun k=>k.elim id fun e=>e▸h⟩
 ·simp
theorem addN_pre {o:List Int} {c:Int}:∃r,addN o c=o++r:=by
 unfold addN
 split
 ·exact ⟨[],by simp⟩
 ·exact ⟨[c],rfl⟩
theorem fold_nodup:∀ (l o:List Int),o.Nodup→(l.foldl addN o).Nodup
 | [],_,h=>h
 | _::l,_,h=>fold_nodup l _ (addN_nodup h)
theorem mem_fold {x:Int}:∀ (l o:List Int),x∈l.foldl addN o↔x∈o∨x∈l
 | [],o=>by simp
 | c::l,o=>by
  rw[List.foldl_cons,mem_fold l,mem_addN,List.mem_cons]
  constructor
  ·rintro ((h|h)|h)
   ·exact .inl h
   ·exact .inr (.inl h)
   ·exact .inr (.inr h)
  ·rintro (h|h|h)
   ·exact .inl (.inl h)
   ·exact .inl (.inr h)
   ·exact .inr h
theorem fold_pre:∀ (l o:List Int),∃r,l.foldl addN o=o++r
 | [],o=>⟨[],by simp⟩
 | c::l,o=>by
  obtain ⟨r,hr⟩:=addN_pre (o:=o) (c:=c)
  obtain ⟨r2,hr2⟩:=fold_pre l (addN o c)
  exact ⟨r++r2,by rw[List.foldl_cons,hr2,hr,List.append_assoc]⟩
section
variable {next:Int→List Int} {c0:Int}
theorem bfs_at {i:Nat} {o:List Int} (hi:i<o.length):bfsStep next i o=(next o[i]).foldl addN o:=by
 unfold bfsStep
 rw[zl hi]
theorem bfs_end {i:Nat} {o:List Int} (hi:o.length≤i):bfsStep next i o=o:=by
 unfold bfsStep
 rw[List.getElem?_eq_none hi]
theorem bfs_nodup:∀i,(bfsN next c0 i).Nodup
 | 0=>by simp[bfsN]
 | i+1=>by
  rw[bfsN,bfsStep]
  split
  ·exact fold_nodup _ _ (bfs_nodup i)
  ·exact bfs_nodup i
theorem bfs_pre1 (i:Nat):∃r,bfsN next c0 (i+1)=bfsN next c0 i++r:=by
 rw[bfsN,bfsStep]
 split
 ·exact fold_pre _ _
 ·exact ⟨[],by simp⟩
theorem bfs_pre (i:Nat):∀k,∃r,bfsN next c0 (i+k)=bfsN next c0 i++r
 | 0=>⟨[],by simp⟩
 | k+1=>by
  obtain ⟨r,hr⟩:=bfs_pre i k
  obtain ⟨r2,hr2⟩:=bfs_pre1 (next:=next) (c0:=c0) (i+k)
  exact ⟨r++r2,by rw[←Nat.add_assoc,hr2,hr,List.append_assoc]⟩
theorem bfs_head (i:Nat):∃r,bfsN next c0 i=c0::r:=by
 obtain ⟨r,hr⟩:=bfs_pre (next:=next) (c0:=c0) 0 i
 rw[Nat.zero_add] at hr
 exact ⟨r,by rw[hr];rfl⟩
theorem bfs_all {p:Int→Prop} (h0:p c0) (hp:∀c,p c→∀x∈next c,p x):∀i,∀c∈bfsN next c0 i,p c
 | 0,c,hc=>by
  obtain rfl:c=c0:=by simpa[bfsN] using hc
  exact h0
 | i+1,c,hc=>by
  have ih:=bfs_all h0 hp i
  rw[bfsN,bfsStep] at hc
  split at hc
  ·rename_i d hd
   rcases (mem_fold _ _).1 hc with h|h
   ·exact ih c h
   ·exact hp d (ih d (List.mem_of_getElem? hd)) c h
  ·exact ih c hc
theorem bfs_next:∀ (i j:Nat) (c:Int),j<i→(bfsN next c0 i)[j]? = some c→∀x∈next c,x∈bfsN next c0 i
 | 0,_,_,h,_,_,_=>absurd h (by omega)
 | i+1,j,c,hj,hc,x,hx=>by
  by_cases e:j=i
  ·subst e
   obtain ⟨r,hr⟩:=bfs_pre1 (next:=next) (c0:=c0) j
   by_cases hl:j<(bfsN next c0 j).length
   ·have hcj:(bfsN next c0 j)[j]? = some c:=by rw[hr,List.getElem?_append_left hl] at hc;exact hc
    rw[bfsN,bfsStep,hcj]
    exact (mem_fold _ _).2 (.inr hx)
   ·have hs:bfsN next c0 (j+1)=bfsN next c0 j:=by rw[bfsN];exact bfs_end (by omega)
    rw[hs,List.getElem?_eq_none (by omega)] at hc
    cases hc
  ·obtain ⟨r,hr⟩:=bfs_pre1 (next:=next) (c0:=c0) i
   by_cases hl:j<(bfsN next c0 i).length
   ·have hcj:(bfsN next c0 i)[j]? = some c:=by rw[hr,List.getElem?_append_left hl] at hc;exact hc
    rw[hr]
    exact List.mem_append_left _ (bfs_next i j c (by omega) hcj x hx)
   ·have hs:bfsN next c0 (i+1)=bfsN next c0 i:=by rw[bfsN];exact bfs_end (by omega)
    rw[hs,List.getElem?_eq_none (by omega)] at hc
    cases hc
theorem bfs_stop {i:Nat} (h:(bfsN next c0 i).length≤i):∀k,bfsN next c0 (i+k)=bfsN next c0 i
 | 0=>rfl
 | k+1=>by
  have ih:=bfs_stop h k
  rw[←Nat.add_assoc,bfsN,ih]
  exact bfs_end (by omega)
theorem bfs_done {n:Nat} (hn:∀i,(bfsN next c0 i).length≤n) {i:Nat} (hi:(bfsN next c0 i).length≤i):bfsN next c0 n=bfsN next c0 i:=by
 rcases Nat.le_total i n with h|h
 ·obtain ⟨k,rfl⟩:=Nat.exists_eq_add_of_le h
  exact bfs_stop hi k
 ·obtain ⟨k,rfl⟩:=Nat.exists_eq_add_of_le h
  exact (bfs_stop (hn n) k).symm
theorem bfs_closed {n:Nat} (hn:∀i,(bfsN next c0 i).length≤n):∀c∈bfsN next c0 n,∀x∈next c,x∈bfsN next c0 n:=fun c hc x hx=>by
 obtain ⟨j,hj,e⟩:=List.getElem_of_mem hc
 exact bfs_next n j c (Nat.lt_of_lt_of_le hj (hn n)) (by rw[zl hj,e]) x hx
end
theorem nodup_len:∀ (n:Nat) (l:List Int),l.Nodup→(∀c∈l,0≤c∧c<(n:Int))→l.length≤n
 | 0,[],_,_=>by simp
 | 0,c::l,_,h=>by
  have:=h c List.mem_cons_self
  omega
 | n+1,l,hl,h=>by
  have h1:(l.erase (n:Int)).length≤n:=nodup_len n _ (hl.erase _) fun c hc=>by
   have h2:=h c (List.mem_of_mem_erase hc)
   have h3:c≠(n:Int):=fun e=>by
    rw[e] at hc
    exact (List.Nodup.not_mem_erase hl) hc
   omega
  have:=List.length_erase (a:=(n:Int)) (l:=l)
  split at this <;> omega
theorem bfs_len {next:Int→List Int} {c0:Int} {n:Nat} (h0:0≤c0∧c0<(n:Int)) (hp:∀c,0≤c∧c<(n:Int)→∀x∈next c,0≤x∧x<(n:Int)) (i:Nat):(bfsN next c0 i).length≤n :=
 nodup_len n _ (bfs_nodup i) (bfs_all (p:=fun c=>0≤c∧c<(n:Int)) h0 hp i)
theorem fold_map {f:Int→Int}:∀ (l o:List Int),(∀x∈o++l,∀y∈o++l,f x=f y→x=y)→(l.map f).foldl addN (o.map f)=(l.foldl addN o).map f
 | [],_,_=>rfl
 | c::l,o,h=>by
  rw[List.map_cons,List.foldl_cons,List.foldl_cons]
  have hm:f c∈o.map f↔c∈o:=by
   rw[List.mem_map]
   constructor
   ·rintro ⟨x,hx,e⟩
    rwa [←h x (by simp[hx]) c (by simp) e]
   ·exact fun hc=>⟨c,hc,rfl⟩
  have he:addN (o.map f) (f c)=(addN o c).map f:=by
   unfold addN
   by_cases hc:c∈o
   ·rw[if_pos hc,if_pos (hm.2 hc)]
   ·rw[if_neg hc,if_neg (fun k=>hc (hm.1 k))];simp
  rw[he]
  refine fold_map l (addN o c) fun x hx y hy e=>h x ?_ y ?_ e
  ·rcases List.mem_append.1 hx with k|k
   ·rcases mem_addN.1 k with k|k
    ·simp[k]
    ·simp[k]
   ·simp[k]
  ·rcases List.mem_append.1 hy with k|k
   ·rcases mem_addN.1 k with k|k
    ·simp[k]
    ·simp[k]
   ·simp[k]
theorem bfs_map {f:Int→Int} {next next2:Int→List Int} {c0:Int} {p:Int→Prop} (h0:p c0) (hp:∀c,p c→∀x∈next c,p x) (hf:∀x,p x→∀y,p y→f x=f y→x=y) (hn:∀c,p c→next2 (f c)=(next c).map f):∀i,bfsN next2 (f c0) i=(bfsN next c0 i).map f
 | 0=>rfl
 | i+1=>by
  have ih:=bfs_map h0 hp hf hn i
  have ha:=bfs_all (next:=next) h0 hp i
  rw[bfsN,bfsN,ih]
  by_cases hi:i<(bfsN next c0 i).length
  ·rw[bfs_at (by simpa using hi),bfs_at hi]
   have hc:=ha _ (List.getElem_mem hi)
   rw[List.getElem_map,hn _ hc]
   refine fold_map _ _ fun x hx y hy=>hf x ?_ y ?_
   ·rcases List.mem_append.1 hx with k|k
    ·exact ha x k
    ·exact hp _ hc x k
   ·rcases List.mem_append.1 hy with k|k
    ·exact ha y k
    ·exact hp _ hc y k
  ·rw[bfs_end (by simp at hi ⊢;exact hi),bfs_end (by omega)]
theorem tysErr_zero {s:List TyD}:∀ (l:List TyD) (K:List ByteArray),tysErr s K l=0→∀t∈l,∃K,tyErr s K t=0
 | [],_,_,t,h=>by cases h
 | x::r,K,h,t,ht=>by
  rw[tysErr] at h
  split at h
  ·rename_i h0
   rcases List.mem_cons.1 ht with e|e
   ·rw[e];exact ⟨K,h0⟩
   ·exact tysErr_zero r _ h t e
  ·rename_i h0;exact absurd h h0
theorem tyErr_zero {s:List TyD} {K:List ByteArray} {t:TyD} (h:tyErr s K t=0):formD t=true∧∀u∈toD t,0≤u∧u<(s.length:Int):=by
 unfold tyErr at h
 split at h
 ·cases h
 ·rename_i h1
  split at h
  ·cases h
  ·rename_i h2
   refine ⟨?_,fun u hu=>?_⟩
   ·cases hf:formD t with
    | true=>rfl
    | false=>rw[hf] at h1;simp at h1
   ·have h3:(toD t).any (fun u=>decide (u<0)||decide ((s.length:Int)≤u))=false:=by simpa using h2
    rw[List.any_eq_false] at h3
    have:=h3 u hu
    simp at this
    omega
theorem valid_len {s:List TyD} (h:zQ s=0):s.length≤32:=by
 unfold zQ at h
 split at h
 ·cases h
 ·omega
theorem valid_tys {s:List TyD} (h:zQ s=0) {t:TyD} (ht:t∈s):formD t=true∧∀u∈toD t,0≤u∧u<(s.length:Int):=by
 unfold zQ at h
 split at h
 ·cases h
 ·obtain ⟨K,hK⟩:=tysErr_zero s [] h t ht
  exact tyErr_zero hK
theorem yL {s:List TyD} (h:zQ s=0):InR s:=fun t ht u hu=>by
 have:=(valid_tys h ht).2 u.2 (List.mem_map.2 ⟨u,hu,rfl⟩)
 omega
theorem root_ok {s:List TyD} {t:Int} (h:zH s t=0):zQ s=0∧0≤t∧t<(s.length:Int):=by
 unfold zH at h
 split at h
 ·rename_i h1;exact absurd h h1
 ·rename_i h1
  split at h
  ·cases h
  ·exact ⟨Classical.byContradiction h1,by omega,by omega⟩
def EqvIs (names:Bool) (a:List TyD) (ta:Int) (b:List TyD) (tb:Int) (v:Bool):Prop :=
 (zH a ta=0→zH b tb=0→∃S,GreatestR (alD names a b) (okD a b) S∧v=S ta.toNat tb.toNat)∧(¬ (zH a ta=0∧zH b tb=0)→v=false)
theorem EqvIs.unique {names:Bool} {a:List TyD} {ta:Int} {b:List TyD} {tb:Int} {v u:Bool} (h:EqvIs names a ta b tb v) (k:EqvIs names a ta b tb u):v=u:=by
 by_cases h1:zH a ta=0∧zH b tb=0
 ·obtain ⟨S,hS,e⟩:=h.1 h1.1 h1.2
  obtain ⟨T,hT,e2⟩:=k.1 h1.1 h1.2
  rw[e,e2,hS.unique _ _ hT]
 ·rw[h.2 h1,k.2 h1]
theorem fst_spec {n:Nat} {p:Nat→Bool} (h:∃k,k<n∧p k=true):∃k,k<n∧fstB ((List.range n).map p)=(k:Int)∧p k=true∧∀j,j<k→p j=false:=by
 have key:∀m,(∃k,k<m∧p k=true)→∃k,k<m∧p k=true∧∀j,j<k→p j=false:=by
  intro m
  induction m with
  | zero=>rintro ⟨k,hk,_⟩;omega
  | succ m ih =>
   rintro ⟨k,hk,hp⟩
   by_cases hm:∃k,k<m∧p k=true
   ·obtain ⟨k,h1,h2⟩:=ih hm
    exact ⟨k,by omega,h2⟩
   ·have:k=m:=by
     by_cases e:k=m
     ·exact e
     ·exact absurd ⟨k,by omega,hp⟩ hm
    subst this
    refine ⟨k,by omega,hp,fun j hj=>?_⟩
    cases hb:p j with
    | false=>rfl
    | true=>exact absurd ⟨j,hj,hb⟩ hm
 obtain ⟨k,h1,h2,h3⟩:=key n h
 refine ⟨k,h1,fstB_at _ k (by simpa using h1) (by simpa using h2) (fun j hj=>by simpa using h3 j hj),h2,h3⟩
theorem fst_congr {n:Nat} {p q:Nat→Bool} (h:∀k,k<n→p k=q k):fstB ((List.range n).map p)=fstB ((List.range n).map q):=by
 congr 1
 exact List.map_congr_left fun k hk=>h k (List.mem_range.1 hk)
abbrev Eqv (a b:List TyD) (S:Nat→Nat→Bool):Prop:=GreatestR (alD false a b) (okD a b) S
theorem eqv_lt {a b:List TyD} {S:Nat→Nat→Bool} (h:Eqv a b S) {i k:Nat} (hs:S i k=true):i<a.length∧k<b.length:=alD_lt (h.closed i k hs).1
theorem eqv_symm {a:List TyD} {S:Nat→Nat→Bool} (h:Eqv a a S) {i k:Nat} (hs:S i k=true):S k i=true:=by
 have e:S i k=S k i:=congrFun (congrFun ((greatest_turn h).unique _ _ h) k) i
 rw[←e];exact hs
def clsAt (cls:List Int) (t:Int):Int:=cls.getD t.toNat 0
theorem clsAt_D {S:Nat→Nat→Bool} {n i:Nat} (hi:i<n):clsAt (clsD S n) (i:Int)=fstB ((List.range n).map (S i)):=by
 unfold clsAt clsD
 rw[List.getD_eq_getElem?_getD]
 simp[hi]
section
variable {s:List TyD} {S:Nat→Nat→Bool}
theorem cls_spec (hu:InR s) (h:Eqv s s S) {i:Nat} (hi:i<s.length):∃k,k<s.length∧clsAt (clsD S s.length) (i:Int)=(k:Int)∧S i k=true∧∀j,j<k→S i j=false:=by
 obtain ⟨k,h1,h2,h3,h4⟩:=fst_spec (n:=s.length) (p:=S i) ⟨i,hi,greatest_refl hu h hi⟩
 exact ⟨k,h1,by rw[clsAt_D hi];exact h2,h3,h4⟩
theorem cls_eq (h:Eqv s s S) {i j:Nat} (hs:S i j=true):clsAt (clsD S s.length) (i:Int)=clsAt (clsD S s.length) (j:Int):=by
 obtain ⟨h1,h2⟩:=eqv_lt h hs
 rw[clsAt_D h1,clsAt_D h2]
 refine fst_congr fun k _=>?_
 cases e1:S i k with
 | true=>exact (greatest_trans h h h (eqv_symm h hs) e1).symm
 | false =>
  cases e2:S j k with
  | false=>rfl
  | true=>rw[greatest_trans h h h hs e2] at e1;cases e1
theorem cls_idem (hu:InR s) (h:Eqv s s S) {i:Nat} (hi:i<s.length):clsAt (clsD S s.length) (clsAt (clsD S s.length) (i:Int))=clsAt (clsD S s.length) (i:Int):=by
 obtain ⟨k,h1,h2,h3,h4⟩:=cls_spec hu h hi
 have:=cls_eq h h3
 rw[h2] at this ⊢
 rw[←this]
end
def nextD (s:List TyD) (cls:List Int) (c:Int):List Int:=(usesD (s.getD c.toNat zeroT)).map fun u=>clsAt cls u.2
def ordD (s:List TyD) (cls:List Int) (t:Int):List Int:=bfsN (nextD s cls) (clsAt cls t) s.length
def decB (n:Int):ByteArray:=⟨(Lib.itoa n).toArray⟩
def nameN (c:UInt8) (n:Int):ByteArray:=⟨#[c]⟩++decB n
def renD (n:Nat) (ix:Int→Int) (t:TyD):TyD :=
 { t with
  name:=if t.name=⟨#[]⟩ then t.name else nameN 84 n
  syms:=t.syms.map fun x=>{ x with name:=nameN 115 x.id }
  mems:=t.mems.map fun m=>{ m with name:=nameN 102 m.id,type:=ix m.type }
  key:=if t.kind=8 then ix t.key else t.key
  elem:=if t.kind=8∨t.kind=7∨t.kind=9 then ix t.elem else t.elem }
def tyAt (s:List TyD) (c:Int):TyD:=s.getD c.toNat zeroT
def canonL (s:List TyD) (cls:List Int) (t:Int):List TyD :=
 (List.range (ordD s cls t).length).map fun n=>renD n (fun u=>idxI (ordD s cls t) (clsAt cls u)) (tyAt s ((ordD s cls t).getD n 0))
def CanonIs (s:List TyD) (t:Int) (l:List TyD):Prop:=∃cls,ClsIs s cls∧l=canonL s cls t
theorem CanonIs.unique {s:List TyD} {t:Int} {l m:List TyD} (h:CanonIs s t l) (k:CanonIs s t m):l=m:=by
 obtain ⟨c,hc,rfl⟩:=h
 obtain ⟨d,hd,rfl⟩:=k
 rw[hc.unique hd]
theorem tyAt_nat {s:List TyD} {k:Nat} (hk:k<s.length):tyAt s (k:Int)=s[k]:=by
 unfold tyAt
 rw[List.getD_eq_getElem?_getD,Int.toNat_natCast,zl hk];rfl
section
variable {s:List TyD} {S:Nat→Nat→Bool}
theorem cls_range (hu:InR s) (h:Eqv s s S) {t:Int} (h0:0≤t) (h1:t<(s.length:Int)):0≤clsAt (clsD S s.length) t∧clsAt (clsD S s.length) t<(s.length:Int):=by
 obtain ⟨i,rfl⟩:=Int.eq_ofNat_of_zero_le h0
 obtain ⟨k,h1,h2,_⟩:=cls_spec hu h (i:=i) (by omega)
 rw[h2];omega
theorem uses_range (hu:InR s) {c:Int} (h0:0≤c) (h1:c<(s.length:Int)) {u:Int×Int} (hm:u∈usesD (tyAt s c)):0≤u.2∧u.2<(s.length:Int):=by
 obtain ⟨i,rfl⟩:=Int.eq_ofNat_of_zero_le h0
 rw[tyAt_nat (by omega)] at hm
 have:=hu _ (List.getElem_mem (by omega)) u hm
 omega
theorem next_range (hu:InR s) (h:Eqv s s S):∀c,0≤c∧c<(s.length:Int)→∀x∈nextD s (clsD S s.length) c,0≤x∧x<(s.length:Int):=by
 intro c hc x hx
 obtain ⟨u,hm,rfl⟩:=List.mem_map.1 hx
 have:=uses_range hu hc.1 hc.2 hm
 exact cls_range hu h this.1 this.2
theorem ord_len (hu:InR s) (h:Eqv s s S) {t:Int} (h0:0≤t) (h1:t<(s.length:Int)) (i:Nat):(bfsN (nextD s (clsD S s.length)) (clsAt (clsD S s.length) t) i).length≤s.length :=
 bfs_len (cls_range hu h h0 h1) (next_range hu h) i
theorem ord_cls (hu:InR s) (h:Eqv s s S) {t:Int} (h0:0≤t) (h1:t<(s.length:Int)):∀i,∀c∈bfsN (nextD s (clsD S s.length)) (clsAt (clsD S s.length) t) i,0≤c∧c<(s.length:Int)∧clsAt (clsD S s.length) c=c:=by
 refine bfs_all (p:=fun c=>0≤c∧c<(s.length:Int)∧clsAt (clsD S s.length) c=c) ?_ ?_
 ·have:=cls_range hu h h0 h1
  refine ⟨this.1,this.2,?_⟩
  obtain ⟨i,rfl⟩:=Int.eq_ofNat_of_zero_le h0
  exact cls_idem hu h (by omega)
 ·intro c hc x hx
  have:=next_range hu h c ⟨hc.1,hc.2.1⟩ x hx
  refine ⟨this.1,this.2,?_⟩
  obtain ⟨u,hm,rfl⟩:=List.mem_map.1 hx
  have hr:=uses_range hu hc.1 hc.2.1 hm
  obtain ⟨i,hi⟩:=Int.eq_ofNat_of_zero_le hr.1
  rw[hi]
  exact cls_idem hu h (by omega)
theorem ord_next (hu:InR s) (h:Eqv s s S) {t:Int} (h0:0≤t) (h1:t<(s.length:Int)):∀c∈ordD s (clsD S s.length) t,∀u∈usesD (tyAt s c),clsAt (clsD S s.length) u.2∈ordD s (clsD S s.length) t:=fun c hc u hm =>
 bfs_closed (ord_len hu h h0 h1) c hc _ (List.mem_map.2 ⟨u,hm,rfl⟩)
end
theorem idxI_mem {l:List Int} {c:Int} (h:c∈l):∃k,k<l.length∧idxI l c=(k:Int)∧l[k]? = some c:=by
 refine ⟨l.idxOf c,List.idxOf_lt_length_of_mem h,by unfold idxI;rw[if_pos h],?_⟩
 rw[zl (List.idxOf_lt_length_of_mem h),List.getElem_idxOf]
theorem nodup_inj:∀ {l:List Int},l.Nodup→∀ {i j:Nat} (hi:i<l.length) (hj:j<l.length),l[i]=l[j]→i=j
 | [],_,_,_,hi,_,_=>absurd hi (by simp)
 | a::l,h,i,j,hi,hj,e=>by
  rw[List.nodup_cons] at h
  cases i with
  | zero =>
   cases j with
   | zero=>rfl
   | succ j=>exact absurd (by rw[show a=l[j]'(by simpa using hj) by simpa using e];exact List.getElem_mem _) h.1
  | succ i =>
   cases j with
   | zero=>exact absurd (by rw[show a=l[i]'(by simpa using hi) by simpa using e.symm];exact List.getElem_mem _) h.1
   | succ j=>exact congrArg (· + 1) (nodup_inj h.2 (by simpa using hi) (by simpa using hj) (by simpa using e))
theorem idxI_map {f:Int→Int} {l:List Int} {c:Int} (h:∀x∈l,f x=f c→x=c):idxI (l.map f) (f c)=idxI l c:=by
 by_cases hm:c∈l
 ·obtain ⟨k,hk,e,hg⟩:=idxI_mem hm
  rw[e]
  have hk':l[k]=c:=by rw[zl hk] at hg;exact Option.some.inj hg
  refine idxI_at (by simpa using hk) (by simp[hk']) fun j hj hc=>?_
  have hjl:j<l.length:=by omega
  have h1:l[j]=c:=h _ (List.getElem_mem hjl) (by simpa using hc)
  have h2:idxI l c=((l.idxOf c:Nat):Int):=by unfold idxI;rw[if_pos hm]
  have h3:l.idxOf c≤j:=idxOf_le l j hjl h1
  omega
 ·unfold idxI
  rw[if_neg hm,if_neg]
  rintro hx
  obtain ⟨x,h1,h2⟩:=List.mem_map.1 hx
  exact hm (h x h1 h2▸h1)
def allEq {α:Type} (r:α→α→Bool):List α→List α→Bool
 | [],[]=>true
 | a::l,b::m=>r a b&&allEq r l m
 | _,_=>false
theorem allEq_len {α:Type} (r:α→α→Bool):∀ (l m:List α),l.length≠m.length→allEq r l m=false
 | [],[],h=>absurd rfl h
 | [],_::_,_=>rfl
 | _::_,[],_=>rfl
 | a::l,b::m,h=>by rw[allEq,allEq_len r l m (by simpa using h),Bool.and_false]
theorem allEq_no {α:Type} (r:α→α→Bool):∀ (l m:List α) (k:Nat) (h1:k<l.length) (h2:k<m.length),r l[k] m[k]=false→allEq r l m=false
 | [],_,_,h,_,_=>absurd h (by simp)
 | _::_,[],_,_,h,_=>absurd h (by simp)
 | a::l,b::m,0,_,_,h=>by rw[allEq,show r a b=false from h];rfl
 | a::l,b::m,k+1,h1,h2,h=>by
  rw[allEq,allEq_no r l m k (by simpa using h1) (by simpa using h2) (by simpa using h),Bool.and_false]
theorem allEq_yes {α:Type} (r:α→α→Bool):∀ (l m:List α),l.length=m.length→(∀k (h1:k<l.length) (h2:k<m.length),r l[k] m[k]=true)→allEq r l m=true
 | [],[],_,_=>rfl
 | [],_::_,h,_=>absurd h (by simp)
 | _::_,[],h,_=>absurd h (by simp)
 | a::l,b::m,hl,h=>by
  rw[allEq,show r a b=true from h 0 (by simp) (by simp),Bool.true_and]
  exact allEq_yes r l m (by simpa using hl) fun k h1 h2=>by
   have:=h (k+1) (by simpa using h1) (by simpa using h2)
   simpa using this
theorem allEq_map {α β:Type} [DecidableEq β] (r:α→α→Bool) (f:α→β) (hr:∀a b,r a b=decide (f a=f b)):∀ (l m:List α),allEq r l m=decide (l.map f=m.map f)
 | [],[]=>by simp[allEq]
 | [],_::_=>by simp[allEq]
 | _::_,[]=>by simp[allEq]
 | a::l,b::m=>by
  rw[allEq,hr,allEq_map r f hr l m]
  simp
theorem allEq_decide {α:Type} [DecidableEq α]:∀ (l m:List α),allEq (fun a b=>decide (a=b)) l m=decide (l=m)
 | [],[]=>by simp[allEq]
 | [],_::_=>by simp[allEq]
 | _::_,[]=>by simp[allEq]
 | a::l,b::m=>by rw[allEq,allEq_decide l m];simp
def symEq (names:Bool) (a b:SymD):Bool:=decide (a.id=b.id)&&(!names||decide (a.name=b.name))
def memEq (names:Bool) (a b:MemD):Bool:=decide (a.id=b.id)&&(decide (a.critical=b.critical)&&(decide (a.hasDef=b.hasDef)&&(decide (a.dflt=b.dflt)&&(!names||decide (a.name=b.name)))))
def memEq0 (a b:MemD):Bool:=decide (a=b)
theorem alikeD_eq (names:Bool) (x y:TyD):zM names x y=(decide (x.kind=y.kind∧x.low=y.low∧x.high=y.high∧x.max=y.max∧x.open_=y.open_∧(names=true→x.name=y.name))&&(allEq (symEq names) x.syms y.syms&&allEq (memEq names) x.mems y.mems)):=by
 rw[allEq_map (symEq names) (fun s=>(s.id,if names then s.name else ⟨#[]⟩)) (by intro a b;cases names <;> simp[symEq]),
  allEq_map (memEq names) (fun m=>(m.id,m.critical,m.hasDef,m.dflt,if names then m.name else ⟨#[]⟩)) (by intro a b;cases names <;> simp[memEq])]
 unfold zM
 rw[←Bool.decide_and,←Bool.decide_and]
 apply decide_eq_decide.2
 constructor
 ·rintro ⟨a,b,c,d,e,f,g,h⟩;exact ⟨⟨a,b,c,d,e,f⟩,g,h⟩
 ·rintro ⟨⟨a,b,c,d,e,f⟩,g,h⟩;exact ⟨a,b,c,d,e,f,g,h⟩
theorem alike_head {names:Bool} {x y:TyD} (h:¬ (x.kind=y.kind∧x.low=y.low∧x.high=y.high∧x.max=y.max∧x.open_=y.open_∧(names=true→x.name=y.name))):zM names x y=false:=by
 rw[alikeD_eq,decide_eq_false h];rfl
theorem alike_syms {names:Bool} {x y:TyD} (h:allEq (symEq names) x.syms y.syms=false):zM names x y=false:=by
 rw[alikeD_eq,h];simp
theorem alike_mems {names:Bool} {x y:TyD} (h:allEq (memEq names) x.mems y.mems=false):zM names x y=false:=by
 rw[alikeD_eq,h];simp
theorem alike_yes {names:Bool} {x y:TyD} (h:x.kind=y.kind∧x.low=y.low∧x.high=y.high∧x.max=y.max∧x.open_=y.open_∧(names=true→x.name=y.name)) (hs:allEq (symEq names) x.syms y.syms=true):zM names x y=allEq (memEq names) x.mems y.mems:=by
 rw[alikeD_eq,decide_eq_true h,hs];simp
structure PartD where
 id:Nat
 type:Nat
 flag:Nat
 deriving DecidableEq
structure NodeD where
 kind:Nat
 a:Nat
 b:Nat
 c:Nat
 parts:List PartD
 deriving DecidableEq
def node0:NodeD:=⟨0,0,0,0,[]⟩
def kindN (d:List NodeD) (i:Nat):Int:=1+(((d.getD i node0).kind % 9:Nat):Int)
def hollowD (k:Int):Bool:=decide (7≤k)
def fstN (n:Nat) (p:Nat→Bool):Int:=match (List.range n).find? p with|some k=>(k:Int)|none => -1
def targetD (d:List NodeD) (i code:Nat):Int :=
 if hollowD (kindN d (code % d.length))||decide (code % d.length<i) then ((code % d.length:Nat):Int)
 else if 0<i then ((code % d.length % i:Nat):Int)
 else fstN d.length fun k=>hollowD (kindN d k)
def keyD (d:List NodeD) (code:Nat):Int:=match (List.range d.length).find? (fun k=>yH (kindN d ((code+k) % d.length))) with|some k=>(((code+k) % d.length:Nat):Int)|none => -1
def lowN (x:NodeD):Int:=((x.a % 7:Nat):Int) - 3
def highN (x:NodeD):Int:=lowN x+((x.b % 6:Nat):Int)
def idsN (x:NodeD):List Int :=
 let l:=((List.range 6).filter fun i=>(x.a >>> i) % 2==1).map fun i=>((i+1:Nat):Int)
 if l=[] then [1] else l
theorem form_name {t:TyD} (h:formD t=true):t.name=⟨#[]⟩↔zU t.kind=false:=by
 unfold formD at h
 simp only[Bool.and_eq_true,decide_eq_true_eq] at h
 obtain ⟨⟨⟨⟨h1,h2⟩,h3⟩,h4⟩,h5⟩:=h
 constructor
 ·intro hn
  cases hk:zU t.kind with
  | false=>rfl
  | true =>
   rw[hk,hn] at h4
   simp[nameB] at h4
   exact absurd h4.2 (by decide)
 ·intro hk
  rw[h3]
  unfold zU at hk
  simp only[Bool.or_eq_false_iff,decide_eq_false_iff_not] at hk
  obtain ⟨⟨k4,k5⟩,k6⟩:=hk
  unfold zT
  simp only[k4,k5,k6,if_false]
  repeat' split
  all_goals rfl
theorem form_key {t:TyD} (h:formD t=true) (hk:t.kind≠8):t.key=0:=by
 unfold formD at h
 simp only[Bool.and_eq_true,decide_eq_true_eq] at h
 obtain ⟨⟨⟨⟨h1,h2⟩,h3⟩,h4⟩,h5⟩:=h
 rw[h3]
 unfold zT
 simp only[hk,if_false]
 repeat' split
 all_goals rfl
theorem form_elem {t:TyD} (h:formD t=true) (hk:¬ (t.kind=8∨t.kind=7∨t.kind=9)):t.elem=0:=by
 unfold formD at h
 simp only[Bool.and_eq_true,decide_eq_true_eq] at h
 obtain ⟨⟨⟨⟨h1,h2⟩,h3⟩,h4⟩,h5⟩:=h
 rw[h3]
 have k8:¬ t.kind=8:=fun e=>hk (.inl e)
 have k7:¬ t.kind=7:=fun e=>hk (.inr (.inl e))
 have k9:¬ t.kind=9:=fun e=>hk (.inr (.inr e))
 unfold zT
 simp only[k8,k7,if_false]
 repeat' split
 all_goals first|rfl|(exfalso;omega)
theorem yO {t:TyD}:usesD t=t.mems.map (fun m=>(m.id,m.type))++(if t.kind=8 then [(0,t.key)] else [])++(if t.kind=8∨t.kind=7∨t.kind=9 then [(-1,t.elem)] else []):=by
 unfold usesD
 by_cases h8:t.kind=8
 ·simp[h8]
 ·by_cases h7:t.kind=7∨t.kind=9
  ·simp[h8,h7]
  ·simp[h8,h7]
theorem renD_eq {n:Nat} {f g:Int→Int} {x y:TyD} (hx:formD x=true) (hy:formD y=true) (ha:zM false x y=true) (hu:(usesD x).map (fun u=>f u.2)=(usesD y).map (fun u=>g u.2)):renD n f x=renD n g y:=by
 have hnx:=form_name hx
 have hny:=form_name hy
 have hkx:=form_key hx
 have hky:=form_key hy
 have hex:=form_elem hx
 have hey:=form_elem hy
 simp only[zM,decide_eq_true_eq] at ha
 obtain ⟨h1,h2,h3,h4,h5,_,h7,h8⟩:=ha
 have hlen:x.mems.length=y.mems.length:=by simpa using congrArg List.length h8
 rw[yO,yO,←h1] at hu
 simp only[List.map_append] at hu
 have ht1:=List.append_inj_left' hu (by split <;> rfl)
 have ht2:=List.append_inj_right' hu (by split <;> rfl)
 have hm:=List.append_inj_left' ht1 (by split <;> rfl)
 have hk:=List.append_inj_right' ht1 (by split <;> rfl)
 simp only[List.map_map,Function.comp_def] at hm
 have hname:(if x.name=⟨#[]⟩ then x.name else nameN 84 n)=(if y.name=⟨#[]⟩ then y.name else nameN 84 n):=by
  rw[←h1] at hny
  by_cases e:x.name=⟨#[]⟩
  ·rw[if_pos e,if_pos (hny.2 (hnx.1 e)),e,hny.2 (hnx.1 e)]
  ·rw[if_neg e,if_neg (fun e2=>e (hnx.2 (hny.1 e2)))]
 have hsyms:x.syms.map (fun s=>{ s with name:=nameN 115 s.id })=y.syms.map (fun s=>{ s with name:=nameN 115 s.id }):=by
  have:=congrArg (List.map fun (p:Int×ByteArray)=>(⟨p.1,nameN 115 p.1⟩:SymD)) h7
  simpa[List.map_map,Function.comp_def] using this
 have hmems:x.mems.map (fun m=>{ m with name:=nameN 102 m.id,type:=f m.type })=y.mems.map (fun m=>{ m with name:=nameN 102 m.id,type:=g m.type }):=by
  apply List.ext_getElem
  ·simpa using hlen
  ·intro i hi hj
   have i1:i<x.mems.length:=by simpa using hi
   have i2:i<y.mems.length:=by simpa using hj
   have e1:f (x.mems[i]).type=g (y.mems[i]).type:=by
    have:=congrArg (fun l=>l[i]?) hm
    simpa[i1,i2] using this
   have e2:(x.mems[i]).id=(y.mems[i]).id∧(x.mems[i]).critical=(y.mems[i]).critical∧(x.mems[i]).hasDef=(y.mems[i]).hasDef∧(x.mems[i]).dflt=(y.mems[i]).dflt:=by
    have:=congrArg (fun l=>l[i]?) h8
    simpa[i1,i2] using this
   simp only[List.getElem_map]
   rw[e1,e2.1,e2.2.1,e2.2.2.1,e2.2.2.2]
 have hkey:(if x.kind=8 then f x.key else x.key)=(if y.kind=8 then g y.key else y.key):=by
  by_cases e:x.kind=8
  ·rw[if_pos e,if_pos (h1▸e)]
   simpa[e] using hk
  ·rw[if_neg e,if_neg (h1▸e),hkx e,hky (h1▸e)]
 have helem:(if x.kind=8∨x.kind=7∨x.kind=9 then f x.elem else x.elem)=(if y.kind=8∨y.kind=7∨y.kind=9 then g y.elem else y.elem):=by
  by_cases e:x.kind=8∨x.kind=7∨x.kind=9
  ·rw[if_pos e,if_pos (h1▸e)]
   simpa[e] using ht2
  ·rw[if_neg e,if_neg (h1▸e),hex e,hey (h1▸e)]
 unfold renD
 rw[hname,hsyms,hmems,hkey,helem,h1,h2,h3,h4,h5]
theorem usesOk_zip {R:Nat→Nat→Bool} {p q:Int→Int}:∀l m:List (Int×Int),zR R l m=true→(∀u∈l,0≤u.2)→(∀v∈m,0≤v.2)→(∀i k:Nat,R i k=true→p (i:Int)=q (k:Int))→l.map (fun u=>p u.2)=m.map (fun v=>q v.2)
 | [],[],_,_,_,_=>rfl
 | [],_::_,h,_,_,_=>by simp[zR] at h
 | _::_,[],h,_,_,_=>by simp[zR] at h
 | u::l,v::m,h,hl,hm,hpq=>by
  simp only[zR,Bool.and_eq_true] at h
  rw[List.map_cons,List.map_cons,usesOk_zip l m h.2 (fun x hx=>hl x (List.mem_cons_of_mem _ hx)) (fun x hx=>hm x (List.mem_cons_of_mem _ hx)) hpq]
  have h1:=hpq _ _ h.1
  rw[Int.toNat_of_nonneg (hl u List.mem_cons_self),Int.toNat_of_nonneg (hm v List.mem_cons_self)] at h1
  rw[h1]
theorem usesOk_left {R:Nat→Nat→Bool}:∀l m:List (Int×Int),zR R l m=true→∀u∈l,∃v∈m,R u.2.toNat v.2.toNat=true
 | [],_,_,u,hu=>by cases hu
 | _::_,[],h,_,_=>by simp[zR] at h
 | x::l,y::m,h,u,hu=>by
  simp only[zR,Bool.and_eq_true] at h
  rcases List.mem_cons.1 hu with e|e
  ·exact ⟨y,List.mem_cons_self,e▸h.1⟩
  ·obtain ⟨v,hv,hr⟩:=usesOk_left l m h.2 u e
   exact ⟨v,List.mem_cons_of_mem _ hv,hr⟩
section
variable {a b:List TyD} {S T U:Nat→Nat→Bool}
def toB (b:List TyD) (U:Nat→Nat→Bool) (c:Int):Int:=fstB ((List.range b.length).map (U c.toNat))
theorem toB_cls (hua:InR a) (hS:Eqv a a S) (hT:Eqv b b T) (hU:Eqv a b U) {i k:Nat} (h:U i k=true):toB b U (clsAt (clsD S a.length) (i:Int))=clsAt (clsD T b.length) (k:Int):=by
 obtain ⟨hi,hk⟩:=eqv_lt hU h
 obtain ⟨j,h1,h2,h3,_⟩:=cls_spec hua hS hi
 rw[h2,clsAt_D hk]
 unfold toB
 rw[Int.toNat_natCast]
 have hV:=greatest_turn hU
 refine fst_congr fun m _=>?_
 have hjk:U j k=true:=greatest_trans hS hU hU (eqv_symm hS h3) h
 cases e1:U j m with
 | true=>exact (greatest_trans hV hU hT hjk e1).symm
 | false =>
  cases e2:T k m with
  | false=>rfl
  | true=>rw[greatest_trans hU hT hU hjk e2] at e1;cases e1
def Met (a:List TyD) (S U:Nat→Nat→Bool) (c:Int):Prop:=0≤c∧c<(a.length:Int)∧clsAt (clsD S a.length) c=c∧∃k,U c.toNat k=true
theorem met_to (hU:Eqv a b U) {c:Int} (h:Met a S U c):∃k:Nat,k<b.length∧toB b U c=(k:Int)∧U c.toNat k=true:=by
 obtain ⟨_,_,_,k,hk⟩:=h
 obtain ⟨j,h1,h2,h3,_⟩:=fst_spec (n:=b.length) (p:=U c.toNat) ⟨k,(eqv_lt hU hk).2,hk⟩
 exact ⟨j,h1,h2,h3⟩
theorem met_inj (hS:Eqv a a S) (hU:Eqv a b U) {c d:Int} (hc:Met a S U c) (hd:Met a S U d) (he:toB b U c=toB b U d):c=d:=by
 obtain ⟨k,_,h2,h3⟩:=met_to hU hc
 obtain ⟨l,_,g2,g3⟩:=met_to hU hd
 have:k=l:=by rw[h2,g2] at he;exact Int.ofNat.inj he
 subst this
 have hs:S c.toNat d.toNat=true:=greatest_trans hU (greatest_turn hU) hS h3 g3
 have:=cls_eq hS hs
 rw[Int.toNat_of_nonneg hc.1,Int.toNat_of_nonneg hd.1,hc.2.2.1,hd.2.2.1] at this
 exact this
theorem met_cls (hua:InR a) (hS:Eqv a a S) (hU:Eqv a b U) {i k:Nat} (h:U i k=true):Met a S U (clsAt (clsD S a.length) (i:Int)):=by
 obtain ⟨hi,hk⟩:=eqv_lt hU h
 obtain ⟨j,h1,h2,h3,_⟩:=cls_spec hua hS hi
 have hc:=cls_idem hua hS hi
 rw[h2] at hc ⊢
 exact ⟨by omega,by omega,hc,k,by rw[Int.toNat_natCast];exact greatest_trans hS hU hU (eqv_symm hS h3) h⟩
theorem met_uses (hU:Eqv a b U) {c:Int} {k:Nat} (_h0:0≤c) (h:U c.toNat k=true):zM false (tyAt a c) (tyAt b (k:Int))=true∧zR U (usesD (tyAt a c)) (usesD (tyAt b (k:Int)))=true∧tyAt a c∈a∧tyAt b (k:Int)∈b:=by
 obtain ⟨x,y,hx,hy,h1,h2⟩:=closed_lt hU.closed h
 have e1:tyAt a c=x:=by unfold tyAt;rw[List.getD_eq_getElem?_getD,hx];rfl
 have e2:tyAt b (k:Int)=y:=by unfold tyAt;rw[List.getD_eq_getElem?_getD,Int.toNat_natCast,hy];rfl
 rw[e1,e2]
 exact ⟨h1,h2,List.mem_of_getElem? hx,List.mem_of_getElem? hy⟩
theorem ord_map (hua:InR a) (hub:InR b) (hS:Eqv a a S) (hT:Eqv b b T) (hU:Eqv a b U) {i k:Nat} (h:U i k=true) :
  ordD b (clsD T b.length) (k:Int)=(ordD a (clsD S a.length) (i:Int)).map (toB b U)∧∀c∈ordD a (clsD S a.length) (i:Int),Met a S U c:=by
 obtain ⟨hi,hk⟩:=eqv_lt hU h
 have hp:∀c,Met a S U c→∀x∈nextD a (clsD S a.length) c,Met a S U x:=by
  intro c hc x hx
  obtain ⟨u,hm,rfl⟩:=List.mem_map.1 hx
  obtain ⟨j,_,_,hj⟩:=met_to hU hc
  obtain ⟨v,_,hv⟩:=usesOk_left _ _ (met_uses hU hc.1 hj).2.1 u hm
  have:=uses_range hua hc.1 hc.2.1 hm
  have h2:=met_cls hua hS hU hv
  rwa [Int.toNat_of_nonneg this.1] at h2
 have hn:∀c,Met a S U c→nextD b (clsD T b.length) (toB b U c)=(nextD a (clsD S a.length) c).map (toB b U):=by
  intro c hc
  obtain ⟨j,hjb,ej,hj⟩:=met_to hU hc
  obtain ⟨_,hok,hxa,hyb⟩:=met_uses hU hc.1 hj
  rw[ej]
  unfold nextD
  rw[List.map_map]
  exact (usesOk_zip (R:=U) (p:=fun u=>toB b U (clsAt (clsD S a.length) u)) (q:=fun v=>clsAt (clsD T b.length) v) _ _ hok (fun u hu=>(hua _ hxa u hu).1) (fun u hu=>(hub _ hyb u hu).1) (fun i k hik=>toB_cls hua hS hT hU hik)).symm
 have hmet:=bfs_all (next:=nextD a (clsD S a.length)) (met_cls hua hS hU h) hp
 have hmap:=bfs_map (f:=toB b U) (next:=nextD a (clsD S a.length)) (next2:=nextD b (clsD T b.length)) (met_cls hua hS hU h) hp (fun x hx y hy=>met_inj hS hU hx hy) hn
 refine ⟨?_,hmet _⟩
 unfold ordD
 rw[←hmap a.length,toB_cls hua hS hT hU h]
 refine bfs_done (ord_len hub hT (by omega) (by omega)) ?_
 rw[←toB_cls hua hS hT hU h,hmap,List.length_map]
 exact ord_len hua hS (by omega) (by omega) _
theorem canon_eq (hva:zQ a=0) (hvb:zQ b=0) (hS:Eqv a a S) (hT:Eqv b b T) (hU:Eqv a b U) {i k:Nat} (h:U i k=true):canonL a (clsD S a.length) (i:Int)=canonL b (clsD T b.length) (k:Int):=by
 have hua:=yL hva
 have hub:=yL hvb
 obtain ⟨ho,hmet⟩:=ord_map hua hub hS hT hU h
 obtain ⟨hi,hk⟩:=eqv_lt hU h
 unfold canonL
 rw[ho,List.length_map]
 refine List.map_congr_left fun n hn=>?_
 have hn':n<(ordD a (clsD S a.length) (i:Int)).length:=List.mem_range.1 hn
 have hc:=hmet _ (List.getElem_mem hn')
 rw[List.getD_eq_getElem?_getD,List.getD_eq_getElem?_getD,List.getElem?_map,zl hn']
 show renD n _ (tyAt a (ordD a (clsD S a.length) (i:Int))[n])=renD n _ (tyAt b (toB b U (ordD a (clsD S a.length) (i:Int))[n]))
 obtain ⟨j,hjb,ej,hj⟩:=met_to hU hc
 obtain ⟨hal,hok,hxa,hyb⟩:=met_uses hU hc.1 hj
 rw[ej]
 refine renD_eq (valid_tys hva hxa).1 (valid_tys hvb hyb).1 hal ?_
 refine usesOk_zip (R:=U) (p:=fun u=>idxI (ordD a (clsD S a.length) (i:Int)) (clsAt (clsD S a.length) u)) (q:=fun v=>idxI ((ordD a (clsD S a.length) (i:Int)).map (toB b U)) (clsAt (clsD T b.length) v)) _ _ hok (fun u hu=>(hua _ hxa u hu).1) (fun u hu=>(hub _ hyb u hu).1) (fun p q hpq=>?_)
 show idxI _ _=idxI _ _
 rw[←toB_cls hua hS hT hU hpq]
 exact (idxI_map fun x hx e=>met_inj hS hU (hmet x hx) (met_cls hua hS hU hpq) e).symm
end
def numL (l:List UInt8):Nat:=l.foldl (fun n c=>n * 10+(c.toNat - 48)) 0
theorem numL_dec (u:Nat):numL (Lib.decDigits u)=u:=by
 induction u using Nat.strongRecOn with
 | _ u ih =>
  by_cases h:u<10
  ·rw[Lib.decDigits_one h]
   simp only[numL,List.foldl_cons,List.foldl_nil]
   rw[UInt8.toNat_ofNat']
   omega
  ·rw[Lib.decDigits,dif_neg h]
   have:=ih (u / 10) (by omega)
   unfold numL at this ⊢
   rw[List.foldl_append,this]
   simp only[List.foldl_cons,List.foldl_nil]
   rw[UInt8.toNat_ofNat']
   omega
theorem dec_digits (u:Nat):∀c∈Lib.decDigits u,48≤c.toNat∧c.toNat≤57:=by
 induction u using Nat.strongRecOn with
 | _ u ih =>
  intro c hc
  by_cases h:u<10
  ·rw[Lib.decDigits_one h] at hc
   obtain rfl:c=UInt8.ofNat (48+u):=by simpa using hc
   rw[UInt8.toNat_ofNat']
   omega
  ·rw[Lib.decDigits,dif_neg h] at hc
   rcases List.mem_append.1 hc with k|k
   ·exact ih (u / 10) (by omega) c k
   ·obtain rfl:c=UInt8.ofNat (48+u % 10):=by simpa using k
    rw[UInt8.toNat_ofNat']
    omega
theorem nameN_list (c:UInt8) (n:Nat):(nameN c (n:Int)).data.toList=c::Lib.decDigits n:=by
 unfold nameN decB
 rw[ByteArray.data_append]
 simp[Lib.itoa_nonneg]
theorem nameN_inj {c:UInt8} {n m:Nat} (h:nameN c (n:Int)=nameN c (m:Int)):n=m:=by
 have h1:=nameN_list c n
 rw[h,nameN_list] at h1
 have h2:Lib.decDigits m=Lib.decDigits n:=by simpa using h1
 rw[←numL_dec n,←numL_dec m,h2]
theorem nameN_ne (c:UInt8) (n:Nat):nameN c (n:Int)≠⟨#[]⟩:=fun h=>by
 have:=nameN_list c n
 rw[h] at this
 simp at this
theorem nameN_ok {c:UInt8} {n:Nat} (hc:letC c.toNat=true) (hn:n≤1000):nameB (nameN c (n:Int))=true:=by
 have hl:=nameN_list c n
 have hs:(nameN c (n:Int)).size=1+Lib.nDigits n:=by
  have:(nameN c (n:Int)).size=(nameN c (n:Int)).data.toList.length:=by rw[Array.length_toList];rfl
  rw[this,hl,List.length_cons,Lib.decDigits_length];omega
 have hd:=Lib.nDigits_le20 n (by omega)
 unfold nameB
 rw[hl,hs]
 simp only[Bool.and_eq_true,decide_eq_true_eq,List.getD_cons_zero]
 refine ⟨⟨⟨by omega,by omega⟩,hc⟩,?_⟩
 rw[List.all_cons,Bool.and_eq_true]
 refine ⟨by unfold chB;rw[hc];rfl,List.all_eq_true.2 fun d hd=>?_⟩
 have:=dec_digits n d hd
 unfold chB digI
 have h1:decide ((48:Int)≤((d.toNat:Nat):Int))=true:=decide_eq_true (by omega)
 have h2:decide (((d.toNat:Nat):Int)≤(57:Int))=true:=decide_eq_true (by omega)
 rw[h1,h2];simp
theorem idsOk_ren {c:UInt8} (hc:letC c.toNat=true):∀ (L:List (Int×ByteArray)) (b:Int) (seen seen':List ByteArray),idsOk b seen L=true→(∀x∈seen',∃i:Nat,(i:Int)≤b∧x=nameN c (i:Int))→idsOk b seen' (L.map fun x=>(x.1,nameN c x.1))=true
 | [],_,_,_,_,_=>rfl
 | x::L,b,seen,seen',h,hs=>by
  rw[idsOk] at h
  simp only[Bool.and_eq_true,decide_eq_true_eq] at h
  obtain ⟨⟨⟨⟨⟨h1,h2⟩,h3⟩,h4⟩,h5⟩,h6⟩:=h
  obtain ⟨i,hi⟩:=Int.eq_ofNat_of_zero_le (show 0≤x.1 by omega)
  rw[List.map_cons,idsOk]
  simp only[Bool.and_eq_true,decide_eq_true_eq]
  refine ⟨⟨⟨⟨⟨h1,h2⟩,h3⟩,?_⟩,?_⟩,?_⟩
  ·have:memD (nameN c x.1) seen'=false:=by
    cases hm:memD (nameN c x.1) seen' with
    | false=>rfl
    | true =>
     obtain ⟨j,hj,e⟩:=hs _ (memD_iff.1 hm)
     rw[hi] at e
     have:=nameN_inj e
     omega
   rw[this];rfl
  ·rw[hi];exact nameN_ok hc (by omega)
  ·refine idsOk_ren hc L x.1 (seen++[x.2]) _ h6 fun y hy=>?_
   rcases List.mem_append.1 hy with k|k
   ·obtain ⟨j,hj,e⟩:=hs y k
    exact ⟨j,by omega,e⟩
   ·obtain rfl:y=nameN c x.1:=by simpa using k
    exact ⟨i,by omega,by rw[hi]⟩
theorem idsD_ren {c:UInt8} (hc:letC c.toNat=true) {L:List (Int×ByteArray)} (h:idsD L=true):idsD (L.map fun x=>(x.1,nameN c x.1))=true:=by
 unfold idsD at h ⊢
 rw[Bool.and_eq_true] at h ⊢
 exact ⟨idsOk_ren hc L 0 [] [] h.1 (fun x hx=>by cases hx),by simpa using h.2⟩
theorem symsD_ren {l:List SymD} (h:symsD l=true):symsD (l.map fun x=>{ x with name:=nameN 115 x.id })=true:=by
 unfold symsD at h ⊢
 rw[Bool.and_eq_true] at h ⊢
 refine ⟨?_,by simpa using h.2⟩
 have:=idsD_ren (c:=115) (by decide) h.1
 simpa[List.map_map,Function.comp_def] using this
theorem memsD_ren {rec:Bool} {l:List MemD} {ix:Int→Int} (h:memsD rec l=true):memsD rec (l.map fun m=>{ m with name:=nameN 102 m.id,type:=ix m.type })=true:=by
 unfold memsD at h ⊢
 rw[Bool.and_eq_true,Bool.and_eq_true] at h ⊢
 obtain ⟨⟨h1,h2⟩,h3⟩:=h
 refine ⟨⟨?_,?_⟩,by simpa using h3⟩
 ·rw[List.all_map]
  exact h1
 ·have:=idsD_ren (c:=102) (by decide) h2
  simpa[List.map_map,Function.comp_def] using this
theorem plain_ren {n:Nat} {ix:Int→Int} {t:TyD} (h:t=zT t):renD n ix t=zT (renD n ix t):=by
 obtain ⟨k,nm,lo,hi,mx,ss,ms,ky,el,op⟩:=t
 unfold zT zeroT at h ⊢
 unfold renD
 simp only at h ⊢
 by_cases h1:k=1
 ·subst h1;simp at h ⊢;simp[h]
 rw[if_neg h1] at h ⊢
 by_cases h2:k=2
 ·subst h2;simp at h ⊢;simp[h]
 rw[if_neg h2] at h ⊢
 by_cases h3:k=3
 ·subst h3;simp at h ⊢;simp[h]
 rw[if_neg h3] at h ⊢
 by_cases h4:k=4
 ·subst h4;simp at h ⊢;simp[h]
 rw[if_neg h4] at h ⊢
 by_cases h5:k=5
 ·subst h5;simp at h ⊢;simp[h]
 rw[if_neg h5] at h ⊢
 by_cases h6:k=6
 ·subst h6;simp at h ⊢;simp[h]
 rw[if_neg h6] at h ⊢
 by_cases h7:k=7
 ·subst h7;simp at h ⊢;simp[h]
 rw[if_neg h7] at h ⊢
 by_cases h8:k=8
 ·subst h8;simp at h ⊢;simp[h]
 rw[if_neg h8] at h ⊢
 simp at h ⊢
 simp[h,h8]
theorem form_ren {n:Nat} {ix:Int→Int} {t:TyD} (h:formD t=true) (hn:n≤1000):formD (renD n ix t)=true:=by
 have hname:=form_name h
 unfold formD at h ⊢
 simp only[Bool.and_eq_true,decide_eq_true_eq] at h ⊢
 obtain ⟨⟨⟨⟨h1,h2⟩,h3⟩,h4⟩,h5⟩:=h
 refine ⟨⟨⟨⟨h1,h2⟩,plain_ren h3⟩,?_⟩,?_⟩
 ·show (!zU t.kind||nameB (if t.name=⟨#[]⟩ then t.name else nameN 84 (n:Int)))=true
  cases hk:zU t.kind with
  | false=>rfl
  | true =>
   rw[if_neg (fun e=>by rw[hname.1 e] at hk;cases hk),nameN_ok (by decide) hn];rfl
 ·unfold caseD at h5 ⊢
  show (if t.kind=2 then decide (t.low≤t.high) else if t.kind=3 then decide (0≤t.max)&&decide (t.max≤200) else if t.kind=4 then symsD (t.syms.map fun x=>{ x with name:=nameN 115 x.id }) else if t.kind=5 then memsD true (t.mems.map fun m=>{ m with name:=nameN 102 m.id,type:=ix m.type }) else if t.kind=6 then memsD false (t.mems.map fun m=>{ m with name:=nameN 102 m.id,type:=ix m.type }) else if t.kind=7∨t.kind=8 then decide (0≤t.max)&&decide (t.max≤50) else true)=true
  by_cases k2:t.kind=2
  ·rw[if_pos k2] at h5 ⊢;exact h5
  rw[if_neg k2] at h5 ⊢
  by_cases k3:t.kind=3
  ·rw[if_pos k3] at h5 ⊢;exact h5
  rw[if_neg k3] at h5 ⊢
  by_cases k4:t.kind=4
  ·rw[if_pos k4] at h5 ⊢;exact symsD_ren h5
  rw[if_neg k4] at h5 ⊢
  by_cases k5:t.kind=5
  ·rw[if_pos k5] at h5 ⊢;exact memsD_ren h5
  rw[if_neg k5] at h5 ⊢
  by_cases k6:t.kind=6
  ·rw[if_pos k6] at h5 ⊢;exact memsD_ren h5
  rw[if_neg k6] at h5 ⊢
  exact h5
theorem uses_ren (n:Nat) (ix:Int→Int) (t:TyD):usesD (renD n ix t)=(usesD t).map fun u=>(u.1,ix u.2):=by
 rw[yO,yO]
 unfold renD
 simp only[List.map_append,List.map_map,Function.comp_def]
 by_cases h8:t.kind=8
 ·simp[h8]
 ·by_cases h7:t.kind=7∨t.kind=9
  ·simp[h8,h7]
  ·simp[h8,h7]
theorem alike_ren (n:Nat) (ix:Int→Int) (t:TyD):zM false t (renD n ix t)=true:=by
 simp[zM,renD,List.map_map,Function.comp_def]
theorem tysErr_of {s:List TyD}:∀ (l:List TyD) (seen:List ByteArray),(∀i (h:i<l.length),tyErr s (seen++(l.take i).map (·.name)) l[i]=0)→tysErr s seen l=0
 | [],_,_=>rfl
 | t::l,seen,h=>by
  have h0:=h 0 (by simp)
  simp only[List.take_zero,List.map_nil,List.append_nil,List.getElem_cons_zero] at h0
  rw[tysErr,if_pos h0]
  refine tysErr_of l _ fun i hi=>?_
  have:=h (i+1) (by simpa using hi)
  simpa using this
theorem tyErr_of {s:List TyD} {seen:List ByteArray} {t:TyD} (hf:formD t=true) (hs:t.name≠⟨#[]⟩→t.name ∉ seen) (hu:∀u∈toD t,0≤u∧u<(s.length:Int)) (hk:t.kind=8→yH ((s.getD t.key.toNat zeroT).kind)=true):tyErr s seen t=0:=by
 unfold tyErr
 rw[if_neg,if_neg,if_neg]
 ·by_cases h:t.kind=8
  ·rw[hk h];simp
  ·simp[h]
 ·intro h
  obtain ⟨u,h1,h2⟩:=List.any_eq_true.1 h
  have:=hu u h1
  simp at h2
  omega
 ·rw[hf]
  by_cases h:t.name=⟨#[]⟩
  ·simp[h]
  ·have:=hs h
   simp[h,memD,this]
theorem valid_key {s:List TyD} (h:zQ s=0) {t:TyD} (ht:t∈s) (hk:t.kind=8):yH ((tyAt s t.key).kind)=true:=by
 unfold zQ at h
 split at h
 ·cases h
 ·obtain ⟨K,hK⟩:=tysErr_zero s [] h t ht
  unfold tyErr at hK
  split at hK
  ·cases hK
  ·split at hK
   ·cases hK
   ·split at hK
    ·cases hK
    ·rename_i h3
     unfold tyAt
     cases hkk:yH ((s.getD t.key.toNat zeroT).kind) with
     | true=>rfl
     | false=>exact absurd (by simp[hk];exact hkk) h3
theorem valid_of {s:List TyD} (hl:s.length≤32) (h:∀i (hi:i<s.length),tyErr s ((s.take i).map (·.name)) s[i]=0):zQ s=0:=by
 unfold zQ
 rw[if_neg (by omega)]
 exact tysErr_of s [] fun i hi=>by simpa using h i hi
section
variable {s:List TyD} {S:Nat→Nat→Bool} {t:Int}
theorem canon_len (cls:List Int):(canonL s cls t).length=(ordD s cls t).length:=by simp[canonL]
theorem canon_at (cls:List Int) {n:Nat} (hn:n<(ordD s cls t).length) (h:n<(canonL s cls t).length):(canonL s cls t)[n]=renD n (fun u=>idxI (ordD s cls t) (clsAt cls u)) (tyAt s (ordD s cls t)[n]):=by
 apply Option.some.inj
 rw[←zl h]
 unfold canonL
 rw[List.getElem?_map,List.getElem?_range hn,Option.map_some,List.getD_eq_getElem?_getD,zl hn];rfl
theorem ord_in (hu:InR s) (h:Eqv s s S) (h0:0≤t) (h1:t<(s.length:Int)) {n:Nat} (hn:n<(ordD s (clsD S s.length) t).length):tyAt s (ordD s (clsD S s.length) t)[n]∈s:=by
 have:=ord_cls hu h h0 h1 s.length _ (List.getElem_mem hn)
 obtain ⟨k,hk⟩:=Int.eq_ofNat_of_zero_le this.1
 have hk2:k<s.length:=by
  have h2:(ordD s (clsD S s.length) t)[n]<(s.length:Int):=this.2.1
  have h3:(ordD s (clsD S s.length) t)[n]=(k:Int):=hk
  rw[h3] at h2;omega
 have e:(ordD s (clsD S s.length) t)[n]=(k:Int):=hk
 rw[e,tyAt_nat hk2]
 exact List.getElem_mem hk2
theorem ix_range (hu:InR s) (h:Eqv s s S) (h0:0≤t) (h1:t<(s.length:Int)) {c:Int} (hc:c∈ordD s (clsD S s.length) t) {u:Int×Int} (hm:u∈usesD (tyAt s c)) :
  ∃k,∃hk:k<(ordD s (clsD S s.length) t).length,idxI (ordD s (clsD S s.length) t) (clsAt (clsD S s.length) u.2)=(k:Int)∧(ordD s (clsD S s.length) t)[k]=clsAt (clsD S s.length) u.2:=by
 obtain ⟨k,hk,e,hg⟩:=idxI_mem (ord_next hu h h0 h1 c hc u hm)
 exact ⟨k,hk,e,by rw[zl hk] at hg;exact Option.some.inj hg⟩
theorem kind_cls (hu:InR s) (h:Eqv s s S) {i:Nat} (hi:i<s.length):(tyAt s (clsAt (clsD S s.length) (i:Int))).kind=(tyAt s (i:Int)).kind:=by
 obtain ⟨k,hk,e,hs,_⟩:=cls_spec hu h hi
 rw[e]
 have:=(met_uses h (c:=(i:Int)) (k:=k) (by omega) (by simpa using hs)).1
 simp only[zM,decide_eq_true_eq] at this
 exact this.1.symm
theorem canon_valid (hv:zQ s=0) (h:Eqv s s S) (h0:0≤t) (h1:t<(s.length:Int)):zQ (canonL s (clsD S s.length) t)=0:=by
 have hu:=yL hv
 have hlen:=ord_len hu h h0 h1 s.length
 have hle:=valid_len hv
 have hol:(ordD s (clsD S s.length) t).length≤32:=Nat.le_trans hlen hle
 refine valid_of (by rw[canon_len];exact hol) fun n hn=>?_
 have hn':n<(ordD s (clsD S s.length) t).length:=by rw[canon_len] at hn;exact hn
 have hmem:=ord_in hu h h0 h1 hn'
 have hform:=(valid_tys hv hmem).1
 have hco:(ordD s (clsD S s.length) t)[n]∈ordD s (clsD S s.length) t:=List.getElem_mem hn'
 rw[canon_at _ hn' hn]
 refine tyErr_of (form_ren hform (by omega)) (fun hne hin=>?_) (fun u hx=>?_) (fun hk=>?_)
 ·obtain ⟨x,hx,e⟩:=List.mem_map.1 hin
  obtain ⟨j,hj,rfl⟩:=List.getElem_of_mem hx
  have hjl:j<n∧j<(canonL s (clsD S s.length) t).length:=by
   rw[List.length_take] at hj;omega
  have hjo:j<(ordD s (clsD S s.length) t).length:=by rw[canon_len] at hjl;exact hjl.2
  rw[List.getElem_take,canon_at _ hjo hjl.2] at e
  have h2:∀m y,(renD m (fun u=>idxI (ordD s (clsD S s.length) t) (clsAt (clsD S s.length) u)) y).name=if y.name=⟨#[]⟩ then y.name else nameN 84 (m:Int):=fun _ _=>rfl
  rw[h2] at hne e
  rw[h2] at e
  by_cases ey:(tyAt s (ordD s (clsD S s.length) t)[n]).name=⟨#[]⟩
  ·rw[if_pos ey] at hne;exact hne ey
  ·rw[if_neg ey] at e
   by_cases ej:(tyAt s (ordD s (clsD S s.length) t)[j]).name=⟨#[]⟩
   ·rw[if_pos ej,ej] at e;exact nameN_ne 84 n e.symm
   ·rw[if_neg ej] at e
    have:=nameN_inj e
    omega
 ·unfold toD at hx
  rw[uses_ren] at hx
  simp only[List.map_map,List.mem_map,Function.comp_def] at hx
  obtain ⟨v,hv2,rfl⟩:=hx
  obtain ⟨k,hk,e,_⟩:=ix_range hu h h0 h1 hco hv2
  rw[e,canon_len]
  omega
 ·have hk8:(tyAt s (ordD s (clsD S s.length) t)[n]).kind=8:=hk
  have hkey:=valid_key hv hmem hk8
  have hmu:(0,(tyAt s (ordD s (clsD S s.length) t)[n]).key)∈usesD (tyAt s (ordD s (clsD S s.length) t)[n]):=by
   rw[yO];simp[hk8]
  obtain ⟨k,hk,e,hg⟩:=ix_range hu h h0 h1 hco hmu
  have hrng:=hu _ hmem _ hmu
  have e2:(renD n (fun u=>idxI (ordD s (clsD S s.length) t) (clsAt (clsD S s.length) u)) (tyAt s (ordD s (clsD S s.length) t)[n])).key=(k:Int):=by
   unfold renD
   simp only[hk8,if_true]
   exact e
  rw[e2,Int.toNat_natCast,List.getD_eq_getElem?_getD,zl (by rw[canon_len];exact hk),canon_at _ hk]
  show yH (tyAt s (ordD s (clsD S s.length) t)[k]).kind=true
  rw[hg]
  obtain ⟨i,hi⟩:=Int.eq_ofNat_of_zero_le hrng.1
  simp only at hi hrng
  have:=kind_cls hu h (i:=i) (by rw[hi] at hrng;simpa using hrng.2)
  rw[hi,this,←hi]
  exact hkey
theorem usesOk_to {R Q:Nat→Nat→Bool} {ix:Int→Int}:∀l m:List (Int×Int),zR R l m=true→(∀u∈l,∀v∈m,R u.2.toNat v.2.toNat=true→Q u.2.toNat (ix v.2).toNat=true)→zR Q l (m.map fun v=>(v.1,ix v.2))=true
 | [],[],_,_=>rfl
 | [],_::_,h,_=>by simp[zR] at h
 | _::_,[],h,_=>by simp[zR] at h
 | u::l,v::m,h,hq=>by
  simp only[zR,Bool.and_eq_true] at h
  rw[List.map_cons,zR,Bool.and_eq_true]
  exact ⟨hq u List.mem_cons_self v List.mem_cons_self h.1,usesOk_to l m h.2 fun x hx y hy=>hq x (List.mem_cons_of_mem _ hx) y (List.mem_cons_of_mem _ hy)⟩
theorem canon_wire (hv:zQ s=0) (h:Eqv s s S) (h0:0≤t) (h1:t<(s.length:Int)) {U:Nat→Nat→Bool} (hU:Eqv s (canonL s (clsD S s.length) t) U):U t.toNat 0=true:=by
 have hu:=yL hv
 refine hU.top (fun i k=>decide (k<(ordD s (clsD S s.length) t).length∧i<s.length∧(ordD s (clsD S s.length) t)[k]? = some (clsAt (clsD S s.length) (i:Int)))) (fun i k hik=>?_) _ _ ?_
 ·obtain ⟨hk,hi,hg⟩:=of_decide_eq_true hik
  have hgk:(ordD s (clsD S s.length) t)[k]=clsAt (clsD S s.length) (i:Int):=by rw[zl hk] at hg;exact Option.some.inj hg
  have hkc:k<(canonL s (clsD S s.length) t).length:=by rw[canon_len];exact hk
  obtain ⟨j,hj,ej,hs,_⟩:=cls_spec hu h hi
  have hmet:=met_uses h (c:=(i:Int)) (k:=j) (by omega) (by simpa using hs)
  rw[tyAt_nat hi] at hmet
  have hck:=canon_at (s:=s) (t:=t) (clsD S s.length) hk hkc
  rw[hgk,ej] at hck
  unfold alD okD
  rw[zl hi,zl hkc,hck]
  refine ⟨alikeD_trans hmet.1 (alike_ren _ _ _),?_⟩
  show zR _ (usesD s[i]) (usesD (renD k _ (tyAt s (j:Int))))=true
  rw[uses_ren]
  refine usesOk_to (R:=S) (Q:=fun i k=>decide (k<(ordD s (clsD S s.length) t).length∧i<s.length∧(ordD s (clsD S s.length) t)[k]? = some (clsAt (clsD S s.length) (i:Int)))) (ix:=fun u=>idxI (ordD s (clsD S s.length) t) (clsAt (clsD S s.length) u)) _ _ hmet.2.1 fun u hul v hvl huv=>?_
  have hco:(j:Int)∈ordD s (clsD S s.length) t:=by rw[←ej,←hgk];exact List.getElem_mem hk
  obtain ⟨p,hp,ep,hgp⟩:=ix_range hu h h0 h1 hco hvl
  have hlu:=eqv_lt h huv
  have hv0:=(hu _ hmet.2.2.2 v hvl).1
  refine decide_eq_true ⟨?_,hlu.1,?_⟩
  ·show (idxI _ (clsAt _ v.2)).toNat<_
   rw[ep];simpa using hp
  ·show (ordD s (clsD S s.length) t)[(idxI _ (clsAt _ v.2)).toNat]? = _
   rw[ep,Int.toNat_natCast,zl hp,hgp]
   have:=cls_eq h huv
   rw[this,Int.toNat_of_nonneg hv0]
 ·have hlt:t.toNat<s.length:=by omega
  obtain ⟨r,hr⟩:=bfs_head (next:=nextD s (clsD S s.length)) (c0:=clsAt (clsD S s.length) t) s.length
  refine decide_eq_true ⟨?_,hlt,?_⟩
  ·unfold ordD;rw[hr];simp
  ·unfold ordD;rw[hr,Int.toNat_of_nonneg h0];rfl
end
def nmT (i:Nat):ByteArray:=⟨#[UInt8.ofNat (65+i)]⟩
def nmM (c:UInt8) (n:Nat):ByteArray:=⟨#[c,UInt8.ofNat (97+n)]⟩
theorem u8_inj {a b:Nat} (ha:a<256) (hb:b<256) (h:UInt8.ofNat a=UInt8.ofNat b):a=b:=by
 have:=congrArg UInt8.toNat h
 simp only[UInt8.toNat_ofNat'] at this
 omega
theorem nmM_inj {c:UInt8} {n m:Nat} (hn:n≤20) (hm:m≤20) (h:nmM c n=nmM c m):n=m:=by
 unfold nmM at h
 injection h with h
 have h2:=congrArg Array.toList h
 simp only[List.cons.injEq,true_and,and_true] at h2
 have:=u8_inj (by omega) (by omega) h2
 omega
theorem nmT_inj {n m:Nat} (hn:n≤20) (hm:m≤20) (h:nmT n=nmT m):n=m:=by
 unfold nmT at h
 injection h with h
 have h2:=congrArg Array.toList h
 simp only[List.cons.injEq,and_true] at h2
 have:=u8_inj (by omega) (by omega) h2
 omega
theorem nmT_ok {n:Nat} (hn:n≤20):nameB (nmT n)=true:=by
 have:∀m:Fin 21,nameB (nmT m.1)=true:=by decide +kernel
 exact this ⟨n,by omega⟩
theorem nmM_ok {c:UInt8} (hc:c=109∨c=115) {n:Nat} (hn:n≤20):nameB (nmM c n)=true:=by
 have h1:∀m:Fin 21,nameB (nmM 109 m.1)=true:=by decide +kernel
 have h2:∀m:Fin 21,nameB (nmM 115 m.1)=true:=by decide +kernel
 rcases hc with rfl|rfl
 ·exact h1 ⟨n,by omega⟩
 ·exact h2 ⟨n,by omega⟩
theorem idsOk_nm {c:UInt8} (hc:c=109∨c=115):∀ (L:List (Int×ByteArray)) (b:Int) (seen:List ByteArray),0≤b→(L.map (·.1)).Pairwise (· < ·)→(∀x∈L,b<x.1∧x.1≤12∧x.2=nmM c x.1.toNat)→(∀x∈seen,∃i:Nat,(i:Int)≤b∧x=nmM c i)→b≤12→idsOk b seen L=true
 | [],_,_,_,_,_,_,_=>rfl
 | x::L,b,seen,h0,hp,hx,hs,hb=>by
  obtain ⟨h1,h2,h3⟩:=hx x (List.mem_cons_self ..)
  rw[List.map_cons,List.pairwise_cons] at hp
  rw[idsOk]
  simp only[Bool.and_eq_true,decide_eq_true_eq]
  refine ⟨⟨⟨⟨⟨by omega,by omega⟩,h1⟩,?_⟩,?_⟩,?_⟩
  ·have:memD x.2 seen=false:=by
    cases hm:memD x.2 seen with
    | false=>rfl
    | true =>
     obtain ⟨j,hj,e⟩:=hs _ (memD_iff.1 hm)
     rw[h3] at e
     have:=nmM_inj (by omega) (by omega) e
     omega
   rw[this];rfl
  ·rw[h3];exact nmM_ok hc (by omega)
  ·refine idsOk_nm hc L x.1 _ (by omega) hp.2 (fun y hy=>?_) (fun y hy=>?_) h2
   ·have a:=hx y (List.mem_cons_of_mem _ hy)
    have b:=hp.1 y.1 (List.mem_map_of_mem hy)
    exact ⟨b,a.2⟩
   ·rcases List.mem_append.1 hy with k|k
    ·obtain ⟨j,hj,e⟩:=hs y k
     exact ⟨j,by omega,e⟩
    ·obtain rfl:y=x.2:=by simpa using k
     exact ⟨x.1.toNat,by omega,h3⟩
theorem asc_len:∀ (L:List Int) (b k:Int),L.Pairwise (· < ·)→(∀x∈L,b<x∧x≤k)→b≤k→(L.length:Int)≤k - b
 | [],b,k,_,_,h=>by simp;omega
 | x::L,b,k,hp,hx,h=>by
  rw[List.pairwise_cons] at hp
  have a:=hx x (List.mem_cons_self ..)
  have:=asc_len L x k hp.2 (fun y hy=>⟨hp.1 y hy,(hx y (List.mem_cons_of_mem _ hy)).2⟩) (by omega)
  rw[List.length_cons]
  omega
theorem idsD_nm {c:UInt8} (hc:c=109∨c=115) {L:List (Int×ByteArray)} (hp:(L.map (·.1)).Pairwise (· < ·)) (hx:∀x∈L,0<x.1∧x.1≤12∧x.2=nmM c x.1.toNat):idsD L=true:=by
 unfold idsD
 rw[Bool.and_eq_true]
 refine ⟨idsOk_nm hc L 0 [] (by omega) hp hx (fun x hx=>by cases hx) (by omega),?_⟩
 have:=asc_len (L.map (·.1)) 0 12 hp (fun y hy=>by obtain ⟨x,h1,rfl⟩:=List.mem_map.1 hy;exact ⟨(hx x h1).1,(hx x h1).2.1⟩) (by omega)
 rw[List.length_map] at this
 exact decide_eq_true (by omega)
def MsOk (rec:Bool) (n:Nat) (k:Int) (ms:List MemD):Prop :=
 (ms.map (·.id)).Pairwise (· < ·)∧∀m∈ms,(0<m.id∧m.id≤k)∧m.name=nmM 109 m.id.toNat∧(0≤m.type∧m.type<(n:Int))∧memOk rec m=true
theorem MsOk.nil (rec:Bool) (n:Nat) (k:Int):MsOk rec n k []:=⟨List.Pairwise.nil,fun _ h=>by cases h⟩
theorem MsOk.mono {rec:Bool} {n:Nat} {k k':Int} {ms:List MemD} (h:MsOk rec n k ms) (hk:k≤k'):MsOk rec n k' ms :=
 ⟨h.1,fun m hm=>⟨⟨(h.2 m hm).1.1,Int.le_trans (h.2 m hm).1.2 hk⟩,(h.2 m hm).2⟩⟩
theorem MsOk.snoc {rec:Bool} {n:Nat} {k:Nat} {ms:List MemD} (h:MsOk rec n k ms) {m:MemD} (hi:m.id=((k+1:Nat):Int)) (hn:m.name=nmM 109 (k+1)) (ht:0≤m.type∧m.type<(n:Int)) (hm:memOk rec m=true):MsOk rec n ((k+1:Nat):Int) (ms++[m]):=by
 refine ⟨?_,fun x hx=>?_⟩
 ·rw[List.map_append,List.pairwise_append]
  refine ⟨h.1,by simp,fun a ha b hb=>?_⟩
  obtain ⟨x,h1,rfl⟩:=List.mem_map.1 ha
  obtain rfl:b=m.id:=by simpa using hb
  have:=(h.2 x h1).1
  omega
 ·rcases List.mem_append.1 hx with a|a
  ·exact (h.mono (by omega)).2 x a
  ·obtain rfl:x=m:=by simpa using a
   exact ⟨by omega,by rw[hn,hi];rfl,ht,hm⟩
theorem MsOk.len {rec:Bool} {n:Nat} {ms:List MemD} (h:MsOk rec n 12 ms):ms.length≤12:=by
 have:=asc_len (ms.map (·.id)) 0 12 h.1 (fun y hy=>by obtain ⟨x,h1,rfl⟩:=List.mem_map.1 hy;exact (h.2 x h1).1) (by omega)
 rw[List.length_map] at this
 omega
theorem MsOk.mems {rec:Bool} {n:Nat} {ms:List MemD} (h:MsOk rec n 12 ms) (hne:rec=true∨ms≠[]):memsD rec ms=true:=by
 unfold memsD
 rw[Bool.and_eq_true,Bool.and_eq_true]
 refine ⟨⟨List.all_eq_true.2 fun m hm=>(h.2 m hm).2.2.2,idsD_nm (.inl rfl) ?_ fun x hx=>?_⟩,?_⟩
 ·rw[List.map_map];exact h.1
 ·obtain ⟨m,h1,rfl⟩:=List.mem_map.1 hx
  exact ⟨(h.2 m h1).1.1,(h.2 m h1).1.2,(h.2 m h1).2.1⟩
 ·rcases hne with e|e
  ·rw[e];rfl
  ·simp[e]
def symsN (x:NodeD):List SymD:=(idsN x).map fun n=>⟨n,nmM 115 n.toNat⟩
theorem idsN_ok (x : NodeD) : (idsN x).Pairwise (· < ·) ∧ (∀ n ∈ idsN x, 0 < n ∧ n ≤ 6) ∧ idsN x ≠ [] := by
  have h : ∀ p : Nat → Bool, ((((List.range 6).filter p).map fun i => ((i + 1 : Nat) : Int)).Pairwise (· < ·)) ∧ ∀ n ∈ ((List.range 6).filter p).map (fun i => ((i + 1 : Nat) : Int)), 0 < n ∧ n ≤ 6 := fun p => by
    refine ⟨?_, fun n hn => ?_⟩
    · rw [List.pairwise_map]
      refine List.Pairwise.filter p (List.Pairwise.imp (fun h => ?_) List.pairwise_lt_range)
      omega
    · obtain ⟨i, h1, rfl⟩ := List.mem_map.1 hn
      have := List.mem_range.1 (List.mem_filter.1 h1).1
      omega
  unfold idsN
  simp only
  split
  · exact ⟨List.pairwise_singleton .., fun n hn => by obtain rfl : n = 1 := by simpa using hn
                                                      omega, by simp⟩
  · rename_i hne
    exact ⟨(h _).1, (h _).2, hne⟩
theorem symsN_ok (x:NodeD):symsD (symsN x)=true:=by
 obtain ⟨h1,h2,h3⟩:=idsN_ok x
 unfold symsD symsN
 rw[Bool.and_eq_true]
 refine ⟨idsD_nm (.inr rfl) ?_ fun y hy=>?_,by simpa using h3⟩
 ·rw[List.map_map,List.map_map]
  have:(idsN x).map (((fun y:Int×ByteArray=>y.1)∘(fun s:SymD=>(s.id,s.name)))∘fun n=>⟨n,nmM 115 n.toNat⟩)=idsN x:=by
   simp[Function.comp_def]
  rw[this];exact h1
 ·rw[List.map_map] at hy
  obtain ⟨n,hn,rfl⟩:=List.mem_map.1 hy
  have:=h2 n hn
  exact ⟨this.1,by simp only[Function.comp];omega,rfl⟩
structure TyOk (d:List NodeD) (i:Nat) (t:TyD):Prop where
 form:formD t=true
 name:t.name=if zU t.kind then nmT i else ⟨#[]⟩
 uses:∀u∈toD t,0≤u∧u<(d.length:Int)
 kind:yH (kindN d i)=true→t.kind=kindN d i
 key:t.kind=8→yH (kindN d t.key.toNat)=true∧0≤t.key∧t.key<(d.length:Int)
 mems:∀m∈t.mems,m.name.size=2
 syms:∀m∈t.syms,m.name.size=2
def DraftOk (d:List NodeD) (s:List TyD):Prop:=s.length=d.length∧∀i (h:i<s.length),TyOk d i s[i]
def Short (s:List TyD):Prop:=∀t∈s,t.name.size≤1∧(∀m∈t.mems,m.name.size≤2)∧∀m∈t.syms,m.name.size≤2
theorem draft_valid {d:List NodeD} {s:List TyD} (h:DraftOk d s) (hl:d.length≤5):zQ s=0:=by
 obtain ⟨h1,h2⟩:=h
 refine valid_of (by omega) fun i hi=>?_
 have ho:=h2 i hi
 refine tyErr_of ho.form (fun hn hm=>?_) (by rw[h1];exact ho.uses) (fun hk=>?_)
 ·obtain ⟨t,ht,e⟩:=List.mem_map.1 hm
  obtain ⟨j,hj,e2⟩:=List.getElem_of_mem ht
  have hji:j<i:=by rw[List.length_take] at hj;omega
  rw[List.getElem_take] at e2
  have hoj:=h2 j (by omega)
  rw[e2] at hoj
  rw[ho.name] at hn e
  rw[hoj.name] at e
  by_cases a:zU (s[i]).kind=true
  ·rw[if_pos a] at e hn
   by_cases b:zU t.kind=true
   ·rw[if_pos b] at e
    have:=nmT_inj (by omega) (by omega) e
    omega
   ·rw[if_neg b] at e;exact hn e.symm
  ·rw[if_neg a] at hn;exact hn rfl
 ·obtain ⟨a,b,c⟩:=ho.key hk
  have hkl:(s[i]).key.toNat<s.length:=by omega
  have:=(h2 _ hkl).kind a
  rw[List.getD_eq_getElem?_getD,zl hkl,Option.getD_some,this]
  exact a
theorem draft_short {d:List NodeD} {s:List TyD} (h:DraftOk d s):Short s:=fun t ht=>by
 obtain ⟨i,hi,rfl⟩:=List.getElem_of_mem ht
 have ho:=h.2 i hi
 refine ⟨?_,fun m hm=>Nat.le_of_eq (ho.mems m hm),fun m hm=>Nat.le_of_eq (ho.syms m hm)⟩
 rw[ho.name]
 split
 ·exact Nat.le_of_eq rfl
 ·exact Nat.zero_le _
theorem form_of {i:Nat} {t:TyD} (hi:i≤20) (h1:1≤t.kind∧t.kind≤9) (h2:t=zT t) (h3:t.name=if zU t.kind then nmT i else ⟨#[]⟩) (h4:caseD t=true):formD t=true:=by
 unfold formD
 simp only[Bool.and_eq_true,decide_eq_true_eq]
 refine ⟨⟨⟨h1,h2⟩,?_⟩,h4⟩
 cases hn:zU t.kind with
 | false=>rfl
 | true=>rw[h3,if_pos hn,nmT_ok hi];rfl
theorem toD_mems {t:TyD} (hk:¬ (t.kind=8∨t.kind=7∨t.kind=9)):toD t=t.mems.map (·.type):=by
 unfold toD usesD
 rw[if_neg (fun e=>hk (.inl e)),if_neg (fun e=>hk (.inr e)),List.append_nil,List.map_map];rfl
section
variable {d:List NodeD} {i:Nat}
theorem tyOk_bool (hi:i≤20) (hk:kindN d i=1):TyOk d i { zeroT with kind:=1 } :=
 ⟨form_of hi ⟨by show (1:Int)≤(1:Int);decide,by show (1:Int)≤(9:Int);decide⟩ rfl rfl rfl,rfl,(by rw[toD_mems (by show ¬ ((1:Int)=8∨(1:Int)=7∨(1:Int)=9);decide)];intro u hu;cases hu),fun _=>hk.symm,(fun h=>by cases h),(fun _ h=>by cases h),fun _ h=>by cases h⟩
theorem tyOk_int (hi:i≤20) (hk:kindN d i=2) {a b:Int} (hab:a≤b):TyOk d i { zeroT with kind:=2,low:=a,high:=b } :=
 ⟨form_of hi ⟨by show (1:Int)≤(2:Int);decide,by show (2:Int)≤(9:Int);decide⟩ rfl rfl (decide_eq_true hab),rfl,(by rw[toD_mems (by show ¬ ((2:Int)=8∨(2:Int)=7∨(2:Int)=9);decide)];intro u hu;cases hu),fun _=>hk.symm,(fun h=>by cases h),(fun _ h=>by cases h),fun _ h=>by cases h⟩
theorem tyOk_str (hi:i≤20) (hk:kindN d i=3) {a:Int} (ha:0≤a∧a≤3):TyOk d i { zeroT with kind:=3,max:=a } :=
 ⟨form_of hi ⟨by show (1:Int)≤(3:Int);decide,by show (3:Int)≤(9:Int);decide⟩ rfl rfl (by unfold caseD;simp;omega),rfl,(by rw[toD_mems (by show ¬ ((3:Int)=8∨(3:Int)=7∨(3:Int)=9);decide)];intro u hu;cases hu),fun _=>hk.symm,(fun h=>by cases h),(fun _ h=>by cases h),fun _ h=>by cases h⟩
theorem tyOk_enum (hi:i≤20) (hk:kindN d i=4) (x:NodeD) (o:Bool):TyOk d i { zeroT with kind:=4,name:=nmT i,syms:=symsN x,open_:=o } :=
 ⟨form_of hi ⟨by show (1:Int)≤(4:Int);decide,by show (4:Int)≤(9:Int);decide⟩ rfl rfl (symsN_ok x),rfl,(by rw[toD_mems (by show ¬ ((4:Int)=8∨(4:Int)=7∨(4:Int)=9);decide)];intro u hu;cases hu),fun _=>hk.symm,(fun h=>by cases h),(fun _ h=>by cases h),fun m hm=>by
  obtain ⟨n,_,rfl⟩:=List.mem_map.1 (show m∈symsN x from hm)
  rfl⟩
theorem MsOk.size {rec:Bool} {n:Nat} {ms:List MemD} (h:MsOk rec n 12 ms):∀m∈ms,m.name.size=2:=fun m hm=>by rw[(h.2 m hm).2.1];rfl
theorem MsOk.types {rec:Bool} {n:Nat} {ms:List MemD} (h:MsOk rec n 12 ms):∀u∈ms.map (·.type),0≤u∧u<(n:Int):=fun u hu=>by
 obtain ⟨m,hm,rfl⟩:=List.mem_map.1 hu
 exact (h.2 m hm).2.2.1
theorem tyOk_rec (hi:i≤20) (hk:yH (kindN d i)=false) {ms:List MemD} (h:MsOk true d.length 12 ms):TyOk d i { zeroT with kind:=5,name:=nmT i,mems:=ms } :=
 ⟨form_of hi ⟨by show (1:Int)≤(5:Int);decide,by show (5:Int)≤(9:Int);decide⟩ rfl rfl (h.mems (.inl rfl)),rfl,(by rw[toD_mems (by show ¬ ((5:Int)=8∨(5:Int)=7∨(5:Int)=9);decide)];exact h.types),(fun e=>by rw[hk] at e;cases e),(fun h=>by cases h),h.size,fun _ h=>by cases h⟩
theorem tyOk_union (hi:i≤20) (hk:yH (kindN d i)=false) {ms:List MemD} (h:MsOk false d.length 12 ms) (hne:ms≠[]) (o:Bool):TyOk d i { zeroT with kind:=6,name:=nmT i,mems:=ms,open_:=o } :=
 ⟨form_of hi ⟨by show (1:Int)≤(6:Int);decide,by show (6:Int)≤(9:Int);decide⟩ rfl rfl (h.mems (.inr hne)),rfl,(by rw[toD_mems (by show ¬ ((6:Int)=8∨(6:Int)=7∨(6:Int)=9);decide)];exact h.types),(fun e=>by rw[hk] at e;cases e),(fun h=>by cases h),h.size,fun _ h=>by cases h⟩
theorem tyOk_list (hi:i≤20) (hk:yH (kindN d i)=false) {a b:Int} (ha:0≤a∧a≤3) (hb:0≤b∧b<(d.length:Int)):TyOk d i { zeroT with kind:=7,max:=a,elem:=b } :=
 ⟨form_of hi ⟨by show (1:Int)≤(7:Int);decide,by show (7:Int)≤(9:Int);decide⟩ rfl rfl (by unfold caseD;simp;omega),rfl,(fun u hu=>by rw[show u=b by simpa[toD,usesD,show zeroT.mems=[] from rfl] using hu];exact hb),(fun e=>by rw[hk] at e;cases e),(fun h=>by cases h),(fun _ h=>by cases h),fun _ h=>by cases h⟩
theorem tyOk_map (hi:i≤20) (hk:yH (kindN d i)=false) {a b c:Int} (ha:0≤a∧a≤3) (hb:0≤b∧b<(d.length:Int)) (hc:0≤c∧c<(d.length:Int)) (hkc:yH (kindN d c.toNat)=true):TyOk d i { zeroT with kind:=8,max:=a,key:=c,elem:=b } :=
 ⟨form_of hi ⟨by show (1:Int)≤(8:Int);decide,by show (8:Int)≤(9:Int);decide⟩ rfl rfl (by unfold caseD;simp;omega),rfl,(fun u hu=>by
  have:u=c∨u=b:=by simpa[toD,usesD,show zeroT.mems=[] from rfl] using hu
  rcases this with rfl|rfl
  ·exact hc
  ·exact hb),(fun e=>by rw[hk] at e;cases e),(fun _=>⟨hkc,hc⟩),(fun _ h=>by cases h),fun _ h=>by cases h⟩
theorem tyOk_opt (hi:i≤20) (hk:yH (kindN d i)=false) {b:Int} (hb:0≤b∧b<(d.length:Int)):TyOk d i { zeroT with kind:=9,elem:=b } :=
 ⟨form_of hi ⟨by show (1:Int)≤(9:Int);decide,by show (9:Int)≤(9:Int);decide⟩ rfl rfl rfl,rfl,(fun u hu=>by rw[show u=b by simpa[toD,usesD,show zeroT.mems=[] from rfl] using hu];exact hb),(fun e=>by rw[hk] at e;cases e),(fun h=>by cases h),(fun _ h=>by cases h),fun _ h=>by cases h⟩
end
theorem kindN_range (d:List NodeD) (i:Nat):1≤kindN d i∧kindN d i≤9:=by unfold kindN;omega
theorem keyD_ok {d:List NodeD} {code:Nat} (h:¬ keyD d code<0):(0≤keyD d code∧keyD d code<(d.length:Int))∧yH (kindN d (keyD d code).toNat)=true:=by
 unfold keyD at h ⊢
 split
 ·rename_i k hk
  have h1:=List.find?_some hk
  have h2:=List.mem_range.1 (List.mem_of_find?_eq_some hk)
  have h3:(code+k) % d.length<d.length:=Nat.mod_lt _ (by omega)
  exact ⟨⟨by omega,by omega⟩,h1⟩
 ·rename_i hk
  rw[hk] at h
  exact absurd (show (-1:Int)<0 by decide) h
theorem targetD_ok {d:List NodeD} {i code:Nat} (hi:i<d.length) (h:¬ targetD d i code<0):0≤targetD d i code∧targetD d i code<(d.length:Int):=by
 refine ⟨by omega,?_⟩
 have h3:code % d.length<d.length:=Nat.mod_lt _ (by omega)
 unfold targetD at h ⊢
 split
 ·omega
 ·split
  ·have:code % d.length % i<i:=Nat.mod_lt _ (by assumption)
   omega
  ·unfold fstN
   split
   ·rename_i k hk
    have h2:=List.mem_range.1 (List.mem_of_find?_eq_some hk)
    omega
   ·omega
theorem low_high (x:NodeD):lowN x≤highN x:=by unfold highN;omega
def addX (x:Bool) (s:ByteArray):ByteArray:=if x then s++⟨#[120]⟩ else s
theorem app_list (s u:ByteArray):(s++u).data.toList=s.data.toList++u.data.toList:=by
 rw[ByteArray.data_append];simp
theorem bytes_ext {s u:ByteArray} (h:s.data.toList=u.data.toList):s=u:=by
 cases s;cases u;congr;exact Array.toList_inj.1 h
theorem size_list (s:ByteArray):s.size=s.data.toList.length:=by rw[Array.length_toList];rfl
theorem addX_size (x:Bool) (s:ByteArray):(addX x s).size=s.size+if x then 1 else 0:=by
 unfold addX
 cases x with
 | false=>rfl
 | true=>rw[if_pos rfl,if_pos rfl,size_list,app_list,size_list];simp
def Sh (n:Nat) (a b:Int):Prop:=b=a∨b=a+(n:Int)
def cpM (x:Bool) (m:MemD) (u:Int):MemD:={ m with name:=addX x m.name,type:=u }
def cpS (x:Bool) (s:SymD):SymD:={ s with name:=addX x s.name }
def cpN (x:Bool) (s:ByteArray):ByteArray:=if s=⟨#[]⟩ then s else addX x s
def cpT (x:Bool) (t:TyD) (ms:List MemD) (k e:Int):TyD:={ t with name:=cpN x t.name,syms:=t.syms.map (cpS x),mems:=ms,key:=k,elem:=e }
def MsSh (n:Nat) (x:Bool):List MemD→List MemD→Prop
 | [],[]=>True
 | m::r,c::q=>(∃u,Sh n m.type u∧c=cpM x m u)∧MsSh n x r q
 | _,_=>False
structure CpIs (n:Nat) (x:Bool) (t:TyD) (ms:List MemD) (k e:Int):Prop where
 mems:MsSh n x t.mems ms
 key:if t.kind=8 then Sh n t.key k else k=t.key
 elem:if t.kind=8∨t.kind=7∨t.kind=9 then Sh n t.elem e else e=t.elem
def CopyIs (s c:List TyD):Prop:=c.length=2 * s.length∧∀i (h:i<c.length),∃ms k e,CpIs s.length (decide (s.length≤i)) (tyAt s ((i % s.length:Nat):Int)) ms k e∧c[i]=cpT (decide (s.length≤i)) (tyAt s ((i % s.length:Nat):Int)) ms k e
theorem MsSh.len {n:Nat} {x:Bool}:∀ {l m:List MemD},MsSh n x l m→m.length=l.length
 | [],[],_=>rfl
 | a::l,b::m,h=>by rw[List.length_cons,List.length_cons,MsSh.len h.2]
 | [],_::_,h=>h.elim
 | _::_,[],h=>h.elim
theorem MsSh.ids {n:Nat} {x:Bool}:∀ {l m:List MemD},MsSh n x l m→(m.map fun y=>(y.id,y.name))=(l.map fun y=>(y.id,y.name)).map fun y=>(y.1,addX x y.2)
 | [],[],_=>rfl
 | a::l,b::m,h=>by
  obtain ⟨⟨u,_,e⟩,h2⟩:=h
  rw[List.map_cons,List.map_cons,List.map_cons,MsSh.ids h2,e];rfl
 | [],_::_,h=>h.elim
 | _::_,[],h=>h.elim
theorem MsSh.all {n:Nat} {x r:Bool}:∀ {l m:List MemD},MsSh n x l m→m.all (memOk r)=l.all (memOk r)
 | [],[],_=>rfl
 | a::l,b::m,h=>by
  obtain ⟨⟨u,_,e⟩,h2⟩:=h
  rw[List.all_cons,List.all_cons,MsSh.all h2,e];rfl
 | [],_::_,h=>h.elim
 | _::_,[],h=>h.elim
def UsSh (n:Nat):List (Int×Int)→List (Int×Int)→Prop
 | [],[]=>True
 | u::r,v::q=>(v.1=u.1∧Sh n u.2 v.2)∧UsSh n r q
 | _,_=>False
theorem UsSh.app {n:Nat}:∀ {a b c d:List (Int×Int)},UsSh n a b→UsSh n c d→UsSh n (a++c) (b++d)
 | [],[],_,_,_,h=>h
 | _::_,_::_,_,_,h1,h2=>⟨h1.1,UsSh.app h1.2 h2⟩
 | [],_::_,_,_,h,_=>h.elim
 | _::_,[],_,_,h,_=>h.elim
theorem MsSh.uses {n:Nat} {x:Bool}:∀ {l m:List MemD},MsSh n x l m→UsSh n (l.map fun y=>(y.id,y.type)) (m.map fun y=>(y.id,y.type))
 | [],[],_=>trivial
 | a::l,b::m,h=>by
  obtain ⟨⟨u,hs,e⟩,h2⟩:=h
  rw[List.map_cons,List.map_cons,e]
  exact ⟨⟨rfl,hs⟩,MsSh.uses h2⟩
 | [],_::_,h=>h.elim
 | _::_,[],h=>h.elim
theorem UsSh.mem {n:Nat}:∀ {l m:List (Int×Int)},UsSh n l m→∀v∈m,∃u∈l,v.1=u.1∧Sh n u.2 v.2
 | [],[],_,v,hv=>by cases hv
 | a::l,b::m,h,v,hv=>by
  rcases List.mem_cons.1 hv with e|e
  ·rw[e];exact ⟨a,List.mem_cons_self,h.1⟩
  ·obtain ⟨u,h1,h2⟩:=UsSh.mem h.2 v e
   exact ⟨u,List.mem_cons_of_mem _ h1,h2⟩
 | [],_::_,h,_,_=>h.elim
 | _::_,[],h,_,_=>h.elim
section
variable {n:Nat} {x:Bool} {t:TyD} {ms:List MemD} {k e:Int}
theorem CpIs.uses (h:CpIs n x t ms k e):UsSh n (usesD t) (usesD (cpT x t ms k e)):=by
 unfold usesD
 refine UsSh.app h.mems.uses ?_
 show UsSh n _ (if t.kind=8 then [(0,k),(-1,e)] else if t.kind=7∨t.kind=9 then [(-1,e)] else [])
 have hk:=h.key
 have he:=h.elem
 by_cases h8:t.kind=8
 ·rw[if_pos h8] at hk
  rw[if_pos (.inl h8)] at he
  rw[if_pos h8,if_pos h8]
  exact ⟨⟨rfl,hk⟩,⟨rfl,he⟩,trivial⟩
 ·rw[if_neg h8,if_neg h8]
  by_cases h7:t.kind=7∨t.kind=9
  ·rw[if_pos (.inr h7)] at he
   rw[if_pos h7,if_pos h7]
   exact ⟨⟨rfl,he⟩,trivial⟩
  ·rw[if_neg h7,if_neg h7]
   exact trivial
end
section
variable {s c:List TyD}
end
open Classical in
theorem eqv_ex (names:Bool) (a b:List TyD):∃U,GreatestR (alD names a b) (okD a b) U:=by
 refine ⟨fun i k=>decide (∃T,ClosedR (alD names a b) (okD a b) T∧T i k=true),fun i k h=>?_,fun T hT i k h=>?_⟩
 ·obtain ⟨T,hT,hi⟩:=of_decide_eq_true h
  obtain ⟨h1,h2⟩:=hT i k hi
  exact ⟨h1,okD_mono a b T _ i k (fun i k hk=>decide_eq_true ⟨T,hT,hk⟩) h2⟩
 ·exact decide_eq_true ⟨T,hT,h⟩
theorem yN {s:List TyD} {i:Nat} (hv:zQ s=0) (hi:i<s.length):zH s (i:Int)=0:=by
 unfold zH
 rw[if_neg (by simp[hv]),if_neg (by omega)]
section
variable {a b la lb:List TyD} {ta tb:Nat}
theorem canon_rel (hva:zQ a=0) (h:ta<a.length) (hl:CanonIs a (ta:Int) la) {U:Nat→Nat→Bool} (hU:Eqv a la U):U ta 0=true:=by
 obtain ⟨_,⟨S,hS,rfl⟩,rfl⟩:=hl
 exact canon_wire hva hS (by omega) (by omega) hU
theorem canon_root (hva:zQ a=0) (h:ta<a.length) (hl:CanonIs a (ta:Int) la):zQ la=0∧0<la.length:=by
 obtain ⟨U,hU⟩:=eqv_ex false a la
 have hr:=(eqv_lt hU (canon_rel hva h hl hU)).2
 refine ⟨?_,hr⟩
 obtain ⟨_,⟨S,hS,rfl⟩,rfl⟩:=hl
 exact canon_valid hva hS (by omega) (by omega)
theorem canon_twice (hva:zQ a=0) (h:ta<a.length) (hl:CanonIs a (ta:Int) la) {l2:List TyD} (h2:CanonIs la 0 l2):l2=la:=by
 obtain ⟨U,hU⟩:=eqv_ex false a la
 have hr:=canon_rel hva h hl hU
 have hvl:=(canon_root hva h hl).1
 have hl':=hl
 obtain ⟨_,⟨S,hS,rfl⟩,e⟩:=hl
 obtain ⟨_,⟨T,hT,rfl⟩,e2⟩:=h2
 have:=canon_eq hva hvl hS hT hU hr
 rw[e2,e]
 rw[e] at this
 exact this.symm
theorem canon_wired (hva:zQ a=0) (h:ta<a.length) (hl:CanonIs a (ta:Int) la) {v:Bool} (hv:EqvIs false a (ta:Int) la 0 v):v=true:=by
 obtain ⟨h1,h2⟩:=canon_root hva h hl
 obtain ⟨U,hU,e⟩:=hv.1 (yN hva h) (yN (i:=0) h1 h2)
 rw[e]
 exact canon_rel hva h hl hU
theorem canon_same (hva:zQ a=0) (hvb:zQ b=0) (ha:ta<a.length) (hb:tb<b.length) (hla:CanonIs a (ta:Int) la) (hlb:CanonIs b (tb:Int) lb) {v:Bool} (hv:EqvIs false a (ta:Int) b (tb:Int) v):v=decide (la=lb):=by
 obtain ⟨U,hU,e⟩:=hv.1 (yN hva ha) (yN hvb hb)
 have e':v=U ta tb:=e
 rw[e']
 by_cases hE:la=lb
 ·subst hE
  obtain ⟨P,hP⟩:=eqv_ex false a la
  obtain ⟨Q,hQ⟩:=eqv_ex false b la
  have h1:=canon_rel hva ha hla hP
  have h2:=canon_rel hvb hb hlb hQ
  rw[greatest_trans hP (greatest_turn hQ) hU h1 h2]
  simp
 ·have:U ta tb=false:=by
   cases hh:U ta tb with
   | false=>rfl
   | true =>
    obtain ⟨_,⟨S,hS,rfl⟩,e1⟩:=hla
    obtain ⟨_,⟨T,hT,rfl⟩,e2⟩:=hlb
    exact absurd (by rw[e1,e2];exact canon_eq hva hvb hS hT hU hh) hE
  rw[this];simp[hE]
theorem eqv_less {v u:Bool} (hv:EqvIs true a (ta:Int) b (tb:Int) v) (hu:EqvIs false a (ta:Int) b (tb:Int) u) (hva:zQ a=0) (hvb:zQ b=0) (ha:ta<a.length) (hb:tb<b.length):(!v||u)=true:=by
 obtain ⟨S,hS,e⟩:=hv.1 (yN hva ha) (yN hvb hb)
 obtain ⟨T,hT,e2⟩:=hu.1 (yN hva ha) (yN hvb hb)
 have:=greatest_less hS hT (ta:Int).toNat (tb:Int).toNat
 rw[←e,←e2] at this
 cases v <;> cases u <;> simp_all
theorem eqv_self {names v:Bool} (hv:EqvIs names a (ta:Int) a (ta:Int) v) (hva:zQ a=0) (ha:ta<a.length):v=true:=by
 obtain ⟨S,hS,e⟩:=hv.1 (yN hva ha) (yN hva ha)
 rw[e]
 exact greatest_refl (yL hva) hS ha
theorem eqv_turn {names v u:Bool} (hv:EqvIs names a (ta:Int) b (tb:Int) v) (hu:EqvIs names b (tb:Int) a (ta:Int) u) (hva:zQ a=0) (hvb:zQ b=0) (ha:ta<a.length) (hb:tb<b.length):u=v:=by
 obtain ⟨S,hS,e⟩:=hv.1 (yN hva ha) (yN hvb hb)
 obtain ⟨T,hT,e2⟩:=hu.1 (yN hvb hb) (yN hva ha)
 have h:=GreatestR.unique _ _ hT (greatest_turn hS)
 rw[e2,h,e]
end
theorem ltL_irrefl:∀l,ltL l l=false
 | []=>rfl
 | a::l=>by rw[ltL,if_pos rfl];exact ltL_irrefl l
theorem ltL_trans:∀l m r,ltL l m=true→ltL m r=true→ltL l r=true
 | [],[],_,h,_=>by simp[ltL] at h
 | [],_::_,[],_,k=>by simp[ltL] at k
 | [],_::_,_::_,_,_=>rfl
 | _::_,[],_,h,_=>by simp[ltL] at h
 | _::_,_::_,[],_,k=>by simp[ltL] at k
 | a::l,b::m,c::r,h,k=>by
  rw[ltL] at h k ⊢
  by_cases e:a=b
  ·rw[if_pos e] at h
   by_cases f:b=c
   ·rw[if_pos f] at k
    rw[if_pos (e.trans f)];exact ltL_trans l m r h k
   ·rw[if_neg f] at k
    rw[if_neg (by rw[e];exact f),e];exact k
  ·rw[if_neg e] at h
   have h1:a<b:=of_decide_eq_true h
   by_cases f:b=c
   ·rw[if_neg (by rw[←f];exact e),←f];exact h
   ·rw[if_neg f] at k
    have h2:b<c:=of_decide_eq_true k
    rw[if_neg (by omega)];exact decide_eq_true (by omega)
theorem ltL_total:∀l m,l=m∨ltL l m=true∨ltL m l=true
 | [],[] => .inl rfl
 | [],_::_ => .inr (.inl rfl)
 | _::_,[] => .inr (.inr rfl)
 | a::l,b::m=>by
  by_cases e:a=b
  ·subst e
   rcases ltL_total l m with h|h|h
   ·exact .inl (by rw[h])
   ·exact .inr (.inl (by rw[ltL,if_pos rfl];exact h))
   ·exact .inr (.inr (by rw[ltL,if_pos rfl];exact h))
  ·rcases Int.lt_or_lt_of_ne e with h|h
   ·exact .inr (.inl (by rw[ltL,if_neg e];exact decide_eq_true h))
   ·exact .inr (.inr (by rw[ltL,if_neg (fun x=>e x.symm)];exact decide_eq_true h))
theorem ltL_app:∀ (l m:List Int) (x y:Int),l.length=m.length→ltL (l++[x]) (m++[y])=(ltL l m||(decide (l=m)&&decide (x<y)))
 | [],[],x,y,_=>by
  simp only[List.nil_append,ltL]
  by_cases e:x=y
  ·simp[e]
  ·simp[e]
 | [],_::_,_,_,h=>by simp at h
 | _::_,[],_,_,h=>by simp at h
 | a::l,b::m,x,y,h=>by
  rw[List.cons_append,List.cons_append,ltL,ltL,ltL_app l m x y (by simpa using h)]
  by_cases e:a=b
  ·simp[e]
  ·simp[e]
def sle (l m:List Int):Prop:=l.length<m.length∨(l.length=m.length∧ltL m l=false)
def slt (l m:List Int):Prop:=l.length<m.length∨(l.length=m.length∧ltL l m=true)
theorem ltL_false {l m:List Int}:ltL m l=false↔(l=m∨ltL l m=true):=by
 constructor
 ·intro h
  rcases ltL_total l m with k|k|k
  ·exact .inl k
  ·exact .inr k
  ·rw[h] at k;cases k
 ·rintro (k|k)
  ·rw[k];exact ltL_irrefl m
  ·cases h:ltL m l with
   | false=>rfl
   | true=>have:=ltL_trans _ _ _ k h;rw[ltL_irrefl] at this;cases this
theorem sle_iff {l m:List Int}:sle l m↔(l=m∨slt l m):=by
 unfold sle slt
 rw[ltL_false]
 constructor
 ·rintro (h|⟨h,h2|h2⟩)
  ·exact .inr (.inl h)
  ·exact .inl h2
  ·exact .inr (.inr ⟨h,h2⟩)
 ·rintro (h|h|⟨h,h2⟩)
  ·exact .inr ⟨by rw[h],.inl h⟩
  ·exact .inl h
  ·exact .inr ⟨h,.inr h2⟩
theorem sle_refl (l:List Int):sle l l:=sle_iff.2 (.inl rfl)
theorem sle_of_slt {l m:List Int} (h:slt l m):sle l m:=sle_iff.2 (.inr h)
theorem slt_trans {l m r:List Int} (h:slt l m) (k:slt m r):slt l r:=by
 rcases h with h|⟨h,h2⟩ <;> rcases k with k|⟨k,k2⟩
 ·exact .inl (by omega)
 ·exact .inl (by omega)
 ·exact .inl (by omega)
 ·exact .inr ⟨h.trans k,ltL_trans _ _ _ h2 k2⟩
theorem sle_trans {l m r:List Int} (h:sle l m) (k:sle m r):sle l r:=by
 rcases sle_iff.1 h with e|h
 ·rw[e];exact k
 ·rcases sle_iff.1 k with e|k
  ·rw[←e];exact sle_of_slt h
  ·exact sle_of_slt (slt_trans h k)
theorem sle_antisymm {l m:List Int} (h:sle l m) (k:sle m l):l=m:=by
 rcases h with h|⟨h,h2⟩
 ·rcases k with k|⟨k,_⟩ <;> omega
 ·rcases k with k|⟨_,k2⟩
  ·omega
  ·rcases ltL_total l m with e|e|e
   ·exact e
   ·rw[k2] at e;cases e
   ·rw[h2] at e;cases e
theorem sle_app {l m:List Int} (h:sle l m) (x:Int):sle (l++[x]) (m++[x]):=by
 rcases h with h|⟨h,h2⟩
 ·exact .inl (by simp;omega)
 ·refine .inr ⟨by simp[h],?_⟩
  rw[ltL_app m l x x h.symm,h2];simp
theorem sle_ext (l r:List Int):sle l (l++r):=by
 cases r with
 | nil=>rw[List.append_nil];exact sle_refl l
 | cons a r=>exact .inl (by simp)
theorem slt_app {l m:List Int} (h:slt l m) (x y:Int):slt (l++[x]) (m++[y]):=by
 rcases h with h|⟨h,h2⟩
 ·exact .inl (by simp;omega)
 ·refine .inr ⟨by simp[h],?_⟩
  rw[ltL_app l m x y h,h2];rfl
theorem slt_step (l:List Int) {x y:Int} (h:x<y):slt (l++[x]) (l++[y]):=by
 refine .inr ⟨by simp,?_⟩
 rw[ltL_app l l x y rfl];simp[h]
section
variable {P:Type} {E:P→Int→P→Prop} {Bad:P→Prop} {r:P}
inductive Wk (E:P→Int→P→Prop):P→List Int→P→Prop
 | nil (t:P):Wk E t [] t
 | cons {t t2 t3:P} {st:Int} {l:List Int}:E t st t2→Wk E t2 l t3→Wk E t (st::l) t3
theorem Wk.snoc {t t2 t3:P} {st:Int} {l:List Int} (h:Wk E t l t2) (he:E t2 st t3):Wk E t (l++[st]) t3:=by
 induction h with
 | nil t=>exact .cons he (.nil _)
 | cons h1 _ ih=>exact .cons h1 (ih he)
theorem Wk.last {t t3:P} {l:List Int} (h:Wk E t l t3):l≠[]→∃m st t2,l=m++[st]∧Wk E t m t2∧E t2 st t3:=by
 induction h with
 | nil t=>intro h;exact absurd rfl h
 | @cons t t2 t3 st l h1 h2 ih =>
  intro _
  cases l with
  | nil =>
   cases h2
   exact ⟨[],st,t,rfl,.nil _,h1⟩
  | cons a l =>
   obtain ⟨m,st2,t4,e,hw,he⟩:=ih (by simp)
   exact ⟨st::m,st2,t4,by rw[e];rfl,.cons h1 hw,he⟩
theorem Wk.all {p:P→Prop} (hp:∀t,p t→∀st t',E t st t'→p t') {t t':P} {l:List Int} (h:Wk E t l t'):p t→p t':=by
 induction h with
 | nil t=>exact id
 | cons h1 _ ih=>exact fun hq=>ih (hp _ hq _ _ h1)
def Best (E:P→Int→P→Prop) (Bad:P→Prop) (r:P) (l:List Int):Prop:=(∃t,Wk E r l t∧Bad t)∧∀l' t',Wk E r l' t'→Bad t'→sle l l'
theorem Best.unique {l m:List Int} (h:Best E Bad r l) (k:Best E Bad r m):l=m:=by
 obtain ⟨⟨t,h1,h2⟩,h3⟩:=h
 obtain ⟨⟨t',k1,k2⟩,k3⟩:=k
 exact sle_antisymm (h3 m t' k1 k2) (k3 l t h1 h2)
inductive WkV (E:P→Int→P→Prop):P→List Int→List P→P→Prop
 | nil (t:P):WkV E t [] [t] t
 | cons {t t2 t3:P} {st:Int} {l:List Int} {V:List P}:E t st t2→WkV E t2 l V t3→WkV E t (st::l) (t::V) t3
theorem WkV.wk {t t2:P} {l:List Int} {V:List P} (h:WkV E t l V t2):Wk E t l t2∧V.length=l.length+1:=by
 induction h with
 | nil t=>exact ⟨.nil _,rfl⟩
 | cons h1 _ ih=>exact ⟨.cons h1 ih.1,by simp[ih.2]⟩
theorem WkV.from_ {t t2:P} {l:List Int} {V:List P} (h:WkV E t l V t2):V.Nodup→∀x∈V,∃l' V',WkV E x l' V' t2∧V'.Nodup:=by
 induction h with
 | nil t =>
  intro hn x hx
  obtain rfl:x=t:=by simpa using hx
  exact ⟨[],[x],.nil _,hn⟩
 | @cons t t2 t3 st l V h1 h2 ih =>
  intro hn x hx
  rcases List.mem_cons.1 hx with e|e
  ·subst e;exact ⟨_,_,.cons h1 h2,hn⟩
  ·exact ih (List.nodup_cons.1 hn).2 x e
theorem WkV.all {p:P→Prop} (hp:∀t,p t→∀st t',E t st t'→p t') {t t':P} {l:List Int} {V:List P} (h:WkV E t l V t'):p t→∀x∈V,p x:=by
 induction h with
 | nil t =>
  intro hq x hx
  obtain rfl:x=t:=by simpa using hx
  exact hq
 | cons h1 _ ih =>
  intro hq x hx
  rcases List.mem_cons.1 hx with e|e
  ·rw[e];exact hq
  ·exact ih (hp _ hq _ _ h1) x e
theorem Wk.nodup [DecidableEq P] {t t':P} {l:List Int} (h:Wk E t l t'):∃l' V,WkV E t l' V t'∧V.Nodup:=by
 induction h with
 | nil t=>exact ⟨[],[t],.nil _,by simp⟩
 | @cons t t2 t3 st l h1 _ ih =>
  obtain ⟨l',V,hV,hn⟩:=ih
  by_cases hm:t∈V
  ·exact hV.from_ hn t hm
  ·exact ⟨st::l',t::V,.cons h1 hV,List.nodup_cons.2 ⟨hm,hn⟩⟩
theorem Wk.short [DecidableEq P] {p:P→Prop} {n:Nat} (hp:∀t,p t→∀st t',E t st t'→p t') (hn:∀V:List P,V.Nodup→(∀x∈V,p x)→V.length≤n) {t t':P} {l:List Int} (h:Wk E t l t') (h0:p t):∃l',Wk E t l' t'∧l'.length<n:=by
 obtain ⟨l',V,hV,hd⟩:=h.nodup
 have h1:=hn V hd (hV.all hp h0)
 have h2:=hV.wk
 exact ⟨l',h2.1,by omega⟩
structure BfI (E:P→Int→P→Prop) (Bad:P→Prop) (r:P) (Q:List (List Int×P)) (i:Nat) (dn:List (Int×P)):Prop where
 head:Q[0]? = some ([],r)
 walk:∀w∈Q,Wk E r w.1 w.2
 srt:∀ (j k:Nat) v w,j<k→Q[j]? = some v→Q[k]? = some w→slt v.1 w.1
 prc:∀ (j:Nat) w st t,Q[j]? = some w→(j<i∧E w.2 st t∨j=i∧(st,t)∈dn)→∃v∈Q,v.2=t∧sle v.1 (w.1++[st])
 src:∀w∈Q,w.1=[]∨∃ (k:Nat) (v:List Int×P) (st:Int) (t:P),Q[k]? = some v∧w.1=v.1++[st]∧(k<i∨k=i∧(st,t)∈dn)
 nob:∀ (j:Nat) w,j<i→Q[j]? = some w→¬ Bad w.2
theorem BfI.init:BfI E Bad r [([],r)] 0 []:=by
 refine ⟨rfl,fun w hw=>?_,fun j k v w hjk hv hw=>?_,fun j w st t _ h=>?_,fun w hw=>?_,fun j w h=>absurd h (by omega)⟩
 ·obtain rfl:w=([],r):=by simpa using hw
  exact .nil _
 ·have:=(List.getElem?_eq_some_iff.1 hw).1
  simp at this;omega
 ·rcases h with ⟨h,_⟩|⟨_,h⟩
  ·omega
  ·cases h
 ·obtain rfl:w=([],r):=by simpa using hw
  exact .inl rfl
theorem BfI.before {Q:List (List Int×P)} {i:Nat} {dn:List (Int×P)} (h:BfI E Bad r Q i dn) {w:List Int×P} (hw:Q[i]? = some w) {st:Int} (hst:∀x∈dn,x.1<st):∀v∈Q,slt v.1 (w.1++[st]):=by
 intro v hv
 rcases h.src v hv with e|⟨k,u,s0,t0,hu,e,hk⟩
 ·rw[e];exact .inl (by simp)
 ·rw[e]
  rcases hk with hk|⟨hk,hm⟩
  ·exact slt_app (h.srt k i u w hk hu hw) _ _
  ·subst hk
   obtain rfl:u=w:=Option.some.inj (hu.symm.trans hw)
   exact slt_step _ (hst _ hm)
theorem BfI.old {Q:List (List Int×P)} {i:Nat} {dn:List (Int×P)} (h:BfI E Bad r Q i dn) {w:List Int×P} (hw:Q[i]? = some w) {st:Int} {t:P} (hst:∀x∈dn,x.1<st) (ht:∃u∈Q,u.2=t):BfI E Bad r Q i (dn++[(st,t)]):=by
 refine ⟨h.head,h.walk,h.srt,fun j v s1 t1 hv hp=>?_,fun v hv=>?_,h.nob⟩
 ·rcases hp with hp|⟨hj,hm⟩
  ·exact h.prc j v s1 t1 hv (.inl hp)
  ·rcases List.mem_append.1 hm with hm|hm
   ·exact h.prc j v s1 t1 hv (.inr ⟨hj,hm⟩)
   ·obtain ⟨rfl,rfl⟩:s1=st∧t1=t:=by simpa using hm
    subst hj
    obtain rfl:v=w:=Option.some.inj (hv.symm.trans hw)
    obtain ⟨u,hu,e⟩:=ht
    exact ⟨u,hu,e,sle_of_slt (h.before hw hst u hu)⟩
 ·rcases h.src v hv with e|⟨k,u,s0,t0,hu,e,hk⟩
  ·exact .inl e
  ·exact .inr ⟨k,u,s0,t0,hu,e,hk.imp id fun hk=>⟨hk.1,List.mem_append_left _ hk.2⟩⟩
theorem get_snoc {α:Type} {l:List α} {x y:α} {j:Nat} (h:(l++[x])[j]? = some y):l[j]? = some y∨(j=l.length∧y=x):=by
 by_cases hj:j<l.length
 ·rw[List.getElem?_append_left hj] at h;exact .inl h
 ·have:=(List.getElem?_eq_some_iff.1 h).1
  simp at this
  have e:j=l.length:=by omega
  subst e
  simp at h
  exact .inr ⟨rfl,h.symm⟩
theorem BfI.new {Q:List (List Int×P)} {i:Nat} {dn:List (Int×P)} (h:BfI E Bad r Q i dn) {w:List Int×P} (hw:Q[i]? = some w) {st:Int} {t:P} (he:E w.2 st t) (hst:∀x∈dn,x.1<st):BfI E Bad r (Q++[(w.1++[st],t)]) i (dn++[(st,t)]):=by
 have hil:i<Q.length:=(List.getElem?_eq_some_iff.1 hw).1
 have hwm:=List.mem_of_getElem? hw
 have hlift:∀ {k:Nat} {v:List Int×P},Q[k]? = some v→(Q++[(w.1++[st],t)])[k]? = some v:=fun {k v} hv=>by
  rw[List.getElem?_append_left (List.getElem?_eq_some_iff.1 hv).1];exact hv
 refine ⟨hlift h.head,fun v hv=>?_,fun j k u v hjk hu hv=>?_,fun j v s1 t1 hv hp=>?_,fun v hv=>?_,fun j v hj hv=>?_⟩
 ·rcases List.mem_append.1 hv with hv|hv
  ·exact h.walk v hv
  ·obtain rfl:v=(w.1++[st],t):=by simpa using hv
   exact (h.walk w hwm).snoc he
 ·rcases get_snoc hv with hv'|⟨e1,e2⟩
  ·have hk:=(List.getElem?_eq_some_iff.1 hv').1
   rcases get_snoc hu with hu'|⟨e1,_⟩
   ·exact h.srt j k u v hjk hu' hv'
   ·omega
  ·rcases get_snoc hu with hu'|⟨e3,_⟩
   ·rw[e2];exact h.before hw hst u (List.mem_of_getElem? hu')
   ·omega
 ·have hv':Q[j]? = some v:=by
   rcases get_snoc hv with hv'|⟨e1,_⟩
   ·exact hv'
   ·rcases hp with hp|hp
    ·omega
    ·omega
  rcases hp with hp|⟨hj,hm⟩
  ·obtain ⟨u,h1,h2⟩:=h.prc j v s1 t1 hv' (.inl hp)
   exact ⟨u,List.mem_append_left _ h1,h2⟩
  ·rcases List.mem_append.1 hm with hm|hm
   ·obtain ⟨u,h1,h2⟩:=h.prc j v s1 t1 hv' (.inr ⟨hj,hm⟩)
    exact ⟨u,List.mem_append_left _ h1,h2⟩
   ·obtain ⟨rfl,rfl⟩:s1=st∧t1=t:=by simpa using hm
    subst hj
    obtain rfl:v=w:=Option.some.inj (hv'.symm.trans hw)
    exact ⟨(v.1++[s1],t1),by simp,rfl,sle_refl _⟩
 ·rcases List.mem_append.1 hv with hv|hv
  ·rcases h.src v hv with e|⟨k,u,s0,t0,hu,e,hk⟩
   ·exact .inl e
   ·exact .inr ⟨k,u,s0,t0,hlift hu,e,hk.imp id fun hk=>⟨hk.1,List.mem_append_left _ hk.2⟩⟩
  ·obtain rfl:v=(w.1++[st],t):=by simpa using hv
   exact .inr ⟨i,w,st,t,hlift hw,rfl,.inr ⟨rfl,by simp⟩⟩
 ·rcases get_snoc hv with hv'|⟨e1,_⟩
  ·exact h.nob j v hj hv'
  ·omega
theorem BfI.next {Q:List (List Int×P)} {i:Nat} {dn:List (Int×P)} (h:BfI E Bad r Q i dn) {w:List Int×P} (hw:Q[i]? = some w) (hb:¬ Bad w.2) (hd:∀st t,E w.2 st t→(st,t)∈dn):BfI E Bad r Q (i+1) []:=by
 refine ⟨h.head,h.walk,h.srt,fun j v s1 t1 hv hp=>?_,fun v hv=>?_,fun j v hj hv=>?_⟩
 ·rcases hp with ⟨hj,he⟩|⟨_,hm⟩
  ·by_cases e:j=i
   ·subst e
    obtain rfl:v=w:=Option.some.inj (hv.symm.trans hw)
    exact h.prc j v s1 t1 hv (.inr ⟨rfl,hd _ _ he⟩)
   ·exact h.prc j v s1 t1 hv (.inl ⟨by omega,he⟩)
  ·cases hm
 ·rcases h.src v hv with e|⟨k,u,s0,t0,hu,e,hk⟩
  ·exact .inl e
  ·exact .inr ⟨k,u,s0,t0,hu,e,.inl (by rcases hk with hk|hk <;> omega)⟩
 ·by_cases e:j=i
  ·subst e
   obtain rfl:v=w:=Option.some.inj (hv.symm.trans hw)
   exact hb
  ·exact h.nob j v (by omega) hv
theorem BfI.cont {Q:List (List Int×P)} {i:Nat} (h:BfI E Bad r Q i []) {t2 t:P} {l2:List Int} (hk:Wk E t2 l2 t):∀ (l1:List Int) (j:Nat) w,Q[j]? = some w→w.2=t2→sle w.1 l1→(∃v∈Q,v.2=t∧sle v.1 (l1++l2))∨∃ (j':Nat) (w':List Int×P),i≤j'∧Q[j']? = some w'∧sle w'.1 (l1++l2):=by
 induction hk with
 | nil t =>
  intro l1 j w hw e hs
  exact .inl ⟨w,List.mem_of_getElem? hw,e,by rw[List.append_nil];exact hs⟩
 | @cons t t2 t3 st l h1 _ ih =>
  intro l1 j w hw e hs
  by_cases hj:i≤j
  ·exact .inr ⟨j,w,hj,hw,sle_trans hs (sle_ext _ _)⟩
  ·obtain ⟨v,hv,e2,hs2⟩:=h.prc j w st t2 hw (.inl ⟨by omega,by rw[e];exact h1⟩)
   obtain ⟨k,hk,rfl⟩:=List.getElem_of_mem hv
   have:=ih (l1++[st]) k _ (zl hk) e2 (sle_trans hs2 (sle_app hs st))
   rw[List.append_assoc] at this
   exact this
theorem BfI.bad {Q:List (List Int×P)} {i:Nat} (h:BfI E Bad r Q i []) {w:List Int×P} (hw:Q[i]? = some w) (hb:Bad w.2):Best E Bad r w.1:=by
 refine ⟨⟨w.2,h.walk w (List.mem_of_getElem? hw),hb⟩,fun l t hl ht=>?_⟩
 have key:∀ (j:Nat) v,i≤j→Q[j]? = some v→sle w.1 v.1:=fun j v hj hv=>by
  by_cases e:j=i
  ·subst e
   obtain rfl:v=w:=Option.some.inj (hv.symm.trans hw)
   exact sle_refl _
  ·exact sle_of_slt (h.srt i j w v (by omega) hw hv)
 rcases h.cont hl [] 0 _ h.head rfl (sle_refl _) with ⟨v,hv,e,hs⟩|⟨j,v,hj,hv,hs⟩
 ·obtain ⟨k,hk,rfl⟩:=List.getElem_of_mem hv
  have hki:i≤k:=by
   rcases Nat.lt_or_ge k i with hlt|hge
   ·exact absurd (by rw[e];exact ht) (h.nob k _ hlt (zl hk))
   ·exact hge
  exact sle_trans (key k _ hki (zl hk)) hs
 ·exact sle_trans (key j v hj hv) hs
theorem BfI.safe {Q:List (List Int×P)} {i:Nat} (h:BfI E Bad r Q i []) (hi:Q.length≤i):∀l t,Wk E r l t→¬ Bad t:=by
 intro l t hl ht
 rcases h.cont hl [] 0 _ h.head rfl (sle_refl _) with ⟨v,hv,e,_⟩|⟨j,v,hj,hv,_⟩
 ·obtain ⟨k,hk,rfl⟩:=List.getElem_of_mem hv
  exact h.nob k _ (by omega) (zl hk) (by rw[e];exact ht)
 ·have:=(List.getElem?_eq_some_iff.1 hv).1
  omega
end
def NxE (a b:List TyD) (t:Int×Int) (st:Int) (t':Int×Int):Prop:=zM false (tyAt a t.1) (tyAt b t.2)=true∧(st,t'.1)∈usesD (tyAt a t.1)∧(st,t'.2)∈usesD (tyAt b t.2)
def BadP (a b:List TyD) (t:Int×Int):Prop:=zM false (tyAt a t.1) (tyAt b t.2)=false
theorem ids_asc:∀ (L:List (Int×ByteArray)) (b:Int) (K:List ByteArray),idsOk b K L=true→(∀x∈L,b<x.1∧1≤x.1)∧(L.map (·.1)).Pairwise (· < ·)
 | [],_,_,_=>⟨fun _ h=>(by cases h),List.Pairwise.nil⟩
 | x::L,b,K,h=>by
  rw[idsOk] at h
  simp only[Bool.and_eq_true,decide_eq_true_eq] at h
  obtain ⟨⟨⟨⟨⟨h1,h2⟩,h3⟩,h4⟩,h5⟩,h6⟩:=h
  obtain ⟨i1,i2⟩:=ids_asc L x.1 _ h6
  refine ⟨fun y hy=>?_,?_⟩
  ·rcases List.mem_cons.1 hy with e|e
   ·rw[e];exact ⟨h3,h1⟩
   ·have:=i1 y e;exact ⟨by omega,this.2⟩
  ·rw[List.map_cons]
   refine List.Pairwise.cons (fun y hy=>?_) i2
   obtain ⟨z,hz,rfl⟩:=List.mem_map.1 hy
   exact (i1 z hz).1
theorem form_steps {t:TyD} (h:formD t=true):((usesD t).map (·.1)).Nodup:=by
 have hf:=h
 unfold formD at h
 simp only[Bool.and_eq_true,decide_eq_true_eq] at h
 obtain ⟨⟨⟨⟨h1,h2⟩,h3⟩,h4⟩,h5⟩:=h
 have hm:t.kind≠5→t.kind≠6→t.mems=[]:=fun hk hk6=>by
  rw[h3];unfold zT
  simp only[hk,hk6,if_false]
  repeat' split
  all_goals rfl
 by_cases hk:t.kind=5∨t.kind=6
 ·have h6:∃r,memsD r t.mems=true:=by
   unfold caseD at h5
   rcases hk with hk|hk
   ·simp only[hk] at h5
    exact ⟨true,by simpa using h5⟩
   ·simp only[hk] at h5
    exact ⟨false,by simpa using h5⟩
  obtain ⟨r,h6⟩:=h6
  unfold memsD idsD at h6
  simp only[Bool.and_eq_true] at h6
  have:=(ids_asc _ _ _ h6.1.2.1).2
  rw[List.map_map] at this
  have hu:usesD t=t.mems.map fun m=>(m.id,m.type):=by
   unfold usesD
   rcases hk with hk|hk <;> simp[hk]
  rw[hu,List.map_map]
  refine this.imp fun {x y} h=>?_
  exact fun e=>by rw[show x=y from e] at h;omega
 ·have hm':=hm (fun e=>hk (.inl e)) (fun e=>hk (.inr e))
  unfold usesD
  rw[hm']
  by_cases k8:t.kind=8
  ·simp[k8]
  ·by_cases k7:t.kind=7∨t.kind=9
   ·simp[k8,k7]
   ·simp[k8,k7]
theorem step_place {l m:List (Int×Int)} (hs:l.map (·.1)=m.map (·.1)) (hn:(l.map (·.1)).Nodup) {i j:Nat} (hi:i<l.length) (hj:j<m.length) (he:(l[i]).1=(m[j]).1):i=j:=by
 have hlen:l.length=m.length:=by simpa using congrArg List.length hs
 have h1:(l.map (·.1))[i]'(by simpa using hi)=(l.map (·.1))[j]'(by simpa using (by omega:j<l.length)):=by
  have h2:(l.map (·.1))[j]'(by simpa using (by omega:j<l.length))=(m.map (·.1))[j]'(by simpa using hj):=by simp only[hs]
  rw[h2];simpa using he
 exact nodup_inj hn (by simpa using hi) (by simpa using (by omega:j<l.length)) h1
theorem usesOk_at {R:Nat→Nat→Bool}:∀ {l m:List (Int×Int)},zR R l m=true→∀ {i:Nat} (hi:i<l.length) (hj:i<m.length),R (l[i]).2.toNat (m[i]).2.toNat=true
 | [],_,_,_,hi,_=>absurd hi (by simp)
 | _::_,[],h,_,_,_=>by simp[zR] at h
 | u::l,v::m,h,i,hi,hj=>by
  simp only[zR,Bool.and_eq_true] at h
  cases i with
  | zero=>exact h.1
  | succ i=>exact usesOk_at h.2 (by simpa using hi) (by simpa using hj)
theorem usesOk_of {R:Nat→Nat→Bool}:∀ {l m:List (Int×Int)},l.length=m.length→(∀ {i:Nat} (hi:i<l.length) (hj:i<m.length),R (l[i]).2.toNat (m[i]).2.toNat=true)→zR R l m=true
 | [],[],_,_=>rfl
 | [],_::_,h,_=>by simp at h
 | _::_,[],h,_=>by simp at h
 | u::l,v::m,h,k=>by
  simp only[zR,Bool.and_eq_true]
  exact ⟨k (i:=0) (by simp) (by simp),usesOk_of (by simpa using h) fun {i} hi hj=>k (i:=i+1) (by simpa using hi) (by simpa using hj)⟩
section
variable {a b:List TyD} {ta tb:Int}
def InP (a b:List TyD) (t:Int×Int):Prop:=(0≤t.1∧t.1<(a.length:Int))∧0≤t.2∧t.2<(b.length:Int)
theorem inP_next (hua:InR a) (hub:InR b):∀t,InP a b t→∀st t',NxE a b t st t'→InP a b t':=fun _ ht st t' he =>
 ⟨uses_range (u:=(st,t'.1)) hua ht.1.1 ht.1.2 he.2.1,uses_range (u:=(st,t'.2)) hub ht.2.1 ht.2.2 he.2.2⟩
theorem pairs_len (V:List (Int×Int)) (hn:V.Nodup) (hp:∀x∈V,InP a b x):V.length≤a.length * b.length:=by
 have h1:(V.map fun t=>t.1 * (b.length:Int)+t.2).Nodup:=by
  rw[List.nodup_iff_pairwise_ne] at hn ⊢
  rw[List.pairwise_map]
  refine List.Pairwise.imp_of_mem ?_ hn
  intro x y hx hy hne e
  obtain ⟨⟨h1,h2⟩,h3,h4⟩:=hp x hx
  obtain ⟨⟨k1,k2⟩,k3,k4⟩:=hp y hy
  apply hne
  have e1:x.1=y.1:=by
   rcases Int.lt_trichotomy x.1 y.1 with h|h|h
   ·exfalso
    have:(x.1+1) * (b.length:Int)≤y.1 * (b.length:Int):=Int.mul_le_mul_of_nonneg_right (by omega) (by omega)
    rw[Int.add_mul] at this;omega
   ·exact h
   ·exfalso
    have:(y.1+1) * (b.length:Int)≤x.1 * (b.length:Int):=Int.mul_le_mul_of_nonneg_right (by omega) (by omega)
    rw[Int.add_mul] at this;omega
  have e2:x.2=y.2:=by rw[e1] at e;omega
  exact Prod.ext e1 e2
 have h2:=nodup_len (a.length * b.length) _ h1 fun c hc=>by
  obtain ⟨x,hx,rfl⟩:=List.mem_map.1 hc
  obtain ⟨⟨h1,h2⟩,h3,h4⟩:=hp x hx
  have hb1:0≤x.1 * (b.length:Int):=Int.mul_nonneg h1 (by omega)
  have hb2:(x.1+1) * (b.length:Int)≤(a.length:Int) * (b.length:Int):=Int.mul_le_mul_of_nonneg_right (by omega) (by omega)
  rw[Int.add_mul] at hb2
  refine ⟨by omega,?_⟩
  rw[Int.natCast_mul];omega
 rwa [List.length_map] at h2
theorem wire_iff (hva:zQ a=0) (hvb:zQ b=0) (h0:InP a b (ta,tb)) {U:Nat→Nat→Bool} (hU:Eqv a b U):U ta.toNat tb.toNat=true↔∀l t,Wk (NxE a b) (ta,tb) l t→¬ BadP a b t:=by
 have hua:=yL hva
 have hub:=yL hvb
 have hmem:∀ {s:List TyD} {c:Int},0≤c→c<(s.length:Int)→tyAt s c∈s∧s[c.toNat]? = some (tyAt s c):=fun {s c} h1 h2=>by
  have:c.toNat<s.length:=by omega
  refine ⟨?_,?_⟩
  ·unfold tyAt
   rw[List.getD_eq_getElem?_getD,zl this];exact List.getElem_mem this
  ·unfold tyAt
   rw[List.getD_eq_getElem?_getD,zl this];rfl
 constructor
 ·intro hs l t hw
  have hp:∀t:Int×Int,(InP a b t∧U t.1.toNat t.2.toNat=true)→∀st t',NxE a b t st t'→(InP a b t'∧U t'.1.toNat t'.2.toNat=true):=by
   intro t ⟨hin,hu⟩ st t' he
   refine ⟨inP_next hua hub t hin st t' he,?_⟩
   obtain ⟨x,y,hx,hy,hal,hok⟩:=closed_lt hU.closed hu
   rw[(hmem hin.1.1 hin.1.2).2] at hx
   rw[(hmem hin.2.1 hin.2.2).2] at hy
   obtain rfl:=Option.some.inj hx
   obtain rfl:=Option.some.inj hy
   obtain ⟨_,h1,h2⟩:=he
   obtain ⟨i,hi,e1⟩:=List.getElem_of_mem h1
   obtain ⟨j,hj,e2⟩:=List.getElem_of_mem h2
   have hst:=alikeD_uses hal
   have hnd:=form_steps (valid_tys hva (hmem hin.1.1 hin.1.2).1).1
   have hij:=step_place hst hnd hi hj (by rw[e1,e2])
   subst hij
   have:=usesOk_at hok hi hj
   rw[e1,e2] at this
   exact this
  have:=(Wk.all hp hw ⟨h0,hs⟩)
  obtain ⟨x,y,hx,hy,hal,_⟩:=closed_lt hU.closed this.2
  rw[(hmem this.1.1.1 this.1.1.2).2] at hx
  rw[(hmem this.1.2.1 this.1.2.2).2] at hy
  obtain rfl:=Option.some.inj hx
  obtain rfl:=Option.some.inj hy
  intro hb
  unfold BadP at hb
  rw[hal] at hb;cases hb
 ·intro hno
  open Classical in
  refine hU.top (fun i k=>decide (∃l,Wk (NxE a b) (ta,tb) l ((i:Int),(k:Int)))) (fun i k hik=>?_) _ _ ?_
  ·obtain ⟨l,hw⟩:=of_decide_eq_true hik
   have hin:=Wk.all (inP_next hua hub) hw h0
   have hal:zM false (tyAt a (i:Int)) (tyAt b (k:Int))=true:=by
    have:=hno l _ hw
    unfold BadP at this
    simpa using this
   have hx:=(hmem hin.1.1 hin.1.2).2
   have hy:=(hmem hin.2.1 hin.2.2).2
   simp only[Int.toNat_natCast] at hx hy
   unfold alD okD
   rw[hx,hy]
   refine ⟨hal,?_⟩
   have hst:=alikeD_uses hal
   have hlen:(usesD (tyAt a (i:Int))).length=(usesD (tyAt b (k:Int))).length:=by simpa using congrArg List.length hst
   refine usesOk_of hlen fun {j} h1 h2=>decide_eq_true ?_
   have hr1:=(uses_range hua hin.1.1 hin.1.2 (List.getElem_mem h1)).1
   have hr2:=(uses_range hub hin.2.1 hin.2.2 (List.getElem_mem h2)).1
   have hsj:((usesD (tyAt a (i:Int)))[j]).1=((usesD (tyAt b (k:Int)))[j]).1:=by
    have:=congrArg (fun l=>l[j]?) hst
    simpa[h1,h2] using this
   refine ⟨l++[((usesD (tyAt a (i:Int)))[j]).1],hw.snoc ⟨hal,?_,?_⟩⟩
   ·simp only
    rw[Int.toNat_of_nonneg hr1];exact List.getElem_mem h1
   ·simp only
    rw[Int.toNat_of_nonneg hr2,hsj];exact List.getElem_mem h2
  ·refine decide_eq_true ⟨[],?_⟩
   rw[Int.toNat_of_nonneg h0.1.1,Int.toNat_of_nonneg h0.2.1]
   exact .nil _
end
def DistIs (a:List TyD) (ta:Int) (b:List TyD) (tb:Int) (l:List Int) (e:Int):Prop :=
 if zH a ta≠0 then e=zH a ta∧l=[]
 else if zH b tb≠0 then e=zH b tb∧l=[]
 else (e=0∧Best (NxE a b) (BadP a b) (ta,tb) l)∨(e=15∧l=[]∧∀l t,Wk (NxE a b) (ta,tb) l t→¬ BadP a b t)
theorem DistIs.unique {a:List TyD} {ta:Int} {b:List TyD} {tb:Int} {l m:List Int} {e f:Int} (h:DistIs a ta b tb l e) (k:DistIs a ta b tb m f):l=m∧e=f:=by
 unfold DistIs at h k
 split at h
 ·rename_i h1
  rw[if_pos h1] at k
  exact ⟨h.2.trans k.2.symm,h.1.trans k.1.symm⟩
 ·rename_i h1
  rw[if_neg h1] at k
  split at h
  ·rename_i h2
   rw[if_pos h2] at k
   exact ⟨h.2.trans k.2.symm,h.1.trans k.1.symm⟩
  ·rename_i h2
   rw[if_neg h2] at k
   rcases h with ⟨h3,h4⟩|⟨h3,h4,h5⟩ <;> rcases k with ⟨k3,k4⟩|⟨k3,k4,k5⟩
   ·exact ⟨h4.unique k4,h3.trans k3.symm⟩
   ·obtain ⟨⟨t,hw,hb⟩,_⟩:=h4
    exact absurd hb (k5 _ _ hw)
   ·obtain ⟨⟨t,hw,hb⟩,_⟩:=k4
    exact absurd hb (h5 _ _ hw)
   ·exact ⟨h4.trans k4.symm,h3.trans k3.symm⟩
theorem sorted_unique:∀ {l m:List Int},l.Pairwise (· < ·)→m.Pairwise (· < ·)→(∀x,x∈l↔x∈m)→l=m
 | [],[],_,_,_=>rfl
 | [],b::m,_,_,h=>absurd ((h b).2 List.mem_cons_self) (by simp)
 | a::l,[],_,_,h=>absurd ((h a).1 List.mem_cons_self) (by simp)
 | a::l,b::m,hl,hm,h=>by
  rw[List.pairwise_cons] at hl hm
  have e:a=b:=by
   rcases List.mem_cons.1 ((h a).1 List.mem_cons_self) with e|e
   ·exact e
   ·rcases List.mem_cons.1 ((h b).2 List.mem_cons_self) with e2|e2
    ·exact e2.symm
    ·have h1:=hl.1 b e2
     have h2:=hm.1 a e
     omega
  subst e
  rw[sorted_unique hl.2 hm.2 fun x=>?_]
  constructor
  ·intro hx
   rcases List.mem_cons.1 ((h x).1 (List.mem_cons_of_mem _ hx)) with e|e
   ·have:=hl.1 x hx;omega
   ·exact e
  ·intro hx
   rcases List.mem_cons.1 ((h x).2 (List.mem_cons_of_mem _ hx)) with e|e
   ·have:=hm.1 x hx;omega
   ·exact e
def zipU (L M:List (Int×Int)):List (Int×(Int×Int)):=List.zipWith (fun u v=>(u.1,(u.2,v.2))) L M
theorem zipU_len {L M:List (Int×Int)} (h:L.length=M.length):(zipU L M).length=L.length:=by simp[zipU,h]
theorem zipU_get {L M:List (Int×Int)} {i:Nat} (h1:i<L.length) (h2:i<M.length) (h:i<(zipU L M).length):(zipU L M)[i]=((L[i]).1,((L[i]).2,(M[i]).2)):=by
 apply Option.some.inj
 rw[←zl h]
 unfold zipU
 rw[List.getElem?_zipWith,zl h1,zl h2]
theorem strict_of {l u:List (Int×Int)} (hp:l.Perm u) (hn:(u.map (·.1)).Nodup) (hs:l.Pairwise fun a b=>¬ b.1<a.1):(l.map (·.1)).Pairwise (· < ·):=by
 have hn':(l.map (·.1)).Nodup:=(hp.map (·.1)).nodup_iff.2 hn
 rw[List.pairwise_map]
 rw[List.Nodup,List.pairwise_map] at hn'
 refine (hs.and hn').imp fun {a b} h=>?_
 have:=h.1
 have:=h.2
 omega
theorem uses_few {t:TyD} (h:formD t=true):(usesD t).length≤1000000:=by
 have hm:t.mems.length≤16:=by
  unfold formD at h
  simp only[Bool.and_eq_true,decide_eq_true_eq] at h
  obtain ⟨⟨⟨⟨h1,h2⟩,h3⟩,h4⟩,h5⟩:=h
  by_cases hk:t.kind=5∨t.kind=6
  ·have h6:∃r,memsD r t.mems=true:=by
    unfold caseD at h5
    rcases hk with hk|hk
    ·simp only[hk] at h5
     exact ⟨true,by simpa using h5⟩
    ·simp only[hk] at h5
     exact ⟨false,by simpa using h5⟩
   obtain ⟨r,h6⟩:=h6
   unfold memsD idsD at h6
   simp only[Bool.and_eq_true,decide_eq_true_eq,List.length_map] at h6
   exact h6.1.2.2
  ·have hm':t.mems=[]:=by
    have k5:¬ t.kind=5:=fun e=>hk (.inl e)
    have k6:¬ t.kind=6:=fun e=>hk (.inr e)
    rw[h3];unfold zT
    simp only[k5,k6,if_false]
    repeat' split
    all_goals rfl
   rw[hm'];simp
 unfold usesD
 rw[List.length_append,List.length_map]
 split
 ·simp;omega
 ·split
  ·simp;omega
  ·simp;omega
section
variable {a b:List TyD} {t:Int×Int} {L M:List (Int×Int)}
structure ZipOk (a b:List TyD) (t:Int×Int) (L M:List (Int×Int)):Prop where
 len:L.length=M.length
 nx:∀i (h:i<(zipU L M).length),NxE a b t ((zipU L M)[i]).1 ((zipU L M)[i]).2
 asc:∀i j (h:j<(zipU L M).length) (hij:i<j),((zipU L M)[i]'(by omega)).1<((zipU L M)[j]).1
 all:∀st t',NxE a b t st t'→(st,t')∈zipU L M
theorem zip_ok (hal:zM false (tyAt a t.1) (tyAt b t.2)=true) (hx:formD (tyAt a t.1)=true) (hy:formD (tyAt b t.2)=true) (hL:L.Perm (usesD (tyAt a t.1))) (hM:M.Perm (usesD (tyAt b t.2))) (sL:L.Pairwise fun a b=>¬ b.1<a.1) (sM:M.Pairwise fun a b=>¬ b.1<a.1):ZipOk a b t L M:=by
 have st:=alikeD_uses hal
 have aL:=strict_of hL (form_steps hx) sL
 have aM:=strict_of hM (form_steps hy) sM
 have hst:L.map (·.1)=M.map (·.1):=sorted_unique aL aM fun x=>by
  rw[(hL.map (·.1)).mem_iff,(hM.map (·.1)).mem_iff,st]
 have hlen:L.length=M.length:=by simpa using congrArg List.length hst
 have hat:∀i (h1:i<L.length) (h2:i<M.length),(L[i]).1=(M[i]).1:=fun i h1 h2=>by
  have:=congrArg (fun l=>l[i]?) hst
  simpa[h1,h2] using this
 refine ⟨hlen,fun i h=>?_,fun i j h hij=>?_,fun s0 t' he=>?_⟩
 ·have h1:i<L.length:=by rw[zipU_len hlen] at h;exact h
  have h2:i<M.length:=by omega
  rw[zipU_get h1 h2]
  refine ⟨hal,hL.mem_iff.1 (List.getElem_mem h1),?_⟩
  simp only
  rw[hat i h1 h2]
  exact hM.mem_iff.1 (List.getElem_mem h2)
 ·have h1:j<L.length:=by rw[zipU_len hlen] at h;exact h
  rw[zipU_get (by omega) (by omega),zipU_get h1 (by omega)]
  have:=List.pairwise_iff_getElem.1 aL i j (by simp;omega) (by simpa using h1) hij
  simpa using this
 ·obtain ⟨_,h1,h2⟩:=he
  obtain ⟨i,hi,e1⟩:=List.getElem_of_mem (hL.mem_iff.2 h1)
  obtain ⟨j,hj,e2⟩:=List.getElem_of_mem (hM.mem_iff.2 h2)
  have hnd:(L.map (·.1)).Nodup:=(hL.map (·.1)).nodup_iff.2 (form_steps hx)
  have hij:=step_place hst hnd hi hj (by rw[e1,e2])
  subst hij
  have hz:i<(zipU L M).length:=by rw[zipU_len hlen];exact hi
  have:(zipU L M)[i]=(s0,t'):=by rw[zipU_get hi hj,e1,e2]
  rw[←this]
  exact List.getElem_mem hz
end
def gM (al:Nat→Nat→Bool) (n m i k:Nat):List (List Bool):=(fillM al n m i 0).set i ((List.range k).map (al i)++List.replicate (m - k) false)
def setB (M:List (List Bool)) (i k:Nat) (v:Bool):List (List Bool):=M.set i ((M.getD i []).set k v)
theorem gM_len (al:Nat→Nat→Bool) (n m i k:Nat):(gM al n m i k).length=n:=by simp[gM,fillM]
theorem gM_row (al:Nat→Nat→Bool) {n m i k:Nat} (_hi:i<n) (h:i<(gM al n m i k).length):(gM al n m i k)[i]=(List.range k).map (al i)++List.replicate (m - k) false:=by
 simp[gM]
theorem gM_rowlen (al:Nat→Nat→Bool) {n m i k:Nat} (hi:i<n) (hk:k≤m) (h:i<(gM al n m i k).length):((gM al n m i k)[i]).length=m:=by
 rw[gM_row al hi];simp;omega
theorem set_mid {α:Type}:∀ (l r:List α) (a b:α),(l++a::r).set l.length b=l++b::r
 | [],_,_,_=>rfl
 | x::l,r,a,b=>by simp[set_mid l r a b]
theorem gM_set (al:Nat→Nat→Bool) {n m i k:Nat} (hi:i<n) (hk:k<m):setB (gM al n m i k) i k (al i k)=gM al n m i (k+1):=by
 unfold setB
 have h:i<(gM al n m i k).length:=by rw[gM_len];exact hi
 rw[List.getD_eq_getElem?_getD,zl h,Option.getD_some,gM_row al hi]
 unfold gM
 rw[List.set_set]
 congr 1
 obtain ⟨d,hd⟩:∃d,m - k=d+1:=⟨m - k - 1,by omega⟩
 rw[hd,List.replicate_succ,show m - (k+1)=d by omega,List.range_succ,List.map_append]
 have:=set_mid ((List.range k).map (al i)) (List.replicate d false) false (al i k)
 rw[List.length_map,List.length_range] at this
 rw[this];simp
theorem gM_full (al:Nat→Nat→Bool) {n m i:Nat} (hi:i<n):gM al n m i m=fillM al n m (i+1) 0:=by
 rw[←fillM_row]
 unfold gM
 apply List.ext_getElem
 ·simp[fillM]
 ·intro j h1 h2
  have hj:j<n:=by simpa[fillM] using h2
  by_cases e:j=i
  ·subst e
   rw[List.getElem_set_self,fillM_get al hj,if_neg (by omega),if_pos rfl];simp
  ·rw[List.getElem_set_ne (fun e2=>e e2.symm),fillM_get al hj,fillM_get al hj]
   by_cases h:j<i
   ·rw[if_pos h,if_pos h]
   ·rw[if_neg h,if_neg h,if_neg e,if_neg e]
def refT (n:Nat) (ix:Int→Int) (t:TyD):TyD :=
 ⟨t.kind,if zU t.kind then nameN 84 n else ⟨#[]⟩,t.low,t.high,t.max,t.syms.map fun x=>{ x with name:=nameN 115 x.id },t.mems.map fun m=>{ m with name:=nameN 102 m.id,type:=ix m.type },if t.kind=8 then ix t.key else 0,if t.kind=8∨t.kind=7∨t.kind=9 then ix t.elem else 0,t.open_⟩
theorem ref_ren {t:TyD} (h:formD t=true) (n:Nat) (ix:Int→Int):refT n ix t=renD n ix t:=by
 have hn:=form_name h
 unfold formD at h
 simp only[Bool.and_eq_true,decide_eq_true_eq] at h
 obtain ⟨⟨⟨⟨h1,h2⟩,h3⟩,h4⟩,h5⟩:=h
 have hk:t.kind≠8→t.key=0:=fun hk=>by
  rw[h3];unfold zT
  simp only[hk,if_false]
  repeat' split
  all_goals rfl
 have he:¬ (t.kind=8∨t.kind=7∨t.kind=9)→t.elem=0:=fun hk=>by
  have k8:¬ t.kind=8:=fun e=>hk (.inl e)
  have k7:¬ t.kind=7:=fun e=>hk (.inr (.inl e))
  have k9:¬ t.kind=9:=fun e=>hk (.inr (.inr e))
  have hks:t.kind=1∨t.kind=2∨t.kind=3∨t.kind=4∨t.kind=5∨t.kind=6:=by omega
  rw[h3];unfold zT
  rcases hks with e|e|e|e|e|e <;> rw[e] <;> rfl
 unfold refT renD
 have a1:(if zU t.kind then nameN 84 n else (⟨#[]⟩:ByteArray))=if t.name=⟨#[]⟩ then t.name else nameN 84 n:=by
  cases hc:zU t.kind with
  | true=>rw[if_pos rfl,if_neg (fun e=>by rw[hn.1 e] at hc;cases hc)]
  | false=>rw[if_neg (by simp),if_pos (hn.2 hc)];exact (hn.2 hc).symm
 have a2:(if t.kind=8 then ix t.key else 0)=if t.kind=8 then ix t.key else t.key:=by
  by_cases hc:t.kind=8
  ·rw[if_pos hc,if_pos hc]
  ·rw[if_neg hc,if_neg hc,hk hc]
 have a3:(if t.kind=8∨t.kind=7∨t.kind=9 then ix t.elem else 0)=if t.kind=8∨t.kind=7∨t.kind=9 then ix t.elem else t.elem:=by
  by_cases hc:t.kind=8∨t.kind=7∨t.kind=9
  ·rw[if_pos hc,if_pos hc]
  ·rw[if_neg hc,if_neg hc,he hc]
 rw[a1,a2,a3]
section
variable {P:Type} [DecidableEq P]
def putD:List (List Int×P)→List Int×P→List (List Int×P)
 | [],w=>[w]
 | v::r,w=>if v.2=w.2 then (if ltL w.1 v.1 then w::r else v::r) else v::putD r w
theorem putD_at:∀ (l:List (List Int×P)) (w:List Int×P) (i:Nat) (hi:i<l.length),(∀j (hj:j<i),(l[j]'(by omega)).2≠w.2)→(l[i]).2=w.2→putD l w=if ltL w.1 (l[i]).1 then l.set i w else l
 | [],_,_,hi,_,_=>absurd hi (by simp)
 | v::r,w,0,_,_,he=>by
  rw[List.getElem_cons_zero] at he
  rw[putD,if_pos he];rfl
 | v::r,w,i+1,hi,hn,he=>by
  have h0:v.2≠w.2:=hn 0 (by omega)
  rw[putD,if_neg h0]
  have:=putD_at r w i (by simpa using hi) (fun j hj=>by simpa using hn (j+1) (by omega)) (by simpa using he)
  rw[this,List.getElem_cons_succ]
  split
  ·rw[List.set_cons_succ]
  ·rfl
theorem putD_no:∀ (l:List (List Int×P)) (w:List Int×P),(∀j (hj:j<l.length),(l[j]).2≠w.2)→putD l w=l++[w]
 | [],_,_=>rfl
 | v::r,w,hn=>by
  have h0:v.2≠w.2:=hn 0 (by simp)
  rw[putD,if_neg h0,putD_no r w (fun j hj=>by
   have:=hn (j+1) (by simpa using hj)
   rwa [List.getElem_cons_succ] at this)];rfl
theorem putD_mem:∀ {l:List (List Int×P)} {w v:List Int×P},v∈putD l w→v∈l∨v=w
 | [],w,v,h=>by right;simpa[putD] using h
 | x::r,w,v,h=>by
  rw[putD] at h
  split at h
  ·split at h
   ·rcases List.mem_cons.1 h with e|e
    ·exact .inr e
    ·exact .inl (List.mem_cons_of_mem _ e)
   ·exact .inl h
  ·rcases List.mem_cons.1 h with e|e
   ·exact .inl (e▸List.mem_cons_self)
   ·rcases putD_mem e with k|k
    ·exact .inl (List.mem_cons_of_mem _ k)
    ·exact .inr k
theorem putD_keep {n:Nat}:∀ {l:List (List Int×P)} {w v:List Int×P},(∀x∈l,x.1.length=n)→w.1.length=n→v∈l→∃u∈putD l w,u.2=v.2∧sle u.1 v.1
 | [],_,_,_,_,h=>by cases h
 | x::r,w,v,hl,hw,h=>by
  rw[putD]
  split
  ·rename_i he
   split
   ·rename_i hlt
    rcases List.mem_cons.1 h with e|e
    ·subst e
     exact ⟨w,List.mem_cons_self,he.symm,sle_of_slt (.inr ⟨hw.trans (hl _ List.mem_cons_self).symm,hlt⟩)⟩
    ·exact ⟨v,List.mem_cons_of_mem _ e,rfl,sle_refl _⟩
   ·exact ⟨v,h,rfl,sle_refl _⟩
  ·rcases List.mem_cons.1 h with e|e
   ·exact ⟨v,e▸List.mem_cons_self,rfl,sle_refl _⟩
   ·obtain ⟨u,h1,h2⟩:=putD_keep (fun y hy=>hl y (List.mem_cons_of_mem _ hy)) hw e
    exact ⟨u,List.mem_cons_of_mem _ h1,h2⟩
theorem putD_has {n:Nat}:∀ {l:List (List Int×P)} {w:List Int×P},(∀x∈l,x.1.length=n)→w.1.length=n→∃u∈putD l w,u.2=w.2∧sle u.1 w.1
 | [],w,_,_=>⟨w,by simp[putD],rfl,sle_refl _⟩
 | x::r,w,hl,hw=>by
  rw[putD]
  split
  ·rename_i he
   split
   ·exact ⟨w,List.mem_cons_self,rfl,sle_refl _⟩
   ·rename_i hlt
    exact ⟨x,List.mem_cons_self,he,.inr ⟨(hl _ List.mem_cons_self).trans hw.symm,by simpa using hlt⟩⟩
  ·obtain ⟨u,h1,h2⟩:=putD_has (l:=r) (fun y hy=>hl y (List.mem_cons_of_mem _ hy)) hw
   exact ⟨u,List.mem_cons_of_mem _ h1,h2⟩
theorem putD_places (l : List (List Int × P)) (w : List Int × P) : (putD l w).map (·.2) = if w.2 ∈ l.map (·.2) then l.map (·.2) else l.map (·.2) ++ [w.2] := by
  induction l with
  | nil => simp [putD]
  | cons x r ih =>
    rw [putD]
    by_cases he : x.2 = w.2
    · rw [if_pos he]
      have hm : w.2 ∈ (x :: r).map (·.2) := by rw [List.map_cons, he]; exact List.mem_cons_self
      rw [if_pos hm]
      by_cases hl : ltL w.1 x.1 = true
      · rw [if_pos hl, List.map_cons, List.map_cons, he]
      · rw [if_neg hl]
    · rw [if_neg he, List.map_cons, ih]
      by_cases hm : w.2 ∈ r.map (·.2)
      · rw [if_pos hm, if_pos (by rw [List.map_cons]; exact List.mem_cons_of_mem _ hm)]; rfl
      · rw [if_neg hm, if_neg (by rw [List.map_cons, List.mem_cons]; rintro (e | e)
                                  · exact he e.symm
                                  · exact hm e)]; rfl
theorem putD_nodup {l:List (List Int×P)} {w:List Int×P} (h:(l.map (·.2)).Nodup):((putD l w).map (·.2)).Nodup:=by
 rw[putD_places]
 split
 ·exact h
 ·rename_i hm
  rw[List.nodup_append]
  refine ⟨h,by simp,fun y hy z hz e=>?_⟩
  obtain rfl:z=w.2:=by simpa using hz
  exact hm (e▸hy)
variable {E:P→Int→P→Prop} {Bad:P→Prop} {r:P}
structure LvI (E:P→Int→P→Prop) (Bad:P→Prop) (r:P) (n:Nat) (L:List (List Int×P)):Prop where
 len:∀v∈L,v.1.length=n
 wk:∀v∈L,Wk E r v.1 v.2
 all:∀l t,Wk E r l t→l.length=n→∃v∈L,v.2=t∧sle v.1 l
 good:∀l t,Wk E r l t→l.length<n→¬ Bad t
structure LvP (E:P→Int→P→Prop) (Bad:P→Prop) (r:P) (n:Nat) (L:List (List Int×P)) (i:Nat) (dn:List (Int×P)) (best:Option (List Int)) (N:List (List Int×P)):Prop where
 len:∀v∈N,v.1.length=n+1
 wk:∀v∈N,Wk E r v.1 v.2
 all:∀ (j:Nat) v,j<i→L[j]? = some v→¬ Bad v.2→∀st t,E v.2 st t→∃u∈N,u.2=t∧sle u.1 (v.1++[st])
 cur:∀v,L[i]? = some v→∀x∈dn,∃u∈N,u.2=x.2∧sle u.1 (v.1++[x.1])
 no:best=none→∀ (j:Nat) v,j<i→L[j]? = some v→¬ Bad v.2
 yes:∀b,best=some b→(∃ (j:Nat) (v:List Int×P),j<i∧L[j]? = some v∧v.1=b∧Bad v.2)∧∀ (j:Nat) v,j<i→L[j]? = some v→Bad v.2→sle b v.1
omit [DecidableEq P] in
theorem LvI.init:LvI E Bad r 0 [([],r)]:=by
 refine ⟨fun v hv=>?_,fun v hv=>?_,fun l t hw hl=>?_,fun l t _ h=>absurd h (by omega)⟩
 ·obtain rfl:v=([],r):=by simpa using hv
  rfl
 ·obtain rfl:v=([],r):=by simpa using hv
  exact .nil _
 ·have:l=[]:=List.eq_nil_of_length_eq_zero hl
  subst this
  cases hw
  exact ⟨_,List.mem_cons_self,rfl,sle_refl _⟩
omit [DecidableEq P] in
theorem LvP.init (n:Nat) (L:List (List Int×P)):LvP E Bad r n L 0 [] none [] :=
 ⟨(fun _ h=>by cases h),(fun _ h=>by cases h),(fun _ _ h=>absurd h (by omega)),(fun _ _ _ h=>by cases h),(fun _ _ _ h=>absurd h (by omega)),(fun _ h=>by cases h)⟩
theorem LvP.put {n:Nat} {L:List (List Int×P)} {i:Nat} {dn:List (Int×P)} {best:Option (List Int)} {N:List (List Int×P)} (h:LvP E Bad r n L i dn best N) (hI:LvI E Bad r n L) {v:List Int×P} (hv:L[i]? = some v) {st:Int} {t:P} (he:E v.2 st t) :
  LvP E Bad r n L i (dn++[(st,t)]) best (putD N (v.1++[st],t)):=by
 have hvm:=List.mem_of_getElem? hv
 have hln:(v.1++[st]).length=n+1:=by rw[List.length_append,hI.len v hvm];rfl
 refine ⟨fun x hx=>?_,fun x hx=>?_,fun j x hj hx hb st' t' he'=>?_,fun x hx y hy=>?_,h.no,h.yes⟩
 ·rcases putD_mem hx with k|k
  ·exact h.len x k
  ·rw[k];exact hln
 ·rcases putD_mem hx with k|k
  ·exact h.wk x k
  ·rw[k];exact (hI.wk v hvm).snoc he
 ·obtain ⟨u,h1,h2,h3⟩:=h.all j x hj hx hb st' t' he'
  obtain ⟨u',g1,g2,g3⟩:=putD_keep (w:=(v.1++[st],t)) h.len hln h1
  exact ⟨u',g1,g2.trans h2,sle_trans g3 h3⟩
 ·obtain rfl:x=v:=by rw[hv] at hx;exact (Option.some.inj hx).symm
  rcases List.mem_append.1 hy with k|k
  ·obtain ⟨u,h1,h2,h3⟩:=h.cur x hx y k
   obtain ⟨u',g1,g2,g3⟩:=putD_keep (w:=(x.1++[st],t)) h.len hln h1
   exact ⟨u',g1,g2.trans h2,sle_trans g3 h3⟩
  ·obtain rfl:y=(st,t):=by simpa using k
   exact putD_has (w:=(x.1++[st],t)) h.len hln
omit [DecidableEq P] in
theorem LvP.next {n:Nat} {L:List (List Int×P)} {i:Nat} {dn:List (Int×P)} {best:Option (List Int)} {N:List (List Int×P)} (h:LvP E Bad r n L i dn best N) {v:List Int×P} (hv:L[i]? = some v) (hb:¬ Bad v.2) (hd:∀st t,E v.2 st t→(st,t)∈dn):LvP E Bad r n L (i+1) [] best N:=by
 refine ⟨h.len,h.wk,fun j x hj hx hbx st t he=>?_,(fun _ _ _ k=>by cases k),fun e j x hj hx=>?_,fun b e=>?_⟩
 ·by_cases hji:j<i
  ·exact h.all j x hji hx hbx st t he
  ·obtain rfl:j=i:=by omega
   obtain rfl:x=v:=by rw[hv] at hx;exact (Option.some.inj hx).symm
   exact h.cur x hx (st,t) (hd st t he)
 ·by_cases hji:j<i
  ·exact h.no e j x hji hx
  ·obtain rfl:j=i:=by omega
   obtain rfl:x=v:=by rw[hv] at hx;exact (Option.some.inj hx).symm
   exact hb
 ·obtain ⟨⟨j,x,h1,h2⟩,h3⟩:=h.yes b e
  refine ⟨⟨j,x,by omega,h2⟩,fun j' y hj hy hby=>?_⟩
  by_cases hji:j'<i
  ·exact h3 j' y hji hy hby
  ·obtain rfl:j'=i:=by omega
   obtain rfl:y=v:=by rw[hv] at hy;exact (Option.some.inj hy).symm
   exact absurd hby hb
def betterD (best:Option (List Int)) (l:List Int):List Int:=match best with
 | none=>l
 | some b=>if ltL l b then l else b
omit [DecidableEq P] in
theorem LvP.bad {n:Nat} {L:List (List Int×P)} {i:Nat} {best:Option (List Int)} {N:List (List Int×P)} (h:LvP E Bad r n L i [] best N) (hI:LvI E Bad r n L) {v:List Int×P} (hv:L[i]? = some v) (hb:Bad v.2):LvP E Bad r n L (i+1) [] (some (betterD best v.1)) N:=by
 refine ⟨h.len,h.wk,fun j x hj hx hbx st t he=>?_,(fun _ _ _ k=>by cases k),(fun e=>by cases e),fun b e=>?_⟩
 ·by_cases hji:j<i
  ·exact h.all j x hji hx hbx st t he
  ·obtain rfl:j=i:=by omega
   obtain rfl:x=v:=by rw[hv] at hx;exact (Option.some.inj hx).symm
   exact absurd hb hbx
 ·obtain rfl:betterD best v.1=b:=Option.some.inj e
  cases best with
  | none =>
   refine ⟨⟨i,v,by omega,hv,rfl,hb⟩,fun j y hj hy hby=>?_⟩
   by_cases hji:j<i
   ·exact absurd hby (h.no rfl j y hji hy)
   ·obtain rfl:j=i:=by omega
    obtain rfl:y=v:=by rw[hv] at hy;exact (Option.some.inj hy).symm
    exact sle_refl _
  | some c =>
   obtain ⟨⟨j0,x0,h1,h2,h3,h4⟩,h5⟩:=h.yes c rfl
   have hcl:c.length=n:=by rw[←h3];exact hI.len _ (List.mem_of_getElem? h2)
   have hvl:v.1.length=n:=hI.len _ (List.mem_of_getElem? hv)
   unfold betterD
   simp only
   by_cases hlt:ltL v.1 c=true
   ·rw[if_pos hlt]
    have hle:sle v.1 c:=sle_of_slt (.inr ⟨hvl.trans hcl.symm,hlt⟩)
    refine ⟨⟨i,v,by omega,hv,rfl,hb⟩,fun j y hj hy hby=>?_⟩
    by_cases hji:j<i
    ·exact sle_trans hle (h5 j y hji hy hby)
    ·obtain rfl:j=i:=by omega
     obtain rfl:y=v:=by rw[hv] at hy;exact (Option.some.inj hy).symm
     exact sle_refl _
   ·rw[if_neg hlt]
    refine ⟨⟨j0,x0,by omega,h2,h3,h4⟩,fun j y hj hy hby=>?_⟩
    by_cases hji:j<i
    ·exact h5 j y hji hy hby
    ·obtain rfl:j=i:=by omega
     obtain rfl:y=v:=by rw[hv] at hy;exact (Option.some.inj hy).symm
     exact .inr ⟨hcl.trans hvl.symm,by simpa using hlt⟩
omit [DecidableEq P] in
theorem LvP.found {n:Nat} {L:List (List Int×P)} {i:Nat} {b:List Int} {N:List (List Int×P)} (h:LvP E Bad r n L i [] (some b) N) (hI:LvI E Bad r n L) (hi:L.length≤i):Best E Bad r b:=by
 obtain ⟨⟨j,x,h1,h2,h3,h4⟩,h5⟩:=h.yes b rfl
 have hxm:=List.mem_of_getElem? h2
 refine ⟨⟨x.2,h3▸hI.wk x hxm,h4⟩,fun l t hw hb=>?_⟩
 have hbl:b.length=n:=by rw[←h3];exact hI.len x hxm
 rcases Nat.lt_trichotomy l.length n with hl|hl|hl
 ·exact absurd hb (hI.good l t hw hl)
 ·obtain ⟨v,hv,e,hs⟩:=hI.all l t hw hl
  obtain ⟨k,hk,e2⟩:=List.getElem_of_mem hv
  exact sle_trans (h5 k v (by omega) (by rw[←e2];exact zl hk) (e▸hb)) hs
 ·exact .inl (by omega)
omit [DecidableEq P] in
theorem LvP.step {n:Nat} {L:List (List Int×P)} {i:Nat} {N:List (List Int×P)} (h:LvP E Bad r n L i [] none N) (hI:LvI E Bad r n L) (hi:L.length≤i):LvI E Bad r (n+1) N:=by
 have hgood:∀l t,Wk E r l t→l.length<n+1→¬ Bad t:=fun l t hw hl hb=>by
  by_cases hln:l.length<n
  ·exact hI.good l t hw hln hb
  ·obtain ⟨v,hv,e,_⟩:=hI.all l t hw (by omega)
   obtain ⟨k,hk,e2⟩:=List.getElem_of_mem hv
   exact h.no rfl k v (by omega) (by rw[←e2];exact zl hk) (e▸hb)
 refine ⟨h.len,h.wk,fun l t hw hl=>?_,hgood⟩
 obtain ⟨m,st,t2,rfl,hw2,he⟩:=hw.last (fun e=>by rw[e] at hl;simp at hl)
 rw[List.length_append] at hl
 have hml:m.length=n:=by simpa using hl
 obtain ⟨v,hv,e,hs⟩:=hI.all m t2 hw2 hml
 obtain ⟨k,hk,e2⟩:=List.getElem_of_mem hv
 obtain ⟨u,hu,g1,g2⟩:=h.all k v (by omega) (by rw[←e2];exact zl hk) (fun hb=>hgood m t2 hw2 (by omega) (e▸hb)) st t (e▸he)
 exact ⟨u,hu,g1,sle_trans g2 (sle_app hs st)⟩
omit [DecidableEq P] in
theorem LvI.le {n:Nat} {L:List (List Int×P)} (h:LvI E Bad r n L) {l:List Int} {t:P} (hw:Wk E r l t) (hb:Bad t):n≤l.length :=
 Nat.le_of_not_lt fun hlt=>h.good l t hw hlt hb
end
end Go.Proofs.YtkhpajneinmmiaaGreatDoor


