/-
  Lists compared place by place; types that are alike: plain Lean.
-/
import Derived.Test.YtdfolgmcggdjdaaGreatDoorQGA0
import Derived.Lib.ItoaLen
namespace Go.Proofs.YtdfolgmcggdjdaaGreatDoor
set_option maxHeartbeats 16000000
set_option maxRecDepth 100000
theorem tysErr_zero {s:List TyD}:∀ (l:List TyD) (K:List ByteArray),tysErr s K l=0→∀t∈l,∃K,tyErr s K t=0
 | [],_,_,t,h=>by cases h
 | x::r,K,h,t,ht=>by
  rw[tysErr] at h
  split at h
  ·rename_i h0
   rcases List.mem_cons.1 ht with e|e
   ·rw[e];exact ⟨K,h0⟩
   ·exact tysErr_zero r _ h t e
  ·rename_i h0;exact absurd h h0
theorem tyErr_zero {s:List TyD} {K:List ByteArray} {t:TyD} (h:tyErr s K t=0):formD t=true∧∀u∈toD t,0≤u∧u<(s.length:Int):=by
 unfold tyErr at h
 split at h
 ·cases h
 ·rename_i h1
  split at h
  ·cases h
  ·rename_i h2
   refine ⟨?_,fun u hu=>?_⟩
   ·cases hf:formD t with
    | true=>rfl
    | false=>rw[hf] at h1;simp at h1
   ·have h3:(toD t).any (fun u=>decide (u<0)||decide ((s.length:Int)≤u))=false:=by simpa using h2
    rw[List.any_eq_false] at h3;have:=h3 u hu;simp at this
    omega
theorem zZ {s:List TyD} (h:zJ s=0):s.length≤32:=by
 unfold zJ at h
 split at h
 ·cases h
 ·omega
theorem valid_tys {s:List TyD} (h:zJ s=0) {t:TyD} (ht:t∈s):formD t=true∧∀u∈toD t,0≤u∧u<(s.length:Int):=by
 unfold zJ at h
 split at h
 ·cases h
 ·obtain ⟨K,hK⟩:=tysErr_zero s [] h t ht
  exact tyErr_zero hK
section
variable {s:List TyD} {S:Nat→Nat→Bool}
end
def decB (n:Int):ByteArray:=⟨(Lib.itoa n).toArray⟩
def tyAt (s:List TyD) (c:Int):TyD:=s.getD c.toNat zeroT
theorem zP {s:List TyD} {k:Nat} (hk:k<s.length):tyAt s (k:Int)=s[k]:=by
 unfold tyAt;rw[List.getD_eq_getElem?_getD,Int.toNat_natCast,zl hk];rfl
section
variable {s:List TyD} {S:Nat→Nat→Bool}
end
section
variable {a b:List TyD} {S T U:Nat→Nat→Bool}
end
theorem valid_key {s:List TyD} (h:zJ s=0) {t:TyD} (ht:t∈s) (hk:t.kind=8):keyKind ((tyAt s t.key).kind)=true:=by
 unfold zJ at h
 split at h
 ·cases h
 ·obtain ⟨K,hK⟩:=tysErr_zero s [] h t ht
  unfold tyErr at hK
  split at hK
  ·cases hK
  ·split at hK
   ·cases hK
   ·split at hK
    ·cases hK
    ·rename_i h3
     unfold tyAt
     cases hkk:keyKind ((s.getD t.key.toNat zeroT).kind) with
     | true=>rfl
     | false=>exact absurd (by simp[hk];exact hkk) h3
section
variable {s:List TyD} {S:Nat→Nat→Bool} {t:Int}
end
theorem ltL_irrefl:∀l,ltL l l=false
 | []=>rfl
 | a::l=>by rw[ltL,if_pos rfl];exact ltL_irrefl l
theorem ltL_trans:∀l m r,ltL l m=true→ltL m r=true→ltL l r=true
 | [],[],_,h,_=>by simp[ltL] at h
 | [],_::_,[],_,k=>by simp[ltL] at k
 | [],_::_,_::_,_,_=>rfl
 | _::_,[],_,h,_=>by simp[ltL] at h
 | _::_,_::_,[],_,k=>by simp[ltL] at k
 | a::l,b::m,c::r,h,k=>by
  rw[ltL] at h k ⊢
  by_cases e:a=b
  ·rw[if_pos e] at h
   by_cases f:b=c
   ·rw[if_pos f] at k
    rw[if_pos (e.trans f)];exact ltL_trans l m r h k
   ·rw[if_neg f] at k
    rw[if_neg (by rw[e];exact f),e];exact k
  ·rw[if_neg e] at h
   have h1:a<b:=of_decide_eq_true h
   by_cases f:b=c
   ·rw[if_neg (by rw[←f];exact e),←f];exact h
   ·rw[if_neg f] at k
    have h2:b<c:=of_decide_eq_true k;rw[if_neg (by omega)];exact decide_eq_true (by omega)
theorem ltL_total:∀l m,l=m∨ltL l m=true∨ltL m l=true
 | [],[] => .inl rfl
 | [],_::_ => .inr (.inl rfl)
 | _::_,[] => .inr (.inr rfl)
 | a::l,b::m=>by
  by_cases e:a=b
  ·subst e
   rcases ltL_total l m with h|h|h
   ·exact .inl (by rw[h])
   ·exact .inr (.inl (by rw[ltL,if_pos rfl];exact h))
   ·exact .inr (.inr (by rw[ltL,if_pos rfl];exact h))
  ·rcases Int.lt_or_lt_of_ne e with h|h
   ·exact .inr (.inl (by rw[ltL,if_neg e];exact decide_eq_true h))
   ·exact .inr (.inr (by rw[ltL,if_neg (fun x=>e x.symm)];exact decide_eq_true h))
theorem ltL_app:∀ (l m:List Int) (x y:Int),l.length=m.length→ltL (l++[x]) (m++[y])=(ltL l m||(decide (l=m)&&decide (x<y)))
 | [],[],x,y,_=>by
  simp only[List.nil_append,ltL]
  by_cases e:x=y
  ·simp[e]
  ·simp[e]
 | [],_::_,_,_,h=>by simp at h
 | _::_,[],_,_,h=>by simp at h
 | a::l,b::m,x,y,h=>by
  rw[List.cons_append,List.cons_append,ltL,ltL,ltL_app l m x y (by simpa using h)]
  by_cases e:a=b
  ·simp[e]
  ·simp[e]
def sle (l m:List Int):Prop:=l.length<m.length∨(l.length=m.length∧ltL m l=false)
def slt (l m:List Int):Prop:=l.length<m.length∨(l.length=m.length∧ltL l m=true)
theorem ltL_false {l m:List Int}:ltL m l=false↔(l=m∨ltL l m=true):=by
 constructor
 ·intro h
  rcases ltL_total l m with k|k|k
  ·exact .inl k
  ·exact .inr k
  ·rw[h] at k;cases k
 ·rintro (k|k)
  ·rw[k];exact ltL_irrefl m
  ·cases h:ltL m l with
   | false=>rfl
   | true=>have:=ltL_trans _ _ _ k h;rw[ltL_irrefl] at this;cases this
theorem sle_iff {l m:List Int}:sle l m↔(l=m∨slt l m):=by
 unfold sle slt;rw[ltL_false]
 constructor
 ·rintro (h|⟨h,h2|h2⟩)
  ·exact .inr (.inl h)
  ·exact .inl h2
  ·exact .inr (.inr ⟨h,h2⟩)
 ·rintro (h|h|⟨h,h2⟩)
  ·exact .inr ⟨by rw[h],.inl h⟩
  ·exact .inl h
  ·exact .inr ⟨h,.inr h2⟩
theorem sle_refl (l:List Int):sle l l:=sle_iff.2 (.inl rfl)
theorem slt_app {l m:List Int} (h:slt l m) (x y:Int):slt (l++[x]) (m++[y]):=by
 rcases h with h|⟨h,h2⟩
 ·exact .inl (by simp;omega)
 ·refine .inr ⟨by simp[h],?_⟩
  rw[ltL_app l m x y h,h2];rfl
theorem slt_step (l:List Int) {x y:Int} (h:x<y):slt (l++[x]) (l++[y]):=by
 refine .inr ⟨by simp,?_⟩
 rw[ltL_app l l x y rfl];simp[h]
section
variable {P:Type} {E:P→Int→P→Prop} {Bad:P→Prop} {r:P}
inductive Wk (E:P→Int→P→Prop):P→List Int→P→Prop
 | nil (t:P):Wk E t [] t
 | cons {t t2 t3:P} {st:Int} {l:List Int}:E t st t2→Wk E t2 l t3→Wk E t (st::l) t3
theorem Wk.snoc {t t2 t3:P} {st:Int} {l:List Int} (h:Wk E t l t2) (he:E t2 st t3):Wk E t (l++[st]) t3:=by
 induction h with
 | nil t=>exact .cons he (.nil _)
 | cons h1 _ ih=>exact .cons h1 (ih he)
theorem Wk.last {t t3:P} {l:List Int} (h:Wk E t l t3):l≠[]→∃m st t2,l=m++[st]∧Wk E t m t2∧E t2 st t3:=by
 induction h with
 | nil t=>intro h;exact absurd rfl h
 | @cons t t2 t3 st l h1 h2 ih =>
  intro _
  cases l with
  | nil =>
   cases h2
   exact ⟨[],st,t,rfl,.nil _,h1⟩
  | cons a l =>
   obtain ⟨m,st2,t4,e,hw,he⟩:=ih (by simp)
   exact ⟨st::m,st2,t4,by rw[e];rfl,.cons h1 hw,he⟩
theorem Wk.all {p:P→Prop} (hp:∀t,p t→∀st t',E t st t'→p t') {t t':P} {l:List Int} (h:Wk E t l t'):p t→p t':=by
 induction h with
 | nil t=>exact id
 | cons h1 _ ih=>exact fun hq=>ih (hp _ hq _ _ h1)
inductive WkV (E:P→Int→P→Prop):P→List Int→List P→P→Prop
 | nil (t:P):WkV E t [] [t] t
 | cons {t t2 t3:P} {st:Int} {l:List Int} {V:List P}:E t st t2→WkV E t2 l V t3→WkV E t (st::l) (t::V) t3
theorem WkV.wk {t t2:P} {l:List Int} {V:List P} (h:WkV E t l V t2):Wk E t l t2∧V.length=l.length+1:=by
 induction h with
 | nil t=>exact ⟨.nil _,rfl⟩
 | cons h1 _ ih=>exact ⟨.cons h1 ih.1,by simp[ih.2]⟩
theorem WkV.all {p:P→Prop} (hp:∀t,p t→∀st t',E t st t'→p t') {t t':P} {l:List Int} {V:List P} (h:WkV E t l V t'):p t→∀x∈V,p x:=by
 induction h with
 | nil t =>
  intro hq x hx
  obtain rfl:x=t:=by simpa using hx
  exact hq
 | cons h1 _ ih =>
  intro hq x hx
  rcases List.mem_cons.1 hx with e|e
  ·rw[e];exact hq
  ·exact ih (hp _ hq _ _ h1) x e
structure BfI (E:P→Int→P→Prop) (Bad:P→Prop) (r:P) (Q:List (List Int×P)) (i:Nat) (dn:List (Int×P)):Prop where
 head:Q[0]? = some ([],r)
 walk:∀w∈Q,Wk E r w.1 w.2
 srt:∀ (j k:Nat) v w,j<k→Q[j]? = some v→Q[k]? = some w→slt v.1 w.1
 prc:∀ (j:Nat) w st t,Q[j]? = some w→(j<i∧E w.2 st t∨j=i∧(st,t)∈dn)→∃v∈Q,v.2=t∧sle v.1 (w.1++[st])
 src:∀w∈Q,w.1=[]∨∃ (k:Nat) (v:List Int×P) (st:Int) (t:P),Q[k]? = some v∧w.1=v.1++[st]∧(k<i∨k=i∧(st,t)∈dn)
 nob:∀ (j:Nat) w,j<i→Q[j]? = some w→¬ Bad w.2
theorem BfI.before {Q:List (List Int×P)} {i:Nat} {dn:List (Int×P)} (h:BfI E Bad r Q i dn) {w:List Int×P} (hw:Q[i]? = some w) {st:Int} (hst:∀x∈dn,x.1<st):∀v∈Q,slt v.1 (w.1++[st]):=by
 intro v hv
 rcases h.src v hv with e|⟨k,u,s0,t0,hu,e,hk⟩
 ·rw[e];exact .inl (by simp)
 ·rw[e]
  rcases hk with hk|⟨hk,hm⟩
  ·exact slt_app (h.srt k i u w hk hu hw) _ _
  ·subst hk
   obtain rfl:u=w:=Option.some.inj (hu.symm.trans hw);exact slt_step _ (hst _ hm)
theorem get_snoc {α:Type} {l:List α} {x y:α} {j:Nat} (h:(l++[x])[j]? = some y):l[j]? = some y∨(j=l.length∧y=x):=by
 by_cases hj:j<l.length
 ·rw[List.getElem?_append_left hj] at h;exact .inl h
 ·have:=(List.getElem?_eq_some_iff.1 h).1
  simp at this;have e:j=l.length:=by omega
  subst e;simp at h;exact .inr ⟨rfl,h.symm⟩
theorem BfI.new {Q:List (List Int×P)} {i:Nat} {dn:List (Int×P)} (h:BfI E Bad r Q i dn) {w:List Int×P} (hw:Q[i]? = some w) {st:Int} {t:P} (he:E w.2 st t) (hst:∀x∈dn,x.1<st):BfI E Bad r (Q++[(w.1++[st],t)]) i (dn++[(st,t)]):=by
 have hil:i<Q.length:=(List.getElem?_eq_some_iff.1 hw).1;have hwm:=List.mem_of_getElem? hw;have hlift:∀ {k:Nat} {v:List Int×P},Q[k]? = some v→(Q++[(w.1++[st],t)])[k]? = some v:=fun {k v} hv=>by
  rw[List.getElem?_append_left (List.getElem?_eq_some_iff.1 hv).1];exact hv
 refine ⟨hlift h.head,fun v hv=>?_,fun j k u v hjk hu hv=>?_,fun j v s1 t1 hv hp=>?_,fun v hv=>?_,fun j v hj hv=>?_⟩
 ·rcases List.mem_append.1 hv with hv|hv
  ·exact h.walk v hv
  ·obtain rfl:v=(w.1++[st],t):=by simpa using hv
   exact (h.walk w hwm).snoc he
 ·rcases get_snoc hv with hv'|⟨e1,e2⟩
  ·have hk:=(List.getElem?_eq_some_iff.1 hv').1
   rcases get_snoc hu with hu'|⟨e1,_⟩
   ·exact h.srt j k u v hjk hu' hv'
   ·omega
  ·rcases get_snoc hu with hu'|⟨e3,_⟩
   ·rw[e2];exact h.before hw hst u (List.mem_of_getElem? hu')
   ·omega
 ·have hv':Q[j]? = some v:=by
   rcases get_snoc hv with hv'|⟨e1,_⟩
   ·exact hv'
   ·rcases hp with hp|hp
    ·omega
    ·omega
  rcases hp with hp|⟨hj,hm⟩
  ·obtain ⟨u,h1,h2⟩:=h.prc j v s1 t1 hv' (.inl hp)
   exact ⟨u,List.mem_append_left _ h1,h2⟩
  ·rcases List.mem_append.1 hm with hm|hm
   ·obtain ⟨u,h1,h2⟩:=h.prc j v s1 t1 hv' (.inr ⟨hj,hm⟩)
    exact ⟨u,List.mem_append_left _ h1,h2⟩
   ·obtain ⟨rfl,rfl⟩:s1=st∧t1=t:=by simpa using hm
    subst hj;obtain rfl:v=w:=Option.some.inj (hv'.symm.trans hw);exact ⟨(v.1++[s1],t1),by simp,rfl,sle_refl _⟩
 ·rcases List.mem_append.1 hv with hv|hv
  ·rcases h.src v hv with e|⟨k,u,s0,t0,hu,e,hk⟩
   ·exact .inl e
   ·exact .inr ⟨k,u,s0,t0,hlift hu,e,hk.imp id fun hk=>⟨hk.1,List.mem_append_left _ hk.2⟩⟩
  ·obtain rfl:v=(w.1++[st],t):=by simpa using hv
   exact .inr ⟨i,w,st,t,hlift hw,rfl,.inr ⟨rfl,by simp⟩⟩
 ·rcases get_snoc hv with hv'|⟨e1,_⟩
  ·exact h.nob j v hj hv'
  ·omega
theorem BfI.next {Q:List (List Int×P)} {i:Nat} {dn:List (Int×P)} (h:BfI E Bad r Q i dn) {w:List Int×P} (hw:Q[i]? = some w) (hb:¬ Bad w.2) (hd:∀st t,E w.2 st t→(st,t)∈dn):BfI E Bad r Q (i+1) []:=by
 refine ⟨h.head,h.walk,h.srt,fun j v s1 t1 hv hp=>?_,fun v hv=>?_,fun j v hj hv=>?_⟩
 ·rcases hp with ⟨hj,he⟩|⟨_,hm⟩
  ·by_cases e:j=i
   ·subst e
    obtain rfl:v=w:=Option.some.inj (hv.symm.trans hw);exact h.prc j v s1 t1 hv (.inr ⟨rfl,hd _ _ he⟩)
   ·exact h.prc j v s1 t1 hv (.inl ⟨by omega,he⟩)
  ·cases hm
 ·rcases h.src v hv with e|⟨k,u,s0,t0,hu,e,hk⟩
  ·exact .inl e
  ·exact .inr ⟨k,u,s0,t0,hu,e,.inl (by rcases hk with hk|hk <;> omega)⟩
 ·by_cases e:j=i
  ·subst e
   obtain rfl:v=w:=Option.some.inj (hv.symm.trans hw);exact hb
  ·exact h.nob j v (by omega) hv
end
section
variable {a b:List TyD} {ta tb:Int}
end
def wordsB:List ByteArray:=[⟨#[98,111,111,108]⟩,⟨#[105,110,116]⟩,⟨#[115,116,114,105,110,103]⟩,⟨#[108,105,115,116]⟩,⟨#[109,97,112]⟩,⟨#[111,112,116,105,111,110,97,108]⟩]
def wordD (nm:ByteArray):Bool:=memD nm wordsB
abbrev TextD:=ByteArray×Bool×Bool
def joinD (b:ByteArray) (x:TextD) (m:ByteArray) (y:TextD) (e:ByteArray):TextD:=(b++x.1++m++y.1++e,x.2.1||y.2.1,x.2.2||y.2.2)
def noT:TextD:=(⟨#[]⟩,false,false)
def intT (t:TyD):ByteArray:=⟨#[105,110,116,40]⟩++decB t.low++⟨#[46,46]⟩++decB t.high++⟨#[41]⟩
def strT (t:TyD):ByteArray:=⟨#[115,116,114,105,110,103,40]⟩++decB t.max++⟨#[41]⟩
def limT (t:TyD):ByteArray:=⟨#[44,32]⟩++decB t.max++⟨#[41]⟩
def useD (s:List TyD):Nat→List Int→Int→TextD
 | 0,_,_=>noT
 | f+1,path,t =>
  if zL (tyAt s t).kind then ((tyAt s t).name,wordD (tyAt s t).name,false)
  else if t∈path then (⟨#[]⟩,false,true)
  else if (tyAt s t).kind=1 then (⟨#[98,111,111,108]⟩,false,false)
  else if (tyAt s t).kind=2 then (intT (tyAt s t),false,false)
  else if (tyAt s t).kind=3 then (strT (tyAt s t),false,false)
  else if (tyAt s t).kind=7 then joinD ⟨#[108,105,115,116,40]⟩ (useD s f (path++[t]) (tyAt s t).elem) ⟨#[]⟩ noT (limT (tyAt s t))
  else if (tyAt s t).kind=8 then joinD ⟨#[109,97,112,40]⟩ (useD s f (path++[t]) (tyAt s t).key) ⟨#[44,32]⟩ (useD s f (path++[t]) (tyAt s t).elem) (limT (tyAt s t))
  else joinD ⟨#[111,112,116,105,111,110,97,108,40]⟩ (useD s f (path++[t]) (tyAt s t).elem) ⟨#[]⟩ noT ⟨#[41]⟩
def textD (s:List TyD):Nat→Int→ByteArray
 | 0,_=>⟨#[]⟩
 | f+1,t =>
  if (tyAt s t).kind=1 then ⟨#[98,111,111,108]⟩
  else if (tyAt s t).kind=2 then intT (tyAt s t)
  else if (tyAt s t).kind=3 then strT (tyAt s t)
  else if (tyAt s t).kind=7 then ⟨#[108,105,115,116,40]⟩++textD s f (tyAt s t).elem++limT (tyAt s t)
  else if (tyAt s t).kind=8 then ⟨#[109,97,112,40]⟩++textD s f (tyAt s t).key++⟨#[44,32]⟩++textD s f (tyAt s t).elem++limT (tyAt s t)
  else if (tyAt s t).kind=9 then ⟨#[111,112,116,105,111,110,97,108,40]⟩++textD s f (tyAt s t).elem++⟨#[41]⟩
  else (tyAt s t).name
def compK (k:Int):Prop:=k=7∨k=8∨k=9
instance (k:Int):Decidable (compK k):=by unfold compK;exact inferInstance
def chn (s:List TyD) (t:Int):Nat→Int
 | 0=>t
 | i+1=>(tyAt s (chn s t i)).elem
def finD (s:List TyD):Nat→Int→Prop
 | 0,_=>False
 | f+1,t=>compK (tyAt s t).kind→finD s f (tyAt s t).elem
def keyW (s:List TyD) (u:Int):Prop:=(tyAt s u).kind=8∧zL (tyAt s (tyAt s u).key).kind=true∧wordD (tyAt s (tyAt s u).key).name=true
def wAt (s:List TyD) (u:Int):Prop:=(zL (tyAt s u).kind=true∧wordD (tyAt s u).name=true)∨keyW s u
def WT (s:List TyD) (t:Int):Prop:=∃i,(∀j,j<i→compK (tyAt s (chn s t j)).kind)∧wAt s (chn s t i)
def CT (s:List TyD) (t:Int):Prop:=∀i,compK (tyAt s (chn s t i)).kind
theorem comp_named {k:Int} (h:compK k):zL k=false:=by
 unfold compK at h;unfold zL
 rcases h with rfl|rfl|rfl <;> rfl
theorem named_comp {k:Int} (h:zL k=true):¬ compK k:=fun hc=>by rw[comp_named hc] at h;cases h
theorem chn_succ (s:List TyD) (t:Int):∀i,chn s t (i+1)=chn s (tyAt s t).elem i
 | 0=>rfl
 | i+1=>by
  show (tyAt s (chn s t (i+1))).elem=_
  rw[chn_succ s t i]
  rfl
section
variable {s:List TyD} {t:Int}
theorem WT_comp (h:compK (tyAt s t).kind):WT s t↔keyW s t∨WT s (tyAt s t).elem:=by
 constructor
 ·rintro ⟨i,hj,hw⟩
  cases i with
  | zero =>
   rcases hw with ⟨h1,_⟩|h1
   ·exact absurd h (named_comp h1)
   ·exact .inl h1
  | succ i =>
   refine .inr ⟨i,fun j hji=>?_,?_⟩
   ·rw[←chn_succ];exact hj (j+1) (by omega)
   ·rw[←chn_succ];exact hw
 ·rintro (h1|⟨i,hj,hw⟩)
  ·exact ⟨0,fun j hj=>absurd hj (by omega),.inr h1⟩
  ·refine ⟨i+1,fun j hji=>?_,?_⟩
   ·cases j with
    | zero=>exact h
    | succ j=>rw[chn_succ];exact hj j (by omega)
   ·rw[chn_succ];exact hw
theorem WT_leaf (h:¬ compK (tyAt s t).kind):WT s t↔zL (tyAt s t).kind=true∧wordD (tyAt s t).name=true:=by
 constructor
 ·rintro ⟨i,hj,hw⟩
  cases i with
  | zero =>
   rcases hw with h1|⟨h1,_⟩
   ·exact h1
   ·exact absurd (.inr (.inl h1)) h
  | succ i=>exact absurd (hj 0 (by omega)) h
 ·intro h1
  exact ⟨0,fun j hj=>absurd hj (by omega),.inl h1⟩
theorem CT_comp (h:compK (tyAt s t).kind):CT s t↔CT s (tyAt s t).elem:=by
 constructor
 ·intro hc i
  rw[←chn_succ];exact hc (i+1)
 ·intro hc i
  cases i with
  | zero=>exact h
  | succ i=>rw[chn_succ];exact hc i
theorem CT_leaf (h:¬ compK (tyAt s t).kind):¬ CT s t:=fun hc=>h (hc 0)
end
theorem fin_CT {s:List TyD}:∀ (f:Nat) (t:Int),finD s f t→¬ CT s t
 | 0,_,h,_=>h
 | f+1,_,h,hc=>fin_CT f _ (h (hc 0)) ((CT_comp (hc 0)).1 hc)
structure PathOk (s:List TyD) (path:List Int) (t:Int):Prop where
 rng:∀u∈path,0≤u∧u<(s.length:Int)
 cmp:∀u∈path,compK (tyAt s u).kind
 nd:path.Nodup
 lnk:∀ (i:Nat) u,path[i]? = some u→(path++[t])[i+1]? = some (tyAt s u).elem
theorem PathOk.nil (s:List TyD) (t:Int):PathOk s [] t:=⟨(fun _ h=>by cases h),(fun _ h=>by cases h),by simp,(fun i u h=>by simp at h)⟩
section
variable {s:List TyD} {t:Int} {path:List Int}
theorem PathOk.more (h:PathOk s path t) (hr:0≤t∧t<(s.length:Int)) (hc:compK (tyAt s t).kind) (ht:t ∉ path):PathOk s (path++[t]) (tyAt s t).elem:=by
 refine ⟨fun u hu=>?_,fun u hu=>?_,?_,fun i u hi=>?_⟩
 ·rcases List.mem_append.1 hu with k|k
  ·exact h.rng u k
  ·obtain rfl:u=t:=by simpa using k
   exact hr
 ·rcases List.mem_append.1 hu with k|k
  ·exact h.cmp u k
  ·obtain rfl:u=t:=by simpa using k
   exact hc
 ·rw[List.nodup_append]
  refine ⟨h.nd,by simp,fun y hy z hz e=>?_⟩
  obtain rfl:z=t:=by simpa using hz
  exact ht (e▸hy)
 ·by_cases hl:i<path.length
  ·rw[List.getElem?_append_left hl] at hi
   have:=h.lnk i u hi;rw[List.getElem?_append_left (by simp;omega)]
   exact this
  ·have hi':=(List.getElem?_eq_some_iff.1 hi).1
   simp at hi';obtain rfl:i=path.length:=by omega
   rw[List.getElem?_append_right (Nat.le_refl _)] at hi;obtain rfl:u=t:=by simpa using hi.symm
   rw[List.getElem?_append_right (by simp)]
   simp
theorem PathOk.chn_mem (h:PathOk s path t) (ht:t∈path):∀i,chn s t i∈path
 | 0=>ht
 | i+1=>by
  obtain ⟨j,hj,e⟩:=List.getElem_of_mem (PathOk.chn_mem h ht i);have:=h.lnk j _ (by rw[zl hj,e])
  have hm:=List.mem_of_getElem? this
  rcases List.mem_append.1 hm with k|k
  ·exact k
  ·have k':(tyAt s (chn s t i)).elem=t:=by simpa using k
   show (tyAt s (chn s t i)).elem∈path
   rw[k'];exact ht
theorem PathOk.cyc (h:PathOk s path t) (ht:t∈path):CT s t:=fun i=>h.cmp _ (h.chn_mem ht i)
theorem PathOk.word (h:PathOk s path t) (ht:t∈path) (hw:WT s t):∃u∈path,keyW s u:=by
 obtain ⟨i,_,hw⟩:=hw;have hm:=h.chn_mem ht i
 rcases hw with ⟨h1,_⟩|h1
 ·exact absurd (h.cmp _ hm) (named_comp h1)
 ·exact ⟨_,hm,h1⟩
end
section
variable {s:List TyD} {t:Int} {path:List Int}
theorem tyAt_mem (hr:0≤t∧t<(s.length:Int)):tyAt s t∈s:=by
 have hl:t.toNat<s.length:=by omega
 have:tyAt s t=s[t.toNat]:=by unfold tyAt;rw[List.getD_eq_getElem?_getD,zl hl];rfl
 rw[this];exact List.getElem_mem hl
theorem yT (hv:zJ s=0) (hr:0≤t∧t<(s.length:Int)):1≤(tyAt s t).kind∧(tyAt s t).kind≤9:=by
 have h:=(valid_tys hv (tyAt_mem hr)).1;unfold formD at h;simp only[Bool.and_eq_true,decide_eq_true_eq] at h;exact ⟨h.1.1.1.1,h.1.1.1.2⟩
theorem yP (hv:zJ s=0) (hr:0≤t∧t<(s.length:Int)) (hc:compK (tyAt s t).kind):0≤(tyAt s t).elem∧(tyAt s t).elem<(s.length:Int):=by
 refine (valid_tys hv (tyAt_mem hr)).2 _ (List.mem_map.2 ⟨(-1,(tyAt s t).elem),?_,rfl⟩);unfold usesD;unfold compK at hc
 rcases hc with h|h|h <;> rw[h] <;> simp
theorem key_rng (hv:zJ s=0) (hr:0≤t∧t<(s.length:Int)) (hc:(tyAt s t).kind=8):(0≤(tyAt s t).key∧(tyAt s t).key<(s.length:Int))∧1≤(tyAt s (tyAt s t).key).kind∧(tyAt s (tyAt s t).key).kind≤4:=by
 refine ⟨(valid_tys hv (tyAt_mem hr)).2 _ (List.mem_map.2 ⟨(0,(tyAt s t).key),?_,rfl⟩),?_⟩
 ·unfold usesD
  rw[hc];simp
 ·have:=valid_key hv (tyAt_mem hr) hc
  unfold keyKind at this
  simpa using this
theorem not_comp4 {k:Int} (h:1≤k∧k≤4):¬ compK k:=fun hc=>by unfold compK at hc;omega
theorem named4 {k:Int} (h:1≤k∧k≤4):zL k=true↔k=4:=by
 unfold zL;simp only[Bool.or_eq_true,decide_eq_true_eq]
 omega
theorem use_key (hp:PathOk s path t) {u:Int} (hk:1≤(tyAt s u).kind∧(tyAt s u).kind≤4) (f:Nat) :
  ((useD s (f+1) path u).2.1=true↔zL (tyAt s u).kind=true∧wordD (tyAt s u).name=true)∧(useD s (f+1) path u).2.2=false:=by
 have hn:=named4 hk;have hnm:u ∉ path:=fun h=>not_comp4 hk (hp.cmp u h)
 by_cases h4:(tyAt s u).kind=4
 ·have h1:=hn.2 h4
  unfold useD;rw[if_pos h1];exact ⟨by simp[h1],rfl⟩
 ·have h1:zL (tyAt s u).kind=false:=by
   cases h:zL (tyAt s u).kind with
   | false=>rfl
   | true=>exact absurd (hn.1 h) h4
  unfold useD;rw[if_neg (by simp[h1]),if_neg hnm]
  have hks:(tyAt s u).kind=1∨(tyAt s u).kind=2∨(tyAt s u).kind=3:=by omega
  rcases hks with h|h|h <;> simp[h,zL]
theorem use_flags (hv:zJ s=0):∀ (f:Nat) (path:List Int) (t:Int),(0≤t∧t<(s.length:Int))→PathOk s path t→path.length+f=s.length+1 →
  (((useD s f path t).2.1=true∨∃u∈path,keyW s u)↔(WT s t∨∃u∈path,keyW s u))∧((useD s f path t).2.2=true↔CT s t)
 | 0,path,t,_,hp,hl=>by
  have:=nodup_len s.length path hp.nd hp.rng
  omega
 | f+1,path,t,hr,hp,hl=>by
  have hk:=yT hv hr;unfold useD
  by_cases hn:zL (tyAt s t).kind=true
  ·rw[if_pos hn,WT_leaf (named_comp hn)]
   simp only[hn,true_and];exact ⟨fun h=>by simp at h,fun h=>absurd h (CT_leaf (named_comp hn))⟩
  rw[if_neg hn]
  by_cases ht:t∈path
  ·rw[if_pos ht]
   refine ⟨⟨fun h=>?_,fun h=>?_⟩,fun _=>hp.cyc ht,fun _=>rfl⟩
   ·rcases h with h|h
    ·simp at h
    ·exact .inr h
   ·rcases h with h|h
    ·exact .inr (hp.word ht h)
    ·exact .inr h
  rw[if_neg ht]
  by_cases hc:compK (tyAt s t).kind
  ·have hm:=hp.more hr hc ht
   have he:=yP hv hr hc;have hle:=nodup_len s.length (path++[t]) hm.nd hm.rng;rw[List.length_append,List.length_singleton] at hle;obtain ⟨g,rfl⟩:∃g,f=g+1:=⟨f - 1,by omega⟩
   obtain ⟨i1,i2⟩:=use_flags hv (g+1) (path++[t]) _ he hm (by rw[List.length_append,List.length_singleton];omega)
   have hex:(∃u∈path++[t],keyW s u)↔(∃u∈path,keyW s u)∨keyW s t:=by
    constructor
    ·rintro ⟨u,hu,hw⟩
     rcases List.mem_append.1 hu with k|k
     ·exact .inl ⟨u,k,hw⟩
     ·obtain rfl:u=t:=by simpa using k
      exact .inr hw
    ·rintro (⟨u,hu,hw⟩|hw)
     ·exact ⟨u,List.mem_append_left _ hu,hw⟩
     ·exact ⟨t,by simp,hw⟩
   rw[hex] at i1;rw[WT_comp hc,CT_comp hc];have hns:¬ (tyAt s t).kind=1∧¬ (tyAt s t).kind=2∧¬ (tyAt s t).kind=3:=by unfold compK at hc;omega
   rw[if_neg hns.1,if_neg hns.2.1,if_neg hns.2.2];unfold compK at hc
   rcases hc with h7|h8|h9
   ·rw[if_pos h7]
    have hnk:¬ keyW s t:=fun h=>by have:=h.1;omega
    simp only[joinD,noT,Bool.or_false];refine ⟨?_,i2⟩
    constructor
    ·intro h
     have:=i1.1 (h.imp id .inl)
     rcases this with h|h|h
     ·exact .inl (.inr h)
     ·exact .inr h
     ·exact absurd h hnk
    ·intro h
     rcases h with (h|h)|h
     ·exact absurd h hnk
     ·exact (i1.2 (.inl h)).imp id (fun k=>k.elim id fun k=>absurd k hnk)
     ·exact .inr h
   ·rw[if_neg (by omega),if_pos h8]
    obtain ⟨k1,k2⟩:=key_rng hv hr h8;obtain ⟨u1,u2⟩:=use_key hm k2 g;have hkw:(useD s (g+1) (path++[t]) (tyAt s t).key).2.1=true↔keyW s t:=by
     rw[u1];unfold keyW;exact ⟨fun h=>⟨h8,h⟩,fun h=>h.2⟩
    simp only[joinD,Bool.or_eq_true,u2,Bool.false_or];refine ⟨?_,i2⟩;rw[hkw]
    constructor
    ·intro h
     rcases h with (h|h)|h
     ·exact .inl (.inl h)
     ·rcases i1.1 (.inl h) with h|h|h
      ·exact .inl (.inr h)
      ·exact .inr h
      ·exact .inl (.inl h)
     ·exact .inr h
    ·intro h
     rcases h with (h|h)|h
     ·exact .inl (.inl h)
     ·rcases i1.2 (.inl h) with h|h|h
      ·exact .inl (.inr h)
      ·exact .inr h
      ·exact .inl (.inl h)
     ·exact .inr h
   ·rw[if_neg (by omega),if_neg (by omega)]
    have hnk:¬ keyW s t:=fun h=>by have:=h.1;omega
    simp only[joinD,noT,Bool.or_false];refine ⟨?_,i2⟩
    constructor
    ·intro h
     have:=i1.1 (h.imp id .inl)
     rcases this with h|h|h
     ·exact .inl (.inr h)
     ·exact .inr h
     ·exact absurd h hnk
    ·intro h
     rcases h with (h|h)|h
     ·exact absurd h hnk
     ·exact (i1.2 (.inl h)).imp id (fun k=>k.elim id fun k=>absurd k hnk)
     ·exact .inr h
  ·have hks:(tyAt s t).kind=1∨(tyAt s t).kind=2∨(tyAt s t).kind=3:=by
    have h4:¬ (tyAt s t).kind=4:=fun e=>hn (by rw[e];rfl)
    have h5:¬ (tyAt s t).kind=5:=fun e=>hn (by rw[e];rfl)
    have h6:¬ (tyAt s t).kind=6:=fun e=>hn (by rw[e];rfl)
    unfold compK at hc
    omega
   rw[WT_leaf hc];have hc':=CT_leaf hc;simp only[hn,false_and,Bool.false_eq_true]
   rcases hks with h|h|h <;> simp[h,hc']
theorem use_fin:∀ (f:Nat) (path:List Int) (t:Int),(0≤t∧t<(s.length:Int))→zJ s=0→PathOk s path t→path.length+f=s.length+1→¬ CT s t→finD s f t
 | 0,path,t,_,_,hp,hl,_=>by
  have:=nodup_len s.length path hp.nd hp.rng
  omega
 | f+1,path,t,hr,hv,hp,hl,hct=>by
  intro hc
  have ht:t ∉ path:=fun h=>hct (hp.cyc h)
  exact use_fin f _ _ (yP hv hr hc) hv (hp.more hr hc ht) (by rw[List.length_append,List.length_singleton];omega) (fun h=>hct ((CT_comp hc).2 h))
theorem app_nil (b:ByteArray):b++(⟨#[]⟩:ByteArray)=b:=by
 apply ByteArray.ext
 rw[ByteArray.data_append];simp
theorem text_use (hv:zJ s=0):∀ (f:Nat) (path:List Int) (t:Int) (g:Nat),(0≤t∧t<(s.length:Int))→PathOk s path t→path.length+g=s.length+1→finD s f t→textD s f t=(useD s g path t).1
 | 0,_,_,_,_,_,_,h=>h.elim
 | f+1,path,t,g,hr,hp,hl,hf=>by
  have hk:=yT hv hr;have hg:=nodup_len s.length path hp.nd hp.rng;obtain ⟨g,rfl⟩:∃g',g=g'+1:=⟨g - 1,by omega⟩
  have hct:=fin_CT _ _ hf;have ht:t ∉ path:=fun h=>hct (hp.cyc h)
  unfold textD useD
  by_cases hn:zL (tyAt s t).kind=true
  ·rw[if_pos hn]
   have:¬ compK (tyAt s t).kind:=named_comp hn;unfold compK at this;have h1:¬ (tyAt s t).kind=1:=fun e=>by rw[e] at hn;cases hn
   have h2:¬ (tyAt s t).kind=2:=fun e=>by rw[e] at hn;cases hn
   have h3:¬ (tyAt s t).kind=3:=fun e=>by rw[e] at hn;cases hn
   rw[if_neg h1,if_neg h2,if_neg h3,if_neg (by omega),if_neg (by omega),if_neg (by omega)]
  rw[if_neg hn,if_neg ht]
  by_cases h1:(tyAt s t).kind=1
  ·rw[if_pos h1,if_pos h1]
  rw[if_neg h1,if_neg h1]
  by_cases h2:(tyAt s t).kind=2
  ·rw[if_pos h2,if_pos h2]
  rw[if_neg h2,if_neg h2]
  by_cases h3:(tyAt s t).kind=3
  ·rw[if_pos h3,if_pos h3]
  rw[if_neg h3,if_neg h3];have hc:compK (tyAt s t).kind:=by
   have h4:¬ (tyAt s t).kind=4:=fun e=>hn (by rw[e];rfl)
   have h5:¬ (tyAt s t).kind=5:=fun e=>hn (by rw[e];rfl)
   have h6:¬ (tyAt s t).kind=6:=fun e=>hn (by rw[e];rfl)
   unfold compK
   omega
  have hm:=hp.more hr hc ht;have hle:=nodup_len s.length (path++[t]) hm.nd hm.rng;rw[List.length_append,List.length_singleton] at hle;obtain ⟨g,rfl⟩:∃g',g=g'+1:=⟨g - 1,by omega⟩
  have ih:=text_use hv f (path++[t]) _ (g+1) (yP hv hr hc) hm (by rw[List.length_append,List.length_singleton];omega) (hf hc)
  by_cases h7:(tyAt s t).kind=7
  ·rw[if_pos h7,if_pos h7]
   simp only[joinD,noT,app_nil,ih]
  rw[if_neg h7,if_neg h7]
  by_cases h8:(tyAt s t).kind=8
  ·rw[if_pos h8,if_pos h8]
   simp only[joinD,ih];have hk2:=(key_rng hv hr h8).2;have hnm:(tyAt s t).key ∉ path++[t]:=fun h=>not_comp4 hk2 (hm.cmp _ h)
   have hkk:∀f',finD s f (tyAt s t).elem→textD s (f'+1) (tyAt s t).key=(useD s (g+1) (path++[t]) (tyAt s t).key).1:=fun f' _=>by
    unfold textD useD;rw[if_neg hnm];have hks:(tyAt s (tyAt s t).key).kind=1∨(tyAt s (tyAt s t).key).kind=2∨(tyAt s (tyAt s t).key).kind=3∨(tyAt s (tyAt s t).key).kind=4:=by omega
    rcases hks with h|h|h|h <;> rw[h] <;> simp[zL]
   cases f with
   | zero=>exact (hf hc).elim
   | succ f'=>rw[hkk f' (hf hc)]
  ·rw[if_neg h8,if_neg h8]
   have h9:(tyAt s t).kind=9:=by unfold compK at hc;omega
   rw[if_pos h9];simp only[joinD,noT,app_nil,ih]
end
structure VS where
 opn:List Bool
 don:List Bool
 word:Bool
 loop:Bool
def getL (l:List Bool) (t:Int):Bool:=l.getD t.toNat false
def yD (x:TyD):List Int:=if x.kind=7∨x.kind=9 then [x.elem] else if x.kind=8 then [x.key,x.elem] else []
def VS.mark (v:VS) (t:Int):VS:={ v with opn:=v.opn.set t.toNat true,don:=v.don.set t.toNat true }
def VS.shut (v:VS) (t:Int):VS:={ v with opn:=v.opn.set t.toNat false }
def zU (s:List TyD):Nat→VS→Int→VS
 | 0,v,_=>v
 | f+1,v,t =>
  if zL (tyAt s t).kind then { v with word:=v.word||wordD (tyAt s t).name }
  else if getL v.opn t then { v with loop:=true }
  else if getL v.don t then v
  else ((yD (tyAt s t)).foldl (zU s f) (v.mark t)).shut t
def cntF (l:List Bool):Nat:=(l.filter (· == false)).length
theorem cntF_set:∀ {l:List Bool} {i:Nat},l[i]? = some false→cntF (l.set i true)+1=cntF l
 | [],_,h=>by simp at h
 | x::l,0,h=>by
  obtain rfl:x=false:=by simpa using h
  simp[cntF]
 | x::l,i+1,h=>by
  have:=cntF_set (l:=l) (i:=i) (by simpa using h)
  unfold cntF at this ⊢;rw[List.set_cons_succ]
  cases x
  ·simp only[List.filter_cons,beq_self_eq_true,if_true,List.length_cons];omega
  ·simp only[List.filter_cons,Bool.true_eq_false,beq_iff_eq,if_false];exact this
structure VI (s:List TyD) (path:List Int) (v:VS):Prop where
 lo:v.opn.length=s.length
 ld:v.don.length=s.length
 op:∀u,(0≤u∧u<(s.length:Int))→(getL v.opn u=true↔u∈path)
 dn:∀u,(0≤u∧u<(s.length:Int))→getL v.don u=true→u ∉ path→(WT s u→v.word=true)∧(CT s u→v.loop=true)
 kw:∀u∈path,keyW s u→v.word=true
structure VN (v v':VS) (W C:Prop):Prop where
 w1:W→v'.word=true
 c1:C→v'.loop=true
 w2:v'.word=true→v.word=true∨W
 c2:v'.loop=true→v.loop=true∨C
 w3:v.word=true→v'.word=true
 c3:v.loop=true→v'.loop=true
 cn:cntF v'.don≤cntF v.don
theorem getL_set {l:List Bool} {t u:Int} {b:Bool} (ht:0≤t∧t<(l.length:Int)) (hu:0≤u):getL (l.set t.toNat b) u=if u=t then b else getL l u:=by
 unfold getL
 by_cases h:u=t
 ·subst h
  rw[if_pos rfl,List.getD_eq_getElem?_getD,List.getElem?_set_self (by omega)];rfl
 ·rw[if_neg h,List.getD_eq_getElem?_getD,List.getElem?_set_ne (by omega),←List.getD_eq_getElem?_getD]
theorem getL_false {l:List Bool} {t:Int} (ht:0≤t∧t<(l.length:Int)) (h:getL l t=false):l[t.toNat]? = some false:=by
 unfold getL at h;rw[List.getD_eq_getElem?_getD] at h;have hl:t.toNat<l.length:=by omega
 rw[zl hl] at h ⊢
 simpa using h
section
variable {s:List TyD} {t:Int} {path:List Int} {v:VS}
theorem VI.mark (h:VI s path v) (hr:0≤t∧t<(s.length:Int)) (hk:¬ keyW s t):VI s (path++[t]) (v.mark t):=by
 have hro:0≤t∧t<(v.opn.length:Int):=by rw[h.lo];exact hr
 have hrd:0≤t∧t<(v.don.length:Int):=by rw[h.ld];exact hr
 refine ⟨by simp[VS.mark,h.lo],by simp[VS.mark,h.ld],fun u hu=>?_,fun u hu hd hn=>?_,fun u hu hw=>?_⟩
 ·show getL (v.opn.set t.toNat true) u=true↔_
  rw[getL_set hro hu.1]
  by_cases e:u=t
  ·subst e;simp
  ·rw[if_neg e,h.op u hu];simp[e]
 ·have hne:u≠t:=fun e=>hn (by rw[e];simp)
  have hd':getL (v.don.set t.toNat true) u=true:=hd;rw[getL_set hrd hu.1,if_neg hne] at hd';exact h.dn u hu hd' fun k=>hn (List.mem_append_left _ k)
 ·rcases List.mem_append.1 hu with k|k
  ·exact h.kw u k hw
  ·obtain rfl:u=t:=by simpa using k
   exact absurd hw hk
theorem VI.shut {v2:VS} (h:VI s (path++[t]) v2) (hr:0≤t∧t<(s.length:Int)) (ht:t ∉ path) (hw:WT s t→v2.word=true) (hc:CT s t→v2.loop=true):VI s path (v2.shut t):=by
 have hro:0≤t∧t<(v2.opn.length:Int):=by rw[h.lo];exact hr
 refine ⟨by simp[VS.shut,h.lo],h.ld,fun u hu=>?_,fun u hu hd hn=>?_,fun u hu hk=>h.kw u (List.mem_append_left _ hu) hk⟩
 ·show getL (v2.opn.set t.toNat false) u=true↔_
  rw[getL_set hro hu.1]
  by_cases e:u=t
  ·subst e;simp[ht]
  ·rw[if_neg e,h.op u hu];simp[e]
 ·by_cases e:u=t
  ·subst e;exact ⟨hw,hc⟩
  ·exact h.dn u hu hd fun k=>(List.mem_append.1 k).elim hn fun k=>e (by simpa using k)
theorem cnt_mark (h:VI s path v) (hr:0≤t∧t<(s.length:Int)) (hd:getL v.don t=false):cntF (v.mark t).don+1=cntF v.don :=
 cntF_set (getL_false (by rw[h.ld];exact hr) hd)
theorem visit_leaf (h:VI s path v) (hr:0≤t∧t<(s.length:Int)) (hl:¬ compK (tyAt s t).kind) (ht:t ∉ path) (f:Nat):VI s path (zU s (f+1) v t)∧VN v (zU s (f+1) v t) (WT s t) (CT s t):=by
 have hct:=CT_leaf (s:=s) (t:=t) hl;unfold zU
 by_cases hn:zL (tyAt s t).kind=true
 ·rw[if_pos hn]
  have hw:=WT_leaf (s:=s) (t:=t) hl;refine ⟨⟨h.lo,h.ld,h.op,fun u hu hd hp=>?_,fun u hu hk=>?_⟩,?_⟩
  ·obtain ⟨k1,k2⟩:=h.dn u hu hd hp
   exact ⟨fun k=>by simp[k1 k],k2⟩
  ·simp[h.kw u hu hk]
  ·refine ⟨fun k=>?_,fun k=>absurd k hct,fun k=>?_,.inl,fun k=>by simp[k],id,Nat.le_refl _⟩
   ·simp[(hw.1 k).2]
   ·have k':(v.word||wordD (tyAt s t).name)=true:=k
    rw[Bool.or_eq_true] at k';exact k'.imp id fun e=>hw.2 ⟨hn,e⟩
 rw[if_neg hn];have hwt:¬ WT s t:=fun k=>hn ((WT_leaf hl).1 k).1
 have ho:getL v.opn t=false:=by
  cases e:getL v.opn t with
  | false=>rfl
  | true=>exact absurd ((h.op t hr).1 e) ht
 rw[if_neg (by simp[ho])]
 by_cases hd:getL v.don t=true
 ·rw[if_pos hd]
  exact ⟨h,fun k=>absurd k hwt,fun k=>absurd k hct,.inl,.inl,id,id,Nat.le_refl _⟩
 rw[if_neg hd];have hd':getL v.don t=false:=by simpa using hd
 have hi:yD (tyAt s t)=[]:=by
  unfold yD;unfold compK at hl;rw[if_neg (by omega),if_neg (by omega)]
 rw[hi];have hm:=h.mark hr (fun k=>hl (.inr (.inl k.1)))
 refine ⟨hm.shut hr ht (fun k=>absurd k hwt) (fun k=>absurd k hct),fun k=>absurd k hwt,fun k=>absurd k hct,.inl,.inl,id,id,?_⟩
 have:=cnt_mark h hr hd'
 show cntF (v.mark t).don≤_
 omega
end
theorem VN.trans {a b c : VS} {W1 C1 W2 C2 : Prop} (h : VN a b W1 C1) (k : VN b c W2 C2) : VN a c (W1 ∨ W2) (C1 ∨ C2) :=
  ⟨fun e => e.elim (fun e => k.w3 (h.w1 e)) k.w1, fun e => e.elim (fun e => k.c3 (h.c1 e)) k.c1, fun e => (k.w2 e).elim (fun e => (h.w2 e).imp id .inl) fun e => .inr (.inr e), fun e => (k.c2 e).elim (fun e => (h.c2 e).imp id .inl) fun e => .inr (.inr e),
   fun e => k.w3 (h.w3 e), fun e => k.c3 (h.c3 e), Nat.le_trans k.cn h.cn⟩
theorem VN.iff {a b:VS} {W C W' C':Prop} (h:VN a b W C) (hw:W'↔W) (hc:C'↔C):VN a b W' C':=by
 rw[show W'=W from propext hw,show C'=C from propext hc];exact h
theorem visit_ok {s:List TyD} (hv:zJ s=0):∀ (f:Nat) (path:List Int) (t:Int) (v:VS),(0≤t∧t<(s.length:Int))→PathOk s path t→VI s path v→cntF v.don<f→VI s path (zU s f v t)∧VN v (zU s f v t) (WT s t) (CT s t)
 | 0,_,_,_,_,_,_,h=>absurd h (by omega)
 | f+1,path,t,v,hr,hp,h,hf=>by
  by_cases hc:compK (tyAt s t).kind
  case neg=>exact visit_leaf h hr hc (fun k=>hc (hp.cmp t k)) f
  have hn:¬ zL (tyAt s t).kind=true:=by rw[comp_named hc];simp
  have he:=yP hv hr hc;unfold zU;rw[if_neg hn]
  by_cases ho:getL v.opn t=true
  ·rw[if_pos ho]
   have ht:=(h.op t hr).1 ho;refine ⟨⟨h.lo,h.ld,h.op,fun u hu hd hn=>⟨(h.dn u hu hd hn).1,fun _=>rfl⟩,h.kw⟩,fun k=>?_,fun _=>rfl,.inl,fun _ => .inr (hp.cyc ht),id,fun _=>rfl,Nat.le_refl _⟩
   obtain ⟨u,hu,hw⟩:=hp.word ht k;exact h.kw u hu hw
  rw[if_neg ho];have ht:t ∉ path:=fun k=>ho ((h.op t hr).2 k)
  by_cases hd:getL v.don t=true
  ·rw[if_pos hd]
   obtain ⟨k1,k2⟩:=h.dn t hr hd ht;exact ⟨h,k1,k2,.inl,.inl,id,id,Nat.le_refl _⟩
  rw[if_neg hd];have hd':getL v.don t=false:=by simpa using hd
  have hcm:=cnt_mark h hr hd';have hpm:=hp.more hr hc ht
  by_cases h8:(tyAt s t).kind=8
  ·have hi:yD (tyAt s t)=[(tyAt s t).key,(tyAt s t).elem]:=by
    unfold yD;rw[if_neg (by omega),if_pos h8]
   rw[hi];simp only[List.foldl_cons,List.foldl_nil];obtain ⟨kr,k4⟩:=key_rng hv hr h8;have hkl:=not_comp4 k4;have hkp:(tyAt s t).key ∉ path++[t]:=fun k=>hkl (hpm.cmp _ k)
   have hkw:keyW s t↔WT s (tyAt s t).key:=by
    rw[WT_leaf hkl];unfold keyW;exact ⟨fun k=>k.2,fun k=>⟨h8,k⟩⟩
   obtain ⟨g,rfl⟩:∃g,f=g+1:=⟨f - 1,by omega⟩
   have hkey:∃v2,zU s (g+1) (v.mark t) (tyAt s t).key=v2∧VI s (path++[t]) v2∧VN (v.mark t) v2 (WT s (tyAt s t).key) (CT s (tyAt s t).key):=by
    refine ⟨_,rfl,?_⟩;have hro:0≤t∧t<(v.opn.length:Int):=by rw[h.lo];exact hr
    have hrd:0≤t∧t<(v.don.length:Int):=by rw[h.ld];exact hr
    by_cases hkw':keyW s t
    ·-- the key is an enum whose name is a word
     have hnk:=hkw'.2.1;have hwk:=hkw'.2.2;unfold zU;rw[if_pos hnk,hwk];have hor:((v.mark t).word||true)=true:=by simp
     rw[hor];refine ⟨⟨by simp[VS.mark,h.lo],by simp[VS.mark,h.ld],fun u hu=>?_,fun u hu hdu hnu=>⟨fun _=>rfl,fun k=>?_⟩,fun _ _ _=>rfl⟩,fun _=>rfl,fun k=>absurd k (CT_leaf hkl),fun _ => .inr (hkw.1 hkw'),.inl,fun _=>rfl,id,Nat.le_refl _⟩
     ·show getL (v.opn.set t.toNat true) u=true↔_
      rw[getL_set hro hu.1]
      by_cases e:u=t
      ·subst e;simp
      ·rw[if_neg e,h.op u hu];simp[e]
     ·have hne:u≠t:=fun e=>hnu (by rw[e];simp)
      have hd2:getL (v.don.set t.toNat true) u=true:=hdu;rw[getL_set hrd hu.1,if_neg hne] at hd2;exact (h.dn u hu hd2 fun k=>hnu (List.mem_append_left _ k)).2 k
    ·exact visit_leaf (h.mark hr hkw') kr hkl hkp g
   obtain ⟨v2,e2,i2,n2⟩:=hkey;rw[e2];obtain ⟨i3,n3⟩:=visit_ok hv (g+1) (path++[t]) _ v2 he hpm i2 (by have:=n2.cn;omega)
   have n23:=(n2.trans n3).iff (W':=WT s t) (C':=CT s t) (by rw[WT_comp hc,hkw]) (by rw[CT_comp hc];exact ⟨.inr,fun k=>k.elim (fun k=>absurd k (CT_leaf hkl)) id⟩)
   refine ⟨i3.shut hr ht n23.w1 n23.c1,n23.w1,n23.c1,n23.w2,n23.c2,n23.w3,n23.c3,?_⟩;have:=n23.cn
   show cntF (zU s (g+1) v2 (tyAt s t).elem).don≤_
   omega
  ·have hi:yD (tyAt s t)=[(tyAt s t).elem]:=by
    unfold yD;unfold compK at hc;rw[if_pos (by omega)]
   rw[hi];simp only[List.foldl_cons,List.foldl_nil];have hnk:¬ keyW s t:=fun k=>h8 k.1
   obtain ⟨i3,n3⟩:=visit_ok hv f (path++[t]) _ (v.mark t) he hpm (h.mark hr hnk) (by omega)
   have n4:=n3.iff (W':=WT s t) (C':=CT s t) (by rw[WT_comp hc];exact ⟨fun k=>k.elim (fun k=>absurd k hnk) id,.inr⟩) (CT_comp hc)
   refine ⟨i3.shut hr ht n4.w1 n4.c1,n4.w1,n4.c1,n4.w2,n4.c2,n4.w3,n4.c3,?_⟩;have:=n4.cn
   show cntF (zU s f (v.mark t) (tyAt s t).elem).don≤_
   omega
def yH (n:Nat):VS:=⟨List.replicate n false,List.replicate n false,false,false⟩
theorem VI.start (s:List TyD):VI s [] (yH s.length):=by
 refine ⟨by simp[yH],by simp[yH],fun u hu=>?_,fun u hu hd=>?_,fun u hu=>by cases hu⟩
 ·unfold getL yH
  rw[List.getD_eq_getElem?_getD,List.getElem?_replicate]
  split <;> simp
 ·exfalso
  unfold getL yH at hd;rw[List.getD_eq_getElem?_getD,List.getElem?_replicate] at hd
  split at hd <;> simp at hd
def writtenD (s:List TyD) (l:List Int):Int :=
 let v:=l.foldl (zU s (s.length+1)) (yH s.length)
 if v.word then 1 else if v.loop then 9 else 0
theorem visits_ok {s:List TyD} (hv:zJ s=0):∀ (l:List Int) (v:VS),(∀t∈l,0≤t∧t<(s.length:Int))→VI s [] v→cntF v.don≤s.length→VI s [] (l.foldl (zU s (s.length+1)) v)∧VN v (l.foldl (zU s (s.length+1)) v) (∃t∈l,WT s t) (∃t∈l,CT s t)
 | [],v,_,h,_=>⟨h,by simp,by simp,.inl,.inl,id,id,Nat.le_refl _⟩
 | t::l,v,hl,h,hc=>by
  obtain ⟨i1,n1⟩:=visit_ok hv (s.length+1) [] t v (hl t List.mem_cons_self) (PathOk.nil s t) h (by omega)
  obtain ⟨i2,n2⟩:=visits_ok hv l _ (fun u hu=>hl u (List.mem_cons_of_mem _ hu)) i1 (by have:=n1.cn;omega)
  exact ⟨i2,(n1.trans n2).iff (by simp) (by simp)⟩
def refErr (s:List TyD) (t:Int):Int:=if (useD s (s.length+1) [] t).2.1 then 1 else if (useD s (s.length+1) [] t).2.2 then 9 else 0
theorem cntF_rep (n:Nat):cntF (List.replicate n false)≤n:=by
 unfold cntF;exact Nat.le_trans (List.length_filter_le _ _) (by simp)
theorem written_one {s:List TyD} {t:Int} (hv:zJ s=0) (hr:0≤t∧t<(s.length:Int)):writtenD s [t]=refErr s t:=by
 obtain ⟨_,n1⟩:=visits_ok hv [t] (yH s.length) (fun u hu=>(List.mem_singleton.1 hu)▸hr) (VI.start s) (cntF_rep _)
 obtain ⟨u1,u2⟩:=use_flags hv (s.length+1) [] t hr (PathOk.nil s t) (by simp)
 have hw:([t].foldl (zU s (s.length+1)) (yH s.length)).word=true↔(useD s (s.length+1) [] t).2.1=true:=by
  constructor
  ·intro h
   rcases n1.w2 h with k|⟨u,hu,k⟩
   ·cases k
   ·obtain rfl:u=t:=by simpa using hu
    rcases u1.2 (.inl k) with k|⟨_,k,_⟩
    ·exact k
    ·cases k
  ·intro h
   rcases u1.1 (.inl h) with k|⟨_,k,_⟩
   ·exact n1.w1 ⟨t,by simp,k⟩
   ·cases k
 have hc:([t].foldl (zU s (s.length+1)) (yH s.length)).loop=true↔(useD s (s.length+1) [] t).2.2=true:=by
  rw[u2]
  constructor
  ·intro h
   rcases n1.c2 h with k|⟨u,hu,k⟩
   ·cases k
   ·obtain rfl:u=t:=by simpa using hu
    exact k
  ·intro h
   exact n1.c1 ⟨t,by simp,h⟩
 unfold writtenD refErr;simp only;rw[show ([t].foldl (zU s (s.length+1)) (yH s.length)).word=(useD s (s.length+1) [] t).2.1 from Bool.eq_iff_iff.2 hw,show ([t].foldl (zU s (s.length+1)) (yH s.length)).loop=(useD s (s.length+1) [] t).2.2 from Bool.eq_iff_iff.2 hc]
theorem text_one {s:List TyD} {t:Int} (hv:zJ s=0) (hr:0≤t∧t<(s.length:Int)) (h:refErr s t=0):finD s (s.length+1) t∧textD s (s.length+1) t=(useD s (s.length+1) [] t).1:=by
 obtain ⟨_,u2⟩:=use_flags hv (s.length+1) [] t hr (PathOk.nil s t) (by simp)
 have hct:¬ CT s t:=fun hc=>by
  have:=u2.2 hc;unfold refErr at h;rw[this] at h
  split at h
  ·cases h
  ·simp at h
 have hf:=use_fin (s.length+1) [] t hr hv (PathOk.nil s t) (by simp) hct
 exact ⟨hf,text_use hv _ [] t _ hr (PathOk.nil s t) (by simp) hf⟩
def TypeIs (s:List TyD) (t:Int) (x:ByteArray) (e:Int):Prop :=
 if zJ s≠0 then e=zJ s∧x=⟨#[]⟩
 else if t<0∨(s.length:Int)≤t then e=4∧x=⟨#[]⟩
 else e=refErr s t∧x=if refErr s t=0 then (useD s (s.length+1) [] t).1 else ⟨#[]⟩
def allEq {α:Type} (r:α→α→Bool):List α→List α→Bool
 | [],[]=>true
 | a::l,b::m=>r a b&&allEq r l m
 | _,_=>false
theorem allEq_len {α:Type} (r:α→α→Bool):∀ (l m:List α),l.length≠m.length→allEq r l m=false
 | [],[],h=>absurd rfl h
 | [],_::_,_=>rfl
 | _::_,[],_=>rfl
 | a::l,b::m,h=>by rw[allEq,allEq_len r l m (by simpa using h),Bool.and_false]
theorem allEq_no {α:Type} (r:α→α→Bool):∀ (l m:List α) (k:Nat) (h1:k<l.length) (h2:k<m.length),r l[k] m[k]=false→allEq r l m=false
 | [],_,_,h,_,_=>absurd h (by simp)
 | _::_,[],_,_,h,_=>absurd h (by simp)
 | a::l,b::m,0,_,_,h=>by rw[allEq,show r a b=false from h];rfl
 | a::l,b::m,k+1,h1,h2,h=>by
  rw[allEq,allEq_no r l m k (by simpa using h1) (by simpa using h2) (by simpa using h),Bool.and_false]
theorem allEq_yes {α:Type} (r:α→α→Bool):∀ (l m:List α),l.length=m.length→(∀k (h1:k<l.length) (h2:k<m.length),r l[k] m[k]=true)→allEq r l m=true
 | [],[],_,_=>rfl
 | [],_::_,h,_=>absurd h (by simp)
 | _::_,[],h,_=>absurd h (by simp)
 | a::l,b::m,hl,h=>by
  rw[allEq,show r a b=true from h 0 (by simp) (by simp),Bool.true_and]
  exact allEq_yes r l m (by simpa using hl) fun k h1 h2=>by
   have:=h (k+1) (by simpa using h1) (by simpa using h2)
   simpa using this
theorem allEq_decide {α:Type} [DecidableEq α]:∀ (l m:List α),allEq (fun a b=>decide (a=b)) l m=decide (l=m)
 | [],[]=>by simp[allEq]
 | [],_::_=>by simp[allEq]
 | _::_,[]=>by simp[allEq]
 | a::l,b::m=>by rw[allEq,allEq_decide l m];simp
def memEq0 (a b:MemD):Bool:=decide (a=b)
end Go.Proofs.YtdfolgmcggdjdaaGreatDoor


