/-
  Drafts of schemas, and the schema of a draft: plain Lean.
-/
import Derived.Test.YthkkllmmbefedaaGreatDoorQGA0
import Derived.Lib.ItoaLen
namespace Go.Proofs.YthkkllmmbefedaaGreatDoor
set_option maxHeartbeats 16000000
set_option maxRecDepth 100000
section
variable {s:List AZ} {S:Nat->Nat->Bool}
end
def FP (n:Int):ByteArray:=⟨(Lib.itoa n).toArray⟩
def AR (s:List AZ) (c:Int):AZ:=s.getD c.toNat Ar
variable {s:List AZ}
theorem zT {k:Nat} (hk:k<s.length):AR s (k:Int)=s[k]:=by
 unfold AR;rw[AAi,Int.toNat_natCast,zl hk];rfl
section
variable {s:List AZ} {S:Nat->Nat->Bool}
end
section
variable {a b:List AZ} {S T U:Nat->Nat->Bool}
end
theorem QJ {s:List AZ}:∀ (l:List AZ) (seen:List ByteArray),(∀i (h:i<l.length),Kj s (seen++(l.take i).map (·.name)) l[i]=0)->Mg s seen l=0
 | [],_,_=>rfl
 | t::l,seen,h=>by
  have h0:=h 0 (by simp)
  simp only[List.take_zero,List.map_nil,List.append_nil,List.getElem_cons_zero] at h0;rw[Mg,AAC h0];refine QJ l _ fun i hi=>?_
  have:=h (i+1) (by simpa using hi)
  simpa using this
theorem ax {seen:List ByteArray} {t:AZ} (hf:GZ t=true) (hs:t.name≠⟨#[]⟩->t.name ∉ seen) (hu:∀u∈bF t,0<=u/\u<(s.length:Int)) (hk:t.kind=8->Bd ((s.getD t.key.toNat Ar).kind)=true):Kj s seen t=0:=by
 unfold Kj;rw[Pe,Pe,Pe]
 ·by_cases h:t.kind=8
  ·rw[hk h];simp
  ·simp[h]
 ·intro h
  obtain ⟨u,h1,h2⟩:=ABF.1 h;have:=hu u h1;simp at h2
  omega
 ·rw[hf]
  by_cases h:t.name=⟨#[]⟩
  ·simp[h]
  ·have:=hs h
   simp[h,K6,this]
theorem QF (h:zQ s=0) {t:AZ} (ht:t∈s) (hk:t.kind=8):Bd ((AR s t.key).kind)=true:=by
 unfold zQ at h
 split at h
 ·cases h
 ·obtain ⟨K,hK⟩:=Ja s [] h t ht
  unfold Kj at hK
  split at hK
  ·cases hK
  ·split at hK
   ·cases hK
   ·split at hK
    ·cases hK
    ·rename_i h3
     unfold AR
     cases hkk:Bd ((s.getD t.key.toNat Ar).kind) with
     | true=>rfl
     | false=>exact absurd (by simp[hk];exact hkk) h3
theorem aX (hl:s.length<=32) (h:∀i (hi:i<s.length),Kj s ((s.take i).map (·.name)) s[i]=0):zQ s=0:=by
 unfold zQ;rw[Pe (by omega)]
 exact QJ s [] fun i hi=>by simpa using h i hi
section
variable {s:List AZ} {S:Nat->Nat->Bool} {t:Int}
end
theorem K7:∀l,M6 l l=false
 | []=>rfl
 | a::l=>by rw[M6,AAC rfl];exact K7 l
theorem M5:∀l m r,M6 l m=true->M6 m r=true->M6 l r=true
 | [],[],_,h,_=>by simp[M6] at h
 | [],_::_,[],_,k=>by simp[M6] at k
 | [],_::_,_::_,_,_=>rfl
 | _::_,[],_,h,_=>by simp[M6] at h
 | _::_,_::_,[],_,k=>by simp[M6] at k
 | a::l,b::m,c::r,h,k=>by
  rw[M6] at h k ⊢
  by_cases e:a=b
  ·rw[AAC e] at h
   by_cases f:b=c
   ·rw[AAC f] at k
    rw[AAC (e.trans f)];exact M5 l m r h k
   ·rw[Pe f] at k
    rw[Pe (by rw[e];exact f),e];exact k
  ·rw[Pe e] at h
   have h1:a<b:=AAm h
   by_cases f:b=c
   ·rw[Pe (by rw[<-f];exact e),<-f];exact h
   ·rw[Pe f] at k
    have h2:b<c:=AAm k;rw[Pe (by omega)];exact AAM (by omega)
theorem Qm:∀l m,l=m\/M6 l m=true\/M6 m l=true
 | [],[] => .inl rfl
 | [],_::_ => .inr (.inl rfl)
 | _::_,[] => .inr (.inr rfl)
 | a::l,b::m=>by
  by_cases e:a=b
  ·subst e
   rcases Qm l m with h|h|h
   ·exact .inl (by rw[h])
   ·exact .inr (.inl (by rw[M6,AAC rfl];exact h))
   ·exact .inr (.inr (by rw[M6,AAC rfl];exact h))
  ·rcases Int.lt_or_lt_of_ne e with h|h
   ·exact .inr (.inl (by rw[M6,Pe e];exact AAM h))
   ·exact .inr (.inr (by rw[M6,Pe (fun x=>e x.symm)];exact AAM h))
theorem OH:∀ (l m:List Int) (x y:Int),l.length=m.length->M6 (l++[x]) (m++[y])=(M6 l m||(decide (l=m)&&decide (x<y)))
 | [],[],x,y,_=>by
  simp only[List.nil_append,M6]
  by_cases e:x=y
  ·simp[e]
  ·simp[e]
 | [],_::_,_,_,h=>by simp at h
 | _::_,[],_,_,h=>by simp at h
 | a::l,b::m,x,y,h=>by
  rw[ABE,ABE,M6,M6,OH l m x y (by simpa using h)]
  by_cases e:a=b
  ·simp[e]
  ·simp[e]
def sle (l m:List Int):Prop:=l.length<m.length\/(l.length=m.length/\M6 m l=false)
def slt (l m:List Int):Prop:=l.length<m.length\/(l.length=m.length/\M6 l m=true)
variable {l m:List Int}
theorem ZV:M6 m l=false↔(l=m\/M6 l m=true):=by
 constructor
 ·intro h
  rcases Qm l m with k|k|k
  ·exact .inl k
  ·exact .inr k
  ·rw[h] at k;cases k
 ·rintro (k|k)
  ·rw[k];exact K7 m
  ·cases h:M6 m l with
   | false=>rfl
   | true=>have:=M5 _ _ _ k h;rw[K7] at this;cases this
theorem OB:sle l m↔(l=m\/slt l m):=by
 unfold sle slt;rw[ZV]
 constructor
 ·rintro (h|⟨h,h2|h2⟩)
  ·exact .inr (.inl h)
  ·exact .inl h2
  ·exact .inr (.inr ⟨h,h2⟩)
 ·rintro (h|h|⟨h,h2⟩)
  ·exact .inr ⟨by rw[h],.inl h⟩
  ·exact .inl h
  ·exact .inr ⟨h,.inr h2⟩
theorem Lc (l:List Int):sle l l:=OB.2 (.inl rfl)
theorem Ik (h:slt l m):sle l m:=OB.2 (.inr h)
theorem Yw {r:List Int} (h:slt l m) (k:slt m r):slt l r:=by
 rcases h with h|⟨h,h2⟩ <;> rcases k with k|⟨k,k2⟩
 ·exact .inl (by omega)
 ·exact .inl (by omega)
 ·exact .inl (by omega)
 ·exact .inr ⟨h.trans k,M5 _ _ _ h2 k2⟩
theorem KA {r:List Int} (h:sle l m) (k:sle m r):sle l r:=by
 rcases OB.1 h with e|h
 ·rw[e];exact k
 ·rcases OB.1 k with e|k
  ·rw[<-e];exact Ik h
  ·exact Ik (Yw h k)
theorem jL (h:sle l m) (x:Int):sle (l++[x]) (m++[x]):=by
 rcases h with h|⟨h,h2⟩
 ·exact .inl (by simp;omega)
 ·refine .inr ⟨by simp[h],?_⟩
  rw[OH m l x x h.symm,h2];simp
theorem jK (l r:List Int):sle l (l++r):=by
 cases r with
 | nil=>rw[List.append_nil];exact Lc l
 | cons a r=>exact .inl (by simp)
theorem jJ (h:slt l m) (x y:Int):slt (l++[x]) (m++[y]):=by
 rcases h with h|⟨h,h2⟩
 ·exact .inl (by simp;omega)
 ·refine .inr ⟨by simp[h],?_⟩
  rw[OH l m x y h,h2];rfl
theorem bO (l:List Int) {x y:Int} (h:x<y):slt (l++[x]) (l++[y]):=by
 refine .inr ⟨by simp,?_⟩
 rw[OH l l x y rfl];simp[h]
section
variable {P:Type} {E:P->Int->P->Prop} {Bad:P->Prop} {r:P}
inductive Wk (E:P->Int->P->Prop):P->List Int->P->Prop
 | nil (t:P):Wk E t [] t
 | cons {t t2 t3:P} {st:Int} {l:List Int}:E t st t2->Wk E t2 l t3->Wk E t (st::l) t3
variable {st:Int} {l:List Int} {t t2:P}
theorem Wk.snoc {t3:P} (h:Wk E t l t2) (he:E t2 st t3):Wk E t (l++[st]) t3:=by
 induction h with
 | nil t=>exact .cons he (.nil _)
 | cons h1 _ ih=>exact .cons h1 (ih he)
theorem Wk.last {t3:P} (h:Wk E t l t3):l≠[]->∃m st t2,l=m++[st]/\Wk E t m t2/\E t2 st t3:=by
 induction h with
 | nil t=>intro h;exact absurd rfl h
 | @cons t t2 t3 st l h1 h2 ih =>
  intro _
  cases l with
  | nil =>
   cases h2
   exact ⟨[],st,t,rfl,.nil _,h1⟩
  | cons a l =>
   obtain ⟨m,st2,t4,e,hw,he⟩:=ih (by simp)
   exact ⟨st::m,st2,t4,by rw[e];rfl,.cons h1 hw,he⟩
theorem Wk.all {p:P->Prop} (hp:∀t,p t->∀st t',E t st t'->p t') {t':P} (h:Wk E t l t'):p t->p t':=by
 induction h with
 | nil t=>exact id
 | cons h1 _ ih=>exact fun hq=>ih (hp _ hq _ _ h1)
def AA7 (E:P->Int->P->Prop) (Bad:P->Prop) (r:P) (l:List Int):Prop:=(∃t,Wk E r l t/\Bad t)/\∀l' t',Wk E r l' t'->Bad t'->sle l l'
inductive qR (E:P->Int->P->Prop):P->List Int->List P->P->Prop
 | nil (t:P):qR E t [] [t] t
 | cons {t t2 t3:P} {st:Int} {l:List Int} {V:List P}:E t st t2->qR E t2 l V t3->qR E t (st::l) (t::V) t3
theorem qR.wk {V:List P} (h:qR E t l V t2):Wk E t l t2/\V.length=l.length+1:=by
 induction h with
 | nil t=>exact ⟨.nil _,rfl⟩
 | cons h1 _ ih=>exact ⟨.cons h1 ih.1,by simp[ih.2]⟩
theorem qR.all {p:P->Prop} (hp:∀t,p t->∀st t',E t st t'->p t') {t':P} {V:List P} (h:qR E t l V t'):p t->∀x∈V,p x:=by
 induction h with
 | nil t =>
  intro hq x hx
  obtain rfl:x=t:=by simpa using hx
  exact hq
 | cons h1 _ ih =>
  intro hq x hx
  rcases AAf.1 hx with e|e
  ·rw[e];exact hq
  ·exact ih (hp _ hq _ _ h1) x e
structure Xa (E:P->Int->P->Prop) (Bad:P->Prop) (r:P) (Q:List (List Int×P)) (i:Nat) (dn:List (Int×P)):Prop where
 head:Q[0]? = some ([],r)
 walk:∀w∈Q,Wk E r w.1 w.2
 tO:∀ (j k:Nat) v w,j<k->Q[j]? = some v->Q[k]? = some w->slt v.1 w.1
 o9:∀ (j:Nat) w st t,Q[j]? = some w->(j<i/\E w.2 st t\/j=i/\(st,t)∈dn)->∃v∈Q,v.2=t/\sle v.1 (w.1++[st])
 src:∀w∈Q,w.1=[]\/∃ (k:Nat) (v:List Int×P) (st:Int) (t:P),Q[k]? = some v/\w.1=v.1++[st]/\(k<i\/k=i/\(st,t)∈dn)
 wR:∀ (j:Nat) w,j<i->Q[j]? = some w->¬ Bad w.2
variable {Q:List (List Int×P)} {w:List Int×P} {i:Nat}
theorem Xa.before {dn:List (Int×P)} (h:Xa E Bad r Q i dn) (hw:Q[i]? = some w) (hst:∀x∈dn,x.1<st):∀v∈Q,slt v.1 (w.1++[st]):=by
 intro v hv
 rcases h.src v hv with e|⟨k,u,s0,t0,hu,e,hk⟩
 ·rw[e];exact .inl (by simp)
 ·rw[e]
  rcases hk with hk|⟨hk,hm⟩
  ·exact jJ (h.tO k i u w hk hu hw) _ _
  ·subst hk
   obtain rfl:u=w:=AAb (hu.symm.trans hw);exact bO _ (hst _ hm)
theorem Xa.old {dn:List (Int×P)} (h:Xa E Bad r Q i dn) (hw:Q[i]? = some w) (hst:∀x∈dn,x.1<st) (ht:∃u∈Q,u.2=t):Xa E Bad r Q i (dn++[(st,t)]):=by
 refine ⟨h.head,h.walk,h.tO,fun j v s1 t1 hv hp=>?_,fun v hv=>?_,h.wR⟩
 ·rcases hp with hp|⟨hj,hm⟩
  ·exact h.o9 j v s1 t1 hv (.inl hp)
  ·rcases AAl.1 hm with hm|hm
   ·exact h.o9 j v s1 t1 hv (.inr ⟨hj,hm⟩)
   ·obtain ⟨rfl,rfl⟩:s1=st/\t1=t:=by simpa using hm
    subst hj;obtain rfl:v=w:=AAb (hv.symm.trans hw);obtain ⟨u,hu,e⟩:=ht;exact ⟨u,hu,e,Ik (h.before hw hst u hu)⟩
 ·rcases h.src v hv with e|⟨k,u,s0,t0,hu,e,hk⟩
  ·exact .inl e
  ·exact .inr ⟨k,u,s0,t0,hu,e,hk.imp id fun hk=>⟨hk.1,AAn _ hk.2⟩⟩
theorem Jq {α:Type} {l:List α} {x y:α} {j:Nat} (h:(l++[x])[j]? = some y):l[j]? = some y\/(j=l.length/\y=x):=by
 by_cases hj:j<l.length
 ·rw[AA8 hj] at h;exact .inl h
 ·have:=(AAZ.1 h).1
  simp at this;have e:j=l.length:=by omega
  subst e;simp at h;exact .inr ⟨rfl,h.symm⟩
theorem Xa.new {dn:List (Int×P)} (h:Xa E Bad r Q i dn) (hw:Q[i]? = some w) (he:E w.2 st t) (hst:∀x∈dn,x.1<st):Xa E Bad r (Q++[(w.1++[st],t)]) i (dn++[(st,t)]):=by
 have hil:i<Q.length:=(AAZ.1 hw).1;have hwm:=AAz hw;have eX:∀ {k:Nat} {v:List Int×P},Q[k]? = some v->(Q++[(w.1++[st],t)])[k]? = some v:=fun {k v} hv=>by
  rw[AA8 (AAZ.1 hv).1];exact hv
 refine ⟨eX h.head,fun v hv=>?_,fun j k u v hjk hu hv=>?_,fun j v s1 t1 hv hp=>?_,fun v hv=>?_,fun j v hj hv=>?_⟩
 ·rcases AAl.1 hv with hv|hv
  ·exact h.walk v hv
  ·obtain rfl:v=(w.1++[st],t):=by simpa using hv
   exact (h.walk w hwm).snoc he
 ·rcases Jq hv with hv'|⟨e1,e2⟩
  ·have hk:=(AAZ.1 hv').1
   rcases Jq hu with hu'|⟨e1,_⟩
   ·exact h.tO j k u v hjk hu' hv'
   ·omega
  ·rcases Jq hu with hu'|⟨e3,_⟩
   ·rw[e2];exact h.before hw hst u (AAz hu')
   ·omega
 ·have hv':Q[j]? = some v:=by
   rcases Jq hv with hv'|⟨e1,_⟩
   ·exact hv'
   ·rcases hp with hp|hp
    ·omega
    ·omega
  rcases hp with hp|⟨hj,hm⟩
  ·obtain ⟨u,h1,h2⟩:=h.o9 j v s1 t1 hv' (.inl hp)
   exact ⟨u,AAn _ h1,h2⟩
  ·rcases AAl.1 hm with hm|hm
   ·obtain ⟨u,h1,h2⟩:=h.o9 j v s1 t1 hv' (.inr ⟨hj,hm⟩)
    exact ⟨u,AAn _ h1,h2⟩
   ·obtain ⟨rfl,rfl⟩:s1=st/\t1=t:=by simpa using hm
    subst hj;obtain rfl:v=w:=AAb (hv'.symm.trans hw);exact ⟨(v.1++[s1],t1),by simp,rfl,Lc _⟩
 ·rcases AAl.1 hv with hv|hv
  ·rcases h.src v hv with e|⟨k,u,s0,t0,hu,e,hk⟩
   ·exact .inl e
   ·exact .inr ⟨k,u,s0,t0,eX hu,e,hk.imp id fun hk=>⟨hk.1,AAn _ hk.2⟩⟩
  ·obtain rfl:v=(w.1++[st],t):=by simpa using hv
   exact .inr ⟨i,w,st,t,eX hw,rfl,.inr ⟨rfl,by simp⟩⟩
 ·rcases Jq hv with hv'|⟨e1,_⟩
  ·exact h.wR j v hj hv'
  ·omega
theorem Xa.next {dn:List (Int×P)} (h:Xa E Bad r Q i dn) (hw:Q[i]? = some w) (hb:¬ Bad w.2) (hd:∀st t,E w.2 st t->(st,t)∈dn):Xa E Bad r Q (i+1) []:=by
 refine ⟨h.head,h.walk,h.tO,fun j v s1 t1 hv hp=>?_,fun v hv=>?_,fun j v hj hv=>?_⟩
 ·rcases hp with ⟨hj,he⟩|⟨_,hm⟩
  ·by_cases e:j=i
   ·subst e
    obtain rfl:v=w:=AAb (hv.symm.trans hw);exact h.o9 j v s1 t1 hv (.inr ⟨rfl,hd _ _ he⟩)
   ·exact h.o9 j v s1 t1 hv (.inl ⟨by omega,he⟩)
  ·cases hm
 ·rcases h.src v hv with e|⟨k,u,s0,t0,hu,e,hk⟩
  ·exact .inl e
  ·exact .inr ⟨k,u,s0,t0,hu,e,.inl (by rcases hk with hk|hk <;> omega)⟩
 ·by_cases e:j=i
  ·subst e
   obtain rfl:v=w:=AAb (hv.symm.trans hw);exact hb
  ·exact h.wR j v (by omega) hv
theorem Xa.cont (h:Xa E Bad r Q i []) {l2:List Int} (hk:Wk E t2 l2 t):∀ (l1:List Int) (j:Nat) w,Q[j]? = some w->w.2=t2->sle w.1 l1->(∃v∈Q,v.2=t/\sle v.1 (l1++l2))\/∃ (j':Nat) (w':List Int×P),i<=j'/\Q[j']? = some w'/\sle w'.1 (l1++l2):=by
 induction hk with
 | nil t =>
  intro l1 j w hw e hs
  exact .inl ⟨w,AAz hw,e,by rw[List.append_nil];exact hs⟩
 | @cons t t2 t3 st l h1 _ ih =>
  intro l1 j w hw e hs
  by_cases hj:i<=j
  ·exact .inr ⟨j,w,hj,hw,KA hs (jK _ _)⟩
  ·obtain ⟨v,hv,e2,hs2⟩:=h.o9 j w st t2 hw (.inl ⟨by omega,by rw[e];exact h1⟩)
   obtain ⟨k,hk,rfl⟩:=AAs hv;have:=ih (l1++[st]) k _ (zl hk) e2 (KA hs2 (jL hs st));rw[AAx] at this;exact this
theorem Xa.bad (h:Xa E Bad r Q i []) (hw:Q[i]? = some w) (hb:Bad w.2):AA7 E Bad r w.1:=by
 refine ⟨⟨w.2,h.walk w (AAz hw),hb⟩,fun l t hl ht=>?_⟩
 have key:∀ (j:Nat) v,i<=j->Q[j]? = some v->sle w.1 v.1:=fun j v hj hv=>by
  by_cases e:j=i
  ·subst e
   obtain rfl:v=w:=AAb (hv.symm.trans hw);exact Lc _
  ·exact Ik (h.tO i j w v (by omega) hw hv)
 rcases h.cont hl [] 0 _ h.head rfl (Lc _) with ⟨v,hv,e,hs⟩|⟨j,v,hj,hv,hs⟩
 ·obtain ⟨k,hk,rfl⟩:=AAs hv
  have hki:i<=k:=by
   rcases Nat.lt_or_ge k i with hlt|hge
   ·exact absurd (by rw[e];exact ht) (h.wR k _ hlt (zl hk))
   ·exact hge
  exact KA (key k _ hki (zl hk)) hs
 ·exact KA (key j v hj hv) hs
end
section
variable {a b:List AZ} {ta tb:Int}
end
def ni:List ByteArray:=[⟨#[98,111,111,108]⟩,⟨#[105,110,116]⟩,⟨#[115,116,114,105,110,103]⟩,⟨#[108,105,115,116]⟩,⟨#[109,97,112]⟩,⟨#[111,112,116,105,111,110,97,108]⟩]
def mU (nm:ByteArray):Bool:=K6 nm ni
def Eg (k:Int):Prop:=k=7\/k=8\/k=9
instance (k:Int):Decidable (Eg k):=by unfold Eg;exact inferInstance
def qL (s:List AZ) (t:Int):Nat->Int
 | 0=>t
 | i+1=>(AR s (qL s t i)).elem
def pX (s:List AZ) (u:Int):Prop:=(AR s u).kind=8/\DR (AR s (AR s u).key).kind=true/\mU (AR s (AR s u).key).name=true
def wAt (s:List AZ) (u:Int):Prop:=(DR (AR s u).kind=true/\mU (AR s u).name=true)\/pX s u
def WT (s:List AZ) (t:Int):Prop:=∃i,(∀j,j<i->Eg (AR s (qL s t j)).kind)/\wAt s (qL s t i)
def CT (s:List AZ) (t:Int):Prop:=∀i,Eg (AR s (qL s t i)).kind
theorem Ws {k:Int} (h:Eg k):DR k=false:=by
 unfold Eg at h;unfold DR
 rcases h with rfl|rfl|rfl <;> rfl
theorem WM {k:Int} (h:DR k=true):¬ Eg k:=fun hc=>by rw[Ws hc] at h;cases h
section
variable {s:List AZ} {t:Int}
end
structure G8 (s:List AZ) (path:List Int) (t:Int):Prop where
 rng:∀u∈path,0<=u/\u<(s.length:Int)
 cmp:∀u∈path,Eg (AR s u).kind
 nd:path.Nodup
 lnk:∀ (i:Nat) u,path[i]? = some u->(path++[t])[i+1]? = some (AR s u).elem
theorem G8.nil (s:List AZ) (t:Int):G8 s [] t:=⟨(fun _ h=>by cases h),(fun _ h=>by cases h),by simp,(fun i u h=>by simp at h)⟩
section
variable {s:List AZ} {t:Int} {path:List Int}
theorem G8.more (h:G8 s path t) (hr:0<=t/\t<(s.length:Int)) (hc:Eg (AR s t).kind) (ht:t ∉ path):G8 s (path++[t]) (AR s t).elem:=by
 refine ⟨fun u hu=>?_,fun u hu=>?_,?_,fun i u hi=>?_⟩
 ·rcases AAl.1 hu with k|k
  ·exact h.rng u k
  ·obtain rfl:u=t:=by simpa using k
   exact hr
 ·rcases AAl.1 hu with k|k
  ·exact h.cmp u k
  ·obtain rfl:u=t:=by simpa using k
   exact hc
 ·rw[List.nodup_append]
  refine ⟨h.nd,by simp,fun y hy z hz e=>?_⟩
  obtain rfl:z=t:=by simpa using hz
  exact ht (e▸hy)
 ·by_cases hl:i<path.length
  ·rw[AA8 hl] at hi
   have:=h.lnk i u hi;rw[AA8 (by simp;omega)]
   exact this
  ·have hi':=(AAZ.1 hi).1
   simp at hi';obtain rfl:i=path.length:=by omega
   rw[AAw (AAQ _)] at hi;obtain rfl:u=t:=by simpa using hi.symm
   rw[AAw (by simp)]
   simp
theorem G8.YJ (h:G8 s path t) (ht:t∈path):∀i,qL s t i∈path
 | 0=>ht
 | i+1=>by
  obtain ⟨j,hj,e⟩:=AAs (G8.YJ h ht i);have:=h.lnk j _ (by rw[zl hj,e])
  have hm:=AAz this
  rcases AAl.1 hm with k|k
  ·exact k
  ·have k':(AR s (qL s t i)).elem=t:=by simpa using k
   show (AR s (qL s t i)).elem∈path
   rw[k'];exact ht
theorem G8.word (h:G8 s path t) (ht:t∈path) (hw:WT s t):∃u∈path,pX s u:=by
 obtain ⟨i,_,hw⟩:=hw;have hm:=h.YJ ht i
 rcases hw with ⟨h1,_⟩|h1
 ·exact absurd (h.cmp _ hm) (WM h1)
 ·exact ⟨_,hm,h1⟩
end
section
variable {s:List AZ} {t:Int} {path:List Int}
theorem GK (hr:0<=t/\t<(s.length:Int)):AR s t∈s:=by
 have hl:t.toNat<s.length:=by omega
 have:AR s t=s[t.toNat]:=by unfold AR;rw[AAi,zl hl];rfl
 rw[this];exact AAW hl
theorem IC (hv:zQ s=0) (hr:0<=t/\t<(s.length:Int)):1<=(AR s t).kind/\(AR s t).kind<=9:=by
 have h:=(Dk hv (GK hr)).1;unfold GZ at h;simp only[AAG,AAY] at h;exact ⟨h.1.1.1.1,h.1.1.1.2⟩
theorem U2 (hv:zQ s=0) (hr:0<=t/\t<(s.length:Int)) (hc:Eg (AR s t).kind):0<=(AR s t).elem/\(AR s t).elem<(s.length:Int):=by
 refine (Dk hv (GK hr)).2 _ (List.mem_map.2 ⟨(-1,(AR s t).elem),?_,rfl⟩);unfold JZ;unfold Eg at hc
 rcases hc with h|h|h <;> rw[h] <;> simp
theorem YB (hv:zQ s=0) (hr:0<=t/\t<(s.length:Int)) (hc:(AR s t).kind=8):(0<=(AR s t).key/\(AR s t).key<(s.length:Int))/\1<=(AR s (AR s t).key).kind/\(AR s (AR s t).key).kind<=4:=by
 refine ⟨(Dk hv (GK hr)).2 _ (List.mem_map.2 ⟨(0,(AR s t).key),?_,rfl⟩),?_⟩
 ·unfold JZ
  rw[hc];simp
 ·have:=QF hv (GK hr) hc
  unfold Bd at this
  simpa using this
theorem lU (b:ByteArray):b++(⟨#[]⟩:ByteArray)=b:=by
 apply ByteArray.ext
 rw[ByteArray.data_append];simp
end
structure VS where
 opn:List Bool
 don:List Bool
 word:Bool
 loop:Bool
def kZ (l:List Bool) (t:Int):Bool:=l.getD t.toNat false
def cntF (l:List Bool):Nat:=(l.filter (· == false)).length
structure VI (s:List AZ) (path:List Int) (v:VS):Prop where
 lo:v.opn.length=s.length
 ld:v.don.length=s.length
 op:∀u,(0<=u/\u<(s.length:Int))->(kZ v.opn u=true↔u∈path)
 dn:∀u,(0<=u/\u<(s.length:Int))->kZ v.don u=true->u ∉ path->(WT s u->v.word=true)/\(CT s u->v.loop=true)
 kw:∀u∈path,pX s u->v.word=true
structure VN (v v':VS) (W C:Prop):Prop where
 w1:W->v'.word=true
 c1:C->v'.loop=true
 w2:v'.word=true->v.word=true\/W
 c2:v'.loop=true->v.loop=true\/C
 w3:v.word=true->v'.word=true
 c3:v.loop=true->v'.loop=true
 cn:cntF v'.don<=cntF v.don
section
variable {s:List AZ} {t:Int} {path:List Int} {v:VS}
end
theorem VN.trans {a b c : VS} {W1 C1 W2 C2 : Prop} (h : VN a b W1 C1) (k : VN b c W2 C2) : VN a c (W1 \/ W2) (C1 \/ C2) :=
  ⟨fun e => e.elim (fun e => k.w3 (h.w1 e)) k.w1, fun e => e.elim (fun e => k.c3 (h.c1 e)) k.c1, fun e => (k.w2 e).elim (fun e => (h.w2 e).imp id .inl) fun e => .inr (.inr e), fun e => (k.c2 e).elim (fun e => (h.c2 e).imp id .inl) fun e => .inr (.inr e),
   fun e => k.w3 (h.w3 e), fun e => k.c3 (h.c3 e), Nat.le_trans k.cn h.cn⟩
def Ob (n:Nat):VS:=⟨List.replicate n false,List.replicate n false,false,false⟩
theorem VI.start (s:List AZ):VI s [] (Ob s.length):=by
 refine ⟨by simp[Ob],by simp[Ob],fun u hu=>?_,fun u hu hd=>?_,fun u hu=>by cases hu⟩
 ·unfold kZ Ob
  rw[AAi,List.getElem?_replicate]
  split <;> simp
 ·exfalso
  unfold kZ Ob at hd;rw[AAi,List.getElem?_replicate] at hd
  split at hd <;> simp at hd
end Go.Proofs.YthkkllmmbefedaaGreatDoor
namespace Go.Proofs.YthkkllmmbefedaaGreatDoor
end Go.Proofs.YthkkllmmbefedaaGreatDoor
namespace Go.Proofs.YthkkllmmbefedaaGreatDoor
structure J3 where
 id:Nat
 type:Nat
 flag:Nat
 deriving DecidableEq
structure Aa where
 kind:Nat
 a:Nat
 b:Nat
 c:Nat
 parts:List J3
 deriving DecidableEq
def Dx:Aa:=⟨0,0,0,0,[]⟩
def BH (d:List Aa) (i:Nat):Int:=1+(((d.getD i Dx).kind % 9:Nat):Int)
def Iq (k:Int):Bool:=decide (7<=k)
def Wl (n:Nat) (p:Nat->Bool):Int:=match (List.range n).find? p with|some k=>(k:Int)|none => -1
def DY (d:List Aa) (i code:Nat):Int :=
 if Iq (BH d (code % d.length))||decide (code % d.length<i) then ((code % d.length:Nat):Int)
 else if 0<i then ((code % d.length % i:Nat):Int)
 else Wl d.length fun k=>Iq (BH d k)
def KZ (d:List Aa) (code:Nat):Int:=match (List.range d.length).find? (fun k=>Bd (BH d ((code+k) % d.length))) with|some k=>(((code+k) % d.length:Nat):Int)|none => -1
def K8 (x:Aa):Int:=((x.a % 7:Nat):Int) - 3
def Kn (x:Aa):Int:=K8 x+((x.b % 6:Nat):Int)
def EB (x:Aa):List Int :=
 let l:=((List.range 6).filter fun i=>(x.a >>> i) % 2==1).map fun i=>((i+1:Nat):Int)
 if l=[] then [1] else l
end Go.Proofs.YthkkllmmbefedaaGreatDoor



