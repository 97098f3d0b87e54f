/-
  Drafts of schemas, and the schema of a draft: plain Lean.
-/
import Derived.Test.YthkkllmmbefedaaGreatDoorQGA0
import Derived.Lib.ItoaLen
namespace Go.Proofs.YthkkllmmbefedaaGreatDoor
set_option maxHeartbeats 16000000
set_option maxRecDepth 100000
section
variable {s:List Aa} {S:Nat->Nat->Bool}
end
def CX (n:Int):ByteArray:=⟨(Lib.itoa n).toArray⟩
def AO (s:List Aa) (c:Int):Aa:=s.getD c.toNat Ai
variable {s:List Aa}
theorem zT {k:Nat} (hk:k<s.length):AO s (k:Int)=s[k]:=by
 unfold AO;rw[AAg,Int.toNat_natCast,zl hk];rfl
section
variable {s:List Aa} {S:Nat->Nat->Bool}
end
section
variable {a b:List Aa} {S T U:Nat->Nat->Bool}
end
theorem QO {s:List Aa}:∀ (l:List Aa) (seen:List ByteArray),(∀i (h:i<l.length),Kb s (seen++(l.take i).map (·.name)) l[i]=0)->Ma s seen l=0
 | [],_,_=>rfl
 | t::l,seen,h=>by
  have h0:=h 0 (by simp)
  simp only[List.take_zero,List.map_nil,List.append_nil,List.getElem_cons_zero] at h0;rw[Ma,AAH h0];refine QO l _ fun i hi=>?_
  have:=h (i+1) (by simpa using hi)
  simpa using this
theorem dB {seen:List ByteArray} {t:Aa} (hf:GQ t=true) (hs:t.name≠⟨#[]⟩->t.name ∉ seen) (hu:∀u∈dG t,0<=u/\u<(s.length:Int)) (hk:t.kind=8->BU ((s.getD t.key.toNat Ai).kind)=true):Kb s seen t=0:=by
 unfold Kb;rw[Pd,Pd,Pd]
 ·by_cases h:t.kind=8
  ·rw[hk h];simp
  ·simp[h]
 ·intro h
  obtain ⟨u,h1,h2⟩:=ABh.1 h;have:=hu u h1;simp at h2
  omega
 ·rw[hf]
  by_cases h:t.name=⟨#[]⟩
  ·simp[h]
  ·have:=hs h
   simp[h,Ky,this]
theorem QL (h:zQ s=0) {t:Aa} (ht:t∈s) (hk:t.kind=8):BU ((AO s t.key).kind)=true:=by
 unfold zQ at h
 split at h
 ·cases h
 ·obtain ⟨K,hK⟩:=JD s [] h t ht
  unfold Kb at hK
  split at hK
  ·cases hK
  ·split at hK
   ·cases hK
   ·split at hK
    ·cases hK
    ·rename_i h3
     unfold AO
     cases hkk:BU ((s.getD t.key.toNat Ai).kind) with
     | true=>rfl
     | false=>exact absurd (by simp[hk];exact hkk) h3
theorem bV (hl:s.length<=32) (h:∀i (hi:i<s.length),Kb s ((s.take i).map (·.name)) s[i]=0):zQ s=0:=by
 unfold zQ;rw[Pd (by omega)]
 exact QO s [] fun i hi=>by simpa using h i hi
section
variable {s:List Aa} {S:Nat->Nat->Bool} {t:Int}
end
theorem Kz:∀l,M5 l l=false
 | []=>rfl
 | a::l=>by rw[M5,AAH rfl];exact Kz l
theorem M4:∀l m r,M5 l m=true->M5 m r=true->M5 l r=true
 | [],[],_,h,_=>by simp[M5] at h
 | [],_::_,[],_,k=>by simp[M5] at k
 | [],_::_,_::_,_,_=>rfl
 | _::_,[],_,h,_=>by simp[M5] at h
 | _::_,_::_,[],_,k=>by simp[M5] at k
 | a::l,b::m,c::r,h,k=>by
  rw[M5] at h k ⊢
  by_cases e:a=b
  ·rw[AAH e] at h
   by_cases f:b=c
   ·rw[AAH f] at k
    rw[AAH (e.trans f)];exact M4 l m r h k
   ·rw[Pd f] at k
    rw[Pd (by rw[e];exact f),e];exact k
  ·rw[Pd e] at h
   have h1:a<b:=AAe h
   by_cases f:b=c
   ·rw[Pd (by rw[<-f];exact e),<-f];exact h
   ·rw[Pd f] at k
    have h2:b<c:=AAe k;rw[Pd (by omega)];exact AAT (by omega)
theorem Qu:∀l m,l=m\/M5 l m=true\/M5 m l=true
 | [],[] => .inl rfl
 | [],_::_ => .inr (.inl rfl)
 | _::_,[] => .inr (.inr rfl)
 | a::l,b::m=>by
  by_cases e:a=b
  ·subst e
   rcases Qu l m with h|h|h
   ·exact .inl (by rw[h])
   ·exact .inr (.inl (by rw[M5,AAH rfl];exact h))
   ·exact .inr (.inr (by rw[M5,AAH rfl];exact h))
  ·rcases Int.lt_or_lt_of_ne e with h|h
   ·exact .inr (.inl (by rw[M5,Pd e];exact AAT h))
   ·exact .inr (.inr (by rw[M5,Pd (fun x=>e x.symm)];exact AAT h))
theorem OP:∀ (l m:List Int) (x y:Int),l.length=m.length->M5 (l++[x]) (m++[y])=(M5 l m||(decide (l=m)&&decide (x<y)))
 | [],[],x,y,_=>by
  simp only[List.nil_append,M5]
  by_cases e:x=y
  ·simp[e]
  ·simp[e]
 | [],_::_,_,_,h=>by simp at h
 | _::_,[],_,_,h=>by simp at h
 | a::l,b::m,x,y,h=>by
  rw[AAc,AAc,M5,M5,OP l m x y (by simpa using h)]
  by_cases e:a=b
  ·simp[e]
  ·simp[e]
def sle (l m:List Int):Prop:=l.length<m.length\/(l.length=m.length/\M5 m l=false)
def slt (l m:List Int):Prop:=l.length<m.length\/(l.length=m.length/\M5 l m=true)
variable {l m:List Int}
theorem ZT:M5 m l=false↔(l=m\/M5 l m=true):=by
 constructor
 ·intro h
  rcases Qu l m with k|k|k
  ·exact .inl k
  ·exact .inr k
  ·rw[h] at k;cases k
 ·rintro (k|k)
  ·rw[k];exact Kz m
  ·cases h:M5 m l with
   | false=>rfl
   | true=>have:=M4 _ _ _ k h;rw[Kz] at this;cases this
theorem OJ:sle l m↔(l=m\/slt l m):=by
 unfold sle slt;rw[ZT]
 constructor
 ·rintro (h|⟨h,h2|h2⟩)
  ·exact .inr (.inl h)
  ·exact .inl h2
  ·exact .inr (.inr ⟨h,h2⟩)
 ·rintro (h|h|⟨h,h2⟩)
  ·exact .inr ⟨by rw[h],.inl h⟩
  ·exact .inl h
  ·exact .inr ⟨h,.inr h2⟩
theorem LZ (l:List Int):sle l l:=OJ.2 (.inl rfl)
theorem II (h:slt l m):sle l m:=OJ.2 (.inr h)
theorem Yz {r:List Int} (h:slt l m) (k:slt m r):slt l r:=by
 rcases h with h|⟨h,h2⟩ <;> rcases k with k|⟨k,k2⟩
 ·exact .inl (by omega)
 ·exact .inl (by omega)
 ·exact .inl (by omega)
 ·exact .inr ⟨h.trans k,M4 _ _ _ h2 k2⟩
theorem Js {r:List Int} (h:sle l m) (k:sle m r):sle l r:=by
 rcases OJ.1 h with e|h
 ·rw[e];exact k
 ·rcases OJ.1 k with e|k
  ·rw[<-e];exact II h
  ·exact II (Yz h k)
theorem lQ (h:sle l m) (x:Int):sle (l++[x]) (m++[x]):=by
 rcases h with h|⟨h,h2⟩
 ·exact .inl (by simp;omega)
 ·refine .inr ⟨by simp[h],?_⟩
  rw[OP m l x x h.symm,h2];simp
theorem lN (l r:List Int):sle l (l++r):=by
 cases r with
 | nil=>rw[List.append_nil];exact LZ l
 | cons a r=>exact .inl (by simp)
theorem lM (h:slt l m) (x y:Int):slt (l++[x]) (m++[y]):=by
 rcases h with h|⟨h,h2⟩
 ·exact .inl (by simp;omega)
 ·refine .inr ⟨by simp[h],?_⟩
  rw[OP l m x y h,h2];rfl
theorem dV (l:List Int) {x y:Int} (h:x<y):slt (l++[x]) (l++[y]):=by
 refine .inr ⟨by simp,?_⟩
 rw[OP l l x y rfl];simp[h]
section
variable {P:Type} {E:P->Int->P->Prop} {Bad:P->Prop} {r:P}
inductive Wk (E:P->Int->P->Prop):P->List Int->P->Prop
 | nil (t:P):Wk E t [] t
 | cons {t t2 t3:P} {st:Int} {l:List Int}:E t st t2->Wk E t2 l t3->Wk E t (st::l) t3
variable {st:Int} {l:List Int} {t t2:P}
theorem Wk.snoc {t3:P} (h:Wk E t l t2) (he:E t2 st t3):Wk E t (l++[st]) t3:=by
 induction h with
 | nil t=>exact .cons he (.nil _)
 | cons h1 _ ih=>exact .cons h1 (ih he)
theorem Wk.last {t3:P} (h:Wk E t l t3):l≠[]->∃m st t2,l=m++[st]/\Wk E t m t2/\E t2 st t3:=by
 induction h with
 | nil t=>intro h;exact absurd rfl h
 | @cons t t2 t3 st l h1 h2 ih =>
  intro _
  cases l with
  | nil =>
   cases h2
   exact ⟨[],st,t,rfl,.nil _,h1⟩
  | cons a l =>
   obtain ⟨m,st2,t4,e,hw,he⟩:=ih (by simp)
   exact ⟨st::m,st2,t4,by rw[e];rfl,.cons h1 hw,he⟩
theorem Wk.all {p:P->Prop} (hp:∀t,p t->∀st t',E t st t'->p t') {t':P} (h:Wk E t l t'):p t->p t':=by
 induction h with
 | nil t=>exact id
 | cons h1 _ ih=>exact fun hq=>ih (hp _ hq _ _ h1)
def ACf (E:P->Int->P->Prop) (Bad:P->Prop) (r:P) (l:List Int):Prop:=(∃t,Wk E r l t/\Bad t)/\∀l' t',Wk E r l' t'->Bad t'->sle l l'
inductive sw (E:P->Int->P->Prop):P->List Int->List P->P->Prop
 | nil (t:P):sw E t [] [t] t
 | cons {t t2 t3:P} {st:Int} {l:List Int} {V:List P}:E t st t2->sw E t2 l V t3->sw E t (st::l) (t::V) t3
theorem sw.wk {V:List P} (h:sw E t l V t2):Wk E t l t2/\V.length=l.length+1:=by
 induction h with
 | nil t=>exact ⟨.nil _,rfl⟩
 | cons h1 _ ih=>exact ⟨.cons h1 ih.1,by simp[ih.2]⟩
theorem sw.all {p:P->Prop} (hp:∀t,p t->∀st t',E t st t'->p t') {t':P} {V:List P} (h:sw E t l V t'):p t->∀x∈V,p x:=by
 induction h with
 | nil t =>
  intro hq x hx
  obtain rfl:x=t:=by simpa using hx
  exact hq
 | cons h1 _ ih =>
  intro hq x hx
  rcases AAi.1 hx with e|e
  ·rw[e];exact hq
  ·exact ih (hp _ hq _ _ h1) x e
structure XI (E:P->Int->P->Prop) (Bad:P->Prop) (r:P) (Q:List (List Int×P)) (i:Nat) (dn:List (Int×P)):Prop where
 head:Q[0]? = some ([],r)
 walk:∀w∈Q,Wk E r w.1 w.2
 ve:∀ (j k:Nat) v w,j<k->Q[j]? = some v->Q[k]? = some w->slt v.1 w.1
 qw:∀ (j:Nat) w st t,Q[j]? = some w->(j<i/\E w.2 st t\/j=i/\(st,t)∈dn)->∃v∈Q,v.2=t/\sle v.1 (w.1++[st])
 src:∀w∈Q,w.1=[]\/∃ (k:Nat) (v:List Int×P) (st:Int) (t:P),Q[k]? = some v/\w.1=v.1++[st]/\(k<i\/k=i/\(st,t)∈dn)
 nob:∀ (j:Nat) w,j<i->Q[j]? = some w->¬ Bad w.2
variable {Q:List (List Int×P)} {w:List Int×P} {i:Nat}
theorem XI.before {dn:List (Int×P)} (h:XI E Bad r Q i dn) (hw:Q[i]? = some w) (hst:∀x∈dn,x.1<st):∀v∈Q,slt v.1 (w.1++[st]):=by
 intro v hv
 rcases h.src v hv with e|⟨k,u,s0,t0,hu,e,hk⟩
 ·rw[e];exact .inl (by simp)
 ·rw[e]
  rcases hk with hk|⟨hk,hm⟩
  ·exact lM (h.ve k i u w hk hu hw) _ _
  ·subst hk
   obtain rfl:u=w:=AAh (hu.symm.trans hw);exact dV _ (hst _ hm)
theorem XI.old {dn:List (Int×P)} (h:XI E Bad r Q i dn) (hw:Q[i]? = some w) (hst:∀x∈dn,x.1<st) (ht:∃u∈Q,u.2=t):XI E Bad r Q i (dn++[(st,t)]):=by
 refine ⟨h.head,h.walk,h.ve,fun j v s1 t1 hv hp=>?_,fun v hv=>?_,h.nob⟩
 ·rcases hp with hp|⟨hj,hm⟩
  ·exact h.qw j v s1 t1 hv (.inl hp)
  ·rcases AAm.1 hm with hm|hm
   ·exact h.qw j v s1 t1 hv (.inr ⟨hj,hm⟩)
   ·obtain ⟨rfl,rfl⟩:s1=st/\t1=t:=by simpa using hm
    subst hj;obtain rfl:v=w:=AAh (hv.symm.trans hw);obtain ⟨u,hu,e⟩:=ht;exact ⟨u,hu,e,II (h.before hw hst u hu)⟩
 ·rcases h.src v hv with e|⟨k,u,s0,t0,hu,e,hk⟩
  ·exact .inl e
  ·exact .inr ⟨k,u,s0,t0,hu,e,hk.imp id fun hk=>⟨hk.1,ABH _ hk.2⟩⟩
theorem JO {α:Type} {l:List α} {x y:α} {j:Nat} (h:(l++[x])[j]? = some y):l[j]? = some y\/(j=l.length/\y=x):=by
 by_cases hj:j<l.length
 ·rw[ABS hj] at h;exact .inl h
 ·have:=(AAf.1 h).1
  simp at this;have e:j=l.length:=by omega
  subst e;simp at h;exact .inr ⟨rfl,h.symm⟩
theorem XI.new {dn:List (Int×P)} (h:XI E Bad r Q i dn) (hw:Q[i]? = some w) (he:E w.2 st t) (hst:∀x∈dn,x.1<st):XI E Bad r (Q++[(w.1++[st],t)]) i (dn++[(st,t)]):=by
 have hil:i<Q.length:=(AAf.1 hw).1;have hwm:=ABX hw;have iA:∀ {k:Nat} {v:List Int×P},Q[k]? = some v->(Q++[(w.1++[st],t)])[k]? = some v:=fun {k v} hv=>by
  rw[ABS (AAf.1 hv).1];exact hv
 refine ⟨iA h.head,fun v hv=>?_,fun j k u v hjk hu hv=>?_,fun j v s1 t1 hv hp=>?_,fun v hv=>?_,fun j v hj hv=>?_⟩
 ·rcases AAm.1 hv with hv|hv
  ·exact h.walk v hv
  ·obtain rfl:v=(w.1++[st],t):=by simpa using hv
   exact (h.walk w hwm).snoc he
 ·rcases JO hv with hv'|⟨e1,e2⟩
  ·have hk:=(AAf.1 hv').1
   rcases JO hu with hu'|⟨e1,_⟩
   ·exact h.ve j k u v hjk hu' hv'
   ·omega
  ·rcases JO hu with hu'|⟨e3,_⟩
   ·rw[e2];exact h.before hw hst u (ABX hu')
   ·omega
 ·have hv':Q[j]? = some v:=by
   rcases JO hv with hv'|⟨e1,_⟩
   ·exact hv'
   ·rcases hp with hp|hp
    ·omega
    ·omega
  rcases hp with hp|⟨hj,hm⟩
  ·obtain ⟨u,h1,h2⟩:=h.qw j v s1 t1 hv' (.inl hp)
   exact ⟨u,ABH _ h1,h2⟩
  ·rcases AAm.1 hm with hm|hm
   ·obtain ⟨u,h1,h2⟩:=h.qw j v s1 t1 hv' (.inr ⟨hj,hm⟩)
    exact ⟨u,ABH _ h1,h2⟩
   ·obtain ⟨rfl,rfl⟩:s1=st/\t1=t:=by simpa using hm
    subst hj;obtain rfl:v=w:=AAh (hv'.symm.trans hw);exact ⟨(v.1++[s1],t1),by simp,rfl,LZ _⟩
 ·rcases AAm.1 hv with hv|hv
  ·rcases h.src v hv with e|⟨k,u,s0,t0,hu,e,hk⟩
   ·exact .inl e
   ·exact .inr ⟨k,u,s0,t0,iA hu,e,hk.imp id fun hk=>⟨hk.1,ABH _ hk.2⟩⟩
  ·obtain rfl:v=(w.1++[st],t):=by simpa using hv
   exact .inr ⟨i,w,st,t,iA hw,rfl,.inr ⟨rfl,by simp⟩⟩
 ·rcases JO hv with hv'|⟨e1,_⟩
  ·exact h.nob j v hj hv'
  ·omega
theorem XI.next {dn:List (Int×P)} (h:XI E Bad r Q i dn) (hw:Q[i]? = some w) (hb:¬ Bad w.2) (hd:∀st t,E w.2 st t->(st,t)∈dn):XI E Bad r Q (i+1) []:=by
 refine ⟨h.head,h.walk,h.ve,fun j v s1 t1 hv hp=>?_,fun v hv=>?_,fun j v hj hv=>?_⟩
 ·rcases hp with ⟨hj,he⟩|⟨_,hm⟩
  ·by_cases e:j=i
   ·subst e
    obtain rfl:v=w:=AAh (hv.symm.trans hw);exact h.qw j v s1 t1 hv (.inr ⟨rfl,hd _ _ he⟩)
   ·exact h.qw j v s1 t1 hv (.inl ⟨by omega,he⟩)
  ·cases hm
 ·rcases h.src v hv with e|⟨k,u,s0,t0,hu,e,hk⟩
  ·exact .inl e
  ·exact .inr ⟨k,u,s0,t0,hu,e,.inl (by rcases hk with hk|hk <;> omega)⟩
 ·by_cases e:j=i
  ·subst e
   obtain rfl:v=w:=AAh (hv.symm.trans hw);exact hb
  ·exact h.nob j v (by omega) hv
theorem XI.cont (h:XI E Bad r Q i []) {l2:List Int} (hk:Wk E t2 l2 t):∀ (l1:List Int) (j:Nat) w,Q[j]? = some w->w.2=t2->sle w.1 l1->(∃v∈Q,v.2=t/\sle v.1 (l1++l2))\/∃ (j':Nat) (w':List Int×P),i<=j'/\Q[j']? = some w'/\sle w'.1 (l1++l2):=by
 induction hk with
 | nil t =>
  intro l1 j w hw e hs
  exact .inl ⟨w,ABX hw,e,by rw[List.append_nil];exact hs⟩
 | @cons t t2 t3 st l h1 _ ih =>
  intro l1 j w hw e hs
  by_cases hj:i<=j
  ·exact .inr ⟨j,w,hj,hw,Js hs (lN _ _)⟩
  ·obtain ⟨v,hv,e2,hs2⟩:=h.qw j w st t2 hw (.inl ⟨by omega,by rw[e];exact h1⟩)
   obtain ⟨k,hk,rfl⟩:=ABT hv;have:=ih (l1++[st]) k _ (zl hk) e2 (Js hs2 (lQ hs st));rw[AAb] at this;exact this
theorem XI.bad (h:XI E Bad r Q i []) (hw:Q[i]? = some w) (hb:Bad w.2):ACf E Bad r w.1:=by
 refine ⟨⟨w.2,h.walk w (ABX hw),hb⟩,fun l t hl ht=>?_⟩
 have key:∀ (j:Nat) v,i<=j->Q[j]? = some v->sle w.1 v.1:=fun j v hj hv=>by
  by_cases e:j=i
  ·subst e
   obtain rfl:v=w:=AAh (hv.symm.trans hw);exact LZ _
  ·exact II (h.ve i j w v (by omega) hw hv)
 rcases h.cont hl [] 0 _ h.head rfl (LZ _) with ⟨v,hv,e,hs⟩|⟨j,v,hj,hv,hs⟩
 ·obtain ⟨k,hk,rfl⟩:=ABT hv
  have hki:i<=k:=by
   rcases Nat.lt_or_ge k i with hlt|hge
   ·exact absurd (by rw[e];exact ht) (h.nob k _ hlt (zl hk))
   ·exact hge
  exact Js (key k _ hki (zl hk)) hs
 ·exact Js (key j v hj hv) hs
end
section
variable {a b:List Aa} {ta tb:Int}
end
def qO:List ByteArray:=[⟨#[98,111,111,108]⟩,⟨#[105,110,116]⟩,⟨#[115,116,114,105,110,103]⟩,⟨#[108,105,115,116]⟩,⟨#[109,97,112]⟩,⟨#[111,112,116,105,111,110,97,108]⟩]
def ou (nm:ByteArray):Bool:=Ky nm qO
def Eb (k:Int):Prop:=k=7\/k=8\/k=9
instance (k:Int):Decidable (Eb k):=by unfold Eb;exact inferInstance
def sV (s:List Aa) (t:Int):Nat->Int
 | 0=>t
 | i+1=>(AO s (sV s t i)).elem
def rV (s:List Aa) (u:Int):Prop:=(AO s u).kind=8/\Cz (AO s (AO s u).key).kind=true/\ou (AO s (AO s u).key).name=true
def wAt (s:List Aa) (u:Int):Prop:=(Cz (AO s u).kind=true/\ou (AO s u).name=true)\/rV s u
def WT (s:List Aa) (t:Int):Prop:=∃i,(∀j,j<i->Eb (AO s (sV s t j)).kind)/\wAt s (sV s t i)
def CT (s:List Aa) (t:Int):Prop:=∀i,Eb (AO s (sV s t i)).kind
theorem Wl {k:Int} (h:Eb k):Cz k=false:=by
 unfold Eb at h;unfold Cz
 rcases h with rfl|rfl|rfl <;> rfl
theorem WE {k:Int} (h:Cz k=true):¬ Eb k:=fun hc=>by rw[Wl hc] at h;cases h
section
variable {s:List Aa} {t:Int}
end
structure Gu (s:List Aa) (path:List Int) (t:Int):Prop where
 rng:∀u∈path,0<=u/\u<(s.length:Int)
 cmp:∀u∈path,Eb (AO s u).kind
 nd:path.Nodup
 lnk:∀ (i:Nat) u,path[i]? = some u->(path++[t])[i+1]? = some (AO s u).elem
theorem Gu.nil (s:List Aa) (t:Int):Gu s [] t:=⟨(fun _ h=>by cases h),(fun _ h=>by cases h),by simp,(fun i u h=>by simp at h)⟩
section
variable {s:List Aa} {t:Int} {path:List Int}
theorem Gu.more (h:Gu s path t) (hr:0<=t/\t<(s.length:Int)) (hc:Eb (AO s t).kind) (ht:t ∉ path):Gu s (path++[t]) (AO s t).elem:=by
 refine ⟨fun u hu=>?_,fun u hu=>?_,?_,fun i u hi=>?_⟩
 ·rcases AAm.1 hu with k|k
  ·exact h.rng u k
  ·obtain rfl:u=t:=by simpa using k
   exact hr
 ·rcases AAm.1 hu with k|k
  ·exact h.cmp u k
  ·obtain rfl:u=t:=by simpa using k
   exact hc
 ·rw[List.nodup_append]
  refine ⟨h.nd,by simp,fun y hy z hz e=>?_⟩
  obtain rfl:z=t:=by simpa using hz
  exact ht (e▸hy)
 ·by_cases hl:i<path.length
  ·rw[ABS hl] at hi
   have:=h.lnk i u hi;rw[ABS (by simp;omega)]
   exact this
  ·have hi':=(AAf.1 hi).1
   simp at hi';obtain rfl:i=path.length:=by omega
   rw[ABQ (AAP _)] at hi;obtain rfl:u=t:=by simpa using hi.symm
   rw[ABQ (by simp)]
   simp
theorem Gu.YJ (h:Gu s path t) (ht:t∈path):∀i,sV s t i∈path
 | 0=>ht
 | i+1=>by
  obtain ⟨j,hj,e⟩:=ABT (Gu.YJ h ht i);have:=h.lnk j _ (by rw[zl hj,e])
  have hm:=ABX this
  rcases AAm.1 hm with k|k
  ·exact k
  ·have k':(AO s (sV s t i)).elem=t:=by simpa using k
   show (AO s (sV s t i)).elem∈path
   rw[k'];exact ht
theorem Gu.word (h:Gu s path t) (ht:t∈path) (hw:WT s t):∃u∈path,rV s u:=by
 obtain ⟨i,_,hw⟩:=hw;have hm:=h.YJ ht i
 rcases hw with ⟨h1,_⟩|h1
 ·exact absurd (h.cmp _ hm) (WE h1)
 ·exact ⟨_,hm,h1⟩
end
section
variable {s:List Aa} {t:Int} {path:List Int}
theorem F6 (hr:0<=t/\t<(s.length:Int)):AO s t∈s:=by
 have hl:t.toNat<s.length:=by omega
 have:AO s t=s[t.toNat]:=by unfold AO;rw[AAg,zl hl];rfl
 rw[this];exact AAU hl
theorem FI (hv:zQ s=0) (hr:0<=t/\t<(s.length:Int)):1<=(AO s t).kind/\(AO s t).kind<=9:=by
 have h:=(Df hv (F6 hr)).1;unfold GQ at h;simp only[AAM,AAX] at h;exact ⟨h.1.1.1.1,h.1.1.1.2⟩
theorem JV (hv:zQ s=0) (hr:0<=t/\t<(s.length:Int)) (hc:Eb (AO s t).kind):0<=(AO s t).elem/\(AO s t).elem<(s.length:Int):=by
 refine (Df hv (F6 hr)).2 _ (List.mem_map.2 ⟨(-1,(AO s t).elem),?_,rfl⟩);unfold JC;unfold Eb at hc
 rcases hc with h|h|h <;> rw[h] <;> simp
theorem Lr (hv:zQ s=0) (hr:0<=t/\t<(s.length:Int)) (hc:(AO s t).kind=8):(0<=(AO s t).key/\(AO s t).key<(s.length:Int))/\1<=(AO s (AO s t).key).kind/\(AO s (AO s t).key).kind<=4:=by
 refine ⟨(Df hv (F6 hr)).2 _ (List.mem_map.2 ⟨(0,(AO s t).key),?_,rfl⟩),?_⟩
 ·unfold JC
  rw[hc];simp
 ·have:=QL hv (F6 hr) hc
  unfold BU at this
  simpa using this
theorem OX (b:ByteArray):b++(⟨#[]⟩:ByteArray)=b:=by
 apply ByteArray.ext
 rw[ByteArray.data_append];simp
end
structure VS where
 opn:List Bool
 don:List Bool
 word:Bool
 loop:Bool
def nS (l:List Bool) (t:Int):Bool:=l.getD t.toNat false
def cntF (l:List Bool):Nat:=(l.filter (· == false)).length
structure VI (s:List Aa) (path:List Int) (v:VS):Prop where
 lo:v.opn.length=s.length
 ld:v.don.length=s.length
 op:∀u,(0<=u/\u<(s.length:Int))->(nS v.opn u=true↔u∈path)
 dn:∀u,(0<=u/\u<(s.length:Int))->nS v.don u=true->u ∉ path->(WT s u->v.word=true)/\(CT s u->v.loop=true)
 kw:∀u∈path,rV s u->v.word=true
structure VN (v v':VS) (W C:Prop):Prop where
 w1:W->v'.word=true
 c1:C->v'.loop=true
 w2:v'.word=true->v.word=true\/W
 c2:v'.loop=true->v.loop=true\/C
 w3:v.word=true->v'.word=true
 c3:v.loop=true->v'.loop=true
 cn:cntF v'.don<=cntF v.don
section
variable {s:List Aa} {t:Int} {path:List Int} {v:VS}
end
theorem VN.trans {a b c : VS} {W1 C1 W2 C2 : Prop} (h : VN a b W1 C1) (k : VN b c W2 C2) : VN a c (W1 \/ W2) (C1 \/ C2) :=
  ⟨fun e => e.elim (fun e => k.w3 (h.w1 e)) k.w1, fun e => e.elim (fun e => k.c3 (h.c1 e)) k.c1, fun e => (k.w2 e).elim (fun e => (h.w2 e).imp id .inl) fun e => .inr (.inr e), fun e => (k.c2 e).elim (fun e => (h.c2 e).imp id .inl) fun e => .inr (.inr e),
   fun e => k.w3 (h.w3 e), fun e => k.c3 (h.c3 e), Nat.le_trans k.cn h.cn⟩
def Ot (n:Nat):VS:=⟨List.replicate n false,List.replicate n false,false,false⟩
theorem VI.start (s:List Aa):VI s [] (Ot s.length):=by
 refine ⟨by simp[Ot],by simp[Ot],fun u hu=>?_,fun u hu hd=>?_,fun u hu=>by cases hu⟩
 ·unfold nS Ot
  rw[AAg,List.getElem?_replicate]
  split <;> simp
 ·exfalso
  unfold nS Ot at hd;rw[AAg,List.getElem?_replicate] at hd
  split at hd <;> simp at hd
end Go.Proofs.YthkkllmmbefedaaGreatDoor
namespace Go.Proofs.YthkkllmmbefedaaGreatDoor
end Go.Proofs.YthkkllmmbefedaaGreatDoor
namespace Go.Proofs.YthkkllmmbefedaaGreatDoor
structure Jc where
 id:Nat
 type:Nat
 flag:Nat
 deriving DecidableEq
structure AR where
 kind:Nat
 a:Nat
 b:Nat
 c:Nat
 parts:List Jc
 deriving DecidableEq
def Bj:AR:=⟨0,0,0,0,[]⟩
def AZ (d:List AR) (i:Nat):Int:=1+(((d.getD i Bj).kind % 9:Nat):Int)
def Gl (k:Int):Bool:=decide (7<=k)
def Ua (n:Nat) (p:Nat->Bool):Int:=match (List.range n).find? p with|some k=>(k:Int)|none => -1
def CQ (d:List AR) (i code:Nat):Int :=
 if Gl (AZ d (code % d.length))||decide (code % d.length<i) then ((code % d.length:Nat):Int)
 else if 0<i then ((code % d.length % i:Nat):Int)
 else Ua d.length fun k=>Gl (AZ d k)
def EJ (d:List AR) (code:Nat):Int:=match (List.range d.length).find? (fun k=>BU (AZ d ((code+k) % d.length))) with|some k=>(((code+k) % d.length:Nat):Int)|none => -1
def FX (x:AR):Int:=((x.a % 7:Nat):Int) - 3
def FK (x:AR):Int:=FX x+((x.b % 6:Nat):Int)
def DJ (x:AR):List Int :=
 let l:=((List.range 6).filter fun i=>(x.a >>> i) % 2==1).map fun i=>((i+1:Nat):Int)
 if l=[] then [1] else l
end Go.Proofs.YthkkllmmbefedaaGreatDoor



