/-
  Drafts of schemas, and the schema of a draft: plain Lean.
-/
import Derived.Test.YthkkllmmbefedaaGreatDoorQGA0
import Derived.Lib.ItoaLen
namespace Go.Proofs.YthkkllmmbefedaaGreatDoor
set_option maxHeartbeats 16000000
set_option maxRecDepth 100000
section
variable {s:List Ae} {S:Nat->Nat->Bool}
end
def D5 (n:Int):ByteArray:=⟨(Lib.itoa n).toArray⟩
def AB (s:List Ae) (c:Int):Ae:=s.getD c.toNat Al
variable {s:List Ae}
theorem zT {k:Nat} (hk:k<s.length):AB s (k:Int)=s[k]:=by
 unfold AB;rw[AAl,Int.toNat_natCast,zl hk];rfl
section
variable {s:List Ae} {S:Nat->Nat->Bool}
end
section
variable {a b:List Ae} {S T U:Nat->Nat->Bool}
end
theorem PK {s:List Ae}:∀ (l:List Ae) (seen:List ByteArray),(∀i (h:i<l.length),Jl s (seen++(l.take i).map (·.name)) l[i]=0)->LX s seen l=0
 | [],_,_=>rfl
 | t::l,seen,h=>by
  have h0:=h 0 (by simp)
  simp only[List.take_zero,List.map_nil,List.append_nil,List.getElem_cons_zero] at h0;rw[LX,AAG h0];refine PK l _ fun i hi=>?_
  have:=h (i+1) (by simpa using hi)
  simpa using this
theorem Zv {seen:List ByteArray} {t:Ae} (hf:Fx t=true) (hs:t.name≠⟨#[]⟩->t.name ∉ seen) (hu:∀u∈Zy t,0<=u/\u<(s.length:Int)) (hk:t.kind=8->Bc ((s.getD t.key.toNat Al).kind)=true):Jl s seen t=0:=by
 unfold Jl;rw[Pd,Pd,Pd]
 ·by_cases h:t.kind=8
  ·rw[hk h];simp
  ·simp[h]
 ·intro h
  obtain ⟨u,h1,h2⟩:=ABO.1 h;have:=hu u h1;simp at h2
  omega
 ·rw[hf]
  by_cases h:t.name=⟨#[]⟩
  ·simp[h]
  ·have:=hs h
   simp[h,IQ,this]
theorem PD (h:zQ s=0) {t:Ae} (ht:t∈s) (hk:t.kind=8):Bc ((AB s t.key).kind)=true:=by
 unfold zQ at h
 split at h
 ·cases h
 ·obtain ⟨K,hK⟩:=Ii s [] h t ht
  unfold Jl at hK
  split at hK
  ·cases hK
  ·split at hK
   ·cases hK
   ·split at hK
    ·cases hK
    ·rename_i h3
     unfold AB
     cases hkk:Bc ((s.getD t.key.toNat Al).kind) with
     | true=>rfl
     | false=>exact absurd (by simp[hk];exact hkk) h3
theorem Zl (hl:s.length<=32) (h:∀i (hi:i<s.length),Jl s ((s.take i).map (·.name)) s[i]=0):zQ s=0:=by
 unfold zQ;rw[Pd (by omega)]
 exact PK s [] fun i hi=>by simpa using h i hi
section
variable {s:List Ae} {S:Nat->Nat->Bool} {t:Int}
end
theorem J3:∀l,Lu l l=false
 | []=>rfl
 | a::l=>by rw[Lu,AAG rfl];exact J3 l
theorem Ls:∀l m r,Lu l m=true->Lu m r=true->Lu l r=true
 | [],[],_,h,_=>by simp[Lu] at h
 | [],_::_,[],_,k=>by simp[Lu] at k
 | [],_::_,_::_,_,_=>rfl
 | _::_,[],_,h,_=>by simp[Lu] at h
 | _::_,_::_,[],_,k=>by simp[Lu] at k
 | a::l,b::m,c::r,h,k=>by
  rw[Lu] at h k ⊢
  by_cases e:a=b
  ·rw[AAG e] at h
   by_cases f:b=c
   ·rw[AAG f] at k
    rw[AAG (e.trans f)];exact Ls l m r h k
   ·rw[Pd f] at k
    rw[Pd (by rw[e];exact f),e];exact k
  ·rw[Pd e] at h
   have h1:a<b:=AAu h
   by_cases f:b=c
   ·rw[Pd (by rw[<-f];exact e),<-f];exact h
   ·rw[Pd f] at k
    have h2:b<c:=AAu k;rw[Pd (by omega)];exact AAX (by omega)
theorem QC:∀l m,l=m\/Lu l m=true\/Lu m l=true
 | [],[] => .inl rfl
 | [],_::_ => .inr (.inl rfl)
 | _::_,[] => .inr (.inr rfl)
 | a::l,b::m=>by
  by_cases e:a=b
  ·subst e
   rcases QC l m with h|h|h
   ·exact .inl (by rw[h])
   ·exact .inr (.inl (by rw[Lu,AAG rfl];exact h))
   ·exact .inr (.inr (by rw[Lu,AAG rfl];exact h))
  ·rcases Int.lt_or_lt_of_ne e with h|h
   ·exact .inr (.inl (by rw[Lu,Pd e];exact AAX h))
   ·exact .inr (.inr (by rw[Lu,Pd (fun x=>e x.symm)];exact AAX h))
theorem NI:∀ (l m:List Int) (x y:Int),l.length=m.length->Lu (l++[x]) (m++[y])=(Lu l m||(decide (l=m)&&decide (x<y)))
 | [],[],x,y,_=>by
  simp only[List.nil_append,Lu]
  by_cases e:x=y
  ·simp[e]
  ·simp[e]
 | [],_::_,_,_,h=>by simp at h
 | _::_,[],_,_,h=>by simp at h
 | a::l,b::m,x,y,h=>by
  rw[ABJ,ABJ,Lu,Lu,NI l m x y (by simpa using h)]
  by_cases e:a=b
  ·simp[e]
  ·simp[e]
def sle (l m:List Int):Prop:=l.length<m.length\/(l.length=m.length/\Lu m l=false)
def slt (l m:List Int):Prop:=l.length<m.length\/(l.length=m.length/\Lu l m=true)
variable {l m:List Int}
theorem YQ:Lu m l=false↔(l=m\/Lu l m=true):=by
 constructor
 ·intro h
  rcases QC l m with k|k|k
  ·exact .inl k
  ·exact .inr k
  ·rw[h] at k;cases k
 ·rintro (k|k)
  ·rw[k];exact J3 m
  ·cases h:Lu m l with
   | false=>rfl
   | true=>have:=Ls _ _ _ k h;rw[J3] at this;cases this
theorem NE:sle l m↔(l=m\/slt l m):=by
 unfold sle slt;rw[YQ]
 constructor
 ·rintro (h|⟨h,h2|h2⟩)
  ·exact .inr (.inl h)
  ·exact .inl h2
  ·exact .inr (.inr ⟨h,h2⟩)
 ·rintro (h|h|⟨h,h2⟩)
  ·exact .inr ⟨by rw[h],.inl h⟩
  ·exact .inl h
  ·exact .inr ⟨h,.inr h2⟩
theorem Kg (l:List Int):sle l l:=NE.2 (.inl rfl)
theorem G9 (h:slt l m):sle l m:=NE.2 (.inr h)
theorem Xn {r:List Int} (h:slt l m) (k:slt m r):slt l r:=by
 rcases h with h|⟨h,h2⟩ <;> rcases k with k|⟨k,k2⟩
 ·exact .inl (by omega)
 ·exact .inl (by omega)
 ·exact .inl (by omega)
 ·exact .inr ⟨h.trans k,Ls _ _ _ h2 k2⟩
theorem JQ {r:List Int} (h:sle l m) (k:sle m r):sle l r:=by
 rcases NE.1 h with e|h
 ·rw[e];exact k
 ·rcases NE.1 k with e|k
  ·rw[<-e];exact G9 h
  ·exact G9 (Xn h k)
theorem iW (h:sle l m) (x:Int):sle (l++[x]) (m++[x]):=by
 rcases h with h|⟨h,h2⟩
 ·exact .inl (by simp;omega)
 ·refine .inr ⟨by simp[h],?_⟩
  rw[NI m l x x h.symm,h2];simp
theorem iV (l r:List Int):sle l (l++r):=by
 cases r with
 | nil=>rw[List.append_nil];exact Kg l
 | cons a r=>exact .inl (by simp)
theorem iU (h:slt l m) (x y:Int):slt (l++[x]) (m++[y]):=by
 rcases h with h|⟨h,h2⟩
 ·exact .inl (by simp;omega)
 ·refine .inr ⟨by simp[h],?_⟩
  rw[NI l m x y h,h2];rfl
theorem aH (l:List Int) {x y:Int} (h:x<y):slt (l++[x]) (l++[y]):=by
 refine .inr ⟨by simp,?_⟩
 rw[NI l l x y rfl];simp[h]
section
variable {P:Type} {E:P->Int->P->Prop} {Bad:P->Prop} {r:P}
inductive Wk (E:P->Int->P->Prop):P->List Int->P->Prop
 | nil (t:P):Wk E t [] t
 | cons {t t2 t3:P} {st:Int} {l:List Int}:E t st t2->Wk E t2 l t3->Wk E t (st::l) t3
variable {st:Int} {l:List Int} {t t2:P}
theorem Wk.snoc {t3:P} (h:Wk E t l t2) (he:E t2 st t3):Wk E t (l++[st]) t3:=by
 induction h with
 | nil t=>exact .cons he (.nil _)
 | cons h1 _ ih=>exact .cons h1 (ih he)
theorem Wk.last {t3:P} (h:Wk E t l t3):l≠[]->∃m st t2,l=m++[st]/\Wk E t m t2/\E t2 st t3:=by
 induction h with
 | nil t=>intro h;exact absurd rfl h
 | @cons t t2 t3 st l h1 h2 ih =>
  intro _
  cases l with
  | nil =>
   cases h2
   exact ⟨[],st,t,rfl,.nil _,h1⟩
  | cons a l =>
   obtain ⟨m,st2,t4,e,hw,he⟩:=ih (by simp)
   exact ⟨st::m,st2,t4,by rw[e];rfl,.cons h1 hw,he⟩
theorem Wk.all {p:P->Prop} (hp:∀t,p t->∀st t',E t st t'->p t') {t':P} (h:Wk E t l t'):p t->p t':=by
 induction h with
 | nil t=>exact id
 | cons h1 _ ih=>exact fun hq=>ih (hp _ hq _ _ h1)
def ABf (E:P->Int->P->Prop) (Bad:P->Prop) (r:P) (l:List Int):Prop:=(∃t,Wk E r l t/\Bad t)/\∀l' t',Wk E r l' t'->Bad t'->sle l l'
inductive pY (E:P->Int->P->Prop):P->List Int->List P->P->Prop
 | nil (t:P):pY E t [] [t] t
 | cons {t t2 t3:P} {st:Int} {l:List Int} {V:List P}:E t st t2->pY E t2 l V t3->pY E t (st::l) (t::V) t3
theorem pY.wk {V:List P} (h:pY E t l V t2):Wk E t l t2/\V.length=l.length+1:=by
 induction h with
 | nil t=>exact ⟨.nil _,rfl⟩
 | cons h1 _ ih=>exact ⟨.cons h1 ih.1,by simp[ih.2]⟩
theorem pY.all {p:P->Prop} (hp:∀t,p t->∀st t',E t st t'->p t') {t':P} {V:List P} (h:pY E t l V t'):p t->∀x∈V,p x:=by
 induction h with
 | nil t =>
  intro hq x hx
  obtain rfl:x=t:=by simpa using hx
  exact hq
 | cons h1 _ ih =>
  intro hq x hx
  rcases AAr.1 hx with e|e
  ·rw[e];exact hq
  ·exact ih (hp _ hq _ _ h1) x e
structure V3 (E:P->Int->P->Prop) (Bad:P->Prop) (r:P) (Q:List (List Int×P)) (i:Nat) (dn:List (Int×P)):Prop where
 head:Q[0]? = some ([],r)
 walk:∀w∈Q,Wk E r w.1 w.2
 sU:∀ (j k:Nat) v w,j<k->Q[j]? = some v->Q[k]? = some w->slt v.1 w.1
 oJ:∀ (j:Nat) w st t,Q[j]? = some w->(j<i/\E w.2 st t\/j=i/\(st,t)∈dn)->∃v∈Q,v.2=t/\sle v.1 (w.1++[st])
 src:∀w∈Q,w.1=[]\/∃ (k:Nat) (v:List Int×P) (st:Int) (t:P),Q[k]? = some v/\w.1=v.1++[st]/\(k<i\/k=i/\(st,t)∈dn)
 wm:∀ (j:Nat) w,j<i->Q[j]? = some w->¬ Bad w.2
variable {Q:List (List Int×P)} {w:List Int×P} {i:Nat}
theorem V3.before {dn:List (Int×P)} (h:V3 E Bad r Q i dn) (hw:Q[i]? = some w) (hst:∀x∈dn,x.1<st):∀v∈Q,slt v.1 (w.1++[st]):=by
 intro v hv
 rcases h.src v hv with e|⟨k,u,s0,t0,hu,e,hk⟩
 ·rw[e];exact .inl (by simp)
 ·rw[e]
  rcases hk with hk|⟨hk,hm⟩
  ·exact iU (h.sU k i u w hk hu hw) _ _
  ·subst hk
   obtain rfl:u=w:=AAm (hu.symm.trans hw);exact aH _ (hst _ hm)
theorem V3.old {dn:List (Int×P)} (h:V3 E Bad r Q i dn) (hw:Q[i]? = some w) (hst:∀x∈dn,x.1<st) (ht:∃u∈Q,u.2=t):V3 E Bad r Q i (dn++[(st,t)]):=by
 refine ⟨h.head,h.walk,h.sU,fun j v s1 t1 hv hp=>?_,fun v hv=>?_,h.wm⟩
 ·rcases hp with hp|⟨hj,hm⟩
  ·exact h.oJ j v s1 t1 hv (.inl hp)
  ·rcases AAo.1 hm with hm|hm
   ·exact h.oJ j v s1 t1 hv (.inr ⟨hj,hm⟩)
   ·obtain ⟨rfl,rfl⟩:s1=st/\t1=t:=by simpa using hm
    subst hj;obtain rfl:v=w:=AAm (hv.symm.trans hw);obtain ⟨u,hu,e⟩:=ht;exact ⟨u,hu,e,G9 (h.before hw hst u hu)⟩
 ·rcases h.src v hv with e|⟨k,u,s0,t0,hu,e,hk⟩
  ·exact .inl e
  ·exact .inr ⟨k,u,s0,t0,hu,e,hk.imp id fun hk=>⟨hk.1,AAz _ hk.2⟩⟩
theorem I9 {α:Type} {l:List α} {x y:α} {j:Nat} (h:(l++[x])[j]? = some y):l[j]? = some y\/(j=l.length/\y=x):=by
 by_cases hj:j<l.length
 ·rw[ABD hj] at h;exact .inl h
 ·have:=(AAi.1 h).1
  simp at this;have e:j=l.length:=by omega
  subst e;simp at h;exact .inr ⟨rfl,h.symm⟩
theorem V3.new {dn:List (Int×P)} (h:V3 E Bad r Q i dn) (hw:Q[i]? = some w) (he:E w.2 st t) (hst:∀x∈dn,x.1<st):V3 E Bad r (Q++[(w.1++[st],t)]) i (dn++[(st,t)]):=by
 have hil:i<Q.length:=(AAi.1 hw).1;have hwm:=ABF hw;have bf:∀ {k:Nat} {v:List Int×P},Q[k]? = some v->(Q++[(w.1++[st],t)])[k]? = some v:=fun {k v} hv=>by
  rw[ABD (AAi.1 hv).1];exact hv
 refine ⟨bf h.head,fun v hv=>?_,fun j k u v hjk hu hv=>?_,fun j v s1 t1 hv hp=>?_,fun v hv=>?_,fun j v hj hv=>?_⟩
 ·rcases AAo.1 hv with hv|hv
  ·exact h.walk v hv
  ·obtain rfl:v=(w.1++[st],t):=by simpa using hv
   exact (h.walk w hwm).snoc he
 ·rcases I9 hv with hv'|⟨e1,e2⟩
  ·have hk:=(AAi.1 hv').1
   rcases I9 hu with hu'|⟨e1,_⟩
   ·exact h.sU j k u v hjk hu' hv'
   ·omega
  ·rcases I9 hu with hu'|⟨e3,_⟩
   ·rw[e2];exact h.before hw hst u (ABF hu')
   ·omega
 ·have hv':Q[j]? = some v:=by
   rcases I9 hv with hv'|⟨e1,_⟩
   ·exact hv'
   ·rcases hp with hp|hp
    ·omega
    ·omega
  rcases hp with hp|⟨hj,hm⟩
  ·obtain ⟨u,h1,h2⟩:=h.oJ j v s1 t1 hv' (.inl hp)
   exact ⟨u,AAz _ h1,h2⟩
  ·rcases AAo.1 hm with hm|hm
   ·obtain ⟨u,h1,h2⟩:=h.oJ j v s1 t1 hv' (.inr ⟨hj,hm⟩)
    exact ⟨u,AAz _ h1,h2⟩
   ·obtain ⟨rfl,rfl⟩:s1=st/\t1=t:=by simpa using hm
    subst hj;obtain rfl:v=w:=AAm (hv'.symm.trans hw);exact ⟨(v.1++[s1],t1),by simp,rfl,Kg _⟩
 ·rcases AAo.1 hv with hv|hv
  ·rcases h.src v hv with e|⟨k,u,s0,t0,hu,e,hk⟩
   ·exact .inl e
   ·exact .inr ⟨k,u,s0,t0,bf hu,e,hk.imp id fun hk=>⟨hk.1,AAz _ hk.2⟩⟩
  ·obtain rfl:v=(w.1++[st],t):=by simpa using hv
   exact .inr ⟨i,w,st,t,bf hw,rfl,.inr ⟨rfl,by simp⟩⟩
 ·rcases I9 hv with hv'|⟨e1,_⟩
  ·exact h.wm j v hj hv'
  ·omega
theorem V3.next {dn:List (Int×P)} (h:V3 E Bad r Q i dn) (hw:Q[i]? = some w) (hb:¬ Bad w.2) (hd:∀st t,E w.2 st t->(st,t)∈dn):V3 E Bad r Q (i+1) []:=by
 refine ⟨h.head,h.walk,h.sU,fun j v s1 t1 hv hp=>?_,fun v hv=>?_,fun j v hj hv=>?_⟩
 ·rcases hp with ⟨hj,he⟩|⟨_,hm⟩
  ·by_cases e:j=i
   ·subst e
    obtain rfl:v=w:=AAm (hv.symm.trans hw);exact h.oJ j v s1 t1 hv (.inr ⟨rfl,hd _ _ he⟩)
   ·exact h.oJ j v s1 t1 hv (.inl ⟨by omega,he⟩)
  ·cases hm
 ·rcases h.src v hv with e|⟨k,u,s0,t0,hu,e,hk⟩
  ·exact .inl e
  ·exact .inr ⟨k,u,s0,t0,hu,e,.inl (by rcases hk with hk|hk <;> omega)⟩
 ·by_cases e:j=i
  ·subst e
   obtain rfl:v=w:=AAm (hv.symm.trans hw);exact hb
  ·exact h.wm j v (by omega) hv
theorem V3.cont (h:V3 E Bad r Q i []) {l2:List Int} (hk:Wk E t2 l2 t):∀ (l1:List Int) (j:Nat) w,Q[j]? = some w->w.2=t2->sle w.1 l1->(∃v∈Q,v.2=t/\sle v.1 (l1++l2))\/∃ (j':Nat) (w':List Int×P),i<=j'/\Q[j']? = some w'/\sle w'.1 (l1++l2):=by
 induction hk with
 | nil t =>
  intro l1 j w hw e hs
  exact .inl ⟨w,ABF hw,e,by rw[List.append_nil];exact hs⟩
 | @cons t t2 t3 st l h1 _ ih =>
  intro l1 j w hw e hs
  by_cases hj:i<=j
  ·exact .inr ⟨j,w,hj,hw,JQ hs (iV _ _)⟩
  ·obtain ⟨v,hv,e2,hs2⟩:=h.oJ j w st t2 hw (.inl ⟨by omega,by rw[e];exact h1⟩)
   obtain ⟨k,hk,rfl⟩:=AAw hv;have:=ih (l1++[st]) k _ (zl hk) e2 (JQ hs2 (iW hs st));rw[AA0] at this;exact this
theorem V3.bad (h:V3 E Bad r Q i []) (hw:Q[i]? = some w) (hb:Bad w.2):ABf E Bad r w.1:=by
 refine ⟨⟨w.2,h.walk w (ABF hw),hb⟩,fun l t hl ht=>?_⟩
 have key:∀ (j:Nat) v,i<=j->Q[j]? = some v->sle w.1 v.1:=fun j v hj hv=>by
  by_cases e:j=i
  ·subst e
   obtain rfl:v=w:=AAm (hv.symm.trans hw);exact Kg _
  ·exact G9 (h.sU i j w v (by omega) hw hv)
 rcases h.cont hl [] 0 _ h.head rfl (Kg _) with ⟨v,hv,e,hs⟩|⟨j,v,hj,hv,hs⟩
 ·obtain ⟨k,hk,rfl⟩:=AAw hv
  have hki:i<=k:=by
   rcases Nat.lt_or_ge k i with hlt|hge
   ·exact absurd (by rw[e];exact ht) (h.wm k _ hlt (zl hk))
   ·exact hge
  exact JQ (key k _ hki (zl hk)) hs
 ·exact JQ (key j v hj hv) hs
end
section
variable {a b:List Ae} {ta tb:Int}
end
def nP:List ByteArray:=[⟨#[98,111,111,108]⟩,⟨#[105,110,116]⟩,⟨#[115,116,114,105,110,103]⟩,⟨#[108,105,115,116]⟩,⟨#[109,97,112]⟩,⟨#[111,112,116,105,111,110,97,108]⟩]
def mF (nm:ByteArray):Bool:=IQ nm nP
def Eu (k:Int):Prop:=k=7\/k=8\/k=9
instance (k:Int):Decidable (Eu k):=by unfold Eu;exact inferInstance
def pU (s:List Ae) (t:Int):Nat->Int
 | 0=>t
 | i+1=>(AB s (pU s t i)).elem
def ow (s:List Ae) (u:Int):Prop:=(AB s u).kind=8/\Cv (AB s (AB s u).key).kind=true/\mF (AB s (AB s u).key).name=true
def wAt (s:List Ae) (u:Int):Prop:=(Cv (AB s u).kind=true/\mF (AB s u).name=true)\/ow s u
def WT (s:List Ae) (t:Int):Prop:=∃i,(∀j,j<i->Eu (AB s (pU s t j)).kind)/\wAt s (pU s t i)
def CT (s:List Ae) (t:Int):Prop:=∀i,Eu (AB s (pU s t i)).kind
theorem Vb {k:Int} (h:Eu k):Cv k=false:=by
 unfold Eu at h;unfold Cv
 rcases h with rfl|rfl|rfl <;> rfl
theorem U9 {k:Int} (h:Cv k=true):¬ Eu k:=fun hc=>by rw[Vb hc] at h;cases h
section
variable {s:List Ae} {t:Int}
end
structure Ga (s:List Ae) (path:List Int) (t:Int):Prop where
 rng:∀u∈path,0<=u/\u<(s.length:Int)
 cmp:∀u∈path,Eu (AB s u).kind
 nd:path.Nodup
 lnk:∀ (i:Nat) u,path[i]? = some u->(path++[t])[i+1]? = some (AB s u).elem
theorem Ga.nil (s:List Ae) (t:Int):Ga s [] t:=⟨(fun _ h=>by cases h),(fun _ h=>by cases h),by simp,(fun i u h=>by simp at h)⟩
section
variable {s:List Ae} {t:Int} {path:List Int}
theorem Ga.more (h:Ga s path t) (hr:0<=t/\t<(s.length:Int)) (hc:Eu (AB s t).kind) (ht:t ∉ path):Ga s (path++[t]) (AB s t).elem:=by
 refine ⟨fun u hu=>?_,fun u hu=>?_,?_,fun i u hi=>?_⟩
 ·rcases AAo.1 hu with k|k
  ·exact h.rng u k
  ·obtain rfl:u=t:=by simpa using k
   exact hr
 ·rcases AAo.1 hu with k|k
  ·exact h.cmp u k
  ·obtain rfl:u=t:=by simpa using k
   exact hc
 ·rw[List.nodup_append]
  refine ⟨h.nd,by simp,fun y hy z hz e=>?_⟩
  obtain rfl:z=t:=by simpa using hz
  exact ht (e▸hy)
 ·by_cases hl:i<path.length
  ·rw[ABD hl] at hi
   have:=h.lnk i u hi;rw[ABD (by simp;omega)]
   exact this
  ·have hi':=(AAi.1 hi).1
   simp at hi';obtain rfl:i=path.length:=by omega
   rw[ABB (AAH _)] at hi;obtain rfl:u=t:=by simpa using hi.symm
   rw[ABB (by simp)]
   simp
theorem Ga.XF (h:Ga s path t) (ht:t∈path):∀i,pU s t i∈path
 | 0=>ht
 | i+1=>by
  obtain ⟨j,hj,e⟩:=AAw (Ga.XF h ht i);have:=h.lnk j _ (by rw[zl hj,e])
  have hm:=ABF this
  rcases AAo.1 hm with k|k
  ·exact k
  ·have k':(AB s (pU s t i)).elem=t:=by simpa using k
   show (AB s (pU s t i)).elem∈path
   rw[k'];exact ht
theorem Ga.word (h:Ga s path t) (ht:t∈path) (hw:WT s t):∃u∈path,ow s u:=by
 obtain ⟨i,_,hw⟩:=hw;have hm:=h.XF ht i
 rcases hw with ⟨h1,_⟩|h1
 ·exact absurd (h.cmp _ hm) (U9 h1)
 ·exact ⟨_,hm,h1⟩
end
section
variable {s:List Ae} {t:Int} {path:List Int}
theorem FX (hr:0<=t/\t<(s.length:Int)):AB s t∈s:=by
 have hl:t.toNat<s.length:=by omega
 have:AB s t=s[t.toNat]:=by unfold AB;rw[AAl,zl hl];rfl
 rw[this];exact AAK hl
theorem Dh (hv:zQ s=0) (hr:0<=t/\t<(s.length:Int)):1<=(AB s t).kind/\(AB s t).kind<=9:=by
 have h:=(DV hv (FX hr)).1;unfold Fx at h;simp only[AAJ,AAd] at h;exact ⟨h.1.1.1.1,h.1.1.1.2⟩
theorem JC (hv:zQ s=0) (hr:0<=t/\t<(s.length:Int)) (hc:Eu (AB s t).kind):0<=(AB s t).elem/\(AB s t).elem<(s.length:Int):=by
 refine (DV hv (FX hr)).2 _ (List.mem_map.2 ⟨(-1,(AB s t).elem),?_,rfl⟩);unfold Ih;unfold Eu at hc
 rcases hc with h|h|h <;> rw[h] <;> simp
theorem Kv (hv:zQ s=0) (hr:0<=t/\t<(s.length:Int)) (hc:(AB s t).kind=8):(0<=(AB s t).key/\(AB s t).key<(s.length:Int))/\1<=(AB s (AB s t).key).kind/\(AB s (AB s t).key).kind<=4:=by
 refine ⟨(DV hv (FX hr)).2 _ (List.mem_map.2 ⟨(0,(AB s t).key),?_,rfl⟩),?_⟩
 ·unfold Ih
  rw[hc];simp
 ·have:=PD hv (FX hr) hc
  unfold Bc at this
  simpa using this
theorem lF (b:ByteArray):b++(⟨#[]⟩:ByteArray)=b:=by
 apply ByteArray.ext
 rw[ByteArray.data_append];simp
end
structure VS where
 opn:List Bool
 don:List Bool
 word:Bool
 loop:Bool
def kN (l:List Bool) (t:Int):Bool:=l.getD t.toNat false
def cntF (l:List Bool):Nat:=(l.filter (· == false)).length
structure VI (s:List Ae) (path:List Int) (v:VS):Prop where
 lo:v.opn.length=s.length
 ld:v.don.length=s.length
 op:∀u,(0<=u/\u<(s.length:Int))->(kN v.opn u=true↔u∈path)
 dn:∀u,(0<=u/\u<(s.length:Int))->kN v.don u=true->u ∉ path->(WT s u->v.word=true)/\(CT s u->v.loop=true)
 kw:∀u∈path,ow s u->v.word=true
structure VN (v v':VS) (W C:Prop):Prop where
 w1:W->v'.word=true
 c1:C->v'.loop=true
 w2:v'.word=true->v.word=true\/W
 c2:v'.loop=true->v.loop=true\/C
 w3:v.word=true->v'.word=true
 c3:v.loop=true->v'.loop=true
 cn:cntF v'.don<=cntF v.don
section
variable {s:List Ae} {t:Int} {path:List Int} {v:VS}
end
theorem VN.trans {a b c : VS} {W1 C1 W2 C2 : Prop} (h : VN a b W1 C1) (k : VN b c W2 C2) : VN a c (W1 \/ W2) (C1 \/ C2) :=
  ⟨fun e => e.elim (fun e => k.w3 (h.w1 e)) k.w1, fun e => e.elim (fun e => k.c3 (h.c1 e)) k.c1, fun e => (k.w2 e).elim (fun e => (h.w2 e).imp id .inl) fun e => .inr (.inr e), fun e => (k.c2 e).elim (fun e => (h.c2 e).imp id .inl) fun e => .inr (.inr e),
   fun e => k.w3 (h.w3 e), fun e => k.c3 (h.c3 e), Nat.le_trans k.cn h.cn⟩
def Ng (n:Nat):VS:=⟨List.replicate n false,List.replicate n false,false,false⟩
theorem VI.start (s:List Ae):VI s [] (Ng s.length):=by
 refine ⟨by simp[Ng],by simp[Ng],fun u hu=>?_,fun u hu hd=>?_,fun u hu=>by cases hu⟩
 ·unfold kN Ng
  rw[AAl,List.getElem?_replicate]
  split <;> simp
 ·exfalso
  unfold kN Ng at hd;rw[AAl,List.getElem?_replicate] at hd
  split at hd <;> simp at hd
end Go.Proofs.YthkkllmmbefedaaGreatDoor
namespace Go.Proofs.YthkkllmmbefedaaGreatDoor
end Go.Proofs.YthkkllmmbefedaaGreatDoor
namespace Go.Proofs.YthkkllmmbefedaaGreatDoor
structure JI where
 id:Nat
 type:Nat
 flag:Nat
 deriving DecidableEq
structure AX where
 kind:Nat
 a:Nat
 b:Nat
 c:Nat
 parts:List JI
 deriving DecidableEq
def Bh:AX:=⟨0,0,0,0,[]⟩
def Ac (d:List AX) (i:Nat):Int:=1+(((d.getD i Bh).kind % 9:Nat):Int)
def GN (k:Int):Bool:=decide (7<=k)
def Tf (n:Nat) (p:Nat->Bool):Int:=match (List.range n).find? p with|some k=>(k:Int)|none => -1
def CJ (d:List AX) (i code:Nat):Int :=
 if GN (Ac d (code % d.length))||decide (code % d.length<i) then ((code % d.length:Nat):Int)
 else if 0<i then ((code % d.length % i:Nat):Int)
 else Tf d.length fun k=>GN (Ac d k)
def Dz (d:List AX) (code:Nat):Int:=match (List.range d.length).find? (fun k=>Bc (Ac d ((code+k) % d.length))) with|some k=>(((code+k) % d.length:Nat):Int)|none => -1
def FD (x:AX):Int:=((x.a % 7:Nat):Int) - 3
def Ep (x:AX):Int:=FD x+((x.b % 6:Nat):Int)
def C9 (x:AX):List Int :=
 let l:=((List.range 6).filter fun i=>(x.a >>> i) % 2==1).map fun i=>((i+1:Nat):Int)
 if l=[] then [1] else l
end Go.Proofs.YthkkllmmbefedaaGreatDoor



