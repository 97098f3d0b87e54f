/-
  Drafts of schemas, and the schema of a draft: plain Lean.
-/
import Derived.Test.YthkkllmmbefedaaGreatDoorQGA0
import Derived.Lib.ItoaLen
namespace Go.Proofs.YthkkllmmbefedaaGreatDoor
set_option maxHeartbeats 16000000
set_option maxRecDepth 100000
section
variable {s:List Aa} {S:Nat->Nat->Bool}
end
def Ch (n:Int):ByteArray:=⟨(Lib.itoa n).toArray⟩
def AO (s:List Aa) (c:Int):Aa:=s.getD c.toNat Ai
variable {s:List Aa}
theorem zT {k:Nat} (hk:k<s.length):AO s (k:Int)=s[k]:=by
 unfold AO;rw[AA1,Int.toNat_natCast,zl hk];rfl
section
variable {s:List Aa} {S:Nat->Nat->Bool}
end
section
variable {a b:List Aa} {S T U:Nat->Nat->Bool}
end
theorem Q9 {s:List Aa}:∀ (l:List Aa) (seen:List ByteArray),(∀i (h:i<l.length),K4 s (seen++(l.take i).map (·.name)) l[i]=0)->ND s seen l=0
 | [],_,_=>rfl
 | t::l,seen,h=>by
  have h0:=h 0 (by simp)
  simp only[List.take_zero,List.map_nil,List.append_nil,List.getElem_cons_zero] at h0;rw[ND,AAB h0];refine Q9 l _ fun i hi=>?_
  have:=h (i+1) (by simpa using hi)
  simpa using this
theorem iB {seen:List ByteArray} {t:Aa} (hf:Gm t=true) (hs:t.name≠⟨#[]⟩->t.name ∉ seen) (hu:∀u∈iH t,0<=u/\u<(s.length:Int)) (hk:t.kind=8->BV ((s.getD t.key.toNat Ai).kind)=true):K4 s seen t=0:=by
 unfold K4;rw[Pd,Pd,Pd]
 ·by_cases h:t.kind=8
  ·rw[hk h];simp
  ·simp[h]
 ·intro h
  obtain ⟨u,h1,h2⟩:=ABx.1 h;have:=hu u h1;simp at h2
  omega
 ·rw[hf]
  by_cases h:t.name=⟨#[]⟩
  ·simp[h]
  ·have:=hs h
   simp[h,LV,this]
theorem Q6 (h:zQ s=0) {t:Aa} (ht:t∈s) (hk:t.kind=8):BV ((AO s t.key).kind)=true:=by
 unfold zQ at h
 split at h
 ·cases h
 ·obtain ⟨K,hK⟩:=Jd s [] h t ht
  unfold K4 at hK
  split at hK
  ·cases hK
  ·split at hK
   ·cases hK
   ·split at hK
    ·cases hK
    ·rename_i h3
     unfold AO
     cases hkk:BV ((s.getD t.key.toNat Ai).kind) with
     | true=>rfl
     | false=>exact absurd (by simp[hk];exact hkk) h3
theorem gQ (hl:s.length<=32) (h:∀i (hi:i<s.length),K4 s ((s.take i).map (·.name)) s[i]=0):zQ s=0:=by
 unfold zQ;rw[Pd (by omega)]
 exact Q9 s [] fun i hi=>by simpa using h i hi
section
variable {s:List Aa} {S:Nat->Nat->Bool} {t:Int}
end
theorem LW:∀l,Nh l l=false
 | []=>rfl
 | a::l=>by rw[Nh,AAB rfl];exact LW l
theorem Ng:∀l m r,Nh l m=true->Nh m r=true->Nh l r=true
 | [],[],_,h,_=>by simp[Nh] at h
 | [],_::_,[],_,k=>by simp[Nh] at k
 | [],_::_,_::_,_,_=>rfl
 | _::_,[],_,h,_=>by simp[Nh] at h
 | _::_,_::_,[],_,k=>by simp[Nh] at k
 | a::l,b::m,c::r,h,k=>by
  rw[Nh] at h k ⊢
  by_cases e:a=b
  ·rw[AAB e] at h
   by_cases f:b=c
   ·rw[AAB f] at k
    rw[AAB (e.trans f)];exact Ng l m r h k
   ·rw[Pd f] at k
    rw[Pd (by rw[e];exact f),e];exact k
  ·rw[Pd e] at h
   have h1:a<b:=AAr h
   by_cases f:b=c
   ·rw[Pd (by rw[<-f];exact e),<-f];exact h
   ·rw[Pd f] at k
    have h2:b<c:=AAr k;rw[Pd (by omega)];exact AAJ (by omega)
theorem Rl:∀l m,l=m\/Nh l m=true\/Nh m l=true
 | [],[] => .inl rfl
 | [],_::_ => .inr (.inl rfl)
 | _::_,[] => .inr (.inr rfl)
 | a::l,b::m=>by
  by_cases e:a=b
  ·subst e
   rcases Rl l m with h|h|h
   ·exact .inl (by rw[h])
   ·exact .inr (.inl (by rw[Nh,AAB rfl];exact h))
   ·exact .inr (.inr (by rw[Nh,AAB rfl];exact h))
  ·rcases Int.lt_or_lt_of_ne e with h|h
   ·exact .inr (.inl (by rw[Nh,Pd e];exact AAJ h))
   ·exact .inr (.inr (by rw[Nh,Pd (fun x=>e x.symm)];exact AAJ h))
theorem O5:∀ (l m:List Int) (x y:Int),l.length=m.length->Nh (l++[x]) (m++[y])=(Nh l m||(decide (l=m)&&decide (x<y)))
 | [],[],x,y,_=>by
  simp only[List.nil_append,Nh]
  by_cases e:x=y
  ·simp[e]
  ·simp[e]
 | [],_::_,_,_,h=>by simp at h
 | _::_,[],_,_,h=>by simp at h
 | a::l,b::m,x,y,h=>by
  rw[AAs,AAs,Nh,Nh,O5 l m x y (by simpa using h)]
  by_cases e:a=b
  ·simp[e]
  ·simp[e]
def sle (l m:List Int):Prop:=l.length<m.length\/(l.length=m.length/\Nh m l=false)
def slt (l m:List Int):Prop:=l.length<m.length\/(l.length=m.length/\Nh l m=true)
variable {l m:List Int}
theorem bP:Nh m l=false↔(l=m\/Nh l m=true):=by
 constructor
 ·intro h
  rcases Rl l m with k|k|k
  ·exact .inl k
  ·exact .inr k
  ·rw[h] at k;cases k
 ·rintro (k|k)
  ·rw[k];exact LW m
  ·cases h:Nh m l with
   | false=>rfl
   | true=>have:=Ng _ _ _ k h;rw[LW] at this;cases this
theorem Oz:sle l m↔(l=m\/slt l m):=by
 unfold sle slt;rw[bP]
 constructor
 ·rintro (h|⟨h,h2|h2⟩)
  ·exact .inr (.inl h)
  ·exact .inl h2
  ·exact .inr (.inr ⟨h,h2⟩)
 ·rintro (h|h|⟨h,h2⟩)
  ·exact .inr ⟨by rw[h],.inl h⟩
  ·exact .inl h
  ·exact .inr ⟨h,.inr h2⟩
theorem MG (l:List Int):sle l l:=Oz.2 (.inl rfl)
theorem Iw (h:slt l m):sle l m:=Oz.2 (.inr h)
theorem aQ {r:List Int} (h:slt l m) (k:slt m r):slt l r:=by
 rcases h with h|⟨h,h2⟩ <;> rcases k with k|⟨k,k2⟩
 ·exact .inl (by omega)
 ·exact .inl (by omega)
 ·exact .inl (by omega)
 ·exact .inr ⟨h.trans k,Ng _ _ _ h2 k2⟩
theorem KM {r:List Int} (h:sle l m) (k:sle m r):sle l r:=by
 rcases Oz.1 h with e|h
 ·rw[e];exact k
 ·rcases Oz.1 k with e|k
  ·rw[<-e];exact Iw h
  ·exact Iw (aQ h k)
theorem o7 (h:sle l m) (x:Int):sle (l++[x]) (m++[x]):=by
 rcases h with h|⟨h,h2⟩
 ·exact .inl (by simp;omega)
 ·refine .inr ⟨by simp[h],?_⟩
  rw[O5 m l x x h.symm,h2];simp
theorem o6 (l r:List Int):sle l (l++r):=by
 cases r with
 | nil=>rw[List.append_nil];exact MG l
 | cons a r=>exact .inl (by simp)
theorem oz (h:slt l m) (x y:Int):slt (l++[x]) (m++[y]):=by
 rcases h with h|⟨h,h2⟩
 ·exact .inl (by simp;omega)
 ·refine .inr ⟨by simp[h],?_⟩
  rw[O5 l m x y h,h2];rfl
theorem ig (l:List Int) {x y:Int} (h:x<y):slt (l++[x]) (l++[y]):=by
 refine .inr ⟨by simp,?_⟩
 rw[O5 l l x y rfl];simp[h]
section
variable {P:Type} {E:P->Int->P->Prop} {Bad:P->Prop} {r:P}
inductive Wk (E:P->Int->P->Prop):P->List Int->P->Prop
 | nil (t:P):Wk E t [] t
 | cons {t t2 t3:P} {st:Int} {l:List Int}:E t st t2->Wk E t2 l t3->Wk E t (st::l) t3
variable {st:Int} {l:List Int} {t t2:P}
theorem Wk.snoc {t3:P} (h:Wk E t l t2) (he:E t2 st t3):Wk E t (l++[st]) t3:=by
 induction h with
 | nil t=>exact .cons he (.nil _)
 | cons h1 _ ih=>exact .cons h1 (ih he)
theorem Wk.last {t3:P} (h:Wk E t l t3):l≠[]->∃m st t2,l=m++[st]/\Wk E t m t2/\E t2 st t3:=by
 induction h with
 | nil t=>intro h;exact absurd rfl h
 | @cons t t2 t3 st l h1 h2 ih =>
  intro _
  cases l with
  | nil =>
   cases h2
   exact ⟨[],st,t,rfl,.nil _,h1⟩
  | cons a l =>
   obtain ⟨m,st2,t4,e,hw,he⟩:=ih (by simp)
   exact ⟨st::m,st2,t4,by rw[e];rfl,.cons h1 hw,he⟩
theorem Wk.all {p:P->Prop} (hp:∀t,p t->∀st t',E t st t'->p t') {t':P} (h:Wk E t l t'):p t->p t':=by
 induction h with
 | nil t=>exact id
 | cons h1 _ ih=>exact fun hq=>ih (hp _ hq _ _ h1)
def AEi (E:P->Int->P->Prop) (Bad:P->Prop) (r:P) (l:List Int):Prop:=(∃t,Wk E r l t/\Bad t)/\∀l' t',Wk E r l' t'->Bad t'->sle l l'
inductive wu (E:P->Int->P->Prop):P->List Int->List P->P->Prop
 | nil (t:P):wu E t [] [t] t
 | cons {t t2 t3:P} {st:Int} {l:List Int} {V:List P}:E t st t2->wu E t2 l V t3->wu E t (st::l) (t::V) t3
theorem wu.wk {V:List P} (h:wu E t l V t2):Wk E t l t2/\V.length=l.length+1:=by
 induction h with
 | nil t=>exact ⟨.nil _,rfl⟩
 | cons h1 _ ih=>exact ⟨.cons h1 ih.1,by simp[ih.2]⟩
theorem wu.all {p:P->Prop} (hp:∀t,p t->∀st t',E t st t'->p t') {t':P} {V:List P} (h:wu E t l V t'):p t->∀x∈V,p x:=by
 induction h with
 | nil t =>
  intro hq x hx
  obtain rfl:x=t:=by simpa using hx
  exact hq
 | cons h1 _ ih =>
  intro hq x hx
  rcases ABP.1 hx with e|e
  ·rw[e];exact hq
  ·exact ih (hp _ hq _ _ h1) x e
structure Yb (E:P->Int->P->Prop) (Bad:P->Prop) (r:P) (Q:List (List Int×P)) (i:Nat) (dn:List (Int×P)):Prop where
 head:Q[0]? = some ([],r)
 walk:∀w∈Q,Wk E r w.1 w.2
 srt:∀ (j k:Nat) v w,j<k->Q[j]? = some v->Q[k]? = some w->slt v.1 w.1
 vN:∀ (j:Nat) w st t,Q[j]? = some w->(j<i/\E w.2 st t\/j=i/\(st,t)∈dn)->∃v∈Q,v.2=t/\sle v.1 (w.1++[st])
 src:∀w∈Q,w.1=[]\/∃ (k:Nat) (v:List Int×P) (st:Int) (t:P),Q[k]? = some v/\w.1=v.1++[st]/\(k<i\/k=i/\(st,t)∈dn)
 nob:∀ (j:Nat) w,j<i->Q[j]? = some w->¬ Bad w.2
variable {Q:List (List Int×P)} {w:List Int×P} {i:Nat}
theorem Yb.before {dn:List (Int×P)} (h:Yb E Bad r Q i dn) (hw:Q[i]? = some w) (hst:∀x∈dn,x.1<st):∀v∈Q,slt v.1 (w.1++[st]):=by
 intro v hv
 rcases h.src v hv with e|⟨k,u,s0,t0,hu,e,hk⟩
 ·rw[e];exact .inl (by simp)
 ·rw[e]
  rcases hk with hk|⟨hk,hm⟩
  ·exact oz (h.srt k i u w hk hu hw) _ _
  ·subst hk
   obtain rfl:u=w:=ABW (hu.symm.trans hw);exact ig _ (hst _ hm)
theorem Yb.old {dn:List (Int×P)} (h:Yb E Bad r Q i dn) (hw:Q[i]? = some w) (hst:∀x∈dn,x.1<st) (ht:∃u∈Q,u.2=t):Yb E Bad r Q i (dn++[(st,t)]):=by
 refine ⟨h.head,h.walk,h.srt,fun j v s1 t1 hv hp=>?_,fun v hv=>?_,h.nob⟩
 ·rcases hp with hp|⟨hj,hm⟩
  ·exact h.vN j v s1 t1 hv (.inl hp)
  ·rcases ABY.1 hm with hm|hm
   ·exact h.vN j v s1 t1 hv (.inr ⟨hj,hm⟩)
   ·obtain ⟨rfl,rfl⟩:s1=st/\t1=t:=by simpa using hm
    subst hj;obtain rfl:v=w:=ABW (hv.symm.trans hw);obtain ⟨u,hu,e⟩:=ht;exact ⟨u,hu,e,Iw (h.before hw hst u hu)⟩
 ·rcases h.src v hv with e|⟨k,u,s0,t0,hu,e,hk⟩
  ·exact .inl e
  ·exact .inr ⟨k,u,s0,t0,hu,e,hk.imp id fun hk=>⟨hk.1,ABj _ hk.2⟩⟩
theorem Jt {α:Type} {l:List α} {x y:α} {j:Nat} (h:(l++[x])[j]? = some y):l[j]? = some y\/(j=l.length/\y=x):=by
 by_cases hj:j<l.length
 ·rw[ABo hj] at h;exact .inl h
 ·have:=(AAv.1 h).1
  simp at this;have e:j=l.length:=by omega
  subst e;simp at h;exact .inr ⟨rfl,h.symm⟩
theorem Yb.new {dn:List (Int×P)} (h:Yb E Bad r Q i dn) (hw:Q[i]? = some w) (he:E w.2 st t) (hst:∀x∈dn,x.1<st):Yb E Bad r (Q++[(w.1++[st],t)]) i (dn++[(st,t)]):=by
 have hil:i<Q.length:=(AAv.1 hw).1;have hwm:=ABp hw;have lI:∀ {k:Nat} {v:List Int×P},Q[k]? = some v->(Q++[(w.1++[st],t)])[k]? = some v:=fun {k v} hv=>by
  rw[ABo (AAv.1 hv).1];exact hv
 refine ⟨lI h.head,fun v hv=>?_,fun j k u v hjk hu hv=>?_,fun j v s1 t1 hv hp=>?_,fun v hv=>?_,fun j v hj hv=>?_⟩
 ·rcases ABY.1 hv with hv|hv
  ·exact h.walk v hv
  ·obtain rfl:v=(w.1++[st],t):=by simpa using hv
   exact (h.walk w hwm).snoc he
 ·rcases Jt hv with hv'|⟨e1,e2⟩
  ·have hk:=(AAv.1 hv').1
   rcases Jt hu with hu'|⟨e1,_⟩
   ·exact h.srt j k u v hjk hu' hv'
   ·omega
  ·rcases Jt hu with hu'|⟨e3,_⟩
   ·rw[e2];exact h.before hw hst u (ABp hu')
   ·omega
 ·have hv':Q[j]? = some v:=by
   rcases Jt hv with hv'|⟨e1,_⟩
   ·exact hv'
   ·rcases hp with hp|hp
    ·omega
    ·omega
  rcases hp with hp|⟨hj,hm⟩
  ·obtain ⟨u,h1,h2⟩:=h.vN j v s1 t1 hv' (.inl hp)
   exact ⟨u,ABj _ h1,h2⟩
  ·rcases ABY.1 hm with hm|hm
   ·obtain ⟨u,h1,h2⟩:=h.vN j v s1 t1 hv' (.inr ⟨hj,hm⟩)
    exact ⟨u,ABj _ h1,h2⟩
   ·obtain ⟨rfl,rfl⟩:s1=st/\t1=t:=by simpa using hm
    subst hj;obtain rfl:v=w:=ABW (hv'.symm.trans hw);exact ⟨(v.1++[s1],t1),by simp,rfl,MG _⟩
 ·rcases ABY.1 hv with hv|hv
  ·rcases h.src v hv with e|⟨k,u,s0,t0,hu,e,hk⟩
   ·exact .inl e
   ·exact .inr ⟨k,u,s0,t0,lI hu,e,hk.imp id fun hk=>⟨hk.1,ABj _ hk.2⟩⟩
  ·obtain rfl:v=(w.1++[st],t):=by simpa using hv
   exact .inr ⟨i,w,st,t,lI hw,rfl,.inr ⟨rfl,by simp⟩⟩
 ·rcases Jt hv with hv'|⟨e1,_⟩
  ·exact h.nob j v hj hv'
  ·omega
theorem Yb.next {dn:List (Int×P)} (h:Yb E Bad r Q i dn) (hw:Q[i]? = some w) (hb:¬ Bad w.2) (hd:∀st t,E w.2 st t->(st,t)∈dn):Yb E Bad r Q (i+1) []:=by
 refine ⟨h.head,h.walk,h.srt,fun j v s1 t1 hv hp=>?_,fun v hv=>?_,fun j v hj hv=>?_⟩
 ·rcases hp with ⟨hj,he⟩|⟨_,hm⟩
  ·by_cases e:j=i
   ·subst e
    obtain rfl:v=w:=ABW (hv.symm.trans hw);exact h.vN j v s1 t1 hv (.inr ⟨rfl,hd _ _ he⟩)
   ·exact h.vN j v s1 t1 hv (.inl ⟨by omega,he⟩)
  ·cases hm
 ·rcases h.src v hv with e|⟨k,u,s0,t0,hu,e,hk⟩
  ·exact .inl e
  ·exact .inr ⟨k,u,s0,t0,hu,e,.inl (by rcases hk with hk|hk <;> omega)⟩
 ·by_cases e:j=i
  ·subst e
   obtain rfl:v=w:=ABW (hv.symm.trans hw);exact hb
  ·exact h.nob j v (by omega) hv
theorem Yb.cont (h:Yb E Bad r Q i []) {l2:List Int} (hk:Wk E t2 l2 t):∀ (l1:List Int) (j:Nat) w,Q[j]? = some w->w.2=t2->sle w.1 l1->(∃v∈Q,v.2=t/\sle v.1 (l1++l2))\/∃ (j':Nat) (w':List Int×P),i<=j'/\Q[j']? = some w'/\sle w'.1 (l1++l2):=by
 induction hk with
 | nil t =>
  intro l1 j w hw e hs
  exact .inl ⟨w,ABp hw,e,by rw[List.append_nil];exact hs⟩
 | @cons t t2 t3 st l h1 _ ih =>
  intro l1 j w hw e hs
  by_cases hj:i<=j
  ·exact .inr ⟨j,w,hj,hw,KM hs (o6 _ _)⟩
  ·obtain ⟨v,hv,e2,hs2⟩:=h.vN j w st t2 hw (.inl ⟨by omega,by rw[e];exact h1⟩)
   obtain ⟨k,hk,rfl⟩:=ABi hv;have:=ih (l1++[st]) k _ (zl hk) e2 (KM hs2 (o7 hs st));rw[AAo] at this;exact this
theorem Yb.bad (h:Yb E Bad r Q i []) (hw:Q[i]? = some w) (hb:Bad w.2):AEi E Bad r w.1:=by
 refine ⟨⟨w.2,h.walk w (ABp hw),hb⟩,fun l t hl ht=>?_⟩
 have key:∀ (j:Nat) v,i<=j->Q[j]? = some v->sle w.1 v.1:=fun j v hj hv=>by
  by_cases e:j=i
  ·subst e
   obtain rfl:v=w:=ABW (hv.symm.trans hw);exact MG _
  ·exact Iw (h.srt i j w v (by omega) hw hv)
 rcases h.cont hl [] 0 _ h.head rfl (MG _) with ⟨v,hv,e,hs⟩|⟨j,v,hj,hv,hs⟩
 ·obtain ⟨k,hk,rfl⟩:=ABi hv
  have hki:i<=k:=by
   rcases Nat.lt_or_ge k i with hlt|hge
   ·exact absurd (by rw[e];exact ht) (h.nob k _ hlt (zl hk))
   ·exact hge
  exact KM (key k _ hki (zl hk)) hs
 ·exact KM (key j v hj hv) hs
end
section
variable {a b:List Aa} {ta tb:Int}
end
def uU:List ByteArray:=[⟨#[98,111,111,108]⟩,⟨#[105,110,116]⟩,⟨#[115,116,114,105,110,103]⟩,⟨#[108,105,115,116]⟩,⟨#[109,97,112]⟩,⟨#[111,112,116,105,111,110,97,108]⟩]
def sO (nm:ByteArray):Bool:=LV nm uU
def Ev (k:Int):Prop:=k=7\/k=8\/k=9
instance (k:Int):Decidable (Ev k):=by unfold Ev;exact inferInstance
def wX (s:List Aa) (t:Int):Nat->Int
 | 0=>t
 | i+1=>(AO s (wX s t i)).elem
def wC (s:List Aa) (u:Int):Prop:=(AO s u).kind=8/\Db (AO s (AO s u).key).kind=true/\sO (AO s (AO s u).key).name=true
def wAt (s:List Aa) (u:Int):Prop:=(Db (AO s u).kind=true/\sO (AO s u).name=true)\/wC s u
def WT (s:List Aa) (t:Int):Prop:=∃i,(∀j,j<i->Ev (AO s (wX s t j)).kind)/\wAt s (wX s t i)
def CT (s:List Aa) (t:Int):Prop:=∀i,Ev (AO s (wX s t i)).kind
theorem YD {k:Int} (h:Ev k):Db k=false:=by
 unfold Ev at h;unfold Db
 rcases h with rfl|rfl|rfl <;> rfl
theorem Xl {k:Int} (h:Db k=true):¬ Ev k:=fun hc=>by rw[YD hc] at h;cases h
section
variable {s:List Aa} {t:Int}
end
structure Hy (s:List Aa) (path:List Int) (t:Int):Prop where
 rng:∀u∈path,0<=u/\u<(s.length:Int)
 cmp:∀u∈path,Ev (AO s u).kind
 nd:path.Nodup
 lnk:∀ (i:Nat) u,path[i]? = some u->(path++[t])[i+1]? = some (AO s u).elem
theorem Hy.nil (s:List Aa) (t:Int):Hy s [] t:=⟨(fun _ h=>by cases h),(fun _ h=>by cases h),by simp,(fun i u h=>by simp at h)⟩
section
variable {s:List Aa} {t:Int} {path:List Int}
theorem Hy.more (h:Hy s path t) (hr:0<=t/\t<(s.length:Int)) (hc:Ev (AO s t).kind) (ht:t ∉ path):Hy s (path++[t]) (AO s t).elem:=by
 refine ⟨fun u hu=>?_,fun u hu=>?_,?_,fun i u hi=>?_⟩
 ·rcases ABY.1 hu with k|k
  ·exact h.rng u k
  ·obtain rfl:u=t:=by simpa using k
   exact hr
 ·rcases ABY.1 hu with k|k
  ·exact h.cmp u k
  ·obtain rfl:u=t:=by simpa using k
   exact hc
 ·rw[List.nodup_append]
  refine ⟨h.nd,by simp,fun y hy z hz e=>?_⟩
  obtain rfl:z=t:=by simpa using hz
  exact ht (e▸hy)
 ·by_cases hl:i<path.length
  ·rw[ABo hl] at hi
   have:=h.lnk i u hi;rw[ABo (by simp;omega)]
   exact this
  ·have hi':=(AAv.1 hi).1
   simp at hi';obtain rfl:i=path.length:=by omega
   rw[ABm (AAF _)] at hi;obtain rfl:u=t:=by simpa using hi.symm
   rw[ABm (by simp)]
   simp
theorem Hy.Zf (h:Hy s path t) (ht:t∈path):∀i,wX s t i∈path
 | 0=>ht
 | i+1=>by
  obtain ⟨j,hj,e⟩:=ABi (Hy.Zf h ht i);have:=h.lnk j _ (by rw[zl hj,e])
  have hm:=ABp this
  rcases ABY.1 hm with k|k
  ·exact k
  ·have k':(AO s (wX s t i)).elem=t:=by simpa using k
   show (AO s (wX s t i)).elem∈path
   rw[k'];exact ht
theorem Hy.word (h:Hy s path t) (ht:t∈path) (hw:WT s t):∃u∈path,wC s u:=by
 obtain ⟨i,_,hw⟩:=hw;have hm:=h.Zf ht i
 rcases hw with ⟨h1,_⟩|h1
 ·exact absurd (h.cmp _ hm) (Xl h1)
 ·exact ⟨_,hm,h1⟩
end
section
variable {s:List Aa} {t:Int} {path:List Int}
theorem GX (hr:0<=t/\t<(s.length:Int)):AO s t∈s:=by
 have hl:t.toNat<s.length:=by omega
 have:AO s t=s[t.toNat]:=by unfold AO;rw[AA1,zl hl];rfl
 rw[this];exact AAL hl
theorem Fh (hv:zQ s=0) (hr:0<=t/\t<(s.length:Int)):1<=(AO s t).kind/\(AO s t).kind<=9:=by
 have h:=(Dx hv (GX hr)).1;unfold Gm at h;simp only[AAD,AAV] at h;exact ⟨h.1.1.1.1,h.1.1.1.2⟩
theorem Jz (hv:zQ s=0) (hr:0<=t/\t<(s.length:Int)) (hc:Ev (AO s t).kind):0<=(AO s t).elem/\(AO s t).elem<(s.length:Int):=by
 refine (Dx hv (GX hr)).2 _ (List.mem_map.2 ⟨(-1,(AO s t).elem),?_,rfl⟩);unfold Jc;unfold Ev at hc
 rcases hc with h|h|h <;> rw[h] <;> simp
theorem MR (hv:zQ s=0) (hr:0<=t/\t<(s.length:Int)) (hc:(AO s t).kind=8):(0<=(AO s t).key/\(AO s t).key<(s.length:Int))/\1<=(AO s (AO s t).key).kind/\(AO s (AO s t).key).kind<=4:=by
 refine ⟨(Dx hv (GX hr)).2 _ (List.mem_map.2 ⟨(0,(AO s t).key),?_,rfl⟩),?_⟩
 ·unfold Jc
  rw[hc];simp
 ·have:=Q6 hv (GX hr) hc
  unfold BV at this
  simpa using this
theorem PD (b:ByteArray):b++(⟨#[]⟩:ByteArray)=b:=by
 apply ByteArray.ext
 rw[ByteArray.data_append];simp
end
structure VS where
 opn:List Bool
 don:List Bool
 word:Bool
 loop:Bool
def qm (l:List Bool) (t:Int):Bool:=l.getD t.toNat false
def cntF (l:List Bool):Nat:=(l.filter (· == false)).length
structure VI (s:List Aa) (path:List Int) (v:VS):Prop where
 lo:v.opn.length=s.length
 ld:v.don.length=s.length
 op:∀u,(0<=u/\u<(s.length:Int))->(qm v.opn u=true↔u∈path)
 dn:∀u,(0<=u/\u<(s.length:Int))->qm v.don u=true->u ∉ path->(WT s u->v.word=true)/\(CT s u->v.loop=true)
 kw:∀u∈path,wC s u->v.word=true
structure VN (v v':VS) (W C:Prop):Prop where
 w1:W->v'.word=true
 c1:C->v'.loop=true
 w2:v'.word=true->v.word=true\/W
 c2:v'.loop=true->v.loop=true\/C
 w3:v.word=true->v'.word=true
 c3:v.loop=true->v'.loop=true
 cn:cntF v'.don<=cntF v.don
section
variable {s:List Aa} {t:Int} {path:List Int} {v:VS}
end
theorem VN.trans {a b c : VS} {W1 C1 W2 C2 : Prop} (h : VN a b W1 C1) (k : VN b c W2 C2) : VN a c (W1 \/ W2) (C1 \/ C2) :=
  ⟨fun e => e.elim (fun e => k.w3 (h.w1 e)) k.w1, fun e => e.elim (fun e => k.c3 (h.c1 e)) k.c1, fun e => (k.w2 e).elim (fun e => (h.w2 e).imp id .inl) fun e => .inr (.inr e), fun e => (k.c2 e).elim (fun e => (h.c2 e).imp id .inl) fun e => .inr (.inr e),
   fun e => k.w3 (h.w3 e), fun e => k.c3 (h.c3 e), Nat.le_trans k.cn h.cn⟩
def Pn (n:Nat):VS:=⟨List.replicate n false,List.replicate n false,false,false⟩
theorem VI.start (s:List Aa):VI s [] (Pn s.length):=by
 refine ⟨by simp[Pn],by simp[Pn],fun u hu=>?_,fun u hu hd=>?_,fun u hu=>by cases hu⟩
 ·unfold qm Pn
  rw[AA1,List.getElem?_replicate]
  split <;> simp
 ·exfalso
  unfold qm Pn at hd;rw[AA1,List.getElem?_replicate] at hd
  split at hd <;> simp at hd
end Go.Proofs.YthkkllmmbefedaaGreatDoor
namespace Go.Proofs.YthkkllmmbefedaaGreatDoor
end Go.Proofs.YthkkllmmbefedaaGreatDoor
namespace Go.Proofs.YthkkllmmbefedaaGreatDoor
structure J7 where
 id:Nat
 type:Nat
 flag:Nat
 deriving DecidableEq
structure AR where
 kind:Nat
 a:Nat
 b:Nat
 c:Nat
 parts:List J7
 deriving DecidableEq
def Bo:AR:=⟨0,0,0,0,[]⟩
def Ab (d:List AR) (i:Nat):Int:=1+(((d.getD i Bo).kind % 9:Nat):Int)
def Hl (k:Int):Bool:=decide (7<=k)
def Ve (n:Nat) (p:Nat->Bool):Int:=match (List.range n).find? p with|some k=>(k:Int)|none => -1
def CY (d:List AR) (i code:Nat):Int :=
 if Hl (Ab d (code % d.length))||decide (code % d.length<i) then ((code % d.length:Nat):Int)
 else if 0<i then ((code % d.length % i:Nat):Int)
 else Ve d.length fun k=>Hl (Ab d k)
def Ee (d:List AR) (code:Nat):Int:=match (List.range d.length).find? (fun k=>BV (Ab d ((code+k) % d.length))) with|some k=>(((code+k) % d.length:Nat):Int)|none => -1
def F7 (x:AR):Int:=((x.a % 7:Nat):Int) - 3
def Fp (x:AR):Int:=F7 x+((x.b % 6:Nat):Int)
def Di (x:AR):List Int :=
 let l:=((List.range 6).filter fun i=>(x.a >>> i) % 2==1).map fun i=>((i+1:Nat):Int)
 if l=[] then [1] else l
