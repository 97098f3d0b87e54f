/-
  Drafts of schemas, and the schema of a draft: plain Lean.
-/
import Derived.Test.YthkkllmmbefedaaGreatDoorQGA0
import Derived.Lib.ItoaLen
namespace Go.Proofs.YthkkllmmbefedaaGreatDoor
set_option maxHeartbeats 16000000
set_option maxRecDepth 100000
section
variable {s:List TyD} {S:Nat→Nat→Bool}
end
def decB (n:Int):ByteArray:=⟨(Lib.itoa n).toArray⟩
def tyAt (s:List TyD) (c:Int):TyD:=s.getD c.toNat zeroT
theorem zT {s:List TyD} {k:Nat} (hk:k<s.length):tyAt s (k:Int)=s[k]:=by
 unfold tyAt;rw[List.getD_eq_getElem?_getD,Int.toNat_natCast,zl hk];rfl
section
variable {s:List TyD} {S:Nat→Nat→Bool}
end
section
variable {a b:List TyD} {S T U:Nat→Nat→Bool}
end
theorem tysErr_of {s:List TyD}:∀ (l:List TyD) (seen:List ByteArray),(∀i (h:i<l.length),tyErr s (seen++(l.take i).map (·.name)) l[i]=0)→tysErr s seen l=0
 | [],_,_=>rfl
 | t::l,seen,h=>by
  have h0:=h 0 (by simp)
  simp only[List.take_zero,List.map_nil,List.append_nil,List.getElem_cons_zero] at h0;rw[tysErr,if_pos h0];refine tysErr_of l _ fun i hi=>?_
  have:=h (i+1) (by simpa using hi)
  simpa using this
theorem tyErr_of {s:List TyD} {seen:List ByteArray} {t:TyD} (hf:formD t=true) (hs:t.name≠⟨#[]⟩→t.name ∉ seen) (hu:∀u∈toD t,0≤u∧u<(s.length:Int)) (hk:t.kind=8→keyKind ((s.getD t.key.toNat zeroT).kind)=true):tyErr s seen t=0:=by
 unfold tyErr;rw[if_neg,if_neg,if_neg]
 ·by_cases h:t.kind=8
  ·rw[hk h];simp
  ·simp[h]
 ·intro h
  obtain ⟨u,h1,h2⟩:=List.any_eq_true.1 h;have:=hu u h1;simp at h2
  omega
 ·rw[hf]
  by_cases h:t.name=⟨#[]⟩
  ·simp[h]
  ·have:=hs h
   simp[h,memD,this]
theorem valid_key {s:List TyD} (h:zQ s=0) {t:TyD} (ht:t∈s) (hk:t.kind=8):keyKind ((tyAt s t.key).kind)=true:=by
 unfold zQ at h
 split at h
 ·cases h
 ·obtain ⟨K,hK⟩:=tysErr_zero s [] h t ht
  unfold tyErr at hK
  split at hK
  ·cases hK
  ·split at hK
   ·cases hK
   ·split at hK
    ·cases hK
    ·rename_i h3
     unfold tyAt
     cases hkk:keyKind ((s.getD t.key.toNat zeroT).kind) with
     | true=>rfl
     | false=>exact absurd (by simp[hk];exact hkk) h3
theorem valid_of {s:List TyD} (hl:s.length≤32) (h:∀i (hi:i<s.length),tyErr s ((s.take i).map (·.name)) s[i]=0):zQ s=0:=by
 unfold zQ;rw[if_neg (by omega)]
 exact tysErr_of s [] fun i hi=>by simpa using h i hi
section
variable {s:List TyD} {S:Nat→Nat→Bool} {t:Int}
end
theorem ltL_irrefl:∀l,ltL l l=false
 | []=>rfl
 | a::l=>by rw[ltL,if_pos rfl];exact ltL_irrefl l
theorem ltL_trans:∀l m r,ltL l m=true→ltL m r=true→ltL l r=true
 | [],[],_,h,_=>by simp[ltL] at h
 | [],_::_,[],_,k=>by simp[ltL] at k
 | [],_::_,_::_,_,_=>rfl
 | _::_,[],_,h,_=>by simp[ltL] at h
 | _::_,_::_,[],_,k=>by simp[ltL] at k
 | a::l,b::m,c::r,h,k=>by
  rw[ltL] at h k ⊢
  by_cases e:a=b
  ·rw[if_pos e] at h
   by_cases f:b=c
   ·rw[if_pos f] at k
    rw[if_pos (e.trans f)];exact ltL_trans l m r h k
   ·rw[if_neg f] at k
    rw[if_neg (by rw[e];exact f),e];exact k
  ·rw[if_neg e] at h
   have h1:a<b:=of_decide_eq_true h
   by_cases f:b=c
   ·rw[if_neg (by rw[←f];exact e),←f];exact h
   ·rw[if_neg f] at k
    have h2:b<c:=of_decide_eq_true k;rw[if_neg (by omega)];exact decide_eq_true (by omega)
theorem ltL_total:∀l m,l=m∨ltL l m=true∨ltL m l=true
 | [],[] => .inl rfl
 | [],_::_ => .inr (.inl rfl)
 | _::_,[] => .inr (.inr rfl)
 | a::l,b::m=>by
  by_cases e:a=b
  ·subst e
   rcases ltL_total l m with h|h|h
   ·exact .inl (by rw[h])
   ·exact .inr (.inl (by rw[ltL,if_pos rfl];exact h))
   ·exact .inr (.inr (by rw[ltL,if_pos rfl];exact h))
  ·rcases Int.lt_or_lt_of_ne e with h|h
   ·exact .inr (.inl (by rw[ltL,if_neg e];exact decide_eq_true h))
   ·exact .inr (.inr (by rw[ltL,if_neg (fun x=>e x.symm)];exact decide_eq_true h))
theorem ltL_app:∀ (l m:List Int) (x y:Int),l.length=m.length→ltL (l++[x]) (m++[y])=(ltL l m||(decide (l=m)&&decide (x<y)))
 | [],[],x,y,_=>by
  simp only[List.nil_append,ltL]
  by_cases e:x=y
  ·simp[e]
  ·simp[e]
 | [],_::_,_,_,h=>by simp at h
 | _::_,[],_,_,h=>by simp at h
 | a::l,b::m,x,y,h=>by
  rw[List.cons_append,List.cons_append,ltL,ltL,ltL_app l m x y (by simpa using h)]
  by_cases e:a=b
  ·simp[e]
  ·simp[e]
def sle (l m:List Int):Prop:=l.length<m.length∨(l.length=m.length∧ltL m l=false)
def slt (l m:List Int):Prop:=l.length<m.length∨(l.length=m.length∧ltL l m=true)
theorem ltL_false {l m:List Int}:ltL m l=false↔(l=m∨ltL l m=true):=by
 constructor
 ·intro h
  rcases ltL_total l m with k|k|k
  ·exact .inl k
  ·exact .inr k
  ·rw[h] at k;cases k
 ·rintro (k|k)
  ·rw[k];exact ltL_irrefl m
  ·cases h:ltL m l with
   | false=>rfl
   | true=>have:=ltL_trans _ _ _ k h;rw[ltL_irrefl] at this;cases this
theorem sle_iff {l m:List Int}:sle l m↔(l=m∨slt l m):=by
 unfold sle slt;rw[ltL_false]
 constructor
 ·rintro (h|⟨h,h2|h2⟩)
  ·exact .inr (.inl h)
  ·exact .inl h2
  ·exact .inr (.inr ⟨h,h2⟩)
 ·rintro (h|h|⟨h,h2⟩)
  ·exact .inr ⟨by rw[h],.inl h⟩
  ·exact .inl h
  ·exact .inr ⟨h,.inr h2⟩
theorem sle_refl (l:List Int):sle l l:=sle_iff.2 (.inl rfl)
theorem sle_of_slt {l m:List Int} (h:slt l m):sle l m:=sle_iff.2 (.inr h)
theorem slt_trans {l m r:List Int} (h:slt l m) (k:slt m r):slt l r:=by
 rcases h with h|⟨h,h2⟩ <;> rcases k with k|⟨k,k2⟩
 ·exact .inl (by omega)
 ·exact .inl (by omega)
 ·exact .inl (by omega)
 ·exact .inr ⟨h.trans k,ltL_trans _ _ _ h2 k2⟩
theorem sle_trans {l m r:List Int} (h:sle l m) (k:sle m r):sle l r:=by
 rcases sle_iff.1 h with e|h
 ·rw[e];exact k
 ·rcases sle_iff.1 k with e|k
  ·rw[←e];exact sle_of_slt h
  ·exact sle_of_slt (slt_trans h k)
theorem sle_app {l m:List Int} (h:sle l m) (x:Int):sle (l++[x]) (m++[x]):=by
 rcases h with h|⟨h,h2⟩
 ·exact .inl (by simp;omega)
 ·refine .inr ⟨by simp[h],?_⟩
  rw[ltL_app m l x x h.symm,h2];simp
theorem sle_ext (l r:List Int):sle l (l++r):=by
 cases r with
 | nil=>rw[List.append_nil];exact sle_refl l
 | cons a r=>exact .inl (by simp)
theorem slt_app {l m:List Int} (h:slt l m) (x y:Int):slt (l++[x]) (m++[y]):=by
 rcases h with h|⟨h,h2⟩
 ·exact .inl (by simp;omega)
 ·refine .inr ⟨by simp[h],?_⟩
  rw[ltL_app l m x y h,h2];rfl
theorem slt_step (l:List Int) {x y:Int} (h:x<y):slt (l++[x]) (l++[y]):=by
 refine .inr ⟨by simp,?_⟩
 rw[ltL_app l l x y rfl];simp[h]
section
variable {P:Type} {E:P→Int→P→Prop} {Bad:P→Prop} {r:P}
inductive Wk (E:P→Int→P→Prop):P→List Int→P→Prop
 | nil (t:P):Wk E t [] t
 | cons {t t2 t3:P} {st:Int} {l:List Int}:E t st t2→Wk E t2 l t3→Wk E t (st::l) t3
theorem Wk.snoc {t t2 t3:P} {st:Int} {l:List Int} (h:Wk E t l t2) (he:E t2 st t3):Wk E t (l++[st]) t3:=by
 induction h with
 | nil t=>exact .cons he (.nil _)
 | cons h1 _ ih=>exact .cons h1 (ih he)
theorem Wk.last {t t3:P} {l:List Int} (h:Wk E t l t3):l≠[]→∃m st t2,l=m++[st]∧Wk E t m t2∧E t2 st t3:=by
 induction h with
 | nil t=>intro h;exact absurd rfl h
 | @cons t t2 t3 st l h1 h2 ih =>
  intro _
  cases l with
  | nil =>
   cases h2
   exact ⟨[],st,t,rfl,.nil _,h1⟩
  | cons a l =>
   obtain ⟨m,st2,t4,e,hw,he⟩:=ih (by simp)
   exact ⟨st::m,st2,t4,by rw[e];rfl,.cons h1 hw,he⟩
theorem Wk.all {p:P→Prop} (hp:∀t,p t→∀st t',E t st t'→p t') {t t':P} {l:List Int} (h:Wk E t l t'):p t→p t':=by
 induction h with
 | nil t=>exact id
 | cons h1 _ ih=>exact fun hq=>ih (hp _ hq _ _ h1)
def Best (E:P→Int→P→Prop) (Bad:P→Prop) (r:P) (l:List Int):Prop:=(∃t,Wk E r l t∧Bad t)∧∀l' t',Wk E r l' t'→Bad t'→sle l l'
inductive WkV (E:P→Int→P→Prop):P→List Int→List P→P→Prop
 | nil (t:P):WkV E t [] [t] t
 | cons {t t2 t3:P} {st:Int} {l:List Int} {V:List P}:E t st t2→WkV E t2 l V t3→WkV E t (st::l) (t::V) t3
theorem WkV.wk {t t2:P} {l:List Int} {V:List P} (h:WkV E t l V t2):Wk E t l t2∧V.length=l.length+1:=by
 induction h with
 | nil t=>exact ⟨.nil _,rfl⟩
 | cons h1 _ ih=>exact ⟨.cons h1 ih.1,by simp[ih.2]⟩
theorem WkV.all {p:P→Prop} (hp:∀t,p t→∀st t',E t st t'→p t') {t t':P} {l:List Int} {V:List P} (h:WkV E t l V t'):p t→∀x∈V,p x:=by
 induction h with
 | nil t =>
  intro hq x hx
  obtain rfl:x=t:=by simpa using hx
  exact hq
 | cons h1 _ ih =>
  intro hq x hx
  rcases List.mem_cons.1 hx with e|e
  ·rw[e];exact hq
  ·exact ih (hp _ hq _ _ h1) x e
structure BfI (E:P→Int→P→Prop) (Bad:P→Prop) (r:P) (Q:List (List Int×P)) (i:Nat) (dn:List (Int×P)):Prop where
 head:Q[0]? = some ([],r)
 walk:∀w∈Q,Wk E r w.1 w.2
 srt:∀ (j k:Nat) v w,j<k→Q[j]? = some v→Q[k]? = some w→slt v.1 w.1
 prc:∀ (j:Nat) w st t,Q[j]? = some w→(j<i∧E w.2 st t∨j=i∧(st,t)∈dn)→∃v∈Q,v.2=t∧sle v.1 (w.1++[st])
 src:∀w∈Q,w.1=[]∨∃ (k:Nat) (v:List Int×P) (st:Int) (t:P),Q[k]? = some v∧w.1=v.1++[st]∧(k<i∨k=i∧(st,t)∈dn)
 nob:∀ (j:Nat) w,j<i→Q[j]? = some w→¬ Bad w.2
theorem BfI.before {Q:List (List Int×P)} {i:Nat} {dn:List (Int×P)} (h:BfI E Bad r Q i dn) {w:List Int×P} (hw:Q[i]? = some w) {st:Int} (hst:∀x∈dn,x.1<st):∀v∈Q,slt v.1 (w.1++[st]):=by
 intro v hv
 rcases h.src v hv with e|⟨k,u,s0,t0,hu,e,hk⟩
 ·rw[e];exact .inl (by simp)
 ·rw[e]
  rcases hk with hk|⟨hk,hm⟩
  ·exact slt_app (h.srt k i u w hk hu hw) _ _
  ·subst hk
   obtain rfl:u=w:=Option.some.inj (hu.symm.trans hw);exact slt_step _ (hst _ hm)
theorem BfI.old {Q:List (List Int×P)} {i:Nat} {dn:List (Int×P)} (h:BfI E Bad r Q i dn) {w:List Int×P} (hw:Q[i]? = some w) {st:Int} {t:P} (hst:∀x∈dn,x.1<st) (ht:∃u∈Q,u.2=t):BfI E Bad r Q i (dn++[(st,t)]):=by
 refine ⟨h.head,h.walk,h.srt,fun j v s1 t1 hv hp=>?_,fun v hv=>?_,h.nob⟩
 ·rcases hp with hp|⟨hj,hm⟩
  ·exact h.prc j v s1 t1 hv (.inl hp)
  ·rcases List.mem_append.1 hm with hm|hm
   ·exact h.prc j v s1 t1 hv (.inr ⟨hj,hm⟩)
   ·obtain ⟨rfl,rfl⟩:s1=st∧t1=t:=by simpa using hm
    subst hj;obtain rfl:v=w:=Option.some.inj (hv.symm.trans hw);obtain ⟨u,hu,e⟩:=ht;exact ⟨u,hu,e,sle_of_slt (h.before hw hst u hu)⟩
 ·rcases h.src v hv with e|⟨k,u,s0,t0,hu,e,hk⟩
  ·exact .inl e
  ·exact .inr ⟨k,u,s0,t0,hu,e,hk.imp id fun hk=>⟨hk.1,List.mem_append_left _ hk.2⟩⟩
theorem get_snoc {α:Type} {l:List α} {x y:α} {j:Nat} (h:(l++[x])[j]? = some y):l[j]? = some y∨(j=l.length∧y=x):=by
 by_cases hj:j<l.length
 ·rw[List.getElem?_append_left hj] at h;exact .inl h
 ·have:=(List.getElem?_eq_some_iff.1 h).1
  simp at this;have e:j=l.length:=by omega
  subst e;simp at h;exact .inr ⟨rfl,h.symm⟩
theorem BfI.new {Q:List (List Int×P)} {i:Nat} {dn:List (Int×P)} (h:BfI E Bad r Q i dn) {w:List Int×P} (hw:Q[i]? = some w) {st:Int} {t:P} (he:E w.2 st t) (hst:∀x∈dn,x.1<st):BfI E Bad r (Q++[(w.1++[st],t)]) i (dn++[(st,t)]):=by
 have hil:i<Q.length:=(List.getElem?_eq_some_iff.1 hw).1;have hwm:=List.mem_of_getElem? hw;have hlift:∀ {k:Nat} {v:List Int×P},Q[k]? = some v→(Q++[(w.1++[st],t)])[k]? = some v:=fun {k v} hv=>by
  rw[List.getElem?_append_left (List.getElem?_eq_some_iff.1 hv).1];exact hv
 refine ⟨hlift h.head,fun v hv=>?_,fun j k u v hjk hu hv=>?_,fun j v s1 t1 hv hp=>?_,fun v hv=>?_,fun j v hj hv=>?_⟩
 ·rcases List.mem_append.1 hv with hv|hv
  ·exact h.walk v hv
  ·obtain rfl:v=(w.1++[st],t):=by simpa using hv
   exact (h.walk w hwm).snoc he
 ·rcases get_snoc hv with hv'|⟨e1,e2⟩
  ·have hk:=(List.getElem?_eq_some_iff.1 hv').1
   rcases get_snoc hu with hu'|⟨e1,_⟩
   ·exact h.srt j k u v hjk hu' hv'
   ·omega
  ·rcases get_snoc hu with hu'|⟨e3,_⟩
   ·rw[e2];exact h.before hw hst u (List.mem_of_getElem? hu')
   ·omega
 ·have hv':Q[j]? = some v:=by
   rcases get_snoc hv with hv'|⟨e1,_⟩
   ·exact hv'
   ·rcases hp with hp|hp
    ·omega
    ·omega
  rcases hp with hp|⟨hj,hm⟩
  ·obtain ⟨u,h1,h2⟩:=h.prc j v s1 t1 hv' (.inl hp)
   exact ⟨u,List.mem_append_left _ h1,h2⟩
  ·rcases List.mem_append.1 hm with hm|hm
   ·obtain ⟨u,h1,h2⟩:=h.prc j v s1 t1 hv' (.inr ⟨hj,hm⟩)
    exact ⟨u,List.mem_append_left _ h1,h2⟩
   ·obtain ⟨rfl,rfl⟩:s1=st∧t1=t:=by simpa using hm
    subst hj;obtain rfl:v=w:=Option.some.inj (hv'.symm.trans hw);exact ⟨(v.1++[s1],t1),by simp,rfl,sle_refl _⟩
 ·rcases List.mem_append.1 hv with hv|hv
  ·rcases h.src v hv with e|⟨k,u,s0,t0,hu,e,hk⟩
   ·exact .inl e
   ·exact .inr ⟨k,u,s0,t0,hlift hu,e,hk.imp id fun hk=>⟨hk.1,List.mem_append_left _ hk.2⟩⟩
  ·obtain rfl:v=(w.1++[st],t):=by simpa using hv
   exact .inr ⟨i,w,st,t,hlift hw,rfl,.inr ⟨rfl,by simp⟩⟩
 ·rcases get_snoc hv with hv'|⟨e1,_⟩
  ·exact h.nob j v hj hv'
  ·omega
theorem BfI.next {Q:List (List Int×P)} {i:Nat} {dn:List (Int×P)} (h:BfI E Bad r Q i dn) {w:List Int×P} (hw:Q[i]? = some w) (hb:¬ Bad w.2) (hd:∀st t,E w.2 st t→(st,t)∈dn):BfI E Bad r Q (i+1) []:=by
 refine ⟨h.head,h.walk,h.srt,fun j v s1 t1 hv hp=>?_,fun v hv=>?_,fun j v hj hv=>?_⟩
 ·rcases hp with ⟨hj,he⟩|⟨_,hm⟩
  ·by_cases e:j=i
   ·subst e
    obtain rfl:v=w:=Option.some.inj (hv.symm.trans hw);exact h.prc j v s1 t1 hv (.inr ⟨rfl,hd _ _ he⟩)
   ·exact h.prc j v s1 t1 hv (.inl ⟨by omega,he⟩)
  ·cases hm
 ·rcases h.src v hv with e|⟨k,u,s0,t0,hu,e,hk⟩
  ·exact .inl e
  ·exact .inr ⟨k,u,s0,t0,hu,e,.inl (by rcases hk with hk|hk <;> omega)⟩
 ·by_cases e:j=i
  ·subst e
   obtain rfl:v=w:=Option.some.inj (hv.symm.trans hw);exact hb
  ·exact h.nob j v (by omega) hv
theorem BfI.cont {Q:List (List Int×P)} {i:Nat} (h:BfI E Bad r Q i []) {t2 t:P} {l2:List Int} (hk:Wk E t2 l2 t):∀ (l1:List Int) (j:Nat) w,Q[j]? = some w→w.2=t2→sle w.1 l1→(∃v∈Q,v.2=t∧sle v.1 (l1++l2))∨∃ (j':Nat) (w':List Int×P),i≤j'∧Q[j']? = some w'∧sle w'.1 (l1++l2):=by
 induction hk with
 | nil t =>
  intro l1 j w hw e hs
  exact .inl ⟨w,List.mem_of_getElem? hw,e,by rw[List.append_nil];exact hs⟩
 | @cons t t2 t3 st l h1 _ ih =>
  intro l1 j w hw e hs
  by_cases hj:i≤j
  ·exact .inr ⟨j,w,hj,hw,sle_trans hs (sle_ext _ _)⟩
  ·obtain ⟨v,hv,e2,hs2⟩:=h.prc j w st t2 hw (.inl ⟨by omega,by rw[e];exact h1⟩)
   obtain ⟨k,hk,rfl⟩:=List.getElem_of_mem hv;have:=ih (l1++[st]) k _ (zl hk) e2 (sle_trans hs2 (sle_app hs st));rw[List.append_assoc] at this;exact this
theorem BfI.bad {Q:List (List Int×P)} {i:Nat} (h:BfI E Bad r Q i []) {w:List Int×P} (hw:Q[i]? = some w) (hb:Bad w.2):Best E Bad r w.1:=by
 refine ⟨⟨w.2,h.walk w (List.mem_of_getElem? hw),hb⟩,fun l t hl ht=>?_⟩
 have key:∀ (j:Nat) v,i≤j→Q[j]? = some v→sle w.1 v.1:=fun j v hj hv=>by
  by_cases e:j=i
  ·subst e
   obtain rfl:v=w:=Option.some.inj (hv.symm.trans hw);exact sle_refl _
  ·exact sle_of_slt (h.srt i j w v (by omega) hw hv)
 rcases h.cont hl [] 0 _ h.head rfl (sle_refl _) with ⟨v,hv,e,hs⟩|⟨j,v,hj,hv,hs⟩
 ·obtain ⟨k,hk,rfl⟩:=List.getElem_of_mem hv
  have hki:i≤k:=by
   rcases Nat.lt_or_ge k i with hlt|hge
   ·exact absurd (by rw[e];exact ht) (h.nob k _ hlt (zl hk))
   ·exact hge
  exact sle_trans (key k _ hki (zl hk)) hs
 ·exact sle_trans (key j v hj hv) hs
end
section
variable {a b:List TyD} {ta tb:Int}
end
def wordsB:List ByteArray:=[⟨#[98,111,111,108]⟩,⟨#[105,110,116]⟩,⟨#[115,116,114,105,110,103]⟩,⟨#[108,105,115,116]⟩,⟨#[109,97,112]⟩,⟨#[111,112,116,105,111,110,97,108]⟩]
def wordD (nm:ByteArray):Bool:=memD nm wordsB
def compK (k:Int):Prop:=k=7∨k=8∨k=9
instance (k:Int):Decidable (compK k):=by unfold compK;exact inferInstance
def chn (s:List TyD) (t:Int):Nat→Int
 | 0=>t
 | i+1=>(tyAt s (chn s t i)).elem
def keyW (s:List TyD) (u:Int):Prop:=(tyAt s u).kind=8∧namedD (tyAt s (tyAt s u).key).kind=true∧wordD (tyAt s (tyAt s u).key).name=true
def wAt (s:List TyD) (u:Int):Prop:=(namedD (tyAt s u).kind=true∧wordD (tyAt s u).name=true)∨keyW s u
def WT (s:List TyD) (t:Int):Prop:=∃i,(∀j,j<i→compK (tyAt s (chn s t j)).kind)∧wAt s (chn s t i)
def CT (s:List TyD) (t:Int):Prop:=∀i,compK (tyAt s (chn s t i)).kind
theorem comp_named {k:Int} (h:compK k):namedD k=false:=by
 unfold compK at h;unfold namedD
 rcases h with rfl|rfl|rfl <;> rfl
theorem named_comp {k:Int} (h:namedD k=true):¬ compK k:=fun hc=>by rw[comp_named hc] at h;cases h
section
variable {s:List TyD} {t:Int}
end
structure PathOk (s:List TyD) (path:List Int) (t:Int):Prop where
 rng:∀u∈path,0≤u∧u<(s.length:Int)
 cmp:∀u∈path,compK (tyAt s u).kind
 nd:path.Nodup
 lnk:∀ (i:Nat) u,path[i]? = some u→(path++[t])[i+1]? = some (tyAt s u).elem
theorem PathOk.nil (s:List TyD) (t:Int):PathOk s [] t:=⟨(fun _ h=>by cases h),(fun _ h=>by cases h),by simp,(fun i u h=>by simp at h)⟩
section
variable {s:List TyD} {t:Int} {path:List Int}
theorem PathOk.more (h:PathOk s path t) (hr:0≤t∧t<(s.length:Int)) (hc:compK (tyAt s t).kind) (ht:t ∉ path):PathOk s (path++[t]) (tyAt s t).elem:=by
 refine ⟨fun u hu=>?_,fun u hu=>?_,?_,fun i u hi=>?_⟩
 ·rcases List.mem_append.1 hu with k|k
  ·exact h.rng u k
  ·obtain rfl:u=t:=by simpa using k
   exact hr
 ·rcases List.mem_append.1 hu with k|k
  ·exact h.cmp u k
  ·obtain rfl:u=t:=by simpa using k
   exact hc
 ·rw[List.nodup_append]
  refine ⟨h.nd,by simp,fun y hy z hz e=>?_⟩
  obtain rfl:z=t:=by simpa using hz
  exact ht (e▸hy)
 ·by_cases hl:i<path.length
  ·rw[List.getElem?_append_left hl] at hi
   have:=h.lnk i u hi;rw[List.getElem?_append_left (by simp;omega)]
   exact this
  ·have hi':=(List.getElem?_eq_some_iff.1 hi).1
   simp at hi';obtain rfl:i=path.length:=by omega
   rw[List.getElem?_append_right (Nat.le_refl _)] at hi;obtain rfl:u=t:=by simpa using hi.symm
   rw[List.getElem?_append_right (by simp)]
   simp
theorem PathOk.chn_mem (h:PathOk s path t) (ht:t∈path):∀i,chn s t i∈path
 | 0=>ht
 | i+1=>by
  obtain ⟨j,hj,e⟩:=List.getElem_of_mem (PathOk.chn_mem h ht i);have:=h.lnk j _ (by rw[zl hj,e])
  have hm:=List.mem_of_getElem? this
  rcases List.mem_append.1 hm with k|k
  ·exact k
  ·have k':(tyAt s (chn s t i)).elem=t:=by simpa using k
   show (tyAt s (chn s t i)).elem∈path
   rw[k'];exact ht
theorem PathOk.word (h:PathOk s path t) (ht:t∈path) (hw:WT s t):∃u∈path,keyW s u:=by
 obtain ⟨i,_,hw⟩:=hw;have hm:=h.chn_mem ht i
 rcases hw with ⟨h1,_⟩|h1
 ·exact absurd (h.cmp _ hm) (named_comp h1)
 ·exact ⟨_,hm,h1⟩
end
section
variable {s:List TyD} {t:Int} {path:List Int}
theorem tyAt_mem (hr:0≤t∧t<(s.length:Int)):tyAt s t∈s:=by
 have hl:t.toNat<s.length:=by omega
 have:tyAt s t=s[t.toNat]:=by unfold tyAt;rw[List.getD_eq_getElem?_getD,zl hl];rfl
 rw[this];exact List.getElem_mem hl
theorem kind_rng (hv:zQ s=0) (hr:0≤t∧t<(s.length:Int)):1≤(tyAt s t).kind∧(tyAt s t).kind≤9:=by
 have h:=(valid_tys hv (tyAt_mem hr)).1;unfold formD at h;simp only[Bool.and_eq_true,decide_eq_true_eq] at h;exact ⟨h.1.1.1.1,h.1.1.1.2⟩
theorem elem_rng (hv:zQ s=0) (hr:0≤t∧t<(s.length:Int)) (hc:compK (tyAt s t).kind):0≤(tyAt s t).elem∧(tyAt s t).elem<(s.length:Int):=by
 refine (valid_tys hv (tyAt_mem hr)).2 _ (List.mem_map.2 ⟨(-1,(tyAt s t).elem),?_,rfl⟩);unfold usesD;unfold compK at hc
 rcases hc with h|h|h <;> rw[h] <;> simp
theorem key_rng (hv:zQ s=0) (hr:0≤t∧t<(s.length:Int)) (hc:(tyAt s t).kind=8):(0≤(tyAt s t).key∧(tyAt s t).key<(s.length:Int))∧1≤(tyAt s (tyAt s t).key).kind∧(tyAt s (tyAt s t).key).kind≤4:=by
 refine ⟨(valid_tys hv (tyAt_mem hr)).2 _ (List.mem_map.2 ⟨(0,(tyAt s t).key),?_,rfl⟩),?_⟩
 ·unfold usesD
  rw[hc];simp
 ·have:=valid_key hv (tyAt_mem hr) hc
  unfold keyKind at this
  simpa using this
theorem app_nil (b:ByteArray):b++(⟨#[]⟩:ByteArray)=b:=by
 apply ByteArray.ext
 rw[ByteArray.data_append];simp
end
structure VS where
 opn:List Bool
 don:List Bool
 word:Bool
 loop:Bool
def getL (l:List Bool) (t:Int):Bool:=l.getD t.toNat false
def cntF (l:List Bool):Nat:=(l.filter (· == false)).length
structure VI (s:List TyD) (path:List Int) (v:VS):Prop where
 lo:v.opn.length=s.length
 ld:v.don.length=s.length
 op:∀u,(0≤u∧u<(s.length:Int))→(getL v.opn u=true↔u∈path)
 dn:∀u,(0≤u∧u<(s.length:Int))→getL v.don u=true→u ∉ path→(WT s u→v.word=true)∧(CT s u→v.loop=true)
 kw:∀u∈path,keyW s u→v.word=true
structure VN (v v':VS) (W C:Prop):Prop where
 w1:W→v'.word=true
 c1:C→v'.loop=true
 w2:v'.word=true→v.word=true∨W
 c2:v'.loop=true→v.loop=true∨C
 w3:v.word=true→v'.word=true
 c3:v.loop=true→v'.loop=true
 cn:cntF v'.don≤cntF v.don
section
variable {s:List TyD} {t:Int} {path:List Int} {v:VS}
end
theorem VN.trans {a b c : VS} {W1 C1 W2 C2 : Prop} (h : VN a b W1 C1) (k : VN b c W2 C2) : VN a c (W1 ∨ W2) (C1 ∨ C2) :=
  ⟨fun e => e.elim (fun e => k.w3 (h.w1 e)) k.w1, fun e => e.elim (fun e => k.c3 (h.c1 e)) k.c1, fun e => (k.w2 e).elim (fun e => (h.w2 e).imp id .inl) fun e => .inr (.inr e), fun e => (k.c2 e).elim (fun e => (h.c2 e).imp id .inl) fun e => .inr (.inr e),
   fun e => k.w3 (h.w3 e), fun e => k.c3 (h.c3 e), Nat.le_trans k.cn h.cn⟩
def startV (n:Nat):VS:=⟨List.replicate n false,List.replicate n false,false,false⟩
theorem VI.start (s:List TyD):VI s [] (startV s.length):=by
 refine ⟨by simp[startV],by simp[startV],fun u hu=>?_,fun u hu hd=>?_,fun u hu=>by cases hu⟩
 ·unfold getL startV
  rw[List.getD_eq_getElem?_getD,List.getElem?_replicate]
  split <;> simp
 ·exfalso
  unfold getL startV at hd;rw[List.getD_eq_getElem?_getD,List.getElem?_replicate] at hd
  split at hd <;> simp at hd
end Go.Proofs.YthkkllmmbefedaaGreatDoor
namespace Go.Proofs.YthkkllmmbefedaaGreatDoor
end Go.Proofs.YthkkllmmbefedaaGreatDoor
namespace Go.Proofs.YthkkllmmbefedaaGreatDoor
structure PartD where
 id:Nat
 type:Nat
 flag:Nat
 deriving DecidableEq
structure NodeD where
 kind:Nat
 a:Nat
 b:Nat
 c:Nat
 parts:List PartD
 deriving DecidableEq
def node0:NodeD:=⟨0,0,0,0,[]⟩
def kindN (d:List NodeD) (i:Nat):Int:=1+(((d.getD i node0).kind % 9:Nat):Int)
def hollowD (k:Int):Bool:=decide (7≤k)
def fstN (n:Nat) (p:Nat→Bool):Int:=match (List.range n).find? p with|some k=>(k:Int)|none => -1
def targetD (d:List NodeD) (i code:Nat):Int :=
 if hollowD (kindN d (code % d.length))||decide (code % d.length<i) then ((code % d.length:Nat):Int)
 else if 0<i then ((code % d.length % i:Nat):Int)
 else fstN d.length fun k=>hollowD (kindN d k)
def keyD (d:List NodeD) (code:Nat):Int:=match (List.range d.length).find? (fun k=>keyKind (kindN d ((code+k) % d.length))) with|some k=>(((code+k) % d.length:Nat):Int)|none => -1
def lowN (x:NodeD):Int:=((x.a % 7:Nat):Int) - 3
def highN (x:NodeD):Int:=lowN x+((x.b % 6:Nat):Int)
def idsN (x:NodeD):List Int :=
 let l:=((List.range 6).filter fun i=>(x.a >>> i) % 2==1).map fun i=>((i+1:Nat):Int)
 if l=[] then [1] else l
end Go.Proofs.YthkkllmmbefedaaGreatDoor


