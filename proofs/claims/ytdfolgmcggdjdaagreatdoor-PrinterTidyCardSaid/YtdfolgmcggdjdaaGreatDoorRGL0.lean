/-
  The text of a draft is short: plain Lean.
-/
import Derived.Test.YtdfolgmcggdjdaaGreatDoorRGF1
import Derived.Test.YtdfolgmcggdjdaaGreatDoorRGA5
import Derived.Test.YtdfolgmcggdjdaaGreatDoorRGH1
namespace Go.Proofs.YtdfolgmcggdjdaaGreatDoor
set_option maxHeartbeats 16000000
set_option maxRecDepth 100000
def Ext (a b:List TyD):Prop:=a.length≤b.length∧∀j,j<a.length→b[j]? = a[j]?
theorem Ext.refl (a:List TyD):Ext a a:=⟨Nat.le_refl _,fun _ _=>rfl⟩
theorem Ext.trans {a b c:List TyD} (h:Ext a b) (k:Ext b c):Ext a c:=⟨Nat.le_trans h.1 k.1,fun j hj=>(k.2 j (Nat.lt_of_lt_of_le hj h.1)).trans (h.2 j hj)⟩
theorem Ext.snoc (a:List TyD) (x:TyD):Ext a (a++[x]):=⟨by simp,fun j hj=>by rw[List.getElem?_append_left hj]⟩
theorem Ext.set {a b:List TyD} (h:Ext a b) {n:Nat} (hn:a.length≤n) (y:TyD):Ext a (b.set n y):=⟨by rw[List.length_set];exact h.1,fun j hj=>by rw[List.getElem?_set_ne (by omega)];exact h.2 j hj⟩
def Agr (T a:List TyD) (L L':Nat):Prop:=∀j,L≤j→j<L'→T[j]? = a[j]?
def PlF (s:List TyD) (ix:List Int) (T:List TyD):Nat→Int→Int→Nat→Nat→Prop
 | 0,_,_,_,_=>False
 | f+1,t,r,L,L' =>
  if 0≤ixAt ix t then r=ixAt ix t∧L'=L
  else r=(L:Int)∧∃k e L1,T[L]? = some ((tyAt s t).ke k e) ∧
   (if (tyAt s t).kind=8 then PlF s ix T f (tyAt s t).key k (L+1) L1 else k=(tyAt s t).key∧L1=L+1) ∧
   (if compK (tyAt s t).kind then PlF s ix T f (tyAt s t).elem e L1 L' else e=(tyAt s t).elem∧L'=L1)
def PlMs (s:List TyD) (ix:List Int) (T:List TyD) (F:Nat):List MemD→List MemD→Nat→Nat→Prop
 | [],[],L,L'=>L'=L
 | m::ms,m'::ms',L,L'=>m'={ m with type:=m'.type }∧∃L1,PlF s ix T F m.type m'.type L L1∧PlMs s ix T F ms ms' L1 L'
 | _,_,_,_=>False
def PlTs (s:List TyD) (ix:List Int) (T:List TyD) (F:Nat):List TyD→List TyD→Nat→Nat→Prop
 | [],[],L,L'=>L'=L
 | x::xs,y::ys,L,L'=>y={ x with mems:=y.mems }∧∃L1,PlMs s ix T F x.mems y.mems L L1∧PlTs s ix T F xs ys L1 L'
 | _,_,_,_=>False
section
variable {s:List TyD} {ix:List Int}
theorem placeD_pl (hv:zJ s=0):∀ (f:Nat) (t:Int) (out:List TyD),(0≤t∧t<(s.length:Int))→finD s f t→Ext out (zY s ix f t out).2∧∀T,Agr T (zY s ix f t out).2 out.length (zY s ix f t out).2.length→PlF s ix T f t (zY s ix f t out).1 out.length (zY s ix f t out).2.length
 | 0,_,_,_,h=>h.elim
 | f+1,t,out,hr,hf=>by
  unfold zY
  by_cases hi:0≤ixAt ix t
  ·rw[if_pos hi]
   refine ⟨Ext.refl _,fun T _=>?_⟩
   unfold PlF;rw[if_pos hi];exact ⟨rfl,rfl⟩
  rw[if_neg hi];simp only;have h1:∃R1:Int×List TyD,(if (tyAt s t).kind=8 then zY s ix f (tyAt s t).key (out++[tyAt s t]) else ((tyAt s t).key,out++[tyAt s t]))=R1∧Ext (out++[tyAt s t]) R1.2 ∧
    ∀T,Agr T R1.2 (out.length+1) R1.2.length→(if (tyAt s t).kind=8 then PlF s ix T f (tyAt s t).key R1.1 (out.length+1) R1.2.length else R1.1=(tyAt s t).key∧R1.2.length=out.length+1):=by
   refine ⟨_,rfl,?_⟩;have hl:(out++[tyAt s t]).length=out.length+1:=by simp
   by_cases h8:(tyAt s t).kind=8
   ·simp only[if_pos h8]
    obtain ⟨k1,k2⟩:=key_rng hv hr h8;have hfk:finD s f (tyAt s t).key:=by
     have hfe:=hf (.inr (.inl h8))
     cases f with
     | zero=>exact hfe.elim
     | succ f=>exact fun hc=>absurd hc (not_comp4 k2)
    have:=placeD_pl hv f (tyAt s t).key (out++[tyAt s t]) k1 hfk;rw[hl] at this;exact this
   ·simp only[if_neg h8]
    exact ⟨Ext.refl _,fun _ _=>⟨by trivial,hl⟩⟩
  obtain ⟨R1,e1,x1,p1⟩:=h1;rw[e1];have h2:∃R2:Int×List TyD,(if compK (tyAt s t).kind then zY s ix f (tyAt s t).elem R1.2 else ((tyAt s t).elem,R1.2))=R2∧Ext R1.2 R2.2 ∧
    ∀T,Agr T R2.2 R1.2.length R2.2.length→(if compK (tyAt s t).kind then PlF s ix T f (tyAt s t).elem R2.1 R1.2.length R2.2.length else R2.1=(tyAt s t).elem∧R2.2.length=R1.2.length):=by
   refine ⟨_,rfl,?_⟩
   by_cases hc:compK (tyAt s t).kind
   ·simp only[if_pos hc]
    exact placeD_pl hv f (tyAt s t).elem R1.2 (yP hv hr hc) (hf hc)
   ·simp only[if_neg hc]
    exact ⟨Ext.refl _,fun _ _=>⟨by trivial,by trivial⟩⟩
  obtain ⟨R2,e2,x2,p2⟩:=h2;rw[e2];have hl1:out.length+1≤R1.2.length:=by have:=x1.1;simpa using this
  have hl2:=x2.1;have hx:Ext out R2.2:=((Ext.snoc out _).trans x1).trans x2;refine ⟨hx.set (Nat.le_refl _) _,fun T hT=>?_⟩
  rw[List.length_set] at hT ⊢;unfold PlF;rw[if_neg hi];have hT':∀j,out.length+1≤j→j<R2.2.length→T[j]? = R2.2[j]? := fun j a b=>by
   rw[hT j (by omega) b,List.getElem?_set_ne (by omega)]
  refine ⟨rfl,R1.1,R2.1,R1.2.length,?_,p1 T fun j a b=>?_,p2 T fun j a b=>hT' j (by omega) b⟩
  ·rw[hT out.length (Nat.le_refl _) (by omega),List.getElem?_set_self (by omega)]
  ·rw[hT' j a (by omega),x2.2 j b]
theorem placeMs_acc (ms:List MemD):∀ (a:List MemD) (out:List TyD),ms.foldl (fun a m=>(a.1++[{ m with type:=(zY s ix (s.length+1) m.type a.2).1 }],(zY s ix (s.length+1) m.type a.2).2)) (a,out)=(a++(yB s ix ms out).1,(yB s ix ms out).2):=by
 induction ms with
 | nil=>intro a out;simp[yB]
 | cons m ms ih =>
  intro a out
  unfold yB;rw[List.foldl_cons,List.foldl_cons,ih,ih];simp
theorem placeMs_cons (m:MemD) (ms:List MemD) (out:List TyD):yB s ix (m::ms) out =
  ({ m with type:=(zY s ix (s.length+1) m.type out).1 }::(yB s ix ms (zY s ix (s.length+1) m.type out).2).1,(yB s ix ms (zY s ix (s.length+1) m.type out).2).2):=by
 have:=placeMs_acc (s:=s) (ix:=ix) ms [{ m with type:=(zY s ix (s.length+1) m.type out).1 }] (zY s ix (s.length+1) m.type out).2
 rw[show yB s ix (m::ms) out=_ from rfl];unfold yB at this ⊢;rw[List.foldl_cons]
 simpa using this
theorem placeMs_pl (hv:zJ s=0):∀ (ms:List MemD) (out:List TyD),(∀m∈ms,(0≤m.type∧m.type<(s.length:Int))∧finD s (s.length+1) m.type)→Ext out (yB s ix ms out).2∧∀T,Agr T (yB s ix ms out).2 out.length (yB s ix ms out).2.length→PlMs s ix T (s.length+1) ms (yB s ix ms out).1 out.length (yB s ix ms out).2.length
 | [],out,_=>⟨Ext.refl _,fun _ _=>by show PlMs s ix _ _ [] [] out.length out.length;unfold PlMs;rfl⟩
 | m::ms,out,h=>by
  obtain ⟨h1,h2⟩:=h m List.mem_cons_self;obtain ⟨x1,p1⟩:=placeD_pl (ix:=ix) hv (s.length+1) m.type out h1 h2;obtain ⟨x2,p2⟩:=placeMs_pl hv ms (zY s ix (s.length+1) m.type out).2 fun m' hm=>h m' (List.mem_cons_of_mem _ hm)
  rw[placeMs_cons];refine ⟨x1.trans x2,fun T hT=>?_⟩
  unfold PlMs;refine ⟨rfl,_,p1 T fun j a b=>?_,p2 T fun j a b=>hT j (Nat.le_trans x1.1 a) b⟩
  have hT:∀j,out.length≤j→j<(yB s ix ms (zY s ix (s.length+1) m.type out).2).2.length→T[j]? = (yB s ix ms (zY s ix (s.length+1) m.type out).2).2[j]? := hT;rw[hT j a (Nat.lt_of_lt_of_le b x2.1),x2.2 j b]
theorem PlTs.snoc {T:List TyD} {F:Nat} {x y:TyD} {L1 L2:Nat} (hy:y={ x with mems:=y.mems }) (hm:PlMs s ix T F x.mems y.mems L1 L2):∀ (xs ys:List TyD) (L:Nat),PlTs s ix T F xs ys L L1→PlTs s ix T F (xs++[x]) (ys++[y]) L L2
 | [],[],L,h=>by
  unfold PlTs at h;subst h
  show PlTs s ix T F [x] [y] L1 L2
  unfold PlTs;exact ⟨hy,L2,hm,by unfold PlTs;rfl⟩
 | [],_::_,_,h=>by unfold PlTs at h;exact h.elim
 | _::_,[],_,h=>by unfold PlTs at h;exact h.elim
 | a::xs,b::ys,L,h=>by
  unfold PlTs at h;obtain ⟨h1,L0,h2,h3⟩:=h
  show PlTs s ix T F (a::(xs++[x])) (b::(ys++[y])) L L2
  unfold PlTs;exact ⟨h1,L0,h2,PlTs.snoc hy hm xs ys L0 h3⟩
structure TInv (s:List TyD) (ix:List Int) (N:List TyD) (i:Nat) (a:List TyD):Prop where
 len:N.length≤a.length
 rest:∀j,i≤j→j<N.length→a[j]? = N[j]?
 pl:∀T,Agr T a N.length a.length→PlTs s ix T (s.length+1) (N.take i) (a.take i) N.length a.length
theorem tInv (hv:zJ s=0) (N:List TyD) (h:∀x∈N,∀m∈x.mems,(0≤m.type∧m.type<(s.length:Int))∧finD s (s.length+1) m.type):∀i,i≤N.length→TInv s ix N i (t2D s ix N i)
 | 0,_=>⟨Nat.le_refl _,fun _ _ _=>rfl,fun T _=>by rw[List.take_zero,List.take_zero];show PlTs s ix T _ [] [] N.length N.length;unfold PlTs;rfl⟩
 | i+1,hi=>by
  have ih:=tInv hv N h i (by omega)
  rw[t2D_succ];generalize t2D s ix N i=a at *;have hai:a[i]? = some N[i]:=by rw[ih.rest i (Nat.le_refl _) hi,zl (by omega)]
  have hg:a.getD i zeroT=N[i]:=by rw[List.getD_eq_getElem?_getD,hai];rfl
  rw[hg];obtain ⟨x1,p1⟩:=placeMs_pl (ix:=ix) hv N[i].mems a (h _ (List.getElem_mem _));generalize yB s ix N[i].mems a=R at *;have hl:=ih.len;have hx:=x1.1;refine ⟨by rw[List.length_set];omega,fun j hj hn=>?_,fun T hT=>?_⟩
  ·rw[List.getElem?_set_ne (by omega),x1.2 j (by omega),ih.rest j (by omega) hn]
  ·rw[List.length_set] at hT ⊢
   have hT':∀j,N.length≤j→j<R.2.length→T[j]? = R.2[j]? := fun j a b=>by rw[hT j a b,List.getElem?_set_ne (by omega)]
   have h1:=ih.pl T fun j c d=>by rw[hT' j c (by omega),x1.2 j d]
   have h2:=p1 T fun j c d=>hT' j (by omega) d
   have e1:N.take (i+1)=N.take i++[N[i]]:=List.take_succ_eq_append_getElem (by omega)
   have e2:(R.2.set i { N[i] with mems:=R.1 }).take (i+1)=a.take i++[{ N[i] with mems:=R.1 }]:=by
    apply List.ext_getElem?
    intro j
    by_cases hj:j<i
    ·rw[List.getElem?_take_of_lt (by omega),List.getElem?_set_ne (by omega),List.getElem?_append_left (by rw[List.length_take];omega),List.getElem?_take_of_lt hj,x1.2 j (by omega)]
    ·by_cases hj2:j=i
     ·subst hj2
      rw[List.getElem?_take_of_lt (by omega),List.getElem?_set_self (by omega),List.getElem?_append_right (by rw[List.length_take];omega)]
      rw[List.length_take,Nat.min_eq_left (by omega),Nat.sub_self];rfl
     ·rw[List.getElem?_eq_none (by rw[List.length_take,List.length_set];omega),List.getElem?_eq_none (by rw[List.length_append,List.length_take,List.length_singleton];omega)]
   rw[e1,e2];exact PlTs.snoc rfl h2 _ _ _ h1
end
def nmd (l:List TyD):List TyD:=l.filter fun x=>zL x.kind
theorem nmd_pos {x:TyD} (h:zL x.kind=true) (l:List TyD):nmd (x::l)=x::nmd l:=by unfold nmd;exact List.filter_cons_of_pos (p:=fun y:TyD=>zL y.kind) h
theorem nmd_neg {x:TyD} (h:¬ zL x.kind=true) (l:List TyD):nmd (x::l)=nmd l:=by unfold nmd;exact List.filter_cons_of_neg (p:=fun y:TyD=>zL y.kind) h
theorem nmd_app (l m:List TyD):nmd (l++m)=nmd l++nmd m:=List.filter_append ..
section
variable {s:List TyD}
theorem tyAt_get {t:Nat} (h:t<s.length):tyAt s (t:Int)=s[t]:=by unfold tyAt;rw[List.getD_eq_getElem?_getD,Int.toNat_natCast,zl h];rfl
theorem t1D_is:∀k,k≤s.length→(t1D s k).2=nmd (s.take k)∧∀t,(h:t<k)→(h':t<s.length)→(t1D s k).1[t]? = some (if zL (s[t]).kind then ((nmd (s.take t)).length:Int) else -1)
 | 0,_=>⟨by rw[t1D_zero];rfl,fun t h=>absurd h (by omega)⟩
 | k+1,hk=>by
  obtain ⟨h1,h2⟩:=t1D_is k (by omega)
  have hl:=(t1D_len (s:=s) k).1;have e:nmd (s.take (k+1))=if zL (s[k]).kind then nmd (s.take k)++[s[k]] else nmd (s.take k):=by
   rw[List.take_succ_eq_append_getElem (by omega),nmd_app]
   by_cases hn:zL (s[k]).kind=true
   ·rw[if_pos hn,nmd_pos hn];rfl
   ·rw[if_neg hn,nmd_neg hn];exact List.append_nil _
  rw[t1D_succ,tyAt_get (by omega),e]
  by_cases hn:zL (s[k]).kind=true
  ·rw[if_pos hn,if_pos hn]
   refine ⟨by simp only[h1],fun t ht h'=>?_⟩
   simp only
   by_cases htk:t=k
   ·subst htk
    rw[List.getElem?_set_self (by omega),if_pos hn,h1]
   ·rw[List.getElem?_set_ne (by omega)]
    exact h2 t (by omega) h'
  ·rw[if_neg hn,if_neg hn]
   refine ⟨h1,fun t ht h'=>?_⟩
   by_cases htk:t=k
   ·subst htk
    rw[t1D_late t t (Nat.le_refl _) h',if_neg hn]
   ·exact h2 t (by omega) h'
theorem named_list:(t1D s s.length).2=nmd s:=by rw[(t1D_is s.length (Nat.le_refl _)).1,List.take_length]
theorem named_ix {t:Int} (hr:0≤t∧t<(s.length:Int)):ixAt (t1D s s.length).1 t=if zL (tyAt s t).kind then ((nmd (s.take t.toNat)).length:Int) else -1:=by
 obtain ⟨n,rfl⟩:∃n:Nat,t=n:=⟨t.toNat,by omega⟩
 have hl:n<s.length:=by omega
 unfold ixAt;rw[Int.toNat_natCast,List.getD_eq_getElem?_getD,(t1D_is s.length (Nat.le_refl _)).2 n hl hl,tyAt_get hl]
 rfl
theorem named_ge {t:Int} (hr:0≤t∧t<(s.length:Int)):0≤ixAt (t1D s s.length).1 t↔zL (tyAt s t).kind=true:=by
 rw[named_ix hr]
 split
 ·rename_i h;exact ⟨fun _=>h,fun _=>by omega⟩
 ·rename_i h;exact ⟨fun h=>absurd h (by decide),fun k=>absurd k h⟩
theorem nmd_at {t:Nat} (h:t<s.length) (hn:zL (s[t]).kind=true):(nmd s)[(nmd (s.take t)).length]? = some s[t]:=by
 have e:nmd s=nmd (s.take t)++(s[t]::nmd (s.drop (t+1))):=by
  conv=>lhs;rw[←List.take_append_drop t s]
  rw[nmd_app,List.drop_eq_getElem_cons h,nmd_pos hn]
 rw[e,List.getElem?_append_right (Nat.le_refl _),Nat.sub_self];rfl
theorem nmd_ex {l:List TyD}:∀ {i:Nat} (h:i<(nmd l).length),∃t,∃h':t<l.length,zL (l[t]).kind=true∧l[t]=(nmd l)[i]∧(nmd (l.take t)).length=i:=by
 induction l with
 | nil=>intro i h;cases h
 | cons x l ih =>
  intro i h
  by_cases hx:zL x.kind=true
  ·have e:nmd (x::l)=x::nmd l:=nmd_pos hx _
   cases i with
   | zero =>
    refine ⟨0,by simp,hx,?_,by simp[nmd]⟩
    simp only[e,List.getElem_cons_zero]
   | succ i =>
    obtain ⟨t,h',h1,h2,h3⟩:=ih (i:=i) (by rw[e] at h;simpa using h)
    refine ⟨t+1,by simpa using h',by simpa using h1,?_,?_⟩
    ·simp only[e,List.getElem_cons_succ,h2]
    ·rw[List.take_succ_cons,show nmd (x::l.take t)=x::nmd (l.take t) from nmd_pos hx _,List.length_cons,h3]
  ·have e:nmd (x::l)=nmd l:=nmd_neg hx _
   obtain ⟨t,h',h1,h2,h3⟩:=ih (i:=i) (by rw[e] at h;exact h)
   refine ⟨t+1,by simpa using h',by simpa using h1,?_,?_⟩
   ·simp only[e,List.getElem_cons_succ,h2]
   ·rw[List.take_succ_cons,show nmd (x::l.take t)=nmd (l.take t) from nmd_neg hx _,h3]
end
section
variable {s:List TyD} {ix:List Int} {T:List TyD}
theorem PlF.le:∀ {f:Nat} {t r:Int} {L L':Nat},PlF s ix T f t r L L'→L≤L'
 | 0,_,_,_,_,h=>by unfold PlF at h;exact h.elim
 | f+1,t,r,L,L',h=>by
  unfold PlF at h
  split at h
  ·omega
  obtain ⟨_,k,e,L1,_,h2,h3⟩:=h;have:L+1≤L1:=by
   split at h2
   ·exact PlF.le h2
   ·omega
  split at h3
  ·have:=PlF.le h3;omega
  ·omega
theorem PlMs.le {F:Nat}:∀ {ms ms':List MemD} {L L':Nat},PlMs s ix T F ms ms' L L'→L≤L'
 | [],[],_,_,h=>by unfold PlMs at h;omega
 | _::_,_::_,_,_,h=>by
  unfold PlMs at h;obtain ⟨_,L1,h1,h2⟩:=h;have:=h1.le;have:=PlMs.le h2
  omega
 | [],_::_,_,_,h=>by unfold PlMs at h;exact h.elim
 | _::_,[],_,_,h=>by unfold PlMs at h;exact h.elim
def Lies (s:List TyD) (ix:List Int) (T:List TyD) (t r:Int):Prop:=(0≤t∧t<(s.length:Int))∧∃f L L',PlF s ix T f t r L L'
def LiesM (s:List TyD) (ix:List Int) (T:List TyD):List MemD→List MemD→Prop
 | [],[]=>True
 | m::ms,m'::ms'=>m'={ m with type:=m'.type }∧Lies s ix T m.type m'.type∧LiesM s ix T ms ms'
 | _,_=>False
theorem PlMs.lies {F:Nat}:∀ {ms ms':List MemD} {L L':Nat},(∀m∈ms,0≤m.type∧m.type<(s.length:Int))→PlMs s ix T F ms ms' L L'→LiesM s ix T ms ms'
 | [],[],_,_,_,_=>by unfold LiesM;trivial
 | m::ms,m'::ms',_,_,hr,h=>by
  unfold PlMs at h;obtain ⟨h0,L1,h1,h2⟩:=h;unfold LiesM;exact ⟨h0,⟨hr _ List.mem_cons_self,_,_,_,h1⟩,PlMs.lies (fun m hm=>hr m (List.mem_cons_of_mem _ hm)) h2⟩
 | [],_::_,_,_,_,h=>by unfold PlMs at h;exact h.elim
 | _::_,[],_,_,_,h=>by unfold PlMs at h;exact h.elim
theorem PlF.cover (hv:zJ s=0):∀ {f:Nat} {t r:Int} {L L':Nat},(0≤t∧t<(s.length:Int))→PlF s ix T f t r L L'→∀j,L≤j→j<L'→∃t',¬ 0≤ixAt ix t'∧Lies s ix T t' (j:Int)
 | 0,_,_,_,_,_,h,_,_,_=>by unfold PlF at h;exact h.elim
 | f+1,t,r,L,L',hr,h,j,hj,hj'=>by
  have h0:=h;unfold PlF at h
  split at h
  ·omega
  rename_i hi
  obtain ⟨e0,k,e,L1,h1,h2,h3⟩:=h
  by_cases hjL:j=L
  ·subst hjL
   exact ⟨t,hi,hr,f+1,j,L',e0▸h0⟩
  by_cases hj1:j<L1
  ·split at h2
   ·rename_i h8
    exact PlF.cover hv (key_rng hv hr h8).1 h2 j (by omega) hj1
   ·omega
  ·split at h3
   ·rename_i hc
    exact PlF.cover hv (yP hv hr hc) h3 j (by omega) hj'
   ·omega
theorem PlMs.cover (hv:zJ s=0) {F:Nat}:∀ {ms ms':List MemD} {L L':Nat},(∀m∈ms,0≤m.type∧m.type<(s.length:Int))→PlMs s ix T F ms ms' L L'→∀j,L≤j→j<L'→∃t',¬ 0≤ixAt ix t'∧Lies s ix T t' (j:Int)
 | [],[],_,_,_,h,j,_,_=>by unfold PlMs at h;omega
 | m::ms,m'::ms',L,L',hr,h,j,hj,hj'=>by
  unfold PlMs at h;obtain ⟨_,L1,h1,h2⟩:=h
  by_cases hl:j<L1
  ·exact h1.cover hv (hr _ List.mem_cons_self) j hj hl
  ·exact PlMs.cover hv (fun m hm=>hr m (List.mem_cons_of_mem _ hm)) h2 j (by omega) hj'
 | [],_::_,_,_,_,h,_,_,_=>by unfold PlMs at h;exact h.elim
 | _::_,[],_,_,_,h,_,_,_=>by unfold PlMs at h;exact h.elim
theorem PlTs.cover (hv:zJ s=0) {F:Nat}:∀ {xs ys:List TyD} {L L':Nat},(∀x∈xs,∀m∈x.mems,0≤m.type∧m.type<(s.length:Int))→PlTs s ix T F xs ys L L'→∀j,L≤j→j<L'→∃t',¬ 0≤ixAt ix t'∧Lies s ix T t' (j:Int)
 | [],[],_,_,_,h,j,_,_=>by unfold PlTs at h;omega
 | x::xs,y::ys,L,L',hr,h,j,hj,hj'=>by
  unfold PlTs at h;obtain ⟨_,L1,h1,h2⟩:=h
  by_cases hl:j<L1
  ·exact h1.cover hv (hr _ List.mem_cons_self) j hj hl
  ·exact PlTs.cover hv (fun m hm=>hr m (List.mem_cons_of_mem _ hm)) h2 j (by omega) hj'
 | [],_::_,_,_,_,h,_,_,_=>by unfold PlTs at h;exact h.elim
 | _::_,[],_,_,_,h,_,_,_=>by unfold PlTs at h;exact h.elim
theorem PlTs.named {F:Nat}:∀ {xs ys:List TyD} {L L':Nat},(∀x∈xs,∀m∈x.mems,0≤m.type∧m.type<(s.length:Int))→PlTs s ix T F xs ys L L'→ys.length=xs.length∧∀i (h:i<xs.length) (h':i<ys.length),∃M,ys[i]={ xs[i] with mems:=M }∧LiesM s ix T xs[i].mems M
 | [],[],_,_,_,h=>⟨rfl,fun i h=>by cases h⟩
 | x::xs,y::ys,L,L',hr,h=>by
  unfold PlTs at h;obtain ⟨h0,L1,h1,h2⟩:=h;obtain ⟨k1,k2⟩:=PlTs.named (fun m hm=>hr m (List.mem_cons_of_mem _ hm)) h2
  refine ⟨by rw[List.length_cons,List.length_cons,k1],fun i hi hi'=>?_⟩
  cases i with
  | zero=>exact ⟨y.mems,h0,h1.lies (hr _ List.mem_cons_self)⟩
  | succ i=>simpa using k2 i (by simpa using hi) (by simpa using hi')
 | [],_::_,_,_,_,h=>by unfold PlTs at h;exact h.elim
 | _::_,[],_,_,_,h=>by unfold PlTs at h;exact h.elim
end
structure TidyS (s:List TyD) (ix:List Int) (T:List TyD):Prop where
 hv:zJ s=0
 nm:∀t,(0≤t∧t<(s.length:Int))→(0≤ixAt ix t↔zL (tyAt s t).kind=true)
 at_:∀t,(0≤t∧t<(s.length:Int))→zL (tyAt s t).kind=true→∃M,T[(ixAt ix t).toNat]? = some { tyAt s t with mems:=M }∧LiesM s ix T (tyAt s t).mems M
 cov:∀j:Nat,j<T.length→∃t,Lies s ix T t (j:Int)
 len:(nmd s).length≤T.length
 fst:∀i (h:i<(nmd s).length) (h':i<T.length),∃M,T[i]={ (nmd s)[i] with mems:=M }∧LiesM s ix T (nmd s)[i].mems M
 lst:∀j,(nmd s).length≤j→j<T.length→∃t,¬ 0≤ixAt ix t∧Lies s ix T t (j:Int)
 pl:PlTs s ix T (s.length+1) (nmd s) (T.take (nmd s).length) (nmd s).length T.length
theorem mems_none {s:List TyD} (hv:zJ s=0) {t:Int} (hr:0≤t∧t<(s.length:Int)) (hn:¬ zL (tyAt s t).kind=true):(tyAt s t).mems=[]:=by
 have h:=(valid_tys hv (tyAt_mem hr)).1;unfold formD at h;simp only[Bool.and_eq_true,decide_eq_true_eq] at h;rw[h.1.1.2];unfold zL at hn;simp only[Bool.or_eq_true,decide_eq_true_eq] at hn;unfold zV
 (repeat' split) <;> first|rfl|(exfalso;omega)
section
variable {s:List TyD} {ix:List Int} {T:List TyD}
theorem TidyS.view (h:TidyS s ix T) {t r:Int} (hl:Lies s ix T t r):(0≤r∧r<(T.length:Int))∧∃k e M,tyAt T r={ tyAt s t with mems:=M,key:=k,elem:=e }∧LiesM s ix T (tyAt s t).mems M ∧
  (if (tyAt s t).kind=8 then Lies s ix T (tyAt s t).key k else k=(tyAt s t).key)∧(if compK (tyAt s t).kind then Lies s ix T (tyAt s t).elem e else e=(tyAt s t).elem):=by
 obtain ⟨hr,f,L,L',hp⟩:=hl
 cases f with
 | zero=>unfold PlF at hp;exact hp.elim
 | succ f =>
 unfold PlF at hp
 by_cases hi:0≤ixAt ix t
 ·rw[if_pos hi] at hp
  obtain ⟨rfl,_⟩:=hp;have hn:=(h.nm t hr).1 hi;obtain ⟨M,h1,h2⟩:=h.at_ t hr hn;have hlt:=(List.getElem?_eq_some_iff.1 h1).1;refine ⟨⟨hi,by omega⟩,(tyAt s t).key,(tyAt s t).elem,M,?_,h2,?_,?_⟩
  ·unfold tyAt at h1 ⊢
   rw[List.getD_eq_getElem?_getD,h1];rfl
  ·rw[if_neg fun e=>named_comp hn (.inr (.inl e))]
  ·rw[if_neg (named_comp hn)]
 ·rw[if_neg hi] at hp
  obtain ⟨rfl,k,e,L1,h1,h2,h3⟩:=hp;have hn:¬ zL (tyAt s t).kind=true:=fun e=>hi ((h.nm t hr).2 e)
  have hm:=mems_none h.hv hr hn;have hlt:=(List.getElem?_eq_some_iff.1 h1).1;refine ⟨⟨by omega,by omega⟩,k,e,[],?_,?_,?_,?_⟩
  ·unfold tyAt at h1 hm ⊢
   rw[List.getD_eq_getElem?_getD,Int.toNat_natCast,h1]
   show TyD.ke _ _ _=_
   unfold TyD.ke;rw[hm]
  ·rw[hm];unfold LiesM;trivial
  ·split at h2
   ·rename_i h8;rw[if_pos h8];exact ⟨(key_rng h.hv hr h8).1,_,_,_,h2⟩
   ·rename_i h8;rw[if_neg h8];exact h2.1
  ·split at h3
   ·rename_i hc;rw[if_pos hc];exact ⟨yP h.hv hr hc,_,_,_,h3⟩
   ·rename_i hc;rw[if_neg hc];exact h3.1
end
theorem tidyS {s:List TyD} {d:Int} (hc:yN s d=0):TidyS s (t1D s s.length).1 (tidyL s):=by
 obtain ⟨hv,_,_,_⟩:=check_parts hc;have hN:∀x∈nmd s,∀m∈x.mems,(0≤m.type∧m.type<(s.length:Int))∧finD s (s.length+1) m.type:=fun x hx m hm=>by
  have hxs:x∈s:=(List.mem_filter.1 hx).1;exact ⟨(mem_rng hv hxs hm).2,check_fin hc hxs hm⟩
 have hI:=tInv (ix:=(t1D s s.length).1) hv (nmd s) hN (nmd s).length (Nat.le_refl _);rw[show t2D s (t1D s s.length).1 (nmd s) (nmd s).length=tidyL s by unfold tidyL;rw[named_list]] at hI
 generalize tidyL s=T at *;have hpl:=hI.pl T fun _ _ _=>rfl
 rw[List.take_length] at hpl;have hlen:=hI.len;obtain ⟨hl,hnm⟩:=hpl.named fun x hx m hm=>(hN x hx m hm).1
 have hfst:∀i (h:i<(nmd s).length) (h':i<T.length),∃M,T[i]={ (nmd s)[i] with mems:=M }∧LiesM s (t1D s s.length).1 T (nmd s)[i].mems M:=fun i h h'=>by
  have:=hnm i h (by rw[hl];exact h)
  rw[List.getElem_take] at this;exact this
 refine ⟨hv,fun t hr=>named_ge hr,fun t hr hn=>?_,fun j hj=>?_,hlen,hfst,fun j h1 h2=>?_,hpl⟩
 ·obtain ⟨n,rfl⟩:∃n:Nat,t=n:=⟨t.toNat,by omega⟩
  have hns:n<s.length:=by omega
  have e1:=named_ix hr;rw[if_pos hn] at e1;rw[tyAt_get hns] at hn ⊢;have e2:=nmd_at hns hn;rw[e1,Int.toNat_natCast,Int.toNat_natCast];generalize (nmd (s.take n)).length=i at *;have hi:=(List.getElem?_eq_some_iff.1 e2).1;obtain ⟨M,h1,h2⟩:=hfst i hi (by omega)
  rw[zl hi] at e2
  injection e2 with e2
  rw[e2] at h1 h2;exact ⟨M,by rw[zl (by omega),h1],h2⟩
 ·by_cases hjm:j<(nmd s).length
  ·obtain ⟨t,h',h1,h2,h3⟩:=nmd_ex hjm
   have hr:0≤(t:Int)∧(t:Int)<(s.length:Int):=⟨by omega,by omega⟩
   have e1:=named_ix hr;rw[tyAt_get h',if_pos h1,Int.toNat_natCast,h3] at e1;refine ⟨t,hr,1,0,0,?_⟩;unfold PlF;rw[if_pos (by omega)]
   exact ⟨e1.symm,rfl⟩
  ·obtain ⟨t,_,h⟩:=hpl.cover hv (fun x hx m hm=>(hN x hx m hm).1) j (by omega) hj
   exact ⟨t,h⟩
 ·exact hpl.cover hv (fun x hx m hm=>(hN x hx m hm).1) j h1 h2
section
variable {s:List TyD} {ix:List Int} {T:List TyD}
theorem take_set_self {l:List TyD} {L i:Nat} {y:TyD} (h:l[i]? = some y):(l.take L).set i y=l.take L:=by
 apply List.ext_getElem?
 intro j
 by_cases hj:j=i
 ·subst hj
  by_cases hl:j<(l.take L).length
  ·rw[List.getElem?_set_self hl,List.getElem?_take_of_lt (by rw[List.length_take] at hl;omega),h]
  ·rw[List.getElem?_eq_none (by rw[List.length_set];omega),List.getElem?_eq_none (by omega)]
 ·rw[List.getElem?_set_ne (fun e=>hj e.symm)]
theorem take_more {l:List TyD} {L:Nat} {y:TyD} (h:l[L]? = some y):l.take L++[y]=l.take (L+1):=by
 obtain ⟨h1,h2⟩:=List.getElem?_eq_some_iff.1 h;rw[List.take_succ_eq_append_getElem h1,h2]
theorem tyAt_some {l:List TyD} {L:Nat} {y:TyD} (h:l[L]? = some y):tyAt l (L:Int)=y:=by
 unfold tyAt;rw[List.getD_eq_getElem?_getD,Int.toNat_natCast,h];rfl
theorem TidyS.low (h:TidyS s ix T) {i:Nat} (hi:i<(nmd s).length) (h':i<T.length):zL (T[i]).kind=true:=by
 obtain ⟨M,e,_⟩:=h.fst i hi h';rw[e];exact (List.mem_filter.1 (List.getElem_mem hi)).2
theorem TidyS.high (h:TidyS s ix T) {j:Nat} (hj:(nmd s).length≤j) (h':j<T.length):¬ zL (T[j]).kind=true:=by
 obtain ⟨t,h1,h2⟩:=h.lst j hj h';obtain ⟨_,k,e,M,h3,_⟩:=h.view h2;rw[tyAt_get h'] at h3;rw[h3];exact fun hn=>h1 ((h.nm t h2.1).2 hn)
theorem TidyS.nmd_take (h:TidyS s ix T) {i:Nat} (hi:i≤(nmd s).length):nmd (T.take i)=T.take i:=by
 unfold nmd;rw[List.filter_eq_self]
 intro x hx
 obtain ⟨j,hj,rfl⟩:=List.getElem_of_mem hx;rw[List.length_take] at hj;rw[List.getElem_take];exact h.low (by omega) (by omega)
theorem TidyS.nmd (h:TidyS s ix T):nmd T=T.take (nmd s).length:=by
 conv=>lhs;rw[←List.take_append_drop (Go.Proofs.YtdfolgmcggdjdaaGreatDoor.nmd s).length T]
 rw[nmd_app,h.nmd_take (Nat.le_refl _)];have:Go.Proofs.YtdfolgmcggdjdaaGreatDoor.nmd (T.drop (Go.Proofs.YtdfolgmcggdjdaaGreatDoor.nmd s).length)=[]:=by
  refine List.filter_eq_nil_iff.2 fun x hx=>?_
  obtain ⟨j,hj,rfl⟩:=List.getElem_of_mem hx;rw[List.length_drop] at hj;rw[List.getElem_drop];exact h.high (Nat.le_add_right _ _) (by omega)
 rw[this,List.append_nil]
theorem TidyS.ixT (h:TidyS s ix T) {r:Nat} (hr:r<T.length):ixAt (t1D T T.length).1 (r:Int)=if r<(Go.Proofs.YtdfolgmcggdjdaaGreatDoor.nmd s).length then (r:Int) else -1:=by
 rw[named_ix ⟨by omega,by omega⟩,tyAt_get hr,Int.toNat_natCast]
 by_cases hm:r<(Go.Proofs.YtdfolgmcggdjdaaGreatDoor.nmd s).length
 ·rw[if_pos (h.low hm hr),if_pos hm,h.nmd_take (by omega),List.length_take,Nat.min_eq_left (by omega)]
 ·rw[if_neg (h.high (by omega) hr),if_neg hm]
theorem TidyS.place (h:TidyS s ix T):∀ (f g:Nat) (t r:Int) (L L':Nat),(0≤t∧t<(s.length:Int))→PlF s ix T f t r L L'→(Go.Proofs.YtdfolgmcggdjdaaGreatDoor.nmd s).length≤L→L'≤T.length→L' - L<g→zY T (t1D T T.length).1 g r (T.take L)=(r,T.take L')
 | 0,_,_,_,_,_,_,hp,_,_,_=>by unfold PlF at hp;exact hp.elim
 | _+1,0,_,_,_,_,_,_,_,_,hg=>by omega
 | f+1,g+1,t,r,L,L',hr,hp,hm,hl,hg=>by
  unfold PlF at hp;unfold zY
  by_cases hi:0≤ixAt ix t
  ·rw[if_pos hi] at hp
   obtain ⟨rfl,rfl⟩:=hp;have hn:=(h.nm t hr).1 hi;obtain ⟨M,h1,_⟩:=h.at_ t hr hn;obtain ⟨i,hi2⟩:∃i:Nat,ixAt ix t=i:=⟨(ixAt ix t).toNat,by omega⟩
   rw[hi2,Int.toNat_natCast] at h1;rw[hi2];obtain ⟨hlt,e⟩:=List.getElem?_eq_some_iff.1 h1;have him:i<(Go.Proofs.YtdfolgmcggdjdaaGreatDoor.nmd s).length:=by
    refine Nat.lt_of_not_le fun hle=>h.high hle hlt ?_
    rw[e];exact hn
   rw[h.ixT hlt,if_pos him,if_pos (by omega)]
  ·rw[if_neg hi] at hp
   obtain ⟨rfl,k,e,L1,h1,h2,h3⟩:=hp;have hlt:=(List.getElem?_eq_some_iff.1 h1).1;rw[h.ixT hlt,if_neg (by omega:¬ L<(Go.Proofs.YtdfolgmcggdjdaaGreatDoor.nmd s).length),if_neg (by decide),tyAt_some h1]
   simp only;rw[take_more h1];have hlL:(T.take L).length=L:=by rw[List.length_take];omega
   have e1:(if ((tyAt s t).ke k e).kind=8 then zY T (t1D T T.length).1 g ((tyAt s t).ke k e).key (T.take (L+1)) else (((tyAt s t).ke k e).key,T.take (L+1)))=(k,T.take L1)∧L+1≤L1∧L1≤L':=by
    have hle3:L1≤L':=by
     split at h3
     ·exact h3.le
     ·omega
    by_cases h8:(tyAt s t).kind=8
    ·rw[if_pos h8] at h2
     have:=h2.le;rw[if_pos (show ((tyAt s t).ke k e).kind=8 from h8)];exact ⟨h.place f g _ k (L+1) L1 (key_rng h.hv hr h8).1 h2 (by omega) (by omega) (by omega),by omega,by omega⟩
    ·rw[if_neg h8] at h2
     obtain ⟨rfl,rfl⟩:=h2;rw[if_neg (show ¬ ((tyAt s t).ke _ e).kind=8 from h8)];exact ⟨rfl,by omega,by omega⟩
   obtain ⟨e1,hL1,hL2⟩:=e1;rw[e1];have e2:(if compK ((tyAt s t).ke k e).kind then zY T (t1D T T.length).1 g ((tyAt s t).ke k e).elem (T.take L1) else (((tyAt s t).ke k e).elem,T.take L1))=(e,T.take L'):=by
    by_cases hc:compK (tyAt s t).kind
    ·rw[if_pos hc] at h3
     rw[if_pos (show compK ((tyAt s t).ke k e).kind from hc)];exact h.place f g _ e L1 L' (yP h.hv hr hc) h3 (by omega) hl (by omega)
    ·rw[if_neg hc] at h3
     obtain ⟨rfl,rfl⟩:=h3;rw[if_neg (show ¬ compK ((tyAt s t).ke k _).kind from hc)]
     rfl
   rw[e2,hlL];simp only;rw[take_set_self (show T[L]? = some (((tyAt s t).ke k e).ke k e) from h1)]
theorem TidyS.placeMs (h:TidyS s ix T) {F:Nat}:∀ (ms ms':List MemD) (L L':Nat),(∀m∈ms,0≤m.type∧m.type<(s.length:Int))→PlMs s ix T F ms ms' L L'→(Go.Proofs.YtdfolgmcggdjdaaGreatDoor.nmd s).length≤L→L'≤T.length→Go.Proofs.YtdfolgmcggdjdaaGreatDoor.yB T (t1D T T.length).1 ms' (T.take L)=(ms',T.take L')
 | [],[],L,L',_,hp,_,_=>by
  unfold PlMs at hp;subst hp;rfl
 | m::ms,m'::ms',L,L',hr,hp,hm,hl=>by
  unfold PlMs at hp;obtain ⟨_,L1,h1,h2⟩:=hp;have l1:=h1.le;have l2:=h2.le;rw[placeMs_cons,h.place F (T.length+1) m.type m'.type L L1 (hr _ List.mem_cons_self) h1 hm (by omega) (by omega)]
  simp only;rw[h.placeMs ms ms' L1 L' (fun m hm=>hr m (List.mem_cons_of_mem _ hm)) h2 (by omega) hl]
 | [],_::_,_,_,_,hp,_,_=>by unfold PlMs at hp;exact hp.elim
 | _::_,[],_,_,_,hp,_,_=>by unfold PlMs at hp;exact hp.elim
theorem TidyS.again (h:TidyS s ix T):tidyL T=T:=by
 unfold tidyL;rw[named_list,h.nmd];have hml:=h.len;have hr:∀x∈Go.Proofs.YtdfolgmcggdjdaaGreatDoor.nmd s,∀m∈x.mems,0≤m.type∧m.type<(s.length:Int):=fun x hx m hm=>(mem_rng h.hv (List.mem_filter.1 hx).1 hm).2
 have hlt:(T.take (Go.Proofs.YtdfolgmcggdjdaaGreatDoor.nmd s).length).length=(Go.Proofs.YtdfolgmcggdjdaaGreatDoor.nmd s).length:=by rw[List.length_take];omega
 have key:∀i,i≤(Go.Proofs.YtdfolgmcggdjdaaGreatDoor.nmd s).length→∃L,(Go.Proofs.YtdfolgmcggdjdaaGreatDoor.nmd s).length≤L∧L≤T.length∧t2D T (t1D T T.length).1 (T.take (Go.Proofs.YtdfolgmcggdjdaaGreatDoor.nmd s).length) i=T.take L ∧
   PlTs s ix T (s.length+1) ((Go.Proofs.YtdfolgmcggdjdaaGreatDoor.nmd s).drop i) ((T.take (Go.Proofs.YtdfolgmcggdjdaaGreatDoor.nmd s).length).drop i) L T.length:=by
  intro i
  induction i with
  | zero=>intro _;exact ⟨_,Nat.le_refl _,hml,rfl,h.pl⟩
  | succ i ih =>
   intro hi
   obtain ⟨L,k1,k2,k3,k4⟩:=ih (by omega)
   rw[List.drop_eq_getElem_cons (by omega:i<(Go.Proofs.YtdfolgmcggdjdaaGreatDoor.nmd s).length),List.drop_eq_getElem_cons (by omega:i<(T.take (Go.Proofs.YtdfolgmcggdjdaaGreatDoor.nmd s).length).length)] at k4
   unfold PlTs at k4;obtain ⟨_,L1,h1,h2⟩:=k4;have hl1:=h1.le;have hl2:L1≤T.length:=by
    have:∀ {xs ys:List TyD} {a b:Nat},PlTs s ix T (s.length+1) xs ys a b→a≤b:=by
     intro xs
     induction xs with
     | nil=>intro ys a b hp;cases ys with
      | nil=>unfold PlTs at hp;omega
      | cons=>unfold PlTs at hp;exact hp.elim
     | cons x xs ihx=>intro ys a b hp;cases ys with
      | nil=>unfold PlTs at hp;exact hp.elim
      | cons y ys =>
       unfold PlTs at hp;obtain ⟨_,c,p1,p2⟩:=hp;have:=p1.le;have:=ihx p2
       omega
    exact this h2
   rw[List.getElem_take] at h1;have hTi:i<T.length:=by omega
   refine ⟨L1,by omega,hl2,?_,h2⟩
   rw[t2D_succ,k3];have eg:(T.take L).getD i zeroT=T[i]:=by
    rw[List.getD_eq_getElem?_getD,List.getElem?_take_of_lt (by omega),zl hTi];rfl
   rw[eg,h.placeMs _ _ L L1 (hr _ (List.getElem_mem _)) h1 k1 hl2];exact take_set_self (zl hTi)
 obtain ⟨L,k1,k2,k3,k4⟩:=key _ (Nat.le_refl _);rw[List.drop_eq_nil_of_le (Nat.le_refl _),List.drop_eq_nil_of_le (by omega)] at k4
 unfold PlTs at k4;rw[hlt,k3,←k4,List.take_length]
end
section
variable {s:List TyD} {ix:List Int} {T:List TyD}
theorem valid_each (hv:zJ s=0) {i:Nat} (h:i<s.length):tyErr s ((s.take i).map (·.name)) s[i]=0:=by
 unfold zJ at hv
 split at hv
 ·cases hv
 ·simpa using tysErr_at s [] hv i h
theorem valid_name (hv:zJ s=0) {i:Nat} (h:i<s.length) (hn:(s[i]).name≠⟨#[]⟩):(s[i]).name ∉ (s.take i).map (·.name):=fun hm=>by
 have h1:=valid_each hv h;rw[tyErr_name hn (memD_iff.2 hm)] at h1
 cases h1
theorem name_none (hv:zJ s=0) {t:Int} (hr:0≤t∧t<(s.length:Int)) (hn:¬ zL (tyAt s t).kind=true):(tyAt s t).name=⟨#[]⟩:=by
 have h:=(valid_tys hv (tyAt_mem hr)).1;unfold formD at h;simp only[Bool.and_eq_true,decide_eq_true_eq] at h;rw[h.1.1.2];unfold zL at hn;simp only[Bool.or_eq_true,decide_eq_true_eq] at hn;unfold zV
 (repeat' split) <;> first|rfl|(exfalso;omega)
theorem LiesM.same:∀ {ms M:List MemD},LiesM s ix T ms M→M.map (fun m=>{ m with type:=0 })=ms.map (fun m:MemD=>{ m with type:=0 })
 | [],[],_=>rfl
 | m::ms,m'::ms',h=>by
  unfold LiesM at h;obtain ⟨h1,_,h3⟩:=h;rw[List.map_cons,List.map_cons,LiesM.same h3]
  congr 1
  rw[h1]
 | [],_::_,h=>by unfold LiesM at h;exact h.elim
 | _::_,[],h=>by unfold LiesM at h;exact h.elim
theorem LiesM.mem:∀ {ms M:List MemD},LiesM s ix T ms M→∀m'∈M,∃m∈ms,m'={ m with type:=m'.type }∧Lies s ix T m.type m'.type
 | [],[],_,_,h=>by cases h
 | m::ms,m'::ms',h,x,hx=>by
  unfold LiesM at h;obtain ⟨h1,h2,h3⟩:=h
  rcases List.mem_cons.1 hx with rfl|hx
  ·exact ⟨m,List.mem_cons_self,h1,h2⟩
  ·obtain ⟨y,hy,k⟩:=LiesM.mem h3 x hx
   exact ⟨y,List.mem_cons_of_mem _ hy,k⟩
 | [],_::_,h,_,_=>by unfold LiesM at h;exact h.elim
 | _::_,[],h,_,_=>by unfold LiesM at h;exact h.elim
theorem memsD_same {b:Bool} {ms M:List MemD} (h:M.map (fun m=>{ m with type:=0 })=ms.map (fun m:MemD=>{ m with type:=0 })):memsD b M=memsD b ms:=by
 have h1:∀l:List MemD,l.all (memOk b)=(l.map (fun m:MemD=>{ m with type:=0 })).all (memOk b):=fun l=>by rw[List.all_map];rfl
 have h2:∀l:List MemD,l.map (fun m:MemD=>(m.id,m.name))=(l.map (fun m:MemD=>{ m with type:=0 })).map fun m=>(m.id,m.name):=fun l=>by rw[List.map_map];rfl
 have h3:decide (M≠[])=decide (ms≠[]):=by
  have:=congrArg List.length h;rw[List.length_map,List.length_map] at this
  cases M <;> cases ms <;> simp_all
 unfold memsD;rw[h1 M,h1 ms,h2 M,h2 ms,h,h3]
theorem plain_same {x:TyD} {M:List MemD} {k e:Int} (hx:x=zV x) (hM:x.mems=[]→M=[]) (hk:x.kind≠8→k=x.key) (he:¬ compK x.kind→e=x.elem):({ x with mems:=M,key:=k,elem:=e }:TyD)=zV { x with mems:=M,key:=k,elem:=e }:=by
 obtain ⟨k0,n,lo,hi,mx,ss,ms,ky,el,op⟩:=x;unfold zV zeroT at hx ⊢;unfold compK at he;simp only at hx hM hk he ⊢
 by_cases h1:k0=1
 ·subst h1;simp_all
 rw[if_neg h1] at hx ⊢
 by_cases h2:k0=2
 ·subst h2;simp_all
 rw[if_neg h2] at hx ⊢
 by_cases h3:k0=3
 ·subst h3;simp_all
 rw[if_neg h3] at hx ⊢
 by_cases h4:k0=4
 ·subst h4;simp_all
 rw[if_neg h4] at hx ⊢
 by_cases h5:k0=5
 ·subst h5;simp_all
 rw[if_neg h5] at hx ⊢
 by_cases h6:k0=6
 ·subst h6;simp_all
 rw[if_neg h6] at hx ⊢
 by_cases h7:k0=7
 ·subst h7;simp_all
 rw[if_neg h7] at hx ⊢
 by_cases h8:k0=8
 ·subst h8;simp_all
 rw[if_neg h8] at hx ⊢
 simp_all
theorem form_same {x:TyD} {M:List MemD} {k e:Int} (hx:formD x=true) (hM:M.map (fun m=>{ m with type:=0 })=x.mems.map (fun m:MemD=>{ m with type:=0 })) (hk:x.kind≠8→k=x.key) (he:¬ compK x.kind→e=x.elem):formD { x with mems:=M,key:=k,elem:=e }=true:=by
 unfold formD at hx ⊢;simp only[Bool.and_eq_true,decide_eq_true_eq] at hx ⊢;obtain ⟨⟨⟨h1,h2⟩,h3⟩,h4⟩:=hx;refine ⟨⟨⟨h1,plain_same h2 (fun h=>?_) hk he⟩,h3⟩,?_⟩
 ·rw[h] at hM;simpa using hM
 ·rw[←h4]
  unfold caseD;simp only[memsD_same hM]
theorem TidyS.seen (h:TidyS s ix T) {j:Nat} (hj:j<(Go.Proofs.YtdfolgmcggdjdaaGreatDoor.nmd s).length):(T.take j).map (·.name)=((Go.Proofs.YtdfolgmcggdjdaaGreatDoor.nmd s).take j).map (·.name):=by
 have hl:=h.len
 apply List.ext_getElem
 ·rw[List.length_map,List.length_map,List.length_take,List.length_take];omega
 intro i h1 h2
 rw[List.length_map,List.length_take] at h1;rw[List.getElem_map,List.getElem_map,List.getElem_take,List.getElem_take];obtain ⟨M,e,_⟩:=h.fst i (by omega) (by omega)
 rw[e]
theorem nmd_pre {l:List TyD} (t:Nat):nmd (l.take t)=(nmd l).take (nmd (l.take t)).length:=by
 conv=>rhs;rw[show nmd l=nmd (l.take t)++nmd (l.drop t) by rw[←nmd_app,List.take_append_drop]]
 rw[List.take_left']
 rfl
theorem TidyS.valid (h:TidyS s ix T) (hl:T.length≤32):zJ T=0:=by
 refine valid_of hl fun j hj=>?_
 obtain ⟨t,hlie⟩:=h.cov j hj;obtain ⟨_,k,e,M,h1,h2,h3,h4⟩:=h.view hlie;have hr:=hlie.1;rw[tyAt_get hj] at h1;have hx:=(valid_tys h.hv (tyAt_mem hr)).1;have hk:(tyAt s t).kind≠8→k=(tyAt s t).key:=fun hn=>by rw[if_neg hn] at h3;exact h3
 have he:¬ compK (tyAt s t).kind→e=(tyAt s t).elem:=fun hn=>by rw[if_neg hn] at h4;exact h4
 rw[h1];refine tyErr_of (form_same hx h2.same hk he) (fun hn=>?_) (fun u hu=>?_) (fun h8=>?_)
 ·have hn:(tyAt s t).name≠⟨#[]⟩:=hn
  show (tyAt s t).name ∉ _
  have hnm:zL (tyAt s t).kind=true:=Classical.byContradiction fun hc=>hn (name_none h.hv hr hc)
  have hjm:j<(Go.Proofs.YtdfolgmcggdjdaaGreatDoor.nmd s).length:=by
   refine Nat.lt_of_not_le fun hle=>h.high hle hj ?_
   rw[h1];exact hnm
  rw[h.seen hjm];obtain ⟨i,hi,k1,k2,k3⟩:=nmd_ex hjm;have e1:=congrArg TyD.name h1;obtain ⟨M',e2,_⟩:=h.fst j hjm hj;have e3:=congrArg TyD.name e2;have e4:(tyAt s t).name=(s[i]).name:=by
   rw[k2];exact e1.symm.trans e3
  rw[e4] at hn ⊢;have:=valid_name h.hv hi hn
  intro hm
  apply this
  rw[←k3,←nmd_pre] at hm;obtain ⟨y,hy,ey⟩:=List.mem_map.1 hm;exact List.mem_map.2 ⟨y,(List.mem_filter.1 hy).1,ey⟩
 ·unfold toD usesD at hu
  rw[List.map_append] at hu
  rcases List.mem_append.1 hu with a|a
  ·rw[List.map_map] at a
   obtain ⟨m',hm',rfl⟩:=List.mem_map.1 a;obtain ⟨m,_,_,hlm⟩:=h2.mem m' hm';exact (h.view hlm).1
  ·simp only at a
   split at a
   ·rename_i h8
    rw[if_pos h8] at h3;rw[if_pos (.inr (.inl h8))] at h4;have:u=k∨u=e:=by simpa using a
    rcases this with rfl|rfl
    ·exact (h.view h3).1
    ·exact (h.view h4).1
   ·split at a
    ·rename_i h79
     rw[if_pos (by unfold compK;omega)] at h4
     have:u=e:=by simpa using a
     subst this;exact (h.view h4).1
    ·cases a
 ·have h8:(tyAt s t).kind=8:=h8
  rw[if_pos h8] at h3;obtain ⟨_,k',e',M',e2,_⟩:=h.view h3;have:=valid_key h.hv (tyAt_mem hr) h8
  show keyKind (tyAt T k).kind=true
  rw[e2];exact this
end
section
variable {s:List TyD} {ix:List Int} {T:List TyD}
theorem LiesM.len:∀ {ms M:List MemD},LiesM s ix T ms M→M.length=ms.length
 | [],[],_=>rfl
 | m::ms,m'::ms',h=>by
  unfold LiesM at h;rw[List.length_cons,List.length_cons,LiesM.len h.2.2]
 | [],_::_,h=>by unfold LiesM at h;exact h.elim
 | _::_,[],h=>by unfold LiesM at h;exact h.elim
theorem LiesM.all {f g:Int→Val→Bool} (hfg:∀t r v,Lies s ix T t r→f r v=g t v):∀ {ms M:List MemD} (l:List Val),LiesM s ix T ms M→((M.zip l).all fun p=>f p.1.type p.2)=(ms.zip l).all fun p=>g p.1.type p.2
 | [],[],_,_=>rfl
 | m::ms,m'::ms',[],_=>rfl
 | m::ms,m'::ms',v::l,h=>by
  unfold LiesM at h;rw[List.zip_cons_cons,List.zip_cons_cons,List.all_cons,List.all_cons,LiesM.all hfg l h.2.2,hfg _ _ v h.2.1]
 | [],_::_,_,h=>by unfold LiesM at h;exact h.elim
 | _::_,[],_,h=>by unfold LiesM at h;exact h.elim
theorem LiesM.texts {f g:Int→Val→ByteArray} (hfg:∀t r v,Lies s ix T t r→f r v=g t v):∀ {ms M:List MemD} (l:List Val),LiesM s ix T ms M→(M.zip l).map (memP f)=(ms.zip l).map (memP g)
 | [],[],_,_=>rfl
 | m::ms,m'::ms',[],_=>rfl
 | m::ms,m'::ms',v::l,h=>by
  unfold LiesM at h;rw[List.zip_cons_cons,List.zip_cons_cons,List.map_cons,List.map_cons,LiesM.texts hfg l h.2.2];unfold memP;simp only;rw[hfg _ _ v h.2.1,h.1]
 | [],_::_,_,h=>by unfold LiesM at h;exact h.elim
 | _::_,[],_,h=>by unfold LiesM at h;exact h.elim
theorem LiesM.find (d:Int):∀ {ms M:List MemD},LiesM s ix T ms M→(M.find? (fun m=>decide (m.id=d))=none∧ms.find? (fun m=>decide (m.id=d))=none)∨∃m m',M.find? (fun m=>decide (m.id=d))=some m'∧ms.find? (fun m=>decide (m.id=d))=some m∧m'.name=m.name∧Lies s ix T m.type m'.type
 | [],[],_ => .inl ⟨rfl,rfl⟩
 | m::ms,m'::ms',h=>by
  unfold LiesM at h;obtain ⟨h1,h2,h3⟩:=h;have hid:m'.id=m.id:=by rw[h1]
  by_cases hd:m.id=d
  ·refine .inr ⟨m,m',?_,?_,?_,h2⟩
   ·rw[List.find?_cons_of_pos (by simpa[hid] using hd)]
   ·rw[List.find?_cons_of_pos (by simpa using hd)]
   ·rw[h1]
  ·rw[List.find?_cons_of_neg (by simpa[hid] using hd),List.find?_cons_of_neg (by simpa using hd)]
   exact LiesM.find d h3
 | [],_::_,h=>by unfold LiesM at h;exact h.elim
 | _::_,[],h=>by unfold LiesM at h;exact h.elim
theorem raws_same {x y:TyD} (h:y.mems.map (fun m=>{ m with type:=0 })=x.mems.map (fun m:MemD=>{ m with type:=0 })):∀l,rawsD y l=rawsD x l
 | []=>rfl
 | a::r=>by
  have e:∀l:List MemD,(l.all fun m=>decide (m.id≠a.id))=(l.map (fun m:MemD=>{ m with type:=0 })).all fun m=>decide (m.id≠a.id):=fun l=>by rw[List.all_map];rfl
  unfold rawsD;rw[raws_same h r,e y.mems,e x.mems,h]
theorem TidyS.fit (h:TidyS s ix T) (pl:Bool):∀ (n:Nat) (t r:Int) (v:Val),Lies s ix T t r→fitF T pl n r v=fitF s pl n t v
 | 0,_,_,_,_=>rfl
 | n+1,t,r,v,hl=>by
  obtain ⟨hr,k,e,M,h1,h2,h3,h4⟩:=h.view hl;have ht:=hl.1;have ih:∀t r v,Lies s ix T t r→fitF T pl n r v=fitF s pl n t v:=fun t r v=>h.fit pl n t r v
  unfold fitF;rw[if_neg (show ¬ (r<0∨(T.length:Int)≤r) by omega),if_neg (show ¬ (t<0∨(s.length:Int)≤t) by omega),h1]
  generalize tyAt s t=x at *;simp only;generalize fitF T pl n=f at *;generalize fitF s pl n=g at *
  by_cases hk:v.kind≠x.kind∨zK v=false
  ·rw[if_pos hk,if_pos hk]
  rw[if_neg hk,if_neg hk];have hraw:rawsD { x with mems:=M,key:=k,elem:=e } v.rest=rawsD x v.rest:=raws_same h2.same _
  have hall:=h2.all ih v.items;have hfind:=h2.find v.id;have hlen:=h2.len;unfold fitB;simp only
  by_cases k2:x.kind=2
  ·rw[if_pos k2,if_pos k2]
  rw[if_neg k2,if_neg k2]
  by_cases k3:x.kind=3
  ·rw[if_pos k3,if_pos k3]
  rw[if_neg k3,if_neg k3]
  by_cases k4:x.kind=4
  ·rw[if_pos k4,if_pos k4]
  rw[if_neg k4,if_neg k4]
  by_cases k5:x.kind=5
  ·rw[if_pos k5,if_pos k5,hraw,hall,hlen]
  rw[if_neg k5,if_neg k5]
  by_cases k6:x.kind=6
  ·rw[if_pos k6,if_pos k6]
   rcases hfind with ⟨a,b⟩|⟨m,m',a,b,_,c⟩
   ·rw[a,b]
   ·rw[a,b]
    simp only[fun y=>ih _ _ y c]
  rw[if_neg k6,if_neg k6]
  by_cases k7:x.kind=7
  ·rw[if_pos k7,if_pos k7]
   rw[if_pos (.inl k7)] at h4;simp only[fun y=>ih _ _ y h4]
  rw[if_neg k7,if_neg k7]
  by_cases k8:x.kind=8
  ·rw[if_pos k8,if_pos k8]
   rw[if_pos k8] at h3;rw[if_pos (.inr (.inl k8))] at h4;simp only[fun y=>ih _ _ y h3,fun y=>ih _ _ y h4]
  rw[if_neg k8,if_neg k8]
  by_cases k9:x.kind=9
  ·rw[if_pos k9,if_pos k9]
   rw[if_pos (.inr (.inr k9))] at h4;simp only[fun y=>ih _ _ y h4]
  rw[if_neg k9,if_neg k9]
theorem TidyS.lit (h:TidyS s ix T):∀ (n:Nat) (t r:Int) (v:Val),Lies s ix T t r→litF T n r v=litF s n t v
 | 0,_,_,_,_=>rfl
 | n+1,t,r,v,hl=>by
  obtain ⟨hr,k,e,M,h1,h2,h3,h4⟩:=h.view hl;have ht:=yT h.hv hl.1;have ih:∀t r v,Lies s ix T t r→litF T n r v=litF s n t v:=fun t r v=>h.lit n t r v
  unfold litF;rw[h1];generalize tyAt s t=x at *;generalize litF T n=f at *;generalize litF s n=g at *;have hall:=h2.texts ih v.items;have hfind:=h2.find v.id;unfold litB;simp only
  by_cases k1:x.kind=1
  ·rw[if_pos k1,if_pos k1]
  rw[if_neg k1,if_neg k1]
  by_cases k2:x.kind=2
  ·rw[if_pos k2,if_pos k2]
  rw[if_neg k2,if_neg k2]
  by_cases k3:x.kind=3
  ·rw[if_pos k3,if_pos k3]
  rw[if_neg k3,if_neg k3]
  by_cases k4:x.kind=4
  ·rw[if_pos k4,if_pos k4]
  rw[if_neg k4,if_neg k4]
  by_cases k5:x.kind=5
  ·rw[if_pos k5,if_pos k5,hall]
  rw[if_neg k5,if_neg k5]
  by_cases k6:x.kind=6
  ·rw[if_pos k6,if_pos k6]
   rcases hfind with ⟨a,b⟩|⟨m,m',a,b,c1,c⟩
   ·rw[a,b]
   ·rw[a,b]
    simp only[fun y=>ih _ _ y c,c1]
  rw[if_neg k6,if_neg k6]
  by_cases k7:x.kind=7
  ·rw[if_pos k7,if_pos k7]
   rw[if_pos (.inl k7)] at h4;rw[show f e=g x.elem from funext fun y=>ih _ _ y h4]
  rw[if_neg k7,if_neg k7]
  by_cases k8:x.kind=8
  ·rw[if_pos k8,if_pos k8]
   rw[if_pos k8] at h3;rw[if_pos (.inr (.inl k8))] at h4;rw[show f e=g x.elem from funext fun y=>ih _ _ y h4,show f k=g x.key from funext fun y=>ih _ _ y h3]
  rw[if_neg k8,if_neg k8];rw[if_pos (by unfold compK;omega)] at h4
  rw[show f e=g x.elem from funext fun y=>ih _ _ y h4]
theorem TidyS.df (h:TidyS s ix T) {m m':MemD} (hm:m'={ m with type:=m'.type }) (hl:Lies s ix T m.type m'.type):dfT T m'=dfT s m∧fitV T true m'.type m'.dflt=fitV s true m.type m.dflt:=by
 have hd:m'.dflt=m.dflt:=by rw[hm]
 unfold dfT fitV litV;rw[hd,h.fit _ _ _ _ _ hl,h.fit _ _ _ _ _ hl,h.lit _ _ _ _ hl];exact ⟨rfl,rfl⟩
theorem TidyS.mem (h:TidyS s ix T) {y:TyD} (hy:y∈T):∃t,(0≤t∧t<(s.length:Int))∧(∃k e M,y={ tyAt s t with mems:=M,key:=k,elem:=e })∧∀m'∈y.mems,∃m∈(tyAt s t).mems,m'={ m with type:=m'.type }∧Lies s ix T m.type m'.type:=by
 obtain ⟨j,hj,rfl⟩:=List.getElem_of_mem hy;obtain ⟨t,hl⟩:=h.cov j hj;obtain ⟨_,k,e,M,h1,h2,_⟩:=h.view hl;rw[tyAt_get hj] at h1;refine ⟨t,hl.1,⟨k,e,M,h1⟩,fun m' hm=>?_⟩
 rw[h1] at hm;exact h2.mem m' hm
theorem TidyS.defs (h:TidyS s ix T) (hl:T.length≤32) (hd:defErr s=0):defErr T=0:=by
 have hv:=h.hv;unfold defErr at hd ⊢;rw[if_neg (by rw[h.valid hl];simp)]
 rw[if_neg (by rw[hv];simp)] at hd
 rw[if_neg]
 intro ha
 obtain ⟨y,hy,ha⟩:=List.any_eq_true.1 ha;obtain ⟨m',hm',ha⟩:=List.any_eq_true.1 ha;obtain ⟨t,ht,_,hms⟩:=h.mem hy;obtain ⟨m,hm,e,hlm⟩:=hms m' hm';have hh:m'.hasDef=m.hasDef:=by rw[e]
 rw[hh,(h.df e hlm).2] at ha;rw[if_pos] at hd
 ·cases hd
 ·exact List.any_eq_true.2 ⟨_,tyAt_mem ht,List.any_eq_true.2 ⟨m,hm,ha⟩⟩
theorem TidyS.chain (h:TidyS s ix T) {t r:Int} (hl:Lies s ix T t r):∀i,(∀j,j<i→compK (tyAt T (chn T r j)).kind)→Lies s ix T (chn s t i) (chn T r i)
 | 0,_=>hl
 | i+1,hc=>by
  have ih:=h.chain hl i fun j hj=>hc j (by omega)
  obtain ⟨_,k,e,M,h1,h2,h3,h4⟩:=h.view ih;have hci:=hc i (by omega)
  rw[h1] at hci;rw[if_pos hci] at h4
  show Lies s ix T (tyAt s (chn s t i)).elem (tyAt T (chn T r i)).elem
  rw[h1];exact h4
theorem TidyS.kind (h:TidyS s ix T) {t r:Int} (hl:Lies s ix T t r):(tyAt T r).kind=(tyAt s t).kind∧(tyAt T r).name=(tyAt s t).name:=by
 obtain ⟨_,k,e,M,h1,_⟩:=h.view hl;rw[h1];exact ⟨rfl,rfl⟩
theorem TidyS.words (h:TidyS s ix T) {t r:Int} (hl:Lies s ix T t r) (hw:WT T r):WT s t:=by
 obtain ⟨i,hc,hw⟩:=hw;refine ⟨i,fun j hj=>?_,?_⟩
 ·rw[←(h.kind (h.chain hl j fun j' hj'=>hc j' (by omega))).1]
  exact hc j hj
 ·have hli:=h.chain hl i hc
  obtain ⟨k1,k2⟩:=h.kind hli;unfold wAt keyW at hw ⊢;rw[k1,k2] at hw;refine hw.imp id fun ⟨a,b,c⟩=>⟨a,?_⟩
  obtain ⟨_,k,e,M,h1,_,h3,_⟩:=h.view hli;rw[if_pos a] at h3;have:=h.kind h3;rw[h1] at b c;have b:zL (tyAt T k).kind=true:=b;have c:wordD (tyAt T k).name=true:=c;rw[this.1] at b;rw[this.2] at c;exact ⟨b,c⟩
theorem TidyS.rings (h:TidyS s ix T) {t r:Int} (hl:Lies s ix T t r) (hc:CT T r):CT s t:=fun i=>by
 rw[←(h.kind (h.chain hl i fun j _=>hc j)).1]
 exact hc i
theorem TidyS.written (h:TidyS s ix T) (hl:T.length≤32) (hw:writtenD s (usesL s)=0):writtenD T (usesL T)=0:=by
 have hv:=h.hv;have hvT:=h.valid hl;obtain ⟨_,n1⟩:=visits_ok hv (usesL s) (yH s.length) (uses_rng hv) (VI.start s) (cntF_rep _);obtain ⟨_,n2⟩:=visits_ok hvT (usesL T) (yH T.length) (uses_rng hvT) (VI.start T) (cntF_rep _);have hex:∀u∈usesL T,∃t∈usesL s,Lies s ix T t u:=fun u hu=>by
  unfold usesL at hu;obtain ⟨y,hy,hm⟩:=List.mem_flatMap.1 hu;obtain ⟨m',hm',rfl⟩:=List.mem_map.1 hm;obtain ⟨t,ht,_,hms⟩:=h.mem hy;obtain ⟨m,hm,_,hlm⟩:=hms m' hm';exact ⟨m.type,List.mem_flatMap.2 ⟨_,tyAt_mem ht,List.mem_map.2 ⟨m,hm,rfl⟩⟩,hlm⟩
 unfold writtenD at hw ⊢;simp only at hw ⊢;generalize (usesL s).foldl (zU s (s.length+1)) (yH s.length)=v at *;generalize (usesL T).foldl (zU T (T.length+1)) (yH T.length)=v2 at *;have w1:v.word=false:=by
  cases e:v.word with
  | false=>rfl
  | true=>rw[e] at hw;simp at hw
 rw[w1] at hw;have c1:v.loop=false:=by
  cases e:v.loop with
  | false=>rfl
  | true=>rw[e] at hw;simp at hw
 rw[if_neg,if_neg]
 ·intro e
  rcases n2.c2 e with e|⟨u,hu,hc⟩
  ·cases e
  ·obtain ⟨t,ht,hlt⟩:=hex u hu
   rw[n1.c1 ⟨t,ht,h.rings hlt hc⟩] at c1
   cases c1
 ·intro e
  rcases n2.w2 e with e|⟨u,hu,hc⟩
  ·cases e
  ·obtain ⟨t,ht,hlt⟩:=hex u hu
   rw[n1.w1 ⟨t,ht,h.words hlt hc⟩] at w1
   cases w1
theorem TidyS.check (h:TidyS s ix T) (hl:T.length≤32) (hc:yN s (defErr s)=0):yN T (defErr T)=0:=by
 obtain ⟨hv,hd,hb,hw⟩:=check_parts hc;unfold yN;rw[h.valid hl,h.defs hl hd,h.written hl hw];have hb2:T.any badW=false:=by
  rw[List.any_eq_false] at hb ⊢
  intro y hy
  obtain ⟨t,ht,⟨k,e,M,e1⟩,_⟩:=h.mem hy;have:=hb _ (tyAt_mem ht);rw[e1];exact this
 rw[hb2];simp
end
section
variable {s:List TyD} {ix:List Int} {T:List TyD}
theorem TidyS.text (h:TidyS s ix T):∀ (f:Nat) (t r:Int),Lies s ix T t r→textD T f r=textD s f t
 | 0,_,_,_=>rfl
 | f+1,t,r,hl=>by
  obtain ⟨hr,k,e,M,h1,h2,h3,h4⟩:=h.view hl;have ih:∀t r,Lies s ix T t r→textD T f r=textD s f t:=fun t r=>h.text f t r
  unfold textD;rw[h1];generalize tyAt s t=x at *;generalize textD T f=p at *;generalize textD s f=q at *;simp only
  by_cases k1:x.kind=1
  ·rw[if_pos k1,if_pos k1]
  rw[if_neg k1,if_neg k1]
  by_cases k2:x.kind=2
  ·rw[if_pos k2,if_pos k2];rfl
  rw[if_neg k2,if_neg k2]
  by_cases k3:x.kind=3
  ·rw[if_pos k3,if_pos k3];rfl
  rw[if_neg k3,if_neg k3]
  by_cases k7:x.kind=7
  ·rw[if_pos k7,if_pos k7]
   rw[if_pos (.inl k7)] at h4;rw[ih _ _ h4];rfl
  rw[if_neg k7,if_neg k7]
  by_cases k8:x.kind=8
  ·rw[if_pos k8,if_pos k8]
   rw[if_pos k8] at h3;rw[if_pos (.inr (.inl k8))] at h4;rw[ih _ _ h4,ih _ _ h3];rfl
  rw[if_neg k8,if_neg k8]
  by_cases k9:x.kind=9
  ·rw[if_pos k9,if_pos k9]
   rw[if_pos (.inr (.inr k9))] at h4;rw[ih _ _ h4]
  rw[if_neg k9,if_neg k9]
theorem TidyS.finite (h:TidyS s ix T):∀ (f:Nat) (t r:Int),Lies s ix T t r→finD s f t→finD T f r
 | 0,_,_,_,hf=>hf
 | f+1,t,r,hl,hf=>fun hc=>by
  obtain ⟨hr,k,e,M,h1,h2,h3,h4⟩:=h.view hl;have hk:compK (tyAt s t).kind:=by rw[h1] at hc;exact hc
  rw[if_pos hk] at h4;rw[h1];exact h.finite f _ _ h4 (hf hk)
theorem TidyS.texts (h:TidyS s ix T) (hl:T.length≤32) {t r:Int} (hlie:Lies s ix T t r) (h1:finD s (s.length+1) t) (h2:finD T (T.length+1) r):textD T (T.length+1) r=textD s (s.length+1) t:=by
 have hv:=h.valid hl;have hr:=(h.view hlie).1;rw[←h.text (s.length+1) t r hlie];rw[text_use hv (T.length+1) [] r (T.length+1) hr (PathOk.nil T r) (by simp) h2,text_use hv (s.length+1) [] r (T.length+1) hr (PathOk.nil T r) (by simp) (h.finite _ _ _ hlie h1)]
theorem printT_fold (s:List TyD) (df:MemD→ByteArray):∀ (l:List TyD) (b:ByteArray),l.foldl (fun b x=>if zL x.kind then b++declT s df x else b) b=(nmd l).foldl (fun b x=>b++declT s df x) b
 | [],b=>rfl
 | x::l,b=>by
  by_cases hx:zL x.kind=true
  ·rw[List.foldl_cons,nmd_pos hx,List.foldl_cons,if_pos hx]
   exact printT_fold s df l _
  ·rw[List.foldl_cons,nmd_neg hx,if_neg hx]
   exact printT_fold s df l _
theorem fold_decl (f g:TyD→ByteArray):∀ (l m:List TyD) (b:ByteArray),l.length=m.length→(∀i (h:i<l.length) (h':i<m.length),f l[i]=g m[i])→l.foldl (fun b x=>b++f x) b=m.foldl (fun b x=>b++g x) b
 | [],[],b,_,_=>rfl
 | x::l,y::m,b,hl,h=>by
  have h0:=h 0 (by simp) (by simp)
  simp only[List.getElem_cons_zero] at h0;rw[List.foldl_cons,List.foldl_cons,h0];exact fold_decl f g l m _ (by simpa using hl) fun i a c=>h (i+1) (by simpa using a) (by simpa using c)
 | [],_::_,_,hl,_=>by simp at hl
 | _::_,[],_,hl,_=>by simp at hl
theorem LiesM.memT {df df':MemD→ByteArray} (hlist:∀m m':MemD,m'={ m with type:=m'.type }→Lies s ix T m.type m'.type→df' m'=df m):∀ {ms M:List MemD},LiesM s ix T ms M→(∀m∈ms,∀m'∈M,Lies s ix T m.type m'.type→textD T (T.length+1) m'.type=textD s (s.length+1) m.type)→M.map (memT T df')=ms.map (memT s df)
 | [],[],_,_=>rfl
 | m::ms,m'::ms',h,hx=>by
  unfold LiesM at h;obtain ⟨h1,h2,h3⟩:=h;rw[List.map_cons,List.map_cons,LiesM.memT hlist h3 fun a ha b hb=>hx a (List.mem_cons_of_mem _ ha) b (List.mem_cons_of_mem _ hb)]
  congr 1
  unfold Go.Proofs.YtdfolgmcggdjdaaGreatDoor.memT;rw[hlist m m' h1 h2,hx m List.mem_cons_self m' List.mem_cons_self h2,h1]
 | [],_::_,h,_=>by unfold LiesM at h;exact h.elim
 | _::_,[],h,_=>by unfold LiesM at h;exact h.elim
theorem TidyS.print (h:TidyS s ix T) (hl:T.length≤32) (hc:yN s (defErr s)=0):printT T (dfT T) T=printT s (dfT s) s:=by
 have hcT:=h.check hl hc;have hml:=h.len;unfold printT;rw[printT_fold,printT_fold,h.nmd];refine fold_decl _ _ _ _ _ (by rw[List.length_take];omega) fun i hi hi'=>?_
 rw[List.length_take] at hi;rw[List.getElem_take];have hiT:i<T.length:=by omega
 obtain ⟨M,e,hm⟩:=h.fst i hi' hiT;have hy:T[i]∈T:=List.getElem_mem hiT;have hx:(Go.Proofs.YtdfolgmcggdjdaaGreatDoor.nmd s)[i]∈s:=(List.mem_filter.1 (List.getElem_mem hi')).1;have hM:T[i].mems=M:=by rw[e]
 have key:M.map (memT T (dfT T))=((Go.Proofs.YtdfolgmcggdjdaaGreatDoor.nmd s)[i]).mems.map (memT s (dfT s)) :=
  hm.memT (fun m m' k1 k2=>(h.df k1 k2).1) fun m hmm m' hmm' hlie=>h.texts hl hlie (check_fin hc hx hmm) (check_fin hcT hy (hM▸hmm'))
 rw[e];unfold declT wordsT;simp only;rw[key]
theorem TidyS.num (h:TidyS s ix T) (hn:Num64 s):Num64 T:=fun y hy=>by
 obtain ⟨t,ht,⟨k,e,M,e1⟩,_⟩:=h.mem hy;have:=hn _ (tyAt_mem ht);rw[e1];exact this
theorem TidyS.sizes (h:TidyS s ix T) {b:Nat} (hb:∀t∈s,∀m∈t.mems,(dfT s m).size≤b):∀t∈T,∀m∈t.mems,(dfT T m).size≤b:=fun y hy m' hm'=>by
 obtain ⟨t,ht,_,hms⟩:=h.mem hy;obtain ⟨m,hm,e,hlm⟩:=hms m' hm';rw[(h.df e hlm).1];exact hb _ (tyAt_mem ht) m hm
end
theorem tidy_good {s:List TyD} (hc:yN s (defErr s)=0) (hl:(tidyL s).length≤32) (hn:Num64 s) :
  zJ (tidyL s)=0∧yN (tidyL s) (defErr (tidyL s))=0∧Num64 (tidyL s)∧printT (tidyL s) (dfT (tidyL s)) (tidyL s)=printT s (dfT s) s∧tidyL (tidyL s)=tidyL s ∧
  ∀b,(∀t∈s,∀m∈t.mems,(dfT s m).size≤b)→∀t∈tidyL s,∀m∈t.mems,(dfT (tidyL s) m).size≤b:=by
 have h:=tidyS hc;exact ⟨h.valid hl,h.check hl hc,h.num hn,h.print hl hc,h.again,fun b hb=>h.sizes hb⟩
theorem lens_sum:∀ (l:List ByteArray),Lib.lens (l.map (·.data.toList))=(l.map (·.size)).sum
 | []=>rfl
 | y::r=>by
  have h:=lens_sum r;unfold Lib.lens at h ⊢;rw[List.map_cons,List.map_cons,List.sum_cons,List.map_cons,List.sum_cons,h,Array.length_toList]
  rfl
theorem joinB_sum (l:List ByteArray):(joinB l sp1).size≤(l.map fun x=>x.size+1).sum:=by
 have hs:(l.map fun x=>x.size+1).sum=(l.map (·.size)).sum+l.length:=by
  induction l with
  | nil=>rfl
  | cons x l ih=>rw[List.map_cons,List.sum_cons,ih,List.map_cons,List.sum_cons,List.length_cons];omega
 rw[hs];unfold joinB
 show Array.size _≤_
 rw[List.size_toArray]
 cases l with
 | nil=>exact Nat.zero_le _
 | cons x l =>
  have h1:=lens_sum (x::l);rw[List.map_cons] at h1;rw[List.map_cons,Lib.join_length,List.length_map,h1]
  show 1 * l.length+_≤_
  rw[List.length_cons]
  omega
theorem sum_le {α:Type} (f:α→Nat) (b:Nat):∀ (l:List α),(∀x∈l,f x≤b)→(l.map f).sum≤l.length * b
 | [],_=>Nat.zero_le _
 | x::l,h=>by
  have h1:=h x List.mem_cons_self;have h2:=sum_le f b l fun y hy=>h y (List.mem_cons_of_mem _ hy)
  rw[List.map_cons,List.sum_cons,List.length_cons,Nat.succ_mul]
  omega
section
variable {s:List TyD}
theorem free_64 {n:Int} (h:freeD n=true):In64 n:=by
 unfold freeD at h;simp only[Bool.and_eq_true,decide_eq_true_eq] at h;unfold In64
 omega
theorem lit_flat (hv:zJ s=0) (hn:Num64 s) {t:Int} {v:Val} (hf:FlatV v):∀ (n:Nat),fitF s false n t v=true→(litF s n t v).size≤40
 | 0,_=>Nat.zero_le _
 | n+1,hfit=>by
  obtain ⟨f1,f2,f3,f4⟩:=hf;unfold fitF at hfit
  split at hfit
  ·cases hfit
  rename_i hr
  have hr:0≤t∧t<(s.length:Int):=by omega
  split at hfit
  ·cases hfit
  have hk:=yT hv hr;have hx:=tyAt_mem hr;have hnum:=hn _ hx;have hq:=quD_le v.str;unfold litF;have hsy:∀y∈(tyAt s t).syms,y.name.size≤24:=fun y hy=>(sym_rng hv hx hy).1.2
  have hme:∀m∈(tyAt s t).mems,m.name.size≤24:=fun m hm=>(mem_rng hv hx hm).1.2
  generalize tyAt s t=x at *;unfold fitB at hfit;unfold litB;rw[f2,f3,f4]
  split
  ·split
   ·show 4≤40;decide
   ·show 5≤40;decide
  split
  ·rename_i k2
   rw[if_pos k2] at hfit;simp only[Bool.and_eq_true,decide_eq_true_eq] at hfit;unfold In64 at hnum;have:=yE (n:=v.int) (by unfold In64;omega)
   omega
  rename_i k2
  rw[if_neg k2] at hfit
  split
  ·omega
  rename_i k3
  rw[if_neg k3] at hfit
  split
  ·rename_i k4
   rw[if_pos k4] at hfit
   cases h:x.syms.find? fun y=>decide (y.id=v.id) with
   | some y=>have:=hsy y (List.mem_of_find?_eq_some h);simp only;omega
   | none =>
    have ha:(x.syms.any fun y=>decide (y.id=v.id))=false:=by
     rw[List.any_eq_false];exact fun y hy=>List.find?_eq_none.1 h y hy
    rw[ha] at hfit;simp only[Bool.false_or,Bool.and_eq_true] at hfit;have:=yE (free_64 hfit.2);simp only[zG]
    show 1+_≤_
    omega
  rename_i k4
  rw[if_neg k4] at hfit
  split
  ·simp only[List.zip_nil_right,List.map_nil,List.append_nil,zG]
   decide
  rename_i k5
  rw[if_neg k5] at hfit
  split
  ·rename_i k6
   rw[if_pos k6] at hfit
   cases h:x.mems.find? fun m=>decide (m.id=v.id) with
   | some m =>
    have:=hme m (List.mem_of_find?_eq_some h);simp only[zG]
    show _+1+0+1≤_
    omega
   | none =>
    rw[h] at hfit;simp only[Bool.and_eq_true] at hfit;have:=yE (free_64 hfit.1.1.1.2);simp only[zG]
    show 1+_+1+0+1≤_
    omega
  split
  ·simp only[List.map_nil,zG]
   decide
  split
  ·simp only[List.length_nil,if_pos,List.zip_nil_right,List.map_nil,zG]
   decide
  ·show 4≤40;decide
theorem df_flat (hv:zJ s=0) (hn:Num64 s) {m:MemD} (hf:FlatV m.dflt):(dfT s m).size≤40:=by
 unfold dfT
 split
 ·rename_i h;exact lit_flat hv hn hf _ h
 ·exact Nat.zero_le _
theorem decl_flat (hv:zJ s=0) (hn:Num64 s) (h5:s.length≤5) {x:TyD} (hx:x∈s) (hkn:zL x.kind=true) {df:MemD→ByteArray} (hd:∀m∈x.mems,(df m).size≤40∧finD s (s.length+1) m.type):(declT s df x).size≤13000:=by
 have hm16:=mems_le hv hx;have hs16:x.syms.length≤16:=by
  cases h:x.syms with
  | nil=>simp
  | cons y r=>have:=(sym_rng hv hx (y:=y) (by rw[h];simp)).2;rwa [h] at this
 have hnl:x.name.size≤24:=by
  obtain ⟨i,hi,e⟩:=List.getElem_of_mem hx;have:=name_le hv (t:=(i:Int)) ⟨by omega,by omega⟩ (by rw[zP hi,e];exact hkn)
  rwa [zP hi,e] at this
 have hkw:=kindW_le x.kind;have h1:((x.syms.map symT).map fun u=>u.size+1).sum≤x.syms.length * 48:=by
  rw[List.map_map];refine sum_le _ 48 _ fun y hy=>?_
  have:=sym_rng hv hx hy;have:=symT_le (y:=y) (by have:=this.1.1;unfold In64;omega) this.1.2
  simp only[Function.comp]
  omega
 have h2:((x.mems.map (memT s df)).map fun u=>u.size+1).sum≤x.mems.length * 700:=by
  rw[List.map_map];refine sum_le _ 700 _ fun m hm=>?_
  have k0:=mem_rng hv hx hm;have k1:=yE (n:=m.id) (by have:=k0.1.1;unfold In64;omega)
  have k2:=text_le hv hn (s.length+1) m.type k0.2 (hd m hm).2;have k3:=(hd m hm).1;have k4:=k0.1.2;have k5:(if m.critical then (⟨#[33]⟩:ByteArray) else ⟨#[]⟩).size≤1:=by split <;> decide
  have k6:(if m.hasDef then (⟨#[32,61,32]⟩:ByteArray)++df m else ⟨#[]⟩).size≤43:=by
   split
   ·rw[zG];show 3+_≤_;omega
   ·show 0≤_;omega
  simp only[Function.comp];unfold memT;simp only[zG]
  show _+_+(1+_+2+_)+_+1+1≤_
  omega
 have h3:=joinB_sum (wordsT s df x);unfold declT;rw[zG]
 show _+1≤_
 have h4:((wordsT s df x).map fun u=>u.size+1).sum≤12100:=by
  unfold wordsT;simp only[List.map_append,List.sum_append,List.map_cons,List.map_nil,List.sum_cons,List.sum_nil];have h5:(((if x.open_ then [(⟨#[111,112,101,110]⟩:ByteArray)] else []).map fun u=>u.size+1).sum)≤5:=by split <;> decide
  have e1:(⟨#[123]⟩:ByteArray).size=1:=rfl;have e2:(⟨#[125,59]⟩:ByteArray).size=2:=rfl;rw[e1,e2];have:x.syms.length * 48≤16 * 48:=Nat.mul_le_mul_right _ hs16;have:x.mems.length * 700≤16 * 700:=Nat.mul_le_mul_right _ hm16
  omega
 omega
theorem draft_text (hn:Num64 s) (h5:s.length≤5) {d:Int} (hc:yN s d=0) (hd:∀t∈s,∀m∈t.mems,(dfT s m).size≤40):(printT s (dfT s) s).size≤65536:=by
 obtain ⟨hv,_,_,_⟩:=check_parts hc;have:=printT_le (s:=s) (df:=dfT s) (B:=13000) (fun x hx hk=>decl_flat hv hn h5 hx hk fun m hm=>⟨hd x hx m hm,check_fin hc hx hm⟩) s.length (Nat.le_refl _)
 rw[List.take_length] at this;have:s.length * 13000≤5 * 13000:=Nat.mul_le_mul_right _ h5
 omega
end
end Go.Proofs.YtdfolgmcggdjdaaGreatDoor


