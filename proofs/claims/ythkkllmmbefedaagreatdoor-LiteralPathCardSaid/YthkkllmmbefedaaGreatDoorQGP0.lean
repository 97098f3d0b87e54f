/-
  Walks: sheaveref08.Nodes.
-/
import Derived.Test.YthkkllmmbefedaaGreatDoorQGA9
import Derived.Test.YthkkllmmbefedaaGreatDoorQGA5
import Derived.Test.YthkkllmmbefedaaGreatDoorQGM1
import Derived.Test.YthkkllmmbefedaaGreatDoorQGA8
namespace Go.Proofs.YthkkllmmbefedaaGreatDoor
set_option maxHeartbeats 16000000
set_option maxRecDepth 100000
theorem RV (s:List Ae):∀ (a b:List Int) (t:Int) (v:Val),CO s t v (a++b)=(CO s t v a).bind fun q=>CO s q.2 q.1 b
 | [],b,t,v=>by rw[List.nil_append,show CO s t v []=some (v,t) by rw[CO]];rfl
 | p::r,b,t,v=>by
  rw[ABJ,CO,CO]
  cases Gn (AB s t) v p with
  | none=>rfl
  | some k =>
   obtain ⟨k,u⟩:=k;simp only
   cases v.items[k]? with
   | none=>rfl
   | some w=>exact RV s r b u w
variable {t:Int} {s:List Ae} {v:Val}
theorem lC (hv:zQ s=0) (hf:BH s false t v=true) {p:Int} {q:List Int} (h:(CO s t v (p::q)).isSome=true):
  ∃ (u:Int) (y:Val),CO s t v (p::q)=CO s u y q/\BH s false u y=true/\CO s t v [p]=some (y,u) /\
   (∀k:Nat,BD (fun m:AZ=>decide (m.id=p)) (AB s t).AA=(k:Int)->∀hk:k<(AB s t).AA.length,u=((AB s t).AA[k]).type)/\(BD (fun m:AZ=>decide (m.id=p)) (AB s t).AA<0->u=(AB s t).elem):=by
 have hl:=C8 (fun m:AZ=>decide (m.id=p)) (AB s t).AA
 by_cases h5:(AB s t).kind=5
 ·obtain ⟨g1,g2,g3⟩:=F7 hf h5 p q
  obtain ⟨_,_,g6⟩:=F7 hf h5 p []
  by_cases hi:BD (fun m:AZ=>decide (m.id=p)) (AB s t).AA<0
  ·rw[g2 hi] at h;cases h
  ·obtain ⟨k,hk⟩:=AAT (show 0<=BD (fun m:AZ=>decide (m.id=p)) (AB s t).AA by omega)
   have h1:k<(AB s t).AA.length:=by omega
   obtain ⟨g4,g5⟩:=g3 k hk h1 (by omega)
   refine ⟨_,_,g4,g5,by rw[(g6 k hk h1 (by omega)).1,CO],fun j hj hj2=>?_,fun h0=>absurd h0 hi⟩
   obtain rfl:j=k:=by omega
   rfl
 ·by_cases h6:(AB s t).kind=6
  ·obtain ⟨g1,g2,g3⟩:=JD hf h6 p q
   obtain ⟨_,_,g6⟩:=JD hf h6 p []
   by_cases hi:BD (fun m:AZ=>decide (m.id=p)) (AB s t).AA<0
   ·rw[g1 hi] at h;cases h
   ·by_cases hp:p=v.id
    ·obtain ⟨k,hk⟩:=AAT (show 0<=BD (fun m:AZ=>decide (m.id=p)) (AB s t).AA by omega)
     obtain ⟨h1,h2,g4,g5⟩:=g3 k hk hp;obtain ⟨_,_,g7,_⟩:=g6 k hk hp;refine ⟨_,_,g4,g5,by rw[g7,CO],fun j hj hj2=>?_,fun h0=>absurd h0 hi⟩
     obtain rfl:j=k:=by omega
     rfl
    ·rw[g2 hp] at h;cases h
  ·obtain ⟨g1,g2,g3⟩:=J6 hf h5 h6 p q
   obtain ⟨_,_,g6⟩:=J6 hf h5 h6 p []
   by_cases hp0:p<0
   ·rw[g1 hp0] at h;cases h
   by_cases hpl:(v.items.length:Int)<=p
   ·rw[g2 hpl] at h;cases h
   obtain ⟨k,rfl⟩:=AAT (show 0<=p by omega)
   obtain ⟨_,g4,g5⟩:=g3 k rfl (by omega)
   refine ⟨_,_,g4,g5,by rw[(g6 k rfl (by omega)).2.1,CO],fun j hj hj2=>?_,fun _=>rfl⟩
   rw[(NH hv).no t h5 h6] at hj2
   cases hj2
theorem Xj {p:List Int} (h:(CO s t v p).isSome=true) (n:Nat):∃y u,CO s t v (p.take n)=some (y,u):=by
 rw[<-List.take_append_drop n p,RV] at h
 cases ha:CO s t v (p.take n) with
 | none=>rw[ha] at h;cases h
 | some q=>exact ⟨q.1,q.2,rfl⟩
def J9 (s:List Ae) (t:Int) (v:Val) (p:List Int) (n:Nat) (tn:Int) (o:ByteArray):Prop :=
 Ew s t p n tn o/\(∃y,CO s t v (p.take n)=some (y,tn)/\BH s false tn y=true)/\BH s false t v=true/\(CO s t v p).isSome=true
theorem J9.start {p:List Int} (hf:BH s false t v=true) (ha:(CO s t v p).isSome=true):J9 s t v p 0 t ⟨#[]⟩ :=
 ⟨Ew.start hf ha,⟨v,by rw[List.take_zero,CO],hf⟩,hf,ha⟩
section
variable {s:List Ae} {t:Int} {v:Val} {p:List Int} {n:Nat} {tn:Int} {o:ByteArray}
theorem J9.ty (h:J9 s t v p n tn o):∀q,CO s t v (p.take n)=some q->q.2=tn:=fun q hq=>by
 obtain ⟨_,⟨y,hy,_⟩,_⟩:=h;rw[hy] at hq
 injection hq with hq
 rw[<-hq]
theorem J9.next (h:J9 s t v p n tn o) (hv:zQ s=0) (hn:n<p.length):∃y u,CO s t v (p.take (n+1))=some (y,u)/\BH s false u y=true/\(∀k:Nat,BD (fun m:AZ=>decide (m.id=p[n])) (AB s tn).AA=(k:Int)->∀hk:k<(AB s tn).AA.length,u=((AB s tn).AA[k]).type)/\(BD (fun m:AZ=>decide (m.id=p[n])) (AB s tn).AA<0->u=(AB s tn).elem):=by
 obtain ⟨_,⟨y,hy,hf⟩,h3,h4⟩:=h;obtain ⟨y',u',hq⟩:=Xj h4 (n+1);have hq2:=hq;rw[ABC hn,RV,hy] at hq2;obtain ⟨u2,y2,_,g2,g3,g4,g5⟩:=lC hv hf (p:=p[n]) (q:=[]) (by show (CO s tn y [p[n]]).isSome=true;rw[show CO s tn y [p[n]]=some (y',u') from hq2];rfl)
 rw[show CO s tn y [p[n]]=some (y',u') from hq2] at g3
 injection g3 with g3
 injection g3 with e1 e2
 subst e1 e2;exact ⟨y',u',hq,g2,g4,g5⟩
theorem J9.idx (h:J9 s t v p n tn o) (hv:zQ s=0) (hs:QU s) (hn:n<p.length) {k:Nat} (hi:BD (fun m:AZ=>decide (m.id=p[n])) (AB s tn).AA=(k:Int)) (hk:k<(AB s tn).AA.length) :
  J9 s t v p (n+1) ((AB s tn).AA[k]).type (o++(⟨#[46]⟩++((AB s tn).AA[k]).name))/\((AB s tn).AA[k]).name.size<=24:=by
 obtain ⟨g1,g2⟩:=h.1.idx hv hs hn hi hk;obtain ⟨y,u,h1,h2,h3,_⟩:=h.next hv hn;obtain rfl:=h3 k hi hk;exact ⟨⟨g1,⟨y,h1,h2⟩,h.2.2⟩,g2⟩
theorem J9.els (h:J9 s t v p n tn o) (hv:zQ s=0) (hn:n<p.length) (hi:BD (fun m:AZ=>decide (m.id=p[n])) (AB s tn).AA<0) :
  J9 s t v p (n+1) (AB s tn).elem (o++(⟨#[91]⟩++D5 p[n]++⟨#[93]⟩))/\In64 p[n]/\(D5 p[n]).size<=21:=by
 obtain ⟨g1,g2⟩:=h.1.els hv hn hi;obtain ⟨y,u,h1,h2,_,h3⟩:=h.next hv hn;obtain rfl:=h3 hi;exact ⟨⟨g1,⟨y,h1,h2⟩,h.2.2⟩,g2⟩
end
def Bz (x:Ae) (v:Val) (i:Nat):Int×Int :=
 if x.kind=5 then ((x.AA.getD i ⟨0,⟨#[]⟩,0,false,false,zeroV⟩).id,(x.AA.getD i ⟨0,⟨#[]⟩,0,false,false,zeroV⟩).type)
 else if x.kind=6 then (v.id,(x.AA.getD (BD (fun m:AZ=>decide (m.id=v.id)) x.AA).toNat ⟨0,⟨#[]⟩,0,false,false,zeroV⟩).type)
 else ((i:Int),x.elem)
def FC (s:List Ae):Nat->Int->Val->List (List Int)
 | 0,_,_=>[[]]
 | n+1,t,v=>[]::(List.range v.items.length).flatMap fun i=>(FC s n (Bz (AB s t) v i).2 (v.items.getD i zeroV)).map fun p=>(Bz (AB s t) v i).1::p
def IK (s:List Ae) (n:Nat) (t:Int) (v:Val) (i:Nat):List (List Int) :=
 []::(List.range i).flatMap fun i=>(FC s n (Bz (AB s t) v i).2 (v.items.getD i zeroV)).map fun p=>(Bz (AB s t) v i).1::p
theorem Py (s:List Ae) (n:Nat) (t:Int) (v:Val) (i:Nat):IK s n t v (i+1)=IK s n t v i++(FC s n (Bz (AB s t) v i).2 (v.items.getD i zeroV)).map fun p=>(Bz (AB s t) v i).1::p:=by
 unfold IK;rw[List.range_succ,List.flatMap_append,ABN,List.flatMap_nil,List.append_nil]
 rfl
theorem Po (s:List Ae) (n:Nat) (t:Int) (v:Val):FC s (n+1) t v=IK s n t v v.items.length:=rfl
theorem J4 {y:Val} (h:y∈v.items):SizeOf.sizeOf y<SizeOf.sizeOf v:=by
 obtain ⟨a,b,c,d,e,ks,is,rs⟩:=v;have:=List.sizeOf_lt_of_mem (show y∈is from h);simp only[Val.mk.sizeOf_spec]
 omega
theorem NM {l:List AZ} (h:(l.map (·.id)).Pairwise (· < ·)):∀ {i:Nat} (hi:i<l.length),BD (fun m:AZ=>decide (m.id=(l[i]).id)) l=(i:Int):=by
 induction l with
 | nil=>intro i hi;simp at hi
 | cons a r ih =>
  intro i hi
  rw[AA4,List.pairwise_cons] at h
  cases i with
  | zero=>rw[BD,AAG (by simp)];rfl
  | succ i =>
   have hi':i<r.length:=by simpa using hi
   have hlt:=h.1 (r[i]).id (List.mem_map.2 ⟨_,AAK hi',rfl⟩);have:=ih h.2 hi';rw[BD,Pd (by simp;omega)]
   simp only[List.getElem_cons_succ];rw[this,Pd (by omega)]
   omega
theorem LW (hf:BH s false t v=true) (hk:(AB s t).kind=6) (hi:0<v.items.length):
  v.items.length=1/\∃k:Nat,BD (fun m:AZ=>decide (m.id=v.id)) (AB s t).AA=(k:Int)/\k<(AB s t).AA.length:=by
 obtain ⟨n,h⟩:=Ho hf;obtain ⟨_,_,_,hb⟩:=DL h;have hl:=C8 (fun m:AZ=>decide (m.id=v.id)) (AB s t).AA
 rcases uX hk hb with ⟨h1,m,y,_,h3,_⟩|⟨h1,_⟩
 ·rw[<-Dk] at h1
  have h0:=AAu h1;refine ⟨by rw[h3];rfl,(BD (fun m:AZ=>decide (m.id=v.id)) (AB s t).AA).toNat,by omega,by omega⟩
 ·exfalso
  have hn:(AB s t).AA.find? (fun y=>decide (y.id=v.id))=none:=by
   rw[List.find?_eq_none]
   intro m hm e
   exact List.any_eq_false.1 h1 m hm e
  unfold AY at hb;rw[Pd (by omega),Pd (by omega),Pd (by omega),Pd (by omega),AAG hk,hn] at hb
  simp only[AAJ,AAd] at hb
  omega
section
variable {s:List Ae} {t:Int} {v:Val}
variable {i:Nat}
theorem getD_at {α:Type} {l:List α} (h:i<l.length) (d:α):l.getD i d=l[i]:=by
 rw[AAl,zl h];rfl
theorem Wh (ha:((AB s t).AA.map (·.id)).Pairwise (· < ·)) (hf:BH s false t v=true) (hi:i<v.items.length):
  (∀q,CO s t v ((Bz (AB s t) v i).1::q)=CO s (Bz (AB s t) v i).2 v.items[i] q)/\BH s false (Bz (AB s t) v i).2 v.items[i]=true:=by
 by_cases h5:(AB s t).kind=5
 ·have hl:=(F7 hf h5 0 []).1
  have h1:i<(AB s t).AA.length:=by omega
  have e:Bz (AB s t) v i=(((AB s t).AA[i]).id,((AB s t).AA[i]).type):=by unfold Bz;rw[AAG h5,getD_at h1]
  rw[e];exact ⟨fun q=>((F7 hf h5 _ q).2.2 i (NM ha h1) h1 hi).1,((F7 hf h5 _ []).2.2 i (NM ha h1) h1 hi).2⟩
 ·by_cases h6:(AB s t).kind=6
  ·obtain ⟨h1,k,hk,hkl⟩:=LW hf h6 (by omega)
   have e:Bz (AB s t) v i=(v.id,((AB s t).AA[k]).type):=by
    unfold Bz;rw[Pd h5,AAG h6,hk,Int.toNat_natCast,getD_at hkl]
   obtain rfl:i=0:=by omega
   rw[e];refine ⟨fun q=>?_,?_⟩
   ·obtain ⟨_,_,g,_⟩:=(JD hf h6 v.id q).2.2 k hk rfl
    exact g
   ·obtain ⟨_,_,_,g⟩:=(JD hf h6 v.id []).2.2 k hk rfl
    exact g
  ·have e:Bz (AB s t) v i=((i:Int),(AB s t).elem):=by unfold Bz;rw[Pd h5,Pd h6]
   rw[e];exact ⟨fun q=>((J6 hf h5 h6 (i:Int) q).2.2 i rfl hi).2.1,((J6 hf h5 h6 (i:Int) []).2.2 i rfl hi).2.2⟩
theorem jV (ha:((AB s t).AA.map (·.id)).Pairwise (· < ·)) (hf:BH s false t v=true) {j:Nat} (hij:j<i) (hi:i<v.items.length):(Bz (AB s t) v i).1≠(Bz (AB s t) v j).1:=by
 by_cases h5:(AB s t).kind=5
 ·have hl:=(F7 hf h5 0 []).1
  have h1:i<(AB s t).AA.length:=by omega
  unfold Bz;rw[AAG h5,AAG h5,getD_at h1,getD_at (by omega)]
  intro e
  have e1:=NM ha h1;have e2:=NM ha (show j<(AB s t).AA.length by omega)
  simp only at e;rw[e] at e1
  omega
 ·by_cases h6:(AB s t).kind=6
  ·obtain ⟨h1,_⟩:=LW hf h6 (by omega)
   omega
  ·unfold Bz
   rw[Pd h5,Pd h6,Pd h5,Pd h6];simp only
   omega
theorem RF:∀a b:List Val,kL (a++b)=kL a+kL b
 | [],b=>by rw[List.nil_append,kL,Nat.zero_add]
 | x::a,b=>by rw[ABJ,kL,RF a b,kL];omega
theorem RD (l:List Val) (i:Nat):kL (l.take i)<=kL l:=by
 have:=RF (l.take i) (l.drop i);rw[List.take_append_drop] at this
 omega
end
structure vB (s:List Ae) (t:Int) (v:Val) (P:List (List Int)):Prop where
 at_:∀p∈P,(CO s t v p).isSome=true
 nd:P.Nodup
 len:P.length<=kV v
 each:∀p∈P,p.length<=kV v
theorem U3 {s:List Ae} (hA:∀t,((AB s t).AA.map (·.id)).Pairwise (· < ·)) {n:Nat} (ih:∀ (t:Int) (v:Val),BH s false t v=true->SizeOf.sizeOf v<=n->vB s t v (FC s n t v)) {t:Int} {v:Val} (hf:BH s false t v=true) (hn:SizeOf.sizeOf v<=n+1) :
  ∀i,i<=v.items.length->(∀p∈IK s n t v i,(CO s t v p).isSome=true)/\(IK s n t v i).Nodup/\(IK s n t v i).length<=1+kL (v.items.take i)/\(∀p∈IK s n t v i,p.length<=1+kL v.items)/\∀p∈IK s n t v i,p=[]\/∃j q,j<i/\p=(Bz (AB s t) v j).1::q
 | 0,_=>by
  have e:IK s n t v 0=[[]]:=rfl;rw[e];refine ⟨fun p hp=>?_,by simp,by simp,fun p hp=>?_,fun p hp => .inl (List.mem_singleton.1 hp)⟩
  ·rw[List.mem_singleton.1 hp,CO];rfl
  ·rw[List.mem_singleton.1 hp];simp
 | i+1,hi=>by
  obtain ⟨h1,h2,h3,h4,h5⟩:=U3 hA ih hf hn i (by omega)
  have hi':i<v.items.length:=by omega
  obtain ⟨g1,g2⟩:=Wh (hA t) hf hi';have hg:v.items.getD i zeroV=v.items[i]:=getD_at hi' _;have hk:kL (v.items.take (i+1))=kL (v.items.take i)+kV v.items[i]:=by
   rw[ABC hi',RF,kL,kL];rfl
  have hk2:=RD v.items (i+1);have hs:=J4 (AAK hi');have ho:=ih _ _ g2 (by omega)
  rw[Py,hg];refine ⟨fun p hp=>?_,?_,?_,fun p hp=>?_,fun p hp=>?_⟩
  ·rcases AAo.1 hp with hp|hp
   ·exact h1 p hp
   ·obtain ⟨q,hq,rfl⟩:=List.mem_map.1 hp
    rw[g1 q];exact ho.at_ q hq
  ·refine List.nodup_append.2 ⟨h2,List.Pairwise.map _ (fun a b h e=>h (List.cons.inj e).2) ho.nd,fun a ha b hb e=>?_⟩
   obtain ⟨q,hq,rfl⟩:=List.mem_map.1 hb;subst e
   rcases h5 _ ha with e|⟨j,q',hj,e⟩
   ·cases e
   ·exact jV (hA t) hf hj hi' (List.cons.inj e).1
  ·rw[AAt,AAZ,hk]
   have:=ho.len
   omega
  ·rcases AAo.1 hp with hp|hp
   ·exact h4 p hp
   ·obtain ⟨q,hq,rfl⟩:=List.mem_map.1 hp
    have:=ho.each q hq;rw[AAS]
    omega
  ·rcases AAo.1 hp with hp|hp
   ·rcases h5 p hp with e|⟨j,q,hj,e⟩
    ·exact .inl e
    ·exact .inr ⟨j,q,by omega,e⟩
   ·obtain ⟨q,_,rfl⟩:=List.mem_map.1 hp
    exact .inr ⟨i,q,by omega,rfl⟩
theorem Kn {s:List Ae} (hA:∀t,((AB s t).AA.map (·.id)).Pairwise (· < ·)):∀ (n:Nat) (t:Int) (v:Val),BH s false t v=true->SizeOf.sizeOf v<=n->vB s t v (FC s n t v)
 | 0,t,v,_,hn=>by have:=Ir v;omega
 | n+1,t,v,hf,hn=>by
  obtain ⟨h1,h2,h3,h4,_⟩:=U3 hA (Kn hA n) hf hn v.items.length (AAH _);have hk:=bQ v;rw[List.take_length] at h3;exact ⟨h1,h2,by rw[Po];omega,fun p hp=>by have:=h4 p hp;omega⟩
open Go.RowKit
variable {w:World}
theorem MS {T E:TypeId} {size bytes:Nat} (hE:Elem T E size bytes) {ops:Array Oper} {rest:List Oper} {op:Oper} {a:Act} {Q:Exit->Act->World->Prop} (hgd:op.guard=none) (s x:Operand) (ho:op.op = .call { callee := .builtin .append,args:=#[s,x],argTypes:=#[T,T] }) (base:Nat) (v:Value) (n:Nat) (xs:List Value) (hs:a.eval s=v) (h:w.ownsRow base E size v n xs) (A:zo) (m c:Nat) (news:List Value) (hx:a.eval x = .slice A m c) (hl:news.length=m * size) (hnews:m≠0->∃b o,A=some ⟨b,o,none⟩/\w.rangeAt b o news) (h1:∀u∈news,u.oneCell'=true) (hlen:n+m<=9223372036854775807) (hby:(n+m) * bytes<=140737488355328) (hb:base<=w.heap.size) (hk:∀v' w',w'.ownsRow base E size v' (n+m) (xs++news)->w.grownBy w' v.ownBlock->(v'.ownBlock=v.ownBlock\/v'.ownBlock=some w.heap.size)->wpList Tryz.prog ops Q rest (a.put op.dst v') w'):wpList Tryz.prog ops Q (op::rest) a w:=by
 refine wpList_plain hgd fun K hK=>?_
 cases A with
 | some a0 =>
  obtain ⟨z,J5,hzs⟩:=hE.info;obtain ⟨i0,hi,hz0,hz1,hz2⟩:=info_parts J5;obtain ⟨v',w',hr,h2,h3,_,h5⟩:=run_append_own_at (P:=Tryz.prog) w base T op.type E i0 z size bytes hE.under hi hz0 hz1 hz2 hzs hE.pos v n xs h a0 m c news hl (fun j u hj=>by
   have hm:m≠0:=fun e=>by subst e;rw[Nat.zero_mul] at hl;rw[AAf hl] at hj;simp at hj
   obtain ⟨b,o,e,hr⟩:=hnews hm
   cases e
   rw[Addr.add_mid];exact hr j u hj) h1 (by unfold maxLen;omega) hby hb
  unfold Oper.wp execOp;simp only[ho,resolve,invoke,builtin,Sem.run_bind,Sem.run_pure,Result.andThen_ok,List.map_toArray,AA4,List.map_nil,hs,hx,hr];exact hK _ _ (hk v' w' h2 h3 h5)
 | none =>
  have hm:m=0:=by
   by_cases e:m=0
   ·exact e
   ·obtain ⟨b,o,e2,_⟩:=hnews e;cases e2
  subst hm;obtain rfl:news=[]:=AAf (by rw[hl,Nat.zero_mul])
  obtain ⟨z,J5,hzs⟩:=hE.info;obtain ⟨i0,hi,_⟩:=info_parts J5;have hr:=H8 (P:=Tryz.prog) base T op.type E i0 size hE.under hi v n xs h c;unfold Oper.wp execOp;simp only[ho,resolve,invoke,builtin,Sem.run_bind,Sem.run_pure,Result.andThen_ok,List.map_toArray,AA4,List.map_nil,hs,hx,hr];exact hK _ _ (hk v w (by rw[List.append_nil];exact h) (OC _ _) (.inl rfl))
theorem N9 {A:zo} {l:List Int} (h:Bl w A l):l.map encI≠[]->∃b o,A=some ⟨b,o,none⟩/\w.rangeAt b o (l.map encI).flatten:=fun hn=>by
 obtain ⟨css,k1,k2,k3,k4⟩:=Aa.cells (fun x cs h=>(show cs.length=1 by rw[h];rfl)) h
 have e:css=l.map encI:=by
  apply List.ext_getElem?
  intro i
  rw[List.getElem?_map]
  by_cases hi:i<l.length
  ·have hc:i<css.length:=by omega
   have:=k2 i _ _ (zl hi) (zl hc);rw[zl hc,zl hi,this];rfl
  ·rw[List.getElem?_eq_none (by omega),List.getElem?_eq_none (by omega)];rfl
 rw[<-e];exact k4 (fun e=>hn (by rw[e];rfl))
structure M6 where
 p:List Int
 A:zo
 c:Nat
def M6.cells (x:M6):List Value:=[.slice x.A x.p.length x.c]
theorem jW (x:M6):∀u∈x.cells,u.oneCell'=true:=fun u hu=>by
 unfold M6.cells at hu;rw[List.mem_singleton.1 hu];rfl
theorem kg:Elem 73 68 1 24:=⟨Tryz.underlying73,⟨.slice none 0 0,by kernel_rfl,rfl⟩,by omega⟩
def RZ (w:World) (A:zo) (L:List M6):Prop:=Aa 1 24 (fun (x:M6) cs=>cs=x.cells/\Bl w x.A x.p) w A L
theorem RZ.below {w':World} {A:zo} {L:List M6} (h:RZ w A L) (hb:Below w.heap.size w w'):RZ w' A L:=Aa.imp h (fun _ _ _ h=>⟨h.1,h.2.below hb⟩) hb
theorem RZ.UD {A:zo} {L:List M6} (h:RZ w A L) {i:Nat} (hi:i<L.length):∃b o,A=some ⟨b,o,none⟩/\Bl w L[i].A L[i].p/\w.cell? ⟨b,o+i,none⟩=some (.slice L[i].A L[i].p.length L[i].c):=by
 obtain ⟨b,o,cs,e,⟨rfl,hr⟩,h2⟩:=Aa.at_ h hi;have:=h2 0 _ rfl;rw[Nat.mul_one] at this;exact ⟨b,o,e,hr,this⟩
structure II (base:Nat) (wr:World) (v:Value) (L:List M6):Prop where
 own:Ad 68 1 M6.cells wr base v L
 off:∀x∈L,Off (fun q=>q<base\/v.ownBlock=some q) wr fun u=>Bl u x.A x.p
theorem Qx {B:Nat} {A:zo} {c:Nat} {l:List Int} (h:Jh w B (.slice A l.length c) l) (hl:DU 8 l.length):Off (fun q=>q<B) w fun u=>Bl u A l:=fun u hu=>by
 have hk:Jh u B (.slice A l.length c) l:=h.keep fun g hg hgl _=>hu g (by show ¬ g<B;omega) hgl
 obtain ⟨A',c',e,hr⟩:=Jh.ints hk hl
 injection e with e1 _ _
 rw[e1];exact hr
section
variable {base:Nat} {wr w':World} {v v':Value} {L:List M6} {x:M6}
theorem II.below (h:II base wr v L) (hb:Below wr.heap.size wr w'):II base w' v L:=⟨h.own.below hb,fun x hx=>(h.off x hx).low hb⟩
theorem II.snoc (h:II base wr v L) (hx:Off (fun q=>q<base\/v.ownBlock=some q) wr fun u=>Bl u x.A x.p)
  (ho:w'.ownsRow base 68 1 v' (L.length+1) (L.flatMap M6.cells++x.cells)) (hg:wr.grownBy w' v.ownBlock) (hv:v'.ownBlock=v.ownBlock\/v'.ownBlock=some wr.heap.size):II base w' v' (L++[x]):=by
 refine ⟨Ad.snoc ho,fun y hy=>?_⟩
 have hy':Off (fun q=>q<base\/v.ownBlock=some q) wr fun u=>Bl u y.A y.p:=by
  rcases AAo.1 hy with k|k
  ·exact h.off y k
  ·obtain rfl:y=x:=by simpa using k
   exact hx
 intro u hu
 refine hy' u fun q hq hl=>?_
 have y9:w'.heap[q]? = wr.heap[q]? := yA hg hl fun k hk e=>hq (.inr (by rw[hk,e]))
 rw[<-y9];refine hu q (fun h2=>?_) (AAq hl hg.size)
 rcases h2 with h2|h2
 ·exact hq (.inl h2)
 ·rcases hv with e|e
  ·exact hq (.inr (e▸h2))
  ·rw[e] at h2
   have:=AAm h2
   omega
theorem II.reads (h:II base wr v L) {B:Nat} (hB:B<=base) (hl:L.length<=1000000):∃A c,v = .slice A L.length c/\Off (fun q=>q<B) wr fun u=>RZ u A L:=by
 obtain ⟨A,c,e,_⟩:=Ad.reads h.own;refine ⟨A,c,e,fun u hu=>?_⟩
 have hk:Ad 68 1 M6.cells u base v L:=h.own.keep fun g hg hgl _=>hu g (by show ¬ g<B;omega) hgl
 obtain ⟨A',c',e2,hr⟩:=Ad.rows (bytes:=24) (at_:=fun (x:M6) cs=>cs=x.cells/\Bl u x.A x.p) hk (fun _=>rfl) (by unfold DU;omega) fun x hx=>⟨rfl,h.off x hx u fun q hq gD=>hu q (fun h2=>hq (.inl (by have h3:q<B:=h2;omega))) gD⟩
 rw[e] at e2
 injection e2 with e3 _ _
 rw[e3];exact hr
theorem II.first (w:World) (hb:base<=w.heap.size):II base (w.alloc (.cells #[.slice none 0 0] 68)) (.slice (some ⟨w.heap.size,0,none⟩) 1 1) [⟨[],none,0⟩]:=by
 refine ⟨⟨rfl,.inr ⟨w.heap.size,1,_,rfl,hb,AAC w _,by decide,by unfold maxLen;decide,rfl,rfl⟩⟩,fun x hx=>?_⟩
 rw[List.mem_singleton.1 hx];exact fun u _=>Aa.nil _ _ _ _ _
end
theorem jX (w:World) {base:Nat} (hb:base<=w.heap.size) (n:Int):w.heap.size+1=(w.alloc (.cells #[.int .i64 n] 3)).heap.size/\(w.alloc (.cells #[.int .i64 n] 3)).ownsRow base 3 1 (.slice (some ⟨w.heap.size,0,none⟩) 1 1) 1 [.int .i64 n] :=
 ⟨by simp,⟨rfl,.inr ⟨w.heap.size,1,_,rfl,hb,AAC w _,by decide,by unfold maxLen;decide,rfl,rfl⟩⟩⟩
open Go.RowKit
theorem YU {y:Val} (h:y∈v.keys):SizeOf.sizeOf y<SizeOf.sizeOf v:=by
 obtain ⟨a,b,c,d,e,ks,is,rs⟩:=v;have:=List.sizeOf_lt_of_mem (show y∈ks from h);simp only[Val.mk.sizeOf_spec]
 omega
def qB (n:Nat):Prop:=∀v:Val,SizeOf.sizeOf v<=n->∀ (A1:zo) (c1:Nat) (A2:zo) (c2:Nat) (A3:zo) (c3:Nat) (w:World),Az w v A1 A2 A3->Calls Tryz.prog 26 #[v.v A1 c1 A2 c2 A3 c3] w fun e w'=>∃k:Int,e = .returned (.int .i64 k)/\Below w.heap.size w w'
theorem U8 {n:Nat} (ih:qB n):qB (n+1):=by
 intro v hv A1 c1 A2 c2 A3 c3 w hr
 have IH:=zh ih;have HR:=zh hr;have HZ:=zh hv;have HB0:=zh (zD w (v.box A1 c1 A2 c2 A3 c3));have HX0:=zh (AAC w (v.box A1 c1 A2 c2 A3 c3));clear ih hr hv
 go_enter Tryz.func26,Tryz.ntmps26
 go_upto_region 1 with fail
 generalize w.alloc (v.box A1 c1 A2 c2 A3 c3)=W0 at *;go_wp2
 go_loopw [3,4] (fun a i wr=>∃ (k:Int) (j:Nat),j<=v.keys.length/\a = .int .i64 k/\i = .int .i64 (j:Int)/\Hid (Below W0.heap.size W0 wr)) (fun _ i _=>v.keys.length - (intOf i).toNat)
 case atStart=>exact ⟨_,0,by omega,rfl,rfl,Pe _ _⟩
 case round =>
  obtain ⟨k,j,hj,rfl,rfl,hh⟩:=hrel;obtain ⟨wo,rfl⟩:∃wo:World,wo=wr:=⟨_,rfl⟩;have HB:=zh hh.out;clear hh;have hz:(v.keys.length:Int)<=140737488355328:=by have:=HR.out.keys.1;unfold DU at this;omega
  have b6:wo.cell? ⟨w.heap.size,5,none⟩=some (.slice A1 v.keys.length c1):=by rw[AAE _ _ _ _ _ _ (zE HX0 HB)];rfl
  by_cases hlt:j<v.keys.length
  ·obtain ⟨ib,io,E1,e1,E2,e2,E3,e3,hI,hir,a0,a1,a2,a3,a4,a5,a6,a7⟩:=(((HR.out.below HB0).below HB).keys).at8 hlt
   subst hI;have hsz:=YU (AAK hlt);have HZ2:Hid (SizeOf.sizeOf v.keys[j]<=n):=by have:=HZ.out;show _<=_;omega
   have h1:(0:Int)<=(j:Int):=by omega
   have h2:(j:Int)<(v.keys.length:Int):=by omega
   have R5:=zh hir;clear hir hsz;go_wp2_with fail;refine (IH.out _ HZ2 E1 e1 E2 e2 E3 e3 wo R5).mono ?_;rintro e w5 ⟨m,rfl,hb5⟩;have Ap:=zh (zB HB hb5);clear hb5 a0 a1 a2 a3 a4 a5 a6 a7 b6;go_wp2;go_roundw
   case rel=>exact ⟨_,j+1,by omega,rfl,by go_num,Ap.out⟩
   case measure=>simp[intOf];omega
  ·have h2:¬ (j:Int)<(v.keys.length:Int):=by omega
   have HBK:=zh HB.out;go_wp2;clear HB b6
   go_loopw [3,5] (fun a i wr=>∃ (k:Int) (j:Nat),j<=v.items.length/\a = .int .i64 k/\i = .int .i64 (j:Int)/\Hid (Below W0.heap.size W0 wr)) (fun _ i _=>v.items.length - (intOf i).toNat)
   case atStart=>exact ⟨_,0,by omega,rfl,rfl,HBK.out⟩
   case round =>
    obtain ⟨k,j,hj,rfl,rfl,hh⟩:=hrel;obtain ⟨wo,rfl⟩:∃wo:World,wo=wr:=⟨_,rfl⟩;have HB:=zh hh.out;clear hh;have hz:(v.items.length:Int)<=140737488355328:=by have:=HR.out.items.1;unfold DU at this;omega
    have b6:wo.cell? ⟨w.heap.size,6,none⟩=some (.slice A2 v.items.length c2):=by rw[AAE _ _ _ _ _ _ (zE HX0 HB)];rfl
    by_cases hlt:j<v.items.length
    ·obtain ⟨ib,io,E1,e1,E2,e2,E3,e3,hI,hir,a0,a1,a2,a3,a4,a5,a6,a7⟩:=(((HR.out.below HB0).below HB).items).at8 hlt
     subst hI;have hsz:=J4 (AAK hlt);have HZ2:Hid (SizeOf.sizeOf v.items[j]<=n):=by have:=HZ.out;show _<=_;omega
     have h1:(0:Int)<=(j:Int):=by omega
     have h2:(j:Int)<(v.items.length:Int):=by omega
     have R5:=zh hir;clear hir hsz;go_wp2_with fail;refine (IH.out _ HZ2 E1 e1 E2 e2 E3 e3 wo R5).mono ?_;rintro e w5 ⟨m,rfl,hb5⟩;have Ap:=zh (zB HB hb5);clear hb5 a0 a1 a2 a3 a4 a5 a6 a7 b6;go_wp2;go_roundw
     case rel=>exact ⟨_,j+1,by omega,rfl,by go_num,Ap.out⟩
     case measure=>simp[intOf];omega
    ·have h2:¬ (j:Int)<(v.items.length:Int):=by omega
     have HE:=zh (zB HB0 HB);go_wp2;go_ret;exact ⟨⟨_,rfl⟩,HE.out⟩
theorem Pz:∀n,qB n
 | 0=>fun v hv=>absurd hv (by have:=Ir v;omega)
 | n+1=>U8 (Pz n)
end Go.Proofs.YthkkllmmbefedaaGreatDoor



