/-
  No string of a value is too long; what size computes: plain Lean.
-/
import Derived.Test.YthkkllmmbefedaaGreatDoorQGA4
import Derived.Test.YthkkllmmbefedaaGreatDoorQGA2
import Derived.Test.YthkkllmmbefedaaGreatDoorQGA0
import Derived.Deep.DeepCutAuto
import Derived.Lib.Bytealg
namespace Go.Proofs.YthkkllmmbefedaaGreatDoor
set_option maxHeartbeats 16000000
set_option maxRecDepth 100000
theorem Ww:∀ (L:List (Int×ByteArray)) (b:Int) (K:List ByteArray),Md b K L=true ->
  (∀x∈L,b<x.1/\1<=x.1/\x.1<=1000/\Dw x.2=true/\IQ x.2 K=false)/\(L.map (·.1)).Nodup/\(L.map (·.2)).Nodup
 | [],_,_,_=>⟨fun _ h=>(by cases h),List.nodup_nil,List.nodup_nil⟩
 | x::L,b,K,h=>by
  rw[Md] at h;simp only[AAJ,AAd,Bool.not_eq_true'] at h;obtain ⟨⟨⟨⟨⟨h1,h2⟩,h3⟩,h4⟩,h5⟩,h6⟩:=h;obtain ⟨g1,g2,g3⟩:=Ww L x.1 (K++[x.2]) h6;have hk:∀y∈L,y.2≠x.2/\IQ y.2 K=false:=fun y hy=>by
   have:=(g1 y hy).2.2.2.2;rw[P9,Bool.or_eq_false_iff] at this;exact ⟨of_decide_eq_false this.2,this.1⟩
  refine ⟨fun y hy=>?_,?_,?_⟩
  ·rcases AAr.1 hy with rfl|hy
   ·exact ⟨h3,h1,h2,h5,h4⟩
   ·have:=g1 y hy
    exact ⟨by omega,this.2.1,this.2.2.1,this.2.2.2.1,(hk y hy).2⟩
  ·rw[AA4,List.nodup_cons]
   refine ⟨fun hm=>?_,g2⟩
   obtain ⟨y,hy,he⟩:=List.mem_map.1 hm;have:=(g1 y hy).1
   omega
  ·rw[AA4,List.nodup_cons]
   refine ⟨fun hm=>?_,g3⟩
   obtain ⟨y,hy,he⟩:=List.mem_map.1 hm;exact (hk y hy).1 he
theorem Ta {L:List (Int×ByteArray)} (h:RG L=true):(∀x∈L,1<=x.1/\x.1<=1000/\Dw x.2=true)/\(L.map (·.1)).Nodup/\(L.map (·.2)).Nodup:=by
 unfold RG at h;rw[AAJ] at h;obtain ⟨h1,h2,h3⟩:=Ww L 0 [] h.1;exact ⟨fun x hx=>⟨(h1 x hx).2.1,(h1 x hx).2.2.1,(h1 x hx).2.2.2.1⟩,h2,h3⟩
theorem VX {t:Ae} (h:Fx t=true):(t.Aj=[]\/RG (t.Aj.map fun s=>(s.id,s.name))=true)/\(t.AA=[]\/RG (t.AA.map fun m=>(m.id,m.name))=true):=by
 unfold Fx at h;simp only[AAJ,AAd] at h;obtain ⟨⟨⟨⟨hk1,hk2⟩,hp⟩,_⟩,hc⟩:=h;unfold Js at hc;have key:∀u:Ae,t=u->t.Aj=u.Aj/\t.AA=u.AA:=fun u e=>by rw[<-e];exact ⟨rfl,rfl⟩
 by_cases h4:t.kind=4
 ·rw[Pd (by omega),Pd (by omega),AAG h4] at hc
  unfold FB at hp;rw[Pd (by omega),Pd (by omega),Pd (by omega),AAG h4] at hp
  unfold WJ at hc;rw[AAJ] at hc;exact ⟨Or.inr hc.1,Or.inl (key _ hp).2⟩
 ·by_cases h5:t.kind=5
  ·rw[Pd (by omega),Pd (by omega),Pd (by omega),AAG h5] at hc
   unfold FB at hp;rw[Pd (by omega),Pd (by omega),Pd (by omega),Pd (by omega),AAG h5] at hp
   unfold MW at hc;simp only[AAJ] at hc;exact ⟨Or.inl (key _ hp).1,Or.inr hc.1.2⟩
  ·by_cases h6:t.kind=6
   ·rw[Pd (by omega),Pd (by omega),Pd (by omega),Pd (by omega),AAG h6] at hc
    unfold FB at hp;rw[Pd (by omega),Pd (by omega),Pd (by omega),Pd (by omega),Pd (by omega),AAG h6] at hp
    unfold MW at hc;simp only[AAJ] at hc;exact ⟨Or.inl (key _ hp).1,Or.inr hc.1.2⟩
   ·have:(FB t).Aj=[]/\(FB t).AA=[]:=by
     unfold FB;rw[Pd h4,Pd h5,Pd h6]
     repeat' split
     all_goals exact ⟨rfl,rfl⟩
    exact ⟨Or.inl ((key _ hp).1.trans this.1),Or.inl ((key _ hp).2.trans this.2)⟩
theorem Qe (s:List Ae) (t:Int):AB s t=Al\/AB s t∈s:=by
 unfold AB;rw[AAl]
 cases h:s[t.toNat]? with
 | none=>exact Or.inl rfl
 | some x=>exact Or.inr (ABF h)
variable {s:List Ae}
theorem aM (hv:zQ s=0) (hn:Bq s):QU s:=by
 have hf:∀t,(∀y∈(AB s t).Aj,(1<=y.id/\y.id<=1000)/\Dw y.name=true)/\(∀y∈(AB s t).AA,(1<=y.id/\y.id<=1000)/\Dw y.name=true) /\
   ((AB s t).Aj.map Bu.id).Nodup/\((AB s t).AA.map AZ.id).Nodup/\((AB s t).Aj.map Bu.name).Nodup/\((AB s t).AA.map AZ.name).Nodup:=fun t=>by
  rcases Qe s t with h|h
  ·rw[h]
   exact ⟨fun _ h=>(by cases h),fun _ h=>(by cases h),List.nodup_nil,List.nodup_nil,List.nodup_nil,List.nodup_nil⟩
  ·obtain ⟨h1,h2⟩:=VX (DV hv h).1
   generalize AB s t=x at *;have hs:(∀y∈x.Aj,(1<=y.id/\y.id<=1000)/\Dw y.name=true)/\(x.Aj.map Bu.id).Nodup/\(x.Aj.map Bu.name).Nodup:=by
    rcases h1 with h1|h1
    ·rw[h1];exact ⟨fun _ h=>(by cases h),List.nodup_nil,List.nodup_nil⟩
    ·obtain ⟨g1,g2,g3⟩:=Ta h1
     rw[List.map_map] at g2 g3;exact ⟨fun y hy=>by
      have:=g1 _ (List.mem_map_of_mem hy);exact ⟨⟨this.1,this.2.1⟩,this.2.2⟩,g2,g3⟩
   have hm:(∀y∈x.AA,(1<=y.id/\y.id<=1000)/\Dw y.name=true)/\(x.AA.map AZ.id).Nodup/\(x.AA.map AZ.name).Nodup:=by
    rcases h2 with h2|h2
    ·rw[h2];exact ⟨fun _ h=>(by cases h),List.nodup_nil,List.nodup_nil⟩
    ·obtain ⟨g1,g2,g3⟩:=Ta h2
     rw[List.map_map] at g2 g3;exact ⟨fun y hy=>by
      have:=g1 _ (List.mem_map_of_mem hy);exact ⟨⟨this.1,this.2.1⟩,this.2.2⟩,g2,g3⟩
   exact ⟨hs.1,hm.1,hs.2.1,hm.2.1,hs.2.2,hm.2.2⟩
 refine ⟨fun t=>?_,fun t=>(hf t).2.2.1,fun t=>?_,fun t h0 h1=>?_⟩
 ·obtain ⟨g1,g2,g3,g4,g5,g6⟩:=hf t
  exact ⟨⟨fun y hy=>(g1 y hy).1,fun y hy=>(g2 y hy).1⟩,g4,g5,g6⟩
 ·obtain ⟨g1,g2,_⟩:=hf t
  have hb:-9223372036854775808<=(AB s t).low/\(AB s t).high<=9223372036854775807:=by
   rcases Qe s t with h|h
   ·rw[h];exact ⟨by decide,by decide⟩
   ·exact ⟨(hn _ h).1.1,(hn _ h).2.2⟩
  exact ⟨fun y hy=>(g1 y hy).2,fun y hy=>(g2 y hy).2,hb.1,hb.2⟩
 ·have h:=(DV hv (FX ⟨h0,h1⟩)).1
  unfold Fx at h;simp only[AAJ,AAd] at h;exact ⟨h.1.1.1.1,h.1.1.1.2⟩
mutual
def kV:Val->Nat
 | .mk _ _ _ s _ ks is rs=>10+s.size+rs.length+kR rs+kL ks+kL is
def kL:List Val->Nat
 | []=>0
 | v::l=>kV v+kL l
def kR:List Ak->Nat
 | []=>0
 | r::l=>r.data.size+kR l
end
def Mq:List Ak->Int->Int
 | [],n=>n
 | r::l,n=>if n<0 then n else Mq l (n - r.data.size)
mutual
def PO:Val->Int->Int
 | .mk _ _ _ s _ ks is rs,n=>MU is (MU ks (Mq rs (n - (10+s.size+rs.length))))
def MU:List Val->Int->Int
 | [],n=>n
 | v::l,n=>if n<0 then n else MU l (PO v n)
end
theorem Uk:∀ (l:List Ak) (n:Int),Mq l n<=n
 | [],_=>by rw[Mq];exact Int.le_refl _
 | r::l,n=>by
  rw[Mq];split
  ·exact Int.le_refl _
  ·have:=Uk l (n - r.data.size);omega
mutual
theorem Z4:∀ (v:Val) (n:Int),PO v n<=n
 | .mk _ _ _ s _ ks is rs,n=>by
  rw[PO];have h1:=Uk rs (n - (10+s.size+rs.length));have h2:=Ik ks (Mq rs (n - (10+s.size+rs.length)));have h3:=Ik is (MU ks (Mq rs (n - (10+s.size+rs.length))))
  omega
theorem Ik:∀ (l:List Val) (n:Int),MU l n<=n
 | [],_=>by rw[MU];exact Int.le_refl _
 | v::l,n=>by
  rw[MU];split
  ·exact Int.le_refl _
  ·have h1:=Z4 v n
   have h2:=Ik l (PO v n)
   omega
end
theorem Z7:∀ (l:List Ak) (n:Int),0<=Mq l n->Mq l n=n - kR l
 | [],n,_=>by rw[Mq,kR];omega
 | r::l,n,h=>by
  rw[Mq] at h ⊢
  split at h
  ·omega
  ·rename_i hn
   rw[Pd hn,kR];have:=Z7 l _ h
   omega
mutual
theorem Z6:∀ (v:Val) (n:Int),0<=PO v n->PO v n=n - kV v
 | .mk _ _ _ s _ ks is rs,n,h=>by
  rw[PO] at h ⊢;rw[kV];have h3:=Ul is _ h;have g3:=Ik is (MU ks (Mq rs (n - (10+s.size+rs.length))));have h2:=Ul ks (Mq rs (n - (10+s.size+rs.length))) (by omega)
  have g2:=Ik ks (Mq rs (n - (10+s.size+rs.length)));have h1:=Z7 rs (n - (10+s.size+rs.length)) (by omega)
  omega
theorem Ul:∀ (l:List Val) (n:Int),0<=MU l n->MU l n=n - kL l
 | [],n,_=>by rw[MU,kL];omega
 | v::l,n,h=>by
  rw[MU] at h ⊢
  split at h
  ·omega
  ·rename_i hn
   rw[Pd hn,kL];have h2:=Ul l _ h;have g2:=Ik l (PO v n);have h1:=Z6 v n (by omega)
   omega
end
theorem YJ {s:ByteArray} (h:Dw s=true):s.size<=24:=by
 unfold Dw at h;simp only[AAJ,AAd] at h;exact h.1.1.2
theorem bQ (v:Val):kV v=10+v.str.size+v.rest.length+kR v.rest+kL v.keys+kL v.items:=by
 obtain ⟨_,_,_,_,_,_,_,_⟩:=v;rw[kV];rfl
def Gn (x:Ae) (v:Val) (p:Int):Option (Nat×Int) :=
 if x.kind=5 then (x.AA.findIdx? fun m=>decide (m.id=p)).map fun k=>(k,(x.AA.getD k ⟨0,⟨#[]⟩,0,false,false,zeroV⟩).type)
 else if x.kind=6 then (if p=v.id then (x.AA.find? fun m=>decide (m.id=p)).map fun m=>(0,m.type) else none)
 else if 0<=p then some (p.toNat,x.elem) else none
def CO (s:List Ae):Int->Val->List Int->Option (Val×Int)
 | t,v,[]=>some (v,t)
 | t,v,p::r=>match Gn (AB s t) v p with
  | none=>none
  | some (k,u)=>match v.items[k]? with
   | none=>none
   | some w=>CO s u w r
def BL (s:List Ae):Int->List Int->ByteArray
 | _,[]=>⟨#[]⟩
 | t,p::r=>match (AB s t).AA.find? fun m=>decide (m.id=p) with
  | some m=>⟨#[46]⟩++m.name++BL s m.type r
  | none=>⟨#[91]⟩++D5 p++⟨#[93]⟩++BL s (AB s t).elem r
theorem Lh (s:List Ae) (t:Int) (p:List Int):p=[]\/∃c q,(BL s t p).data.toList=c::q/\(c=46\/c=91):=by
 cases p with
 | nil=>exact Or.inl rfl
 | cons a r =>
  right
  rw[BL]
  split
  ·rw[Ao,Ao]
   exact ⟨46,_,rfl,Or.inl rfl⟩
  ·rw[Ao,Ao,Ao]
   exact ⟨91,_,rfl,Or.inr rfl⟩
theorem Sy (s:List Ae) (t:Int) (p:List Int):UI (BL s t p).data.toList:=by
 rcases Lh s t p with rfl|⟨c,q,e,hc⟩
 ·exact iY
 ·intro d r h
  rw[e] at h
  injection h with h _
  subst h
  rcases hc with rfl|rfl <;> decide
theorem P5 {s:ByteArray} (h:Dw s=true):s.data.toList.all (fun d=>CP d||zZ d)=true:=by
 unfold Dw at h;simp only[AAJ] at h;exact h.2
theorem XL {a b r q:List UInt8} (h:a++r=b++q) (hl:a.length=b.length):a=b/\r=q:=List.append_inj h hl
theorem bR {a b:Int} (h:Lib.itoa a=Lib.itoa b):a=b:=by
 have:=congrArg jC h
 rwa [Pj,Pj] at this
theorem Mc {a:Int} (h:0<=a):∀c∈Lib.itoa a,zZ c=true:=fun c hc=>by
 have e:a=(a.toNat:Int):=by omega
 rw[e,Lib.itoa_nonneg] at hc;exact XE.2 (F5 _ c hc)
variable {t:Int} {v:Val}
theorem SV {p:Int} {r:List Int} (h:(CO s t v (p::r)).isSome):
  ∃k u w,Gn (AB s t) v p=some (k,u)/\v.items[k]? = some w/\(CO s u w r).isSome:=by
 rw[CO] at h
 split at h
 ·cases h
 ·rename_i k u hk
  split at h
  ·cases h
  ·rename_i w hw
   exact ⟨k,u,w,hk,hw,h⟩
structure eX (s:List Ae):Prop where
 no:∀t,(AB s t).kind≠5->(AB s t).kind≠6->(AB s t).AA=[]
theorem PW {x:Ae} {p:Int} {m:AZ} {k:Nat} {u:Int} (hm:x.AA.find? (fun m=>decide (m.id=p))=some m) (hn:x.kind=5\/x.kind=6) (h:Gn x v p=some (k,u)):u=m.type:=by
 unfold Gn at h
 split at h
 ·rw[AAs] at h
  obtain ⟨j,hj,h⟩:=h
  injection h with h1 h2
  subst h2;rw[List.findIdx?_eq_some_iff_getElem] at hj;obtain ⟨hl,hj1,hj2⟩:=hj;have hf:x.AA.find? (fun m=>decide (m.id=p))=some x.AA[j]:=by
   rw[List.find?_eq_some_iff_getElem];exact ⟨hj1,j,hl,rfl,fun i hi=>by simpa using hj2 i hi⟩
  rw[hm] at hf
  injection hf with hf
  rw[AAl,zl hl,hf];rfl
 ·rename_i h5
  rw[AAG (by omega)] at h
  split at h
  ·rw[hm] at h
   injection h with h;injection h with _ h
   exact h.symm
  ·cases h
theorem Nr {s:List Ae} (hs:QU s) (hM:eX s):∀ (p q:List Int) (t:Int) (v:Val),(CO s t v p).isSome->(CO s t v q).isSome->BL s t p=BL s t q->p=q
 | [],q,t,v,_,_,h=>by
  rcases Lh s t q with rfl|⟨c,r,e,_⟩
  ·rfl
  ·have:=congrArg (fun b:ByteArray=>b.data.toList) h
   simp only[e] at this
   cases this
 | a::p,[],t,v,_,_,h=>by
  rcases Lh s t (a::p) with e|⟨c,r,e,_⟩
  ·cases e
  ·have:=congrArg (fun b:ByteArray=>b.data.toList) h
   simp only[e] at this
   cases this
 | a::p,b::q,t,v,hp,hq,h=>by
  obtain ⟨k1,u1,w1,g1,g2,g3⟩:=SV hp;obtain ⟨k2,u2,w2,i1,i2,i3⟩:=SV hq;have hl:=congrArg (fun b:ByteArray=>b.data.toList) h
  have hx:=hs.nam t;have hy:=hs.ty t;rw[BL,BL] at hl
  cases ha:(AB s t).AA.find? fun m=>decide (m.id=a) with
  | some m1 =>
   have hne:(AB s t).kind=5\/(AB s t).kind=6:=by
    by_cases h5:(AB s t).kind=5
    ·exact Or.inl h5
    ·by_cases h6:(AB s t).kind=6
     ·exact Or.inr h6
     ·rw[hM.no t h5 h6] at ha;cases ha
   have hu1:=PW ha hne g1;rw[ha] at hl
   cases hb:(AB s t).AA.find? fun m=>decide (m.id=b) with
   | some m2 =>
    have hu2:=PW hb hne i1;rw[hb] at hl;simp only at hl;rw[Ao,Ao,Ao,Ao] at hl;have hl2:m1.name.data.toList++(BL s m1.type p).data.toList=m2.name.data.toList++(BL s m2.type q).data.toList:=by
     injection hl
    have hm1:=List.mem_of_find?_eq_some ha;have hm2:=List.mem_of_find?_eq_some hb;have e1:=TT (P5 (hx.AA m1 hm1)) (Sy s m1.type p);have e2:=TT (P5 (hx.AA m2 hm2)) (Sy s m2.type q);rw[hl2,e2] at e1;obtain ⟨e3,e4⟩:=XL hl2 e1.symm;have hname:m1.name=m2.name:=ByteArray.ext (Array.ext' e3);have f1:=OD hy.tV hm1;have f2:=OD hy.tV hm2
    rw[hname,f2] at f1
    injection f1 with f1
    subst f1;have ida:=List.find?_some ha;have idb:=List.find?_some hb;rw[AAd] at ida idb;have hab:a=b:=by rw[<-ida,<-idb]
    subst hab;rw[g1] at i1
    injection i1 with i1
    injection i1 with j1 j2
    subst j1 j2;rw[g2] at i2
    injection i2 with i2
    subst i2;have hpt:BL s m2.type p=BL s m2.type q:=ByteArray.ext (Array.ext' e4);rw[<-hu1] at hpt;rw[Nr hs hM p q u1 w1 g3 i3 hpt]
   | none =>
    rw[hb] at hl;simp only at hl;rw[Ao,Ao,Ao,Ao,Ao] at hl;exact absurd (show (46:UInt8)=91 by injection hl) (by decide)
  | none =>
   have hk:∀ {c:Int} {k:Nat} {u:Int},(AB s t).AA.find? (fun m=>decide (m.id=c))=none->Gn (AB s t) v c=some (k,u)->0<=c/\k=c.toNat/\u=(AB s t).elem:=fun {c k u} hc hst=>by
    unfold Gn at hst
    split at hst
    ·rw[AAs] at hst
     obtain ⟨j,hj,_⟩:=hst;rw[List.findIdx?_eq_some_iff_getElem] at hj;obtain ⟨hl,hj1,_⟩:=hj;exact absurd hj1 (List.find?_eq_none.1 hc _ (AAK hl))
    ·split at hst
     ·split at hst
      ·rw[hc] at hst;cases hst
      ·cases hst
     ·split at hst
      ·injection hst with hst;injection hst with h1 h2
       exact ⟨by assumption,h1.symm,h2.symm⟩
      ·cases hst
   rw[ha] at hl
   cases hb:(AB s t).AA.find? fun m=>decide (m.id=b) with
   | some m2 =>
    rw[hb] at hl;simp only at hl;rw[Ao,Ao,Ao,Ao,Ao] at hl;exact absurd (show (91:UInt8)=46 by injection hl) (by decide)
   | none =>
    rw[hb] at hl;simp only at hl;obtain ⟨a0,a1,a2⟩:=hk ha g1;obtain ⟨b0,b1,b2⟩:=hk hb i1;rw[Ao,Ao,Ao,Ao,Ao,Ao,QJ,QJ] at hl;have hl2:Lib.itoa a++93::(BL s (AB s t).elem p).data.toList=Lib.itoa b++93::(BL s (AB s t).elem q).data.toList:=by
     simp only[AA0] at hl
     injection hl
    have hsep:∀r:List UInt8,UI (93::r):=fun r d z e=>by
     injection e with e _
     subst e;decide
    have e1:=UA (Mc a0) (hsep (BL s (AB s t).elem p).data.toList);have e2:=UA (Mc b0) (hsep (BL s (AB s t).elem q).data.toList);rw[hl2,e2] at e1;obtain ⟨e3,e4⟩:=XL hl2 e1.symm;have hab:=bR e3;subst hab;rw[g1] at i1
    injection i1 with i1
    injection i1 with j1 j2
    subst j1 j2;rw[g2] at i2
    injection i2 with i2
    subst i2;have hpt:BL s (AB s t).elem p=BL s (AB s t).elem q:=ByteArray.ext (Array.ext' (by injection e4))
    rw[<-a2] at hpt;rw[Nr hs hM p q u1 w1 g3 i3 hpt]
theorem Pv (v:Val) {y:Val} (hy:y∈v.keys\/y∈v.items):SizeOf.sizeOf y<SizeOf.sizeOf v:=by
 obtain ⟨k,b,i,st,id,ks,is,r⟩:=v;simp only[Val.mk.sizeOf_spec]
 rcases hy with h|h
 ·have:=List.sizeOf_lt_of_mem (show y∈ks from h);omega
 ·have:=List.sizeOf_lt_of_mem (show y∈is from h);omega
theorem Ir (v:Val):0<SizeOf.sizeOf v:=by
 obtain ⟨k,b,i,st,id,ks,is,r⟩:=v;simp only[Val.mk.sizeOf_spec]
 omega
theorem L9 {pl:Bool} {f g:Int->Val->Bool} {x:Ae} (h:∀t y,(y∈v.keys\/y∈v.items)->f t y=true->g t y=true) (hf:AY f pl x v=true):AY g pl x v=true:=by
 unfold AY at hf ⊢
 by_cases h2:x.kind=2
 ·rw[AAG h2] at hf ⊢;exact hf
 rw[Pd h2] at hf ⊢
 by_cases h3:x.kind=3
 ·rw[AAG h3] at hf ⊢;exact hf
 rw[Pd h3] at hf ⊢
 by_cases h4:x.kind=4
 ·rw[AAG h4] at hf ⊢;exact hf
 rw[Pd h4] at hf ⊢
 by_cases h5:x.kind=5
 ·rw[AAG h5] at hf ⊢
  rw[AAJ,AA3] at hf ⊢;refine ⟨hf.1,fun p hp=>h _ _ (Or.inr ?_) (hf.2 p hp)⟩
  obtain ⟨a,b⟩:=p;exact (List.of_mem_zip hp).2
 rw[Pd h5] at hf ⊢
 by_cases h6:x.kind=6
 ·rw[AAG h6] at hf ⊢
  cases hm:x.AA.find? fun m=>decide (m.id=v.id) with
  | none=>rw[hm] at hf;exact hf
  | some m =>
   rw[hm] at hf;simp only[AAJ,AA3] at hf ⊢;exact ⟨hf.1,fun y hy=>h _ _ (Or.inr hy) (hf.2 y hy)⟩
 rw[Pd h6] at hf ⊢
 by_cases h7:x.kind=7
 ·rw[AAG h7] at hf ⊢
  simp only[AAJ,AA3] at hf ⊢;exact ⟨hf.1,fun y hy=>h _ _ (Or.inr hy) (hf.2 y hy)⟩
 rw[Pd h7] at hf ⊢
 by_cases h8:x.kind=8
 ·rw[AAG h8] at hf ⊢
  simp only[AAJ,AA3] at hf ⊢;exact ⟨⟨⟨hf.1.1.1,fun y hy=>h _ _ (Or.inl hy) (hf.1.1.2 y hy)⟩,hf.1.2⟩,fun y hy=>h _ _ (Or.inr hy) (hf.2 y hy)⟩
 rw[Pd h8] at hf ⊢
 by_cases h9:x.kind=9
 ·rw[AAG h9] at hf ⊢
  simp only[AAJ,AA3] at hf ⊢;exact ⟨hf.1,fun y hy=>h _ _ (Or.inr hy) (hf.2 y hy)⟩
 rw[Pd h9]
theorem QH {s:List Ae} {pl:Bool}:∀ (n:Nat) (t:Int) (v:Val),AU s pl n t v=true->AU s pl (n+1) t v=true
 | 0,_,_,h=>by cases h
 | n+1,t,v,h=>by
  rw[AU] at h ⊢
  split at h
  ·cases h
  ·rename_i h1
   rw[Pd h1]
   split at h
   ·cases h
   ·rename_i h2
    rw[Pd h2];exact L9 (fun u y _ hy=>QH n u y hy) h
theorem XD {pl:Bool} {n:Nat} (h:AU s pl n t v=true):∀m,n<=m->AU s pl m t v=true:=fun m hm=>by
 induction m with
 | zero=>rw[Nat.le_zero.1 hm] at h;exact h
 | succ m ih =>
  rcases Nat.lt_or_ge m n with h1|h1
  ·rw[show m+1=n by omega];exact h
  ·exact QH m t v (ih h1)
theorem Eb {s:List Ae} {pl:Bool}:∀ (n:Nat) (t:Int) (v:Val),AU s pl n t v=true->AU s pl (SizeOf.sizeOf v) t v=true
 | 0,_,_,h=>by cases h
 | n+1,t,v,h=>by
  obtain ⟨k,hk⟩:∃k,SizeOf.sizeOf v=k+1:=⟨SizeOf.sizeOf v - 1,by have:=Ir v;omega⟩
  rw[hk];rw[AU] at h ⊢
  split at h
  ·cases h
  ·rename_i h1
   rw[Pd h1]
   split at h
   ·cases h
   ·rename_i h2
    rw[Pd h2];exact L9 (fun u y hy hf=>XD (Eb n u y hf) k (by have:=Pv v hy;omega)) h
theorem Q5 (h:okV s t v):BH s false t v=true:=by
 obtain ⟨n,h⟩:=h;exact Eb n t v h
open Go.RowKit
def Dq (v:Val) (w:World) (e:Ending) (w':World):Prop:=∃B1 d1 B2 d2 B3 d3,e = .returned ((BJ v).v B1 d1 B2 d2 B3 d3)/\Below w.heap.size w w'
theorem Da (w:World) (o1 o2 o3:Obj):Below w.heap.size w (((w.alloc o1).alloc o2).alloc o3):=zB (zB (zD w o1) (zD _ o2)) (zD _ o3)
theorem Y5 (v:Val) (hk:v.kind=1) (A1:zo) (c1:Nat) (A2:zo) (c2:Nat) (A3:zo) (c3:Nat) (w:World) :
  Calls Tryz.prog 146 #[v.v A1 c1 A2 c2 A3 c3] w (Dq v w):=by
 have HB:Hid (BJ v = .mk 1 v.bool 0 ⟨#[]⟩ 0 [] [] []):=by show _=_;unfold BJ;simp[hk]
 have KS:=zh (fun o1 o2 o3=>Da w o1 o2 o3)
 go_enter Tryz.func146,Tryz.ntmps146
 go_wp2
 refine bodyPost_ret (v:=Val.v (.mk 1 v.bool 0 ⟨#[]⟩ 0 [] [] []) none 0 none 0 none 0) (by simp only[results,Tryz.results146];go_simp;exact ⟨rfl,rfl,rfl,rfl,rfl,rfl,rfl,rfl⟩) rfl ⟨_,_,_,_,_,_,by rw[HB.out],KS.out _ _ _⟩
theorem dZ (v:Val) (hk:v.kind=2) (A1:zo) (c1:Nat) (A2:zo) (c2:Nat) (A3:zo) (c3:Nat) (w:World) :
  Calls Tryz.prog 146 #[v.v A1 c1 A2 c2 A3 c3] w (Dq v w):=by
 have HB:Hid (BJ v = .mk 2 false v.int ⟨#[]⟩ 0 [] [] []):=by show _=_;unfold BJ;simp[hk]
 have KS:=zh (fun o1 o2 o3=>Da w o1 o2 o3)
 go_enter Tryz.func146,Tryz.ntmps146
 go_wp2
 refine bodyPost_ret (v:=Val.v (.mk 2 false v.int ⟨#[]⟩ 0 [] [] []) none 0 none 0 none 0) (by simp only[results,Tryz.results146];go_simp;exact ⟨rfl,rfl,rfl,rfl,rfl,rfl,rfl,rfl⟩) rfl ⟨_,_,_,_,_,_,by rw[HB.out],KS.out _ _ _⟩
theorem dV (v:Val) (hk:v.kind=3) (A1:zo) (c1:Nat) (A2:zo) (c2:Nat) (A3:zo) (c3:Nat) (w:World) :
  Calls Tryz.prog 146 #[v.v A1 c1 A2 c2 A3 c3] w (Dq v w):=by
 have HB:Hid (BJ v = .mk 3 false 0 v.str 0 [] [] []):=by show _=_;unfold BJ;simp[hk]
 have KS:=zh (fun o1 o2 o3=>Da w o1 o2 o3)
 go_enter Tryz.func146,Tryz.ntmps146
 go_wp2
 refine bodyPost_ret (v:=Val.v (.mk 3 false 0 v.str 0 [] [] []) none 0 none 0 none 0) (by simp only[results,Tryz.results146];go_simp;exact ⟨rfl,rfl,rfl,rfl,rfl,rfl,rfl,rfl⟩) rfl ⟨_,_,_,_,_,_,by rw[HB.out],KS.out _ _ _⟩
theorem Y4 (v:Val) (hk:v.kind=4) (A1:zo) (c1:Nat) (A2:zo) (c2:Nat) (A3:zo) (c3:Nat) (w:World) :
  Calls Tryz.prog 146 #[v.v A1 c1 A2 c2 A3 c3] w (Dq v w):=by
 have HB:Hid (BJ v = .mk 4 false 0 ⟨#[]⟩ v.id [] [] []):=by show _=_;unfold BJ;simp[hk]
 have KS:=zh (fun o1 o2 o3=>Da w o1 o2 o3)
 go_enter Tryz.func146,Tryz.ntmps146
 go_wp2
 refine bodyPost_ret (v:=Val.v (.mk 4 false 0 ⟨#[]⟩ v.id [] [] []) none 0 none 0 none 0) (by simp only[results,Tryz.results146];go_simp;exact ⟨rfl,rfl,rfl,rfl,rfl,rfl,rfl,rfl⟩) rfl ⟨_,_,_,_,_,_,by rw[HB.out],KS.out _ _ _⟩
theorem Y3 (v:Val) (hk:v.kind=7) (A1:zo) (c1:Nat) (A2:zo) (c2:Nat) (A3:zo) (c3:Nat) (w:World) :
  Calls Tryz.prog 146 #[v.v A1 c1 A2 c2 A3 c3] w (Dq v w):=by
 have HB:Hid (BJ v = .mk 7 false 0 ⟨#[]⟩ 0 [] v.items []):=by show _=_;unfold BJ;simp[hk]
 have KS:=zh (fun o1 o2 o3=>Da w o1 o2 o3)
 go_enter Tryz.func146,Tryz.ntmps146
 go_wp2
 refine bodyPost_ret (v:=Val.v (.mk 7 false 0 ⟨#[]⟩ 0 [] v.items []) none 0 A2 c2 none 0) (by simp only[results,Tryz.results146];go_simp;exact ⟨rfl,rfl,rfl,rfl,rfl,rfl,rfl,rfl⟩) rfl ⟨_,_,_,_,_,_,by rw[HB.out],KS.out _ _ _⟩
theorem dX (v:Val) (hk:v.kind=9) (A1:zo) (c1:Nat) (A2:zo) (c2:Nat) (A3:zo) (c3:Nat) (w:World) :
  Calls Tryz.prog 146 #[v.v A1 c1 A2 c2 A3 c3] w (Dq v w):=by
 have HB:Hid (BJ v = .mk 9 false 0 ⟨#[]⟩ 0 [] v.items []):=by show _=_;unfold BJ;simp[hk]
 have KS:=zh (fun o1 o2 o3=>Da w o1 o2 o3)
 go_enter Tryz.func146,Tryz.ntmps146
 go_wp2
 refine bodyPost_ret (v:=Val.v (.mk 9 false 0 ⟨#[]⟩ 0 [] v.items []) none 0 A2 c2 none 0) (by simp only[results,Tryz.results146];go_simp;exact ⟨rfl,rfl,rfl,rfl,rfl,rfl,rfl,rfl⟩) rfl ⟨_,_,_,_,_,_,by rw[HB.out],KS.out _ _ _⟩
theorem dW (v:Val) (hk:v.kind=5) (A1:zo) (c1:Nat) (A2:zo) (c2:Nat) (A3:zo) (c3:Nat) (w:World) :
  Calls Tryz.prog 146 #[v.v A1 c1 A2 c2 A3 c3] w (Dq v w):=by
 have HB:Hid (BJ v = .mk 5 false 0 ⟨#[]⟩ 0 [] v.items v.rest):=by show _=_;unfold BJ;simp[hk]
 have KS:=zh (fun o1 o2 o3=>zC (Da w o1 o2 o3) 1)
 go_enter Tryz.func146,Tryz.ntmps146
 go_upto_region 12 with fail
 refine wp_region_held_drew (S:=(fun w'=>(w'.cell? ⟨w.heap.size,6,none⟩=some (.slice A2 v.items.length c2)/\w'.cell? ⟨w.heap.size,7,none⟩=some (.slice A3 v.rest.length c3)))) (by kernel_rfl) ?_ (fun AO=>?_)
 ·(try dsimp only);go_simp
 refine tL 0 ?_;refine tL 1 ?_;refine tL 2 ?_;refine tL 3 ?_;refine tL 4 ?_;refine tR 5 (fun K hK=>?_)
 go_simp
 refine hK.out _ _ ?_ (fun AO=>?_)
 ·(try dsimp only);go_simp
 clear hK K;try simp only[ps]
 refine tL 6 ?_;refine tR 7 (fun K hK=>?_)
 go_simp
 refine hK.out _ _ ?_ (fun AO=>?_)
 ·(try dsimp only);go_simp
 clear hK K;refine wpAnyH_done (by kernel_rfl) ?_ _
 clear AO;go_wp2;refine bodyPost_ret (v:=Val.v (.mk 5 false 0 ⟨#[]⟩ 0 [] v.items v.rest) none 0 A2 c2 A3 c3) (by simp only[results,Tryz.results146];go_simp;exact ⟨rfl,rfl,rfl,rfl,rfl,rfl,rfl,rfl⟩) rfl ⟨_,_,_,_,_,_,by rw[HB.out],KS.out _ _ _⟩
theorem dU (v:Val) (hk:v.kind=6) (A1:zo) (c1:Nat) (A2:zo) (c2:Nat) (A3:zo) (c3:Nat) (w:World) :
  Calls Tryz.prog 146 #[v.v A1 c1 A2 c2 A3 c3] w (Dq v w):=by
 have HB:Hid (BJ v = .mk 6 false 0 ⟨#[]⟩ v.id [] v.items v.rest):=by show _=_;unfold BJ;simp[hk]
 have KS:=zh (fun o1 o2 o3=>zC (Da w o1 o2 o3) 1)
 go_enter Tryz.func146,Tryz.ntmps146
 go_upto_region 14 with fail
 refine wp_region_held_drew (S:=(fun w'=>(w'.cell? ⟨w.heap.size,4,none⟩=some (.int .i64 v.id)/\w'.cell? ⟨w.heap.size,6,none⟩=some (.slice A2 v.items.length c2)/\w'.cell? ⟨w.heap.size,7,none⟩=some (.slice A3 v.rest.length c3)))) (by kernel_rfl) ?_ (fun AO=>?_)
 ·(try dsimp only);go_simp
 refine tL 0 ?_;refine tL 1 ?_;refine tL 2 ?_;refine tL 3 ?_;refine tL 4 ?_;refine tL 5 ?_;try simp only[ps]
 refine tL 6 ?_;refine tR 7 (fun K hK=>?_)
 go_simp
 refine hK.out _ _ ?_ (fun AO=>?_)
 ·(try dsimp only);go_simp
 clear hK K;refine tL 8 ?_;refine tR 9 (fun K hK=>?_)
 go_simp
 refine hK.out _ _ ?_ (fun AO=>?_)
 ·(try dsimp only);go_simp
 clear hK K;refine tL 10 ?_;refine tR 11 (fun K hK=>?_)
 go_simp
 refine hK.out _ _ ?_ (fun AO=>?_)
 ·(try dsimp only);go_simp
 clear hK K;try simp only[ps]
 refine wpAnyH_done (by kernel_rfl) ?_ _
 clear AO;go_wp2;refine bodyPost_ret (v:=Val.v (.mk 6 false 0 ⟨#[]⟩ v.id [] v.items v.rest) none 0 A2 c2 A3 c3) (by simp only[results,Tryz.results146];go_simp;exact ⟨rfl,rfl,rfl,rfl,rfl,rfl,rfl,rfl⟩) rfl ⟨_,_,_,_,_,_,by rw[HB.out],KS.out _ _ _⟩
theorem dY (v:Val) (hk:v.kind=8) (A1:zo) (c1:Nat) (A2:zo) (c2:Nat) (A3:zo) (c3:Nat) (w:World) :
  Calls Tryz.prog 146 #[v.v A1 c1 A2 c2 A3 c3] w (Dq v w):=by
 have HB:Hid (BJ v = .mk 8 false 0 ⟨#[]⟩ 0 v.keys v.items []):=by show _=_;unfold BJ;simp[hk]
 have KS:=zh (fun o1 o2 o3=>zC (Da w o1 o2 o3) 1)
 go_enter Tryz.func146,Tryz.ntmps146
 go_upto_region 16 with fail
 refine wp_region_held_drew (S:=(fun w'=>(w'.cell? ⟨w.heap.size,5,none⟩=some (.slice A1 v.keys.length c1)/\w'.cell? ⟨w.heap.size,6,none⟩=some (.slice A2 v.items.length c2)))) (by kernel_rfl) ?_ (fun AO=>?_)
 ·(try dsimp only);go_simp
 refine tL 0 ?_;refine tL 1 ?_;refine tL 2 ?_;refine tL 3 ?_;refine tL 4 ?_;refine tR 5 (fun K hK=>?_)
 go_simp
 refine hK.out _ _ ?_ (fun AO=>?_)
 ·(try dsimp only);go_simp
 clear hK K;try simp only[ps]
 refine tL 6 ?_;refine tR 7 (fun K hK=>?_)
 go_simp
 refine hK.out _ _ ?_ (fun AO=>?_)
 ·(try dsimp only);go_simp
 clear hK K;refine wpAnyH_done (by kernel_rfl) ?_ _
 clear AO;go_wp2;refine bodyPost_ret (v:=Val.v (.mk 8 false 0 ⟨#[]⟩ 0 v.keys v.items []) A1 c1 A2 c2 none 0) (by simp only[results,Tryz.results146];go_simp;exact ⟨rfl,rfl,rfl,rfl,rfl,rfl,rfl,rfl⟩) rfl ⟨_,_,_,_,_,_,by rw[HB.out],KS.out _ _ _⟩
theorem dh (v:Val) (h:1<=v.kind/\v.kind<=9) (A1:zo) (c1:Nat) (A2:zo) (c2:Nat) (A3:zo) (c3:Nat) (w:World) :
  Calls Tryz.prog 146 #[v.v A1 c1 A2 c2 A3 c3] w (Dq v w):=by
 have hk:v.kind=1\/v.kind=2\/v.kind=3\/v.kind=4\/v.kind=5\/v.kind=6\/v.kind=7\/v.kind=8\/v.kind=9:=by omega
 rcases hk with h|h|h|h|h|h|h|h|h
 ·exact Y5 v h A1 c1 A2 c2 A3 c3 w
 ·exact dZ v h A1 c1 A2 c2 A3 c3 w
 ·exact dV v h A1 c1 A2 c2 A3 c3 w
 ·exact Y4 v h A1 c1 A2 c2 A3 c3 w
 ·exact dW v h A1 c1 A2 c2 A3 c3 w
 ·exact dU v h A1 c1 A2 c2 A3 c3 w
 ·exact Y3 v h A1 c1 A2 c2 A3 c3 w
 ·exact dY v h A1 c1 A2 c2 A3 c3 w
 ·exact dX v h A1 c1 A2 c2 A3 c3 w
open Go.RowKit
theorem bytes_beq (a b:ByteArray):(a.toList==b.toList)=decide (a=b):=by
 rw[Lib.toList_data,Lib.toList_data]
 by_cases h:a=b
 ·subst h;simp
 ·have:¬ a.data.toList=b.data.toList:=fun e=>h (Go.WideShapes.bytes_inj e)
  rw[AAU h];simpa using this
section
variable {P:Program} (w:World)
end
theorem DU.lt {b n:Nat} (h:DU b n) (hb:0<b):n<=140737488355328:=Nat.le_trans (Nat.le_mul_of_pos_right n hb) h
open Go.RowKit
def OJ (b:Bool) (w:World) (e:Ending) (w':World):Prop:=e = .returned (.bool b)/\Below w.heap.size w w'
open Go.RowKit
theorem yI (n : Int) (w : World) : Calls Tryz.prog 116 #[.int .u8 n] w fun e w' => e = .returned (.bool (IU n)) /\ w = w' := by
  by_cases h1 : n = 95
  · subst h1
    go_enter Tryz.func116, Tryz.ntmps116
    go_wp2
    go_ret
    exact ⟨rfl, rfl⟩
  have e1 : (n == 95) = false := by simp [h1]
  by_cases h2 : 97 <= n <;> by_cases h3 : n <= 122 <;> by_cases h4 : 65 <= n <;> by_cases h5 : n <= 90
  all_goals first
    | (exfalso; omega)
    | (have HL := zh (show IU n = _ by unfold IU; simp only [h1, h2, h3, h4, h5]; rfl)
       clear h1
       go_enter Tryz.func116, Tryz.ntmps116
       go_wp2
       go_ret
       exact ⟨by rw [HL.out]; rfl, rfl⟩)
theorem Bf (n : Int) (w : World) : Calls Tryz.prog 117 #[.int .u8 n] w fun e w' => e = .returned (.bool (IV n)) /\ w = w' := by
  by_cases h2 : 48 <= n <;> by_cases h3 : n <= 57
  all_goals
    (have HL := zh (show IV n = _ by unfold IV; simp only [h2, h3]; rfl)
     go_enter Tryz.func117, Tryz.ntmps117
     go_wp2
     go_ret
     exact ⟨by rw [HL.out]; rfl, rfl⟩)
open Go.RowKit
theorem Vd {s:ByteArray} (h:0<s.size):s.toList≠[]:=by
 intro e
 rw[Lib.toList_data] at e;have:s.data.toList.length=s.size:=by simp
 rw[e] at this;simp at this;omega
open Go.RowKit
abbrev kS:ByteArray->Value:=Value.string
open Go.RowKit
def vG (W:World) (b:Nat) (m:AZ) (A1:zo) (c1:Nat) (A2:zo) (c2:Nat) (A3:zo) (c3:Nat):Prop:=W.heap[b]? = some (.cells #[.int .i64 m.id,.string m.name,.int .i64 m.type,.bool m.critical,.bool m.ED,.int .i64 m.dflt.kind,.bool m.dflt.bool,.int .i64 m.dflt.int,.string m.dflt.str,.int .i64 m.dflt.id,.slice A1 m.dflt.keys.length c1,.slice A2 m.dflt.items.length c2,.slice A3 m.dflt.rest.length c3] 118 (0,0))
theorem vG.cell {W:World} {b:Nat} {m:AZ} {A1:zo} {c1:Nat} {A2:zo} {c2:Nat} {A3:zo} {c3:Nat} (h:vG W b m A1 c1 A2 c2 A3 c3) (j:Nat):W.cell? ⟨b,j,none⟩=(#[.int .i64 m.id,.string m.name,.int .i64 m.type,.bool m.critical,.bool m.ED,.int .i64 m.dflt.kind,.bool m.dflt.bool,.int .i64 m.dflt.int,.string m.dflt.str,.int .i64 m.dflt.id,.slice A1 m.dflt.keys.length c1,.slice A2 m.dflt.items.length c2,.slice A3 m.dflt.rest.length c3]:Array Value)[j]? := AAE _ _ _ _ _ _ h
mutual
def GD:Val->Prop
 | .mk _ _ _ s _ ks is rs=>s.size<=140737488355328/\(∀r∈rs,r.data.size<=140737488355328)/\QT ks/\QT is
def QT:List Val->Prop
 | []=>True
 | v::l=>GD v/\QT l
end
theorem EQ:∀l:List Val,QT l↔∀v∈l,GD v
 | []=>by rw[QT];exact ⟨fun _ _ h=>(by cases h),fun _=>trivial⟩
 | v::l=>by
  rw[QT,EQ l];simp only[AAr,forall_eq_or_imp]
theorem GD.out (h:GD v):v.str.size<=140737488355328/\(∀r∈v.rest,r.data.size<=140737488355328)/\(∀y∈v.keys,GD y)/\(∀y∈v.items,GD y):=by
 obtain ⟨k,b,i,s,d,ks,is,rs⟩:=v;rw[GD] at h;exact ⟨h.1,h.2.1,(EQ ks).1 h.2.2.1,(EQ is).1 h.2.2.2⟩
variable {n:Int} {l:List Ak}
theorem iR (h:n<0):Mq l n=n:=by
 cases l with
 | nil=>rw[Mq]
 | cons a r=>rw[Mq,AAG h]
theorem WH {l:List Val} (h:n<0):MU l n=n:=by
 cases l with
 | nil=>rw[MU]
 | cons a r=>rw[MU,AAG h]
variable {i:Nat}
theorem nX (hi:i<l.length) (h:0<=n):Mq (l.drop i) n=Mq (l.drop (i+1)) (n - (l[i]).data.size):=by
 rw[AAv hi,Mq,Pd (by omega)]
theorem Z8 {l:List Val} (hi:i<l.length) (h:0<=n):MU (l.drop i) n=MU (l.drop (i+1)) (PO l[i] n):=by
 rw[AAv hi,MU,Pd (by omega)]
theorem iT (h:l.length<=i):Mq (l.drop i) n=n:=by
 rw[AA7 h,Mq]
theorem WI {l:List Val} (h:l.length<=i):MU (l.drop i) n=n:=by
 rw[AA7 h,MU]
theorem iQ (v:Val) (n:Int):PO v n=MU v.items (MU v.keys (Mq v.rest (n - (10+v.str.size+v.rest.length)))):=by
 obtain ⟨k,b,i,s,d,ks,is,rs⟩:=v;rw[PO];rfl
def eO (v:Val):Prop:=0<=PO v 3000
theorem aG (h:eO v):kV v<=3000:=by
 have:=Z6 v 3000 h;unfold eO at h
 omega
end Go.Proofs.YthkkllmmbefedaaGreatDoor



