/-
  The schema of a draft is one that the maker takes: plain Lean.
-/
import Derived.Test.YthkkllmmbefedaaGreatDoorQDR4
import Derived.Test.YthkkllmmbefedaaGreatDoorQGN1
namespace Go.Proofs.YthkkllmmbefedaaGreatDoor
set_option maxHeartbeats 16000000
set_option maxRecDepth 100000
section
variable {d:List AR} {s:List Aa}
theorem Ih (ho:vG d s) (t:Int):AO s t=Ai\/∃j,j<s.length/\j=t.toNat/\MJ d j (AO s t)/\YR d j (d.getD j Bj) (AO s t):=by
 by_cases h:t.toNat<s.length
 ·right
  have e:AO s t=s[t.toNat]:=by unfold AO;rw[AAg,zl h];rfl
  exact ⟨t.toNat,h,rfl,by rw[e];exact (ho _ h).1,by rw[e];exact (ho _ h).2⟩
 ·left
  unfold AO;rw[AAg,List.getElem?_eq_none (by omega)]
  rfl
theorem dH {i:Nat} {x:AR} {t:Aa} (h:YR d i x t) {k:Int} (hk:t.kind=k) (h5:k≠5) (h7:k≠7):AZ d i=k:=by
 rcases h.kind with e|⟨_,e⟩
 ·rw[hk] at e
  unfold LX at e
  split at e
  ·exact absurd e h7
  ·exact e.symm
 ·rw[hk] at e;exact absurd e h5
theorem nK (ho:vG d s) (hl:s.length=d.length) {t:Int} (h0:0<=t) (h1:t<(s.length:Int)) {x:Val} (hx:Ns d t.toNat x) (hf:Jj x):BM s t x=true:=by
 rcases Ih ho t with e|⟨j,hj,rfl,hto,hti⟩
 ·exfalso
  have:=ho t.toNat (by omega)
  have e2:AO s t=s[t.toNat]'(by omega):=by unfold AO;rw[AAg,zl (by omega)];rfl
  have hk:=this.2.kind;rw[<-e2,e] at hk;have h9:=Gi d t.toNat
  rcases hk with hk|⟨_,hk⟩
  ·have:(0:Int)=LX d t.toNat:=hk
   unfold LX at this
   split at this <;> omega
  ·exact absurd hk (by decide)
 have hkk:(AO s t).kind=LX d t.toNat:=by
  rcases hti.kind with e|⟨e,_⟩
  ·exact e
  ·exact absurd e hx.nou.2
 have h9:=Gi d t.toNat;have hno:=hx.nou;obtain ⟨xk,xb,xi,xs,xn,ks,is,rs⟩:=x;obtain ⟨_,hk5,hi5,wX⟩:=hf;simp only[Val.keys,Val.items,Val.rest] at hk5 hi5 wX;subst hk5 hi5 wX;have gk:xk=LX d t.toNat:=hx.kind;have gb:AZ d t.toNat≠1->xb=false:=hx.b;have gi:=hx.i;have gs:=hx.s;have gn:=hx.n;simp only[Val.int,Val.str,Val.id] at gi gs gn;clear hx;obtain ⟨K,hK⟩:∃K,AZ d t.toNat=K:=⟨_,rfl⟩
 rw[hK] at gb gi gs gn h9 hno;have hk9:K=1\/K=2\/K=3\/K=4\/K=7\/K=8\/K=9:=by omega
 have htk:K≠8->LX d t.toNat=K:=fun h8=>(LW hK h8).symm
 rcases hk9 with rfl|rfl|rfl|rfl|rfl|rfl|rfl
 ·have e1:=htk (by decide)
  rw[Pd (by decide)] at gi gs gn
  subst gi gs gn;rw[e1] at gk hkk;subst gk;exact Xy h0 h1 hkk
 ·have e1:=htk (by decide)
  obtain rfl:=gb (by decide)
  rw[AAH rfl] at gi;rw[Pd (by decide)] at gs gn
  subst gs gn;rw[e1] at gk hkk;subst gk;obtain ⟨a,b⟩:=hti.int hK;exact fV h0 h1 hkk (by rw[a,b];exact gi)
 ·have e1:=htk (by decide)
  obtain rfl:=gb (by decide)
  rw[AAH rfl] at gs;rw[Pd (by decide)] at gi gn
  subst gi gn;rw[e1] at gk hkk;subst gk;exact fT h0 h1 hkk (by rw[hti.str hK];exact gs) (by omega)
 ·have e1:=htk (by decide)
  obtain rfl:=gb (by decide)
  rw[AAH rfl] at gn;rw[Pd (by decide)] at gi gs
  subst gi gs;rw[e1] at gk hkk;subst gk;exact Xx h0 h1 hkk (.inl ⟨⟨xn,Sm 115 xn.toNat⟩,by rw[hti.enum hK];exact List.mem_map.2 ⟨xn,gn,rfl⟩,rfl⟩)
 ·have e1:=htk (by decide)
  obtain rfl:=gb (by decide)
  rw[Pd (by decide)] at gi gs gn
  subst gi gs gn;rw[e1] at gk hkk;subst gk;exact Ry h0 h1 hkk (by show (0:Int)<=_;exact hti.max.1) (fun _ h=>by cases h)
 ·obtain rfl:=gb (by decide)
  rw[Pd (by decide)] at gi gs gn
  subst gi gs gn;have e1:LX d t.toNat=7\/LX d t.toNat=8:=by
   unfold LX
   split
   ·exact .inl rfl
   ·exact .inr hK
  rcases e1 with e1|e1
  ·rw[e1] at gk hkk
   subst gk;exact Ry h0 h1 hkk (by show (0:Int)<=_;exact hti.max.1) (fun _ h=>by cases h)
  ·rw[e1] at gk hkk
   subst gk;exact fU h0 h1 hkk (by show (0:Int)<=_;exact hti.max.1) rfl (fun _ h=>by cases h) rfl (fun _ h=>by cases h)
 ·have e1:=htk (by decide)
  obtain rfl:=gb (by decide)
  rw[Pd (by decide)] at gi gs gn
  subst gi gs gn;rw[e1] at gk hkk;subst gk;exact WH h0 h1 hkk (Nat.zero_le _) (fun _ h=>by cases h)
theorem mW (hv:zQ s=0) (hn:DI s) (hl:s.length=d.length) (h5:d.length<=5) (ho:vG d s):MO s where
 v:=hv
 n64:=hn
 len:=by omega
 int:=fun t hk=>by
  rcases Ih ho t with e|⟨j,hj,_,hto,hti⟩
  ·rw[e] at hk;exact absurd hk (by decide)
  ·obtain ⟨a,b⟩:=hti.int (dH hti hk (by decide) (by decide))
   rw[a,b];unfold FK FX
   omega
 max:=fun t=>by
  rcases Ih ho t with e|⟨j,hj,_,hto,hti⟩
  ·rw[e];exact ⟨by decide,by decide⟩
  ·have:=hti.max;omega
 ids:=fun t=>by
  rcases Ih ho t with e|⟨j,hj,_,hto,hti⟩
  ·rw[e];exact ⟨fun _ h=>(by cases h),fun _ h=>(by cases h)⟩
  ·obtain ⟨rec,hm⟩:=hti.mo
   refine ⟨fun m h=>(hm.2 m h).1.2,fun m h=>?_⟩
   rcases hti.AV with e|e
   ·rw[e] at h;cases h
   ·rw[e] at h
    obtain ⟨n,hn,rfl⟩:=List.mem_map.1 h;have:=(J9 _).2.1 n hn
    show n<=12
    omega
 sym:=fun t hk=>by
  rcases Ih ho t with e|⟨j,hj,_,hto,hti⟩
  ·rw[e] at hk;exact absurd hk (by decide)
  ·rw[hti.enum (dH hti hk (by decide) (by decide))]
   have:=(J9 (d.getD j Bj)).2.2;unfold EP
   simpa using this
 syl:=fun t=>by
  rcases Ih ho t with e|⟨j,hj,_,hto,hti⟩
  ·rw[e];exact Nat.zero_le _
  ·rcases hti.AV with e|e
   ·rw[e];exact Nat.zero_le _
   ·rw[e];have:=Yx (d.getD j Bj);omega
 mem:=fun t hk=>by
  rcases Ih ho t with e|⟨j,hj,_,hto,hti⟩
  ·rw[e] at hk;exact absurd hk (by decide)
  ·exact hti.ne hk
 mel:=fun t=>by
  rcases Ih ho t with e|⟨j,hj,_,hto,hti⟩
  ·rw[e];exact Nat.zero_le _
  ·obtain ⟨rec,hm⟩:=hti.mo
   have:=hm.len;omega
 asc:=fun t=>by
  rcases Ih ho t with e|⟨j,hj,_,hto,hti⟩
  ·rw[e];exact List.Pairwise.nil
  ·obtain ⟨rec,hm⟩:=hti.mo
   exact hm.1
 rJ:=fun t h0 h1 hk m hm=>by
  rcases Ih ho t with e|⟨j,hj,hjt,hto,hti⟩
  ·rw[e] at hm;cases hm
  ·obtain ⟨rec,hmo⟩:=hti.mo
   have hr:=(hmo.2 m hm).2.2.1;refine ⟨by omega,?_⟩
   rcases (hti.mem m hm).2 with h|h
   ·left
    rcases Ih ho m.type with e|⟨j2,_,rfl,_,ABF⟩
    ·exfalso
     have e2:AO s m.type=s[m.type.toNat]'(by omega):=by unfold AO;rw[AAg,zl (by omega)];rfl
     have hk:=(ho m.type.toNat (by omega)).2.kind
     rw[<-e2,e] at hk
     rcases hk with hk|⟨_,hk⟩
     ·have:(0:Int)=LX d m.type.toNat:=hk
      unfold LX at this
      split at this <;> omega
     ·exact absurd hk (by decide)
    ·rcases ABF.kind with e|⟨e,_⟩
     ·rw[e];unfold LX;split <;> omega
     ·omega
   ·right;omega
 dfl:=fun t m hm hd=>by
  rcases Ih ho t with e|⟨j,hj,_,hto,hti⟩
  ·rw[e] at hm;cases hm
  ·obtain ⟨rec,hmo⟩:=hti.mo
   have hr:=(hmo.2 m hm).2.2.1;have hf:=hto.flat m hm;exact ⟨nK ho hl hr.1 (by omega) ((hti.mem m hm).1 hd) hf,hf.2.1,hf.2.2.1,hf.2.2.2,yK (Nat.le_trans hf.1.1 (by decide))⟩
end
end Go.Proofs.YthkkllmmbefedaaGreatDoor



