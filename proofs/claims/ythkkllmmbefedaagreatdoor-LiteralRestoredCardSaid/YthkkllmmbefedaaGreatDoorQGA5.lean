/-
  No string of a value is too long; what size computes: plain Lean.
-/
import Derived.Test.YthkkllmmbefedaaGreatDoorQGA4
import Derived.Test.YthkkllmmbefedaaGreatDoorQGA2
import Derived.Test.YthkkllmmbefedaaGreatDoorQGA0
import Derived.Deep.DeepCutAuto
import Derived.Lib.Bytealg
namespace Go.Proofs.YthkkllmmbefedaaGreatDoor
set_option maxHeartbeats 16000000
set_option maxRecDepth 100000
theorem YC:∀ (L:List (Int×ByteArray)) (b:Int) (K:List ByteArray),Nk b K L=true ->
  (∀x∈L,b<x.1/\1<=x.1/\x.1<=1000/\EG x.2=true/\Ky x.2 K=false)/\(L.map (·.1)).Nodup/\(L.map (·.2)).Nodup
 | [],_,_,_=>⟨fun _ h=>(by cases h),List.nodup_nil,List.nodup_nil⟩
 | x::L,b,K,h=>by
  rw[Nk] at h;simp only[AAM,AAX,Bool.not_eq_true'] at h;obtain ⟨⟨⟨⟨⟨h1,h2⟩,h3⟩,h4⟩,h5⟩,h6⟩:=h;obtain ⟨g1,g2,g3⟩:=YC L x.1 (K++[x.2]) h6;have hk:∀y∈L,y.2≠x.2/\Ky y.2 K=false:=fun y hy=>by
   have:=(g1 y hy).2.2.2.2;rw[Qs,Bool.or_eq_false_iff] at this;exact ⟨of_decide_eq_false this.2,this.1⟩
  refine ⟨fun y hy=>?_,?_,?_⟩
  ·rcases AAi.1 hy with rfl|hy
   ·exact ⟨h3,h1,h2,h5,h4⟩
   ·have:=g1 y hy
    exact ⟨by omega,this.2.1,this.2.2.1,this.2.2.2.1,(hk y hy).2⟩
  ·rw[AA5,List.nodup_cons]
   refine ⟨fun hm=>?_,g2⟩
   obtain ⟨y,hy,he⟩:=List.mem_map.1 hm;have:=(g1 y hy).1
   omega
  ·rw[AA5,List.nodup_cons]
   refine ⟨fun hm=>?_,g3⟩
   obtain ⟨y,hy,he⟩:=List.mem_map.1 hm;exact (hk y hy).1 he
theorem UW {L:List (Int×ByteArray)} (h:SB L=true):(∀x∈L,1<=x.1/\x.1<=1000/\EG x.2=true)/\(L.map (·.1)).Nodup/\(L.map (·.2)).Nodup:=by
 unfold SB at h;rw[AAM] at h;obtain ⟨h1,h2,h3⟩:=YC L 0 [] h.1;exact ⟨fun x hx=>⟨(h1 x hx).2.1,(h1 x hx).2.2.1,(h1 x hx).2.2.2.1⟩,h2,h3⟩
theorem Wd {t:Aa} (h:GQ t=true):(t.AV=[]\/SB (t.AV.map fun s=>(s.id,s.name))=true)/\(t.AA=[]\/SB (t.AA.map fun m=>(m.id,m.name))=true):=by
 unfold GQ at h;simp only[AAM,AAX] at h;obtain ⟨⟨⟨⟨hk1,hk2⟩,hp⟩,_⟩,hc⟩:=h;unfold Ki at hc;have key:∀u:Aa,t=u->t.AV=u.AV/\t.AA=u.AA:=fun u e=>by rw[<-e];exact ⟨rfl,rfl⟩
 by_cases h4:t.kind=4
 ·rw[Pd (by omega),Pd (by omega),AAH h4] at hc
  unfold FW at hp;rw[Pd (by omega),Pd (by omega),Pd (by omega),AAH h4] at hp
  unfold Xa at hc;rw[AAM] at hc;exact ⟨Or.inr hc.1,Or.inl (key _ hp).2⟩
 ·by_cases h5:t.kind=5
  ·rw[Pd (by omega),Pd (by omega),Pd (by omega),AAH h5] at hc
   unfold FW at hp;rw[Pd (by omega),Pd (by omega),Pd (by omega),Pd (by omega),AAH h5] at hp
   unfold Nb at hc;simp only[AAM] at hc;exact ⟨Or.inl (key _ hp).1,Or.inr hc.1.2⟩
  ·by_cases h6:t.kind=6
   ·rw[Pd (by omega),Pd (by omega),Pd (by omega),Pd (by omega),AAH h6] at hc
    unfold FW at hp;rw[Pd (by omega),Pd (by omega),Pd (by omega),Pd (by omega),Pd (by omega),AAH h6] at hp
    unfold Nb at hc;simp only[AAM] at hc;exact ⟨Or.inl (key _ hp).1,Or.inr hc.1.2⟩
   ·have:(FW t).AV=[]/\(FW t).AA=[]:=by
     unfold FW;rw[Pd h4,Pd h5,Pd h6]
     repeat' split
     all_goals exact ⟨rfl,rfl⟩
    exact ⟨Or.inl ((key _ hp).1.trans this.1),Or.inl ((key _ hp).2.trans this.2)⟩
theorem RV (s:List Aa) (t:Int):AO s t=Ai\/AO s t∈s:=by
 unfold AO;rw[AAg]
 cases h:s[t.toNat]? with
 | none=>exact Or.inl rfl
 | some x=>exact Or.inr (ABX h)
variable {s:List Aa}
theorem o7 (hv:zQ s=0) (hn:DI s):Ux s:=by
 have hf:∀t,(∀y∈(AO s t).AV,(1<=y.id/\y.id<=1000)/\EG y.name=true)/\(∀y∈(AO s t).AA,(1<=y.id/\y.id<=1000)/\EG y.name=true) /\
   ((AO s t).AV.map Bq.id).Nodup/\((AO s t).AA.map AY.id).Nodup/\((AO s t).AV.map Bq.name).Nodup/\((AO s t).AA.map AY.name).Nodup:=fun t=>by
  rcases RV s t with h|h
  ·rw[h]
   exact ⟨fun _ h=>(by cases h),fun _ h=>(by cases h),List.nodup_nil,List.nodup_nil,List.nodup_nil,List.nodup_nil⟩
  ·obtain ⟨h1,h2⟩:=Wd (Df hv h).1
   generalize AO s t=x at *;have hs:(∀y∈x.AV,(1<=y.id/\y.id<=1000)/\EG y.name=true)/\(x.AV.map Bq.id).Nodup/\(x.AV.map Bq.name).Nodup:=by
    rcases h1 with h1|h1
    ·rw[h1];exact ⟨fun _ h=>(by cases h),List.nodup_nil,List.nodup_nil⟩
    ·obtain ⟨g1,g2,g3⟩:=UW h1
     rw[List.map_map] at g2 g3;exact ⟨fun y hy=>by
      have:=g1 _ (List.mem_map_of_mem hy);exact ⟨⟨this.1,this.2.1⟩,this.2.2⟩,g2,g3⟩
   have hm:(∀y∈x.AA,(1<=y.id/\y.id<=1000)/\EG y.name=true)/\(x.AA.map AY.id).Nodup/\(x.AA.map AY.name).Nodup:=by
    rcases h2 with h2|h2
    ·rw[h2];exact ⟨fun _ h=>(by cases h),List.nodup_nil,List.nodup_nil⟩
    ·obtain ⟨g1,g2,g3⟩:=UW h2
     rw[List.map_map] at g2 g3;exact ⟨fun y hy=>by
      have:=g1 _ (List.mem_map_of_mem hy);exact ⟨⟨this.1,this.2.1⟩,this.2.2⟩,g2,g3⟩
   exact ⟨hs.1,hm.1,hs.2.1,hm.2.1,hs.2.2,hm.2.2⟩
 refine ⟨fun t=>?_,fun t=>(hf t).2.2.1,fun t=>?_,fun t h0 h1=>?_⟩
 ·obtain ⟨g1,g2,g3,g4,g5,g6⟩:=hf t
  exact ⟨⟨fun y hy=>(g1 y hy).1,fun y hy=>(g2 y hy).1⟩,g4,g5,g6⟩
 ·obtain ⟨g1,g2,_⟩:=hf t
  have hb:-9223372036854775808<=(AO s t).low/\(AO s t).high<=9223372036854775807:=by
   rcases RV s t with h|h
   ·rw[h];exact ⟨by decide,by decide⟩
   ·exact ⟨(hn _ h).1.1,(hn _ h).2.2⟩
  exact ⟨fun y hy=>(g1 y hy).2,fun y hy=>(g2 y hy).2,hb.1,hb.2⟩
 ·have h:=(Df hv (F6 ⟨h0,h1⟩)).1
  unfold GQ at h;simp only[AAM,AAX] at h;exact ⟨h.1.1.1.1,h.1.1.1.2⟩
mutual
def kV:Val->Nat
 | .mk _ _ _ s _ ks is rs=>10+s.size+rs.length+kR rs+kL ks+kL is
def kL:List Val->Nat
 | []=>0
 | v::l=>kV v+kL l
def kR:List Af->Nat
 | []=>0
 | r::l=>r.data.size+kR l
end
def Nz:List Af->Int->Int
 | [],n=>n
 | r::l,n=>if n<0 then n else Nz l (n - r.data.size)
mutual
def NV:Val->Int->Int
 | .mk _ _ _ s _ ks is rs,n=>NW is (NW ks (Nz rs (n - (10+s.size+rs.length))))
def NW:List Val->Int->Int
 | [],n=>n
 | v::l,n=>if n<0 then n else NW l (NV v n)
end
theorem Vf:∀ (l:List Af) (n:Int),Nz l n<=n
 | [],_=>by rw[Nz];exact Int.le_refl _
 | r::l,n=>by
  rw[Nz];split
  ·exact Int.le_refl _
  ·have:=Vf l (n - r.data.size);omega
mutual
theorem dK:∀ (v:Val) (n:Int),NV v n<=n
 | .mk _ _ _ s _ ks is rs,n=>by
  rw[NV];have h1:=Vf rs (n - (10+s.size+rs.length));have h2:=JF ks (Nz rs (n - (10+s.size+rs.length)));have h3:=JF is (NW ks (Nz rs (n - (10+s.size+rs.length))))
  omega
theorem JF:∀ (l:List Val) (n:Int),NW l n<=n
 | [],_=>by rw[NW];exact Int.le_refl _
 | v::l,n=>by
  rw[NW];split
  ·exact Int.le_refl _
  ·have h1:=dK v n
   have h2:=JF l (NV v n)
   omega
end
theorem dN:∀ (l:List Af) (n:Int),0<=Nz l n->Nz l n=n - kR l
 | [],n,_=>by rw[Nz,kR];omega
 | r::l,n,h=>by
  rw[Nz] at h ⊢
  split at h
  ·omega
  ·rename_i hn
   rw[Pd hn,kR];have:=dN l _ h
   omega
mutual
theorem dM:∀ (v:Val) (n:Int),0<=NV v n->NV v n=n - kV v
 | .mk _ _ _ s _ ks is rs,n,h=>by
  rw[NV] at h ⊢;rw[kV];have h3:=Vg is _ h;have g3:=JF is (NW ks (Nz rs (n - (10+s.size+rs.length))));have h2:=Vg ks (Nz rs (n - (10+s.size+rs.length))) (by omega)
  have g2:=JF ks (Nz rs (n - (10+s.size+rs.length)));have h1:=dN rs (n - (10+s.size+rs.length)) (by omega)
  omega
theorem Vg:∀ (l:List Val) (n:Int),0<=NW l n->NW l n=n - kL l
 | [],n,_=>by rw[NW,kL];omega
 | v::l,n,h=>by
  rw[NW] at h ⊢
  split at h
  ·omega
  ·rename_i hn
   rw[Pd hn,kL];have h2:=Vg l _ h;have g2:=JF l (NV v n);have h1:=dM v n (by omega)
   omega
end
variable {n:Int}
theorem SC (h:1<=n/\n<=1000):(CX n).size<=4:=by
 have:∀m:Fin 1001,(Lib.itoa ((m.1:Nat):Int)).length<=4:=by decide +kernel
 have h2:=this ⟨n.toNat,by omega⟩
 show (Lib.itoa n).toArray.size<=4
 rw[List.size_toArray];have e:((n.toNat:Nat):Int)=n:=by omega
 simp only[e] at h2;exact h2
theorem J2 {s:ByteArray} (h:EG s=true):s.size<=24:=by
 unfold EG at h;simp only[AAM,AAX] at h;exact h.1.1.2
theorem Wm:∀ (l:List ByteArray),(FN l).size<=(l.map fun b=>b.size+2).sum:=by
 intro l
 rw[iT];have:∀m:List ByteArray,(ai (m.map fun b=>b.data.toList)).length<=(m.map fun b=>b.size+2).sum:=fun m=>by
  induction m with
  | nil=>exact AAP _
  | cons x r ih =>
   cases r with
   | nil =>
    show x.data.toList.length<=x.size+2+0
    have:x.data.toList.length=x.size:=rfl
    omega
   | cons y q =>
    show (x.data.toList++44::32::ai ((y::q).map fun b=>b.data.toList)).length<=x.size+2+((y::q).map fun b=>b.size+2).sum
    have hx:x.data.toList.length=x.size:=rfl;rw[AAp,AAS,AAS,hx]
    omega
 exact this l
theorem RZ {α:Type} (f:α->Nat) (g:α->Nat):∀l:List α,(∀x∈l,f x<=g x)->(l.map f).sum<=(l.map g).sum
 | [],_=>AAP _
 | x::l,h=>by
  rw[AA5,AA5,List.sum_cons,List.sum_cons];have h1:=h x (AAl ..);have h2:=RZ f g l fun y hy=>h y (ABD _ hy)
  omega
theorem gV:∀l:List Val,(l.map fun v=>12 * kV v).sum=12 * kL l
 | []=>rfl
 | v::l=>by rw[AA5,List.sum_cons,gV l,kL];omega
theorem gU:∀l:List Af,(l.map fun r=>12 * (1+r.data.size)).sum=12 * (l.length+kR l)
 | []=>rfl
 | v::l=>by rw[AA5,List.sum_cons,gU l,kR,AAS];omega
def U2 (f:Int->Val->ByteArray) (t:Int) (v:Val):Prop:=(f t v).size+28<=12 * kV v
theorem wP (v:Val):kV v=10+v.str.size+v.rest.length+kR v.rest+kL v.keys+kL v.items:=by
 obtain ⟨_,_,_,_,_,_,_,_⟩:=v;rw[kV];rfl
theorem bG:∀ (ms:List AY) (vs:List Val) (c:AY×Val->Nat),vs.length=ms.length->(∀p∈ms.zip vs,c p<=12 * kV p.2)->((ms.zip vs).map c).sum<=12 * kL vs
 | [],[],_,_,_=>Nat.zero_le _
 | [],_::_,_,h,_=>by cases h
 | _::_,[],_,h,_=>by cases h
 | m::ms,v::vs,c,hl,h=>by
  have h1:=h (m,v) (AAl ..);have h2:=bG ms vs c (by simpa using hl) fun p hp=>h p (ABD _ hp)
  rw[List.zip_cons_cons,AA5,List.sum_cons,kL];simp only at h1
  omega
theorem XJ:∀ (ks vs:List Val) (c:Val×Val->Nat),vs.length=ks.length->(∀p∈ks.zip vs,c p<=12 * kV p.1+12 * kV p.2)->((ks.zip vs).map c).sum<=12 * kL ks+12 * kL vs
 | [],[],_,_,_=>Nat.zero_le _
 | [],_::_,_,h,_=>by cases h
 | _::_,[],_,h,_=>by cases h
 | m::ms,v::vs,c,hl,h=>by
  have h1:=h (m,v) (AAl ..);have h2:=XJ ms vs c (by simpa using hl) fun p hp=>h p (ABD _ hp)
  rw[List.zip_cons_cons,AA5,List.sum_cons,kL,kL];simp only at h1
  omega
theorem bW {s:List Aa} (hN:∀t,Uz (AO s t)) (hI:∀t,xg (AO s t)) (hK:∀t,0<=t->t<(s.length:Int)->1<=(AO s t).kind/\(AO s t).kind<=9):∀ (n:Nat) (t:Int) (v:Val),Ad s false n t v=true->U2 (Ae s n) t v
 | 0,_,_,h=>by cases h
 | n+1,t,v,hfit=>by
  obtain ⟨h1,h2,hk,hp,hf⟩:=KA hfit;have hkr:=hK t h1 h2;have ih:=bW hN hI hK n;have hx:=hN t;have hy:=hI t;unfold U2;rw[Ae,wP];generalize AO s t=x at *;have hc:x.kind=1\/x.kind=2\/x.kind=3\/x.kind=4\/x.kind=5\/x.kind=6\/x.kind=7\/x.kind=8\/x.kind=9:=by omega
  unfold Ak at hf
  rcases hc with hc|hc|hc|hc|hc|hc|hc|hc|hc
  ·unfold Bd
   rw[AAH hc];have:(if v.bool then (⟨#[116,114,117,101]⟩:ByteArray) else ⟨#[102,97,108,115,101]⟩).size<=5:=by split <;> decide
   omega
  ·rw[AAH hc] at hf
   simp only[AAM,AAX] at hf;unfold Bd;rw[Pd (by omega),AAH hc]
   have g3:=hx.low;have g4:=hx.high;have:=SI (n:=v.int) ⟨by omega,by omega⟩
   omega
  ·unfold Bd
   rw[Pd (by omega),Pd (by omega),AAH hc]
   have:=Vz v.str
   omega
  ·rw[Pd (by omega),Pd (by omega),AAH hc] at hf
   unfold Bd;rw[Pd (by omega),Pd (by omega),Pd (by omega),AAH hc]
   cases hm:x.AV.find? fun y=>decide (y.id=v.id) with
   | some y =>
    have:=J2 (hx.AV y (List.mem_of_find?_eq_some hm));simp only
    omega
   | none =>
    have hno:(x.AV.any fun y=>decide (y.id=v.id))=false:=by
     rw[List.any_eq_false]
     intro y hy hd
     exact (List.find?_eq_none.1 hm y hy) hd
    rw[hno,Bool.false_or,AAM] at hf;have:=SC (Lx.1 hf.2);simp only;rw[AAQ,Cc]
    omega
  ·rw[Pd (by omega),Pd (by omega),Pd (by omega),AAH hc] at hf
   simp only[AAM] at hf;unfold Bd;rw[Pd (by omega),Pd (by omega),Pd (by omega),Pd (by omega),AAH hc]
   rw[AAQ,AAQ,Cc,Cc];have hl:=AAe hf.1.1.1;have h3:=Wm ((x.AA.zip v.items).map (Kw (Ae s n))++v.rest.map Mj);rw[List.map_append,List.sum_append,List.map_map,List.map_map] at h3;have h4:=bG x.AA v.items ((fun b:ByteArray=>b.size+2)∘Kw (Ae s n)) hl fun p hp=>by
    obtain ⟨i,hi,he⟩:=List.mem_iff_getElem.1 hp;rw[List.getElem_zip] at he;rw[List.length_zip] at hi;subst he;have:=ih _ _ (Rv _ _ hf.2 i (by omega) (by omega))
    have hn:=J2 (hx.AA _ (AAU (show i<x.AA.length by omega)))
    unfold U2 at this
    show (Kw (Ae s n) _).size+2<=_
    unfold Kw;rw[AAQ,AAQ]
    show _+2+_+2<=_
    simp only
    omega
   have h5:=RZ ((fun b:ByteArray=>b.size+2)∘Mj) (fun r=>12 * (1+r.data.size)) v.rest fun r hr=>by
    have h6:=SC (Lx.1 (WB hf.1.2 r hr));have h7:=Vz r.data
    show (Mj r).size+2<=_
    unfold Mj;rw[AAQ,AAQ]
    show _+2+_+2<=_
    omega
   rw[gU] at h5
   omega
  ·rw[Pd (by omega),Pd (by omega),Pd (by omega),Pd (by omega),AAH hc] at hf
   cases hm:x.AA.find? fun m=>decide (m.id=v.id) with
   | some m =>
    rw[hm] at hf;simp only[AAM] at hf;obtain ⟨w,hw⟩:=List.length_eq_one_iff.1 (AAe hf.1.1);rw[hw] at hf;have hw2:Ad s false n m.type w=true:=by simpa using hf.2
    have:=ih _ _ hw2;have hn:=J2 (hx.AA m (List.mem_of_find?_eq_some hm));unfold U2 at this;have hkl:kL v.items=kV w:=by rw[hw,kL,kL];rfl
    rw[pI _ hc hm hw,AAQ,AAQ,AAQ,Cc,Cc]
    omega
   | none =>
    rw[hm] at hf;simp only[AAM] at hf;obtain ⟨w,hw⟩:=List.length_eq_one_iff.1 (AAe hf.1.2);have h6:=SC (Lx.1 hf.1.1.1.2);have h7:=Vz w.data;have hkr:kR v.rest=w.data.size:=by rw[hw,kR,kR];rfl
    rw[pJ _ hc hm hw,AAQ,AAQ,AAQ,AAQ,Cc,Cc,Cc]
    omega
  ·rw[Pd (by omega),Pd (by omega),Pd (by omega),Pd (by omega),Pd (by omega),AAH hc] at hf
   simp only[AAM,AAj] at hf;unfold Bd;rw[Pd (by omega),Pd (by omega),Pd (by omega),Pd (by omega),Pd (by omega),Pd (by omega),AAH hc]
   rw[AAQ,AAQ,Cc,Cc];have h3:=Wm (v.items.map (Ae s n x.elem));rw[List.map_map] at h3;have h4:=RZ ((fun b:ByteArray=>b.size+2)∘Ae s n x.elem) (fun w=>12 * kV w) v.items fun w hw=>by
    have:=ih _ _ (hf.2 w hw);unfold U2 at this
    show (Ae s n x.elem w).size+2<=_
    omega
   rw[gV] at h4
   omega
  ·rw[Pd (by omega),Pd (by omega),Pd (by omega),Pd (by omega),Pd (by omega),Pd (by omega),AAH hc] at hf
   simp only[AAM,AAj] at hf;have hl:v.items.length=v.keys.length:=AAe hf.1.1.1.2;rw[pG _ hc,AAQ,AAQ,AAQ,Cc,Cc];have h3:=Wm ((v.keys.zip v.items).map (QA (Ae s n x.key) (Ae s n x.elem)));rw[List.map_map] at h3
   have h4:=XJ v.keys v.items ((fun b:ByteArray=>b.size+2)∘QA (Ae s n x.key) (Ae s n x.elem)) hl fun p hp=>by
    obtain ⟨p1,p2⟩:=p;have hm:=List.of_mem_zip hp;have g1:=ih _ _ (hf.1.1.2 p1 hm.1);have g2:=ih _ _ (hf.2 p2 hm.2);unfold U2 at g1 g2
    show (QA _ _ _).size+2<=_
    unfold QA;rw[AAQ,AAQ]
    show _+4+_+2<=_
    simp only
    omega
   have h5:(if v.keys.length=0 then (⟨#[45,62]⟩:ByteArray) else ⟨#[]⟩).size<=2:=by split <;> decide
   omega
  ·rw[Pd (by omega),Pd (by omega),Pd (by omega),Pd (by omega),Pd (by omega),Pd (by omega),Pd (by omega),AAH hc] at hf
   simp only[AAM,AAj] at hf
   cases hi:v.items with
   | nil =>
    rw[pF _ hc hi]
    show 4+28<=_
    omega
   | cons w q =>
    have:=ih _ _ (hf.2 w (by rw[hi];exact AAl ..))
    unfold U2 at this;rw[pE _ hc hi,AAQ,AAQ,Cc,kL]
    show 5+_+1+28<=_
    omega
def Oq (x:Aa) (v:Val) (p:Int):Option (Nat×Int) :=
 if x.kind=5 then (x.AA.findIdx? fun m=>decide (m.id=p)).map fun k=>(k,(x.AA.getD k ⟨0,⟨#[]⟩,0,false,false,zeroV⟩).type)
 else if x.kind=6 then (if p=v.id then (x.AA.find? fun m=>decide (m.id=p)).map fun m=>(0,m.type) else none)
 else if 0<=p then some (p.toNat,x.elem) else none
def Gz (s:List Aa):Int->Val->List Int->Option (Val×Int)
 | t,v,[]=>some (v,t)
 | t,v,p::r=>match Oq (AO s t) v p with
  | none=>none
  | some (k,u)=>match v.items[k]? with
   | none=>none
   | some w=>Gz s u w r
def GA (s:List Aa):Int->List Int->ByteArray
 | _,[]=>⟨#[]⟩
 | t,p::r=>match (AO s t).AA.find? fun m=>decide (m.id=p) with
  | some m=>⟨#[46]⟩++m.name++GA s m.type r
  | none=>⟨#[91]⟩++CX p++⟨#[93]⟩++GA s (AO s t).elem r
structure xY (s:List Aa):Prop where
 no:∀t,(AO s t).kind≠5->(AO s t).kind≠6->(AO s t).AA=[]
theorem Ql (v:Val) {y:Val} (hy:y∈v.keys\/y∈v.items):SizeOf.sizeOf y<SizeOf.sizeOf v:=by
 obtain ⟨k,b,i,st,id,ks,is,r⟩:=v;simp only[Val.mk.sizeOf_spec]
 rcases hy with h|h
 ·have:=List.sizeOf_lt_of_mem (show y∈ks from h);omega
 ·have:=List.sizeOf_lt_of_mem (show y∈is from h);omega
theorem Tz (v:Val):0<SizeOf.sizeOf v:=by
 obtain ⟨k,b,i,st,id,ks,is,r⟩:=v;simp only[Val.mk.sizeOf_spec]
 omega
variable {v:Val}
theorem NE {pl:Bool} {f g:Int->Val->Bool} {x:Aa} (h:∀t y,(y∈v.keys\/y∈v.items)->f t y=true->g t y=true) (hf:Ak f pl x v=true):Ak g pl x v=true:=by
 unfold Ak at hf ⊢
 by_cases h2:x.kind=2
 ·rw[AAH h2] at hf ⊢;exact hf
 rw[Pd h2] at hf ⊢
 by_cases h3:x.kind=3
 ·rw[AAH h3] at hf ⊢;exact hf
 rw[Pd h3] at hf ⊢
 by_cases h4:x.kind=4
 ·rw[AAH h4] at hf ⊢;exact hf
 rw[Pd h4] at hf ⊢
 by_cases h5:x.kind=5
 ·rw[AAH h5] at hf ⊢
  rw[AAM,AAj] at hf ⊢;refine ⟨hf.1,fun p hp=>h _ _ (Or.inr ?_) (hf.2 p hp)⟩
  obtain ⟨a,b⟩:=p;exact (List.of_mem_zip hp).2
 rw[Pd h5] at hf ⊢
 by_cases h6:x.kind=6
 ·rw[AAH h6] at hf ⊢
  cases hm:x.AA.find? fun m=>decide (m.id=v.id) with
  | none=>rw[hm] at hf;exact hf
  | some m =>
   rw[hm] at hf;simp only[AAM,AAj] at hf ⊢;exact ⟨hf.1,fun y hy=>h _ _ (Or.inr hy) (hf.2 y hy)⟩
 rw[Pd h6] at hf ⊢
 by_cases h7:x.kind=7
 ·rw[AAH h7] at hf ⊢
  simp only[AAM,AAj] at hf ⊢;exact ⟨hf.1,fun y hy=>h _ _ (Or.inr hy) (hf.2 y hy)⟩
 rw[Pd h7] at hf ⊢
 by_cases h8:x.kind=8
 ·rw[AAH h8] at hf ⊢
  simp only[AAM,AAj] at hf ⊢;exact ⟨⟨⟨hf.1.1.1,fun y hy=>h _ _ (Or.inl hy) (hf.1.1.2 y hy)⟩,hf.1.2⟩,fun y hy=>h _ _ (Or.inr hy) (hf.2 y hy)⟩
 rw[Pd h8] at hf ⊢
 by_cases h9:x.kind=9
 ·rw[AAH h9] at hf ⊢
  simp only[AAM,AAj] at hf ⊢;exact ⟨hf.1,fun y hy=>h _ _ (Or.inr hy) (hf.2 y hy)⟩
 rw[Pd h9]
theorem Q5 {s:List Aa} {pl:Bool}:∀ (n:Nat) (t:Int) (v:Val),Ad s pl n t v=true->Ad s pl (n+1) t v=true
 | 0,_,_,h=>by cases h
 | n+1,t,v,h=>by
  rw[Ad] at h ⊢
  split at h
  ·cases h
  ·rename_i h1
   rw[Pd h1]
   split at h
   ·cases h
   ·rename_i h2
    rw[Pd h2];exact NE (fun u y _ hy=>Q5 n u y hy) h
theorem YG {pl:Bool} {t:Int} {n:Nat} (h:Ad s pl n t v=true):∀m,n<=m->Ad s pl m t v=true:=fun m hm=>by
 induction m with
 | zero=>rw[Nat.le_zero.1 hm] at h;exact h
 | succ m ih =>
  rcases Nat.lt_or_ge m n with h1|h1
  ·rw[show m+1=n by omega];exact h
  ·exact Q5 m t v (ih h1)
theorem E5 {s:List Aa} {pl:Bool}:∀ (n:Nat) (t:Int) (v:Val),Ad s pl n t v=true->Ad s pl (SizeOf.sizeOf v) t v=true
 | 0,_,_,h=>by cases h
 | n+1,t,v,h=>by
  obtain ⟨k,hk⟩:∃k,SizeOf.sizeOf v=k+1:=⟨SizeOf.sizeOf v - 1,by have:=Tz v;omega⟩
  rw[hk];rw[Ad] at h ⊢
  split at h
  ·cases h
  ·rename_i h1
   rw[Pd h1]
   split at h
   ·cases h
   ·rename_i h2
    rw[Pd h2];exact NE (fun u y hy hf=>YG (E5 n u y hf) k (by have:=Ql v hy;omega)) h
theorem Rw {t:Int} (h:okV s t v):Bc s false t v=true:=by
 obtain ⟨n,h⟩:=h;exact E5 n t v h
open Go.RowKit
def D5 (v:Val) (w:World) (e:Ending) (w':World):Prop:=∃B1 d1 B2 d2 B3 d3,e = .returned ((Ar v).v B1 d1 B2 d2 B3 d3)/\Below w.heap.size w w'
theorem Dh (w:World) (o1 o2 o3:Obj):Below w.heap.size w (((w.alloc o1).alloc o2).alloc o3):=zB (zB (zD w o1) (zD _ o2)) (zD _ o3)
theorem Z7 (v:Val) (hk:v.kind=1) (A1:zo) (c1:Nat) (A2:zo) (c2:Nat) (A3:zo) (c3:Nat) (w:World) :
  Calls Tryz.prog 146 #[v.v A1 c1 A2 c2 A3 c3] w (D5 v w):=by
 have HB:Hid (Ar v = .mk 1 v.bool 0 ⟨#[]⟩ 0 [] [] []):=by show _=_;unfold Ar;simp[hk]
 have F5:=zh (fun o1 o2 o3=>Dh w o1 o2 o3)
 go_enter Tryz.func146,Tryz.ntmps146
 go_wp2
 refine bodyPost_ret (v:=Val.v (.mk 1 v.bool 0 ⟨#[]⟩ 0 [] [] []) none 0 none 0 none 0) (by simp only[results,Tryz.results146];go_simp;exact ⟨rfl,rfl,rfl,rfl,rfl,rfl,rfl,rfl⟩) rfl ⟨_,_,_,_,_,_,by rw[HB.out],F5.out _ _ _⟩
theorem iy (v:Val) (hk:v.kind=2) (A1:zo) (c1:Nat) (A2:zo) (c2:Nat) (A3:zo) (c3:Nat) (w:World) :
  Calls Tryz.prog 146 #[v.v A1 c1 A2 c2 A3 c3] w (D5 v w):=by
 have HB:Hid (Ar v = .mk 2 false v.int ⟨#[]⟩ 0 [] [] []):=by show _=_;unfold Ar;simp[hk]
 have F5:=zh (fun o1 o2 o3=>Dh w o1 o2 o3)
 go_enter Tryz.func146,Tryz.ntmps146
 go_wp2
 refine bodyPost_ret (v:=Val.v (.mk 2 false v.int ⟨#[]⟩ 0 [] [] []) none 0 none 0 none 0) (by simp only[results,Tryz.results146];go_simp;exact ⟨rfl,rfl,rfl,rfl,rfl,rfl,rfl,rfl⟩) rfl ⟨_,_,_,_,_,_,by rw[HB.out],F5.out _ _ _⟩
theorem ic (v:Val) (hk:v.kind=3) (A1:zo) (c1:Nat) (A2:zo) (c2:Nat) (A3:zo) (c3:Nat) (w:World) :
  Calls Tryz.prog 146 #[v.v A1 c1 A2 c2 A3 c3] w (D5 v w):=by
 have HB:Hid (Ar v = .mk 3 false 0 v.str 0 [] [] []):=by show _=_;unfold Ar;simp[hk]
 have F5:=zh (fun o1 o2 o3=>Dh w o1 o2 o3)
 go_enter Tryz.func146,Tryz.ntmps146
 go_wp2
 refine bodyPost_ret (v:=Val.v (.mk 3 false 0 v.str 0 [] [] []) none 0 none 0 none 0) (by simp only[results,Tryz.results146];go_simp;exact ⟨rfl,rfl,rfl,rfl,rfl,rfl,rfl,rfl⟩) rfl ⟨_,_,_,_,_,_,by rw[HB.out],F5.out _ _ _⟩
theorem Z6 (v:Val) (hk:v.kind=4) (A1:zo) (c1:Nat) (A2:zo) (c2:Nat) (A3:zo) (c3:Nat) (w:World) :
  Calls Tryz.prog 146 #[v.v A1 c1 A2 c2 A3 c3] w (D5 v w):=by
 have HB:Hid (Ar v = .mk 4 false 0 ⟨#[]⟩ v.id [] [] []):=by show _=_;unfold Ar;simp[hk]
 have F5:=zh (fun o1 o2 o3=>Dh w o1 o2 o3)
 go_enter Tryz.func146,Tryz.ntmps146
 go_wp2
 refine bodyPost_ret (v:=Val.v (.mk 4 false 0 ⟨#[]⟩ v.id [] [] []) none 0 none 0 none 0) (by simp only[results,Tryz.results146];go_simp;exact ⟨rfl,rfl,rfl,rfl,rfl,rfl,rfl,rfl⟩) rfl ⟨_,_,_,_,_,_,by rw[HB.out],F5.out _ _ _⟩
theorem Z5 (v:Val) (hk:v.kind=7) (A1:zo) (c1:Nat) (A2:zo) (c2:Nat) (A3:zo) (c3:Nat) (w:World) :
  Calls Tryz.prog 146 #[v.v A1 c1 A2 c2 A3 c3] w (D5 v w):=by
 have HB:Hid (Ar v = .mk 7 false 0 ⟨#[]⟩ 0 [] v.items []):=by show _=_;unfold Ar;simp[hk]
 have F5:=zh (fun o1 o2 o3=>Dh w o1 o2 o3)
 go_enter Tryz.func146,Tryz.ntmps146
 go_wp2
 refine bodyPost_ret (v:=Val.v (.mk 7 false 0 ⟨#[]⟩ 0 [] v.items []) none 0 A2 c2 none 0) (by simp only[results,Tryz.results146];go_simp;exact ⟨rfl,rfl,rfl,rfl,rfl,rfl,rfl,rfl⟩) rfl ⟨_,_,_,_,_,_,by rw[HB.out],F5.out _ _ _⟩
theorem iq (v:Val) (hk:v.kind=9) (A1:zo) (c1:Nat) (A2:zo) (c2:Nat) (A3:zo) (c3:Nat) (w:World) :
  Calls Tryz.prog 146 #[v.v A1 c1 A2 c2 A3 c3] w (D5 v w):=by
 have HB:Hid (Ar v = .mk 9 false 0 ⟨#[]⟩ 0 [] v.items []):=by show _=_;unfold Ar;simp[hk]
 have F5:=zh (fun o1 o2 o3=>Dh w o1 o2 o3)
 go_enter Tryz.func146,Tryz.ntmps146
 go_wp2
 refine bodyPost_ret (v:=Val.v (.mk 9 false 0 ⟨#[]⟩ 0 [] v.items []) none 0 A2 c2 none 0) (by simp only[results,Tryz.results146];go_simp;exact ⟨rfl,rfl,rfl,rfl,rfl,rfl,rfl,rfl⟩) rfl ⟨_,_,_,_,_,_,by rw[HB.out],F5.out _ _ _⟩
theorem ig (v:Val) (hk:v.kind=5) (A1:zo) (c1:Nat) (A2:zo) (c2:Nat) (A3:zo) (c3:Nat) (w:World) :
  Calls Tryz.prog 146 #[v.v A1 c1 A2 c2 A3 c3] w (D5 v w):=by
 have HB:Hid (Ar v = .mk 5 false 0 ⟨#[]⟩ 0 [] v.items v.rest):=by show _=_;unfold Ar;simp[hk]
 have F5:=zh (fun o1 o2 o3=>zC (Dh w o1 o2 o3) 1)
 go_enter Tryz.func146,Tryz.ntmps146
 go_upto_region 12 with fail
 refine wp_region_held_drew (S:=(fun w'=>(w'.cell? ⟨w.heap.size,6,none⟩=some (.slice A2 v.items.length c2)/\w'.cell? ⟨w.heap.size,7,none⟩=some (.slice A3 v.rest.length c3)))) (by kernel_rfl) ?_ (fun AQ=>?_)
 ·(try dsimp only);go_simp
 refine tL 0 ?_;refine tL 1 ?_;refine tL 2 ?_;refine tL 3 ?_;refine tL 4 ?_;refine tR 5 (fun K hK=>?_)
 go_simp
 refine hK.out _ _ ?_ (fun AQ=>?_)
 ·(try dsimp only);go_simp
 clear hK K;try simp only[ps]
 refine tL 6 ?_;refine tR 7 (fun K hK=>?_)
 go_simp
 refine hK.out _ _ ?_ (fun AQ=>?_)
 ·(try dsimp only);go_simp
 clear hK K;refine wpAnyH_done (by kernel_rfl) ?_ _
 clear AQ;go_wp2;refine bodyPost_ret (v:=Val.v (.mk 5 false 0 ⟨#[]⟩ 0 [] v.items v.rest) none 0 A2 c2 A3 c3) (by simp only[results,Tryz.results146];go_simp;exact ⟨rfl,rfl,rfl,rfl,rfl,rfl,rfl,rfl⟩) rfl ⟨_,_,_,_,_,_,by rw[HB.out],F5.out _ _ _⟩
theorem iZ (v:Val) (hk:v.kind=6) (A1:zo) (c1:Nat) (A2:zo) (c2:Nat) (A3:zo) (c3:Nat) (w:World) :
  Calls Tryz.prog 146 #[v.v A1 c1 A2 c2 A3 c3] w (D5 v w):=by
 have HB:Hid (Ar v = .mk 6 false 0 ⟨#[]⟩ v.id [] v.items v.rest):=by show _=_;unfold Ar;simp[hk]
 have F5:=zh (fun o1 o2 o3=>zC (Dh w o1 o2 o3) 1)
 go_enter Tryz.func146,Tryz.ntmps146
 go_upto_region 14 with fail
 refine wp_region_held_drew (S:=(fun w'=>(w'.cell? ⟨w.heap.size,4,none⟩=some (.int .i64 v.id)/\w'.cell? ⟨w.heap.size,6,none⟩=some (.slice A2 v.items.length c2)/\w'.cell? ⟨w.heap.size,7,none⟩=some (.slice A3 v.rest.length c3)))) (by kernel_rfl) ?_ (fun AQ=>?_)
 ·(try dsimp only);go_simp
 refine tL 0 ?_;refine tL 1 ?_;refine tL 2 ?_;refine tL 3 ?_;refine tL 4 ?_;refine tL 5 ?_;try simp only[ps]
 refine tL 6 ?_;refine tR 7 (fun K hK=>?_)
 go_simp
 refine hK.out _ _ ?_ (fun AQ=>?_)
 ·(try dsimp only);go_simp
 clear hK K;refine tL 8 ?_;refine tR 9 (fun K hK=>?_)
 go_simp
 refine hK.out _ _ ?_ (fun AQ=>?_)
 ·(try dsimp only);go_simp
 clear hK K;refine tL 10 ?_;refine tR 11 (fun K hK=>?_)
 go_simp
 refine hK.out _ _ ?_ (fun AQ=>?_)
 ·(try dsimp only);go_simp
 clear hK K;try simp only[ps]
 refine wpAnyH_done (by kernel_rfl) ?_ _
 clear AQ;go_wp2;refine bodyPost_ret (v:=Val.v (.mk 6 false 0 ⟨#[]⟩ v.id [] v.items v.rest) none 0 A2 c2 A3 c3) (by simp only[results,Tryz.results146];go_simp;exact ⟨rfl,rfl,rfl,rfl,rfl,rfl,rfl,rfl⟩) rfl ⟨_,_,_,_,_,_,by rw[HB.out],F5.out _ _ _⟩
theorem iw (v:Val) (hk:v.kind=8) (A1:zo) (c1:Nat) (A2:zo) (c2:Nat) (A3:zo) (c3:Nat) (w:World) :
  Calls Tryz.prog 146 #[v.v A1 c1 A2 c2 A3 c3] w (D5 v w):=by
 have HB:Hid (Ar v = .mk 8 false 0 ⟨#[]⟩ 0 v.keys v.items []):=by show _=_;unfold Ar;simp[hk]
 have F5:=zh (fun o1 o2 o3=>zC (Dh w o1 o2 o3) 1)
 go_enter Tryz.func146,Tryz.ntmps146
 go_upto_region 16 with fail
 refine wp_region_held_drew (S:=(fun w'=>(w'.cell? ⟨w.heap.size,5,none⟩=some (.slice A1 v.keys.length c1)/\w'.cell? ⟨w.heap.size,6,none⟩=some (.slice A2 v.items.length c2)))) (by kernel_rfl) ?_ (fun AQ=>?_)
 ·(try dsimp only);go_simp
 refine tL 0 ?_;refine tL 1 ?_;refine tL 2 ?_;refine tL 3 ?_;refine tL 4 ?_;refine tR 5 (fun K hK=>?_)
 go_simp
 refine hK.out _ _ ?_ (fun AQ=>?_)
 ·(try dsimp only);go_simp
 clear hK K;try simp only[ps]
 refine tL 6 ?_;refine tR 7 (fun K hK=>?_)
 go_simp
 refine hK.out _ _ ?_ (fun AQ=>?_)
 ·(try dsimp only);go_simp
 clear hK K;refine wpAnyH_done (by kernel_rfl) ?_ _
 clear AQ;go_wp2;refine bodyPost_ret (v:=Val.v (.mk 8 false 0 ⟨#[]⟩ 0 v.keys v.items []) A1 c1 A2 c2 none 0) (by simp only[results,Tryz.results146];go_simp;exact ⟨rfl,rfl,rfl,rfl,rfl,rfl,rfl,rfl⟩) rfl ⟨_,_,_,_,_,_,by rw[HB.out],F5.out _ _ _⟩
theorem jA (v:Val) (h:1<=v.kind/\v.kind<=9) (A1:zo) (c1:Nat) (A2:zo) (c2:Nat) (A3:zo) (c3:Nat) (w:World) :
  Calls Tryz.prog 146 #[v.v A1 c1 A2 c2 A3 c3] w (D5 v w):=by
 have hk:v.kind=1\/v.kind=2\/v.kind=3\/v.kind=4\/v.kind=5\/v.kind=6\/v.kind=7\/v.kind=8\/v.kind=9:=by omega
 rcases hk with h|h|h|h|h|h|h|h|h
 ·exact Z7 v h A1 c1 A2 c2 A3 c3 w
 ·exact iy v h A1 c1 A2 c2 A3 c3 w
 ·exact ic v h A1 c1 A2 c2 A3 c3 w
 ·exact Z6 v h A1 c1 A2 c2 A3 c3 w
 ·exact ig v h A1 c1 A2 c2 A3 c3 w
 ·exact iZ v h A1 c1 A2 c2 A3 c3 w
 ·exact Z5 v h A1 c1 A2 c2 A3 c3 w
 ·exact iw v h A1 c1 A2 c2 A3 c3 w
 ·exact iq v h A1 c1 A2 c2 A3 c3 w
open Go.RowKit
theorem bytes_beq (a b:ByteArray):(a.toList==b.toList)=decide (a=b):=by
 rw[Lib.toList_data,Lib.toList_data]
 by_cases h:a=b
 ·subst h;simp
 ·have:¬ a.data.toList=b.data.toList:=fun e=>h (Go.WideShapes.bytes_inj e)
  rw[AAZ h];simpa using this
section
variable {P:Program} (w:World)
theorem UA {P:Program} (w:World) (t:TypeId) (k k':IntKind) (cs:Array Value) (off:Nat) (n:Int) (ht:P.underlying t=some (.int k')) (hc:cs[off]? = some (.int k n)) :
  (part t cs off).run P w = .ok (.int k n) w:=by
 unfold part;simp[go_sem,isAgg,run_underlying ht,hc]
theorem T9 {P:Program} (w:World) (t:TypeId) (cs:Array Value) (off:Nat) (n:ByteArray) (ht:P.underlying t=some .string) (hc:cs[off]? = some (.string n)) :
  (part t cs off).run P w = .ok (.string n) w:=by
 unfold part;simp[go_sem,isAgg,run_underlying ht,hc]
theorem nY (d : Nat) (xs ys : Array Value) (f : Field) (fs : List Field) (a b : Int) (k k' : IntKind) (hn : f.name ≠ "_")
  (hx:(part f.type xs f.offset).run P w = .ok (.int k a) w) (hy:(part f.type ys f.offset).run P w = .ok (.int k b) w) (ht:P.underlying f.type=some (.int k')) :
  (Op.eqFields (d+1) xs ys (f::fs)).run P w=if a=b then (Op.eqFields (d+1) xs ys fs).run P w else .ok false w:=by
 simp only[Op.eqFields,AAH hn,Sem.run_bind,hx,hy,Result.andThen_ok,run_equalIn_int w d f.type k k' a b ht]
 by_cases h:a=b
 ·subst h;simp
 ·have:(a==b)=false:=by simpa using h
  simp[this,h]
theorem nX (d : Nat) (xs ys : Array Value) (f : Field) (fs : List Field) (a b : ByteArray) (hn : f.name ≠ "_")
  (hx:(part f.type xs f.offset).run P w = .ok (.string a) w) (hy:(part f.type ys f.offset).run P w = .ok (.string b) w) (ht:P.underlying f.type=some .string) :
  (Op.eqFields (d+1) xs ys (f::fs)).run P w=if a=b then (Op.eqFields (d+1) xs ys fs).run P w else .ok false w:=by
 simp only[Op.eqFields,AAH hn,Sem.run_bind,hx,hy,Result.andThen_ok,run_equalIn_string w d f.type a b ht,bytes_beq]
 by_cases h:a=b
 ·subst h;simp
 ·simp[h]
end
theorem eT:Tryz.prog.underlying 97=some (.struct (Tryz.prog.fieldsOf 97)):=by
 unfold Program.fieldsOf;rw[Tryz.underlying97]
theorem N8 (d:Nat) (a b:Int) (s t:ByteArray) (w:World):(Op.equalIn (d+2) 97 (.agg #[.int .i64 a,.string s]) (.agg #[.int .i64 b,.string t])).run Tryz.prog w = .ok (decide (a=b/\s=t)) w:=by
 rw[run_equalIn_struct w (d+1) 97 _ _ eT (by kernel_rfl)]
 unfold Program.fieldsOf;rw[Tryz.underlying97];simp only;rw[nY w d _ _ _ _ a b .i64 .i64 (by decide) (UA w _ .i64 .i64 _ _ a Tryz.underlying3 rfl) (UA w _ .i64 .i64 _ _ b Tryz.underlying3 rfl) Tryz.underlying3,
  nX w d _ _ _ _ s t (by decide) (T9 w _ _ _ s Tryz.underlying9 rfl) (T9 w _ _ _ t Tryz.underlying9 rfl) Tryz.underlying9]
 by_cases h:a=b <;> by_cases h2:s=t <;> simp[h,h2,Op.eqFields]
theorem NY (a b:Int) (s t:ByteArray) (w:World):(binOp .neq 97 (.agg #[.int .i64 a,.string s]) (.agg #[.int .i64 b,.string t])).run Tryz.prog w = .ok (.bool (!decide (a=b/\s=t))) w:=by
 rw[run_neq_struct,N8 9998];rfl
variable {k:Nat}
theorem Ol {α:Type} {l m:List α} (hl:k<l.length) (hm:k<m.length) (h:l.take k=m.take k) (he:l[k]=m[k]):l.take (k+1)=m.take (k+1):=by
 rw[ABd hl,ABd hm,h,he]
theorem Oj {α:Type} [DecidableEq α] {l m:List α} (hl:k<l.length) (hm:k<m.length) (he:¬ l[k]=m[k]):decide (l=m)=false :=
 AAZ fun e=>he (by subst e;rfl)
theorem TT {α:Type} [DecidableEq α] {l m:List α} (hk:¬ k<l.length) (hlen:l.length=m.length) (h:l.take k=m.take k):decide (l=m)=true :=
 AAT (by rwa [List.take_of_length_le (by omega),List.take_of_length_le (by omega)] at h)
theorem Af.ext_iff' (x y:Af):(x.id=y.id/\x.data=y.data)↔x=y:=by
 cases x;cases y;simp
theorem Bq.ext_iff' (x y:Bq):(x.id=y.id/\x.name=y.name)↔x=y:=by
 cases x;cases y;simp
theorem EK.lt {b n:Nat} (h:EK b n) (hb:0<b):n<=140737488355328:=Nat.le_trans (Nat.le_mul_of_pos_right n hb) h
open Go.RowKit
theorem Val.ext_iff' (x y:Val):x=y↔(x.kind=y.kind/\x.bool=y.bool/\x.int=y.int/\x.str=y.str/\x.id=y.id/\x.rest=y.rest/\x.keys=y.keys/\x.items=y.items):=by
 obtain ⟨k,b,i,s,d,ks,is,r⟩:=x;obtain ⟨k',b',i',s',d',ks',is',r'⟩:=y;simp only[Val.mk.injEq,Val.kind,Val.bool,Val.int,Val.str,Val.id,Val.rest,Val.keys,Val.items]
 constructor
 ·rintro ⟨a1,a2,a3,a4,a5,a6,a7,a8⟩;exact ⟨a1,a2,a3,a4,a5,a8,a6,a7⟩
 ·rintro ⟨a1,a2,a3,a4,a5,a8,a6,a7⟩;exact ⟨a1,a2,a3,a4,a5,a6,a7,a8⟩
theorem JB {x y:Val} (h:¬ (x.kind=y.kind/\x.bool=y.bool/\x.int=y.int/\x.str=y.str/\x.id=y.id/\x.rest=y.rest/\x.keys=y.keys/\x.items=y.items)):decide (x=y)=false :=
 AAZ fun e=>h ((Val.ext_iff' x y).1 e)
def Hy (b:Bool) (w:World) (e:Ending) (w':World):Prop:=e = .returned (.bool b)/\Below w.heap.size w w'
open Go.RowKit
theorem yI (n : Int) (w : World) : Calls Tryz.prog 116 #[.int .u8 n] w fun e w' => e = .returned (.bool (Ho n)) /\ w = w' := by
  by_cases h1 : n = 95
  · subst h1
    go_enter Tryz.func116, Tryz.ntmps116
    go_wp2
    go_ret
    exact ⟨rfl, rfl⟩
  have e1 : (n == 95) = false := by simp [h1]
  by_cases h2 : 97 <= n <;> by_cases h3 : n <= 122 <;> by_cases h4 : 65 <= n <;> by_cases h5 : n <= 90
  all_goals first
    | (exfalso; omega)
    | (have HL := zh (show Ho n = _ by unfold Ho; simp only [h1, h2, h3, h4, h5]; rfl)
       clear h1
       go_enter Tryz.func116, Tryz.ntmps116
       go_wp2
       go_ret
       exact ⟨by rw [HL.out]; rfl, rfl⟩)
theorem BR (n : Int) (w : World) : Calls Tryz.prog 117 #[.int .u8 n] w fun e w' => e = .returned (.bool (Hw n)) /\ w = w' := by
  by_cases h2 : 48 <= n <;> by_cases h3 : n <= 57
  all_goals
    (have HL := zh (show Hw n = _ by unfold Hw; simp only [h2, h3]; rfl)
     go_enter Tryz.func117, Tryz.ntmps117
     go_wp2
     go_ret
     exact ⟨by rw [HL.out]; rfl, rfl⟩)
open Go.RowKit
theorem Pf {s:ByteArray} (h:0<s.size):s.toList≠[]:=by
 intro e
 rw[Lib.toList_data] at e;have:s.data.toList.length=s.size:=by simp
 rw[e] at this;simp at this;omega
open Go.RowKit
abbrev kS:ByteArray->Value:=Value.string
open Go.RowKit
def xZ (W:World) (b:Nat) (m:AY) (A1:zo) (c1:Nat) (A2:zo) (c2:Nat) (A3:zo) (c3:Nat):Prop:=W.heap[b]? = some (.cells #[.int .i64 m.id,.string m.name,.int .i64 m.type,.bool m.critical,.bool m.EY,.int .i64 m.dflt.kind,.bool m.dflt.bool,.int .i64 m.dflt.int,.string m.dflt.str,.int .i64 m.dflt.id,.slice A1 m.dflt.keys.length c1,.slice A2 m.dflt.items.length c2,.slice A3 m.dflt.rest.length c3] 118 (0,0))
theorem xZ.cell {W:World} {b:Nat} {m:AY} {A1:zo} {c1:Nat} {A2:zo} {c2:Nat} {A3:zo} {c3:Nat} (h:xZ W b m A1 c1 A2 c2 A3 c3) (j:Nat):W.cell? ⟨b,j,none⟩=(#[.int .i64 m.id,.string m.name,.int .i64 m.type,.bool m.critical,.bool m.EY,.int .i64 m.dflt.kind,.bool m.dflt.bool,.int .i64 m.dflt.int,.string m.dflt.str,.int .i64 m.dflt.id,.slice A1 m.dflt.keys.length c1,.slice A2 m.dflt.items.length c2,.slice A3 m.dflt.rest.length c3]:Array Value)[j]? := AAN _ _ _ _ _ _ h
mutual
def KR:Val->Prop
 | .mk _ _ _ s _ ks is rs=>s.size<=140737488355328/\(∀r∈rs,r.data.size<=140737488355328)/\RD ks/\RD is
def RD:List Val->Prop
 | []=>True
 | v::l=>KR v/\RD l
end
theorem G8:∀l:List Val,RD l↔∀v∈l,KR v
 | []=>by rw[RD];exact ⟨fun _ _ h=>(by cases h),fun _=>trivial⟩
 | v::l=>by
  rw[RD,G8 l];simp only[AAi,forall_eq_or_imp]
theorem KR.out (h:KR v):v.str.size<=140737488355328/\(∀r∈v.rest,r.data.size<=140737488355328)/\(∀y∈v.keys,KR y)/\(∀y∈v.items,KR y):=by
 obtain ⟨k,b,i,s,d,ks,is,rs⟩:=v;rw[KR] at h;exact ⟨h.1,h.2.1,(G8 ks).1 h.2.2.1,(G8 is).1 h.2.2.2⟩
variable {l:List Af}
theorem lH (h:n<0):Nz l n=n:=by
 cases l with
 | nil=>rw[Nz]
 | cons a r=>rw[Nz,AAH h]
theorem XY {l:List Val} (h:n<0):NW l n=n:=by
 cases l with
 | nil=>rw[NW]
 | cons a r=>rw[NW,AAH h]
variable {i:Nat}
theorem qd (hi:i<l.length) (h:0<=n):Nz (l.drop i) n=Nz (l.drop (i+1)) (n - (l[i]).data.size):=by
 rw[ABJ hi,Nz,Pd (by omega)]
theorem dO {l:List Val} (hi:i<l.length) (h:0<=n):NW (l.drop i) n=NW (l.drop (i+1)) (NV l[i] n):=by
 rw[ABJ hi,NW,Pd (by omega)]
theorem lI (h:l.length<=i):Nz (l.drop i) n=n:=by
 rw[ABW h,Nz]
theorem XZ {l:List Val} (h:l.length<=i):NW (l.drop i) n=n:=by
 rw[ABW h,NW]
theorem lG (v:Val) (n:Int):NV v n=NW v.items (NW v.keys (Nz v.rest (n - (10+v.str.size+v.rest.length)))):=by
 obtain ⟨k,b,i,s,d,ks,is,rs⟩:=v;rw[NV];rfl
def jG (v:Val):Prop:=0<=NV v 3000
theorem dU (h:jG v):kV v<=3000:=by
 have:=dM v 3000 h;unfold jG at h
 omega
end Go.Proofs.YthkkllmmbefedaaGreatDoor



