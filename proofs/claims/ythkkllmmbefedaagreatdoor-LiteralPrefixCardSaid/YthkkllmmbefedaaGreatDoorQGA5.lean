/-
  No string of a value is too long; what size computes: plain Lean.
-/
import Derived.Test.YthkkllmmbefedaaGreatDoorQGA4
import Derived.Deep.DeepCutAuto
import Derived.Lib.Bytealg
namespace Go.Proofs.YthkkllmmbefedaaGreatDoor
open Tryz
set_option maxHeartbeats 16000000
set_option maxRecDepth 100000
theorem ZW:∀ (L:List (Int×ByteArray)) (b:Int) (K:List ByteArray),OU b K L=true ->
  (∀x∈L,b<x.1/\1<=x.1/\x.1<=1000/\Bz x.2=true/\LV x.2 K=false)/\(L.map (·.1)).Nodup/\(L.map (·.2)).Nodup
 | [],_,_,_=>⟨fun _ h=>(by cases h),List.nodup_nil,List.nodup_nil⟩
 | x::L,b,K,h=>by
  rw[OU] at h;simp only[AAD,AAV,Bool.not_eq_true'] at h;obtain ⟨⟨⟨⟨⟨h1,h2⟩,h3⟩,h4⟩,h5⟩,h6⟩:=h;obtain ⟨g1,g2,g3⟩:=ZW L x.1 (K++[x.2]) h6;have hk:∀y∈L,y.2≠x.2/\LV y.2 K=false:=fun y hy=>by
   have:=(g1 y hy).2.2.2.2;rw[Rj,Bool.or_eq_false_iff] at this;exact ⟨of_decide_eq_false this.2,this.1⟩
  refine ⟨fun y hy=>?_,?_,?_⟩
  ·rcases ABP.1 hy with rfl|hy
   ·exact ⟨h3,h1,h2,h5,h4⟩
   ·have:=g1 y hy
    exact ⟨by omega,this.2.1,this.2.2.1,this.2.2.2.1,(hk y hy).2⟩
  ·rw[ABh,List.nodup_cons]
   refine ⟨fun hm=>?_,g2⟩
   obtain ⟨y,hy,he⟩:=List.mem_map.1 hm;have:=(g1 y hy).1
   omega
  ·rw[ABh,List.nodup_cons]
   refine ⟨fun hm=>?_,g3⟩
   obtain ⟨y,hy,he⟩:=List.mem_map.1 hm;exact (hk y hy).1 he
theorem VX {L:List (Int×ByteArray)} (h:TT L=true):(∀x∈L,1<=x.1/\x.1<=1000/\Bz x.2=true)/\(L.map (·.1)).Nodup/\(L.map (·.2)).Nodup:=by
 unfold TT at h;rw[AAD] at h;obtain ⟨h1,h2,h3⟩:=ZW L 0 [] h.1;exact ⟨fun x hx=>⟨(h1 x hx).2.1,(h1 x hx).2.2.1,(h1 x hx).2.2.2.1⟩,h2,h3⟩
theorem X9 {t:Aa} (h:Gm t=true):(t.AX=[]\/TT (t.AX.map fun s=>(s.id,s.name))=true)/\(t.AA=[]\/TT (t.AA.map fun m=>(m.id,m.name))=true):=by
 unfold Gm at h;simp only[AAD,AAV] at h;obtain ⟨⟨⟨⟨hk1,hk2⟩,hp⟩,_⟩,hc⟩:=h;unfold LB at hc;have key:∀u:Aa,t=u->t.AX=u.AX/\t.AA=u.AA:=fun u e=>by rw[<-e];exact ⟨rfl,rfl⟩
 by_cases h4:t.kind=4
 ·rw[Pd (by omega),Pd (by omega),AAB h4] at hc
  unfold F6 at hp;rw[Pd (by omega),Pd (by omega),Pd (by omega),AAB h4] at hp
  unfold Yt at hc;rw[AAD] at hc;exact ⟨Or.inr hc.1,Or.inl (key _ hp).2⟩
 ·by_cases h5:t.kind=5
  ·rw[Pd (by omega),Pd (by omega),Pd (by omega),AAB h5] at hc
   unfold F6 at hp;rw[Pd (by omega),Pd (by omega),Pd (by omega),Pd (by omega),AAB h5] at hp
   unfold OJ at hc;simp only[AAD] at hc;exact ⟨Or.inl (key _ hp).1,Or.inr hc.1.2⟩
  ·by_cases h6:t.kind=6
   ·rw[Pd (by omega),Pd (by omega),Pd (by omega),Pd (by omega),AAB h6] at hc
    unfold F6 at hp;rw[Pd (by omega),Pd (by omega),Pd (by omega),Pd (by omega),Pd (by omega),AAB h6] at hp
    unfold OJ at hc;simp only[AAD] at hc;exact ⟨Or.inl (key _ hp).1,Or.inr hc.1.2⟩
   ·have:(F6 t).AX=[]/\(F6 t).AA=[]:=by
     unfold F6;rw[Pd h4,Pd h5,Pd h6]
     repeat' split
     all_goals exact ⟨rfl,rfl⟩
    exact ⟨Or.inl ((key _ hp).1.trans this.1),Or.inl ((key _ hp).2.trans this.2)⟩
theorem SI (s:List Aa) (t:Int):AO s t=Ai\/AO s t∈s:=by
 unfold AO;rw[AA1]
 cases h:s[t.toNat]? with
 | none=>exact Or.inl rfl
 | some x=>exact Or.inr (ABp h)
theorem Yz {s:List Aa} (hv:zQ s=0) (hn:DW s):R4 s:=by
 have hf:∀t,(∀y∈(AO s t).AX,(1<=y.id/\y.id<=1000)/\Bz y.name=true)/\(∀y∈(AO s t).AA,(1<=y.id/\y.id<=1000)/\Bz y.name=true) /\
   ((AO s t).AX.map Bu.id).Nodup/\((AO s t).AA.map Ac.id).Nodup/\((AO s t).AX.map Bu.name).Nodup/\((AO s t).AA.map Ac.name).Nodup:=fun t=>by
  rcases SI s t with h|h
  ·rw[h]
   exact ⟨fun _ h=>(by cases h),fun _ h=>(by cases h),List.nodup_nil,List.nodup_nil,List.nodup_nil,List.nodup_nil⟩
  ·obtain ⟨h1,h2⟩:=X9 (Dx hv h).1
   generalize AO s t=x at *;have hs:(∀y∈x.AX,(1<=y.id/\y.id<=1000)/\Bz y.name=true)/\(x.AX.map Bu.id).Nodup/\(x.AX.map Bu.name).Nodup:=by
    rcases h1 with h1|h1
    ·rw[h1];exact ⟨fun _ h=>(by cases h),List.nodup_nil,List.nodup_nil⟩
    ·obtain ⟨g1,g2,g3⟩:=VX h1
     rw[List.map_map] at g2 g3;exact ⟨fun y hy=>by
      have:=g1 _ (List.mem_map_of_mem hy);exact ⟨⟨this.1,this.2.1⟩,this.2.2⟩,g2,g3⟩
   have hm:(∀y∈x.AA,(1<=y.id/\y.id<=1000)/\Bz y.name=true)/\(x.AA.map Ac.id).Nodup/\(x.AA.map Ac.name).Nodup:=by
    rcases h2 with h2|h2
    ·rw[h2];exact ⟨fun _ h=>(by cases h),List.nodup_nil,List.nodup_nil⟩
    ·obtain ⟨g1,g2,g3⟩:=VX h2
     rw[List.map_map] at g2 g3;exact ⟨fun y hy=>by
      have:=g1 _ (List.mem_map_of_mem hy);exact ⟨⟨this.1,this.2.1⟩,this.2.2⟩,g2,g3⟩
   exact ⟨hs.1,hm.1,hs.2.1,hm.2.1,hs.2.2,hm.2.2⟩
 refine ⟨fun t=>?_,fun t=>(hf t).2.2.1,fun t=>?_,fun t h0 h1=>?_⟩
 ·obtain ⟨g1,g2,g3,g4,g5,g6⟩:=hf t
  exact ⟨⟨fun y hy=>(g1 y hy).1,fun y hy=>(g2 y hy).1⟩,g4,g5,g6⟩
 ·obtain ⟨g1,g2,_⟩:=hf t
  have hb:-9223372036854775808<=(AO s t).low/\(AO s t).high<=9223372036854775807:=by
   rcases SI s t with h|h
   ·rw[h];exact ⟨by decide,by decide⟩
   ·exact ⟨(hn _ h).1.1,(hn _ h).2.2⟩
  exact ⟨fun y hy=>(g1 y hy).2,fun y hy=>(g2 y hy).2,hb.1,hb.2⟩
 ·have h:=(Dx hv (GX ⟨h0,h1⟩)).1
  unfold Gm at h;simp only[AAD,AAV] at h;exact ⟨h.1.1.1.1,h.1.1.1.2⟩
mutual
def kV:Val->Nat
 | .mk _ _ _ s _ ks is rs=>10+s.size+rs.length+kR rs+kL ks+kL is
def kL:List Val->Nat
 | []=>0
 | v::l=>kV v+kL l
def kR:List Af->Nat
 | []=>0
 | r::l=>r.data.size+kR l
end
def Oi:List Af->Int->Int
 | [],n=>n
 | r::l,n=>if n<0 then n else Oi l (n - r.data.size)
mutual
def Qh:Val->Int->Int
 | .mk _ _ _ s _ ks is rs,n=>OG is (OG ks (Oi rs (n - (10+s.size+rs.length))))
def OG:List Val->Int->Int
 | [],n=>n
 | v::l,n=>if n<0 then n else OG l (Qh v n)
end
theorem XC:∀ (l:List Af) (n:Int),Oi l n<=n
 | [],_=>by rw[Oi];exact Int.le_refl _
 | r::l,n=>by
  rw[Oi];split
  ·exact Int.le_refl _
  ·have:=XC l (n - r.data.size);omega
mutual
theorem iL:∀ (v:Val) (n:Int),Qh v n<=n
 | .mk _ _ _ s _ ks is rs,n=>by
  rw[Qh];have h1:=XC rs (n - (10+s.size+rs.length));have h2:=Jf ks (Oi rs (n - (10+s.size+rs.length)));have h3:=Jf is (OG ks (Oi rs (n - (10+s.size+rs.length))))
  omega
theorem Jf:∀ (l:List Val) (n:Int),OG l n<=n
 | [],_=>by rw[OG];exact Int.le_refl _
 | v::l,n=>by
  rw[OG];split
  ·exact Int.le_refl _
  ·have h1:=iL v n
   have h2:=Jf l (Qh v n)
   omega
end
theorem iO:∀ (l:List Af) (n:Int),0<=Oi l n->Oi l n=n - kR l
 | [],n,_=>by rw[Oi,kR];omega
 | r::l,n,h=>by
  rw[Oi] at h ⊢
  split at h
  ·omega
  ·rename_i hn
   rw[Pd hn,kR];have:=iO l _ h
   omega
mutual
theorem iN:∀ (v:Val) (n:Int),0<=Qh v n->Qh v n=n - kV v
 | .mk _ _ _ s _ ks is rs,n,h=>by
  rw[Qh] at h ⊢;rw[kV];have h3:=XD is _ h;have g3:=Jf is (OG ks (Oi rs (n - (10+s.size+rs.length))));have h2:=XD ks (Oi rs (n - (10+s.size+rs.length))) (by omega)
  have g2:=Jf ks (Oi rs (n - (10+s.size+rs.length)));have h1:=iO rs (n - (10+s.size+rs.length)) (by omega)
  omega
theorem XD:∀ (l:List Val) (n:Int),0<=OG l n->OG l n=n - kL l
 | [],n,_=>by rw[OG,kL];omega
 | v::l,n,h=>by
  rw[OG] at h ⊢
  split at h
  ·omega
  ·rename_i hn
   rw[Pd hn,kL];have h2:=XD l _ h;have g2:=Jf l (Qh v n);have h1:=iN v n (by omega)
   omega
end
variable {n:Int}
theorem TU (h:1<=n/\n<=1000):(Ch n).size<=4:=by
 have:∀m:Fin 1001,(Lib.itoa ((m.1:Nat):Int)).length<=4:=by decide +kernel
 have h2:=this ⟨n.toNat,by omega⟩
 show (Lib.itoa n).toArray.size<=4
 rw[List.size_toArray];have e:((n.toNat:Nat):Int)=n:=by omega
 simp only[e] at h2;exact h2
variable {s:ByteArray}
theorem KU (h:Bz s=true):s.size<=24:=by
 unfold Bz at h;simp only[AAD,AAV] at h;exact h.1.1.2
theorem YE:∀ (l:List ByteArray),(Fv l).size<=(l.map fun b=>b.size+2).sum:=by
 intro l
 rw[lm];have:∀m:List ByteArray,(fD (m.map fun b=>b.data.toList)).length<=(m.map fun b=>b.size+2).sum:=fun m=>by
  induction m with
  | nil=>exact AAF _
  | cons x r ih =>
   cases r with
   | nil =>
    show x.data.toList.length<=x.size+2+0
    have:x.data.toList.length=x.size:=rfl
    omega
   | cons y q =>
    show (x.data.toList++44::32::fD ((y::q).map fun b=>b.data.toList)).length<=x.size+2+((y::q).map fun b=>b.size+2).sum
    have hx:x.data.toList.length=x.size:=rfl;rw[ABF,AAI,AAI,hx]
    omega
 exact this l
theorem SV {α:Type} (f:α->Nat) (g:α->Nat):∀l:List α,(∀x∈l,f x<=g x)->(l.map f).sum<=(l.map g).sum
 | [],_=>AAF _
 | x::l,h=>by
  rw[ABh,ABh,List.sum_cons,List.sum_cons];have h1:=h x (ABT ..);have h2:=SV f g l fun y hy=>h y (ABZ _ hy)
  omega
theorem kg:∀l:List Val,(l.map fun v=>12 * kV v).sum=12 * kL l
 | []=>rfl
 | v::l=>by rw[ABh,List.sum_cons,kg l,kL];omega
theorem kZ:∀l:List Af,(l.map fun r=>12 * (1+r.data.size)).sum=12 * (l.length+kR l)
 | []=>rfl
 | v::l=>by rw[ABh,List.sum_cons,kZ l,kR,AAI];omega
def WJ (f:Int->Val->ByteArray) (t:Int) (v:Val):Prop:=(f t v).size+28<=12 * kV v
theorem AAj (v:Val):kV v=10+v.str.size+v.rest.length+kR v.rest+kL v.keys+kL v.items:=by
 obtain ⟨_,_,_,_,_,_,_,_⟩:=v;rw[kV];rfl
theorem fu:∀ (ms:List Ac) (vs:List Val) (c:Ac×Val->Nat),vs.length=ms.length->(∀p∈ms.zip vs,c p<=12 * kV p.2)->((ms.zip vs).map c).sum<=12 * kL vs
 | [],[],_,_,_=>Nat.zero_le _
 | [],_::_,_,h,_=>by cases h
 | _::_,[],_,h,_=>by cases h
 | m::ms,v::vs,c,hl,h=>by
  have h1:=h (m,v) (ABT ..);have h2:=fu ms vs c (by simpa using hl) fun p hp=>h p (ABZ _ hp)
  rw[List.zip_cons_cons,ABh,List.sum_cons,kL];simp only at h1
  omega
theorem Yc:∀ (ks vs:List Val) (c:Val×Val->Nat),vs.length=ks.length->(∀p∈ks.zip vs,c p<=12 * kV p.1+12 * kV p.2)->((ks.zip vs).map c).sum<=12 * kL ks+12 * kL vs
 | [],[],_,_,_=>Nat.zero_le _
 | [],_::_,_,h,_=>by cases h
 | _::_,[],_,h,_=>by cases h
 | m::ms,v::vs,c,hl,h=>by
  have h1:=h (m,v) (ABT ..);have h2:=Yc ms vs c (by simpa using hl) fun p hp=>h p (ABZ _ hp)
  rw[List.zip_cons_cons,ABh,List.sum_cons,kL,kL];simp only at h1
  omega
theorem gT {s:List Aa} (hN:∀t,WG (AO s t)) (hI:∀t,ABO (AO s t)) (hK:∀t,0<=t->t<(s.length:Int)->1<=(AO s t).kind/\(AO s t).kind<=9):∀ (n:Nat) (t:Int) (v:Val),Ad s false n t v=true->WJ (Ae s n) t v
 | 0,_,_,h=>by cases h
 | n+1,t,v,hfit=>by
  obtain ⟨h1,h2,hk,hp,hf⟩:=Kc hfit;have hkr:=hK t h1 h2;have ih:=gT hN hI hK n;have hx:=hN t;have hy:=hI t;unfold WJ;rw[Ae,AAj];generalize AO s t=x at *;have hc:x.kind=1\/x.kind=2\/x.kind=3\/x.kind=4\/x.kind=5\/x.kind=6\/x.kind=7\/x.kind=8\/x.kind=9:=by omega
  unfold Ak at hf
  rcases hc with hc|hc|hc|hc|hc|hc|hc|hc|hc
  ·unfold Bg
   rw[AAB hc];have:(if v.bool then (⟨#[116,114,117,101]⟩:ByteArray) else ⟨#[102,97,108,115,101]⟩).size<=5:=by split <;> decide
   omega
  ·rw[AAB hc] at hf
   simp only[AAD,AAV] at hf;unfold Bg;rw[Pd (by omega),AAB hc]
   have g3:=hx.low;have g4:=hx.high;have:=Td (n:=v.int) ⟨by omega,by omega⟩
   omega
  ·unfold Bg
   rw[Pd (by omega),Pd (by omega),AAB hc]
   have:=Xb v.str
   omega
  ·rw[Pd (by omega),Pd (by omega),AAB hc] at hf
   unfold Bg;rw[Pd (by omega),Pd (by omega),Pd (by omega),AAB hc]
   cases hm:x.AX.find? fun y=>decide (y.id=v.id) with
   | some y =>
    have:=KU (hx.AX y (List.mem_of_find?_eq_some hm));simp only
    omega
   | none =>
    have hno:(x.AX.any fun y=>decide (y.id=v.id))=false:=by
     rw[List.any_eq_false]
     intro y hy hd
     exact (List.find?_eq_none.1 hm y hy) hd
    rw[hno,Bool.false_or,AAD] at hf;have:=TU (MZ.1 hf.2);simp only;rw[AAH,Cq]
    omega
  ·rw[Pd (by omega),Pd (by omega),Pd (by omega),AAB hc] at hf
   simp only[AAD] at hf;unfold Bg;rw[Pd (by omega),Pd (by omega),Pd (by omega),Pd (by omega),AAB hc]
   rw[AAH,AAH,Cq,Cq];have hl:=AAr hf.1.1.1;have h3:=YE ((x.AA.zip v.items).map (LU (Ae s n))++v.rest.map NR);rw[List.map_append,List.sum_append,List.map_map,List.map_map] at h3;have h4:=fu x.AA v.items ((fun b:ByteArray=>b.size+2)∘LU (Ae s n)) hl fun p hp=>by
    obtain ⟨i,hi,he⟩:=List.mem_iff_getElem.1 hp;rw[List.getElem_zip] at he;rw[List.length_zip] at hi;subst he;have:=ih _ _ (TB _ _ hf.2 i (by omega) (by omega))
    have hn:=KU (hx.AA _ (AAL (show i<x.AA.length by omega)))
    unfold WJ at this
    show (LU (Ae s n) _).size+2<=_
    unfold LU;rw[AAH,AAH]
    show _+2+_+2<=_
    simp only
    omega
   have h5:=SV ((fun b:ByteArray=>b.size+2)∘NR) (fun r=>12 * (1+r.data.size)) v.rest fun r hr=>by
    have h6:=TU (MZ.1 (Xj hf.1.2 r hr));have h7:=Xb r.data
    show (NR r).size+2<=_
    unfold NR;rw[AAH,AAH]
    show _+2+_+2<=_
    omega
   rw[kZ] at h5
   omega
  ·rw[Pd (by omega),Pd (by omega),Pd (by omega),Pd (by omega),AAB hc] at hf
   cases hm:x.AA.find? fun m=>decide (m.id=v.id) with
   | some m =>
    rw[hm] at hf;simp only[AAD] at hf;obtain ⟨w,hw⟩:=List.length_eq_one_iff.1 (AAr hf.1.1);rw[hw] at hf;have hw2:Ad s false n m.type w=true:=by simpa using hf.2
    have:=ih _ _ hw2;have hn:=KU (hx.AA m (List.mem_of_find?_eq_some hm));unfold WJ at this;have hkl:kL v.items=kV w:=by rw[hw,kL,kL];rfl
    rw[tF _ hc hm hw,AAH,AAH,AAH,Cq,Cq]
    omega
   | none =>
    rw[hm] at hf;simp only[AAD] at hf;obtain ⟨w,hw⟩:=List.length_eq_one_iff.1 (AAr hf.1.2);have h6:=TU (MZ.1 hf.1.1.1.2);have h7:=Xb w.data;have hkr:kR v.rest=w.data.size:=by rw[hw,kR,kR];rfl
    rw[tH _ hc hm hw,AAH,AAH,AAH,AAH,Cq,Cq,Cq]
    omega
  ·rw[Pd (by omega),Pd (by omega),Pd (by omega),Pd (by omega),Pd (by omega),AAB hc] at hf
   simp only[AAD,ABQ] at hf;unfold Bg;rw[Pd (by omega),Pd (by omega),Pd (by omega),Pd (by omega),Pd (by omega),Pd (by omega),AAB hc]
   rw[AAH,AAH,Cq,Cq];have h3:=YE (v.items.map (Ae s n x.elem));rw[List.map_map] at h3;have h4:=SV ((fun b:ByteArray=>b.size+2)∘Ae s n x.elem) (fun w=>12 * kV w) v.items fun w hw=>by
    have:=ih _ _ (hf.2 w hw);unfold WJ at this
    show (Ae s n x.elem w).size+2<=_
    omega
   rw[kg] at h4
   omega
  ·rw[Pd (by omega),Pd (by omega),Pd (by omega),Pd (by omega),Pd (by omega),Pd (by omega),AAB hc] at hf
   simp only[AAD,ABQ] at hf;have hl:v.items.length=v.keys.length:=AAr hf.1.1.1.2;rw[sw _ hc,AAH,AAH,AAH,Cq,Cq];have h3:=YE ((v.keys.zip v.items).map (Qs (Ae s n x.key) (Ae s n x.elem)));rw[List.map_map] at h3
   have h4:=Yc v.keys v.items ((fun b:ByteArray=>b.size+2)∘Qs (Ae s n x.key) (Ae s n x.elem)) hl fun p hp=>by
    obtain ⟨p1,p2⟩:=p;have hm:=List.of_mem_zip hp;have g1:=ih _ _ (hf.1.1.2 p1 hm.1);have g2:=ih _ _ (hf.2 p2 hm.2);unfold WJ at g1 g2
    show (Qs _ _ _).size+2<=_
    unfold Qs;rw[AAH,AAH]
    show _+4+_+2<=_
    simp only
    omega
   have h5:(if v.keys.length=0 then (⟨#[45,62]⟩:ByteArray) else ⟨#[]⟩).size<=2:=by split <;> decide
   omega
  ·rw[Pd (by omega),Pd (by omega),Pd (by omega),Pd (by omega),Pd (by omega),Pd (by omega),Pd (by omega),AAB hc] at hf
   simp only[AAD,ABQ] at hf
   cases hi:v.items with
   | nil =>
    rw[su _ hc hi]
    show 4+28<=_
    omega
   | cons w q =>
    have:=ih _ _ (hf.2 w (by rw[hi];exact ABT ..))
    unfold WJ at this;rw[sj _ hc hi,AAH,AAH,Cq,kL]
    show 5+_+1+28<=_
    omega
def Pm (x:Aa) (v:Val) (p:Int):Option (Nat×Int) :=
 if x.kind=5 then (x.AA.findIdx? fun m=>decide (m.id=p)).map fun k=>(k,(x.AA.getD k ⟨0,⟨#[]⟩,0,false,false,zeroV⟩).type)
 else if x.kind=6 then (if p=v.id then (x.AA.find? fun m=>decide (m.id=p)).map fun m=>(0,m.type) else none)
 else if 0<=p then some (p.toNat,x.elem) else none
def Ia (s:List Aa):Int->Val->List Int->Option (Val×Int)
 | t,v,[]=>some (v,t)
 | t,v,p::r=>match Pm (AO s t) v p with
  | none=>none
  | some (k,u)=>match v.items[k]? with
   | none=>none
   | some w=>Ia s u w r
def Gb (s:List Aa):Int->List Int->ByteArray
 | _,[]=>⟨#[]⟩
 | t,p::r=>match (AO s t).AA.find? fun m=>decide (m.id=p) with
  | some m=>⟨#[46]⟩++m.name++Gb s m.type r
  | none=>⟨#[91]⟩++Ch p++⟨#[93]⟩++Gb s (AO s t).elem r
structure ABM (s:List Aa):Prop where
 no:∀t,(AO s t).kind≠5->(AO s t).kind≠6->(AO s t).AA=[]
theorem RZ (v:Val) {y:Val} (hy:y∈v.keys\/y∈v.items):SizeOf.sizeOf y<SizeOf.sizeOf v:=by
 obtain ⟨k,b,i,st,id,ks,is,r⟩:=v;simp only[Val.mk.sizeOf_spec]
 rcases hy with h|h
 ·have:=List.sizeOf_lt_of_mem (show y∈ks from h);omega
 ·have:=List.sizeOf_lt_of_mem (show y∈is from h);omega
theorem U4 (v:Val):0<SizeOf.sizeOf v:=by
 obtain ⟨k,b,i,st,id,ks,is,r⟩:=v;simp only[Val.mk.sizeOf_spec]
 omega
variable {v:Val}
theorem Nt {pl:Bool} {f g:Int->Val->Bool} {x:Aa} (h:∀t y,(y∈v.keys\/y∈v.items)->f t y=true->g t y=true) (hf:Ak f pl x v=true):Ak g pl x v=true:=by
 unfold Ak at hf ⊢
 by_cases h2:x.kind=2
 ·rw[AAB h2] at hf ⊢;exact hf
 rw[Pd h2] at hf ⊢
 by_cases h3:x.kind=3
 ·rw[AAB h3] at hf ⊢;exact hf
 rw[Pd h3] at hf ⊢
 by_cases h4:x.kind=4
 ·rw[AAB h4] at hf ⊢;exact hf
 rw[Pd h4] at hf ⊢
 by_cases h5:x.kind=5
 ·rw[AAB h5] at hf ⊢
  rw[AAD,ABQ] at hf ⊢;refine ⟨hf.1,fun p hp=>h _ _ (Or.inr ?_) (hf.2 p hp)⟩
  obtain ⟨a,b⟩:=p;exact (List.of_mem_zip hp).2
 rw[Pd h5] at hf ⊢
 by_cases h6:x.kind=6
 ·rw[AAB h6] at hf ⊢
  cases hm:x.AA.find? fun m=>decide (m.id=v.id) with
  | none=>rw[hm] at hf;exact hf
  | some m =>
   rw[hm] at hf;simp only[AAD,ABQ] at hf ⊢;exact ⟨hf.1,fun y hy=>h _ _ (Or.inr hy) (hf.2 y hy)⟩
 rw[Pd h6] at hf ⊢
 by_cases h7:x.kind=7
 ·rw[AAB h7] at hf ⊢
  simp only[AAD,ABQ] at hf ⊢;exact ⟨hf.1,fun y hy=>h _ _ (Or.inr hy) (hf.2 y hy)⟩
 rw[Pd h7] at hf ⊢
 by_cases h8:x.kind=8
 ·rw[AAB h8] at hf ⊢
  simp only[AAD,ABQ] at hf ⊢;exact ⟨⟨⟨hf.1.1.1,fun y hy=>h _ _ (Or.inl hy) (hf.1.1.2 y hy)⟩,hf.1.2⟩,fun y hy=>h _ _ (Or.inr hy) (hf.2 y hy)⟩
 rw[Pd h8] at hf ⊢
 by_cases h9:x.kind=9
 ·rw[AAB h9] at hf ⊢
  simp only[AAD,ABQ] at hf ⊢;exact ⟨hf.1,fun y hy=>h _ _ (Or.inr hy) (hf.2 y hy)⟩
 rw[Pd h9]
theorem Rw {s:List Aa} {pl:Bool}:∀ (n:Nat) (t:Int) (v:Val),Ad s pl n t v=true->Ad s pl (n+1) t v=true
 | 0,_,_,h=>by cases h
 | n+1,t,v,h=>by
  rw[Ad] at h ⊢
  split at h
  ·cases h
  ·rename_i h1
   rw[Pd h1]
   split at h
   ·cases h
   ·rename_i h2
    rw[Pd h2];exact Nt (fun u y _ hy=>Rw n u y hy) h
theorem Zd {s:List Aa} {pl:Bool} {t:Int} {n:Nat} (h:Ad s pl n t v=true):∀m,n<=m->Ad s pl m t v=true:=fun m hm=>by
 induction m with
 | zero=>rw[Nat.le_zero.1 hm] at h;exact h
 | succ m ih =>
  rcases Nat.lt_or_ge m n with h1|h1
  ·rw[show m+1=n by omega];exact h
  ·exact Rw m t v (ih h1)
theorem FV {s:List Aa} {pl:Bool}:∀ (n:Nat) (t:Int) (v:Val),Ad s pl n t v=true->Ad s pl (SizeOf.sizeOf v) t v=true
 | 0,_,_,h=>by cases h
 | n+1,t,v,h=>by
  obtain ⟨k,hk⟩:∃k,SizeOf.sizeOf v=k+1:=⟨SizeOf.sizeOf v - 1,by have:=U4 v;omega⟩
  rw[hk];rw[Ad] at h ⊢
  split at h
  ·cases h
  ·rename_i h1
   rw[Pd h1]
   split at h
   ·cases h
   ·rename_i h2
    rw[Pd h2];exact Nt (fun u y hy hf=>Zd (FV n u y hf) k (by have:=RZ v hy;omega)) h
theorem TD {s:List Aa} {t:Int} (h:okV s t v):BX s false t v=true:=by
 obtain ⟨n,h⟩:=h;exact FV n t v h
open Go.RowKit
def EQ (v:Val) (w:World) (e:Ending) (w':World):Prop:=∃B1 d1 B2 d2 B3 d3,e = .returned ((Az v).v B1 d1 B2 d2 B3 d3)/\Below w.heap.size w w'
theorem D5 (w:World) (o1 o2 o3:Obj):Below w.heap.size w (((w.alloc o1).alloc o2).alloc o3):=zB (zB (zD w o1) (zD _ o2)) (zD _ o3)
theorem dS (v:Val) (hk:v.kind=1) (A1:zo) (c1:Nat) (A2:zo) (c2:Nat) (A3:zo) (c3:Nat) (w:World) :
  Calls prog 146 #[v.v A1 c1 A2 c2 A3 c3] w (EQ v w):=by
 have HB:Hid (Az v = .mk 1 v.bool 0 ⟨#[]⟩ 0 [] [] []):=by show _=_;unfold Az;simp[hk]
 have GV:=zh (fun o1 o2 o3=>D5 w o1 o2 o3)
 go_enter func146,ntmps146
 go_wp2
 refine bodyPost_ret (v:=Val.v (.mk 1 v.bool 0 ⟨#[]⟩ 0 [] [] []) none 0 none 0 none 0) (by simp only[results,results146];go_simp;exact ⟨rfl,rfl,rfl,rfl,rfl,rfl,rfl,rfl⟩) rfl ⟨_,_,_,_,_,_,by rw[HB.O],GV.O _ _ _⟩
theorem mJ (v:Val) (hk:v.kind=2) (A1:zo) (c1:Nat) (A2:zo) (c2:Nat) (A3:zo) (c3:Nat) (w:World) :
  Calls prog 146 #[v.v A1 c1 A2 c2 A3 c3] w (EQ v w):=by
 have HB:Hid (Az v = .mk 2 false v.int ⟨#[]⟩ 0 [] [] []):=by show _=_;unfold Az;simp[hk]
 have GV:=zh (fun o1 o2 o3=>D5 w o1 o2 o3)
 go_enter func146,ntmps146
 go_wp2
 refine bodyPost_ret (v:=Val.v (.mk 2 false v.int ⟨#[]⟩ 0 [] [] []) none 0 none 0 none 0) (by simp only[results,results146];go_simp;exact ⟨rfl,rfl,rfl,rfl,rfl,rfl,rfl,rfl⟩) rfl ⟨_,_,_,_,_,_,by rw[HB.O],GV.O _ _ _⟩
theorem mF (v:Val) (hk:v.kind=3) (A1:zo) (c1:Nat) (A2:zo) (c2:Nat) (A3:zo) (c3:Nat) (w:World) :
  Calls prog 146 #[v.v A1 c1 A2 c2 A3 c3] w (EQ v w):=by
 have HB:Hid (Az v = .mk 3 false 0 v.str 0 [] [] []):=by show _=_;unfold Az;simp[hk]
 have GV:=zh (fun o1 o2 o3=>D5 w o1 o2 o3)
 go_enter func146,ntmps146
 go_wp2
 refine bodyPost_ret (v:=Val.v (.mk 3 false 0 v.str 0 [] [] []) none 0 none 0 none 0) (by simp only[results,results146];go_simp;exact ⟨rfl,rfl,rfl,rfl,rfl,rfl,rfl,rfl⟩) rfl ⟨_,_,_,_,_,_,by rw[HB.O],GV.O _ _ _⟩
theorem dR (v:Val) (hk:v.kind=4) (A1:zo) (c1:Nat) (A2:zo) (c2:Nat) (A3:zo) (c3:Nat) (w:World) :
  Calls prog 146 #[v.v A1 c1 A2 c2 A3 c3] w (EQ v w):=by
 have HB:Hid (Az v = .mk 4 false 0 ⟨#[]⟩ v.id [] [] []):=by show _=_;unfold Az;simp[hk]
 have GV:=zh (fun o1 o2 o3=>D5 w o1 o2 o3)
 go_enter func146,ntmps146
 go_wp2
 refine bodyPost_ret (v:=Val.v (.mk 4 false 0 ⟨#[]⟩ v.id [] [] []) none 0 none 0 none 0) (by simp only[results,results146];go_simp;exact ⟨rfl,rfl,rfl,rfl,rfl,rfl,rfl,rfl⟩) rfl ⟨_,_,_,_,_,_,by rw[HB.O],GV.O _ _ _⟩
theorem dQ (v:Val) (hk:v.kind=7) (A1:zo) (c1:Nat) (A2:zo) (c2:Nat) (A3:zo) (c3:Nat) (w:World) :
  Calls prog 146 #[v.v A1 c1 A2 c2 A3 c3] w (EQ v w):=by
 have HB:Hid (Az v = .mk 7 false 0 ⟨#[]⟩ 0 [] v.items []):=by show _=_;unfold Az;simp[hk]
 have GV:=zh (fun o1 o2 o3=>D5 w o1 o2 o3)
 go_enter func146,ntmps146
 go_wp2
 refine bodyPost_ret (v:=Val.v (.mk 7 false 0 ⟨#[]⟩ 0 [] v.items []) none 0 A2 c2 none 0) (by simp only[results,results146];go_simp;exact ⟨rfl,rfl,rfl,rfl,rfl,rfl,rfl,rfl⟩) rfl ⟨_,_,_,_,_,_,by rw[HB.O],GV.O _ _ _⟩
theorem mH (v:Val) (hk:v.kind=9) (A1:zo) (c1:Nat) (A2:zo) (c2:Nat) (A3:zo) (c3:Nat) (w:World) :
  Calls prog 146 #[v.v A1 c1 A2 c2 A3 c3] w (EQ v w):=by
 have HB:Hid (Az v = .mk 9 false 0 ⟨#[]⟩ 0 [] v.items []):=by show _=_;unfold Az;simp[hk]
 have GV:=zh (fun o1 o2 o3=>D5 w o1 o2 o3)
 go_enter func146,ntmps146
 go_wp2
 refine bodyPost_ret (v:=Val.v (.mk 9 false 0 ⟨#[]⟩ 0 [] v.items []) none 0 A2 c2 none 0) (by simp only[results,results146];go_simp;exact ⟨rfl,rfl,rfl,rfl,rfl,rfl,rfl,rfl⟩) rfl ⟨_,_,_,_,_,_,by rw[HB.O],GV.O _ _ _⟩
theorem mG (v:Val) (hk:v.kind=5) (A1:zo) (c1:Nat) (A2:zo) (c2:Nat) (A3:zo) (c3:Nat) (w:World) :
  Calls prog 146 #[v.v A1 c1 A2 c2 A3 c3] w (EQ v w):=by
 have HB:Hid (Az v = .mk 5 false 0 ⟨#[]⟩ 0 [] v.items v.rest):=by show _=_;unfold Az;simp[hk]
 have GV:=zh (fun o1 o2 o3=>zC (D5 w o1 o2 o3) 1)
 go_enter func146,ntmps146
 go_upto_region 12 with fail
 refine wp_region_held_drew (S:=(fun w'=>(w'.cell? ⟨w.heap.size,6,none⟩=some (.slice A2 v.items.length c2)/\w'.cell? ⟨w.heap.size,7,none⟩=some (.slice A3 v.rest.length c3)))) (by kernel_rfl) ?_ (fun AQ=>?_)
 ·(try dsimp only);go_simp
 refine tL 0 ?_;refine tL 1 ?_;refine tL 2 ?_;refine tL 3 ?_;refine tL 4 ?_;refine tR 5 (fun K hK=>?_)
 go_simp
 refine hK.out _ _ ?_ (fun AQ=>?_)
 ·(try dsimp only);go_simp
 clear hK K;try simp only[ps]
 refine tL 6 ?_;refine tR 7 (fun K hK=>?_)
 go_simp
 refine hK.out _ _ ?_ (fun AQ=>?_)
 ·(try dsimp only);go_simp
 clear hK K;refine wpAnyH_done (by kernel_rfl) ?_ _
 clear AQ;go_wp2;refine bodyPost_ret (v:=Val.v (.mk 5 false 0 ⟨#[]⟩ 0 [] v.items v.rest) none 0 A2 c2 A3 c3) (by simp only[results,results146];go_simp;exact ⟨rfl,rfl,rfl,rfl,rfl,rfl,rfl,rfl⟩) rfl ⟨_,_,_,_,_,_,by rw[HB.O],GV.O _ _ _⟩
theorem mE (v:Val) (hk:v.kind=6) (A1:zo) (c1:Nat) (A2:zo) (c2:Nat) (A3:zo) (c3:Nat) (w:World) :
  Calls prog 146 #[v.v A1 c1 A2 c2 A3 c3] w (EQ v w):=by
 have HB:Hid (Az v = .mk 6 false 0 ⟨#[]⟩ v.id [] v.items v.rest):=by show _=_;unfold Az;simp[hk]
 have GV:=zh (fun o1 o2 o3=>zC (D5 w o1 o2 o3) 1)
 go_enter func146,ntmps146
 go_upto_region 14 with fail
 refine wp_region_held_drew (S:=(fun w'=>(w'.cell? ⟨w.heap.size,4,none⟩=some (.int .i64 v.id)/\w'.cell? ⟨w.heap.size,6,none⟩=some (.slice A2 v.items.length c2)/\w'.cell? ⟨w.heap.size,7,none⟩=some (.slice A3 v.rest.length c3)))) (by kernel_rfl) ?_ (fun AQ=>?_)
 ·(try dsimp only);go_simp
 refine tL 0 ?_;refine tL 1 ?_;refine tL 2 ?_;refine tL 3 ?_;refine tL 4 ?_;refine tL 5 ?_;try simp only[ps]
 refine tL 6 ?_;refine tR 7 (fun K hK=>?_)
 go_simp
 refine hK.out _ _ ?_ (fun AQ=>?_)
 ·(try dsimp only);go_simp
 clear hK K;refine tL 8 ?_;refine tR 9 (fun K hK=>?_)
 go_simp
 refine hK.out _ _ ?_ (fun AQ=>?_)
 ·(try dsimp only);go_simp
 clear hK K;refine tL 10 ?_;refine tR 11 (fun K hK=>?_)
 go_simp
 refine hK.out _ _ ?_ (fun AQ=>?_)
 ·(try dsimp only);go_simp
 clear hK K;try simp only[ps]
 refine wpAnyH_done (by kernel_rfl) ?_ _
 clear AQ;go_wp2;refine bodyPost_ret (v:=Val.v (.mk 6 false 0 ⟨#[]⟩ v.id [] v.items v.rest) none 0 A2 c2 A3 c3) (by simp only[results,results146];go_simp;exact ⟨rfl,rfl,rfl,rfl,rfl,rfl,rfl,rfl⟩) rfl ⟨_,_,_,_,_,_,by rw[HB.O],GV.O _ _ _⟩
theorem mI (v:Val) (hk:v.kind=8) (A1:zo) (c1:Nat) (A2:zo) (c2:Nat) (A3:zo) (c3:Nat) (w:World) :
  Calls prog 146 #[v.v A1 c1 A2 c2 A3 c3] w (EQ v w):=by
 have HB:Hid (Az v = .mk 8 false 0 ⟨#[]⟩ 0 v.keys v.items []):=by show _=_;unfold Az;simp[hk]
 have GV:=zh (fun o1 o2 o3=>zC (D5 w o1 o2 o3) 1)
 go_enter func146,ntmps146
 go_upto_region 16 with fail
 refine wp_region_held_drew (S:=(fun w'=>(w'.cell? ⟨w.heap.size,5,none⟩=some (.slice A1 v.keys.length c1)/\w'.cell? ⟨w.heap.size,6,none⟩=some (.slice A2 v.items.length c2)))) (by kernel_rfl) ?_ (fun AQ=>?_)
 ·(try dsimp only);go_simp
 refine tL 0 ?_;refine tL 1 ?_;refine tL 2 ?_;refine tL 3 ?_;refine tL 4 ?_;refine tR 5 (fun K hK=>?_)
 go_simp
 refine hK.out _ _ ?_ (fun AQ=>?_)
 ·(try dsimp only);go_simp
 clear hK K;try simp only[ps]
 refine tL 6 ?_;refine tR 7 (fun K hK=>?_)
 go_simp
 refine hK.out _ _ ?_ (fun AQ=>?_)
 ·(try dsimp only);go_simp
 clear hK K;refine wpAnyH_done (by kernel_rfl) ?_ _
 clear AQ;go_wp2;refine bodyPost_ret (v:=Val.v (.mk 8 false 0 ⟨#[]⟩ 0 v.keys v.items []) A1 c1 A2 c2 none 0) (by simp only[results,results146];go_simp;exact ⟨rfl,rfl,rfl,rfl,rfl,rfl,rfl,rfl⟩) rfl ⟨_,_,_,_,_,_,by rw[HB.O],GV.O _ _ _⟩
theorem mK (v:Val) (h:1<=v.kind/\v.kind<=9) (A1:zo) (c1:Nat) (A2:zo) (c2:Nat) (A3:zo) (c3:Nat) (w:World) :
  Calls prog 146 #[v.v A1 c1 A2 c2 A3 c3] w (EQ v w):=by
 have hk:v.kind=1\/v.kind=2\/v.kind=3\/v.kind=4\/v.kind=5\/v.kind=6\/v.kind=7\/v.kind=8\/v.kind=9:=by omega
 rcases hk with h|h|h|h|h|h|h|h|h
 ·exact dS v h A1 c1 A2 c2 A3 c3 w
 ·exact mJ v h A1 c1 A2 c2 A3 c3 w
 ·exact mF v h A1 c1 A2 c2 A3 c3 w
 ·exact dR v h A1 c1 A2 c2 A3 c3 w
 ·exact mG v h A1 c1 A2 c2 A3 c3 w
 ·exact mE v h A1 c1 A2 c2 A3 c3 w
 ·exact dQ v h A1 c1 A2 c2 A3 c3 w
 ·exact mI v h A1 c1 A2 c2 A3 c3 w
 ·exact mH v h A1 c1 A2 c2 A3 c3 w
open Go.RowKit
theorem bytes_beq (a b:ByteArray):(a.toList==b.toList)=decide (a=b):=by
 rw[Lib.toList_data,Lib.toList_data]
 by_cases h:a=b
 ·subst h;simp
 ·have:¬ a.data.toList=b.data.toList:=fun e=>h (Go.WideShapes.bytes_inj e)
  rw[AAP h];simpa using this
section
variable {P:Program} (w:World)
theorem U6 {P:Program} (w:World) (t:TypeId) (k k':IntKind) (cs:Array Value) (off:Nat) (n:Int) (ht:P.underlying t=some (.int k')) (hc:cs[off]? = some (.int k n)) :
  (part t cs off).run P w = .ok (.int k n) w:=by
 unfold part;simp[go_sem,isAgg,run_underlying ht,hc]
theorem U5 {P:Program} (w:World) (t:TypeId) (cs:Array Value) (off:Nat) (n:ByteArray) (ht:P.underlying t=some .string) (hc:cs[off]? = some (.string n)) :
  (part t cs off).run P w = .ok (.string n) w:=by
 unfold part;simp[go_sem,isAgg,run_underlying ht,hc]
theorem rA (d : Nat) (xs ys : Array Value) (f : Field) (fs : List Field) (a b : Int) (k k' : IntKind) (hn : f.name ≠ "_")
  (hx:(part f.type xs f.offset).run P w = .ok (.int k a) w) (hy:(part f.type ys f.offset).run P w = .ok (.int k b) w) (ht:P.underlying f.type=some (.int k')) :
  (Op.eqFields (d+1) xs ys (f::fs)).run P w=if a=b then (Op.eqFields (d+1) xs ys fs).run P w else .ok false w:=by
 simp only[Op.eqFields,AAB hn,Sem.run_bind,hx,hy,Result.andThen_ok,run_equalIn_int w d f.type k k' a b ht]
 by_cases h:a=b
 ·subst h;simp
 ·have:(a==b)=false:=by simpa using h
  simp[this,h]
theorem qz (d : Nat) (xs ys : Array Value) (f : Field) (fs : List Field) (a b : ByteArray) (hn : f.name ≠ "_")
  (hx:(part f.type xs f.offset).run P w = .ok (.string a) w) (hy:(part f.type ys f.offset).run P w = .ok (.string b) w) (ht:P.underlying f.type=some .string) :
  (Op.eqFields (d+1) xs ys (f::fs)).run P w=if a=b then (Op.eqFields (d+1) xs ys fs).run P w else .ok false w:=by
 simp only[Op.eqFields,AAB hn,Sem.run_bind,hx,hy,Result.andThen_ok,run_equalIn_string w d f.type a b ht,bytes_beq]
 by_cases h:a=b
 ·subst h;simp
 ·simp[h]
end
theorem jM:prog.underlying 97=some (.struct (prog.fieldsOf 97)):=by
 unfold Program.fieldsOf;rw[underlying97]
theorem Ol (d:Nat) (a b:Int) (s t:ByteArray) (w:World):(Op.equalIn (d+2) 97 (.agg #[.int .i64 a,.string s]) (.agg #[.int .i64 b,.string t])).run prog w = .ok (decide (a=b/\s=t)) w:=by
 rw[run_equalIn_struct w (d+1) 97 _ _ jM (by kernel_rfl)]
 unfold Program.fieldsOf;rw[underlying97];simp only;rw[rA w d _ _ _ _ a b .i64 .i64 (by decide) (U6 w _ .i64 .i64 _ _ a underlying3 rfl) (U6 w _ .i64 .i64 _ _ b underlying3 rfl) underlying3,
  qz w d _ _ _ _ s t (by decide) (U5 w _ _ _ s underlying9 rfl) (U5 w _ _ _ t underlying9 rfl) underlying9]
 by_cases h:a=b <;> by_cases h2:s=t <;> simp[h,h2,Op.eqFields]
theorem OH (a b:Int) (s t:ByteArray) (w:World):(binOp .neq 97 (.agg #[.int .i64 a,.string s]) (.agg #[.int .i64 b,.string t])).run prog w = .ok (.bool (!decide (a=b/\s=t))) w:=by
 rw[run_neq_struct,Ol 9998];rfl
variable {k:Nat}
theorem Ph {α:Type} {l m:List α} (hl:k<l.length) (hm:k<m.length) (h:l.take k=m.take k) (he:l[k]=m[k]):l.take (k+1)=m.take (k+1):=by
 rw[ABq hl,ABq hm,h,he]
theorem Pg {α:Type} [DecidableEq α] {l m:List α} (hl:k<l.length) (hm:k<m.length) (he:¬ l[k]=m[k]):decide (l=m)=false :=
 AAP fun e=>he (by subst e;rfl)
theorem Ug {α:Type} [DecidableEq α] {l m:List α} (hk:¬ k<l.length) (hlen:l.length=m.length) (h:l.take k=m.take k):decide (l=m)=true :=
 AAJ (by rwa [List.take_of_length_le (by omega),List.take_of_length_le (by omega)] at h)
theorem Af.ext_iff' (x y:Af):(x.id=y.id/\x.data=y.data)↔x=y:=by
 cases x;cases y;simp
theorem Bu.ext_iff' (x y:Bu):(x.id=y.id/\x.name=y.name)↔x=y:=by
 cases x;cases y;simp
theorem EF.lt {b n:Nat} (h:EF b n) (hb:0<b):n<=140737488355328:=Nat.le_trans (Nat.le_mul_of_pos_right n hb) h
open Go.RowKit
theorem Val.ext_iff' (x y:Val):x=y↔(x.kind=y.kind/\x.bool=y.bool/\x.int=y.int/\x.str=y.str/\x.id=y.id/\x.rest=y.rest/\x.keys=y.keys/\x.items=y.items):=by
 obtain ⟨k,b,i,s,d,ks,is,r⟩:=x;obtain ⟨k',b',i',s',d',ks',is',r'⟩:=y;simp only[Val.mk.injEq,Val.kind,Val.bool,Val.int,Val.str,Val.id,Val.rest,Val.keys,Val.items]
 constructor
 ·rintro ⟨a1,a2,a3,a4,a5,a6,a7,a8⟩;exact ⟨a1,a2,a3,a4,a5,a8,a6,a7⟩
 ·rintro ⟨a1,a2,a3,a4,a5,a8,a6,a7⟩;exact ⟨a1,a2,a3,a4,a5,a6,a7,a8⟩
theorem Jb {x y:Val} (h:¬ (x.kind=y.kind/\x.bool=y.bool/\x.int=y.int/\x.str=y.str/\x.id=y.id/\x.rest=y.rest/\x.keys=y.keys/\x.items=y.items)):decide (x=y)=false :=
 AAP fun e=>h ((Val.ext_iff' x y).1 e)
def Ic (b:Bool) (w:World) (e:Ending) (w':World):Prop:=e = .returned (.bool b)/\Below w.heap.size w w'
open Go.RowKit
theorem yI (n : Int) (w : World) : Calls prog 116 #[.int .u8 n] w fun e w' => e = .returned (.bool (Dn n)) /\ w = w' := by
  by_cases h1 : n = 95
  · subst h1
    go_enter func116, ntmps116
    go_wp2
    go_ret
    exact ⟨rfl, rfl⟩
  have e1 : (n == 95) = false := by simp [h1]
  by_cases h2 : 97 <= n <;> by_cases h3 : n <= 122 <;> by_cases h4 : 65 <= n <;> by_cases h5 : n <= 90
  all_goals first
    | (exfalso; omega)
    | (have HL := zh (show Dn n = _ by unfold Dn; simp only [h1, h2, h3, h4, h5]; rfl)
       clear h1
       go_enter func116, ntmps116
       go_wp2
       go_ret
       exact ⟨by rw [HL.O]; rfl, rfl⟩)
theorem Cj (n : Int) (w : World) : Calls prog 82 #[.int .u8 n] w fun e w' => e = .returned (.bool (Dn n)) /\ w = w' := by
  by_cases h1 : n = 95
  · subst h1
    go_enter func82, ntmps82
    go_wp2
    go_ret
    exact ⟨rfl, rfl⟩
  have e1 : (n == 95) = false := by simp [h1]
  by_cases h2 : 97 <= n <;> by_cases h3 : n <= 122 <;> by_cases h4 : 65 <= n <;> by_cases h5 : n <= 90
  all_goals first
    | (exfalso; omega)
    | (have HL := zh (show Dn n = _ by unfold Dn; simp only [h1, h2, h3, h4, h5]; rfl)
       clear h1
       go_enter func82, ntmps82
       go_wp2
       go_ret
       exact ⟨by rw [HL.O]; rfl, rfl⟩)
theorem Bj (n : Int) (w : World) : Calls prog 117 #[.int .u8 n] w fun e w' => e = .returned (.bool (FX n)) /\ w = w' := by
  by_cases h2 : 48 <= n <;> by_cases h3 : n <= 57
  all_goals
    (have HL := zh (show FX n = _ by unfold FX; simp only [h2, h3]; rfl)
     go_enter func117, ntmps117
     go_wp2
     go_ret
     exact ⟨by rw [HL.O]; rfl, rfl⟩)
theorem Cu (n : Int) (w : World) : Calls prog 83 #[.int .u8 n] w fun e w' => e = .returned (.bool (FX n)) /\ w = w' := by
  by_cases h2 : 48 <= n <;> by_cases h3 : n <= 57
  all_goals
    (have HL := zh (show FX n = _ by unfold FX; simp only [h2, h3]; rfl)
     go_enter func83, ntmps83
     go_wp2
     go_ret
     exact ⟨by rw [HL.O]; rfl, rfl⟩)
open Go.RowKit
theorem La (h:0<s.size):s.toList≠[]:=by
 intro e
 rw[Lib.toList_data] at e;have:s.data.toList.length=s.size:=by simp
 rw[e] at this;simp at this;omega
theorem Rb (h:0<s.size):s.data.toList.getD 0 0=s[0]:=by
 have h':0<s.data.toList.length:=by simpa using h
 rw[AA1,zl h'];rfl
theorem jl (h:24<s.size):Bz s=false:=by
 unfold Bz;simp;omega
theorem bH (h:0<s.size) (hl:Dn ((s[0].toNat:Nat):Int)=false):Bz s=false:=by
 unfold Bz;rw[Rb h,hl];simp
theorem jm (h:k<s.size) (hl:LA s[k]=false):Bz s=false:=by
 have:s.data.toList.all LA=false:=by
  rw[List.all_eq_false];refine ⟨s[k],?_,by simp[hl]⟩
  exact AAL (l:=s.data.toList) (by simpa using h)
 unfold Bz;rw[this];simp
theorem bI (h:0<s.size) (h2:s.size<=24) (hl:Dn ((s[0].toNat:Nat):Int)=true) (ha:∀k (hk:k<s.size),LA s[k]=true):Bz s=true:=by
 unfold Bz;rw[Rb h,hl];have:s.data.toList.all LA=true:=by
  rw[ABQ]
  intro c hc
  obtain ⟨k,hk,rfl⟩:=ABi hc;exact ha k (by simpa using hk)
 rw[this];simp[h,h2]
theorem K6 (s:ByteArray) (hs:Cw s) (w:World):Calls prog 84 #[.string s] w fun e w'=>e = .returned (.bool (Bz s))/\w=w':=by
 unfold Cw at hs
 by_cases h0:s.size=0
 ·obtain rfl:s=⟨#[]⟩:=by
   obtain ⟨d⟩:=s;have:d.size=0:=h0;rw[Array.eq_empty_of_size_eq_zero this]
  clear hs h0
  go_enter func84,ntmps84
  go_wp2
  go_ret
  exact ⟨by rfl,rfl⟩
 have hp:0<s.size:=by omega
 have hne:=La hp;have hne2:s.toList.isEmpty=false:=by simpa using hne
 by_cases hbig:24<s.size
 ·have HN:=zh (jl hbig)
  clear h0
  go_enter func84,ntmps84
  go_wp2
  go_ret
  exact ⟨by rw[HN.O];rfl,rfl⟩
 have hle:s.size<=24:=by omega
 cases hl:Dn ((s[0].toNat:Nat):Int) with
 | false =>
  have HN:=zh (bH hp hl);have HL:=zh hl;clear h0 hbig hl
  go_enter func84,ntmps84
  go_wp2_with (go_at_call 82;refine (Cj _ _).mono ?_;rintro e w' ⟨rfl,rfl⟩;rw[HL.O])
  go_ret
  exact ⟨by rw[HN.O];rfl,rfl⟩
 | true =>
  have HL:=zh hl;clear h0 hbig hl
  go_enter func84,ntmps84
  go_wp2_with (go_at_call 82;refine (Cj _ _).mono ?_;rintro e w' ⟨rfl,rfl⟩;rw[HL.O])
  go_loop [3] (fun i=>∃k:Nat,k<=s.size/\i = .int .i64 k/\Hid (∀j (hj:j<s.size),j<k->LA s[j]=true)) (fun i=>s.size - (intOf i).toNat)
  case atStart=>exact ⟨0,by omega,rfl,fun j hj h=>absurd h (by omega)⟩
  case round =>
   obtain ⟨k,hk,rfl,hh⟩:=hrel
   by_cases hlt:k<s.size
   ·cases h1:Dn ((s[k].toNat:Nat):Int) with
    | true =>
     have HC:Hid (LA s[k]=true):=by show _=_;unfold LA;rw[h1];rfl
     have H1:=zh h1;clear h1;go_wp2_with (go_at_call 82;refine (Cj _ _).mono ?_;rintro e w' ⟨rfl,rfl⟩;rw[H1.O])
     go_round
     case rel =>
      refine ⟨k+1,by omega,by go_num,fun j hj hjk=>?_⟩
      by_cases e:j=k
      ·subst e;exact HC.O
      ·exact hh.O j hj (by omega)
     case measure=>simp[intOf];omega
    | false =>
     cases h2:FX ((s[k].toNat:Nat):Int) with
     | true =>
      have HC:Hid (LA s[k]=true):=by show _=_;unfold LA;rw[h1,h2];rfl
      have H1:=zh h1;have H2:=zh h2;clear h1 h2;go_wp2_with (first|(go_at_call 82;refine (Cj _ _).mono ?_;rintro e w' ⟨rfl,rfl⟩;rw[H1.O])|(go_at_call 83;refine (Cu _ _).mono ?_;rintro e w' ⟨rfl,rfl⟩;rw[H2.O]))
      go_round
      case rel =>
       refine ⟨k+1,by omega,by go_num,fun j hj hjk=>?_⟩
       by_cases e:j=k
       ·subst e;exact HC.O
       ·exact hh.O j hj (by omega)
      case measure=>simp[intOf];omega
     | false =>
      have HN:=zh (jm hlt (show LA s[k]=false by unfold LA;rw[h1,h2];rfl))
      have H1:=zh h1;have H2:=zh h2;clear h1 h2;go_wp2_with (first|(go_at_call 82;refine (Cj _ _).mono ?_;rintro e w' ⟨rfl,rfl⟩;rw[H1.O])|(go_at_call 83;refine (Cu _ _).mono ?_;rintro e w' ⟨rfl,rfl⟩;rw[H2.O]));go_ret;exact ⟨by rw[HN.O];rfl,rfl⟩
   ·have HN:=zh (bI hp hle HL fun k hk=>hh.O k hk (by omega))
    go_wp2
    go_ret
    exact ⟨by rw[HN.O];rfl,rfl⟩
open Go.RowKit
abbrev kS:ByteArray->Value:=Value.string
open Go.RowKit
def ABN (W:World) (b:Nat) (m:Ac) (A1:zo) (c1:Nat) (A2:zo) (c2:Nat) (A3:zo) (c3:Nat):Prop:=W.heap[b]? = some (.cells #[.int .i64 m.id,.string m.name,.int .i64 m.type,.bool m.critical,.bool m.Et,.int .i64 m.dflt.kind,.bool m.dflt.bool,.int .i64 m.dflt.int,.string m.dflt.str,.int .i64 m.dflt.id,.slice A1 m.dflt.keys.length c1,.slice A2 m.dflt.items.length c2,.slice A3 m.dflt.rest.length c3] 118 (0,0))
theorem ABN.cell {W:World} {b:Nat} {m:Ac} {A1:zo} {c1:Nat} {A2:zo} {c2:Nat} {A3:zo} {c3:Nat} (h:ABN W b m A1 c1 A2 c2 A3 c3) (j:Nat):W.cell? ⟨b,j,none⟩=(#[.int .i64 m.id,.string m.name,.int .i64 m.type,.bool m.critical,.bool m.Et,.int .i64 m.dflt.kind,.bool m.dflt.bool,.int .i64 m.dflt.int,.string m.dflt.str,.int .i64 m.dflt.id,.slice A1 m.dflt.keys.length c1,.slice A2 m.dflt.items.length c2,.slice A3 m.dflt.rest.length c3]:Array Value)[j]? := AAC _ _ _ _ _ _ h
mutual
def Ku:Val->Prop
 | .mk _ _ _ s _ ks is rs=>s.size<=140737488355328/\(∀r∈rs,r.data.size<=140737488355328)/\R3 ks/\R3 is
def R3:List Val->Prop
 | []=>True
 | v::l=>Ku v/\R3 l
end
theorem IK:∀l:List Val,R3 l↔∀v∈l,Ku v
 | []=>by rw[R3];exact ⟨fun _ _ h=>(by cases h),fun _=>trivial⟩
 | v::l=>by
  rw[R3,IK l];simp only[ABP,forall_eq_or_imp]
theorem Ku.O (h:Ku v):v.str.size<=140737488355328/\(∀r∈v.rest,r.data.size<=140737488355328)/\(∀y∈v.keys,Ku y)/\(∀y∈v.items,Ku y):=by
 obtain ⟨k,b,i,s,d,ks,is,rs⟩:=v;rw[Ku] at h;exact ⟨h.1,h.2.1,(IK ks).1 h.2.2.1,(IK is).1 h.2.2.2⟩
variable {l:List Af}
theorem oo (h:n<0):Oi l n=n:=by
 cases l with
 | nil=>rw[Oi]
 | cons a r=>rw[Oi,AAB h]
theorem Yq {l:List Val} (h:n<0):OG l n=n:=by
 cases l with
 | nil=>rw[OG]
 | cons a r=>rw[OG,AAB h]
variable {i:Nat}
theorem uy (hi:i<l.length) (h:0<=n):Oi (l.drop i) n=Oi (l.drop (i+1)) (n - (l[i]).data.size):=by
 rw[ABf hi,Oi,Pd (by omega)]
theorem iP {l:List Val} (hi:i<l.length) (h:0<=n):OG (l.drop i) n=OG (l.drop (i+1)) (Qh l[i] n):=by
 rw[ABf hi,OG,Pd (by omega)]
theorem ou (h:l.length<=i):Oi (l.drop i) n=n:=by
 rw[ABg h,Oi]
theorem Yr {l:List Val} (h:l.length<=i):OG (l.drop i) n=n:=by
 rw[ABg h,OG]
theorem om (v:Val) (n:Int):Qh v n=OG v.items (OG v.keys (Oi v.rest (n - (10+v.str.size+v.rest.length)))):=by
 obtain ⟨k,b,i,s,d,ks,is,rs⟩:=v;rw[Qh];rfl
def mU (v:Val):Prop:=0<=Qh v 3000
theorem ic (h:mU v):kV v<=3000:=by
 have:=iN v 3000 h;unfold mU at h
 omega
