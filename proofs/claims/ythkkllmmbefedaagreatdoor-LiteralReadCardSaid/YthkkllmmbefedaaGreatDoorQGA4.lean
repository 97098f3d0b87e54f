/-
  The laws of literals, of the plain functions.
-/
import Derived.Test.YthkkllmmbefedaaGreatDoorQGA3
namespace Go.Proofs.YthkkllmmbefedaaGreatDoor
set_option maxHeartbeats 16000000
set_option maxRecDepth 100000
def atL (ln:Int) (t:AB):AB:={ t with line:=ln }
def qU (r:List UInt8):Prop:=∀c q,r=c::q->(BS c||zZ c)=false
def Px (a:List UInt8) (w:List AB):Prop:=∀ln rest,BJ ln (a++rest)=(BJ ln rest).map fun o=>w.map (atL ln)++o
def qX (a:List UInt8) (w:List AB):Prop:=∀ln rest,qU rest->BJ ln (a++rest)=(BJ ln rest).map fun o=>w.map (atL ln)++o
variable {w:List AB} {a:List UInt8}
theorem Px.s (h:Px a w):qX a w:=fun ln rest _=>h ln rest
theorem Ql {α:Type} (a:Except Int (List α)) (u w:List α):(a.map fun o=>w++o).map (fun o=>u++o)=a.map fun o=>(u++w)++o:=by
 cases a with
 | error e=>rfl
 | ok o=>exact congrArg Except.ok (AAx u w o).symm
variable {u:List AB} {b:List UInt8}
theorem Px.app (h1:Px a u) (h2:Px b w):Px (a++b) (u++w):=fun ln rest=>by
 rw[AAx,h1,h2,Ql,List.map_append]
def Stop (b:List UInt8):Prop:=∃c q,b=c::q/\(BS c||zZ c)=false
theorem Stop.sep (h:Stop b) (r:List UInt8):qU (b++r):=by
 obtain ⟨c,q,rfl,hc⟩:=h
 intro d p e
 injection e with e1 e2
 subst e1;exact hc
theorem qX.app (h1:qX a u) (hb:Stop b) (h2:Px b w):Px (a++b) (u++w):=fun ln rest=>by
 rw[AAx,h1 ln _ (hb.sep rest),h2,Ql,List.map_append]
theorem Px.nil:Px [] []:=fun ln rest=>by
 rw[List.nil_append]
 cases BJ ln rest <;> rfl
variable {c:UInt8}
theorem kR (h:BS c=true):c.toNat=95\/(97<=c.toNat/\c.toNat<=122)\/(65<=c.toNat/\c.toNat<=90):=by
 unfold BS DT at h;simp only[Bool.or_eq_true,AAG,AAY] at h
 omega
theorem lQ:zZ c=true↔48<=c.toNat/\c.toNat<=57:=by
 unfold zZ Eb;simp only[AAG,AAY]
 omega
theorem qH (h:¬ (48<=c.toNat/\c.toNat<=57)):zZ c=false:=by
 rw[Bool.eq_false_iff,ne_eq,lQ];exact h
theorem pW (h:¬ (c.toNat=95\/(97<=c.toNat/\c.toNat<=122)\/(65<=c.toNat/\c.toNat<=90))):BS c=false:=by
 cases hc:BS c with
 | false=>rfl
 | true=>exact absurd (kR hc) h
theorem UH (s:ByteArray):∀k,k<=s.size->(Ns s k).data.toList=34::(s.data.toList.take k).flatMap Fx
 | 0,_=>rfl
 | k+1,h=>by
  have hk:k<s.data.toList.length:=h;rw[Ns,ByteArray.data_append,Array.toList_append,UH s k (by omega),Oj,ABD hk,List.flatMap_append]
  have:s.data.getD k 0=s.data.toList[k]:=by
   rw[Array.getD_eq_getD_getElem?,Array.getElem?_eq_getElem (by exact h)];rfl
  rw[this];simp
theorem dA (s:ByteArray):(TG s).data.toList=34::(s.data.toList.flatMap Fx++[34]):=by
 unfold TG;rw[ByteArray.data_append,Array.toList_append,UH s s.size (AAQ _)];have:s.data.toList.take s.size=s.data.toList:=List.take_of_length_le (AAQ _);rw[this];rfl
theorem Zq {s:List AZ} {t:Int} {v:Val} {n:Nat} (h:AQ s false (n+1) t v=true):0<=t/\t<(s.length:Int)/\v.kind=(AR s t).kind/\zJ v=true/\AX (AQ s false n) false (AR s t) v=true:=by
 rw[AQ] at h
 split at h
 ·cases h
 ·rename_i h1
  split at h
  ·cases h
  ·rename_i h2
   simp only[not_or,ne_eq,Decidable.not_not,Bool.not_eq_false] at h2;exact ⟨by omega,by omega,h2.1,h2.2,h⟩
section
variable {f:Int->List AB->Bool->PR Val} {g:Int->Val->List AB} {x:AZ} {k:Bool} {more:List AB}
end
section
variable {s:List AZ} {n:Nat} {t:Int} {v:Val}
end
def oL (t:AB):AB:={ t with line:=0 }
def RJ (l r w:List AB):Prop:=∃pre,l=pre++r/\pre.map oL=w
theorem RJ.refl (l:List AB):RJ l l []:=⟨[],rfl,rfl⟩
theorem RJ.app {a b c:List AB} (h1:RJ a b u) (h2:RJ b c w):RJ a c (u++w):=by
 obtain ⟨p,rfl,rfl⟩:=h1;obtain ⟨q,rfl,rfl⟩:=h2;exact ⟨p++q,by rw[AAx],List.map_append⟩
def vG {α:Type} (part:List AB->Bool->PR α):Prop:=∀l k x r k',part l k = .ok (x,r,k')->k=true->k'=true
theorem vG.false {α:Type} {part:List AB->Bool->PR α} (h:vG part) {l:List AB} {k:Bool} {x:α} {r:List AB} (he:part l k = .ok (x,r,false)):k=false:=by
 cases k with
 | false=>rfl
 | true=>exact absurd (h _ _ _ _ _ he rfl) (by simp)
section
variable {f:Int->List AB->Bool->PR Val} {g:Int->Val->List AB}
variable {P:Int->Val->Prop}
end
end Go.Proofs.YthkkllmmbefedaaGreatDoor
namespace Go.Proofs.YthkkllmmbefedaaGreatDoor
structure vF (x:AZ):Prop where
 Ab:∀y∈x.Ab,CV y.name=true
 AA:∀y∈x.AA,CV y.name=true
 low:-9223372036854775808<=x.low
 high:x.high<=9223372036854775807
section
variable {f:Int->Val->ByteArray} {g:Int->Val->List AB} {x:AZ}
end
section
variable (f:Int->Val->ByteArray) {x:AZ}
end
section
variable (g:Int->Val->List AB) {x:AZ} {v:Val}
end
theorem map_ok {α β:Type} {a:Except Int α} {g:α->β} {b:β} (h:a.map g = .ok b):∃x,a = .ok x/\g x=b:=by
 cases a with
 | error e=>cases h
 | ok x=>exact ⟨x,rfl,by injection h⟩
def NS (t:AB):ByteArray:=if t.kind=2 then FP t.int else if t.kind=3 then TG t.str else t.text
def uz (r:List UInt8):Prop:=∃c q,r=c::q/\(c.toNat=32\/c.toNat=10\/c.toNat=9)
theorem uz.sep {r:List UInt8} (h:uz r):qU r:=fun c q e=>by
 obtain ⟨d,p,h1,h2⟩:=h;rw[e] at h1
 injection h1 with h1 _
 subst h1;rw[pW (by omega),qH (by omega)];rfl
theorem UF:∀ (n:Nat) (l o:List UInt8) (k:Nat),l.length<=n->Fb l=some (o,k)->(o.flatMap Fx).length+1=k
 | _,[],_,_,_,h=>by rw[UG] at h;cases h
 | 0,_::_,_,_,hn,_=>by simp at hn
 | n+1,c::r,o,k,hn,h=>by
  rw[KE] at h
  split at h
  ·injection h with h;injection h with h1 h2;subst h1 h2;rfl
  ·rename_i hc
   split at h
   ·cases h
   ·rename_i b j hp
    have hle:=Jg hp;rw[AAj] at h;obtain ⟨⟨q,i⟩,h1,h2⟩:=h
    injection h2 with h2 h3
    subst h2 h3;have ih:=UF n _ q i (by rw[AAc];simp only[AAS] at *;omega) h1
    have hs:=(R6 hp fun d p e=>by injection e with e1 _;rw[<-e1];exact hc).2
    rw[ABG,AA6];simp only
    omega
theorem bB {l:List UInt8} {t:AB} {k:Nat} (h:Cj l=some (t,k)):(NS t).size=k:=by
 have hk:=Ij h;have ht:∀j,j<=l.length->(bA (l.take j)).size=j:=fun j hj=>by
  show (l.take j).toArray.size=j
  rw[List.size_toArray,List.length_take];omega
 unfold Cj at h
 split at h
 ·cases h
 ·rename_i c r
  split at h
  ·split at h
   ·injection h with h;injection h with h1 h2
    subst h1 h2;unfold NS;rw[Pe (by show ¬ (1:Int)=2;decide),Pe (by show ¬ (1:Int)=3;decide)]
    exact ht _ (Jk _)
   ·cases h
  ·split at h
   ·rw[AAj] at h
    obtain ⟨v,hv,h⟩:=h
    injection h with h1 h2
    subst h1 h2;unfold NS;rw[AAC (by rfl)]
    have:=(O3.1 hv).2
    show (Lib.itoa v).toArray.size=_
    rw[List.size_toArray,this,List.length_take];have:=Jt r;rw[AAS];omega
   ·split at h
    ·rw[AAj] at h
     obtain ⟨⟨o,i⟩,hv,h⟩:=h
     injection h with h1 h2
     subst h1 h2;unfold NS;rw[Pe (by show ¬ (3:Int)=2;decide),AAC (by rfl)]
     have h1:=UF _ _ _ _ (AAQ _) hv;have h2:(TG (bA o)).size=((TG (bA o)).data.toList).length:=rfl
     show (TG (bA o)).size=_
     rw[h2,dA]
     show ((34:UInt8)::(o.flatMap Fx++[34])).length=_
     rw[AAS,AA6];simp only[AAS,List.length_nil]
     omega
    ·rw[AAj] at h
     obtain ⟨n,hv,h⟩:=h
     injection h with h1 h2
     subst h1 h2;unfold NS;rw[Pe (by show ¬ (4:Int)=2;decide),Pe (by show ¬ (4:Int)=3;decide)]
     exact ht _ (OA hv).2.1
def Wt:List AB->Nat
 | []=>0
 | t::l=>(NS t).size+Wt l
theorem Yg (t:AB) (ln:Int):NS { t with line:=ln }=NS t:=rfl
theorem GA:∀ (n:Nat) (ln:Int) (l:List UInt8) (o:List AB),l.length<=n->BJ ln l = .ok o->Wt o<=l.length/\o.length<=l.length
 | _,ln,[],o,_,h=>by
  rw[Mi] at h
  injection h with h
  subst h;exact ⟨AAQ _,AAQ _⟩
 | 0,_,_::_,_,hn,_=>by simp at hn
 | n+1,ln,c::r,o,hn,h=>by
  have hr:r.length<=n:=by simpa using hn
  rw[AAS];rw[EA] at h
  split at h
  ·have:=GA n _ r o hr h;omega
  ·split at h
   ·have:=GA n _ r o hr h;omega
   ·split at h
    ·have h1:=GX r
     have:=GA n _ _ o (Nat.le_trans h1 hr) h;omega
    ·split at h
     ·cases h
     ·rename_i u k hk
      obtain ⟨q,hq,rfl⟩:=map_ok h;have hle:=Ij hk;have hs:=bB hk;have hd:((c::r).drop k).length=r.length+1 - k:=by rw[AAc,AAS]
      have:=GA n _ _ q (by rw[hd];omega) hq
      rw[hd] at this;rw[AAS] at hle;rw[Wt,Yg,hs,AAS]
      omega
section
variable {m:Bool} {f:Int->List AB->Bool->PR Val}
end
structure YR (s:List AZ):Prop where
 ty:∀t,uw (AR s t)
 sym:∀t,((AR s t).Ab.map CB.id).Nodup
 nam:∀t,vF (AR s t)
 kind:∀t,0<=t->t<(s.length:Int)->1<=(AR s t).kind/\(AR s t).kind<=9
noncomputable def Al (m:Bool) (s:List AZ) (t:Int) (x:ByteArray):Val×Int :=
 if t<0\/(s.length:Int)<=t then (zeroV,4)
 else if 65536<x.size then (zeroV,3)
 else match BJ 1 x.data.toList with
  | .error _=>(zeroV,2)
  | .ok l=>match C9 m s t l with
   | .error e=>(zeroV,e)
   | .ok (v,r,k)=>if r≠[] then (zeroV,2) else if k=true\/CQ s false t v=false then (zeroV,1) else (v,0)
noncomputable def bf (m:Bool) (s:List AZ) (t:Int) (l:List AB):Val×Int×Int :=
 if t<0\/(s.length:Int)<=t then (zeroV,0,4)
 else match C9 m s t l with
  | .error e=>(zeroV,0,e)
  | .ok (v,r,k)=>if k=true\/CQ s false t v=false then (zeroV,0,1) else (v,((l.length - r.length:Nat):Int),0)
theorem YL {s:List AZ} {t:Int} {v:Val} (h:¬ okV s t v):CQ s false t v=false:=by
 cases hf:CQ s false t v with
 | false=>rfl
 | true=>exact absurd ⟨_,hf⟩ h
theorem WI {s:List AZ} (h:YR s) (t:Int) (x:ByteArray):Al false s t x=Al true s t x:=by
 unfold Al
 split
 ·rfl
 ·split
  ·rfl
  ·cases BJ 1 x.data.toList with
   | error e=>rfl
   | ok l =>
    simp only
    rcases jO (fun t=>(h.ty t).ids) (fun t=>(h.ty t).uI) t l with ⟨e,h1,h2⟩|⟨v,v',r,k,h1,h2,h3⟩
    ·rw[h1,h2]
    ·rw[h1,h2]
     simp only
     split
     ·rfl
     ·rcases h3 with ⟨rfl,rfl⟩|⟨h4,h5⟩
      ·rfl
      ·rw[AAC (h5.imp id YL),AAC (Or.inr (YL h4))]
end Go.Proofs.YthkkllmmbefedaaGreatDoor



