/-
  The laws of literals, of the plain functions.
-/
import Derived.Test.YthkkllmmbefedaaGreatDoorQGA3
namespace Go.Proofs.YthkkllmmbefedaaGreatDoor
set_option maxHeartbeats 16000000
set_option maxRecDepth 100000
def atL (ln:Int) (t:AQ):AQ:={ t with line:=ln }
def UI (r:List UInt8):Prop:=∀c q,r=c::q->(CP c||zZ c)=false
def Ow (a:List UInt8) (w:List AQ):Prop:=∀ln rest,BB ln (a++rest)=(BB ln rest).map fun o=>w.map (atL ln)++o
def qD (a:List UInt8) (w:List AQ):Prop:=∀ln rest,UI rest->BB ln (a++rest)=(BB ln rest).map fun o=>w.map (atL ln)++o
variable {w:List AQ} {a:List UInt8}
theorem Ow.s (h:Ow a w):qD a w:=fun ln rest _=>h ln rest
theorem QB {α:Type} (a:Except Int (List α)) (u w:List α):(a.map fun o=>w++o).map (fun o=>u++o)=a.map fun o=>(u++w)++o:=by
 cases a with
 | error e=>rfl
 | ok o=>exact congrArg Except.ok (AA0 u w o).symm
variable {u:List AQ} {b:List UInt8}
theorem Ow.app (h1:Ow a u) (h2:Ow b w):Ow (a++b) (u++w):=fun ln rest=>by
 rw[AA0,h1,h2,QB,List.map_append]
def Stop (b:List UInt8):Prop:=∃c q,b=c::q/\(CP c||zZ c)=false
theorem Stop.sep (h:Stop b) (r:List UInt8):UI (b++r):=by
 obtain ⟨c,q,rfl,hc⟩:=h
 intro d p e
 injection e with e1 e2
 subst e1;exact hc
theorem qD.app (h1:qD a u) (hb:Stop b) (h2:Ow b w):Ow (a++b) (u++w):=fun ln rest=>by
 rw[AA0,h1 ln _ (hb.sep rest),h2,QB,List.map_append]
theorem Ow.nil:Ow [] []:=fun ln rest=>by
 rw[List.nil_append]
 cases BB ln rest <;> rfl
theorem iY:UI []:=fun c q h=>by cases h
variable {c:UInt8}
theorem jv (h:CP c=true):c.toNat=95\/(97<=c.toNat/\c.toNat<=122)\/(65<=c.toNat/\c.toNat<=90):=by
 unfold CP IU at h;simp only[ABS,AAJ,AAd] at h
 omega
theorem XE:zZ c=true↔48<=c.toNat/\c.toNat<=57:=by
 unfold zZ IV;simp only[AAJ,AAd]
 omega
theorem pK (h:¬ (48<=c.toNat/\c.toNat<=57)):zZ c=false:=by
 rw[Bool.eq_false_iff,ne_eq,XE];exact h
theorem ou (h:¬ (c.toNat=95\/(97<=c.toNat/\c.toNat<=122)\/(65<=c.toNat/\c.toNat<=90))):CP c=false:=by
 cases hc:CP c with
 | false=>rfl
 | true=>exact absurd (jv hc) h
theorem TT {r:List UInt8} (ha:a.all (fun d=>CP d||zZ d)=true) (hr:UI r):Fq (a++r)=a.length:=by
 induction a with
 | nil =>
  cases r with
  | nil=>rfl
  | cons c q=>rw[List.nil_append,Fq,hr c q rfl];rfl
 | cons c q ih =>
  rw[List.all_cons,AAJ] at ha;rw[ABJ,Fq,AAG ha.1,ih ha.2];rfl
theorem UA {r:List UInt8} (ha:∀c∈a,zZ c=true) (hr:UI r):Dx (a++r)=a.length:=by
 induction a with
 | nil =>
  cases r with
  | nil=>rfl
  | cons c q =>
   have:=hr c q rfl;rw[Bool.or_eq_false_iff] at this;rw[List.nil_append,Dx,this.2];rfl
 | cons c q ih =>
  rw[ABJ,Dx,AAG (ha c (ABH ..)),ih fun d hd=>ha d (ABE _ hd)];rfl
theorem Sw (s:ByteArray):∀k,k<=s.size->(Mv s k).data.toList=34::(s.data.toList.take k).flatMap Nq
 | 0,_=>rfl
 | k+1,h=>by
  have hk:k<s.data.toList.length:=h;rw[Mv,ByteArray.data_append,Array.toList_append,Sw s k (by omega),af,ABC hk,List.flatMap_append]
  have:s.data.getD k 0=s.data.toList[k]:=by
   rw[Array.getD_eq_getD_getElem?,Array.getElem?_eq_getElem (by exact h)];rfl
  rw[this];simp
theorem aZ (s:ByteArray):(Rs s).data.toList=34::(s.data.toList.flatMap Nq++[34]):=by
 unfold Rs;rw[ByteArray.data_append,Array.toList_append,Sw s s.size (AAH _)];have:s.data.toList.take s.size=s.data.toList:=List.take_of_length_le (AAH _);rw[this];rfl
theorem Yr {s:List Ae} {t:Int} {v:Val} {n:Nat} (h:AU s false (n+1) t v=true):0<=t/\t<(s.length:Int)/\v.kind=(AB s t).kind/\zJ v=true/\AY (AU s false n) false (AB s t) v=true:=by
 rw[AU] at h
 split at h
 ·cases h
 ·rename_i h1
  split at h
  ·cases h
  ·rename_i h2
   simp only[not_or,ne_eq,Decidable.not_not,Bool.not_eq_false] at h2;exact ⟨by omega,by omega,h2.1,h2.2,h⟩
section
variable {f:Int->List AQ->Bool->PR Val} {g:Int->Val->List AQ} {x:Ae} {k:Bool} {more:List AQ}
end
section
variable {s:List Ae} {n:Nat} {t:Int} {v:Val}
end
def nZ (t:AQ):AQ:={ t with line:=0 }
def Qa (l r w:List AQ):Prop:=∃pre,l=pre++r/\pre.map nZ=w
theorem Qa.refl (l:List AQ):Qa l l []:=⟨[],rfl,rfl⟩
theorem Qa.app {a b c:List AQ} (h1:Qa a b u) (h2:Qa b c w):Qa a c (u++w):=by
 obtain ⟨p,rfl,rfl⟩:=h1;obtain ⟨q,rfl,rfl⟩:=h2;exact ⟨p++q,by rw[AA0],List.map_append⟩
def vF {α:Type} (part:List AQ->Bool->PR α):Prop:=∀l k x r k',part l k = .ok (x,r,k')->k=true->k'=true
theorem vF.false {α:Type} {part:List AQ->Bool->PR α} (h:vF part) {l:List AQ} {k:Bool} {x:α} {r:List AQ} (he:part l k = .ok (x,r,false)):k=false:=by
 cases k with
 | false=>rfl
 | true=>exact absurd (h _ _ _ _ _ he rfl) (by simp)
section
variable {f:Int->List AQ->Bool->PR Val} {g:Int->Val->List AQ}
variable {P:Int->Val->Prop}
end
end Go.Proofs.YthkkllmmbefedaaGreatDoor
namespace Go.Proofs.YthkkllmmbefedaaGreatDoor
theorem Ao (a b:ByteArray):(a++b).data.toList=a.data.toList++b.data.toList:=by rw[ByteArray.data_append,Array.toList_append]
structure vE (x:Ae):Prop where
 Aj:∀y∈x.Aj,Dw y.name=true
 AA:∀y∈x.AA,Dw y.name=true
 low:-9223372036854775808<=x.low
 high:x.high<=9223372036854775807
section
variable {f:Int->Val->ByteArray} {g:Int->Val->List AQ} {x:Ae}
theorem QJ (n:Int):(D5 n).data.toList=Lib.itoa n:=rfl
end
section
variable (f:Int->Val->ByteArray) {x:Ae}
end
section
variable (g:Int->Val->List AQ) {x:Ae} {v:Val}
end
theorem map_ok {α β:Type} {a:Except Int α} {g:α->β} {b:β} (h:a.map g = .ok b):∃x,a = .ok x/\g x=b:=by
 cases a with
 | error e=>cases h
 | ok x=>exact ⟨x,rfl,by injection h⟩
def Ie (t:AQ):ByteArray:=if t.kind=2 then D5 t.int else if t.kind=3 then Rs t.str else t.text
def uo (r:List UInt8):Prop:=∃c q,r=c::q/\(c.toNat=32\/c.toNat=10\/c.toNat=9)
theorem uo.sep {r:List UInt8} (h:uo r):UI r:=fun c q e=>by
 obtain ⟨d,p,h1,h2⟩:=h;rw[e] at h1
 injection h1 with h1 _
 subst h1;rw[ou (by omega),pK (by omega)];rfl
def sV (k:Nat):List UInt8:=if k=0 then [32] else if k=1 then [10] else if k=2 then [32,47,47,32,125,10] else [9,32]
def spread (ks:Nat->Nat):Nat->List AQ->List UInt8
 | _,[]=>[]
 | i,t::l=>(Ie t).data.toList++(sV (ks i)++spread ks (i+1) l)
theorem Sr:∀ (n:Nat) (l o:List UInt8) (k:Nat),l.length<=n->Mt l=some (o,k)->(o.flatMap Nq).length+1=k
 | _,[],_,_,_,h=>by rw[Sv] at h;cases h
 | 0,_::_,_,_,hn,_=>by simp at hn
 | n+1,c::r,o,k,hn,h=>by
  rw[Lf] at h
  split at h
  ·injection h with h;injection h with h1 h2;subst h1 h2;rfl
  ·rename_i hc
   split at h
   ·cases h
   ·rename_i b j hp
    have hle:=Ko hp;rw[AAs] at h;obtain ⟨⟨q,i⟩,h1,h2⟩:=h
    injection h2 with h2 h3
    subst h2 h3;have ih:=Sr n _ q i (by rw[AA1];simp only[AAS] at *;omega) h1
    have hs:=(jb hp fun d p e=>by injection e with e1 _;rw[<-e1];exact hc).2
    rw[ABN,AAt];simp only
    omega
theorem Zx {l:List UInt8} {t:AQ} {k:Nat} (h:EK l=some (t,k)):(Ie t).size=k:=by
 have hk:=JN h;have ht:∀j,j<=l.length->(bA (l.take j)).size=j:=fun j hj=>by
  show (l.take j).toArray.size=j
  rw[List.size_toArray,List.length_take];omega
 unfold EK at h
 split at h
 ·cases h
 ·rename_i c r
  split at h
  ·split at h
   ·injection h with h;injection h with h1 h2
    subst h1 h2;unfold Ie;rw[Pd (by show ¬ (1:Int)=2;decide),Pd (by show ¬ (1:Int)=3;decide)]
    exact ht _ (N7 _)
   ·cases h
  ·split at h
   ·rw[AAs] at h
    obtain ⟨v,hv,h⟩:=h
    injection h with h1 h2
    subst h1 h2;unfold Ie;rw[AAG (by rfl)]
    have:=(bU.1 hv).2
    show (Lib.itoa v).toArray.size=_
    rw[List.size_toArray,this,List.length_take];have:=LA r;rw[AAS];omega
   ·split at h
    ·rw[AAs] at h
     obtain ⟨⟨o,i⟩,hv,h⟩:=h
     injection h with h1 h2
     subst h1 h2;unfold Ie;rw[Pd (by show ¬ (3:Int)=2;decide),AAG (by rfl)]
     have h1:=Sr _ _ _ _ (AAH _) hv;have h2:(Rs (bA o)).size=((Rs (bA o)).data.toList).length:=rfl
     show (Rs (bA o)).size=_
     rw[h2,aZ]
     show ((34:UInt8)::(o.flatMap Nq++[34])).length=_
     rw[AAS,AAt];simp only[AAS,List.length_nil]
     omega
    ·rw[AAs] at h
     obtain ⟨n,hv,h⟩:=h
     injection h with h1 h2
     subst h1 h2;unfold Ie;rw[Pd (by show ¬ (4:Int)=2;decide),Pd (by show ¬ (4:Int)=3;decide)]
     exact ht _ (WM hv).2.1
def Ve:List AQ->Nat
 | []=>0
 | t::l=>(Ie t).size+Ve l
theorem XY (t:AQ) (ln:Int):Ie { t with line:=ln }=Ie t:=rfl
theorem Gl:∀ (n:Nat) (ln:Int) (l:List UInt8) (o:List AQ),l.length<=n->BB ln l = .ok o->Ve o<=l.length/\o.length<=l.length
 | _,ln,[],o,_,h=>by
  rw[JM] at h
  injection h with h
  subst h;exact ⟨AAH _,AAH _⟩
 | 0,_,_::_,_,hn,_=>by simp at hn
 | n+1,ln,c::r,o,hn,h=>by
  have hr:r.length<=n:=by simpa using hn
  rw[AAS];rw[Bn] at h
  split at h
  ·have:=Gl n _ r o hr h;omega
  ·split at h
   ·have:=Gl n _ r o hr h;omega
   ·split at h
    ·have h1:=Gt r
     have:=Gl n _ _ o (Nat.le_trans h1 hr) h;omega
    ·split at h
     ·cases h
     ·rename_i u k hk
      obtain ⟨q,hq,rfl⟩:=map_ok h;have hle:=JN hk;have hs:=Zx hk;have hd:((c::r).drop k).length=r.length+1 - k:=by rw[AA1,AAS]
      have:=Gl n _ _ q (by rw[hd];omega) hq
      rw[hd] at this;rw[AAS] at hle;rw[Ve,XY,hs,AAS]
      omega
section
variable {m:Bool} {f:Int->List AQ->Bool->PR Val}
end
structure QU (s:List Ae):Prop where
 ty:∀t,uj (AB s t)
 sym:∀t,((AB s t).Aj.map Bu.id).Nodup
 nam:∀t,vE (AB s t)
 kind:∀t,0<=t->t<(s.length:Int)->1<=(AB s t).kind/\(AB s t).kind<=9
noncomputable def Bd (m:Bool) (s:List Ae) (t:Int) (x:ByteArray):Val×Int :=
 if t<0\/(s.length:Int)<=t then (zeroV,4)
 else if 65536<x.size then (zeroV,3)
 else match BB 1 x.data.toList with
  | .error _=>(zeroV,2)
  | .ok l=>match Fa m s t l with
   | .error e=>(zeroV,e)
   | .ok (v,r,k)=>if r≠[] then (zeroV,2) else if k=true\/BH s false t v=false then (zeroV,1) else (v,0)
end Go.Proofs.YthkkllmmbefedaaGreatDoor



