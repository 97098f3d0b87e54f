/-
  The tokens of a value, from which it is read again: plain Lean.
-/
import Derived.Test.YthkkllmmbefedaaGreatDoorQGA2
import Derived.Lib.ParseIntBTie
import Derived.Lib.ParseIntBCases
import Derived.Lib.ItoaMem
namespace Go.Proofs.YthkkllmmbefedaaGreatDoor
set_option maxHeartbeats 16000000
set_option maxRecDepth 100000
def Cu (n:Nat):UInt8:=if n<10 then UInt8.ofNat (48+n) else UInt8.ofNat (87+n)
def KY (c:UInt8):ByteArray :=
 if c.toNat=34\/c.toNat=92 then ⟨#[92,c]⟩
 else if c.toNat=10 then ⟨#[92,110]⟩
 else if c.toNat<32\/126<c.toNat then ⟨#[92,120,Cu (c.toNat / 16),Cu (c.toNat % 16)]⟩
 else ⟨#[c]⟩
def Ns (s:ByteArray):Nat->ByteArray
 | 0=>⟨#[34]⟩
 | k+1=>Ns s k++KY (s.data.getD k 0)
def TG (s:ByteArray):ByteArray:=Ns s s.size++⟨#[34]⟩
variable {k m:Nat}
theorem cu (s:ByteArray) (h:k<=m):(Ns s k).size<=(Ns s m).size:=by
 induction m with
 | zero=>rw[Nat.le_zero.1 h];exact AAQ _
 | succ m ih =>
  rcases Nat.lt_or_ge k (m+1) with h1|h1
  ·have:=ih (by omega)
   rw[Ns,AAa]
   omega
  ·rw[Nat.le_antisymm h h1];exact AAQ _
def IK (f:Nat->ByteArray):Nat->ByteArray
 | 0=>⟨#[]⟩
 | k+1=>IK f k++(if k=0 then ⟨#[]⟩ else ⟨#[44,32]⟩)++f k
def Sj (l:List ByteArray):ByteArray:=IK (fun i=>l.getD i ⟨#[]⟩) l.length
theorem Zx (f:Nat->ByteArray) (h:k<=m):(IK f k).size<=(IK f m).size:=by
 induction m with
 | zero=>rw[Nat.le_zero.1 h];exact AAQ _
 | succ m ih =>
  rcases Nat.lt_or_ge k (m+1) with h1|h1
  ·have:=ih (by omega)
   rw[IK,AAa,AAa]
   omega
  ·rw[Nat.le_antisymm h h1];exact AAQ _
theorem Zw (f:Nat->ByteArray) (h:k<m):(IK f k).size+(if k=0 then (⟨#[]⟩:ByteArray) else ⟨#[44,32]⟩).size+(f k).size<=(IK f m).size:=by
 have:=Zx f (show k+1<=m by omega)
 rw[IK,AAa,AAa] at this;exact this
def WO (f:Int->Val->ByteArray) (p:AY×Val):ByteArray:=p.1.name++⟨#[58,32]⟩++f p.1.type p.2
def cK (r:Ac):ByteArray:=FP r.id++⟨#[58,32]⟩++TG r.data
def yh (f g:Val->ByteArray) (p:Val×Val):ByteArray:=f p.1++⟨#[32,45,62,32]⟩++g p.2
def O1 (f:Int->Val->ByteArray) (x:AZ) (v:Val):ByteArray :=
 if x.kind=1 then (if v.bool then ⟨#[116,114,117,101]⟩ else ⟨#[102,97,108,115,101]⟩)
 else if x.kind=2 then FP v.int
 else if x.kind=3 then TG v.str
 else if x.kind=4 then (match x.Ab.find? fun y=>decide (y.id=v.id) with
  | some y=>y.name
  | none=>⟨#[64]⟩++FP v.id)
 else if x.kind=5 then ⟨#[123]⟩++Sj ((x.AA.zip v.items).map (WO f)++v.rest.map cK)++⟨#[125]⟩
 else if x.kind=6 then (match x.AA.find? fun m=>decide (m.id=v.id) with
  | some m=>m.name++⟨#[40]⟩++(match v.items with|y::_=>f m.type y | []=>⟨#[]⟩)
  | none=>⟨#[64]⟩++FP v.id++⟨#[40]⟩++(match v.rest with|r::_=>TG r.data | []=>⟨#[]⟩))++⟨#[41]⟩
 else if x.kind=7 then ⟨#[91]⟩++Sj (v.items.map (f x.elem))++⟨#[93]⟩
 else if x.kind=8 then ⟨#[91]⟩++(if v.keys.length=0 then ⟨#[45,62]⟩ else ⟨#[]⟩)++Sj ((v.keys.zip v.items).map (yh (f x.key) (f x.elem)))++⟨#[93]⟩
 else (match v.items with
  | []=>⟨#[110,111,110,101]⟩
  | y::_=>⟨#[115,111,109,101,40]⟩++f x.elem y++⟨#[41]⟩)
def Ct (s:List AZ):Nat->Int->Val->ByteArray
 | 0,_,_=>⟨#[]⟩
 | n+1,t,v=>O1 (Ct s n) (AR s t) v
noncomputable def WR (s:List AZ) (t:Int) (v:Val):ByteArray:=Ct s (SizeOf.sizeOf v) t v
structure AB where
 kind:Int
 text:ByteArray
 int:Int
 str:ByteArray
 line:Int
 deriving DecidableEq
def BS (c:UInt8):Bool:=DT c.toNat
def zZ (c:UInt8):Bool:=Eb c.toNat
def CG:List UInt8->Nat
 | []=>0
 | c::r=>if BS c||zZ c then CG r+1 else 0
def EI:List UInt8->Nat
 | []=>0
 | c::r=>if zZ c then EI r+1 else 0
def JL (c:UInt8):Option Nat:=if 48<=c.toNat/\c.toNat<=57 then some (c.toNat - 48) else if 97<=c.toNat/\c.toNat<=102 then some (c.toNat - 87) else none
def F5:List UInt8->Option (UInt8×Nat)
 | []=>none
 | d::q =>
  if d.toNat=34\/d.toNat=92 then some (d,1)
  else if d.toNat=110 then some (10,1)
  else if d.toNat=120 then
   match q with
   | a::b::_ =>
    match JL a,JL b with
    | some x,some y=>if (16 * x+y<32\/126<16 * x+y)/\16 * x+y≠10 then some (UInt8.ofNat (16 * x+y),3) else none
    | _,_=>none
   | _=>none
  else none
def DC:List UInt8->Option (UInt8×Nat)
 | []=>none
 | c::r=>if c.toNat=92 then (F5 r).map fun p=>(p.1,p.2+1) else if c.toNat<32\/126<c.toNat then none else some (c,1)
def Po:Nat->List UInt8->Option (List UInt8×Nat)
 | 0,_=>none
 | _+1,[]=>none
 | n+1,c::r=>if c.toNat=34 then some ([],1) else
  match DC (c::r) with
  | none=>none
  | some (b,k)=>(Po n ((c::r).drop k)).map fun p=>(b::p.1,p.2+k)
def Fb (l:List UInt8):Option (List UInt8×Nat):=Po l.length l
def Fy (t:List UInt8):Option Int :=
 match Lib.parseIntB 64 t with
 | .ok v=>if Lib.itoa v=t then some v else none
 | _=>none
def Ck:List UInt8->Option Nat
 | []=>none
 | c::r =>
  if c.toNat=45/\(r.headD 0).toNat=62 then some 2
  else if c.toNat=46/\(r.headD 0).toNat=46 then some 2
  else if c.toNat=123\/c.toNat=125\/c.toNat=40\/c.toNat=41\/c.toNat=91\/c.toNat=93\/c.toNat=44\/c.toNat=59\/c.toNat=58\/c.toNat=61\/c.toNat=46\/c.toNat=33\/c.toNat=63\/c.toNat=64\/c.toNat=42\/c.toNat=124 then some 1
  else none
def bA (l:List UInt8):ByteArray:=⟨l.toArray⟩
def Cj:List UInt8->Option (AB×Nat)
 | []=>none
 | c::r =>
  if BS c then (if CG (c::r)<=24 then some (⟨1,bA ((c::r).take (CG (c::r))),0,⟨#[]⟩,0⟩,CG (c::r)) else none)
  else if zZ c||(decide (c.toNat=45)&&zZ (r.headD 0)) then (Fy ((c::r).take (1+EI r))).map fun v=>(⟨2,⟨#[]⟩,v,⟨#[]⟩,0⟩,1+EI r)
  else if c.toNat=34 then (Fb r).map fun p=>(⟨3,⟨#[]⟩,0,bA p.1,0⟩,p.2+1)
  else (Ck (c::r)).map fun n=>(⟨4,bA ((c::r).take n),0,⟨#[]⟩,0⟩,n)
def Dy:List UInt8->List UInt8
 | []=>[]
 | c::r=>if c.toNat=10 then c::r else Dy r
def I8:Nat->Int->List UInt8->Except Int (List AB)
 | _,_,[] => .ok []
 | 0,_,_::_ => .ok []
 | n+1,ln,c::r =>
  if c.toNat=10 then I8 n (ln+1) r
  else if c.toNat=32\/c.toNat=9 then I8 n ln r
  else if c.toNat=47/\(r.headD 0).toNat=47 then I8 n ln (Dy r)
  else match Cj (c::r) with
   | none => .error ln
   | some (t,k)=>(I8 n ln ((c::r).drop k)).map fun o=>{ t with line:=ln }::o
def BJ (ln:Int) (l:List UInt8):Except Int (List AB):=I8 l.length ln l
variable {c:UInt8}
theorem OM {x:Nat} (h:JL c=some x):x<16:=by
 unfold JL at h
 split at h
 ·injection h with h;omega
 ·split at h
  ·injection h with h;omega
  ·cases h
theorem Jk:∀l,CG l<=l.length
 | []=>AAQ _
 | c::r=>by
  have:=Jk r;rw[CG];split
  ·rw[AAS];omega
  ·exact Nat.zero_le _
theorem Jt:∀l,EI l<=l.length
 | []=>AAQ _
 | c::r=>by
  have:=Jt r;rw[EI];split
  ·rw[AAS];omega
  ·exact Nat.zero_le _
variable {l:List UInt8}
theorem YI {b:UInt8} (h:F5 l=some (b,k)):1<=k/\k<=l.length/\k<=3:=by
 unfold F5 at h
 split at h
 ·cases h
 ·rename_i d q
  split at h
  ·injection h with h;injection h with _ h;subst h;simp
  ·split at h
   ·injection h with h;injection h with _ h;subst h;simp
   ·split at h
    ·split at h
     ·split at h
      ·split at h
       ·injection h with h;injection h with _ h;subst h;simp
       ·cases h
      ·cases h
     ·cases h
    ·cases h
theorem Jg {b:UInt8} (h:DC l=some (b,k)):1<=k/\k<=l.length:=by
 unfold DC at h
 split at h
 ·cases h
 ·rename_i c r
  split at h
  ·rw[AAj] at h
   obtain ⟨⟨b',k'⟩,h1,h2⟩:=h;have:=YI h1
   injection h2 with _ h2
   simp only at h2;rw[AAS];omega
  ·split at h
   ·cases h
   ·injection h with h;injection h with _ h;subst h;simp
theorem Xt:∀ (n:Nat) (l:List UInt8) (o:List UInt8) (k:Nat),Po n l=some (o,k)->1<=k/\k<=l.length/\o.length<k
 | 0,_,_,_,h=>by cases h
 | n+1,[],_,_,h=>by cases h
 | n+1,c::r,o,k,h=>by
  rw[Po] at h
  split at h
  ·injection h with h;injection h with h1 h2;subst h1 h2;simp
  ·split at h
   ·cases h
   ·rename_i b j hp
    rw[AAj] at h;obtain ⟨⟨o',k'⟩,h1,h2⟩:=h;have ih:=Xt n _ _ _ h1;have:=Jg hp
    injection h2 with h2 h3
    simp only at h2 h3;subst h2 h3;rw[AAc] at ih;simp only[AAS] at *
    omega
theorem Mw:∀ (n:Nat) (l:List UInt8),l.length<=n->Po n l=Po l.length l
 | 0,l,h=>by rw[AAo (Nat.le_zero.1 h)];rfl
 | _+1,[],_=>by rw[Po];rfl
 | n+1,c::r,h=>by
  rw[AAS,Po,Po]
  split
  ·rfl
  ·split
   ·rfl
   ·rename_i b k hp
    have:=Jg hp;have hd:((c::r).drop k).length<=r.length:=by rw[AAc,AAS];omega
    rw[Mw n _ (by rw[AAS] at h;omega),Mw r.length _ hd]
termination_by _ l=>l.length
decreasing_by
 all_goals (rw[AAc,AAS] at *;omega)
theorem UG:Fb []=none:=rfl
theorem KE (c:UInt8) (r:List UInt8):Fb (c::r)=if c.toNat=34 then some ([],1) else
  match DC (c::r) with
  | none=>none
  | some (b,k)=>(Fb ((c::r).drop k)).map fun p=>(b::p.1,p.2+k):=by
 unfold Fb;rw[AAS,Po]
 split
 ·rfl
 ·split
  ·rfl
  ·rename_i b k hp
   have:=Jg hp;rw[Mw r.length _ (by rw[AAc,AAS];omega)]
theorem Xr {o:List UInt8} (h:Fb l=some (o,k)):1<=k/\k<=l.length/\o.length<k:=Xt _ _ _ _ h
theorem OA {n:Nat} (h:Ck l=some n):1<=n/\n<=l.length/\n<=2:=by
 unfold Ck at h
 split at h
 ·cases h
 ·rename_i c r
  have hr:∀m:Nat,(r.headD 0).toNat=m+1->2<=(c::r).length:=fun m hm=>by
   cases r with
   | nil=>simp at hm
   | cons d q=>simp
  split at h
  ·rename_i hc
   injection h with h;subst h
   exact ⟨by omega,hr _ hc.2,by omega⟩
  ·split at h
   ·rename_i hc
    injection h with h;subst h
    exact ⟨by omega,hr _ hc.2,by omega⟩
   ·split at h
    ·injection h with h;subst h;simp
    ·cases h
theorem Ij {t:AB} (h:Cj l=some (t,k)):1<=k/\k<=l.length:=by
 unfold Cj at h
 split at h
 ·cases h
 ·rename_i c r
  split at h
  ·rename_i hc
   split at h
   ·injection h with h;injection h with _ h;subst h
    refine ⟨?_,Jk _⟩;rw[CG,hc,Bool.true_or,AAC rfl];omega
   ·cases h
  ·split at h
   ·rw[AAj] at h
    obtain ⟨v,_,h⟩:=h
    injection h with _ h;subst h
    have:=Jt r;rw[AAS];omega
   ·split at h
    ·rw[AAj] at h
     obtain ⟨⟨o,j⟩,h1,h⟩:=h
     injection h with _ h;subst h
     have:=Xr h1;rw[AAS];simp only;omega
    ·rw[AAj] at h
     obtain ⟨n,h1,h⟩:=h
     injection h with _ h;subst h
     have:=OA h1;exact ⟨this.1,this.2.1⟩
theorem GX:∀l,(Dy l).length<=l.length
 | []=>AAQ _
 | c::r=>by
  have:=GX r;rw[Dy];split
  ·exact AAQ _
  ·rw[AAS];omega
theorem Dg:∀ (n:Nat) (ln:Int) (l:List UInt8),l.length<=n->I8 n ln l=I8 l.length ln l
 | 0,ln,l,h=>by rw[AAo (Nat.le_zero.1 h)];rfl
 | _+1,_,[],_=>by rw[I8,I8]
 | n+1,ln,c::r,h=>by
  have hn:r.length<=n:=by rw[AAS] at h;omega
  rw[AAS,I8,I8]
  split
  ·exact Dg n _ r hn
  ·split
   ·exact Dg n _ r hn
   ·split
    ·have:=GX r
     rw[Dg n _ _ (by omega),Dg r.length _ _ this]
    ·split
     ·rfl
     ·rename_i t k hp
      have:=Ij hp;have hd:((c::r).drop k).length<=r.length:=by rw[AAc,AAS];omega
      rw[Dg n _ _ (by omega),Dg r.length _ _ hd]
termination_by _ _ l=>l.length
decreasing_by
 all_goals (first|(rw[AAc,AAS] at *;omega)|(have:=GX r;simp only[AAS];omega))
theorem Mi (ln:Int):BJ ln [] = .ok []:=rfl
theorem EA (ln:Int) (c:UInt8) (r:List UInt8):BJ ln (c::r) =
  if c.toNat=10 then BJ (ln+1) r
  else if c.toNat=32\/c.toNat=9 then BJ ln r
  else if c.toNat=47/\(r.headD 0).toNat=47 then BJ ln (Dy r)
  else match Cj (c::r) with
   | none => .error ln
   | some (t,k)=>(BJ ln ((c::r).drop k)).map fun o=>{ t with line:=ln }::o:=by
 unfold BJ;rw[AAS,I8]
 split
 ·rfl
 ·split
  ·rfl
  ·split
   ·rw[Dg r.length _ _ (GX r)]
   ·split
    ·rfl
    ·rename_i t k hp
     have:=Ij hp;rw[Dg r.length _ _ (by rw[AAc,AAS];omega)]
theorem Qr {n:Nat} (h:n<16):JL (Cu n)=some n:=by
 have:∀m:Fin 16,JL (Cu m.1)=some m.1:=by decide
 exact this ⟨n,h⟩
theorem Qs {x:Nat} (h:JL c=some x):Cu x=c:=by
 unfold JL at h;have hc:=c.toNat_lt
 split at h
 ·rename_i hr
  injection h with h;subst h
  unfold Cu;rw[AAC (by omega)]
  apply UInt8.toNat_inj.1
  rw[UInt8.toNat_ofNat'];omega
 ·split at h
  ·injection h with h;subst h
   unfold Cu;rw[Pe (by omega)]
   apply UInt8.toNat_inj.1
   rw[UInt8.toNat_ofNat'];omega
  ·cases h
def Fx (c:UInt8):List UInt8 :=
 if c.toNat=34\/c.toNat=92 then [92,c]
 else if c.toNat=10 then [92,110]
 else if c.toNat<32\/126<c.toNat then [92,120,Cu (c.toNat / 16),Cu (c.toNat % 16)]
 else [c]
theorem Oj (c:UInt8):(KY c).data.toList=Fx c:=by
 unfold KY Fx
 repeat' split
 all_goals rfl
theorem UI (c:UInt8):(KY c).size=(Fx c).length:=by rw[<-Oj];rfl
variable {d:UInt8}
theorem Cn (h:c.toNat=d.toNat):c=d:=UInt8.toNat_inj.1 h
theorem kC (b:UInt8) (l:List UInt8) (h:Fx b <+: l) (hq:∀c r,l=c::r->c.toNat≠34):DC l=some (b,(Fx b).length):=by
 obtain ⟨r,rfl⟩:=h;unfold Fx at *
 split at hq
 ·rename_i h1
  rw[AAC h1]
  show DC (92::b::r)=_
  rw[DC,AAC (show (92:UInt8).toNat=92 from rfl)];unfold F5;simp only[AAC h1];rfl
 ·rename_i h1
  rw[Pe h1]
  split at hq
  ·rename_i h2
   rw[AAC h2]
   show DC (92::110::r)=_
   rw[DC,AAC (show (92:UInt8).toNat=92 from rfl)];unfold F5;simp only[];rw[Pe (by decide),AAC (show (110:UInt8).toNat=110 from rfl)]
   rw[show b=10 from Cn h2];rfl
  ·rename_i h2
   rw[Pe h2]
   split at hq
   ·rename_i h3
    rw[AAC h3];have hb:=b.toNat_lt
    show DC (92::120::Cu (b.toNat / 16)::Cu (b.toNat % 16)::r)=_
    rw[DC,AAC (show (92:UInt8).toNat=92 from rfl),F5,Pe (by decide),Pe (by decide),AAC (show (120:UInt8).toNat=120 from rfl)]
    simp only[Qr (show b.toNat / 16<16 by omega),Qr (show b.toNat % 16<16 by omega)]
    rw[AAC (by omega)]
    have e:UInt8.ofNat (16 * (b.toNat / 16)+b.toNat % 16)=b:=by
     apply Cn
     rw[UInt8.toNat_ofNat'];omega
    rw[e];rfl
   ·rename_i h3
    rw[Pe h3]
    show DC (b::r)=_
    rw[DC,Pe (by omega),Pe h3];rfl
theorem R6 {b:UInt8} (h:DC l=some (b,k)) (hq:∀c r,l=c::r->c.toNat≠34):Fx b <+: l/\k=(Fx b).length:=by
 unfold DC at h
 split at h
 ·cases h
 ·rename_i c r
  have h34:=hq c r rfl
  split at h
  ·rename_i hc
   rw[show c=92 from Cn hc];rw[AAj] at h;obtain ⟨⟨b',k'⟩,h1,h2⟩:=h
   injection h2 with h2 h3
   simp only at h2 h3;subst h2 h3;unfold F5 at h1
   split at h1
   ·cases h1
   ·rename_i d q
    split at h1
    ·rename_i hd
     injection h1 with h1;injection h1 with h1 h2;subst h1 h2
     unfold Fx;rw[AAC hd];exact ⟨⟨q,rfl⟩,rfl⟩
    ·rename_i hd
     split at h1
     ·rename_i hd2
      injection h1 with h1;injection h1 with h1 h2;subst h1 h2
      rw[show d=110 from Cn hd2];exact ⟨⟨q,rfl⟩,rfl⟩
     ·split at h1
      ·rename_i hd3
       rw[show d=120 from Cn hd3]
       split at h1
       ·rename_i a b2 q2
        split at h1
        ·rename_i x y hx hy
         split at h1
         ·rename_i hr
          injection h1 with h1;injection h1 with h1 h2
          have hx16:=OM hx;have xY:=OM hy;have hbv:b'.toNat=16 * x+y:=by rw[<-h1,UInt8.toNat_ofNat'];omega
          subst h2;unfold Fx;rw[Pe (by omega),Pe (by omega),AAC (by omega)]
          rw[show b'.toNat / 16=x by omega,show b'.toNat % 16=y by omega,Qs hx,Qs hy]
          exact ⟨⟨q2,rfl⟩,rfl⟩
         ·cases h1
        ·cases h1
       ·cases h1
      ·cases h1
  ·rename_i hc
   split at h
   ·cases h
   ·rename_i hr
    injection h with h;injection h with h1 h2;subst h1 h2
    unfold Fx;rw[Pe (by omega),Pe (by omega),Pe hr]
    exact ⟨⟨r,rfl⟩,rfl⟩
theorem Ju:∀ (u:Nat) (b:UInt8),b∈Lib.decDigits u->48<=b.toNat/\b.toNat<=57:=by
 intro u
 induction u using Nat.strongRecOn with
 | _ u ih =>
  intro b hb
  rw[Lib.decDigits] at hb
  split at hb
  ·rw[List.mem_singleton] at hb
   subst hb;rw[UInt8.toNat_ofNat']
   omega
  ·rw[AAl,List.mem_singleton] at hb
   rcases hb with hb|hb
   ·exact ih (u / 10) (by omega) b hb
   ·subst hb
    rw[UInt8.toNat_ofNat']
    omega
theorem FC (u:Nat):Lib.decDigits u≠[]:=by
 rw[Lib.decDigits];split <;> simp
theorem Iu {d:Nat} (h:d<10):(UInt8.ofNat (48+d)).toNat=48+d:=by
 rw[UInt8.toNat_ofNat'];omega
theorem I9 (M:Nat) (c:UInt8):∀ (l:List UInt8) (acc u:Nat),Lib.parseUintM M acc l = .ok u->Lib.parseUintM M acc (l++[c])=Lib.parseUintM M u [c]
 | [],acc,u,h=>by
  rw[Lib.parseUintM] at h
  injection h with h
  subst h;rfl
 | b::r,acc,u,h=>by
  rw[Lib.parseUintM] at h;rw[ABE,Lib.parseUintM]
  split at h
  ·rename_i h1
   rw[AAC h1]
   split at h
   ·cases h
   ·rename_i h2
    rw[Pe h2]
    split at h
    ·cases h
    ·rename_i h3
     rw[Pe h3];exact I9 M c r _ u h
  ·cases h
theorem Jh:∀ (u:Nat),u<=18446744073709551615->Lib.parseUintM 18446744073709551615 0 (Lib.decDigits u) = .ok u:=by
 intro u
 induction u using Nat.strongRecOn with
 | _ u ih =>
  intro hu
  rw[Lib.decDigits]
  split
  ·rename_i h
   have e:=Iu h;rw[Lib.parseUintM,e,AAC (by omega),Pe (by omega),Pe (by omega),Lib.parseUintM]
   congr 1;omega
  ·rw[I9 _ _ _ _ _ (ih (u / 10) (by omega) (by omega))]
   have e:=Iu (show u % 10<10 by omega)
   rw[Lib.parseUintM,e,AAC (by omega),Pe (by omega),Pe (by omega),Lib.parseUintM]
   congr 1;omega
theorem Om {v:Int} (h1:-9223372036854775808<=v) (h2:v<=9223372036854775807):Lib.parseIntB 64 (Lib.itoa v) = .ok v:=by
 have e:(2 ^ 64 - 1:Nat)=18446744073709551615:=by decide
 have e2:(2 ^ (64 - 1):Nat)=9223372036854775808:=by decide
 by_cases hn:v<0
 ·have hv:v = -(v.natAbs:Int):=by omega
  rw[hv,Lib.itoa_neg _ (by omega),Lib.parseIntB_minus,e2]
  unfold Lib.parseUintB;rw[Pe (FC _),e,Jh _ (by omega)]
  show (if 9223372036854775808<v.natAbs then _ else _)=_
  rw[Pe (by omega)]
 ·have hv:v=(v.toNat:Int):=by omega
  rw[hv,Lib.itoa_nonneg]
  cases hd:Lib.decDigits v.toNat with
  | nil=>exact absurd hd (FC _)
  | cons c r =>
   have hm:=Ju v.toNat c (by rw[hd];exact AA9 ..)
   rw[Lib.parseIntB_plain _ _ _ (by omega) (by omega),<-hd,e2]
   unfold Lib.parseUintB;rw[Pe (FC _),e,Jh _ (by omega)]
   show (if 9223372036854775808<=v.toNat then _ else _)=_
   rw[Pe (by omega)]
theorem O3 {t:List UInt8} {v:Int}:Fy t=some v↔(-9223372036854775808<=v/\v<=9223372036854775807)/\Lib.itoa v=t:=by
 have e2:(2 ^ (64 - 1):Nat)=9223372036854775808:=by decide
 unfold Fy
 constructor
 ·intro h
  split at h
  ·rename_i u hu
   split at h
   ·rename_i hi
    injection h with h;subst h
    have:=Lib.parseIntB_bounds hu;rw[e2] at this;exact ⟨⟨by omega,by omega⟩,hi⟩
   ·cases h
  ·cases h
 ·rintro ⟨⟨h1,h2⟩,rfl⟩
  rw[Om h1 h2];simp
def MK (sg a:Int):List UInt8->Int
 | []=>a
 | c::r=>MK sg (10 * a+sg * ((c.toNat:Int) - 48)) r
theorem IV (sg:Int) (c:UInt8):∀ (l:List UInt8) (a:Int),MK sg a (l++[c])=10 * MK sg a l+sg * ((c.toNat:Int) - 48)
 | [],_=>rfl
 | b::r,a=>by rw[ABE,MK,MK,IV sg c r]
theorem VD (sg:Int):∀ (u:Nat),MK sg 0 (Lib.decDigits u)=sg * u:=by
 intro u
 induction u using Nat.strongRecOn with
 | _ u ih =>
  rw[Lib.decDigits]
  split
  ·rename_i h
   rw[MK,MK,Iu h];rw[show ((48+u:Nat):Int) - 48=u by omega]
   omega
  ·rw[IV,ih (u / 10) (by omega),Iu (show u % 10<10 by omega)]
   rw[show ((48+u % 10:Nat):Int) - 48=((u % 10:Nat):Int) by omega]
   have h1:(u:Int)=10 * ((u / 10:Nat):Int)+((u % 10:Nat):Int):=by omega
   generalize ((u / 10:Nat):Int)=a at *;generalize ((u % 10:Nat):Int)=b at *;rw[h1,Int.mul_add,Int.mul_left_comm]
def V3 (t:List UInt8):Int:=match t with
 | []=>0
 | c::r=>if c.toNat=45 then MK (-1) 0 r else MK 1 0 (c::r)
theorem Y5 (v:Int):V3 (Lib.itoa v)=v:=by
 by_cases hn:v<0
 ·have hv:v = -(v.natAbs:Int):=by omega
  rw[hv,Lib.itoa_neg _ (by omega)]
  unfold V3;simp only;rw[AAC (show (45:UInt8).toNat=45 from rfl),VD];omega
 ·have hv:v=(v.toNat:Int):=by omega
  rw[hv,Lib.itoa_nonneg]
  cases hd:Lib.decDigits v.toNat with
  | nil=>exact absurd hd (FC _)
  | cons c r =>
   have hm:=Ju v.toNat c (by rw[hd];exact AA9 ..)
   unfold V3;simp only;rw[Pe (by omega),<-hd,VD];omega
variable {n:Int}
theorem Uj {t:List UInt8} {k:Int} (h1:-9223372036854775808<=n) (h2:n<=9223372036854775807) (hk:n=V3 t+18446744073709551616 * k):
  Fy t=if Lib.itoa n=t then some n else none:=by
 split
 ·rename_i h
  exact O3.2 ⟨⟨h1,h2⟩,h⟩
 ·rename_i h
  cases hi:Fy t with
  | none=>rfl
  | some v =>
   obtain ⟨⟨g1,g2⟩,g3⟩:=O3.1 hi;have:V3 t=v:=by rw[<-g3,Y5]
   have hnv:n=v:=by omega
   exact absurd (by rw[hnv];exact g3) h
def Ap:List (List UInt8):=[[45,62],[46,46],[123],[125],[40],[41],[91],[93],[44],[59],[58],[61],[46],[33],[63],[64],[42],[124]]
variable {r:List UInt8}
theorem Jb (h:(c.toNat=45/\d.toNat=62)\/(c.toNat=46/\d.toNat=46)):Ck (c::d::r)=some 2:=by
 rw[Ck]
 rcases h with h|h
 ·rw[AAC (show c.toNat=45/\((d::r).headD 0).toNat=62 from h)]
 ·rw[Pe (fun hc:c.toNat=45/\_=>by have:=hc.1;omega),AAC (show c.toNat=46/\((d::r).headD 0).toNat=46 from h)]
def Nu (n:Nat):Prop:=n=123\/n=125\/n=40\/n=41\/n=91\/n=93\/n=44\/n=59\/n=58\/n=61\/n=46\/n=33\/n=63\/n=64\/n=42\/n=124
theorem Tf (h:¬ (c.toNat=45/\(r.headD 0).toNat=62)) (h2:¬ (c.toNat=46/\(r.headD 0).toNat=46)) (h3:Nu c.toNat):Ck (c::r)=some 1:=by
 rw[Ck,Pe h,Pe h2];exact AAC h3
theorem Xn (h:¬ (c.toNat=45/\(r.headD 0).toNat=62)) (h2:¬ (c.toNat=46/\(r.headD 0).toNat=46)) (h3:¬ Nu c.toNat):Ck (c::r)=none:=by
 rw[Ck,Pe h,Pe h2];exact Pe h3
theorem Ls {x y:UInt8} (hy:y.toNat≠0) (h:¬ [x,y] <+: c::r):¬ (c.toNat=x.toNat/\(r.headD 0).toNat=y.toNat):=by
 rintro ⟨h1,h2⟩
 cases r with
 | nil=>exact hy (by rw[<-h2];rfl)
 | cons d q =>
  rw[List.headD_cons] at h2;exact h ⟨q,by rw[Cn h1,Cn h2];rfl⟩
theorem Yu {i:Nat} (hi:i<Ap.length) (hp:Ap[i] <+: l) (hn:∀j (hj:j<i),¬ Ap[j]'(Nat.lt_trans hj hi) <+: l):
  Ck l=some Ap[i].length/\l.take Ap[i].length=Ap[i]:=by
 refine ⟨?_,(List.prefix_iff_eq_take.1 hp).symm⟩;obtain ⟨r,rfl⟩:=hp
 by_cases i0:i=0
 ·subst i0;exact Jb (Or.inl ⟨rfl,rfl⟩)
 by_cases i1:i=1
 ·subst i1;exact Jb (Or.inr ⟨rfl,rfl⟩)
 have n0:=hn 0 (by omega)
 have n1:=hn 1 (by omega)
 have hT:∀k:Fin 18,2<=k.1->Ap[k.1]'(k.2)=[(Ap[k.1]'(k.2)).headD 0]/\Nu ((Ap[k.1]'(k.2)).headD 0).toNat:=by
  unfold Nu
  decide
 obtain ⟨hc,h1⟩:=hT ⟨i,hi⟩ (by simp only;omega)
 generalize (Ap[(⟨i,hi⟩:Fin 18).1]'(⟨i,hi⟩:Fin 18).2).headD 0=c at hc h1;have hc2:Ap[i]=[c]:=hc;clear hT hn;rw[hc2] at n0 n1 ⊢;exact Tf (Ls (x:=45) (y:=62) (by decide) n0) (Ls (x:=46) (y:=46) (by decide) n1) h1
theorem bJ (hn:∀j (hj:j<Ap.length),¬ Ap[j] <+: l):Ck l=none:=by
 cases l with
 | nil=>rfl
 | cons c r =>
  refine Xn (Ls (x:=45) (y:=62) (by decide) (hn 0 (by decide))) (Ls (x:=46) (y:=46) (by decide) (hn 1 (by decide))) fun h=>?_
  have hT:∀d:UInt8,Nu d.toNat->∃k:Fin 18,Ap[k.1]'(k.2)=[d]:=fun d hd=>by
   have:∀n:Nat,Nu n->∃k:Fin 18,Ap[k.1]'(k.2)=[UInt8.ofNat n]:=fun n hn=>by
    unfold Nu at hn
    rcases hn with h|h|h|h|h|h|h|h|h|h|h|h|h|h|h|h <;> subst h <;> decide
   have:=this _ hd
   rwa [UInt8.ofNat_toNat] at this
  obtain ⟨k,hk⟩:=hT c h;exact hn k.1 k.2 (by rw[hk];exact ⟨r,rfl⟩)
theorem Yt:∀x∈Ap,x.length=1\/x.length=2:=by decide
theorem Xk:[c,d]∈Ap↔Ck (c::d::r)=some 2:=by
 constructor
 ·intro h
  have:∀x∈Ap,∀a b,x=[a,b]->(a.toNat=45/\b.toNat=62)\/(a.toNat=46/\b.toNat=46):=by
   intro x hx a b e
   subst e;simp only[Ap,AAf,List.cons.injEq,and_true,reduceCtorEq,and_false,or_false,List.not_mem_nil] at hx
   rcases hx with ⟨rfl,rfl⟩|⟨rfl,rfl⟩
   ·exact Or.inl ⟨rfl,rfl⟩
   ·exact Or.inr ⟨rfl,rfl⟩
  exact Jb (this _ h c d rfl)
 ·intro h
  rw[Ck] at h
  split at h
  ·rename_i hc
   rw[show c=45 from Cn hc.1,show d=62 from Cn hc.2];decide
  ·split at h
   ·rename_i hc
    rw[show c=46 from Cn hc.1,show d=46 from Cn hc.2];decide
   ·split at h
    ·cases h
    ·cases h
theorem Xl (h2:Ck (c::r)≠some 2):[c]∈Ap↔Ck (c::r)=some 1:=by
 constructor
 ·intro h
  have h3:Nu c.toNat:=by
   simp only[Ap,AAf,List.cons.injEq,and_true,reduceCtorEq,and_false,or_false,false_or,List.not_mem_nil] at h;unfold Nu
   rcases h with h|h|h|h|h|h|h|h|h|h|h|h|h|h|h|h <;> subst h <;> decide
  refine Tf (fun hc=>h2 ?_) (fun hc=>h2 ?_) h3
  ·cases r with
   | nil=>exact absurd hc.2 (by decide)
   | cons d q=>exact Jb (Or.inl hc)
  ·cases r with
   | nil=>exact absurd hc.2 (by decide)
   | cons d q=>exact Jb (Or.inr hc)
 ·intro h
  rw[Ck] at h
  split at h
  ·cases h
  ·split at h
   ·cases h
   ·split at h
    ·rename_i hd
     have:∀n:Nat,Nu n->[UInt8.ofNat n]∈Ap:=fun n hn=>by
      unfold Nu at hn
      rcases hn with h|h|h|h|h|h|h|h|h|h|h|h|h|h|h|h <;> subst h <;> decide
     have:=this _ hd
     rwa [UInt8.ofNat_toNat] at this
    ·cases h
theorem Vp {l:List UInt8}:Ck l=none\/Ck l=some 1\/Ck l=some 2:=by
 cases h:Ck l with
 | none=>exact Or.inl rfl
 | some n =>
  have:=OA h;have:n=1\/n=2:=by omega
  rcases this with rfl|rfl
  ·exact Or.inr (Or.inl rfl)
  ·exact Or.inr (Or.inr rfl)
theorem Qo:∀l:List UInt8,(l.take (CG l)).all (fun d=>BS d||zZ d)=true
 | []=>rfl
 | c::r=>by
  rw[CG]
  split
  ·rename_i h
   rw[List.take_succ_cons,List.all_cons,h,Qo r];rfl
  ·rfl
theorem Uh {n:Nat} (hn:n<=l.length) (h1:∀i (h:i<l.length),i<n->(BS l[i]||zZ l[i])=true) (h2:∀h:n<l.length,(BS l[n]||zZ l[n])=false):CG l=n:=by
 induction l generalizing n with
 | nil=>simp at hn;subst hn;rfl
 | cons c r ih =>
  cases n with
  | zero =>
   have:=h2 (by simp)
   rw[CG,Pe (by simpa using this)]
  | succ n =>
   have:=h1 0 (by simp) (by omega)
   rw[CG,AAC (by simpa using this)]
   rw[ih (n:=n) (by simpa using hn) (fun i hi hin=>by have:=h1 (i+1) (by simpa using hi) (by omega);simpa using this) (fun h=>by have:=h2 (by simpa using h);simpa using this)]
theorem U7 {n:Nat} (hn:n<=l.length) (h1:∀i (h:i<l.length),i<n->zZ l[i]=true) (h2:∀h:n<l.length,zZ l[n]=false):EI l=n:=by
 induction l generalizing n with
 | nil=>simp at hn;subst hn;rfl
 | cons c r ih =>
  cases n with
  | zero =>
   have:=h2 (by simp)
   rw[EI,Pe (by simpa using this)]
  | succ n =>
   have:=h1 0 (by simp) (by omega)
   rw[EI,AAC (by simpa using this)]
   rw[ih (n:=n) (by simpa using hn) (fun i hi hin=>by have:=h1 (i+1) (by simpa using hi) (by omega);simpa using this) (fun h=>by have:=h2 (by simpa using h);simpa using this)]
theorem WN (h:BS c=true):CV (bA ((c::r).take (CG (c::r))))=decide (CG (c::r)<=24):=by
 have hk:CG (c::r)=CG r+1:=by rw[CG,h,Bool.true_or,AAC rfl]
 have ha:=Qo (c::r);have hl:((c::r).take (CG (c::r))).length=CG (c::r):=by rw[List.length_take];exact Nat.min_eq_left (Jk _)
 unfold CV bA
 show (decide (0<((c::r).take (CG (c::r))).toArray.size)&&decide (((c::r).take (CG (c::r))).toArray.size<=24)&&DT (((((c::r).take (CG (c::r))).getD 0 0).toNat:Nat):Int)&&((c::r).take (CG (c::r))).all Ko)=_
 rw[List.size_toArray,hl];have h1:((c::r).take (CG (c::r))).all Ko=true:=ha;have h2:((c::r).take (CG (c::r))).getD 0 0=c:=by rw[hk];rfl
 have h3:DT ((c.toNat:Nat):Int)=true:=h;have h4:decide (0<CG (c::r))=true:=by rw[hk];simp
 rw[h1,h2,h3,h4,Bool.true_and,Bool.and_true,Bool.and_true]
abbrev PR (α:Type):=Except Int (α×List AB×Bool)
def Bg (k:Int):List AB->Except Int (AB×List AB)
 | t::l=>if t.kind=k then .ok (t,l) else .error 2
 | [] => .error 2
def Ba (s:ByteArray):List AB->Bool
 | t::_=>decide (t.kind=4)&&decide (t.text=s)
 | []=>false
def BG (s:ByteArray) (l:List AB):Except Int (List AB):=if Ba s l=true then .ok l.tail else .error 2
def GH (m:Bool) (n:Int):Int:=if m=true/\(n<0\/1000000<n) then 0 else n
def JB (x:AZ) (n:Int):Bool:=x.Ab.any fun y=>decide (y.id=n)
def CY (m:Bool) (x:AZ) (l:List AB) (k:Bool):PR Int :=
 if Ba ⟨#[64]⟩ l=true then (Bg 2 l.tail).bind fun p =>
  if JB x (GH m p.1.int)=true then (if m=true then .ok (0,p.2,k) else .ok (GH m p.1.int,p.2,true)) else .ok (GH m p.1.int,p.2,k)
 else (Bg 1 l).bind fun p =>
  match x.Ab.find? fun y=>decide (y.name=p.1.text) with
  | some y => .ok (y.id,p.2,k)
  | none => .error 4
def Jd {α:Type} (part:List AB->Bool->PR α):Nat->List AB->Bool->PR (List α)
 | 0,_,_ => .error 0
 | n+1,l,k=>(part l k).bind fun p =>
  if Ba ⟨#[44]⟩ p.2.1=true then (Jd part n p.2.1.tail p.2.2).bind fun q => .ok (p.1::q.1,q.2) else .ok ([p.1],p.2)
section
variable (m:Bool) (f:Int->List AB->Bool->PR Val)
def Gv (x:AZ) (l:List AB) (k:Bool):PR (List Val) :=
 (BG ⟨#[91]⟩ l).bind fun l1=>if Ba ⟨#[93]⟩ l1=true then .ok ([],l1.tail,k) else
  (Jd (f x.elem) (l1.length+1) l1 k).bind fun p=>(BG ⟨#[93]⟩ p.2.1).bind fun l2 => .ok (p.1,l2,p.2.2)
def Bb (x:AZ) (l:List AB) (k:Bool):PR (Val×Val) :=
 (f x.key l k).bind fun p=>(BG ⟨#[45,62]⟩ p.2.1).bind fun l1=>(f x.elem l1 p.2.2).bind fun q => .ok ((p.1,q.1),q.2)
def G6 (x:AZ) (l:List AB) (k:Bool):PR (List (Val×Val)) :=
 (BG ⟨#[91]⟩ l).bind fun l1=>if Ba ⟨#[45,62]⟩ l1=true then (BG ⟨#[93]⟩ l1.tail).bind fun l2 => .ok ([],l2,k)
  else if Ba ⟨#[93]⟩ l1=true then .error 2
  else (Jd (Bb f x) (l1.length+1) l1 k).bind fun p=>(BG ⟨#[93]⟩ p.2.1).bind fun l2 => .ok (p.1,l2,p.2.2)
def Fg (x:AZ) (l:List AB) (k:Bool):PR (List Val) :=
 (Bg 1 l).bind fun p=>if p.1.text=⟨#[110,111,110,101]⟩ then .ok ([],p.2,k)
  else if p.1.text=⟨#[115,111,109,101]⟩ then (BG ⟨#[40]⟩ p.2).bind fun l2=>(f x.elem l2 k).bind fun q=>(BG ⟨#[41]⟩ q.2.1).bind fun l4 => .ok ([q.1],l4,q.2.2)
  else .error 2
def BM:Bool->List AY->List AB->Bool->PR (List Val)
 | _,[],l,k => .ok ([],l,k)
 | first,y::ms,l,k=>(if first=true then .ok l else BG ⟨#[44]⟩ l).bind fun l0=>(Bg 1 l0).bind fun p =>
  if p.1.text=y.name then (BG ⟨#[58]⟩ p.2).bind fun l2=>(f y.type l2 k).bind fun q=>(BM false ms q.2.1 q.2.2).bind fun r => .ok (q.1::r.1,r.2)
  else .error 4
def Ee:Nat->Bool->List AB->Except Int (List Ac×List AB)
 | 0,_,_ => .error 0
 | n+1,first,l=>if Ba ⟨#[125]⟩ l=true then .ok ([],l) else
  (if first=true then .ok l else BG ⟨#[44]⟩ l).bind fun l1=>(Bg 2 l1).bind fun p=>(BG ⟨#[58]⟩ p.2).bind fun l3=>(Bg 3 l3).bind fun q =>
   (Ee n false q.2).bind fun r => .ok (⟨GH m p.1.int,q.1.str⟩::r.1,r.2)
def H9 (x:AZ) (l:List AB) (k:Bool):PR (List Val×List Ac) :=
 (BG ⟨#[123]⟩ l).bind fun l1=>(BM f true x.AA l1 k).bind fun p=>(Ee m (p.2.1.length+1) x.AA.isEmpty p.2.1).bind fun q =>
  (BG ⟨#[125]⟩ q.2).bind fun l2 => .ok ((p.1,q.1),l2,p.2.2)
def Co (x:AZ) (l:List AB) (k:Bool):PR (Int×List Val×List Ac) :=
 if Ba ⟨#[64]⟩ l=true then (Bg 2 l.tail).bind fun p=>(BG ⟨#[40]⟩ p.2).bind fun l2=>(Bg 3 l2).bind fun q=>(BG ⟨#[41]⟩ q.2).bind fun l4 =>
  .ok ((GH m p.1.int,[],[⟨GH m p.1.int,q.1.str⟩]),l4,k)
 else (Bg 1 l).bind fun p =>
  match x.AA.find? fun y=>decide (y.name=p.1.text) with
  | none => .error 4
  | some y=>(BG ⟨#[40]⟩ p.2).bind fun l2=>(f y.type l2 k).bind fun q=>(BG ⟨#[41]⟩ q.2.1).bind fun l4 => .ok ((y.id,[q.1],[]),l4,q.2.2)
def IL (l:List AB) (k:Bool):PR Bool :=
 (Bg 1 l).bind fun p=>if p.1.text=⟨#[116,114,117,101]⟩ then .ok (true,p.2,k) else if p.1.text=⟨#[102,97,108,115,101]⟩ then .ok (false,p.2,k) else .error 2
def CO (x:AZ) (l:List AB) (k:Bool):PR Val :=
 if x.kind=1 then (IL l k).bind fun p => .ok (.mk 1 p.1 0 ⟨#[]⟩ 0 [] [] [],p.2)
 else if x.kind=2 then (Bg 2 l).bind fun p => .ok (.mk 2 false p.1.int ⟨#[]⟩ 0 [] [] [],p.2,k)
 else if x.kind=3 then (Bg 3 l).bind fun p => .ok (.mk 3 false 0 p.1.str 0 [] [] [],p.2,k)
 else if x.kind=4 then (CY m x l k).bind fun p => .ok (.mk 4 false 0 ⟨#[]⟩ p.1 [] [] [],p.2)
 else if x.kind=5 then (H9 m f x l k).bind fun p => .ok (.mk 5 false 0 ⟨#[]⟩ 0 [] p.1.1 p.1.2,p.2)
 else if x.kind=6 then (Co m f x l k).bind fun p => .ok (.mk 6 false 0 ⟨#[]⟩ p.1.1 [] p.1.2.1 p.1.2.2,p.2)
 else if x.kind=7 then (Gv f x l k).bind fun p => .ok (.mk 7 false 0 ⟨#[]⟩ 0 [] p.1 [],p.2)
 else if x.kind=8 then (G6 f x l k).bind fun p => .ok (.mk 8 false 0 ⟨#[]⟩ 0 (p.1.map Prod.fst) (p.1.map Prod.snd) [],p.2)
 else (Fg f x l k).bind fun p => .ok (.mk 9 false 0 ⟨#[]⟩ 0 [] p.1 [],p.2)
end
def Mf (m:Bool) (s:List AZ):Nat->Int->List AB->Bool->PR Val
 | 0,_,_,_ => .error 0
 | n+1,t,l,k=>CO m (Mf m s n) (AR s t) l k
def C9 (m:Bool) (s:List AZ) (t:Int) (l:List AB):PR Val:=Mf m s (l.length+1) t l false
theorem zM {α β:Type} (a:α) (g:α->Except Int β):(Except.ok a:Except Int α).bind g=g a:=rfl
theorem Aj {α β:Type} (e:Int) (g:α->Except Int β):(Except.error e:Except Int α).bind g = .error e:=rfl
theorem zS {α β:Type} {a:Except Int α} {g:α->Except Int β} {b:β} (h:a.bind g = .ok b):∃x,a = .ok x/\g x = .ok b:=by
 cases a with
 | error e=>cases h
 | ok x=>exact ⟨x,rfl,h⟩
theorem Gd {α β:Type} {a:Except Int α} {g:α->Except Int β} {e:Int} (h:a.bind g = .error e):a = .error e\/∃x,a = .ok x/\g x = .error e:=by
 cases a with
 | error e'=>exact Or.inl (by injection h with h;rw[h])
 | ok x=>exact Or.inr ⟨x,rfl,h⟩
def Lt (a b:List AB):Prop:=a <:+ b/\a.length<b.length
variable {a b:List AB}
theorem Lt.LH (h:Lt a b):a <:+ b:=h.1
theorem Lt.then {c:List AB} (h:a <:+ b) (h2:Lt b c):Lt a c:=⟨h.trans h2.1,Nat.lt_of_le_of_lt h.length_le h2.2⟩
theorem Lt.then' {c:List AB} (h:Lt a b) (h2:b <:+ c):Lt a c:=⟨h.1.trans h2,AAt h.2 h2.length_le⟩
theorem Bj {k:Int} {l:List AB} {t:AB} {r:List AB} (h:Bg k l = .ok (t,r)):Lt r l/\l=t::r/\t.kind=k:=by
 cases l with
 | nil=>cases h
 | cons u q =>
  rw[Bg] at h
  split at h
  ·rename_i hk
   injection h with h;injection h with h1 h2;subst h1 h2
   exact ⟨⟨List.suffix_cons _ _,by simp⟩,rfl,hk⟩
  ·cases h
variable {s:ByteArray}
theorem BN {l:List AB} (h:Ba s l=true):∃t r,l=t::r/\t.kind=4/\t.text=s:=by
 cases l with
 | nil=>cases h
 | cons t r =>
  rw[Ba,AAG,AAY,AAY] at h;exact ⟨t,r,rfl,h.1,h.2⟩
theorem Dz {l:List AB} (h:Ba s l=true):Lt l.tail l:=by
 obtain ⟨t,r,rfl,_⟩:=BN h;exact ⟨List.suffix_cons _ _,by simp⟩
theorem zU {l r:List AB} (h:BG s l = .ok r):Lt r l/\Ba s l=true/\r=l.tail:=by
 unfold BG at h
 split at h
 ·rename_i hi
  injection h with h;subst h
  exact ⟨Dz hi,hi,rfl⟩
 ·cases h
def Dec {α:Type} (part:List AB->Bool->PR α):Prop:=∀l k x r k',part l k = .ok (x,r,k')->Lt r l
section
variable {α:Type} {part part':List AB->Bool->PR α}
theorem OD (hp:Dec part):∀ (n:Nat) l k xs r k',Jd part n l k = .ok (xs,r,k')->Lt r l
 | 0,_,_,_,_,_,h=>by cases h
 | n+1,l,k,xs,r,k',h=>by
  rw[Jd] at h;obtain ⟨⟨x,l1,k1⟩,h1,h2⟩:=zS h;have g1:=hp _ _ _ _ _ h1;simp only at h2
  split at h2
  ·rename_i hi
   obtain ⟨⟨q,l2,k2⟩,h3,h4⟩:=zS h2
   injection h4 with h4;injection h4 with h4 h5;injection h5 with h5 h6
   subst h5;exact ((OD hp n _ _ _ _ _ h3).then' (Dz hi).1).then' g1.1
  ·injection h2 with h2;injection h2 with h4 h5;injection h5 with h5 h6
   subst h5;exact g1
theorem Il (l0:List AB) (hd:Dec part) (he:∀l k,l <:+ l0->part l k=part' l k):∀ (n n':Nat) l k,l <:+ l0->l.length<n->l.length<n'->Jd part n l k=Jd part' n' l k
 | 0,_,_,_,_,h,_=>absurd h (Nat.not_lt_zero _)
 | _,0,_,_,_,_,h=>absurd h (Nat.not_lt_zero _)
 | n+1,n'+1,l,k,hl,h1,h2=>by
  rw[Jd,Jd,<-he l k hl]
  cases hp:part l k with
  | error e=>rfl
  | ok p =>
   obtain ⟨x,l1,k1⟩:=p;have g1:=hd _ _ _ _ _ hp;rw[zM,zM];simp only
   split
   ·rename_i hi
    have g2:=Dz hi;have g3:=g2.2;have g4:=g1.2;rw[Il l0 hd he n n' l1.tail k1 ((g2.1.trans g1.1).trans hl) (by omega) (by omega)]
   ·rfl
end
theorem Lt.trans {c:List AB} (h:Lt a b) (h2:Lt b c):Lt a c:=h.then' h2.1
section
variable {m:Bool} {f g:Int->List AB->Bool->PR Val}
theorem IJ (hf:∀t,Dec (f t)) (x:AZ):Dec (Bb f x):=fun l k v r k' h=>by
 unfold Bb at h;obtain ⟨⟨a,l1,k1⟩,h1,h⟩:=zS h;obtain ⟨l2,h2,h⟩:=zS h;obtain ⟨⟨b,l3,k3⟩,h3,h⟩:=zS h
 injection h with h;injection h with h4 h5;injection h5 with h5 h6
 subst h5;exact ((hf _ _ _ _ _ _ h3).trans (zU h2).1).trans (hf _ _ _ _ _ _ h1)
theorem Ub (hf:∀t,Dec (f t)):∀ (ms:List AY) (first:Bool) l k v r k',BM f first ms l k = .ok (v,r,k')->r <:+ l
 | [],_,l,k,v,r,k',h=>by
  rw[BM] at h
  injection h with h;injection h with h4 h5;injection h5 with h5 h6
  subst h5;exact List.suffix_refl _
 | y::ms,first,l,k,v,r,k',h=>by
  rw[BM] at h;obtain ⟨l0,h0,h⟩:=zS h;have g0:l0 <:+ l:=by
   split at h0
   ·injection h0 with h0;subst h0;exact List.suffix_refl _
   ·exact (zU h0).1.1
  obtain ⟨⟨t,l1⟩,h1,h⟩:=zS h;simp only at h
  split at h
  ·obtain ⟨l2,h2,h⟩:=zS h
   obtain ⟨⟨a,l3,k3⟩,h3,h⟩:=zS h;obtain ⟨⟨b,l4,k4⟩,h4,h⟩:=zS h
   injection h with h;injection h with h5 h6;injection h6 with h6 h7
   subst h6;exact (((Ub hf ms false _ _ _ _ _ h4).trans (hf _ _ _ _ _ _ h3).1).trans ((zU h2).1.1.trans (Bj h1).1.1)).trans g0
  ·cases h
theorem T9:∀ (n:Nat) (first:Bool) l v r,Ee m n first l = .ok (v,r)->r <:+ l
 | 0,_,_,_,_,h=>by cases h
 | n+1,first,l,v,r,h=>by
  rw[Ee] at h
  split at h
  ·injection h with h;injection h with h4 h5
   subst h5;exact List.suffix_refl _
  ·obtain ⟨l0,h0,h⟩:=zS h
   have g0:l0 <:+ l:=by
    split at h0
    ·injection h0 with h0;subst h0;exact List.suffix_refl _
    ·exact (zU h0).1.1
   obtain ⟨⟨t,l1⟩,h1,h⟩:=zS h;obtain ⟨l2,h2,h⟩:=zS h;obtain ⟨⟨q,l3⟩,h3,h⟩:=zS h;obtain ⟨⟨b,l4⟩,h4,h⟩:=zS h
   injection h with h;injection h with h5 h6
   subst h6;exact ((T9 n false _ _ _ h4).trans (Bj h3).1.1).trans (((zU h2).1.1.trans (Bj h1).1.1).trans g0)
variable {x:AZ}
theorem fH:Dec (CY m x):=fun l k v r k' h=>by
 unfold CY at h
 split at h
 ·rename_i hi
  obtain ⟨⟨t,l1⟩,h1,h⟩:=zS h;have g:=(Bj h1).1.trans (Dz hi);simp only at h
  split at h
  ·split at h
   ·injection h with h;injection h with h4 h5;injection h5 with h5 h6;subst h5;exact g
   ·injection h with h;injection h with h4 h5;injection h5 with h5 h6;subst h5;exact g
  ·injection h with h;injection h with h4 h5;injection h5 with h5 h6;subst h5;exact g
 ·obtain ⟨⟨t,l1⟩,h1,h⟩:=zS h
  simp only at h
  split at h
  ·injection h with h;injection h with h4 h5;injection h5 with h5 h6;subst h5;exact (Bj h1).1
  ·cases h
theorem dh (hf:∀t,Dec (f t)):Dec (Gv f x):=fun l k v r k' h=>by
 unfold Gv at h;obtain ⟨l1,h1,h⟩:=zS h;have g:=(zU h1).1
 split at h
 ·rename_i hi
  injection h with h;injection h with h4 h5;injection h5 with h5 h6;subst h5
  exact (Dz hi).trans g
 ·obtain ⟨⟨a,l2,k2⟩,h2,h⟩:=zS h
  obtain ⟨l3,h3,h⟩:=zS h
  injection h with h;injection h with h4 h5;injection h5 with h5 h6;subst h5
  exact ((zU h3).1.trans (OD (hf _) _ _ _ _ _ _ h2)).trans g
theorem kP (hf:∀t,Dec (f t)):Dec (G6 f x):=fun l k v r k' h=>by
 unfold G6 at h;obtain ⟨l1,h1,h⟩:=zS h;have g:=(zU h1).1
 split at h
 ·rename_i hi
  obtain ⟨l3,h3,h⟩:=zS h
  injection h with h;injection h with h4 h5;injection h5 with h5 h6;subst h5
  exact ((zU h3).1.trans (Dz hi)).trans g
 ·split at h
  ·cases h
  ·obtain ⟨⟨a,l2,k2⟩,h2,h⟩:=zS h
   obtain ⟨l3,h3,h⟩:=zS h
   injection h with h;injection h with h4 h5;injection h5 with h5 h6;subst h5
   exact ((zU h3).1.trans (OD (IJ hf x) _ _ _ _ _ _ h2)).trans g
theorem kE (hf:∀t,Dec (f t)):Dec (Fg f x):=fun l k v r k' h=>by
 unfold Fg at h;obtain ⟨⟨t,l1⟩,h1,h⟩:=zS h;have g:=(Bj h1).1;simp only at h
 split at h
 ·injection h with h;injection h with h4 h5;injection h5 with h5 h6;subst h5
  exact g
 ·split at h
  ·obtain ⟨l2,h2,h⟩:=zS h
   obtain ⟨⟨a,l3,k3⟩,h3,h⟩:=zS h;obtain ⟨l4,h4,h⟩:=zS h
   injection h with h;injection h with h4' h5;injection h5 with h5 h6;subst h5
   exact (((zU h4).1.trans (hf _ _ _ _ _ _ h3)).trans (zU h2).1).trans g
  ·cases h
theorem jW (hf:∀t,Dec (f t)):Dec (H9 m f x):=fun l k v r k' h=>by
 unfold H9 at h;obtain ⟨l1,h1,h⟩:=zS h;obtain ⟨⟨a,l2,k2⟩,h2,h⟩:=zS h;obtain ⟨⟨b,l3⟩,h3,h⟩:=zS h;obtain ⟨l4,h4,h⟩:=zS h
 injection h with h;injection h with h4' h5;injection h5 with h5 h6;subst h5
 exact (((zU h4).1.then' (T9 _ _ _ _ _ h3)).then' (Ub hf _ _ _ _ _ _ _ h2)).trans (zU h1).1
theorem ig (hf:∀t,Dec (f t)):Dec (Co m f x):=fun l k v r k' h=>by
 unfold Co at h
 split at h
 ·rename_i hi
  obtain ⟨⟨t,l1⟩,h1,h⟩:=zS h;obtain ⟨l2,h2,h⟩:=zS h;obtain ⟨⟨q,l3⟩,h3,h⟩:=zS h;obtain ⟨l4,h4,h⟩:=zS h
  injection h with h;injection h with h4' h5;injection h5 with h5 h6;subst h5
  exact (((zU h4).1.trans (Bj h3).1).trans (zU h2).1).trans ((Bj h1).1.trans (Dz hi))
 ·obtain ⟨⟨t,l1⟩,h1,h⟩:=zS h
  simp only at h
  split at h
  ·cases h
  ·obtain ⟨l2,h2,h⟩:=zS h
   obtain ⟨⟨a,l3,k3⟩,h3,h⟩:=zS h;obtain ⟨l4,h4,h⟩:=zS h
   injection h with h;injection h with h4' h5;injection h5 with h5 h6;subst h5
   exact (((zU h4).1.trans (hf _ _ _ _ _ _ h3)).trans (zU h2).1).trans (Bj h1).1
theorem fQ:Dec IL:=fun l k v r k' h=>by
 unfold IL at h;obtain ⟨⟨t,l1⟩,h1,h⟩:=zS h;simp only at h
 split at h
 ·injection h with h;injection h with h4 h5;injection h5 with h5 h6;subst h5;exact (Bj h1).1
 ·split at h
  ·injection h with h;injection h with h4 h5;injection h5 with h5 h6;subst h5;exact (Bj h1).1
  ·cases h
theorem iW (hf:∀t,Dec (f t)):Dec (CO m f x):=fun l k v r k' h=>by
 have H:∀ {α:Type} {a:PR α} {G:α×List AB×Bool->PR Val},a.bind G = .ok (v,r,k')->(∀p,∃w,G p = .ok (w,p.2))->(∀z,a = .ok (z,r,k')->Lt r l)->Lt r l:=fun {α a G} hb hG hz=>by
  obtain ⟨⟨z,r',k''⟩,h1,h2⟩:=zS hb;obtain ⟨w,hw⟩:=hG (z,r',k'');rw[hw] at h2
  injection h2 with h2;injection h2 with h3 h4
  simp only at h4;rw[h4] at h1;exact hz z h1
 have HT:∀ {j:Int} {G:AB×List AB->PR Val},(Bg j l).bind G = .ok (v,r,k')->(∀p,∃w,G p = .ok (w,p.2,k))->Lt r l:=fun {j G} hb hG=>by
  obtain ⟨⟨z,r'⟩,h1,h2⟩:=zS hb;obtain ⟨w,hw⟩:=hG (z,r');rw[hw] at h2
  injection h2 with h2;injection h2 with h3 h4;injection h4 with h4 h5
  simp only at h4;subst h4;exact (Bj h1).1
 unfold CO at h
 repeat' split at h
 ·exact H h (fun p=>⟨_,rfl⟩) fun z hz=>fQ _ _ _ _ _ hz
 ·exact HT h fun p=>⟨_,rfl⟩
 ·exact HT h fun p=>⟨_,rfl⟩
 ·exact H h (fun p=>⟨_,rfl⟩) fun z hz=>fH _ _ _ _ _ hz
 ·exact H h (fun p=>⟨_,rfl⟩) fun z hz=>jW hf _ _ _ _ _ hz
 ·exact H h (fun p=>⟨_,rfl⟩) fun z hz=>ig hf _ _ _ _ _ hz
 ·exact H h (fun p=>⟨_,rfl⟩) fun z hz=>dh hf _ _ _ _ _ hz
 ·exact H h (fun p=>⟨_,rfl⟩) fun z hz=>kP hf _ _ _ _ _ hz
 ·exact H h (fun p=>⟨_,rfl⟩) fun z hz=>kE hf _ _ _ _ _ hz
end
theorem LZ (m:Bool) (s:List AZ):∀n t,Dec (Mf m s n t)
 | 0,_=>fun _ _ _ _ _ h=>by cases h
 | n+1,t=>fun l k v r k' h=>iW (fun u=>LZ m s n u) l k v r k' h
theorem zY {α β:Type} {a:Except Int α} {g h:α->Except Int β} (H:∀x,a = .ok x->g x=h x):a.bind g=a.bind h:=by
 cases a with
 | error e=>rfl
 | ok x=>exact H x rfl
section
variable {m:Bool} {f g:Int->List AB->Bool->PR Val}
def NI (f g:Int->List AB->Bool->PR Val) (l:List AB):Prop:=∀t r k,r <:+ l->f t r k=g t r k
def Jz (f g:Int->List AB->Bool->PR Val) (l:List AB):Prop:=∀t r k,Lt r l->f t r k=g t r k
variable {l:List AB}
theorem Jz.to {l1:List AB} (h:Jz f g l) (h1:Lt l1 l):NI f g l1:=fun t r k hr=>h t r k (Lt.then hr h1)
theorem NI.of {l1:List AB} (h:NI f g l) (h1:l1 <:+ l):NI f g l1:=fun t r k hr=>h t r k (hr.trans h1)
variable {x:AZ}
theorem Zr (hf:∀t,Dec (f t)) (h:NI f g l) (k:Bool):Bb f x l k=Bb g x l k:=by
 unfold Bb;rw[<-h x.key l k (List.suffix_refl _)];refine zY fun p hp=>?_
 obtain ⟨a,l1,k1⟩:=p;have g1:=(hf _ _ _ _ _ _ hp).1;refine zY fun l2 h2=>?_
 have g2:=(zU h2).1.1;simp only;rw[h x.elem l2 k1 (g2.trans g1)]
theorem Oy (hf:∀t,Dec (f t)):∀ (ms:List AY) (first:Bool) (l:List AB) (k:Bool),NI f g l->BM f first ms l k=BM g first ms l k
 | [],_,l,k,_=>rfl
 | y::ms,first,l,k,h=>by
  rw[BM,BM];refine zY fun l0 h0=>?_
  have g0:l0 <:+ l:=by
   split at h0
   ·injection h0 with h0;subst h0;exact List.suffix_refl _
   ·exact (zU h0).1.1
  refine zY fun p h1=>?_
  obtain ⟨t,l1⟩:=p;have g1:=(Bj h1).1.1;simp only
  split
  ·refine zY fun l2 h2=>?_
   have g2:=(zU h2).1.1;have g3:l2 <:+ l:=g2.trans (g1.trans g0);rw[<-h y.type l2 k g3];refine zY fun q h3=>?_
   obtain ⟨a,l3,k3⟩:=q;have g4:=(hf _ _ _ _ _ _ h3).1;simp only;rw[Oy hf ms false l3 k3 (h.of (g4.trans g3))]
  ·rfl
theorem WS (hf:∀t,Dec (f t)) (h:Jz f g l) (k:Bool):Gv f x l k=Gv g x l k:=by
 unfold Gv;refine zY fun l1 h1=>?_
 have g1:=(zU h1).1
 split
 ·rfl
 ·rw[Il l1 (hf _) (fun r k hr=>h x.elem r k (Lt.then hr g1)) (l1.length+1) (l1.length+1) l1 k (List.suffix_refl _) (by omega) (by omega)]
theorem ZU (hf:∀t,Dec (f t)) (h:Jz f g l) (k:Bool):G6 f x l k=G6 g x l k:=by
 unfold G6;refine zY fun l1 h1=>?_
 have g1:=(zU h1).1
 split
 ·rfl
 ·split
  ·rfl
  ·rw[Il l1 (IJ hf x) (fun r k hr=>Zr hf ((h.to g1).of hr) k) (l1.length+1) (l1.length+1) l1 k (List.suffix_refl _) (by omega) (by omega)]
theorem ZL (h:Jz f g l) (k:Bool):Fg f x l k=Fg g x l k:=by
 unfold Fg;refine zY fun p h1=>?_
 obtain ⟨t,l1⟩:=p;have g1:=(Bj h1).1;simp only
 split
 ·rfl
 ·split
  ·refine zY fun l2 h2=>?_
   rw[h x.elem l2 k ((zU h2).1.trans g1)]
  ·rfl
theorem Y3 (hf:∀t,Dec (f t)) (h:Jz f g l) (k:Bool):H9 m f x l k=H9 m g x l k:=by
 unfold H9;refine zY fun l1 h1=>?_
 rw[Oy hf x.AA true l1 k (h.to (zU h1).1)]
theorem Yn (h:Jz f g l) (k:Bool):Co m f x l k=Co m g x l k:=by
 unfold Co
 split
 ·rfl
 ·refine zY fun p h1=>?_
  obtain ⟨t,l1⟩:=p;have g1:=(Bj h1).1;simp only
  split
  ·rfl
  ·rename_i y _
   refine zY fun l2 h2=>?_
   rw[h y.type l2 k ((zU h2).1.trans g1)]
theorem QH (hf:∀t,Dec (f t)) (h:Jz f g l) (k:Bool):CO m f x l k=CO m g x l k:=by
 unfold CO;rw[WS hf h,ZU hf h,ZL h,Y3 hf h,Yn h]
end
theorem QG (m:Bool) (s:List AZ):∀ (n n':Nat) (t:Int) (l:List AB) (k:Bool),l.length<n->l.length<n'->Mf m s n t l k=Mf m s n' t l k
 | 0,_,_,_,_,h,_=>absurd h (Nat.not_lt_zero _)
 | _,0,_,_,_,_,h=>absurd h (Nat.not_lt_zero _)
 | n+1,n'+1,t,l,k,h1,h2=>by
  rw[Mf,Mf];refine QH (LZ m s n) (fun u r k' hr=>?_) k
  have:=hr.2;exact QG m s n n' u r k' (by omega) (by omega)
def AP (m:Bool) (s:List AZ) (t:Int) (l:List AB) (k:Bool):PR Val:=Mf m s (l.length+1) t l k
theorem Dv (m:Bool) (s:List AZ) (t:Int):Dec (AP m s t):=fun _ _ _ _ _ h=>LZ m s _ t _ _ _ _ _ h
theorem RP (m:Bool) (s:List AZ) (t:Int) (l:List AB) (k:Bool):AP m s t l k=CO m (AP m s) (AR s t) l k:=by
 unfold AP;rw[Mf];refine QH (LZ m s _) (fun u r k' hr=>?_) k
 have:=hr.2;exact QG m s _ _ u r k' (by omega) (by omega)
def okV (s:List AZ) (t:Int) (v:Val):Prop:=∃n,AQ s false n t v=true
structure Rel {α:Type} (bad:α->Prop) (k:Bool) (v:α) (k':Bool) (v':α):Prop where
 mono:k=true->k'=true
 rel:(v'=v/\k'=k)\/(bad v'/\(k'=true\/bad v))
def Iz {α:Type} (bad:α->Prop) (k:Bool) (a b:PR α):Prop :=
 (∃e,a = .error e/\b = .error e)\/∃v v' r k',a = .ok (v,r,k')/\b = .ok (v',r,false)/\Rel bad k v k' v'
section
variable {α β γ:Type} {bad:α->Prop} {Z5:β->Prop} {gF:γ->Prop} {k:Bool}
theorem Cq {v v':α} {r:List AB} {k':Bool} (h:Rel bad k v k' v'):Iz bad k (.ok (v,r,k')) (.ok (v',r,false)):=Or.inr ⟨v,v',r,k',rfl,rfl,h⟩
theorem ES (e:Int):Iz bad k (.error e) (.error e):=Or.inl ⟨e,rfl,rfl⟩
theorem Fw (v:α) (k:Bool):Rel bad k v k v:=⟨id,Or.inl ⟨rfl,rfl⟩⟩
theorem Da {a b:PR α} (h:Iz bad k a b) {g g':α×List AB×Bool->PR β} (G:∀v v' r k',Rel bad k v k' v'->Iz Z5 k (g (v,r,k')) (g' (v',r,false))):Iz Z5 k (a.bind g) (b.bind g'):=by
 rcases h with ⟨e,rfl,rfl⟩|⟨v,v',r,k',rfl,rfl,h⟩
 ·exact ES e
 ·exact G v v' r k' h
theorem Bn {δ:Type} (a:Except Int δ) {g g':δ->PR β} (G:∀p,a = .ok p->Iz Z5 k (g p) (g' p)):Iz Z5 k (a.bind g) (a.bind g'):=by
 cases a with
 | error e=>exact ES e
 | ok p=>exact G p rfl
theorem OE {v1 tN:α} {v2 v2':β} {k1 k2:Bool} (h1:Rel bad k v1 k1 tN) (h2:Rel Z5 k1 v2 k2 v2') (c:α->β->γ) (b1:∀x y,bad x->gF (c x y)) (b2:∀x y,Z5 y->gF (c x y)):Rel gF k (c v1 v2) k2 (c tN v2'):=by
 refine ⟨fun h=>h2.mono (h1.mono h),?_⟩
 rcases h1.rel with ⟨rfl,rfl⟩|⟨g1,g2⟩
 ·rcases h2.rel with ⟨rfl,rfl⟩|⟨g3,g4⟩
  ·exact Or.inl ⟨rfl,rfl⟩
  ·exact Or.inr ⟨b2 _ _ g3,g4.imp id fun h=>b2 _ _ h⟩
 ·exact Or.inr ⟨b1 _ _ g1,g2.imp (fun h=>h2.mono h) fun h=>b1 _ _ h⟩
theorem Im {v1 tN:α} {k1:Bool} (h1:Rel bad k v1 k1 tN) (c:α->γ) (b1:∀x,bad x->gF (c x)):Rel gF k (c v1) k1 (c tN):=by
 refine ⟨h1.mono,?_⟩
 rcases h1.rel with ⟨rfl,rfl⟩|⟨g1,g2⟩
 ·exact Or.inl ⟨rfl,rfl⟩
 ·exact Or.inr ⟨b1 _ g1,g2.imp id fun h=>b1 _ h⟩
end
def Sv (x:AZ):Prop:=(∀y∈x.Ab,1<=y.id/\y.id<=1000)/\∀y∈x.AA,1<=y.id/\y.id<=1000
theorem NC (n:Int):GH false n=n:=by unfold GH;simp
theorem eG (h:GH true n≠n):GH true n=0/\(n<0\/1000000<n):=by
 unfold GH at *
 split at h
 ·rename_i hc
  rw[AAC hc];exact ⟨rfl,hc.2⟩
 ·exact absurd rfl h
theorem SN (h:GH true n≠n):¬ (1<=GH true n/\GH true n<=1000)/\¬ (1<=n/\n<=1000):=by
 have:=eG h
 omega
theorem Lu:Aq n=true↔1<=n/\n<=1000:=by unfold Aq;simp
theorem SH {x:AZ} (h:Sv x) (hk:JB x n=true):1<=n/\n<=1000:=by
 unfold JB at hk;rw[ABF] at hk;obtain ⟨y,hy,he⟩:=hk;have:=h.1 y hy;rw[AAY] at he
 omega
theorem Vv {α:Type} {bad:α->Prop} {p p':List AB->Bool->PR α} (hp:∀l k,Iz bad k (p l k) (p' l false)):∀ (n:Nat) (l:List AB) (k:Bool),Iz (fun xs:List α=>∃x∈xs,bad x) k (Jd p n l k) (Jd p' n l false)
 | 0,_,_=>ES 0
 | n+1,l,k=>by
  rw[Jd,Jd];refine Da (hp l k) fun v v' r k' h=>?_
  simp only
  split
  ·rcases Vv hp n r.tail k' with ⟨e,h1,h2⟩|⟨q,q',r2,k2,h1,h2,h3⟩
   ·rw[h1,h2];exact ES e
   ·rw[h1,h2]
    exact Cq (OE h h3 (fun x y=>x::y) (fun x y hx=>⟨x,AA9 ..,hx⟩) fun x y ⟨z,hz,hb⟩=>⟨z,ABA _ hz,hb⟩)
  ·exact Cq (Im h (fun x=>[x]) fun x hx=>⟨x,List.mem_singleton.2 rfl,hx⟩)
section
variable {s:List AZ} {f f':Int->List AB->Bool->PR Val}
def Sn (s:List AZ) (f f':Int->List AB->Bool->PR Val):Prop:=∀t l k,Iz (fun v=>¬ okV s t v) k (f t l k) (f' t l false)
theorem jQ (hf:Sn s f f') (x:AZ) (l:List AB) (k:Bool):Iz (fun vs:List Val=>∃v∈vs,¬ okV s x.elem v) k (Gv f x l k) (Gv f' x l false):=by
 unfold Gv;refine Bn _ fun l1 _=>?_
 split
 ·exact Cq (Fw _ _)
 ·refine Da (Vv (hf x.elem) (l1.length+1) l1 k) fun v v' r k' h=>?_
  refine Bn _ fun l2 _=>?_
  exact Cq h
theorem o6 (hf:Sn s f f') (x:AZ) (l:List AB) (k:Bool):Iz (fun p:Val×Val=>¬ okV s x.key p.1\/¬ okV s x.elem p.2) k (Bb f x l k) (Bb f' x l false):=by
 unfold Bb;refine Da (hf x.key l k) fun v v' r k' h=>?_
 refine Bn _ fun l1 _=>?_
 rcases hf x.elem l1 k' with ⟨e,h1,h2⟩|⟨q,q',r2,k2,h1,h2,h3⟩
 ·simp only[h1,h2];exact ES e
 ·simp only[h1,h2]
  exact Cq (OE h h3 (fun a b=>(a,b)) (fun _ _=>Or.inl) fun _ _=>Or.inr)
theorem jP (hf:Sn s f f') (x:AZ) (l:List AB) (k:Bool):Iz (fun ps:List (Val×Val)=>∃p∈ps,¬ okV s x.key p.1\/¬ okV s x.elem p.2) k (G6 f x l k) (G6 f' x l false):=by
 unfold G6;refine Bn _ fun l1 _=>?_
 split
 ·refine Bn _ fun l2 _=>?_
  exact Cq (Fw _ _)
 ·split
  ·exact ES 2
  ·refine Da (Vv (o6 hf x) (l1.length+1) l1 k) fun v v' r k' h=>?_
   refine Bn _ fun l2 _=>?_
   exact Cq h
theorem o5 (hf:Sn s f f') (x:AZ) (l:List AB) (k:Bool):Iz (fun vs:List Val=>∃v∈vs,¬ okV s x.elem v) k (Fg f x l k) (Fg f' x l false):=by
 unfold Fg;refine Bn _ fun p _=>?_
 split
 ·exact Cq (Fw _ _)
 ·split
  ·refine Bn _ fun l2 _=>?_
   refine Da (hf x.elem l2 k) fun v v' r k' h=>?_
   refine Bn _ fun l4 _=>?_
   exact Cq (Im h (fun v=>[v]) fun v hv=>⟨v,List.mem_singleton.2 rfl,hv⟩)
  ·exact ES 2
def nI (s:List AZ) (ms:List AY) (vs:List Val):Prop:=∃ (i:Nat) (h:i<ms.length) (h':i<vs.length),¬ okV s ms[i].type vs[i]
theorem Xp (hf:Sn s f f'):∀ (ms:List AY) (first:Bool) (l:List AB) (k:Bool),Iz (nI s ms) k (BM f first ms l k) (BM f' first ms l false)
 | [],_,l,k=>Cq (Fw _ _)
 | y::ms,first,l,k=>by
  rw[BM,BM];refine Bn _ fun l0 _=>?_
  refine Bn _ fun p _=>?_
  split
  ·refine Bn _ fun l2 _=>?_
   refine Da (hf y.type l2 k) fun v v' r k' h=>?_
   simp only
   rcases Xp hf ms false r k' with ⟨e,h1,h2⟩|⟨q,q',r2,k2,h1,h2,h3⟩
   ·rw[h1,h2];exact ES e
   ·rw[h1,h2]
    exact Cq (OE h h3 (fun a b=>a::b) (fun a b ha=>⟨0,by simp,by simp,ha⟩) fun a b ⟨i,h4,h5,h6⟩=>⟨i+1,by simpa using h4,by simpa using h5,by simpa using h6⟩)
  ·exact ES 4
theorem Xo:∀ (n:Nat) (first:Bool) (l:List AB),(∃e,Ee false n first l = .error e/\Ee true n first l = .error e) \/
  ∃v v' r,Ee false n first l = .ok (v,r)/\Ee true n first l = .ok (v',r)/\(v'=v\/((∃x∈v,Aq x.id=false)/\∃x∈v',Aq x.id=false))
 | 0,_,_=>Or.inl ⟨0,rfl,rfl⟩
 | n+1,first,l=>by
  rw[Ee,Ee]
  split
  ·exact Or.inr ⟨[],[],l,rfl,rfl,Or.inl rfl⟩
  ·generalize (if first=true then Except.ok l else BG ⟨#[44]⟩ l)=a1
   cases a1 with
   | error e=>exact Or.inl ⟨e,rfl,rfl⟩
   | ok l1 =>
    simp only[zM];generalize Bg 2 l1=a2
    cases a2 with
    | error e=>exact Or.inl ⟨e,rfl,rfl⟩
    | ok p =>
     simp only[zM];generalize BG ⟨#[58]⟩ p.2=a3
     cases a3 with
     | error e=>exact Or.inl ⟨e,rfl,rfl⟩
     | ok l3 =>
      simp only[zM];generalize Bg 3 l3=a4
      cases a4 with
      | error e=>exact Or.inl ⟨e,rfl,rfl⟩
      | ok q =>
       simp only[zM]
       rcases Xo n false q.2 with ⟨e,h1,h2⟩|⟨v,v',r,h1,h2,h3⟩
       ·rw[h1,h2];exact Or.inl ⟨e,rfl,rfl⟩
       ·rw[h1,h2]
        refine Or.inr ⟨_,_,_,rfl,rfl,?_⟩;rw[NC];simp only
        by_cases hi:GH true p.1.int=p.1.int
        ·rw[hi]
         rcases h3 with rfl|⟨⟨x,hx,h4⟩,⟨y,hy,h5⟩⟩
         ·exact Or.inl rfl
         ·exact Or.inr ⟨⟨x,ABA _ hx,h4⟩,⟨y,ABA _ hy,h5⟩⟩
        ·have:=SN hi
         refine Or.inr ⟨⟨_,AA9 ..,?_⟩,⟨_,AA9 ..,?_⟩⟩
         ·rw[Bool.eq_false_iff,ne_eq,Lu];exact this.2
         ·rw[Bool.eq_false_iff,ne_eq,Lu];exact this.1
def gD (s:List AZ) (x:AZ) (p:List Val×List Ac):Prop:=nI s x.AA p.1\/∃r∈p.2,Aq r.id=false
theorem oz (hf:Sn s f f') (x:AZ) (l:List AB) (k:Bool):Iz (gD s x) k (H9 false f x l k) (H9 true f' x l false):=by
 unfold H9;refine Bn _ fun l1 _=>?_
 refine Da (Xp hf x.AA true l1 k) fun v v' r k' h=>?_
 simp only
 rcases Xo (r.length+1) x.AA.isEmpty r with ⟨e,h1,h2⟩|⟨w,w',r2,h1,h2,h3⟩
 ·rw[h1,h2];exact ES e
 ·rw[h1,h2]
  simp only[zM];refine Bn _ fun l2 _=>?_
  have h4:Rel (fun w:List Ac=>∃x∈w,Aq x.id=false) k' w k' w':=by
   refine ⟨id,?_⟩
   rcases h3 with h3|h3
   ·exact Or.inl ⟨h3,rfl⟩
   ·exact Or.inr ⟨h3.2,Or.inr h3.1⟩
  exact Cq (OE h h4 (fun a b=>(a,b)) (fun _ _=>Or.inl) fun _ _=>Or.inr)
def gB (s:List AZ) (x:AZ) (p:Int×List Val×List Ac):Prop:=¬ (1<=p.1/\p.1<=1000)\/∃y∈x.AA,y.id=p.1/\x.AA.find? (fun z=>decide (z.id=p.1))=some y/\∃v∈p.2.1,¬ okV s y.type v
variable {x:AZ}
theorem lD (hd:(x.AA.map AY.id).Nodup) {y:AY} (hy:y∈x.AA):x.AA.find? (fun z=>decide (z.id=y.id))=some y:=by
 generalize x.AA=l at *
 induction l with
 | nil=>cases hy
 | cons a l ih =>
  rw[ABB,List.nodup_cons] at hd;rw[ABJ]
  rcases AAf.1 hy with rfl|hy
  ·simp
  ·have:a.id≠y.id:=fun e=>hd.1 (by rw[e];exact List.mem_map_of_mem hy)
   simp only[this,decide_false];exact ih hd.2 hy
theorem ou (hf:Sn s f f') (hd:(x.AA.map AY.id).Nodup) (l:List AB) (k:Bool):Iz (gB s x) k (Co false f x l k) (Co true f' x l false):=by
 unfold Co
 split
 ·refine Bn _ fun p _=>?_
  refine Bn _ fun l2 _=>?_
  refine Bn _ fun q _=>?_
  refine Bn _ fun l4 _=>?_
  refine Cq ⟨id,?_⟩;rw[NC]
  by_cases hi:GH true p.1.int=p.1.int
  ·rw[hi];exact Or.inl ⟨rfl,rfl⟩
  ·have:=SN hi
   exact Or.inr ⟨Or.inl this.1,Or.inr (Or.inl this.2)⟩
 ·refine Bn _ fun p _=>?_
  cases hc:x.AA.find? (fun y=>decide (y.name=p.1.text)) with
  | none=>exact ES 4
  | some y =>
   simp only;refine Bn _ fun l2 _=>?_
   refine Da (hf y.type l2 k) fun v v' r k' h=>?_
   refine Bn _ fun l4 _=>?_
   have hy:=List.mem_of_find?_eq_some hc;exact Cq (Im h (fun v=>(y.id,[v],([]:List Ac))) fun v hv=>Or.inr ⟨y,hy,rfl,lD hd hy,v,List.mem_singleton.2 rfl,hv⟩)
theorem jR (hx:Sv x) (l:List AB) (k:Bool):Iz (fun n:Int=>¬ (1<=n/\n<=1000)) k (CY false x l k) (CY true x l false):=by
 unfold CY
 split
 ·refine Bn _ fun p _=>?_
  rw[NC]
  by_cases hi:GH true p.1.int=p.1.int
  ·rw[hi]
   cases hk:JB x p.1.int with
   | true =>
    simp only[if_true,Bool.false_eq_true,if_false];exact Cq ⟨fun _=>rfl,Or.inr ⟨by omega,Or.inl rfl⟩⟩
   | false =>
    simp only[Bool.false_eq_true,if_false];exact Cq (Fw _ _)
  ·have hb:=SN hi
   have h1:JB x p.1.int=false:=by
    cases hk:JB x p.1.int with
    | false=>rfl
    | true=>exact absurd (SH hx hk) hb.2
   have h2:JB x (GH true p.1.int)=false:=by
    cases hk:JB x (GH true p.1.int) with
    | false=>rfl
    | true=>exact absurd (SH hx hk) hb.1
   rw[h1,h2];simp only[Bool.false_eq_true,if_false];exact Cq ⟨id,Or.inr ⟨hb.1,Or.inr hb.2⟩⟩
 ·refine Bn _ fun p _=>?_
  split
  ·exact Cq (Fw _ _)
  ·exact ES 4
end
theorem KH {s:List AZ} {t:Int} {v:Val} (h:okV s t v):v.kind=(AR s t).kind/\∃n,AX (AQ s false n) false (AR s t) v=true:=by
 obtain ⟨n,hn⟩:=h
 cases n with
 | zero=>cases hn
 | succ n =>
  rw[AQ] at hn
  split at hn
  ·cases hn
  ·split at hn
   ·cases hn
   ·rename_i h2
    exact ⟨by simp only[not_or,ne_eq,Decidable.not_not] at h2;exact h2.1,n,hn⟩
section
variable {s:List AZ} {f f':Int->List AB->Bool->PR Val} {t:Int} {k:Bool}
theorem ok4 {n:Int} (hx:Sv (AR s t)) (h:okV s t (.mk 4 false 0 ⟨#[]⟩ n [] [] [])):1<=n/\n<=1000:=by
 obtain ⟨hk,m,hf⟩:=KH h;have e:(AR s t).kind=4:=hk.symm;unfold AX at hf;rw[Pe (by omega),Pe (by omega),AAC e,Bool.or_eq_true] at hf
 rcases hf with hf|hf
 ·exact SH hx hf
 ·rw[AAG] at hf
  exact Lu.1 hf.2
theorem dP {x:AZ}:∀ {l:List Ac},Dh x l=true->∀r∈l,Aq r.id=true
 | a::l,h,r,hr=>by
  unfold Dh at h;simp only[AAG] at h
  rcases AAf.1 hr with rfl|hr
  ·exact h.1.1.2
  ·exact dP h.2 r hr
theorem dO {f:Int->Val->Bool}:∀ (ms:List AY) (vs:List Val),((ms.zip vs).all fun p=>f p.1.type p.2)=true->∀k (h:k<ms.length) (h':k<vs.length),f (ms[k]).type vs[k]=true
 | m::ms,w::vs,h,0,_,_=>by
  simp only[List.zip_cons_cons,List.all_cons,AAG] at h;exact h.1
 | m::ms,w::vs,h,k+1,h1,h2=>by
  simp only[List.zip_cons_cons,List.all_cons,AAG] at h;exact dO ms vs h.2 k (by simpa using h1) (by simpa using h2)
variable {vs:List Val}
theorem ok5 {rs:List Ac} (h:okV s t (.mk 5 false 0 ⟨#[]⟩ 0 [] vs rs)):¬ gD s (AR s t) (vs,rs):=by
 obtain ⟨hk,m,hf⟩:=KH h;have e:(AR s t).kind=5:=hk.symm;unfold AX at hf;rw[Pe (by omega),Pe (by omega),Pe (by omega),AAC e] at hf
 simp only[AAG] at hf;rintro (⟨i,h1,h2,h3⟩|⟨r,hr,h3⟩)
 ·exact h3 ⟨m,dO _ _ hf.2 i h1 h2⟩
 ·rw[dP hf.1.2 r hr] at h3;cases h3
theorem ok6 {n:Int} {rs:List Ac} (hx:Sv (AR s t)) (h:okV s t (.mk 6 false 0 ⟨#[]⟩ n [] vs rs)):¬ gB s (AR s t) (n,vs,rs):=by
 obtain ⟨hk,m,hf⟩:=KH h;have e:(AR s t).kind=6:=hk.symm;unfold AX at hf;rw[Pe (by omega),Pe (by omega),Pe (by omega),Pe (by omega),AAC e] at hf
 rintro (hn|⟨y,hy,h1,h2,v,hv,h3⟩)
 ·cases hc:(AR s t).AA.find? fun m=>decide (m.id=(Val.mk 6 false 0 ⟨#[]⟩ n [] vs rs).id) with
  | none =>
   rw[hc] at hf;simp only[AAG] at hf;exact hn (Lu.1 hf.1.1.1.2)
  | some y =>
   have h1:=List.find?_some hc;have h2:=hx.2 y (List.mem_of_find?_eq_some hc);rw[AAY] at h1;have h3:y.id=n:=h1
   omega
 ·have h2':(AR s t).AA.find? (fun m=>decide (m.id=(Val.mk 6 false 0 ⟨#[]⟩ n [] vs rs).id))=some y:=h2
  rw[h2'] at hf;simp only[AAG,AAq] at hf;exact h3 ⟨m,hf.2 v hv⟩
theorem ok7 (h:okV s t (.mk 7 false 0 ⟨#[]⟩ 0 [] vs [])):¬ ∃v∈vs,¬ okV s (AR s t).elem v:=by
 obtain ⟨hk,m,hf⟩:=KH h;have e:(AR s t).kind=7:=hk.symm;unfold AX at hf;rw[Pe (by omega),Pe (by omega),Pe (by omega),Pe (by omega),Pe (by omega),AAC e] at hf
 simp only[AAG,AAq] at hf;rintro ⟨v,hv,h3⟩;exact h3 ⟨m,hf.2 v hv⟩
theorem ok8 {ps:List (Val×Val)} (h:okV s t (.mk 8 false 0 ⟨#[]⟩ 0 (ps.map Prod.fst) (ps.map Prod.snd) [])):¬ ∃p∈ps,¬ okV s (AR s t).key p.1\/¬ okV s (AR s t).elem p.2:=by
 obtain ⟨hk,m,hf⟩:=KH h;have e:(AR s t).kind=8:=hk.symm;unfold AX at hf;rw[Pe (by omega),Pe (by omega),Pe (by omega),Pe (by omega),Pe (by omega),Pe (by omega),AAC e] at hf
 simp only[AAG,AAq] at hf;rintro ⟨p,hp,h3|h3⟩
 ·exact h3 ⟨m,hf.1.1.2 _ (List.mem_map_of_mem hp)⟩
 ·exact h3 ⟨m,hf.2 _ (List.mem_map_of_mem hp)⟩
theorem ok9 (h:okV s t (.mk 9 false 0 ⟨#[]⟩ 0 [] vs [])):¬ ∃v∈vs,¬ okV s (AR s t).elem v:=by
 obtain ⟨hk,m,hf⟩:=KH h;have e:(AR s t).kind=9:=hk.symm;unfold AX at hf;rw[Pe (by omega),Pe (by omega),Pe (by omega),Pe (by omega),Pe (by omega),Pe (by omega),Pe (by omega),AAC e] at hf
 simp only[AAG,AAq] at hf;rintro ⟨v,hv,h3⟩;exact h3 ⟨m,hf.2 v hv⟩
theorem oo (hf:Sn s f f') (hx:Sv (AR s t)) (hd:((AR s t).AA.map AY.id).Nodup) (l:List AB) (k:Bool):Iz (fun v=>¬ okV s t v) k (CO false f (AR s t) l k) (CO true f' (AR s t) l false):=by
 unfold CO
 repeat' split
 ·cases hb:IL l k with
  | error e =>
   have:IL l false = .error e:=by
    unfold IL at *
    cases ht:Bg 1 l with
    | error e'=>rw[ht] at hb;exact hb
    | ok p =>
     rw[ht] at hb;simp only[zM] at *
     split at hb
     ·cases hb
     ·rename_i h1
      rw[Pe h1]
      split at hb
      ·cases hb
      ·rename_i h2
       rw[Pe h2];exact hb
   rw[this];exact ES e
  | ok p =>
   obtain ⟨b,r,k'⟩:=p;have:IL l false = .ok (b,r,false)/\k'=k:=by
    unfold IL at *
    cases ht:Bg 1 l with
    | error e'=>rw[ht] at hb;cases hb
    | ok p =>
     rw[ht] at hb;simp only[zM] at *
     split at hb
     ·rename_i h1
      rw[AAC h1]
      injection hb with hb;injection hb with h3 h4;injection h4 with h4 h5
      subst h3 h4 h5;exact ⟨rfl,rfl⟩
     ·rename_i h1
      rw[Pe h1]
      split at hb
      ·rename_i h2
       rw[AAC h2]
       injection hb with hb;injection hb with h3 h4;injection h4 with h4 h5
       subst h3 h4 h5;exact ⟨rfl,rfl⟩
      ·cases hb
   rw[this.1,this.2];exact Cq (Fw _ _)
 ·exact Bn _ fun p _=>Cq (Fw _ _)
 ·exact Bn _ fun p _=>Cq (Fw _ _)
 ·exact Da (jR hx l k) fun v v' r k' h=>Cq (Im h (fun n=>Val.mk 4 false 0 ⟨#[]⟩ n [] [] []) fun n hn hok=>hn (ok4 hx hok))
 ·exact Da (oz hf _ l k) fun v v' r k' h=>Cq (Im h (fun p:List Val×List Ac=>Val.mk 5 false 0 ⟨#[]⟩ 0 [] p.1 p.2) fun p hp hok=>ok5 hok hp)
 ·exact Da (ou hf hd l k) fun v v' r k' h=>Cq (Im h (fun p:Int×List Val×List Ac=>Val.mk 6 false 0 ⟨#[]⟩ p.1 [] p.2.1 p.2.2) fun p hp hok=>ok6 hx hok hp)
 ·exact Da (jQ hf _ l k) fun v v' r k' h=>Cq (Im h (fun p:List Val=>Val.mk 7 false 0 ⟨#[]⟩ 0 [] p []) fun p hp hok=>ok7 hok hp)
 ·exact Da (jP hf _ l k) fun v v' r k' h=>Cq (Im h (fun p:List (Val×Val)=>Val.mk 8 false 0 ⟨#[]⟩ 0 (p.map Prod.fst) (p.map Prod.snd) []) fun p hp hok=>ok8 hok hp)
 ·exact Da (o5 hf _ l k) fun v v' r k' h=>Cq (Im h (fun p:List Val=>Val.mk 9 false 0 ⟨#[]⟩ 0 [] p []) fun p hp hok=>ok9 hok hp)
end
theorem Rl {s:List AZ} (hx:∀t,Sv (AR s t)) (hd:∀t,((AR s t).AA.map AY.id).Nodup):∀n,Sn s (Mf false s n) (Mf true s n)
 | 0=>fun _ _ _=>ES 0
 | n+1=>fun t l k=>oo (Rl hx hd n) (hx t) (hd t) l k
theorem jO {s:List AZ} (hx:∀t,Sv (AR s t)) (hd:∀t,((AR s t).AA.map AY.id).Nodup) (t:Int) (l:List AB) :
  (∃e,C9 false s t l = .error e/\C9 true s t l = .error e)\/∃v v' r k,C9 false s t l = .ok (v,r,k)/\C9 true s t l = .ok (v',r,false)/\((v'=v/\k=false)\/(¬ okV s t v'/\(k=true\/¬ okV s t v))):=by
 rcases Rl hx hd (l.length+1) t l false with h|⟨v,v',r,k,h1,h2,h3⟩
 ·exact Or.inl h
 ·exact Or.inr ⟨v,v',r,k,h1,h2,h3.rel⟩
def JK {α:Type} (part:List AB->Bool->PR α) (l:List AB) (k:Bool):PR (List α):=Jd part (l.length+1) l k
theorem OC {α:Type} {part:List AB->Bool->PR α} (hd:Dec part) (l:List AB) (k:Bool):JK part l k=(part l k).bind fun p =>
  if Ba ⟨#[44]⟩ p.2.1=true then (JK part p.2.1.tail p.2.2).bind fun q => .ok (p.1::q.1,q.2) else .ok ([p.1],p.2):=by
 unfold JK;rw[Jd];refine zY fun p hp=>?_
 obtain ⟨x,l1,k1⟩:=p;simp only
 split
 ·rename_i hi
  have g1:=(hd _ _ _ _ _ hp).2;have g2:=(Dz hi).2;rw[Il l1.tail hd (fun _ _ _=>rfl) l.length (l1.tail.length+1) l1.tail k1 (List.suffix_refl _) (by omega) (by omega)]
 ·rfl
theorem Og (m:Bool):∀ (n n':Nat) (first:Bool) (l:List AB),l.length<n->l.length<n'->Ee m n first l=Ee m n' first l
 | 0,_,_,_,h,_=>absurd h (Nat.not_lt_zero _)
 | _,0,_,_,_,h=>absurd h (Nat.not_lt_zero _)
 | n+1,n'+1,first,l,h1,h2=>by
  rw[Ee,Ee]
  split
  ·rfl
  ·refine zY fun l0 h0=>?_
   have g0:l0.length<=l.length:=by
    split at h0
    ·injection h0 with h0;subst h0;exact AAQ _
    ·exact AAT (zU h0).1.2
   refine zY fun p hp=>?_
   obtain ⟨t,l1⟩:=p;have g1:=(Bj hp).1.2;refine zY fun l3 h3=>?_
   have g3:=(zU h3).1.2;refine zY fun q hq=>?_
   obtain ⟨u,l4⟩:=q;have g4:=(Bj hq).1.2;simp only at g1 g3 g4 ⊢;rw[Og m n n' false l4 (by omega) (by omega)]
def Cx (m first:Bool) (l:List AB):Except Int (List Ac×List AB):=Ee m (l.length+1) first l
theorem IA (m first:Bool) (l:List AB):Cx m first l=if Ba ⟨#[125]⟩ l=true then .ok ([],l) else
  (if first=true then .ok l else BG ⟨#[44]⟩ l).bind fun l1=>(Bg 2 l1).bind fun p=>(BG ⟨#[58]⟩ p.2).bind fun l3=>(Bg 3 l3).bind fun q =>
   (Cx m false q.2).bind fun r => .ok (⟨GH m p.1.int,q.1.str⟩::r.1,r.2):=by
 unfold Cx;rw[Ee]
 split
 ·rfl
 ·refine zY fun l0 h0=>?_
  have g0:l0.length<=l.length:=by
   split at h0
   ·injection h0 with h0;subst h0;exact AAQ _
   ·exact AAT (zU h0).1.2
  refine zY fun p hp=>?_
  obtain ⟨t,l1⟩:=p;have g1:=(Bj hp).1.2;refine zY fun l3 h3=>?_
  have g3:=(zU h3).1.2;refine zY fun q hq=>?_
  obtain ⟨u,l4⟩:=q;have g4:=(Bj hq).1.2;simp only at g1 g3 g4 ⊢;rw[Og m l.length (l4.length+1) false l4 (by omega) (by omega)]
def C8 {α:Type} (a:Except Int α):Prop:=a ≠ .error 0
theorem zP {α β:Type} {a:Except Int α} {g:α->Except Int β} (h1:C8 a) (h2:∀x,a = .ok x->C8 (g x)):C8 (a.bind g):=fun h=>by
 rcases Gd h with h|⟨x,h3,h4⟩
 ·exact h1 h
 ·exact h2 x h3 h4
theorem CU {α:Type} (a:α):C8 (Except.ok a:Except Int α):=fun h=>by cases h
theorem M0 {α:Type}:C8 (.error 2:Except Int α):=fun h=>by injection h with h;cases h
theorem R7 {α:Type}:C8 (.error 4:Except Int α):=fun h=>by injection h with h;cases h
theorem JA (k:Int) (l:List AB):C8 (Bg k l):=by
 cases l with
 | nil=>exact M0
 | cons t r=>rw[Bg];split <;> first|exact CU _|exact M0
theorem EW (s:ByteArray) (l:List AB):C8 (BG s l):=by
 unfold BG;split <;> first|exact CU _|exact M0
theorem WK {α:Type} {part:List AB->Bool->PR α} (hd:Dec part) (l0:List AB) (hp:∀l k,l <:+ l0->C8 (part l k)):∀ (n:Nat) l k,l <:+ l0->l.length<n->C8 (Jd part n l k)
 | 0,_,_,_,h=>absurd h (Nat.not_lt_zero _)
 | n+1,l,k,hl,h=>by
  rw[Jd];refine zP (hp l k hl) fun p h1=>?_
  obtain ⟨x,l1,k1⟩:=p;have g1:=hd _ _ _ _ _ h1;simp only
  split
  ·rename_i hi
   have g2:=Dz hi;have g3:=g1.2;have g4:=g2.2;exact zP (WK hd l0 hp n l1.tail k1 ((g2.1.trans g1.1).trans hl) (by omega)) fun _ _=>CU _
  ·exact CU _
theorem UX {first:Bool} {l:List AB}:C8 (if first=true then Except.ok l else BG ⟨#[44]⟩ l):=by
 split
 ·exact CU _
 ·exact EW _ _
theorem X4 {f:Int->List AB->Bool->PR Val} (hf:∀t,Dec (f t)) (l0:List AB) (hp:∀t l k,l <:+ l0->C8 (f t l k)):∀ (ms:List AY) (first:Bool) l k,l <:+ l0->C8 (BM f first ms l k)
 | [],_,_,_,_=>CU _
 | y::ms,first,l,k,hl=>by
  rw[BM];refine zP UX fun l1 h1=>?_
  have g1:l1 <:+ l:=by
   split at h1
   ·injection h1 with h1;subst h1;exact List.suffix_refl _
   ·exact (zU h1).1.1
  refine zP (JA _ _) fun p h2=>?_
  obtain ⟨t,l2⟩:=p;have g2:=(Bj h2).1.1;simp only
  split
  ·refine zP (EW _ _) fun l3 h3=>?_
   have g3:=(zU h3).1.1;refine zP (hp _ _ _ (g3.trans (g2.trans (g1.trans hl)))) fun q h4=>?_
   obtain ⟨v,l4,k4⟩:=q;have g4:=(hf _ _ _ _ _ _ h4).1;exact zP (X4 hf l0 hp ms false l4 k4 (g4.trans (g3.trans (g2.trans (g1.trans hl))))) fun _ _=>CU _
  ·exact R7
theorem X3 (m:Bool):∀ (n:Nat) (first:Bool) (l:List AB),l.length<n->C8 (Ee m n first l)
 | 0,_,_,h=>absurd h (Nat.not_lt_zero _)
 | n+1,first,l,h=>by
  rw[Ee]
  split
  ·exact CU _
  ·refine zP UX fun l0 h0=>?_
   have g0:l0.length<=l.length:=by
    split at h0
    ·injection h0 with h0;subst h0;exact AAQ _
    ·exact AAT (zU h0).1.2
   refine zP (JA _ _) fun p hp=>?_
   obtain ⟨t,l1⟩:=p;have g1:=(Bj hp).1.2;refine zP (EW _ _) fun l3 h3=>?_
   have g3:=(zU h3).1.2;refine zP (JA _ _) fun q hq=>?_
   obtain ⟨u,l4⟩:=q;have g4:=(Bj hq).1.2;exact zP (X3 m n false l4 (by simp only at *;omega)) fun _ _=>CU _
theorem kG {m:Bool} {f:Int->List AB->Bool->PR Val} (hf:∀t,Dec (f t)) {x:AZ} {l:List AB} {k:Bool} (hp:∀t r k,Lt r l->C8 (f t r k)):C8 (CO m f x l k):=by
 have hT:∀ {r:List AB},Lt r l->∀t r2 k,r2 <:+ r->C8 (f t r2 k):=fun h t r2 k h2=>hp t r2 k (Lt.then h2 h)
 unfold CO
 repeat' split
 ·refine zP ?_ fun _ _=>CU _
  unfold IL;refine zP (JA _ _) fun p _=>?_
  repeat' split
  all_goals first|exact CU _|exact M0
 ·exact zP (JA _ _) fun _ _=>CU _
 ·exact zP (JA _ _) fun _ _=>CU _
 ·refine zP ?_ fun _ _=>CU _
  unfold CY
  split
  ·refine zP (JA _ _) fun p _=>?_
   repeat' split
   all_goals exact CU _
  ·refine zP (JA _ _) fun p _=>?_
   split
   ·exact CU _
   ·exact R7
 ·refine zP ?_ fun _ _=>CU _
  unfold H9;refine zP (EW _ _) fun l1 h1=>?_
  refine zP (X4 hf l1 (fun t r k hr=>hT (zU h1).1 t r k hr) _ _ _ _ (List.suffix_refl _)) fun p _=>?_
  refine zP (X3 m _ _ _ (by omega)) fun q _=>?_
  exact zP (EW _ _) fun _ _=>CU _
 ·refine zP ?_ fun _ _=>CU _
  unfold Co
  split
  ·refine zP (JA _ _) fun p _=>?_
   refine zP (EW _ _) fun l1 h1=>?_
   refine zP (JA _ _) fun p _=>?_
   exact zP (EW _ _) fun _ _=>CU _
  ·refine zP (JA _ _) fun p h1=>?_
   obtain ⟨t,l1⟩:=p;simp only
   split
   ·exact R7
   ·refine zP (EW _ _) fun l2 h2=>?_
    refine zP (hp _ _ _ ((zU h2).1.trans (Bj h1).1)) fun q _=>?_
    exact zP (EW _ _) fun _ _=>CU _
 ·refine zP ?_ fun _ _=>CU _
  unfold Gv;refine zP (EW _ _) fun l1 h1=>?_
  split
  ·exact CU _
  ·refine zP (WK (hf _) l1 (fun r k hr=>hT (zU h1).1 _ r k hr) _ _ _ (List.suffix_refl _) (by omega)) fun p _=>?_
   exact zP (EW _ _) fun _ _=>CU _
 ·refine zP ?_ fun _ _=>CU _
  unfold G6;refine zP (EW _ _) fun l1 h1=>?_
  split
  ·exact zP (EW _ _) fun _ _=>CU _
  ·split
   ·exact M0
   ·refine zP (WK (IJ hf x) l1 (fun r k hr=>?_) _ _ _ (List.suffix_refl _) (by omega)) fun p _=>?_
    ·unfold Bb
     refine zP (hT (zU h1).1 _ r k hr) fun p h2=>?_
     obtain ⟨v,l2,k2⟩:=p;refine zP (EW _ _) fun l3 h3=>?_
     exact zP (hT (zU h1).1 _ l3 k2 (((zU h3).1.1.trans (hf _ _ _ _ _ _ h2).1).trans hr)) fun _ _=>CU _
    ·exact zP (EW _ _) fun _ _=>CU _
 ·refine zP ?_ fun _ _=>CU _
  unfold Fg;refine zP (JA _ _) fun p h1=>?_
  obtain ⟨t,l1⟩:=p;simp only
  split
  ·exact CU _
  ·split
   ·refine zP (EW _ _) fun l2 h2=>?_
    refine zP (hp _ _ _ ((zU h2).1.trans (Bj h1).1)) fun q _=>?_
    exact zP (EW _ _) fun _ _=>CU _
   ·exact M0
theorem Xf (m:Bool) (s:List AZ):∀ (n:Nat) (t:Int) (l:List AB) (k:Bool),l.length<n->C8 (Mf m s n t l k)
 | 0,_,_,_,h=>absurd h (Nat.not_lt_zero _)
 | n+1,t,l,k,h=>by
  rw[Mf];refine kG (LZ m s n) fun u r k' hr=>?_
  have:=hr.2;exact Xf m s n u r k' (by omega)
theorem Cm (m:Bool) (s:List AZ) (t:Int) (l:List AB) (k:Bool):C8 (AP m s t l k):=Xf m s _ t l k (by omega)
structure uw (x:AZ):Prop where
 ids:Sv x
 uI:(x.AA.map AY.id).Nodup
 ACd:(x.Ab.map CB.name).Nodup
 ACr:(x.AA.map AY.name).Nodup
section
variable {f:Int->List AB->Bool->PR Val} {g:Int->Val->List AB}
end
end Go.Proofs.YthkkllmmbefedaaGreatDoor



