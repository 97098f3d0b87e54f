/-
  The tokens of a value, from which it is read again: plain Lean.
-/
import Derived.Test.YthkkllmmbefedaaGreatDoorQGA2
import Derived.Lib.ParseIntBTie
import Derived.Lib.ParseIntBCases
import Derived.Lib.ItoaMem
namespace Go.Proofs.YthkkllmmbefedaaGreatDoor
set_option maxHeartbeats 16000000
set_option maxRecDepth 100000
def DK (n:Nat):UInt8:=if n<10 then UInt8.ofNat (48+n) else UInt8.ofNat (87+n)
def fD (c:UInt8):ByteArray :=
 if c.toNat=34\/c.toNat=92 then ⟨#[92,c]⟩
 else if c.toNat=10 then ⟨#[92,110]⟩
 else if c.toNat<32\/126<c.toNat then ⟨#[92,120,DK (c.toNat / 16),DK (c.toNat % 16)]⟩
 else ⟨#[c]⟩
def Mr (s:ByteArray):Nat->ByteArray
 | 0=>⟨#[34]⟩
 | k+1=>Mr s k++fD (s.data.getD k 0)
def LG (s:ByteArray):ByteArray:=Mr s s.size++⟨#[34]⟩
theorem qo (c:UInt8):(fD c).size<=4:=by
 unfold fD
 split
 ·show 2<=4;omega
 ·split
  ·show 2<=4;omega
  ·split
   ·exact AAP _
   ·show 1<=4;omega
theorem fB (s:ByteArray):∀k,(Mr s k).size<=4 * k+1
 | 0=>AAP _
 | k+1=>by
  have h:=fB s k;have:=qo (s.data.getD k 0);unfold Mr;rw[AAQ]
  omega
variable {k m:Nat}
theorem fA (s:ByteArray) (h:k<=m):(Mr s k).size<=(Mr s m).size:=by
 induction m with
 | zero=>rw[Nat.le_zero.1 h];exact AAP _
 | succ m ih =>
  rcases Nat.lt_or_ge k (m+1) with h1|h1
  ·have:=ih (by omega)
   rw[Mr,AAQ]
   omega
  ·rw[Nat.le_antisymm h h1];exact AAP _
theorem Vz (s:ByteArray):(LG s).size<=4 * s.size+2:=by
 have:=fB s s.size;unfold LG;rw[AAQ]
 show _+1<=_
 omega
def Dw (f:Nat->ByteArray):Nat->ByteArray
 | 0=>⟨#[]⟩
 | k+1=>Dw f k++(if k=0 then ⟨#[]⟩ else ⟨#[44,32]⟩)++f k
def FN (l:List ByteArray):ByteArray:=Dw (fun i=>l.getD i ⟨#[]⟩) l.length
theorem Zz (f:Nat->ByteArray) (h:k<=m):(Dw f k).size<=(Dw f m).size:=by
 induction m with
 | zero=>rw[Nat.le_zero.1 h];exact AAP _
 | succ m ih =>
  rcases Nat.lt_or_ge k (m+1) with h1|h1
  ·have:=ih (by omega)
   rw[Dw,AAQ,AAQ]
   omega
  ·rw[Nat.le_antisymm h h1];exact AAP _
theorem Zy (f:Nat->ByteArray) (h:k<m):(Dw f k).size+(if k=0 then (⟨#[]⟩:ByteArray) else ⟨#[44,32]⟩).size+(f k).size<=(Dw f m).size:=by
 have:=Zz f (show k+1<=m by omega)
 rw[Dw,AAQ,AAQ] at this;exact this
def Kw (f:Int->Val->ByteArray) (p:AY×Val):ByteArray:=p.1.name++⟨#[58,32]⟩++f p.1.type p.2
def Mj (r:Af):ByteArray:=CX r.id++⟨#[58,32]⟩++LG r.data
def QA (f g:Val->ByteArray) (p:Val×Val):ByteArray:=f p.1++⟨#[32,45,62,32]⟩++g p.2
def Bd (f:Int->Val->ByteArray) (x:Aa) (v:Val):ByteArray :=
 if x.kind=1 then (if v.bool then ⟨#[116,114,117,101]⟩ else ⟨#[102,97,108,115,101]⟩)
 else if x.kind=2 then CX v.int
 else if x.kind=3 then LG v.str
 else if x.kind=4 then (match x.AV.find? fun y=>decide (y.id=v.id) with
  | some y=>y.name
  | none=>⟨#[64]⟩++CX v.id)
 else if x.kind=5 then ⟨#[123]⟩++FN ((x.AA.zip v.items).map (Kw f)++v.rest.map Mj)++⟨#[125]⟩
 else if x.kind=6 then (match x.AA.find? fun m=>decide (m.id=v.id) with
  | some m=>m.name++⟨#[40]⟩++(match v.items with|y::_=>f m.type y | []=>⟨#[]⟩)
  | none=>⟨#[64]⟩++CX v.id++⟨#[40]⟩++(match v.rest with|r::_=>LG r.data | []=>⟨#[]⟩))++⟨#[41]⟩
 else if x.kind=7 then ⟨#[91]⟩++FN (v.items.map (f x.elem))++⟨#[93]⟩
 else if x.kind=8 then ⟨#[91]⟩++(if v.keys.length=0 then ⟨#[45,62]⟩ else ⟨#[]⟩)++FN ((v.keys.zip v.items).map (QA (f x.key) (f x.elem)))++⟨#[93]⟩
 else (match v.items with
  | []=>⟨#[110,111,110,101]⟩
  | y::_=>⟨#[115,111,109,101,40]⟩++f x.elem y++⟨#[41]⟩)
def Ae (s:List Aa):Nat->Int->Val->ByteArray
 | 0,_,_=>⟨#[]⟩
 | n+1,t,v=>Bd (Ae s n) (AO s t) v
noncomputable def Lp (s:List Aa) (t:Int) (v:Val):ByteArray:=Ae s (SizeOf.sizeOf v) t v
structure AJ where
 kind:Int
 text:ByteArray
 int:Int
 str:ByteArray
 line:Int
 deriving DecidableEq
def Ba (c:UInt8):Bool:=Ho c.toNat
def zZ (c:UInt8):Bool:=Hw c.toNat
def GI:List UInt8->Nat
 | []=>0
 | c::r=>if Ba c||zZ c then GI r+1 else 0
def Du:List UInt8->Nat
 | []=>0
 | c::r=>if zZ c then Du r+1 else 0
def Iu (c:UInt8):Option Nat:=if 48<=c.toNat/\c.toNat<=57 then some (c.toNat - 48) else if 97<=c.toNat/\c.toNat<=102 then some (c.toNat - 87) else none
def Fx:List UInt8->Option (UInt8×Nat)
 | []=>none
 | d::q =>
  if d.toNat=34\/d.toNat=92 then some (d,1)
  else if d.toNat=110 then some (10,1)
  else if d.toNat=120 then
   match q with
   | a::b::_ =>
    match Iu a,Iu b with
    | some x,some y=>if (16 * x+y<32\/126<16 * x+y)/\16 * x+y≠10 then some (UInt8.ofNat (16 * x+y),3) else none
    | _,_=>none
   | _=>none
  else none
def DV:List UInt8->Option (UInt8×Nat)
 | []=>none
 | c::r=>if c.toNat=92 then (Fx r).map fun p=>(p.1,p.2+1) else if c.toNat<32\/126<c.toNat then none else some (c,1)
def P7:Nat->List UInt8->Option (List UInt8×Nat)
 | 0,_=>none
 | _+1,[]=>none
 | n+1,c::r=>if c.toNat=34 then some ([],1) else
  match DV (c::r) with
  | none=>none
  | some (b,k)=>(P7 n ((c::r).drop k)).map fun p=>(b::p.1,p.2+k)
def Gn (l:List UInt8):Option (List UInt8×Nat):=P7 l.length l
def Hq (t:List UInt8):Option Int :=
 match Lib.parseIntB 64 t with
 | .ok v=>if Lib.itoa v=t then some v else none
 | _=>none
def Fp:List UInt8->Option Nat
 | []=>none
 | c::r =>
  if c.toNat=45/\(r.headD 0).toNat=62 then some 2
  else if c.toNat=46/\(r.headD 0).toNat=46 then some 2
  else if c.toNat=123\/c.toNat=125\/c.toNat=40\/c.toNat=41\/c.toNat=91\/c.toNat=93\/c.toNat=44\/c.toNat=59\/c.toNat=58\/c.toNat=61\/c.toNat=46\/c.toNat=33\/c.toNat=63\/c.toNat=64\/c.toNat=42\/c.toNat=124 then some 1
  else none
def bA (l:List UInt8):ByteArray:=⟨l.toArray⟩
def DR:List UInt8->Option (AJ×Nat)
 | []=>none
 | c::r =>
  if Ba c then (if GI (c::r)<=24 then some (⟨1,bA ((c::r).take (GI (c::r))),0,⟨#[]⟩,0⟩,GI (c::r)) else none)
  else if zZ c||(decide (c.toNat=45)&&zZ (r.headD 0)) then (Hq ((c::r).take (1+Du r))).map fun v=>(⟨2,⟨#[]⟩,v,⟨#[]⟩,0⟩,1+Du r)
  else if c.toNat=34 then (Gn r).map fun p=>(⟨3,⟨#[]⟩,0,bA p.1,0⟩,p.2+1)
  else (Fp (c::r)).map fun n=>(⟨4,bA ((c::r).take n),0,⟨#[]⟩,0⟩,n)
def Ik:List UInt8->List UInt8
 | []=>[]
 | c::r=>if c.toNat=10 then c::r else Ik r
def Ie:Nat->Int->List UInt8->Except Int (List AJ)
 | _,_,[] => .ok []
 | 0,_,_::_ => .ok []
 | n+1,ln,c::r =>
  if c.toNat=10 then Ie n (ln+1) r
  else if c.toNat=32\/c.toNat=9 then Ie n ln r
  else if c.toNat=47/\(r.headD 0).toNat=47 then Ie n ln (Ik r)
  else match DR (c::r) with
   | none => .error ln
   | some (t,k)=>(Ie n ln ((c::r).drop k)).map fun o=>{ t with line:=ln }::o
def Ay (ln:Int) (l:List UInt8):Except Int (List AJ):=Ie l.length ln l
variable {c:UInt8}
theorem OT {x:Nat} (h:Iu c=some x):x<16:=by
 unfold Iu at h
 split at h
 ·injection h with h;omega
 ·split at h
  ·injection h with h;omega
  ·cases h
theorem PI:∀l,GI l<=l.length
 | []=>AAP _
 | c::r=>by
  have:=PI r;rw[GI];split
  ·rw[AAS];omega
  ·exact Nat.zero_le _
theorem MC:∀l,Du l<=l.length
 | []=>AAP _
 | c::r=>by
  have:=MC r;rw[Du];split
  ·rw[AAS];omega
  ·exact Nat.zero_le _
variable {l:List UInt8}
theorem YH {b:UInt8} (h:Fx l=some (b,k)):1<=k/\k<=l.length/\k<=3:=by
 unfold Fx at h
 split at h
 ·cases h
 ·rename_i d q
  split at h
  ·injection h with h;injection h with _ h;subst h;simp
  ·split at h
   ·injection h with h;injection h with _ h;subst h;simp
   ·split at h
    ·split at h
     ·split at h
      ·split at h
       ·injection h with h;injection h with _ h;subst h;simp
       ·cases h
      ·cases h
     ·cases h
    ·cases h
theorem Lh {b:UInt8} (h:DV l=some (b,k)):1<=k/\k<=l.length:=by
 unfold DV at h
 split at h
 ·cases h
 ·rename_i c r
  split at h
  ·rw[AA4] at h
   obtain ⟨⟨b',k'⟩,h1,h2⟩:=h;have:=YH h1
   injection h2 with _ h2
   simp only at h2;rw[AAS];omega
  ·split at h
   ·cases h
   ·injection h with h;injection h with _ h;subst h;simp
theorem Xk:∀ (n:Nat) (l:List UInt8) (o:List UInt8) (k:Nat),P7 n l=some (o,k)->1<=k/\k<=l.length/\o.length<k
 | 0,_,_,_,h=>by cases h
 | n+1,[],_,_,h=>by cases h
 | n+1,c::r,o,k,h=>by
  rw[P7] at h
  split at h
  ·injection h with h;injection h with h1 h2;subst h1 h2;simp
  ·split at h
   ·cases h
   ·rename_i b j hp
    rw[AA4] at h;obtain ⟨⟨o',k'⟩,h1,h2⟩:=h;have ih:=Xk n _ _ _ h1;have:=Lh hp
    injection h2 with h2 h3
    simp only at h2 h3;subst h2 h3;rw[AAy] at ih;simp only[AAS] at *
    omega
theorem Mq:∀ (n:Nat) (l:List UInt8),l.length<=n->P7 n l=P7 l.length l
 | 0,l,h=>by rw[AAa (Nat.le_zero.1 h)];rfl
 | _+1,[],_=>by rw[P7];rfl
 | n+1,c::r,h=>by
  rw[AAS,P7,P7]
  split
  ·rfl
  ·split
   ·rfl
   ·rename_i b k hp
    have:=Lh hp;have hd:((c::r).drop k).length<=r.length:=by rw[AAy,AAS];omega
    rw[Mq n _ (by rw[AAS] at h;omega),Mq r.length _ hd]
termination_by _ l=>l.length
decreasing_by
 all_goals (rw[AAy,AAS] at *;omega)
theorem Tv:Gn []=none:=rfl
theorem Fz (c:UInt8) (r:List UInt8):Gn (c::r)=if c.toNat=34 then some ([],1) else
  match DV (c::r) with
  | none=>none
  | some (b,k)=>(Gn ((c::r).drop k)).map fun p=>(b::p.1,p.2+k):=by
 unfold Gn;rw[AAS,P7]
 split
 ·rfl
 ·split
  ·rfl
  ·rename_i b k hp
   have:=Lh hp;rw[Mq r.length _ (by rw[AAy,AAS];omega)]
theorem Xj {o:List UInt8} (h:Gn l=some (o,k)):1<=k/\k<=l.length/\o.length<k:=Xk _ _ _ _ h
variable {n:Nat}
theorem Xd (h:Fp l=some n):1<=n/\n<=l.length/\n<=2:=by
 unfold Fp at h
 split at h
 ·cases h
 ·rename_i c r
  have hr:∀m:Nat,(r.headD 0).toNat=m+1->2<=(c::r).length:=fun m hm=>by
   cases r with
   | nil=>simp at hm
   | cons d q=>simp
  split at h
  ·rename_i hc
   injection h with h;subst h
   exact ⟨by omega,hr _ hc.2,by omega⟩
  ·split at h
   ·rename_i hc
    injection h with h;subst h
    exact ⟨by omega,hr _ hc.2,by omega⟩
   ·split at h
    ·injection h with h;subst h;simp
    ·cases h
theorem Jm {t:AJ} (h:DR l=some (t,k)):1<=k/\k<=l.length:=by
 unfold DR at h
 split at h
 ·cases h
 ·rename_i c r
  split at h
  ·rename_i hc
   split at h
   ·injection h with h;injection h with _ h;subst h
    refine ⟨?_,PI _⟩;rw[GI,hc,Bool.true_or,AAH rfl];omega
   ·cases h
  ·split at h
   ·rw[AA4] at h
    obtain ⟨v,_,h⟩:=h
    injection h with _ h;subst h
    have:=MC r;rw[AAS];omega
   ·split at h
    ·rw[AA4] at h
     obtain ⟨⟨o,j⟩,h1,h⟩:=h
     injection h with _ h;subst h
     have:=Xj h1;rw[AAS];simp only;omega
    ·rw[AA4] at h
     obtain ⟨n,h1,h⟩:=h
     injection h with _ h;subst h
     have:=Xd h1;exact ⟨this.1,this.2.1⟩
theorem Hl:∀l,(Ik l).length<=l.length
 | []=>AAP _
 | c::r=>by
  have:=Hl r;rw[Ik];split
  ·exact AAP _
  ·rw[AAS];omega
theorem DN:∀ (n:Nat) (ln:Int) (l:List UInt8),l.length<=n->Ie n ln l=Ie l.length ln l
 | 0,ln,l,h=>by rw[AAa (Nat.le_zero.1 h)];rfl
 | _+1,_,[],_=>by rw[Ie,Ie]
 | n+1,ln,c::r,h=>by
  have hn:r.length<=n:=by rw[AAS] at h;omega
  rw[AAS,Ie,Ie]
  split
  ·exact DN n _ r hn
  ·split
   ·exact DN n _ r hn
   ·split
    ·have:=Hl r
     rw[DN n _ _ (by omega),DN r.length _ _ this]
    ·split
     ·rfl
     ·rename_i t k hp
      have:=Jm hp;have hd:((c::r).drop k).length<=r.length:=by rw[AAy,AAS];omega
      rw[DN n _ _ (by omega),DN r.length _ _ hd]
termination_by _ _ l=>l.length
decreasing_by
 all_goals (first|(rw[AAy,AAS] at *;omega)|(have:=Hl r;simp only[AAS];omega))
theorem Jl (ln:Int):Ay ln [] = .ok []:=rfl
theorem Ck (ln:Int) (c:UInt8) (r:List UInt8):Ay ln (c::r) =
  if c.toNat=10 then Ay (ln+1) r
  else if c.toNat=32\/c.toNat=9 then Ay ln r
  else if c.toNat=47/\(r.headD 0).toNat=47 then Ay ln (Ik r)
  else match DR (c::r) with
   | none => .error ln
   | some (t,k)=>(Ay ln ((c::r).drop k)).map fun o=>{ t with line:=ln }::o:=by
 unfold Ay;rw[AAS,Ie]
 split
 ·rfl
 ·split
  ·rfl
  ·split
   ·rw[DN r.length _ _ (Hl r)]
   ·split
    ·rfl
    ·rename_i t k hp
     have:=Jm hp;rw[DN r.length _ _ (by rw[AAy,AAS];omega)]
theorem Qy (h:n<16):Iu (DK n)=some n:=by
 have:∀m:Fin 16,Iu (DK m.1)=some m.1:=by decide
 exact this ⟨n,h⟩
theorem Qz {x:Nat} (h:Iu c=some x):DK x=c:=by
 unfold Iu at h;have hc:=c.toNat_lt
 split at h
 ·rename_i hr
  injection h with h;subst h
  unfold DK;rw[AAH (by omega)]
  apply UInt8.toNat_inj.1
  rw[UInt8.toNat_ofNat'];omega
 ·split at h
  ·injection h with h;subst h
   unfold DK;rw[Pd (by omega)]
   apply UInt8.toNat_inj.1
   rw[UInt8.toNat_ofNat'];omega
  ·cases h
def FV (c:UInt8):List UInt8 :=
 if c.toNat=34\/c.toNat=92 then [92,c]
 else if c.toNat=10 then [92,110]
 else if c.toNat<32\/126<c.toNat then [92,120,DK (c.toNat / 16),DK (c.toNat % 16)]
 else [c]
theorem fC (c:UInt8):(fD c).data.toList=FV c:=by
 unfold fD FV
 repeat' split
 all_goals rfl
theorem FC {d:UInt8} (h:c.toNat=d.toNat):c=d:=UInt8.toNat_inj.1 h
theorem mG (b:UInt8) (l:List UInt8) (h:FV b <+: l) (hq:∀c r,l=c::r->c.toNat≠34):DV l=some (b,(FV b).length):=by
 obtain ⟨r,rfl⟩:=h;unfold FV at *
 split at hq
 ·rename_i h1
  rw[AAH h1]
  show DV (92::b::r)=_
  rw[DV,AAH (show (92:UInt8).toNat=92 from rfl)];unfold Fx;simp only[AAH h1];rfl
 ·rename_i h1
  rw[Pd h1]
  split at hq
  ·rename_i h2
   rw[AAH h2]
   show DV (92::110::r)=_
   rw[DV,AAH (show (92:UInt8).toNat=92 from rfl)];unfold Fx;simp only[];rw[Pd (by decide),AAH (show (110:UInt8).toNat=110 from rfl)]
   rw[show b=10 from FC h2];rfl
  ·rename_i h2
   rw[Pd h2]
   split at hq
   ·rename_i h3
    rw[AAH h3];have hb:=b.toNat_lt
    show DV (92::120::DK (b.toNat / 16)::DK (b.toNat % 16)::r)=_
    rw[DV,AAH (show (92:UInt8).toNat=92 from rfl),Fx,Pd (by decide),Pd (by decide),AAH (show (120:UInt8).toNat=120 from rfl)]
    simp only[Qy (show b.toNat / 16<16 by omega),Qy (show b.toNat % 16<16 by omega)]
    rw[AAH (by omega)]
    have e:UInt8.ofNat (16 * (b.toNat / 16)+b.toNat % 16)=b:=by
     apply FC
     rw[UInt8.toNat_ofNat'];omega
    rw[e];rfl
   ·rename_i h3
    rw[Pd h3]
    show DV (b::r)=_
    rw[DV,Pd (by omega),Pd h3];rfl
theorem mM {b:UInt8} (h:DV l=some (b,k)) (hq:∀c r,l=c::r->c.toNat≠34):FV b <+: l/\k=(FV b).length:=by
 unfold DV at h
 split at h
 ·cases h
 ·rename_i c r
  have h34:=hq c r rfl
  split at h
  ·rename_i hc
   rw[show c=92 from FC hc];rw[AA4] at h;obtain ⟨⟨b',k'⟩,h1,h2⟩:=h
   injection h2 with h2 h3
   simp only at h2 h3;subst h2 h3;unfold Fx at h1
   split at h1
   ·cases h1
   ·rename_i d q
    split at h1
    ·rename_i hd
     injection h1 with h1;injection h1 with h1 h2;subst h1 h2
     unfold FV;rw[AAH hd];exact ⟨⟨q,rfl⟩,rfl⟩
    ·rename_i hd
     split at h1
     ·rename_i hd2
      injection h1 with h1;injection h1 with h1 h2;subst h1 h2
      rw[show d=110 from FC hd2];exact ⟨⟨q,rfl⟩,rfl⟩
     ·split at h1
      ·rename_i hd3
       rw[show d=120 from FC hd3]
       split at h1
       ·rename_i a b2 q2
        split at h1
        ·rename_i x y hx hy
         split at h1
         ·rename_i hr
          injection h1 with h1;injection h1 with h1 h2
          have hx16:=OT hx;have ABE:=OT hy;have hbv:b'.toNat=16 * x+y:=by rw[<-h1,UInt8.toNat_ofNat'];omega
          subst h2;unfold FV;rw[Pd (by omega),Pd (by omega),AAH (by omega)]
          rw[show b'.toNat / 16=x by omega,show b'.toNat % 16=y by omega,Qz hx,Qz hy]
          exact ⟨⟨q2,rfl⟩,rfl⟩
         ·cases h1
        ·cases h1
       ·cases h1
      ·cases h1
  ·rename_i hc
   split at h
   ·cases h
   ·rename_i hr
    injection h with h;injection h with h1 h2;subst h1 h2
    unfold FV;rw[Pd (by omega),Pd (by omega),Pd hr]
    exact ⟨⟨r,rfl⟩,rfl⟩
theorem JW:∀ (u:Nat) (b:UInt8),b∈Lib.decDigits u->48<=b.toNat/\b.toNat<=57:=by
 intro u
 induction u using Nat.strongRecOn with
 | _ u ih =>
  intro b hb
  rw[Lib.decDigits] at hb
  split at hb
  ·rw[List.mem_singleton] at hb
   subst hb;rw[UInt8.toNat_ofNat']
   omega
  ·rw[AAm,List.mem_singleton] at hb
   rcases hb with hb|hb
   ·exact ih (u / 10) (by omega) b hb
   ·subst hb
    rw[UInt8.toNat_ofNat']
    omega
theorem Dv (u:Nat):Lib.decDigits u≠[]:=by
 rw[Lib.decDigits];split <;> simp
theorem PZ {d:Nat} (h:d<10):(UInt8.ofNat (48+d)).toNat=48+d:=by
 rw[UInt8.toNat_ofNat'];omega
theorem Ig (M:Nat) (c:UInt8):∀ (l:List UInt8) (acc u:Nat),Lib.parseUintM M acc l = .ok u->Lib.parseUintM M acc (l++[c])=Lib.parseUintM M u [c]
 | [],acc,u,h=>by
  rw[Lib.parseUintM] at h
  injection h with h
  subst h;rfl
 | b::r,acc,u,h=>by
  rw[Lib.parseUintM] at h;rw[AAc,Lib.parseUintM]
  split at h
  ·rename_i h1
   rw[AAH h1]
   split at h
   ·cases h
   ·rename_i h2
    rw[Pd h2]
    split at h
    ·cases h
    ·rename_i h3
     rw[Pd h3];exact Ig M c r _ u h
  ·cases h
theorem JI:∀ (u:Nat),u<=18446744073709551615->Lib.parseUintM 18446744073709551615 0 (Lib.decDigits u) = .ok u:=by
 intro u
 induction u using Nat.strongRecOn with
 | _ u ih =>
  intro hu
  rw[Lib.decDigits]
  split
  ·rename_i h
   have e:=PZ h;rw[Lib.parseUintM,e,AAH (by omega),Pd (by omega),Pd (by omega),Lib.parseUintM]
   congr 1;omega
  ·rw[Ig _ _ _ _ _ (ih (u / 10) (by omega) (by omega))]
   have e:=PZ (show u % 10<10 by omega)
   rw[Lib.parseUintM,e,AAH (by omega),Pd (by omega),Pd (by omega),Lib.parseUintM]
   congr 1;omega
theorem O5 {v:Int} (h1:-9223372036854775808<=v) (h2:v<=9223372036854775807):Lib.parseIntB 64 (Lib.itoa v) = .ok v:=by
 have e:(2 ^ 64 - 1:Nat)=18446744073709551615:=by decide
 have e2:(2 ^ (64 - 1):Nat)=9223372036854775808:=by decide
 by_cases hn:v<0
 ·have hv:v = -(v.natAbs:Int):=by omega
  rw[hv,Lib.itoa_neg _ (by omega),Lib.parseIntB_minus,e2]
  unfold Lib.parseUintB;rw[Pd (Dv _),e,JI _ (by omega)]
  show (if 9223372036854775808<v.natAbs then _ else _)=_
  rw[Pd (by omega)]
 ·have hv:v=(v.toNat:Int):=by omega
  rw[hv,Lib.itoa_nonneg]
  cases hd:Lib.decDigits v.toNat with
  | nil=>exact absurd hd (Dv _)
  | cons c r =>
   have hm:=JW v.toNat c (by rw[hd];exact AAl ..)
   rw[Lib.parseIntB_plain _ _ _ (by omega) (by omega),<-hd,e2]
   unfold Lib.parseUintB;rw[Pd (Dv _),e,JI _ (by omega)]
   show (if 9223372036854775808<=v.toNat then _ else _)=_
   rw[Pd (by omega)]
theorem UQ {t:List UInt8} {v:Int}:Hq t=some v↔(-9223372036854775808<=v/\v<=9223372036854775807)/\Lib.itoa v=t:=by
 have e2:(2 ^ (64 - 1):Nat)=9223372036854775808:=by decide
 unfold Hq
 constructor
 ·intro h
  split at h
  ·rename_i u hu
   split at h
   ·rename_i hi
    injection h with h;subst h
    have:=Lib.parseIntB_bounds hu;rw[e2] at this;exact ⟨⟨by omega,by omega⟩,hi⟩
   ·cases h
  ·cases h
 ·rintro ⟨⟨h1,h2⟩,rfl⟩
  rw[O5 h1 h2];simp
def BF:List (List UInt8):=[[45,62],[46,46],[123],[125],[40],[41],[91],[93],[44],[59],[58],[61],[46],[33],[63],[64],[42],[124]]
variable {r:List UInt8}
theorem Oo {d:UInt8} (h:(c.toNat=45/\d.toNat=62)\/(c.toNat=46/\d.toNat=46)):Fp (c::d::r)=some 2:=by
 rw[Fp]
 rcases h with h|h
 ·rw[AAH (show c.toNat=45/\((d::r).headD 0).toNat=62 from h)]
 ·rw[Pd (fun hc:c.toNat=45/\_=>by have:=hc.1;omega),AAH (show c.toNat=46/\((d::r).headD 0).toNat=46 from h)]
def Ru (n:Nat):Prop:=n=123\/n=125\/n=40\/n=41\/n=91\/n=93\/n=44\/n=59\/n=58\/n=61\/n=46\/n=33\/n=63\/n=64\/n=42\/n=124
theorem TU (h:¬ (c.toNat=45/\(r.headD 0).toNat=62)) (h2:¬ (c.toNat=46/\(r.headD 0).toNat=46)) (h3:Ru c.toNat):Fp (c::r)=some 1:=by
 rw[Fp,Pd h,Pd h2];exact AAH h3
theorem Xc (h:¬ (c.toNat=45/\(r.headD 0).toNat=62)) (h2:¬ (c.toNat=46/\(r.headD 0).toNat=46)) (h3:¬ Ru c.toNat):Fp (c::r)=none:=by
 rw[Fp,Pd h,Pd h2];exact Pd h3
theorem Lv {x y:UInt8} (hy:y.toNat≠0) (h:¬ [x,y] <+: c::r):¬ (c.toNat=x.toNat/\(r.headD 0).toNat=y.toNat):=by
 rintro ⟨h1,h2⟩
 cases r with
 | nil=>exact hy (by rw[<-h2];rfl)
 | cons d q =>
  rw[List.headD_cons] at h2;exact h ⟨q,by rw[FC h1,FC h2];rfl⟩
theorem Yy {i:Nat} (hi:i<BF.length) (hp:BF[i] <+: l) (hn:∀j (hj:j<i),¬ BF[j]'(Nat.lt_trans hj hi) <+: l):
  Fp l=some BF[i].length/\l.take BF[i].length=BF[i]:=by
 refine ⟨?_,(List.prefix_iff_eq_take.1 hp).symm⟩;obtain ⟨r,rfl⟩:=hp
 by_cases i0:i=0
 ·subst i0;exact Oo (Or.inl ⟨rfl,rfl⟩)
 by_cases i1:i=1
 ·subst i1;exact Oo (Or.inr ⟨rfl,rfl⟩)
 have n0:=hn 0 (by omega)
 have n1:=hn 1 (by omega)
 have hT:∀k:Fin 18,2<=k.1->BF[k.1]'(k.2)=[(BF[k.1]'(k.2)).headD 0]/\Ru ((BF[k.1]'(k.2)).headD 0).toNat:=by
  unfold Ru
  decide
 obtain ⟨hc,h1⟩:=hT ⟨i,hi⟩ (by simp only;omega)
 generalize (BF[(⟨i,hi⟩:Fin 18).1]'(⟨i,hi⟩:Fin 18).2).headD 0=c at hc h1;have hc2:BF[i]=[c]:=hc;clear hT hn;rw[hc2] at n0 n1 ⊢;exact TU (Lv (x:=45) (y:=62) (by decide) n0) (Lv (x:=46) (y:=46) (by decide) n1) h1
theorem dQ (hn:∀j (hj:j<BF.length),¬ BF[j] <+: l):Fp l=none:=by
 cases l with
 | nil=>rfl
 | cons c r =>
  refine Xc (Lv (x:=45) (y:=62) (by decide) (hn 0 (by decide))) (Lv (x:=46) (y:=46) (by decide) (hn 1 (by decide))) fun h=>?_
  have hT:∀d:UInt8,Ru d.toNat->∃k:Fin 18,BF[k.1]'(k.2)=[d]:=fun d hd=>by
   have:∀n:Nat,Ru n->∃k:Fin 18,BF[k.1]'(k.2)=[UInt8.ofNat n]:=fun n hn=>by
    unfold Ru at hn
    rcases hn with h|h|h|h|h|h|h|h|h|h|h|h|h|h|h|h <;> subst h <;> decide
   have:=this _ hd
   rwa [UInt8.ofNat_toNat] at this
  obtain ⟨k,hk⟩:=hT c h;exact hn k.1 k.2 (by rw[hk];exact ⟨r,rfl⟩)
theorem Yw:∀x∈BF,x.length=1\/x.length=2:=by decide
theorem gN (hn:n<=l.length) (h1:∀i (h:i<l.length),i<n->(Ba l[i]||zZ l[i])=true) (h2:∀h:n<l.length,(Ba l[n]||zZ l[n])=false):GI l=n:=by
 induction l generalizing n with
 | nil=>simp at hn;subst hn;rfl
 | cons c r ih =>
  cases n with
  | zero =>
   have:=h2 (by simp)
   rw[GI,Pd (by simpa using this)]
  | succ n =>
   have:=h1 0 (by simp) (by omega)
   rw[GI,AAH (by simpa using this)]
   rw[ih (n:=n) (by simpa using hn) (fun i hi hin=>by have:=h1 (i+1) (by simpa using hi) (by omega);simpa using this) (fun h=>by have:=h2 (by simpa using h);simpa using this)]
theorem iO (hn:n<=l.length) (h1:∀i (h:i<l.length),i<n->zZ l[i]=true) (h2:∀h:n<l.length,zZ l[n]=false):Du l=n:=by
 induction l generalizing n with
 | nil=>simp at hn;subst hn;rfl
 | cons c r ih =>
  cases n with
  | zero =>
   have:=h2 (by simp)
   rw[Du,Pd (by simpa using this)]
  | succ n =>
   have:=h1 0 (by simp) (by omega)
   rw[Du,AAH (by simpa using this)]
   rw[ih (n:=n) (by simpa using hn) (fun i hi hin=>by have:=h1 (i+1) (by simpa using hi) (by omega);simpa using this) (fun h=>by have:=h2 (by simpa using h);simpa using this)]
abbrev PR (α:Type):=Except Int (α×List AJ×Bool)
def CG (k:Int):List AJ->Except Int (AJ×List AJ)
 | t::l=>if t.kind=k then .ok (t,l) else .error 2
 | [] => .error 2
def BX (s:ByteArray):List AJ->Bool
 | t::_=>decide (t.kind=4)&&decide (t.text=s)
 | []=>false
def Aq (s:ByteArray) (l:List AJ):Except Int (List AJ):=if BX s l=true then .ok l.tail else .error 2
def Qx (m:Bool) (n:Int):Int:=if m=true/\(n<0\/1000000<n) then 0 else n
def Nh (x:Aa) (n:Int):Bool:=x.AV.any fun y=>decide (y.id=n)
def Ea (m:Bool) (x:Aa) (l:List AJ) (k:Bool):PR Int :=
 if BX ⟨#[64]⟩ l=true then (CG 2 l.tail).bind fun p =>
  if Nh x (Qx m p.1.int)=true then (if m=true then .ok (0,p.2,k) else .ok (Qx m p.1.int,p.2,true)) else .ok (Qx m p.1.int,p.2,k)
 else (CG 1 l).bind fun p =>
  match x.AV.find? fun y=>decide (y.name=p.1.text) with
  | some y => .ok (y.id,p.2,k)
  | none => .error 4
def IK {α:Type} (part:List AJ->Bool->PR α):Nat->List AJ->Bool->PR (List α)
 | 0,_,_ => .error 0
 | n+1,l,k=>(part l k).bind fun p =>
  if BX ⟨#[44]⟩ p.2.1=true then (IK part n p.2.1.tail p.2.2).bind fun q => .ok (p.1::q.1,q.2) else .ok ([p.1],p.2)
section
variable (m:Bool) (f:Int->List AJ->Bool->PR Val)
def Hg (x:Aa) (l:List AJ) (k:Bool):PR (List Val) :=
 (Aq ⟨#[91]⟩ l).bind fun l1=>if BX ⟨#[93]⟩ l1=true then .ok ([],l1.tail,k) else
  (IK (f x.elem) (l1.length+1) l1 k).bind fun p=>(Aq ⟨#[93]⟩ p.2.1).bind fun l2 => .ok (p.1,l2,p.2.2)
def DZ (x:Aa) (l:List AJ) (k:Bool):PR (Val×Val) :=
 (f x.key l k).bind fun p=>(Aq ⟨#[45,62]⟩ p.2.1).bind fun l1=>(f x.elem l1 p.2.2).bind fun q => .ok ((p.1,q.1),q.2)
def Hf (x:Aa) (l:List AJ) (k:Bool):PR (List (Val×Val)) :=
 (Aq ⟨#[91]⟩ l).bind fun l1=>if BX ⟨#[45,62]⟩ l1=true then (Aq ⟨#[93]⟩ l1.tail).bind fun l2 => .ok ([],l2,k)
  else if BX ⟨#[93]⟩ l1=true then .error 2
  else (IK (DZ f x) (l1.length+1) l1 k).bind fun p=>(Aq ⟨#[93]⟩ p.2.1).bind fun l2 => .ok (p.1,l2,p.2.2)
def Gp (x:Aa) (l:List AJ) (k:Bool):PR (List Val) :=
 (CG 1 l).bind fun p=>if p.1.text=⟨#[110,111,110,101]⟩ then .ok ([],p.2,k)
  else if p.1.text=⟨#[115,111,109,101]⟩ then (Aq ⟨#[40]⟩ p.2).bind fun l2=>(f x.elem l2 k).bind fun q=>(Aq ⟨#[41]⟩ q.2.1).bind fun l4 => .ok ([q.1],l4,q.2.2)
  else .error 2
def BQ:Bool->List AY->List AJ->Bool->PR (List Val)
 | _,[],l,k => .ok ([],l,k)
 | first,y::ms,l,k=>(if first=true then .ok l else Aq ⟨#[44]⟩ l).bind fun l0=>(CG 1 l0).bind fun p =>
  if p.1.text=y.name then (Aq ⟨#[58]⟩ p.2).bind fun l2=>(f y.type l2 k).bind fun q=>(BQ false ms q.2.1 q.2.2).bind fun r => .ok (q.1::r.1,r.2)
  else .error 4
def Dj:Nat->Bool->List AJ->Except Int (List Af×List AJ)
 | 0,_,_ => .error 0
 | n+1,first,l=>if BX ⟨#[125]⟩ l=true then .ok ([],l) else
  (if first=true then .ok l else Aq ⟨#[44]⟩ l).bind fun l1=>(CG 2 l1).bind fun p=>(Aq ⟨#[58]⟩ p.2).bind fun l3=>(CG 3 l3).bind fun q =>
   (Dj n false q.2).bind fun r => .ok (⟨Qx m p.1.int,q.1.str⟩::r.1,r.2)
def Iq (x:Aa) (l:List AJ) (k:Bool):PR (List Val×List Af) :=
 (Aq ⟨#[123]⟩ l).bind fun l1=>(BQ f true x.AA l1 k).bind fun p=>(Dj m (p.2.1.length+1) x.AA.isEmpty p.2.1).bind fun q =>
  (Aq ⟨#[125]⟩ q.2).bind fun l2 => .ok ((p.1,q.1),l2,p.2.2)
def Ej (x:Aa) (l:List AJ) (k:Bool):PR (Int×List Val×List Af) :=
 if BX ⟨#[64]⟩ l=true then (CG 2 l.tail).bind fun p=>(Aq ⟨#[40]⟩ p.2).bind fun l2=>(CG 3 l2).bind fun q=>(Aq ⟨#[41]⟩ q.2).bind fun l4 =>
  .ok ((Qx m p.1.int,[],[⟨Qx m p.1.int,q.1.str⟩]),l4,k)
 else (CG 1 l).bind fun p =>
  match x.AA.find? fun y=>decide (y.name=p.1.text) with
  | none => .error 4
  | some y=>(Aq ⟨#[40]⟩ p.2).bind fun l2=>(f y.type l2 k).bind fun q=>(Aq ⟨#[41]⟩ q.2.1).bind fun l4 => .ok ((y.id,[q.1],[]),l4,q.2.2)
def MH (l:List AJ) (k:Bool):PR Bool :=
 (CG 1 l).bind fun p=>if p.1.text=⟨#[116,114,117,101]⟩ then .ok (true,p.2,k) else if p.1.text=⟨#[102,97,108,115,101]⟩ then .ok (false,p.2,k) else .error 2
def CY (x:Aa) (l:List AJ) (k:Bool):PR Val :=
 if x.kind=1 then (MH l k).bind fun p => .ok (.mk 1 p.1 0 ⟨#[]⟩ 0 [] [] [],p.2)
 else if x.kind=2 then (CG 2 l).bind fun p => .ok (.mk 2 false p.1.int ⟨#[]⟩ 0 [] [] [],p.2,k)
 else if x.kind=3 then (CG 3 l).bind fun p => .ok (.mk 3 false 0 p.1.str 0 [] [] [],p.2,k)
 else if x.kind=4 then (Ea m x l k).bind fun p => .ok (.mk 4 false 0 ⟨#[]⟩ p.1 [] [] [],p.2)
 else if x.kind=5 then (Iq m f x l k).bind fun p => .ok (.mk 5 false 0 ⟨#[]⟩ 0 [] p.1.1 p.1.2,p.2)
 else if x.kind=6 then (Ej m f x l k).bind fun p => .ok (.mk 6 false 0 ⟨#[]⟩ p.1.1 [] p.1.2.1 p.1.2.2,p.2)
 else if x.kind=7 then (Hg f x l k).bind fun p => .ok (.mk 7 false 0 ⟨#[]⟩ 0 [] p.1 [],p.2)
 else if x.kind=8 then (Hf f x l k).bind fun p => .ok (.mk 8 false 0 ⟨#[]⟩ 0 (p.1.map Prod.fst) (p.1.map Prod.snd) [],p.2)
 else (Gp f x l k).bind fun p => .ok (.mk 9 false 0 ⟨#[]⟩ 0 [] p.1 [],p.2)
end
def Ny (m:Bool) (s:List Aa):Nat->Int->List AJ->Bool->PR Val
 | 0,_,_,_ => .error 0
 | n+1,t,l,k=>CY m (Ny m s n) (AO s t) l k
def CZ (m:Bool) (s:List Aa) (t:Int) (l:List AJ):PR Val:=Ny m s (l.length+1) t l false
theorem zM {α β:Type} (a:α) (g:α->Except Int β):(Except.ok a:Except Int α).bind g=g a:=rfl
theorem Cv {α β:Type} (e:Int) (g:α->Except Int β):(Except.error e:Except Int α).bind g = .error e:=rfl
theorem zS {α β:Type} {a:Except Int α} {g:α->Except Int β} {b:β} (h:a.bind g = .ok b):∃x,a = .ok x/\g x = .ok b:=by
 cases a with
 | error e=>cases h
 | ok x=>exact ⟨x,rfl,h⟩
theorem MI {α β:Type} {a:Except Int α} {g:α->Except Int β} {e:Int} (h:a.bind g = .error e):a = .error e\/∃x,a = .ok x/\g x = .error e:=by
 cases a with
 | error e'=>exact Or.inl (by injection h with h;rw[h])
 | ok x=>exact Or.inr ⟨x,rfl,h⟩
def Lt (a b:List AJ):Prop:=a <:+ b/\a.length<b.length
variable {a b:List AJ}
theorem Lt.Ta (h:Lt a b):a <:+ b:=h.1
theorem Lt.then {c:List AJ} (h:a <:+ b) (h2:Lt b c):Lt a c:=⟨h.trans h2.1,Nat.lt_of_le_of_lt h.length_le h2.2⟩
theorem Lt.then' {c:List AJ} (h:Lt a b) (h2:b <:+ c):Lt a c:=⟨h.1.trans h2,AA2 h.2 h2.length_le⟩
theorem Bn {k:Int} {l:List AJ} {t:AJ} {r:List AJ} (h:CG k l = .ok (t,r)):Lt r l/\l=t::r/\t.kind=k:=by
 cases l with
 | nil=>cases h
 | cons u q =>
  rw[CG] at h
  split at h
  ·rename_i hk
   injection h with h;injection h with h1 h2;subst h1 h2
   exact ⟨⟨List.suffix_cons _ _,by simp⟩,rfl,hk⟩
  ·cases h
variable {s:ByteArray}
theorem Cr {l:List AJ} (h:BX s l=true):∃t r,l=t::r/\t.kind=4/\t.text=s:=by
 cases l with
 | nil=>cases h
 | cons t r =>
  rw[BX,AAM,AAX,AAX] at h;exact ⟨t,r,rfl,h.1,h.2⟩
theorem Dt {l:List AJ} (h:BX s l=true):Lt l.tail l:=by
 obtain ⟨t,r,rfl,_⟩:=Cr h;exact ⟨List.suffix_cons _ _,by simp⟩
theorem zU {l r:List AJ} (h:Aq s l = .ok r):Lt r l/\BX s l=true/\r=l.tail:=by
 unfold Aq at h
 split at h
 ·rename_i hi
  injection h with h;subst h
  exact ⟨Dt hi,hi,rfl⟩
 ·cases h
def Dec {α:Type} (part:List AJ->Bool->PR α):Prop:=∀l k x r k',part l k = .ok (x,r,k')->Lt r l
section
variable {α:Type} {part part':List AJ->Bool->PR α}
theorem OL (hp:Dec part):∀ (n:Nat) l k xs r k',IK part n l k = .ok (xs,r,k')->Lt r l
 | 0,_,_,_,_,_,h=>by cases h
 | n+1,l,k,xs,r,k',h=>by
  rw[IK] at h;obtain ⟨⟨x,l1,k1⟩,h1,h2⟩:=zS h;have g1:=hp _ _ _ _ _ h1;simp only at h2
  split at h2
  ·rename_i hi
   obtain ⟨⟨q,l2,k2⟩,h3,h4⟩:=zS h2
   injection h4 with h4;injection h4 with h4 h5;injection h5 with h5 h6
   subst h5;exact ((OL hp n _ _ _ _ _ h3).then' (Dt hi).1).then' g1.1
  ·injection h2 with h2;injection h2 with h4 h5;injection h5 with h5 h6
   subst h5;exact g1
theorem IJ (l0:List AJ) (hd:Dec part) (he:∀l k,l <:+ l0->part l k=part' l k):∀ (n n':Nat) l k,l <:+ l0->l.length<n->l.length<n'->IK part n l k=IK part' n' l k
 | 0,_,_,_,_,h,_=>absurd h (Nat.not_lt_zero _)
 | _,0,_,_,_,_,h=>absurd h (Nat.not_lt_zero _)
 | n+1,n'+1,l,k,hl,h1,h2=>by
  rw[IK,IK,<-he l k hl]
  cases hp:part l k with
  | error e=>rfl
  | ok p =>
   obtain ⟨x,l1,k1⟩:=p;have g1:=hd _ _ _ _ _ hp;rw[zM,zM];simp only
   split
   ·rename_i hi
    have g2:=Dt hi;have g3:=g2.2;have g4:=g1.2;rw[IJ l0 hd he n n' l1.tail k1 ((g2.1.trans g1.1).trans hl) (by omega) (by omega)]
   ·rfl
end
theorem Lt.trans {c:List AJ} (h:Lt a b) (h2:Lt b c):Lt a c:=h.then' h2.1
section
variable {m:Bool} {f g:Int->List AJ->Bool->PR Val}
theorem JU (hf:∀t,Dec (f t)) (x:Aa):Dec (DZ f x):=fun l k v r k' h=>by
 unfold DZ at h;obtain ⟨⟨a,l1,k1⟩,h1,h⟩:=zS h;obtain ⟨l2,h2,h⟩:=zS h;obtain ⟨⟨b,l3,k3⟩,h3,h⟩:=zS h
 injection h with h;injection h with h4 h5;injection h5 with h5 h6
 subst h5;exact ((hf _ _ _ _ _ _ h3).trans (zU h2).1).trans (hf _ _ _ _ _ _ h1)
theorem UH (hf:∀t,Dec (f t)):∀ (ms:List AY) (first:Bool) l k v r k',BQ f first ms l k = .ok (v,r,k')->r <:+ l
 | [],_,l,k,v,r,k',h=>by
  rw[BQ] at h
  injection h with h;injection h with h4 h5;injection h5 with h5 h6
  subst h5;exact List.suffix_refl _
 | y::ms,first,l,k,v,r,k',h=>by
  rw[BQ] at h;obtain ⟨l0,h0,h⟩:=zS h;have g0:l0 <:+ l:=by
   split at h0
   ·injection h0 with h0;subst h0;exact List.suffix_refl _
   ·exact (zU h0).1.1
  obtain ⟨⟨t,l1⟩,h1,h⟩:=zS h;simp only at h
  split at h
  ·obtain ⟨l2,h2,h⟩:=zS h
   obtain ⟨⟨a,l3,k3⟩,h3,h⟩:=zS h;obtain ⟨⟨b,l4,k4⟩,h4,h⟩:=zS h
   injection h with h;injection h with h5 h6;injection h6 with h6 h7
   subst h6;exact (((UH hf ms false _ _ _ _ _ h4).trans (hf _ _ _ _ _ _ h3).1).trans ((zU h2).1.1.trans (Bn h1).1.1)).trans g0
  ·cases h
theorem Tp:∀ (n:Nat) (first:Bool) l v r,Dj m n first l = .ok (v,r)->r <:+ l
 | 0,_,_,_,_,h=>by cases h
 | n+1,first,l,v,r,h=>by
  rw[Dj] at h
  split at h
  ·injection h with h;injection h with h4 h5
   subst h5;exact List.suffix_refl _
  ·obtain ⟨l0,h0,h⟩:=zS h
   have g0:l0 <:+ l:=by
    split at h0
    ·injection h0 with h0;subst h0;exact List.suffix_refl _
    ·exact (zU h0).1.1
   obtain ⟨⟨t,l1⟩,h1,h⟩:=zS h;obtain ⟨l2,h2,h⟩:=zS h;obtain ⟨⟨q,l3⟩,h3,h⟩:=zS h;obtain ⟨⟨b,l4⟩,h4,h⟩:=zS h
   injection h with h;injection h with h5 h6
   subst h6;exact ((Tp n false _ _ _ h4).trans (Bn h3).1.1).trans (((zU h2).1.1.trans (Bn h1).1.1).trans g0)
variable {x:Aa}
theorem iJ:Dec (Ea m x):=fun l k v r k' h=>by
 unfold Ea at h
 split at h
 ·rename_i hi
  obtain ⟨⟨t,l1⟩,h1,h⟩:=zS h;have g:=(Bn h1).1.trans (Dt hi);simp only at h
  split at h
  ·split at h
   ·injection h with h;injection h with h4 h5;injection h5 with h5 h6;subst h5;exact g
   ·injection h with h;injection h with h4 h5;injection h5 with h5 h6;subst h5;exact g
  ·injection h with h;injection h with h4 h5;injection h5 with h5 h6;subst h5;exact g
 ·obtain ⟨⟨t,l1⟩,h1,h⟩:=zS h
  simp only at h
  split at h
  ·injection h with h;injection h with h4 h5;injection h5 with h5 h6;subst h5;exact (Bn h1).1
  ·cases h
theorem gJ (hf:∀t,Dec (f t)):Dec (Hg f x):=fun l k v r k' h=>by
 unfold Hg at h;obtain ⟨l1,h1,h⟩:=zS h;have g:=(zU h1).1
 split at h
 ·rename_i hi
  injection h with h;injection h with h4 h5;injection h5 with h5 h6;subst h5
  exact (Dt hi).trans g
 ·obtain ⟨⟨a,l2,k2⟩,h2,h⟩:=zS h
  obtain ⟨l3,h3,h⟩:=zS h
  injection h with h;injection h with h4 h5;injection h5 with h5 h6;subst h5
  exact ((zU h3).1.trans (OL (hf _) _ _ _ _ _ _ h2)).trans g
theorem mq (hf:∀t,Dec (f t)):Dec (Hf f x):=fun l k v r k' h=>by
 unfold Hf at h;obtain ⟨l1,h1,h⟩:=zS h;have g:=(zU h1).1
 split at h
 ·rename_i hi
  obtain ⟨l3,h3,h⟩:=zS h
  injection h with h;injection h with h4 h5;injection h5 with h5 h6;subst h5
  exact ((zU h3).1.trans (Dt hi)).trans g
 ·split at h
  ·cases h
  ·obtain ⟨⟨a,l2,k2⟩,h2,h⟩:=zS h
   obtain ⟨l3,h3,h⟩:=zS h
   injection h with h;injection h with h4 h5;injection h5 with h5 h6;subst h5
   exact ((zU h3).1.trans (OL (JU hf x) _ _ _ _ _ _ h2)).trans g
theorem mI (hf:∀t,Dec (f t)):Dec (Gp f x):=fun l k v r k' h=>by
 unfold Gp at h;obtain ⟨⟨t,l1⟩,h1,h⟩:=zS h;have g:=(Bn h1).1;simp only at h
 split at h
 ·injection h with h;injection h with h4 h5;injection h5 with h5 h6;subst h5
  exact g
 ·split at h
  ·obtain ⟨l2,h2,h⟩:=zS h
   obtain ⟨⟨a,l3,k3⟩,h3,h⟩:=zS h;obtain ⟨l4,h4,h⟩:=zS h
   injection h with h;injection h with h4' h5;injection h5 with h5 h6;subst h5
   exact (((zU h4).1.trans (hf _ _ _ _ _ _ h3)).trans (zU h2).1).trans g
  ·cases h
theorem lY (hf:∀t,Dec (f t)):Dec (Iq m f x):=fun l k v r k' h=>by
 unfold Iq at h;obtain ⟨l1,h1,h⟩:=zS h;obtain ⟨⟨a,l2,k2⟩,h2,h⟩:=zS h;obtain ⟨⟨b,l3⟩,h3,h⟩:=zS h;obtain ⟨l4,h4,h⟩:=zS h
 injection h with h;injection h with h4' h5;injection h5 with h5 h6;subst h5
 exact (((zU h4).1.then' (Tp _ _ _ _ _ h3)).then' (UH hf _ _ _ _ _ _ _ h2)).trans (zU h1).1
theorem kK (hf:∀t,Dec (f t)):Dec (Ej m f x):=fun l k v r k' h=>by
 unfold Ej at h
 split at h
 ·rename_i hi
  obtain ⟨⟨t,l1⟩,h1,h⟩:=zS h;obtain ⟨l2,h2,h⟩:=zS h;obtain ⟨⟨q,l3⟩,h3,h⟩:=zS h;obtain ⟨l4,h4,h⟩:=zS h
  injection h with h;injection h with h4' h5;injection h5 with h5 h6;subst h5
  exact (((zU h4).1.trans (Bn h3).1).trans (zU h2).1).trans ((Bn h1).1.trans (Dt hi))
 ·obtain ⟨⟨t,l1⟩,h1,h⟩:=zS h
  simp only at h
  split at h
  ·cases h
  ·obtain ⟨l2,h2,h⟩:=zS h
   obtain ⟨⟨a,l3,k3⟩,h3,h⟩:=zS h;obtain ⟨l4,h4,h⟩:=zS h
   injection h with h;injection h with h4' h5;injection h5 with h5 h6;subst h5
   exact (((zU h4).1.trans (hf _ _ _ _ _ _ h3)).trans (zU h2).1).trans (Bn h1).1
theorem iV:Dec MH:=fun l k v r k' h=>by
 unfold MH at h;obtain ⟨⟨t,l1⟩,h1,h⟩:=zS h;simp only at h
 split at h
 ·injection h with h;injection h with h4 h5;injection h5 with h5 h6;subst h5;exact (Bn h1).1
 ·split at h
  ·injection h with h;injection h with h4 h5;injection h5 with h5 h6;subst h5;exact (Bn h1).1
  ·cases h
theorem kF (hf:∀t,Dec (f t)):Dec (CY m f x):=fun l k v r k' h=>by
 have H:∀ {α:Type} {a:PR α} {G:α×List AJ×Bool->PR Val},a.bind G = .ok (v,r,k')->(∀p,∃w,G p = .ok (w,p.2))->(∀z,a = .ok (z,r,k')->Lt r l)->Lt r l:=fun {α a G} hb hG hz=>by
  obtain ⟨⟨z,r',k''⟩,h1,h2⟩:=zS hb;obtain ⟨w,hw⟩:=hG (z,r',k'');rw[hw] at h2
  injection h2 with h2;injection h2 with h3 h4
  simp only at h4;rw[h4] at h1;exact hz z h1
 have HT:∀ {j:Int} {G:AJ×List AJ->PR Val},(CG j l).bind G = .ok (v,r,k')->(∀p,∃w,G p = .ok (w,p.2,k))->Lt r l:=fun {j G} hb hG=>by
  obtain ⟨⟨z,r'⟩,h1,h2⟩:=zS hb;obtain ⟨w,hw⟩:=hG (z,r');rw[hw] at h2
  injection h2 with h2;injection h2 with h3 h4;injection h4 with h4 h5
  simp only at h4;subst h4;exact (Bn h1).1
 unfold CY at h
 repeat' split at h
 ·exact H h (fun p=>⟨_,rfl⟩) fun z hz=>iV _ _ _ _ _ hz
 ·exact HT h fun p=>⟨_,rfl⟩
 ·exact HT h fun p=>⟨_,rfl⟩
 ·exact H h (fun p=>⟨_,rfl⟩) fun z hz=>iJ _ _ _ _ _ hz
 ·exact H h (fun p=>⟨_,rfl⟩) fun z hz=>lY hf _ _ _ _ _ hz
 ·exact H h (fun p=>⟨_,rfl⟩) fun z hz=>kK hf _ _ _ _ _ hz
 ·exact H h (fun p=>⟨_,rfl⟩) fun z hz=>gJ hf _ _ _ _ _ hz
 ·exact H h (fun p=>⟨_,rfl⟩) fun z hz=>mq hf _ _ _ _ _ hz
 ·exact H h (fun p=>⟨_,rfl⟩) fun z hz=>mI hf _ _ _ _ _ hz
end
theorem LQ (m:Bool) (s:List Aa):∀n t,Dec (Ny m s n t)
 | 0,_=>fun _ _ _ _ _ h=>by cases h
 | n+1,t=>fun l k v r k' h=>kF (fun u=>LQ m s n u) l k v r k' h
theorem zY {α β:Type} {a:Except Int α} {g h:α->Except Int β} (H:∀x,a = .ok x->g x=h x):a.bind g=a.bind h:=by
 cases a with
 | error e=>rfl
 | ok x=>exact H x rfl
section
variable {m:Bool} {f g:Int->List AJ->Bool->PR Val}
def NI (f g:Int->List AJ->Bool->PR Val) (l:List AJ):Prop:=∀t r k,r <:+ l->f t r k=g t r k
def Jb (f g:Int->List AJ->Bool->PR Val) (l:List AJ):Prop:=∀t r k,Lt r l->f t r k=g t r k
variable {l:List AJ}
theorem Jb.to {l1:List AJ} (h:Jb f g l) (h1:Lt l1 l):NI f g l1:=fun t r k hr=>h t r k (Lt.then hr h1)
theorem NI.of {l1:List AJ} (h:NI f g l) (h1:l1 <:+ l):NI f g l1:=fun t r k hr=>h t r k (hr.trans h1)
variable {x:Aa}
theorem Zt (hf:∀t,Dec (f t)) (h:NI f g l) (k:Bool):DZ f x l k=DZ g x l k:=by
 unfold DZ;rw[<-h x.key l k (List.suffix_refl _)];refine zY fun p hp=>?_
 obtain ⟨a,l1,k1⟩:=p;have g1:=(hf _ _ _ _ _ _ hp).1;refine zY fun l2 h2=>?_
 have g2:=(zU h2).1.1;simp only;rw[h x.elem l2 k1 (g2.trans g1)]
theorem O9 (hf:∀t,Dec (f t)):∀ (ms:List AY) (first:Bool) (l:List AJ) (k:Bool),NI f g l->BQ f first ms l k=BQ g first ms l k
 | [],_,l,k,_=>rfl
 | y::ms,first,l,k,h=>by
  rw[BQ,BQ];refine zY fun l0 h0=>?_
  have g0:l0 <:+ l:=by
   split at h0
   ·injection h0 with h0;subst h0;exact List.suffix_refl _
   ·exact (zU h0).1.1
  refine zY fun p h1=>?_
  obtain ⟨t,l1⟩:=p;have g1:=(Bn h1).1.1;simp only
  split
  ·refine zY fun l2 h2=>?_
   have g2:=(zU h2).1.1;have g3:l2 <:+ l:=g2.trans (g1.trans g0);rw[<-h y.type l2 k g3];refine zY fun q h3=>?_
   obtain ⟨a,l3,k3⟩:=q;have g4:=(hf _ _ _ _ _ _ h3).1;simp only;rw[O9 hf ms false l3 k3 (h.of (g4.trans g3))]
  ·rfl
theorem WL (hf:∀t,Dec (f t)) (h:Jb f g l) (k:Bool):Hg f x l k=Hg g x l k:=by
 unfold Hg;refine zY fun l1 h1=>?_
 have g1:=(zU h1).1
 split
 ·rfl
 ·rw[IJ l1 (hf _) (fun r k hr=>h x.elem r k (Lt.then hr g1)) (l1.length+1) (l1.length+1) l1 k (List.suffix_refl _) (by omega) (by omega)]
theorem ZR (hf:∀t,Dec (f t)) (h:Jb f g l) (k:Bool):Hf f x l k=Hf g x l k:=by
 unfold Hf;refine zY fun l1 h1=>?_
 have g1:=(zU h1).1
 split
 ·rfl
 ·split
  ·rfl
  ·rw[IJ l1 (JU hf x) (fun r k hr=>Zt hf ((h.to g1).of hr) k) (l1.length+1) (l1.length+1) l1 k (List.suffix_refl _) (by omega) (by omega)]
theorem ZJ (h:Jb f g l) (k:Bool):Gp f x l k=Gp g x l k:=by
 unfold Gp;refine zY fun p h1=>?_
 obtain ⟨t,l1⟩:=p;have g1:=(Bn h1).1;simp only
 split
 ·rfl
 ·split
  ·refine zY fun l2 h2=>?_
   rw[h x.elem l2 k ((zU h2).1.trans g1)]
  ·rfl
theorem Y9 (hf:∀t,Dec (f t)) (h:Jb f g l) (k:Bool):Iq m f x l k=Iq m g x l k:=by
 unfold Iq;refine zY fun l1 h1=>?_
 rw[O9 hf x.AA true l1 k (h.to (zU h1).1)]
theorem Yq (h:Jb f g l) (k:Bool):Ej m f x l k=Ej m g x l k:=by
 unfold Ej
 split
 ·rfl
 ·refine zY fun p h1=>?_
  obtain ⟨t,l1⟩:=p;have g1:=(Bn h1).1;simp only
  split
  ·rfl
  ·rename_i y _
   refine zY fun l2 h2=>?_
   rw[h y.type l2 k ((zU h2).1.trans g1)]
theorem QN (hf:∀t,Dec (f t)) (h:Jb f g l) (k:Bool):CY m f x l k=CY m g x l k:=by
 unfold CY;rw[WL hf h,ZR hf h,ZJ h,Y9 hf h,Yq h]
end
theorem QM (m:Bool) (s:List Aa):∀ (n n':Nat) (t:Int) (l:List AJ) (k:Bool),l.length<n->l.length<n'->Ny m s n t l k=Ny m s n' t l k
 | 0,_,_,_,_,h,_=>absurd h (Nat.not_lt_zero _)
 | _,0,_,_,_,_,h=>absurd h (Nat.not_lt_zero _)
 | n+1,n'+1,t,l,k,h1,h2=>by
  rw[Ny,Ny];refine QN (LQ m s n) (fun u r k' hr=>?_) k
  have:=hr.2;exact QM m s n n' u r k' (by omega) (by omega)
def Ag (m:Bool) (s:List Aa) (t:Int) (l:List AJ) (k:Bool):PR Val:=Ny m s (l.length+1) t l k
theorem G5 (m:Bool) (s:List Aa) (t:Int):Dec (Ag m s t):=fun _ _ _ _ _ h=>LQ m s _ t _ _ _ _ _ h
theorem XO (m:Bool) (s:List Aa) (t:Int) (l:List AJ) (k:Bool):Ag m s t l k=CY m (Ag m s) (AO s t) l k:=by
 unfold Ag;rw[Ny];refine QN (LQ m s _) (fun u r k' hr=>?_) k
 have:=hr.2;exact QM m s _ _ u r k' (by omega) (by omega)
def okV (s:List Aa) (t:Int) (v:Val):Prop:=∃n,Ad s false n t v=true
section
variable {α β γ:Type} {bad:α->Prop} {AE3:β->Prop} {AE2:γ->Prop} {k:Bool}
end
def xg (x:Aa):Prop:=(∀y∈x.AV,1<=y.id/\y.id<=1000)/\∀y∈x.AA,1<=y.id/\y.id<=1000
theorem ND (n:Int):Qx false n=n:=by unfold Qx;simp
theorem Lx {n:Int}:BA n=true↔1<=n/\n<=1000:=by unfold BA;simp
section
variable {s:List Aa} {f f':Int->List AJ->Bool->PR Val}
end
section
variable {s:List Aa} {f f':Int->List AJ->Bool->PR Val} {t:Int} {k:Bool}
theorem WB {x:Aa}:∀ {l:List Af},DT x l=true->∀r∈l,BA r.id=true
 | a::l,h,r,hr=>by
  unfold DT at h;simp only[AAM] at h
  rcases AAi.1 hr with rfl|hr
  ·exact h.1.1.2
  ·exact WB h.2 r hr
theorem Rv {f:Int->Val->Bool}:∀ (ms:List AY) (vs:List Val),((ms.zip vs).all fun p=>f p.1.type p.2)=true->∀k (h:k<ms.length) (h':k<vs.length),f (ms[k]).type vs[k]=true
 | m::ms,w::vs,h,0,_,_=>by
  simp only[List.zip_cons_cons,List.all_cons,AAM] at h;exact h.1
 | m::ms,w::vs,h,k+1,h1,h2=>by
  simp only[List.zip_cons_cons,List.all_cons,AAM] at h;exact Rv ms vs h.2 k (by simpa using h1) (by simpa using h2)
end
def KP {α:Type} (part:List AJ->Bool->PR α) (l:List AJ) (k:Bool):PR (List α):=IK part (l.length+1) l k
theorem Lb {α:Type} {part:List AJ->Bool->PR α} (hd:Dec part) (l:List AJ) (k:Bool):KP part l k=(part l k).bind fun p =>
  if BX ⟨#[44]⟩ p.2.1=true then (KP part p.2.1.tail p.2.2).bind fun q => .ok (p.1::q.1,q.2) else .ok ([p.1],p.2):=by
 unfold KP;rw[IK];refine zY fun p hp=>?_
 obtain ⟨x,l1,k1⟩:=p;simp only
 split
 ·rename_i hi
  have g1:=(hd _ _ _ _ _ hp).2;have g2:=(Dt hi).2;rw[IJ l1.tail hd (fun _ _ _=>rfl) l.length (l1.tail.length+1) l1.tail k1 (List.suffix_refl _) (by omega) (by omega)]
 ·rfl
theorem O1 (m:Bool):∀ (n n':Nat) (first:Bool) (l:List AJ),l.length<n->l.length<n'->Dj m n first l=Dj m n' first l
 | 0,_,_,_,h,_=>absurd h (Nat.not_lt_zero _)
 | _,0,_,_,_,h=>absurd h (Nat.not_lt_zero _)
 | n+1,n'+1,first,l,h1,h2=>by
  rw[Dj,Dj]
  split
  ·rfl
  ·refine zY fun l0 h0=>?_
   have g0:l0.length<=l.length:=by
    split at h0
    ·injection h0 with h0;subst h0;exact AAP _
    ·exact AAV (zU h0).1.2
   refine zY fun p hp=>?_
   obtain ⟨t,l1⟩:=p;have g1:=(Bn hp).1.2;refine zY fun l3 h3=>?_
   have g3:=(zU h3).1.2;refine zY fun q hq=>?_
   obtain ⟨u,l4⟩:=q;have g4:=(Bn hq).1.2;simp only at g1 g3 g4 ⊢;rw[O1 m n n' false l4 (by omega) (by omega)]
def ED (m first:Bool) (l:List AJ):Except Int (List Af×List AJ):=Dj m (l.length+1) first l
theorem F8 (m first:Bool) (l:List AJ):ED m first l=if BX ⟨#[125]⟩ l=true then .ok ([],l) else
  (if first=true then .ok l else Aq ⟨#[44]⟩ l).bind fun l1=>(CG 2 l1).bind fun p=>(Aq ⟨#[58]⟩ p.2).bind fun l3=>(CG 3 l3).bind fun q =>
   (ED m false q.2).bind fun r => .ok (⟨Qx m p.1.int,q.1.str⟩::r.1,r.2):=by
 unfold ED;rw[Dj]
 split
 ·rfl
 ·refine zY fun l0 h0=>?_
  have g0:l0.length<=l.length:=by
   split at h0
   ·injection h0 with h0;subst h0;exact AAP _
   ·exact AAV (zU h0).1.2
  refine zY fun p hp=>?_
  obtain ⟨t,l1⟩:=p;have g1:=(Bn hp).1.2;refine zY fun l3 h3=>?_
  have g3:=(zU h3).1.2;refine zY fun q hq=>?_
  obtain ⟨u,l4⟩:=q;have g4:=(Bn hq).1.2;simp only at g1 g3 g4 ⊢;rw[O1 m l.length (l4.length+1) false l4 (by omega) (by omega)]
def Cm {α:Type} (a:Except Int α):Prop:=a ≠ .error 0
theorem zP {α β:Type} {a:Except Int α} {g:α->Except Int β} (h1:Cm a) (h2:∀x,a = .ok x->Cm (g x)):Cm (a.bind g):=fun h=>by
 rcases MI h with h|⟨x,h3,h4⟩
 ·exact h1 h
 ·exact h2 x h3 h4
theorem CO {α:Type} (a:α):Cm (Except.ok a:Except Int α):=fun h=>by cases h
theorem Mw {α:Type}:Cm (.error 2:Except Int α):=fun h=>by injection h with h;cases h
theorem Rx {α:Type}:Cm (.error 4:Except Int α):=fun h=>by injection h with h;cases h
theorem Ii (k:Int) (l:List AJ):Cm (CG k l):=by
 cases l with
 | nil=>exact Mw
 | cons t r=>rw[CG];split <;> first|exact CO _|exact Mw
theorem Ef (s:ByteArray) (l:List AJ):Cm (Aq s l):=by
 unfold Aq;split <;> first|exact CO _|exact Mw
theorem WC {α:Type} {part:List AJ->Bool->PR α} (hd:Dec part) (l0:List AJ) (hp:∀l k,l <:+ l0->Cm (part l k)):∀ (n:Nat) l k,l <:+ l0->l.length<n->Cm (IK part n l k)
 | 0,_,_,_,h=>absurd h (Nat.not_lt_zero _)
 | n+1,l,k,hl,h=>by
  rw[IK];refine zP (hp l k hl) fun p h1=>?_
  obtain ⟨x,l1,k1⟩:=p;have g1:=hd _ _ _ _ _ h1;simp only
  split
  ·rename_i hi
   have g2:=Dt hi;have g3:=g1.2;have g4:=g2.2;exact zP (WC hd l0 hp n l1.tail k1 ((g2.1.trans g1.1).trans hl) (by omega)) fun _ _=>CO _
  ·exact CO _
theorem UD {first:Bool} {l:List AJ}:Cm (if first=true then Except.ok l else Aq ⟨#[44]⟩ l):=by
 split
 ·exact CO _
 ·exact Ef _ _
theorem Xu {f:Int->List AJ->Bool->PR Val} (hf:∀t,Dec (f t)) (l0:List AJ) (hp:∀t l k,l <:+ l0->Cm (f t l k)):∀ (ms:List AY) (first:Bool) l k,l <:+ l0->Cm (BQ f first ms l k)
 | [],_,_,_,_=>CO _
 | y::ms,first,l,k,hl=>by
  rw[BQ];refine zP UD fun l1 h1=>?_
  have g1:l1 <:+ l:=by
   split at h1
   ·injection h1 with h1;subst h1;exact List.suffix_refl _
   ·exact (zU h1).1.1
  refine zP (Ii _ _) fun p h2=>?_
  obtain ⟨t,l2⟩:=p;have g2:=(Bn h2).1.1;simp only
  split
  ·refine zP (Ef _ _) fun l3 h3=>?_
   have g3:=(zU h3).1.1;refine zP (hp _ _ _ (g3.trans (g2.trans (g1.trans hl)))) fun q h4=>?_
   obtain ⟨v,l4,k4⟩:=q;have g4:=(hf _ _ _ _ _ _ h4).1;exact zP (Xu hf l0 hp ms false l4 k4 (g4.trans (g3.trans (g2.trans (g1.trans hl))))) fun _ _=>CO _
  ·exact Rx
theorem Xt (m:Bool):∀ (n:Nat) (first:Bool) (l:List AJ),l.length<n->Cm (Dj m n first l)
 | 0,_,_,h=>absurd h (Nat.not_lt_zero _)
 | n+1,first,l,h=>by
  rw[Dj]
  split
  ·exact CO _
  ·refine zP UD fun l0 h0=>?_
   have g0:l0.length<=l.length:=by
    split at h0
    ·injection h0 with h0;subst h0;exact AAP _
    ·exact AAV (zU h0).1.2
   refine zP (Ii _ _) fun p hp=>?_
   obtain ⟨t,l1⟩:=p;have g1:=(Bn hp).1.2;refine zP (Ef _ _) fun l3 h3=>?_
   have g3:=(zU h3).1.2;refine zP (Ii _ _) fun q hq=>?_
   obtain ⟨u,l4⟩:=q;have g4:=(Bn hq).1.2;exact zP (Xt m n false l4 (by simp only at *;omega)) fun _ _=>CO _
theorem mR {m:Bool} {f:Int->List AJ->Bool->PR Val} (hf:∀t,Dec (f t)) {x:Aa} {l:List AJ} {k:Bool} (hp:∀t r k,Lt r l->Cm (f t r k)):Cm (CY m f x l k):=by
 have hT:∀ {r:List AJ},Lt r l->∀t r2 k,r2 <:+ r->Cm (f t r2 k):=fun h t r2 k h2=>hp t r2 k (Lt.then h2 h)
 unfold CY
 repeat' split
 ·refine zP ?_ fun _ _=>CO _
  unfold MH;refine zP (Ii _ _) fun p _=>?_
  repeat' split
  all_goals first|exact CO _|exact Mw
 ·exact zP (Ii _ _) fun _ _=>CO _
 ·exact zP (Ii _ _) fun _ _=>CO _
 ·refine zP ?_ fun _ _=>CO _
  unfold Ea
  split
  ·refine zP (Ii _ _) fun p _=>?_
   repeat' split
   all_goals exact CO _
  ·refine zP (Ii _ _) fun p _=>?_
   split
   ·exact CO _
   ·exact Rx
 ·refine zP ?_ fun _ _=>CO _
  unfold Iq;refine zP (Ef _ _) fun l1 h1=>?_
  refine zP (Xu hf l1 (fun t r k hr=>hT (zU h1).1 t r k hr) _ _ _ _ (List.suffix_refl _)) fun p _=>?_
  refine zP (Xt m _ _ _ (by omega)) fun q _=>?_
  exact zP (Ef _ _) fun _ _=>CO _
 ·refine zP ?_ fun _ _=>CO _
  unfold Ej
  split
  ·refine zP (Ii _ _) fun p _=>?_
   refine zP (Ef _ _) fun l1 h1=>?_
   refine zP (Ii _ _) fun p _=>?_
   exact zP (Ef _ _) fun _ _=>CO _
  ·refine zP (Ii _ _) fun p h1=>?_
   obtain ⟨t,l1⟩:=p;simp only
   split
   ·exact Rx
   ·refine zP (Ef _ _) fun l2 h2=>?_
    refine zP (hp _ _ _ ((zU h2).1.trans (Bn h1).1)) fun q _=>?_
    exact zP (Ef _ _) fun _ _=>CO _
 ·refine zP ?_ fun _ _=>CO _
  unfold Hg;refine zP (Ef _ _) fun l1 h1=>?_
  split
  ·exact CO _
  ·refine zP (WC (hf _) l1 (fun r k hr=>hT (zU h1).1 _ r k hr) _ _ _ (List.suffix_refl _) (by omega)) fun p _=>?_
   exact zP (Ef _ _) fun _ _=>CO _
 ·refine zP ?_ fun _ _=>CO _
  unfold Hf;refine zP (Ef _ _) fun l1 h1=>?_
  split
  ·exact zP (Ef _ _) fun _ _=>CO _
  ·split
   ·exact Mw
   ·refine zP (WC (JU hf x) l1 (fun r k hr=>?_) _ _ _ (List.suffix_refl _) (by omega)) fun p _=>?_
    ·unfold DZ
     refine zP (hT (zU h1).1 _ r k hr) fun p h2=>?_
     obtain ⟨v,l2,k2⟩:=p;refine zP (Ef _ _) fun l3 h3=>?_
     exact zP (hT (zU h1).1 _ l3 k2 (((zU h3).1.1.trans (hf _ _ _ _ _ _ h2).1).trans hr)) fun _ _=>CO _
    ·exact zP (Ef _ _) fun _ _=>CO _
 ·refine zP ?_ fun _ _=>CO _
  unfold Gp;refine zP (Ii _ _) fun p h1=>?_
  obtain ⟨t,l1⟩:=p;simp only
  split
  ·exact CO _
  ·split
   ·refine zP (Ef _ _) fun l2 h2=>?_
    refine zP (hp _ _ _ ((zU h2).1.trans (Bn h1).1)) fun q _=>?_
    exact zP (Ef _ _) fun _ _=>CO _
   ·exact Mw
theorem XQ (m:Bool) (s:List Aa):∀ (n:Nat) (t:Int) (l:List AJ) (k:Bool),l.length<n->Cm (Ny m s n t l k)
 | 0,_,_,_,h=>absurd h (Nat.not_lt_zero _)
 | n+1,t,l,k,h=>by
  rw[Ny];refine mR (LQ m s n) fun u r k' hr=>?_
  have:=hr.2;exact XQ m s n u r k' (by omega)
theorem Gf (m:Bool) (s:List Aa) (t:Int) (l:List AJ) (k:Bool):Cm (Ag m s t l k):=XQ m s _ t l k (by omega)
def OO (s:ByteArray):AJ:=⟨1,s,0,⟨#[]⟩,0⟩
def Zi (n:Int):AJ:=⟨2,⟨#[]⟩,n,⟨#[]⟩,0⟩
def dS (s:ByteArray):AJ:=⟨3,⟨#[]⟩,0,s,0⟩
def Bf (s:ByteArray):AJ:=⟨4,s,0,⟨#[]⟩,0⟩
def D8 {α:Type} (g:α->List AJ):List α->List AJ
 | []=>[]
 | [x]=>g x
 | x::y::r=>g x++Bf ⟨#[44]⟩::D8 g (y::r)
def WG (f:Int->Val->List AJ):Bool->List AY->List Val->List AJ
 | first,y::ms,v::vs=>(if first=true then [] else [Bf ⟨#[44]⟩])++OO y.name::Bf ⟨#[58]⟩::(f y.type v++WG f false ms vs)
 | _,_,_=>[]
def QZ:Bool->List Af->List AJ
 | first,r::rs=>(if first=true then [] else [Bf ⟨#[44]⟩])++Zi r.id::Bf ⟨#[58]⟩::dS r.data::QZ false rs
 | _,[]=>[]
def etk (f g:Val->List AJ) (p:Val×Val):List AJ:=f p.1++Bf ⟨#[45,62]⟩::g p.2
def Q6 (x:Aa) (n:Int):List AJ:=match x.AV.find? fun y=>decide (y.id=n) with
 | some y=>[OO y.name]
 | none=>[Bf ⟨#[64]⟩,Zi n]
def pU (h:Val->List AJ):List Val->List AJ
 | y::_=>h y
 | []=>[]
def pV:List Af->List AJ
 | r::_=>[dS r.data]
 | []=>[]
def LU (f:Int->Val->List AJ) (x:Aa) (n:Int) (vs:List Val) (rs:List Af):List AJ:=match x.AA.find? fun m=>decide (m.id=n) with
 | some m=>OO m.name::Bf ⟨#[40]⟩::(pU (f m.type) vs++[Bf ⟨#[41]⟩])
 | none=>Bf ⟨#[64]⟩::Zi n::Bf ⟨#[40]⟩::(pV rs++[Bf ⟨#[41]⟩])
def fP (h:Val->List AJ):List Val->List AJ
 | []=>[OO ⟨#[110,111,110,101]⟩]
 | y::_=>OO ⟨#[115,111,109,101]⟩::Bf ⟨#[40]⟩::(h y++[Bf ⟨#[41]⟩])
def Fj (f:Int->Val->List AJ) (x:Aa) (v:Val):List AJ :=
 if x.kind=1 then [OO (if v.bool then ⟨#[116,114,117,101]⟩ else ⟨#[102,97,108,115,101]⟩)]
 else if x.kind=2 then [Zi v.int]
 else if x.kind=3 then [dS v.str]
 else if x.kind=4 then Q6 x v.id
 else if x.kind=5 then Bf ⟨#[123]⟩::(WG f true x.AA v.items++(QZ x.AA.isEmpty v.rest++[Bf ⟨#[125]⟩]))
 else if x.kind=6 then LU f x v.id v.items v.rest
 else if x.kind=7 then Bf ⟨#[91]⟩::(D8 (f x.elem) v.items++[Bf ⟨#[93]⟩])
 else if x.kind=8 then Bf ⟨#[91]⟩::(if v.keys.length=0 then [Bf ⟨#[45,62]⟩,Bf ⟨#[93]⟩] else D8 (etk (f x.key) (f x.elem)) (v.keys.zip v.items)++[Bf ⟨#[93]⟩])
 else fP (f x.elem) v.items
def Py (s:List Aa):Nat->Int->Val->List AJ
 | 0,_,_=>[]
 | n+1,t,v=>Fj (Py s n) (AO s t) v
theorem Qj {v:Val} (h:zJ v=true):v=Ar v:=by
 unfold zJ at h;simp only[AAM,AAX] at h;obtain ⟨⟨⟨⟨⟨⟨h1,h2⟩,h3⟩,h4⟩,h5⟩,h6⟩,h7⟩:=h;obtain ⟨k,b,i,s,d,ks,is,r⟩:=v;unfold Ar at *;simp only[Val.kind,Val.bool,Val.int,Val.str,Val.id,Val.keys,Val.items,Val.rest] at *;rw[<-h1,<-h2,<-h3,<-h4];have g:∀ {α:Type} (p:Prop) [Decidable p] (l:List α),l.length=(if p then l else []).length->l=if p then l else []:=fun p _ l h=>by
  split at h
  ·rename_i hp;rw[AAH hp]
  ·rename_i hp;rw[Pd hp];exact AAa h
 rw[<-g _ _ h5,<-g _ _ h6,<-g _ _ h7]
structure YQ (x:Aa):Prop where
 ids:xg x
 AEF:(x.AA.map AY.id).Nodup
 AAv:(x.AV.map Bq.name).Nodup
 AA3:(x.AA.map AY.name).Nodup
theorem PW {α β:Type} [DecidableEq β] {g:α->β}:∀ {l:List α},(l.map g).Nodup->∀ {y:α},y∈l->l.find? (fun z=>decide (g z=g y))=some y
 | a::l,hd,y,hy=>by
  rw[AA5,List.nodup_cons] at hd;rw[ABl]
  rcases AAi.1 hy with rfl|hy
  ·simp
  ·have:g a≠g y:=fun e=>hd.1 (by rw[e];exact List.mem_map_of_mem hy)
   simp only[this,decide_false];exact PW hd.2 hy
theorem Em (k:Int) (t:AJ) (l:List AJ) (h:t.kind=k):CG k (t::l) = .ok (t,l):=by rw[CG,AAH h]
theorem FY (s u:ByteArray) (l:List AJ):BX s (Bf u::l)=decide (u=s):=rfl
theorem R9 (s u:ByteArray) (l:List AJ):BX s (OO u::l)=false:=by
 rw[BX];simp[OO]
theorem WO (s:ByteArray) (n:Int) (l:List AJ):BX s (Zi n::l)=false:=by
 rw[BX];simp[Zi]
theorem gW (s u:ByteArray) (l:List AJ):BX s (dS u::l)=false:=by
 rw[BX];simp[dS]
theorem Cy (s:ByteArray) (l:List AJ):Aq s (Bf s::l) = .ok l:=by
 unfold Aq;rw[FY,AAT rfl,AAH rfl];rfl
section
variable {f:Int->List AJ->Bool->PR Val} {g:Int->Val->List AJ}
def VL (f:Int->List AJ->Bool->PR Val) (g:Int->Val->List AJ) (t:Int) (v:Val):Prop:=∀more k,f t (g t v++more) k = .ok (v,more,k)
theorem Ow {α:Type} {part:List AJ->Bool->PR α} (hd:Dec part) {g:α->List AJ}:∀ (xs:List α),xs≠[]->(∀x∈xs,∀more k,part (g x++more) k = .ok (x,more,k))->∀more k,BX ⟨#[44]⟩ more=false->KP part (D8 g xs++more) k = .ok (xs,more,k)
 | [],h,_,_,_,_=>absurd rfl h
 | [x],_,h,more,k,hm=>by
  rw[D8,Lb hd,h x (List.mem_singleton.2 rfl),zM];simp only;rw[hm];rfl
 | x::y::r,_,h,more,k,hm=>by
  rw[D8,AAb,AAc,Lb hd,h x (AAl ..),zM];simp only;rw[FY,AAT rfl,AAH rfl,List.tail_cons,Ow hd (y::r) (by simp) (fun z hz=>h z (ABD _ hz)) more k hm]
  rfl
theorem Qq:∀ (ms:List AY) (vs:List Val) (first:Bool),ms.length=vs.length->(∀i (h:i<ms.length) (h':i<vs.length),VL f g ms[i].type vs[i])->∀more k,BQ f first ms (WG g first ms vs++more) k = .ok (vs,more,k)
 | [],[],first,_,_,more,k=>by cases first <;> rfl
 | [],_::_,_,h,_,_,_=>by cases h
 | _::_,[],_,h,_,_,_=>by cases h
 | y::ms,v::vs,first,hl,h,more,k=>by
  have h0:=h 0 (by simp) (by simp)
  have h1:=Qq ms vs false (by simpa using hl) (fun i h1 h2=>h (i+1) (by simpa using h1) (by simpa using h2)) more k
  simp only[List.getElem_cons_zero] at h0;have hs:(if first=true then Except.ok (WG g first (y::ms) (v::vs)++more) else Aq ⟨#[44]⟩ (WG g first (y::ms) (v::vs)++more)) = .ok (OO y.name::Bf ⟨#[58]⟩::(g y.type v++(WG g false ms vs++more))):=by
   cases first
   ·rw[WG];simp only[Bool.false_eq_true,if_false,AAc,List.nil_append,AAb];exact Cy _ _
   ·rw[WG];simp only[if_true,List.nil_append,AAc,AAb]
  rw[BQ,hs,zM,Em 1 _ _ rfl,zM];simp only;rw[AAH (show (OO y.name).text=y.name from rfl),Cy,zM,h0,zM];simp only;rw[h1];rfl
theorem Qe:∀ (rs:List Af) (first:Bool) more,(∀r∈rs,True)->ED false first (QZ first rs++Bf ⟨#[125]⟩::more) = .ok (rs,Bf ⟨#[125]⟩::more)
 | [],first,more,_=>by
  rw[QZ,List.nil_append,F8,FY,AAT rfl,AAH rfl]
 | r::rs,first,more,_=>by
  have h1:=Qe rs false more fun _ _=>trivial
  have h0:BX ⟨#[125]⟩ (QZ first (r::rs)++Bf ⟨#[125]⟩::more)=false:=by
   cases first
   ·rw[QZ];simp only[Bool.false_eq_true,if_false,AAc,List.nil_append]
    rw[FY];decide
   ·rw[QZ];simp only[if_true,List.nil_append,AAc]
    exact WO _ _ _
  have hs:(if first=true then Except.ok (QZ first (r::rs)++Bf ⟨#[125]⟩::more) else Aq ⟨#[44]⟩ (QZ first (r::rs)++Bf ⟨#[125]⟩::more)) = .ok (Zi r.id::Bf ⟨#[58]⟩::dS r.data::(QZ false rs++Bf ⟨#[125]⟩::more)):=by
   cases first
   ·rw[QZ];simp only[Bool.false_eq_true,if_false,AAc,List.nil_append];exact Cy _ _
   ·rw[QZ];simp only[if_true,List.nil_append,AAc]
  rw[F8,h0,Pd (by simp),hs,zM,Em 2 _ _ rfl,zM]
  simp only;rw[Cy,zM,Em 3 _ _ rfl,zM];simp only;rw[h1,zM,ND];rfl
end
end Go.Proofs.YthkkllmmbefedaaGreatDoor



