/-
  The tokens of a value, from which it is read again: plain Lean.
-/
import Derived.Test.YthkkllmmbefedaaGreatDoorQGA2
import Derived.Lib.ParseIntBTie
namespace Go.Proofs.YthkkllmmbefedaaGreatDoor
set_option maxHeartbeats 16000000
set_option maxRecDepth 100000
def Ct (n:Nat):UInt8:=if n<10 then UInt8.ofNat (48+n) else UInt8.ofNat (87+n)
def Jj (c:UInt8):ByteArray :=
 if c.toNat=34\/c.toNat=92 then ⟨#[92,c]⟩
 else if c.toNat=10 then ⟨#[92,110]⟩
 else if c.toNat<32\/126<c.toNat then ⟨#[92,120,Ct (c.toNat / 16),Ct (c.toNat % 16)]⟩
 else ⟨#[c]⟩
def NV (s:ByteArray):Nat->ByteArray
 | 0=>⟨#[34]⟩
 | k+1=>NV s k++Jj (s.data.getD k 0)
def Lr (s:ByteArray):ByteArray:=NV s s.size++⟨#[34]⟩
theorem vL (c:UInt8):(Jj c).size<=4:=by
 unfold Jj
 split
 ·show 2<=4;omega
 ·split
  ·show 2<=4;omega
  ·split
   ·exact AAF _
   ·show 1<=4;omega
theorem jT (s:ByteArray):∀k,(NV s k).size<=4 * k+1
 | 0=>AAF _
 | k+1=>by
  have h:=jT s k;have:=vL (s.data.getD k 0);unfold NV;rw[AAH]
  omega
variable {k m:Nat}
theorem jR (s:ByteArray) (h:k<=m):(NV s k).size<=(NV s m).size:=by
 induction m with
 | zero=>rw[Nat.le_zero.1 h];exact AAF _
 | succ m ih =>
  rcases Nat.lt_or_ge k (m+1) with h1|h1
  ·have:=ih (by omega)
   rw[NV,AAH]
   omega
  ·rw[Nat.le_antisymm h h1];exact AAF _
theorem Xb (s:ByteArray):(Lr s).size<=4 * s.size+2:=by
 have:=jT s s.size;unfold Lr;rw[AAH]
 show _+1<=_
 omega
def EL (f:Nat->ByteArray):Nat->ByteArray
 | 0=>⟨#[]⟩
 | k+1=>EL f k++(if k=0 then ⟨#[]⟩ else ⟨#[44,32]⟩)++f k
def Fv (l:List ByteArray):ByteArray:=EL (fun i=>l.getD i ⟨#[]⟩) l.length
theorem dO (f:Nat->ByteArray) (h:k<=m):(EL f k).size<=(EL f m).size:=by
 induction m with
 | zero=>rw[Nat.le_zero.1 h];exact AAF _
 | succ m ih =>
  rcases Nat.lt_or_ge k (m+1) with h1|h1
  ·have:=ih (by omega)
   rw[EL,AAH,AAH]
   omega
  ·rw[Nat.le_antisymm h h1];exact AAF _
theorem dN (f:Nat->ByteArray) (h:k<m):(EL f k).size+(if k=0 then (⟨#[]⟩:ByteArray) else ⟨#[44,32]⟩).size+(f k).size<=(EL f m).size:=by
 have:=dO f (show k+1<=m by omega)
 rw[EL,AAH,AAH] at this;exact this
def LU (f:Int->Val->ByteArray) (p:Ac×Val):ByteArray:=p.1.name++⟨#[58,32]⟩++f p.1.type p.2
def NR (r:Af):ByteArray:=Ch r.id++⟨#[58,32]⟩++Lr r.data
def Qs (f g:Val->ByteArray) (p:Val×Val):ByteArray:=f p.1++⟨#[32,45,62,32]⟩++g p.2
def Bg (f:Int->Val->ByteArray) (x:Aa) (v:Val):ByteArray :=
 if x.kind=1 then (if v.bool then ⟨#[116,114,117,101]⟩ else ⟨#[102,97,108,115,101]⟩)
 else if x.kind=2 then Ch v.int
 else if x.kind=3 then Lr v.str
 else if x.kind=4 then (match x.AX.find? fun y=>decide (y.id=v.id) with
  | some y=>y.name
  | none=>⟨#[64]⟩++Ch v.id)
 else if x.kind=5 then ⟨#[123]⟩++Fv ((x.AA.zip v.items).map (LU f)++v.rest.map NR)++⟨#[125]⟩
 else if x.kind=6 then (match x.AA.find? fun m=>decide (m.id=v.id) with
  | some m=>m.name++⟨#[40]⟩++(match v.items with|y::_=>f m.type y | []=>⟨#[]⟩)
  | none=>⟨#[64]⟩++Ch v.id++⟨#[40]⟩++(match v.rest with|r::_=>Lr r.data | []=>⟨#[]⟩))++⟨#[41]⟩
 else if x.kind=7 then ⟨#[91]⟩++Fv (v.items.map (f x.elem))++⟨#[93]⟩
 else if x.kind=8 then ⟨#[91]⟩++(if v.keys.length=0 then ⟨#[45,62]⟩ else ⟨#[]⟩)++Fv ((v.keys.zip v.items).map (Qs (f x.key) (f x.elem)))++⟨#[93]⟩
 else (match v.items with
  | []=>⟨#[110,111,110,101]⟩
  | y::_=>⟨#[115,111,109,101,40]⟩++f x.elem y++⟨#[41]⟩)
def Ae (s:List Aa):Nat->Int->Val->ByteArray
 | 0,_,_=>⟨#[]⟩
 | n+1,t,v=>Bg (Ae s n) (AO s t) v
noncomputable def LX (s:List Aa) (t:Int) (v:Val):ByteArray:=Ae s (SizeOf.sizeOf v) t v
structure AJ where
 kind:Int
 text:ByteArray
 int:Int
 str:ByteArray
 line:Int
 deriving DecidableEq
def BM (c:UInt8):Bool:=Dn c.toNat
def zZ (c:UInt8):Bool:=FX c.toNat
def Bh:List UInt8->Nat
 | []=>0
 | c::r=>if BM c||zZ c then Bh r+1 else 0
def Dh:List UInt8->Nat
 | []=>0
 | c::r=>if zZ c then Dh r+1 else 0
def Va (c:UInt8):Option Nat:=if 48<=c.toNat/\c.toNat<=57 then some (c.toNat - 48) else if 97<=c.toNat/\c.toNat<=102 then some (c.toNat - 87) else none
def YB:List UInt8->Option (UInt8×Nat)
 | []=>none
 | d::q =>
  if d.toNat=34\/d.toNat=92 then some (d,1)
  else if d.toNat=110 then some (10,1)
  else if d.toNat=120 then
   match q with
   | a::b::_ =>
    match Va a,Va b with
    | some x,some y=>if (16 * x+y<32\/126<16 * x+y)/\16 * x+y≠10 then some (UInt8.ofNat (16 * x+y),3) else none
    | _,_=>none
   | _=>none
  else none
def EH:List UInt8->Option (UInt8×Nat)
 | []=>none
 | c::r=>if c.toNat=92 then (YB r).map fun p=>(p.1,p.2+1) else if c.toNat<32\/126<c.toNat then none else some (c,1)
def Qo:Nat->List UInt8->Option (List UInt8×Nat)
 | 0,_=>none
 | _+1,[]=>none
 | n+1,c::r=>if c.toNat=34 then some ([],1) else
  match EH (c::r) with
  | none=>none
  | some (b,k)=>(Qo n ((c::r).drop k)).map fun p=>(b::p.1,p.2+k)
def I5 (l:List UInt8):Option (List UInt8×Nat):=Qo l.length l
def F9 (t:List UInt8):Option Int :=
 match Lib.parseIntB 64 t with
 | .ok v=>if Lib.itoa v=t then some v else none
 | _=>none
def Ck:List UInt8->Option Nat
 | []=>none
 | c::r =>
  if c.toNat=45/\(r.headD 0).toNat=62 then some 2
  else if c.toNat=46/\(r.headD 0).toNat=46 then some 2
  else if c.toNat=123\/c.toNat=125\/c.toNat=40\/c.toNat=41\/c.toNat=91\/c.toNat=93\/c.toNat=44\/c.toNat=59\/c.toNat=58\/c.toNat=61\/c.toNat=46\/c.toNat=33\/c.toNat=63\/c.toNat=64\/c.toNat=42\/c.toNat=124 then some 1
  else none
def bA (l:List UInt8):ByteArray:=⟨l.toArray⟩
def CP:List UInt8->Option (AJ×Nat)
 | []=>none
 | c::r =>
  if BM c then (if Bh (c::r)<=24 then some (⟨1,bA ((c::r).take (Bh (c::r))),0,⟨#[]⟩,0⟩,Bh (c::r)) else none)
  else if zZ c||(decide (c.toNat=45)&&zZ (r.headD 0)) then (F9 ((c::r).take (1+Dh r))).map fun v=>(⟨2,⟨#[]⟩,v,⟨#[]⟩,0⟩,1+Dh r)
  else if c.toNat=34 then (I5 r).map fun p=>(⟨3,⟨#[]⟩,0,bA p.1,0⟩,p.2+1)
  else (Ck (c::r)).map fun n=>(⟨4,bA ((c::r).take n),0,⟨#[]⟩,0⟩,n)
def DN:List UInt8->List UInt8
 | []=>[]
 | c::r=>if c.toNat=10 then c::r else DN r
def JE:Nat->Int->List UInt8->Except Int (List AJ)
 | _,_,[] => .ok []
 | 0,_,_::_ => .ok []
 | n+1,ln,c::r =>
  if c.toNat=10 then JE n (ln+1) r
  else if c.toNat=32\/c.toNat=9 then JE n ln r
  else if c.toNat=47/\(r.headD 0).toNat=47 then JE n ln (DN r)
  else match CP (c::r) with
   | none => .error ln
   | some (t,k)=>(JE n ln ((c::r).drop k)).map fun o=>{ t with line:=ln }::o
def Ap (ln:Int) (l:List UInt8):Except Int (List AJ):=JE l.length ln l
variable {c:UInt8}
theorem Zb {x:Nat} (h:Va c=some x):x<16:=by
 unfold Va at h
 split at h
 ·injection h with h;omega
 ·split at h
  ·injection h with h;omega
  ·cases h
theorem Jp:∀l,Bh l<=l.length
 | []=>AAF _
 | c::r=>by
  have:=Jp r;rw[Bh];split
  ·rw[AAI];omega
  ·exact Nat.zero_le _
theorem J2:∀l,Dh l<=l.length
 | []=>AAF _
 | c::r=>by
  have:=J2 r;rw[Dh];split
  ·rw[AAI];omega
  ·exact Nat.zero_le _
variable {l:List UInt8}
theorem qy {b:UInt8} (h:YB l=some (b,k)):1<=k/\k<=l.length/\k<=3:=by
 unfold YB at h
 split at h
 ·cases h
 ·rename_i d q
  split at h
  ·injection h with h;injection h with _ h;subst h;simp
  ·split at h
   ·injection h with h;injection h with _ h;subst h;simp
   ·split at h
    ·split at h
     ·split at h
      ·split at h
       ·injection h with h;injection h with _ h;subst h;simp
       ·cases h
      ·cases h
     ·cases h
    ·cases h
theorem Jk {b:UInt8} (h:EH l=some (b,k)):1<=k/\k<=l.length:=by
 unfold EH at h
 split at h
 ·cases h
 ·rename_i c r
  split at h
  ·rw[ABc] at h
   obtain ⟨⟨b',k'⟩,h1,h2⟩:=h;have:=qy h1
   injection h2 with _ h2
   simp only at h2;rw[AAI];omega
  ·split at h
   ·cases h
   ·injection h with h;injection h with _ h;subst h;simp
theorem Y5:∀ (n:Nat) (l:List UInt8) (o:List UInt8) (k:Nat),Qo n l=some (o,k)->1<=k/\k<=l.length/\o.length<k
 | 0,_,_,_,h=>by cases h
 | n+1,[],_,_,h=>by cases h
 | n+1,c::r,o,k,h=>by
  rw[Qo] at h
  split at h
  ·injection h with h;injection h with h1 h2;subst h1 h2;simp
  ·split at h
   ·cases h
   ·rename_i b j hp
    rw[ABc] at h;obtain ⟨⟨o',k'⟩,h1,h2⟩:=h;have ih:=Y5 n _ _ _ h1;have:=Jk hp
    injection h2 with h2 h3
    simp only at h2 h3;subst h2 h3;rw[AA8] at ih;simp only[AAI] at *
    omega
theorem NU:∀ (n:Nat) (l:List UInt8),l.length<=n->Qo n l=Qo l.length l
 | 0,l,h=>by rw[AAn (Nat.le_zero.1 h)];rfl
 | _+1,[],_=>by rw[Qo];rfl
 | n+1,c::r,h=>by
  rw[AAI,Qo,Qo]
  split
  ·rfl
  ·split
   ·rfl
   ·rename_i b k hp
    have:=Jk hp;have hd:((c::r).drop k).length<=r.length:=by rw[AA8,AAI];omega
    rw[NU n _ (by rw[AAI] at h;omega),NU r.length _ hd]
termination_by _ l=>l.length
decreasing_by
 all_goals (rw[AA8,AAI] at *;omega)
theorem U0:I5 []=none:=rfl
theorem GU (c:UInt8) (r:List UInt8):I5 (c::r)=if c.toNat=34 then some ([],1) else
  match EH (c::r) with
  | none=>none
  | some (b,k)=>(I5 ((c::r).drop k)).map fun p=>(b::p.1,p.2+k):=by
 unfold I5;rw[AAI,Qo]
 split
 ·rfl
 ·split
  ·rfl
  ·rename_i b k hp
   have:=Jk hp;rw[NU r.length _ (by rw[AA8,AAI];omega)]
theorem Y4 {o:List UInt8} (h:I5 l=some (o,k)):1<=k/\k<=l.length/\o.length<k:=Y5 _ _ _ _ h
variable {n:Nat}
theorem Oy (h:Ck l=some n):1<=n/\n<=l.length/\n<=2:=by
 unfold Ck at h
 split at h
 ·cases h
 ·rename_i c r
  have hr:∀m:Nat,(r.headD 0).toNat=m+1->2<=(c::r).length:=fun m hm=>by
   cases r with
   | nil=>simp at hm
   | cons d q=>simp
  split at h
  ·rename_i hc
   injection h with h;subst h
   exact ⟨by omega,hr _ hc.2,by omega⟩
  ·split at h
   ·rename_i hc
    injection h with h;subst h
    exact ⟨by omega,hr _ hc.2,by omega⟩
   ·split at h
    ·injection h with h;subst h;simp
    ·cases h
theorem Ir {t:AJ} (h:CP l=some (t,k)):1<=k/\k<=l.length:=by
 unfold CP at h
 split at h
 ·cases h
 ·rename_i c r
  split at h
  ·rename_i hc
   split at h
   ·injection h with h;injection h with _ h;subst h
    refine ⟨?_,Jp _⟩;rw[Bh,hc,Bool.true_or,AAB rfl];omega
   ·cases h
  ·split at h
   ·rw[ABc] at h
    obtain ⟨v,_,h⟩:=h
    injection h with _ h;subst h
    have:=J2 r;rw[AAI];omega
   ·split at h
    ·rw[ABc] at h
     obtain ⟨⟨o,j⟩,h1,h⟩:=h
     injection h with _ h;subst h
     have:=Y4 h1;rw[AAI];simp only;omega
    ·rw[ABc] at h
     obtain ⟨n,h1,h⟩:=h
     injection h with _ h;subst h
     have:=Oy h1;exact ⟨this.1,this.2.1⟩
theorem Gf:∀l,(DN l).length<=l.length
 | []=>AAF _
 | c::r=>by
  have:=Gf r;rw[DN];split
  ·exact AAF _
  ·rw[AAI];omega
theorem Dj:∀ (n:Nat) (ln:Int) (l:List UInt8),l.length<=n->JE n ln l=JE l.length ln l
 | 0,ln,l,h=>by rw[AAn (Nat.le_zero.1 h)];rfl
 | _+1,_,[],_=>by rw[JE,JE]
 | n+1,ln,c::r,h=>by
  have hn:r.length<=n:=by rw[AAI] at h;omega
  rw[AAI,JE,JE]
  split
  ·exact Dj n _ r hn
  ·split
   ·exact Dj n _ r hn
   ·split
    ·have:=Gf r
     rw[Dj n _ _ (by omega),Dj r.length _ _ this]
    ·split
     ·rfl
     ·rename_i t k hp
      have:=Ir hp;have hd:((c::r).drop k).length<=r.length:=by rw[AA8,AAI];omega
      rw[Dj n _ _ (by omega),Dj r.length _ _ hd]
termination_by _ _ l=>l.length
decreasing_by
 all_goals (first|(rw[AA8,AAI] at *;omega)|(have:=Gf r;simp only[AAI];omega))
theorem IE (ln:Int):Ap ln [] = .ok []:=rfl
theorem BO (ln:Int) (c:UInt8) (r:List UInt8):Ap ln (c::r) =
  if c.toNat=10 then Ap (ln+1) r
  else if c.toNat=32\/c.toNat=9 then Ap ln r
  else if c.toNat=47/\(r.headD 0).toNat=47 then Ap ln (DN r)
  else match CP (c::r) with
   | none => .error ln
   | some (t,k)=>(Ap ln ((c::r).drop k)).map fun o=>{ t with line:=ln }::o:=by
 unfold Ap;rw[AAI,JE]
 split
 ·rfl
 ·split
  ·rfl
  ·split
   ·rw[Dj r.length _ _ (Gf r)]
   ·split
    ·rfl
    ·rename_i t k hp
     have:=Ir hp;rw[Dj r.length _ _ (by rw[AA8,AAI];omega)]
theorem Rs (h:n<16):Va (Ct n)=some n:=by
 have:∀m:Fin 16,Va (Ct m.1)=some m.1:=by decide
 exact this ⟨n,h⟩
theorem Ru {x:Nat} (h:Va c=some x):Ct x=c:=by
 unfold Va at h;have hc:=c.toNat_lt
 split at h
 ·rename_i hr
  injection h with h;subst h
  unfold Ct;rw[AAB (by omega)]
  apply UInt8.toNat_inj.1
  rw[UInt8.toNat_ofNat'];omega
 ·split at h
  ·injection h with h;subst h
   unfold Ct;rw[Pd (by omega)]
   apply UInt8.toNat_inj.1
   rw[UInt8.toNat_ofNat'];omega
  ·cases h
def Dm (c:UInt8):List UInt8 :=
 if c.toNat=34\/c.toNat=92 then [92,c]
 else if c.toNat=10 then [92,110]
 else if c.toNat<32\/126<c.toNat then [92,120,Ct (c.toNat / 16),Ct (c.toNat % 16)]
 else [c]
theorem P5 (c:UInt8):(Jj c).data.toList=Dm c:=by
 unfold Jj Dm
 repeat' split
 all_goals rfl
theorem U3 (c:UInt8):(Jj c).size=(Dm c).length:=by rw[<-P5];rfl
variable {d:UInt8}
theorem Cn (h:c.toNat=d.toNat):c=d:=UInt8.toNat_inj.1 h
theorem ZB (b:UInt8) (l:List UInt8) (h:Dm b <+: l) (hq:∀c r,l=c::r->c.toNat≠34):EH l=some (b,(Dm b).length):=by
 obtain ⟨r,rfl⟩:=h;unfold Dm at *
 split at hq
 ·rename_i h1
  rw[AAB h1]
  show EH (92::b::r)=_
  rw[EH,AAB (show (92:UInt8).toNat=92 from rfl)];unfold YB;simp only[AAB h1];rfl
 ·rename_i h1
  rw[Pd h1]
  split at hq
  ·rename_i h2
   rw[AAB h2]
   show EH (92::110::r)=_
   rw[EH,AAB (show (92:UInt8).toNat=92 from rfl)];unfold YB;simp only[];rw[Pd (by decide),AAB (show (110:UInt8).toNat=110 from rfl)]
   rw[show b=10 from Cn h2];rfl
  ·rename_i h2
   rw[Pd h2]
   split at hq
   ·rename_i h3
    rw[AAB h3];have hb:=b.toNat_lt
    show EH (92::120::Ct (b.toNat / 16)::Ct (b.toNat % 16)::r)=_
    rw[EH,AAB (show (92:UInt8).toNat=92 from rfl),YB,Pd (by decide),Pd (by decide),AAB (show (120:UInt8).toNat=120 from rfl)]
    simp only[Rs (show b.toNat / 16<16 by omega),Rs (show b.toNat % 16<16 by omega)]
    rw[AAB (by omega)]
    have e:UInt8.ofNat (16 * (b.toNat / 16)+b.toNat % 16)=b:=by
     apply Cn
     rw[UInt8.toNat_ofNat'];omega
    rw[e];rfl
   ·rename_i h3
    rw[Pd h3]
    show EH (b::r)=_
    rw[EH,Pd (by omega),Pd h3];rfl
theorem TF {b:UInt8} (h:EH l=some (b,k)) (hq:∀c r,l=c::r->c.toNat≠34):Dm b <+: l/\k=(Dm b).length:=by
 unfold EH at h
 split at h
 ·cases h
 ·rename_i c r
  have Wl:=hq c r rfl
  split at h
  ·rename_i hc
   rw[show c=92 from Cn hc];rw[ABc] at h;obtain ⟨⟨b',k'⟩,h1,h2⟩:=h
   injection h2 with h2 h3
   simp only at h2 h3;subst h2 h3;unfold YB at h1
   split at h1
   ·cases h1
   ·rename_i d q
    split at h1
    ·rename_i hd
     injection h1 with h1;injection h1 with h1 h2;subst h1 h2
     unfold Dm;rw[AAB hd];exact ⟨⟨q,rfl⟩,rfl⟩
    ·rename_i hd
     split at h1
     ·rename_i hd2
      injection h1 with h1;injection h1 with h1 h2;subst h1 h2
      rw[show d=110 from Cn hd2];exact ⟨⟨q,rfl⟩,rfl⟩
     ·split at h1
      ·rename_i hd3
       rw[show d=120 from Cn hd3]
       split at h1
       ·rename_i a b2 q2
        split at h1
        ·rename_i x y hx hy
         split at h1
         ·rename_i hr
          injection h1 with h1;injection h1 with h1 h2
          have hx16:=Zb hx;have AGS:=Zb hy;have hbv:b'.toNat=16 * x+y:=by rw[<-h1,UInt8.toNat_ofNat'];omega
          subst h2;unfold Dm;rw[Pd (by omega),Pd (by omega),AAB (by omega)]
          rw[show b'.toNat / 16=x by omega,show b'.toNat % 16=y by omega,Ru hx,Ru hy]
          exact ⟨⟨q2,rfl⟩,rfl⟩
         ·cases h1
        ·cases h1
       ·cases h1
      ·cases h1
  ·rename_i hc
   split at h
   ·cases h
   ·rename_i hr
    injection h with h;injection h with h1 h2;subst h1 h2
    unfold Dm;rw[Pd (by omega),Pd (by omega),Pd hr]
    exact ⟨⟨r,rfl⟩,rfl⟩
theorem Gq:∀ (u:Nat) (b:UInt8),b∈Lib.decDigits u->48<=b.toNat/\b.toNat<=57:=by
 intro u
 induction u using Nat.strongRecOn with
 | _ u ih =>
  intro b hb
  rw[Lib.decDigits] at hb
  split at hb
  ·rw[List.mem_singleton] at hb
   subst hb;rw[UInt8.toNat_ofNat']
   omega
  ·rw[ABY,List.mem_singleton] at hb
   rcases hb with hb|hb
   ·exact ih (u / 10) (by omega) b hb
   ·subst hb
    rw[UInt8.toNat_ofNat']
    omega
theorem DZ (u:Nat):Lib.decDigits u≠[]:=by
 rw[Lib.decDigits];split <;> simp
theorem I7 {d:Nat} (h:d<10):(UInt8.ofNat (48+d)).toNat=48+d:=by
 rw[UInt8.toNat_ofNat'];omega
theorem JF (M:Nat) (c:UInt8):∀ (l:List UInt8) (acc u:Nat),Lib.parseUintM M acc l = .ok u->Lib.parseUintM M acc (l++[c])=Lib.parseUintM M u [c]
 | [],acc,u,h=>by
  rw[Lib.parseUintM] at h
  injection h with h
  subst h;rfl
 | b::r,acc,u,h=>by
  rw[Lib.parseUintM] at h;rw[AAs,Lib.parseUintM]
  split at h
  ·rename_i h1
   rw[AAB h1]
   split at h
   ·cases h
   ·rename_i h2
    rw[Pd h2]
    split at h
    ·cases h
    ·rename_i h3
     rw[Pd h3];exact JF M c r _ u h
  ·cases h
theorem Jl:∀ (u:Nat),u<=18446744073709551615->Lib.parseUintM 18446744073709551615 0 (Lib.decDigits u) = .ok u:=by
 intro u
 induction u using Nat.strongRecOn with
 | _ u ih =>
  intro hu
  rw[Lib.decDigits]
  split
  ·rename_i h
   have e:=I7 h;rw[Lib.parseUintM,e,AAB (by omega),Pd (by omega),Pd (by omega),Lib.parseUintM]
   congr 1;omega
  ·rw[JF _ _ _ _ _ (ih (u / 10) (by omega) (by omega))]
   have e:=I7 (show u % 10<10 by omega)
   rw[Lib.parseUintM,e,AAB (by omega),Pd (by omega),Pd (by omega),Lib.parseUintM]
   congr 1;omega
theorem P7 {v:Int} (h1:-9223372036854775808<=v) (h2:v<=9223372036854775807):Lib.parseIntB 64 (Lib.itoa v) = .ok v:=by
 have e:(2 ^ 64 - 1:Nat)=18446744073709551615:=by decide
 have e2:(2 ^ (64 - 1):Nat)=9223372036854775808:=by decide
 by_cases hn:v<0
 ·have hv:v = -(v.natAbs:Int):=by omega
  rw[hv,Lib.itoa_neg _ (by omega),Lib.parseIntB_minus,e2]
  unfold Lib.parseUintB;rw[Pd (DZ _),e,Jl _ (by omega)]
  show (if 9223372036854775808<v.natAbs then _ else _)=_
  rw[Pd (by omega)]
 ·have hv:v=(v.toNat:Int):=by omega
  rw[hv,Lib.itoa_nonneg]
  cases hd:Lib.decDigits v.toNat with
  | nil=>exact absurd hd (DZ _)
  | cons c r =>
   have hm:=Gq v.toNat c (by rw[hd];exact ABT ..)
   rw[Lib.parseIntB_plain _ _ _ (by omega) (by omega),<-hd,e2]
   unfold Lib.parseUintB;rw[Pd (DZ _),e,Jl _ (by omega)]
   show (if 9223372036854775808<=v.toNat then _ else _)=_
   rw[Pd (by omega)]
theorem MU {t:List UInt8} {v:Int}:F9 t=some v↔(-9223372036854775808<=v/\v<=9223372036854775807)/\Lib.itoa v=t:=by
 have e2:(2 ^ (64 - 1):Nat)=9223372036854775808:=by decide
 unfold F9
 constructor
 ·intro h
  split at h
  ·rename_i u hu
   split at h
   ·rename_i hi
    injection h with h;subst h
    have:=Lib.parseIntB_bounds hu;rw[e2] at this;exact ⟨⟨by omega,by omega⟩,hi⟩
   ·cases h
  ·cases h
 ·rintro ⟨⟨h1,h2⟩,rfl⟩
  rw[P7 h1 h2];simp
def Ml (sg a:Int):List UInt8->Int
 | []=>a
 | c::r=>Ml sg (10 * a+sg * ((c.toNat:Int) - 48)) r
theorem Ib (sg:Int) (c:UInt8):∀ (l:List UInt8) (a:Int),Ml sg a (l++[c])=10 * Ml sg a l+sg * ((c.toNat:Int) - 48)
 | [],_=>rfl
 | b::r,a=>by rw[AAs,Ml,Ml,Ib sg c r]
theorem V4 (sg:Int):∀ (u:Nat),Ml sg 0 (Lib.decDigits u)=sg * u:=by
 intro u
 induction u using Nat.strongRecOn with
 | _ u ih =>
  rw[Lib.decDigits]
  split
  ·rename_i h
   rw[Ml,Ml,I7 h];rw[show ((48+u:Nat):Int) - 48=u by omega]
   omega
  ·rw[Ib,ih (u / 10) (by omega),I7 (show u % 10<10 by omega)]
   rw[show ((48+u % 10:Nat):Int) - 48=((u % 10:Nat):Int) by omega]
   have h1:(u:Int)=10 * ((u / 10:Nat):Int)+((u % 10:Nat):Int):=by omega
   generalize ((u / 10:Nat):Int)=a at *;generalize ((u % 10:Nat):Int)=b at *;rw[h1,Int.mul_add,Int.mul_left_comm]
def XV (t:List UInt8):Int:=match t with
 | []=>0
 | c::r=>if c.toNat=45 then Ml (-1) 0 r else Ml 1 0 (c::r)
theorem ah (v:Int):XV (Lib.itoa v)=v:=by
 by_cases hn:v<0
 ·have hv:v = -(v.natAbs:Int):=by omega
  rw[hv,Lib.itoa_neg _ (by omega)]
  unfold XV;simp only;rw[AAB (show (45:UInt8).toNat=45 from rfl),V4];omega
 ·have hv:v=(v.toNat:Int):=by omega
  rw[hv,Lib.itoa_nonneg]
  cases hd:Lib.decDigits v.toNat with
  | nil=>exact absurd hd (DZ _)
  | cons c r =>
   have hm:=Gq v.toNat c (by rw[hd];exact ABT ..)
   unfold XV;simp only;rw[Pd (by omega),<-hd,V4];omega
theorem VT {t:List UInt8} {n k:Int} (h1:-9223372036854775808<=n) (h2:n<=9223372036854775807) (hk:n=XV t+18446744073709551616 * k) :
  F9 t=if Lib.itoa n=t then some n else none:=by
 split
 ·rename_i h
  exact MU.2 ⟨⟨h1,h2⟩,h⟩
 ·rename_i h
  cases hi:F9 t with
  | none=>rfl
  | some v =>
   obtain ⟨⟨g1,g2⟩,g3⟩:=MU.1 hi;have:XV t=v:=by rw[<-g3,ah]
   have hnv:n=v:=by omega
   exact absurd (by rw[hnv];exact g3) h
def Ao:List (List UInt8):=[[45,62],[46,46],[123],[125],[40],[41],[91],[93],[44],[59],[58],[61],[46],[33],[63],[64],[42],[124]]
variable {r:List UInt8}
theorem II (h:(c.toNat=45/\d.toNat=62)\/(c.toNat=46/\d.toNat=46)):Ck (c::d::r)=some 2:=by
 rw[Ck]
 rcases h with h|h
 ·rw[AAB (show c.toNat=45/\((d::r).headD 0).toNat=62 from h)]
 ·rw[Pd (fun hc:c.toNat=45/\_=>by have:=hc.1;omega),AAB (show c.toNat=46/\((d::r).headD 0).toNat=46 from h)]
def Na (n:Nat):Prop:=n=123\/n=125\/n=40\/n=41\/n=91\/n=93\/n=44\/n=59\/n=58\/n=61\/n=46\/n=33\/n=63\/n=64\/n=42\/n=124
theorem Pk (h:¬ (c.toNat=45/\(r.headD 0).toNat=62)) (h2:¬ (c.toNat=46/\(r.headD 0).toNat=46)) (h3:Na c.toNat):Ck (c::r)=some 1:=by
 rw[Ck,Pd h,Pd h2];exact AAB h3
theorem Yx (h:¬ (c.toNat=45/\(r.headD 0).toNat=62)) (h2:¬ (c.toNat=46/\(r.headD 0).toNat=46)) (h3:¬ Na c.toNat):Ck (c::r)=none:=by
 rw[Ck,Pd h,Pd h2];exact Pd h3
theorem MW {x y:UInt8} (hy:y.toNat≠0) (h:¬ [x,y] <+: c::r):¬ (c.toNat=x.toNat/\(r.headD 0).toNat=y.toNat):=by
 rintro ⟨h1,h2⟩
 cases r with
 | nil=>exact hy (by rw[<-h2];rfl)
 | cons d q =>
  rw[List.headD_cons] at h2;exact h ⟨q,by rw[Cn h1,Cn h2];rfl⟩
theorem aN {i:Nat} (hi:i<Ao.length) (hp:Ao[i] <+: l) (hn:∀j (hj:j<i),¬ Ao[j]'(Nat.lt_trans hj hi) <+: l):
  Ck l=some Ao[i].length/\l.take Ao[i].length=Ao[i]:=by
 refine ⟨?_,(List.prefix_iff_eq_take.1 hp).symm⟩;obtain ⟨r,rfl⟩:=hp
 by_cases i0:i=0
 ·subst i0;exact II (Or.inl ⟨rfl,rfl⟩)
 by_cases i1:i=1
 ·subst i1;exact II (Or.inr ⟨rfl,rfl⟩)
 have n0:=hn 0 (by omega)
 have n1:=hn 1 (by omega)
 have hT:∀k:Fin 18,2<=k.1->Ao[k.1]'(k.2)=[(Ao[k.1]'(k.2)).headD 0]/\Na ((Ao[k.1]'(k.2)).headD 0).toNat:=by
  unfold Na
  decide
 obtain ⟨hc,h1⟩:=hT ⟨i,hi⟩ (by simp only;omega)
 generalize (Ao[(⟨i,hi⟩:Fin 18).1]'(⟨i,hi⟩:Fin 18).2).headD 0=c at hc h1;have hc2:Ao[i]=[c]:=hc;clear hT hn;rw[hc2] at n0 n1 ⊢;exact Pk (MW (x:=45) (y:=62) (by decide) n0) (MW (x:=46) (y:=46) (by decide) n1) h1
theorem iR (hn:∀j (hj:j<Ao.length),¬ Ao[j] <+: l):Ck l=none:=by
 cases l with
 | nil=>rfl
 | cons c r =>
  refine Yx (MW (x:=45) (y:=62) (by decide) (hn 0 (by decide))) (MW (x:=46) (y:=46) (by decide) (hn 1 (by decide))) fun h=>?_
  have hT:∀d:UInt8,Na d.toNat->∃k:Fin 18,Ao[k.1]'(k.2)=[d]:=fun d hd=>by
   have:∀n:Nat,Na n->∃k:Fin 18,Ao[k.1]'(k.2)=[UInt8.ofNat n]:=fun n hn=>by
    unfold Na at hn
    rcases hn with h|h|h|h|h|h|h|h|h|h|h|h|h|h|h|h <;> subst h <;> decide
   have:=this _ hd
   rwa [UInt8.ofNat_toNat] at this
  obtain ⟨k,hk⟩:=hT c h;exact hn k.1 k.2 (by rw[hk];exact ⟨r,rfl⟩)
theorem aL:∀x∈Ao,x.length=1\/x.length=2:=by decide
theorem Yu:[c,d]∈Ao↔Ck (c::d::r)=some 2:=by
 constructor
 ·intro h
  have:∀x∈Ao,∀a b,x=[a,b]->(a.toNat=45/\b.toNat=62)\/(a.toNat=46/\b.toNat=46):=by
   intro x hx a b e
   subst e;simp only[Ao,ABP,List.cons.injEq,and_true,reduceCtorEq,and_false,or_false,List.not_mem_nil] at hx
   rcases hx with ⟨rfl,rfl⟩|⟨rfl,rfl⟩
   ·exact Or.inl ⟨rfl,rfl⟩
   ·exact Or.inr ⟨rfl,rfl⟩
  exact II (this _ h c d rfl)
 ·intro h
  rw[Ck] at h
  split at h
  ·rename_i hc
   rw[show c=45 from Cn hc.1,show d=62 from Cn hc.2];decide
  ·split at h
   ·rename_i hc
    rw[show c=46 from Cn hc.1,show d=46 from Cn hc.2];decide
   ·split at h
    ·cases h
    ·cases h
theorem Yv (h2:Ck (c::r)≠some 2):[c]∈Ao↔Ck (c::r)=some 1:=by
 constructor
 ·intro h
  have h3:Na c.toNat:=by
   simp only[Ao,ABP,List.cons.injEq,and_true,reduceCtorEq,and_false,or_false,false_or,List.not_mem_nil] at h;unfold Na
   rcases h with h|h|h|h|h|h|h|h|h|h|h|h|h|h|h|h <;> subst h <;> decide
  refine Pk (fun hc=>h2 ?_) (fun hc=>h2 ?_) h3
  ·cases r with
   | nil=>exact absurd hc.2 (by decide)
   | cons d q=>exact II (Or.inl hc)
  ·cases r with
   | nil=>exact absurd hc.2 (by decide)
   | cons d q=>exact II (Or.inr hc)
 ·intro h
  rw[Ck] at h
  split at h
  ·cases h
  ·split at h
   ·cases h
   ·split at h
    ·rename_i hd
     have:∀n:Nat,Na n->[UInt8.ofNat n]∈Ao:=fun n hn=>by
      unfold Na at hn
      rcases hn with h|h|h|h|h|h|h|h|h|h|h|h|h|h|h|h <;> subst h <;> decide
     have:=this _ hd
     rwa [UInt8.ofNat_toNat] at this
    ·cases h
theorem XE {l:List UInt8}:Ck l=none\/Ck l=some 1\/Ck l=some 2:=by
 cases h:Ck l with
 | none=>exact Or.inl rfl
 | some n =>
  have:=Oy h;have:n=1\/n=2:=by omega
  rcases this with rfl|rfl
  ·exact Or.inr (Or.inl rfl)
  ·exact Or.inr (Or.inr rfl)
theorem Ro:∀l:List UInt8,(l.take (Bh l)).all (fun d=>BM d||zZ d)=true
 | []=>rfl
 | c::r=>by
  rw[Bh]
  split
  ·rename_i h
   rw[List.take_succ_cons,List.all_cons,h,Ro r];rfl
  ·rfl
theorem VQ (hn:n<=l.length) (h1:∀i (h:i<l.length),i<n->(BM l[i]||zZ l[i])=true) (h2:∀h:n<l.length,(BM l[n]||zZ l[n])=false):Bh l=n:=by
 induction l generalizing n with
 | nil=>simp at hn;subst hn;rfl
 | cons c r ih =>
  cases n with
  | zero =>
   have:=h2 (by simp)
   rw[Bh,Pd (by simpa using this)]
  | succ n =>
   have:=h1 0 (by simp) (by omega)
   rw[Bh,AAB (by simpa using this)]
   rw[ih (n:=n) (by simpa using hn) (fun i hi hin=>by have:=h1 (i+1) (by simpa using hi) (by omega);simpa using this) (fun h=>by have:=h2 (by simpa using h);simpa using this)]
theorem Vy (hn:n<=l.length) (h1:∀i (h:i<l.length),i<n->zZ l[i]=true) (h2:∀h:n<l.length,zZ l[n]=false):Dh l=n:=by
 induction l generalizing n with
 | nil=>simp at hn;subst hn;rfl
 | cons c r ih =>
  cases n with
  | zero =>
   have:=h2 (by simp)
   rw[Dh,Pd (by simpa using this)]
  | succ n =>
   have:=h1 0 (by simp) (by omega)
   rw[Dh,AAB (by simpa using this)]
   rw[ih (n:=n) (by simpa using hn) (fun i hi hin=>by have:=h1 (i+1) (by simpa using hi) (by omega);simpa using this) (fun h=>by have:=h2 (by simpa using h);simpa using this)]
theorem Xm (h:BM c=true):Bz (bA ((c::r).take (Bh (c::r))))=decide (Bh (c::r)<=24):=by
 have hk:Bh (c::r)=Bh r+1:=by rw[Bh,h,Bool.true_or,AAB rfl]
 have ha:=Ro (c::r);have hl:((c::r).take (Bh (c::r))).length=Bh (c::r):=by rw[List.length_take];exact Nat.min_eq_left (Jp _)
 unfold Bz bA
 show (decide (0<((c::r).take (Bh (c::r))).toArray.size)&&decide (((c::r).take (Bh (c::r))).toArray.size<=24)&&Dn (((((c::r).take (Bh (c::r))).getD 0 0).toNat:Nat):Int)&&((c::r).take (Bh (c::r))).all LA)=_
 rw[List.size_toArray,hl];have h1:((c::r).take (Bh (c::r))).all LA=true:=ha;have h2:((c::r).take (Bh (c::r))).getD 0 0=c:=by rw[hk];rfl
 have h3:Dn ((c.toNat:Nat):Int)=true:=h;have h4:decide (0<Bh (c::r))=true:=by rw[hk];simp
 rw[h1,h2,h3,h4,Bool.true_and,Bool.and_true,Bool.and_true]
abbrev PR (α:Type):=Except Int (α×List AJ×Bool)
def CS (k:Int):List AJ->Except Int (AJ×List AJ)
 | t::l=>if t.kind=k then .ok (t,l) else .error 2
 | [] => .error 2
def Ba (s:ByteArray):List AJ->Bool
 | t::_=>decide (t.kind=4)&&decide (t.text=s)
 | []=>false
def Ay (s:ByteArray) (l:List AJ):Except Int (List AJ):=if Ba s l=true then .ok l.tail else .error 2
def Rq (m:Bool) (n:Int):Int:=if m=true/\(n<0\/1000000<n) then 0 else n
def OP (x:Aa) (n:Int):Bool:=x.AX.any fun y=>decide (y.id=n)
def Eu (m:Bool) (x:Aa) (l:List AJ) (k:Bool):PR Int :=
 if Ba ⟨#[64]⟩ l=true then (CS 2 l.tail).bind fun p =>
  if OP x (Rq m p.1.int)=true then (if m=true then .ok (0,p.2,k) else .ok (Rq m p.1.int,p.2,true)) else .ok (Rq m p.1.int,p.2,k)
 else (CS 1 l).bind fun p =>
  match x.AX.find? fun y=>decide (y.name=p.1.text) with
  | some y => .ok (y.id,p.2,k)
  | none => .error 4
def I4 {α:Type} (part:List AJ->Bool->PR α):Nat->List AJ->Bool->PR (List α)
 | 0,_,_ => .error 0
 | n+1,l,k=>(part l k).bind fun p =>
  if Ba ⟨#[44]⟩ p.2.1=true then (I4 part n p.2.1.tail p.2.2).bind fun q => .ok (p.1::q.1,q.2) else .ok ([p.1],p.2)
section
variable (m:Bool) (f:Int->List AJ->Bool->PR Val)
def IW (x:Aa) (l:List AJ) (k:Bool):PR (List Val) :=
 (Ay ⟨#[91]⟩ l).bind fun l1=>if Ba ⟨#[93]⟩ l1=true then .ok ([],l1.tail,k) else
  (I4 (f x.elem) (l1.length+1) l1 k).bind fun p=>(Ay ⟨#[93]⟩ p.2.1).bind fun l2 => .ok (p.1,l2,p.2.2)
def Dr (x:Aa) (l:List AJ) (k:Bool):PR (Val×Val) :=
 (f x.key l k).bind fun p=>(Ay ⟨#[45,62]⟩ p.2.1).bind fun l1=>(f x.elem l1 p.2.2).bind fun q => .ok ((p.1,q.1),q.2)
def IV (x:Aa) (l:List AJ) (k:Bool):PR (List (Val×Val)) :=
 (Ay ⟨#[91]⟩ l).bind fun l1=>if Ba ⟨#[45,62]⟩ l1=true then (Ay ⟨#[93]⟩ l1.tail).bind fun l2 => .ok ([],l2,k)
  else if Ba ⟨#[93]⟩ l1=true then .error 2
  else (I4 (Dr f x) (l1.length+1) l1 k).bind fun p=>(Ay ⟨#[93]⟩ p.2.1).bind fun l2 => .ok (p.1,l2,p.2.2)
def Hr (x:Aa) (l:List AJ) (k:Bool):PR (List Val) :=
 (CS 1 l).bind fun p=>if p.1.text=⟨#[110,111,110,101]⟩ then .ok ([],p.2,k)
  else if p.1.text=⟨#[115,111,109,101]⟩ then (Ay ⟨#[40]⟩ p.2).bind fun l2=>(f x.elem l2 k).bind fun q=>(Ay ⟨#[41]⟩ q.2.1).bind fun l4 => .ok ([q.1],l4,q.2.2)
  else .error 2
def BU:Bool->List Ac->List AJ->Bool->PR (List Val)
 | _,[],l,k => .ok ([],l,k)
 | first,y::ms,l,k=>(if first=true then .ok l else Ay ⟨#[44]⟩ l).bind fun l0=>(CS 1 l0).bind fun p =>
  if p.1.text=y.name then (Ay ⟨#[58]⟩ p.2).bind fun l2=>(f y.type l2 k).bind fun q=>(BU false ms q.2.1 q.2.2).bind fun r => .ok (q.1::r.1,r.2)
  else .error 4
def D9:Nat->Bool->List AJ->Except Int (List Af×List AJ)
 | 0,_,_ => .error 0
 | n+1,first,l=>if Ba ⟨#[125]⟩ l=true then .ok ([],l) else
  (if first=true then .ok l else Ay ⟨#[44]⟩ l).bind fun l1=>(CS 2 l1).bind fun p=>(Ay ⟨#[58]⟩ p.2).bind fun l3=>(CS 3 l3).bind fun q =>
   (D9 n false q.2).bind fun r => .ok (⟨Rq m p.1.int,q.1.str⟩::r.1,r.2)
def JN (x:Aa) (l:List AJ) (k:Bool):PR (List Val×List Af) :=
 (Ay ⟨#[123]⟩ l).bind fun l1=>(BU f true x.AA l1 k).bind fun p=>(D9 m (p.2.1.length+1) x.AA.isEmpty p.2.1).bind fun q =>
  (Ay ⟨#[125]⟩ q.2).bind fun l2 => .ok ((p.1,q.1),l2,p.2.2)
def FD (x:Aa) (l:List AJ) (k:Bool):PR (Int×List Val×List Af) :=
 if Ba ⟨#[64]⟩ l=true then (CS 2 l.tail).bind fun p=>(Ay ⟨#[40]⟩ p.2).bind fun l2=>(CS 3 l2).bind fun q=>(Ay ⟨#[41]⟩ q.2).bind fun l4 =>
  .ok ((Rq m p.1.int,[],[⟨Rq m p.1.int,q.1.str⟩]),l4,k)
 else (CS 1 l).bind fun p =>
  match x.AA.find? fun y=>decide (y.name=p.1.text) with
  | none => .error 4
  | some y=>(Ay ⟨#[40]⟩ p.2).bind fun l2=>(f y.type l2 k).bind fun q=>(Ay ⟨#[41]⟩ q.2.1).bind fun l4 => .ok ((y.id,[q.1],[]),l4,q.2.2)
def Mi (l:List AJ) (k:Bool):PR Bool :=
 (CS 1 l).bind fun p=>if p.1.text=⟨#[116,114,117,101]⟩ then .ok (true,p.2,k) else if p.1.text=⟨#[102,97,108,115,101]⟩ then .ok (false,p.2,k) else .error 2
def Ci (x:Aa) (l:List AJ) (k:Bool):PR Val :=
 if x.kind=1 then (Mi l k).bind fun p => .ok (.mk 1 p.1 0 ⟨#[]⟩ 0 [] [] [],p.2)
 else if x.kind=2 then (CS 2 l).bind fun p => .ok (.mk 2 false p.1.int ⟨#[]⟩ 0 [] [] [],p.2,k)
 else if x.kind=3 then (CS 3 l).bind fun p => .ok (.mk 3 false 0 p.1.str 0 [] [] [],p.2,k)
 else if x.kind=4 then (Eu m x l k).bind fun p => .ok (.mk 4 false 0 ⟨#[]⟩ p.1 [] [] [],p.2)
 else if x.kind=5 then (JN m f x l k).bind fun p => .ok (.mk 5 false 0 ⟨#[]⟩ 0 [] p.1.1 p.1.2,p.2)
 else if x.kind=6 then (FD m f x l k).bind fun p => .ok (.mk 6 false 0 ⟨#[]⟩ p.1.1 [] p.1.2.1 p.1.2.2,p.2)
 else if x.kind=7 then (IW f x l k).bind fun p => .ok (.mk 7 false 0 ⟨#[]⟩ 0 [] p.1 [],p.2)
 else if x.kind=8 then (IV f x l k).bind fun p => .ok (.mk 8 false 0 ⟨#[]⟩ 0 (p.1.map Prod.fst) (p.1.map Prod.snd) [],p.2)
 else (Hr f x l k).bind fun p => .ok (.mk 9 false 0 ⟨#[]⟩ 0 [] p.1 [],p.2)
end
def Oh (m:Bool) (s:List Aa):Nat->Int->List AJ->Bool->PR Val
 | 0,_,_,_ => .error 0
 | n+1,t,l,k=>Ci m (Oh m s n) (AO s t) l k
def CU (m:Bool) (s:List Aa) (t:Int) (l:List AJ):PR Val:=Oh m s (l.length+1) t l false
theorem zM {α β:Type} (a:α) (g:α->Except Int β):(Except.ok a:Except Int α).bind g=g a:=rfl
theorem DV {α β:Type} (e:Int) (g:α->Except Int β):(Except.error e:Except Int α).bind g = .error e:=rfl
theorem zS {α β:Type} {a:Except Int α} {g:α->Except Int β} {b:β} (h:a.bind g = .ok b):∃x,a = .ok x/\g x = .ok b:=by
 cases a with
 | error e=>cases h
 | ok x=>exact ⟨x,rfl,h⟩
theorem Mj {α β:Type} {a:Except Int α} {g:α->Except Int β} {e:Int} (h:a.bind g = .error e):a = .error e\/∃x,a = .ok x/\g x = .error e:=by
 cases a with
 | error e'=>exact Or.inl (by injection h with h;rw[h])
 | ok x=>exact Or.inr ⟨x,rfl,h⟩
def Lt (a b:List AJ):Prop:=a <:+ b/\a.length<b.length
variable {a b:List AJ}
theorem Lt.Uk (h:Lt a b):a <:+ b:=h.1
theorem Lt.then {c:List AJ} (h:a <:+ b) (h2:Lt b c):Lt a c:=⟨h.trans h2.1,Nat.lt_of_le_of_lt h.length_le h2.2⟩
theorem Lt.then' {c:List AJ} (h:Lt a b) (h2:b <:+ c):Lt a c:=⟨h.1.trans h2,ABa h.2 h2.length_le⟩
theorem Bq {k:Int} {l:List AJ} {t:AJ} {r:List AJ} (h:CS k l = .ok (t,r)):Lt r l/\l=t::r/\t.kind=k:=by
 cases l with
 | nil=>cases h
 | cons u q =>
  rw[CS] at h
  split at h
  ·rename_i hk
   injection h with h;injection h with h1 h2;subst h1 h2
   exact ⟨⟨List.suffix_cons _ _,by simp⟩,rfl,hk⟩
  ·cases h
variable {s:ByteArray}
theorem DR {l:List AJ} (h:Ba s l=true):∃t r,l=t::r/\t.kind=4/\t.text=s:=by
 cases l with
 | nil=>cases h
 | cons t r =>
  rw[Ba,AAD,AAV,AAV] at h;exact ⟨t,r,rfl,h.1,h.2⟩
theorem EJ {l:List AJ} (h:Ba s l=true):Lt l.tail l:=by
 obtain ⟨t,r,rfl,_⟩:=DR h;exact ⟨List.suffix_cons _ _,by simp⟩
theorem zU {l r:List AJ} (h:Ay s l = .ok r):Lt r l/\Ba s l=true/\r=l.tail:=by
 unfold Ay at h
 split at h
 ·rename_i hi
  injection h with h;subst h
  exact ⟨EJ hi,hi,rfl⟩
 ·cases h
def Dec {α:Type} (part:List AJ->Bool->PR α):Prop:=∀l k x r k',part l k = .ok (x,r,k')->Lt r l
section
variable {α:Type} {part part':List AJ->Bool->PR α}
theorem O1 (hp:Dec part):∀ (n:Nat) l k xs r k',I4 part n l k = .ok (xs,r,k')->Lt r l
 | 0,_,_,_,_,_,h=>by cases h
 | n+1,l,k,xs,r,k',h=>by
  rw[I4] at h;obtain ⟨⟨x,l1,k1⟩,h1,h2⟩:=zS h;have g1:=hp _ _ _ _ _ h1;simp only at h2
  split at h2
  ·rename_i hi
   obtain ⟨⟨q,l2,k2⟩,h3,h4⟩:=zS h2
   injection h4 with h4;injection h4 with h4 h5;injection h5 with h5 h6
   subst h5;exact ((O1 hp n _ _ _ _ _ h3).then' (EJ hi).1).then' g1.1
  ·injection h2 with h2;injection h2 with h4 h5;injection h5 with h5 h6
   subst h5;exact g1
theorem Iz (l0:List AJ) (hd:Dec part) (he:∀l k,l <:+ l0->part l k=part' l k):∀ (n n':Nat) l k,l <:+ l0->l.length<n->l.length<n'->I4 part n l k=I4 part' n' l k
 | 0,_,_,_,_,h,_=>absurd h (Nat.not_lt_zero _)
 | _,0,_,_,_,_,h=>absurd h (Nat.not_lt_zero _)
 | n+1,n'+1,l,k,hl,h1,h2=>by
  rw[I4,I4,<-he l k hl]
  cases hp:part l k with
  | error e=>rfl
  | ok p =>
   obtain ⟨x,l1,k1⟩:=p;have g1:=hd _ _ _ _ _ hp;rw[zM,zM];simp only
   split
   ·rename_i hi
    have g2:=EJ hi;have g3:=g2.2;have g4:=g1.2;rw[Iz l0 hd he n n' l1.tail k1 ((g2.1.trans g1.1).trans hl) (by omega) (by omega)]
   ·rfl
end
theorem Lt.trans {c:List AJ} (h:Lt a b) (h2:Lt b c):Lt a c:=h.then' h2.1
section
variable {m:Bool} {f g:Int->List AJ->Bool->PR Val}
theorem Jy (hf:∀t,Dec (f t)) (x:Aa):Dec (Dr f x):=fun l k v r k' h=>by
 unfold Dr at h;obtain ⟨⟨a,l1,k1⟩,h1,h⟩:=zS h;obtain ⟨l2,h2,h⟩:=zS h;obtain ⟨⟨b,l3,k3⟩,h3,h⟩:=zS h
 injection h with h;injection h with h4 h5;injection h5 with h5 h6
 subst h5;exact ((hf _ _ _ _ _ _ h3).trans (zU h2).1).trans (hf _ _ _ _ _ _ h1)
theorem VF (hf:∀t,Dec (f t)):∀ (ms:List Ac) (first:Bool) l k v r k',BU f first ms l k = .ok (v,r,k')->r <:+ l
 | [],_,l,k,v,r,k',h=>by
  rw[BU] at h
  injection h with h;injection h with h4 h5;injection h5 with h5 h6
  subst h5;exact List.suffix_refl _
 | y::ms,first,l,k,v,r,k',h=>by
  rw[BU] at h;obtain ⟨l0,h0,h⟩:=zS h;have g0:l0 <:+ l:=by
   split at h0
   ·injection h0 with h0;subst h0;exact List.suffix_refl _
   ·exact (zU h0).1.1
  obtain ⟨⟨t,l1⟩,h1,h⟩:=zS h;simp only at h
  split at h
  ·obtain ⟨l2,h2,h⟩:=zS h
   obtain ⟨⟨a,l3,k3⟩,h3,h⟩:=zS h;obtain ⟨⟨b,l4,k4⟩,h4,h⟩:=zS h
   injection h with h;injection h with h5 h6;injection h6 with h6 h7
   subst h6;exact (((VF hf ms false _ _ _ _ _ h4).trans (hf _ _ _ _ _ _ h3).1).trans ((zU h2).1.1.trans (Bq h1).1.1)).trans g0
  ·cases h
theorem Ux:∀ (n:Nat) (first:Bool) l v r,D9 m n first l = .ok (v,r)->r <:+ l
 | 0,_,_,_,_,h=>by cases h
 | n+1,first,l,v,r,h=>by
  rw[D9] at h
  split at h
  ·injection h with h;injection h with h4 h5
   subst h5;exact List.suffix_refl _
  ·obtain ⟨l0,h0,h⟩:=zS h
   have g0:l0 <:+ l:=by
    split at h0
    ·injection h0 with h0;subst h0;exact List.suffix_refl _
    ·exact (zU h0).1.1
   obtain ⟨⟨t,l1⟩,h1,h⟩:=zS h;obtain ⟨l2,h2,h⟩:=zS h;obtain ⟨⟨q,l3⟩,h3,h⟩:=zS h;obtain ⟨⟨b,l4⟩,h4,h⟩:=zS h
   injection h with h;injection h with h5 h6
   subst h6;exact ((Ux n false _ _ _ h4).trans (Bq h3).1.1).trans (((zU h2).1.1.trans (Bq h1).1.1).trans g0)
variable {x:Aa}
theorem lU:Dec (Eu m x):=fun l k v r k' h=>by
 unfold Eu at h
 split at h
 ·rename_i hi
  obtain ⟨⟨t,l1⟩,h1,h⟩:=zS h;have g:=(Bq h1).1.trans (EJ hi);simp only at h
  split at h
  ·split at h
   ·injection h with h;injection h with h4 h5;injection h5 with h5 h6;subst h5;exact g
   ·injection h with h;injection h with h4 h5;injection h5 with h5 h6;subst h5;exact g
  ·injection h with h;injection h with h4 h5;injection h5 with h5 h6;subst h5;exact g
 ·obtain ⟨⟨t,l1⟩,h1,h⟩:=zS h
  simp only at h
  split at h
  ·injection h with h;injection h with h4 h5;injection h5 with h5 h6;subst h5;exact (Bq h1).1
  ·cases h
theorem kN (hf:∀t,Dec (f t)):Dec (IW f x):=fun l k v r k' h=>by
 unfold IW at h;obtain ⟨l1,h1,h⟩:=zS h;have g:=(zU h1).1
 split at h
 ·rename_i hi
  injection h with h;injection h with h4 h5;injection h5 with h5 h6;subst h5
  exact (EJ hi).trans g
 ·obtain ⟨⟨a,l2,k2⟩,h2,h⟩:=zS h
  obtain ⟨l3,h3,h⟩:=zS h
  injection h with h;injection h with h4 h5;injection h5 with h5 h6;subst h5
  exact ((zU h3).1.trans (O1 (hf _) _ _ _ _ _ _ h2)).trans g
theorem qR (hf:∀t,Dec (f t)):Dec (IV f x):=fun l k v r k' h=>by
 unfold IV at h;obtain ⟨l1,h1,h⟩:=zS h;have g:=(zU h1).1
 split at h
 ·rename_i hi
  obtain ⟨l3,h3,h⟩:=zS h
  injection h with h;injection h with h4 h5;injection h5 with h5 h6;subst h5
  exact ((zU h3).1.trans (EJ hi)).trans g
 ·split at h
  ·cases h
  ·obtain ⟨⟨a,l2,k2⟩,h2,h⟩:=zS h
   obtain ⟨l3,h3,h⟩:=zS h
   injection h with h;injection h with h4 h5;injection h5 with h5 h6;subst h5
   exact ((zU h3).1.trans (O1 (Jy hf x) _ _ _ _ _ _ h2)).trans g
theorem qA (hf:∀t,Dec (f t)):Dec (Hr f x):=fun l k v r k' h=>by
 unfold Hr at h;obtain ⟨⟨t,l1⟩,h1,h⟩:=zS h;have g:=(Bq h1).1;simp only at h
 split at h
 ·injection h with h;injection h with h4 h5;injection h5 with h5 h6;subst h5
  exact g
 ·split at h
  ·obtain ⟨l2,h2,h⟩:=zS h
   obtain ⟨⟨a,l3,k3⟩,h3,h⟩:=zS h;obtain ⟨l4,h4,h⟩:=zS h
   injection h with h;injection h with h4' h5;injection h5 with h5 h6;subst h5
   exact (((zU h4).1.trans (hf _ _ _ _ _ _ h3)).trans (zU h2).1).trans g
  ·cases h
theorem pJ (hf:∀t,Dec (f t)):Dec (JN m f x):=fun l k v r k' h=>by
 unfold JN at h;obtain ⟨l1,h1,h⟩:=zS h;obtain ⟨⟨a,l2,k2⟩,h2,h⟩:=zS h;obtain ⟨⟨b,l3⟩,h3,h⟩:=zS h;obtain ⟨l4,h4,h⟩:=zS h
 injection h with h;injection h with h4' h5;injection h5 with h5 h6;subst h5
 exact (((zU h4).1.then' (Ux _ _ _ _ _ h3)).then' (VF hf _ _ _ _ _ _ _ h2)).trans (zU h1).1
theorem oG (hf:∀t,Dec (f t)):Dec (FD m f x):=fun l k v r k' h=>by
 unfold FD at h
 split at h
 ·rename_i hi
  obtain ⟨⟨t,l1⟩,h1,h⟩:=zS h;obtain ⟨l2,h2,h⟩:=zS h;obtain ⟨⟨q,l3⟩,h3,h⟩:=zS h;obtain ⟨l4,h4,h⟩:=zS h
  injection h with h;injection h with h4' h5;injection h5 with h5 h6;subst h5
  exact (((zU h4).1.trans (Bq h3).1).trans (zU h2).1).trans ((Bq h1).1.trans (EJ hi))
 ·obtain ⟨⟨t,l1⟩,h1,h⟩:=zS h
  simp only at h
  split at h
  ·cases h
  ·obtain ⟨l2,h2,h⟩:=zS h
   obtain ⟨⟨a,l3,k3⟩,h3,h⟩:=zS h;obtain ⟨l4,h4,h⟩:=zS h
   injection h with h;injection h with h4' h5;injection h5 with h5 h6;subst h5
   exact (((zU h4).1.trans (hf _ _ _ _ _ _ h3)).trans (zU h2).1).trans (Bq h1).1
theorem lu:Dec Mi:=fun l k v r k' h=>by
 unfold Mi at h;obtain ⟨⟨t,l1⟩,h1,h⟩:=zS h;simp only at h
 split at h
 ·injection h with h;injection h with h4 h5;injection h5 with h5 h6;subst h5;exact (Bq h1).1
 ·split at h
  ·injection h with h;injection h with h4 h5;injection h5 with h5 h6;subst h5;exact (Bq h1).1
  ·cases h
theorem nu (hf:∀t,Dec (f t)):Dec (Ci m f x):=fun l k v r k' h=>by
 have H:∀ {α:Type} {a:PR α} {G:α×List AJ×Bool->PR Val},a.bind G = .ok (v,r,k')->(∀p,∃w,G p = .ok (w,p.2))->(∀z,a = .ok (z,r,k')->Lt r l)->Lt r l:=fun {α a G} hb hG hz=>by
  obtain ⟨⟨z,r',k''⟩,h1,h2⟩:=zS hb;obtain ⟨w,hw⟩:=hG (z,r',k'');rw[hw] at h2
  injection h2 with h2;injection h2 with h3 h4
  simp only at h4;rw[h4] at h1;exact hz z h1
 have HT:∀ {j:Int} {G:AJ×List AJ->PR Val},(CS j l).bind G = .ok (v,r,k')->(∀p,∃w,G p = .ok (w,p.2,k))->Lt r l:=fun {j G} hb hG=>by
  obtain ⟨⟨z,r'⟩,h1,h2⟩:=zS hb;obtain ⟨w,hw⟩:=hG (z,r');rw[hw] at h2
  injection h2 with h2;injection h2 with h3 h4;injection h4 with h4 h5
  simp only at h4;subst h4;exact (Bq h1).1
 unfold Ci at h
 repeat' split at h
 ·exact H h (fun p=>⟨_,rfl⟩) fun z hz=>lu _ _ _ _ _ hz
 ·exact HT h fun p=>⟨_,rfl⟩
 ·exact HT h fun p=>⟨_,rfl⟩
 ·exact H h (fun p=>⟨_,rfl⟩) fun z hz=>lU _ _ _ _ _ hz
 ·exact H h (fun p=>⟨_,rfl⟩) fun z hz=>pJ hf _ _ _ _ _ hz
 ·exact H h (fun p=>⟨_,rfl⟩) fun z hz=>oG hf _ _ _ _ _ hz
 ·exact H h (fun p=>⟨_,rfl⟩) fun z hz=>kN hf _ _ _ _ _ hz
 ·exact H h (fun p=>⟨_,rfl⟩) fun z hz=>qR hf _ _ _ _ _ hz
 ·exact H h (fun p=>⟨_,rfl⟩) fun z hz=>qA hf _ _ _ _ _ hz
end
theorem L8 (m:Bool) (s:List Aa):∀n t,Dec (Oh m s n t)
 | 0,_=>fun _ _ _ _ _ h=>by cases h
 | n+1,t=>fun l k v r k' h=>nu (fun u=>L8 m s n u) l k v r k' h
theorem zY {α β:Type} {a:Except Int α} {g h:α->Except Int β} (H:∀x,a = .ok x->g x=h x):a.bind g=a.bind h:=by
 cases a with
 | error e=>rfl
 | ok x=>exact H x rfl
section
variable {m:Bool} {f g:Int->List AJ->Bool->PR Val}
def Nz (f g:Int->List AJ->Bool->PR Val) (l:List AJ):Prop:=∀t r k,r <:+ l->f t r k=g t r k
def J6 (f g:Int->List AJ->Bool->PR Val) (l:List AJ):Prop:=∀t r k,Lt r l->f t r k=g t r k
variable {l:List AJ}
theorem J6.to {l1:List AJ} (h:J6 f g l) (h1:Lt l1 l):Nz f g l1:=fun t r k hr=>h t r k (Lt.then hr h1)
theorem Nz.of {l1:List AJ} (h:Nz f g l) (h1:l1 <:+ l):Nz f g l1:=fun t r k hr=>h t r k (hr.trans h1)
variable {x:Aa}
theorem dI (hf:∀t,Dec (f t)) (h:Nz f g l) (k:Bool):Dr f x l k=Dr g x l k:=by
 unfold Dr;rw[<-h x.key l k (List.suffix_refl _)];refine zY fun p hp=>?_
 obtain ⟨a,l1,k1⟩:=p;have g1:=(hf _ _ _ _ _ _ hp).1;refine zY fun l2 h2=>?_
 have g2:=(zU h2).1.1;simp only;rw[h x.elem l2 k1 (g2.trans g1)]
theorem QC (hf:∀t,Dec (f t)):∀ (ms:List Ac) (first:Bool) (l:List AJ) (k:Bool),Nz f g l->BU f first ms l k=BU g first ms l k
 | [],_,l,k,_=>rfl
 | y::ms,first,l,k,h=>by
  rw[BU,BU];refine zY fun l0 h0=>?_
  have g0:l0 <:+ l:=by
   split at h0
   ·injection h0 with h0;subst h0;exact List.suffix_refl _
   ·exact (zU h0).1.1
  refine zY fun p h1=>?_
  obtain ⟨t,l1⟩:=p;have g1:=(Bq h1).1.1;simp only
  split
  ·refine zY fun l2 h2=>?_
   have g2:=(zU h2).1.1;have g3:l2 <:+ l:=g2.trans (g1.trans g0);rw[<-h y.type l2 k g3];refine zY fun q h3=>?_
   obtain ⟨a,l3,k3⟩:=q;have g4:=(hf _ _ _ _ _ _ h3).1;simp only;rw[QC hf ms false l3 k3 (h.of (g4.trans g3))]
  ·rfl
theorem Xu (hf:∀t,Dec (f t)) (h:J6 f g l) (k:Bool):IW f x l k=IW g x l k:=by
 unfold IW;refine zY fun l1 h1=>?_
 have g1:=(zU h1).1
 split
 ·rfl
 ·rw[Iz l1 (hf _) (fun r k hr=>h x.elem r k (Lt.then hr g1)) (l1.length+1) (l1.length+1) l1 k (List.suffix_refl _) (by omega) (by omega)]
theorem bO (hf:∀t,Dec (f t)) (h:J6 f g l) (k:Bool):IV f x l k=IV g x l k:=by
 unfold IV;refine zY fun l1 h1=>?_
 have g1:=(zU h1).1
 split
 ·rfl
 ·split
  ·rfl
  ·rw[Iz l1 (Jy hf x) (fun r k hr=>dI hf ((h.to g1).of hr) k) (l1.length+1) (l1.length+1) l1 k (List.suffix_refl _) (by omega) (by omega)]
theorem bE (h:J6 f g l) (k:Bool):Hr f x l k=Hr g x l k:=by
 unfold Hr;refine zY fun p h1=>?_
 obtain ⟨t,l1⟩:=p;have g1:=(Bq h1).1;simp only
 split
 ·rfl
 ·split
  ·refine zY fun l2 h2=>?_
   rw[h x.elem l2 k ((zU h2).1.trans g1)]
  ·rfl
theorem aZ (hf:∀t,Dec (f t)) (h:J6 f g l) (k:Bool):JN m f x l k=JN m g x l k:=by
 unfold JN;refine zY fun l1 h1=>?_
 rw[QC hf x.AA true l1 k (h.to (zU h1).1)]
theorem aG (h:J6 f g l) (k:Bool):FD m f x l k=FD m g x l k:=by
 unfold FD
 split
 ·rfl
 ·refine zY fun p h1=>?_
  obtain ⟨t,l1⟩:=p;have g1:=(Bq h1).1;simp only
  split
  ·rfl
  ·rename_i y _
   refine zY fun l2 h2=>?_
   rw[h y.type l2 k ((zU h2).1.trans g1)]
theorem Q8 (hf:∀t,Dec (f t)) (h:J6 f g l) (k:Bool):Ci m f x l k=Ci m g x l k:=by
 unfold Ci;rw[Xu hf h,bO hf h,bE h,aZ hf h,aG h]
end
theorem Q7 (m:Bool) (s:List Aa):∀ (n n':Nat) (t:Int) (l:List AJ) (k:Bool),l.length<n->l.length<n'->Oh m s n t l k=Oh m s n' t l k
 | 0,_,_,_,_,h,_=>absurd h (Nat.not_lt_zero _)
 | _,0,_,_,_,_,h=>absurd h (Nat.not_lt_zero _)
 | n+1,n'+1,t,l,k,h1,h2=>by
  rw[Oh,Oh];refine Q8 (L8 m s n) (fun u r k' hr=>?_) k
  have:=hr.2;exact Q7 m s n n' u r k' (by omega) (by omega)
def Ag (m:Bool) (s:List Aa) (t:Int) (l:List AJ) (k:Bool):PR Val:=Oh m s (l.length+1) t l k
theorem IC (m:Bool) (s:List Aa) (t:Int):Dec (Ag m s t):=fun _ _ _ _ _ h=>L8 m s _ t _ _ _ _ _ h
theorem Yi (m:Bool) (s:List Aa) (t:Int) (l:List AJ) (k:Bool):Ag m s t l k=Ci m (Ag m s) (AO s t) l k:=by
 unfold Ag;rw[Oh];refine Q8 (L8 m s _) (fun u r k' hr=>?_) k
 have:=hr.2;exact Q7 m s _ _ u r k' (by omega) (by omega)
def okV (s:List Aa) (t:Int) (v:Val):Prop:=∃n,Ad s false n t v=true
section
variable {α β γ:Type} {bad:α->Prop} {AG8:β->Prop} {AG7:γ->Prop} {k:Bool}
end
def ABO (x:Aa):Prop:=(∀y∈x.AX,1<=y.id/\y.id<=1000)/\∀y∈x.AA,1<=y.id/\y.id<=1000
theorem Ns (n:Int):Rq false n=n:=by unfold Rq;simp
theorem MZ {n:Int}:BD n=true↔1<=n/\n<=1000:=by unfold BD;simp
section
variable {s:List Aa} {f f':Int->List AJ->Bool->PR Val}
end
section
variable {s:List Aa} {f f':Int->List AJ->Bool->PR Val} {t:Int} {k:Bool}
theorem Xj {x:Aa}:∀ {l:List Af},Dk x l=true->∀r∈l,BD r.id=true
 | a::l,h,r,hr=>by
  unfold Dk at h;simp only[AAD] at h
  rcases ABP.1 hr with rfl|hr
  ·exact h.1.1.2
  ·exact Xj h.2 r hr
theorem TB {f:Int->Val->Bool}:∀ (ms:List Ac) (vs:List Val),((ms.zip vs).all fun p=>f p.1.type p.2)=true->∀k (h:k<ms.length) (h':k<vs.length),f (ms[k]).type vs[k]=true
 | m::ms,w::vs,h,0,_,_=>by
  simp only[List.zip_cons_cons,List.all_cons,AAD] at h;exact h.1
 | m::ms,w::vs,h,k+1,h1,h2=>by
  simp only[List.zip_cons_cons,List.all_cons,AAD] at h;exact TB ms vs h.2 k (by simpa using h1) (by simpa using h2)
end
def Kt {α:Type} (part:List AJ->Bool->PR α) (l:List AJ) (k:Bool):PR (List α):=I4 part (l.length+1) l k
theorem MI {α:Type} {part:List AJ->Bool->PR α} (hd:Dec part) (l:List AJ) (k:Bool):Kt part l k=(part l k).bind fun p =>
  if Ba ⟨#[44]⟩ p.2.1=true then (Kt part p.2.1.tail p.2.2).bind fun q => .ok (p.1::q.1,q.2) else .ok ([p.1],p.2):=by
 unfold Kt;rw[I4];refine zY fun p hp=>?_
 obtain ⟨x,l1,k1⟩:=p;simp only
 split
 ·rename_i hi
  have g1:=(hd _ _ _ _ _ hp).2;have g2:=(EJ hi).2;rw[Iz l1.tail hd (fun _ _ _=>rfl) l.length (l1.tail.length+1) l1.tail k1 (List.suffix_refl _) (by omega) (by omega)]
 ·rfl
theorem Px (m:Bool):∀ (n n':Nat) (first:Bool) (l:List AJ),l.length<n->l.length<n'->D9 m n first l=D9 m n' first l
 | 0,_,_,_,h,_=>absurd h (Nat.not_lt_zero _)
 | _,0,_,_,_,h=>absurd h (Nat.not_lt_zero _)
 | n+1,n'+1,first,l,h1,h2=>by
  rw[D9,D9]
  split
  ·rfl
  ·refine zY fun l0 h0=>?_
   have g0:l0.length<=l.length:=by
    split at h0
    ·injection h0 with h0;subst h0;exact AAF _
    ·exact AAM (zU h0).1.2
   refine zY fun p hp=>?_
   obtain ⟨t,l1⟩:=p;have g1:=(Bq hp).1.2;refine zY fun l3 h3=>?_
   have g3:=(zU h3).1.2;refine zY fun q hq=>?_
   obtain ⟨u,l4⟩:=q;have g4:=(Bq hq).1.2;simp only at g1 g3 g4 ⊢;rw[Px m n n' false l4 (by omega) (by omega)]
def Eb (m first:Bool) (l:List AJ):Except Int (List Af×List AJ):=D9 m (l.length+1) first l
theorem GZ (m first:Bool) (l:List AJ):Eb m first l=if Ba ⟨#[125]⟩ l=true then .ok ([],l) else
  (if first=true then .ok l else Ay ⟨#[44]⟩ l).bind fun l1=>(CS 2 l1).bind fun p=>(Ay ⟨#[58]⟩ p.2).bind fun l3=>(CS 3 l3).bind fun q =>
   (Eb m false q.2).bind fun r => .ok (⟨Rq m p.1.int,q.1.str⟩::r.1,r.2):=by
 unfold Eb;rw[D9]
 split
 ·rfl
 ·refine zY fun l0 h0=>?_
  have g0:l0.length<=l.length:=by
   split at h0
   ·injection h0 with h0;subst h0;exact AAF _
   ·exact AAM (zU h0).1.2
  refine zY fun p hp=>?_
  obtain ⟨t,l1⟩:=p;have g1:=(Bq hp).1.2;refine zY fun l3 h3=>?_
  have g3:=(zU h3).1.2;refine zY fun q hq=>?_
  obtain ⟨u,l4⟩:=q;have g4:=(Bq hq).1.2;simp only at g1 g3 g4 ⊢;rw[Px m l.length (l4.length+1) false l4 (by omega) (by omega)]
def DI {α:Type} (a:Except Int α):Prop:=a ≠ .error 0
theorem zP {α β:Type} {a:Except Int α} {g:α->Except Int β} (h1:DI a) (h2:∀x,a = .ok x->DI (g x)):DI (a.bind g):=fun h=>by
 rcases Mj h with h|⟨x,h3,h4⟩
 ·exact h1 h
 ·exact h2 x h3 h4
theorem CW {α:Type} (a:α):DI (Except.ok a:Except Int α):=fun h=>by cases h
theorem Nb {α:Type}:DI (.error 2:Except Int α):=fun h=>by injection h with h;cases h
theorem TG {α:Type}:DI (.error 4:Except Int α):=fun h=>by injection h with h;cases h
theorem JH (k:Int) (l:List AJ):DI (CS k l):=by
 cases l with
 | nil=>exact Nb
 | cons t r=>rw[CS];split <;> first|exact CW _|exact Nb
theorem E8 (s:ByteArray) (l:List AJ):DI (Ay s l):=by
 unfold Ay;split <;> first|exact CW _|exact Nb
theorem Xk {α:Type} {part:List AJ->Bool->PR α} (hd:Dec part) (l0:List AJ) (hp:∀l k,l <:+ l0->DI (part l k)):∀ (n:Nat) l k,l <:+ l0->l.length<n->DI (I4 part n l k)
 | 0,_,_,_,h=>absurd h (Nat.not_lt_zero _)
 | n+1,l,k,hl,h=>by
  rw[I4];refine zP (hp l k hl) fun p h1=>?_
  obtain ⟨x,l1,k1⟩:=p;have g1:=hd _ _ _ _ _ h1;simp only
  split
  ·rename_i hi
   have g2:=EJ hi;have g3:=g1.2;have g4:=g2.2;exact zP (Xk hd l0 hp n l1.tail k1 ((g2.1.trans g1.1).trans hl) (by omega)) fun _ _=>CW _
  ·exact CW _
theorem VA {first:Bool} {l:List AJ}:DI (if first=true then Except.ok l else Ay ⟨#[44]⟩ l):=by
 split
 ·exact CW _
 ·exact E8 _ _
theorem ZG {f:Int->List AJ->Bool->PR Val} (hf:∀t,Dec (f t)) (l0:List AJ) (hp:∀t l k,l <:+ l0->DI (f t l k)):∀ (ms:List Ac) (first:Bool) l k,l <:+ l0->DI (BU f first ms l k)
 | [],_,_,_,_=>CW _
 | y::ms,first,l,k,hl=>by
  rw[BU];refine zP VA fun l1 h1=>?_
  have g1:l1 <:+ l:=by
   split at h1
   ·injection h1 with h1;subst h1;exact List.suffix_refl _
   ·exact (zU h1).1.1
  refine zP (JH _ _) fun p h2=>?_
  obtain ⟨t,l2⟩:=p;have g2:=(Bq h2).1.1;simp only
  split
  ·refine zP (E8 _ _) fun l3 h3=>?_
   have g3:=(zU h3).1.1;refine zP (hp _ _ _ (g3.trans (g2.trans (g1.trans hl)))) fun q h4=>?_
   obtain ⟨v,l4,k4⟩:=q;have g4:=(hf _ _ _ _ _ _ h4).1;exact zP (ZG hf l0 hp ms false l4 k4 (g4.trans (g3.trans (g2.trans (g1.trans hl))))) fun _ _=>CW _
  ·exact TG
theorem ZF (m:Bool):∀ (n:Nat) (first:Bool) (l:List AJ),l.length<n->DI (D9 m n first l)
 | 0,_,_,h=>absurd h (Nat.not_lt_zero _)
 | n+1,first,l,h=>by
  rw[D9]
  split
  ·exact CW _
  ·refine zP VA fun l0 h0=>?_
   have g0:l0.length<=l.length:=by
    split at h0
    ·injection h0 with h0;subst h0;exact AAF _
    ·exact AAM (zU h0).1.2
   refine zP (JH _ _) fun p hp=>?_
   obtain ⟨t,l1⟩:=p;have g1:=(Bq hp).1.2;refine zP (E8 _ _) fun l3 h3=>?_
   have g3:=(zU h3).1.2;refine zP (JH _ _) fun q hq=>?_
   obtain ⟨u,l4⟩:=q;have g4:=(Bq hq).1.2;exact zP (ZF m n false l4 (by simp only at *;omega)) fun _ _=>CW _
theorem qG {m:Bool} {f:Int->List AJ->Bool->PR Val} (hf:∀t,Dec (f t)) {x:Aa} {l:List AJ} {k:Bool} (hp:∀t r k,Lt r l->DI (f t r k)):DI (Ci m f x l k):=by
 have hT:∀ {r:List AJ},Lt r l->∀t r2 k,r2 <:+ r->DI (f t r2 k):=fun h t r2 k h2=>hp t r2 k (Lt.then h2 h)
 unfold Ci
 repeat' split
 ·refine zP ?_ fun _ _=>CW _
  unfold Mi;refine zP (JH _ _) fun p _=>?_
  repeat' split
  all_goals first|exact CW _|exact Nb
 ·exact zP (JH _ _) fun _ _=>CW _
 ·exact zP (JH _ _) fun _ _=>CW _
 ·refine zP ?_ fun _ _=>CW _
  unfold Eu
  split
  ·refine zP (JH _ _) fun p _=>?_
   repeat' split
   all_goals exact CW _
  ·refine zP (JH _ _) fun p _=>?_
   split
   ·exact CW _
   ·exact TG
 ·refine zP ?_ fun _ _=>CW _
  unfold JN;refine zP (E8 _ _) fun l1 h1=>?_
  refine zP (ZG hf l1 (fun t r k hr=>hT (zU h1).1 t r k hr) _ _ _ _ (List.suffix_refl _)) fun p _=>?_
  refine zP (ZF m _ _ _ (by omega)) fun q _=>?_
  exact zP (E8 _ _) fun _ _=>CW _
 ·refine zP ?_ fun _ _=>CW _
  unfold FD
  split
  ·refine zP (JH _ _) fun p _=>?_
   refine zP (E8 _ _) fun l1 h1=>?_
   refine zP (JH _ _) fun p _=>?_
   exact zP (E8 _ _) fun _ _=>CW _
  ·refine zP (JH _ _) fun p h1=>?_
   obtain ⟨t,l1⟩:=p;simp only
   split
   ·exact TG
   ·refine zP (E8 _ _) fun l2 h2=>?_
    refine zP (hp _ _ _ ((zU h2).1.trans (Bq h1).1)) fun q _=>?_
    exact zP (E8 _ _) fun _ _=>CW _
 ·refine zP ?_ fun _ _=>CW _
  unfold IW;refine zP (E8 _ _) fun l1 h1=>?_
  split
  ·exact CW _
  ·refine zP (Xk (hf _) l1 (fun r k hr=>hT (zU h1).1 _ r k hr) _ _ _ (List.suffix_refl _) (by omega)) fun p _=>?_
   exact zP (E8 _ _) fun _ _=>CW _
 ·refine zP ?_ fun _ _=>CW _
  unfold IV;refine zP (E8 _ _) fun l1 h1=>?_
  split
  ·exact zP (E8 _ _) fun _ _=>CW _
  ·split
   ·exact Nb
   ·refine zP (Xk (Jy hf x) l1 (fun r k hr=>?_) _ _ _ (List.suffix_refl _) (by omega)) fun p _=>?_
    ·unfold Dr
     refine zP (hT (zU h1).1 _ r k hr) fun p h2=>?_
     obtain ⟨v,l2,k2⟩:=p;refine zP (E8 _ _) fun l3 h3=>?_
     exact zP (hT (zU h1).1 _ l3 k2 (((zU h3).1.1.trans (hf _ _ _ _ _ _ h2).1).trans hr)) fun _ _=>CW _
    ·exact zP (E8 _ _) fun _ _=>CW _
 ·refine zP ?_ fun _ _=>CW _
  unfold Hr;refine zP (JH _ _) fun p h1=>?_
  obtain ⟨t,l1⟩:=p;simp only
  split
  ·exact CW _
  ·split
   ·refine zP (E8 _ _) fun l2 h2=>?_
    refine zP (hp _ _ _ ((zU h2).1.trans (Bq h1).1)) fun q _=>?_
    exact zP (E8 _ _) fun _ _=>CW _
   ·exact Nb
theorem Yk (m:Bool) (s:List Aa):∀ (n:Nat) (t:Int) (l:List AJ) (k:Bool),l.length<n->DI (Oh m s n t l k)
 | 0,_,_,_,h=>absurd h (Nat.not_lt_zero _)
 | n+1,t,l,k,h=>by
  rw[Oh];refine qG (L8 m s n) fun u r k' hr=>?_
  have:=hr.2;exact Yk m s n u r k' (by omega)
theorem GK (m:Bool) (s:List Aa) (t:Int) (l:List AJ) (k:Bool):DI (Ag m s t l k):=Yk m s _ t l k (by omega)
def O4 (s:ByteArray):AJ:=⟨1,s,0,⟨#[]⟩,0⟩
def cO (n:Int):AJ:=⟨2,⟨#[]⟩,n,⟨#[]⟩,0⟩
def iY (s:ByteArray):AJ:=⟨3,⟨#[]⟩,0,s,0⟩
def Bl (s:ByteArray):AJ:=⟨4,s,0,⟨#[]⟩,0⟩
def EU {α:Type} (g:α->List AJ):List α->List AJ
 | []=>[]
 | [x]=>g x
 | x::y::r=>g x++Bl ⟨#[44]⟩::EU g (y::r)
def Xn (f:Int->Val->List AJ):Bool->List Ac->List Val->List AJ
 | first,y::ms,v::vs=>(if first=true then [] else [Bl ⟨#[44]⟩])++O4 y.name::Bl ⟨#[58]⟩::(f y.type v++Xn f false ms vs)
 | _,_,_=>[]
def RI:Bool->List Af->List AJ
 | first,r::rs=>(if first=true then [] else [Bl ⟨#[44]⟩])++cO r.id::Bl ⟨#[58]⟩::iY r.data::RI false rs
 | _,[]=>[]
def etk (f g:Val->List AJ) (p:Val×Val):List AJ:=f p.1++Bl ⟨#[45,62]⟩::g p.2
def Rx (x:Aa) (n:Int):List AJ:=match x.AX.find? fun y=>decide (y.id=n) with
 | some y=>[O4 y.name]
 | none=>[Bl ⟨#[64]⟩,cO n]
def tV (h:Val->List AJ):List Val->List AJ
 | y::_=>h y
 | []=>[]
def tX:List Af->List AJ
 | r::_=>[iY r.data]
 | []=>[]
def L9 (f:Int->Val->List AJ) (x:Aa) (n:Int) (vs:List Val) (rs:List Af):List AJ:=match x.AA.find? fun m=>decide (m.id=n) with
 | some m=>O4 m.name::Bl ⟨#[40]⟩::(tV (f m.type) vs++[Bl ⟨#[41]⟩])
 | none=>Bl ⟨#[64]⟩::cO n::Bl ⟨#[40]⟩::(tX rs++[Bl ⟨#[41]⟩])
def jg (h:Val->List AJ):List Val->List AJ
 | []=>[O4 ⟨#[110,111,110,101]⟩]
 | y::_=>O4 ⟨#[115,111,109,101]⟩::Bl ⟨#[40]⟩::(h y++[Bl ⟨#[41]⟩])
def GL (f:Int->Val->List AJ) (x:Aa) (v:Val):List AJ :=
 if x.kind=1 then [O4 (if v.bool then ⟨#[116,114,117,101]⟩ else ⟨#[102,97,108,115,101]⟩)]
 else if x.kind=2 then [cO v.int]
 else if x.kind=3 then [iY v.str]
 else if x.kind=4 then Rx x v.id
 else if x.kind=5 then Bl ⟨#[123]⟩::(Xn f true x.AA v.items++(RI x.AA.isEmpty v.rest++[Bl ⟨#[125]⟩]))
 else if x.kind=6 then L9 f x v.id v.items v.rest
 else if x.kind=7 then Bl ⟨#[91]⟩::(EU (f x.elem) v.items++[Bl ⟨#[93]⟩])
 else if x.kind=8 then Bl ⟨#[91]⟩::(if v.keys.length=0 then [Bl ⟨#[45,62]⟩,Bl ⟨#[93]⟩] else EU (etk (f x.key) (f x.elem)) (v.keys.zip v.items)++[Bl ⟨#[93]⟩])
 else jg (f x.elem) v.items
def Qg (s:List Aa):Nat->Int->Val->List AJ
 | 0,_,_=>[]
 | n+1,t,v=>GL (Qg s n) (AO s t) v
theorem RX {v:Val} (h:zJ v=true):v=Az v:=by
 unfold zJ at h;simp only[AAD,AAV] at h;obtain ⟨⟨⟨⟨⟨⟨h1,h2⟩,h3⟩,h4⟩,h5⟩,h6⟩,h7⟩:=h;obtain ⟨k,b,i,s,d,ks,is,r⟩:=v;unfold Az at *;simp only[Val.kind,Val.bool,Val.int,Val.str,Val.id,Val.keys,Val.items,Val.rest] at *;rw[<-h1,<-h2,<-h3,<-h4];have g:∀ {α:Type} (p:Prop) [Decidable p] (l:List α),l.length=(if p then l else []).length->l=if p then l else []:=fun p _ l h=>by
  split at h
  ·rename_i hp;rw[AAB hp]
  ·rename_i hp;rw[Pd hp];exact AAn h
 rw[<-g _ _ h5,<-g _ _ h6,<-g _ _ h7]
structure Zn (x:Aa):Prop where
 ids:ABO x
 AGI:(x.AA.map Ac.id).Nodup
 ACs:(x.AX.map Bu.name).Nodup
 AC0:(x.AA.map Ac.name).Nodup
theorem QN {α β:Type} [DecidableEq β] {g:α->β}:∀ {l:List α},(l.map g).Nodup->∀ {y:α},y∈l->l.find? (fun z=>decide (g z=g y))=some y
 | a::l,hd,y,hy=>by
  rw[ABh,List.nodup_cons] at hd;rw[ACA]
  rcases ABP.1 hy with rfl|hy
  ·simp
  ·have:g a≠g y:=fun e=>hd.1 (by rw[e];exact List.mem_map_of_mem hy)
   simp only[this,decide_false];exact QN hd.2 hy
theorem FI (k:Int) (t:AJ) (l:List AJ) (h:t.kind=k):CS k (t::l) = .ok (t,l):=by rw[CS,AAB h]
theorem F8 (s u:ByteArray) (l:List AJ):Ba s (Bl u::l)=decide (u=s):=rfl
theorem TS (s u:ByteArray) (l:List AJ):Ba s (O4 u::l)=false:=by
 rw[Ba];simp[O4]
theorem Xx (s:ByteArray) (n:Int) (l:List AJ):Ba s (cO n::l)=false:=by
 rw[Ba];simp[cO]
theorem kr (s u:ByteArray) (l:List AJ):Ba s (iY u::l)=false:=by
 rw[Ba];simp[iY]
theorem Da (s:ByteArray) (l:List AJ):Ay s (Bl s::l) = .ok l:=by
 unfold Ay;rw[F8,AAJ rfl,AAB rfl];rfl
section
variable {f:Int->List AJ->Bool->PR Val} {g:Int->Val->List AJ}
def Wi (f:Int->List AJ->Bool->PR Val) (g:Int->Val->List AJ) (t:Int) (v:Val):Prop:=∀more k,f t (g t v++more) k = .ok (v,more,k)
theorem Pq {α:Type} {part:List AJ->Bool->PR α} (hd:Dec part) {g:α->List AJ}:∀ (xs:List α),xs≠[]->(∀x∈xs,∀more k,part (g x++more) k = .ok (x,more,k))->∀more k,Ba ⟨#[44]⟩ more=false->Kt part (EU g xs++more) k = .ok (xs,more,k)
 | [],h,_,_,_,_=>absurd rfl h
 | [x],_,h,more,k,hm=>by
  rw[EU,MI hd,h x (List.mem_singleton.2 rfl),zM];simp only;rw[hm];rfl
 | x::y::r,_,h,more,k,hm=>by
  rw[EU,AAo,AAs,MI hd,h x (ABT ..),zM];simp only;rw[F8,AAJ rfl,AAB rfl,List.tail_cons,Pq hd (y::r) (by simp) (fun z hz=>h z (ABZ _ hz)) more k hm]
  rfl
theorem Rh:∀ (ms:List Ac) (vs:List Val) (first:Bool),ms.length=vs.length->(∀i (h:i<ms.length) (h':i<vs.length),Wi f g ms[i].type vs[i])->∀more k,BU f first ms (Xn g first ms vs++more) k = .ok (vs,more,k)
 | [],[],first,_,_,more,k=>by cases first <;> rfl
 | [],_::_,_,h,_,_,_=>by cases h
 | _::_,[],_,h,_,_,_=>by cases h
 | y::ms,v::vs,first,hl,h,more,k=>by
  have h0:=h 0 (by simp) (by simp)
  have h1:=Rh ms vs false (by simpa using hl) (fun i h1 h2=>h (i+1) (by simpa using h1) (by simpa using h2)) more k
  simp only[List.getElem_cons_zero] at h0;have hs:(if first=true then Except.ok (Xn g first (y::ms) (v::vs)++more) else Ay ⟨#[44]⟩ (Xn g first (y::ms) (v::vs)++more)) = .ok (O4 y.name::Bl ⟨#[58]⟩::(g y.type v++(Xn g false ms vs++more))):=by
   cases first
   ·rw[Xn];simp only[Bool.false_eq_true,if_false,AAs,List.nil_append,AAo];exact Da _ _
   ·rw[Xn];simp only[if_true,List.nil_append,AAs,AAo]
  rw[BU,hs,zM,FI 1 _ _ rfl,zM];simp only;rw[AAB (show (O4 y.name).text=y.name from rfl),Da,zM,h0,zM];simp only;rw[h1];rfl
theorem RP:∀ (rs:List Af) (first:Bool) more,(∀r∈rs,True)->Eb false first (RI first rs++Bl ⟨#[125]⟩::more) = .ok (rs,Bl ⟨#[125]⟩::more)
 | [],first,more,_=>by
  rw[RI,List.nil_append,GZ,F8,AAJ rfl,AAB rfl]
 | r::rs,first,more,_=>by
  have h1:=RP rs false more fun _ _=>trivial
  have h0:Ba ⟨#[125]⟩ (RI first (r::rs)++Bl ⟨#[125]⟩::more)=false:=by
   cases first
   ·rw[RI];simp only[Bool.false_eq_true,if_false,AAs,List.nil_append]
    rw[F8];decide
   ·rw[RI];simp only[if_true,List.nil_append,AAs]
    exact Xx _ _ _
  have hs:(if first=true then Except.ok (RI first (r::rs)++Bl ⟨#[125]⟩::more) else Ay ⟨#[44]⟩ (RI first (r::rs)++Bl ⟨#[125]⟩::more)) = .ok (cO r.id::Bl ⟨#[58]⟩::iY r.data::(RI false rs++Bl ⟨#[125]⟩::more)):=by
   cases first
   ·rw[RI];simp only[Bool.false_eq_true,if_false,AAs,List.nil_append];exact Da _ _
   ·rw[RI];simp only[if_true,List.nil_append,AAs]
  rw[GZ,h0,Pd (by simp),hs,zM,FI 2 _ _ rfl,zM]
  simp only;rw[Da,zM,FI 3 _ _ rfl,zM];simp only;rw[h1,zM,Ns];rfl
end
