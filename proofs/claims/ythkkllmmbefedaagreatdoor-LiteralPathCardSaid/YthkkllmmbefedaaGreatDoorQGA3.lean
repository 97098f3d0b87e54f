/-
  The tokens of a value, from which it is read again: plain Lean.
-/
import Derived.Test.YthkkllmmbefedaaGreatDoorQGA2
import Derived.Lib.ParseIntBTie
import Derived.Lib.ParseIntBCases
import Derived.Lib.ItoaMem
namespace Go.Proofs.YthkkllmmbefedaaGreatDoor
set_option maxHeartbeats 16000000
set_option maxRecDepth 100000
def Dl (n:Nat):UInt8:=if n<10 then UInt8.ofNat (48+n) else UInt8.ofNat (87+n)
def jM (c:UInt8):ByteArray :=
 if c.toNat=34\/c.toNat=92 then ⟨#[92,c]⟩
 else if c.toNat=10 then ⟨#[92,110]⟩
 else if c.toNat<32\/126<c.toNat then ⟨#[92,120,Dl (c.toNat / 16),Dl (c.toNat % 16)]⟩
 else ⟨#[c]⟩
def Mv (s:ByteArray):Nat->ByteArray
 | 0=>⟨#[34]⟩
 | k+1=>Mv s k++jM (s.data.getD k 0)
def Rs (s:ByteArray):ByteArray:=Mv s s.size++⟨#[34]⟩
variable {k m:Nat}
theorem aY (s:ByteArray) (h:k<=m):(Mv s k).size<=(Mv s m).size:=by
 induction m with
 | zero=>rw[Nat.le_zero.1 h];exact AAH _
 | succ m ih =>
  rcases Nat.lt_or_ge k (m+1) with h1|h1
  ·have:=ih (by omega)
   rw[Mv,AAa]
   omega
  ·rw[Nat.le_antisymm h h1];exact AAH _
def Gv (f:Nat->ByteArray):Nat->ByteArray
 | 0=>⟨#[]⟩
 | k+1=>Gv f k++(if k=0 then ⟨#[]⟩ else ⟨#[44,32]⟩)++f k
def RU (l:List ByteArray):ByteArray:=Gv (fun i=>l.getD i ⟨#[]⟩) l.length
theorem Y0 (f:Nat->ByteArray) (h:k<=m):(Gv f k).size<=(Gv f m).size:=by
 induction m with
 | zero=>rw[Nat.le_zero.1 h];exact AAH _
 | succ m ih =>
  rcases Nat.lt_or_ge k (m+1) with h1|h1
  ·have:=ih (by omega)
   rw[Gv,AAa,AAa]
   omega
  ·rw[Nat.le_antisymm h h1];exact AAH _
theorem Yz (f:Nat->ByteArray) (h:k<m):(Gv f k).size+(if k=0 then (⟨#[]⟩:ByteArray) else ⟨#[44,32]⟩).size+(f k).size<=(Gv f m).size:=by
 have:=Y0 f (show k+1<=m by omega)
 rw[Gv,AAa,AAa] at this;exact this
def VE (f:Int->Val->ByteArray) (p:AZ×Val):ByteArray:=p.1.name++⟨#[58,32]⟩++f p.1.type p.2
def aV (r:Ak):ByteArray:=D5 r.id++⟨#[58,32]⟩++Rs r.data
def AAQ (f g:Val->ByteArray) (p:Val×Val):ByteArray:=f p.1++⟨#[32,45,62,32]⟩++g p.2
def Nz (f:Int->Val->ByteArray) (x:Ae) (v:Val):ByteArray :=
 if x.kind=1 then (if v.bool then ⟨#[116,114,117,101]⟩ else ⟨#[102,97,108,115,101]⟩)
 else if x.kind=2 then D5 v.int
 else if x.kind=3 then Rs v.str
 else if x.kind=4 then (match x.Aj.find? fun y=>decide (y.id=v.id) with
  | some y=>y.name
  | none=>⟨#[64]⟩++D5 v.id)
 else if x.kind=5 then ⟨#[123]⟩++RU ((x.AA.zip v.items).map (VE f)++v.rest.map aV)++⟨#[125]⟩
 else if x.kind=6 then (match x.AA.find? fun m=>decide (m.id=v.id) with
  | some m=>m.name++⟨#[40]⟩++(match v.items with|y::_=>f m.type y | []=>⟨#[]⟩)
  | none=>⟨#[64]⟩++D5 v.id++⟨#[40]⟩++(match v.rest with|r::_=>Rs r.data | []=>⟨#[]⟩))++⟨#[41]⟩
 else if x.kind=7 then ⟨#[91]⟩++RU (v.items.map (f x.elem))++⟨#[93]⟩
 else if x.kind=8 then ⟨#[91]⟩++(if v.keys.length=0 then ⟨#[45,62]⟩ else ⟨#[]⟩)++RU ((v.keys.zip v.items).map (AAQ (f x.key) (f x.elem)))++⟨#[93]⟩
 else (match v.items with
  | []=>⟨#[110,111,110,101]⟩
  | y::_=>⟨#[115,111,109,101,40]⟩++f x.elem y++⟨#[41]⟩)
def CZ (s:List Ae):Nat->Int->Val->ByteArray
 | 0,_,_=>⟨#[]⟩
 | n+1,t,v=>Nz (CZ s n) (AB s t) v
noncomputable def VG (s:List Ae) (t:Int) (v:Val):ByteArray:=CZ s (SizeOf.sizeOf v) t v
structure AQ where
 kind:Int
 text:ByteArray
 int:Int
 str:ByteArray
 line:Int
 deriving DecidableEq
def CP (c:UInt8):Bool:=IU c.toNat
def zZ (c:UInt8):Bool:=IV c.toNat
def Fq:List UInt8->Nat
 | []=>0
 | c::r=>if CP c||zZ c then Fq r+1 else 0
def Dx:List UInt8->Nat
 | []=>0
 | c::r=>if zZ c then Dx r+1 else 0
def Yl (c:UInt8):Option Nat:=if 48<=c.toNat/\c.toNat<=57 then some (c.toNat - 48) else if 97<=c.toNat/\c.toNat<=102 then some (c.toNat - 87) else none
def kY:List UInt8->Option (UInt8×Nat)
 | []=>none
 | d::q =>
  if d.toNat=34\/d.toNat=92 then some (d,1)
  else if d.toNat=110 then some (10,1)
  else if d.toNat=120 then
   match q with
   | a::b::_ =>
    match Yl a,Yl b with
    | some x,some y=>if (16 * x+y<32\/126<16 * x+y)/\16 * x+y≠10 then some (UInt8.ofNat (16 * x+y),3) else none
    | _,_=>none
   | _=>none
  else none
def MV:List UInt8->Option (UInt8×Nat)
 | []=>none
 | c::r=>if c.toNat=92 then (kY r).map fun p=>(p.1,p.2+1) else if c.toNat<32\/126<c.toNat then none else some (c,1)
def Oo:Nat->List UInt8->Option (List UInt8×Nat)
 | 0,_=>none
 | _+1,[]=>none
 | n+1,c::r=>if c.toNat=34 then some ([],1) else
  match MV (c::r) with
  | none=>none
  | some (b,k)=>(Oo n ((c::r).drop k)).map fun p=>(b::p.1,p.2+k)
def Mt (l:List UInt8):Option (List UInt8×Nat):=Oo l.length l
def Hg (t:List UInt8):Option Int :=
 match Lib.parseIntB 64 t with
 | .ok v=>if Lib.itoa v=t then some v else none
 | _=>none
def FM:List UInt8->Option Nat
 | []=>none
 | c::r =>
  if c.toNat=45/\(r.headD 0).toNat=62 then some 2
  else if c.toNat=46/\(r.headD 0).toNat=46 then some 2
  else if c.toNat=123\/c.toNat=125\/c.toNat=40\/c.toNat=41\/c.toNat=91\/c.toNat=93\/c.toNat=44\/c.toNat=59\/c.toNat=58\/c.toNat=61\/c.toNat=46\/c.toNat=33\/c.toNat=63\/c.toNat=64\/c.toNat=42\/c.toNat=124 then some 1
  else none
def bA (l:List UInt8):ByteArray:=⟨l.toArray⟩
def EK:List UInt8->Option (AQ×Nat)
 | []=>none
 | c::r =>
  if CP c then (if Fq (c::r)<=24 then some (⟨1,bA ((c::r).take (Fq (c::r))),0,⟨#[]⟩,0⟩,Fq (c::r)) else none)
  else if zZ c||(decide (c.toNat=45)&&zZ (r.headD 0)) then (Hg ((c::r).take (1+Dx r))).map fun v=>(⟨2,⟨#[]⟩,v,⟨#[]⟩,0⟩,1+Dx r)
  else if c.toNat=34 then (Mt r).map fun p=>(⟨3,⟨#[]⟩,0,bA p.1,0⟩,p.2+1)
  else (FM (c::r)).map fun n=>(⟨4,bA ((c::r).take n),0,⟨#[]⟩,0⟩,n)
def FJ:List UInt8->List UInt8
 | []=>[]
 | c::r=>if c.toNat=10 then c::r else FJ r
def Hz:Nat->Int->List UInt8->Except Int (List AQ)
 | _,_,[] => .ok []
 | 0,_,_::_ => .ok []
 | n+1,ln,c::r =>
  if c.toNat=10 then Hz n (ln+1) r
  else if c.toNat=32\/c.toNat=9 then Hz n ln r
  else if c.toNat=47/\(r.headD 0).toNat=47 then Hz n ln (FJ r)
  else match EK (c::r) with
   | none => .error ln
   | some (t,k)=>(Hz n ln ((c::r).drop k)).map fun o=>{ t with line:=ln }::o
def BB (ln:Int) (l:List UInt8):Except Int (List AQ):=Hz l.length ln l
variable {c:UInt8}
theorem XB {x:Nat} (h:Yl c=some x):x<16:=by
 unfold Yl at h
 split at h
 ·injection h with h;omega
 ·split at h
  ·injection h with h;omega
  ·cases h
theorem N7:∀l,Fq l<=l.length
 | []=>AAH _
 | c::r=>by
  have:=N7 r;rw[Fq];split
  ·rw[AAS];omega
  ·exact Nat.zero_le _
theorem LA:∀l,Dx l<=l.length
 | []=>AAH _
 | c::r=>by
  have:=LA r;rw[Dx];split
  ·rw[AAS];omega
  ·exact Nat.zero_le _
variable {l:List UInt8}
theorem kX {b:UInt8} (h:kY l=some (b,k)):1<=k/\k<=l.length/\k<=3:=by
 unfold kY at h
 split at h
 ·cases h
 ·rename_i d q
  split at h
  ·injection h with h;injection h with _ h;subst h;simp
  ·split at h
   ·injection h with h;injection h with _ h;subst h;simp
   ·split at h
    ·split at h
     ·split at h
      ·split at h
       ·injection h with h;injection h with _ h;subst h;simp
       ·cases h
      ·cases h
     ·cases h
    ·cases h
theorem Ko {b:UInt8} (h:MV l=some (b,k)):1<=k/\k<=l.length:=by
 unfold MV at h
 split at h
 ·cases h
 ·rename_i c r
  split at h
  ·rw[AAs] at h
   obtain ⟨⟨b',k'⟩,h1,h2⟩:=h;have:=kX h1
   injection h2 with _ h2
   simp only at h2;rw[AAS];omega
  ·split at h
   ·cases h
   ·injection h with h;injection h with _ h;subst h;simp
theorem WV:∀ (n:Nat) (l:List UInt8) (o:List UInt8) (k:Nat),Oo n l=some (o,k)->1<=k/\k<=l.length/\o.length<k
 | 0,_,_,_,h=>by cases h
 | n+1,[],_,_,h=>by cases h
 | n+1,c::r,o,k,h=>by
  rw[Oo] at h
  split at h
  ·injection h with h;injection h with h1 h2;subst h1 h2;simp
  ·split at h
   ·cases h
   ·rename_i b j hp
    rw[AAs] at h;obtain ⟨⟨o',k'⟩,h1,h2⟩:=h;have ih:=WV n _ _ _ h1;have:=Ko hp
    injection h2 with h2 h3
    simp only at h2 h3;subst h2 h3;rw[AA1] at ih;simp only[AAS] at *
    omega
theorem Lg:∀ (n:Nat) (l:List UInt8),l.length<=n->Oo n l=Oo l.length l
 | 0,l,h=>by rw[AAf (Nat.le_zero.1 h)];rfl
 | _+1,[],_=>by rw[Oo];rfl
 | n+1,c::r,h=>by
  rw[AAS,Oo,Oo]
  split
  ·rfl
  ·split
   ·rfl
   ·rename_i b k hp
    have:=Ko hp;have hd:((c::r).drop k).length<=r.length:=by rw[AA1,AAS];omega
    rw[Lg n _ (by rw[AAS] at h;omega),Lg r.length _ hd]
termination_by _ l=>l.length
decreasing_by
 all_goals (rw[AA1,AAS] at *;omega)
theorem Sv:Mt []=none:=rfl
theorem Lf (c:UInt8) (r:List UInt8):Mt (c::r)=if c.toNat=34 then some ([],1) else
  match MV (c::r) with
  | none=>none
  | some (b,k)=>(Mt ((c::r).drop k)).map fun p=>(b::p.1,p.2+k):=by
 unfold Mt;rw[AAS,Oo]
 split
 ·rfl
 ·split
  ·rfl
  ·rename_i b k hp
   have:=Ko hp;rw[Lg r.length _ (by rw[AA1,AAS];omega)]
theorem WU {o:List UInt8} (h:Mt l=some (o,k)):1<=k/\k<=l.length/\o.length<k:=WV _ _ _ _ h
variable {n:Nat}
theorem WM (h:FM l=some n):1<=n/\n<=l.length/\n<=2:=by
 unfold FM at h
 split at h
 ·cases h
 ·rename_i c r
  have hr:∀m:Nat,(r.headD 0).toNat=m+1->2<=(c::r).length:=fun m hm=>by
   cases r with
   | nil=>simp at hm
   | cons d q=>simp
  split at h
  ·rename_i hc
   injection h with h;subst h
   exact ⟨by omega,hr _ hc.2,by omega⟩
  ·split at h
   ·rename_i hc
    injection h with h;subst h
    exact ⟨by omega,hr _ hc.2,by omega⟩
   ·split at h
    ·injection h with h;subst h;simp
    ·cases h
theorem JN {t:AQ} (h:EK l=some (t,k)):1<=k/\k<=l.length:=by
 unfold EK at h
 split at h
 ·cases h
 ·rename_i c r
  split at h
  ·rename_i hc
   split at h
   ·injection h with h;injection h with _ h;subst h
    refine ⟨?_,N7 _⟩;rw[Fq,hc,Bool.true_or,AAG rfl];omega
   ·cases h
  ·split at h
   ·rw[AAs] at h
    obtain ⟨v,_,h⟩:=h
    injection h with _ h;subst h
    have:=LA r;rw[AAS];omega
   ·split at h
    ·rw[AAs] at h
     obtain ⟨⟨o,j⟩,h1,h⟩:=h
     injection h with _ h;subst h
     have:=WU h1;rw[AAS];simp only;omega
    ·rw[AAs] at h
     obtain ⟨n,h1,h⟩:=h
     injection h with _ h;subst h
     have:=WM h1;exact ⟨this.1,this.2.1⟩
theorem Gt:∀l,(FJ l).length<=l.length
 | []=>AAH _
 | c::r=>by
  have:=Gt r;rw[FJ];split
  ·exact AAH _
  ·rw[AAS];omega
theorem DC:∀ (n:Nat) (ln:Int) (l:List UInt8),l.length<=n->Hz n ln l=Hz l.length ln l
 | 0,ln,l,h=>by rw[AAf (Nat.le_zero.1 h)];rfl
 | _+1,_,[],_=>by rw[Hz,Hz]
 | n+1,ln,c::r,h=>by
  have hn:r.length<=n:=by rw[AAS] at h;omega
  rw[AAS,Hz,Hz]
  split
  ·exact DC n _ r hn
  ·split
   ·exact DC n _ r hn
   ·split
    ·have:=Gt r
     rw[DC n _ _ (by omega),DC r.length _ _ this]
    ·split
     ·rfl
     ·rename_i t k hp
      have:=JN hp;have hd:((c::r).drop k).length<=r.length:=by rw[AA1,AAS];omega
      rw[DC n _ _ (by omega),DC r.length _ _ hd]
termination_by _ _ l=>l.length
decreasing_by
 all_goals (first|(rw[AA1,AAS] at *;omega)|(have:=Gt r;simp only[AAS];omega))
theorem JM (ln:Int):BB ln [] = .ok []:=rfl
theorem Bn (ln:Int) (c:UInt8) (r:List UInt8):BB ln (c::r) =
  if c.toNat=10 then BB (ln+1) r
  else if c.toNat=32\/c.toNat=9 then BB ln r
  else if c.toNat=47/\(r.headD 0).toNat=47 then BB ln (FJ r)
  else match EK (c::r) with
   | none => .error ln
   | some (t,k)=>(BB ln ((c::r).drop k)).map fun o=>{ t with line:=ln }::o:=by
 unfold BB;rw[AAS,Hz]
 split
 ·rfl
 ·split
  ·rfl
  ·split
   ·rw[DC r.length _ _ (Gt r)]
   ·split
    ·rfl
    ·rename_i t k hp
     have:=JN hp;rw[DC r.length _ _ (by rw[AA1,AAS];omega)]
theorem QF {x:Nat} (h:Yl c=some x):Dl x=c:=by
 unfold Yl at h;have hc:=c.toNat_lt
 split at h
 ·rename_i hr
  injection h with h;subst h
  unfold Dl;rw[AAG (by omega)]
  apply UInt8.toNat_inj.1
  rw[UInt8.toNat_ofNat'];omega
 ·split at h
  ·injection h with h;subst h
   unfold Dl;rw[Pd (by omega)]
   apply UInt8.toNat_inj.1
   rw[UInt8.toNat_ofNat'];omega
  ·cases h
def Nq (c:UInt8):List UInt8 :=
 if c.toNat=34\/c.toNat=92 then [92,c]
 else if c.toNat=10 then [92,110]
 else if c.toNat<32\/126<c.toNat then [92,120,Dl (c.toNat / 16),Dl (c.toNat % 16)]
 else [c]
theorem af (c:UInt8):(jM c).data.toList=Nq c:=by
 unfold jM Nq
 repeat' split
 all_goals rfl
theorem GR {d:UInt8} (h:c.toNat=d.toNat):c=d:=UInt8.toNat_inj.1 h
theorem jb {b:UInt8} (h:MV l=some (b,k)) (hq:∀c r,l=c::r->c.toNat≠34):Nq b <+: l/\k=(Nq b).length:=by
 unfold MV at h
 split at h
 ·cases h
 ·rename_i c r
  have Yn:=hq c r rfl
  split at h
  ·rename_i hc
   rw[show c=92 from GR hc];rw[AAs] at h;obtain ⟨⟨b',k'⟩,h1,h2⟩:=h
   injection h2 with h2 h3
   simp only at h2 h3;subst h2 h3;unfold kY at h1
   split at h1
   ·cases h1
   ·rename_i d q
    split at h1
    ·rename_i hd
     injection h1 with h1;injection h1 with h1 h2;subst h1 h2
     unfold Nq;rw[AAG hd];exact ⟨⟨q,rfl⟩,rfl⟩
    ·rename_i hd
     split at h1
     ·rename_i hd2
      injection h1 with h1;injection h1 with h1 h2;subst h1 h2
      rw[show d=110 from GR hd2];exact ⟨⟨q,rfl⟩,rfl⟩
     ·split at h1
      ·rename_i hd3
       rw[show d=120 from GR hd3]
       split at h1
       ·rename_i a b2 q2
        split at h1
        ·rename_i x y hx hy
         split at h1
         ·rename_i hr
          injection h1 with h1;injection h1 with h1 h2
          have hx16:=XB hx;have ADT:=XB hy;have hbv:b'.toNat=16 * x+y:=by rw[<-h1,UInt8.toNat_ofNat'];omega
          subst h2;unfold Nq;rw[Pd (by omega),Pd (by omega),AAG (by omega)]
          rw[show b'.toNat / 16=x by omega,show b'.toNat % 16=y by omega,QF hx,QF hy]
          exact ⟨⟨q2,rfl⟩,rfl⟩
         ·cases h1
        ·cases h1
       ·cases h1
      ·cases h1
  ·rename_i hc
   split at h
   ·cases h
   ·rename_i hr
    injection h with h;injection h with h1 h2;subst h1 h2
    unfold Nq;rw[Pd (by omega),Pd (by omega),Pd hr]
    exact ⟨⟨r,rfl⟩,rfl⟩
theorem F5:∀ (u:Nat) (b:UInt8),b∈Lib.decDigits u->48<=b.toNat/\b.toNat<=57:=by
 intro u
 induction u using Nat.strongRecOn with
 | _ u ih =>
  intro b hb
  rw[Lib.decDigits] at hb
  split at hb
  ·rw[List.mem_singleton] at hb
   subst hb;rw[UInt8.toNat_ofNat']
   omega
  ·rw[AAo,List.mem_singleton] at hb
   rcases hb with hb|hb
   ·exact ih (u / 10) (by omega) b hb
   ·subst hb
    rw[UInt8.toNat_ofNat']
    omega
theorem Eh (u:Nat):Lib.decDigits u≠[]:=by
 rw[Lib.decDigits];split <;> simp
theorem Hr {d:Nat} (h:d<10):(UInt8.ofNat (48+d)).toNat=48+d:=by
 rw[UInt8.toNat_ofNat'];omega
theorem IA (M:Nat) (c:UInt8):∀ (l:List UInt8) (acc u:Nat),Lib.parseUintM M acc l = .ok u->Lib.parseUintM M acc (l++[c])=Lib.parseUintM M u [c]
 | [],acc,u,h=>by
  rw[Lib.parseUintM] at h
  injection h with h
  subst h;rfl
 | b::r,acc,u,h=>by
  rw[Lib.parseUintM] at h;rw[ABJ,Lib.parseUintM]
  split at h
  ·rename_i h1
   rw[AAG h1]
   split at h
   ·cases h
   ·rename_i h2
    rw[Pd h2]
    split at h
    ·cases h
    ·rename_i h3
     rw[Pd h3];exact IA M c r _ u h
  ·cases h
theorem Iu:∀ (u:Nat),u<=18446744073709551615->Lib.parseUintM 18446744073709551615 0 (Lib.decDigits u) = .ok u:=by
 intro u
 induction u using Nat.strongRecOn with
 | _ u ih =>
  intro hu
  rw[Lib.decDigits]
  split
  ·rename_i h
   have e:=Hr h;rw[Lib.parseUintM,e,AAG (by omega),Pd (by omega),Pd (by omega),Lib.parseUintM]
   congr 1;omega
  ·rw[IA _ _ _ _ _ (ih (u / 10) (by omega) (by omega))]
   have e:=Hr (show u % 10<10 by omega)
   rw[Lib.parseUintM,e,AAG (by omega),Pd (by omega),Pd (by omega),Lib.parseUintM]
   congr 1;omega
theorem Ns {v:Int} (h1:-9223372036854775808<=v) (h2:v<=9223372036854775807):Lib.parseIntB 64 (Lib.itoa v) = .ok v:=by
 have e:(2 ^ 64 - 1:Nat)=18446744073709551615:=by decide
 have e2:(2 ^ (64 - 1):Nat)=9223372036854775808:=by decide
 by_cases hn:v<0
 ·have hv:v = -(v.natAbs:Int):=by omega
  rw[hv,Lib.itoa_neg _ (by omega),Lib.parseIntB_minus,e2]
  unfold Lib.parseUintB;rw[Pd (Eh _),e,Iu _ (by omega)]
  show (if 9223372036854775808<v.natAbs then _ else _)=_
  rw[Pd (by omega)]
 ·have hv:v=(v.toNat:Int):=by omega
  rw[hv,Lib.itoa_nonneg]
  cases hd:Lib.decDigits v.toNat with
  | nil=>exact absurd hd (Eh _)
  | cons c r =>
   have hm:=F5 v.toNat c (by rw[hd];exact ABH ..)
   rw[Lib.parseIntB_plain _ _ _ (by omega) (by omega),<-hd,e2]
   unfold Lib.parseUintB;rw[Pd (Eh _),e,Iu _ (by omega)]
   show (if 9223372036854775808<=v.toNat then _ else _)=_
   rw[Pd (by omega)]
theorem bU {t:List UInt8} {v:Int}:Hg t=some v↔(-9223372036854775808<=v/\v<=9223372036854775807)/\Lib.itoa v=t:=by
 have e2:(2 ^ (64 - 1):Nat)=9223372036854775808:=by decide
 unfold Hg
 constructor
 ·intro h
  split at h
  ·rename_i u hu
   split at h
   ·rename_i hi
    injection h with h;subst h
    have:=Lib.parseIntB_bounds hu;rw[e2] at this;exact ⟨⟨by omega,by omega⟩,hi⟩
   ·cases h
  ·cases h
 ·rintro ⟨⟨h1,h2⟩,rfl⟩
  rw[Ns h1 h2];simp
def Ou (sg a:Int):List UInt8->Int
 | []=>a
 | c::r=>Ou sg (10 * a+sg * ((c.toNat:Int) - 48)) r
theorem QS (sg:Int) (c:UInt8):∀ (l:List UInt8) (a:Int),Ou sg a (l++[c])=10 * Ou sg a l+sg * ((c.toNat:Int) - 48)
 | [],_=>rfl
 | b::r,a=>by rw[ABJ,Ou,Ou,QS sg c r]
theorem UG (sg:Int):∀ (u:Nat),Ou sg 0 (Lib.decDigits u)=sg * u:=by
 intro u
 induction u using Nat.strongRecOn with
 | _ u ih =>
  rw[Lib.decDigits]
  split
  ·rename_i h
   rw[Ou,Ou,Hr h];rw[show ((48+u:Nat):Int) - 48=u by omega]
   omega
  ·rw[QS,ih (u / 10) (by omega),Hr (show u % 10<10 by omega)]
   rw[show ((48+u % 10:Nat):Int) - 48=((u % 10:Nat):Int) by omega]
   have h1:(u:Int)=10 * ((u / 10:Nat):Int)+((u % 10:Nat):Int):=by omega
   generalize ((u / 10:Nat):Int)=a at *;generalize ((u % 10:Nat):Int)=b at *;rw[h1,Int.mul_add,Int.mul_left_comm]
def jC (t:List UInt8):Int:=match t with
 | []=>0
 | c::r=>if c.toNat=45 then Ou (-1) 0 r else Ou 1 0 (c::r)
theorem Pj (v:Int):jC (Lib.itoa v)=v:=by
 by_cases hn:v<0
 ·have hv:v = -(v.natAbs:Int):=by omega
  rw[hv,Lib.itoa_neg _ (by omega)]
  unfold jC;simp only;rw[AAG (show (45:UInt8).toNat=45 from rfl),UG];omega
 ·have hv:v=(v.toNat:Int):=by omega
  rw[hv,Lib.itoa_nonneg]
  cases hd:Lib.decDigits v.toNat with
  | nil=>exact absurd hd (Eh _)
  | cons c r =>
   have hm:=F5 v.toNat c (by rw[hd];exact ABH ..)
   unfold jC;simp only;rw[Pd (by omega),<-hd,UG];omega
def BO:List (List UInt8):=[[45,62],[46,46],[123],[125],[40],[41],[91],[93],[44],[59],[58],[61],[46],[33],[63],[64],[42],[124]]
variable {r:List UInt8}
theorem SN {d:UInt8} (h:(c.toNat=45/\d.toNat=62)\/(c.toNat=46/\d.toNat=46)):FM (c::d::r)=some 2:=by
 rw[FM]
 rcases h with h|h
 ·rw[AAG (show c.toNat=45/\((d::r).headD 0).toNat=62 from h)]
 ·rw[Pd (fun hc:c.toNat=45/\_=>by have:=hc.1;omega),AAG (show c.toNat=46/\((d::r).headD 0).toNat=46 from h)]
def TG (n:Nat):Prop:=n=123\/n=125\/n=40\/n=41\/n=91\/n=93\/n=44\/n=59\/n=58\/n=61\/n=46\/n=33\/n=63\/n=64\/n=42\/n=124
theorem aB (h:¬ (c.toNat=45/\(r.headD 0).toNat=62)) (h2:¬ (c.toNat=46/\(r.headD 0).toNat=46)) (h3:TG c.toNat):FM (c::r)=some 1:=by
 rw[FM,Pd h,Pd h2];exact AAG h3
theorem WL (h:¬ (c.toNat=45/\(r.headD 0).toNat=62)) (h2:¬ (c.toNat=46/\(r.headD 0).toNat=46)) (h3:¬ TG c.toNat):FM (c::r)=none:=by
 rw[FM,Pd h,Pd h2];exact Pd h3
theorem Ky {x y:UInt8} (hy:y.toNat≠0) (h:¬ [x,y] <+: c::r):¬ (c.toNat=x.toNat/\(r.headD 0).toNat=y.toNat):=by
 rintro ⟨h1,h2⟩
 cases r with
 | nil=>exact hy (by rw[<-h2];rfl)
 | cons d q =>
  rw[List.headD_cons] at h2;exact h ⟨q,by rw[GR h1,GR h2];rfl⟩
theorem Xm {i:Nat} (hi:i<BO.length) (hp:BO[i] <+: l) (hn:∀j (hj:j<i),¬ BO[j]'(Nat.lt_trans hj hi) <+: l):
  FM l=some BO[i].length/\l.take BO[i].length=BO[i]:=by
 refine ⟨?_,(List.prefix_iff_eq_take.1 hp).symm⟩;obtain ⟨r,rfl⟩:=hp
 by_cases i0:i=0
 ·subst i0;exact SN (Or.inl ⟨rfl,rfl⟩)
 by_cases i1:i=1
 ·subst i1;exact SN (Or.inr ⟨rfl,rfl⟩)
 have n0:=hn 0 (by omega)
 have n1:=hn 1 (by omega)
 have hT:∀k:Fin 18,2<=k.1->BO[k.1]'(k.2)=[(BO[k.1]'(k.2)).headD 0]/\TG ((BO[k.1]'(k.2)).headD 0).toNat:=by
  unfold TG
  decide
 obtain ⟨hc,h1⟩:=hT ⟨i,hi⟩ (by simp only;omega)
 generalize (BO[(⟨i,hi⟩:Fin 18).1]'(⟨i,hi⟩:Fin 18).2).headD 0=c at hc h1;have hc2:BO[i]=[c]:=hc;clear hT hn;rw[hc2] at n0 n1 ⊢;exact aB (Ky (x:=45) (y:=62) (by decide) n0) (Ky (x:=46) (y:=46) (by decide) n1) h1
theorem aA (hn:∀j (hj:j<BO.length),¬ BO[j] <+: l):FM l=none:=by
 cases l with
 | nil=>rfl
 | cons c r =>
  refine WL (Ky (x:=45) (y:=62) (by decide) (hn 0 (by decide))) (Ky (x:=46) (y:=46) (by decide) (hn 1 (by decide))) fun h=>?_
  have hT:∀d:UInt8,TG d.toNat->∃k:Fin 18,BO[k.1]'(k.2)=[d]:=fun d hd=>by
   have:∀n:Nat,TG n->∃k:Fin 18,BO[k.1]'(k.2)=[UInt8.ofNat n]:=fun n hn=>by
    unfold TG at hn
    rcases hn with h|h|h|h|h|h|h|h|h|h|h|h|h|h|h|h <;> subst h <;> decide
   have:=this _ hd
   rwa [UInt8.ofNat_toNat] at this
  obtain ⟨k,hk⟩:=hT c h;exact hn k.1 k.2 (by rw[hk];exact ⟨r,rfl⟩)
theorem Xk:∀x∈BO,x.length=1\/x.length=2:=by decide
theorem bM (hn:n<=l.length) (h1:∀i (h:i<l.length),i<n->(CP l[i]||zZ l[i])=true) (h2:∀h:n<l.length,(CP l[n]||zZ l[n])=false):Fq l=n:=by
 induction l generalizing n with
 | nil=>simp at hn;subst hn;rfl
 | cons c r ih =>
  cases n with
  | zero =>
   have:=h2 (by simp)
   rw[Fq,Pd (by simpa using this)]
  | succ n =>
   have:=h1 0 (by simp) (by omega)
   rw[Fq,AAG (by simpa using this)]
   rw[ih (n:=n) (by simpa using hn) (fun i hi hin=>by have:=h1 (i+1) (by simpa using hi) (by omega);simpa using this) (fun h=>by have:=h2 (by simpa using h);simpa using this)]
theorem dK (hn:n<=l.length) (h1:∀i (h:i<l.length),i<n->zZ l[i]=true) (h2:∀h:n<l.length,zZ l[n]=false):Dx l=n:=by
 induction l generalizing n with
 | nil=>simp at hn;subst hn;rfl
 | cons c r ih =>
  cases n with
  | zero =>
   have:=h2 (by simp)
   rw[Dx,Pd (by simpa using this)]
  | succ n =>
   have:=h1 0 (by simp) (by omega)
   rw[Dx,AAG (by simpa using this)]
   rw[ih (n:=n) (by simpa using hn) (fun i hi hin=>by have:=h1 (i+1) (by simpa using hi) (by omega);simpa using this) (fun h=>by have:=h2 (by simpa using h);simpa using this)]
abbrev PR (α:Type):=Except Int (α×List AQ×Bool)
def FY (k:Int):List AQ->Except Int (AQ×List AQ)
 | t::l=>if t.kind=k then .ok (t,l) else .error 2
 | [] => .error 2
def Dj (s:ByteArray):List AQ->Bool
 | t::_=>decide (t.kind=4)&&decide (t.text=s)
 | []=>false
def Ee (s:ByteArray) (l:List AQ):Except Int (List AQ):=if Dj s l=true then .ok l.tail else .error 2
def kF (m:Bool) (n:Int):Int:=if m=true/\(n<0\/1000000<n) then 0 else n
def tu (x:Ae) (n:Int):Bool:=x.Aj.any fun y=>decide (y.id=n)
def Tt (m:Bool) (x:Ae) (l:List AQ) (k:Bool):PR Int :=
 if Dj ⟨#[64]⟩ l=true then (FY 2 l.tail).bind fun p =>
  if tu x (kF m p.1.int)=true then (if m=true then .ok (0,p.2,k) else .ok (kF m p.1.int,p.2,true)) else .ok (kF m p.1.int,p.2,k)
 else (FY 1 l).bind fun p =>
  match x.Aj.find? fun y=>decide (y.name=p.1.text) with
  | some y => .ok (y.id,p.2,k)
  | none => .error 4
def Lb {α:Type} (part:List AQ->Bool->PR α):Nat->List AQ->Bool->PR (List α)
 | 0,_,_ => .error 0
 | n+1,l,k=>(part l k).bind fun p =>
  if Dj ⟨#[44]⟩ p.2.1=true then (Lb part n p.2.1.tail p.2.2).bind fun q => .ok (p.1::q.1,q.2) else .ok ([p.1],p.2)
section
variable (m:Bool) (f:Int->List AQ->Bool->PR Val)
def MZ (x:Ae) (l:List AQ) (k:Bool):PR (List Val) :=
 (Ee ⟨#[91]⟩ l).bind fun l1=>if Dj ⟨#[93]⟩ l1=true then .ok ([],l1.tail,k) else
  (Lb (f x.elem) (l1.length+1) l1 k).bind fun p=>(Ee ⟨#[93]⟩ p.2.1).bind fun l2 => .ok (p.1,l2,p.2.2)
def OG (x:Ae) (l:List AQ) (k:Bool):PR (Val×Val) :=
 (f x.key l k).bind fun p=>(Ee ⟨#[45,62]⟩ p.2.1).bind fun l1=>(f x.elem l1 p.2.2).bind fun q => .ok ((p.1,q.1),q.2)
def TP (x:Ae) (l:List AQ) (k:Bool):PR (List (Val×Val)) :=
 (Ee ⟨#[91]⟩ l).bind fun l1=>if Dj ⟨#[45,62]⟩ l1=true then (Ee ⟨#[93]⟩ l1.tail).bind fun l2 => .ok ([],l2,k)
  else if Dj ⟨#[93]⟩ l1=true then .error 2
  else (Lb (OG f x) (l1.length+1) l1 k).bind fun p=>(Ee ⟨#[93]⟩ p.2.1).bind fun l2 => .ok (p.1,l2,p.2.2)
def Iw (x:Ae) (l:List AQ) (k:Bool):PR (List Val) :=
 (FY 1 l).bind fun p=>if p.1.text=⟨#[110,111,110,101]⟩ then .ok ([],p.2,k)
  else if p.1.text=⟨#[115,111,109,101]⟩ then (Ee ⟨#[40]⟩ p.2).bind fun l2=>(f x.elem l2 k).bind fun q=>(Ee ⟨#[41]⟩ q.2.1).bind fun l4 => .ok ([q.1],l4,q.2.2)
  else .error 2
def CY:Bool->List AZ->List AQ->Bool->PR (List Val)
 | _,[],l,k => .ok ([],l,k)
 | first,y::ms,l,k=>(if first=true then .ok l else Ee ⟨#[44]⟩ l).bind fun l0=>(FY 1 l0).bind fun p =>
  if p.1.text=y.name then (Ee ⟨#[58]⟩ p.2).bind fun l2=>(f y.type l2 k).bind fun q=>(CY false ms q.2.1 q.2.2).bind fun r => .ok (q.1::r.1,r.2)
  else .error 4
def H9:Nat->Bool->List AQ->Except Int (List Ak×List AQ)
 | 0,_,_ => .error 0
 | n+1,first,l=>if Dj ⟨#[125]⟩ l=true then .ok ([],l) else
  (if first=true then .ok l else Ee ⟨#[44]⟩ l).bind fun l1=>(FY 2 l1).bind fun p=>(Ee ⟨#[58]⟩ p.2).bind fun l3=>(FY 3 l3).bind fun q =>
   (H9 n false q.2).bind fun r => .ok (⟨kF m p.1.int,q.1.str⟩::r.1,r.2)
def Kj (x:Ae) (l:List AQ) (k:Bool):PR (List Val×List Ak) :=
 (Ee ⟨#[123]⟩ l).bind fun l1=>(CY f true x.AA l1 k).bind fun p=>(H9 m (p.2.1.length+1) x.AA.isEmpty p.2.1).bind fun q =>
  (Ee ⟨#[125]⟩ q.2).bind fun l2 => .ok ((p.1,q.1),l2,p.2.2)
def SC (x:Ae) (l:List AQ) (k:Bool):PR (Int×List Val×List Ak) :=
 if Dj ⟨#[64]⟩ l=true then (FY 2 l.tail).bind fun p=>(Ee ⟨#[40]⟩ p.2).bind fun l2=>(FY 3 l2).bind fun q=>(Ee ⟨#[41]⟩ q.2).bind fun l4 =>
  .ok ((kF m p.1.int,[],[⟨kF m p.1.int,q.1.str⟩]),l4,k)
 else (FY 1 l).bind fun p =>
  match x.AA.find? fun y=>decide (y.name=p.1.text) with
  | none => .error 4
  | some y=>(Ee ⟨#[40]⟩ p.2).bind fun l2=>(f y.type l2 k).bind fun q=>(Ee ⟨#[41]⟩ q.2.1).bind fun l4 => .ok ((y.id,[q.1],[]),l4,q.2.2)
def UC (l:List AQ) (k:Bool):PR Bool :=
 (FY 1 l).bind fun p=>if p.1.text=⟨#[116,114,117,101]⟩ then .ok (true,p.2,k) else if p.1.text=⟨#[102,97,108,115,101]⟩ then .ok (false,p.2,k) else .error 2
def FW (x:Ae) (l:List AQ) (k:Bool):PR Val :=
 if x.kind=1 then (UC l k).bind fun p => .ok (.mk 1 p.1 0 ⟨#[]⟩ 0 [] [] [],p.2)
 else if x.kind=2 then (FY 2 l).bind fun p => .ok (.mk 2 false p.1.int ⟨#[]⟩ 0 [] [] [],p.2,k)
 else if x.kind=3 then (FY 3 l).bind fun p => .ok (.mk 3 false 0 p.1.str 0 [] [] [],p.2,k)
 else if x.kind=4 then (Tt m x l k).bind fun p => .ok (.mk 4 false 0 ⟨#[]⟩ p.1 [] [] [],p.2)
 else if x.kind=5 then (Kj m f x l k).bind fun p => .ok (.mk 5 false 0 ⟨#[]⟩ 0 [] p.1.1 p.1.2,p.2)
 else if x.kind=6 then (SC m f x l k).bind fun p => .ok (.mk 6 false 0 ⟨#[]⟩ p.1.1 [] p.1.2.1 p.1.2.2,p.2)
 else if x.kind=7 then (MZ f x l k).bind fun p => .ok (.mk 7 false 0 ⟨#[]⟩ 0 [] p.1 [],p.2)
 else if x.kind=8 then (TP f x l k).bind fun p => .ok (.mk 8 false 0 ⟨#[]⟩ 0 (p.1.map Prod.fst) (p.1.map Prod.snd) [],p.2)
 else (Iw f x l k).bind fun p => .ok (.mk 9 false 0 ⟨#[]⟩ 0 [] p.1 [],p.2)
end
def NZ (m:Bool) (s:List Ae):Nat->Int->List AQ->Bool->PR Val
 | 0,_,_,_ => .error 0
 | n+1,t,l,k=>FW m (NZ m s n) (AB s t) l k
def Fa (m:Bool) (s:List Ae) (t:Int) (l:List AQ):PR Val:=NZ m s (l.length+1) t l false
theorem zM {α β:Type} (a:α) (g:α->Except Int β):(Except.ok a:Except Int α).bind g=g a:=rfl
theorem K6 {α β:Type} (e:Int) (g:α->Except Int β):(Except.error e:Except Int α).bind g = .error e:=rfl
theorem zS {α β:Type} {a:Except Int α} {g:α->Except Int β} {b:β} (h:a.bind g = .ok b):∃x,a = .ok x/\g x = .ok b:=by
 cases a with
 | error e=>cases h
 | ok x=>exact ⟨x,rfl,h⟩
theorem dR {α β:Type} {a:Except Int α} {g:α->Except Int β} {e:Int} (h:a.bind g = .error e):a = .error e\/∃x,a = .ok x/\g x = .error e:=by
 cases a with
 | error e'=>exact Or.inl (by injection h with h;rw[h])
 | ok x=>exact Or.inr ⟨x,rfl,h⟩
def Lt (a b:List AQ):Prop:=a <:+ b/\a.length<b.length
variable {a b:List AQ}
theorem Lt.WN (h:Lt a b):a <:+ b:=h.1
theorem Lt.then {c:List AQ} (h:a <:+ b) (h2:Lt b c):Lt a c:=⟨h.trans h2.1,Nat.lt_of_le_of_lt h.length_le h2.2⟩
theorem Lt.then' {c:List AQ} (h:Lt a b) (h2:b <:+ c):Lt a c:=⟨h.1.trans h2,AAq h.2 h2.length_le⟩
theorem Bo {k:Int} {l:List AQ} {t:AQ} {r:List AQ} (h:FY k l = .ok (t,r)):Lt r l/\l=t::r/\t.kind=k:=by
 cases l with
 | nil=>cases h
 | cons u q =>
  rw[FY] at h
  split at h
  ·rename_i hk
   injection h with h;injection h with h1 h2;subst h1 h2
   exact ⟨⟨List.suffix_cons _ _,by simp⟩,rfl,hk⟩
  ·cases h
variable {s:ByteArray}
theorem I6 {l:List AQ} (h:Dj s l=true):∃t r,l=t::r/\t.kind=4/\t.text=s:=by
 cases l with
 | nil=>cases h
 | cons t r =>
  rw[Dj,AAJ,AAd,AAd] at h;exact ⟨t,r,rfl,h.1,h.2⟩
theorem Di {l:List AQ} (h:Dj s l=true):Lt l.tail l:=by
 obtain ⟨t,r,rfl,_⟩:=I6 h;exact ⟨List.suffix_cons _ _,by simp⟩
theorem zU {l r:List AQ} (h:Ee s l = .ok r):Lt r l/\Dj s l=true/\r=l.tail:=by
 unfold Ee at h
 split at h
 ·rename_i hi
  injection h with h;subst h
  exact ⟨Di hi,hi,rfl⟩
 ·cases h
def Dec {α:Type} (part:List AQ->Bool->PR α):Prop:=∀l k x r k',part l k = .ok (x,r,k')->Lt r l
section
variable {α:Type} {part part':List AQ->Bool->PR α}
theorem Qn (hp:Dec part):∀ (n:Nat) l k xs r k',Lb part n l k = .ok (xs,r,k')->Lt r l
 | 0,_,_,_,_,_,h=>by cases h
 | n+1,l,k,xs,r,k',h=>by
  rw[Lb] at h;obtain ⟨⟨x,l1,k1⟩,h1,h2⟩:=zS h;have g1:=hp _ _ _ _ _ h1;simp only at h2
  split at h2
  ·rename_i hi
   obtain ⟨⟨q,l2,k2⟩,h3,h4⟩:=zS h2
   injection h4 with h4;injection h4 with h4 h5;injection h5 with h5 h6
   subst h5;exact ((Qn hp n _ _ _ _ _ h3).then' (Di hi).1).then' g1.1
  ·injection h2 with h2;injection h2 with h4 h5;injection h5 with h5 h6
   subst h5;exact g1
theorem He (l0:List AQ) (hd:Dec part) (he:∀l k,l <:+ l0->part l k=part' l k):∀ (n n':Nat) l k,l <:+ l0->l.length<n->l.length<n'->Lb part n l k=Lb part' n' l k
 | 0,_,_,_,_,h,_=>absurd h (Nat.not_lt_zero _)
 | _,0,_,_,_,_,h=>absurd h (Nat.not_lt_zero _)
 | n+1,n'+1,l,k,hl,h1,h2=>by
  rw[Lb,Lb,<-he l k hl]
  cases hp:part l k with
  | error e=>rfl
  | ok p =>
   obtain ⟨x,l1,k1⟩:=p;have g1:=hd _ _ _ _ _ hp;rw[zM,zM];simp only
   split
   ·rename_i hi
    have g2:=Di hi;have g3:=g2.2;have g4:=g1.2;rw[He l0 hd he n n' l1.tail k1 ((g2.1.trans g1.1).trans hl) (by omega) (by omega)]
   ·rfl
end
theorem Lt.trans {c:List AQ} (h:Lt a b) (h2:Lt b c):Lt a c:=h.then' h2.1
section
variable {m:Bool} {f g:Int->List AQ->Bool->PR Val}
theorem OH (hf:∀t,Dec (f t)) (x:Ae):Dec (OG f x):=fun l k v r k' h=>by
 unfold OG at h;obtain ⟨⟨a,l1,k1⟩,h1,h⟩:=zS h;obtain ⟨l2,h2,h⟩:=zS h;obtain ⟨⟨b,l3,k3⟩,h3,h⟩:=zS h
 injection h with h;injection h with h4 h5;injection h5 with h5 h6
 subst h5;exact ((hf _ _ _ _ _ _ h3).trans (zU h2).1).trans (hf _ _ _ _ _ _ h1)
theorem TL (hf:∀t,Dec (f t)):∀ (ms:List AZ) (first:Bool) l k v r k',CY f first ms l k = .ok (v,r,k')->r <:+ l
 | [],_,l,k,v,r,k',h=>by
  rw[CY] at h
  injection h with h;injection h with h4 h5;injection h5 with h5 h6
  subst h5;exact List.suffix_refl _
 | y::ms,first,l,k,v,r,k',h=>by
  rw[CY] at h;obtain ⟨l0,h0,h⟩:=zS h;have g0:l0 <:+ l:=by
   split at h0
   ·injection h0 with h0;subst h0;exact List.suffix_refl _
   ·exact (zU h0).1.1
  obtain ⟨⟨t,l1⟩,h1,h⟩:=zS h;simp only at h
  split at h
  ·obtain ⟨l2,h2,h⟩:=zS h
   obtain ⟨⟨a,l3,k3⟩,h3,h⟩:=zS h;obtain ⟨⟨b,l4,k4⟩,h4,h⟩:=zS h
   injection h with h;injection h with h5 h6;injection h6 with h6 h7
   subst h6;exact (((TL hf ms false _ _ _ _ _ h4).trans (hf _ _ _ _ _ _ h3).1).trans ((zU h2).1.1.trans (Bo h1).1.1)).trans g0
  ·cases h
theorem Sm:∀ (n:Nat) (first:Bool) l v r,H9 m n first l = .ok (v,r)->r <:+ l
 | 0,_,_,_,_,h=>by cases h
 | n+1,first,l,v,r,h=>by
  rw[H9] at h
  split at h
  ·injection h with h;injection h with h4 h5
   subst h5;exact List.suffix_refl _
  ·obtain ⟨l0,h0,h⟩:=zS h
   have g0:l0 <:+ l:=by
    split at h0
    ·injection h0 with h0;subst h0;exact List.suffix_refl _
    ·exact (zU h0).1.1
   obtain ⟨⟨t,l1⟩,h1,h⟩:=zS h;obtain ⟨l2,h2,h⟩:=zS h;obtain ⟨⟨q,l3⟩,h3,h⟩:=zS h;obtain ⟨⟨b,l4⟩,h4,h⟩:=zS h
   injection h with h;injection h with h5 h6
   subst h6;exact ((Sm n false _ _ _ h4).trans (Bo h3).1.1).trans (((zU h2).1.1.trans (Bo h1).1.1).trans g0)
variable {x:Ae}
theorem dB:Dec (Tt m x):=fun l k v r k' h=>by
 unfold Tt at h
 split at h
 ·rename_i hi
  obtain ⟨⟨t,l1⟩,h1,h⟩:=zS h;have g:=(Bo h1).1.trans (Di hi);simp only at h
  split at h
  ·split at h
   ·injection h with h;injection h with h4 h5;injection h5 with h5 h6;subst h5;exact g
   ·injection h with h;injection h with h4 h5;injection h5 with h5 h6;subst h5;exact g
  ·injection h with h;injection h with h4 h5;injection h5 with h5 h6;subst h5;exact g
 ·obtain ⟨⟨t,l1⟩,h1,h⟩:=zS h
  simp only at h
  split at h
  ·injection h with h;injection h with h4 h5;injection h5 with h5 h6;subst h5;exact (Bo h1).1
  ·cases h
theorem bL (hf:∀t,Dec (f t)):Dec (MZ f x):=fun l k v r k' h=>by
 unfold MZ at h;obtain ⟨l1,h1,h⟩:=zS h;have g:=(zU h1).1
 split at h
 ·rename_i hi
  injection h with h;injection h with h4 h5;injection h5 with h5 h6;subst h5
  exact (Di hi).trans g
 ·obtain ⟨⟨a,l2,k2⟩,h2,h⟩:=zS h
  obtain ⟨l3,h3,h⟩:=zS h
  injection h with h;injection h with h4 h5;injection h5 with h5 h6;subst h5
  exact ((zU h3).1.trans (Qn (hf _) _ _ _ _ _ _ h2)).trans g
theorem jq (hf:∀t,Dec (f t)):Dec (TP f x):=fun l k v r k' h=>by
 unfold TP at h;obtain ⟨l1,h1,h⟩:=zS h;have g:=(zU h1).1
 split at h
 ·rename_i hi
  obtain ⟨l3,h3,h⟩:=zS h
  injection h with h;injection h with h4 h5;injection h5 with h5 h6;subst h5
  exact ((zU h3).1.trans (Di hi)).trans g
 ·split at h
  ·cases h
  ·obtain ⟨⟨a,l2,k2⟩,h2,h⟩:=zS h
   obtain ⟨l3,h3,h⟩:=zS h
   injection h with h;injection h with h4 h5;injection h5 with h5 h6;subst h5
   exact ((zU h3).1.trans (Qn (OH hf x) _ _ _ _ _ _ h2)).trans g
theorem jZ (hf:∀t,Dec (f t)):Dec (Iw f x):=fun l k v r k' h=>by
 unfold Iw at h;obtain ⟨⟨t,l1⟩,h1,h⟩:=zS h;have g:=(Bo h1).1;simp only at h
 split at h
 ·injection h with h;injection h with h4 h5;injection h5 with h5 h6;subst h5
  exact g
 ·split at h
  ·obtain ⟨l2,h2,h⟩:=zS h
   obtain ⟨⟨a,l3,k3⟩,h3,h⟩:=zS h;obtain ⟨l4,h4,h⟩:=zS h
   injection h with h;injection h with h4' h5;injection h5 with h5 h6;subst h5
   exact (((zU h4).1.trans (hf _ _ _ _ _ _ h3)).trans (zU h2).1).trans g
  ·cases h
theorem iw (hf:∀t,Dec (f t)):Dec (Kj m f x):=fun l k v r k' h=>by
 unfold Kj at h;obtain ⟨l1,h1,h⟩:=zS h;obtain ⟨⟨a,l2,k2⟩,h2,h⟩:=zS h;obtain ⟨⟨b,l3⟩,h3,h⟩:=zS h;obtain ⟨l4,h4,h⟩:=zS h
 injection h with h;injection h with h4' h5;injection h5 with h5 h6;subst h5
 exact (((zU h4).1.then' (Sm _ _ _ _ _ h3)).then' (TL hf _ _ _ _ _ _ _ h2)).trans (zU h1).1
theorem gu (hf:∀t,Dec (f t)):Dec (SC m f x):=fun l k v r k' h=>by
 unfold SC at h
 split at h
 ·rename_i hi
  obtain ⟨⟨t,l1⟩,h1,h⟩:=zS h;obtain ⟨l2,h2,h⟩:=zS h;obtain ⟨⟨q,l3⟩,h3,h⟩:=zS h;obtain ⟨l4,h4,h⟩:=zS h
  injection h with h;injection h with h4' h5;injection h5 with h5 h6;subst h5
  exact (((zU h4).1.trans (Bo h3).1).trans (zU h2).1).trans ((Bo h1).1.trans (Di hi))
 ·obtain ⟨⟨t,l1⟩,h1,h⟩:=zS h
  simp only at h
  split at h
  ·cases h
  ·obtain ⟨l2,h2,h⟩:=zS h
   obtain ⟨⟨a,l3,k3⟩,h3,h⟩:=zS h;obtain ⟨l4,h4,h⟩:=zS h
   injection h with h;injection h with h4' h5;injection h5 with h5 h6;subst h5
   exact (((zU h4).1.trans (hf _ _ _ _ _ _ h3)).trans (zU h2).1).trans (Bo h1).1
theorem dO:Dec UC:=fun l k v r k' h=>by
 unfold UC at h;obtain ⟨⟨t,l1⟩,h1,h⟩:=zS h;simp only at h
 split at h
 ·injection h with h;injection h with h4 h5;injection h5 with h5 h6;subst h5;exact (Bo h1).1
 ·split at h
  ·injection h with h;injection h with h4 h5;injection h5 with h5 h6;subst h5;exact (Bo h1).1
  ·cases h
theorem gY (hf:∀t,Dec (f t)):Dec (FW m f x):=fun l k v r k' h=>by
 have H:∀ {α:Type} {a:PR α} {G:α×List AQ×Bool->PR Val},a.bind G = .ok (v,r,k')->(∀p,∃w,G p = .ok (w,p.2))->(∀z,a = .ok (z,r,k')->Lt r l)->Lt r l:=fun {α a G} hb hG hz=>by
  obtain ⟨⟨z,r',k''⟩,h1,h2⟩:=zS hb;obtain ⟨w,hw⟩:=hG (z,r',k'');rw[hw] at h2
  injection h2 with h2;injection h2 with h3 h4
  simp only at h4;rw[h4] at h1;exact hz z h1
 have HT:∀ {j:Int} {G:AQ×List AQ->PR Val},(FY j l).bind G = .ok (v,r,k')->(∀p,∃w,G p = .ok (w,p.2,k))->Lt r l:=fun {j G} hb hG=>by
  obtain ⟨⟨z,r'⟩,h1,h2⟩:=zS hb;obtain ⟨w,hw⟩:=hG (z,r');rw[hw] at h2
  injection h2 with h2;injection h2 with h3 h4;injection h4 with h4 h5
  simp only at h4;subst h4;exact (Bo h1).1
 unfold FW at h
 repeat' split at h
 ·exact H h (fun p=>⟨_,rfl⟩) fun z hz=>dO _ _ _ _ _ hz
 ·exact HT h fun p=>⟨_,rfl⟩
 ·exact HT h fun p=>⟨_,rfl⟩
 ·exact H h (fun p=>⟨_,rfl⟩) fun z hz=>dB _ _ _ _ _ hz
 ·exact H h (fun p=>⟨_,rfl⟩) fun z hz=>iw hf _ _ _ _ _ hz
 ·exact H h (fun p=>⟨_,rfl⟩) fun z hz=>gu hf _ _ _ _ _ hz
 ·exact H h (fun p=>⟨_,rfl⟩) fun z hz=>bL hf _ _ _ _ _ hz
 ·exact H h (fun p=>⟨_,rfl⟩) fun z hz=>jq hf _ _ _ _ _ hz
 ·exact H h (fun p=>⟨_,rfl⟩) fun z hz=>jZ hf _ _ _ _ _ hz
end
theorem ND (m:Bool) (s:List Ae):∀n t,Dec (NZ m s n t)
 | 0,_=>fun _ _ _ _ _ h=>by cases h
 | n+1,t=>fun l k v r k' h=>gY (fun u=>ND m s n u) l k v r k' h
theorem zY {α β:Type} {a:Except Int α} {g h:α->Except Int β} (H:∀x,a = .ok x->g x=h x):a.bind g=a.bind h:=by
 cases a with
 | error e=>rfl
 | ok x=>exact H x rfl
section
variable {m:Bool} {f g:Int->List AQ->Bool->PR Val}
def MG (f g:Int->List AQ->Bool->PR Val) (l:List AQ):Prop:=∀t r k,r <:+ l->f t r k=g t r k
def JG (f g:Int->List AQ->Bool->PR Val) (l:List AQ):Prop:=∀t r k,Lt r l->f t r k=g t r k
variable {l:List AQ}
theorem JG.to {l1:List AQ} (h:JG f g l) (h1:Lt l1 l):MG f g l1:=fun t r k hr=>h t r k (Lt.then hr h1)
theorem MG.of {l1:List AQ} (h:MG f g l) (h1:l1 <:+ l):MG f g l1:=fun t r k hr=>h t r k (hr.trans h1)
variable {x:Ae}
theorem Yt (hf:∀t,Dec (f t)) (h:MG f g l) (k:Bool):OG f x l k=OG g x l k:=by
 unfold OG;rw[<-h x.key l k (List.suffix_refl _)];refine zY fun p hp=>?_
 obtain ⟨a,l1,k1⟩:=p;have g1:=(hf _ _ _ _ _ _ hp).1;refine zY fun l2 h2=>?_
 have g2:=(zU h2).1.1;simp only;rw[h x.elem l2 k1 (g2.trans g1)]
theorem Nw (hf:∀t,Dec (f t)):∀ (ms:List AZ) (first:Bool) (l:List AQ) (k:Bool),MG f g l->CY f first ms l k=CY g first ms l k
 | [],_,l,k,_=>rfl
 | y::ms,first,l,k,h=>by
  rw[CY,CY];refine zY fun l0 h0=>?_
  have g0:l0 <:+ l:=by
   split at h0
   ·injection h0 with h0;subst h0;exact List.suffix_refl _
   ·exact (zU h0).1.1
  refine zY fun p h1=>?_
  obtain ⟨t,l1⟩:=p;have g1:=(Bo h1).1.1;simp only
  split
  ·refine zY fun l2 h2=>?_
   have g2:=(zU h2).1.1;have g3:l2 <:+ l:=g2.trans (g1.trans g0);rw[<-h y.type l2 k g3];refine zY fun q h3=>?_
   obtain ⟨a,l3,k3⟩:=q;have g4:=(hf _ _ _ _ _ _ h3).1;simp only;rw[Nw hf ms false l3 k3 (h.of (g4.trans g3))]
  ·rfl
theorem VH (hf:∀t,Dec (f t)) (h:JG f g l) (k:Bool):MZ f x l k=MZ g x l k:=by
 unfold MZ;refine zY fun l1 h1=>?_
 have g1:=(zU h1).1
 split
 ·rfl
 ·rw[He l1 (hf _) (fun r k hr=>h x.elem r k (Lt.then hr g1)) (l1.length+1) (l1.length+1) l1 k (List.suffix_refl _) (by omega) (by omega)]
theorem YP (hf:∀t,Dec (f t)) (h:JG f g l) (k:Bool):TP f x l k=TP g x l k:=by
 unfold TP;refine zY fun l1 h1=>?_
 have g1:=(zU h1).1
 split
 ·rfl
 ·split
  ·rfl
  ·rw[He l1 (OH hf x) (fun r k hr=>Yt hf ((h.to g1).of hr) k) (l1.length+1) (l1.length+1) l1 k (List.suffix_refl _) (by omega) (by omega)]
theorem YD (h:JG f g l) (k:Bool):Iw f x l k=Iw g x l k:=by
 unfold Iw;refine zY fun p h1=>?_
 obtain ⟨t,l1⟩:=p;have g1:=(Bo h1).1;simp only
 split
 ·rfl
 ·split
  ·refine zY fun l2 h2=>?_
   rw[h x.elem l2 k ((zU h2).1.trans g1)]
  ·rfl
theorem X0 (hf:∀t,Dec (f t)) (h:JG f g l) (k:Bool):Kj m f x l k=Kj m g x l k:=by
 unfold Kj;refine zY fun l1 h1=>?_
 rw[Nw hf x.AA true l1 k (h.to (zU h1).1)]
theorem Xf (h:JG f g l) (k:Bool):SC m f x l k=SC m g x l k:=by
 unfold SC
 split
 ·rfl
 ·refine zY fun p h1=>?_
  obtain ⟨t,l1⟩:=p;have g1:=(Bo h1).1;simp only
  split
  ·rfl
  ·rename_i y _
   refine zY fun l2 h2=>?_
   rw[h y.type l2 k ((zU h2).1.trans g1)]
theorem PI (hf:∀t,Dec (f t)) (h:JG f g l) (k:Bool):FW m f x l k=FW m g x l k:=by
 unfold FW;rw[VH hf h,YP hf h,YD h,X0 hf h,Xf h]
end
theorem PG (m:Bool) (s:List Ae):∀ (n n':Nat) (t:Int) (l:List AQ) (k:Bool),l.length<n->l.length<n'->NZ m s n t l k=NZ m s n' t l k
 | 0,_,_,_,_,h,_=>absurd h (Nat.not_lt_zero _)
 | _,0,_,_,_,_,h=>absurd h (Nat.not_lt_zero _)
 | n+1,n'+1,t,l,k,h1,h2=>by
  rw[NZ,NZ];refine PI (ND m s n) (fun u r k' hr=>?_) k
  have:=hr.2;exact PG m s n n' u r k' (by omega) (by omega)
def CU (m:Bool) (s:List Ae) (t:Int) (l:List AQ) (k:Bool):PR Val:=NZ m s (l.length+1) t l k
theorem gX (m:Bool) (s:List Ae) (t:Int) (l:List AQ) (k:Bool):CU m s t l k=FW m (CU m s) (AB s t) l k:=by
 unfold CU;rw[NZ];refine PI (ND m s _) (fun u r k' hr=>?_) k
 have:=hr.2;exact PG m s _ _ u r k' (by omega) (by omega)
def okV (s:List Ae) (t:Int) (v:Val):Prop:=∃n,AU s false n t v=true
section
variable {α β γ:Type} {bad:α->Prop} {AEI:β->Prop} {AEH:γ->Prop} {k:Bool}
end
def AAV (x:Ae):Prop:=(∀y∈x.Aj,1<=y.id/\y.id<=1000)/\∀y∈x.AA,1<=y.id/\y.id<=1000
section
variable {s:List Ae} {f f':Int->List AQ->Bool->PR Val}
end
section
variable {s:List Ae} {f f':Int->List AQ->Bool->PR Val} {t:Int} {k:Bool}
end
def Uo {α:Type} (part:List AQ->Bool->PR α) (l:List AQ) (k:Bool):PR (List α):=Lb part (l.length+1) l k
theorem Qm {α:Type} {part:List AQ->Bool->PR α} (hd:Dec part) (l:List AQ) (k:Bool):Uo part l k=(part l k).bind fun p =>
  if Dj ⟨#[44]⟩ p.2.1=true then (Uo part p.2.1.tail p.2.2).bind fun q => .ok (p.1::q.1,q.2) else .ok ([p.1],p.2):=by
 unfold Uo;rw[Lb];refine zY fun p hp=>?_
 obtain ⟨x,l1,k1⟩:=p;simp only
 split
 ·rename_i hi
  have g1:=(hd _ _ _ _ _ hp).2;have g2:=(Di hi).2;rw[He l1.tail hd (fun _ _ _=>rfl) l.length (l1.tail.length+1) l1.tail k1 (List.suffix_refl _) (by omega) (by omega)]
 ·rfl
theorem Nl (m:Bool):∀ (n n':Nat) (first:Bool) (l:List AQ),l.length<n->l.length<n'->H9 m n first l=H9 m n' first l
 | 0,_,_,_,h,_=>absurd h (Nat.not_lt_zero _)
 | _,0,_,_,_,h=>absurd h (Nat.not_lt_zero _)
 | n+1,n'+1,first,l,h1,h2=>by
  rw[H9,H9]
  split
  ·rfl
  ·refine zY fun l0 h0=>?_
   have g0:l0.length<=l.length:=by
    split at h0
    ·injection h0 with h0;subst h0;exact AAH _
    ·exact AAe (zU h0).1.2
   refine zY fun p hp=>?_
   obtain ⟨t,l1⟩:=p;have g1:=(Bo hp).1.2;refine zY fun l3 h3=>?_
   have g3:=(zU h3).1.2;refine zY fun q hq=>?_
   obtain ⟨u,l4⟩:=q;have g4:=(Bo hq).1.2;simp only at g1 g3 g4 ⊢;rw[Nl m n n' false l4 (by omega) (by omega)]
def EM (m first:Bool) (l:List AQ):Except Int (List Ak×List AQ):=H9 m (l.length+1) first l
theorem Ip (m first:Bool) (l:List AQ):EM m first l=if Dj ⟨#[125]⟩ l=true then .ok ([],l) else
  (if first=true then .ok l else Ee ⟨#[44]⟩ l).bind fun l1=>(FY 2 l1).bind fun p=>(Ee ⟨#[58]⟩ p.2).bind fun l3=>(FY 3 l3).bind fun q =>
   (EM m false q.2).bind fun r => .ok (⟨kF m p.1.int,q.1.str⟩::r.1,r.2):=by
 unfold EM;rw[H9]
 split
 ·rfl
 ·refine zY fun l0 h0=>?_
  have g0:l0.length<=l.length:=by
   split at h0
   ·injection h0 with h0;subst h0;exact AAH _
   ·exact AAe (zU h0).1.2
  refine zY fun p hp=>?_
  obtain ⟨t,l1⟩:=p;have g1:=(Bo hp).1.2;refine zY fun l3 h3=>?_
  have g3:=(zU h3).1.2;refine zY fun q hq=>?_
  obtain ⟨u,l4⟩:=q;have g4:=(Bo hq).1.2;simp only at g1 g3 g4 ⊢;rw[Nl m l.length (l4.length+1) false l4 (by omega) (by omega)]
def Ci {α:Type} (a:Except Int α):Prop:=a ≠ .error 0
theorem zP {α β:Type} {a:Except Int α} {g:α->Except Int β} (h1:Ci a) (h2:∀x,a = .ok x->Ci (g x)):Ci (a.bind g):=fun h=>by
 rcases dR h with h|⟨x,h3,h4⟩
 ·exact h1 h
 ·exact h2 x h3 h4
theorem CB {α:Type} (a:α):Ci (Except.ok a:Except Int α):=fun h=>by cases h
theorem Lm {α:Type}:Ci (.error 2:Except Int α):=fun h=>by injection h with h;cases h
theorem Q6 {α:Type}:Ci (.error 4:Except Int α):=fun h=>by injection h with h;cases h
theorem IC (k:Int) (l:List AQ):Ci (FY k l):=by
 cases l with
 | nil=>exact Lm
 | cons t r=>rw[FY];split <;> first|exact CB _|exact Lm
theorem Eo (s:ByteArray) (l:List AQ):Ci (Ee s l):=by
 unfold Ee;split <;> first|exact CB _|exact Lm
theorem U7 {α:Type} {part:List AQ->Bool->PR α} (hd:Dec part) (l0:List AQ) (hp:∀l k,l <:+ l0->Ci (part l k)):∀ (n:Nat) l k,l <:+ l0->l.length<n->Ci (Lb part n l k)
 | 0,_,_,_,h=>absurd h (Nat.not_lt_zero _)
 | n+1,l,k,hl,h=>by
  rw[Lb];refine zP (hp l k hl) fun p h1=>?_
  obtain ⟨x,l1,k1⟩:=p;have g1:=hd _ _ _ _ _ h1;simp only
  split
  ·rename_i hi
   have g2:=Di hi;have g3:=g1.2;have g4:=g2.2;exact zP (U7 hd l0 hp n l1.tail k1 ((g2.1.trans g1.1).trans hl) (by omega)) fun _ _=>CB _
  ·exact CB _
theorem TI {first:Bool} {l:List AQ}:Ci (if first=true then Except.ok l else Ee ⟨#[44]⟩ l):=by
 split
 ·exact CB _
 ·exact Eo _ _
theorem Wm {f:Int->List AQ->Bool->PR Val} (hf:∀t,Dec (f t)) (l0:List AQ) (hp:∀t l k,l <:+ l0->Ci (f t l k)):∀ (ms:List AZ) (first:Bool) l k,l <:+ l0->Ci (CY f first ms l k)
 | [],_,_,_,_=>CB _
 | y::ms,first,l,k,hl=>by
  rw[CY];refine zP TI fun l1 h1=>?_
  have g1:l1 <:+ l:=by
   split at h1
   ·injection h1 with h1;subst h1;exact List.suffix_refl _
   ·exact (zU h1).1.1
  refine zP (IC _ _) fun p h2=>?_
  obtain ⟨t,l2⟩:=p;have g2:=(Bo h2).1.1;simp only
  split
  ·refine zP (Eo _ _) fun l3 h3=>?_
   have g3:=(zU h3).1.1;refine zP (hp _ _ _ (g3.trans (g2.trans (g1.trans hl)))) fun q h4=>?_
   obtain ⟨v,l4,k4⟩:=q;have g4:=(hf _ _ _ _ _ _ h4).1;exact zP (Wm hf l0 hp ms false l4 k4 (g4.trans (g3.trans (g2.trans (g1.trans hl))))) fun _ _=>CB _
  ·exact Q6
theorem Wl (m:Bool):∀ (n:Nat) (first:Bool) (l:List AQ),l.length<n->Ci (H9 m n first l)
 | 0,_,_,h=>absurd h (Nat.not_lt_zero _)
 | n+1,first,l,h=>by
  rw[H9]
  split
  ·exact CB _
  ·refine zP TI fun l0 h0=>?_
   have g0:l0.length<=l.length:=by
    split at h0
    ·injection h0 with h0;subst h0;exact AAH _
    ·exact AAe (zU h0).1.2
   refine zP (IC _ _) fun p hp=>?_
   obtain ⟨t,l1⟩:=p;have g1:=(Bo hp).1.2;refine zP (Eo _ _) fun l3 h3=>?_
   have g3:=(zU h3).1.2;refine zP (IC _ _) fun q hq=>?_
   obtain ⟨u,l4⟩:=q;have g4:=(Bo hq).1.2;exact zP (Wl m n false l4 (by simp only at *;omega)) fun _ _=>CB _
theorem jf {m:Bool} {f:Int->List AQ->Bool->PR Val} (hf:∀t,Dec (f t)) {x:Ae} {l:List AQ} {k:Bool} (hp:∀t r k,Lt r l->Ci (f t r k)):Ci (FW m f x l k):=by
 have hT:∀ {r:List AQ},Lt r l->∀t r2 k,r2 <:+ r->Ci (f t r2 k):=fun h t r2 k h2=>hp t r2 k (Lt.then h2 h)
 unfold FW
 repeat' split
 ·refine zP ?_ fun _ _=>CB _
  unfold UC;refine zP (IC _ _) fun p _=>?_
  repeat' split
  all_goals first|exact CB _|exact Lm
 ·exact zP (IC _ _) fun _ _=>CB _
 ·exact zP (IC _ _) fun _ _=>CB _
 ·refine zP ?_ fun _ _=>CB _
  unfold Tt
  split
  ·refine zP (IC _ _) fun p _=>?_
   repeat' split
   all_goals exact CB _
  ·refine zP (IC _ _) fun p _=>?_
   split
   ·exact CB _
   ·exact Q6
 ·refine zP ?_ fun _ _=>CB _
  unfold Kj;refine zP (Eo _ _) fun l1 h1=>?_
  refine zP (Wm hf l1 (fun t r k hr=>hT (zU h1).1 t r k hr) _ _ _ _ (List.suffix_refl _)) fun p _=>?_
  refine zP (Wl m _ _ _ (by omega)) fun q _=>?_
  exact zP (Eo _ _) fun _ _=>CB _
 ·refine zP ?_ fun _ _=>CB _
  unfold SC
  split
  ·refine zP (IC _ _) fun p _=>?_
   refine zP (Eo _ _) fun l1 h1=>?_
   refine zP (IC _ _) fun p _=>?_
   exact zP (Eo _ _) fun _ _=>CB _
  ·refine zP (IC _ _) fun p h1=>?_
   obtain ⟨t,l1⟩:=p;simp only
   split
   ·exact Q6
   ·refine zP (Eo _ _) fun l2 h2=>?_
    refine zP (hp _ _ _ ((zU h2).1.trans (Bo h1).1)) fun q _=>?_
    exact zP (Eo _ _) fun _ _=>CB _
 ·refine zP ?_ fun _ _=>CB _
  unfold MZ;refine zP (Eo _ _) fun l1 h1=>?_
  split
  ·exact CB _
  ·refine zP (U7 (hf _) l1 (fun r k hr=>hT (zU h1).1 _ r k hr) _ _ _ (List.suffix_refl _) (by omega)) fun p _=>?_
   exact zP (Eo _ _) fun _ _=>CB _
 ·refine zP ?_ fun _ _=>CB _
  unfold TP;refine zP (Eo _ _) fun l1 h1=>?_
  split
  ·exact zP (Eo _ _) fun _ _=>CB _
  ·split
   ·exact Lm
   ·refine zP (U7 (OH hf x) l1 (fun r k hr=>?_) _ _ _ (List.suffix_refl _) (by omega)) fun p _=>?_
    ·unfold OG
     refine zP (hT (zU h1).1 _ r k hr) fun p h2=>?_
     obtain ⟨v,l2,k2⟩:=p;refine zP (Eo _ _) fun l3 h3=>?_
     exact zP (hT (zU h1).1 _ l3 k2 (((zU h3).1.1.trans (hf _ _ _ _ _ _ h2).1).trans hr)) fun _ _=>CB _
    ·exact zP (Eo _ _) fun _ _=>CB _
 ·refine zP ?_ fun _ _=>CB _
  unfold Iw;refine zP (IC _ _) fun p h1=>?_
  obtain ⟨t,l1⟩:=p;simp only
  split
  ·exact CB _
  ·split
   ·refine zP (Eo _ _) fun l2 h2=>?_
    refine zP (hp _ _ _ ((zU h2).1.trans (Bo h1).1)) fun q _=>?_
    exact zP (Eo _ _) fun _ _=>CB _
   ·exact Lm
theorem V9 (m:Bool) (s:List Ae):∀ (n:Nat) (t:Int) (l:List AQ) (k:Bool),l.length<n->Ci (NZ m s n t l k)
 | 0,_,_,_,h=>absurd h (Nat.not_lt_zero _)
 | n+1,t,l,k,h=>by
  rw[NZ];refine jf (ND m s n) fun u r k' hr=>?_
  have:=hr.2;exact V9 m s n u r k' (by omega)
theorem Qc (m:Bool) (s:List Ae) (t:Int) (l:List AQ) (k:Bool):Ci (CU m s t l k):=V9 m s _ t l k (by omega)
structure uj (x:Ae):Prop where
 ids:AAV x
 ADG:(x.AA.map AZ.id).Nodup
 AC9:(x.Aj.map Bu.name).Nodup
 tV:(x.AA.map AZ.name).Nodup
theorem OD {α β:Type} [DecidableEq β] {g:α->β}:∀ {l:List α},(l.map g).Nodup->∀ {y:α},y∈l->l.find? (fun z=>decide (g z=g y))=some y
 | a::l,hd,y,hy=>by
  rw[AA4,List.nodup_cons] at hd;rw[ABR]
  rcases AAr.1 hy with rfl|hy
  ·simp
  ·have:g a≠g y:=fun e=>hd.1 (by rw[e];exact List.mem_map_of_mem hy)
   simp only[this,decide_false];exact OD hd.2 hy
section
variable {f:Int->List AQ->Bool->PR Val} {g:Int->Val->List AQ}
end
end Go.Proofs.YthkkllmmbefedaaGreatDoor



