/-
  The tokens of a value, from which it is read again: plain Lean.
-/
import Derived.Test.YthkkllmmbefedaaGreatDoorQGA2
import Derived.Lib.ParseIntBTie
import Derived.Lib.ParseIntBCases
import Derived.Lib.ItoaMem
namespace Go.Proofs.YthkkllmmbefedaaGreatDoor
set_option maxHeartbeats 16000000
set_option maxRecDepth 100000
def hexB (n:Nat):UInt8:=if n<10 then UInt8.ofNat (48+n) else UInt8.ofNat (87+n)
def quB (c:UInt8):ByteArray :=
 if c.toNat=34∨c.toNat=92 then ⟨#[92,c]⟩
 else if c.toNat=10 then ⟨#[92,110]⟩
 else if c.toNat<32∨126<c.toNat then ⟨#[92,120,hexB (c.toNat / 16),hexB (c.toNat % 16)]⟩
 else ⟨#[c]⟩
def quK (s:ByteArray):Nat→ByteArray
 | 0=>⟨#[34]⟩
 | k+1=>quK s k++quB (s.data.getD k 0)
def quD (s:ByteArray):ByteArray:=quK s s.size++⟨#[34]⟩
theorem quB_le (c:UInt8):(quB c).size≤4:=by
 unfold quB
 split
 ·show 2≤4;omega
 ·split
  ·show 2≤4;omega
  ·split
   ·exact Nat.le_refl _
   ·show 1≤4;omega
theorem quK_le (s:ByteArray):∀k,(quK s k).size≤4 * k+1
 | 0=>Nat.le_refl _
 | k+1=>by
  have h:=quK_le s k;have:=quB_le (s.data.getD k 0);unfold quK;rw[ByteArray.size_append]
  omega
theorem quK_mono (s:ByteArray) {k m:Nat} (h:k≤m):(quK s k).size≤(quK s m).size:=by
 induction m with
 | zero=>rw[Nat.le_zero.1 h];exact Nat.le_refl _
 | succ m ih =>
  rcases Nat.lt_or_ge k (m+1) with h1|h1
  ·have:=ih (by omega)
   rw[quK,ByteArray.size_append]
   omega
  ·rw[Nat.le_antisymm h h1];exact Nat.le_refl _
theorem quD_le (s:ByteArray):(quD s).size≤4 * s.size+2:=by
 have:=quK_le s s.size;unfold quD;rw[ByteArray.size_append]
 show _+1≤_
 omega
def catK (f:Nat→ByteArray):Nat→ByteArray
 | 0=>⟨#[]⟩
 | k+1=>catK f k++(if k=0 then ⟨#[]⟩ else ⟨#[44,32]⟩)++f k
def catL (l:List ByteArray):ByteArray:=catK (fun i=>l.getD i ⟨#[]⟩) l.length
theorem catK_mono (f:Nat→ByteArray) {k m:Nat} (h:k≤m):(catK f k).size≤(catK f m).size:=by
 induction m with
 | zero=>rw[Nat.le_zero.1 h];exact Nat.le_refl _
 | succ m ih =>
  rcases Nat.lt_or_ge k (m+1) with h1|h1
  ·have:=ih (by omega)
   rw[catK,ByteArray.size_append,ByteArray.size_append]
   omega
  ·rw[Nat.le_antisymm h h1];exact Nat.le_refl _
theorem catK_part (f:Nat→ByteArray) {k m:Nat} (h:k<m):(catK f k).size+(if k=0 then (⟨#[]⟩:ByteArray) else ⟨#[44,32]⟩).size+(f k).size≤(catK f m).size:=by
 have:=catK_mono f (show k+1≤m by omega)
 rw[catK,ByteArray.size_append,ByteArray.size_append] at this;exact this
def memP (f:Int→Val→ByteArray) (p:MemD×Val):ByteArray:=p.1.name++⟨#[58,32]⟩++f p.1.type p.2
def rawP (r:RawD):ByteArray:=decB r.id++⟨#[58,32]⟩++quD r.data
def entP (f g:Val→ByteArray) (p:Val×Val):ByteArray:=f p.1++⟨#[32,45,62,32]⟩++g p.2
def litB (f:Int→Val→ByteArray) (x:TyD) (v:Val):ByteArray :=
 if x.kind=1 then (if v.bool then ⟨#[116,114,117,101]⟩ else ⟨#[102,97,108,115,101]⟩)
 else if x.kind=2 then decB v.int
 else if x.kind=3 then quD v.str
 else if x.kind=4 then (match x.syms.find? fun y=>decide (y.id=v.id) with
  | some y=>y.name
  | none=>⟨#[64]⟩++decB v.id)
 else if x.kind=5 then ⟨#[123]⟩++catL ((x.mems.zip v.items).map (memP f)++v.rest.map rawP)++⟨#[125]⟩
 else if x.kind=6 then (match x.mems.find? fun m=>decide (m.id=v.id) with
  | some m=>m.name++⟨#[40]⟩++(match v.items with|y::_=>f m.type y | []=>⟨#[]⟩)
  | none=>⟨#[64]⟩++decB v.id++⟨#[40]⟩++(match v.rest with|r::_=>quD r.data | []=>⟨#[]⟩))++⟨#[41]⟩
 else if x.kind=7 then ⟨#[91]⟩++catL (v.items.map (f x.elem))++⟨#[93]⟩
 else if x.kind=8 then ⟨#[91]⟩++(if v.keys.length=0 then ⟨#[45,62]⟩ else ⟨#[]⟩)++catL ((v.keys.zip v.items).map (entP (f x.key) (f x.elem)))++⟨#[93]⟩
 else (match v.items with
  | []=>⟨#[110,111,110,101]⟩
  | y::_=>⟨#[115,111,109,101,40]⟩++f x.elem y++⟨#[41]⟩)
def litF (s:List TyD):Nat→Int→Val→ByteArray
 | 0,_,_=>⟨#[]⟩
 | n+1,t,v=>litB (litF s n) (tyAt s t) v
noncomputable def litV (s:List TyD) (t:Int) (v:Val):ByteArray:=litF s (SizeOf.sizeOf v) t v
structure TokD where
 kind:Int
 text:ByteArray
 int:Int
 str:ByteArray
 line:Int
 deriving DecidableEq
def isLetB (c:UInt8):Bool:=letC c.toNat
def zZ (c:UInt8):Bool:=digI c.toNat
def lettK:List UInt8→Nat
 | []=>0
 | c::r=>if isLetB c||zZ c then lettK r+1 else 0
def digiK:List UInt8→Nat
 | []=>0
 | c::r=>if zZ c then digiK r+1 else 0
def hexV (c:UInt8):Option Nat:=if 48≤c.toNat∧c.toNat≤57 then some (c.toNat - 48) else if 97≤c.toNat∧c.toNat≤102 then some (c.toNat - 87) else none
def escL:List UInt8→Option (UInt8×Nat)
 | []=>none
 | d::q =>
  if d.toNat=34∨d.toNat=92 then some (d,1)
  else if d.toNat=110 then some (10,1)
  else if d.toNat=120 then
   match q with
   | a::b::_ =>
    match hexV a,hexV b with
    | some x,some y=>if (16 * x+y<32∨126<16 * x+y)∧16 * x+y≠10 then some (UInt8.ofNat (16 * x+y),3) else none
    | _,_=>none
   | _=>none
  else none
def partL:List UInt8→Option (UInt8×Nat)
 | []=>none
 | c::r=>if c.toNat=92 then (escL r).map fun p=>(p.1,p.2+1) else if c.toNat<32∨126<c.toNat then none else some (c,1)
def quoF:Nat→List UInt8→Option (List UInt8×Nat)
 | 0,_=>none
 | _+1,[]=>none
 | n+1,c::r=>if c.toNat=34 then some ([],1) else
  match partL (c::r) with
  | none=>none
  | some (b,k)=>(quoF n ((c::r).drop k)).map fun p=>(b::p.1,p.2+k)
def quoL (l:List UInt8):Option (List UInt8×Nat):=quoF l.length l
def intL (t:List UInt8):Option Int :=
 match Lib.parseIntB 64 t with
 | .ok v=>if Lib.itoa v=t then some v else none
 | _=>none
def symL:List UInt8→Option Nat
 | []=>none
 | c::r =>
  if c.toNat=45∧(r.headD 0).toNat=62 then some 2
  else if c.toNat=46∧(r.headD 0).toNat=46 then some 2
  else if c.toNat=123∨c.toNat=125∨c.toNat=40∨c.toNat=41∨c.toNat=91∨c.toNat=93∨c.toNat=44∨c.toNat=59∨c.toNat=58∨c.toNat=61∨c.toNat=46∨c.toNat=33∨c.toNat=63∨c.toNat=64∨c.toNat=42∨c.toNat=124 then some 1
  else none
def bA (l:List UInt8):ByteArray:=⟨l.toArray⟩
def tokL:List UInt8→Option (TokD×Nat)
 | []=>none
 | c::r =>
  if isLetB c then (if lettK (c::r)≤24 then some (⟨1,bA ((c::r).take (lettK (c::r))),0,⟨#[]⟩,0⟩,lettK (c::r)) else none)
  else if zZ c||(decide (c.toNat=45)&&zZ (r.headD 0)) then (intL ((c::r).take (1+digiK r))).map fun v=>(⟨2,⟨#[]⟩,v,⟨#[]⟩,0⟩,1+digiK r)
  else if c.toNat=34 then (quoL r).map fun p=>(⟨3,⟨#[]⟩,0,bA p.1,0⟩,p.2+1)
  else (symL (c::r)).map fun n=>(⟨4,bA ((c::r).take n),0,⟨#[]⟩,0⟩,n)
def lineL:List UInt8→List UInt8
 | []=>[]
 | c::r=>if c.toNat=10 then c::r else lineL r
def toksF:Nat→Int→List UInt8→Except Int (List TokD)
 | _,_,[] => .ok []
 | 0,_,_::_ => .ok []
 | n+1,ln,c::r =>
  if c.toNat=10 then toksF n (ln+1) r
  else if c.toNat=32∨c.toNat=9 then toksF n ln r
  else if c.toNat=47∧(r.headD 0).toNat=47 then toksF n ln (lineL r)
  else match tokL (c::r) with
   | none => .error ln
   | some (t,k)=>(toksF n ln ((c::r).drop k)).map fun o=>{ t with line:=ln }::o
def toksL (ln:Int) (l:List UInt8):Except Int (List TokD):=toksF l.length ln l
theorem hexV_lt {c:UInt8} {x:Nat} (h:hexV c=some x):x<16:=by
 unfold hexV at h
 split at h
 ·injection h with h;omega
 ·split at h
  ·injection h with h;omega
  ·cases h
theorem lettK_le:∀l,lettK l≤l.length
 | []=>Nat.le_refl _
 | c::r=>by
  have:=lettK_le r;rw[lettK];split
  ·rw[List.length_cons];omega
  ·exact Nat.zero_le _
theorem digiK_le:∀l,digiK l≤l.length
 | []=>Nat.le_refl _
 | c::r=>by
  have:=digiK_le r;rw[digiK];split
  ·rw[List.length_cons];omega
  ·exact Nat.zero_le _
theorem escL_le {l:List UInt8} {b:UInt8} {k:Nat} (h:escL l=some (b,k)):1≤k∧k≤l.length∧k≤3:=by
 unfold escL at h
 split at h
 ·cases h
 ·rename_i d q
  split at h
  ·injection h with h;injection h with _ h;subst h;simp
  ·split at h
   ·injection h with h;injection h with _ h;subst h;simp
   ·split at h
    ·split at h
     ·split at h
      ·split at h
       ·injection h with h;injection h with _ h;subst h;simp
       ·cases h
      ·cases h
     ·cases h
    ·cases h
theorem partL_le {l:List UInt8} {b:UInt8} {k:Nat} (h:partL l=some (b,k)):1≤k∧k≤l.length:=by
 unfold partL at h
 split at h
 ·cases h
 ·rename_i c r
  split at h
  ·rw[Option.map_eq_some_iff] at h
   obtain ⟨⟨b',k'⟩,h1,h2⟩:=h;have:=escL_le h1
   injection h2 with _ h2
   simp only at h2;rw[List.length_cons];omega
  ·split at h
   ·cases h
   ·injection h with h;injection h with _ h;subst h;simp
theorem quoF_le:∀ (n:Nat) (l:List UInt8) (o:List UInt8) (k:Nat),quoF n l=some (o,k)→1≤k∧k≤l.length∧o.length<k
 | 0,_,_,_,h=>by cases h
 | n+1,[],_,_,h=>by cases h
 | n+1,c::r,o,k,h=>by
  rw[quoF] at h
  split at h
  ·injection h with h;injection h with h1 h2;subst h1 h2;simp
  ·split at h
   ·cases h
   ·rename_i b j hp
    rw[Option.map_eq_some_iff] at h;obtain ⟨⟨o',k'⟩,h1,h2⟩:=h;have ih:=quoF_le n _ _ _ h1;have:=partL_le hp
    injection h2 with h2 h3
    simp only at h2 h3;subst h2 h3;rw[List.length_drop] at ih;simp only[List.length_cons] at *
    omega
theorem quoF_fuel:∀ (n:Nat) (l:List UInt8),l.length≤n→quoF n l=quoF l.length l
 | 0,l,h=>by rw[List.eq_nil_of_length_eq_zero (Nat.le_zero.1 h)];rfl
 | _+1,[],_=>by rw[quoF];rfl
 | n+1,c::r,h=>by
  rw[List.length_cons,quoF,quoF]
  split
  ·rfl
  ·split
   ·rfl
   ·rename_i b k hp
    have:=partL_le hp;have hd:((c::r).drop k).length≤r.length:=by rw[List.length_drop,List.length_cons];omega
    rw[quoF_fuel n _ (by rw[List.length_cons] at h;omega),quoF_fuel r.length _ hd]
termination_by _ l=>l.length
decreasing_by
 all_goals (rw[List.length_drop,List.length_cons] at *;omega)
theorem quoL_nil:quoL []=none:=rfl
theorem quoL_cons (c:UInt8) (r:List UInt8):quoL (c::r)=if c.toNat=34 then some ([],1) else
  match partL (c::r) with
  | none=>none
  | some (b,k)=>(quoL ((c::r).drop k)).map fun p=>(b::p.1,p.2+k):=by
 unfold quoL;rw[List.length_cons,quoF]
 split
 ·rfl
 ·split
  ·rfl
  ·rename_i b k hp
   have:=partL_le hp;rw[quoF_fuel r.length _ (by rw[List.length_drop,List.length_cons];omega)]
theorem quoL_le {l o:List UInt8} {k:Nat} (h:quoL l=some (o,k)):1≤k∧k≤l.length∧o.length<k:=quoF_le _ _ _ _ h
theorem symL_le {l:List UInt8} {n:Nat} (h:symL l=some n):1≤n∧n≤l.length∧n≤2:=by
 unfold symL at h
 split at h
 ·cases h
 ·rename_i c r
  have hr:∀m:Nat,(r.headD 0).toNat=m+1→2≤(c::r).length:=fun m hm=>by
   cases r with
   | nil=>simp at hm
   | cons d q=>simp
  split at h
  ·rename_i hc
   injection h with h;subst h
   exact ⟨by omega,hr _ hc.2,by omega⟩
  ·split at h
   ·rename_i hc
    injection h with h;subst h
    exact ⟨by omega,hr _ hc.2,by omega⟩
   ·split at h
    ·injection h with h;subst h;simp
    ·cases h
theorem tokL_le {l:List UInt8} {t:TokD} {k:Nat} (h:tokL l=some (t,k)):1≤k∧k≤l.length:=by
 unfold tokL at h
 split at h
 ·cases h
 ·rename_i c r
  split at h
  ·rename_i hc
   split at h
   ·injection h with h;injection h with _ h;subst h
    refine ⟨?_,lettK_le _⟩;rw[lettK,hc,Bool.true_or,if_pos rfl];omega
   ·cases h
  ·split at h
   ·rw[Option.map_eq_some_iff] at h
    obtain ⟨v,_,h⟩:=h
    injection h with _ h;subst h
    have:=digiK_le r;rw[List.length_cons];omega
   ·split at h
    ·rw[Option.map_eq_some_iff] at h
     obtain ⟨⟨o,j⟩,h1,h⟩:=h
     injection h with _ h;subst h
     have:=quoL_le h1;rw[List.length_cons];simp only;omega
    ·rw[Option.map_eq_some_iff] at h
     obtain ⟨n,h1,h⟩:=h
     injection h with _ h;subst h
     have:=symL_le h1;exact ⟨this.1,this.2.1⟩
theorem lineL_le:∀l,(lineL l).length≤l.length
 | []=>Nat.le_refl _
 | c::r=>by
  have:=lineL_le r;rw[lineL];split
  ·exact Nat.le_refl _
  ·rw[List.length_cons];omega
theorem toksF_fuel:∀ (n:Nat) (ln:Int) (l:List UInt8),l.length≤n→toksF n ln l=toksF l.length ln l
 | 0,ln,l,h=>by rw[List.eq_nil_of_length_eq_zero (Nat.le_zero.1 h)];rfl
 | _+1,_,[],_=>by rw[toksF,toksF]
 | n+1,ln,c::r,h=>by
  have hn:r.length≤n:=by rw[List.length_cons] at h;omega
  rw[List.length_cons,toksF,toksF]
  split
  ·exact toksF_fuel n _ r hn
  ·split
   ·exact toksF_fuel n _ r hn
   ·split
    ·have:=lineL_le r
     rw[toksF_fuel n _ _ (by omega),toksF_fuel r.length _ _ this]
    ·split
     ·rfl
     ·rename_i t k hp
      have:=tokL_le hp;have hd:((c::r).drop k).length≤r.length:=by rw[List.length_drop,List.length_cons];omega
      rw[toksF_fuel n _ _ (by omega),toksF_fuel r.length _ _ hd]
termination_by _ _ l=>l.length
decreasing_by
 all_goals (first|(rw[List.length_drop,List.length_cons] at *;omega)|(have:=lineL_le r;simp only[List.length_cons];omega))
theorem toksL_nil (ln:Int):toksL ln [] = .ok []:=rfl
theorem toksL_cons (ln:Int) (c:UInt8) (r:List UInt8):toksL ln (c::r) =
  if c.toNat=10 then toksL (ln+1) r
  else if c.toNat=32∨c.toNat=9 then toksL ln r
  else if c.toNat=47∧(r.headD 0).toNat=47 then toksL ln (lineL r)
  else match tokL (c::r) with
   | none => .error ln
   | some (t,k)=>(toksL ln ((c::r).drop k)).map fun o=>{ t with line:=ln }::o:=by
 unfold toksL;rw[List.length_cons,toksF]
 split
 ·rfl
 ·split
  ·rfl
  ·split
   ·rw[toksF_fuel r.length _ _ (lineL_le r)]
   ·split
    ·rfl
    ·rename_i t k hp
     have:=tokL_le hp;rw[toksF_fuel r.length _ _ (by rw[List.length_drop,List.length_cons];omega)]
theorem hexB_hexV {c:UInt8} {x:Nat} (h:hexV c=some x):hexB x=c:=by
 unfold hexV at h;have hc:=c.toNat_lt
 split at h
 ·rename_i hr
  injection h with h;subst h
  unfold hexB;rw[if_pos (by omega)]
  apply UInt8.toNat_inj.1
  rw[UInt8.toNat_ofNat'];omega
 ·split at h
  ·injection h with h;subst h
   unfold hexB;rw[if_neg (by omega)]
   apply UInt8.toNat_inj.1
   rw[UInt8.toNat_ofNat'];omega
  ·cases h
def quBL (c:UInt8):List UInt8 :=
 if c.toNat=34∨c.toNat=92 then [92,c]
 else if c.toNat=10 then [92,110]
 else if c.toNat<32∨126<c.toNat then [92,120,hexB (c.toNat / 16),hexB (c.toNat % 16)]
 else [c]
theorem quB_list (c:UInt8):(quB c).data.toList=quBL c:=by
 unfold quB quBL
 repeat' split
 all_goals rfl
theorem byte_eq {c d:UInt8} (h:c.toNat=d.toNat):c=d:=UInt8.toNat_inj.1 h
theorem of_part {l:List UInt8} {b:UInt8} {k:Nat} (h:partL l=some (b,k)) (hq:∀c r,l=c::r→c.toNat≠34):quBL b <+: l∧k=(quBL b).length:=by
 unfold partL at h
 split at h
 ·cases h
 ·rename_i c r
  have h34:=hq c r rfl
  split at h
  ·rename_i hc
   rw[show c=92 from byte_eq hc];rw[Option.map_eq_some_iff] at h;obtain ⟨⟨b',k'⟩,h1,h2⟩:=h
   injection h2 with h2 h3
   simp only at h2 h3;subst h2 h3;unfold escL at h1
   split at h1
   ·cases h1
   ·rename_i d q
    split at h1
    ·rename_i hd
     injection h1 with h1;injection h1 with h1 h2;subst h1 h2
     unfold quBL;rw[if_pos hd];exact ⟨⟨q,rfl⟩,rfl⟩
    ·rename_i hd
     split at h1
     ·rename_i hd2
      injection h1 with h1;injection h1 with h1 h2;subst h1 h2
      rw[show d=110 from byte_eq hd2];exact ⟨⟨q,rfl⟩,rfl⟩
     ·split at h1
      ·rename_i hd3
       rw[show d=120 from byte_eq hd3]
       split at h1
       ·rename_i a b2 q2
        split at h1
        ·rename_i x y hx hy
         split at h1
         ·rename_i hr
          injection h1 with h1;injection h1 with h1 h2
          have hx16:=hexV_lt hx;have hy16:=hexV_lt hy;have hbv:b'.toNat=16 * x+y:=by rw[←h1,UInt8.toNat_ofNat'];omega
          subst h2;unfold quBL;rw[if_neg (by omega),if_neg (by omega),if_pos (by omega)]
          rw[show b'.toNat / 16=x by omega,show b'.toNat % 16=y by omega,hexB_hexV hx,hexB_hexV hy]
          exact ⟨⟨q2,rfl⟩,rfl⟩
         ·cases h1
        ·cases h1
       ·cases h1
      ·cases h1
  ·rename_i hc
   split at h
   ·cases h
   ·rename_i hr
    injection h with h;injection h with h1 h2;subst h1 h2
    unfold quBL;rw[if_neg (by omega),if_neg (by omega),if_neg hr]
    exact ⟨⟨r,rfl⟩,rfl⟩
theorem decDigitsL_mem:∀ (u:Nat) (b:UInt8),b∈Lib.decDigits u→48≤b.toNat∧b.toNat≤57:=by
 intro u
 induction u using Nat.strongRecOn with
 | _ u ih =>
  intro b hb
  rw[Lib.decDigits] at hb
  split at hb
  ·rw[List.mem_singleton] at hb
   subst hb;rw[UInt8.toNat_ofNat']
   omega
  ·rw[List.mem_append,List.mem_singleton] at hb
   rcases hb with hb|hb
   ·exact ih (u / 10) (by omega) b hb
   ·subst hb
    rw[UInt8.toNat_ofNat']
    omega
theorem decDigitsL_ne (u:Nat):Lib.decDigits u≠[]:=by
 rw[Lib.decDigits];split <;> simp
theorem digitL_val {d:Nat} (h:d<10):(UInt8.ofNat (48+d)).toNat=48+d:=by
 rw[UInt8.toNat_ofNat'];omega
theorem parseUintL_snoc (M:Nat) (c:UInt8):∀ (l:List UInt8) (acc u:Nat),Lib.parseUintM M acc l = .ok u→Lib.parseUintM M acc (l++[c])=Lib.parseUintM M u [c]
 | [],acc,u,h=>by
  rw[Lib.parseUintM] at h
  injection h with h
  subst h;rfl
 | b::r,acc,u,h=>by
  rw[Lib.parseUintM] at h;rw[List.cons_append,Lib.parseUintM]
  split at h
  ·rename_i h1
   rw[if_pos h1]
   split at h
   ·cases h
   ·rename_i h2
    rw[if_neg h2]
    split at h
    ·cases h
    ·rename_i h3
     rw[if_neg h3];exact parseUintL_snoc M c r _ u h
  ·cases h
theorem parseUintL_dec:∀ (u:Nat),u≤18446744073709551615→Lib.parseUintM 18446744073709551615 0 (Lib.decDigits u) = .ok u:=by
 intro u
 induction u using Nat.strongRecOn with
 | _ u ih =>
  intro hu
  rw[Lib.decDigits]
  split
  ·rename_i h
   have e:=digitL_val h;rw[Lib.parseUintM,e,if_pos (by omega),if_neg (by omega),if_neg (by omega),Lib.parseUintM]
   congr 1;omega
  ·rw[parseUintL_snoc _ _ _ _ _ (ih (u / 10) (by omega) (by omega))]
   have e:=digitL_val (show u % 10<10 by omega)
   rw[Lib.parseUintM,e,if_pos (by omega),if_neg (by omega),if_neg (by omega),Lib.parseUintM]
   congr 1;omega
theorem parseIntL_itoa {v:Int} (h1:-9223372036854775808≤v) (h2:v≤9223372036854775807):Lib.parseIntB 64 (Lib.itoa v) = .ok v:=by
 have e:(2 ^ 64 - 1:Nat)=18446744073709551615:=by decide
 have e2:(2 ^ (64 - 1):Nat)=9223372036854775808:=by decide
 by_cases hn:v<0
 ·have hv:v = -(v.natAbs:Int):=by omega
  rw[hv,Lib.itoa_neg _ (by omega),Lib.parseIntB_minus,e2]
  unfold Lib.parseUintB;rw[if_neg (decDigitsL_ne _),e,parseUintL_dec _ (by omega)]
  show (if 9223372036854775808<v.natAbs then _ else _)=_
  rw[if_neg (by omega)]
 ·have hv:v=(v.toNat:Int):=by omega
  rw[hv,Lib.itoa_nonneg]
  cases hd:Lib.decDigits v.toNat with
  | nil=>exact absurd hd (decDigitsL_ne _)
  | cons c r =>
   have hm:=decDigitsL_mem v.toNat c (by rw[hd];exact List.mem_cons_self ..)
   rw[Lib.parseIntB_plain _ _ _ (by omega) (by omega),←hd,e2]
   unfold Lib.parseUintB;rw[if_neg (decDigitsL_ne _),e,parseUintL_dec _ (by omega)]
   show (if 9223372036854775808≤v.toNat then _ else _)=_
   rw[if_neg (by omega)]
theorem intL_iff {t:List UInt8} {v:Int}:intL t=some v↔(-9223372036854775808≤v∧v≤9223372036854775807)∧Lib.itoa v=t:=by
 have e2:(2 ^ (64 - 1):Nat)=9223372036854775808:=by decide
 unfold intL
 constructor
 ·intro h
  split at h
  ·rename_i u hu
   split at h
   ·rename_i hi
    injection h with h;subst h
    have:=Lib.parseIntB_bounds hu;rw[e2] at this;exact ⟨⟨by omega,by omega⟩,hi⟩
   ·cases h
  ·cases h
 ·rintro ⟨⟨h1,h2⟩,rfl⟩
  rw[parseIntL_itoa h1 h2];simp
def symsT:List (List UInt8):=[[45,62],[46,46],[123],[125],[40],[41],[91],[93],[44],[59],[58],[61],[46],[33],[63],[64],[42],[124]]
theorem symL_two {c d:UInt8} {r:List UInt8} (h:(c.toNat=45∧d.toNat=62)∨(c.toNat=46∧d.toNat=46)):symL (c::d::r)=some 2:=by
 rw[symL]
 rcases h with h|h
 ·rw[if_pos (show c.toNat=45∧((d::r).headD 0).toNat=62 from h)]
 ·rw[if_neg (fun hc:c.toNat=45∧_=>by have:=hc.1;omega),if_pos (show c.toNat=46∧((d::r).headD 0).toNat=46 from h)]
def oneS (n:Nat):Prop:=n=123∨n=125∨n=40∨n=41∨n=91∨n=93∨n=44∨n=59∨n=58∨n=61∨n=46∨n=33∨n=63∨n=64∨n=42∨n=124
theorem symL_one {c:UInt8} {r:List UInt8} (h:¬ (c.toNat=45∧(r.headD 0).toNat=62)) (h2:¬ (c.toNat=46∧(r.headD 0).toNat=46)) (h3:oneS c.toNat):symL (c::r)=some 1:=by
 rw[symL,if_neg h,if_neg h2];exact if_pos h3
theorem symL_no {c:UInt8} {r:List UInt8} (h:¬ (c.toNat=45∧(r.headD 0).toNat=62)) (h2:¬ (c.toNat=46∧(r.headD 0).toNat=46)) (h3:¬ oneS c.toNat):symL (c::r)=none:=by
 rw[symL,if_neg h,if_neg h2];exact if_neg h3
theorem head_two {c x y:UInt8} {r:List UInt8} (hy:y.toNat≠0) (h:¬ [x,y] <+: c::r):¬ (c.toNat=x.toNat∧(r.headD 0).toNat=y.toNat):=by
 rintro ⟨h1,h2⟩
 cases r with
 | nil=>exact hy (by rw[←h2];rfl)
 | cons d q =>
  rw[List.headD_cons] at h2;exact h ⟨q,by rw[byte_eq h1,byte_eq h2];rfl⟩
theorem sym_found {l:List UInt8} {i:Nat} (hi:i<symsT.length) (hp:symsT[i] <+: l) (hn:∀j (hj:j<i),¬ symsT[j]'(Nat.lt_trans hj hi) <+: l) :
  symL l=some symsT[i].length∧l.take symsT[i].length=symsT[i]:=by
 refine ⟨?_,(List.prefix_iff_eq_take.1 hp).symm⟩;obtain ⟨r,rfl⟩:=hp
 by_cases i0:i=0
 ·subst i0;exact symL_two (Or.inl ⟨rfl,rfl⟩)
 by_cases i1:i=1
 ·subst i1;exact symL_two (Or.inr ⟨rfl,rfl⟩)
 have n0:=hn 0 (by omega)
 have n1:=hn 1 (by omega)
 have hT:∀k:Fin 18,2≤k.1→symsT[k.1]'(k.2)=[(symsT[k.1]'(k.2)).headD 0]∧oneS ((symsT[k.1]'(k.2)).headD 0).toNat:=by
  unfold oneS
  decide
 obtain ⟨hc,h1⟩:=hT ⟨i,hi⟩ (by simp only;omega)
 generalize (symsT[(⟨i,hi⟩:Fin 18).1]'(⟨i,hi⟩:Fin 18).2).headD 0=c at hc h1;have hc2:symsT[i]=[c]:=hc;clear hT hn;rw[hc2] at n0 n1 ⊢;exact symL_one (head_two (x:=45) (y:=62) (by decide) n0) (head_two (x:=46) (y:=46) (by decide) n1) h1
theorem sym_none {l:List UInt8} (hn:∀j (hj:j<symsT.length),¬ symsT[j] <+: l):symL l=none:=by
 cases l with
 | nil=>rfl
 | cons c r =>
  refine symL_no (head_two (x:=45) (y:=62) (by decide) (hn 0 (by decide))) (head_two (x:=46) (y:=46) (by decide) (hn 1 (by decide))) fun h=>?_
  have hT:∀d:UInt8,oneS d.toNat→∃k:Fin 18,symsT[k.1]'(k.2)=[d]:=fun d hd=>by
   have:∀n:Nat,oneS n→∃k:Fin 18,symsT[k.1]'(k.2)=[UInt8.ofNat n]:=fun n hn=>by
    unfold oneS at hn
    rcases hn with h|h|h|h|h|h|h|h|h|h|h|h|h|h|h|h <;> subst h <;> decide
   have:=this _ hd
   rwa [UInt8.ofNat_toNat] at this
  obtain ⟨k,hk⟩:=hT c h;exact hn k.1 k.2 (by rw[hk];exact ⟨r,rfl⟩)
theorem symsT_len:∀x∈symsT,x.length=1∨x.length=2:=by decide
theorem lettK_at {l:List UInt8} {n:Nat} (hn:n≤l.length) (h1:∀i (h:i<l.length),i<n→(isLetB l[i]||zZ l[i])=true) (h2:∀h:n<l.length,(isLetB l[n]||zZ l[n])=false):lettK l=n:=by
 induction l generalizing n with
 | nil=>simp at hn;subst hn;rfl
 | cons c r ih =>
  cases n with
  | zero =>
   have:=h2 (by simp)
   rw[lettK,if_neg (by simpa using this)]
  | succ n =>
   have:=h1 0 (by simp) (by omega)
   rw[lettK,if_pos (by simpa using this)]
   rw[ih (n:=n) (by simpa using hn) (fun i hi hin=>by have:=h1 (i+1) (by simpa using hi) (by omega);simpa using this) (fun h=>by have:=h2 (by simpa using h);simpa using this)]
theorem digiK_at {l:List UInt8} {n:Nat} (hn:n≤l.length) (h1:∀i (h:i<l.length),i<n→zZ l[i]=true) (h2:∀h:n<l.length,zZ l[n]=false):digiK l=n:=by
 induction l generalizing n with
 | nil=>simp at hn;subst hn;rfl
 | cons c r ih =>
  cases n with
  | zero =>
   have:=h2 (by simp)
   rw[digiK,if_neg (by simpa using this)]
  | succ n =>
   have:=h1 0 (by simp) (by omega)
   rw[digiK,if_pos (by simpa using this)]
   rw[ih (n:=n) (by simpa using hn) (fun i hi hin=>by have:=h1 (i+1) (by simpa using hi) (by omega);simpa using this) (fun h=>by have:=h2 (by simpa using h);simpa using this)]
abbrev PR (α:Type):=Except Int (α×List TokD×Bool)
def tkP (k:Int):List TokD→Except Int (TokD×List TokD)
 | t::l=>if t.kind=k then .ok (t,l) else .error 2
 | [] => .error 2
def isP (s:ByteArray):List TokD→Bool
 | t::_=>decide (t.kind=4)&&decide (t.text=s)
 | []=>false
def syP (s:ByteArray) (l:List TokD):Except Int (List TokD):=if isP s l=true then .ok l.tail else .error 2
def idF (m:Bool) (n:Int):Int:=if m=true∧(n<0∨1000000<n) then 0 else n
def knowP (x:TyD) (n:Int):Bool:=x.syms.any fun y=>decide (y.id=n)
def enumP (m:Bool) (x:TyD) (l:List TokD) (k:Bool):PR Int :=
 if isP ⟨#[64]⟩ l=true then (tkP 2 l.tail).bind fun p =>
  if knowP x (idF m p.1.int)=true then (if m=true then .ok (0,p.2,k) else .ok (idF m p.1.int,p.2,true)) else .ok (idF m p.1.int,p.2,k)
 else (tkP 1 l).bind fun p =>
  match x.syms.find? fun y=>decide (y.name=p.1.text) with
  | some y => .ok (y.id,p.2,k)
  | none => .error 4
def sepP {α:Type} (part:List TokD→Bool→PR α):Nat→List TokD→Bool→PR (List α)
 | 0,_,_ => .error 0
 | n+1,l,k=>(part l k).bind fun p =>
  if isP ⟨#[44]⟩ p.2.1=true then (sepP part n p.2.1.tail p.2.2).bind fun q => .ok (p.1::q.1,q.2) else .ok ([p.1],p.2)
section
variable (m:Bool) (f:Int→List TokD→Bool→PR Val)
def listP (x:TyD) (l:List TokD) (k:Bool):PR (List Val) :=
 (syP ⟨#[91]⟩ l).bind fun l1=>if isP ⟨#[93]⟩ l1=true then .ok ([],l1.tail,k) else
  (sepP (f x.elem) (l1.length+1) l1 k).bind fun p=>(syP ⟨#[93]⟩ p.2.1).bind fun l2 => .ok (p.1,l2,p.2.2)
def entrP (x:TyD) (l:List TokD) (k:Bool):PR (Val×Val) :=
 (f x.key l k).bind fun p=>(syP ⟨#[45,62]⟩ p.2.1).bind fun l1=>(f x.elem l1 p.2.2).bind fun q => .ok ((p.1,q.1),q.2)
def mapP (x:TyD) (l:List TokD) (k:Bool):PR (List (Val×Val)) :=
 (syP ⟨#[91]⟩ l).bind fun l1=>if isP ⟨#[45,62]⟩ l1=true then (syP ⟨#[93]⟩ l1.tail).bind fun l2 => .ok ([],l2,k)
  else if isP ⟨#[93]⟩ l1=true then .error 2
  else (sepP (entrP f x) (l1.length+1) l1 k).bind fun p=>(syP ⟨#[93]⟩ p.2.1).bind fun l2 => .ok (p.1,l2,p.2.2)
def optP (x:TyD) (l:List TokD) (k:Bool):PR (List Val) :=
 (tkP 1 l).bind fun p=>if p.1.text=⟨#[110,111,110,101]⟩ then .ok ([],p.2,k)
  else if p.1.text=⟨#[115,111,109,101]⟩ then (syP ⟨#[40]⟩ p.2).bind fun l2=>(f x.elem l2 k).bind fun q=>(syP ⟨#[41]⟩ q.2.1).bind fun l4 => .ok ([q.1],l4,q.2.2)
  else .error 2
def memsP:Bool→List MemD→List TokD→Bool→PR (List Val)
 | _,[],l,k => .ok ([],l,k)
 | first,y::ms,l,k=>(if first=true then .ok l else syP ⟨#[44]⟩ l).bind fun l0=>(tkP 1 l0).bind fun p =>
  if p.1.text=y.name then (syP ⟨#[58]⟩ p.2).bind fun l2=>(f y.type l2 k).bind fun q=>(memsP false ms q.2.1 q.2.2).bind fun r => .ok (q.1::r.1,r.2)
  else .error 4
def rawsP:Nat→Bool→List TokD→Except Int (List RawD×List TokD)
 | 0,_,_ => .error 0
 | n+1,first,l=>if isP ⟨#[125]⟩ l=true then .ok ([],l) else
  (if first=true then .ok l else syP ⟨#[44]⟩ l).bind fun l1=>(tkP 2 l1).bind fun p=>(syP ⟨#[58]⟩ p.2).bind fun l3=>(tkP 3 l3).bind fun q =>
   (rawsP n false q.2).bind fun r => .ok (⟨idF m p.1.int,q.1.str⟩::r.1,r.2)
def recP (x:TyD) (l:List TokD) (k:Bool):PR (List Val×List RawD) :=
 (syP ⟨#[123]⟩ l).bind fun l1=>(memsP f true x.mems l1 k).bind fun p=>(rawsP m (p.2.1.length+1) x.mems.isEmpty p.2.1).bind fun q =>
  (syP ⟨#[125]⟩ q.2).bind fun l2 => .ok ((p.1,q.1),l2,p.2.2)
def uniP (x:TyD) (l:List TokD) (k:Bool):PR (Int×List Val×List RawD) :=
 if isP ⟨#[64]⟩ l=true then (tkP 2 l.tail).bind fun p=>(syP ⟨#[40]⟩ p.2).bind fun l2=>(tkP 3 l2).bind fun q=>(syP ⟨#[41]⟩ q.2).bind fun l4 =>
  .ok ((idF m p.1.int,[],[⟨idF m p.1.int,q.1.str⟩]),l4,k)
 else (tkP 1 l).bind fun p =>
  match x.mems.find? fun y=>decide (y.name=p.1.text) with
  | none => .error 4
  | some y=>(syP ⟨#[40]⟩ p.2).bind fun l2=>(f y.type l2 k).bind fun q=>(syP ⟨#[41]⟩ q.2.1).bind fun l4 => .ok ((y.id,[q.1],[]),l4,q.2.2)
def boolP (l:List TokD) (k:Bool):PR Bool :=
 (tkP 1 l).bind fun p=>if p.1.text=⟨#[116,114,117,101]⟩ then .ok (true,p.2,k) else if p.1.text=⟨#[102,97,108,115,101]⟩ then .ok (false,p.2,k) else .error 2
def valB (x:TyD) (l:List TokD) (k:Bool):PR Val :=
 if x.kind=1 then (boolP l k).bind fun p => .ok (.mk 1 p.1 0 ⟨#[]⟩ 0 [] [] [],p.2)
 else if x.kind=2 then (tkP 2 l).bind fun p => .ok (.mk 2 false p.1.int ⟨#[]⟩ 0 [] [] [],p.2,k)
 else if x.kind=3 then (tkP 3 l).bind fun p => .ok (.mk 3 false 0 p.1.str 0 [] [] [],p.2,k)
 else if x.kind=4 then (enumP m x l k).bind fun p => .ok (.mk 4 false 0 ⟨#[]⟩ p.1 [] [] [],p.2)
 else if x.kind=5 then (recP m f x l k).bind fun p => .ok (.mk 5 false 0 ⟨#[]⟩ 0 [] p.1.1 p.1.2,p.2)
 else if x.kind=6 then (uniP m f x l k).bind fun p => .ok (.mk 6 false 0 ⟨#[]⟩ p.1.1 [] p.1.2.1 p.1.2.2,p.2)
 else if x.kind=7 then (listP f x l k).bind fun p => .ok (.mk 7 false 0 ⟨#[]⟩ 0 [] p.1 [],p.2)
 else if x.kind=8 then (mapP f x l k).bind fun p => .ok (.mk 8 false 0 ⟨#[]⟩ 0 (p.1.map Prod.fst) (p.1.map Prod.snd) [],p.2)
 else (optP f x l k).bind fun p => .ok (.mk 9 false 0 ⟨#[]⟩ 0 [] p.1 [],p.2)
end
def valP (m:Bool) (s:List TyD):Nat→Int→List TokD→Bool→PR Val
 | 0,_,_,_ => .error 0
 | n+1,t,l,k=>valB m (valP m s n) (tyAt s t) l k
def readP (m:Bool) (s:List TyD) (t:Int) (l:List TokD):PR Val:=valP m s (l.length+1) t l false
theorem zM {α β:Type} (a:α) (g:α→Except Int β):(Except.ok a:Except Int α).bind g=g a:=rfl
theorem err_bind {α β:Type} (e:Int) (g:α→Except Int β):(Except.error e:Except Int α).bind g = .error e:=rfl
theorem zS {α β:Type} {a:Except Int α} {g:α→Except Int β} {b:β} (h:a.bind g = .ok b):∃x,a = .ok x∧g x = .ok b:=by
 cases a with
 | error e=>cases h
 | ok x=>exact ⟨x,rfl,h⟩
theorem bind_err {α β:Type} {a:Except Int α} {g:α→Except Int β} {e:Int} (h:a.bind g = .error e):a = .error e∨∃x,a = .ok x∧g x = .error e:=by
 cases a with
 | error e'=>exact Or.inl (by injection h with h;rw[h])
 | ok x=>exact Or.inr ⟨x,rfl,h⟩
def Lt (a b:List TokD):Prop:=a <:+ b∧a.length<b.length
theorem Lt.sfx {a b:List TokD} (h:Lt a b):a <:+ b:=h.1
theorem Lt.then {a b c:List TokD} (h:a <:+ b) (h2:Lt b c):Lt a c:=⟨h.trans h2.1,Nat.lt_of_le_of_lt h.length_le h2.2⟩
theorem Lt.then' {a b c:List TokD} (h:Lt a b) (h2:b <:+ c):Lt a c:=⟨h.1.trans h2,Nat.lt_of_lt_of_le h.2 h2.length_le⟩
theorem tkP_lt {k:Int} {l:List TokD} {t:TokD} {r:List TokD} (h:tkP k l = .ok (t,r)):Lt r l∧l=t::r∧t.kind=k:=by
 cases l with
 | nil=>cases h
 | cons u q =>
  rw[tkP] at h
  split at h
  ·rename_i hk
   injection h with h;injection h with h1 h2;subst h1 h2
   exact ⟨⟨List.suffix_cons _ _,by simp⟩,rfl,hk⟩
  ·cases h
theorem isP_cons {s:ByteArray} {l:List TokD} (h:isP s l=true):∃t r,l=t::r∧t.kind=4∧t.text=s:=by
 cases l with
 | nil=>cases h
 | cons t r =>
  rw[isP,Bool.and_eq_true,decide_eq_true_eq,decide_eq_true_eq] at h;exact ⟨t,r,rfl,h.1,h.2⟩
theorem isP_tail {s:ByteArray} {l:List TokD} (h:isP s l=true):Lt l.tail l:=by
 obtain ⟨t,r,rfl,_⟩:=isP_cons h;exact ⟨List.suffix_cons _ _,by simp⟩
theorem zU {s:ByteArray} {l r:List TokD} (h:syP s l = .ok r):Lt r l∧isP s l=true∧r=l.tail:=by
 unfold syP at h
 split at h
 ·rename_i hi
  injection h with h;subst h
  exact ⟨isP_tail hi,hi,rfl⟩
 ·cases h
def Dec {α:Type} (part:List TokD→Bool→PR α):Prop:=∀l k x r k',part l k = .ok (x,r,k')→Lt r l
section
variable {α:Type} {part part':List TokD→Bool→PR α}
theorem sepP_lt (hp:Dec part):∀ (n:Nat) l k xs r k',sepP part n l k = .ok (xs,r,k')→Lt r l
 | 0,_,_,_,_,_,h=>by cases h
 | n+1,l,k,xs,r,k',h=>by
  rw[sepP] at h;obtain ⟨⟨x,l1,k1⟩,h1,h2⟩:=zS h;have g1:=hp _ _ _ _ _ h1;simp only at h2
  split at h2
  ·rename_i hi
   obtain ⟨⟨q,l2,k2⟩,h3,h4⟩:=zS h2
   injection h4 with h4;injection h4 with h4 h5;injection h5 with h5 h6
   subst h5;exact ((sepP_lt hp n _ _ _ _ _ h3).then' (isP_tail hi).1).then' g1.1
  ·injection h2 with h2;injection h2 with h4 h5;injection h5 with h5 h6
   subst h5;exact g1
theorem sepP_congr (l0:List TokD) (hd:Dec part) (he:∀l k,l <:+ l0→part l k=part' l k):∀ (n n':Nat) l k,l <:+ l0→l.length<n→l.length<n'→sepP part n l k=sepP part' n' l k
 | 0,_,_,_,_,h,_=>absurd h (Nat.not_lt_zero _)
 | _,0,_,_,_,_,h=>absurd h (Nat.not_lt_zero _)
 | n+1,n'+1,l,k,hl,h1,h2=>by
  rw[sepP,sepP,←he l k hl]
  cases hp:part l k with
  | error e=>rfl
  | ok p =>
   obtain ⟨x,l1,k1⟩:=p;have g1:=hd _ _ _ _ _ hp;rw[zM,zM];simp only
   split
   ·rename_i hi
    have g2:=isP_tail hi;have g3:=g2.2;have g4:=g1.2;rw[sepP_congr l0 hd he n n' l1.tail k1 ((g2.1.trans g1.1).trans hl) (by omega) (by omega)]
   ·rfl
end
theorem Lt.trans {a b c:List TokD} (h:Lt a b) (h2:Lt b c):Lt a c:=h.then' h2.1
section
variable {m:Bool} {f g:Int→List TokD→Bool→PR Val}
theorem entP_dec (hf:∀t,Dec (f t)) (x:TyD):Dec (entrP f x):=fun l k v r k' h=>by
 unfold entrP at h;obtain ⟨⟨a,l1,k1⟩,h1,h⟩:=zS h;obtain ⟨l2,h2,h⟩:=zS h;obtain ⟨⟨b,l3,k3⟩,h3,h⟩:=zS h
 injection h with h;injection h with h4 h5;injection h5 with h5 h6
 subst h5;exact ((hf _ _ _ _ _ _ h3).trans (zU h2).1).trans (hf _ _ _ _ _ _ h1)
theorem memsP_le (hf:∀t,Dec (f t)):∀ (ms:List MemD) (first:Bool) l k v r k',memsP f first ms l k = .ok (v,r,k')→r <:+ l
 | [],_,l,k,v,r,k',h=>by
  rw[memsP] at h
  injection h with h;injection h with h4 h5;injection h5 with h5 h6
  subst h5;exact List.suffix_refl _
 | y::ms,first,l,k,v,r,k',h=>by
  rw[memsP] at h;obtain ⟨l0,h0,h⟩:=zS h;have g0:l0 <:+ l:=by
   split at h0
   ·injection h0 with h0;subst h0;exact List.suffix_refl _
   ·exact (zU h0).1.1
  obtain ⟨⟨t,l1⟩,h1,h⟩:=zS h;simp only at h
  split at h
  ·obtain ⟨l2,h2,h⟩:=zS h
   obtain ⟨⟨a,l3,k3⟩,h3,h⟩:=zS h;obtain ⟨⟨b,l4,k4⟩,h4,h⟩:=zS h
   injection h with h;injection h with h5 h6;injection h6 with h6 h7
   subst h6;exact (((memsP_le hf ms false _ _ _ _ _ h4).trans (hf _ _ _ _ _ _ h3).1).trans ((zU h2).1.1.trans (tkP_lt h1).1.1)).trans g0
  ·cases h
theorem rawsP_le:∀ (n:Nat) (first:Bool) l v r,rawsP m n first l = .ok (v,r)→r <:+ l
 | 0,_,_,_,_,h=>by cases h
 | n+1,first,l,v,r,h=>by
  rw[rawsP] at h
  split at h
  ·injection h with h;injection h with h4 h5
   subst h5;exact List.suffix_refl _
  ·obtain ⟨l0,h0,h⟩:=zS h
   have g0:l0 <:+ l:=by
    split at h0
    ·injection h0 with h0;subst h0;exact List.suffix_refl _
    ·exact (zU h0).1.1
   obtain ⟨⟨t,l1⟩,h1,h⟩:=zS h;obtain ⟨l2,h2,h⟩:=zS h;obtain ⟨⟨q,l3⟩,h3,h⟩:=zS h;obtain ⟨⟨b,l4⟩,h4,h⟩:=zS h
   injection h with h;injection h with h5 h6
   subst h6;exact ((rawsP_le n false _ _ _ h4).trans (tkP_lt h3).1.1).trans (((zU h2).1.1.trans (tkP_lt h1).1.1).trans g0)
theorem enumP_lt {x:TyD}:Dec (enumP m x):=fun l k v r k' h=>by
 unfold enumP at h
 split at h
 ·rename_i hi
  obtain ⟨⟨t,l1⟩,h1,h⟩:=zS h;have g:=(tkP_lt h1).1.trans (isP_tail hi);simp only at h
  split at h
  ·split at h
   ·injection h with h;injection h with h4 h5;injection h5 with h5 h6;subst h5;exact g
   ·injection h with h;injection h with h4 h5;injection h5 with h5 h6;subst h5;exact g
  ·injection h with h;injection h with h4 h5;injection h5 with h5 h6;subst h5;exact g
 ·obtain ⟨⟨t,l1⟩,h1,h⟩:=zS h
  simp only at h
  split at h
  ·injection h with h;injection h with h4 h5;injection h5 with h5 h6;subst h5;exact (tkP_lt h1).1
  ·cases h
theorem listP_lt (hf:∀t,Dec (f t)) {x:TyD}:Dec (listP f x):=fun l k v r k' h=>by
 unfold listP at h;obtain ⟨l1,h1,h⟩:=zS h;have g:=(zU h1).1
 split at h
 ·rename_i hi
  injection h with h;injection h with h4 h5;injection h5 with h5 h6;subst h5
  exact (isP_tail hi).trans g
 ·obtain ⟨⟨a,l2,k2⟩,h2,h⟩:=zS h
  obtain ⟨l3,h3,h⟩:=zS h
  injection h with h;injection h with h4 h5;injection h5 with h5 h6;subst h5
  exact ((zU h3).1.trans (sepP_lt (hf _) _ _ _ _ _ _ h2)).trans g
theorem mapP_lt (hf:∀t,Dec (f t)) {x:TyD}:Dec (mapP f x):=fun l k v r k' h=>by
 unfold mapP at h;obtain ⟨l1,h1,h⟩:=zS h;have g:=(zU h1).1
 split at h
 ·rename_i hi
  obtain ⟨l3,h3,h⟩:=zS h
  injection h with h;injection h with h4 h5;injection h5 with h5 h6;subst h5
  exact ((zU h3).1.trans (isP_tail hi)).trans g
 ·split at h
  ·cases h
  ·obtain ⟨⟨a,l2,k2⟩,h2,h⟩:=zS h
   obtain ⟨l3,h3,h⟩:=zS h
   injection h with h;injection h with h4 h5;injection h5 with h5 h6;subst h5
   exact ((zU h3).1.trans (sepP_lt (entP_dec hf x) _ _ _ _ _ _ h2)).trans g
theorem optP_lt (hf:∀t,Dec (f t)) {x:TyD}:Dec (optP f x):=fun l k v r k' h=>by
 unfold optP at h;obtain ⟨⟨t,l1⟩,h1,h⟩:=zS h;have g:=(tkP_lt h1).1;simp only at h
 split at h
 ·injection h with h;injection h with h4 h5;injection h5 with h5 h6;subst h5
  exact g
 ·split at h
  ·obtain ⟨l2,h2,h⟩:=zS h
   obtain ⟨⟨a,l3,k3⟩,h3,h⟩:=zS h;obtain ⟨l4,h4,h⟩:=zS h
   injection h with h;injection h with h4' h5;injection h5 with h5 h6;subst h5
   exact (((zU h4).1.trans (hf _ _ _ _ _ _ h3)).trans (zU h2).1).trans g
  ·cases h
theorem recP_lt (hf:∀t,Dec (f t)) {x:TyD}:Dec (recP m f x):=fun l k v r k' h=>by
 unfold recP at h;obtain ⟨l1,h1,h⟩:=zS h;obtain ⟨⟨a,l2,k2⟩,h2,h⟩:=zS h;obtain ⟨⟨b,l3⟩,h3,h⟩:=zS h;obtain ⟨l4,h4,h⟩:=zS h
 injection h with h;injection h with h4' h5;injection h5 with h5 h6;subst h5
 exact (((zU h4).1.then' (rawsP_le _ _ _ _ _ h3)).then' (memsP_le hf _ _ _ _ _ _ _ h2)).trans (zU h1).1
theorem uniP_lt (hf:∀t,Dec (f t)) {x:TyD}:Dec (uniP m f x):=fun l k v r k' h=>by
 unfold uniP at h
 split at h
 ·rename_i hi
  obtain ⟨⟨t,l1⟩,h1,h⟩:=zS h;obtain ⟨l2,h2,h⟩:=zS h;obtain ⟨⟨q,l3⟩,h3,h⟩:=zS h;obtain ⟨l4,h4,h⟩:=zS h
  injection h with h;injection h with h4' h5;injection h5 with h5 h6;subst h5
  exact (((zU h4).1.trans (tkP_lt h3).1).trans (zU h2).1).trans ((tkP_lt h1).1.trans (isP_tail hi))
 ·obtain ⟨⟨t,l1⟩,h1,h⟩:=zS h
  simp only at h
  split at h
  ·cases h
  ·obtain ⟨l2,h2,h⟩:=zS h
   obtain ⟨⟨a,l3,k3⟩,h3,h⟩:=zS h;obtain ⟨l4,h4,h⟩:=zS h
   injection h with h;injection h with h4' h5;injection h5 with h5 h6;subst h5
   exact (((zU h4).1.trans (hf _ _ _ _ _ _ h3)).trans (zU h2).1).trans (tkP_lt h1).1
theorem boolP_lt:Dec boolP:=fun l k v r k' h=>by
 unfold boolP at h;obtain ⟨⟨t,l1⟩,h1,h⟩:=zS h;simp only at h
 split at h
 ·injection h with h;injection h with h4 h5;injection h5 with h5 h6;subst h5;exact (tkP_lt h1).1
 ·split at h
  ·injection h with h;injection h with h4 h5;injection h5 with h5 h6;subst h5;exact (tkP_lt h1).1
  ·cases h
theorem valB_lt (hf:∀t,Dec (f t)) {x:TyD}:Dec (valB m f x):=fun l k v r k' h=>by
 have H:∀ {α:Type} {a:PR α} {G:α×List TokD×Bool→PR Val},a.bind G = .ok (v,r,k')→(∀p,∃w,G p = .ok (w,p.2))→(∀z,a = .ok (z,r,k')→Lt r l)→Lt r l:=fun {α a G} hb hG hz=>by
  obtain ⟨⟨z,r',k''⟩,h1,h2⟩:=zS hb;obtain ⟨w,hw⟩:=hG (z,r',k'');rw[hw] at h2
  injection h2 with h2;injection h2 with h3 h4
  simp only at h4;rw[h4] at h1;exact hz z h1
 have HT:∀ {j:Int} {G:TokD×List TokD→PR Val},(tkP j l).bind G = .ok (v,r,k')→(∀p,∃w,G p = .ok (w,p.2,k))→Lt r l:=fun {j G} hb hG=>by
  obtain ⟨⟨z,r'⟩,h1,h2⟩:=zS hb;obtain ⟨w,hw⟩:=hG (z,r');rw[hw] at h2
  injection h2 with h2;injection h2 with h3 h4;injection h4 with h4 h5
  simp only at h4;subst h4;exact (tkP_lt h1).1
 unfold valB at h
 repeat' split at h
 ·exact H h (fun p=>⟨_,rfl⟩) fun z hz=>boolP_lt _ _ _ _ _ hz
 ·exact HT h fun p=>⟨_,rfl⟩
 ·exact HT h fun p=>⟨_,rfl⟩
 ·exact H h (fun p=>⟨_,rfl⟩) fun z hz=>enumP_lt _ _ _ _ _ hz
 ·exact H h (fun p=>⟨_,rfl⟩) fun z hz=>recP_lt hf _ _ _ _ _ hz
 ·exact H h (fun p=>⟨_,rfl⟩) fun z hz=>uniP_lt hf _ _ _ _ _ hz
 ·exact H h (fun p=>⟨_,rfl⟩) fun z hz=>listP_lt hf _ _ _ _ _ hz
 ·exact H h (fun p=>⟨_,rfl⟩) fun z hz=>mapP_lt hf _ _ _ _ _ hz
 ·exact H h (fun p=>⟨_,rfl⟩) fun z hz=>optP_lt hf _ _ _ _ _ hz
end
theorem valP_lt (m:Bool) (s:List TyD):∀n t,Dec (valP m s n t)
 | 0,_=>fun _ _ _ _ _ h=>by cases h
 | n+1,t=>fun l k v r k' h=>valB_lt (fun u=>valP_lt m s n u) l k v r k' h
theorem zY {α β:Type} {a:Except Int α} {g h:α→Except Int β} (H:∀x,a = .ok x→g x=h x):a.bind g=a.bind h:=by
 cases a with
 | error e=>rfl
 | ok x=>exact H x rfl
section
variable {m:Bool} {f g:Int→List TokD→Bool→PR Val}
def SameTo (f g:Int→List TokD→Bool→PR Val) (l:List TokD):Prop:=∀t r k,r <:+ l→f t r k=g t r k
def SameLt (f g:Int→List TokD→Bool→PR Val) (l:List TokD):Prop:=∀t r k,Lt r l→f t r k=g t r k
theorem SameLt.to {l l1:List TokD} (h:SameLt f g l) (h1:Lt l1 l):SameTo f g l1:=fun t r k hr=>h t r k (Lt.then hr h1)
theorem SameTo.of {l l1:List TokD} (h:SameTo f g l) (h1:l1 <:+ l):SameTo f g l1:=fun t r k hr=>h t r k (hr.trans h1)
theorem entP_same (hf:∀t,Dec (f t)) {x:TyD} {l:List TokD} (h:SameTo f g l) (k:Bool):entrP f x l k=entrP g x l k:=by
 unfold entrP;rw[←h x.key l k (List.suffix_refl _)];refine zY fun p hp=>?_
 obtain ⟨a,l1,k1⟩:=p;have g1:=(hf _ _ _ _ _ _ hp).1;refine zY fun l2 h2=>?_
 have g2:=(zU h2).1.1;simp only;rw[h x.elem l2 k1 (g2.trans g1)]
theorem memsP_same (hf:∀t,Dec (f t)):∀ (ms:List MemD) (first:Bool) (l:List TokD) (k:Bool),SameTo f g l→memsP f first ms l k=memsP g first ms l k
 | [],_,l,k,_=>rfl
 | y::ms,first,l,k,h=>by
  rw[memsP,memsP];refine zY fun l0 h0=>?_
  have g0:l0 <:+ l:=by
   split at h0
   ·injection h0 with h0;subst h0;exact List.suffix_refl _
   ·exact (zU h0).1.1
  refine zY fun p h1=>?_
  obtain ⟨t,l1⟩:=p;have g1:=(tkP_lt h1).1.1;simp only
  split
  ·refine zY fun l2 h2=>?_
   have g2:=(zU h2).1.1;have g3:l2 <:+ l:=g2.trans (g1.trans g0);rw[←h y.type l2 k g3];refine zY fun q h3=>?_
   obtain ⟨a,l3,k3⟩:=q;have g4:=(hf _ _ _ _ _ _ h3).1;simp only;rw[memsP_same hf ms false l3 k3 (h.of (g4.trans g3))]
  ·rfl
theorem listP_same (hf:∀t,Dec (f t)) {x:TyD} {l:List TokD} (h:SameLt f g l) (k:Bool):listP f x l k=listP g x l k:=by
 unfold listP;refine zY fun l1 h1=>?_
 have g1:=(zU h1).1
 split
 ·rfl
 ·rw[sepP_congr l1 (hf _) (fun r k hr=>h x.elem r k (Lt.then hr g1)) (l1.length+1) (l1.length+1) l1 k (List.suffix_refl _) (by omega) (by omega)]
theorem mapP_same (hf:∀t,Dec (f t)) {x:TyD} {l:List TokD} (h:SameLt f g l) (k:Bool):mapP f x l k=mapP g x l k:=by
 unfold mapP;refine zY fun l1 h1=>?_
 have g1:=(zU h1).1
 split
 ·rfl
 ·split
  ·rfl
  ·rw[sepP_congr l1 (entP_dec hf x) (fun r k hr=>entP_same hf ((h.to g1).of hr) k) (l1.length+1) (l1.length+1) l1 k (List.suffix_refl _) (by omega) (by omega)]
theorem optP_same {x:TyD} {l:List TokD} (h:SameLt f g l) (k:Bool):optP f x l k=optP g x l k:=by
 unfold optP;refine zY fun p h1=>?_
 obtain ⟨t,l1⟩:=p;have g1:=(tkP_lt h1).1;simp only
 split
 ·rfl
 ·split
  ·refine zY fun l2 h2=>?_
   rw[h x.elem l2 k ((zU h2).1.trans g1)]
  ·rfl
theorem recP_same (hf:∀t,Dec (f t)) {x:TyD} {l:List TokD} (h:SameLt f g l) (k:Bool):recP m f x l k=recP m g x l k:=by
 unfold recP;refine zY fun l1 h1=>?_
 rw[memsP_same hf x.mems true l1 k (h.to (zU h1).1)]
theorem uniP_same {x:TyD} {l:List TokD} (h:SameLt f g l) (k:Bool):uniP m f x l k=uniP m g x l k:=by
 unfold uniP
 split
 ·rfl
 ·refine zY fun p h1=>?_
  obtain ⟨t,l1⟩:=p;have g1:=(tkP_lt h1).1;simp only
  split
  ·rfl
  ·rename_i y _
   refine zY fun l2 h2=>?_
   rw[h y.type l2 k ((zU h2).1.trans g1)]
theorem valB_same (hf:∀t,Dec (f t)) {x:TyD} {l:List TokD} (h:SameLt f g l) (k:Bool):valB m f x l k=valB m g x l k:=by
 unfold valB;rw[listP_same hf h,mapP_same hf h,optP_same h,recP_same hf h,uniP_same h]
end
theorem valP_fuel (m:Bool) (s:List TyD):∀ (n n':Nat) (t:Int) (l:List TokD) (k:Bool),l.length<n→l.length<n'→valP m s n t l k=valP m s n' t l k
 | 0,_,_,_,_,h,_=>absurd h (Nat.not_lt_zero _)
 | _,0,_,_,_,_,h=>absurd h (Nat.not_lt_zero _)
 | n+1,n'+1,t,l,k,h1,h2=>by
  rw[valP,valP];refine valB_same (valP_lt m s n) (fun u r k' hr=>?_) k
  have:=hr.2;exact valP_fuel m s n n' u r k' (by omega) (by omega)
def valR (m:Bool) (s:List TyD) (t:Int) (l:List TokD) (k:Bool):PR Val:=valP m s (l.length+1) t l k
theorem valR_dec (m:Bool) (s:List TyD) (t:Int):Dec (valR m s t):=fun _ _ _ _ _ h=>valP_lt m s _ t _ _ _ _ _ h
theorem valR_eq (m:Bool) (s:List TyD) (t:Int) (l:List TokD) (k:Bool):valR m s t l k=valB m (valR m s) (tyAt s t) l k:=by
 unfold valR;rw[valP];refine valB_same (valP_lt m s _) (fun u r k' hr=>?_) k
 have:=hr.2;exact valP_fuel m s _ _ u r k' (by omega) (by omega)
def okV (s:List TyD) (t:Int) (v:Val):Prop:=∃n,fitF s false n t v=true
section
variable {α β γ:Type} {bad:α→Prop} {bad2:β→Prop} {bad3:γ→Prop} {k:Bool}
end
def IdsT (x:TyD):Prop:=(∀y∈x.syms,1≤y.id∧y.id≤1000)∧∀y∈x.mems,1≤y.id∧y.id≤1000
theorem free_iff {n:Int}:freeD n=true↔1≤n∧n≤1000:=by unfold freeD;simp
section
variable {s:List TyD} {f f':Int→List TokD→Bool→PR Val}
end
section
variable {s:List TyD} {f f':Int→List TokD→Bool→PR Val} {t:Int} {k:Bool}
theorem okRaws {x:TyD}:∀ {l:List RawD},rawsD x l=true→∀r∈l,freeD r.id=true
 | a::l,h,r,hr=>by
  unfold rawsD at h;simp only[Bool.and_eq_true] at h
  rcases List.mem_cons.1 hr with rfl|hr
  ·exact h.1.1.2
  ·exact okRaws h.2 r hr
theorem okZips {f:Int→Val→Bool}:∀ (ms:List MemD) (vs:List Val),((ms.zip vs).all fun p=>f p.1.type p.2)=true→∀k (h:k<ms.length) (h':k<vs.length),f (ms[k]).type vs[k]=true
 | m::ms,w::vs,h,0,_,_=>by
  simp only[List.zip_cons_cons,List.all_cons,Bool.and_eq_true] at h;exact h.1
 | m::ms,w::vs,h,k+1,h1,h2=>by
  simp only[List.zip_cons_cons,List.all_cons,Bool.and_eq_true] at h;exact okZips ms vs h.2 k (by simpa using h1) (by simpa using h2)
end
def sepR {α:Type} (part:List TokD→Bool→PR α) (l:List TokD) (k:Bool):PR (List α):=sepP part (l.length+1) l k
theorem sepR_eq {α:Type} {part:List TokD→Bool→PR α} (hd:Dec part) (l:List TokD) (k:Bool):sepR part l k=(part l k).bind fun p =>
  if isP ⟨#[44]⟩ p.2.1=true then (sepR part p.2.1.tail p.2.2).bind fun q => .ok (p.1::q.1,q.2) else .ok ([p.1],p.2):=by
 unfold sepR;rw[sepP];refine zY fun p hp=>?_
 obtain ⟨x,l1,k1⟩:=p;simp only
 split
 ·rename_i hi
  have g1:=(hd _ _ _ _ _ hp).2;have g2:=(isP_tail hi).2;rw[sepP_congr l1.tail hd (fun _ _ _=>rfl) l.length (l1.tail.length+1) l1.tail k1 (List.suffix_refl _) (by omega) (by omega)]
 ·rfl
theorem rawsP_fuel (m:Bool):∀ (n n':Nat) (first:Bool) (l:List TokD),l.length<n→l.length<n'→rawsP m n first l=rawsP m n' first l
 | 0,_,_,_,h,_=>absurd h (Nat.not_lt_zero _)
 | _,0,_,_,_,h=>absurd h (Nat.not_lt_zero _)
 | n+1,n'+1,first,l,h1,h2=>by
  rw[rawsP,rawsP]
  split
  ·rfl
  ·refine zY fun l0 h0=>?_
   have g0:l0.length≤l.length:=by
    split at h0
    ·injection h0 with h0;subst h0;exact Nat.le_refl _
    ·exact Nat.le_of_lt (zU h0).1.2
   refine zY fun p hp=>?_
   obtain ⟨t,l1⟩:=p;have g1:=(tkP_lt hp).1.2;refine zY fun l3 h3=>?_
   have g3:=(zU h3).1.2;refine zY fun q hq=>?_
   obtain ⟨u,l4⟩:=q;have g4:=(tkP_lt hq).1.2;simp only at g1 g3 g4 ⊢;rw[rawsP_fuel m n n' false l4 (by omega) (by omega)]
def rawsR (m first:Bool) (l:List TokD):Except Int (List RawD×List TokD):=rawsP m (l.length+1) first l
theorem rawsR_eq (m first:Bool) (l:List TokD):rawsR m first l=if isP ⟨#[125]⟩ l=true then .ok ([],l) else
  (if first=true then .ok l else syP ⟨#[44]⟩ l).bind fun l1=>(tkP 2 l1).bind fun p=>(syP ⟨#[58]⟩ p.2).bind fun l3=>(tkP 3 l3).bind fun q =>
   (rawsR m false q.2).bind fun r => .ok (⟨idF m p.1.int,q.1.str⟩::r.1,r.2):=by
 unfold rawsR;rw[rawsP]
 split
 ·rfl
 ·refine zY fun l0 h0=>?_
  have g0:l0.length≤l.length:=by
   split at h0
   ·injection h0 with h0;subst h0;exact Nat.le_refl _
   ·exact Nat.le_of_lt (zU h0).1.2
  refine zY fun p hp=>?_
  obtain ⟨t,l1⟩:=p;have g1:=(tkP_lt hp).1.2;refine zY fun l3 h3=>?_
  have g3:=(zU h3).1.2;refine zY fun q hq=>?_
  obtain ⟨u,l4⟩:=q;have g4:=(tkP_lt hq).1.2;simp only at g1 g3 g4 ⊢;rw[rawsP_fuel m l.length (l4.length+1) false l4 (by omega) (by omega)]
def NoZero {α:Type} (a:Except Int α):Prop:=a ≠ .error 0
theorem zP {α β:Type} {a:Except Int α} {g:α→Except Int β} (h1:NoZero a) (h2:∀x,a = .ok x→NoZero (g x)):NoZero (a.bind g):=fun h=>by
 rcases bind_err h with h|⟨x,h3,h4⟩
 ·exact h1 h
 ·exact h2 x h3 h4
theorem nz_ok {α:Type} (a:α):NoZero (Except.ok a:Except Int α):=fun h=>by cases h
theorem nz_two {α:Type}:NoZero (.error 2:Except Int α):=fun h=>by injection h with h;cases h
theorem nz_four {α:Type}:NoZero (.error 4:Except Int α):=fun h=>by injection h with h;cases h
theorem nz_tk (k:Int) (l:List TokD):NoZero (tkP k l):=by
 cases l with
 | nil=>exact nz_two
 | cons t r=>rw[tkP];split <;> first|exact nz_ok _|exact nz_two
theorem nz_sy (s:ByteArray) (l:List TokD):NoZero (syP s l):=by
 unfold syP;split <;> first|exact nz_ok _|exact nz_two
theorem nz_sep {α:Type} {part:List TokD→Bool→PR α} (hd:Dec part) (l0:List TokD) (hp:∀l k,l <:+ l0→NoZero (part l k)):∀ (n:Nat) l k,l <:+ l0→l.length<n→NoZero (sepP part n l k)
 | 0,_,_,_,h=>absurd h (Nat.not_lt_zero _)
 | n+1,l,k,hl,h=>by
  rw[sepP];refine zP (hp l k hl) fun p h1=>?_
  obtain ⟨x,l1,k1⟩:=p;have g1:=hd _ _ _ _ _ h1;simp only
  split
  ·rename_i hi
   have g2:=isP_tail hi;have g3:=g1.2;have g4:=g2.2;exact zP (nz_sep hd l0 hp n l1.tail k1 ((g2.1.trans g1.1).trans hl) (by omega)) fun _ _=>nz_ok _
  ·exact nz_ok _
theorem nz_first {first:Bool} {l:List TokD}:NoZero (if first=true then Except.ok l else syP ⟨#[44]⟩ l):=by
 split
 ·exact nz_ok _
 ·exact nz_sy _ _
theorem nz_mems {f:Int→List TokD→Bool→PR Val} (hf:∀t,Dec (f t)) (l0:List TokD) (hp:∀t l k,l <:+ l0→NoZero (f t l k)):∀ (ms:List MemD) (first:Bool) l k,l <:+ l0→NoZero (memsP f first ms l k)
 | [],_,_,_,_=>nz_ok _
 | y::ms,first,l,k,hl=>by
  rw[memsP];refine zP nz_first fun l1 h1=>?_
  have g1:l1 <:+ l:=by
   split at h1
   ·injection h1 with h1;subst h1;exact List.suffix_refl _
   ·exact (zU h1).1.1
  refine zP (nz_tk _ _) fun p h2=>?_
  obtain ⟨t,l2⟩:=p;have g2:=(tkP_lt h2).1.1;simp only
  split
  ·refine zP (nz_sy _ _) fun l3 h3=>?_
   have g3:=(zU h3).1.1;refine zP (hp _ _ _ (g3.trans (g2.trans (g1.trans hl)))) fun q h4=>?_
   obtain ⟨v,l4,k4⟩:=q;have g4:=(hf _ _ _ _ _ _ h4).1;exact zP (nz_mems hf l0 hp ms false l4 k4 (g4.trans (g3.trans (g2.trans (g1.trans hl))))) fun _ _=>nz_ok _
  ·exact nz_four
theorem nz_raws (m:Bool):∀ (n:Nat) (first:Bool) (l:List TokD),l.length<n→NoZero (rawsP m n first l)
 | 0,_,_,h=>absurd h (Nat.not_lt_zero _)
 | n+1,first,l,h=>by
  rw[rawsP]
  split
  ·exact nz_ok _
  ·refine zP nz_first fun l0 h0=>?_
   have g0:l0.length≤l.length:=by
    split at h0
    ·injection h0 with h0;subst h0;exact Nat.le_refl _
    ·exact Nat.le_of_lt (zU h0).1.2
   refine zP (nz_tk _ _) fun p hp=>?_
   obtain ⟨t,l1⟩:=p;have g1:=(tkP_lt hp).1.2;refine zP (nz_sy _ _) fun l3 h3=>?_
   have g3:=(zU h3).1.2;refine zP (nz_tk _ _) fun q hq=>?_
   obtain ⟨u,l4⟩:=q;have g4:=(tkP_lt hq).1.2;exact zP (nz_raws m n false l4 (by simp only at *;omega)) fun _ _=>nz_ok _
theorem nz_valB {m:Bool} {f:Int→List TokD→Bool→PR Val} (hf:∀t,Dec (f t)) {x:TyD} {l:List TokD} {k:Bool} (hp:∀t r k,Lt r l→NoZero (f t r k)):NoZero (valB m f x l k):=by
 have hT:∀ {r:List TokD},Lt r l→∀t r2 k,r2 <:+ r→NoZero (f t r2 k):=fun h t r2 k h2=>hp t r2 k (Lt.then h2 h)
 unfold valB
 repeat' split
 ·refine zP ?_ fun _ _=>nz_ok _
  unfold boolP;refine zP (nz_tk _ _) fun p _=>?_
  repeat' split
  all_goals first|exact nz_ok _|exact nz_two
 ·exact zP (nz_tk _ _) fun _ _=>nz_ok _
 ·exact zP (nz_tk _ _) fun _ _=>nz_ok _
 ·refine zP ?_ fun _ _=>nz_ok _
  unfold enumP
  split
  ·refine zP (nz_tk _ _) fun p _=>?_
   repeat' split
   all_goals exact nz_ok _
  ·refine zP (nz_tk _ _) fun p _=>?_
   split
   ·exact nz_ok _
   ·exact nz_four
 ·refine zP ?_ fun _ _=>nz_ok _
  unfold recP;refine zP (nz_sy _ _) fun l1 h1=>?_
  refine zP (nz_mems hf l1 (fun t r k hr=>hT (zU h1).1 t r k hr) _ _ _ _ (List.suffix_refl _)) fun p _=>?_
  refine zP (nz_raws m _ _ _ (by omega)) fun q _=>?_
  exact zP (nz_sy _ _) fun _ _=>nz_ok _
 ·refine zP ?_ fun _ _=>nz_ok _
  unfold uniP
  split
  ·refine zP (nz_tk _ _) fun p _=>?_
   refine zP (nz_sy _ _) fun l1 h1=>?_
   refine zP (nz_tk _ _) fun p _=>?_
   exact zP (nz_sy _ _) fun _ _=>nz_ok _
  ·refine zP (nz_tk _ _) fun p h1=>?_
   obtain ⟨t,l1⟩:=p;simp only
   split
   ·exact nz_four
   ·refine zP (nz_sy _ _) fun l2 h2=>?_
    refine zP (hp _ _ _ ((zU h2).1.trans (tkP_lt h1).1)) fun q _=>?_
    exact zP (nz_sy _ _) fun _ _=>nz_ok _
 ·refine zP ?_ fun _ _=>nz_ok _
  unfold listP;refine zP (nz_sy _ _) fun l1 h1=>?_
  split
  ·exact nz_ok _
  ·refine zP (nz_sep (hf _) l1 (fun r k hr=>hT (zU h1).1 _ r k hr) _ _ _ (List.suffix_refl _) (by omega)) fun p _=>?_
   exact zP (nz_sy _ _) fun _ _=>nz_ok _
 ·refine zP ?_ fun _ _=>nz_ok _
  unfold mapP;refine zP (nz_sy _ _) fun l1 h1=>?_
  split
  ·exact zP (nz_sy _ _) fun _ _=>nz_ok _
  ·split
   ·exact nz_two
   ·refine zP (nz_sep (entP_dec hf x) l1 (fun r k hr=>?_) _ _ _ (List.suffix_refl _) (by omega)) fun p _=>?_
    ·unfold entrP
     refine zP (hT (zU h1).1 _ r k hr) fun p h2=>?_
     obtain ⟨v,l2,k2⟩:=p;refine zP (nz_sy _ _) fun l3 h3=>?_
     exact zP (hT (zU h1).1 _ l3 k2 (((zU h3).1.1.trans (hf _ _ _ _ _ _ h2).1).trans hr)) fun _ _=>nz_ok _
    ·exact zP (nz_sy _ _) fun _ _=>nz_ok _
 ·refine zP ?_ fun _ _=>nz_ok _
  unfold optP;refine zP (nz_tk _ _) fun p h1=>?_
  obtain ⟨t,l1⟩:=p;simp only
  split
  ·exact nz_ok _
  ·split
   ·refine zP (nz_sy _ _) fun l2 h2=>?_
    refine zP (hp _ _ _ ((zU h2).1.trans (tkP_lt h1).1)) fun q _=>?_
    exact zP (nz_sy _ _) fun _ _=>nz_ok _
   ·exact nz_two
theorem valP_nz (m:Bool) (s:List TyD):∀ (n:Nat) (t:Int) (l:List TokD) (k:Bool),l.length<n→NoZero (valP m s n t l k)
 | 0,_,_,_,h=>absurd h (Nat.not_lt_zero _)
 | n+1,t,l,k,h=>by
  rw[valP];refine nz_valB (valP_lt m s n) fun u r k' hr=>?_
  have:=hr.2;exact valP_nz m s n u r k' (by omega)
theorem valR_nz (m:Bool) (s:List TyD) (t:Int) (l:List TokD) (k:Bool):NoZero (valR m s t l k):=valP_nz m s _ t l k (by omega)
structure TyOkL (x:TyD):Prop where
 ids:IdsT x
 midN:(x.mems.map MemD.id).Nodup
 symN:(x.syms.map SymD.name).Nodup
 memN:(x.mems.map MemD.name).Nodup
section
variable {f:Int→List TokD→Bool→PR Val} {g:Int→Val→List TokD}
end
end Go.Proofs.YthkkllmmbefedaaGreatDoor


