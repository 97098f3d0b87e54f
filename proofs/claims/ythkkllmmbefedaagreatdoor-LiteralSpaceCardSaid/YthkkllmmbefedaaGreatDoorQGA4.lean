/-
  The laws of literals, of the plain functions.
-/
import Derived.Test.YthkkllmmbefedaaGreatDoorQGA3
namespace Go.Proofs.YthkkllmmbefedaaGreatDoor
set_option maxHeartbeats 16000000
set_option maxRecDepth 100000
def atL (ln:Int) (t:TokD):TokD:={ t with line:=ln }
def SepL (r:List UInt8):Prop:=∀c q,r=c::q→(isLetB c||zZ c)=false
def LexA (a:List UInt8) (w:List TokD):Prop:=∀ln rest,toksL ln (a++rest)=(toksL ln rest).map fun o=>w.map (atL ln)++o
def LexS (a:List UInt8) (w:List TokD):Prop:=∀ln rest,SepL rest→toksL ln (a++rest)=(toksL ln rest).map fun o=>w.map (atL ln)++o
theorem LexA.s {a:List UInt8} {w:List TokD} (h:LexA a w):LexS a w:=fun ln rest _=>h ln rest
theorem map_map_e {α:Type} (a:Except Int (List α)) (u w:List α):(a.map fun o=>w++o).map (fun o=>u++o)=a.map fun o=>(u++w)++o:=by
 cases a with
 | error e=>rfl
 | ok o=>exact congrArg Except.ok (List.append_assoc u w o).symm
theorem LexA.app {a b:List UInt8} {u w:List TokD} (h1:LexA a u) (h2:LexA b w):LexA (a++b) (u++w):=fun ln rest=>by
 rw[List.append_assoc,h1,h2,map_map_e,List.map_append]
def Stop (b:List UInt8):Prop:=∃c q,b=c::q∧(isLetB c||zZ c)=false
theorem Stop.sep {b:List UInt8} (h:Stop b) (r:List UInt8):SepL (b++r):=by
 obtain ⟨c,q,rfl,hc⟩:=h
 intro d p e
 injection e with e1 e2
 subst e1;exact hc
theorem LexS.app {a b:List UInt8} {u w:List TokD} (h1:LexS a u) (hb:Stop b) (h2:LexA b w):LexA (a++b) (u++w):=fun ln rest=>by
 rw[List.append_assoc,h1 ln _ (hb.sep rest),h2,map_map_e,List.map_append]
theorem LexA.nil:LexA [] []:=fun ln rest=>by
 rw[List.nil_append]
 cases toksL ln rest <;> rfl
theorem let_rng {c:UInt8} (h:isLetB c=true):c.toNat=95∨(97≤c.toNat∧c.toNat≤122)∨(65≤c.toNat∧c.toNat≤90):=by
 unfold isLetB letC at h;simp only[Bool.or_eq_true,Bool.and_eq_true,decide_eq_true_eq] at h
 omega
theorem dig_rng {c:UInt8}:zZ c=true↔48≤c.toNat∧c.toNat≤57:=by
 unfold zZ digI;simp only[Bool.and_eq_true,decide_eq_true_eq]
 omega
theorem dig_no {c:UInt8} (h:¬ (48≤c.toNat∧c.toNat≤57)):zZ c=false:=by
 rw[Bool.eq_false_iff,ne_eq,dig_rng];exact h
theorem let_no {c:UInt8} (h:¬ (c.toNat=95∨(97≤c.toNat∧c.toNat≤122)∨(65≤c.toNat∧c.toNat≤90))):isLetB c=false:=by
 cases hc:isLetB c with
 | false=>rfl
 | true=>exact absurd (let_rng hc) h
theorem quK_list (s:ByteArray):∀k,k≤s.size→(quK s k).data.toList=34::(s.data.toList.take k).flatMap quBL
 | 0,_=>rfl
 | k+1,h=>by
  have hk:k<s.data.toList.length:=h;rw[quK,ByteArray.data_append,Array.toList_append,quK_list s k (by omega),quB_list,List.take_succ_eq_append_getElem hk,List.flatMap_append]
  have:s.data.getD k 0=s.data.toList[k]:=by
   rw[Array.getD_eq_getD_getElem?,Array.getElem?_eq_getElem (by exact h)];rfl
  rw[this];simp
theorem quD_list (s:ByteArray):(quD s).data.toList=34::(s.data.toList.flatMap quBL++[34]):=by
 unfold quD;rw[ByteArray.data_append,Array.toList_append,quK_list s s.size (Nat.le_refl _)];have:s.data.toList.take s.size=s.data.toList:=List.take_of_length_le (Nat.le_refl _);rw[this];rfl
theorem fit_parts {s:List TyD} {t:Int} {v:Val} {n:Nat} (h:fitF s false (n+1) t v=true):0≤t∧t<(s.length:Int)∧v.kind=(tyAt s t).kind∧zJ v=true∧fitB (fitF s false n) false (tyAt s t) v=true:=by
 rw[fitF] at h
 split at h
 ·cases h
 ·rename_i h1
  split at h
  ·cases h
  ·rename_i h2
   simp only[not_or,ne_eq,Decidable.not_not,Bool.not_eq_false] at h2;exact ⟨by omega,by omega,h2.1,h2.2,h⟩
section
variable {f:Int→List TokD→Bool→PR Val} {g:Int→Val→List TokD} {x:TyD} {k:Bool} {more:List TokD}
end
section
variable {s:List TyD} {n:Nat} {t:Int} {v:Val}
end
def stripT (t:TokD):TokD:={ t with line:=0 }
def Front (l r w:List TokD):Prop:=∃pre,l=pre++r∧pre.map stripT=w
theorem Front.refl (l:List TokD):Front l l []:=⟨[],rfl,rfl⟩
theorem Front.app {a b c u w:List TokD} (h1:Front a b u) (h2:Front b c w):Front a c (u++w):=by
 obtain ⟨p,rfl,rfl⟩:=h1;obtain ⟨q,rfl,rfl⟩:=h2;exact ⟨p++q,by rw[List.append_assoc],List.map_append⟩
def Mono {α:Type} (part:List TokD→Bool→PR α):Prop:=∀l k x r k',part l k = .ok (x,r,k')→k=true→k'=true
theorem Mono.false {α:Type} {part:List TokD→Bool→PR α} (h:Mono part) {l:List TokD} {k:Bool} {x:α} {r:List TokD} (he:part l k = .ok (x,r,false)):k=false:=by
 cases k with
 | false=>rfl
 | true=>exact absurd (h _ _ _ _ _ he rfl) (by simp)
section
variable {f:Int→List TokD→Bool→PR Val} {g:Int→Val→List TokD}
variable {P:Int→Val→Prop}
end
end Go.Proofs.YthkkllmmbefedaaGreatDoor
namespace Go.Proofs.YthkkllmmbefedaaGreatDoor
def jnL:List (List UInt8)→List UInt8
 | []=>[]
 | [x]=>x
 | x::y::r=>x++44::32::jnL (y::r)
theorem jn_snoc:∀ (m:List (List UInt8)) (z:List UInt8),jnL (m++[z])=if m=[] then z else jnL m++44::32::z
 | [],z=>rfl
 | [x],z=>rfl
 | x::y::r,z=>by
  have:=jn_snoc (y::r) z;rw[if_neg (by simp)] at this
  rw[if_neg (by simp),jnL]
  show x++44::32::jnL (y::r++[z])=_
  rw[this];simp
theorem data_app2 (a b:ByteArray):(a++b).data.toList=a.data.toList++b.data.toList:=by rw[ByteArray.data_append,Array.toList_append]
theorem cat_jn (l:List ByteArray):(catL l).data.toList=jnL (l.map fun b=>b.data.toList):=by
 have:∀k,k≤l.length→(catK (fun i=>l.getD i ⟨#[]⟩) k).data.toList=jnL ((l.take k).map fun b=>b.data.toList):=fun k=>by
  induction k with
  | zero=>intro _;rfl
  | succ k ih =>
   intro h
   have hk:k<l.length:=h;rw[catK,data_app2,data_app2,ih (by omega),List.take_succ_eq_append_getElem hk,List.map_append,List.map_singleton,jn_snoc]
   have hg:l.getD k ⟨#[]⟩=l[k]:=by rw[List.getD_eq_getElem?_getD,zl hk];rfl
   rw[hg]
   by_cases h0:k=0
   ·subst h0
    rw[if_pos rfl,if_pos (by simp)];rfl
   ·rw[if_neg h0,if_neg (by
     intro e
     have:=congrArg List.length e;rw[List.length_map,List.length_take,List.length_nil] at this
     omega)]
    simp
 have h:=this l.length (Nat.le_refl _);rw[List.take_length] at h;exact h
structure NamOk (x:TyD):Prop where
 syms:∀y∈x.syms,nameB y.name=true
 mems:∀y∈x.mems,nameB y.name=true
 low:-9223372036854775808≤x.low
 high:x.high≤9223372036854775807
section
variable {f:Int→Val→ByteArray} {g:Int→Val→List TokD} {x:TyD}
end
section
variable (f:Int→Val→ByteArray) {x:TyD}
theorem lit6s (hc:x.kind=6) {v:Val} {m:MemD} {w:Val} (hm:x.mems.find? (fun m=>decide (m.id=v.id))=some m) (hi:v.items=[w]):litB f x v=m.name++⟨#[40]⟩++f m.type w++⟨#[41]⟩:=by
 unfold litB;rw[if_neg (by omega),if_neg (by omega),if_neg (by omega),if_neg (by omega),if_neg (by omega),if_pos hc,hm,hi]
theorem lit6n (hc:x.kind=6) {v:Val} {r:RawD} (hm:x.mems.find? (fun m=>decide (m.id=v.id))=none) (hi:v.rest=[r]):litB f x v=⟨#[64]⟩++decB v.id++⟨#[40]⟩++quD r.data++⟨#[41]⟩:=by
 unfold litB;rw[if_neg (by omega),if_neg (by omega),if_neg (by omega),if_neg (by omega),if_neg (by omega),if_pos hc,hm,hi]
theorem lit8k (hc:x.kind=8) {v:Val}:litB f x v=⟨#[91]⟩++(if v.keys.length=0 then ⟨#[45,62]⟩ else ⟨#[]⟩)++catL ((v.keys.zip v.items).map (entP (f x.key) (f x.elem)))++⟨#[93]⟩:=by
 unfold litB;rw[if_neg (by omega),if_neg (by omega),if_neg (by omega),if_neg (by omega),if_neg (by omega),if_neg (by omega),if_neg (by omega),if_pos hc]
theorem lit9n (hc:x.kind=9) {v:Val} (hi:v.items=[]):litB f x v=⟨#[110,111,110,101]⟩:=by
 unfold litB;rw[if_neg (by omega),if_neg (by omega),if_neg (by omega),if_neg (by omega),if_neg (by omega),if_neg (by omega),if_neg (by omega),if_neg (by omega),hi]
theorem lit9s (hc:x.kind=9) {v w:Val} {q:List Val} (hi:v.items=w::q):litB f x v=⟨#[115,111,109,101,40]⟩++f x.elem w++⟨#[41]⟩:=by
 unfold litB;rw[if_neg (by omega),if_neg (by omega),if_neg (by omega),if_neg (by omega),if_neg (by omega),if_neg (by omega),if_neg (by omega),if_neg (by omega),hi]
end
section
variable (g:Int→Val→List TokD) {x:TyD} {v:Val}
end
theorem map_ok {α β:Type} {a:Except Int α} {g:α→β} {b:β} (h:a.map g = .ok b):∃x,a = .ok x∧g x=b:=by
 cases a with
 | error e=>cases h
 | ok x=>exact ⟨x,rfl,by injection h⟩
def wordT (t:TokD):ByteArray:=if t.kind=2 then decB t.int else if t.kind=3 then quD t.str else t.text
def SpcL (r:List UInt8):Prop:=∃c q,r=c::q∧(c.toNat=32∨c.toNat=10∨c.toNat=9)
theorem SpcL.sep {r:List UInt8} (h:SpcL r):SepL r:=fun c q e=>by
 obtain ⟨d,p,h1,h2⟩:=h;rw[e] at h1
 injection h1 with h1 _
 subst h1;rw[let_no (by omega),dig_no (by omega)];rfl
theorem quo_size:∀ (n:Nat) (l o:List UInt8) (k:Nat),l.length≤n→quoL l=some (o,k)→(o.flatMap quBL).length+1=k
 | _,[],_,_,_,h=>by rw[quoL_nil] at h;cases h
 | 0,_::_,_,_,hn,_=>by simp at hn
 | n+1,c::r,o,k,hn,h=>by
  rw[quoL_cons] at h
  split at h
  ·injection h with h;injection h with h1 h2;subst h1 h2;rfl
  ·rename_i hc
   split at h
   ·cases h
   ·rename_i b j hp
    have hle:=partL_le hp;rw[Option.map_eq_some_iff] at h;obtain ⟨⟨q,i⟩,h1,h2⟩:=h
    injection h2 with h2 h3
    subst h2 h3;have ih:=quo_size n _ q i (by rw[List.length_drop];simp only[List.length_cons] at *;omega) h1
    have hs:=(of_part hp fun d p e=>by injection e with e1 _;rw[←e1];exact hc).2
    rw[List.flatMap_cons,List.length_append];simp only
    omega
theorem tok_size {l:List UInt8} {t:TokD} {k:Nat} (h:tokL l=some (t,k)):(wordT t).size=k:=by
 have hk:=tokL_le h;have ht:∀j,j≤l.length→(bA (l.take j)).size=j:=fun j hj=>by
  show (l.take j).toArray.size=j
  rw[List.size_toArray,List.length_take];omega
 unfold tokL at h
 split at h
 ·cases h
 ·rename_i c r
  split at h
  ·split at h
   ·injection h with h;injection h with h1 h2
    subst h1 h2;unfold wordT;rw[if_neg (by show ¬ (1:Int)=2;decide),if_neg (by show ¬ (1:Int)=3;decide)]
    exact ht _ (lettK_le _)
   ·cases h
  ·split at h
   ·rw[Option.map_eq_some_iff] at h
    obtain ⟨v,hv,h⟩:=h
    injection h with h1 h2
    subst h1 h2;unfold wordT;rw[if_pos (by rfl)]
    have:=(intL_iff.1 hv).2
    show (Lib.itoa v).toArray.size=_
    rw[List.size_toArray,this,List.length_take];have:=digiK_le r;rw[List.length_cons];omega
   ·split at h
    ·rw[Option.map_eq_some_iff] at h
     obtain ⟨⟨o,i⟩,hv,h⟩:=h
     injection h with h1 h2
     subst h1 h2;unfold wordT;rw[if_neg (by show ¬ (3:Int)=2;decide),if_pos (by rfl)]
     have h1:=quo_size _ _ _ _ (Nat.le_refl _) hv;have h2:(quD (bA o)).size=((quD (bA o)).data.toList).length:=rfl
     show (quD (bA o)).size=_
     rw[h2,quD_list]
     show ((34:UInt8)::(o.flatMap quBL++[34])).length=_
     rw[List.length_cons,List.length_append];simp only[List.length_cons,List.length_nil]
     omega
    ·rw[Option.map_eq_some_iff] at h
     obtain ⟨n,hv,h⟩:=h
     injection h with h1 h2
     subst h1 h2;unfold wordT;rw[if_neg (by show ¬ (4:Int)=2;decide),if_neg (by show ¬ (4:Int)=3;decide)]
     exact ht _ (symL_le hv).2.1
def bytesT:List TokD→Nat
 | []=>0
 | t::l=>(wordT t).size+bytesT l
theorem word_line (t:TokD) (ln:Int):wordT { t with line:=ln }=wordT t:=rfl
theorem toks_size:∀ (n:Nat) (ln:Int) (l:List UInt8) (o:List TokD),l.length≤n→toksL ln l = .ok o→bytesT o≤l.length∧o.length≤l.length
 | _,ln,[],o,_,h=>by
  rw[toksL_nil] at h
  injection h with h
  subst h;exact ⟨Nat.le_refl _,Nat.le_refl _⟩
 | 0,_,_::_,_,hn,_=>by simp at hn
 | n+1,ln,c::r,o,hn,h=>by
  have hr:r.length≤n:=by simpa using hn
  rw[List.length_cons];rw[toksL_cons] at h
  split at h
  ·have:=toks_size n _ r o hr h;omega
  ·split at h
   ·have:=toks_size n _ r o hr h;omega
   ·split at h
    ·have h1:=lineL_le r
     have:=toks_size n _ _ o (Nat.le_trans h1 hr) h;omega
    ·split at h
     ·cases h
     ·rename_i u k hk
      obtain ⟨q,hq,rfl⟩:=map_ok h;have hle:=tokL_le hk;have hs:=tok_size hk;have hd:((c::r).drop k).length=r.length+1 - k:=by rw[List.length_drop,List.length_cons]
      have:=toks_size n _ _ q (by rw[hd];omega) hq
      rw[hd] at this;rw[List.length_cons] at hle;rw[bytesT,word_line,hs,List.length_cons]
      omega
theorem cat_size (l:List ByteArray):(catL l).size=(jnL (l.map fun b=>b.data.toList)).length:=by
 rw[←cat_jn];rfl
theorem one_size (c:UInt8):(⟨#[c]⟩:ByteArray).size=1:=rfl
section
variable {m:Bool} {f:Int→List TokD→Bool→PR Val}
end
structure SchOk (s:List TyD):Prop where
 ty:∀t,TyOkL (tyAt s t)
 sym:∀t,((tyAt s t).syms.map SymD.id).Nodup
 nam:∀t,NamOk (tyAt s t)
 kind:∀t,0≤t→t<(s.length:Int)→1≤(tyAt s t).kind∧(tyAt s t).kind≤9
noncomputable def parseS (m:Bool) (s:List TyD) (t:Int) (x:ByteArray):Val×Int :=
 if t<0∨(s.length:Int)≤t then (zeroV,4)
 else if 65536<x.size then (zeroV,3)
 else match toksL 1 x.data.toList with
  | .error _=>(zeroV,2)
  | .ok l=>match readP m s t l with
   | .error e=>(zeroV,e)
   | .ok (v,r,k)=>if r≠[] then (zeroV,2) else if k=true∨fitV s false t v=false then (zeroV,1) else (v,0)
noncomputable def readS (m:Bool) (s:List TyD) (t:Int) (l:List TokD):Val×Int×Int :=
 if t<0∨(s.length:Int)≤t then (zeroV,0,4)
 else match readP m s t l with
  | .error e=>(zeroV,0,e)
  | .ok (v,r,k)=>if k=true∨fitV s false t v=false then (zeroV,0,1) else (v,((l.length - r.length:Nat):Int),0)
end Go.Proofs.YthkkllmmbefedaaGreatDoor


