/-
  What the law XLS wants besides.
-/
import Derived.Test.YthkkllmmbefedaaGreatDoorQGA0
import Derived.Test.YthkkllmmbefedaaGreatDoorQGA1
import Derived.Test.YthkkllmmbefedaaGreatDoorQGA2
import Derived.Test.YthkkllmmbefedaaGreatDoorQGA3
import Derived.Test.YthkkllmmbefedaaGreatDoorQGA4
import Derived.Test.YthkkllmmbefedaaGreatDoorQGA5
import Derived.Test.YthkkllmmbefedaaGreatDoorQGA6
import Derived.Test.YthkkllmmbefedaaGreatDoorQGA7
import Derived.Test.YthkkllmmbefedaaGreatDoorQVC1
import Derived.Test.YthkkllmmbefedaaGreatDoorQGA8
import Derived.Test.YthkkllmmbefedaaGreatDoorQGR0
import Derived.Test.YthkkllmmbefedaaGreatDoorQGC0
import Derived.Test.YthkkllmmbefedaaGreatDoorQNRH
import Derived.Test.YthkkllmmbefedaaGreatDoorQGD0
import Derived.Test.YthkkllmmbefedaaGreatDoorQNRJ
import Derived.Test.YthkkllmmbefedaaGreatDoorQGA9
import Derived.Test.YthkkllmmbefedaaGreatDoorQVF7
import Derived.Test.YthkkllmmbefedaaGreatDoorQGL0
import Derived.Test.YthkkllmmbefedaaGreatDoorQLXWA
import Derived.Test.YthkkllmmbefedaaGreatDoorQGA10
import Derived.Test.YthkkllmmbefedaaGreatDoorQGW0
import Derived.Test.YthkkllmmbefedaaGreatDoorQLW7
import Derived.Test.YthkkllmmbefedaaGreatDoorQLW8
import Derived.Test.YthkkllmmbefedaaGreatDoorQGA11
import Derived.Test.YthkkllmmbefedaaGreatDoorQGB0
import Derived.Test.YthkkllmmbefedaaGreatDoorQGE0
import Derived.Test.YthkkllmmbefedaaGreatDoorQAT1
import Derived.Test.YthkkllmmbefedaaGreatDoorQNRM
import Derived.Test.YthkkllmmbefedaaGreatDoorQGF0
import Derived.Test.YthkkllmmbefedaaGreatDoorQAK2
import Derived.Test.YthkkllmmbefedaaGreatDoorQRT0
import Derived.Test.YthkkllmmbefedaaGreatDoorQGM0
import Derived.Test.YthkkllmmbefedaaGreatDoorQGT0
import Derived.Test.YthkkllmmbefedaaGreatDoorQGX0
import Derived.Test.YthkkllmmbefedaaGreatDoorQDR4
import Derived.BigQuiet
import Derived.BigRegion
import Derived.Carry
import Derived.ChangeMaps5
import Derived.Deep.CutBlock
import Derived.Deep.DeepCutAuto
import Derived.Deep.DeepHandedRow
import Derived.Deep.DeepWitnessRowRef
import Derived.Deep.DrawnRows
import Derived.Deep.Fields
import Derived.Deep.LoopGhost
import Derived.Deep.MidRow
import Derived.Deep.QuietTactic
import Derived.Deep.RegionHeld3
import Derived.Deep.Slices
import Derived.Laws.IdiomStrings
import Derived.Laws.Rows
import Derived.Lib.AppendIntMem
import Derived.Lib.Bytealg
import Derived.Lib.Hide
import Derived.Lib.ItoaLen
import Derived.Lib.ItoaMem
import Derived.Lib.Join
import Derived.Lib.LaidTab
import Derived.Lib.MinMax
import Derived.Lib.ParseIntBCases
import Derived.Lib.ParseIntBTie
import Derived.Lib.SliceRun
import Derived.Lib.Zigzag
import Derived.MapKept
import Derived.Maps.AppendAt
import Derived.OpenShut
import Derived.OwnWalk
import Derived.ProofKit
import Derived.RowKit
import Derived.Shelf.Strings.BuilderK
import Derived.Shelf.Vars
import Derived.SliceStrings
import Derived.StillTailTactics
import Derived.Stop.LaidErr
import Derived.WalkKit
namespace Go.Proofs.YthkkllmmbefedaaGreatDoor
open Go.RowKit
set_option maxHeartbeats 16000000
set_option maxRecDepth 100000
section
variable {P:Program} {ops:Array Oper} {Q:Exit→Act→World→Prop} {md:Region.Mode} {S:World→Prop} {oi:Oper} {fuel:Nat} {listed:Array Bool} {a:Act} {w:World}
end
theorem below_alloc {w w':World} {o:Obj} (hb:Below (w.alloc o).heap.size (w.alloc o) w'):Below w.heap.size w w' :=
 ((Below.refl _ _).alloc (Nat.le_refl _) o).trans (hb.mono (by simp))
theorem below_alloc2 {w w':World} {o o2:Obj} (hb:Below ((w.alloc o).alloc o2).heap.size ((w.alloc o).alloc o2) w'):Below w.heap.size w w' :=
 below_alloc (below_alloc hb)
theorem bcell {W w1:World} (hb:Below W.heap.size W w1):∀b o,b<W.heap.size→w1.cell? ⟨b,o,none⟩=W.cell? ⟨b,o,none⟩:=fun b o h=>hb.cell (p:=⟨b,o,none⟩) h
theorem undrew {W w1:World} (h:Below W.drew.heap.size W.drew w1):Below W.heap.size W w1:=⟨h.os,h.tape,h.output,h.size,h.block⟩
section
set_option linter.unusedSectionVars false
variable {P:Program} {κ:Type} [DecidableEq κ]
variable {KT MT ET:TypeId} {ek:κ→Value} {z:Value}
end
section
variable {α:Type} {E size:Nat} {enc:α→List Value}
end
section
variable {P:Program} {ops:Array Oper} {Q:Exit→Act→World→Prop} {md:Region.Mode} {S:World→Prop} {s:Nat}
end
section
variable {P:Program} {ops:Array Oper} {Q:Exit→Act→World→Prop} {md:Region.Mode} {S:World→Prop} {s:Nat} {oi:Oper} {fuel:Nat} {listed:Array Bool} {a:Act} {w:World}
end
section
variable {s:List TyD} {t:Int}
end
theorem hexV_hexB {n:Nat} (h:n<16):hexV (hexB n)=some n:=by
 have:∀m:Fin 16,hexV (hexB m.1)=some m.1:=by decide
 exact this ⟨n,h⟩
theorem quB_size (c:UInt8):(quB c).size=(quBL c).length:=by rw[←quB_list];rfl
theorem part_of (b:UInt8) (l:List UInt8) (h:quBL b <+: l) (hq:∀c r,l=c::r→c.toNat≠34):partL l=some (b,(quBL b).length):=by
 obtain ⟨r,rfl⟩:=h;unfold quBL at *
 split at hq
 ·rename_i h1
  rw[if_pos h1]
  show partL (92::b::r)=_
  rw[partL,if_pos (show (92:UInt8).toNat=92 from rfl)];unfold escL;simp only[if_pos h1];rfl
 ·rename_i h1
  rw[if_neg h1]
  split at hq
  ·rename_i h2
   rw[if_pos h2]
   show partL (92::110::r)=_
   rw[partL,if_pos (show (92:UInt8).toNat=92 from rfl)];unfold escL;simp only[];rw[if_neg (by decide),if_pos (show (110:UInt8).toNat=110 from rfl)]
   rw[show b=10 from byte_eq h2];rfl
  ·rename_i h2
   rw[if_neg h2]
   split at hq
   ·rename_i h3
    rw[if_pos h3];have hb:=b.toNat_lt
    show partL (92::120::hexB (b.toNat / 16)::hexB (b.toNat % 16)::r)=_
    rw[partL,if_pos (show (92:UInt8).toNat=92 from rfl),escL,if_neg (by decide),if_neg (by decide),if_pos (show (120:UInt8).toNat=120 from rfl)]
    simp only[hexV_hexB (show b.toNat / 16<16 by omega),hexV_hexB (show b.toNat % 16<16 by omega)]
    rw[if_pos (by omega)]
    have e:UInt8.ofNat (16 * (b.toNat / 16)+b.toNat % 16)=b:=by
     apply byte_eq
     rw[UInt8.toNat_ofNat'];omega
    rw[e];rfl
   ·rename_i h3
    rw[if_neg h3]
    show partL (b::r)=_
    rw[partL,if_neg (by omega),if_neg h3];rfl
def accL (sg a:Int):List UInt8→Int
 | []=>a
 | c::r=>accL sg (10 * a+sg * ((c.toNat:Int) - 48)) r
theorem accL_snoc (sg:Int) (c:UInt8):∀ (l:List UInt8) (a:Int),accL sg a (l++[c])=10 * accL sg a l+sg * ((c.toNat:Int) - 48)
 | [],_=>rfl
 | b::r,a=>by rw[List.cons_append,accL,accL,accL_snoc sg c r]
theorem accL_dec (sg:Int):∀ (u:Nat),accL sg 0 (Lib.decDigits u)=sg * u:=by
 intro u
 induction u using Nat.strongRecOn with
 | _ u ih =>
  rw[Lib.decDigits]
  split
  ·rename_i h
   rw[accL,accL,digitL_val h];rw[show ((48+u:Nat):Int) - 48=u by omega]
   omega
  ·rw[accL_snoc,ih (u / 10) (by omega),digitL_val (show u % 10<10 by omega)]
   rw[show ((48+u % 10:Nat):Int) - 48=((u % 10:Nat):Int) by omega]
   have h1:(u:Int)=10 * ((u / 10:Nat):Int)+((u % 10:Nat):Int):=by omega
   generalize ((u / 10:Nat):Int)=a at *;generalize ((u % 10:Nat):Int)=b at *;rw[h1,Int.mul_add,Int.mul_left_comm]
def rawI (t:List UInt8):Int:=match t with
 | []=>0
 | c::r=>if c.toNat=45 then accL (-1) 0 r else accL 1 0 (c::r)
theorem rawI_itoa (v:Int):rawI (Lib.itoa v)=v:=by
 by_cases hn:v<0
 ·have hv:v = -(v.natAbs:Int):=by omega
  rw[hv,Lib.itoa_neg _ (by omega)]
  unfold rawI;simp only;rw[if_pos (show (45:UInt8).toNat=45 from rfl),accL_dec];omega
 ·have hv:v=(v.toNat:Int):=by omega
  rw[hv,Lib.itoa_nonneg]
  cases hd:Lib.decDigits v.toNat with
  | nil=>exact absurd hd (decDigitsL_ne _)
  | cons c r =>
   have hm:=decDigitsL_mem v.toNat c (by rw[hd];exact List.mem_cons_self ..)
   unfold rawI;simp only;rw[if_neg (by omega),←hd,accL_dec];omega
theorem intL_raw {t:List UInt8} {n k:Int} (h1:-9223372036854775808≤n) (h2:n≤9223372036854775807) (hk:n=rawI t+18446744073709551616 * k) :
  intL t=if Lib.itoa n=t then some n else none:=by
 split
 ·rename_i h
  exact intL_iff.2 ⟨⟨h1,h2⟩,h⟩
 ·rename_i h
  cases hi:intL t with
  | none=>rfl
  | some v =>
   obtain ⟨⟨g1,g2⟩,g3⟩:=intL_iff.1 hi;have:rawI t=v:=by rw[←g3,rawI_itoa]
   have hnv:n=v:=by omega
   exact absurd (by rw[hnv];exact g3) h
theorem sym_two {c d:UInt8} {r:List UInt8}:[c,d]∈symsT↔symL (c::d::r)=some 2:=by
 constructor
 ·intro h
  have:∀x∈symsT,∀a b,x=[a,b]→(a.toNat=45∧b.toNat=62)∨(a.toNat=46∧b.toNat=46):=by
   intro x hx a b e
   subst e;simp only[symsT,List.mem_cons,List.cons.injEq,and_true,reduceCtorEq,and_false,or_false,List.not_mem_nil] at hx
   rcases hx with ⟨rfl,rfl⟩|⟨rfl,rfl⟩
   ·exact Or.inl ⟨rfl,rfl⟩
   ·exact Or.inr ⟨rfl,rfl⟩
  exact symL_two (this _ h c d rfl)
 ·intro h
  rw[symL] at h
  split at h
  ·rename_i hc
   rw[show c=45 from byte_eq hc.1,show d=62 from byte_eq hc.2];decide
  ·split at h
   ·rename_i hc
    rw[show c=46 from byte_eq hc.1,show d=46 from byte_eq hc.2];decide
   ·split at h
    ·cases h
    ·cases h
theorem sym_one {c:UInt8} {r:List UInt8} (h2:symL (c::r)≠some 2):[c]∈symsT↔symL (c::r)=some 1:=by
 constructor
 ·intro h
  have h3:oneS c.toNat:=by
   simp only[symsT,List.mem_cons,List.cons.injEq,and_true,reduceCtorEq,and_false,or_false,false_or,List.not_mem_nil] at h;unfold oneS
   rcases h with h|h|h|h|h|h|h|h|h|h|h|h|h|h|h|h <;> subst h <;> decide
  refine symL_one (fun hc=>h2 ?_) (fun hc=>h2 ?_) h3
  ·cases r with
   | nil=>exact absurd hc.2 (by decide)
   | cons d q=>exact symL_two (Or.inl hc)
  ·cases r with
   | nil=>exact absurd hc.2 (by decide)
   | cons d q=>exact symL_two (Or.inr hc)
 ·intro h
  rw[symL] at h
  split at h
  ·cases h
  ·split at h
   ·cases h
   ·split at h
    ·rename_i hd
     have:∀n:Nat,oneS n→[UInt8.ofNat n]∈symsT:=fun n hn=>by
      unfold oneS at hn
      rcases hn with h|h|h|h|h|h|h|h|h|h|h|h|h|h|h|h <;> subst h <;> decide
     have:=this _ hd
     rwa [UInt8.ofNat_toNat] at this
    ·cases h
theorem symL_cases {l:List UInt8}:symL l=none∨symL l=some 1∨symL l=some 2:=by
 cases h:symL l with
 | none=>exact Or.inl rfl
 | some n =>
  have:=symL_le h;have:n=1∨n=2:=by omega
  rcases this with rfl|rfl
  ·exact Or.inr (Or.inl rfl)
  ·exact Or.inr (Or.inr rfl)
theorem lettK_all:∀l:List UInt8,(l.take (lettK l)).all (fun d=>isLetB d||zZ d)=true
 | []=>rfl
 | c::r=>by
  rw[lettK]
  split
  ·rename_i h
   rw[List.take_succ_cons,List.all_cons,h,lettK_all r];rfl
  ·rfl
theorem nameB_take {c:UInt8} {r:List UInt8} (h:isLetB c=true):nameB (bA ((c::r).take (lettK (c::r))))=decide (lettK (c::r)≤24):=by
 have hk:lettK (c::r)=lettK r+1:=by rw[lettK,h,Bool.true_or,if_pos rfl]
 have ha:=lettK_all (c::r);have hl:((c::r).take (lettK (c::r))).length=lettK (c::r):=by rw[List.length_take];exact Nat.min_eq_left (lettK_le _)
 unfold nameB bA
 show (decide (0<((c::r).take (lettK (c::r))).toArray.size)&&decide (((c::r).take (lettK (c::r))).toArray.size≤24)&&letC (((((c::r).take (lettK (c::r))).getD 0 0).toNat:Nat):Int)&&((c::r).take (lettK (c::r))).all chB)=_
 rw[List.size_toArray,hl];have h1:((c::r).take (lettK (c::r))).all chB=true:=ha;have h2:((c::r).take (lettK (c::r))).getD 0 0=c:=by rw[hk];rfl
 have h3:letC ((c.toNat:Nat):Int)=true:=h;have h4:decide (0<lettK (c::r))=true:=by rw[hk];simp
 rw[h1,h2,h3,h4,Bool.true_and,Bool.and_true,Bool.and_true]
section
variable (m:Bool) (f:Int→List TokD→Bool→PR Val)
end
section
variable {α:Type} {part part':List TokD→Bool→PR α}
end
section
variable {m:Bool} {f g:Int→List TokD→Bool→PR Val}
end
section
variable {m:Bool} {f g:Int→List TokD→Bool→PR Val}
end
section
variable {α β γ:Type} {bad:α→Prop} {bad2:β→Prop} {bad3:γ→Prop} {k:Bool}
end
section
variable {s:List TyD} {f f':Int→List TokD→Bool→PR Val}
end
section
variable {s:List TyD} {f f':Int→List TokD→Bool→PR Val} {t:Int} {k:Bool}
end
def nmK (s:ByteArray):TokD:=⟨1,s,0,⟨#[]⟩,0⟩
def inK (n:Int):TokD:=⟨2,⟨#[]⟩,n,⟨#[]⟩,0⟩
def stK (s:ByteArray):TokD:=⟨3,⟨#[]⟩,0,s,0⟩
def syK (s:ByteArray):TokD:=⟨4,s,0,⟨#[]⟩,0⟩
section
variable {f:Int→List TokD→Bool→PR Val} {g:Int→Val→List TokD}
end
theorem lex_tok {c:UInt8} {r rest:List UInt8} {t:TokD} (ln:Int) (h1:c.toNat≠10) (h2:¬ (c.toNat=32∨c.toNat=9)) (h3:¬ (c.toNat=47∧((r++rest).headD 0).toNat=47)) (ht:tokL (c::(r++rest))=some (t,(c::r).length)) :
  toksL ln (c::r++rest)=(toksL ln rest).map fun o=>[t].map (atL ln)++o:=by
 rw[List.cons_append,toksL_cons,if_neg h1,if_neg h2,if_neg h3,ht];simp only;rw[show (c::(r++rest)).drop (c::r).length=rest by rw[←List.cons_append];exact List.drop_left]
 rfl
theorem letDig {c:UInt8} (h:zZ c=true):isLetB c=false:=let_no (by have:=dig_rng.1 h;omega)
theorem lett_app {a r:List UInt8} (ha:a.all (fun d=>isLetB d||zZ d)=true) (hr:SepL r):lettK (a++r)=a.length:=by
 induction a with
 | nil =>
  cases r with
  | nil=>rfl
  | cons c q=>rw[List.nil_append,lettK,hr c q rfl];rfl
 | cons c q ih =>
  rw[List.all_cons,Bool.and_eq_true] at ha;rw[List.cons_append,lettK,if_pos ha.1,ih ha.2];rfl
theorem digi_app {a r:List UInt8} (ha:∀c∈a,zZ c=true) (hr:SepL r):digiK (a++r)=a.length:=by
 induction a with
 | nil =>
  cases r with
  | nil=>rfl
  | cons c q =>
   have:=hr c q rfl;rw[Bool.or_eq_false_iff] at this;rw[List.nil_append,digiK,this.2];rfl
 | cons c q ih =>
  rw[List.cons_append,digiK,if_pos (ha c (List.mem_cons_self ..)),ih fun d hd=>ha d (List.mem_cons_of_mem _ hd)];rfl
theorem bA_list (s:ByteArray):bA s.data.toList=s:=rfl
theorem lex_nm {s:ByteArray} (h:nameB s=true):LexS s.data.toList [nmK s]:=fun ln rest hr=>by
 unfold nameB at h;simp only[Bool.and_eq_true,decide_eq_true_eq] at h;obtain ⟨⟨⟨h0,h1⟩,h2⟩,h3⟩:=h;have hlen:s.data.toList.length=s.size:=rfl;have hbs:=bA_list s;generalize s.data.toList=l at *
 cases l with
 | nil=>rw[←hlen] at h0;cases h0
 | cons c q =>
  have hc:isLetB c=true:=h2;have hg:=let_rng hc;have ha:(c::q).all (fun d=>isLetB d||zZ d)=true:=h3
  refine lex_tok ln (by omega) (by omega) (by omega) ?_
  have hk:=lett_app ha hr;rw[List.cons_append] at hk;rw[tokL,hc,if_pos rfl,hk,if_pos (by rw[hlen];exact h1)]
  have ht:(c::(q++rest)).take (c::q).length=c::q:=by rw[←List.cons_append];exact List.take_left
  rw[ht,hbs];rfl
theorem itoa_parts (v:Int):(∃c q,Lib.itoa v=c::q∧zZ c=true∧∀d∈q,zZ d=true)∨(∃d q,Lib.itoa v=45::d::q∧zZ d=true∧∀e∈q,zZ e=true):=by
 have hd:∀u:Nat,∀b∈Lib.decDigits u,zZ b=true:=fun u b hb=>dig_rng.2 (decDigitsL_mem u b hb)
 by_cases hn:v<0
 ·have hv:v = -(v.natAbs:Int):=by omega
  rw[hv,Lib.itoa_neg _ (by omega)]
  cases hc:Lib.decDigits v.natAbs with
  | nil=>exact absurd hc (decDigitsL_ne _)
  | cons c q=>exact Or.inr ⟨c,q,rfl,hd _ _ (by rw[hc];exact List.mem_cons_self ..),fun d hm=>hd v.natAbs d (by rw[hc];exact List.mem_cons_of_mem _ hm)⟩
 ·have hv:v=(v.toNat:Int):=by omega
  rw[hv,Lib.itoa_nonneg]
  cases hc:Lib.decDigits v.toNat with
  | nil=>exact absurd hc (decDigitsL_ne _)
  | cons c q=>exact Or.inl ⟨c,q,rfl,hd _ _ (by rw[hc];exact List.mem_cons_self ..),fun d hm=>hd v.toNat d (by rw[hc];exact List.mem_cons_of_mem _ hm)⟩
theorem lex_in {v:Int} (h:-9223372036854775808≤v∧v≤9223372036854775807):LexS (Lib.itoa v) [inK v]:=fun ln rest hr=>by
 have hi:intL (Lib.itoa v)=some v:=intL_iff.2 ⟨h,rfl⟩
 rcases itoa_parts v with ⟨c,q,e,hc,hq⟩|⟨d,q,e,hd,hq⟩
 ·rw[e] at hi ⊢
  have hg:=dig_rng.1 hc;refine lex_tok ln (by omega) (by omega) (by omega) ?_
  have hk:=digi_app hq hr;rw[tokL,letDig hc,if_neg (by simp),hc,Bool.true_or,if_pos rfl,hk]
  have ht:(c::(q++rest)).take (1+q.length)=c::q:=by rw[Nat.add_comm,List.take_succ_cons,List.take_left]
  rw[ht,hi,Nat.add_comm];rfl
 ·rw[e] at hi ⊢
  have hg:=dig_rng.1 hd;have h45:(45:UInt8).toNat=45:=rfl;refine lex_tok ln (by omega) (by omega) (by omega) ?_
  have hk:digiK (d::q++rest)=(d::q).length:=digi_app (fun c hc=>by
   rcases List.mem_cons.1 hc with rfl|hc
   ·exact hd
   ·exact hq c hc) hr
  rw[tokL,let_no (by omega),if_neg (by simp),dig_no (by omega),Bool.false_or]
  have h1:(decide ((45:UInt8).toNat=45)&&zZ ((d::q++rest).headD 0))=true:=by
   rw[Bool.and_eq_true];exact ⟨rfl,hd⟩
  rw[h1,if_pos rfl,hk];have ht:((45:UInt8)::(d::q++rest)).take (1+(d::q).length)=45::d::q:=by rw[Nat.add_comm,List.take_succ_cons,List.take_left]
  rw[ht,hi,Nat.add_comm];rfl
theorem quBL_head (b:UInt8):∃c q,quBL b=c::q∧c.toNat≠34:=by
 unfold quBL
 split
 ·exact ⟨92,_,rfl,by decide⟩
 ·rename_i h1
  split
  ·exact ⟨92,_,rfl,by decide⟩
  ·split
   ·exact ⟨92,_,rfl,by decide⟩
   ·exact ⟨b,_,rfl,by omega⟩
theorem quo_all:∀ (l rest:List UInt8),quoL (l.flatMap quBL++34::rest)=some (l,(l.flatMap quBL).length+1)
 | [],rest=>by
  rw[List.flatMap_nil,List.nil_append,quoL_cons,if_pos (show (34:UInt8).toNat=34 from rfl)];rfl
 | b::l,rest=>by
  obtain ⟨c,q,hc,hn⟩:=quBL_head b;have hp:partL (quBL b++(l.flatMap quBL++34::rest))=some (b,(quBL b).length):=part_of b _ ⟨_,rfl⟩ fun d p e=>by
   rw[hc] at e
   injection e with e1 e2
   rw[←e1];exact hn
  have hd:(quBL b++(l.flatMap quBL++34::rest)).drop (quBL b).length=l.flatMap quBL++34::rest:=List.drop_left;rw[List.flatMap_cons,List.append_assoc];rw[hc] at hp hd ⊢;rw[List.cons_append] at hp hd ⊢;rw[quoL_cons,if_neg hn,hp];simp only;rw[hd,quo_all l rest];simp only[Option.map_some,List.length_append,List.length_cons]
  congr 2
  omega
theorem lex_st (s:ByteArray):LexA (quD s).data.toList [stK s]:=fun ln rest=>by
 rw[quD_list];have h34:(34:UInt8).toNat=34:=rfl;refine lex_tok ln (by omega) (by omega) (by omega) ?_
 rw[tokL,let_no (by omega),if_neg (by simp),dig_no (by omega),if_neg (by simp[h34]),if_pos h34]
 rw[List.append_assoc,List.singleton_append,quo_all];simp only[Option.map_some,List.length_cons,List.length_append,List.length_nil]
 rfl
section
variable {f:Int→List TokD→Bool→PR Val} {g:Int→Val→List TokD} {x:TyD} {k:Bool} {more:List TokD}
end
section
variable {s:List TyD} {n:Nat} {t:Int} {v:Val}
end
def CanT (t:TokD):Prop:=(t.kind=1→stripT t=nmK t.text)∧(t.kind=2→stripT t=inK t.int)∧(t.kind=3→stripT t=stK t.str)∧(t.kind=4→stripT t=syK t.text)
section
variable {f:Int→List TokD→Bool→PR Val} {g:Int→Val→List TokD}
variable {P:Int→Val→Prop}
end
section
variable {f:Int→Val→ByteArray} {g:Int→Val→List TokD} {x:TyD}
end
section
variable (f:Int→Val→ByteArray) {x:TyD}
end
section
variable (g:Int→Val→List TokD) {x:TyD} {v:Val}
end
def WordOk (t:TokD):Prop:=(t.kind=1∧nameB t.text=true)∨(t.kind=2 ∧ -9223372036854775808≤t.int∧t.int≤9223372036854775807)∨t.kind=3∨(t.kind=4∧t.text.data.toList∈symsT)
theorem sym_take {l:List UInt8} {n:Nat} (h:symL l=some n):l.take n∈symsT:=by
 have hl:=symL_le h;have hn:n=1∨n=2:=by omega
 rcases hn with rfl|rfl
 ·cases l with
  | nil=>cases h
  | cons c r=>exact (sym_one (by rw[h];simp)).2 h
 ·match l,h with
  | c::d::r,h=>exact sym_two.2 h
  | [c],_=>simp at hl
  | [],_=>simp at hl
theorem can_nm (a:ByteArray):CanT (nmK a):=by
 unfold CanT;refine ⟨fun _=>rfl,fun e=>?_,fun e=>?_,fun e=>?_⟩ <;> exact absurd e (by show ¬ (1:Int)=_;decide)
theorem can_in (a:Int):CanT (inK a):=by
 unfold CanT;refine ⟨fun e=>?_,fun _=>rfl,fun e=>?_,fun e=>?_⟩ <;> exact absurd e (by show ¬ (2:Int)=_;decide)
theorem can_st (a:ByteArray):CanT (stK a):=by
 unfold CanT;refine ⟨fun e=>?_,fun e=>?_,fun _=>rfl,fun e=>?_⟩ <;> exact absurd e (by show ¬ (3:Int)=_;decide)
theorem can_sy (a:ByteArray):CanT (syK a):=by
 unfold CanT;refine ⟨fun e=>?_,fun e=>?_,fun e=>?_,fun _=>rfl⟩ <;> exact absurd e (by show ¬ (4:Int)=_;decide)
theorem tokL_ok {l:List UInt8} {t:TokD} {k:Nat} (h:tokL l=some (t,k)):CanT t∧WordOk t:=by
 unfold tokL at h
 split at h
 ·cases h
 ·rename_i c r
  split at h
  ·rename_i hc
   split at h
   ·rename_i h24
    injection h with h;injection h with h1 h2
    subst h1;refine ⟨can_nm _,Or.inl ⟨rfl,?_⟩⟩;have:=nameB_take (r:=r) hc;rw[decide_eq_true h24] at this;exact this
   ·cases h
  ·split at h
   ·rw[Option.map_eq_some_iff] at h
    obtain ⟨v,hv,h⟩:=h
    injection h with h1 h2
    subst h1;exact ⟨can_in _,Or.inr (Or.inl ⟨rfl,(intL_iff.1 hv).1⟩)⟩
   ·split at h
    ·rw[Option.map_eq_some_iff] at h
     obtain ⟨v,hv,h⟩:=h
     injection h with h1 h2
     subst h1;exact ⟨can_st _,Or.inr (Or.inr (Or.inl rfl))⟩
    ·rw[Option.map_eq_some_iff] at h
     obtain ⟨v,hv,h⟩:=h
     injection h with h1 h2
     subst h1;exact ⟨can_sy _,Or.inr (Or.inr (Or.inr ⟨rfl,sym_take hv⟩))⟩
theorem toks_ok:∀ (n:Nat) (ln:Int) (l:List UInt8) (o:List TokD),l.length≤n→toksL ln l = .ok o→∀t∈o,CanT t∧WordOk t
 | _,ln,[],o,_,h,t,ht=>by
  rw[toksL_nil] at h
  injection h with h
  subst h;cases ht
 | 0,_,_::_,_,hn,_,_,_=>by simp at hn
 | n+1,ln,c::r,o,hn,h,t,ht=>by
  have hr:r.length≤n:=by simpa using hn
  rw[toksL_cons] at h
  split at h
  ·exact toks_ok n _ r o hr h t ht
  ·split at h
   ·exact toks_ok n _ r o hr h t ht
   ·split at h
    ·exact toks_ok n _ _ o (Nat.le_trans (lineL_le r) hr) h t ht
    ·split at h
     ·cases h
     ·rename_i u k hk
      obtain ⟨q,hq,rfl⟩:=map_ok h;have hle:=tokL_le hk
      rcases List.mem_cons.1 ht with rfl|ht
      ·have:=tokL_ok hk
       exact ⟨this.1,this.2⟩
      ·exact toks_ok n _ _ q (by rw[List.length_drop];simp only[List.length_cons] at *;omega) hq t ht
theorem lex_sym {a:List UInt8} (h:a∈symsT) (ln:Int) (rest:List UInt8) (hr:SpcL rest):toksL ln (a++rest)=(toksL ln rest).map fun o=>atL ln (syK (bA a))::o:=by
 obtain ⟨c,q,rfl,hc⟩:=hr
 rcases symsT_len a h with hl|hl
 ·obtain ⟨b,rfl⟩:=List.length_eq_one_iff.1 hl
  have hb:oneS b.toNat:=by
   have:=(sym_one (c:=b) (r:=[]) (by
    intro e
    have:=symL_le e;simp at this)).1 h
   rw[symL] at this
   split at this
   ·cases this
   ·split at this
    ·cases this
    ·split at this
     ·assumption
     ·cases this
  have hb2:=hb;unfold oneS at hb2;refine lex_tok ln (by omega) (by omega) (by omega) ?_
  rw[List.nil_append,tokL,let_no (by omega),if_neg (by simp),dig_no (by omega),Bool.false_or]
  rw[if_neg (by rw[Bool.and_eq_true,decide_eq_true_eq];omega),if_neg (by omega)]
  rw[symL_one (by omega) (by rw[List.headD_cons];omega) hb];rfl
 ·match a,hl,h with
  | [b,d],_,h =>
   have h2:=(sym_two (r:=[])).1 h;have hbd:(b.toNat=45∧d.toNat=62)∨(b.toNat=46∧d.toNat=46):=by
    rw[symL] at h2
    split at h2
    ·rename_i g;exact Or.inl g
    ·split at h2
     ·rename_i g;exact Or.inr g
     ·split at h2
      ·cases h2
      ·cases h2
   refine lex_tok ln (by omega) (by omega) (by omega) ?_
   rw[List.singleton_append,tokL,let_no (by omega),if_neg (by simp),dig_no (by omega),Bool.false_or,List.headD_cons,dig_no (by omega),Bool.and_false]
   rw[if_neg (by simp),if_neg (by omega),symL_two hbd];rfl
theorem lex_word {t:TokD} (h:WordOk t) (hc:CanT t) (ln:Int) (rest:List UInt8) (hr:SpcL rest):toksL ln ((wordT t).data.toList++rest)=(toksL ln rest).map fun o=>atL ln (stripT t)::o:=by
 unfold wordT
 rcases h with ⟨hk,h⟩|⟨hk,h⟩|hk|⟨hk,h⟩
 ·rw[if_neg (by omega),if_neg (by omega),hc.1 hk]
  exact lex_nm h ln rest hr.sep
 ·rw[if_pos hk,hc.2.1 hk]
  exact lex_in h ln rest hr.sep
 ·rw[if_neg (by omega),if_pos hk,hc.2.2.1 hk]
  exact lex_st _ ln rest
 ·rw[if_neg (by omega),if_neg (by omega),hc.2.2.2 hk]
  exact lex_sym h ln rest hr
def spcT (k:Nat):List UInt8:=if k=0 then [32] else if k=1 then [10] else if k=2 then [32,47,47,32,125,10] else [9,32]
theorem spc_head (k:Nat) (r:List UInt8):SpcL (spcT k++r):=by
 unfold spcT
 repeat' split
 all_goals exact ⟨_,_,rfl,by decide⟩
theorem lex_spc (k:Nat) (ln:Int) (rest:List UInt8):∃ln',toksL ln (spcT k++rest)=toksL ln' rest:=by
 unfold spcT
 split
 ·refine ⟨ln,?_⟩
  rw[List.singleton_append,toksL_cons,if_neg (by decide),if_pos (by decide)]
 ·split
  ·refine ⟨ln+1,?_⟩
   rw[List.singleton_append,toksL_cons,if_pos (by decide)]
  ·split
   ·refine ⟨ln+1,?_⟩
    simp only[List.cons_append,List.nil_append];rw[toksL_cons,if_neg (by decide),if_pos (by decide),toksL_cons,if_neg (by decide),if_neg (by decide),if_pos ⟨rfl,rfl⟩]
    have:lineL (47::32::125::10::rest)=10::rest:=by
     rw[lineL,if_neg (by decide),lineL,if_neg (by decide),lineL,if_neg (by decide),lineL,if_pos (by decide)]
    rw[this,toksL_cons,if_pos (by decide)]
   ·refine ⟨ln,?_⟩
    simp only[List.cons_append,List.nil_append];rw[toksL_cons,if_neg (by decide),if_pos (by decide),toksL_cons,if_neg (by decide),if_pos (by decide)]
def spread (ks:Nat→Nat):Nat→List TokD→List UInt8
 | _,[]=>[]
 | i,t::l=>(wordT t).data.toList++(spcT (ks i)++spread ks (i+1) l)
theorem lex_spread (ks:Nat→Nat):∀ (l:List TokD) (i:Nat) (ln:Int),(∀t∈l,CanT t∧WordOk t)→∃o,toksL ln (spread ks i l) = .ok o∧o.map stripT=l.map stripT
 | [],i,ln,_=>⟨[],rfl,rfl⟩
 | t::l,i,ln,h=>by
  obtain ⟨hc,hw⟩:=h t (List.mem_cons_self ..);rw[spread,lex_word hw hc ln _ (spc_head _ _)];obtain ⟨ln',h1⟩:=lex_spc (ks i) ln (spread ks (i+1) l);obtain ⟨o,h2,h3⟩:=lex_spread ks l (i+1) ln' fun u hu=>h u (List.mem_cons_of_mem _ hu)
  rw[h1,h2];exact ⟨_,rfl,by rw[List.map_cons,List.map_cons,h3];rfl⟩
theorem spc_size (k:Nat):(spcT k).length≤6:=by
 unfold spcT
 repeat' split
 all_goals decide
theorem spread_size (ks:Nat→Nat):∀ (l:List TokD) (i:Nat),(spread ks i l).length≤bytesT l+6 * l.length
 | [],_=>Nat.zero_le _
 | t::l,i=>by
  have h1:=spread_size ks l (i+1);have h2:=spc_size (ks i);have h3:(wordT t).data.toList.length=(wordT t).size:=rfl;rw[spread,List.length_append,List.length_append,bytesT,List.length_cons,h3]
  omega
def stL (l:List TokD):List TokD:=l.map stripT
def mapS {α:Type} (a:PR α):PR α:=a.map fun p=>(p.1,stL p.2.1,p.2.2)
def NoLn {α:Type} (part:List TokD→Bool→PR α):Prop:=∀l k,part (stL l) k=mapS (part l k)
theorem tk_st (k:Int) (l:List TokD):tkP k (stL l)=(tkP k l).map fun p=>(stripT p.1,stL p.2):=by
 cases l with
 | nil=>rfl
 | cons t r =>
  show tkP k (stripT t::stL r)=_
  rw[tkP,tkP]
  by_cases h:t.kind=k
  ·rw[if_pos h,if_pos (show (stripT t).kind=k from h)];rfl
  ·rw[if_neg h,if_neg (show ¬ (stripT t).kind=k from h)];rfl
theorem is_st (s:ByteArray) (l:List TokD):isP s (stL l)=isP s l:=by
 cases l with
 | nil=>rfl
 | cons t r=>rfl
theorem tail_st (l:List TokD):(stL l).tail=stL l.tail:=by
 cases l <;> rfl
theorem sy_st (s:ByteArray) (l:List TokD):syP s (stL l)=(syP s l).map stL:=by
 unfold syP;rw[is_st]
 cases isP s l
 ·rfl
 ·simp only[if_true];rw[tail_st];rfl
theorem len_st (l:List TokD):(stL l).length=l.length:=List.length_map ..
theorem sep_st {α:Type} {part:List TokD→Bool→PR α} (hp:NoLn part):∀ (n:Nat),NoLn (sepP part n)
 | 0=>fun _ _=>rfl
 | n+1=>fun l k=>by
  rw[sepP,sepP,hp]
  cases part l k with
  | error e=>rfl
  | ok p =>
   obtain ⟨x,r,k'⟩:=p
   show (Except.bind (Except.ok (x,stL r,k')) _)=_
   rw[zM,zM];simp only;rw[is_st]
   cases isP ⟨#[44]⟩ r with
   | false=>rfl
   | true =>
    simp only[if_true];rw[tail_st,sep_st hp n]
    cases sepP part n r.tail k' with
    | error e=>rfl
    | ok q=>rfl
theorem first_st (first:Bool) (l:List TokD):(if first=true then Except.ok (stL l) else syP ⟨#[44]⟩ (stL l))=(if first=true then Except.ok l else syP ⟨#[44]⟩ l:Except Int (List TokD)).map stL:=by
 cases first
 ·exact sy_st _ _
 ·rfl
theorem enum_st (m:Bool) (x:TyD):NoLn (enumP m x):=fun l k=>by
 unfold enumP;rw[is_st,tail_st,tk_st,tk_st]
 cases isP ⟨#[64]⟩ l with
 | true =>
  simp only[if_true]
  cases tkP 2 l.tail with
  | error e=>rfl
  | ok p =>
   show (if knowP x (idF m p.1.int)=true then _ else _:PR Int)=mapS (if knowP x (idF m p.1.int)=true then _ else _)
   cases knowP x (idF m p.1.int)
   ·rfl
   ·cases m <;> rfl
 | false =>
  simp only[Bool.false_eq_true,if_false]
  cases tkP 1 l with
  | error e=>rfl
  | ok p =>
   show (match x.syms.find? fun y=>decide (y.name=p.1.text) with
    | some y=>Except.ok (y.id,stL p.2,k)
    | none => .error 4:PR Int)=mapS (match x.syms.find? fun y=>decide (y.name=p.1.text) with
    | some y=>Except.ok (y.id,p.2,k)
    | none => .error 4:PR Int)
   cases x.syms.find? fun y=>decide (y.name=p.1.text) <;> rfl
section
variable {m:Bool} {f:Int→List TokD→Bool→PR Val}
theorem list_st (hf:∀t,NoLn (f t)) (x:TyD):NoLn (listP f x):=fun l k=>by
 unfold listP;rw[sy_st]
 cases syP ⟨#[91]⟩ l with
 | error e=>rfl
 | ok l1 =>
  show (Except.bind (Except.ok (stL l1)) _)=_
  rw[zM,zM,is_st,len_st]
  cases isP ⟨#[93]⟩ l1 with
  | true=>simp only[if_true];rw[tail_st];rfl
  | false =>
   simp only[Bool.false_eq_true,if_false];rw[sep_st (hf x.elem)]
   cases sepP (f x.elem) (l1.length+1) l1 k with
   | error e=>rfl
   | ok p =>
    show Except.bind (syP ⟨#[93]⟩ (stL p.2.1)) _=mapS (Except.bind (syP ⟨#[93]⟩ p.2.1) _)
    rw[sy_st]
    cases syP ⟨#[93]⟩ p.2.1 <;> rfl
theorem ent_st (hf:∀t,NoLn (f t)) (x:TyD):NoLn (entrP f x):=fun l k=>by
 unfold entrP;rw[hf]
 cases f x.key l k with
 | error e=>rfl
 | ok p =>
  show Except.bind (syP ⟨#[45,62]⟩ (stL p.2.1)) _=mapS (Except.bind (syP ⟨#[45,62]⟩ p.2.1) _)
  rw[sy_st]
  cases syP ⟨#[45,62]⟩ p.2.1 with
  | error e=>rfl
  | ok l1 =>
   show Except.bind (f x.elem (stL l1) p.2.2) _=mapS (Except.bind (f x.elem l1 p.2.2) _)
   rw[hf]
   cases f x.elem l1 p.2.2 <;> rfl
theorem map_st (hf:∀t,NoLn (f t)) (x:TyD):NoLn (mapP f x):=fun l k=>by
 unfold mapP;rw[sy_st]
 cases syP ⟨#[91]⟩ l with
 | error e=>rfl
 | ok l1 =>
  show (Except.bind (Except.ok (stL l1)) _)=_
  rw[zM,zM,is_st,is_st,len_st,tail_st]
  cases isP ⟨#[45,62]⟩ l1 with
  | true =>
   simp only[if_true];rw[sy_st]
   cases syP ⟨#[93]⟩ l1.tail <;> rfl
  | false =>
   simp only[Bool.false_eq_true,if_false]
   cases isP ⟨#[93]⟩ l1 with
   | true=>rfl
   | false =>
    simp only[Bool.false_eq_true,if_false];rw[sep_st (ent_st hf x)]
    cases sepP (entrP f x) (l1.length+1) l1 k with
    | error e=>rfl
    | ok p =>
     show Except.bind (syP ⟨#[93]⟩ (stL p.2.1)) _=mapS (Except.bind (syP ⟨#[93]⟩ p.2.1) _)
     rw[sy_st]
     cases syP ⟨#[93]⟩ p.2.1 <;> rfl
theorem opt_st (hf:∀t,NoLn (f t)) (x:TyD):NoLn (optP f x):=fun l k=>by
 unfold optP;rw[tk_st]
 cases tkP 1 l with
 | error e=>rfl
 | ok p =>
  show (if p.1.text=_ then Except.ok ([],stL p.2,k) else if p.1.text=_ then Except.bind (syP ⟨#[40]⟩ (stL p.2)) _ else .error 2:PR (List Val))=mapS (if p.1.text=_ then _ else if p.1.text=_ then Except.bind (syP ⟨#[40]⟩ p.2) _ else .error 2)
  split
  ·rfl
  ·split
   ·rw[sy_st]
    cases syP ⟨#[40]⟩ p.2 with
    | error e=>rfl
    | ok l2 =>
     show Except.bind (f x.elem (stL l2) k) _=mapS (Except.bind (f x.elem l2 k) _)
     rw[hf]
     cases f x.elem l2 k with
     | error e=>rfl
     | ok q =>
      show Except.bind (syP ⟨#[41]⟩ (stL q.2.1)) _=mapS (Except.bind (syP ⟨#[41]⟩ q.2.1) _)
      rw[sy_st]
      cases syP ⟨#[41]⟩ q.2.1 <;> rfl
   ·rfl
theorem mems_st (hf:∀t,NoLn (f t)):∀ (ms:List MemD) (first:Bool),NoLn (memsP f first ms)
 | [],_=>fun _ _=>rfl
 | y::ms,first=>fun l k=>by
  rw[memsP,memsP,first_st]
  cases (if first=true then Except.ok l else syP ⟨#[44]⟩ l:Except Int (List TokD)) with
  | error e=>rfl
  | ok l0 =>
   show Except.bind (tkP 1 (stL l0)) _=mapS (Except.bind (tkP 1 l0) _)
   rw[tk_st]
   cases tkP 1 l0 with
   | error e=>rfl
   | ok p =>
    show (if p.1.text=y.name then Except.bind (syP ⟨#[58]⟩ (stL p.2)) _ else .error 4:PR (List Val))=mapS (if p.1.text=y.name then Except.bind (syP ⟨#[58]⟩ p.2) _ else .error 4)
    split
    ·rw[sy_st]
     cases syP ⟨#[58]⟩ p.2 with
     | error e=>rfl
     | ok l2 =>
      show Except.bind (f y.type (stL l2) k) _=mapS (Except.bind (f y.type l2 k) _)
      rw[hf]
      cases f y.type l2 k with
      | error e=>rfl
      | ok q =>
       show Except.bind (memsP f false ms (stL q.2.1) q.2.2) _=mapS (Except.bind (memsP f false ms q.2.1 q.2.2) _)
       rw[mems_st hf ms false]
       cases memsP f false ms q.2.1 q.2.2 <;> rfl
    ·rfl
theorem raws_st (m:Bool):∀ (n:Nat) (first:Bool) (l:List TokD),rawsP m n first (stL l)=(rawsP m n first l).map fun p=>(p.1,stL p.2)
 | 0,_,_=>rfl
 | n+1,first,l=>by
  rw[rawsP,rawsP,is_st,first_st]
  cases isP ⟨#[125]⟩ l with
  | true=>rfl
  | false =>
   simp only[Bool.false_eq_true,if_false]
   cases (if first=true then Except.ok l else syP ⟨#[44]⟩ l:Except Int (List TokD)) with
   | error e=>rfl
   | ok l0 =>
    show Except.bind (tkP 2 (stL l0)) _=(Except.bind (tkP 2 l0) _).map _
    rw[tk_st]
    cases tkP 2 l0 with
    | error e=>rfl
    | ok p =>
     show Except.bind (syP ⟨#[58]⟩ (stL p.2)) _=(Except.bind (syP ⟨#[58]⟩ p.2) _).map _
     rw[sy_st]
     cases syP ⟨#[58]⟩ p.2 with
     | error e=>rfl
     | ok l3 =>
      show Except.bind (tkP 3 (stL l3)) _=(Except.bind (tkP 3 l3) _).map _
      rw[tk_st]
      cases tkP 3 l3 with
      | error e=>rfl
      | ok q =>
       show Except.bind (rawsP m n false (stL q.2)) _=(Except.bind (rawsP m n false q.2) _).map _
       rw[raws_st m n false]
       cases rawsP m n false q.2 <;> rfl
theorem rec_st (hf:∀t,NoLn (f t)) (x:TyD):NoLn (recP m f x):=fun l k=>by
 unfold recP;rw[sy_st]
 cases syP ⟨#[123]⟩ l with
 | error e=>rfl
 | ok l1 =>
  show Except.bind (memsP f true x.mems (stL l1) k) _=mapS (Except.bind (memsP f true x.mems l1 k) _)
  rw[mems_st hf]
  cases memsP f true x.mems l1 k with
  | error e=>rfl
  | ok p =>
   show Except.bind (rawsP m ((stL p.2.1).length+1) x.mems.isEmpty (stL p.2.1)) _=mapS (Except.bind (rawsP m (p.2.1.length+1) x.mems.isEmpty p.2.1) _)
   rw[len_st,raws_st]
   cases rawsP m (p.2.1.length+1) x.mems.isEmpty p.2.1 with
   | error e=>rfl
   | ok q =>
    show Except.bind (syP ⟨#[125]⟩ (stL q.2)) _=mapS (Except.bind (syP ⟨#[125]⟩ q.2) _)
    rw[sy_st]
    cases syP ⟨#[125]⟩ q.2 <;> rfl
theorem uni_st (hf:∀t,NoLn (f t)) (x:TyD):NoLn (uniP m f x):=fun l k=>by
 unfold uniP;rw[is_st,tail_st,tk_st,tk_st]
 cases isP ⟨#[64]⟩ l with
 | true =>
  simp only[if_true]
  cases tkP 2 l.tail with
  | error e=>rfl
  | ok p =>
   show Except.bind (syP ⟨#[40]⟩ (stL p.2)) _=mapS (Except.bind (syP ⟨#[40]⟩ p.2) _)
   rw[sy_st]
   cases syP ⟨#[40]⟩ p.2 with
   | error e=>rfl
   | ok l2 =>
    show Except.bind (tkP 3 (stL l2)) _=mapS (Except.bind (tkP 3 l2) _)
    rw[tk_st]
    cases tkP 3 l2 with
    | error e=>rfl
    | ok q =>
     show Except.bind (syP ⟨#[41]⟩ (stL q.2)) _=mapS (Except.bind (syP ⟨#[41]⟩ q.2) _)
     rw[sy_st]
     cases syP ⟨#[41]⟩ q.2 <;> rfl
 | false =>
  simp only[Bool.false_eq_true,if_false]
  cases tkP 1 l with
  | error e=>rfl
  | ok p =>
   show (match x.mems.find? fun y=>decide (y.name=p.1.text) with
    | none => .error 4
    | some y=>Except.bind (syP ⟨#[40]⟩ (stL p.2)) _:PR (Int×List Val×List RawD))=mapS (match x.mems.find? fun y=>decide (y.name=p.1.text) with
    | none => .error 4
    | some y=>Except.bind (syP ⟨#[40]⟩ p.2) _)
   cases x.mems.find? fun y=>decide (y.name=p.1.text) with
   | none=>rfl
   | some y =>
    simp only;rw[sy_st]
    cases syP ⟨#[40]⟩ p.2 with
    | error e=>rfl
    | ok l2 =>
     show Except.bind (f y.type (stL l2) k) _=mapS (Except.bind (f y.type l2 k) _)
     rw[hf]
     cases f y.type l2 k with
     | error e=>rfl
     | ok q =>
      show Except.bind (syP ⟨#[41]⟩ (stL q.2.1)) _=mapS (Except.bind (syP ⟨#[41]⟩ q.2.1) _)
      rw[sy_st]
      cases syP ⟨#[41]⟩ q.2.1 <;> rfl
theorem bool_st:NoLn boolP:=fun l k=>by
 unfold boolP;rw[tk_st]
 cases tkP 1 l with
 | error e=>rfl
 | ok p =>
  show (if p.1.text=_ then Except.ok (true,stL p.2,k) else if p.1.text=_ then Except.ok (false,stL p.2,k) else .error 2:PR Bool)=mapS (if p.1.text=_ then Except.ok (true,p.2,k) else if p.1.text=_ then Except.ok (false,p.2,k) else .error 2)
  repeat' split
  all_goals rfl
theorem val_st (hf:∀t,NoLn (f t)) (x:TyD):NoLn (valB m f x):=fun l k=>by
 have H:∀ {α:Type} {part:List TokD→Bool→PR α} (hp:NoLn part) (G:α→Val),(part (stL l) k).bind (fun p => .ok (G p.1,p.2))=mapS ((part l k).bind fun p => .ok (G p.1,p.2)):=fun {α part} hp G=>by
  rw[hp]
  cases part l k <;> rfl
 have HT:∀ (j:Int) (G:TokD→Val) (_:∀t,G (stripT t)=G t),(tkP j (stL l)).bind (fun p=>(.ok (G p.1,p.2,k):PR Val))=mapS ((tkP j l).bind fun p => .ok (G p.1,p.2,k)):=fun j G hG=>by
  rw[tk_st]
  cases tkP j l with
  | error e=>rfl
  | ok p=>show Except.ok (G (stripT p.1),_,_)=Except.ok (G p.1,_,_);rw[hG]
 unfold valB
 repeat' split
 ·exact H bool_st fun b => .mk 1 b 0 ⟨#[]⟩ 0 [] [] []
 ·exact HT 2 (fun t => .mk 2 false t.int ⟨#[]⟩ 0 [] [] []) fun _=>rfl
 ·exact HT 3 (fun t => .mk 3 false 0 t.str 0 [] [] []) fun _=>rfl
 ·exact H (enum_st m x) fun n => .mk 4 false 0 ⟨#[]⟩ n [] [] []
 ·exact H (rec_st hf x) fun p => .mk 5 false 0 ⟨#[]⟩ 0 [] p.1 p.2
 ·exact H (uni_st hf x) fun p => .mk 6 false 0 ⟨#[]⟩ p.1 [] p.2.1 p.2.2
 ·exact H (list_st hf x) fun p => .mk 7 false 0 ⟨#[]⟩ 0 [] p []
 ·exact H (map_st hf x) fun p => .mk 8 false 0 ⟨#[]⟩ 0 (p.map Prod.fst) (p.map Prod.snd) []
 ·exact H (opt_st hf x) fun p => .mk 9 false 0 ⟨#[]⟩ 0 [] p []
end
theorem valP_st (m:Bool) (s:List TyD):∀n t,NoLn (valP m s n t)
 | 0,_=>fun _ _=>rfl
 | n+1,t=>val_st (fun u=>valP_st m s n u) (tyAt s t)
theorem readP_st (m:Bool) (s:List TyD) (t:Int) (l:List TokD):readP m s t (stL l)=mapS (readP m s t l):=by
 unfold readP;rw[len_st];exact valP_st m s _ t l false
theorem stL_nil {l:List TokD} (h:stL l=[]):l=[]:=by
 cases l with
 | nil=>rfl
 | cons a r=>cases h
theorem read_strip {s:List TyD} {t:Int} {a b:List TokD} (h:a.map stripT=b.map stripT) :
  (∃e,readP false s t a = .error e∧readP false s t b = .error e)∨∃v r r' k,readP false s t a = .ok (v,r,k)∧readP false s t b = .ok (v,r',k)∧stL r=stL r':=by
 have h1:=readP_st false s t a;have h2:=readP_st false s t b;have hs:stL a=stL b:=h;rw[hs] at h1;rw[h1] at h2
 cases ha:readP false s t a with
 | error e =>
  rw[ha] at h2
  cases hb:readP false s t b with
  | error e' =>
   rw[hb] at h2
   injection h2 with h2
   subst h2;exact Or.inl ⟨e,rfl,rfl⟩
  | ok p=>rw[hb] at h2;cases h2
 | ok p =>
  obtain ⟨v,r,k⟩:=p;rw[ha] at h2
  cases hb:readP false s t b with
  | error e'=>rw[hb] at h2;cases h2
  | ok q =>
   obtain ⟨v',r',k'⟩:=q;rw[hb] at h2
   injection h2 with h2
   injection h2 with h3 h4
   injection h4 with h4 h5
   simp only at h3 h4 h5;subst h3 h5;exact Or.inr ⟨v,r,r',k,rfl,rfl,h4⟩
theorem space_law {s:List TyD} {x y:ByteArray} {l:List TokD} (ks:Nat→Nat) (hx:x.size≤600) (hl:toksL 1 x.data.toList = .ok l) (hy:y.data.toList=spread ks 0 l) (t:Int):parseS false s t y=parseS false s t x∧y.size≤4200:=by
 have hok:=toks_ok _ 1 _ l (Nat.le_refl _) hl;have hsz:=toks_size _ 1 _ l (Nat.le_refl _) hl;have hys:y.size≤4200:=by
  have h1:=spread_size ks l 0;rw[←hy] at h1;have h2:y.data.toList.length=y.size:=rfl;have h3:x.data.toList.length=x.size:=rfl
  omega
 refine ⟨?_,hys⟩;obtain ⟨l',h1,h2⟩:=lex_spread ks l 0 1 hok;rw[←hy] at h1;unfold parseS
 split
 ·rfl
 ·rw[if_neg (by omega),if_neg (by omega),h1,hl]
  simp only
  rcases read_strip (s:=s) (t:=t) h2 with ⟨e,h3,h4⟩|⟨v,r,r',k,h3,h4,h5⟩
  ·rw[h3,h4]
  ·rw[h3,h4]
   simp only
   by_cases hr:r=[]
   ·subst hr
    have:r'=[]:=stL_nil h5.symm;subst this;rfl
   ·have:r'≠[]:=fun e=>hr (stL_nil (by rw[h5,e];rfl))
    rw[if_pos hr,if_pos this]
section
variable {P:Program} (w:World)
theorem part_num {P:Program} (w:World) (t:TypeId) (k k':IntKind) (cs:Array Value) (off:Nat) (n:Int) (ht:P.underlying t=some (.int k')) (hc:cs[off]? = some (.int k n)) :
  (part t cs off).run P w = .ok (.int k n) w:=by
 unfold part;simp[go_sem,isAgg,run_underlying ht,hc]
theorem part_str {P:Program} (w:World) (t:TypeId) (cs:Array Value) (off:Nat) (n:ByteArray) (ht:P.underlying t=some .string) (hc:cs[off]? = some (.string n)) :
  (part t cs off).run P w = .ok (.string n) w:=by
 unfold part;simp[go_sem,isAgg,run_underlying ht,hc]
theorem eqF_num (d : Nat) (xs ys : Array Value) (f : Field) (fs : List Field) (a b : Int) (k k' : IntKind) (hn : f.name ≠ "_")
  (hx:(part f.type xs f.offset).run P w = .ok (.int k a) w) (hy:(part f.type ys f.offset).run P w = .ok (.int k b) w) (ht:P.underlying f.type=some (.int k')) :
  (Op.eqFields (d+1) xs ys (f::fs)).run P w=if a=b then (Op.eqFields (d+1) xs ys fs).run P w else .ok false w:=by
 simp only[Op.eqFields,if_pos hn,Sem.run_bind,hx,hy,Result.andThen_ok,run_equalIn_int w d f.type k k' a b ht]
 by_cases h:a=b
 ·subst h;simp
 ·have:(a==b)=false:=by simpa using h
  simp[this,h]
theorem eqF_str (d : Nat) (xs ys : Array Value) (f : Field) (fs : List Field) (a b : ByteArray) (hn : f.name ≠ "_")
  (hx:(part f.type xs f.offset).run P w = .ok (.string a) w) (hy:(part f.type ys f.offset).run P w = .ok (.string b) w) (ht:P.underlying f.type=some .string) :
  (Op.eqFields (d+1) xs ys (f::fs)).run P w=if a=b then (Op.eqFields (d+1) xs ys fs).run P w else .ok false w:=by
 simp only[Op.eqFields,if_pos hn,Sem.run_bind,hx,hy,Result.andThen_ok,run_equalIn_string w d f.type a b ht,bytes_beq]
 by_cases h:a=b
 ·subst h;simp
 ·simp[h]
end
theorem raw_self:Tryz.prog.underlying 97=some (.struct (Tryz.prog.fieldsOf 97)):=by
 unfold Program.fieldsOf;rw[Tryz.underlying97]
theorem run_equalIn_raw (d:Nat) (a b:Int) (s t:ByteArray) (w:World):(Op.equalIn (d+2) 97 (.agg #[.int .i64 a,.string s]) (.agg #[.int .i64 b,.string t])).run Tryz.prog w = .ok (decide (a=b∧s=t)) w:=by
 rw[run_equalIn_struct w (d+1) 97 _ _ raw_self (by kernel_rfl)]
 unfold Program.fieldsOf;rw[Tryz.underlying97];simp only;rw[eqF_num w d _ _ _ _ a b .i64 .i64 (by decide) (part_num w _ .i64 .i64 _ _ a Tryz.underlying3 rfl) (part_num w _ .i64 .i64 _ _ b Tryz.underlying3 rfl) Tryz.underlying3,
  eqF_str w d _ _ _ _ s t (by decide) (part_str w _ _ _ s Tryz.underlying9 rfl) (part_str w _ _ _ t Tryz.underlying9 rfl) Tryz.underlying9]
 by_cases h:a=b <;> by_cases h2:s=t <;> simp[h,h2,Op.eqFields]
theorem run_neq_raw (a b:Int) (s t:ByteArray) (w:World):(binOp .neq 97 (.agg #[.int .i64 a,.string s]) (.agg #[.int .i64 b,.string t])).run Tryz.prog w = .ok (.bool (!decide (a=b∧s=t))) w:=by
 rw[run_neq_struct,run_equalIn_raw 9998];rfl
theorem take_eq_of {α:Type} {l m:List α} {k:Nat} (hl:k<l.length) (hm:k<m.length) (h:l.take k=m.take k) (he:l[k]=m[k]):l.take (k+1)=m.take (k+1):=by
 rw[List.take_succ_eq_append_getElem hl,List.take_succ_eq_append_getElem hm,h,he]
theorem take_ne_of {α:Type} [DecidableEq α] {l m:List α} {k:Nat} (hl:k<l.length) (hm:k<m.length) (he:¬ l[k]=m[k]):decide (l=m)=false :=
 decide_eq_false fun e=>he (by subst e;rfl)
theorem take_all {α:Type} [DecidableEq α] {l m:List α} {k:Nat} (hk:¬ k<l.length) (hlen:l.length=m.length) (h:l.take k=m.take k):decide (l=m)=true :=
 decide_eq_true (by rwa [List.take_of_length_le (by omega),List.take_of_length_le (by omega)] at h)
theorem RawD.ext_iff' (x y:RawD):(x.id=y.id∧x.data=y.data)↔x=y:=by
 cases x;cases y;simp
theorem SymD.ext_iff' (x y:SymD):(x.id=y.id∧x.name=y.name)↔x=y:=by
 cases x;cases y;simp
theorem Val.ext_iff' (x y:Val):x=y↔(x.kind=y.kind∧x.bool=y.bool∧x.int=y.int∧x.str=y.str∧x.id=y.id∧x.rest=y.rest∧x.keys=y.keys∧x.items=y.items):=by
 obtain ⟨k,b,i,s,d,ks,is,r⟩:=x;obtain ⟨k',b',i',s',d',ks',is',r'⟩:=y;simp only[Val.mk.injEq,Val.kind,Val.bool,Val.int,Val.str,Val.id,Val.rest,Val.keys,Val.items]
 constructor
 ·rintro ⟨a1,a2,a3,a4,a5,a6,a7,a8⟩;exact ⟨a1,a2,a3,a4,a5,a8,a6,a7⟩
 ·rintro ⟨a1,a2,a3,a4,a5,a8,a6,a7⟩;exact ⟨a1,a2,a3,a4,a5,a6,a7,a8⟩
theorem val_ne {x y:Val} (h:¬ (x.kind=y.kind∧x.bool=y.bool∧x.int=y.int∧x.str=y.str∧x.id=y.id∧x.rest=y.rest∧x.keys=y.keys∧x.items=y.items)):decide (x=y)=false :=
 decide_eq_false fun e=>h ((Val.ext_iff' x y).1 e)
theorem letter_any (n : Int) (w : World) : Calls Tryz.prog 82 #[.int .u8 n] w fun e w' => e = .returned (.bool (letC n)) ∧ w = w' := by
  by_cases h1 : n = 95
  · subst h1
    go_enter Tryz.func82, Tryz.ntmps82
    go_wp2
    go_ret
    exact ⟨rfl, rfl⟩
  have e1 : (n == 95) = false := by simp [h1]
  by_cases h2 : 97 ≤ n <;> by_cases h3 : n ≤ 122 <;> by_cases h4 : 65 ≤ n <;> by_cases h5 : n ≤ 90
  all_goals first
    | (exfalso; omega)
    | (have HL := zh (show letC n = _ by unfold letC; simp only [h1, h2, h3, h4, h5]; rfl)
       clear h1
       go_enter Tryz.func82, Tryz.ntmps82
       go_wp2
       go_ret
       exact ⟨by rw [HL.out]; rfl, rfl⟩)
theorem digit_any (n : Int) (w : World) : Calls Tryz.prog 83 #[.int .u8 n] w fun e w' => e = .returned (.bool (digI n)) ∧ w = w' := by
  by_cases h2 : 48 ≤ n <;> by_cases h3 : n ≤ 57
  all_goals
    (have HL := zh (show digI n = _ by unfold digI; simp only [h2, h3]; rfl)
     go_enter Tryz.func83, Tryz.ntmps83
     go_wp2
     go_ret
     exact ⟨by rw [HL.out]; rfl, rfl⟩)
theorem name_get0 {s:ByteArray} (h:0<s.size):s.data.toList.getD 0 0=s[0]:=by
 have h':0<s.data.toList.length:=by simpa using h
 rw[List.getD_eq_getElem?_getD,zl h'];rfl
theorem name_big {s:ByteArray} (h:24<s.size):nameB s=false:=by
 unfold nameB;simp;omega
theorem name_head {s:ByteArray} (h:0<s.size) (hl:letC ((s[0].toNat:Nat):Int)=false):nameB s=false:=by
 unfold nameB;rw[name_get0 h,hl];simp
theorem name_bad {s:ByteArray} {k:Nat} (h:k<s.size) (hl:chB s[k]=false):nameB s=false:=by
 have:s.data.toList.all chB=false:=by
  rw[List.all_eq_false];refine ⟨s[k],?_,by simp[hl]⟩
  exact List.getElem_mem (l:=s.data.toList) (by simpa using h)
 unfold nameB;rw[this];simp
theorem name_good {s:ByteArray} (h:0<s.size) (h2:s.size≤24) (hl:letC ((s[0].toNat:Nat):Int)=true) (ha:∀k (hk:k<s.size),chB s[k]=true):nameB s=true:=by
 unfold nameB;rw[name_get0 h,hl];have:s.data.toList.all chB=true:=by
  rw[List.all_eq_true]
  intro c hc
  obtain ⟨k,hk,rfl⟩:=List.getElem_of_mem hc;exact ha k (by simpa using hk)
 rw[this];simp[h,h2]
theorem refIsName_any (s:ByteArray) (hs:SOk s) (w:World):Calls Tryz.prog 84 #[.string s] w fun e w'=>e = .returned (.bool (nameB s))∧w=w':=by
 unfold SOk at hs
 by_cases h0:s.size=0
 ·obtain rfl:s=⟨#[]⟩:=by
   obtain ⟨d⟩:=s;have:d.size=0:=h0;rw[Array.eq_empty_of_size_eq_zero this]
  clear hs h0
  go_enter Tryz.func84,Tryz.ntmps84
  go_wp2
  go_ret
  exact ⟨by rfl,rfl⟩
 have hp:0<s.size:=by omega
 have hne:=bytes_cons hp;have hne2:s.toList.isEmpty=false:=by simpa using hne
 by_cases hbig:24<s.size
 ·have HN:=zh (name_big hbig)
  clear h0
  go_enter Tryz.func84,Tryz.ntmps84
  go_wp2
  go_ret
  exact ⟨by rw[HN.out];rfl,rfl⟩
 have hle:s.size≤24:=by omega
 cases hl:letC ((s[0].toNat:Nat):Int) with
 | false =>
  have HN:=zh (name_head hp hl);have HL:=zh hl;clear h0 hbig hl
  go_enter Tryz.func84,Tryz.ntmps84
  go_wp2_with (go_at_call 82;refine (letter_any _ _).mono ?_;rintro e w' ⟨rfl,rfl⟩;rw[HL.out])
  go_ret
  exact ⟨by rw[HN.out];rfl,rfl⟩
 | true =>
  have HL:=zh hl;clear h0 hbig hl
  go_enter Tryz.func84,Tryz.ntmps84
  go_wp2_with (go_at_call 82;refine (letter_any _ _).mono ?_;rintro e w' ⟨rfl,rfl⟩;rw[HL.out])
  go_loop [3] (fun i=>∃k:Nat,k≤s.size∧i = .int .i64 k∧Hid (∀j (hj:j<s.size),j<k→chB s[j]=true)) (fun i=>s.size - (intOf i).toNat)
  case atStart=>exact ⟨0,by omega,rfl,fun j hj h=>absurd h (by omega)⟩
  case round =>
   obtain ⟨k,hk,rfl,hh⟩:=hrel
   by_cases hlt:k<s.size
   ·cases h1:letC ((s[k].toNat:Nat):Int) with
    | true =>
     have HC:Hid (chB s[k]=true):=by show _=_;unfold chB;rw[h1];rfl
     have H1:=zh h1;clear h1;go_wp2_with (go_at_call 82;refine (letter_any _ _).mono ?_;rintro e w' ⟨rfl,rfl⟩;rw[H1.out])
     go_round
     case rel =>
      refine ⟨k+1,by omega,by go_num,fun j hj hjk=>?_⟩
      by_cases e:j=k
      ·subst e;exact HC.out
      ·exact hh.out j hj (by omega)
     case measure=>simp[intOf];omega
    | false =>
     cases h2:digI ((s[k].toNat:Nat):Int) with
     | true =>
      have HC:Hid (chB s[k]=true):=by show _=_;unfold chB;rw[h1,h2];rfl
      have H1:=zh h1;have H2:=zh h2;clear h1 h2;go_wp2_with (first|(go_at_call 82;refine (letter_any _ _).mono ?_;rintro e w' ⟨rfl,rfl⟩;rw[H1.out])|(go_at_call 83;refine (digit_any _ _).mono ?_;rintro e w' ⟨rfl,rfl⟩;rw[H2.out]))
      go_round
      case rel =>
       refine ⟨k+1,by omega,by go_num,fun j hj hjk=>?_⟩
       by_cases e:j=k
       ·subst e;exact HC.out
       ·exact hh.out j hj (by omega)
      case measure=>simp[intOf];omega
     | false =>
      have HN:=zh (name_bad hlt (show chB s[k]=false by unfold chB;rw[h1,h2];rfl))
      have H1:=zh h1;have H2:=zh h2;clear h1 h2;go_wp2_with (first|(go_at_call 82;refine (letter_any _ _).mono ?_;rintro e w' ⟨rfl,rfl⟩;rw[H1.out])|(go_at_call 83;refine (digit_any _ _).mono ?_;rintro e w' ⟨rfl,rfl⟩;rw[H2.out]));go_ret;exact ⟨by rw[HN.out];rfl,rfl⟩
   ·have HN:=zh (name_good hp hle HL.out fun k hk=>hh.out k hk (by omega))
    go_wp2
    go_ret
    exact ⟨by rw[HN.out];rfl,rfl⟩
def rSameAt (x:Val):Prop:=∀ (y:Val) (A1:zo) (c1:Nat) (A2:zo) (c2:Nat) (A3:zo) (c3:Nat) (B1:zo) (d1:Nat) (B2:zo) (d2:Nat) (B3:zo) (d3:Nat) (w:World),
 ValR w x A1 A2 A3→ValR w y B1 B2 B3→Calls Tryz.prog 51 #[x.v A1 c1 A2 c2 A3 c3,y.v B1 d1 B2 d2 B3 d3] w (SamePost (decide (x=y)) w)
theorem rSames_any (l m:List Val) (ih:∀x∈l,rSameAt x) (A B:zo) (c d:Nat) (w:World) (hl:ValsR w A l) (hm:ValsR w B m) :
  Calls Tryz.prog 80 #[.slice A l.length c,.slice B m.length d] w (SamePost (decide (l=m)) w):=by
 have hn:=hl.1.lt (by omega)
 by_cases hlen:l.length=m.length
 ·rw[←hlen]
  have hb0:((l.length:Int) != (l.length:Int))=false:=by simp
  have HL:=zh hl;have HM:=zh hm;have HE:=zh hlen;have HI:=zh ih;clear hl hm hlen ih
  go_enter Tryz.func80,Tryz.ntmps80
  go_wp2
  go_loopw [5] (fun i wr=>∃k:Nat,k≤l.length∧i = .int .i64 k∧Hid (l.take k=m.take k)∧Hid (Below w.heap.size w wr)) (fun i _=>l.length - (intOf i).toNat)
  case atStart=>exact ⟨0,by omega,rfl,rfl,Below.refl _ _⟩
  case round =>
   obtain ⟨k,hk,rfl,htk,hbw⟩:=hrel
   by_cases hlt:k<l.length
   ·have hlt':k<m.length:=by have:=HE.out;omega
    obtain ⟨b,o,A1,c1,A2,c2,A3,c3,rfl,hr1,a0,a1,a2,a3,a4,a5,a6,a7⟩:=(HL.out.below hbw.out).at8 hlt;obtain ⟨b',o',B1,d1,B2,d2,B3,d3,rfl,hr2,b0,b1,b2,b3,b4,b5,b6,b7⟩:=(HM.out.below hbw.out).at8 hlt';have h1:(0:Int)≤(k:Int):=by omega
    have h2:(k:Int)<(l.length:Int):=by omega
    have HR1:=zh hr1;have HR2:=zh hr2;have HX:=zh (HI.out l[k] (List.getElem_mem hlt));clear hr1 hr2
    by_cases he:l[k]=m[k]
    ·have HQ:=zh (take_eq_of hlt hlt' htk.out he)
     have HD:=zh (decide_eq_true he);clear he;go_wp2
     go_still_tail 8,(by kernel_rfl)
     change wpList _ _ _ _ _ wr.drew
     go_wp2_with (go_at_call 51;refine (HX.out m[k] A1 c1 A2 c2 A3 c3 B1 d1 B2 d2 B3 d3 _ (HR1.out.below (zC (Below.refl _ _) 1)) (HR2.out.below (zC (Below.refl _ _) 1))).mono ?_;rintro e w2 ⟨rfl,hb2⟩;rw[HD.out])
     go_roundw
     case rel=>exact ⟨k+1,by omega,by go_num,HQ.out,zB hbw.out (undrew hb2)⟩
     case measure=>simp[intOf];omega
    ·have HQ:=zh (take_ne_of hlt hlt' he)
     have HD:=zh (decide_eq_false he);clear he;go_wp2
     go_still_tail 8,(by kernel_rfl)
     change wpList _ _ _ _ _ wr.drew
     go_wp2_with (go_at_call 51;refine (HX.out m[k] A1 c1 A2 c2 A3 c3 B1 d1 B2 d2 B3 d3 _ (HR1.out.below (zC (Below.refl _ _) 1)) (HR2.out.below (zC (Below.refl _ _) 1))).mono ?_;rintro e w2 ⟨rfl,hb2⟩;rw[HD.out])
     go_ret
     exact ⟨by rw[HQ.out];rfl,zB hbw.out (undrew hb2)⟩
   ·have HQ:=zh (take_all hlt HE.out htk.out)
    go_wp2
    go_ret
    exact ⟨by rw[HQ.out];rfl,hbw.out⟩
 ·have hb0:((l.length:Int) != (m.length:Int))=true:=bne_iff_ne.2 (by omega)
  have HQ:=zh (show decide (l=m)=false from decide_eq_false fun e=>hlen (by rw[e]))
  clear hlen
  go_enter Tryz.func80,Tryz.ntmps80
  go_wp2
  go_ret
  exact ⟨by rw[HQ.out];rfl,Below.refl _ _⟩
theorem rSame_step (x:Val) (ihk:∀z∈x.keys,rSameAt z) (ihi:∀z∈x.items,rSameAt z):rSameAt x:=by
 intro y A1 c1 A2 c2 A3 c3 B1 d1 B2 d2 B3 d3 w hx hy
 have HK:=zh ihk;have HI:=zh ihi;have HX:=zh hx;have HY:=zh hy;have hn:=hx.rest.1.lt (by omega)
 clear ihk ihi hx hy
 by_cases q1:x.kind=y.kind
 case neg =>
  have HD:=zh (val_ne (x:=x) (y:=y) (fun h=>q1 h.1))
  have e1:(x.kind != y.kind)=true:=by simpa using q1
  clear q1
  go_enter Tryz.func51,Tryz.ntmps51
  go_wp2
  go_ret
  exact ⟨by rw[HD.out];rfl,zI _ _ _⟩
 have e1:(x.kind != y.kind)=false:=by simpa using q1
 by_cases q2:x.bool=y.bool
 case neg =>
  have HD:=zh (val_ne (x:=x) (y:=y) (fun h=>q2 h.2.1))
  have e2:(x.bool==y.bool)=false:=by simpa using q2
  have p2:¬ x.bool=y.bool:=q2;clear q1 q2
  go_enter Tryz.func51,Tryz.ntmps51
  go_wp2
  go_ret
  exact ⟨by rw[HD.out];rfl,zI _ _ _⟩
 have e2:(x.bool==y.bool)=true:=by simpa using q2
 by_cases q3:x.int=y.int
 case neg =>
  have HD:=zh (val_ne (x:=x) (y:=y) (fun h=>q3 h.2.2.1))
  have e3:(x.int != y.int)=true:=by simpa using q3
  clear q1 q2 q3
  go_enter Tryz.func51,Tryz.ntmps51
  go_wp2
  go_ret
  exact ⟨by rw[HD.out];rfl,zI _ _ _⟩
 have e3:(x.int != y.int)=false:=by simpa using q3
 by_cases q4:x.str=y.str
 case neg =>
  have HD:=zh (val_ne (x:=x) (y:=y) (fun h=>q4 h.2.2.2.1))
  have e4:(x.str.toList==y.str.toList)=false:=by rw[bytes_beq,decide_eq_false q4]
  have p4:¬ x.str.toList=y.str.toList:=by simpa using e4
  clear q1 q2 q3 q4
  go_enter Tryz.func51,Tryz.ntmps51
  go_wp2
  go_ret
  exact ⟨by rw[HD.out];rfl,zI _ _ _⟩
 have e4:(x.str.toList==y.str.toList)=true:=by rw[bytes_beq,decide_eq_true q4]
 by_cases q5:x.id=y.id
 case neg =>
  have HD:=zh (val_ne (x:=x) (y:=y) (fun h=>q5 h.2.2.2.2.1))
  have e5:(x.id != y.id)=true:=by simpa using q5
  clear q1 q2 q3 q4 q5
  go_enter Tryz.func51,Tryz.ntmps51
  go_wp2
  go_ret
  exact ⟨by rw[HD.out];rfl,zI _ _ _⟩
 have e5:(x.id != y.id)=false:=by simpa using q5
 by_cases q6:x.rest.length=y.rest.length
 case neg =>
  have HD:=zh (val_ne (x:=x) (y:=y) (fun h=>q6 (by rw[h.2.2.2.2.2.1])))
  have e6:((x.rest.length:Int) != (y.rest.length:Int))=true:=bne_iff_ne.2 (by omega)
  clear q1 q2 q3 q4 q5 q6
  go_enter Tryz.func51,Tryz.ntmps51
  go_wp2
  go_ret
  exact ⟨by rw[HD.out];rfl,zI _ _ _⟩
 have HE:=zh q6;have HQ:=zh (And.intro q1 (And.intro q2 (And.intro q3 (And.intro q4 q5))));obtain ⟨n6,hn6⟩:∃n,n=y.rest.length:=⟨_,rfl⟩;rw[←hn6] at q6;have e6:((x.rest.length:Int) != (x.rest.length:Int))=false:=by simp
 have HV:Hid (y.v B1 d1 B2 d2 B3 d3 = .agg #[.int .i64 y.kind,.bool y.bool,.int .i64 y.int,.string y.str,.int .i64 y.id,.slice B1 y.keys.length d1,.slice B2 y.items.length d2,.slice B3 x.rest.length d3]):=by show _=_;rw[HE.out]
 rw[HV.out];clear q1 q2 q3 q4 q5 q6 hn6
 go_enter Tryz.func51,Tryz.ntmps51
 go_wp2
 go_loopw [5] (fun i wr=>∃k:Nat,k≤x.rest.length∧i = .int .i64 k∧Hid (x.rest.take k=y.rest.take k)∧Hid (Below (World.heap ((w.alloc (x.box A1 c1 A2 c2 A3 c3)).alloc (.cells #[.int .i64 y.kind,.bool y.bool,.int .i64 y.int,.string y.str,.int .i64 y.id,.slice B1 y.keys.length d1,.slice B2 y.items.length d2,.slice B3 x.rest.length d3] 28))).size ((w.alloc (x.box A1 c1 A2 c2 A3 c3)).alloc (.cells #[.int .i64 y.kind,.bool y.bool,.int .i64 y.int,.string y.str,.int .i64 y.id,.slice B1 y.keys.length d1,.slice B2 y.items.length d2,.slice B3 x.rest.length d3] 28)) wr)) (fun i _=>x.rest.length - (intOf i).toNat)
 case atStart=>exact ⟨0,by omega,rfl,rfl,Below.refl _ _⟩
 case round =>
  obtain ⟨k,hk,rfl,htk,hbw⟩:=hrel;have hc:=bcell hbw.out;have HB:=zh (below_alloc2 hbw.out);have hz0:=hbw.out.size;simp at hz0;have hz1:w.heap.size<wr.heap.size:=by omega
  have hz2:w.heap.size+1<wr.heap.size:=by omega
  clear hz0
  by_cases hlt:k<x.rest.length
  ·have hlt':k<y.rest.length:=by have:=HE.out;omega
   obtain ⟨b,o,rfl,_,a0,a1⟩:=(HX.out.rest.below HB.out).at2 hlt;obtain ⟨b',o',rfl,_,b0,b1⟩:=(HY.out.rest.below HB.out).at2 hlt';have h1:(0:Int)≤(k:Int):=by omega
   have h2:(k:Int)<(x.rest.length:Int):=by omega
   have hcx:=hc w.heap.size 7 (by simp;omega)
   have hcy:=hc (w.heap.size+1) 7 (by simp)
   have hcx':wr.cell? ⟨w.heap.size,7,none⟩=some (.slice (some ⟨b,o,none⟩) x.rest.length c3):=by rw[hcx];go_simp
   have hcy':wr.cell? ⟨w.heap.size+1,7,none⟩=some (.slice (some ⟨b',o',none⟩) x.rest.length d3):=by rw[hcy];go_simp
   clear hcx hcy hc
   by_cases he:x.rest[k]=y.rest[k]
   ·have heq:∀w,(binOp .neq 97 (.agg #[.int .i64 (x.rest[k]).id,.string (x.rest[k]).data]) (.agg #[.int .i64 (y.rest[k]).id,.string (y.rest[k]).data])).run Tryz.prog w = .ok (.bool false) w:=fun w=>by rw[run_neq_raw,decide_eq_true ((RawD.ext_iff' _ _).2 he)];rfl
    have HT:=zh (take_eq_of hlt hlt' htk.out he);clear he;go_wp2
    go_quiet (fail)
    go_wp2
    go_roundw
    case rel=>exact ⟨k+1,by omega,by go_num,HT.out,zC hbw.out _⟩
    case measure=>simp[intOf];omega
   ·have heq:∀w,(binOp .neq 97 (.agg #[.int .i64 (x.rest[k]).id,.string (x.rest[k]).data]) (.agg #[.int .i64 (y.rest[k]).id,.string (y.rest[k]).data])).run Tryz.prog w = .ok (.bool true) w:=fun w=>by rw[run_neq_raw,decide_eq_false (fun e=>he ((RawD.ext_iff' _ _).1 e))];rfl
    have HD:=zh (val_ne (x:=x) (y:=y) fun h=>by have:=take_ne_of hlt hlt' he;rw[decide_eq_true h.2.2.2.2.2.1] at this;cases this)
    clear he;go_wp2
    go_quiet (fail)
    go_wp2
    go_ret
    exact ⟨by rw[HD.out];rfl,zC HB.out _⟩
  ·have HT:=zh (of_decide_eq_true (take_all hlt HE.out htk.out))
   by_cases q7:x.keys=y.keys
   ·have H7:=zh (decide_eq_true q7)
    have HD:=zh (show decide (x=y)=decide (x.items=y.items) by
     rw[decide_eq_decide,Val.ext_iff'];obtain ⟨q1,q2,q3,q4,q5⟩:=HQ.out;exact ⟨fun h=>h.2.2.2.2.2.2.2,fun h=>⟨q1,q2,q3,q4,q5,HT.out,q7,h⟩⟩)
    clear q7;go_wp2_with fail;refine (rSames_any x.keys y.keys HK.out A1 B1 c1 d1 _ (HX.out.keys.below HB.out) (HY.out.keys.below HB.out)).mono ?_;rintro e w3 ⟨rfl,hb3⟩;rw[H7.out];have hc3:=bcell hb3;have HB3:=zh (zB HB.out hb3);clear hb3;go_wp2_with fail;refine (rSames_any x.items y.items HI.out A2 B2 c2 d2 _ (HX.out.items.below HB3.out) (HY.out.items.below HB3.out)).mono ?_;rintro e w4 ⟨rfl,hb4⟩
    go_wp2
    go_ret
    exact ⟨by rw[HD.out];rfl,zB HB3.out hb4⟩
   ·have H7:=zh (decide_eq_false q7)
    have HD:=zh (val_ne (x:=x) (y:=y) fun h=>q7 h.2.2.2.2.2.2.1)
    clear q7;go_wp2_with fail;refine (rSames_any x.keys y.keys HK.out A1 B1 c1 d1 _ (HX.out.keys.below HB.out) (HY.out.keys.below HB.out)).mono ?_;rintro e w3 ⟨rfl,hb3⟩;rw[H7.out];go_wp2;go_ret;exact ⟨by rw[HD.out];rfl,zB HB.out hb3⟩
mutual
theorem rSame_all:∀x:Val,rSameAt x
 | .mk _ _ _ _ _ ks is _=>rSame_step _ (rSame_alls ks) (rSame_alls is)
theorem rSame_alls:∀ (l:List Val),∀z∈l,rSameAt z
 | [],_,h=>by cases h
 | x::l,z,h=>by
  rcases List.mem_cons.1 h with e|e
  ·rw[e];exact rSame_all x
  ·exact rSame_alls l z e
end
section
variable {α:Type} {E k:Nat} {at_:World→α→List Value→Prop} {wr:World} {base H3 H:Nat} {A:zo} {c:Nat} {l:List α} {i:Nat}
end
section
variable {C:RCx} {V:Vx}
end
theorem r08Equal_any (x y:Val) (A1:zo) (c1:Nat) (A2:zo) (c2:Nat) (A3:zo) (c3:Nat) (B1:zo) (d1:Nat) (B2:zo) (d2:Nat) (B3:zo) (d3:Nat) (w:World) (hx:ValR w x A1 A2 A3) (hy:ValR w y B1 B2 B3) :
  Calls Tryz.prog 18 #[x.v A1 c1 A2 c2 A3 c3,y.v B1 d1 B2 d2 B3 d3] w (SamePost (decide (x=y)) w):=by
 have HB0:=zh (zI w (x.box A1 c1 A2 c2 A3 c3) (y.box B1 d1 B2 d2 B3 d3));have HX0:=zh (vc_box_new w (x.box A1 c1 A2 c2 A3 c3) (y.box B1 d1 B2 d2 B3 d3));have HS:=zh (rSame_all x y A1 c1 A2 c2 A3 c3 B1 d1 B2 d2 B3 d3 _ (hx.below HB0.out) (hy.below HB0.out));clear hx hy;generalize decide (x=y)=bb at *
 go_enter Tryz.func18,Tryz.ntmps18
 go_upto_region 1 with fail
 generalize (w.alloc (x.box A1 c1 A2 c2 A3 c3)).alloc (y.box B1 d1 B2 d2 B3 d3)=W0 at *;obtain ⟨v0,v1,v2,v3,v4,v5,v6,v7⟩:=vbox8 HX0.out.1;obtain ⟨u0,u1,u2,u3,u4,u5,u6,u7⟩:=vbox8 HX0.out.2.1;go_wp2_with fail;refine HS.out.mono ?_;rintro e w2 ⟨rfl,hb2⟩;have HB2:=zh (zB HB0.out hb2);clear hb2 v0 v1 v2 v3 v4 v5 v6 v7 u0 u1 u2 u3 u4 u5 u6 u7;go_wp2;go_ret;exact ⟨rfl,HB2.out⟩
open Go.ChangeShapes Go.WideShapes Go.ChangeAt Go.RowKit Go.Deep
set_option maxRecDepth 100000
section
variable {H:Type} {enc:TypeId×Value→H} {W:World}
end
open Go.ChangeShapes Go.WideShapes Go.ChangeAt Go.RowKit Go.Deep
set_option maxRecDepth 100000
section
variable {H:Type} {enc:TypeId×Value→H}
end
open Go.ChangeShapes Go.WideShapes Go.ChangeAt Go.RowKit Go.Deep
set_option maxRecDepth 100000
section
variable {H:Type} {enc:TypeId×Value→H} {W:World}
end
open Go.ChangeShapes Go.WideShapes Go.ChangeAt Go.RowKit Go.Deep
set_option maxRecDepth 100000
section
variable {H:Type} {enc:TypeId×Value→H} {W:World}
theorem open_sliceA {α:Type} [Inhabited α] {T E:TypeId} {k bytes:Nat} (hu:Tryz.prog.underlying T=some (.slice E)) (hk:Tryz.prog.cellsOf E=k) (hby:Tryz.prog.bytesOf E=bytes) (hk0:0<k) {at_:α→List Value→Prop} (hlen:∀y cs,at_ y cs→cs.length=k)
  {r:Reach} {b0:Nat} {v:Value} {d:DataW H} {p:List MemPlace} (hv:Value.okWide Tryz.prog W r b0 T v) (h:DataW.Trod enc Tryz.prog W 0 (fun _=>true) true T v d p) (hz:Sz T d)
  (hel:∀d':DataW H,∀n' cs' ps',DataW.trod enc Tryz.prog W 0 (fun _=>true) true n' E cs'=some (d',ps')→Sz E d'→∃y,at_ y cs') :
  ∃ (A:zo) (c:Nat) (l:List α),v = .slice A l.length c∧RowsR k bytes at_ W A l:=by
 obtain ⟨fuel,hf⟩:=h;obtain ⟨A0,n0,c0,rfl⟩:=okWide_slice hu hv;obtain ⟨A,c,l,e,hr⟩:=open_rows (α:=α) (bytes:=bytes) hu hk hby hk0 hlen hf hz fun d' _ n' cs' ps'=>hel d' n' cs' ps'
 have e':([.slice A0 n0 c0]:List Value)=[.slice A l.length c]:=e
 injection e' with e' _
 exact ⟨A,c,l,e',hr⟩
end
open Go.ChangeShapes Go.WideShapes Go.ChangeAt Go.RowKit Go.Deep
set_option maxRecDepth 100000
section
variable {H:Type} {enc:TypeId×Value→H} {W:World}
theorem open_strA {r:Reach} {b0:Nat} {v:Value} {d:DataW H} {p:List MemPlace} (hv:Value.okWide Tryz.prog W r b0 9 v) (h:DataW.Trod enc Tryz.prog W 0 (fun _=>true) true 9 v d p) (hz:Sz 9 d) :
  ∃s:ByteArray,v = .string s∧s.size≤140737488355328:=by
 obtain ⟨s,e,e2,_,_⟩:=Go.ChangeMaps.open_string Tryz.underlying9 hv h;subst e2;exact ⟨s,e,str_sz hz⟩
end
end Go.Proofs.YthkkllmmbefedaaGreatDoor


