/-
  Tidy: rows of clones, and what the loops keep.
-/
import Derived.Test.YtdfolgmcggdjdaaGreatDoorQYB2
import Derived.Test.YtdfolgmcggdjdaaGreatDoorQYR0
import Derived.Test.YtdfolgmcggdjdaaGreatDoorQRN0
namespace Go.Proofs.YtdfolgmcggdjdaaGreatDoor
open Go.RowKit
set_option maxHeartbeats 16000000
set_option maxRecDepth 100000
def RowX {α:Type} (E k:Nat) (atl:α→List Value→Prop) (wr:World) (base:Nat) (A:Option Addr) (c:Nat) (l:List α):Prop :=
 ∃css,OwnC E k wr base (.slice A l.length c) css∧css.length=l.length∧(∀cs∈css,cs.length=k)∧∀ (m:Nat) x cs,l[m]? = some x→css[m]? = some cs→atl x cs
section
variable {α:Type} {E k:Nat} {atl:α→List Value→Prop} {wr w':World} {base:Nat} {A:Option Addr} {c:Nat} {l:List α}
theorem RowX.lt (h:RowX E k atl wr base A c l) {g:Nat} (hg:(Value.slice A l.length c).ownBlock=some g):base≤g∧g<wr.heap.size:=by
 obtain ⟨css,ho,_⟩:=h
 exact World.ownsRow.lt ho g hg
theorem RowX.keep (h:RowX E k atl wr base A c l) (hk:∀g,base≤g→g<wr.heap.size→(Value.slice A l.length c).ownBlock=some g→w'.heap[g]? = wr.heap[g]?):RowX E k atl w' base A c l:=by
 obtain ⟨css,h1,h2⟩:=h
 exact ⟨css,h1.keep hk,h2⟩
theorem RowX.below (h:RowX E k atl wr base A c l) (hb:Below wr.heap.size wr w'):RowX E k atl w' base A c l:=h.keep fun g _ hg _=>hb.block g hg
theorem RowX.at_ (h:RowX E k atl wr base A c l) {i:Nat} (hi:i<l.length):∃g cs,A=some ⟨g,0,none⟩∧base≤g∧g<wr.heap.size∧cs.length=k∧atl l[i] cs∧wr.rangeAt g (i * k) cs∧∀j,wr.frozen? ⟨g,j,none⟩=false:=by
 obtain ⟨css,h1,h2,h3,h5⟩:=h
 have hic:i<css.length:=by omega
 have hn:css≠[]:=fun e=>by rw[e] at h2;simp at h2;omega
 obtain ⟨A',c',e,_,_,hr⟩:=OwnL.reads h1
 obtain ⟨g,hA,hg,hrange⟩:=hr hn
 have hAA:A=A':=by injection e
 subst hAA
 subst hA
 have hcl:=h3 _ (List.getElem_mem hic)
 refine ⟨g,css[i],rfl,hg,(World.ownsRow.lt h1 g rfl).2,hcl,h5 i _ _ (zl hi) (zl hic),fun j u hj=>?_,fun j=>?_⟩
 ·have hj':j<k:=by rw[←hcl];exact (List.getElem?_eq_some_iff.1 hj).1
  rw[flatMap_self] at hrange
  have:=hrange (i * k+j) u (by
   rw[flatten_get (by omega) css _ h3,Nat.mul_comm i k,Nat.mul_add_div (by omega),Nat.mul_add_mod,Nat.div_eq_of_lt hj',Nat.mod_eq_of_lt hj',Nat.add_zero,zl hic]
   exact hj)
  rwa [Nat.zero_add] at this
 ·have hln:css.length=l.length:=h2
  have h1':wr.ownsRow base E k (.slice (some ⟨g,0,none⟩) l.length c) l.length (css.flatMap fun cs=>cs):=by rw[←hln] at h1 ⊢;exact h1
  exact World.ownsRow.frozenAt h1' j
theorem RowX.set (h:RowX E k atl wr base A c l) {i:Nat} (hi:i<l.length) {g:Nat} (hA:A=some ⟨g,0,none⟩) {j:Nat} (hj:j<k) (v:Value) {x:α} (hx:∀cs,atl l[i] cs→atl x (cs.set j v)):RowX E k atl (wr.setCell ⟨g,i * k+j,none⟩ v) base A c (l.set i x):=by
 subst hA
 obtain ⟨css,h1,h2,h3,h5⟩:=h
 have hic:i<css.length:=by omega
 refine ⟨css.set i ((css[i]).set j v),?_,by simp[h2],fun ds hd=>?_,fun m y ds hy hd=>?_⟩
 ·unfold OwnC OwnL at h1 ⊢
  rw[flatMap_self] at h1 ⊢
  rw[List.length_set,List.length_set,←flatten_set (by omega) css h3 hic hj v]
  rw[h2] at h1 ⊢
  exact (World.ownsRow.stored h1 (i * k+j) v).1
 ·rcases List.mem_or_eq_of_mem_set hd with e|e
  ·exact h3 ds e
  ·rw[e,List.length_set];exact h3 _ (List.getElem_mem hic)
 ·by_cases e:m=i
  ·subst e
   rw[List.getElem?_set_self hi] at hy
   rw[List.getElem?_set_self hic] at hd
   obtain rfl:=Option.some.inj hy
   obtain rfl:=Option.some.inj hd
   exact hx _ (h5 m _ _ (zl hi) (zl hic))
  ·rw[List.getElem?_set_ne (fun e2=>e e2.symm)] at hy hd
   exact h5 m y ds hy hd
theorem RowX.out (h:RowX E k atl wr base A c l) {bytes:Nat} (hl:Lim bytes l.length) {u:World} (hu:∀g,(Value.slice A l.length c).ownBlock=some g→u.heap[g]? = wr.heap[g]?):RowsR k bytes atl u A l:=by
 refine ⟨hl,fun hn=>?_⟩
 have h':=h
 obtain ⟨g,cs,hA,_⟩:=h.at_ (i:=0) (List.length_pos_iff.2 hn)
 refine ⟨g,0,hA,fun i x hx=>?_⟩
 obtain ⟨hi,rfl⟩:=List.getElem?_eq_some_iff.1 hx
 obtain ⟨g',cs',hA',_,_,hcl,hat,hr,_⟩:=h'.at_ hi
 have:g=g':=by rw[hA] at hA';injection hA' with e;injection e
 subst this
 refine ⟨cs',hat,fun j v hj=>?_⟩
 have:=hr j v hj
 rw[Nat.zero_add]
 rw[World.cell?_of_block (w:=wr) (w':=u) (a:=⟨g,i * k+j,none⟩) (hu g (by rw[hA];rfl))]
 exact this
end
def MatL (w:World) (m:MemD) (cs:List Value):Prop:=∀u,Low w u→MemD.At u m cs
theorem MatL.parts {w:World} {m:MemD} {cs:List Value} (h:MatL w m cs):∃A1 c1 A2 c2 A3 c3,cs=m.cs A1 c1 A2 c2 A3 c3∧∀u,Low w u→MemR u m A1 A2 A3:=by
 obtain ⟨A1,c1,A2,c2,A3,c3,e,_⟩:=h w (fun _ _=>rfl)
 refine ⟨A1,c1,A2,c2,A3,c3,e,fun u hu=>?_⟩
 obtain ⟨B1,d1,B2,d2,B3,d3,e2,hr⟩:=h u hu
 rw[e] at e2
 simp only[MemD.cs,List.cons.injEq,Value.slice.injEq,and_true,true_and] at e2
 obtain ⟨⟨rfl,_⟩,⟨rfl,_⟩,rfl,_⟩:=e2
 exact hr
theorem MatL.type {w:World} {m:MemD} {cs:List Value} (h:MatL w m cs) (z:Int):MatL w { m with type:=z } (cs.set 2 (.int .i64 z)):=fun u hu=>by
 obtain ⟨A1,c1,A2,c2,A3,c3,rfl,hr⟩:=h.parts
 exact ⟨A1,c1,A2,c2,A3,c3,rfl,(hr u hu).name,(hr u hu).dflt⟩
theorem cloneSX {l:List SymD} {A:Option Addr} {c:Nat} {w0 w:World} (hl:SymsR w0 A l) (hb0:Below w0.heap.size w0 w) :
  Calls Tryz.prog 32 #[.slice A l.length c] w fun e w'=>∃B d,e = .returned (.slice B l.length d)∧Below w.heap.size w w'∧RowX 55 2 SymD.At w' w.heap.size B d l:=by
 obtain ⟨css,h1,h2,h3,h4⟩:=RowsR.cells (fun x cs h=>(SymD.at_one h).1) hl
 have hone:∀cs∈css,∀u∈cs,u.oneCell'=true:=fun cs hc=>by
  obtain ⟨i,hi,rfl⟩:=List.getElem_of_mem hc
  exact (SymD.at_one (h2 i l[i] _ (zl (by omega)) (zl hi))).2
 have:=cloneSymbol_any css h3 hone (by rw[h1];exact hl.1) A c w (fun hn=>by
  obtain ⟨b,o,e,hr⟩:=h4 (fun e=>hn (List.eq_nil_of_length_eq_zero (by rw[h1,e];rfl)))
  exact ⟨b,o,e,range_below hb0 hr⟩)
 rw[h1] at this
 refine this.mono ?_
 rintro e w' ⟨v,rfl,ho,hb⟩
 obtain ⟨B,d,rfl,_⟩:=OwnL.reads ho
 rw[h1] at ho ⊢
 exact ⟨B,d,rfl,hb,css,ho,h1,h3,h2⟩
theorem cloneMX {l:List MemD} {A:Option Addr} {c:Nat} {w0 w:World} (hl:MemsR w0 A l) (hb0:Below w0.heap.size w0 w) :
  Calls Tryz.prog 33 #[.slice A l.length c] w fun e w'=>∃B d,e = .returned (.slice B l.length d)∧Below w.heap.size w w'∧RowX 71 13 (MatL w0) w' w.heap.size B d l:=by
 obtain ⟨css,h1,h2,h3,h4⟩:=RowsR.cells (fun x cs h=>(MemD.at_one h).1) hl
 have hone:∀cs∈css,∀u∈cs,u.oneCell'=true:=fun cs hc=>by
  obtain ⟨i,hi,rfl⟩:=List.getElem_of_mem hc
  exact (MemD.at_one (h2 i l[i] _ (zl (by omega)) (zl hi))).2
 have:=cloneMember_any css h3 hone (by rw[h1];exact hl.1) A c w (fun hn=>by
  obtain ⟨b,o,e,hr⟩:=h4 (fun e=>hn (List.eq_nil_of_length_eq_zero (by rw[h1,e];rfl)))
  exact ⟨b,o,e,range_below hb0 hr⟩)
 rw[h1] at this
 refine this.mono ?_
 rintro e w' ⟨v,rfl,ho,hb⟩
 obtain ⟨B,d,rfl,_⟩:=OwnL.reads ho
 rw[h1] at ho ⊢
 exact ⟨B,d,rfl,hb,css,ho,h1,h3,fun i x cs hx hc u hu=>MemD.at_low hu (h2 i x cs hx hc)⟩
section
variable {s:List TyD} {ix:List Int}
theorem t1D_zero:t1D s 0=(List.replicate s.length (-1),[]):=rfl
theorem t1D_succ (k:Nat):t1D s (k+1)=if zH (tyAt s (k:Int)).kind then ((t1D s k).1.set k ((t1D s k).2.length:Int),(t1D s k).2++[tyAt s (k:Int)]) else t1D s k:=by
 unfold t1D
 rw[List.range_succ,List.foldl_append]
 rfl
theorem t1D_len (k:Nat):(t1D s k).1.length=s.length∧(t1D s k).2.length≤k:=by
 induction k with
 | zero=>rw[t1D_zero];simp
 | succ k ih =>
  rw[t1D_succ]
  split
  ·simp only[List.length_set,List.length_append,List.length_singleton];omega
  ·omega
theorem t2D_succ {out:List TyD} (t:Nat):t2D s ix out (t+1)=(yC s ix ((t2D s ix out t).getD t zeroT).mems (t2D s ix out t)).2.set t { (t2D s ix out t).getD t zeroT with mems:=(yC s ix ((t2D s ix out t).getD t zeroT).mems (t2D s ix out t)).1 }:=by
 unfold t2D
 rw[List.range_succ,List.foldl_append]
 rfl
theorem placeMs_zero {ms:List MemD} {out:List TyD}:yC s ix (ms.take 0) out=([],out):=by simp[yC]
theorem placeMs_succ {ms:List MemD} {out:List TyD} {i:Nat} (hi:i<ms.length):yC s ix (ms.take (i+1)) out=((yC s ix (ms.take i) out).1++[{ ms[i] with type:=(placeD s ix (s.length+1) ms[i].type (yC s ix (ms.take i) out).2).1 }],(placeD s ix (s.length+1) ms[i].type (yC s ix (ms.take i) out).2).2):=by
 unfold yC
 rw[List.take_add_one,zl hi,Option.toList_some,List.foldl_append]
 rfl
theorem placeMs_len1 {ms:List MemD} {out:List TyD}:∀i,i≤ms.length→(yC s ix (ms.take i) out).1.length=i
 | 0,_=>by rw[placeMs_zero];rfl
 | i+1,h=>by rw[placeMs_succ h,List.length_append,placeMs_len1 i (by omega)];rfl
theorem placeMs_len2 (hv:zG s=0) {ms:List MemD} {out:List TyD} (hr:∀m∈ms,0≤m.type∧m.type<(s.length:Int)):∀i,i≤ms.length→(yC s ix (ms.take i) out).2.length≤out.length+i * 66∧out.length≤(yC s ix (ms.take i) out).2.length
 | 0,_=>by rw[placeMs_zero];simp
 | i+1,h=>by
  have ih:=placeMs_len2 hv (out:=out) hr i (by omega)
  have h1:=(placeD_le (ix:=ix) hv (s.length+1) ms[i].type (yC s ix (ms.take i) out).2 (hr _ (List.getElem_mem _))).1
  have h2:=placeD_ge (s:=s) (ix:=ix) (s.length+1) ms[i].type (yC s ix (ms.take i) out).2
  have h3:=yD hv
  rw[placeMs_succ h]
  simp only
  omega
end
def midM (s:List TyD) (ix:List Int) (ms:List MemD) (out:List TyD) (i:Nat):List MemD:=(yC s ix (ms.take i) out).1++ms.drop i
section
variable {s:List TyD} {ix:List Int} {ms:List MemD} {out:List TyD}
theorem midM_len {i:Nat} (h:i≤ms.length):(midM s ix ms out i).length=ms.length:=by
 unfold midM;rw[List.length_append,placeMs_len1 i h,List.length_drop];omega
theorem midM_zero:midM s ix ms out 0=ms:=by unfold midM;rw[placeMs_zero];rfl
theorem midM_all:midM s ix ms out ms.length=(yC s ix ms out).1:=by unfold midM;rw[List.take_length,List.drop_length,List.append_nil]
theorem midM_get? {i:Nat} (h:i<ms.length):(midM s ix ms out i)[i]? = some ms[i]:=by
 unfold midM
 have hl:=placeMs_len1 (s:=s) (ix:=ix) (out:=out) i (Nat.le_of_lt h)
 rw[List.getElem?_append_right (by omega),hl,Nat.sub_self,List.getElem?_drop,Nat.add_zero,zl h]
theorem midM_get {i:Nat} (h:i<ms.length) (h':i<(midM s ix ms out i).length):(midM s ix ms out i)[i]=ms[i] :=
 Option.some.inj ((zl h').symm.trans (midM_get? h))
theorem midM_succ {i:Nat} (h:i<ms.length):(midM s ix ms out i).set i { ms[i] with type:=(placeD s ix (s.length+1) ms[i].type (yC s ix (ms.take i) out).2).1 }=midM s ix ms out (i+1):=by
 unfold midM
 rw[placeMs_succ h,List.drop_eq_getElem_cons h,List.append_assoc]
 have hl:=placeMs_len1 (s:=s) (ix:=ix) (out:=out) i (Nat.le_of_lt h)
 rw[List.set_append_right _ _ (by omega),hl,Nat.sub_self]
 rfl
end
section
variable {A:Option Addr} {n c p gi:Nat} {ix:List Int} {S:Nat→Prop} {W:World} {v:Value} {L:List TyA}
theorem TdS.setI (h:TdS A n c p gi ix S W v L) (hS:S gi) (t:Nat) (z:Int):TdS A n c p gi (ix.set t z) S (W.setCell ⟨gi,t,none⟩ (.int .i64 z)) v L:=by
 have hlt:=h.lt
 refine ⟨(heap_setCell_other _ _ _ _ (by simp only;omega)).trans h.blk,?_,hlt,h.sp,by rw[List.length_set];exact h.len,h.own.keep fun q hq _ _=>heap_setCell_other _ _ _ _ (by simp only;omega),fun x hx=>(h.off x hx).set (a:=⟨gi,t,none⟩) _ (.inl hS)⟩
 have hb:=h.ixb
 unfold ixO at hb ⊢
 rw[heap_setCell_same _ _ t _ _ (.int .i64 z) hb]
 simp[List.map_set]
theorem TdS.mem (h:TdS A n c p gi ix S W v L) {i:Nat} {x:TyA} (hx:L[i]? = some x):Off (fun q=>S q∨v.ownBlock=some q) W fun u=>TyR u x.t x.As x.Am:=h.off x (List.mem_of_getElem? hx)
theorem TdS.atv (h:TdS A n c p gi ix S W v L) {i:Nat} (hi:i<L.length) {g cv:Nat} (hv:v = .slice (some ⟨g,0,none⟩) L.length cv):(p<g∧g<W.heap.size)∧W.rangeAt g (i * 10) (L[i]).cells∧W.there g (i * 10) 10:=by
 obtain ⟨g',cv',e,h1,h2,h3⟩:=h.at_ hi
 rw[hv] at e
 injection e with e
 injection e with e
 injection e with e
 subst e
 exact ⟨h1,h2,h3⟩
end
theorem off_syms {w W:World} {x:TyD} {As Am:Option Addr} {S:Nat→Prop} {base:Nat} {B:Option Addr} {d:Nat} (h:TyR w x As Am) (hb:Below w.heap.size w W) (hS:∀q,q<w.heap.size→¬ S q) (hr:RowX 55 2 SymD.At W base B d x.syms) (hbs:∀q,S q→q<base):Off S W fun u=>TyR u x B Am:=fun u hu=>by
 have hlow:Low w u:=fun q hq=>(hu q (hS q hq) (by have:=hb.size;omega)).trans (hb.block q hq)
 have h2:RowsR 2 24 SymD.At u B x.syms:=hr.out h.syms.1 fun g hg=>hu g (fun hs=>by have:=hbs g hs;have:=(hr.lt hg).1;omega) (hr.lt hg).2
 exact ⟨h.name,h2,h.mems.low hlow⟩
theorem off_mems {w W:World} {x y:TyD} {As Am:Option Addr} {S S':Nat→Prop} {base:Nat} {B:Option Addr} {d:Nat} {l:List MemD} (h:Off S W fun u=>TyR u x As Am) (hb:Below w.heap.size w W) (hS:∀q,q<w.heap.size→¬ S' q) (hSS:∀q,S' q→S q) (hr:RowX 71 13 (MatL w) W base B d l) (hbs:∀q,(Value.slice B l.length d).ownBlock=some q→¬ S' q) (hl:Lim 160 l.length) (hn:y.name=x.name) (hsy:y.syms=x.syms) (hm:y.mems=l):Off S' W fun u=>TyR u y As B:=fun u hu=>by
 have hlow:Low w u:=fun q hq=>(hu q (hS q hq) (by have:=hb.size;omega)).trans (hb.block q hq)
 have h1:=h u fun q hq hl=>hu q (fun k=>hq (hSS q k)) hl
 have h2:=hr.out hl (u:=u) fun g hg=>hu g (hbs g hg) (hr.lt hg).2
 exact ⟨hn▸h1.name,hsy▸h1.syms,by rw[hm];exact RowsR.imp (w:=u) h2 (fun x _ cs hx=>hx u hlow) (Below.refl _ _)⟩
theorem ints_at {w:World} {g:Nat} {l:List Int} (h:w.heap[g]? = some (ixO l)) (hl:l.length≤1000):IntsR w (some ⟨g,0,none⟩) l :=
 ⟨by unfold Lim;omega,fun _=>⟨g,0,rfl,fun i x hx=>⟨encI x,rfl,fun j u hj=>by
  unfold ixO at h
  cases j with
  | zero =>
   obtain rfl:Value.int .i64 x=u:=by simpa[encI] using hj
   rw[cell_of_row _ _ _ _ _ _ h]
   simp[hx]
  | succ j=>simp[encI] at hj⟩⟩⟩
end Go.Proofs.YtdfolgmcggdjdaaGreatDoor


