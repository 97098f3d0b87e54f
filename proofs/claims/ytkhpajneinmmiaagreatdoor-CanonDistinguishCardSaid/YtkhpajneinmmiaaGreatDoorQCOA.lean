/-
  The states of sheaveref18.Copied.
-/
import Derived.Test.YtkhpajneinmmiaaGreatDoorQDM
import Derived.Test.YtkhpajneinmmiaaGreatDoorQCAA
import Derived.Test.YtkhpajneinmmiaaGreatDoorQDR4
namespace Go.Proofs.YtkhpajneinmmiaaGreatDoor
open Go.RowKit
set_option maxHeartbeats 16000000
set_option maxRecDepth 100000
theorem flatten_set {k:Nat} (hk:0<k) (css:List (List Value)) (h:∀cs∈css,cs.length=k) {i j:Nat} (hi:i<css.length) (hj:j<k) (v:Value):css.flatten.set (i * k+j) v=(css.set i ((css[i]).set j v)).flatten:=by
 have hc:=h _ (List.getElem_mem hi)
 have h':∀ds∈css.set i ((css[i]).set j v),ds.length=k:=fun ds hd=>by
  rcases List.mem_or_eq_of_mem_set hd with e|e
  ·exact h ds e
  ·rw[e,List.length_set];exact hc
 apply List.ext_getElem?
 intro m
 rw[flatten_get hk _ _ h']
 by_cases e:i * k+j=m
 ·subst e
  have hfit:i * k+j<css.flatten.length:=by
   rw[flatten_len css h]
   have:=Nat.mul_le_mul_right k (show i+1≤css.length from hi)
   rw[Nat.succ_mul] at this
   omega
  rw[List.getElem?_set_self hfit,Nat.mul_comm i k,Nat.mul_add_div hk,Nat.mul_add_mod,Nat.div_eq_of_lt hj,Nat.mod_eq_of_lt hj,Nat.add_zero,List.getElem?_set_self hi]
  simp only[Option.bind_some]
  rw[List.getElem?_set_self (by omega)]
 ·rw[List.getElem?_set_ne e,flatten_get hk _ _ h]
  by_cases e2:m / k=i
  ·rw[e2,List.getElem?_set_self hi,zl hi]
   simp only[Option.bind_some]
   rw[List.getElem?_set_ne]
   intro e3
   apply e
   have:=Nat.div_add_mod m k
   rw[e2,Nat.mul_comm] at this
   omega
  ·rw[List.getElem?_set_ne (fun h=>e2 h.symm)]
def RowX {α:Type} (E k:Nat) (atl:α→List Value→Prop) (wr:World) (base:Nat) (A:Option Addr) (c:Nat) (l:List α):Prop :=
 ∃css,OwnC E k wr base (.slice A l.length c) css∧css.length=l.length∧(∀cs∈css,cs.length=k)∧∀ (m:Nat) x cs,l[m]? = some x→css[m]? = some cs→atl x cs
section
variable {α:Type} {E k:Nat} {atl:α→List Value→Prop} {wr w':World} {base:Nat} {A:Option Addr} {c:Nat} {l:List α}
theorem RowX.lt (h:RowX E k atl wr base A c l) {g:Nat} (hg:(Value.slice A l.length c).ownBlock=some g):base≤g∧g<wr.heap.size:=by
 obtain ⟨css,ho,_⟩:=h
 exact World.ownsRow.lt ho g hg
theorem RowX.keep (h:RowX E k atl wr base A c l) (hk:∀g,base≤g→g<wr.heap.size→(Value.slice A l.length c).ownBlock=some g→w'.heap[g]? = wr.heap[g]?):RowX E k atl w' base A c l:=by
 obtain ⟨css,h1,h2⟩:=h
 exact ⟨css,h1.keep hk,h2⟩
theorem RowX.below (h:RowX E k atl wr base A c l) (hb:Below wr.heap.size wr w'):RowX E k atl w' base A c l:=h.keep fun g _ hg _=>hb.block g hg
theorem RowX.at_ (h:RowX E k atl wr base A c l) {i:Nat} (hi:i<l.length):∃g cs,A=some ⟨g,0,none⟩∧base≤g∧g<wr.heap.size∧cs.length=k∧atl l[i] cs∧wr.rangeAt g (i * k) cs∧∀j,wr.frozen? ⟨g,j,none⟩=false:=by
 obtain ⟨css,h1,h2,h3,h5⟩:=h
 have hic:i<css.length:=by omega
 have hn:css≠[]:=fun e=>by rw[e] at h2;simp at h2;omega
 obtain ⟨A',c',e,_,_,hr⟩:=OwnL.reads h1
 obtain ⟨g,hA,hg,hrange⟩:=hr hn
 have hAA:A=A':=by injection e
 subst hAA
 subst hA
 have hcl:=h3 _ (List.getElem_mem hic)
 refine ⟨g,css[i],rfl,hg,(World.ownsRow.lt h1 g rfl).2,hcl,h5 i _ _ (zl hi) (zl hic),fun j u hj=>?_,fun j=>?_⟩
 ·have hj':j<k:=by rw[←hcl];exact (List.getElem?_eq_some_iff.1 hj).1
  rw[yJ] at hrange
  have:=hrange (i * k+j) u (by
   rw[flatten_get (by omega) css _ h3,Nat.mul_comm i k,Nat.mul_add_div (by omega),Nat.mul_add_mod,Nat.div_eq_of_lt hj',Nat.mod_eq_of_lt hj',Nat.add_zero,zl hic]
   exact hj)
  rwa [Nat.zero_add] at this
 ·have hln:css.length=l.length:=h2
  have h1':wr.ownsRow base E k (.slice (some ⟨g,0,none⟩) l.length c) l.length (css.flatMap fun cs=>cs):=by rw[←hln] at h1 ⊢;exact h1
  exact World.ownsRow.frozenAt h1' j
theorem RowX.set (h:RowX E k atl wr base A c l) {i:Nat} (hi:i<l.length) {g:Nat} (hA:A=some ⟨g,0,none⟩) {j:Nat} (hj:j<k) (v:Value) {x:α} (hx:∀cs,atl l[i] cs→atl x (cs.set j v)):RowX E k atl (wr.setCell ⟨g,i * k+j,none⟩ v) base A c (l.set i x):=by
 subst hA
 obtain ⟨css,h1,h2,h3,h5⟩:=h
 have hic:i<css.length:=by omega
 refine ⟨css.set i ((css[i]).set j v),?_,by simp[h2],fun ds hd=>?_,fun m y ds hy hd=>?_⟩
 ·unfold OwnC OwnL at h1 ⊢
  rw[yJ] at h1 ⊢
  rw[List.length_set,List.length_set,←flatten_set (by omega) css h3 hic hj v]
  rw[h2] at h1 ⊢
  exact (World.ownsRow.stored h1 (i * k+j) v).1
 ·rcases List.mem_or_eq_of_mem_set hd with e|e
  ·exact h3 ds e
  ·rw[e,List.length_set];exact h3 _ (List.getElem_mem hic)
 ·by_cases e:m=i
  ·subst e
   rw[List.getElem?_set_self hi] at hy
   rw[List.getElem?_set_self hic] at hd
   obtain rfl:=Option.some.inj hy
   obtain rfl:=Option.some.inj hd
   exact hx _ (h5 m _ _ (zl hi) (zl hic))
  ·rw[List.getElem?_set_ne (fun e2=>e e2.symm)] at hy hd
   exact h5 m y ds hy hd
theorem RowX.out (h:RowX E k atl wr base A c l) {bytes:Nat} (hl:Lim bytes l.length) {u:World} (hu:∀g,(Value.slice A l.length c).ownBlock=some g→u.heap[g]? = wr.heap[g]?):RowsR k bytes atl u A l:=by
 refine ⟨hl,fun hn=>?_⟩
 have h':=h
 obtain ⟨g,cs,hA,_⟩:=h.at_ (i:=0) (List.length_pos_iff.2 hn)
 refine ⟨g,0,hA,fun i x hx=>?_⟩
 obtain ⟨hi,rfl⟩:=List.getElem?_eq_some_iff.1 hx
 obtain ⟨g',cs',hA',_,_,hcl,hat,hr,_⟩:=h'.at_ hi
 have:g=g':=by rw[hA] at hA';injection hA' with e;injection e
 subst this
 refine ⟨cs',hat,fun j v hj=>?_⟩
 have:=hr j v hj
 rw[Nat.zero_add]
 rw[World.cell?_of_block (w:=wr) (w':=u) (a:=⟨g,i * k+j,none⟩) (hu g (by rw[hA];rfl))]
 exact this
end
structure OutC (B po:Nat) (wr:World) (v:Value) (L:List TyA):Prop where
 own:OwnL 70 10 TyA.cells wr (po+1) v L
 off:∀x∈L,Off (fun q=>(B≤q∧q≤po)∨v.ownBlock=some q) wr fun u=>TyR u x.t x.As x.Am
theorem OutC.below {B po:Nat} {wr w':World} {v:Value} {L:List TyA} (h:OutC B po wr v L) (hb:Below wr.heap.size wr w'):OutC B po w' v L:=⟨h.own.below hb,fun x hx=>(h.off x hx).low hb⟩
theorem OutC.nil (B po:Nat) (wr:World):OutC B po wr (.slice none 0 0) []:=⟨OwnL.nil _ _,fun x hx=>by cases hx⟩
theorem OutC.set {B po:Nat} {wr w':World} {v:Value} {L:List TyA} (h:OutC B po wr v L) (hs:wr.heap.size≤w'.heap.size) {b:Nat} (hB:B≤b) (hb:b≤po) (hk:∀q,q≠b→q<wr.heap.size→w'.heap[q]? = wr.heap[q]?):OutC B po w' v L :=
 ⟨h.own.keep fun g h1 h2 _=>hk g (by omega) h2,fun x hx=>(h.off x hx).step hs fun q hq hl=>hk q (fun e=>hq (.inl ⟨e▸hB,e▸hb⟩)) hl⟩
theorem OutC.snoc {B po:Nat} {wr w':World} {v v':Value} {L:List TyA} {x:TyA} (h:OutC B po wr v L) (hx:Off (fun q=>(B≤q∧q≤po)∨v.ownBlock=some q) wr fun u=>TyR u x.t x.As x.Am)
  (ho:w'.ownsRow (po+1) 70 10 v' (L.length+1) (L.flatMap TyA.cells++x.cells)) (hg:wr.grownBy w' v.ownBlock) (hv:v'.ownBlock=v.ownBlock∨v'.ownBlock=some wr.heap.size):OutC B po w' v' (L++[x]):=by
 refine ⟨OwnL.snoc ho,fun y hy=>?_⟩
 have hy':Off (fun q=>(B≤q∧q≤po)∨v.ownBlock=some q) wr fun u=>TyR u y.t y.As y.Am:=by
  rcases List.mem_append.1 hy with k|k
  ·exact h.off y k
  ·obtain rfl:y=x:=by simpa using k
   exact hx
 intro u hu
 refine hy' u fun q hq hl=>?_
 have hqw:w'.heap[q]? = wr.heap[q]? := zN hg hl fun k hk e=>hq (.inr (by rw[hk,e]))
 rw[←hqw]
 refine hu q (fun hs=>hs.elim (fun h1=>hq (.inl h1)) fun h2=>?_) (Nat.lt_of_lt_of_le hl hg.size)
 rcases hv with e|e
 ·exact hq (.inr (e▸h2))
 ·rw[e] at h2
  have:=Option.some.inj h2
  omega
theorem OutC.rows {B po:Nat} {wr:World} {v:Value} {L:List TyA} (h:OutC B po wr v L) (hl:L.length≤1000):∃A c,v = .slice A L.length c∧TysR wr A (L.map (·.t)):=by
 obtain ⟨A,c,hv,hr⟩:=OwnL.rows (bytes:=120) h.own (fun _=>rfl) (by unfold Lim;omega) (at_:=fun x cs=>TyD.At wr x.t cs) (fun x hx=>⟨x.As,x.cs,x.Am,x.cm,rfl,(h.off x hx).out⟩)
 refine ⟨A,c,hv,by unfold Lim;rw[List.length_map];omega,fun hn=>?_⟩
 obtain ⟨b,o,e,hi⟩:=hr.2 (fun e=>hn (by rw[e];rfl))
 refine ⟨b,o,e,fun i x hx=>?_⟩
 rw[List.getElem?_map] at hx
 obtain ⟨y,hy,rfl⟩:=Option.map_eq_some_iff.1 hx
 exact hi i y hy
def MatL (w:World) (m:MemD) (cs:List Value):Prop:=∀u,Low w u→MemD.At u m cs
theorem MatL.parts {w:World} {m:MemD} {cs:List Value} (h:MatL w m cs):∃A1 c1 A2 c2 A3 c3,cs=m.cs A1 c1 A2 c2 A3 c3∧∀u,Low w u→MemR u m A1 A2 A3:=by
 obtain ⟨A1,c1,A2,c2,A3,c3,e,_⟩:=h w (fun _ _=>rfl)
 refine ⟨A1,c1,A2,c2,A3,c3,e,fun u hu=>?_⟩
 obtain ⟨B1,d1,B2,d2,B3,d3,e2,hr⟩:=h u hu
 rw[e] at e2
 simp only[MemD.cs,List.cons.injEq,Value.slice.injEq,and_true,true_and] at e2
 obtain ⟨⟨rfl,_⟩,⟨rfl,_⟩,rfl,_⟩:=e2
 exact hr
theorem MatL.name {w:World} {m:MemD} {cs:List Value} (h:MatL w m cs) {nm:ByteArray} (hn:SOk nm):MatL w { m with name:=nm } (cs.set 1 (.string nm)):=fun u hu=>by
 obtain ⟨A1,c1,A2,c2,A3,c3,rfl,hr⟩:=h.parts
 exact ⟨A1,c1,A2,c2,A3,c3,rfl,hn,(hr u hu).dflt⟩
theorem MatL.type {w:World} {m:MemD} {cs:List Value} (h:MatL w m cs) (z:Int):MatL w { m with type:=z } (cs.set 2 (.int .i64 z)):=fun u hu=>by
 obtain ⟨A1,c1,A2,c2,A3,c3,rfl,hr⟩:=h.parts
 exact ⟨A1,c1,A2,c2,A3,c3,rfl,(hr u hu).name,(hr u hu).dflt⟩
theorem SymD.named {s:SymD} {cs:List Value} (h:SymD.At s cs) {nm:ByteArray} (hn:SOk nm):SymD.At { s with name:=nm } (cs.set 1 (.string nm)):=by
 obtain ⟨_,rfl⟩:=h
 exact ⟨hn,rfl⟩
structure Cy (w wi W:World) (b9 b10:Nat) (t:TyD) (As:Option Addr) (cs:Nat) (Am:Option Addr) (cm:Nat) (u:TyD) (B1:Option Addr) (d1:Nat) (B2:Option Addr) (d2:Nat):Prop where
 t9:TBox W b9 t As cs Am cm
 t10:TBox W b10 u B1 d1 B2 d2
 rs:RowX 75 2 SymD.At W (b10+1) B1 d1 u.syms
 rm:RowX 83 13 (MatL w) W (b10+1) B2 d2 u.mems
 bel:Below wi.heap.size wi W
 b9l:wi.heap.size≤b9
 b10l:b9<b10
section
variable {w wi W W':World} {b9 b10:Nat} {t:TyD} {As:Option Addr} {cs:Nat} {Am:Option Addr} {cm:Nat} {u:TyD} {B1:Option Addr} {d1:Nat} {B2:Option Addr} {d2:Nat}
theorem Cy.below (h:Cy w wi W b9 b10 t As cs Am cm u B1 d1 B2 d2) (hb:Below W.heap.size W W'):Cy w wi W' b9 b10 t As cs Am cm u B1 d1 B2 d2 :=
 ⟨h.t9.below hb,h.t10.below hb,h.rs.below hb,h.rm.below hb,zA h.bel hb,h.b9l,h.b10l⟩
theorem Cy.box (h:Cy w wi W b9 b10 t As cs Am cm u B1 d1 B2 d2) (j:Nat) (v:Value) {u':TyD} (hu:TBox (W.setCell ⟨b10,j,none⟩ v) b10 u' B1 d1 B2 d2) (h1:u'.syms=u.syms) (h2:u'.mems=u.mems):Cy w wi (W.setCell ⟨b10,j,none⟩ v) b9 b10 t As cs Am cm u' B1 d1 B2 d2:=by
 have hl:=h.b10l
 have h9:=h.b9l
 refine ⟨(heap_setCell_other _ _ _ _ (by simp only;omega)).trans h.t9,hu,?_,?_,h.bel.setCell (p:=⟨b10,j,none⟩) (by simp only;omega) v,h9,hl⟩
 ·rw[h1];exact h.rs.keep fun g hg _ _=>heap_setCell_other _ _ _ _ (by simp only;omega)
 ·rw[h2];exact h.rm.keep fun g hg _ _=>heap_setCell_other _ _ _ _ (by simp only;omega)
theorem Cy.name (h:Cy w wi W b9 b10 t As cs Am cm u B1 d1 B2 d2) (nm:ByteArray):Cy w wi (W.setCell ⟨b10,1,none⟩ (.string nm)) b9 b10 t As cs Am cm { u with name:=nm } B1 d1 B2 d2 :=
 h.box 1 _ (by have:=heap_setCell_same _ _ 1 _ _ (.string nm) h.t10;unfold TBox;rw[this];simp) rfl rfl
theorem Cy.key (h:Cy w wi W b9 b10 t As cs Am cm u B1 d1 B2 d2) (z:Int):Cy w wi (W.setCell ⟨b10,7,none⟩ (.int .i64 z)) b9 b10 t As cs Am cm { u with key:=z } B1 d1 B2 d2 :=
 h.box 7 _ (by have:=heap_setCell_same _ _ 7 _ _ (.int .i64 z) h.t10;unfold TBox;rw[this];simp) rfl rfl
theorem Cy.elem (h:Cy w wi W b9 b10 t As cs Am cm u B1 d1 B2 d2) (z:Int):Cy w wi (W.setCell ⟨b10,8,none⟩ (.int .i64 z)) b9 b10 t As cs Am cm { u with elem:=z } B1 d1 B2 d2 :=
 h.box 8 _ (by have:=heap_setCell_same _ _ 8 _ _ (.int .i64 z) h.t10;unfold TBox;rw[this];simp) rfl rfl
theorem Cy.apart (h:Cy w wi W b9 b10 t As cs Am cm u B1 d1 B2 d2) {g:Nat} (h1:(Value.slice B1 u.syms.length d1).ownBlock=some g):(Value.slice B2 u.mems.length d2).ownBlock≠some g:=fun h2=>by
 obtain ⟨c1,o1,l1,_⟩:=h.rs
 obtain ⟨c2,o2,l2,_⟩:=h.rm
 rw[←l1] at h1
 rw[←l2] at h2
 rw[←l1] at o1
 rw[←l2] at o2
 obtain ⟨e1,f1,g1⟩:=o1.block h1
 obtain ⟨e2,f2,g2⟩:=o2.block h2
 rw[g1] at g2
 injection g2 with g2
 injection g2 with _ g3
 exact absurd g3 (by decide)
theorem Cy.sym (h:Cy w wi W b9 b10 t As cs Am cm u B1 d1 B2 d2) {i:Nat} (hi:i<u.syms.length) {g:Nat} (hA:B1=some ⟨g,0,none⟩) {nm:ByteArray} (hn:SOk nm) :
  Cy w wi (W.setCell ⟨g,i * 2+1,none⟩ (.string nm)) b9 b10 t As cs Am cm { u with syms:=u.syms.set i { u.syms[i] with name:=nm } } B1 d1 B2 d2:=by
 have hl:=h.b10l
 have h9:=h.b9l
 have hg:=h.rs.lt (g:=g) (by rw[hA];rfl)
 refine ⟨(heap_setCell_other _ _ _ _ (by simp only;omega)).trans h.t9,?_,?_,?_,h.bel.setCell (p:=⟨g,i * 2+1,none⟩) (by simp only;omega) _,h9,hl⟩
 ·unfold TBox
  rw[heap_setCell_other _ _ _ _ (by simp only;omega)]
  simp only[List.length_set]
  exact h.t10
 ·exact h.rs.set hi hA (by omega) (.string nm) fun cs hc=>SymD.named hc hn
 ·exact h.rm.keep fun g' _ _ hv=>heap_setCell_other _ _ _ _ (fun e=>h.apart (g:=g) (by rw[hA];rfl) (by simp only at e;rw[←e];exact hv))
theorem Cy.mem (h:Cy w wi W b9 b10 t As cs Am cm u B1 d1 B2 d2) {i:Nat} (hi:i<u.mems.length) {g:Nat} (hA:B2=some ⟨g,0,none⟩) {j:Nat} (hj:j<13) (v:Value) {m:MemD} (hm:∀cs,MatL w u.mems[i] cs→MatL w m (cs.set j v)) :
  Cy w wi (W.setCell ⟨g,i * 13+j,none⟩ v) b9 b10 t As cs Am cm { u with mems:=u.mems.set i m } B1 d1 B2 d2:=by
 have hl:=h.b10l
 have h9:=h.b9l
 have hg:=h.rm.lt (g:=g) (by rw[hA];rfl)
 refine ⟨(heap_setCell_other _ _ _ _ (by simp only;omega)).trans h.t9,?_,?_,?_,h.bel.setCell (p:=⟨g,i * 13+j,none⟩) (by simp only;omega) _,h9,hl⟩
 ·unfold TBox
  rw[heap_setCell_other _ _ _ _ (by simp only;omega)]
  simp only[List.length_set]
  exact h.t10
 ·exact h.rs.keep fun g' _ _ hv=>heap_setCell_other _ _ _ _ (fun e=>h.apart hv (by simp only at e;rw[e,hA];rfl))
 ·exact h.rm.set hi hA hj v hm
theorem Cy.out (h:Cy w wi W b9 b10 t As cs Am cm u B1 d1 B2 d2) (hn:SOk u.name) (hs:Lim 24 u.syms.length) (hm:Lim 160 u.mems.length) (hbw:Below w.heap.size w W):Off (fun q=>w.heap.size≤q∧q≤b10) W fun v=>TyR v u B1 B2:=fun v hv=>by
 have hlow:Low w v:=fun q hq=>by
  have hs:=hbw.size
  exact (hv q (by omega) (by omega)).trans (hbw.block q hq)
 have k1:=h.rs.out hs (u:=v) fun g hg=>by have:=h.rs.lt hg;exact hv g (by omega) (by omega)
 have k2:=h.rm.out hm (u:=v) fun g hg=>by have:=h.rm.lt hg;exact hv g (by omega) (by omega)
 refine ⟨hn,k1,RowsR.imp (w:=v) k2 (fun x _ cs hx=>hx v hlow) (Below.refl _ _)⟩
end
end Go.Proofs.YtkhpajneinmmiaaGreatDoor


