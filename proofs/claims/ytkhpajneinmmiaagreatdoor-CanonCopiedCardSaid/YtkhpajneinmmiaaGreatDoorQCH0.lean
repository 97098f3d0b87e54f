/-
  Drafts that are changed: rows of nodes of the call's own, each of which has its row of parts.
-/
import Derived.Test.YtkhpajneinmmiaaGreatDoorQDM
import Derived.Test.YtkhpajneinmmiaaGreatDoorQDRA
namespace Go.Proofs.YtkhpajneinmmiaaGreatDoor
open Go.RowKit
set_option maxHeartbeats 16000000
set_option maxRecDepth 100000
theorem not_after {b:Bool} {P:Prop} (h:b=true):b=false→P:=fun e=>absurd (h.symm.trans e) (by decide)
theorem range_new_drew (w:World) (cs:List Value) (t:TypeId):(w.alloc (.cells cs.toArray t)).drew.rangeAt w.heap.size 0 cs:=zL w cs t
structure ChgD where
 kind:Nat
 node:Nat
 a:Nat
 b:Nat
def ChgD.At (x:ChgD) (cs:List Value):Prop:=(x.kind<256∧x.node<256∧x.a<256∧x.b<256)∧cs=[.int .u8 x.kind,.int .u8 x.node,.int .u8 x.a,.int .u8 x.b]
def ChgsR (w:World) (A:Option Addr) (l:List ChgD):Prop:=RowsR 4 4 ChgD.At w A l
theorem ChgsR.below {w w':World} {A:Option Addr} {l:List ChgD} (h:ChgsR w A l) (hb:Below w.heap.size w w'):ChgsR w' A l:=RowsR.imp h (fun _ _ _ h=>h) hb
abbrev U8 (u:Value):Prop:=∃k:Nat,k<256∧u = .int .u8 k
theorem u8_wrap (n:Int):∃k:Nat,k<256∧(Value.int .u8 (IntKind.u8.wrap n)) = .int .u8 k:=by
 refine ⟨(n % 256).toNat,by omega,?_⟩
 rw[IntKind.wrap_u8,show (((n % 256).toNat:Nat):Int)=n % 256 by omega]
theorem elem_node:Elem 22 65 5 32:=⟨Tryz.underlying22,⟨.agg #[.int .u8 0,.int .u8 0,.int .u8 0,.int .u8 0,.slice none 0 0],by kernel_rfl,rfl⟩,by omega⟩
theorem elem_part:Elem 63 121 3 3:=⟨Tryz.underlying63,⟨.agg #[.int .u8 0,.int .u8 0,.int .u8 0],by kernel_rfl,rfl⟩,by omega⟩
def ParOwn (wr:World) (base:Nat) (A:Option Addr) (m c:Nat):Prop:=∃ys,wr.ownsRow base 121 3 (.slice A m c) m ys∧∀u∈ys,U8 u
theorem ParOwn.keep {wr w':World} {base:Nat} {A:Option Addr} {m c:Nat} (h:ParOwn wr base A m c) (hk:∀q,base≤q→q<wr.heap.size→w'.heap[q]? = wr.heap[q]?):ParOwn w' base A m c:=by
 obtain ⟨ys,ho,hu⟩:=h
 refine ⟨ys,⟨ho.1,?_⟩,hu⟩
 rcases ho.2 with h0|⟨g,cap,cur,hv,hg0,hh,h1⟩
 ·exact .inl h0
 ·exact .inr ⟨g,cap,cur,hv,hg0,(hk g hg0 (zg.1 hh).1).trans hh,h1⟩
theorem ParOwn.at_ {wr:World} {base:Nat} {A:Option Addr} {m c:Nat} (h:ParOwn wr base A m c) (hm:0<m):∃g,A=some ⟨g,0,none⟩∧base≤g∧g<wr.heap.size∧m≤c∧(∀j,j<m * 3→∃k:Nat,k<256∧wr.cell? ⟨g,j,none⟩=some (.int .u8 k))∧∀j,wr.frozen? ⟨g,j,none⟩=false:=by
 obtain ⟨ys,ho,hu⟩:=h
 have ho':=ho
 rcases ho.2 with ⟨_,h0⟩|⟨g,cap,cur,hv,hg0,hh,hc,_⟩
 ·omega
 ·injection hv with hA _ hcc
  subst hA;subst hcc
  refine ⟨g,rfl,hg0,(zg.1 hh).1,hc,fun j hj=>?_,fun j=>World.ownsRow.frozenAt ho' j⟩
  have hlt:j<ys.length:=by rw[ho.1];exact hj
  obtain ⟨k,hk,e⟩:=hu _ (List.getElem_mem hlt)
  refine ⟨k,hk,?_⟩
  rw[World.ownsRow.cellAt ho' j hj,zl hlt,e]
theorem ParOwn.set {wr:World} {base g m c:Nat} (h:ParOwn wr base (some ⟨g,0,none⟩) m c) (j:Nat) {k:Nat} (hk:k<256):ParOwn (wr.setCell ⟨g,j,none⟩ (.int .u8 k)) base (some ⟨g,0,none⟩) m c:=by
 obtain ⟨ys,ho,hu⟩:=h
 refine ⟨_,(World.ownsRow.stored ho j (.int .u8 k)).1,fun u hu'=>?_⟩
 rcases List.mem_or_eq_of_mem_set hu' with e|e
 ·exact hu u e
 ·exact ⟨k,hk,e⟩
theorem ParOwn.setCells {base g m c:Nat}:∀ (vs:List Value) (o:Nat) (wr:World),ParOwn wr base (some ⟨g,0,none⟩) m c→(∀u∈vs,U8 u)→ParOwn (wr.setCells g o vs) base (some ⟨g,0,none⟩) m c
 | [],_,_,h,_=>h
 | v::vs,o,wr,h,hv=>by
  obtain ⟨k,hk,rfl⟩:=hv v List.mem_cons_self
  rw[World.setCells]
  exact ParOwn.setCells vs (o+1) _ (h.set o hk) fun u hu=>hv u (List.mem_cons_of_mem _ hu)
theorem ParOwn.take {wr:World} {base g m c m':Nat} (h:ParOwn wr base (some ⟨g,0,none⟩) m c) (hm:m'≤m):ParOwn wr base (some ⟨g,0,none⟩) m' c:=by
 obtain ⟨ys,ho,hu⟩:=h
 have hl:=ho.1
 refine ⟨ys.take (m' * 3),⟨by rw[List.length_take];omega,?_⟩,fun u hx=>hu u (List.mem_of_mem_take hx)⟩
 rcases ho.2 with ⟨hv,_⟩|⟨g',cap,cur,hv,hg0,hh,h1,h2,h3,h4⟩
 ·cases hv
 ·injection hv with e1 _ e3
  refine .inr ⟨g',cap,cur,by rw[e1,e3],hg0,hh,by omega,h2,h3,?_⟩
  rw[←h4,List.take_take]
  congr 1
  omega
theorem ParOwn.rows {wr:World} {base:Nat} {A:Option Addr} {m c:Nat} (h:ParOwn wr base A m c) (hl:Lim 3 m) {S:Nat→Prop} (hS:∀q,base≤q→¬ S q):∃ps:List PartD,ps.length=m∧Off S wr fun u=>PartsR u A ps:=by
 have each:∀i,∃p:PartD,i<m→∀g,A=some ⟨g,0,none⟩→(p.id<256∧p.type<256∧p.flag<256)∧wr.cell? ⟨g,i * 3,none⟩=some (.int .u8 p.id)∧wr.cell? ⟨g,i * 3+1,none⟩=some (.int .u8 p.type)∧wr.cell? ⟨g,i * 3+2,none⟩=some (.int .u8 p.flag):=fun i=>by
  by_cases hi:i<m
  ·obtain ⟨g,hA,_,_,_,hc,_⟩:=h.at_ (by omega)
   obtain ⟨a,ha,c0⟩:=hc (i * 3) (by omega)
   obtain ⟨b,hb,c1⟩:=hc (i * 3+1) (by omega)
   obtain ⟨d,hd,c2⟩:=hc (i * 3+2) (by omega)
   refine ⟨⟨a,b,d⟩,fun _ g' hg'=>?_⟩
   rw[hA] at hg'
   injection hg' with e
   injection e with e
   subst e
   exact ⟨⟨ha,hb,hd⟩,c0,c1,c2⟩
  ·exact ⟨⟨0,0,0⟩,fun h=>absurd h hi⟩
 obtain ⟨f,hf⟩:=Classical.skolem.1 each
 refine ⟨(List.range m).map f,by simp,fun u hu=>⟨by rw[List.length_map,List.length_range];exact hl,fun hn=>?_⟩⟩
 have hm:0<m:=by
  rcases Nat.eq_zero_or_pos m with e|e
  ·subst e;exact absurd rfl hn
  ·exact e
 obtain ⟨g,hA,hg0,hg1,_,_,_⟩:=h.at_ hm
 refine ⟨g,0,hA,fun i x hx=>?_⟩
 have hi:i<m:=by have:=(List.getElem?_eq_some_iff.1 hx).1;simpa using this
 obtain rfl:x=f i:=by
  rw[List.getElem?_map,List.getElem?_range hi] at hx
  exact (Option.some.inj hx).symm
 obtain ⟨hb,c0,c1,c2⟩:=hf i hi g hA
 refine ⟨_,⟨hb,rfl⟩,fun j v hj=>?_⟩
 have key:∀o,u.cell? ⟨g,o,none⟩=wr.cell? ⟨g,o,none⟩:=fun o=>World.cell?_of_block (w:=wr) (w':=u) (a:=⟨g,o,none⟩) (hu g (hS g hg0) hg1)
 rw[Nat.zero_add,key]
 match j,hj with
 | 0,hj=>obtain rfl:v=_:=(Option.some.inj hj).symm;exact c0
 | 1,hj=>obtain rfl:v=_:=(Option.some.inj hj).symm;exact c1
 | 2,hj=>obtain rfl:v=_:=(Option.some.inj hj).symm;exact c2
structure ChSt (w:World) (p5:Nat) (A:Option Addr) (n c:Nat) (xs:List Value) (wr:World):Prop where
 bel:Below w.heap.size w wr
 res:wr.heap[w.heap.size+1]? = some (.cells #[.slice none 0 0] 24 (0,0))
 hd:wr.heap[p5]? = some (.cells #[.slice A n c] 24 (0,0))
 lt:w.heap.size+1<p5
 lim:Lim 32 n
 own:wr.ownsRow (w.heap.size+2) 65 5 (.slice A n c) n xs
 num:∀i j,i<n→j<4→∃k:Nat,k<256∧xs[i * 5+j]? = some (.int .u8 k)
 prt:∀i,i<n→∃Ap m cp,xs[i * 5+4]? = some (.slice Ap m cp)∧∃ps:List PartD,ps.length=m∧Off (fun q=>q=w.heap.size+1∨(Value.slice A n c).ownBlock=some q) wr fun u=>PartsR u Ap ps
theorem row_at {wr:World} {base E k g n c:Nat} {xs:List Value} (h:wr.ownsRow base E k (.slice (some ⟨g,0,none⟩) n c) n xs) {j:Nat} {v:Value} (hv:xs[j]? = some v):wr.cell? ⟨g,j,none⟩=some v:=by
 have hj:j<n * k:=by rw[←h.1];exact (List.getElem?_eq_some_iff.1 hv).1
 rw[World.ownsRow.cellAt h j hj,hv]
theorem own_some {wr:World} {base E k:Nat} {A:Option Addr} {n c:Nat} {xs:List Value} (h:wr.ownsRow base E k (.slice A n c) n xs) (hn:0<n):∃g,A=some ⟨g,0,none⟩∧base≤g∧g<wr.heap.size∧∃cur,wr.heap[g]? = some (.cells cur E (0,0)):=by
 rcases h.2 with ⟨_,h0⟩|⟨g,cap,cur,hv,hg0,hh,_⟩
 ·omega
 ·injection hv with hA _ _
  exact ⟨g,hA,hg0,(zg.1 hh).1,cur,hh⟩
structure MidC (w:World) (p5:Nat) (g n c:Nat) (xs0:List Value) (wi:World) (idx:Nat) (ch:ChgD) (H:Nat) (Ap:Option Addr) (m cp:Nat) (wr:World):Prop where
 st:ChSt w p5 (some ⟨g,0,none⟩) n c xs0 wi
 bel:Below w.heap.size w wr
 size:wi.heap.size<wr.heap.size
 hi:wi.heap.size<H
 agr:∀q,q≠g→q<wi.heap.size→wr.heap[q]? = wi.heap[q]?
 box:wr.heap[wi.heap.size]? = some (.cells #[.int .u8 ch.kind,.int .u8 ch.node,.int .u8 ch.a,.int .u8 ch.b] 118 (0,0))
 ilt:idx<n
 row:∃xs,wr.ownsRow (w.heap.size+2) 65 5 (.slice (some ⟨g,0,none⟩) n c) n xs∧(∀i j,i<n→j<4→∃k:Nat,k<256∧xs[i * 5+j]? = some (.int .u8 k))∧(∀i,i≠idx→xs[i * 5+4]? = xs0[i * 5+4]?)∧xs[idx * 5+4]? = some (.slice Ap m cp)
 par:ParOwn wr H Ap m cp
 lim:Lim 3 m
section
variable {w:World} {p5 g n c:Nat} {xs0:List Value} {wi:World} {idx:Nat} {ch:ChgD} {H:Nat} {Ap:Option Addr} {m cp:Nat} {wr:World}
theorem ChSt.glt {xs:List Value} (h:ChSt w p5 (some ⟨g,0,none⟩) n c xs wi):w.heap.size+2≤g∧g<wi.heap.size∧g≠p5:=by
 have h1:=World.ownsRow.lt h.own g rfl
 refine ⟨h1.1,h1.2,fun e=>?_⟩
 rcases h.own.2 with ⟨hv,_⟩|⟨g',cap,cur,hv,_,hh,_⟩
 ·cases hv
 ·injection hv with hA _ _
  injection hA with hA
  injection hA with hA
  subst hA
  subst e
  have:=hh.symm.trans h.hd
  injection this with this
  injection this with _ ht _
  exact absurd ht (by decide)
theorem MidC.cells (h:MidC w p5 g n c xs0 wi idx ch H Ap m cp wr):∃k0 k1 k2 k3:Nat,(k0<256∧k1<256∧k2<256∧k3<256)∧(wr.cell? ⟨g,idx * 5,none⟩=some (.int .u8 k0)∧wr.cell? ⟨g,idx * 5+1,none⟩=some (.int .u8 k1)∧wr.cell? ⟨g,idx * 5+2,none⟩=some (.int .u8 k2)∧wr.cell? ⟨g,idx * 5+3,none⟩=some (.int .u8 k3)∧wr.cell? ⟨g,idx * 5+4,none⟩=some (.slice Ap m cp)) ∧
  (wr.cell? ⟨wi.heap.size,0,none⟩=some (.int .u8 ch.kind)∧wr.cell? ⟨wi.heap.size,1,none⟩=some (.int .u8 ch.node)∧wr.cell? ⟨wi.heap.size,2,none⟩=some (.int .u8 ch.a)∧wr.cell? ⟨wi.heap.size,3,none⟩=some (.int .u8 ch.b))∧(∀j,wr.frozen? ⟨g,j,none⟩=false)∧g<wr.heap.size:=by
 obtain ⟨xs,ho,hn,_,hc⟩:=h.row
 obtain ⟨k0,b0,e0⟩:=hn idx 0 h.ilt (by omega)
 obtain ⟨k1,b1,e1⟩:=hn idx 1 h.ilt (by omega)
 obtain ⟨k2,b2,e2⟩:=hn idx 2 h.ilt (by omega)
 obtain ⟨k3,b3,e3⟩:=hn idx 3 h.ilt (by omega)
 refine ⟨k0,k1,k2,k3,⟨b0,b1,b2,b3⟩,⟨row_at ho e0,row_at ho e1,row_at ho e2,row_at ho e3,row_at ho hc⟩,?_,fun j=>World.ownsRow.frozenAt ho j,(World.ownsRow.lt ho g rfl).2⟩
 refine ⟨?_,?_,?_,?_⟩ <;> (rw[cell_of_row _ _ _ _ _ _ h.box];rfl)
theorem MidC.num (h:MidC w p5 g n c xs0 wi idx ch H Ap m cp wr) {j:Nat} (hj:j<4) {k:Nat} (hk:k<256):MidC w p5 g n c xs0 wi idx ch H Ap m cp (wr.setCell ⟨g,idx * 5+j,none⟩ (.int .u8 k)):=by
 have hg:=h.st.glt
 obtain ⟨xs,ho,hn,hx,hc⟩:=h.row
 refine ⟨h.st,h.bel.setCell (p:=⟨g,_,none⟩) (by simp only;omega) _,by simpa using h.size,h.hi,fun q hq hl=>(heap_setCell_other _ _ _ _ (by simpa using hq)).trans (h.agr q hq hl),(heap_setCell_other _ _ _ _ (by simp only;omega)).trans h.box,h.ilt,⟨_,(World.ownsRow.stored ho _ _).1,fun i i' hi hi'=>?_,fun i hi=>?_,?_⟩,h.par.keep fun q hq _=>heap_setCell_other _ _ _ _ (by have:=h.hi;simp only;omega),h.lim⟩
 ·by_cases e:idx * 5+j=i * 5+i'
  ·rw[←e,List.getElem?_set_self (by rw[ho.1];have:=h.ilt;omega)]
   exact ⟨k,hk,rfl⟩
  ·rw[List.getElem?_set_ne e];exact hn i i' hi hi'
 ·rw[List.getElem?_set_ne (by omega)];exact hx i hi
 ·rw[List.getElem?_set_ne (by omega)];exact hc
theorem MidC.part (h:MidC w p5 g n c xs0 wi idx ch H Ap m cp wr) {gp:Nat} (hA:Ap=some ⟨gp,0,none⟩) (hm:0<m) (j:Nat) {k:Nat} (hk:k<256):MidC w p5 g n c xs0 wi idx ch H Ap m cp (wr.setCell ⟨gp,j,none⟩ (.int .u8 k)):=by
 subst hA
 have hg:=h.st.glt
 have hgp:H≤gp∧gp<wr.heap.size:=by
  obtain ⟨g',e,h1,h2,_⟩:=h.par.at_ hm
  injection e with e;injection e with e;subst e;exact ⟨h1,h2⟩
 have hh:=h.hi
 obtain ⟨xs,ho,hn,hx,hc⟩:=h.row
 refine ⟨h.st,h.bel.setCell (p:=⟨gp,_,none⟩) (by have:=h.st.bel.size;simp only;omega) _,by simpa using h.size,h.hi,fun q hq hl=>(heap_setCell_other _ _ _ _ (by simp only;omega)).trans (h.agr q hq hl),(heap_setCell_other _ _ _ _ (by simp only;omega)).trans h.box,h.ilt,⟨xs,?_,hn,hx,hc⟩,h.par.set j hk,h.lim⟩
 refine ⟨ho.1,?_⟩
 rcases ho.2 with h0|⟨g',cap,cur,hv,hg0,hc0,h1⟩
 ·exact .inl h0
 ·refine .inr ⟨g',cap,cur,hv,hg0,?_,h1⟩
  have:g'=g:=by injection hv with hv _ _;injection hv with hv;injection hv with hv;exact hv.symm
  subst this
  rw[heap_setCell_other _ _ _ _ (by simp only;omega)];exact hc0
theorem MidC.slice (h:MidC w p5 g n c xs0 wi idx ch H Ap m cp wr) {w2:World} {H':Nat} (hH:wi.heap.size<H') {B:Option Addr} {m' c':Nat} (hb:Below w.heap.size w w2) (hs:wr.heap.size≤w2.heap.size) (hk:∀q,q<H→q<wr.heap.size→w2.heap[q]? = wr.heap[q]?) (hp:ParOwn w2 H' B m' c') (hl:Lim 3 m'):MidC w p5 g n c xs0 wi idx ch H' B m' c' (w2.setCell ⟨g,idx * 5+4,none⟩ (.slice B m' c')):=by
 have hg:=h.st.glt
 have hh:=h.hi
 have hsz:=h.size
 obtain ⟨xs,ho,hn,hx,hc⟩:=h.row
 have ho2:w2.ownsRow (w.heap.size+2) 65 5 (.slice (some ⟨g,0,none⟩) n c) n xs:=by
  refine ⟨ho.1,?_⟩
  rcases ho.2 with h0|⟨g',cap,cur,hv,hg0,hc0,h1⟩
  ·exact .inl h0
  ·refine .inr ⟨g',cap,cur,hv,hg0,?_,h1⟩
   have:g'=g:=by injection hv with hv _ _;injection hv with hv;injection hv with hv;exact hv.symm
   subst this
   rw[hk _ (by omega) (by omega)];exact hc0
 refine ⟨h.st,hb.setCell (p:=⟨g,_,none⟩) (by simp only;omega) _,by simp;omega,hH,fun q hq hl=>(heap_setCell_other _ _ _ _ (by simpa using hq)).trans ((hk q (by omega) (by omega)).trans (h.agr q hq hl)),(heap_setCell_other _ _ _ _ (by simp only;omega)).trans ((hk _ (by omega) (by omega)).trans h.box),h.ilt,⟨_,(World.ownsRow.stored ho2 _ _).1,fun i i' hi hi'=>?_,fun i hi=>?_,?_⟩,hp.keep fun q hq _=>heap_setCell_other _ _ _ _ (by simp only;omega),hl⟩
 ·rw[List.getElem?_set_ne (by omega)];exact hn i i' hi hi'
 ·rw[List.getElem?_set_ne (by omega)];exact hx i hi
 ·rw[List.getElem?_set_self (by rw[ho.1];have:=h.ilt;omega)]
theorem MidC.below (h:MidC w p5 g n c xs0 wi idx ch H Ap m cp wr) {w':World} (hb:Below wr.heap.size wr w'):MidC w p5 g n c xs0 wi idx ch H Ap m cp w':=by
 have hs:=hb.size
 have hz:=h.size
 obtain ⟨xs,ho,hn,hx,hc⟩:=h.row
 refine ⟨h.st,zA h.bel hb,by omega,h.hi,fun q hq hl=>(hb.block q (by omega)).trans (h.agr q hq hl),(hb.block _ (by omega)).trans h.box,h.ilt,⟨xs,⟨ho.1,?_⟩,hn,hx,hc⟩,h.par.keep fun q _ hq=>hb.block q hq,h.lim⟩
 rcases ho.2 with h0|⟨g',cap,cur,hv,hg0,hc0,h1⟩
 ·exact .inl h0
 ·exact .inr ⟨g',cap,cur,hv,hg0,(hb.block _ (zg.1 hc0).1).trans hc0,h1⟩
theorem MidC.drew (h:MidC w p5 g n c xs0 wi idx ch H Ap m cp wr) (q:Nat):MidC w p5 g n c xs0 wi idx ch H Ap m cp (wr.drewN q) :=
 ⟨h.st,zE h.bel q,h.size,h.hi,h.agr,h.box,h.ilt,h.row,h.par,h.lim⟩
theorem MidC.start {xs:List Value} (st:ChSt w p5 (some ⟨g,0,none⟩) n c xs wi) {W5 w8:World} (hb5:Below wi.heap.size wi W5) (hz5:W5.heap.size=wi.heap.size+1) (hx5:W5.heap[wi.heap.size]? = some (.cells #[.int .u8 ch.kind,.int .u8 ch.node,.int .u8 ch.a,.int .u8 ch.b] 118 (0,0))) (hb8:Below W5.heap.size W5 w8) (hi:idx<n)
  {v:Value} {ps:List PartD} {pcss:List (List Value)} (h1:pcss.length=ps.length) (h2:∀ (i:Nat) x cs,ps[i]? = some x→pcss[i]? = some cs→PartD.At x cs) (hl:Lim 3 ps.length) (ho:w8.ownsRow (wi.heap.size+1) 121 3 v pcss.length pcss.flatten) :
  ∃B e,v = .slice B ps.length e∧MidC w p5 g n c xs wi idx ch (wi.heap.size+1) B ps.length e (w8.setCell ⟨g,idx * 5+4,none⟩ (.slice B ps.length e)):=by
 have hg:=st.glt
 have s8:=hb8.size
 have sw:=st.bel.size
 obtain ⟨B,e,rfl⟩:∃B e,v = .slice B ps.length e:=by
  rcases ho.2 with ⟨rfl,h0⟩|⟨g,cap,cur,rfl,_⟩
  ·exact ⟨none,0,by rw[←h1,h0]⟩
  ·exact ⟨_,_,by rw[h1]⟩
 rw[h1] at ho
 have hbb:∀q,q<wi.heap.size→w8.heap[q]? = wi.heap[q]? := fun q hq=>(hb8.block q (by omega)).trans (hb5.block q hq)
 have ho2:w8.ownsRow (w.heap.size+2) 65 5 (.slice (some ⟨g,0,none⟩) n c) n xs:=by
  refine ⟨st.own.1,?_⟩
  rcases st.own.2 with h0|⟨g',cap,cur,hv,hg0,hc0,h1⟩
  ·exact .inl h0
  ·exact .inr ⟨g',cap,cur,hv,hg0,(hbb _ (zg.1 hc0).1).trans hc0,h1⟩
 have hpo:ParOwn w8 (wi.heap.size+1) B ps.length e:=⟨_,ho,fun u hu=>by
  obtain ⟨cs,hc,hu⟩:=List.mem_flatten.1 hu
  obtain ⟨j,hj,rfl⟩:=List.getElem_of_mem hc
  obtain ⟨hb,e⟩:=h2 j (ps[j]'(by omega)) _ (zl _) (zl hj)
  rw[e] at hu
  simp only[List.mem_cons,List.mem_nil_iff,or_false] at hu
  rcases hu with rfl|rfl|rfl
  ·exact ⟨_,hb.1,rfl⟩
  ·exact ⟨_,hb.2.1,rfl⟩
  ·exact ⟨_,hb.2.2,rfl⟩⟩
 refine ⟨B,e,rfl,st,?_,by simp;omega,by omega,fun q hq hl=>(heap_setCell_other _ _ _ _ (by simpa using hq)).trans (hbb q hl),(heap_setCell_other _ _ _ _ (by simp only;omega)).trans ((hb8.block _ (by omega)).trans hx5),hi,⟨_,(World.ownsRow.stored ho2 _ _).1,fun i i' hi hi'=>?_,fun i hi=>?_,?_⟩,hpo.keep fun q hq _=>heap_setCell_other _ _ _ _ (by simp only;omega),hl⟩
 ·exact (zA st.bel (zA hb5 hb8)).setCell (p:=⟨g,_,none⟩) (by simp only;omega) _
 ·rw[List.getElem?_set_ne (by omega)];exact st.num i i' hi hi'
 ·rw[List.getElem?_set_ne (by omega)]
 ·rw[List.getElem?_set_self (by rw[st.own.1];omega)]
theorem MidC.done (h:MidC w p5 g n c xs0 wi idx ch H Ap m cp wr):∃xs,ChSt w p5 (some ⟨g,0,none⟩) n c xs wr:=by
 have hg:=h.st.glt
 have hh:=h.hi
 have hsz:=h.size
 have hp5:=(zg.1 h.st.hd).1
 obtain ⟨xs,ho,hn,hx,hc⟩:=h.row
 refine ⟨xs,h.bel,(h.agr _ (by omega) (by have:=h.st.lt;omega)).trans h.st.res,(h.agr _ (by omega) hp5).trans h.st.hd,h.st.lt,h.st.lim,ho,hn,fun i hi=>?_⟩
 ·by_cases e:i=idx
  ·subst e
   obtain ⟨ps,e1,e2⟩:=h.par.rows h.lim (S:=fun q=>q=w.heap.size+1∨(Value.slice (some ⟨g,0,none⟩) n c).ownBlock=some q) (fun q hq e=>e.elim (fun e=>by have:=h.st.lt;omega) fun e=>by have:g=q:=Option.some.inj e;omega)
   exact ⟨_,_,_,hc,ps,e1,e2⟩
  ·obtain ⟨Aq,mq,cq,e1,ps,e2,e3⟩:=h.st.prt i hi
   exact ⟨Aq,mq,cq,(hx i e).trans e1,ps,e2,e3.step (by omega) fun q hq hl=>h.agr q (fun e=>hq (.inr (by rw[e];rfl))) hl⟩
theorem part_u8 {ch:ChgD} (h:ch.kind<256∧ch.node<256∧ch.a<256∧ch.b<256) {z:Int} {u:Value} (hu:u∈[Value.int .u8 ch.a,.int .u8 ch.b,.int .u8 (IntKind.u8.wrap z)]):U8 u:=by
 simp only[List.mem_cons,List.mem_nil_iff,or_false] at hu
 rcases hu with rfl|rfl|rfl
 ·exact ⟨_,h.2.2.1,rfl⟩
 ·exact ⟨_,h.2.2.2,rfl⟩
 ·exact u8_wrap z
theorem MidC.appended (h:MidC w p5 g n c xs0 wi idx ch H Ap m cp wr) (hm:m<8) {w':World} (hg:wr.grownBy w' (Value.slice Ap m cp).ownBlock) {v:Value} {zs:List Value} (ho:w'.ownsRow H 121 3 v (m+1) zs) (hz:∀u∈zs,U8 u) :
  ∃B e,v = .slice B (m+1) e∧w'.cell? ⟨g,idx * 5+4,none⟩=some (.slice Ap m cp)∧w'.frozen? ⟨g,idx * 5+4,none⟩=false∧(w'.cell? ⟨wi.heap.size,2,none⟩=some (.int .u8 ch.a)∧w'.cell? ⟨wi.heap.size,3,none⟩=some (.int .u8 ch.b))∧∃xs,ChSt w p5 (some ⟨g,0,none⟩) n c xs (w'.setCell ⟨g,idx * 5+4,none⟩ (.slice B (m+1) e)):=by
 have hgl:=h.st.glt
 have hh:=h.hi
 have hsz:=h.size
 have hk:∀q,q<H→q<wr.heap.size→w'.heap[q]? = wr.heap[q]? := fun q hq hl=>zN hg hl fun k hk e=>by
  obtain ⟨ys,hy,_⟩:=h.par
  have:=(World.ownsRow.lt hy k hk).1
  omega
 obtain ⟨_,_,_,_,_,⟨_,_,_,_,c4⟩,_,hf,hgw⟩:=h.cells
 have hgg:=hk g (by omega) hgw
 have hbx:=(hk wi.heap.size (by omega) (by omega)).trans h.box
 obtain ⟨B,e,rfl⟩:∃B e,v = .slice B (m+1) e:=by
  rcases ho.2 with ⟨_,h0⟩|⟨g,cap,cur,rfl,_⟩
  ·omega
  ·exact ⟨_,_,rfl⟩
 refine ⟨B,e,rfl,by rw[World.cell?_of_block (w:=wr) (a:=⟨g,_,none⟩) hgg];exact c4,by rw[World.frozen?_of_block (w:=wr) (a:=⟨g,_,none⟩) hgg];exact hf _,⟨by rw[cell_of_row _ _ _ _ _ _ hbx];rfl,by rw[cell_of_row _ _ _ _ _ _ hbx];rfl⟩,?_⟩
 have hbw:Below w.heap.size w w':=h.bel.grown hg (by have:=h.bel.size;exact this) (fun q hq=>by
  obtain ⟨ys,hy,_⟩:=h.par
  have h1:=(World.ownsRow.lt hy q hq).1
  have h2:=h.st.bel.size
  omega)
 exact (h.slice (H':=H) hh hbw hg.size hk ⟨zs,ho,hz⟩ (by unfold Lim;omega)).done
theorem part_info:∃i,Tryz.prog.info? 121=some i∧i.size=3:=by
 obtain ⟨z,hinf,_⟩:=elem_part.info
 obtain ⟨i0,hi,_,hz1,_⟩:=info_parts hinf
 exact ⟨i0,hi,hz1⟩
theorem MidC.news (h:MidC w p5 g n c xs0 wi idx ch H Ap m cp wr) {gp:Nat} (hA:Ap=some ⟨gp,0,none⟩) {k k1:Nat} (hk:k1=k+1) (hkm:k<m) (hcp:m≤cp) {ad:Addr} (had:(cp=k1→ad=⟨gp,0,none⟩)∧(cp≠k1→ad=⟨gp,k1 * 3,none⟩)):∃news:List Value,news.length=(m - k1) * 3∧(∀u∈news,U8 u)∧(∀j u,news[j]? = some u→wr.cell? (ad.add j)=some u) ∧
  ∀j,j<news.length→(wr.cell? ⟨gp,0+k * 3+j,none⟩).isSome=true∧wr.frozen? ⟨gp,0+k * 3+j,none⟩=false:=by
 subst hA
 have hat:=h.par.at_ (by omega)
 obtain ⟨g',e,_,_,_,hc,hf⟩:=hat
 injection e with e;injection e with e;subst e
 obtain ⟨ys,ho,hu⟩:=h.par
 have hyl:=ho.1
 refine ⟨ys.drop (k1 * 3),by rw[List.length_drop];omega,fun u hx=>hu u (List.mem_of_mem_drop hx),fun j u hj=>?_,fun j hj=>?_⟩
 ·rw[List.getElem?_drop] at hj
  have hjl:=(List.getElem?_eq_some_iff.1 hj).1
  rw[had.2 (by omega),Addr.add_mid]
  exact row_at ho hj
 ·rw[List.length_drop] at hj
  obtain ⟨kv,_,e2⟩:=hc (0+k * 3+j) (by omega)
  exact ⟨by rw[e2];rfl,hf _⟩
theorem MidC.deleted (h:MidC w p5 g n c xs0 wi idx ch H Ap m cp wr) {gp:Nat} (hA:Ap=some ⟨gp,0,none⟩) (hm:0<m) (o:Nat) {vs:List Value} (hv:∀u∈vs,U8 u) {m':Nat} (hm':m'≤m) :
  (wr.setCells gp o vs).cell? ⟨g,idx * 5+4,none⟩=some (.slice Ap m cp)∧(wr.setCells gp o vs).frozen? ⟨g,idx * 5+4,none⟩=false∧∃xs,ChSt w p5 (some ⟨g,0,none⟩) n c xs ((wr.setCells gp o vs).setCell ⟨g,idx * 5+4,none⟩ (.slice (some ⟨gp,0,none⟩) m' cp)):=by
 subst hA
 have hgl:=h.st.glt
 have hh:=h.hi
 have hsz:=h.size
 obtain ⟨g',e,h1,h2,_⟩:=h.par.at_ hm
 injection e with e;injection e with e;subst e
 obtain ⟨_,_,_,_,_,⟨_,_,_,_,c4⟩,_,hf,hgw⟩:=h.cells
 have hgg:(wr.setCells gp o vs).heap[g]? = wr.heap[g]? := zI (by omega) vs o wr
 refine ⟨by rw[World.cell?_of_block (w:=wr) (a:=⟨g,_,none⟩) hgg];exact c4,by rw[World.frozen?_of_block (w:=wr) (a:=⟨g,_,none⟩) hgg];exact hf _,?_⟩
 have hl:=h.lim
 exact (h.slice (H':=H) hh (zV _ (by have:=h.st.bel.size;omega) _ _ _ h.bel) (by rw[size_setCells];exact Nat.le_refl _) (fun q hq _=>zI (by omega) vs o wr) ((h.par.setCells vs o wr hv).take hm') (by unfold Lim at hl ⊢;omega)).done
theorem u8_mod (z:Int):∃k:Nat,k<256∧(Value.int .u8 (z % 256)) = .int .u8 k:=⟨(z % 256).toNat,by omega,by rw[show (((z % 256).toNat:Nat):Int)=z % 256 by omega]⟩
theorem MidC.end1 (h:MidC w p5 g n c xs0 wi idx ch H Ap m cp wr) {j:Nat} (hj:j<4) (z:Int):∃xs,ChSt w p5 (some ⟨g,0,none⟩) n c xs ((wr.setCell ⟨g,idx * 5+j,none⟩ (.int .u8 (z % 256))).drew):=by
 obtain ⟨k,hk,e⟩:=u8_mod z
 rw[e]
 exact ((h.num hj hk).drew 1).done
theorem MidC.endx (h:MidC w p5 g n c xs0 wi idx ch H Ap m cp wr) {j:Nat} (hj:j<4) (x y:Int):∃xs,ChSt w p5 (some ⟨g,0,none⟩) n c xs ((wr.setCell ⟨g,idx * 5+j,none⟩ (.int .u8 (bits .xor .u8 x y))).drew):=by
 have:∃k:Nat,k<256∧Value.int .u8 (bits .xor .u8 x y) = .int .u8 k:=by
  unfold bits
  first|exact u8_wrap _|(simp only[];exact u8_wrap _)
 obtain ⟨k,hk,e⟩:=this
 rw[e]
 exact ((h.num hj hk).drew 1).done
theorem MidC.endp (h:MidC w p5 g n c xs0 wi idx ch H Ap m cp wr) {gp:Nat} (hA:Ap=some ⟨gp,0,none⟩) (hm:0<m) (j:Nat) {v:Value} (hv:U8 v):∃xs,ChSt w p5 (some ⟨g,0,none⟩) n c xs ((wr.setCell ⟨gp,j,none⟩ v).drew):=by
 obtain ⟨k,hk,rfl⟩:=hv
 exact ((h.part hA hm j hk).drew 1).done
end
theorem ChSt.out {w:World} {p5:Nat} {A:Option Addr} {n c:Nat} {xs:List Value} {wr:World} (h:ChSt w p5 A n c xs wr) (v:Value):∃d':List NodeD,d'.length=n∧NodesR (wr.setCell ⟨w.heap.size+1,0,none⟩ v) A d'∧Below w.heap.size w (wr.setCell ⟨w.heap.size+1,0,none⟩ v):=by
 have each:∀i,∃x:NodeD,i<n→∃g Ap cp,A=some ⟨g,0,none⟩∧NodeR (wr.setCell ⟨w.heap.size+1,0,none⟩ v) x Ap∧(wr.setCell ⟨w.heap.size+1,0,none⟩ v).rangeAt g (i * 5) (x.cs Ap cp):=fun i=>by
  by_cases hi:i<n
  ·obtain ⟨g,rfl,hg0,hg1,_⟩:=own_some h.own (by omega)
   obtain ⟨k0,b0,e0⟩:=h.num i 0 hi (by omega)
   obtain ⟨k1,b1,e1⟩:=h.num i 1 hi (by omega)
   obtain ⟨k2,b2,e2⟩:=h.num i 2 hi (by omega)
   obtain ⟨k3,b3,e3⟩:=h.num i 3 hi (by omega)
   obtain ⟨Ap,m,cp,e4,ps,rfl,hp⟩:=h.prt i hi
   refine ⟨⟨k0,k1,k2,k3,ps⟩,fun _=>⟨g,Ap,cp,rfl,⟨b0,b1,b2,b3,hp _ fun q hq _=>heap_setCell_other _ _ _ _ (fun e=>hq (.inl e))⟩,fun j u hj=>?_⟩⟩
   have key:∀o,(wr.setCell ⟨w.heap.size+1,0,none⟩ v).cell? ⟨g,o,none⟩=wr.cell? ⟨g,o,none⟩:=fun o=>World.cell?_of_block (w:=wr) (a:=⟨g,o,none⟩) (heap_setCell_other _ _ _ _ (by simp only;omega))
   rw[key]
   match j,hj with
   | 0,hj=>obtain rfl:u=_:=(Option.some.inj hj).symm;exact row_at h.own e0
   | 1,hj=>obtain rfl:u=_:=(Option.some.inj hj).symm;exact row_at h.own e1
   | 2,hj=>obtain rfl:u=_:=(Option.some.inj hj).symm;exact row_at h.own e2
   | 3,hj=>obtain rfl:u=_:=(Option.some.inj hj).symm;exact row_at h.own e3
   | 4,hj=>obtain rfl:u=_:=(Option.some.inj hj).symm;exact row_at h.own e4
  ·exact ⟨node0,fun h=>absurd h hi⟩
 obtain ⟨f,hf⟩:=Classical.skolem.1 each
 refine ⟨(List.range n).map f,by simp,⟨by rw[List.length_map,List.length_range];exact h.lim,fun hn=>?_⟩,h.bel.setCell (p:=⟨w.heap.size+1,0,none⟩) (by simp only;omega) v⟩
 have hm:0<n:=by
  rcases Nat.eq_zero_or_pos n with e|e
  ·subst e;exact absurd rfl hn
  ·exact e
 obtain ⟨g,hA,_⟩:=own_some h.own hm
 refine ⟨g,0,hA,fun i x hx=>?_⟩
 have hi:i<n:=by have:=(List.getElem?_eq_some_iff.1 hx).1;simpa using this
 obtain rfl:x=f i:=by
  rw[List.getElem?_map,List.getElem?_range hi] at hx
  exact (Option.some.inj hx).symm
 obtain ⟨g',Ap,cp,hA',hr,hc⟩:=hf i hi
 obtain rfl:g=g':=by rw[hA] at hA';injection hA' with e;injection e
 rw[Nat.zero_add]
 exact ⟨_,⟨Ap,cp,rfl,hr⟩,hc⟩
end Go.Proofs.YtkhpajneinmmiaaGreatDoor


