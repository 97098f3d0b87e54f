/-
  Walks: cmp.Compare, cmp.Or, Zigzag.
-/
import Derived.Test.YthkkllmmbefedaaGreatDoorQGA7
import Derived.Test.YthkkllmmbefedaaGreatDoorQGA5
import Derived.Test.YthkkllmmbefedaaGreatDoorQGA3
import Derived.Test.YthkkllmmbefedaaGreatDoorQGA6
import Derived.Test.YthkkllmmbefedaaGreatDoorQGA2
import Derived.BigQuiet
import Derived.Deep.DeepCutAuto
import Derived.Deep.CutBlock
import Derived.Deep.LoopGhost
import Derived.Deep.MidRow
import Derived.Lib.Join
import Derived.Lib.Zigzag
namespace Go.Proofs.YthkkllmmbefedaaGreatDoor
open Go.RowKit
set_option maxHeartbeats 16000000
set_option maxRecDepth 100000
structure Bsd (b:Nat) (w w':World):Prop where
 bel:Below b w w'
 oth:∀q,q≠b→q<w.heap.size→w'.heap[q]? = w.heap[q]?
section
variable {b:Nat} {w w1 w':World}
theorem Bsd.of (hb:Below w.heap.size w w') (h:b≤w.heap.size):Bsd b w w':=⟨hb.mono h,fun q _ hq=>hb.block q hq⟩
theorem Bsd.refl (b:Nat) (w:World):Bsd b w w:=⟨Below.refl _ _,fun _ _ _=>rfl⟩
theorem Bsd.trans (h:Bsd b w w1) (h':Bsd b w1 w'):Bsd b w w' :=
 ⟨h.bel.trans h'.bel,fun q hq hl=>(h'.oth q hq (Nat.lt_of_lt_of_le hl h.bel.size)).trans (h.oth q hq hl)⟩
theorem Bsd.set (h:Bsd b w w') (j:Nat) (u:Value):Bsd b w (w'.setCell ⟨b,j,none⟩ u) :=
 ⟨h.bel.setCell (p:=⟨b,j,none⟩) (Nat.le_refl _) u,fun q hq hl=>(heap_setCell_other _ _ _ _ (by simpa using hq)).trans (h.oth q hq hl)⟩
theorem Bsd.below (h:Bsd b w w1) (hb:Below w1.heap.size w1 w') (hl:b<w.heap.size):Bsd b w w':=h.trans (Bsd.of hb (by have:=h.bel.size;omega))
theorem Bsd.up {p:Nat} (h:Bsd b w w1) (hb:Below p w1 w') (hp:w.heap.size≤p) (hl:b≤p):Bsd b w w' :=
 ⟨h.bel.trans (hb.mono hl),fun q hq hl=>(hb.block q (Nat.lt_of_lt_of_le hl hp)).trans (h.oth q hq hl)⟩
theorem Bsd.size (h:Bsd b w w'):w.heap.size≤w'.heap.size:=h.bel.size
theorem Bsd.off {S:Nat→Prop} {P:World→Prop} (h:Bsd b w w') (hS:S b) (hp:Off S w P):Off S w' P:=hp.step h.size fun q hq hl=>h.oth q (fun e=>hq (e▸hS)) hl
end
structure RCx where
 w0:World
 s:List TyD
 A:zo
 c:Nat
 l:List TokD
 AL:zo
 cL:Nat
 b:Nat
structure RCx.Ok (C:RCx):Prop where
 ty:TysR C.w0 C.A C.s
 tk:ToksR C.w0 C.AL C.l
 ge:C.w0.heap.size≤C.b
 len:C.l.length≤1000000
def RCx.o (C:RCx) (i:Nat) (k:Bool) (e:Int):Obj := .cells #[.slice C.A C.s.length C.c,.slice C.AL C.l.length C.cL,.int .i64 i,.bool k,.int .i64 e] 107
structure RdS (C:RCx) (w:World) (r:List TokD) (k:Bool) (e:Int):Prop where
 ok:C.Ok
 blk:w.heap[C.b]? = some (C.o (C.l.length - r.length) k e)
 sfx:r <:+ C.l
 up:Below C.w0.heap.size C.w0 w
section
variable {C:RCx} {w w':World} {r r':List TokD} {k k':Bool} {e e':Int}
theorem RdS.lt (h:RdS C w r k e):C.b<w.heap.size:=(zg.1 h.blk).1
theorem RdS.below (h:RdS C w r k e) (hb:Below w.heap.size w w'):RdS C w' r k e:=⟨h.ok,nblk h.blk hb,h.sfx,h.up.trans (hb.mono h.up.size)⟩
theorem RdS.bsd (h:RdS C w r k e) (hb:Below w.heap.size w w'):Bsd C.b w w':=Bsd.of hb (Nat.le_of_lt h.lt)
theorem RdS.cells (h:RdS C w r k e):(w.cell? ⟨C.b,0,none⟩=some (.slice C.A C.s.length C.c)∧w.cell? ⟨C.b,1,none⟩=some (.slice C.AL C.l.length C.cL)∧w.cell? ⟨C.b,2,none⟩=some (.int .i64 ((C.l.length - r.length:Nat):Int))∧w.cell? ⟨C.b,3,none⟩=some (.bool k)∧w.cell? ⟨C.b,4,none⟩=some (.int .i64 e))∧(∀j,w.frozen? ⟨C.b,j,none⟩=false):=by
 have hb:=h.blk;unfold RCx.o at hb;refine ⟨⟨?_,?_,?_,?_,?_⟩,fun j=>frozen_of_row _ _ _ _ _ hb⟩ <;> (rw[cell_of_row _ _ _ _ _ _ hb];rfl)
theorem RdS.setAt (h:RdS C w r k e) (hs:r' <:+ C.l) {i:Int} (hi:i=((C.l.length - r'.length:Nat):Int)):RdS C (w.setCell ⟨C.b,2,none⟩ (.int .i64 i)) r' k e:=by
 subst hi;refine ⟨h.ok,?_,hs,h.up.setCell (p:=⟨C.b,2,none⟩) h.ok.ge _⟩;have hb:=h.blk;unfold RCx.o at hb;rw[heap_setCell_same _ _ 2 _ _ _ hb]
 rfl
theorem RdS.setK (h:RdS C w r k e) (k':Bool):RdS C (w.setCell ⟨C.b,3,none⟩ (.bool k')) r k' e:=by
 refine ⟨h.ok,?_,h.sfx,h.up.setCell (p:=⟨C.b,3,none⟩) h.ok.ge _⟩;have hb:=h.blk;unfold RCx.o at hb;rw[heap_setCell_same _ _ 3 _ _ _ hb]
 rfl
theorem RdS.setE (h:RdS C w r k e) (e':Int):RdS C (w.setCell ⟨C.b,4,none⟩ (.int .i64 e')) r k e':=by
 refine ⟨h.ok,?_,h.sfx,h.up.setCell (p:=⟨C.b,4,none⟩) h.ok.ge _⟩;have hb:=h.blk;unfold RCx.o at hb;rw[heap_setCell_same _ _ 4 _ _ _ hb]
 rfl
theorem RdS.tokI (h:RdS C w r k e) {i:Nat} {t:TokD} (hi:C.l[i]? = some t):∃bb o,C.AL=some ⟨bb,o,none⟩∧(SOk t.text∧SOk t.str) ∧
  w.cell? ⟨bb,o+i * 5,none⟩=some (.int .i64 t.kind)∧w.cell? ⟨bb,o+i * 5+1,none⟩=some (.string t.text)∧w.cell? ⟨bb,o+i * 5+2,none⟩=some (.int .i64 t.int)∧w.cell? ⟨bb,o+i * 5+3,none⟩=some (.string t.str)∧w.cell? ⟨bb,o+i * 5+4,none⟩=some (.int .i64 t.line):=by
 obtain ⟨hi2,rfl⟩:=List.getElem?_eq_some_iff.1 hi;obtain ⟨bb,o,hA,h0,h1,h2,h3,h4,h5⟩:=h.ok.tk.cells hi2;exact ⟨bb,o,hA,h0,zA h.up h1,zA h.up h2,zA h.up h3,zA h.up h4,zA h.up h5⟩
theorem RdS.getI {t:TokD} {q:List TokD} (h:RdS C w (t::q) k e):C.l[C.l.length - (t::q).length]? = some t:=by
 obtain ⟨p,hp⟩:=h.sfx;have hl:C.l.length - (t::q).length=p.length:=by rw[←hp];simp
 rw[hl,←hp,List.getElem?_append_right (Nat.le_refl _),Nat.sub_self]
 rfl
theorem RdS.tail {t:TokD} {q:List TokD} (h:RdS C w (t::q) k e):q <:+ C.l∧(((C.l.length - (t::q).length:Nat):Int)+1=((C.l.length - q.length:Nat):Int)):=by
 have h1:=h.sfx;have h2:=h1.length_le;rw[List.length_cons] at h2 ⊢;exact ⟨(List.suffix_cons t q).trans h1,by omega⟩
end
structure VaA where
 v:Val
 A1:zo
 c1:Nat
 A2:zo
 c2:Nat
 A3:zo
 c3:Nat
def VaA.cells (x:VaA):List Value:=x.v.cs x.A1 x.c1 x.A2 x.c2 x.A3 x.c3
theorem vaA_one (x:VaA):∀u∈x.cells,u.oneCell'=true:=fun u hu=>by
 unfold VaA.cells at hu;simp only[List.mem_cons,List.mem_nil_iff,or_false] at hu
 rcases hu with rfl|rfl|rfl|rfl|rfl|rfl|rfl|rfl <;> rfl
def encR (r:RawD):List Value:=[.int .i64 r.id,.string r.data]
theorem encR_one (x:RawD):∀u∈encR x,u.oneCell'=true:=fun u hu=>by
 unfold encR at hu;simp only[List.mem_cons,List.mem_nil_iff,or_false] at hu
 rcases hu with rfl|rfl <;> rfl
abbrev OwnV:=OwnL 28 8 VaA.cells
abbrev OwnR:=OwnL 97 2 encR
def bxV (kd:Int) (bo:Bool) (it:Int) (st:ByteArray) (di:Int) (vk vi vr:Value):Obj := .cells #[.int .i64 kd,.bool bo,.int .i64 it,.string st,.int .i64 di,vk,vi,vr] 28
def Hot (p:Nat) (vk vi vr:Value) (q:Nat):Prop:=q≤p∨vk.ownBlock=some q∨vi.ownBlock=some q∨vr.ownBlock=some q
structure VbS (p:Nat) (w:World) (kd:Int) (bo:Bool) (it:Int) (st:ByteArray) (di:Int) (vk vi vr:Value) (K I:List VaA) (R:List RawD):Prop where
 blk:w.heap[p]? = some (bxV kd bo it st di vk vi vr)
 ok:OwnV w (p+1) vk K
 oi:OwnV w (p+1) vi I
 or_:OwnR w (p+1) vr R
 ne:∀q,vk.ownBlock=some q→vi.ownBlock≠some q
 off:∀y∈K++I,Off (Hot p vk vi vr) w fun u=>ValR u y.v y.A1 y.A2 y.A3
 str:SOk st
 raw:∀y∈R,SOk y.data
section
variable {p:Nat} {w w':World} {kd:Int} {bo:Bool} {it:Int} {st:ByteArray} {di:Int} {vk vi vr:Value} {K I:List VaA} {R:List RawD}
theorem VbS.lt (h:VbS p w kd bo it st di vk vi vr K I R):p<w.heap.size:=(zg.1 h.blk).1
theorem VbS.keep (h : VbS p w kd bo it st di vk vi vr K I R) (hz : w.heap.size ≤ w'.heap.size) (hk : ∀ q, p ≤ q → q < w.heap.size → w'.heap[q]? = w.heap[q]?) : VbS p w' kd bo it st di vk vi vr K I R :=
  ⟨(hk p (Nat.le_refl _) h.lt).trans h.blk, h.ok.keep fun g hg hl _ => hk g (by omega) hl, h.oi.keep fun g hg hl _ => hk g (by omega) hl, h.or_.keep fun g hg hl _ => hk g (by omega) hl, h.ne,
    fun y hy => (h.off y hy).step hz fun q hq hl => hk q (Nat.le_of_lt (Nat.lt_of_not_le fun e => hq (.inl e))) hl, h.str, h.raw⟩
theorem VbS.below (h:VbS p w kd bo it st di vk vi vr K I R) (hb:Below w.heap.size w w'):VbS p w' kd bo it st di vk vi vr K I R:=h.keep hb.size fun q _ hq=>hb.block q hq
theorem VbS.bsd {b:Nat} (h:VbS p w kd bo it st di vk vi vr K I R) (hb:Bsd b w w') (hl:b<p):VbS p w' kd bo it st di vk vi vr K I R:=h.keep hb.size fun q hp hq=>hb.oth q (by omega) hq
theorem VbS.cells (h:VbS p w kd bo it st di vk vi vr K I R):(w.cell? ⟨p,0,none⟩=some (.int .i64 kd)∧w.cell? ⟨p,1,none⟩=some (.bool bo)∧w.cell? ⟨p,2,none⟩=some (.int .i64 it)∧w.cell? ⟨p,3,none⟩=some (.string st)∧w.cell? ⟨p,4,none⟩=some (.int .i64 di)∧w.cell? ⟨p,5,none⟩=some vk∧w.cell? ⟨p,6,none⟩=some vi∧w.cell? ⟨p,7,none⟩=some vr)∧(∀j,w.frozen? ⟨p,j,none⟩=false):=by
 have hb:=h.blk;unfold bxV at hb;refine ⟨⟨?_,?_,?_,?_,?_,?_,?_,?_⟩,fun j=>frozen_of_row _ _ _ _ _ hb⟩ <;> (rw[cell_of_row _ _ _ _ _ _ hb];rfl)
theorem VbS.new (w:World) (kd:Int):VbS w.heap.size (w.alloc (bxV kd false 0 ⟨#[]⟩ 0 (.slice none 0 0) (.slice none 0 0) (.slice none 0 0))) kd false 0 ⟨#[]⟩ 0 (.slice none 0 0) (.slice none 0 0) (.slice none 0 0) [] [] [] :=
 ⟨heap_alloc_new w _,OwnL.nil _ _,OwnL.nil _ _,OwnL.nil _ _,(fun _ h=>by cases h),(fun _ h=>by cases h),by unfold SOk;decide,(fun _ h=>by cases h)⟩
theorem VbS.setX (h:VbS p w kd bo it st di vk vi vr K I R) {j:Nat} {u:Value} {bo':Bool} {it':Int} {st':ByteArray} {di':Int} (hu:(#[Value.int .i64 kd,.bool bo,.int .i64 it,.string st,.int .i64 di,vk,vi,vr]:Array Value).setIfInBounds j u = #[.int .i64 kd,.bool bo',.int .i64 it',.string st',.int .i64 di',vk,vi,vr]) (hs:SOk st') :
  VbS p (w.setCell ⟨p,j,none⟩ u) kd bo' it' st' di' vk vi vr K I R:=by
 have hb:=h.blk;unfold bxV at hb;refine ⟨?_,h.ok.keep fun g hg _ _=>heap_setCell_other _ _ _ _ (by simp only;omega),h.oi.keep fun g hg _ _=>heap_setCell_other _ _ _ _ (by simp only;omega),h.or_.keep fun g hg _ _=>heap_setCell_other _ _ _ _ (by simp only;omega),h.ne,
  fun y hy=>(h.off y hy).set u (.inl (Nat.le_refl _)),hs,h.raw⟩
 rw[heap_setCell_same _ _ j _ _ u hb,hu];rfl
theorem hot_lt (h:VbS p w kd bo it st di vk vi vr K I R):(∀q,vk.ownBlock=some q→p<q∧q<w.heap.size)∧(∀q,vi.ownBlock=some q→p<q∧q<w.heap.size)∧(∀q,vr.ownBlock=some q→p<q∧q<w.heap.size) :=
 ⟨fun q hq=>World.ownsRow.lt h.ok q hq,fun q hq=>World.ownsRow.lt h.oi q hq,fun q hq=>World.ownsRow.lt h.or_ q hq⟩
theorem own_ne {w:World} {base base2:Nat} {v v2:Value} {l:List VaA} {l2:List RawD} (h:OwnV w base v l) (h2:OwnR w base2 v2 l2) (q:Nat) (hq:v.ownBlock=some q):v2.ownBlock≠some q:=fun e=>by
 obtain ⟨c1,f1,e1⟩:=h.block hq;obtain ⟨c2,f2,e2⟩:=h2.block e;rw[e1] at e2
 injection e2 with e2
 injection e2 with _ e3
 exact absurd e3 (by decide)
theorem VbS.item (h:VbS p w kd bo it st di vk vi vr K I R) {x:VaA} (hx:Off (Hot p vk vi vr) w fun u=>ValR u x.v x.A1 x.A2 x.A3) {w4:World} (hb4:Below w.heap.size w w4) {v8:Value} {w8:World}
  (ho:w8.ownsRow (p+1) 28 8 v8 (I.length+1) (I.flatMap VaA.cells++x.cells)) (hg:w4.grownBy w8 vi.ownBlock) (hv:v8.ownBlock=vi.ownBlock∨v8.ownBlock=some w4.heap.size) :
  VbS p (w8.setCell ⟨p,6,none⟩ v8) kd bo it st di vk v8 vr K (I++[x]) R∧Below p w (w8.setCell ⟨p,6,none⟩ v8)∧∀q,q≠p→vi.ownBlock≠some q→q<w.heap.size→(w8.setCell ⟨p,6,none⟩ v8).heap[q]? = w.heap[q]? := by
 have h4:=h.below hb4;obtain ⟨l1,l2,l3⟩:=hot_lt h4;have hk:∀q,q<w4.heap.size→vi.ownBlock≠some q→w8.heap[q]? = w4.heap[q]? := fun q hq hne=>yA hg hq fun k hk e=>hne (by rw[hk,e])
 have hp8:=(hk p h4.lt fun e=>by have:=l2 p e;omega).trans h4.blk
 have hso:∀q,q≠p→(w8.setCell ⟨p,6,none⟩ v8).heap[q]? = w8.heap[q]? := fun q hq=>heap_setCell_other _ _ _ _ (by simpa using hq)
 have hz8:=hg.size;refine ⟨⟨?_,?_,?_,?_,?_,?_,h.str,h.raw⟩,((((hb4.mono (Nat.le_of_lt h.lt)).grown hg (Nat.le_of_lt h4.lt) fun q hq=>by have:=l2 q hq;omega)).setCell (p:=⟨p,6,none⟩) (Nat.le_refl _) v8),fun q h1 h2 h3=>((hso q h1).trans (hk q (by have:=hb4.size;omega) h2)).trans (hb4.block q h3)⟩
 ·unfold bxV at hp8
  rw[heap_setCell_same _ _ 6 _ _ v8 hp8];rfl
 ·exact h4.ok.keep fun g hg1 hl hv0=>(hso g (by omega)).trans (hk g hl (h.ne g hv0))
 ·have ho':OwnV w8 (p+1) v8 (I++[x]):=OwnL.snoc ho
  exact ho'.keep fun g hg1 _ _=>hso g (by omega)
 ·exact h4.or_.keep fun g hg1 hl hv0=>(hso g (by omega)).trans (hk g hl fun e=>own_ne h4.oi h4.or_ g e hv0)
 ·intro q hq e
  rcases hv with e2|e2
  ·exact h.ne q hq (e2▸e)
  ·rw[e2] at e
   have:=Option.some.inj e;have:=(l1 q hq).2
   omega
 ·intro y hy
  have hy':Off (Hot p vk vi vr) w4 fun u=>ValR u y.v y.A1 y.A2 y.A3:=by
   rw[←List.append_assoc] at hy
   rcases List.mem_append.1 hy with k|k
   ·exact h4.off y k
   ·obtain rfl:y=x:=by simpa using k
    exact hx.low hb4
  refine hy'.grow (fun q hq hs=>?_) (fun q hq hn=>?_) (by simp;omega)
  ·rcases hs with e|e|e|e
   ·exact .inl e
   ·exact .inr (.inl e)
   ·rcases hv with e2|e2
    ·exact .inr (.inr (.inl (e2▸e)))
    ·rw[e2] at e
     have:=Option.some.inj e
     omega
   ·exact .inr (.inr (.inr e))
  ·exact (hso q fun e=>hn (.inl (Nat.le_of_eq e))).trans (hk q hq fun e=>hn (.inr (.inr (.inl e))))
theorem VbS.key (h:VbS p w kd bo it st di vk vi vr K I R) {x:VaA} (hx:Off (Hot p vk vi vr) w fun u=>ValR u x.v x.A1 x.A2 x.A3) {w4:World} (hb4:Below w.heap.size w w4) {v8:Value} {w8:World}
  (ho:w8.ownsRow (p+1) 28 8 v8 (K.length+1) (K.flatMap VaA.cells++x.cells)) (hg:w4.grownBy w8 vk.ownBlock) (hv:v8.ownBlock=vk.ownBlock∨v8.ownBlock=some w4.heap.size) :
  VbS p (w8.setCell ⟨p,5,none⟩ v8) kd bo it st di v8 vi vr (K++[x]) I R∧Below p w (w8.setCell ⟨p,5,none⟩ v8)∧∀q,q≠p→vk.ownBlock≠some q→q<w.heap.size→(w8.setCell ⟨p,5,none⟩ v8).heap[q]? = w.heap[q]? := by
 have h4:=h.below hb4;obtain ⟨l1,l2,l3⟩:=hot_lt h4;have hk:∀q,q<w4.heap.size→vk.ownBlock≠some q→w8.heap[q]? = w4.heap[q]? := fun q hq hne=>yA hg hq fun k hk e=>hne (by rw[hk,e])
 have hp8:=(hk p h4.lt fun e=>by have:=l1 p e;omega).trans h4.blk
 have hso:∀q,q≠p→(w8.setCell ⟨p,5,none⟩ v8).heap[q]? = w8.heap[q]? := fun q hq=>heap_setCell_other _ _ _ _ (by simpa using hq)
 have hz8:=hg.size;refine ⟨⟨?_,?_,?_,?_,?_,?_,h.str,h.raw⟩,((((hb4.mono (Nat.le_of_lt h.lt)).grown hg (Nat.le_of_lt h4.lt) fun q hq=>by have:=l1 q hq;omega)).setCell (p:=⟨p,5,none⟩) (Nat.le_refl _) v8),fun q h1 h2 h3=>((hso q h1).trans (hk q (by have:=hb4.size;omega) h2)).trans (hb4.block q h3)⟩
 ·unfold bxV at hp8
  rw[heap_setCell_same _ _ 5 _ _ v8 hp8];rfl
 ·have ho':OwnV w8 (p+1) v8 (K++[x]):=OwnL.snoc ho
  exact ho'.keep fun g hg1 _ _=>hso g (by omega)
 ·exact h4.oi.keep fun g hg1 hl hv0=>(hso g (by omega)).trans (hk g hl fun e=>h.ne g e hv0)
 ·exact h4.or_.keep fun g hg1 hl hv0=>(hso g (by omega)).trans (hk g hl fun e=>own_ne h4.ok h4.or_ g e hv0)
 ·intro q hq e
  rcases hv with e2|e2
  ·exact h.ne q (e2▸hq) e
  ·rw[e2] at hq
   have:=Option.some.inj hq;have:=(l2 q e).2
   omega
 ·intro y hy
  have hy':Off (Hot p vk vi vr) w4 fun u=>ValR u y.v y.A1 y.A2 y.A3:=by
   rcases List.mem_append.1 hy with k|k
   ·rcases List.mem_append.1 k with k|k
    ·exact h4.off y (List.mem_append_left _ k)
    ·obtain rfl:y=x:=by simpa using k
     exact hx.low hb4
   ·exact h4.off y (List.mem_append_right _ k)
  refine hy'.grow (fun q hq hs=>?_) (fun q hq hn=>?_) (by simp;omega)
  ·rcases hs with e|e|e|e
   ·exact .inl e
   ·rcases hv with e2|e2
    ·exact .inr (.inl (e2▸e))
    ·rw[e2] at e
     have:=Option.some.inj e
     omega
   ·exact .inr (.inr (.inl e))
   ·exact .inr (.inr (.inr e))
  ·exact (hso q fun e=>hn (.inl (Nat.le_of_eq e))).trans (hk q hq fun e=>hn (.inr (.inl e)))
theorem VbS.rawA (h:VbS p w kd bo it st di vk vi vr K I R) {x:RawD} (hx:SOk x.data) {w4:World} (hb4:Below w.heap.size w w4) {v8:Value} {w8:World}
  (ho:w8.ownsRow (p+1) 97 2 v8 (R.length+1) (R.flatMap encR++encR x)) (hg:w4.grownBy w8 vr.ownBlock) (hv:v8.ownBlock=vr.ownBlock∨v8.ownBlock=some w4.heap.size) :
  VbS p (w8.setCell ⟨p,7,none⟩ v8) kd bo it st di vk vi v8 K I (R++[x])∧Below p w (w8.setCell ⟨p,7,none⟩ v8)∧∀q,q≠p→vr.ownBlock≠some q→q<w.heap.size→(w8.setCell ⟨p,7,none⟩ v8).heap[q]? = w.heap[q]? := by
 have h4:=h.below hb4;obtain ⟨l1,l2,l3⟩:=hot_lt h4;have hk:∀q,q<w4.heap.size→vr.ownBlock≠some q→w8.heap[q]? = w4.heap[q]? := fun q hq hne=>yA hg hq fun k hk e=>hne (by rw[hk,e])
 have hp8:=(hk p h4.lt fun e=>by have:=l3 p e;omega).trans h4.blk
 have hso:∀q,q≠p→(w8.setCell ⟨p,7,none⟩ v8).heap[q]? = w8.heap[q]? := fun q hq=>heap_setCell_other _ _ _ _ (by simpa using hq)
 have hz8:=hg.size;refine ⟨⟨?_,?_,?_,?_,h.ne,?_,h.str,?_⟩,((((hb4.mono (Nat.le_of_lt h.lt)).grown hg (Nat.le_of_lt h4.lt) fun q hq=>by have:=l3 q hq;omega)).setCell (p:=⟨p,7,none⟩) (Nat.le_refl _) v8),fun q h1 h2 h3=>((hso q h1).trans (hk q (by have:=hb4.size;omega) h2)).trans (hb4.block q h3)⟩
 ·unfold bxV at hp8
  rw[heap_setCell_same _ _ 7 _ _ v8 hp8];rfl
 ·exact h4.ok.keep fun g hg1 hl hv0=>(hso g (by omega)).trans (hk g hl (own_ne h4.ok h4.or_ g hv0))
 ·exact h4.oi.keep fun g hg1 hl hv0=>(hso g (by omega)).trans (hk g hl (own_ne h4.oi h4.or_ g hv0))
 ·have ho':OwnR w8 (p+1) v8 (R++[x]):=OwnL.snoc ho
  exact ho'.keep fun g hg1 _ _=>hso g (by omega)
 ·intro y hy
  refine (h4.off y hy).grow (fun q hq hs=>?_) (fun q hq hn=>?_) (by simp;omega)
  ·rcases hs with e|e|e|e
   ·exact .inl e
   ·exact .inr (.inl e)
   ·exact .inr (.inr (.inl e))
   ·rcases hv with e2|e2
    ·exact .inr (.inr (.inr (e2▸e)))
    ·rw[e2] at e
     have:=Option.some.inj e
     omega
  ·exact (hso q fun e=>hn (.inl (Nat.le_of_eq e))).trans (hk q hq fun e=>hn (.inr (.inr (.inr e))))
 ·intro y hy
  rcases List.mem_append.1 hy with k|k
  ·exact h.raw y k
  ·obtain rfl:y=x:=by simpa using k
   exact hx
theorem vals_map {w:World} {A:zo} {L:List VaA} (h:RowsR 8 120 (fun x cs=>Val.At w x.v cs) w A L):ValsR w A (L.map (·.v)):=by
 refine ⟨by rw[List.length_map];exact h.1,fun hn=>?_⟩
 obtain ⟨b,o,e,hi⟩:=h.2 (fun e=>hn (by rw[e];rfl))
 refine ⟨b,o,e,fun i x hx=>?_⟩
 rw[List.getElem?_map] at hx;obtain ⟨y,hy,rfl⟩:=Option.map_eq_some_iff.1 hx;exact hi i y hy
theorem VbS.fin (h:VbS p w kd bo it st di vk vi vr K I R) (hK:Lim 120 K.length) (hI:Lim 120 I.length) (hR:Lim 24 R.length):∃A1 c1 A2 c2 A3 c3,vk = .slice A1 K.length c1∧vi = .slice A2 I.length c2∧vr = .slice A3 R.length c3 ∧
  Off (fun q=>q≤p) w fun u=>ValR u (.mk kd bo it st di (K.map (·.v)) (I.map (·.v)) R) A1 A2 A3:=by
 obtain ⟨A1,c1,rfl,_⟩:=h.ok.reads;obtain ⟨A2,c2,rfl,_⟩:=h.oi.reads;obtain ⟨A3,c3,rfl,_⟩:=h.or_.reads;refine ⟨A1,c1,A2,c2,A3,c3,rfl,rfl,rfl,fun u hu=>?_⟩
 have hk:∀q,p+1≤q→q<w.heap.size→u.heap[q]? = w.heap[q]? := fun q hq hl=>hu q (by omega) hl
 have hv:∀y∈K++I,ValR u y.v y.A1 y.A2 y.A3:=fun y hy=>h.off y hy u fun q hq hl=>hu q (fun e=>hq (.inl e)) hl
 obtain ⟨B1,d1,e1,g1⟩:=(h.ok.keep fun g hg hl _=>hk g hg hl).rows (bytes:=120) (at_:=fun x cs=>Val.At u x.v cs) (fun _=>rfl) hK fun y hy=>Val.at_iff.2 ⟨_,_,_,_,_,_,rfl,hv y (List.mem_append_left _ hy)⟩
 obtain ⟨B2,d2,e2,g2⟩:=(h.oi.keep fun g hg hl _=>hk g hg hl).rows (bytes:=120) (at_:=fun x cs=>Val.At u x.v cs) (fun _=>rfl) hI fun y hy=>Val.at_iff.2 ⟨_,_,_,_,_,_,rfl,hv y (List.mem_append_right _ hy)⟩
 obtain ⟨B3,d3,e3,g3⟩:=(h.or_.keep fun g hg hl _=>hk g hg hl).rows (bytes:=24) (at_:=RawD.At) (fun _=>rfl) hR fun y hy=>⟨h.raw y hy,rfl⟩
 injection e1 with e1 _ _
 injection e2 with e2 _ _
 injection e3 with e3 _ _
 subst e1 e2 e3;exact ⟨h.str,vals_map g1,vals_map g2,g3⟩
end
def SepI {α:Type} (part:List TokD→Bool→PR α) (R:PR (List α)) (acc:List α) (r:List TokD) (k:Bool):Prop:=R=(sepR part r k).bind fun q => .ok (acc++q.1,q.2)
section
variable {α:Type} {part:List TokD→Bool→PR α} {R:PR (List α)} {acc:List α} {r r':List TokD} {k k':Bool} {x:α} {e:Int}
theorem SepI.start (part:List TokD→Bool→PR α) (r:List TokD) (k:Bool):SepI part (sepR part r k) [] r k:=by
 unfold SepI
 cases sepR part r k with
 | error e=>rfl
 | ok q=>rfl
theorem SepI.bad (hd:Dec part) (h:SepI part R acc r k) (hp:part r k = .error e):R = .error e:=by
 unfold SepI at h;rw[sepR_eq hd,hp] at h;exact h
theorem SepI.comma (hd:Dec part) (h:SepI part R acc r k) (hp:part r k = .ok (x,r',k')) (hc:isP ⟨#[44]⟩ r'=true):SepI part R (acc++[x]) r'.tail k':=by
 unfold SepI at h ⊢;rw[sepR_eq hd,hp,zM,if_pos hc] at h;rw[h]
 cases sepR part r'.tail k' with
 | error e=>rfl
 | ok q=>simp only[zM,List.append_assoc,List.singleton_append]
theorem SepI.fin (hd:Dec part) (h:SepI part R acc r k) (hp:part r k = .ok (x,r',k')) (hc:isP ⟨#[44]⟩ r'=false):R = .ok (acc++[x],r',k'):=by
 unfold SepI at h;rw[sepR_eq hd,hp,zM,if_neg (by rw[hc];simp)] at h
 exact h
end
theorem isP_ne {s s':ByteArray} {r:List TokD} (hn:s≠s') (h:isP s r=true):isP s' r=false:=by
 cases r with
 | nil=>rfl
 | cons t q =>
  rw[isP,Bool.and_eq_true,decide_eq_true_eq,decide_eq_true_eq] at h;rw[isP,h.2,decide_eq_false hn,Bool.and_false]
def rawB (r:List TokD):Except Int (List RawD×List TokD) :=
 (tkP 2 r).bind fun p=>(syP ⟨#[58]⟩ p.2).bind fun l3=>(tkP 3 l3).bind fun q=>(rawsR false false q.2).bind fun z => .ok (⟨p.1.int,q.1.str⟩::z.1,z.2)
abbrev RecT:=PR (List Val×List RawD)
def recE (acc:List Val) (rs:List RawD) (k:Bool) (a:Except Int (List RawD×List TokD)):RecT:=a.bind fun q=>(syP ⟨#[125]⟩ q.2).bind fun l2 => .ok ((acc,rs++q.1),l2,k)
section
variable {f:Int→List TokD→Bool→PR Val} {R:RecT} {acc:List Val} {rs:List RawD} {ms:List MemD} {r r':List TokD} {k k':Bool} {x:Val} {e:Int} {y:MemD}
def RecI (f:Int→List TokD→Bool→PR Val) (R:RecT) (acc:List Val) (rs:List RawD) (ms:List MemD) (r:List TokD) (k:Bool):Prop :=
 (ms=[]∧R=recE acc rs k (rawB r))∨(ms≠[]∧rs=[]∧R=(memsP f true ms r k).bind fun p=>recE (acc++p.1) [] p.2.2 (rawsR false false p.2.1))
def RecJ (f:Int→List TokD→Bool→PR Val) (R:RecT) (acc:List Val) (rs:List RawD) (ms:List MemD) (r:List TokD) (k:Bool):Prop :=
 (ms=[]∧R=recE acc rs k (rawsR false false r))∨(ms≠[]∧rs=[]∧isP ⟨#[44]⟩ r=true∧R=(memsP f false ms r k).bind fun p=>recE (acc++p.1) [] p.2.2 (rawsR false false p.2.1))
theorem raws_first (r:List TokD) (h:isP ⟨#[125]⟩ r=false):rawsR false true r=rawB r:=by
 rw[rawsR_eq,if_neg (by rw[h];simp),if_pos rfl,zM]
 unfold rawB;simp only[idF,Bool.false_eq_true,false_and,if_false]
theorem raws_comma (r:List TokD) (h:isP ⟨#[44]⟩ r=true):rawsR false false r=rawB r.tail:=by
 rw[rawsR_eq,if_neg (by rw[isP_ne (by decide) h];simp),if_neg (by simp)]
 unfold syP rawB;rw[if_pos h,zM];simp only[idF,Bool.false_eq_true,false_and,if_false]
 rfl
theorem raws_end (r:List TokD) (h:isP ⟨#[125]⟩ r=true):rawsR false false r = .ok ([],r):=by rw[rawsR_eq,if_pos h]
theorem raws_no (r:List TokD) (h:isP ⟨#[125]⟩ r=false) (h2:isP ⟨#[44]⟩ r=false):rawsR false false r = .error 2:=by
 rw[rawsR_eq,if_neg (by rw[h];simp),if_neg (by simp)]
 unfold syP;rw[if_neg (by rw[h2];simp),err_bind]
def recR (f:Int→List TokD→Bool→PR Val) (ms:List MemD) (r:List TokD) (k:Bool):RecT :=
 (memsP f true ms r k).bind fun p=>recE p.1 [] p.2.2 (rawsR false ms.isEmpty p.2.1)
theorem recP_eq (x:TyD) (l:List TokD) (k:Bool):recP false f x l k=(syP ⟨#[123]⟩ l).bind fun l1=>recR f x.mems l1 k:=rfl
theorem RecI.start (hc:isP ⟨#[125]⟩ r=false):RecI f (recR f ms r k) [] [] ms r k:=by
 cases ms with
 | nil =>
  refine .inl ⟨rfl,?_⟩;unfold recR;rw[memsP,zM];simp only[List.isEmpty_nil];rw[raws_first r hc]
 | cons y ms=>exact .inr ⟨by simp,rfl,rfl⟩
theorem recR_none (hc:isP ⟨#[125]⟩ r=true):recR f [] r k = .ok (([],[]),r.tail,k):=by
 unfold recR;rw[memsP,zM];simp only[List.isEmpty_nil];rw[rawsR_eq,if_pos hc];unfold recE;rw[zM];unfold syP;simp only;rw[if_pos hc,zM]
 rfl
theorem tk_sym {n:Int} {s:ByteArray} (h:isP s r=true) (hn:n≠4):tkP n r = .error 2:=by
 obtain ⟨t,q,rfl,h1,_⟩:=isP_cons h;rw[tkP,if_neg (by omega)]
theorem recR_bad (hm:ms≠[]) (hc:isP ⟨#[125]⟩ r=true):recR f ms r k = .error 2:=by
 cases ms with
 | nil=>exact absurd rfl hm
 | cons y ms =>
  unfold recR;rw[memsP,if_pos rfl,zM,tk_sym hc (by decide)]
  rfl
theorem RecJ.comma (h:RecJ f R acc rs ms r k) (hc:isP ⟨#[44]⟩ r=true):RecI f R acc rs ms r.tail k:=by
 rcases h with ⟨h1,h2⟩|⟨h1,h2,h3,h4⟩
 ·exact .inl ⟨h1,by rw[h2,raws_comma r hc]⟩
 ·refine .inr ⟨h1,h2,h4.trans ?_⟩
  cases ms with
  | nil=>exact absurd rfl h1
  | cons y ms =>
   rw[memsP,memsP,if_neg (by simp),if_pos rfl]
   unfold syP;rw[if_pos hc]
theorem RecJ.fin (h:RecJ f R acc rs ms r k) (hc:isP ⟨#[44]⟩ r=false) (hb:isP ⟨#[125]⟩ r=true):R = .ok ((acc,rs),r.tail,k):=by
 rcases h with ⟨_,h2⟩|⟨_,_,h3,_⟩
 ·rw[h2,raws_end r hb]
  unfold recE;rw[zM];unfold syP;simp only;rw[if_pos hb,zM,List.append_nil]
 ·rw[hc] at h3;cases h3
theorem RecJ.bad (h:RecJ f R acc rs ms r k) (hc:isP ⟨#[44]⟩ r=false) (hb:isP ⟨#[125]⟩ r=false):R = .error 2:=by
 rcases h with ⟨_,h2⟩|⟨_,_,h3,_⟩
 ·rw[h2,raws_no r hb hc];rfl
 ·rw[hc] at h3;cases h3
theorem RecI.name (h:RecI f R acc rs (y::ms) r k):rs=[]∧R=(tkP 1 r).bind fun p=>if p.1.text=y.name then (syP ⟨#[58]⟩ p.2).bind fun l2=>(f y.type l2 k).bind fun q=>(memsP f false ms q.2.1 q.2.2).bind fun z=>recE (acc++(q.1::z.1)) [] z.2.2 (rawsR false false z.2.1) else .error 4:=by
 rcases h with ⟨h1,_⟩|⟨_,h2,h3⟩
 ·cases h1
 ·refine ⟨h2,h3.trans ?_⟩
  rw[memsP,if_pos rfl,zM]
  cases tkP 1 r with
  | error e=>rfl
  | ok p =>
   rw[zM,zM]
   split
   ·cases syP ⟨#[58]⟩ p.2 with
    | error e=>rfl
    | ok l2 =>
     rw[zM,zM]
     cases f y.type l2 k with
     | error e=>rfl
     | ok q =>
      rw[zM,zM]
      cases memsP f false ms q.2.1 q.2.2 with
      | error e=>rfl
      | ok z=>rfl
   ·rfl
theorem recJ_of (hr:rs=[]) (h:R=(memsP f false ms r k).bind fun z=>recE (acc++z.1) [] z.2.2 (rawsR false false z.2.1)) (hc:ms=[]∨isP ⟨#[44]⟩ r=true):RecJ f R acc rs ms r k:=by
 by_cases hm:ms=[]
 ·refine .inl ⟨hm,?_⟩
  rw[h,hm,memsP,zM,hr];simp only[List.append_nil]
 ·exact .inr ⟨hm,hr,hc.resolve_left hm,h⟩
theorem rec_no (h:R=(memsP f false ms r k).bind fun z=>recE (acc++z.1) [] z.2.2 (rawsR false false z.2.1)) (hm:ms≠[]) (hc:isP ⟨#[44]⟩ r=false):R = .error 2:=by
 cases ms with
 | nil=>exact absurd rfl hm
 | cons y ms =>
  rw[h,memsP,if_neg (by simp)]
  unfold syP;rw[if_neg (by rw[hc];simp)]
  rfl
theorem RecI.raw (h:RecI f R acc rs [] r k):R=(tkP 2 r).bind fun p=>(syP ⟨#[58]⟩ p.2).bind fun l3=>(tkP 3 l3).bind fun q=>recE acc (rs++[⟨p.1.int,q.1.str⟩]) k (rawsR false false q.2):=by
 rcases h with ⟨_,h2⟩|⟨h1,_⟩
 ·rw[h2]
  unfold rawB
  cases tkP 2 r with
  | error e=>rfl
  | ok p =>
   rw[zM,zM]
   cases syP ⟨#[58]⟩ p.2 with
   | error e=>rfl
   | ok l3 =>
    rw[zM,zM]
    cases tkP 3 l3 with
    | error e=>rfl
    | ok q =>
     rw[zM,zM]
     cases rawsR false false q.2 with
     | error e=>rfl
     | ok z =>
      unfold recE;simp only[zM,List.append_assoc,List.singleton_append]
 ·exact absurd rfl h1
end
theorem zX {C:RCx} (T:ByteArray) {w:World} {r:List TokD} {k:Bool} {e:Int} (h:RdS C w r k e) :
  Calls Tryz.prog 160 #[.pointer (some ⟨C.b,0,none⟩),.string T] w fun x w'=>x = .returned (.bool (isP T r))∧Below w.heap.size w w':=by
 obtain ⟨⟨c0,c1,c2,c3,c4⟩,hf⟩:=h.cells;have hl6:=h.ok.len
 cases r with
 | nil =>
  have z1:decide (((C.l.length - ([]:List TokD).length:Nat):Int)<(C.l.length:Int))=false:=by simp
  clear h hf
  go_enter Tryz.func160,Tryz.ntmps160
  go_wp2_with fail
  go_quiet (fail)
  go_wp2
  go_ret
  exact ⟨rfl,zC (Below.refl _ _) _⟩
 | cons t q =>
  have hgi:=h.getI;obtain ⟨bb,o,hA,_,t0,t1,t2,t3,t4⟩:=h.tokI hgi;have hi:=(List.getElem?_eq_some_iff.1 hgi).1;rw[hA] at c1;have hq:isP T (t::q)=(decide (t.kind=4)&&decide (t.text=T)):=rfl;rw[hq];clear h hf hq hgi;generalize C.l.length - (t::q).length=i at *;have z1:decide ((i:Int)<(C.l.length:Int))=true:=by simp;omega
  have z2:(0:Int)≤(i:Int):=by omega
  have z3:(i:Int)<(C.l.length:Int):=by omega
  have HE:=zh (bytes_beq t.text T)
  by_cases hk:t.kind=4
  ·have q1:(t.kind==4)=true:=by simp[hk]
   rw[hk,←bytes_beq];clear hk HE
   go_enter Tryz.func160,Tryz.ntmps160
   go_wp2_with fail
   go_quiet (fail)
   go_wp2
   go_ret
   exact ⟨rfl,zC (Below.refl _ _) _⟩
  ·have q1:(t.kind==4)=false:=by simp[hk]
   rw[decide_eq_false hk,Bool.false_and];clear hk HE
   go_enter Tryz.func160,Tryz.ntmps160
   go_wp2_with fail
   go_quiet (fail)
   go_wp2
   go_ret
   exact ⟨rfl,zC (Below.refl _ _) _⟩
theorem RdS.nxt {C:RCx} {w:World} {t:TokD} {q:List TokD} {k:Bool} {e:Int} (h:RdS C w (t::q) k e):∃i:Nat,i+1≤1000000∧w.cell? ⟨C.b,2,none⟩=some (.int .i64 (i:Int))∧w.frozen? ⟨C.b,2,none⟩=false∧C.l[i]? = some t ∧
  Hid ((∀w1 e1 k1,RdS C w1 (t::q) k1 e1→RdS C (w1.setCell ⟨C.b,2,none⟩ (.int .i64 ((i:Int)+1))) q k1 e1)∧(∀w1 e1 k1,RdS C w1 q k1 e1→w1.cell? ⟨C.b,2,none⟩=some (.int .i64 ((i:Int)+1)))):=by
 obtain ⟨⟨c0,c1,c2,c3,c4⟩,hf⟩:=h.cells;have ht:=h.tail;have hs:=h.sfx.length_le;have hl:=h.ok.len;have hl1:(t::q).length=q.length+1:=rfl;refine ⟨C.l.length - (t::q).length,by omega,c2,hf 2,h.getI,fun w1 e1 k1 h1=>h1.setAt ht.1 ht.2,fun w1 e1 k1 h1=>?_⟩
 rw[h1.cells.1.2.2.1,ht.2]
def erF (e x:Int):Int:=if e=0 then x else e
theorem nrFail_any {C:RCx} (x:Int) {w:World} {r:List TokD} {k:Bool} {e:Int} (h:RdS C w r k e) :
  Calls Tryz.prog 78 #[.pointer (some ⟨C.b,0,none⟩),.int .i64 x] w fun y w'=>y = .returned (.tuple #[])∧RdS C w' r k (erF e x)∧Bsd C.b w w':=by
 have HS:=zh h;obtain ⟨⟨c0,c1,c2,c3,c4⟩,hf⟩:=h.cells;have f4:=hf 4;clear h hf
 by_cases he:e=0
 ·have q1:(e==0)=true:=by simp[he]
  have HR:Hid (erF e x=x):=if_pos he;clear he
  go_enter Tryz.func78,Tryz.ntmps78
  go_wp2
  refine bodyPost_end (results_none Tryz.results78 _ _ _) rfl ⟨rfl,?_,(Bsd.refl _ _).set _ _⟩;rw[HR.out];exact HS.out.setE x
 ·have q1:(e==0)=false:=by simp[he]
  have HR:Hid (erF e x=e):=if_neg he;clear he
  go_enter Tryz.func78,Tryz.ntmps78
  go_wp2
  refine bodyPost_end (results_none Tryz.results78 _ _ _) rfl ⟨rfl,?_,Bsd.refl _ _⟩;rw[HR.out];exact HS.out
def SymP (C:RCx) (T:ByteArray) (w:World) (r:List TokD) (k:Bool) (e:Int) (y:Ending) (w':World):Prop:=y = .returned (.tuple #[])∧Bsd C.b w w'∧((isP T r=true∧RdS C w' r.tail k e)∨(isP T r=false∧RdS C w' r k (erF e 2)))
theorem nrSym_any {C:RCx} (T:ByteArray) {w:World} {r:List TokD} {k:Bool} {e:Int} (h:RdS C w r k e) :
  Calls Tryz.prog 126 #[.pointer (some ⟨C.b,0,none⟩),.string T] w (SymP C T w r k e):=by
 have HS:=zh h;clear h
 cases hi:isP T r with
 | false =>
  have HI:=zh hi;clear hi
  go_enter Tryz.func126,Tryz.ntmps126
  go_wp2_with (go_at_call 160;refine (zX T HS.out).mono ?_;rintro x w1 ⟨rfl,hb1⟩;rw[HI.out];have HB1:=zh hb1;clear hb1)
  refine (nrFail_any 2 (HS.out.below HB1.out)).mono ?_;rintro x w2 ⟨rfl,h1,h2⟩;have H1:=zh h1;have H2:=zh h2;clear h1 h2;go_wp2;refine bodyPost_ret (results_none Tryz.results126 _ _ _) rfl ⟨rfl,(HS.out.bsd HB1.out).trans H2.out,.inr ⟨HI.out,H1.out⟩⟩
 | true =>
  have HI:=zh hi;obtain ⟨t,q,rfl,_,_⟩:=isP_cons hi;clear hi
  go_enter Tryz.func126,Tryz.ntmps126
  go_wp2_with (go_at_call 160;refine (zX T HS.out).mono ?_;rintro x w1 ⟨rfl,hb1⟩;rw[HI.out];have HB1:=zh hb1;have HS1:=zh (HS.out.below hb1);obtain ⟨i,hi,c2,f2,hi2,HN⟩:=HS1.out.nxt;clear hb1)
  refine bodyPost_end (results_none Tryz.results126 _ _ _) rfl ⟨rfl,(HS.out.bsd HB1.out).trans ((Bsd.refl _ _).set _ _),.inl ⟨HI.out,?_⟩⟩;exact HN.out.1 _ _ _ HS1.out
def zTok:TokD:=⟨0,⟨#[]⟩,0,⟨#[]⟩,0⟩
def TokD.v (t:TokD):Value := .agg #[.int .i64 t.kind,.string t.text,.int .i64 t.int,.string t.str,.int .i64 t.line]
def TakeP (C:RCx) (n:Int) (w:World) (r:List TokD) (k:Bool) (e:Int) (y:Ending) (w':World):Prop :=
 Bsd C.b w w'∧((∃t q,tkP n r = .ok (t,q)∧y = .returned t.v∧RdS C w' q k e∧SOk t.text∧SOk t.str)∨(tkP n r = .error 2∧y = .returned zTok.v∧RdS C w' r k (erF e 2)))
theorem tk_no {n:Int} {r:List TokD} (h:¬ ∃t q,r=t::q∧t.kind=n):tkP n r = .error 2:=by
 cases r with
 | nil=>rfl
 | cons t q=>rw[tkP,if_neg fun e=>h ⟨t,q,rfl,e⟩]
theorem Bsd.two {b B:Nat} {w w':World} (h:Bsd b w w') (j:Nat) (u:Value) (hB:w.heap.size≤B) (hb:b<w.heap.size):Bsd b w (w'.setCell ⟨B,j,none⟩ u) :=
 ⟨h.bel.setCell (p:=⟨B,j,none⟩) (by simp only;omega) u,fun q hq hl=>(heap_setCell_other _ _ _ _ (by simp only;omega)).trans (h.oth q hq hl)⟩
abbrev set5 (w:World) (p:Nat) (v0 v1 v2 v3 v4:Value):World:=((((w.setCell ⟨p,0,none⟩ v0).setCell ⟨p,1,none⟩ v1).setCell ⟨p,2,none⟩ v2).setCell ⟨p,3,none⟩ v3).setCell ⟨p,4,none⟩ v4
theorem box5 {w:World} {p:Nat} {a0 a1 a2 a3 a4:Value} {T:TypeId} (h:w.heap[p]? = some (.cells #[a0,a1,a2,a3,a4] T)) (v0 v1 v2 v3 v4:Value):(set5 w p v0 v1 v2 v3 v4).heap[p]? = some (.cells #[v0,v1,v2,v3,v4] T):=by
 have h0:=heap_setCell_same _ _ 0 _ _ v0 h;have h1:=heap_setCell_same _ _ 1 _ _ v1 h0;have h2:=heap_setCell_same _ _ 2 _ _ v2 h1;have h3:=heap_setCell_same _ _ 3 _ _ v3 h2;exact heap_setCell_same _ _ 4 _ _ v4 h3
theorem Bsd.five {b B:Nat} {w w':World} (h:Bsd b w w') (v0 v1 v2 v3 v4:Value) (hB:w.heap.size≤B) (hb:b<w.heap.size):Bsd b w (set5 w' B v0 v1 v2 v3 v4) :=
 ((((h.two 0 v0 hB hb).two 1 v1 hB hb).two 2 v2 hB hb).two 3 v3 hB hb).two 4 v4 hB hb
theorem RdS.set5 {C:RCx} {w:World} {r:List TokD} {k:Bool} {e:Int} (h:RdS C w r k e) {B:Nat} (hB:C.b<B) (v0 v1 v2 v3 v4:Value):RdS C (set5 w B v0 v1 v2 v3 v4) r k e:=by
 have h1:∀w j u,RdS C w r k e→RdS C (w.setCell ⟨B,j,none⟩ u) r k e:=fun w j u h=>⟨h.ok,(heap_setCell_other _ _ _ _ (by simp only;omega)).trans h.blk,h.sfx,h.up.setCell (p:=⟨B,j,none⟩) (by have:=h.ok.ge;simp only;omega) _⟩
 exact h1 _ _ _ (h1 _ _ _ (h1 _ _ _ (h1 _ _ _ (h1 _ _ _ h))))
theorem five_cells {w:World} {p:Nat} {a0 a1 a2 a3 a4:Value} {T:TypeId} (h:w.heap[p]? = some (.cells #[a0,a1,a2,a3,a4] T)):(w.cell? ⟨p,0,none⟩=some a0∧w.cell? ⟨p,1,none⟩=some a1∧w.cell? ⟨p,2,none⟩=some a2∧w.cell? ⟨p,3,none⟩=some a3∧w.cell? ⟨p,4,none⟩=some a4)∧(w.frozen? ⟨p,0,none⟩=false∧w.frozen? ⟨p,1,none⟩=false∧w.frozen? ⟨p,2,none⟩=false∧w.frozen? ⟨p,3,none⟩=false∧w.frozen? ⟨p,4,none⟩=false):=by
 refine ⟨⟨?_,?_,?_,?_,?_⟩,frozen_of_row _ _ _ _ _ h,frozen_of_row _ _ _ _ _ h,frozen_of_row _ _ _ _ _ h,frozen_of_row _ _ _ _ _ h,frozen_of_row _ _ _ _ _ h⟩ <;> (rw[cell_of_row _ _ _ _ _ _ h];rfl)
abbrev tkO (t:TokD):Obj := .cells #[.int .i64 t.kind,.string t.text,.int .i64 t.int,.string t.str,.int .i64 t.line] 59
theorem nrTake_any {C:RCx} (n:Int) {w:World} {r:List TokD} {k:Bool} {e:Int} (h:RdS C w r k e) :
  Calls Tryz.prog 122 #[.pointer (some ⟨C.b,0,none⟩),.int .i64 n] w (TakeP C n w r k e):=by
 have HB0:=zh (zD w (tkO zTok));have HX0:=zh (heap_alloc_new w (tkO zTok));have HW:=zh (h.bsd HB0.out);have HS:=zh (h.below HB0.out);have HLT:=zh h.lt;clear h
 go_enter Tryz.func122,Tryz.ntmps122
 go_upto_region 1 with fail
 unfold tkO zTok at HB0 HX0 HW HS;simp only at HB0 HX0 HW HS;generalize w.alloc _=W1 at *
 by_cases hk:∃t q,r=t::q∧t.kind=n
 ·obtain ⟨t,q,rfl,hk⟩:=hk
  have HK:Hid (tkP n (t::q) = .ok (t,q)):=by show _=_;rw[tkP,if_pos hk]
  obtain ⟨⟨c0,c1,c2',c3,c4⟩,hf⟩:=HS.out.cells;obtain ⟨i,hi,c2,f2,hgi,HN⟩:=HS.out.nxt;obtain ⟨bb,o,hA,hso,t0,t1,t2,t3,t4⟩:=HS.out.tokI hgi;have hi2:=(List.getElem?_eq_some_iff.1 hgi).1;have HSO:=zh hso;have HGI:=zh hgi;have HC:=zh (show RdS C W1 (t::q) k e from HS.out);rw[hA] at c1;have z1:decide ((i:Int) ≥ (C.l.length:Int))=false:=by simp;omega
  have z2:(0:Int)≤(i:Int):=by omega
  have z3:(i:Int)<(C.l.length:Int):=by omega
  have z4:(t.kind != n)=false:=by simp[hk]
  clear hk hso hf c2' hgi
  go_quiet (fail)
  go_upto_region 5 with fail
  have HS5:=zh (HN.out.1 _ _ _ (HC.out.below (zC (Below.refl _ _) nq)));have HB5:=zh ((HW.out.below (zC (Below.refl W1.heap.size W1) nq) HLT.out).set 2 (.int .i64 ((i:Int)+1)))
  have HX5:Hid (((W1.drewN nq).setCell ⟨C.b,2,none⟩ (.int .i64 ((i:Int)+1))).heap[w.heap.size]? = some (.cells #[.int .i64 0,.string ⟨#[]⟩,.int .i64 0,.string ⟨#[]⟩,.int .i64 0] 59)):=(heap_setCell_other _ _ _ _ (by have:=HLT.out;simp only;omega)).trans HX0.out
  clear t0 t1 t2 t3 t4 c0 c1 c2 c3 c4 f2;generalize (W1.drewN nq).setCell ⟨C.b,2,none⟩ (.int .i64 ((i:Int)+1))=W5 at *;have c2:=HN.out.2 _ _ _ HS5.out;obtain ⟨⟨c0,c1,_,c3,c4⟩,_⟩:=HS5.out.cells;obtain ⟨bb',o',hA',_,t0,t1,t2,t3,t4⟩:=HS5.out.tokI HGI.out;rw[hA] at hA' c1
  injection hA' with hA'
  injection hA' with g1 g2
  subst g1 g2;obtain ⟨⟨x0,x1,x2,x3,x4⟩,y0,y1,y2,y3,y4⟩:=five_cells HX5.out
  go_region
  clear t0 t1 t2 t3 t4 x0 x1 x2 x3 x4 y0 y1 y2 y3 y4 c0 c1 c2 c3 c4;have HX6:=zh (box5 HX5.out (.int .i64 t.kind) (.string t.text) (.int .i64 t.int) (.string t.str) (.int .i64 t.line));have HB6:=zh (HB5.out.five (.int .i64 t.kind) (.string t.text) (.int .i64 t.int) (.string t.str) (.int .i64 t.line) (Nat.le_refl _) HLT.out)
  have HS6:=zh (HS5.out.set5 HLT.out (.int .i64 t.kind) (.string t.text) (.int .i64 t.int) (.string t.str) (.int .i64 t.line));unfold set5 at HX6 HB6 HS6;generalize World.setCell (World.setCell (World.setCell (World.setCell (World.setCell W5 _ _) _ _) _ _) _ _) _ _=W6 at *;have HX7:=zh (nblk HX6.out (zC (Below.refl _ _) 1));have HS7:=zh (HS6.out.below (zC (Below.refl _ _) 1))
  have HB7:=zh (HB6.out.below (zC (Below.refl _ _) 1) HLT.out)
  change Hid (W6.drew.heap[w.heap.size]? = _) at HX7
  change Hid (RdS C W6.drew _ _ _) at HS7
  change Hid (Bsd C.b w W6.drew) at HB7
  generalize W6.drew=W7 at *;obtain ⟨⟨t0,t1,t2,t3,t4⟩,_⟩:=five_cells HX7.out;go_wp2;refine bodyPost_ret (v:=t.v) (by simp[results,Tryz.results122,go_sem,t0,t1,t2,t3,t4,TokD.v]) rfl ?_
  exact ⟨HB7.out,.inl ⟨t,q,HK.out,rfl,HS7.out,HSO.out⟩⟩
 ·have HK:=zh (tk_no hk)
  have HEND:Hid (∀W2 W3:World,RdS C W2 r k (erF e 2)→Bsd C.b w W2→W3=set5 W2 w.heap.size (.int .i64 0) (.string ⟨#[]⟩) (.int .i64 0) (.string ⟨#[]⟩) (.int .i64 0)→TakeP C n w r k e (.returned zTok.v) W3):=fun W2 W3 h1 h2 e3=>by
   subst e3;exact ⟨h2.five _ _ _ _ _ (Nat.le_refl _) HLT.out,.inr ⟨HK.out,rfl,h1.set5 HLT.out _ _ _ _ _⟩⟩
  have HMID:Hid (∀W2:World,Bsd C.b W1 W2→W2.heap[w.heap.size]? = some (.cells #[.int .i64 0,.string ⟨#[]⟩,.int .i64 0,.string ⟨#[]⟩,.int .i64 0] 59)):=fun W2 h=>(h.oth _ (by have:=HLT.out;omega) (zg.1 HX0.out).1).trans HX0.out
  obtain ⟨⟨c0,c1,c2,c3,c4⟩,hf⟩:=HS.out.cells
  cases r with
  | nil =>
   have z1:decide (((C.l.length - ([]:List TokD).length:Nat):Int) ≥ (C.l.length:Int))=true:=by simp
   clear hk hf
   go_quiet (fail)
   go_wp2_with (go_at_call 78;refine (nrFail_any 2 (HS.out.below (zC (Below.refl _ _) nq))).mono ?_;rintro x w2 ⟨rfl,h1,h2⟩;have H1:=zh h1;have HX2:=zh (HMID.out _ ((Bsd.of (zC (Below.refl _ _) nq) (by have:=HLT.out;have:=HB0.out.size;omega)).trans h2));have H2:=zh ((HW.out.below (zC (Below.refl W1.heap.size W1) nq) HLT.out).trans h2);clear h1 h2;obtain ⟨⟨x0,x1,x2,x3,x4⟩,y0,y1,y2,y3,y4⟩:=five_cells HX2.out)
   have HX3:=zh (box5 HX2.out (.int .i64 0) (.string ⟨#[]⟩) (.int .i64 0) (.string ⟨#[]⟩) (.int .i64 0));have HE3:=zh (HEND.out w2 _ H1.out H2.out rfl);unfold set5 at HX3 HE3;generalize World.setCell (World.setCell (World.setCell (World.setCell (World.setCell w2 _ _) _ _) _ _) _ _) _ _=W3 at *;obtain ⟨⟨t0,t1,t2,t3,t4⟩,_⟩:=five_cells HX3.out
   refine bodyPost_ret (v:=zTok.v) (by simp[results,Tryz.results122,go_sem,t0,t1,t2,t3,t4,TokD.v,zTok]) rfl HE3.out
  | cons t q =>
   obtain ⟨i,hi,c2',f2,hgi,HN⟩:=HS.out.nxt;obtain ⟨bb,o,hA,hso,t0,t1,t2,t3,t4⟩:=HS.out.tokI hgi;have hi2:=(List.getElem?_eq_some_iff.1 hgi).1;rw[hA] at c1;have z1:decide ((i:Int) ≥ (C.l.length:Int))=false:=by simp;omega
   have z2:(0:Int)≤(i:Int):=by omega
   have z3:(i:Int)<(C.l.length:Int):=by omega
   have z4:(t.kind != n)=true:=by simp only[bne_iff_ne,ne_eq];exact fun e=>hk ⟨t,q,rfl,e⟩
   clear hk hso hf c2 hgi hi f2
   go_quiet (fail)
   clear t0 t1 t2 t3 t4
   go_wp2_with (go_at_call 78;refine (nrFail_any 2 (HS.out.below (zC (Below.refl _ _) nq))).mono ?_;rintro x w2 ⟨rfl,h1,h2⟩;have H1:=zh h1;have HX2:=zh (HMID.out _ ((Bsd.of (zC (Below.refl _ _) nq) (by have:=HLT.out;have:=HB0.out.size;omega)).trans h2));have H2:=zh ((HW.out.below (zC (Below.refl W1.heap.size W1) nq) HLT.out).trans h2);clear h1 h2;obtain ⟨⟨x0,x1,x2,x3,x4⟩,y0,y1,y2,y3,y4⟩:=five_cells HX2.out)
   have HX3:=zh (box5 HX2.out (.int .i64 0) (.string ⟨#[]⟩) (.int .i64 0) (.string ⟨#[]⟩) (.int .i64 0));have HE3:=zh (HEND.out w2 _ H1.out H2.out rfl);unfold set5 at HX3 HE3;generalize World.setCell (World.setCell (World.setCell (World.setCell (World.setCell w2 _ _) _ _) _ _) _ _) _ _=W3 at *;obtain ⟨⟨t0,t1,t2,t3,t4⟩,_⟩:=five_cells HX3.out
   refine bodyPost_ret (v:=zTok.v) (by simp[results,Tryz.results122,go_sem,t0,t1,t2,t3,t4,TokD.v,zTok]) rfl HE3.out
theorem RdS.zero {C:RCx} {w:World} {r:List TokD} {k:Bool} {e:Int} (h:RdS C w r k e):w.cell? ⟨C.b,4,none⟩=some (.int .i64 e):=h.cells.1.2.2.2.2
def rdM (C:RCx) (w:World):Nat:=match w.cell? ⟨C.b,2,none⟩ with
 | some (.int _ i)=>C.l.length - i.toNat
 | _=>0
theorem RdS.meas {C:RCx} {w:World} {r:List TokD} {k:Bool} {e:Int} (h:RdS C w r k e):rdM C w=r.length:=by
 unfold rdM;rw[h.cells.1.2.2.1];have:=h.sfx.length_le;simp only[Int.toNat_natCast]
 omega
structure ListC (C:RCx) (T:ByteArray) (fid:Nat) (caps:List Value) (I J F:World→List TokD→Bool→Prop) (Er:World→Int→Prop):Prop where
 iS:∀W r k,I W r k→RdS C W r k 0
 jS:∀W r k,J W r k→RdS C W r k 0
 part:∀W r k,I W r k→Calls Tryz.prog fid caps.toArray W fun y W'=>y = .returned (.tuple #[])∧∃r' k' e',RdS C W' r' k' e'∧r'.length≤r.length∧(e'=0→J W' r' k')∧(e'≠0→Er W' e')
 comma:∀W r k W',J W r k→isP ⟨#[44]⟩ r=true→Bsd C.b W W'→RdS C W' r.tail k 0→I W' r.tail k
 fin:∀W r k W',J W r k→isP ⟨#[44]⟩ r=false→isP T r=true→Bsd C.b W W'→RdS C W' r.tail k 0→F W' r.tail k
 bad:∀W r k W',J W r k→isP ⟨#[44]⟩ r=false→isP T r=false→Bsd C.b W W'→RdS C W' r k 2→Er W' 2
def ListP (C:RCx) (F:World→List TokD→Bool→Prop) (Er:World→Int→Prop) (y:Ending) (w':World):Prop :=
 y = .returned (.tuple #[])∧∃r' k' e',RdS C w' r' k' e'∧(e'=0→F w' r' k')∧(e'≠0→Er w' e')
theorem list_value1 {C:RCx} {T:ByteArray} {pa pb pc:Nat} {I J F:World→List TokD→Bool→Prop} {Er:World→Int→Prop} (hc:ListC C T 128 [.pointer (some ⟨pa,0,none⟩),.pointer (some ⟨pb,0,none⟩),.pointer (some ⟨pc,0,none⟩)] I J F Er) {w:World} {r:List TokD} {k:Bool} (h:RdS C w r k 0)
  (h0:isP T r=true→∀W',Bsd C.b w W'→RdS C W' r.tail k 0→F W' r.tail k) (h1:isP T r=false→∀W',Bsd C.b w W'→RdS C W' r k 0→I W' r k) :
  Calls Tryz.prog 127 #[.pointer (some ⟨C.b,0,none⟩),.string T,.func (.func 128) #[] #[.pointer (some ⟨pa,0,none⟩),.pointer (some ⟨pb,0,none⟩),.pointer (some ⟨pc,0,none⟩)]] w (ListP C F Er):=by
 have HC:=zh hc;have HS:=zh h
 cases hi:isP T r with
 | true =>
  have HI:=zh hi;have HF:=zh (h0 hi);obtain ⟨t,q,rfl,_,_⟩:=isP_cons hi;clear hi h h0 h1 hc
  go_enter Tryz.func127,Tryz.ntmps127
  go_wp2_with (go_at_call 160;refine (zX T HS.out).mono ?_;rintro x w1 ⟨rfl,hb1⟩;rw[HI.out];have HB1:=zh hb1;have HS1:=zh (HS.out.below hb1);obtain ⟨i,hi,c2,f2,hi2,HN⟩:=HS1.out.nxt;clear hb1)
  have HX:=zh (HN.out.1 _ _ _ HS1.out);refine bodyPost_ret (results_none Tryz.results127 _ _ _) rfl ⟨rfl,q,k,0,HX.out,fun _=>HF.out _ ((HS.out.bsd HB1.out).trans ((Bsd.refl _ _).set _ _)) HX.out,fun h=>absurd rfl h⟩
 | false =>
  have HI:=zh hi;have HF:=zh (h1 hi);clear hi h h0 h1 hc
  go_enter Tryz.func127,Tryz.ntmps127
  go_wp2_with (go_at_call 160;refine (zX T HS.out).mono ?_;rintro x w1 ⟨rfl,hb1⟩;rw[HI.out];have HS1:=zh (HS.out.below hb1);have HI1:=zh (HF.out _ (HS.out.bsd hb1) HS1.out);clear hb1)
  go_loopw [] (fun wr=>∃r k,Hid (I wr r k)) (fun wr=>rdM C wr)
  case atStart=>exact ⟨r,k,HI1.out⟩
  case round =>
   obtain ⟨r,k,hI⟩:=hrel;have HR:=zh (HC.out.iS _ _ _ hI.out);have hz:=HR.out.zero;go_wp2_with fail;refine (HC.out.part _ _ _ hI.out).mono ?_;rintro y w2 ⟨rfl,r2,k2,e2,h1,h2,h3,h4⟩;have HR2:=zh h1;have HL2:=zh h2;have hz2:=HR2.out.zero
   by_cases he:e2=0
   ·subst he
    have HJ:=zh (h3 rfl);clear hz h1 h2 h3 h4
    cases hcm:isP ⟨#[44]⟩ r2 with
    | true =>
     have HCM:=zh hcm;obtain ⟨t,q,rfl,_,_⟩:=isP_cons hcm;clear hcm;go_wp2_with (go_at_call 160;refine (zX ⟨#[44]⟩ HR2.out).mono ?_;rintro x w3 ⟨rfl,hb3⟩;rw[HCM.out];have HB3:=zh (HR2.out.bsd hb3);have HS3:=zh (HR2.out.below hb3);obtain ⟨i,hi,c2,f2,hi2,HN⟩:=HS3.out.nxt;clear hb3);have HX:=zh (HN.out.1 _ _ _ HS3.out)
     have HNI:=zh (HC.out.comma _ _ _ _ HJ.out HCM.out (HB3.out.trans ((Bsd.refl _ _).set 2 (.int .i64 ((i:Int)+1)))) HX.out);have HM1:=zh HX.out.meas;have HM2:=zh HR.out.meas;go_roundw
     case rel=>exact ⟨q,k2,HNI.out⟩
     case measure=>rw[HM1.out,HM2.out];have:=HL2.out;rw[List.length_cons] at this;omega
    | false =>
     have HCM:=zh hcm;clear hcm;go_wp2_with (go_at_call 160;refine (zX ⟨#[44]⟩ HR2.out).mono ?_;rintro x w3 ⟨rfl,hb3⟩;rw[HCM.out];have HB3:=zh (HR2.out.bsd hb3);have HS3:=zh (HR2.out.below hb3);have hz3:=HS3.out.zero;clear hb3);refine (nrSym_any T HS3.out).mono ?_;rintro y w4 ⟨rfl,hb4,h4⟩;have HB4:=zh (HB3.out.trans hb4);have H4:=zh h4;clear hb4 h4;go_wp2
     refine bodyPost_end (results_none Tryz.results127 _ _ _) rfl ⟨rfl,?_⟩
     rcases H4.out with ⟨g1,g2⟩|⟨g1,g2⟩
     ·exact ⟨_,_,_,g2,fun _=>HC.out.fin _ _ _ _ HJ.out HCM.out g1 HB4.out g2,fun h=>absurd rfl h⟩
     ·exact ⟨_,_,_,g2,(fun h=>by cases h),fun _=>HC.out.bad _ _ _ _ HJ.out HCM.out g1 HB4.out g2⟩
   ·have HE:=zh (h4 he)
    have q1:(e2 != 0)=true:=by simp[he]
    have HNE:=zh he;clear hz h1 h2 h3 h4 he;go_wp2_with fail;refine bodyPost_ret (results_none Tryz.results127 _ _ _) rfl ⟨rfl,r2,k2,e2,HR2.out,fun h=>absurd h HNE.out,fun _=>HE.out⟩
theorem list_entries1 {C:RCx} {T:ByteArray} {pa pb pc:Nat} {I J F:World→List TokD→Bool→Prop} {Er:World→Int→Prop} (hc:ListC C T 162 [.pointer (some ⟨pa,0,none⟩),.pointer (some ⟨pb,0,none⟩),.pointer (some ⟨pc,0,none⟩)] I J F Er) {w:World} {r:List TokD} {k:Bool} (h:RdS C w r k 0)
  (h0:isP T r=true→∀W',Bsd C.b w W'→RdS C W' r.tail k 0→F W' r.tail k) (h1:isP T r=false→∀W',Bsd C.b w W'→RdS C W' r k 0→I W' r k) :
  Calls Tryz.prog 127 #[.pointer (some ⟨C.b,0,none⟩),.string T,.func (.func 162) #[] #[.pointer (some ⟨pa,0,none⟩),.pointer (some ⟨pb,0,none⟩),.pointer (some ⟨pc,0,none⟩)]] w (ListP C F Er):=by
 have HC:=zh hc;have HS:=zh h
 cases hi:isP T r with
 | true =>
  have HI:=zh hi;have HF:=zh (h0 hi);obtain ⟨t,q,rfl,_,_⟩:=isP_cons hi;clear hi h h0 h1 hc
  go_enter Tryz.func127,Tryz.ntmps127
  go_wp2_with (go_at_call 160;refine (zX T HS.out).mono ?_;rintro x w1 ⟨rfl,hb1⟩;rw[HI.out];have HB1:=zh hb1;have HS1:=zh (HS.out.below hb1);obtain ⟨i,hi,c2,f2,hi2,HN⟩:=HS1.out.nxt;clear hb1)
  have HX:=zh (HN.out.1 _ _ _ HS1.out);refine bodyPost_ret (results_none Tryz.results127 _ _ _) rfl ⟨rfl,q,k,0,HX.out,fun _=>HF.out _ ((HS.out.bsd HB1.out).trans ((Bsd.refl _ _).set _ _)) HX.out,fun h=>absurd rfl h⟩
 | false =>
  have HI:=zh hi;have HF:=zh (h1 hi);clear hi h h0 h1 hc
  go_enter Tryz.func127,Tryz.ntmps127
  go_wp2_with (go_at_call 160;refine (zX T HS.out).mono ?_;rintro x w1 ⟨rfl,hb1⟩;rw[HI.out];have HS1:=zh (HS.out.below hb1);have HI1:=zh (HF.out _ (HS.out.bsd hb1) HS1.out);clear hb1)
  go_loopw [] (fun wr=>∃r k,Hid (I wr r k)) (fun wr=>rdM C wr)
  case atStart=>exact ⟨r,k,HI1.out⟩
  case round =>
   obtain ⟨r,k,hI⟩:=hrel;have HR:=zh (HC.out.iS _ _ _ hI.out);have hz:=HR.out.zero;go_wp2_with fail;refine (HC.out.part _ _ _ hI.out).mono ?_;rintro y w2 ⟨rfl,r2,k2,e2,h1,h2,h3,h4⟩;have HR2:=zh h1;have HL2:=zh h2;have hz2:=HR2.out.zero
   by_cases he:e2=0
   ·subst he
    have HJ:=zh (h3 rfl);clear hz h1 h2 h3 h4
    cases hcm:isP ⟨#[44]⟩ r2 with
    | true =>
     have HCM:=zh hcm;obtain ⟨t,q,rfl,_,_⟩:=isP_cons hcm;clear hcm;go_wp2_with (go_at_call 160;refine (zX ⟨#[44]⟩ HR2.out).mono ?_;rintro x w3 ⟨rfl,hb3⟩;rw[HCM.out];have HB3:=zh (HR2.out.bsd hb3);have HS3:=zh (HR2.out.below hb3);obtain ⟨i,hi,c2,f2,hi2,HN⟩:=HS3.out.nxt;clear hb3);have HX:=zh (HN.out.1 _ _ _ HS3.out)
     have HNI:=zh (HC.out.comma _ _ _ _ HJ.out HCM.out (HB3.out.trans ((Bsd.refl _ _).set 2 (.int .i64 ((i:Int)+1)))) HX.out);have HM1:=zh HX.out.meas;have HM2:=zh HR.out.meas;go_roundw
     case rel=>exact ⟨q,k2,HNI.out⟩
     case measure=>rw[HM1.out,HM2.out];have:=HL2.out;rw[List.length_cons] at this;omega
    | false =>
     have HCM:=zh hcm;clear hcm;go_wp2_with (go_at_call 160;refine (zX ⟨#[44]⟩ HR2.out).mono ?_;rintro x w3 ⟨rfl,hb3⟩;rw[HCM.out];have HB3:=zh (HR2.out.bsd hb3);have HS3:=zh (HR2.out.below hb3);have hz3:=HS3.out.zero;clear hb3);refine (nrSym_any T HS3.out).mono ?_;rintro y w4 ⟨rfl,hb4,h4⟩;have HB4:=zh (HB3.out.trans hb4);have H4:=zh h4;clear hb4 h4;go_wp2
     refine bodyPost_end (results_none Tryz.results127 _ _ _) rfl ⟨rfl,?_⟩
     rcases H4.out with ⟨g1,g2⟩|⟨g1,g2⟩
     ·exact ⟨_,_,_,g2,fun _=>HC.out.fin _ _ _ _ HJ.out HCM.out g1 HB4.out g2,fun h=>absurd rfl h⟩
     ·exact ⟨_,_,_,g2,(fun h=>by cases h),fun _=>HC.out.bad _ _ _ _ HJ.out HCM.out g1 HB4.out g2⟩
   ·have HE:=zh (h4 he)
    have q1:(e2 != 0)=true:=by simp[he]
    have HNE:=zh he;clear hz h1 h2 h3 h4 he;go_wp2_with fail;refine bodyPost_ret (results_none Tryz.results127 _ _ _) rfl ⟨rfl,r2,k2,e2,HR2.out,fun h=>absurd h HNE.out,fun _=>HE.out⟩
theorem list_record1 {C:RCx} {T:ByteArray} {pa pb pc:Nat} {I J F:World→List TokD→Bool→Prop} {Er:World→Int→Prop} (hc:ListC C T 161 [.pointer (some ⟨pa,0,none⟩),.pointer (some ⟨pb,0,none⟩),.pointer (some ⟨pc,0,none⟩)] I J F Er) {w:World} {r:List TokD} {k:Bool} (h:RdS C w r k 0)
  (h0:isP T r=true→∀W',Bsd C.b w W'→RdS C W' r.tail k 0→F W' r.tail k) (h1:isP T r=false→∀W',Bsd C.b w W'→RdS C W' r k 0→I W' r k) :
  Calls Tryz.prog 127 #[.pointer (some ⟨C.b,0,none⟩),.string T,.func (.func 161) #[] #[.pointer (some ⟨pa,0,none⟩),.pointer (some ⟨pb,0,none⟩),.pointer (some ⟨pc,0,none⟩)]] w (ListP C F Er):=by
 have HC:=zh hc;have HS:=zh h
 cases hi:isP T r with
 | true =>
  have HI:=zh hi;have HF:=zh (h0 hi);obtain ⟨t,q,rfl,_,_⟩:=isP_cons hi;clear hi h h0 h1 hc
  go_enter Tryz.func127,Tryz.ntmps127
  go_wp2_with (go_at_call 160;refine (zX T HS.out).mono ?_;rintro x w1 ⟨rfl,hb1⟩;rw[HI.out];have HB1:=zh hb1;have HS1:=zh (HS.out.below hb1);obtain ⟨i,hi,c2,f2,hi2,HN⟩:=HS1.out.nxt;clear hb1)
  have HX:=zh (HN.out.1 _ _ _ HS1.out);refine bodyPost_ret (results_none Tryz.results127 _ _ _) rfl ⟨rfl,q,k,0,HX.out,fun _=>HF.out _ ((HS.out.bsd HB1.out).trans ((Bsd.refl _ _).set _ _)) HX.out,fun h=>absurd rfl h⟩
 | false =>
  have HI:=zh hi;have HF:=zh (h1 hi);clear hi h h0 h1 hc
  go_enter Tryz.func127,Tryz.ntmps127
  go_wp2_with (go_at_call 160;refine (zX T HS.out).mono ?_;rintro x w1 ⟨rfl,hb1⟩;rw[HI.out];have HS1:=zh (HS.out.below hb1);have HI1:=zh (HF.out _ (HS.out.bsd hb1) HS1.out);clear hb1)
  go_loopw [] (fun wr=>∃r k,Hid (I wr r k)) (fun wr=>rdM C wr)
  case atStart=>exact ⟨r,k,HI1.out⟩
  case round =>
   obtain ⟨r,k,hI⟩:=hrel;have HR:=zh (HC.out.iS _ _ _ hI.out);have hz:=HR.out.zero;go_wp2_with fail;refine (HC.out.part _ _ _ hI.out).mono ?_;rintro y w2 ⟨rfl,r2,k2,e2,h1,h2,h3,h4⟩;have HR2:=zh h1;have HL2:=zh h2;have hz2:=HR2.out.zero
   by_cases he:e2=0
   ·subst he
    have HJ:=zh (h3 rfl);clear hz h1 h2 h3 h4
    cases hcm:isP ⟨#[44]⟩ r2 with
    | true =>
     have HCM:=zh hcm;obtain ⟨t,q,rfl,_,_⟩:=isP_cons hcm;clear hcm;go_wp2_with (go_at_call 160;refine (zX ⟨#[44]⟩ HR2.out).mono ?_;rintro x w3 ⟨rfl,hb3⟩;rw[HCM.out];have HB3:=zh (HR2.out.bsd hb3);have HS3:=zh (HR2.out.below hb3);obtain ⟨i,hi,c2,f2,hi2,HN⟩:=HS3.out.nxt;clear hb3);have HX:=zh (HN.out.1 _ _ _ HS3.out)
     have HNI:=zh (HC.out.comma _ _ _ _ HJ.out HCM.out (HB3.out.trans ((Bsd.refl _ _).set 2 (.int .i64 ((i:Int)+1)))) HX.out);have HM1:=zh HX.out.meas;have HM2:=zh HR.out.meas;go_roundw
     case rel=>exact ⟨q,k2,HNI.out⟩
     case measure=>rw[HM1.out,HM2.out];have:=HL2.out;rw[List.length_cons] at this;omega
    | false =>
     have HCM:=zh hcm;clear hcm;go_wp2_with (go_at_call 160;refine (zX ⟨#[44]⟩ HR2.out).mono ?_;rintro x w3 ⟨rfl,hb3⟩;rw[HCM.out];have HB3:=zh (HR2.out.bsd hb3);have HS3:=zh (HR2.out.below hb3);have hz3:=HS3.out.zero;clear hb3);refine (nrSym_any T HS3.out).mono ?_;rintro y w4 ⟨rfl,hb4,h4⟩;have HB4:=zh (HB3.out.trans hb4);have H4:=zh h4;clear hb4 h4;go_wp2
     refine bodyPost_end (results_none Tryz.results127 _ _ _) rfl ⟨rfl,?_⟩
     rcases H4.out with ⟨g1,g2⟩|⟨g1,g2⟩
     ·exact ⟨_,_,_,g2,fun _=>HC.out.fin _ _ _ _ HJ.out HCM.out g1 HB4.out g2,fun h=>absurd rfl h⟩
     ·exact ⟨_,_,_,g2,(fun h=>by cases h),fun _=>HC.out.bad _ _ _ _ HJ.out HCM.out g1 HB4.out g2⟩
   ·have HE:=zh (h4 he)
    have q1:(e2 != 0)=true:=by simp[he]
    have HNE:=zh he;clear hz h1 h2 h3 h4 he;go_wp2_with fail;refine bodyPost_ret (results_none Tryz.results127 _ _ _) rfl ⟨rfl,r2,k2,e2,HR2.out,fun h=>absurd h HNE.out,fun _=>HE.out⟩
theorem setCell_comm (w:World) {a b:Addr} (h:a.block≠b.block) (u v:Value):(w.setCell a u).setCell b v=(w.setCell b v).setCell a u:=by
 have e:∀ (w1 w2:World),w1.os=w2.os→w1.tape=w2.tape→w1.output=w2.output→w1.heap=w2.heap→({ w1 with heap:=w2.heap }:World)=w1:=fun w1 w2 _ _ _ h=>by rw[←h]
 have hh:((w.setCell a u).setCell b v).heap=((w.setCell b v).setCell a u).heap:=by
  apply Array.ext_getElem?
  intro q
  by_cases h1:q=a.block
  ·rw[heap_setCell_other _ _ _ _ (by rw[h1];exact h)]
   subst h1;simp only[World.setCell,Array.getElem?_modify,if_true];rw[if_neg (fun e=>h e.symm)]
  ·rw[heap_setCell_other _ a _ _ h1]
   by_cases h2:q=b.block
   ·subst h2
    simp only[World.setCell,Array.getElem?_modify,if_true];rw[if_neg h]
   ·rw[heap_setCell_other _ _ _ _ h2,heap_setCell_other _ _ _ _ h1,heap_setCell_other _ _ _ _ h2]
 simp only[World.setCell] at hh ⊢;rw[hh]
theorem yF {g q j:Nat} (h:q≠g) (u:Value):∀ (vs:List Value) (o:Nat) (w:World),(w.setCell ⟨q,j,none⟩ u).setCells g o vs=(w.setCells g o vs).setCell ⟨q,j,none⟩ u
 | [],_,_=>rfl
 | v::vs,o,w=>by
  rw[World.setCells,World.setCells,←yF h u vs,setCell_comm w (a:=⟨q,j,none⟩) (b:=⟨g,o,none⟩) h]
theorem grown_setCells {w w':World} {row:Option Nat} {g:Nat} (hg:w.grownBy w' row) (h:row=some g∨w.heap.size≤g) (o:Nat) (vs:List Value):w.grownBy (w'.setCells g o vs) row:=by
 have hb:=yC (B:=0) (w:=w') g (Nat.zero_le _) vs o w' (Below.refl _ _);refine ⟨hb.os.trans hg.os,hb.tape.trans hg.tape,hb.output.trans hg.output,Nat.le_trans hg.size hb.size,fun k hk hr=>?_⟩
 have hne:k≠g:=fun e=>by
  subst e
  rcases h with h|h
  ·first|exact hr h.symm|exact hr h
  ·omega
 exact (zN hne vs o w').trans (hg.block k hk hr)
def yB:List Value:=[.int .i64 0,.bool false,.int .i64 0,.string ⟨#[]⟩,.int .i64 0,.slice none 0 0,.slice none 0 0,.slice none 0 0]
theorem zC_one:∀u∈yB,u.oneCell'=true:=fun u hu=>by
 unfold yB at hu;simp only[List.mem_cons,List.mem_nil_iff,or_false] at hu
 rcases hu with rfl|rfl|rfl|rfl|rfl|rfl|rfl|rfl <;> rfl
theorem vaC_len (x:VaA):x.cells.length=8:=rfl
theorem own_last {w:World} {base g c:Nat} {L:List VaA} {x:VaA} {n:Nat} (_hn:n=L.length+1) (h:w.ownsRow base 28 8 (.slice (some ⟨g,0,none⟩) n c) n (L.flatMap VaA.cells++yB)) :
  (w.setCells g (L.length * 8) x.cells).ownsRow base 28 8 (.slice (some ⟨g,0,none⟩) n c) n (L.flatMap VaA.cells++x.cells):=by
 have e1:L.flatMap VaA.cells++yB=(L.map VaA.cells++[yB]).flatten:=by rw[List.flatten_append,List.flatMap_def];simp
 have e2:L.flatMap VaA.cells++x.cells=(L.map VaA.cells++[x.cells]).flatten:=by rw[List.flatten_append,List.flatMap_def];simp
 have hl:∀cs∈L.map VaA.cells++[yB],cs.length=8:=fun cs hc=>by
  rcases List.mem_append.1 hc with k|k
  ·obtain ⟨y,_,rfl⟩:=List.mem_map.1 k
   rfl
  ·obtain rfl:cs=yB:=by simpa using k
   rfl
 have h3:=setL_flatten (k:=8) (by omega) (L.map VaA.cells++[yB]) L.length x.cells hl (vaC_len x) (by simp)
 rw[show (L.map VaA.cells++[yB]).set L.length x.cells=L.map VaA.cells++[x.cells] by
  rw[List.set_append_right _ _ (by simp)];simp] at h3
 rw[e2,←h3,←e1];exact ownsRow_setCells x.cells _ (L.length * 8) w h
theorem own_there {w:World} {base g c:Nat} {L:List VaA} {n:Nat} {xs:List Value} (hx:xs.length=8) (h:w.ownsRow base 28 8 (.slice (some ⟨g,0,none⟩) n c) n (L.flatMap VaA.cells++xs)):w.there g (L.length * 8) 8:=fun j hj=>by
 have hl:(L.flatMap VaA.cells).length=L.length * 8:=by rw[List.flatMap_def,flatten_len (k:=8) (L.map VaA.cells) (fun cs hc=>by obtain ⟨y,_,rfl⟩:=List.mem_map.1 hc;rfl),List.length_map]
 refine ⟨?_,World.ownsRow.frozenAt h (L.length * 8+j)⟩;have hj2:(L.flatMap VaA.cells++xs)[L.length * 8+j]? = some (xs[j]'(by omega)):=by
  rw[List.getElem?_append_right (by omega),hl,Nat.add_sub_cancel_left,zl (by omega)]
 have:=World.ownsRow.cells h (g:=g) rfl _ _ hj2;rw[Addr.add_mid,Nat.zero_add] at this;rw[this];rfl
theorem there_two {w:World} {g o n p j:Nat} {u:Value} (h:w.there g o n) (hp:p≠g):∀w',(w'=w∨w'=w.setCell ⟨p,j,none⟩ u)→w'.there g o n:=fun w' hw=>by
 rcases hw with rfl|rfl
 ·exact h
 ·have hb:(w.setCell ⟨p,j,none⟩ u).heap[g]? = w.heap[g]? := heap_setCell_other _ _ _ _ (by simpa using hp.symm)
  intro i hi
  rw[World.cell?_of_block (w:=w) (a:=⟨g,o+i,none⟩) hb,World.frozen?_of_block (w:=w) (a:=⟨g,o+i,none⟩) hb];exact h i hi
theorem own_kind {w:World} {base:Nat} {v:Value} {l:List VaA} (h:OwnV w base v l) {q:Nat} {cs:Array Value} {T:TypeId} {fr:Nat×Nat} (hq:w.heap[q]? = some (.cells cs T fr)) (hT:T≠28):v.ownBlock≠some q:=fun e=>by
 obtain ⟨c1,f1,e1⟩:=h.block e;rw[hq] at e1
 injection e1 with e1
 injection e1 with _ e3
 exact hT e3
theorem ownR_kind {w:World} {base:Nat} {v:Value} {l:List RawD} (h:OwnR w base v l) {q:Nat} {cs:Array Value} {T:TypeId} {fr:Nat×Nat} (hq:w.heap[q]? = some (.cells cs T fr)) (hT:T≠97):v.ownBlock≠some q:=fun e=>by
 obtain ⟨c1,f1,e1⟩:=h.block e;rw[hq] at e1
 injection e1 with e1
 injection e1 with _ e3
 exact hT e3
def VPost (C:RCx) (t:Int) (W:World) (r:List TokD) (k:Bool) (e:Int) (y:Ending) (W':World):Prop:=∃x:VaA,y = .returned (x.v.v x.A1 x.c1 x.A2 x.c2 x.A3 x.c3)∧Off (fun q=>q<W.heap.size) W' (fun u=>ValR u x.v x.A1 x.A2 x.A3)∧Bsd C.b W W' ∧
 ∃r' k' e',RdS C W' r' k' e'∧r'.length≤r.length∧(e≠0→e'=e)∧(e=0→match valR false C.s t r k with
  | .ok (v,r1,k1)=>x.v=v∧r'=r1∧k'=k1∧e'=0
  | .error e1=>e'=e1)
def ReadAt (C:RCx) (n:Nat):Prop:=∀ (t:Int) (W:World) (r:List TokD) (k:Bool) (e:Int),r.length<n→(0≤t∧t<(C.s.length:Int))→RdS C W r k e →
 Calls Tryz.prog 79 #[.pointer (some ⟨C.b,0,none⟩),.int .i64 t] W (VPost C t W r k e)
structure Vx where
 W0:World
 x:TyD
 As:zo
 cs:Nat
 Am:zo
 cm:Nat
 p:Nat
 pr:Nat
 px:Nat
 pv:Nat
structure VfS (C:RCx) (V:Vx) (W:World) (r:List TokD) (k:Bool) (e di:Int) (vk vi vr:Value) (K I:List VaA) (R:List RawD):Prop where
 rd:RdS C W r k e
 vb:VbS V.p W V.x.kind false 0 ⟨#[]⟩ di vk vi vr K I R
 fr:Bsd C.b V.W0 W
 lo:V.W0.heap.size≤V.p
 lb:C.b<V.W0.heap.size
 ty:TyR C.w0 V.x V.As V.Am
 br:W.heap[V.pr]? = some (.cells #[.pointer (some ⟨C.b,0,none⟩)] 103)
 bx:W.heap[V.px]? = some (V.x.box V.As V.cs V.Am V.cm)
 bv:V.pv=V.p∨W.heap[V.pv]? = some (.cells #[.pointer (some ⟨V.p,0,none⟩)] 172)
section
variable {C:RCx} {V:Vx} {W W':World} {r r':List TokD} {k k':Bool} {e e' di:Int} {vk vi vr:Value} {K I:List VaA} {R:List RawD}
theorem VfS.bp (h:VfS C V W r k e di vk vi vr K I R):C.b<V.p:=Nat.lt_of_lt_of_le h.lb h.lo
theorem blk_ne {w:World} {q q2:Nat} {a b:Array Value} {T T2:TypeId} {f f2:Nat×Nat} (h:w.heap[q]? = some (.cells a T f)) (h2:w.heap[q2]? = some (.cells b T2 f2)) (hT:T≠T2):q≠q2:=fun e=>by
 subst e;rw[h] at h2
 injection h2 with h2
 injection h2 with _ e3
 exact hT e3
theorem VfS.prb (h:VfS C V W r k e di vk vi vr K I R):V.pr≠C.b:=blk_ne h.br h.rd.blk (by decide)
theorem VfS.pxb (h:VfS C V W r k e di vk vi vr K I R):V.px≠C.b:=blk_ne h.bx h.rd.blk (by decide)
theorem VfS.bsd (h:VfS C V W r k e di vk vi vr K I R) (hb:Bsd C.b W W') (hr:RdS C W' r' k' e'):VfS C V W' r' k' e' di vk vi vr K I R :=
 ⟨hr,h.vb.bsd hb h.bp,h.fr.trans hb,h.lo,h.lb,h.ty,(hb.oth _ h.prb (zg.1 h.br).1).trans h.br,(hb.oth _ h.pxb (zg.1 h.bx).1).trans h.bx,
  h.bv.imp id fun g=>(hb.oth _ (blk_ne g h.rd.blk (by decide)) (zg.1 g).1).trans g⟩
theorem VfS.below (h:VfS C V W r k e di vk vi vr K I R) (hb:Below W.heap.size W W'):VfS C V W' r k e di vk vi vr K I R:=h.bsd (h.rd.bsd hb) (h.rd.below hb)
theorem VfS.hot (h:VfS C V W r k e di vk vi vr K I R) {P:World→Prop} (_hb:Bsd C.b W W') (hx:Off (fun q=>q<W.heap.size) W' P):Off (Hot V.p vk vi vr) W' P:=by
 obtain ⟨l1,l2,l3⟩:=hot_lt h.vb;refine hx.mono fun q _ hq=>?_
 rcases hq with e|e|e|e
 ·have:=h.vb.lt;omega
 ·exact (l1 q e).2
 ·exact (l2 q e).2
 ·exact (l3 q e).2
theorem VfS.rest (h:VfS C V W r k e di vk vi vr K I R) {W9:World} {di':Int} {vk' vi' vr':Value} {K' I':List VaA} {R':List RawD} (hv:VbS V.p W9 V.x.kind false 0 ⟨#[]⟩ di' vk' vi' vr' K' I' R') (hb:Below V.p W W9) (hp:∀ (q:Nat) (cs:Array Value) (T:TypeId) (fr:Nat×Nat),W.heap[q]? = some (Obj.cells cs T fr)→T≠28→T≠97→W9.heap[q]? = W.heap[q]?):VfS C V W9 r k e di' vk' vi' vr' K' I' R' :=
 ⟨⟨h.rd.ok,(hb.block _ h.bp).trans h.rd.blk,h.rd.sfx,h.rd.up.trans (hb.mono (by have:=h.bp;have:=h.rd.ok.ge;omega))⟩,hv,h.fr.up hb h.lo (Nat.le_of_lt h.bp),h.lo,h.lb,h.ty,(hp _ _ _ _ h.br (by decide) (by decide)).trans h.br,(hp _ _ _ _ h.bx (by decide) (by decide)).trans h.bx,h.bv.imp id fun g=>(hp _ _ _ _ g (by decide) (by decide)).trans g⟩
theorem VfS.item (h:VfS C V W r k e di vk vi vr K I R) {x:VaA} (hx:Off (Hot V.p vk vi vr) W fun u=>ValR u x.v x.A1 x.A2 x.A3) {w4:World} (hb4:Below W.heap.size W w4) {v8:Value} {w8:World}
  (ho:w8.ownsRow (V.p+1) 28 8 v8 (I.length+1) (I.flatMap VaA.cells++x.cells)) (hg:w4.grownBy w8 vi.ownBlock) (hv:v8.ownBlock=vi.ownBlock∨v8.ownBlock=some w4.heap.size):VfS C V (w8.setCell ⟨V.p,6,none⟩ v8) r k e di vk v8 vr K (I++[x]) R:=by
 obtain ⟨h1,h2,h3⟩:=h.vb.item hx hb4 ho hg hv;exact h.rest h1 h2 fun q cs T fr hq hT _=>h3 q (blk_ne hq h.vb.blk hT) (own_kind h.vb.oi hq hT) (zg.1 hq).1
theorem VfS.key (h:VfS C V W r k e di vk vi vr K I R) {x:VaA} (hx:Off (Hot V.p vk vi vr) W fun u=>ValR u x.v x.A1 x.A2 x.A3) {w4:World} (hb4:Below W.heap.size W w4) {v8:Value} {w8:World}
  (ho:w8.ownsRow (V.p+1) 28 8 v8 (K.length+1) (K.flatMap VaA.cells++x.cells)) (hg:w4.grownBy w8 vk.ownBlock) (hv:v8.ownBlock=vk.ownBlock∨v8.ownBlock=some w4.heap.size):VfS C V (w8.setCell ⟨V.p,5,none⟩ v8) r k e di v8 vi vr (K++[x]) I R:=by
 obtain ⟨h1,h2,h3⟩:=h.vb.key hx hb4 ho hg hv;exact h.rest h1 h2 fun q cs T fr hq hT _=>h3 q (blk_ne hq h.vb.blk hT) (own_kind h.vb.ok hq hT) (zg.1 hq).1
theorem VfS.rawA (h:VfS C V W r k e di vk vi vr K I R) {x:RawD} (hx:SOk x.data) {w4:World} (hb4:Below W.heap.size W w4) {v8:Value} {w8:World}
  (ho:w8.ownsRow (V.p+1) 97 2 v8 (R.length+1) (R.flatMap encR++encR x)) (hg:w4.grownBy w8 vr.ownBlock) (hv:v8.ownBlock=vr.ownBlock∨v8.ownBlock=some w4.heap.size):VfS C V (w8.setCell ⟨V.p,7,none⟩ v8) r k e di vk vi v8 K I (R++[x]):=by
 obtain ⟨h1,h2,h3⟩:=h.vb.rawA hx hb4 ho hg hv;exact h.rest h1 h2 fun q cs T fr hq hT hR=>h3 q (blk_ne hq h.vb.blk hT) (ownR_kind h.vb.or_ hq hR) (zg.1 hq).1
theorem VfS.p8 (h:VfS C V W r k e di vk vi vr K I R) {w8:World} {row:Option Nat} (hg:W.grownBy w8 row) (hr:row=vk.ownBlock∨row=vi.ownBlock∨row=vr.ownBlock):w8.heap[V.p]? = W.heap[V.p]? := by
 obtain ⟨l1,l2,l3⟩:=hot_lt h.vb;refine yA hg h.vb.lt fun q hq e=>?_
 rcases hr with e2|e2|e2
 ·have:=l1 q (e2▸hq);omega
 ·have:=l2 q (e2▸hq);omega
 ·have:=l3 q (e2▸hq);omega
theorem VfS.c8 (h:VfS C V W r k e di vk vi vr K I R) {w8:World} (hp:w8.heap[V.p]? = W.heap[V.p]?):(w8.cell? ⟨V.p,5,none⟩=some vk∧w8.cell? ⟨V.p,6,none⟩=some vi∧w8.cell? ⟨V.p,7,none⟩=some vr)∧w8.frozen? ⟨V.p,5,none⟩=false∧w8.frozen? ⟨V.p,6,none⟩=false∧w8.frozen? ⟨V.p,7,none⟩=false:=by
 have h1:=h.vb.cells;refine ⟨⟨?_,?_,?_⟩,?_,?_,?_⟩
 ·rw[World.cell?_of_block (w:=W) (a:=⟨V.p,5,none⟩) hp];exact h1.1.2.2.2.2.2.1
 ·rw[World.cell?_of_block (w:=W) (a:=⟨V.p,6,none⟩) hp];exact h1.1.2.2.2.2.2.2.1
 ·rw[World.cell?_of_block (w:=W) (a:=⟨V.p,7,none⟩) hp];exact h1.1.2.2.2.2.2.2.2
 ·rw[World.frozen?_of_block (w:=W) (a:=⟨V.p,5,none⟩) hp];exact h1.2 5
 ·rw[World.frozen?_of_block (w:=W) (a:=⟨V.p,6,none⟩) hp];exact h1.2 6
 ·rw[World.frozen?_of_block (w:=W) (a:=⟨V.p,7,none⟩) hp];exact h1.2 7
theorem v8_slice {w8:World} {base n:Nat} {v8:Value} {xs:List Value} (ho:w8.ownsRow base 28 8 v8 (n+1) xs):∃g c,v8 = .slice (some ⟨g,0,none⟩) (n+1) c∧base≤g:=by
 rcases ho.2 with ⟨_,h0⟩|⟨g,cap,cur,hv,hg0,_⟩
 ·omega
 ·exact ⟨g,cap,hv,hg0⟩
end
def ItP (C:RCx) (V:Vx) (t:Int) (r:List TokD) (k:Bool) (e di:Int) (vk vr:Value) (K I:List VaA) (R:List RawD) (W':World):Prop :=
 ∃x vi' r' k' e',VfS C V W' r' k' e' di vk vi' vr K (I++[x]) R∧r'.length≤r.length∧(e≠0→e'=e)∧(e=0→match valR false C.s t r k with
  | .ok (v,r1,k1)=>x.v=v∧r'=r1∧k'=k1∧e'=0
  | .error e1=>e'=e1)
def KyP (C:RCx) (V:Vx) (t:Int) (r:List TokD) (k:Bool) (e di:Int) (vi vr:Value) (K I:List VaA) (R:List RawD) (W':World):Prop :=
 ∃x vk' r' k' e',VfS C V W' r' k' e' di vk' vi vr (K++[x]) I R∧r'.length≤r.length∧(e≠0→e'=e)∧(e=0→match valR false C.s t r k with
  | .ok (v,r1,k1)=>x.v=v∧r'=r1∧k'=k1∧e'=0
  | .error e1=>e'=e1)
theorem val_infN:(Tryz.prog.info? 28).map (·.size)=some 8:=by kernel_rfl
theorem vaA_all (x:VaA):(x.cells.toArray).all (·.oneCell')=true:=all_oneCell_toArray (vaA_one x)
theorem range_bsd {b:Nat} {w w':World} {q o:Nat} {cs:List Value} (hb:Bsd b w w') (hq:q≠b) (h:w.rangeAt q o cs):w'.rangeAt q o cs:=fun j u hj=>by
 have:=h j u hj;rw[World.cell?_of_block (w:=w) (w':=w') (a:=⟨q,o+j,none⟩) (hb.oth q hq (zL this))];exact this
section
variable {C:RCx} {V:Vx} {W W':World} {r r':List TokD} {k k':Bool} {e e' di:Int} {vk vi vr:Value} {K I:List VaA} {R:List RawD}
theorem VfS.reads (h:VfS C V W r k e di vk vi vr K I R) (hb:Bsd C.b W W'):(W'.cell? ⟨V.p,5,none⟩=some vk∧W'.cell? ⟨V.p,6,none⟩=some vi∧W'.cell? ⟨V.p,7,none⟩=some vr∧W'.cell? ⟨V.pr,0,none⟩=some (.pointer (some ⟨C.b,0,none⟩)) ∧
  W'.cell? ⟨V.px,6,none⟩=some (.slice V.Am V.x.mems.length V.cm)∧W'.cell? ⟨V.px,7,none⟩=some (.int .i64 V.x.key)∧W'.cell? ⟨V.px,8,none⟩=some (.int .i64 V.x.elem))∧Hid (Bsd C.b W W'):=by
 have h1:=(h.vb.bsd hb h.bp).cells.1;have h2:=(hb.oth _ h.prb (zg.1 h.br).1).trans h.br;have h3:=(hb.oth _ h.pxb (zg.1 h.bx).1).trans h.bx;refine ⟨⟨h1.2.2.2.2.2.1,h1.2.2.2.2.2.2.1,h1.2.2.2.2.2.2.2,?_,?_,?_,?_⟩,hb⟩
 ·rw[cell_of_row _ _ _ _ _ _ h2];rfl
 ·rw[cell_of_row _ _ _ _ _ _ h3];rfl
 ·rw[cell_of_row _ _ _ _ _ _ h3];rfl
 ·rw[cell_of_row _ _ _ _ _ _ h3];rfl
theorem VfS.readB (h:VfS C V W r k e di vk vi vr K I R) (hp:W'.heap[V.p]? = W.heap[V.p]?) (hq:∀ (q:Nat) (cs:Array Value) (T:TypeId) (fr:Nat×Nat),W.heap[q]? = some (Obj.cells cs T fr)→T≠28→T≠97→W'.heap[q]? = W.heap[q]?):(W'.cell? ⟨V.p,5,none⟩=some vk∧W'.cell? ⟨V.p,6,none⟩=some vi∧W'.cell? ⟨V.p,7,none⟩=some vr∧W'.cell? ⟨V.pr,0,none⟩=some (.pointer (some ⟨C.b,0,none⟩)) ∧
  W'.cell? ⟨V.px,6,none⟩=some (.slice V.Am V.x.mems.length V.cm)∧W'.cell? ⟨V.px,7,none⟩=some (.int .i64 V.x.key)∧W'.cell? ⟨V.px,8,none⟩=some (.int .i64 V.x.elem))∧(V.pv≠V.p→W'.cell? ⟨V.pv,0,none⟩=some (.pointer (some ⟨V.p,0,none⟩))):=by
 obtain ⟨⟨h5,h6,h7⟩,_⟩:=h.c8 hp;have h2:=(hq _ _ _ _ h.br (by decide) (by decide)).trans h.br
 have h3:=(hq _ _ _ _ h.bx (by decide) (by decide)).trans h.bx
 refine ⟨⟨h5,h6,h7,?_,?_,?_,?_⟩,fun hv=>?_⟩
 ·rw[cell_of_row _ _ _ _ _ _ h2];rfl
 ·rw[cell_of_row _ _ _ _ _ _ h3];rfl
 ·rw[cell_of_row _ _ _ _ _ _ h3];rfl
 ·rw[cell_of_row _ _ _ _ _ _ h3];rfl
 ·have g:=h.bv.resolve_left hv
  rw[cell_of_row _ _ _ _ _ _ ((hq _ _ _ _ g (by decide) (by decide)).trans g)];rfl
theorem VfS.grownQ (h:VfS C V W r k e di vk vi vr K I R) {w8:World} {row:Option Nat} (hg:W.grownBy w8 row) (hr:row=vk.ownBlock∨row=vi.ownBlock∨row=vr.ownBlock):∀ (q:Nat) (cs:Array Value) (T:TypeId) (fr:Nat×Nat),W.heap[q]? = some (Obj.cells cs T fr)→T≠28→T≠97→w8.heap[q]? = W.heap[q]? := fun q cs T fr hq h1 h2=>by
 refine yA hg (zg.1 hq).1 fun q2 hq2 e=>?_
 subst e
 rcases hr with e|e|e
 ·exact own_kind h.vb.ok hq h1 (e▸hq2)
 ·exact own_kind h.vb.oi hq h1 (e▸hq2)
 ·exact ownR_kind h.vb.or_ hq h2 (e▸hq2)
theorem VfS.itemZ (h:VfS C V W r k e di vk vi vr K I R) {x:VaA} (hx:Off (Hot V.p vk vi vr) W fun u=>ValR u x.v x.A1 x.A2 x.A3) {w4:World} (hb4:Below W.heap.size W w4) {g c:Nat} {w8:World}
  (ho:w8.ownsRow (V.p+1) 28 8 (.slice (some ⟨g,0,none⟩) (I.length+1) c) (I.length+1) (I.flatMap VaA.cells++yB)) (hg:w4.grownBy w8 vi.ownBlock) (hv:some g=vi.ownBlock∨some g=some w4.heap.size) :
  VfS C V ((w8.setCells g (I.length * 8) x.cells).setCell ⟨V.p,6,none⟩ (.slice (some ⟨g,0,none⟩) (I.length+1) c)) r k e di vk (.slice (some ⟨g,0,none⟩) (I.length+1) c) vr K (I++[x]) R :=
 h.item hx hb4 (own_last rfl ho) (grown_setCells hg (hv.imp (fun e=>e.symm) fun e=>by injection e with e;omega) _ _) hv
theorem VfS.keyZ (h:VfS C V W r k e di vk vi vr K I R) {x:VaA} (hx:Off (Hot V.p vk vi vr) W fun u=>ValR u x.v x.A1 x.A2 x.A3) {w4:World} (hb4:Below W.heap.size W w4) {g c:Nat} {w8:World}
  (ho:w8.ownsRow (V.p+1) 28 8 (.slice (some ⟨g,0,none⟩) (K.length+1) c) (K.length+1) (K.flatMap VaA.cells++yB)) (hg:w4.grownBy w8 vk.ownBlock) (hv:some g=vk.ownBlock∨some g=some w4.heap.size) :
  VfS C V ((w8.setCells g (K.length * 8) x.cells).setCell ⟨V.p,5,none⟩ (.slice (some ⟨g,0,none⟩) (K.length+1) c)) r k e di (.slice (some ⟨g,0,none⟩) (K.length+1) c) vi vr (K++[x]) I R :=
 h.key hx hb4 (own_last rfl ho) (grown_setCells hg (hv.imp (fun e=>e.symm) fun e=>by injection e with e;omega) _ _) hv
end
abbrev zO:Obj := .cells #[.int .i64 0,.bool false,.int .i64 0,.string ⟨#[]⟩,.int .i64 0,.slice none 0 0,.slice none 0 0,.slice none 0 0] 28
theorem value1_any {C:RCx} {V:Vx} {n:Nat} (ih:ReadAt C n) {W:World} {r:List TokD} {k:Bool} {e di:Int} {vk vi vr:Value} {K I:List VaA} {R:List RawD} (h:VfS C V W r k e di vk vi vr K I R) (hn:r.length<n) (he:0≤V.x.elem∧V.x.elem<(C.s.length:Int)) (hl:I.length≤1000000) :
  Calls Tryz.prog 128 #[.pointer (some ⟨V.p,0,none⟩),.pointer (some ⟨V.pr,0,none⟩),.pointer (some ⟨V.px,0,none⟩)] W fun y W'=>y = .returned (.tuple #[])∧ItP C V V.x.elem r k e di vk vr K I R W':=by
 obtain ⟨A2,c2,rfl,_,_,_⟩:=h.vb.oi.reads;have HV:=zh h;have HN:=zh hn;have HEL:=zh he;have HIH:=zh ih;have HLL:=zh hl;have HRD:=zh (fun (w':World) (hb:Bsd C.b W w')=>h.reads hb)
 have HLB:Hid (C.b<W.heap.size):=h.rd.lt;have HZP:Hid (V.p+1≤W.heap.size):=h.vb.lt;clear h ih hn he hl
 go_enter Tryz.func128,Tryz.ntmps128
 refine yE (S:=(fun w'=>(w'.cell? ⟨V.p,5,none⟩=some vk∧w'.cell? ⟨V.p,6,none⟩=some (.slice A2 I.length c2)∧w'.cell? ⟨V.p,7,none⟩=some vr∧w'.cell? ⟨V.pr,0,none⟩=some (.pointer (some ⟨C.b,0,none⟩))∧w'.cell? ⟨V.px,6,none⟩=some (.slice V.Am V.x.mems.length V.cm)∧w'.cell? ⟨V.px,7,none⟩=some (.int .i64 V.x.key)∧w'.cell? ⟨V.px,8,none⟩=some (.int .i64 V.x.elem))∧Hid (Bsd C.b W w'))) 8 (by kernel_rfl) ?_ (fun zH_=>?_)
 ·(try dsimp only);exact HRD.out _ (Bsd.of (zC (Below.refl _ _) 1) (Nat.le_of_lt HLB.out))
 refine tC 0 ?_;refine tB 1 ?_;refine tB 2 ?_;refine tC 3 ?_;refine tB 4 ?_;refine tC 6 ?_;try simp only[ps]
 refine zV (rs:=[5,7]) (by kernel_rfl) (by simp) ?_
 refine (AllReadyB.cons rfl (fun K hK=>?_) (AllReadyB.cons rfl (fun K hK=>?_) AllReadyB.nil))
 ·
  go_simp
  (refine (HIH.out V.x.elem _ r k e HN.out HEL.out (HV.out.below (zC (Below.refl _ _) 1)).rd).mono ?_;rintro y w6 ⟨x,rfl,g1,g2,r6,k6,e6,g3,g4,g5,g6⟩;have HB6:=zh ((Bsd.of (zC (Below.refl W.heap.size W) 1) (Nat.le_of_lt HLB.out)).trans g2);have HX6:=zh (HV.out.hot HB6.out g1);have HV6:=zh (HV.out.bsd HB6.out g3);have HG4:=zh g4;have HG5:=zh g5;have HG6:=zh g6;clear g1 g2 g3 g4 g5 g6)
  refine hK.out _ _ ?_ (fun zH_=>?_)
  ·(try dsimp only);exact HRD.out _ HB6.out
  clear hK K;refine tS 7 (fun K hK=>?_)
  go_simp
  refine hK.out _ _ ?_ (fun zH_=>?_)
  ·(try dsimp only);exact HRD.out _ (HB6.out.below (zD _ _) HLB.out)
  clear hK K;refine zV (rs:=[8]) (by kernel_rfl) (by simp) ?_
  refine AllReadyB.last rfl (by kernel_rfl) (fun K hK=>?_) AllReadyB.nil
  (have HW6:=zh (HV6.out.below (zD w6 zO));have hll:=HLL.out;refine yH elem_val (by rfl) (.tmp 4) (.tmp 10) (by rfl) (V.p+1) (.slice A2 I.length c2) I.length (I.flatMap VaA.cells) (by rfl) HW6.out.vb.oi w6.heap.size 0 1 1 yB (by rfl) rfl (zR w6 yB 28) zC_one (by omega) (by omega) HW6.out.vb.lt ?_;intro v8 w8 ho8 hg8 hv8;obtain ⟨g,c8,rfl,hgg⟩:=v8_slice ho8;have HE8:=zh (HV6.out.itemZ HX6.out (zD w6 zO) ho8 hg8 hv8);have HGP:Hid (V.p≠g):=zh (by omega);have HQ8:=zh HW6.out;have HP8:=zh (HW6.out.p8 hg8 (.inr (.inl rfl)));obtain ⟨⟨_,c6,_⟩,_,f6,_⟩:=HW6.out.c8 HP8.out;have HTH:=zh (there_two (j:=6) (u := .slice (some ⟨g,0,none⟩) (I.length+1) c8) (own_there (xs:=yB) rfl ho8) HGP.out);have hlt1:(I.length:Int)<(I.length:Int)+1:=(by omega);have hlt0:(0:Int)≤(I.length:Int):=(by omega);clear hll ho8 hg8 hv8 hgg)
  refine hK.out _ _ ?_;clear hK K
  (try clear zH_)
  refine tkA 9 ?v6 rfl (by kernel_rfl) (.inl ⟨by rfl,?y6⟩) ?_
  case y6=>(intro w;go_simp;try with_reducible rfl)
  refine tkA 11 ?v7 rfl (by kernel_rfl) (.inl ⟨by rfl,?y7⟩) ?_
  case y7=>(intro w;go_simp;try with_reducible rfl)
  refine wpAny_ready (rs:=[10,12]) (by kernel_rfl) (by simp) ?_
  refine (AllReady.cons rfl (fun K hK=>?_) (AllReady.cons rfl (fun K hK=>?_) AllReady.nil))
  ·
   (simp only[List.getElem_toArray,List.getElem_cons_zero,List.getElem_cons_succ];rw[if_pos (by rfl)];refine wp_store_mid 28 (.tmp 12) (.tmp 8) rfl (g) (I.length * 8) (x.cells.toArray) (by rfl) (by rfl) ?_ ?_ ?_ ?_;(exact HTH.out _ (by simp));(exact val_infN);(exact vaA_all x))
   refine hK _ _ ?_;clear hK K;try simp only[ps]
   (try rw[yF HGP.out]);(try (have HC10:=zh (VfS.c8 HQ8.out ((zN (w:=w8) HGP.out x.cells (I.length * 8)).trans HP8.out));generalize w8.setCells g (I.length * 8) x.cells=w10 at *;clear c6 f6;obtain ⟨⟨_,c6,_⟩,_,f6,_⟩:=HC10.out))
   refine wpAny_ready (rs:=[12]) (by kernel_rfl) (by simp) ?_
   refine (AllReady.cons rfl (fun K hK=>?_) AllReady.nil)
   go_simp
   refine hK _ _ ?_;clear hK K;refine wpAny_done (by kernel_rfl) ?_ _
   (exact bodyPost_end (results_none Tryz.results128 _ _ _) rfl ⟨rfl,x,_,r6,k6,e6,HE8.out,HG4.out,HG5.out,HG6.out⟩)
  ·
   go_simp
   refine hK _ _ ?_;clear hK K;refine wpAny_ready (rs:=[10]) (by kernel_rfl) (by simp) ?_
   refine (AllReady.cons rfl (fun K hK=>?_) AllReady.nil)
   (simp only[List.getElem_toArray,List.getElem_cons_zero,List.getElem_cons_succ];rw[if_pos (by rfl)];refine wp_store_mid 28 (.tmp 12) (.tmp 8) rfl (g) (I.length * 8) (x.cells.toArray) (by rfl) (by rfl) ?_ ?_ ?_ ?_;(exact HTH.out _ (by simp));(exact val_infN);(exact vaA_all x))
   refine hK _ _ ?_;clear hK K
   (try rw[yF HGP.out]);(try (have HC10:=zh (VfS.c8 HQ8.out ((zN (w:=w8) HGP.out x.cells (I.length * 8)).trans HP8.out));generalize w8.setCells g (I.length * 8) x.cells=w10 at *;clear c6 f6;obtain ⟨⟨_,c6,_⟩,_,f6,_⟩:=HC10.out))
   refine wpAny_done (by kernel_rfl) ?_ _
   (exact bodyPost_end (results_none Tryz.results128 _ _ _) rfl ⟨rfl,x,_,r6,k6,e6,HE8.out,HG4.out,HG5.out,HG6.out⟩)
 ·
  go_simp
  refine hK.out _ _ ?_ (fun zH_=>?_)
  ·(try dsimp only);exact HRD.out _ (Bsd.of (zB (zC (Below.refl _ _) 1) (zD _ _)) (Nat.le_of_lt HLB.out))
  clear hK K;refine tS 5 (fun K hK=>?_)
  go_simp
  (refine (HIH.out V.x.elem _ r k e HN.out HEL.out (HV.out.below (zB (zC (Below.refl _ _) 1) (zD _ zO))).rd).mono ?_;rintro y w6 ⟨x,rfl,g1,g2,r6,k6,e6,g3,g4,g5,g6⟩;have HB6:=zh ((Bsd.of (zB (zC (Below.refl W.heap.size W) 1) (zD _ zO)) (Nat.le_of_lt HLB.out)).trans g2);have HX6:=zh (HV.out.hot HB6.out (g1.mono fun q _ hq=>by have hz:((W.drewN 1).alloc zO).heap.size=W.heap.size+1:=(by simp);show q<_;omega));have HV6:=zh (HV.out.bsd HB6.out g3);have HRN6:=zh (range_bsd g2 (by have:=HLB.out;show W.heap.size≠_;omega) (zR (W.drewN 1) yB 28));have HG4:=zh g4;have HG5:=zh g5;have HG6:=zh g6;clear g1 g2 g3 g4 g5 g6)
  refine hK.out _ _ ?_ (fun zH_=>?_)
  ·(try dsimp only);exact HRD.out _ HB6.out
  clear hK K;refine zV (rs:=[8]) (by kernel_rfl) (by simp) ?_
  refine AllReadyB.last rfl (by kernel_rfl) (fun K hK=>?_) AllReadyB.nil
  (have hll:=HLL.out;refine yH elem_val (by rfl) (.tmp 4) (.tmp 10) (by rfl) (V.p+1) (.slice A2 I.length c2) I.length (I.flatMap VaA.cells) (by rfl) HV6.out.vb.oi W.heap.size 0 1 1 yB (by rfl) rfl HRN6.out zC_one (by omega) (by omega) HV6.out.vb.lt ?_;intro v8 w8 ho8 hg8 hv8;obtain ⟨g,c8,rfl,hgg⟩:=v8_slice ho8;have HE8:=zh (HV6.out.itemZ HX6.out (Below.refl _ _) ho8 hg8 hv8);have HGP:Hid (V.p≠g):=zh (by omega);have HQ8:=zh HV6.out;have HP8:=zh (HV6.out.p8 hg8 (.inr (.inl rfl)));obtain ⟨⟨_,c6,_⟩,_,f6,_⟩:=HV6.out.c8 HP8.out;have HTH:=zh (there_two (j:=6) (u := .slice (some ⟨g,0,none⟩) (I.length+1) c8) (own_there (xs:=yB) rfl ho8) HGP.out);have hlt1:(I.length:Int)<(I.length:Int)+1:=(by omega);have hlt0:(0:Int)≤(I.length:Int):=(by omega);clear hll ho8 hg8 hv8 hgg)
  refine hK.out _ _ ?_;clear hK K
  (try clear zH_)
  try simp only[ps]
  refine tkA 9 ?v8 rfl (by kernel_rfl) (.inl ⟨by rfl,?y8⟩) ?_
  case y8=>(intro w;go_simp;try with_reducible rfl)
  refine tkA 11 ?v9 rfl (by kernel_rfl) (.inl ⟨by rfl,?y9⟩) ?_
  case y9=>(intro w;go_simp;try with_reducible rfl)
  refine wpAny_ready (rs:=[10,12]) (by kernel_rfl) (by simp) ?_
  refine (AllReady.cons rfl (fun K hK=>?_) (AllReady.cons rfl (fun K hK=>?_) AllReady.nil))
  ·
   (simp only[List.getElem_toArray,List.getElem_cons_zero,List.getElem_cons_succ];rw[if_pos (by rfl)];refine wp_store_mid 28 (.tmp 12) (.tmp 8) rfl (g) (I.length * 8) (x.cells.toArray) (by rfl) (by rfl) ?_ ?_ ?_ ?_;(exact HTH.out _ (by simp));(exact val_infN);(exact vaA_all x))
   refine hK _ _ ?_;clear hK K
   (try rw[yF HGP.out]);(try (have HC10:=zh (VfS.c8 HQ8.out ((zN (w:=w8) HGP.out x.cells (I.length * 8)).trans HP8.out));generalize w8.setCells g (I.length * 8) x.cells=w10 at *;clear c6 f6;obtain ⟨⟨_,c6,_⟩,_,f6,_⟩:=HC10.out))
   refine wpAny_ready (rs:=[12]) (by kernel_rfl) (by simp) ?_
   refine (AllReady.cons rfl (fun K hK=>?_) AllReady.nil)
   go_simp
   refine hK _ _ ?_;clear hK K;refine wpAny_done (by kernel_rfl) ?_ _
   (exact bodyPost_end (results_none Tryz.results128 _ _ _) rfl ⟨rfl,x,_,r6,k6,e6,HE8.out,HG4.out,HG5.out,HG6.out⟩)
  ·
   go_simp
   refine hK _ _ ?_;clear hK K;refine wpAny_ready (rs:=[10]) (by kernel_rfl) (by simp) ?_
   refine (AllReady.cons rfl (fun K hK=>?_) AllReady.nil)
   (simp only[List.getElem_toArray,List.getElem_cons_zero,List.getElem_cons_succ];rw[if_pos (by rfl)];refine wp_store_mid 28 (.tmp 12) (.tmp 8) rfl (g) (I.length * 8) (x.cells.toArray) (by rfl) (by rfl) ?_ ?_ ?_ ?_;(exact HTH.out _ (by simp));(exact val_infN);(exact vaA_all x))
   refine hK _ _ ?_;clear hK K;try simp only[ps]
   (try rw[yF HGP.out]);(try (have HC10:=zh (VfS.c8 HQ8.out ((zN (w:=w8) HGP.out x.cells (I.length * 8)).trans HP8.out));generalize w8.setCells g (I.length * 8) x.cells=w10 at *;clear c6 f6;obtain ⟨⟨_,c6,_⟩,_,f6,_⟩:=HC10.out))
   refine wpAny_done (by kernel_rfl) ?_ _
   (exact bodyPost_end (results_none Tryz.results128 _ _ _) rfl ⟨rfl,x,_,r6,k6,e6,HE8.out,HG4.out,HG5.out,HG6.out⟩)
theorem VfS.readV {C:RCx} {V:Vx} {W W':World} {r:List TokD} {k:Bool} {e di:Int} {vk vi vr:Value} {K I:List VaA} {R:List RawD} (h:VfS C V W r k e di vk vi vr K I R) (hp:V.pv≠V.p) (hb:Bsd C.b W W'):W'.cell? ⟨V.pv,0,none⟩=some (.pointer (some ⟨V.p,0,none⟩)):=by
 have g:=h.bv.resolve_left hp;rw[cell_of_row _ _ _ _ _ _ ((hb.oth _ (blk_ne g h.rd.blk (by decide)) (zg.1 g).1).trans g)];rfl
def EnP (C:RCx) (V:Vx) (r:List TokD) (k:Bool) (di:Int) (vr:Value) (K I:List VaA) (R:List RawD) (W':World):Prop :=
 ∃x y vk' vi' r' k' e',VfS C V W' r' k' e' di vk' vi' vr (K++[x]) (I++[y]) R∧r'.length≤r.length∧(match entrP (valR false C.s) V.x r k with
  | .ok (v,r1,k1)=>x.v=v.1∧y.v=v.2∧r'=r1∧k'=k1∧e'=0
  | .error e1=>e'=e1)
def SyQ (T:ByteArray) (r2:List TokD) (e2:Int) (r':List TokD) (e':Int):Prop:=r'.length≤r2.length∧((e2≠0∧r'=r2∧e'=e2)∨(e2=0∧((isP T r2=true∧r'=r2.tail∧e'=0)∨(isP T r2=false∧e'=2))))
theorem syQ_no {T:ByteArray} {r:List TokD} {e:Int} (h:e≠0):SyQ T r e r e:=⟨Nat.le_refl _,.inl ⟨h,rfl,rfl⟩⟩
theorem syQ_of {C:RCx} {T:ByteArray} {w w':World} {r:List TokD} {k:Bool} {y:Ending} (h:SymP C T w r k 0 y w'):Bsd C.b w w'∧∃r' e',RdS C w' r' k e'∧SyQ T r 0 r' e':=by
 obtain ⟨_,hb,h⟩:=h;refine ⟨hb,?_⟩
 rcases h with ⟨h1,h2⟩|⟨h1,h2⟩
 ·exact ⟨_,_,h2,by simp,.inr ⟨rfl,.inl ⟨h1,rfl,rfl⟩⟩⟩
 ·exact ⟨_,_,h2,Nat.le_refl _,.inr ⟨rfl,.inr ⟨h1,rfl⟩⟩⟩
theorem syQ_sy {T:ByteArray} {r2 r':List TokD} {e':Int} (h:SyQ T r2 0 r' e'):match syP T r2 with
  | .ok l=>r'=l∧e'=0
  | .error e1=>e'=e1∧e'≠0:=by
 unfold syP
 rcases h.2 with ⟨h1,_⟩|⟨_,⟨h1,h2,h3⟩|⟨h1,h2⟩⟩
 ·exact absurd rfl h1
 ·rw[if_pos h1];exact ⟨h2,h3⟩
 ·rw[if_neg (by rw[h1];simp)];exact ⟨h2,by rw[h2];decide⟩
theorem en_fin {C:RCx} {V:Vx} {r:List TokD} {k:Bool} {di:Int} {vr:Value} {KL I:List VaA} {R:List RawD} {x:VaA} {vk2:Value} {r2:List TokD} {k2:Bool} {e2:Int} (hr2:r2.length≤r.length)
  (hm2:match valR false C.s V.x.key r k with
   | .ok (v,r1,k1)=>x.v=v∧r2=r1∧k2=k1∧e2=0
   | .error e1=>e2=e1) {r4:List TokD} {e4:Int} (ha:SyQ ⟨#[45,62]⟩ r2 e2 r4 e4) {y:VaA} {vi':Value} {r':List TokD} {k':Bool} {e':Int} {W':World} (h:VfS C V W' r' k' e' di vk2 vi' vr (KL++[x]) (I++[y]) R) (hl:r'.length≤r4.length) (hn:e4≠0→e'=e4)
  (hm:e4=0→match valR false C.s V.x.elem r4 k2 with
   | .ok (v,r1,k1)=>y.v=v∧r'=r1∧k'=k1∧e'=0
   | .error e1=>e'=e1):EnP C V r k di vr KL I R W':=by
 refine ⟨x,y,_,_,r',k',e',h,by have:=ha.1;omega,?_⟩
 unfold entrP
 cases hv:valR false C.s V.x.key r k with
 | error e1 =>
  rw[hv] at hm2;simp only at hm2;subst hm2;have hz:e2≠0:=fun e=>valR_nz false C.s V.x.key r k (e▸hv)
  rcases ha.2 with ⟨_,_,h3⟩|⟨h1,_⟩
  ·show e'=e2
   rw[hn (by omega),h3]
  ·exact absurd h1 hz
 | ok p =>
  obtain ⟨v,r1,k1⟩:=p;rw[hv] at hm2;obtain ⟨g1,rfl,rfl,rfl⟩:=hm2;rw[zM];have hs:=syQ_sy ha;simp only
  cases hsy:syP ⟨#[45,62]⟩ r2 with
  | error e1 =>
   rw[hsy] at hs
   show e'=e1
   rw[←hs.1];exact hn hs.2
  | ok l =>
   rw[hsy] at hs;obtain ⟨rfl,rfl⟩:=hs;have hm:=hm rfl;rw[zM]
   cases hw:valR false C.s V.x.elem r4 k2 with
   | error e1=>rw[hw] at hm;exact hm
   | ok q =>
    obtain ⟨v2,r5,k5⟩:=q;rw[hw] at hm;rw[zM];exact ⟨g1,hm⟩
theorem entries1_any {C:RCx} {V:Vx} {n:Nat} (ih:ReadAt C n) {W:World} {r:List TokD} {k:Bool} {di:Int} {vk vi vr:Value} {KL I:List VaA} {R:List RawD} (h:VfS C V W r k 0 di vk vi vr KL I R) (hpv:V.pv≠V.p) (hn:r.length<n)
  (he1:0≤V.x.key∧V.x.key<(C.s.length:Int)) (he:0≤V.x.elem∧V.x.elem<(C.s.length:Int)) (hk:KL.length≤1000000) (hl:I.length≤1000000) :
  Calls Tryz.prog 162 #[.pointer (some ⟨V.pv,0,none⟩),.pointer (some ⟨V.pr,0,none⟩),.pointer (some ⟨V.px,0,none⟩)] W fun y W'=>y = .returned (.tuple #[])∧EnP C V r k di vr KL I R W':=by
 obtain ⟨A1,c1,rfl,_,_,_⟩:=h.vb.ok.reads;obtain ⟨e,he0⟩:∃e:Int,e=0:=⟨0,rfl⟩;rw[←he0] at h;have HE0:=zh he0;have HV:=zh h;have HPV:=zh hpv;have HN1:=zh hn;have HEL1:=zh he1;have HEL4:=zh he;have HIH:=zh ih;have HLL1:=zh hk;have HLL4:=zh hl;clear h ih hn he he1 hl hk hpv he0
 go_enter Tryz.func162,Tryz.ntmps162
 go_upto_region 0 with fail
 go_cut [4] (fun s wx=>∃b0:Bool,s = .bool b0∧Hid (Below W.heap.size W wx))
 case first =>
  go_region <;> (go_wp2;go_meet;exact ⟨_,rfl,zC (zD W _) 1⟩)
 case rest =>
 obtain ⟨b0,rfl,hb⟩:=hcut;obtain ⟨W1,rfl⟩:∃W:World,W=wc:=⟨_,rfl⟩;have HV1:=zh (HV.out.below hb.out);have HF1:=zh (HV.out.rd.bsd hb.out);clear hb HV;have HLB1:Hid (C.b<W1.heap.size):=HV1.out.rd.lt;have HRD1:=zh (fun (w':World) (hb:Bsd C.b W1 w')=>And.intro (HV1.out.reads hb) (HV1.out.readV HPV.out hb))
 go_upto_if 4 with fail
 go_cut [] (fun wx=>Hid (KyP C V V.x.key r k e di vi vr KL I R wx))
 case first =>
  cases b0 with
  | true =>
   go_upto_region 1 with fail
   refine yE (S:=(fun w'=>((w'.cell? ⟨V.p,5,none⟩=some (.slice A1 KL.length c1)∧w'.cell? ⟨V.p,6,none⟩=some vi∧w'.cell? ⟨V.p,7,none⟩=some vr∧w'.cell? ⟨V.pr,0,none⟩=some (.pointer (some ⟨C.b,0,none⟩))∧w'.cell? ⟨V.px,6,none⟩=some (.slice V.Am V.x.mems.length V.cm)∧w'.cell? ⟨V.px,7,none⟩=some (.int .i64 V.x.key)∧w'.cell? ⟨V.px,8,none⟩=some (.int .i64 V.x.elem))∧Hid (Bsd C.b W1 w'))∧(w'.cell? ⟨V.pv,0,none⟩=some (.pointer (some ⟨V.p,0,none⟩))))) 10 (by kernel_rfl) ?_ (fun zH_=>?_)
   ·(try dsimp only);exact HRD1.out _ (Bsd.of (zC (Below.refl _ _) 1) (Nat.le_of_lt HLB1.out))
   refine tB 0 ?_;refine tC 1 ?_;refine tC 2 ?_;refine tB 3 ?_;refine tB 4 ?_;refine tC 5 ?_;try simp only[ps]
   refine tB 6 ?_;refine tC 8 ?_;refine zV (rs:=[7,9]) (by kernel_rfl) (by simp) ?_
   refine (AllReadyB.cons rfl (fun K hK=>?_) (AllReadyB.cons rfl (fun K hK=>?_) AllReadyB.nil))
   ·
    go_simp
    (refine (HIH.out V.x.key _ r k e HN1.out HEL1.out (HV1.out.below (zC (Below.refl W1.heap.size W1) 1)).rd).mono ?_;rintro y w6 ⟨x,rfl,g1,g2,r6,k6,e6,g3,g4,g5,g6⟩;have HB6:=zh ((Bsd.of (zC (Below.refl W1.heap.size W1) 1) (Nat.le_of_lt HLB1.out)).trans g2);have HX6:=zh (HV1.out.hot HB6.out g1);have HV6:=zh (HV1.out.bsd HB6.out g3);have HG4:=zh g4;have HG5:=zh g5;have HG6:=zh g6;clear g1 g2 g3 g4 g5 g6)
    refine hK.out _ _ ?_ (fun zH_=>?_)
    ·(try dsimp only);exact HRD1.out _ HB6.out
    clear hK K;refine tS 9 (fun K hK=>?_)
    go_simp
    refine hK.out _ _ ?_ (fun zH_=>?_)
    ·(try dsimp only);exact HRD1.out _ (HB6.out.below (zD _ _) HLB1.out)
    clear hK K;refine zV (rs:=[10]) (by kernel_rfl) (by simp) ?_
    refine AllReadyB.last rfl (by kernel_rfl) (fun K hK=>?_) AllReadyB.nil
    (have HW6:=zh (HV6.out.below (zD w6 zO));have hll:=HLL1.out;refine yH elem_val (by rfl) (.tmp 8) (.tmp 14) (by rfl) (V.p+1) (.slice A1 KL.length c1) KL.length (KL.flatMap VaA.cells) (by rfl) HW6.out.vb.ok w6.heap.size 0 1 1 yB (by rfl) rfl (zR w6 yB 28) zC_one (by omega) (by omega) HW6.out.vb.lt ?_;intro v8 w8 ho8 hg8 hv8;obtain ⟨g,c8,rfl,hgg⟩:=v8_slice ho8;have HE8:=zh (HV6.out.keyZ HX6.out (zD w6 zO) ho8 hg8 hv8);have HGP:Hid (V.p≠g):=zh (by omega);have HP8:=zh (HW6.out.p8 hg8 (.inl rfl));obtain ⟨⟨c5,_,_⟩,f5,_,_⟩:=HW6.out.c8 HP8.out;have HTH:=zh (there_two (j:=5) (u := .slice (some ⟨g,0,none⟩) (KL.length+1) c8) (own_there (xs:=yB) rfl ho8) HGP.out);have hlt1:(KL.length:Int)<(KL.length:Int)+1:=(by omega);have hlt0:(0:Int)≤(KL.length:Int):=(by omega);clear hll ho8 hg8 hv8 hgg)
    refine hK.out _ _ ?_;clear hK K
    (try clear zH_)
    refine tkA 11 ?v8 rfl (by kernel_rfl) (.inl ⟨by rfl,?y8⟩) ?_
    case y8=>(intro w;go_simp;try with_reducible rfl)
    try simp only[ps]
    refine tkA 12 ?v9 rfl (by kernel_rfl) (.inl ⟨by rfl,?y9⟩) ?_
    case y9=>(intro w;go_simp;try with_reducible rfl)
    refine wpAny_ready (rs:=[13]) (by kernel_rfl) (by simp) ?_
    refine (AllReady.cons rfl (fun K hK=>?_) AllReady.nil)
    go_simp
    refine hK _ _ ?_;clear hK K;refine wpAny_done (by kernel_rfl) ?_ _
    (go_wp2_with (refine wpList_store_mid rfl 28 (.tmp 18) (.tmp 12) rfl g (KL.length * 8) x.cells.toArray (by rfl) (by rfl) (HTH.out _ (by simp)) val_infN (vaA_all x) ?_);rw[yF HGP.out];go_meet;exact ⟨x,_,r6,k6,e6,HE8.out,HG4.out,HG5.out,HG6.out⟩)
   ·
    go_simp
    refine hK.out _ _ ?_ (fun zH_=>?_)
    ·(try dsimp only);exact HRD1.out _ (Bsd.of (zB (zC (Below.refl _ _) 1) (zD _ _)) (Nat.le_of_lt HLB1.out))
    clear hK K;refine tS 7 (fun K hK=>?_)
    go_simp
    (refine (HIH.out V.x.key _ r k e HN1.out HEL1.out (HV1.out.below (zB (zC (Below.refl W1.heap.size W1) 1) (zD _ zO))).rd).mono ?_;rintro y w6 ⟨x,rfl,g1,g2,r6,k6,e6,g3,g4,g5,g6⟩;have HB6:=zh ((Bsd.of (zB (zC (Below.refl W1.heap.size W1) 1) (zD _ zO)) (Nat.le_of_lt HLB1.out)).trans g2);have HX6:=zh (HV1.out.hot HB6.out (g1.mono fun q _ hq=>by have hz:((W1.drewN 1).alloc zO).heap.size=W1.heap.size+1:=(by simp);show q<_;omega));have HRN6:=zh (range_bsd g2 (by have:=HLB1.out;show W1.heap.size≠_;omega) (zR (W1.drewN 1) yB 28));have HV6:=zh (HV1.out.bsd HB6.out g3);have HG4:=zh g4;have HG5:=zh g5;have HG6:=zh g6;clear g1 g2 g3 g4 g5 g6)
    refine hK.out _ _ ?_ (fun zH_=>?_)
    ·(try dsimp only);exact HRD1.out _ HB6.out
    clear hK K;refine zV (rs:=[10]) (by kernel_rfl) (by simp) ?_
    refine AllReadyB.last rfl (by kernel_rfl) (fun K hK=>?_) AllReadyB.nil
    (have hll:=HLL1.out;refine yH elem_val (by rfl) (.tmp 8) (.tmp 14) (by rfl) (V.p+1) (.slice A1 KL.length c1) KL.length (KL.flatMap VaA.cells) (by rfl) HV6.out.vb.ok W1.heap.size 0 1 1 yB (by rfl) rfl HRN6.out zC_one (by omega) (by omega) HV6.out.vb.lt ?_;intro v8 w8 ho8 hg8 hv8;obtain ⟨g,c8,rfl,hgg⟩:=v8_slice ho8;have HE8:=zh (HV6.out.keyZ HX6.out (Below.refl _ _) ho8 hg8 hv8);have HGP:Hid (V.p≠g):=zh (by omega);have HP8:=zh (HV6.out.p8 hg8 (.inl rfl));obtain ⟨⟨c5,_,_⟩,f5,_,_⟩:=HV6.out.c8 HP8.out;have HTH:=zh (there_two (j:=5) (u := .slice (some ⟨g,0,none⟩) (KL.length+1) c8) (own_there (xs:=yB) rfl ho8) HGP.out);have hlt1:(KL.length:Int)<(KL.length:Int)+1:=(by omega);have hlt0:(0:Int)≤(KL.length:Int):=(by omega);clear hll ho8 hg8 hv8 hgg)
    refine hK.out _ _ ?_;clear hK K
    (try clear zH_)
    refine tkA 11 ?v10 rfl (by kernel_rfl) (.inl ⟨by rfl,?y10⟩) ?_
    case y10=>(intro w;go_simp;try with_reducible rfl)
    try simp only[ps]
    refine tkA 12 ?v11 rfl (by kernel_rfl) (.inl ⟨by rfl,?y11⟩) ?_
    case y11=>(intro w;go_simp;try with_reducible rfl)
    refine wpAny_ready (rs:=[13]) (by kernel_rfl) (by simp) ?_
    refine (AllReady.cons rfl (fun K hK=>?_) AllReady.nil)
    go_simp
    refine hK _ _ ?_;clear hK K;refine wpAny_done (by kernel_rfl) ?_ _
    (go_wp2_with (refine wpList_store_mid rfl 28 (.tmp 18) (.tmp 12) rfl g (KL.length * 8) x.cells.toArray (by rfl) (by rfl) (HTH.out _ (by simp)) val_infN (vaA_all x) ?_);rw[yF HGP.out];go_meet;exact ⟨x,_,r6,k6,e6,HE8.out,HG4.out,HG5.out,HG6.out⟩)
  | false =>
   go_upto_region 3 with fail
   refine yE (S:=(fun w'=>((w'.cell? ⟨V.p,5,none⟩=some (.slice A1 KL.length c1)∧w'.cell? ⟨V.p,6,none⟩=some vi∧w'.cell? ⟨V.p,7,none⟩=some vr∧w'.cell? ⟨V.pr,0,none⟩=some (.pointer (some ⟨C.b,0,none⟩))∧w'.cell? ⟨V.px,6,none⟩=some (.slice V.Am V.x.mems.length V.cm)∧w'.cell? ⟨V.px,7,none⟩=some (.int .i64 V.x.key)∧w'.cell? ⟨V.px,8,none⟩=some (.int .i64 V.x.elem))∧Hid True)∧(w'.cell? ⟨V.pv,0,none⟩=some (.pointer (some ⟨V.p,0,none⟩))))) 13 (by kernel_rfl) ?_ (fun zH_=>?_)
   ·(try dsimp only);(have hk:=HRD1.out _ (Bsd.of (zC (Below.refl _ _) 1) (Nat.le_of_lt HLB1.out));exact ⟨⟨hk.1.1,trivial⟩,hk.2⟩)
   refine tB 0 ?_;refine tB 1 ?_;refine tC 2 ?_;refine tC 3 ?_;try simp only[ps]
   refine tB 4 ?_;refine tB 5 ?_;refine tC 6 ?_;refine tB 7 ?_;refine tS 8 (fun K hK=>?_)
   go_simp
   (refine (HIH.out V.x.key _ r k e HN1.out HEL1.out (HV1.out.below (zC (Below.refl W1.heap.size W1) 1)).rd).mono ?_;rintro y w6 ⟨x,rfl,g1,g2,r6,k6,e6,g3,g4,g5,g6⟩;have HB6:=zh ((Bsd.of (zC (Below.refl W1.heap.size W1) 1) (Nat.le_of_lt HLB1.out)).trans g2);have HX6:=zh (HV1.out.hot HB6.out g1);have HV6:=zh (HV1.out.bsd HB6.out g3);have HG4:=zh g4;have HG5:=zh g5;have HG6:=zh g6;clear g1 g2 g3 g4 g5 g6)
   refine hK.out _ _ ?_ (fun zH_=>?_)
   ·(try dsimp only);(have hk:=HRD1.out _ (HB6.out);exact ⟨⟨hk.1.1,trivial⟩,hk.2⟩)
   clear hK K;refine tS 9 (fun K hK=>?_)
   go_simp
   refine hK.out _ _ ?_ (fun zH_=>?_)
   ·(try dsimp only);(have hk:=HRD1.out _ (HB6.out.below (zD w6 (.cells x.cells.toArray 28)) HLB1.out);exact ⟨⟨hk.1.1,trivial⟩,hk.2⟩)
   clear hK K;try simp only[ps]
   refine tS 10 (fun K hK=>?_)
   (have HW6:=zh (HV6.out.below (zD w6 (.cells x.cells.toArray 28)));have hll:=HLL1.out;refine yH elem_val (by rfl) (.tmp 23) (.tmp 28) (by rfl) (V.p+1) (.slice A1 KL.length c1) KL.length (KL.flatMap VaA.cells) (by rfl) HW6.out.vb.ok w6.heap.size 0 1 1 x.cells (by rfl) rfl (zR w6 x.cells 28) (vaA_one x) (by omega) (by omega) HW6.out.vb.lt ?_;intro v8 w8 ho8 hg8 hv8;obtain ⟨g,c8,rfl,hgg⟩:=v8_slice ho8;have HE8:=zh (HV6.out.key HX6.out (zD w6 (.cells x.cells.toArray 28)) ho8 hg8 hv8);have HP8:=zh (HW6.out.p8 hg8 (.inl rfl));have HQ8:=zh (HW6.out.readB HP8.out (HW6.out.grownQ hg8 (.inl rfl)));obtain ⟨⟨c5,_,_⟩,f5,_,_⟩:=HW6.out.c8 HP8.out;clear hll ho8 hv8 hgg)
   refine hK.out _ _ ?_ (fun zH_=>?_)
   ·(try dsimp only);exact ⟨⟨HQ8.out.1,trivial⟩,HQ8.out.2 HPV.out⟩
   clear hK K;refine tC 11 ?_;refine tC 12 ?_;refine zV (rs:=[13]) (by kernel_rfl) (by simp) ?_
   refine AllReadyB.last rfl (by kernel_rfl) (fun K hK=>?_) AllReadyB.nil
   go_simp
   refine hK.out _ _ ?_;clear hK K
   (try clear zH_)
   refine wpAny_done (by kernel_rfl) ?_ _
   (go_wp2;go_meet;exact ⟨x,_,r6,k6,e6,HE8.out,HG4.out,HG5.out,HG6.out⟩)
 case rest =>
 obtain ⟨W2,rfl⟩:∃W:World,W=wc:=⟨_,rfl⟩;obtain ⟨x,vk2,r2,k2,e2,hv2,hr2,hn2,hm2⟩:=hcut.out;have HV2:=zh hv2;have HR2:=zh hr2;have HM2:=zh hm2;clear hv2 hr2 hn2 hm2 hcut HRD1 HF1 HV1 HLB1;have hz2:=HV2.out.rd.zero;have p2:=(HV2.out.reads (Bsd.refl _ _)).1.2.2.2.1
 go_upto_if 36 with fail
 go_cut [] (fun wx=>∃r4 e4,Hid (VfS C V wx r4 k2 e4 di vk2 vi vr (KL++[x]) I R∧SyQ ⟨#[45,62]⟩ r2 e2 r4 e4))
 case first =>
  by_cases he:e2=0
  ·have q1:(e2==0)=true:=by simp[he]
   have HV3:Hid (VfS C V W2 r2 k2 0 di vk2 vi vr (KL++[x]) I R):=by show VfS _ _ _ _ _ _ _ _ _ _ _ _ _;rw[←he];exact HV2.out
   have HE:=zh he;clear he hz2;go_wp2_with (go_at_call 126;refine (nrSym_any ⟨#[45,62]⟩ HV3.out.rd).mono ?_;intro y w3 h3;obtain rfl:=h3.1;have HS3:=zh (syQ_of h3);clear h3);go_meet;obtain ⟨hb,r',e',g1,g2⟩:=HS3.out;exact ⟨r',e',HV3.out.bsd hb g1,by rw[HE.out];exact g2⟩
  ·have q1:(e2==0)=false:=by simp[he]
   have HE:=zh he;clear he hz2;go_wp2;go_meet;exact ⟨r2,e2,HV2.out,syQ_no HE.out⟩
 case rest =>
 obtain ⟨W3,rfl⟩:∃W:World,W=wc:=⟨_,rfl⟩;obtain ⟨r4,e4,h4⟩:=hcut;have HV3:=zh h4.out.1;have HFIN:Hid (∀ (y:VaA) (vi':Value) (r':List TokD) (k':Bool) (e':Int) (W':World),VfS C V W' r' k' e' di vk2 vi' vr (KL++[x]) (I++[y]) R→r'.length≤r4.length→(e4≠0→e'=e4)→(e4=0→match valR false C.s V.x.elem r4 k2 with
   | .ok (v,r1,k1)=>y.v=v∧r'=r1∧k'=k1∧e'=0
   | .error e1=>e'=e1)→EnP C V r k di vr KL I R W'):=fun y vi' r' k' e' W' g1 g2 g3 g4=>en_fin HR2.out (HM2.out HE0.out) h4.out.2 g1 g2 g3 g4
 have HN4:Hid (r4.length<n):=by have:=h4.out.2.1;have:=HR2.out;have:=HN1.out;show _<_;omega
 clear h4 hz2 p2 HV2;obtain ⟨A2,c2,rfl,_,_,_⟩:=HV3.out.vb.oi.reads;go_upto_region 6 with fail
 go_cut [40] (fun s wx=>∃b0:Bool,s = .bool b0∧Hid (Below W3.heap.size W3 wx))
 case first =>
  go_region <;> (go_wp2;go_meet;exact ⟨_,rfl,zC (zD W3 _) 1⟩)
 case rest =>
 obtain ⟨b0,rfl,hb⟩:=hcut;obtain ⟨W4,rfl⟩:∃W:World,W=wc:=⟨_,rfl⟩;have HV4:=zh (HV3.out.below hb.out);clear hb HV3;have HLB4:Hid (C.b<W4.heap.size):=HV4.out.rd.lt;have HRD4:=zh (fun (w':World) (hb:Bsd C.b W4 w')=>And.intro (HV4.out.reads hb) (HV4.out.readV HPV.out hb))
 generalize x=xk at *
 go_upto_if 40 with fail
 cases b0 with
 | true =>
  go_upto_region 7 with fail
  refine yE (S:=(fun w'=>((w'.cell? ⟨V.p,5,none⟩=some vk2∧w'.cell? ⟨V.p,6,none⟩=some (.slice A2 I.length c2)∧w'.cell? ⟨V.p,7,none⟩=some vr∧w'.cell? ⟨V.pr,0,none⟩=some (.pointer (some ⟨C.b,0,none⟩))∧w'.cell? ⟨V.px,6,none⟩=some (.slice V.Am V.x.mems.length V.cm)∧w'.cell? ⟨V.px,7,none⟩=some (.int .i64 V.x.key)∧w'.cell? ⟨V.px,8,none⟩=some (.int .i64 V.x.elem))∧Hid (Bsd C.b W4 w'))∧(w'.cell? ⟨V.pv,0,none⟩=some (.pointer (some ⟨V.p,0,none⟩))))) 10 (by kernel_rfl) ?_ (fun zH_=>?_)
  ·(try dsimp only);exact HRD4.out _ (Bsd.of (zC (Below.refl _ _) 1) (Nat.le_of_lt HLB4.out))
  refine tB 0 ?_;refine tC 1 ?_;try simp only[ps]
  refine tC 2 ?_;refine tB 3 ?_;refine tB 4 ?_;refine tC 5 ?_;refine tB 6 ?_;refine tC 8 ?_;try simp only[ps]
  refine zV (rs:=[7,9]) (by kernel_rfl) (by simp) ?_
  refine (AllReadyB.cons rfl (fun K hK=>?_) (AllReadyB.cons rfl (fun K hK=>?_) AllReadyB.nil))
  ·
   go_simp
   (refine (HIH.out V.x.elem _ r4 k2 e4 HN4.out HEL4.out (HV4.out.below (zC (Below.refl W4.heap.size W4) 1)).rd).mono ?_;rintro y w6 ⟨x,rfl,g1,g2,r6,k6,e6,g3,g4,g5,g6⟩;have HB6:=zh ((Bsd.of (zC (Below.refl W4.heap.size W4) 1) (Nat.le_of_lt HLB4.out)).trans g2);have HX6:=zh (HV4.out.hot HB6.out g1);have HV6:=zh (HV4.out.bsd HB6.out g3);have HG4:=zh g4;have HG5:=zh g5;have HG6:=zh g6;clear g1 g2 g3 g4 g5 g6)
   refine hK.out _ _ ?_ (fun zH_=>?_)
   ·(try dsimp only);exact HRD4.out _ HB6.out
   clear hK K;refine tS 9 (fun K hK=>?_)
   go_simp
   refine hK.out _ _ ?_ (fun zH_=>?_)
   ·(try dsimp only);exact HRD4.out _ (HB6.out.below (zD _ _) HLB4.out)
   clear hK K;refine zV (rs:=[10]) (by kernel_rfl) (by simp) ?_
   refine AllReadyB.last rfl (by kernel_rfl) (fun K hK=>?_) AllReadyB.nil
   (have HW6:=zh (HV6.out.below (zD w6 zO));have hll:=HLL4.out;refine yH elem_val (by rfl) (.tmp 44) (.tmp 50) (by rfl) (V.p+1) (.slice A2 I.length c2) I.length (I.flatMap VaA.cells) (by rfl) HW6.out.vb.oi w6.heap.size 0 1 1 yB (by rfl) rfl (zR w6 yB 28) zC_one (by omega) (by omega) HW6.out.vb.lt ?_;intro v8 w8 ho8 hg8 hv8;obtain ⟨g,c8,rfl,hgg⟩:=v8_slice ho8;have HE8:=zh (HV6.out.itemZ HX6.out (zD w6 zO) ho8 hg8 hv8);have HGP:Hid (V.p≠g):=zh (by omega);have HP8:=zh (HW6.out.p8 hg8 (.inr (.inl rfl)));obtain ⟨⟨_,c6,_⟩,_,f6,_⟩:=HW6.out.c8 HP8.out;have HTH:=zh (there_two (j:=6) (u := .slice (some ⟨g,0,none⟩) (I.length+1) c8) (own_there (xs:=yB) rfl ho8) HGP.out);have hlt1:(I.length:Int)<(I.length:Int)+1:=(by omega);have hlt0:(0:Int)≤(I.length:Int):=(by omega);clear hll ho8 hg8 hv8 hgg)
   refine hK.out _ _ ?_;clear hK K
   (try clear zH_)
   refine tkA 11 ?v30 rfl (by kernel_rfl) (.inl ⟨by rfl,?y30⟩) ?_
   case y30=>(intro w;go_simp;try with_reducible rfl)
   refine tkA 12 ?v31 rfl (by kernel_rfl) (.inl ⟨by rfl,?y31⟩) ?_
   case y31=>(intro w;go_simp;try with_reducible rfl)
   refine wpAny_ready (rs:=[13]) (by kernel_rfl) (by simp) ?_
   refine (AllReady.cons rfl (fun K hK=>?_) AllReady.nil)
   go_simp
   refine hK _ _ ?_;clear hK K;try simp only[ps]
   refine wpAny_done (by kernel_rfl) ?_ _
   (go_wp2_with (refine wpList_store_mid rfl 28 (.tmp 54) (.tmp 48) rfl g (I.length * 8) x.cells.toArray (by rfl) (by rfl) (HTH.out _ (by simp)) val_infN (vaA_all x) ?_);rw[yF HGP.out];exact bodyPost_end (results_none Tryz.results162 _ _ _) rfl ⟨rfl,HFIN.out x _ r6 k6 e6 _ HE8.out HG4.out HG5.out HG6.out⟩)
  ·
   go_simp
   refine hK.out _ _ ?_ (fun zH_=>?_)
   ·(try dsimp only);exact HRD4.out _ (Bsd.of (zB (zC (Below.refl _ _) 1) (zD _ _)) (Nat.le_of_lt HLB4.out))
   clear hK K;refine tS 7 (fun K hK=>?_)
   go_simp
   (refine (HIH.out V.x.elem _ r4 k2 e4 HN4.out HEL4.out (HV4.out.below (zB (zC (Below.refl W4.heap.size W4) 1) (zD _ zO))).rd).mono ?_;rintro y w6 ⟨x,rfl,g1,g2,r6,k6,e6,g3,g4,g5,g6⟩;have HB6:=zh ((Bsd.of (zB (zC (Below.refl W4.heap.size W4) 1) (zD _ zO)) (Nat.le_of_lt HLB4.out)).trans g2);have HX6:=zh (HV4.out.hot HB6.out (g1.mono fun q _ hq=>by have hz:((W4.drewN 1).alloc zO).heap.size=W4.heap.size+1:=(by simp);show q<_;omega));have HRN6:=zh (range_bsd g2 (by have:=HLB4.out;show W4.heap.size≠_;omega) (zR (W4.drewN 1) yB 28));have HV6:=zh (HV4.out.bsd HB6.out g3);have HG4:=zh g4;have HG5:=zh g5;have HG6:=zh g6;clear g1 g2 g3 g4 g5 g6)
   refine hK.out _ _ ?_ (fun zH_=>?_)
   ·(try dsimp only);exact HRD4.out _ HB6.out
   clear hK K;refine zV (rs:=[10]) (by kernel_rfl) (by simp) ?_
   refine AllReadyB.last rfl (by kernel_rfl) (fun K hK=>?_) AllReadyB.nil
   (have hll:=HLL4.out;refine yH elem_val (by rfl) (.tmp 44) (.tmp 50) (by rfl) (V.p+1) (.slice A2 I.length c2) I.length (I.flatMap VaA.cells) (by rfl) HV6.out.vb.oi W4.heap.size 0 1 1 yB (by rfl) rfl HRN6.out zC_one (by omega) (by omega) HV6.out.vb.lt ?_;intro v8 w8 ho8 hg8 hv8;obtain ⟨g,c8,rfl,hgg⟩:=v8_slice ho8;have HE8:=zh (HV6.out.itemZ HX6.out (Below.refl _ _) ho8 hg8 hv8);have HGP:Hid (V.p≠g):=zh (by omega);have HP8:=zh (HV6.out.p8 hg8 (.inr (.inl rfl)));obtain ⟨⟨_,c6,_⟩,_,f6,_⟩:=HV6.out.c8 HP8.out;have HTH:=zh (there_two (j:=6) (u := .slice (some ⟨g,0,none⟩) (I.length+1) c8) (own_there (xs:=yB) rfl ho8) HGP.out);have hlt1:(I.length:Int)<(I.length:Int)+1:=(by omega);have hlt0:(0:Int)≤(I.length:Int):=(by omega);clear hll ho8 hg8 hv8 hgg)
   refine hK.out _ _ ?_;clear hK K
   (try clear zH_)
   refine tkA 11 ?v32 rfl (by kernel_rfl) (.inl ⟨by rfl,?y32⟩) ?_
   case y32=>(intro w;go_simp;try with_reducible rfl)
   refine tkA 12 ?v33 rfl (by kernel_rfl) (.inl ⟨by rfl,?y33⟩) ?_
   case y33=>(intro w;go_simp;try with_reducible rfl)
   refine wpAny_ready (rs:=[13]) (by kernel_rfl) (by simp) ?_
   refine (AllReady.cons rfl (fun K hK=>?_) AllReady.nil)
   go_simp
   refine hK _ _ ?_;clear hK K;try simp only[ps]
   refine wpAny_done (by kernel_rfl) ?_ _
   (go_wp2_with (refine wpList_store_mid rfl 28 (.tmp 54) (.tmp 48) rfl g (I.length * 8) x.cells.toArray (by rfl) (by rfl) (HTH.out _ (by simp)) val_infN (vaA_all x) ?_);rw[yF HGP.out];exact bodyPost_end (results_none Tryz.results162 _ _ _) rfl ⟨rfl,HFIN.out x _ r6 k6 e6 _ HE8.out HG4.out HG5.out HG6.out⟩)
 | false =>
  go_upto_region 9 with fail
  refine yE (S:=(fun w'=>((w'.cell? ⟨V.p,5,none⟩=some vk2∧w'.cell? ⟨V.p,6,none⟩=some (.slice A2 I.length c2)∧w'.cell? ⟨V.p,7,none⟩=some vr∧w'.cell? ⟨V.pr,0,none⟩=some (.pointer (some ⟨C.b,0,none⟩))∧w'.cell? ⟨V.px,6,none⟩=some (.slice V.Am V.x.mems.length V.cm)∧w'.cell? ⟨V.px,7,none⟩=some (.int .i64 V.x.key)∧w'.cell? ⟨V.px,8,none⟩=some (.int .i64 V.x.elem))∧Hid True)∧(w'.cell? ⟨V.pv,0,none⟩=some (.pointer (some ⟨V.p,0,none⟩))))) 13 (by kernel_rfl) ?_ (fun zH_=>?_)
  ·(try dsimp only);(have hk:=HRD4.out _ (Bsd.of (zC (Below.refl _ _) 1) (Nat.le_of_lt HLB4.out));exact ⟨⟨hk.1.1,trivial⟩,hk.2⟩)
  refine tB 0 ?_;refine tB 1 ?_;refine tC 2 ?_;refine tC 3 ?_;refine tB 4 ?_;refine tB 5 ?_;try simp only[ps]
  refine tC 6 ?_;refine tB 7 ?_;refine tS 8 (fun K hK=>?_)
  go_simp
  (refine (HIH.out V.x.elem _ r4 k2 e4 HN4.out HEL4.out (HV4.out.below (zC (Below.refl W4.heap.size W4) 1)).rd).mono ?_;rintro y w6 ⟨x,rfl,g1,g2,r6,k6,e6,g3,g4,g5,g6⟩;have HB6:=zh ((Bsd.of (zC (Below.refl W4.heap.size W4) 1) (Nat.le_of_lt HLB4.out)).trans g2);have HX6:=zh (HV4.out.hot HB6.out g1);have HV6:=zh (HV4.out.bsd HB6.out g3);have HG4:=zh g4;have HG5:=zh g5;have HG6:=zh g6;clear g1 g2 g3 g4 g5 g6)
  refine hK.out _ _ ?_ (fun zH_=>?_)
  ·(try dsimp only);(have hk:=HRD4.out _ (HB6.out);exact ⟨⟨hk.1.1,trivial⟩,hk.2⟩)
  clear hK K;refine tS 9 (fun K hK=>?_)
  go_simp
  refine hK.out _ _ ?_ (fun zH_=>?_)
  ·(try dsimp only);(have hk:=HRD4.out _ (HB6.out.below (zD w6 (.cells x.cells.toArray 28)) HLB4.out);exact ⟨⟨hk.1.1,trivial⟩,hk.2⟩)
  clear hK K;refine tS 10 (fun K hK=>?_)
  (have HW6:=zh (HV6.out.below (zD w6 (.cells x.cells.toArray 28)));have hll:=HLL4.out;refine yH elem_val (by rfl) (.tmp 59) (.tmp 64) (by rfl) (V.p+1) (.slice A2 I.length c2) I.length (I.flatMap VaA.cells) (by rfl) HW6.out.vb.oi w6.heap.size 0 1 1 x.cells (by rfl) rfl (zR w6 x.cells 28) (vaA_one x) (by omega) (by omega) HW6.out.vb.lt ?_;intro v8 w8 ho8 hg8 hv8;obtain ⟨g,c8,rfl,hgg⟩:=v8_slice ho8;have HE8:=zh (HV6.out.item HX6.out (zD w6 (.cells x.cells.toArray 28)) ho8 hg8 hv8);have HP8:=zh (HW6.out.p8 hg8 (.inr (.inl rfl)));have HQ8:=zh (HW6.out.readB HP8.out (HW6.out.grownQ hg8 (.inr (.inl rfl))));obtain ⟨⟨_,c6,_⟩,_,f6,_⟩:=HW6.out.c8 HP8.out;clear hll ho8 hv8 hgg)
  refine hK.out _ _ ?_ (fun zH_=>?_)
  ·(try dsimp only);exact ⟨⟨HQ8.out.1,trivial⟩,HQ8.out.2 HPV.out⟩
  clear hK K;refine tC 11 ?_;try simp only[ps]
  refine tC 12 ?_;refine zV (rs:=[13]) (by kernel_rfl) (by simp) ?_
  refine AllReadyB.last rfl (by kernel_rfl) (fun K hK=>?_) AllReadyB.nil
  go_simp
  refine hK.out _ _ ?_;clear hK K
  (try clear zH_)
  refine wpAny_done (by kernel_rfl) ?_ _
  (go_wp2;exact bodyPost_end (results_none Tryz.results162 _ _ _) rfl ⟨rfl,HFIN.out x _ r6 k6 e6 _ HE8.out HG4.out HG5.out HG6.out⟩)
def TkQ (n:Int) (r:List TokD) (t0:TokD) (r1:List TokD) (e1:Int):Prop:=(r1.length≤r.length∧SOk t0.text∧SOk t0.str)∧((tkP n r = .ok (t0,r1)∧e1=0∧r1.length<r.length)∨(tkP n r = .error 2∧t0=zTok∧r1=r∧e1=2))
theorem tkQ_of {C:RCx} {n:Int} {w w':World} {r:List TokD} {k:Bool} {y:Ending} (h:TakeP C n w r k 0 y w'):∃t0 r1 e1,y = .returned (.agg #[.int .i64 t0.kind,.string t0.text,.int .i64 t0.int,.string t0.str,.int .i64 t0.line])∧Bsd C.b w w'∧RdS C w' r1 k e1∧TkQ n r t0 r1 e1:=by
 obtain ⟨hb,h⟩:=h
 rcases h with ⟨t,q,h1,h2,h3,h4,h5⟩|⟨h1,h2,h3⟩
 ·have:=(tkP_lt h1).1.2
  exact ⟨t,q,0,h2,hb,h3,⟨by omega,h4,h5⟩,.inl ⟨h1,rfl,this⟩⟩
 ·exact ⟨zTok,r,2,h2,hb,h3,⟨Nat.le_refl _,by unfold SOk zTok;decide,by unfold SOk zTok;decide⟩,.inr ⟨h1,rfl,rfl,rfl⟩⟩
theorem TkQ.tk {n:Int} {r r1:List TokD} {t0:TokD} {e1:Int} (h:TkQ n r t0 r1 e1):match tkP n r with
  | .ok p=>t0=p.1∧r1=p.2∧e1=0∧r1.length<r.length
  | .error e2=>e1=e2∧e1≠0:=by
 rcases h.2 with ⟨h1,h2,h3⟩|⟨h1,_,_,h2⟩
 ·rw[h1];exact ⟨rfl,rfl,h2,h3⟩
 ·rw[h1];exact ⟨h2,by rw[h2];decide⟩
def nmE (nm:ByteArray) (t0:TokD) (e1:Int):Int:=if e1=0 then (if t0.text=nm then 0 else 4) else e1
theorem isP_sz {T:ByteArray} {r:List TokD} (h:isP T r=true):r.tail.length<r.length:=(isP_tail h).2
section
variable {f:Int→List TokD→Bool→PR Val} {Rt:RecT} {acc:List Val} {ms:List MemD} {y:MemD} {r:List TokD} {k:Bool}
theorem rec_mem (hnz:∀t l k,f t l k ≠ .error 0) (h:RecI f Rt acc [] (y::ms) r k) {t0:TokD} {r1:List TokD} {e1:Int} (h1:TkQ 1 r t0 r1 e1) {r3:List TokD} {e3:Int} (h3:SyQ ⟨#[58]⟩ r1 (nmE y.name t0 e1) r3 e3) {x:Val} {r5:List TokD} {k5:Bool} {e5:Int} (hl5:r5.length≤r3.length) (hn5:e3≠0→e5=e3)
  (h5:e3=0→match f y.type r3 k with
   | .ok (v,r',k')=>x=v∧r5=r'∧k5=k'∧e5=0
   | .error e=>e5=e) {e6:Int} (h6:e6=if e5=0∧ms≠[]∧isP ⟨#[44]⟩ r5=false then 2 else e5) :
  (e6=0→RecJ f Rt (acc++[x]) [] ms r5 k5∧r5.length<r.length)∧(e6≠0→Rt = .error e6):=by
 obtain ⟨_,hR⟩:=h.name;have ht:=h1.tk;have hl1:=h1.1.1;have hl3:=h3.1
 cases hk:tkP 1 r with
 | error e =>
  rw[hk] at ht hR;obtain ⟨rfl,hz⟩:=ht;have hnm:nmE y.name t0 e1=e1:=if_neg hz;rw[hnm] at h3
  rcases h3.2 with ⟨_,_,g⟩|⟨g,_⟩
  ·have g5:=hn5 (by omega)
   rw[if_neg (by rintro ⟨g,_⟩;omega)] at h6
   have e61:e6=e1:=by omega
   subst e61;exact ⟨fun g=>absurd g hz,fun _=>hR⟩
  ·exact absurd g hz
 | ok p =>
  obtain ⟨u,q⟩:=p;rw[hk] at ht hR;obtain ⟨rfl,rfl,rfl,hlt⟩:=ht;rw[zM] at hR;simp only at hR
  by_cases hnm:t0.text=y.name
  ·have hn0:nmE y.name t0 0=0:=by unfold nmE;rw[if_pos rfl,if_pos hnm]
   rw[hn0] at h3;rw[if_pos hnm] at hR;have hs:=syQ_sy h3
   cases hsy:syP ⟨#[58]⟩ r1 with
   | error e =>
    rw[hsy] at hs hR;have g5:=hn5 hs.2;rw[if_neg (by rintro ⟨g,_⟩;exact hs.2 (by omega))] at h6
    have e61:e6=e:=by have:=hs.1;omega
    subst e61;exact ⟨fun g=>absurd g (by have:=hs.2;have:=hs.1;omega),fun _=>hR⟩
   | ok l2 =>
    rw[hsy] at hs hR;obtain ⟨rfl,rfl⟩:=hs;rw[zM] at hR;have hv:=h5 rfl
    cases hf:f y.type r3 k with
    | error e =>
     rw[hf] at hv hR;simp only at hv;subst hv;have hz:e5≠0:=fun g=>hnz _ _ _ (g▸hf)
     rw[if_neg (by rintro ⟨g,_⟩;exact hz g)] at h6
     subst h6;exact ⟨fun g=>absurd g hz,fun _=>hR⟩
    | ok z =>
     obtain ⟨v,r',k'⟩:=z;rw[hf] at hv hR;obtain ⟨rfl,rfl,rfl,rfl⟩:=hv;rw[zM] at hR;simp only at hR;have hR2:Rt=(memsP f false ms r5 k5).bind fun z=>recE ((acc++[x])++z.1) [] z.2.2 (rawsR false false z.2.1):=by rw[hR];simp only[List.append_assoc,List.singleton_append]
     by_cases hm:ms≠[]∧isP ⟨#[44]⟩ r5=false
     ·rw[if_pos ⟨rfl,hm⟩] at h6
      subst h6;exact ⟨fun g=>absurd g (by decide),fun _=>rec_no hR2 hm.1 hm.2⟩
     ·rw[if_neg (fun g=>hm g.2)] at h6
      subst h6;refine ⟨fun _=>⟨recJ_of rfl hR2 ?_,by omega⟩,fun g=>absurd rfl g⟩
      by_cases h0:ms=[]
      ·exact .inl h0
      ·refine .inr ?_
       cases hi:isP ⟨#[44]⟩ r5 with
       | true=>rfl
       | false=>exact absurd ⟨h0,hi⟩ hm
  ·have hn0:nmE y.name t0 0=4:=by unfold nmE;rw[if_pos rfl,if_neg hnm]
   rw[hn0] at h3;rw[if_neg hnm] at hR
   rcases h3.2 with ⟨_,_,g⟩|⟨g,_⟩
   ·have g5:=hn5 (by omega)
    rw[if_neg (by rintro ⟨g,_⟩;omega)] at h6
    have e61:e6=4:=by omega
    subst e61;exact ⟨fun g=>absurd g (by decide),fun _=>hR⟩
   ·exact absurd g (by decide)
theorem rec_raw {rs:List RawD} (h:RecI f Rt acc rs [] r k) {t0:TokD} {r1:List TokD} {e1:Int} (h1:TkQ 2 r t0 r1 e1) {r3:List TokD} {e3:Int} (h3:SyQ ⟨#[58]⟩ r1 e1 r3 e3) {t1:TokD} {r5:List TokD} {e5:Int} (h5:(e3≠0∧r5=r3∧e5=e3)∨(e3=0∧TkQ 3 r3 t1 r5 e5)) :
  (e5=0→RecJ f Rt acc (rs++[⟨t0.int,t1.str⟩]) [] r5 k∧r5.length<r.length)∧(e5≠0→Rt = .error e5):=by
 have hR:=h.raw;have ht:=h1.tk;have hl3:=h3.1
 cases hk:tkP 2 r with
 | error e =>
  rw[hk] at ht hR;obtain ⟨rfl,hz⟩:=ht
  rcases h3.2 with ⟨_,_,g⟩|⟨g,_⟩
  ·rcases h5 with ⟨_,_,g5⟩|⟨g5,_⟩
   ·have e61:e5=e1:=by omega
    subst e61;exact ⟨fun g=>absurd g hz,fun _=>hR⟩
   ·omega
  ·exact absurd g hz
 | ok p =>
  obtain ⟨u,q⟩:=p;rw[hk] at ht hR;obtain ⟨rfl,rfl,rfl,hlt⟩:=ht;rw[zM] at hR;simp only at hR;have hs:=syQ_sy h3
  cases hsy:syP ⟨#[58]⟩ r1 with
  | error e =>
   rw[hsy] at hs hR
   rcases h5 with ⟨_,_,g5⟩|⟨g5,_⟩
   ·have e61:e5=e:=by have:=hs.1;omega
    subst e61;exact ⟨fun g=>absurd g (by have:=hs.2;have:=hs.1;omega),fun _=>hR⟩
   ·exact absurd g5 hs.2
  | ok l2 =>
   rw[hsy] at hs hR;obtain ⟨rfl,rfl⟩:=hs;rw[zM] at hR
   rcases h5 with ⟨g5,_⟩|⟨_,g5⟩
   ·exact absurd rfl g5
   ·have hu:=g5.tk
    have hl5:=g5.1.1
    cases hk3:tkP 3 r3 with
    | error e =>
     rw[hk3] at hu hR;obtain ⟨rfl,hz⟩:=hu;exact ⟨fun g=>absurd g hz,fun _=>hR⟩
    | ok z =>
     obtain ⟨v,q2⟩:=z;rw[hk3] at hu hR;obtain ⟨rfl,rfl,rfl,_⟩:=hu;rw[zM] at hR;simp only at hR;exact ⟨fun _=>⟨.inl ⟨rfl,hR⟩,by omega⟩,fun g=>absurd rfl g⟩
end
theorem VfS.old8 {C:RCx} {V:Vx} {W:World} {r:List TokD} {k:Bool} {e di:Int} {vk vi vr:Value} {K I:List VaA} {R:List RawD} (h:VfS C V W r k e di vk vi vr K I R) {w8:World} {row:Option Nat} (hg:W.grownBy w8 row) (hr:row=vk.ownBlock∨row=vi.ownBlock∨row=vr.ownBlock):Below C.w0.heap.size C.w0 w8:=by
 obtain ⟨l1,l2,l3⟩:=hot_lt h.vb;have hb:=h.bp;have hge:=h.rd.ok.ge;refine h.rd.up.grown hg h.rd.up.size fun q hq=>?_
 rcases hr with e|e|e
 ·have:=l1 q (e▸hq);omega
 ·have:=l2 q (e▸hq);omega
 ·have:=l3 q (e▸hq);omega
theorem VfS.oldB {C:RCx} {V:Vx} {W W':World} {r:List TokD} {k:Bool} {e di:Int} {vk vi vr:Value} {K I:List VaA} {R:List RawD} (h:VfS C V W r k e di vk vi vr K I R) (hb:Bsd C.b W W'):Below C.w0.heap.size C.w0 W':=h.rd.up.trans (hb.bel.mono h.rd.ok.ge)
theorem val_size (v:Val):∀y,y∈v.keys∨y∈v.items→SizeOf.sizeOf y<SizeOf.sizeOf v:=by
 intro y hy
 obtain ⟨k,b,i,st,id,ks,is,r⟩:=v;simp only[Val.mk.sizeOf_spec]
 rcases hy with h|h
 ·have:=List.sizeOf_lt_of_mem (show y∈ks from h);omega
 ·have:=List.sizeOf_lt_of_mem (show y∈is from h);omega
theorem zF {W:World} {b:Nat} {v:Val} {A1:zo} {c1:Nat} {A2:zo} {c2:Nat} {A3:zo} {c3:Nat} (h:W.heap[b]? = some (v.box A1 c1 A2 c2 A3 c3)) :
  W.cell? ⟨b,0,none⟩=some (.int .i64 v.kind)∧W.cell? ⟨b,1,none⟩=some (.bool v.bool)∧W.cell? ⟨b,2,none⟩=some (.int .i64 v.int)∧W.cell? ⟨b,3,none⟩=some (.string v.str)∧W.cell? ⟨b,4,none⟩=some (.int .i64 v.id)∧W.cell? ⟨b,5,none⟩=some (.slice A1 v.keys.length c1)∧W.cell? ⟨b,6,none⟩=some (.slice A2 v.items.length c2)∧W.cell? ⟨b,7,none⟩=some (.slice A3 v.rest.length c3):=by
 refine ⟨?_,?_,?_,?_,?_,?_,?_,?_⟩ <;> (rw[cell_of_row _ _ _ _ _ _ h];rfl)
theorem scSymA_any (n:Int) (t:TyD) (As:zo) (cs:Nat) (Am:zo) (cm:Nat) (w:World) (ht:TyR w t As Am) :
  Calls Tryz.prog 68 #[t.v As cs Am cm,.int .i64 n] w fun e w'=>∃r:Int,e = .returned (.tuple #[.int .i64 r,.bool (t.syms.any fun y=>decide (y.id=n))])∧Below w.heap.size w w' :=
 (scSym_any n t As cs Am cm w ht).mono fun e w' ⟨h1,h2⟩=>⟨_,h1.trans (by rw[idxD_any]),h2⟩
theorem scMemA_any (n:Int) (t:TyD) (As:zo) (cs:Nat) (Am:zo) (cm:Nat) (w:World) (ht:TyR w t As Am) :
  Calls Tryz.prog 58 #[t.v As cs Am cm,.int .i64 n] w fun e w'=>∃r:Int,e = .returned (.tuple #[.int .i64 r,.bool (t.mems.any fun y=>decide (y.id=n))])∧((t.mems.any fun y=>decide (y.id=n))=true→r=idxD (fun y:MemD=>decide (y.id=n)) t.mems)∧Below w.heap.size w w' :=
 (scMem_any n t As cs Am cm w ht).mono fun e w' ⟨h1,h2⟩=>⟨_,h1.trans (by rw[idxD_any]),fun h=>by
  rw[←idxD_any] at h;exact if_neg (by have:=of_decide_eq_true h;omega),h2⟩
section
variable {s:List TyD} {df:MemD→ByteArray}
end
theorem ids_rng:∀ (L:List (Int×ByteArray)) (b:Int) (K:List ByteArray),idsOk b K L=true→∀x∈L,(1≤x.1∧x.1≤1000)∧x.2.size≤24
 | [],_,_,_,x,hx=>by cases hx
 | y::L,b,K,h,x,hx=>by
  rw[idsOk] at h;simp only[Bool.and_eq_true,decide_eq_true_eq] at h;obtain ⟨⟨⟨⟨⟨h1,h2⟩,_⟩,_⟩,h5⟩,h6⟩:=h
  rcases List.mem_cons.1 hx with e|e
  ·subst e
   unfold nameB at h5;simp only[Bool.and_eq_true,decide_eq_true_eq] at h5;exact ⟨⟨h1,h2⟩,h5.1.1.2⟩
  ·exact ids_rng L _ _ h6 x e
section
variable {s:List TyD} {t:TyD}
theorem mem_rng (hv:zQ s=0) (ht:t∈s) {m:MemD} (hm:m∈t.mems):((1≤m.id∧m.id≤1000)∧m.name.size≤24)∧(0≤m.type∧m.type<(s.length:Int)):=by
 have h:=(valid_tys hv ht).1;unfold formD at h;simp only[Bool.and_eq_true,decide_eq_true_eq] at h;obtain ⟨⟨⟨⟨h1,h2⟩,h3⟩,h4⟩,h5⟩:=h;have key:∀b,memsD b t.mems=true→((1≤m.id∧m.id≤1000)∧m.name.size≤24):=fun b hb=>by
  unfold memsD idsD at hb;simp only[Bool.and_eq_true] at hb;exact ids_rng _ _ _ hb.1.2.1 _ (List.mem_map.2 ⟨m,hm,rfl⟩)
 refine ⟨?_,(valid_tys hv ht).2 _ (List.mem_map.2 ⟨(m.id,m.type),?_,rfl⟩)⟩
 ·by_cases k5:t.kind=5
  ·unfold caseD at h5
   rw[if_neg (by omega),if_neg (by omega),if_neg (by omega),if_pos k5] at h5
   exact key _ h5
  by_cases k6:t.kind=6
  ·unfold caseD at h5
   rw[if_neg (by omega),if_neg (by omega),if_neg (by omega),if_neg (by omega),if_pos k6] at h5
   exact key _ h5
  ·exfalso
   have:t.mems=[]:=by
    rw[h3];unfold plainD
    (repeat' split) <;> first|rfl|(exfalso;omega)
   rw[this] at hm
   cases hm
 ·unfold usesD
  simp only[List.mem_append,List.mem_map];exact .inl ⟨m,hm,rfl⟩
end
theorem isNaNi_any (x:Int) (w:World):Calls Tryz.prog 173 #[.int .i64 x] w fun e w'=>e = .returned (.bool false)∧w=w':=by
 have q1:(x != x)=false:=by simp
 go_enter Tryz.func173,Tryz.ntmps173
 go_wp2
 go_ret
 exact ⟨rfl,rfl⟩
theorem isNaNu_any (x:Int) (w:World):Calls Tryz.prog 172 #[.int .u64 x] w fun e w'=>e = .returned (.bool false)∧w=w':=by
 have q1:(x != x)=false:=by simp
 go_enter Tryz.func172,Tryz.ntmps172
 go_wp2
 go_ret
 exact ⟨rfl,rfl⟩
theorem isNaNs_any (x:ByteArray) (w:World):Calls Tryz.prog 174 #[.string x] w fun e w'=>e = .returned (.bool false)∧w=w':=by
 go_enter Tryz.func174,Tryz.ntmps174
 go_wp2
 go_ret
 exact ⟨by first|rfl|simp,rfl⟩
theorem comparei_any (x y:Int) (w:World):Calls Tryz.prog 152 #[.int .i64 x,.int .i64 y] w fun e w'=>e = .returned (.int .i64 (cmpI x y))∧w=w':=by
 by_cases h1:x<y
 ·have HD:Hid (cmpI x y = -1):=by show _=_;unfold cmpI;rw[if_pos h1]
  go_enter Tryz.func152,Tryz.ntmps152
  go_wp2_with fail
  refine (isNaNi_any x w).mono ?_;rintro e w2 ⟨rfl,rfl⟩;go_wp2_with fail;refine (isNaNi_any y w).mono ?_;rintro e w2 ⟨rfl,rfl⟩;go_wp2;go_ret;exact ⟨by rw[HD.out];rfl,rfl⟩
 ·by_cases h2:x=y
  ·subst h2
   have HD:Hid (cmpI x x=0):=by show _=_;unfold cmpI;rw[if_neg h1,if_pos rfl]
   have h3:¬ x > x:=by omega
   go_enter Tryz.func152,Tryz.ntmps152
   go_wp2_with fail
   refine (isNaNi_any x w).mono ?_;rintro e w2 ⟨rfl,rfl⟩;go_wp2_with fail;refine (isNaNi_any x w).mono ?_;rintro e w2 ⟨rfl,rfl⟩;go_wp2;go_ret;exact ⟨by rw[HD.out];rfl,rfl⟩
  ·have HD:Hid (cmpI x y=1):=by show _=_;unfold cmpI;rw[if_neg h1,if_neg h2]
   have h3:y<x:=by omega
   clear h2
   go_enter Tryz.func152,Tryz.ntmps152
   go_wp2_with fail
   refine (isNaNi_any x w).mono ?_;rintro e w2 ⟨rfl,rfl⟩;go_wp2_with fail;refine (isNaNi_any y w).mono ?_;rintro e w2 ⟨rfl,rfl⟩;go_wp2;go_ret;exact ⟨by rw[HD.out];rfl,rfl⟩
theorem compareu_any (x y:Int) (w:World):Calls Tryz.prog 149 #[.int .u64 x,.int .u64 y] w fun e w'=>e = .returned (.int .i64 (cmpI x y))∧w=w':=by
 by_cases h1:x<y
 ·have HD:Hid (cmpI x y = -1):=by show _=_;unfold cmpI;rw[if_pos h1]
  go_enter Tryz.func149,Tryz.ntmps149
  go_wp2_with fail
  refine (isNaNu_any x w).mono ?_;rintro e w2 ⟨rfl,rfl⟩;go_wp2_with fail;refine (isNaNu_any y w).mono ?_;rintro e w2 ⟨rfl,rfl⟩;go_wp2;go_ret;exact ⟨by rw[HD.out];rfl,rfl⟩
 ·by_cases h2:x=y
  ·subst h2
   have HD:Hid (cmpI x x=0):=by show _=_;unfold cmpI;rw[if_neg h1,if_pos rfl]
   have h3:¬ x > x:=by omega
   go_enter Tryz.func149,Tryz.ntmps149
   go_wp2_with fail
   refine (isNaNu_any x w).mono ?_;rintro e w2 ⟨rfl,rfl⟩;go_wp2_with fail;refine (isNaNu_any x w).mono ?_;rintro e w2 ⟨rfl,rfl⟩;go_wp2;go_ret;exact ⟨by rw[HD.out];rfl,rfl⟩
  ·have HD:Hid (cmpI x y=1):=by show _=_;unfold cmpI;rw[if_neg h1,if_neg h2]
   have h3:y<x:=by omega
   clear h2
   go_enter Tryz.func149,Tryz.ntmps149
   go_wp2_with fail
   refine (isNaNu_any x w).mono ?_;rintro e w2 ⟨rfl,rfl⟩;go_wp2_with fail;refine (isNaNu_any y w).mono ?_;rintro e w2 ⟨rfl,rfl⟩;go_wp2;go_ret;exact ⟨by rw[HD.out];rfl,rfl⟩
theorem run_gtr_s (x y:ByteArray) (w:World):(binOp .gtr 9 (.string x) (.string y)).run Tryz.prog w = .ok (.bool (!ltS x y && !decide (x=y))) w:=by
 have h:=bytes_beq x y;simp[binOp,Op.stringOp,ltS,h]
theorem compares_any (x y:ByteArray) (w:World):Calls Tryz.prog 153 #[.string x,.string y] w fun e w'=>e = .returned (.int .i64 (cmpS x y))∧w=w':=by
 cases hl:ltS x y with
 | true =>
  have HD:Hid (cmpS x y = -1):=by show _=_;unfold cmpS;rw[hl,if_pos rfl]
  have q1:Op.bytesLess x.toList y.toList=true:=hl;clear hl
  go_enter Tryz.func153,Tryz.ntmps153
  go_wp2_with fail
  refine (isNaNs_any x w).mono ?_;rintro e w2 ⟨rfl,rfl⟩;go_wp2_with fail;refine (isNaNs_any y w).mono ?_;rintro e w2 ⟨rfl,rfl⟩;go_wp2;go_ret;exact ⟨by rw[HD.out];rfl,rfl⟩
 | false =>
  have hg:=run_gtr_s x y w;have q1:Op.bytesLess x.toList y.toList=false:=hl;rw[hl] at hg
  by_cases he:x=y
  ·have HD:Hid (cmpS x y=0):=by show _=_;unfold cmpS;rw[hl,if_neg (by simp),if_pos he]
   rw[decide_eq_true he] at hg;clear hl he
   go_enter Tryz.func153,Tryz.ntmps153
   go_wp2_with fail
   refine (isNaNs_any x w).mono ?_;rintro e w2 ⟨rfl,rfl⟩;go_wp2_with fail;refine (isNaNs_any y w).mono ?_;rintro e w2 ⟨rfl,rfl⟩;go_wp2;go_ret;exact ⟨by rw[HD.out];rfl,rfl⟩
  ·have HD:Hid (cmpS x y=1):=by show _=_;unfold cmpS;rw[hl,if_neg (by simp),if_neg he]
   rw[decide_eq_false he] at hg;clear hl he
   go_enter Tryz.func153,Tryz.ntmps153
   go_wp2_with fail
   refine (isNaNs_any x w).mono ?_;rintro e w2 ⟨rfl,rfl⟩;go_wp2_with fail;refine (isNaNs_any y w).mono ?_;rintro e w2 ⟨rfl,rfl⟩;go_wp2;go_ret;exact ⟨by rw[HD.out];rfl,rfl⟩
theorem zig_bits {n:Int} (h:In64 n):bits .xor .u64 (IntKind.u64.wrap (IntKind.u64.wrap n * 2)) (IntKind.u64.wrap (n / 9223372036854775808))=zzD n:=by
 obtain ⟨h1,h2⟩:=h
 by_cases hn:0≤n
 ·have e1:IntKind.u64.wrap (IntKind.u64.wrap n * 2)=(((2 * n).toNat:Nat):Int):=by rw[IntKind.wrap_u64,IntKind.wrap_u64];omega
  have e2:IntKind.u64.wrap (n / 9223372036854775808)=((0:Nat):Int):=by rw[IntKind.wrap_u64];omega
  rw[e1,e2,bits_xor_u64_nat _ _ (by omega) (by decide),Nat.xor_zero]
  unfold zzD;rw[if_pos hn];omega
 ·have e1:IntKind.u64.wrap (IntKind.u64.wrap n * 2)=(((2 * n+18446744073709551616).toNat:Nat):Int):=by rw[IntKind.wrap_u64,IntKind.wrap_u64];omega
  have e2:IntKind.u64.wrap (n / 9223372036854775808)=((2 ^ 64 - 1:Nat):Int):=by rw[IntKind.wrap_u64];omega
  rw[e1,e2,bits_xor_u64_nat _ _ (by omega) (by decide),Nat.xor_comm,Lib.xor_ones64 _ (by omega)]
  unfold zzD;rw[if_neg hn];omega
theorem zig_any (n:Int) (h:In64 n) (w:World):Calls Tryz.prog 150 #[.int .i64 n] w fun e w'=>e = .returned (.int .u64 (zzD n))∧w=w':=by
 have HZ:=zh (zig_bits h)
 go_enter Tryz.func150,Tryz.ntmps150
 go_wp2
 go_ret
 exact ⟨by rw[←HZ.out];rfl,rfl⟩
end Go.Proofs.YthkkllmmbefedaaGreatDoor


