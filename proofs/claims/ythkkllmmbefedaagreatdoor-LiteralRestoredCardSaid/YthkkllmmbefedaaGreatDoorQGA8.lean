/-
  Walks: cmp.Compare, cmp.Or, Zigzag.
-/
import Derived.Test.YthkkllmmbefedaaGreatDoorQGA7
import Derived.Test.YthkkllmmbefedaaGreatDoorQGA5
import Derived.Test.YthkkllmmbefedaaGreatDoorQGA3
import Derived.Test.YthkkllmmbefedaaGreatDoorQGA6
import Derived.Test.YthkkllmmbefedaaGreatDoorQGA2
import Derived.BigQuiet
import Derived.Deep.DeepCutAuto
import Derived.Deep.CutBlock
import Derived.Deep.LoopGhost
import Derived.Deep.MidRow
import Derived.Lib.Join
import Derived.Lib.Zigzag
namespace Go.Proofs.YthkkllmmbefedaaGreatDoor
open Go.RowKit
set_option maxHeartbeats 16000000
set_option maxRecDepth 100000
structure Ah (b:Nat) (w w':World):Prop where
 Bz:Below b w w'
 Eu:∀q,q≠b->q<w.heap.size->w'.heap[q]? = w.heap[q]?
section
variable {b:Nat} {w w1 w':World}
theorem Ah.of (hb:Below w.heap.size w w') (h:b<=w.heap.size):Ah b w w':=⟨hb.mono h,fun q _ hq=>hb.block q hq⟩
theorem Ah.refl (b:Nat) (w:World):Ah b w w:=⟨Pe _ _,fun _ _ _=>rfl⟩
theorem Ah.trans (h:Ah b w w1) (h':Ah b w1 w'):Ah b w w' :=
 ⟨h.Bz.trans h'.Bz,fun q hq hl=>(h'.Eu q hq (AA2 hl h.Bz.size)).trans (h.Eu q hq hl)⟩
theorem Ah.set (h:Ah b w w') (j:Nat) (u:Value):Ah b w (w'.setCell ⟨b,j,none⟩ u) :=
 ⟨h.Bz.setCell (p:=⟨b,j,none⟩) (AAP _) u,fun q hq hl=>(AAO _ _ _ _ (by simpa using hq)).trans (h.Eu q hq hl)⟩
theorem Ah.below (h:Ah b w w1) (hb:Below w1.heap.size w1 w') (hl:b<w.heap.size):Ah b w w':=h.trans (Ah.of hb (by have:=h.Bz.size;omega))
theorem Ah.up {p:Nat} (h:Ah b w w1) (hb:Below p w1 w') (hp:w.heap.size<=p) (hl:b<=p):Ah b w w' :=
 ⟨h.Bz.trans (hb.mono hl),fun q hq hl=>(hb.block q (AA2 hl hp)).trans (h.Eu q hq hl)⟩
theorem Ah.size (h:Ah b w w'):w.heap.size<=w'.heap.size:=h.Bz.size
theorem Ah.off {S:Nat->Prop} {P:World->Prop} (h:Ah b w w') (hS:S b) (hp:Off S w P):Off S w' P:=hp.step h.size fun q hq hl=>h.Eu q (fun e=>hq (e▸hS)) hl
end
structure EB where
 w0:World
 s:List Aa
 A:zo
 c:Nat
 l:List AJ
 AL:zo
 cL:Nat
 b:Nat
structure EB.Ok (C:EB):Prop where
 ty:C8 C.w0 C.A C.s
 tk:JZ C.w0 C.AL C.l
 ge:C.w0.heap.size<=C.b
 len:C.l.length<=1000000
def EB.o (C:EB) (i:Nat) (k:Bool) (e:Int):Obj := .cells #[.slice C.A C.s.length C.c,.slice C.AL C.l.length C.cL,.int .i64 i,.bool k,.int .i64 e] 107
structure Bv (C:EB) (w:World) (r:List AJ) (k:Bool) (e:Int):Prop where
 ok:C.Ok
 blk:w.heap[C.b]? = some (C.o (C.l.length - r.length) k e)
 Ta:r <:+ C.l
 up:Below C.w0.heap.size C.w0 w
section
variable {C:EB} {w w':World} {r r':List AJ} {k k':Bool} {e e':Int}
theorem Bv.lt (h:Bv C w r k e):C.b<w.heap.size:=(zg.1 h.blk).1
theorem Bv.below (h:Bv C w r k e) (hb:Below w.heap.size w w'):Bv C w' r k e:=⟨h.ok,Aw h.blk hb,h.Ta,h.up.trans (hb.mono h.up.size)⟩
theorem Bv.BJ (h:Bv C w r k e) (hb:Below w.heap.size w w'):Ah C.b w w':=Ah.of hb (AAV h.lt)
theorem Bv.cells (h:Bv C w r k e):(w.cell? ⟨C.b,0,none⟩=some (.slice C.A C.s.length C.c)/\w.cell? ⟨C.b,1,none⟩=some (.slice C.AL C.l.length C.cL)/\w.cell? ⟨C.b,2,none⟩=some (.int .i64 ((C.l.length - r.length:Nat):Int))/\w.cell? ⟨C.b,3,none⟩=some (.bool k)/\w.cell? ⟨C.b,4,none⟩=some (.int .i64 e))/\(∀j,w.frozen? ⟨C.b,j,none⟩=false):=by
 have hb:=h.blk;unfold EB.o at hb;refine ⟨⟨?_,?_,?_,?_,?_⟩,fun j=>AAR _ _ _ _ _ hb⟩ <;> (rw[AAN _ _ _ _ _ _ hb];rfl)
theorem Bv.setAt (h:Bv C w r k e) (hs:r' <:+ C.l) {i:Int} (hi:i=((C.l.length - r'.length:Nat):Int)):Bv C (w.setCell ⟨C.b,2,none⟩ (.int .i64 i)) r' k e:=by
 subst hi;refine ⟨h.ok,?_,hs,h.up.setCell (p:=⟨C.b,2,none⟩) h.ok.ge _⟩;have hb:=h.blk;unfold EB.o at hb;rw[AAW _ _ 2 _ _ _ hb]
 rfl
theorem Bv.vz (h:Bv C w r k e) (k':Bool):Bv C (w.setCell ⟨C.b,3,none⟩ (.bool k')) r k' e:=by
 refine ⟨h.ok,?_,h.Ta,h.up.setCell (p:=⟨C.b,3,none⟩) h.ok.ge _⟩;have hb:=h.blk;unfold EB.o at hb;rw[AAW _ _ 3 _ _ _ hb]
 rfl
theorem Bv.AAw (h:Bv C w r k e) (e':Int):Bv C (w.setCell ⟨C.b,4,none⟩ (.int .i64 e')) r k e':=by
 refine ⟨h.ok,?_,h.Ta,h.up.setCell (p:=⟨C.b,4,none⟩) h.ok.ge _⟩;have hb:=h.blk;unfold EB.o at hb;rw[AAW _ _ 4 _ _ _ hb]
 rfl
variable {t:AJ}
theorem Bv.lF (h:Bv C w r k e) {i:Nat} (hi:C.l[i]? = some t):∃bb o,C.AL=some ⟨bb,o,none⟩/\(Dk t.text/\Dk t.str) /\
  w.cell? ⟨bb,o+i * 5,none⟩=some (.int .i64 t.kind)/\w.cell? ⟨bb,o+i * 5+1,none⟩=some (.string t.text)/\w.cell? ⟨bb,o+i * 5+2,none⟩=some (.int .i64 t.int)/\w.cell? ⟨bb,o+i * 5+3,none⟩=some (.string t.str)/\w.cell? ⟨bb,o+i * 5+4,none⟩=some (.int .i64 t.line):=by
 obtain ⟨hi2,rfl⟩:=AAf.1 hi;obtain ⟨bb,o,hA,h0,h1,h2,h3,h4,h5⟩:=h.ok.tk.cells hi2;exact ⟨bb,o,hA,h0,zA h.up h1,zA h.up h2,zA h.up h3,zA h.up h4,zA h.up h5⟩
theorem Bv.xB {q:List AJ} (h:Bv C w (t::q) k e):C.l[C.l.length - (t::q).length]? = some t:=by
 obtain ⟨p,hp⟩:=h.Ta;have hl:C.l.length - (t::q).length=p.length:=by rw[<-hp];simp
 rw[hl,<-hp,ABQ (AAP _),Nat.sub_self]
 rfl
theorem Bv.tail {q:List AJ} (h:Bv C w (t::q) k e):q <:+ C.l/\(((C.l.length - (t::q).length:Nat):Int)+1=((C.l.length - q.length:Nat):Int)):=by
 have h1:=h.Ta;have h2:=h1.length_le;rw[AAS] at h2 ⊢;exact ⟨(List.suffix_cons t q).trans h1,by omega⟩
end
structure Aj where
 v:Val
 A1:zo
 c1:Nat
 A2:zo
 c2:Nat
 A3:zo
 c3:Nat
def Aj.cells (x:Aj):List Value:=x.v.cs x.A1 x.c1 x.A2 x.c2 x.A3 x.c3
theorem Bh (x:Aj):∀u∈x.cells,u.oneCell'=true:=fun u hu=>by
 unfold Aj.cells at hu;simp only[AAi,List.mem_nil_iff,or_false] at hu
 rcases hu with rfl|rfl|rfl|rfl|rfl|rfl|rfl|rfl <;> rfl
def encR (r:Af):List Value:=[.int .i64 r.id,.string r.data]
theorem iL (x:Af):∀u∈encR x,u.oneCell'=true:=fun u hu=>by
 unfold encR at hu;simp only[AAi,List.mem_nil_iff,or_false] at hu
 rcases hu with rfl|rfl <;> rfl
abbrev C9:=Ab 28 8 Aj.cells
abbrev oH:=Ab 97 2 encR
def IU (kd:Int) (bo:Bool) (it:Int) (st:ByteArray) (di:Int) (vk vi vr:Value):Obj := .cells #[.int .i64 kd,.bool bo,.int .i64 it,.string st,.int .i64 di,vk,vi,vr] 28
def RH (p:Nat) (vk vi vr:Value) (q:Nat):Prop:=q<=p\/vk.ownBlock=some q\/vi.ownBlock=some q\/vr.ownBlock=some q
structure Gt (p:Nat) (w:World) (kd:Int) (bo:Bool) (it:Int) (st:ByteArray) (di:Int) (vk vi vr:Value) (K I:List Aj) (R:List Af):Prop where
 blk:w.heap[p]? = some (IU kd bo it st di vk vi vr)
 ok:C9 w (p+1) vk K
 oi:C9 w (p+1) vi I
 Rp:oH w (p+1) vr R
 ne:∀q,vk.ownBlock=some q->vi.ownBlock≠some q
 off:∀y∈K++I,Off (RH p vk vi vr) w fun u=>Ao u y.v y.A1 y.A2 y.A3
 str:Dk st
 raw:∀y∈R,Dk y.data
section
variable {p:Nat} {w w':World} {kd:Int} {bo:Bool} {it:Int} {st:ByteArray} {di:Int} {vk vi vr:Value} {K I:List Aj} {R:List Af}
theorem Gt.lt (h:Gt p w kd bo it st di vk vi vr K I R):p<w.heap.size:=(zg.1 h.blk).1
theorem Gt.keep (h : Gt p w kd bo it st di vk vi vr K I R) (hz : w.heap.size <= w'.heap.size) (hk : ∀ q, p <= q -> q < w.heap.size -> w'.heap[q]? = w.heap[q]?) : Gt p w' kd bo it st di vk vi vr K I R :=
  ⟨(hk p (AAP _) h.lt).trans h.blk, h.ok.keep fun g hg hl _ => hk g (by omega) hl, h.oi.keep fun g hg hl _ => hk g (by omega) hl, h.Rp.keep fun g hg hl _ => hk g (by omega) hl, h.ne,
    fun y hy => (h.off y hy).step hz fun q hq hl => hk q (AAV (Nat.lt_of_not_le fun e => hq (.inl e))) hl, h.str, h.raw⟩
theorem Gt.below (h:Gt p w kd bo it st di vk vi vr K I R) (hb:Below w.heap.size w w'):Gt p w' kd bo it st di vk vi vr K I R:=h.keep hb.size fun q _ hq=>hb.block q hq
theorem Gt.BJ {b:Nat} (h:Gt p w kd bo it st di vk vi vr K I R) (hb:Ah b w w') (hl:b<p):Gt p w' kd bo it st di vk vi vr K I R:=h.keep hb.size fun q hp hq=>hb.Eu q (by omega) hq
theorem Gt.cells (h:Gt p w kd bo it st di vk vi vr K I R):(w.cell? ⟨p,0,none⟩=some (.int .i64 kd)/\w.cell? ⟨p,1,none⟩=some (.bool bo)/\w.cell? ⟨p,2,none⟩=some (.int .i64 it)/\w.cell? ⟨p,3,none⟩=some (.string st)/\w.cell? ⟨p,4,none⟩=some (.int .i64 di)/\w.cell? ⟨p,5,none⟩=some vk/\w.cell? ⟨p,6,none⟩=some vi/\w.cell? ⟨p,7,none⟩=some vr)/\(∀j,w.frozen? ⟨p,j,none⟩=false):=by
 have hb:=h.blk;unfold IU at hb;refine ⟨⟨?_,?_,?_,?_,?_,?_,?_,?_⟩,fun j=>AAR _ _ _ _ _ hb⟩ <;> (rw[AAN _ _ _ _ _ _ hb];rfl)
theorem Gt.new (w:World) (kd:Int):Gt w.heap.size (w.alloc (IU kd false 0 ⟨#[]⟩ 0 (.slice none 0 0) (.slice none 0 0) (.slice none 0 0))) kd false 0 ⟨#[]⟩ 0 (.slice none 0 0) (.slice none 0 0) (.slice none 0 0) [] [] [] :=
 ⟨AAL w _,Ab.nil _ _,Ab.nil _ _,Ab.nil _ _,(fun _ h=>by cases h),(fun _ h=>by cases h),by unfold Dk;decide,(fun _ h=>by cases h)⟩
theorem Gt.Mf (h:Gt p w kd bo it st di vk vi vr K I R) {j:Nat} {u:Value} {iW:Bool} {it':Int} {st':ByteArray} {Zw:Int} (hu:(#[Value.int .i64 kd,.bool bo,.int .i64 it,.string st,.int .i64 di,vk,vi,vr]:Array Value).setIfInBounds j u = #[.int .i64 kd,.bool iW,.int .i64 it',.string st',.int .i64 Zw,vk,vi,vr]) (hs:Dk st') :
  Gt p (w.setCell ⟨p,j,none⟩ u) kd iW it' st' Zw vk vi vr K I R:=by
 have hb:=h.blk;unfold IU at hb;refine ⟨?_,h.ok.keep fun g hg _ _=>AAO _ _ _ _ (by simp only;omega),h.oi.keep fun g hg _ _=>AAO _ _ _ _ (by simp only;omega),h.Rp.keep fun g hg _ _=>AAO _ _ _ _ (by simp only;omega),h.ne,
  fun y hy=>(h.off y hy).set u (.inl (AAP _)),hs,h.raw⟩
 rw[AAW _ _ j _ _ u hb,hu];rfl
theorem GL (h:Gt p w kd bo it st di vk vi vr K I R):(∀q,vk.ownBlock=some q->p<q/\q<w.heap.size)/\(∀q,vi.ownBlock=some q->p<q/\q<w.heap.size)/\(∀q,vr.ownBlock=some q->p<q/\q<w.heap.size) :=
 ⟨fun q hq=>World.ownsRow.lt h.ok q hq,fun q hq=>World.ownsRow.lt h.oi q hq,fun q hq=>World.ownsRow.lt h.Rp q hq⟩
theorem own_ne {w:World} {base iY:Nat} {v v2:Value} {l:List Aj} {l2:List Af} (h:C9 w base v l) (h2:oH w iY v2 l2) (q:Nat) (hq:v.ownBlock=some q):v2.ownBlock≠some q:=fun e=>by
 obtain ⟨c1,f1,e1⟩:=h.block hq;obtain ⟨c2,f2,e2⟩:=h2.block e;rw[e1] at e2
 injection e2 with e2
 injection e2 with _ e3
 exact absurd e3 (by decide)
variable {v8:Value} {w4 w8:World}
theorem Gt.item (h:Gt p w kd bo it st di vk vi vr K I R) {x:Aj} (hx:Off (RH p vk vi vr) w fun u=>Ao u x.v x.A1 x.A2 x.A3) (hb4:Below w.heap.size w w4) (ho:w8.ownsRow (p+1) 28 8 v8 (I.length+1) (I.flatMap Aj.cells++x.cells)) (hg:w4.grownBy w8 vi.ownBlock) (hv:v8.ownBlock=vi.ownBlock\/v8.ownBlock=some w4.heap.size):
  Gt p (w8.setCell ⟨p,6,none⟩ v8) kd bo it st di vk v8 vr K (I++[x]) R/\Below p w (w8.setCell ⟨p,6,none⟩ v8)/\∀q,q≠p->vi.ownBlock≠some q->q<w.heap.size->(w8.setCell ⟨p,6,none⟩ v8).heap[q]? = w.heap[q]? := by
 have h4:=h.below hb4;obtain ⟨l1,l2,l3⟩:=GL h4;have hk:∀q,q<w4.heap.size->vi.ownBlock≠some q->w8.heap[q]? = w4.heap[q]? := fun q hq hne=>yA hg hq fun k hk e=>hne (by rw[hk,e])
 have gq:=(hk p h4.lt fun e=>by have:=l2 p e;omega).trans h4.blk
 have hso:∀q,q≠p->(w8.setCell ⟨p,6,none⟩ v8).heap[q]? = w8.heap[q]? := fun q hq=>AAO _ _ _ _ (by simpa using hq)
 have hz8:=hg.size;refine ⟨⟨?_,?_,?_,?_,?_,?_,h.str,h.raw⟩,((((hb4.mono (AAV h.lt)).grown hg (AAV h4.lt) fun q hq=>by have:=l2 q hq;omega)).setCell (p:=⟨p,6,none⟩) (AAP _) v8),fun q h1 h2 h3=>((hso q h1).trans (hk q (by have:=hb4.size;omega) h2)).trans (hb4.block q h3)⟩
 ·unfold IU at gq
  rw[AAW _ _ 6 _ _ v8 gq];rfl
 ·exact h4.ok.keep fun g hg1 hl hv0=>(hso g (by omega)).trans (hk g hl (h.ne g hv0))
 ·have ho':C9 w8 (p+1) v8 (I++[x]):=Ab.snoc ho
  exact ho'.keep fun g hg1 _ _=>hso g (by omega)
 ·exact h4.Rp.keep fun g hg1 hl hv0=>(hso g (by omega)).trans (hk g hl fun e=>own_ne h4.oi h4.Rp g e hv0)
 ·intro q hq e
  rcases hv with e2|e2
  ·exact h.ne q hq (e2▸e)
  ·rw[e2] at e
   have:=AAh e;have:=(l1 q hq).2
   omega
 ·intro y hy
  have hy':Off (RH p vk vi vr) w4 fun u=>Ao u y.v y.A1 y.A2 y.A3:=by
   rw[<-AAb] at hy
   rcases AAm.1 hy with k|k
   ·exact h4.off y k
   ·obtain rfl:y=x:=by simpa using k
    exact hx.low hb4
  refine hy'.grow (fun q hq hs=>?_) (fun q hq hn=>?_) (by simp;omega)
  ·rcases hs with e|e|e|e
   ·exact .inl e
   ·exact .inr (.inl e)
   ·rcases hv with e2|e2
    ·exact .inr (.inr (.inl (e2▸e)))
    ·rw[e2] at e
     have:=AAh e
     omega
   ·exact .inr (.inr (.inr e))
  ·exact (hso q fun e=>hn (.inl (Nat.le_of_eq e))).trans (hk q hq fun e=>hn (.inr (.inr (.inl e))))
theorem Gt.key (h:Gt p w kd bo it st di vk vi vr K I R) {x:Aj} (hx:Off (RH p vk vi vr) w fun u=>Ao u x.v x.A1 x.A2 x.A3) (hb4:Below w.heap.size w w4) (ho:w8.ownsRow (p+1) 28 8 v8 (K.length+1) (K.flatMap Aj.cells++x.cells)) (hg:w4.grownBy w8 vk.ownBlock) (hv:v8.ownBlock=vk.ownBlock\/v8.ownBlock=some w4.heap.size):
  Gt p (w8.setCell ⟨p,5,none⟩ v8) kd bo it st di v8 vi vr (K++[x]) I R/\Below p w (w8.setCell ⟨p,5,none⟩ v8)/\∀q,q≠p->vk.ownBlock≠some q->q<w.heap.size->(w8.setCell ⟨p,5,none⟩ v8).heap[q]? = w.heap[q]? := by
 have h4:=h.below hb4;obtain ⟨l1,l2,l3⟩:=GL h4;have hk:∀q,q<w4.heap.size->vk.ownBlock≠some q->w8.heap[q]? = w4.heap[q]? := fun q hq hne=>yA hg hq fun k hk e=>hne (by rw[hk,e])
 have gq:=(hk p h4.lt fun e=>by have:=l1 p e;omega).trans h4.blk
 have hso:∀q,q≠p->(w8.setCell ⟨p,5,none⟩ v8).heap[q]? = w8.heap[q]? := fun q hq=>AAO _ _ _ _ (by simpa using hq)
 have hz8:=hg.size;refine ⟨⟨?_,?_,?_,?_,?_,?_,h.str,h.raw⟩,((((hb4.mono (AAV h.lt)).grown hg (AAV h4.lt) fun q hq=>by have:=l1 q hq;omega)).setCell (p:=⟨p,5,none⟩) (AAP _) v8),fun q h1 h2 h3=>((hso q h1).trans (hk q (by have:=hb4.size;omega) h2)).trans (hb4.block q h3)⟩
 ·unfold IU at gq
  rw[AAW _ _ 5 _ _ v8 gq];rfl
 ·have ho':C9 w8 (p+1) v8 (K++[x]):=Ab.snoc ho
  exact ho'.keep fun g hg1 _ _=>hso g (by omega)
 ·exact h4.oi.keep fun g hg1 hl hv0=>(hso g (by omega)).trans (hk g hl fun e=>h.ne g e hv0)
 ·exact h4.Rp.keep fun g hg1 hl hv0=>(hso g (by omega)).trans (hk g hl fun e=>own_ne h4.ok h4.Rp g e hv0)
 ·intro q hq e
  rcases hv with e2|e2
  ·exact h.ne q (e2▸hq) e
  ·rw[e2] at hq
   have:=AAh hq;have:=(l2 q e).2
   omega
 ·intro y hy
  have hy':Off (RH p vk vi vr) w4 fun u=>Ao u y.v y.A1 y.A2 y.A3:=by
   rcases AAm.1 hy with k|k
   ·rcases AAm.1 k with k|k
    ·exact h4.off y (ABH _ k)
    ·obtain rfl:y=x:=by simpa using k
     exact hx.low hb4
   ·exact h4.off y (ABe _ k)
  refine hy'.grow (fun q hq hs=>?_) (fun q hq hn=>?_) (by simp;omega)
  ·rcases hs with e|e|e|e
   ·exact .inl e
   ·rcases hv with e2|e2
    ·exact .inr (.inl (e2▸e))
    ·rw[e2] at e
     have:=AAh e
     omega
   ·exact .inr (.inr (.inl e))
   ·exact .inr (.inr (.inr e))
  ·exact (hso q fun e=>hn (.inl (Nat.le_of_eq e))).trans (hk q hq fun e=>hn (.inr (.inl e)))
theorem Gt.Vu (h:Gt p w kd bo it st di vk vi vr K I R) {x:Af} (hx:Dk x.data) (hb4:Below w.heap.size w w4) (ho:w8.ownsRow (p+1) 97 2 v8 (R.length+1) (R.flatMap encR++encR x)) (hg:w4.grownBy w8 vr.ownBlock) (hv:v8.ownBlock=vr.ownBlock\/v8.ownBlock=some w4.heap.size):
  Gt p (w8.setCell ⟨p,7,none⟩ v8) kd bo it st di vk vi v8 K I (R++[x])/\Below p w (w8.setCell ⟨p,7,none⟩ v8)/\∀q,q≠p->vr.ownBlock≠some q->q<w.heap.size->(w8.setCell ⟨p,7,none⟩ v8).heap[q]? = w.heap[q]? := by
 have h4:=h.below hb4;obtain ⟨l1,l2,l3⟩:=GL h4;have hk:∀q,q<w4.heap.size->vr.ownBlock≠some q->w8.heap[q]? = w4.heap[q]? := fun q hq hne=>yA hg hq fun k hk e=>hne (by rw[hk,e])
 have gq:=(hk p h4.lt fun e=>by have:=l3 p e;omega).trans h4.blk
 have hso:∀q,q≠p->(w8.setCell ⟨p,7,none⟩ v8).heap[q]? = w8.heap[q]? := fun q hq=>AAO _ _ _ _ (by simpa using hq)
 have hz8:=hg.size;refine ⟨⟨?_,?_,?_,?_,h.ne,?_,h.str,?_⟩,((((hb4.mono (AAV h.lt)).grown hg (AAV h4.lt) fun q hq=>by have:=l3 q hq;omega)).setCell (p:=⟨p,7,none⟩) (AAP _) v8),fun q h1 h2 h3=>((hso q h1).trans (hk q (by have:=hb4.size;omega) h2)).trans (hb4.block q h3)⟩
 ·unfold IU at gq
  rw[AAW _ _ 7 _ _ v8 gq];rfl
 ·exact h4.ok.keep fun g hg1 hl hv0=>(hso g (by omega)).trans (hk g hl (own_ne h4.ok h4.Rp g hv0))
 ·exact h4.oi.keep fun g hg1 hl hv0=>(hso g (by omega)).trans (hk g hl (own_ne h4.oi h4.Rp g hv0))
 ·have ho':oH w8 (p+1) v8 (R++[x]):=Ab.snoc ho
  exact ho'.keep fun g hg1 _ _=>hso g (by omega)
 ·intro y hy
  refine (h4.off y hy).grow (fun q hq hs=>?_) (fun q hq hn=>?_) (by simp;omega)
  ·rcases hs with e|e|e|e
   ·exact .inl e
   ·exact .inr (.inl e)
   ·exact .inr (.inr (.inl e))
   ·rcases hv with e2|e2
    ·exact .inr (.inr (.inr (e2▸e)))
    ·rw[e2] at e
     have:=AAh e
     omega
  ·exact (hso q fun e=>hn (.inl (Nat.le_of_eq e))).trans (hk q hq fun e=>hn (.inr (.inr (.inr e))))
 ·intro y hy
  rcases AAm.1 hy with k|k
  ·exact h.raw y k
  ·obtain rfl:y=x:=by simpa using k
   exact hx
theorem TI {w:World} {A:zo} {L:List Aj} (h:Ac 8 120 (fun x cs=>Val.At w x.v cs) w A L):Ch w A (L.map (·.v)):=by
 refine ⟨by rw[AAd];exact h.1,fun hn=>?_⟩
 obtain ⟨b,o,e,hi⟩:=h.2 (fun e=>hn (by rw[e];rfl))
 refine ⟨b,o,e,fun i x hx=>?_⟩
 rw[List.getElem?_map] at hx;obtain ⟨y,hy,rfl⟩:=AA4.1 hx;exact hi i y hy
theorem Gt.fin (h:Gt p w kd bo it st di vk vi vr K I R) (hK:EK 120 K.length) (hI:EK 120 I.length) (hR:EK 24 R.length):∃A1 c1 A2 c2 A3 c3,vk = .slice A1 K.length c1/\vi = .slice A2 I.length c2/\vr = .slice A3 R.length c3 /\
  Off (fun q=>q<=p) w fun u=>Ao u (.mk kd bo it st di (K.map (·.v)) (I.map (·.v)) R) A1 A2 A3:=by
 obtain ⟨A1,c1,rfl,_⟩:=h.ok.reads;obtain ⟨A2,c2,rfl,_⟩:=h.oi.reads;obtain ⟨A3,c3,rfl,_⟩:=h.Rp.reads;refine ⟨A1,c1,A2,c2,A3,c3,rfl,rfl,rfl,fun u hu=>?_⟩
 have hk:∀q,p+1<=q->q<w.heap.size->u.heap[q]? = w.heap[q]? := fun q hq hl=>hu q (by omega) hl
 have hv:∀y∈K++I,Ao u y.v y.A1 y.A2 y.A3:=fun y hy=>h.off y hy u fun q hq hl=>hu q (fun e=>hq (.inl e)) hl
 obtain ⟨B1,d1,e1,g1⟩:=(h.ok.keep fun g hg hl _=>hk g hg hl).rows (bytes:=120) (at_:=fun x cs=>Val.At u x.v cs) (fun _=>rfl) hK fun y hy=>Val.FZ.2 ⟨_,_,_,_,_,_,rfl,hv y (ABH _ hy)⟩
 obtain ⟨B2,d2,e2,g2⟩:=(h.oi.keep fun g hg hl _=>hk g hg hl).rows (bytes:=120) (at_:=fun x cs=>Val.At u x.v cs) (fun _=>rfl) hI fun y hy=>Val.FZ.2 ⟨_,_,_,_,_,_,rfl,hv y (ABe _ hy)⟩
 obtain ⟨B3,d3,e3,g3⟩:=(h.Rp.keep fun g hg hl _=>hk g hg hl).rows (bytes:=24) (at_:=Af.At) (fun _=>rfl) hR fun y hy=>⟨h.raw y hy,rfl⟩
 injection e1 with e1 _ _
 injection e2 with e2 _ _
 injection e3 with e3 _ _
 subst e1 e2 e3;exact ⟨h.str,TI g1,TI g2,g3⟩
end
def IX {α:Type} (part:List AJ->Bool->PR α) (R:PR (List α)) (acc:List α) (r:List AJ) (k:Bool):Prop:=R=(KP part r k).bind fun q => .ok (acc++q.1,q.2)
section
variable {α:Type} {part:List AJ->Bool->PR α} {R:PR (List α)} {acc:List α} {r r':List AJ} {k k':Bool} {x:α} {e:Int}
theorem IX.start (part:List AJ->Bool->PR α) (r:List AJ) (k:Bool):IX part (KP part r k) [] r k:=by
 unfold IX
 cases KP part r k with
 | error e=>rfl
 | ok q=>rfl
theorem IX.bad (hd:Dec part) (h:IX part R acc r k) (hp:part r k = .error e):R = .error e:=by
 unfold IX at h;rw[Lb hd,hp] at h;exact h
theorem IX.comma (hd:Dec part) (h:IX part R acc r k) (hp:part r k = .ok (x,r',k')) (hc:BX ⟨#[44]⟩ r'=true):IX part R (acc++[x]) r'.tail k':=by
 unfold IX at h ⊢;rw[Lb hd,hp,zM,AAH hc] at h;rw[h]
 cases KP part r'.tail k' with
 | error e=>rfl
 | ok q=>simp only[zM,AAb,List.singleton_append]
theorem IX.fin (hd:Dec part) (h:IX part R acc r k) (hp:part r k = .ok (x,r',k')) (hc:BX ⟨#[44]⟩ r'=false):R = .ok (acc++[x],r',k'):=by
 unfold IX at h;rw[Lb hd,hp,zM,Pd (by rw[hc];simp)] at h
 exact h
end
variable {r:List AJ}
theorem rW {s s':ByteArray} (hn:s≠s') (h:BX s r=true):BX s' r=false:=by
 cases r with
 | nil=>rfl
 | cons t q =>
  rw[BX,AAM,AAX,AAX] at h;rw[BX,h.2,AAZ hn,Bool.and_false]
def ZA (r:List AJ):Except Int (List Af×List AJ) :=
 (CG 2 r).bind fun p=>(Aq ⟨#[58]⟩ p.2).bind fun l3=>(CG 3 l3).bind fun q=>(ED false false q.2).bind fun z => .ok (⟨p.1.int,q.1.str⟩::z.1,z.2)
abbrev KS:=PR (List Val×List Af)
def Mi (acc:List Val) (rs:List Af) (k:Bool) (a:Except Int (List Af×List AJ)):KS:=a.bind fun q=>(Aq ⟨#[125]⟩ q.2).bind fun l2 => .ok ((acc,rs++q.1),l2,k)
section
variable {f:Int->List AJ->Bool->PR Val} {R:KS} {acc:List Val} {rs:List Af} {ms:List AY} {r r':List AJ} {k k':Bool} {x:Val} {e:Int} {y:AY}
def ML (f:Int->List AJ->Bool->PR Val) (R:KS) (acc:List Val) (rs:List Af) (ms:List AY) (r:List AJ) (k:Bool):Prop :=
 (ms=[]/\R=Mi acc rs k (ZA r))\/(ms≠[]/\rs=[]/\R=(BQ f true ms r k).bind fun p=>Mi (acc++p.1) [] p.2.2 (ED false false p.2.1))
def Pk (f:Int->List AJ->Bool->PR Val) (R:KS) (acc:List Val) (rs:List Af) (ms:List AY) (r:List AJ) (k:Bool):Prop :=
 (ms=[]/\R=Mi acc rs k (ED false false r))\/(ms≠[]/\rs=[]/\BX ⟨#[44]⟩ r=true/\R=(BQ f false ms r k).bind fun p=>Mi (acc++p.1) [] p.2.2 (ED false false p.2.1))
theorem Vs (r:List AJ) (h:BX ⟨#[125]⟩ r=false):ED false true r=ZA r:=by
 rw[F8,Pd (by rw[h];simp),AAH rfl,zM]
 unfold ZA;simp only[Qx,Bool.false_eq_true,false_and,if_false]
theorem Vt (r:List AJ) (h:BX ⟨#[44]⟩ r=true):ED false false r=ZA r.tail:=by
 rw[F8,Pd (by rw[rW (by decide) h];simp),Pd (by simp)]
 unfold Aq ZA;rw[AAH h,zM];simp only[Qx,Bool.false_eq_true,false_and,if_false]
 rfl
theorem eO (r:List AJ) (h:BX ⟨#[125]⟩ r=true):ED false false r = .ok ([],r):=by rw[F8,AAH h]
theorem lm (r:List AJ) (h:BX ⟨#[125]⟩ r=false) (h2:BX ⟨#[44]⟩ r=false):ED false false r = .error 2:=by
 rw[F8,Pd (by rw[h];simp),Pd (by simp)]
 unfold Aq;rw[Pd (by rw[h2];simp),Cv]
def Rm (f:Int->List AJ->Bool->PR Val) (ms:List AY) (r:List AJ) (k:Bool):KS :=
 (BQ f true ms r k).bind fun p=>Mi p.1 [] p.2.2 (ED false ms.isEmpty p.2.1)
theorem lZ (x:Aa) (l:List AJ) (k:Bool):Iq false f x l k=(Aq ⟨#[123]⟩ l).bind fun l1=>Rm f x.AA l1 k:=rfl
theorem ML.start (hc:BX ⟨#[125]⟩ r=false):ML f (Rm f ms r k) [] [] ms r k:=by
 cases ms with
 | nil =>
  refine .inl ⟨rfl,?_⟩;unfold Rm;rw[BQ,zM];simp only[List.isEmpty_nil];rw[Vs r hc]
 | cons y ms=>exact .inr ⟨by simp,rfl,rfl⟩
theorem Y8 (hc:BX ⟨#[125]⟩ r=true):Rm f [] r k = .ok (([],[]),r.tail,k):=by
 unfold Rm;rw[BQ,zM];simp only[List.isEmpty_nil];rw[F8,AAH hc];unfold Mi;rw[zM];unfold Aq;simp only;rw[AAH hc,zM]
 rfl
theorem qb {n:Int} {s:ByteArray} (h:BX s r=true) (hn:n≠4):CG n r = .error 2:=by
 obtain ⟨t,q,rfl,h1,_⟩:=Cr h;rw[CG,Pd (by omega)]
theorem eD (hm:ms≠[]) (hc:BX ⟨#[125]⟩ r=true):Rm f ms r k = .error 2:=by
 cases ms with
 | nil=>exact absurd rfl hm
 | cons y ms =>
  unfold Rm;rw[BQ,AAH rfl,zM,qb hc (by decide)]
  rfl
theorem Pk.comma (h:Pk f R acc rs ms r k) (hc:BX ⟨#[44]⟩ r=true):ML f R acc rs ms r.tail k:=by
 rcases h with ⟨h1,h2⟩|⟨h1,h2,h3,h4⟩
 ·exact .inl ⟨h1,by rw[h2,Vt r hc]⟩
 ·refine .inr ⟨h1,h2,h4.trans ?_⟩
  cases ms with
  | nil=>exact absurd rfl h1
  | cons y ms =>
   rw[BQ,BQ,Pd (by simp),AAH rfl]
   unfold Aq;rw[AAH hc]
theorem Pk.fin (h:Pk f R acc rs ms r k) (hc:BX ⟨#[44]⟩ r=false) (hb:BX ⟨#[125]⟩ r=true):R = .ok ((acc,rs),r.tail,k):=by
 rcases h with ⟨_,h2⟩|⟨_,_,h3,_⟩
 ·rw[h2,eO r hb]
  unfold Mi;rw[zM];unfold Aq;simp only;rw[AAH hb,zM,List.append_nil]
 ·rw[hc] at h3;cases h3
theorem Pk.bad (h:Pk f R acc rs ms r k) (hc:BX ⟨#[44]⟩ r=false) (hb:BX ⟨#[125]⟩ r=false):R = .error 2:=by
 rcases h with ⟨_,h2⟩|⟨_,_,h3,_⟩
 ·rw[h2,lm r hb hc];rfl
 ·rw[hc] at h3;cases h3
theorem ML.name (h:ML f R acc rs (y::ms) r k):rs=[]/\R=(CG 1 r).bind fun p=>if p.1.text=y.name then (Aq ⟨#[58]⟩ p.2).bind fun l2=>(f y.type l2 k).bind fun q=>(BQ f false ms q.2.1 q.2.2).bind fun z=>Mi (acc++(q.1::z.1)) [] z.2.2 (ED false false z.2.1) else .error 4:=by
 rcases h with ⟨h1,_⟩|⟨_,h2,h3⟩
 ·cases h1
 ·refine ⟨h2,h3.trans ?_⟩
  rw[BQ,AAH rfl,zM]
  cases CG 1 r with
  | error e=>rfl
  | ok p =>
   rw[zM,zM]
   split
   ·cases Aq ⟨#[58]⟩ p.2 with
    | error e=>rfl
    | ok l2 =>
     rw[zM,zM]
     cases f y.type l2 k with
     | error e=>rfl
     | ok q =>
      rw[zM,zM]
      cases BQ f false ms q.2.1 q.2.2 with
      | error e=>rfl
      | ok z=>rfl
   ·rfl
theorem lg (hr:rs=[]) (h:R=(BQ f false ms r k).bind fun z=>Mi (acc++z.1) [] z.2.2 (ED false false z.2.1)) (hc:ms=[]\/BX ⟨#[44]⟩ r=true):Pk f R acc rs ms r k:=by
 by_cases hm:ms=[]
 ·refine .inl ⟨hm,?_⟩
  rw[h,hm,BQ,zM,hr];simp only[List.append_nil]
 ·exact .inr ⟨hm,hr,hc.resolve_left hm,h⟩
theorem ql (h:R=(BQ f false ms r k).bind fun z=>Mi (acc++z.1) [] z.2.2 (ED false false z.2.1)) (hm:ms≠[]) (hc:BX ⟨#[44]⟩ r=false):R = .error 2:=by
 cases ms with
 | nil=>exact absurd rfl hm
 | cons y ms =>
  rw[h,BQ,Pd (by simp)]
  unfold Aq;rw[Pd (by rw[hc];simp)]
  rfl
theorem ML.raw (h:ML f R acc rs [] r k):R=(CG 2 r).bind fun p=>(Aq ⟨#[58]⟩ p.2).bind fun l3=>(CG 3 l3).bind fun q=>Mi acc (rs++[⟨p.1.int,q.1.str⟩]) k (ED false false q.2):=by
 rcases h with ⟨_,h2⟩|⟨h1,_⟩
 ·rw[h2]
  unfold ZA
  cases CG 2 r with
  | error e=>rfl
  | ok p =>
   rw[zM,zM]
   cases Aq ⟨#[58]⟩ p.2 with
   | error e=>rfl
   | ok l3 =>
    rw[zM,zM]
    cases CG 3 l3 with
    | error e=>rfl
    | ok q =>
     rw[zM,zM]
     cases ED false false q.2 with
     | error e=>rfl
     | ok z =>
      unfold Mi;simp only[zM,AAb,List.singleton_append]
 ·exact absurd rfl h1
end
variable {k:Bool} {e:Int} {C:EB} {w:World}
theorem zX (T:ByteArray) (h:Bv C w r k e):
  Calls Tryz.prog 160 #[.pointer (some ⟨C.b,0,none⟩),.string T] w fun x w'=>x = .returned (.bool (BX T r))/\Below w.heap.size w w':=by
 obtain ⟨⟨c0,c1,c2,c3,c4⟩,hf⟩:=h.cells;have SE:=h.ok.len
 cases r with
 | nil =>
  have z1:decide (((C.l.length - ([]:List AJ).length:Nat):Int)<(C.l.length:Int))=false:=by simp
  clear h hf
  go_enter Tryz.func160,Tryz.ntmps160
  go_wp2_with fail
  go_quiet (fail)
  go_wp2
  go_ret
  exact ⟨rfl,zC (Pe _ _) _⟩
 | cons t q =>
  have hgi:=h.xB;obtain ⟨bb,o,hA,_,t0,t1,t2,t3,t4⟩:=h.lF hgi;have hi:=(AAf.1 hgi).1;rw[hA] at c1;have hq:BX T (t::q)=(decide (t.kind=4)&&decide (t.text=T)):=rfl;rw[hq];clear h hf hq hgi;generalize C.l.length - (t::q).length=i at *;have z1:decide ((i:Int)<(C.l.length:Int))=true:=by simp;omega
  have z2:(0:Int)<=(i:Int):=by omega
  have z3:(i:Int)<(C.l.length:Int):=by omega
  have HE:=zh (bytes_beq t.text T)
  by_cases hk:t.kind=4
  ·have q1:(t.kind==4)=true:=by simp[hk]
   rw[hk,<-bytes_beq];clear hk HE
   go_enter Tryz.func160,Tryz.ntmps160
   go_wp2_with fail
   go_quiet (fail)
   go_wp2
   go_ret
   exact ⟨rfl,zC (Pe _ _) _⟩
  ·have q1:(t.kind==4)=false:=by simp[hk]
   rw[AAZ hk,Bool.false_and];clear hk HE
   go_enter Tryz.func160,Tryz.ntmps160
   go_wp2_with fail
   go_quiet (fail)
   go_wp2
   go_ret
   exact ⟨rfl,zC (Pe _ _) _⟩
theorem Bv.af {t:AJ} {q:List AJ} (h:Bv C w (t::q) k e):∃i:Nat,i+1<=1000000/\w.cell? ⟨C.b,2,none⟩=some (.int .i64 (i:Int))/\w.frozen? ⟨C.b,2,none⟩=false/\C.l[i]? = some t /\
  Hid ((∀w1 e1 k1,Bv C w1 (t::q) k1 e1->Bv C (w1.setCell ⟨C.b,2,none⟩ (.int .i64 ((i:Int)+1))) q k1 e1)/\(∀w1 e1 k1,Bv C w1 q k1 e1->w1.cell? ⟨C.b,2,none⟩=some (.int .i64 ((i:Int)+1)))):=by
 obtain ⟨⟨c0,c1,c2,c3,c4⟩,hf⟩:=h.cells;have ht:=h.tail;have hs:=h.Ta.length_le;have hl:=h.ok.len;have hl1:(t::q).length=q.length+1:=rfl;refine ⟨C.l.length - (t::q).length,by omega,c2,hf 2,h.xB,fun w1 e1 k1 h1=>h1.setAt ht.1 ht.2,fun w1 e1 k1 h1=>?_⟩
 rw[h1.cells.1.2.2.1,ht.2]
def iH (e x:Int):Int:=if e=0 then x else e
theorem BZ (x:Int) (h:Bv C w r k e):
  Calls Tryz.prog 78 #[.pointer (some ⟨C.b,0,none⟩),.int .i64 x] w fun y w'=>y = .returned (.tuple #[])/\Bv C w' r k (iH e x)/\Ah C.b w w':=by
 have HS:=zh h;obtain ⟨⟨c0,c1,c2,c3,c4⟩,hf⟩:=h.cells;have f4:=hf 4;clear h hf
 by_cases he:e=0
 ·have q1:(e==0)=true:=by simp[he]
  have HR:Hid (iH e x=x):=AAH he;clear he
  go_enter Tryz.func78,Tryz.ntmps78
  go_wp2
  refine bodyPost_end (results_none Tryz.results78 _ _ _) rfl ⟨rfl,?_,(Ah.refl _ _).set _ _⟩;rw[HR.out];exact HS.out.AAw x
 ·have q1:(e==0)=false:=by simp[he]
  have HR:Hid (iH e x=e):=Pd he;clear he
  go_enter Tryz.func78,Tryz.ntmps78
  go_wp2
  refine bodyPost_end (results_none Tryz.results78 _ _ _) rfl ⟨rfl,?_,Ah.refl _ _⟩;rw[HR.out];exact HS.out
def xP (C:EB) (T:ByteArray) (w:World) (r:List AJ) (k:Bool) (e:Int) (y:Ending) (w':World):Prop:=y = .returned (.tuple #[])/\Ah C.b w w'/\((BX T r=true/\Bv C w' r.tail k e)\/(BX T r=false/\Bv C w' r k (iH e 2)))
theorem BO (T:ByteArray) (h:Bv C w r k e):
  Calls Tryz.prog 126 #[.pointer (some ⟨C.b,0,none⟩),.string T] w (xP C T w r k e):=by
 have HS:=zh h;clear h
 cases hi:BX T r with
 | false =>
  have HI:=zh hi;clear hi
  go_enter Tryz.func126,Tryz.ntmps126
  go_wp2_with (go_at_call 160;refine (zX T HS).mono ?_;rintro x w1 ⟨rfl,hb1⟩;rw[HI.out];have HB1:=zh hb1;clear hb1)
  refine (BZ 2 (HS.out.below HB1)).mono ?_;rintro x w2 ⟨rfl,h1,h2⟩;have H1:=zh h1;have H2:=zh h2;clear h1 h2;go_wp2;refine bodyPost_ret (results_none Tryz.results126 _ _ _) rfl ⟨rfl,(HS.out.BJ HB1).trans H2,.inr ⟨HI.out,H1.out⟩⟩
 | true =>
  have HI:=zh hi;obtain ⟨t,q,rfl,_,_⟩:=Cr hi;clear hi
  go_enter Tryz.func126,Tryz.ntmps126
  go_wp2_with (go_at_call 160;refine (zX T HS).mono ?_;rintro x w1 ⟨rfl,hb1⟩;rw[HI.out];have HB1:=zh hb1;have IA:=zh (HS.out.below hb1);obtain ⟨i,hi,c2,f2,hi2,HN⟩:=IA.out.af;clear hb1)
  refine bodyPost_end (results_none Tryz.results126 _ _ _) rfl ⟨rfl,(HS.out.BJ HB1).trans ((Ah.refl _ _).set _ _),.inl ⟨HI.out,?_⟩⟩;exact HN.out.1 _ _ _ IA
def KO:AJ:=⟨0,⟨#[]⟩,0,⟨#[]⟩,0⟩
def AJ.v (t:AJ):Value := .agg #[.int .i64 t.kind,.string t.text,.int .i64 t.int,.string t.str,.int .i64 t.line]
def jF (C:EB) (n:Int) (w:World) (r:List AJ) (k:Bool) (e:Int) (y:Ending) (w':World):Prop :=
 Ah C.b w w'/\((∃t q,CG n r = .ok (t,q)/\y = .returned t.v/\Bv C w' q k e/\Dk t.text/\Dk t.str)\/(CG n r = .error 2/\y = .returned KO.v/\Bv C w' r k (iH e 2)))
theorem vY {n:Int} (h:¬ ∃t q,r=t::q/\t.kind=n):CG n r = .error 2:=by
 cases r with
 | nil=>rfl
 | cons t q=>rw[CG,Pd fun e=>h ⟨t,q,rfl,e⟩]
variable {B:Nat} {w':World}
theorem Ah.two {b:Nat} (h:Ah b w w') (j:Nat) (u:Value) (hB:w.heap.size<=B) (hb:b<w.heap.size):Ah b w (w'.setCell ⟨B,j,none⟩ u) :=
 ⟨h.Bz.setCell (p:=⟨B,j,none⟩) (by simp only;omega) u,fun q hq hl=>(AAO _ _ _ _ (by simp only;omega)).trans (h.Eu q hq hl)⟩
abbrev q5 (w:World) (p:Nat) (v0 v1 v2 v3 v4:Value):World:=((((w.setCell ⟨p,0,none⟩ v0).setCell ⟨p,1,none⟩ v1).setCell ⟨p,2,none⟩ v2).setCell ⟨p,3,none⟩ v3).setCell ⟨p,4,none⟩ v4
theorem sW {p:Nat} {a0 a1 a2 a3 a4:Value} {T:TypeId} (h:w.heap[p]? = some (.cells #[a0,a1,a2,a3,a4] T)) (v0 v1 v2 v3 v4:Value):(q5 w p v0 v1 v2 v3 v4).heap[p]? = some (.cells #[v0,v1,v2,v3,v4] T):=by
 have h0:=AAW _ _ 0 _ _ v0 h;have h1:=AAW _ _ 1 _ _ v1 h0;have h2:=AAW _ _ 2 _ _ v2 h1;have h3:=AAW _ _ 3 _ _ v3 h2;exact AAW _ _ 4 _ _ v4 h3
theorem Ah.five {b:Nat} (h:Ah b w w') (v0 v1 v2 v3 v4:Value) (hB:w.heap.size<=B) (hb:b<w.heap.size):Ah b w (q5 w' B v0 v1 v2 v3 v4) :=
 ((((h.two 0 v0 hB hb).two 1 v1 hB hb).two 2 v2 hB hb).two 3 v3 hB hb).two 4 v4 hB hb
theorem Bv.P5 (h:Bv C w r k e) (hB:C.b<B) (v0 v1 v2 v3 v4:Value):Bv C (q5 w B v0 v1 v2 v3 v4) r k e:=by
 have h1:∀w j u,Bv C w r k e->Bv C (w.setCell ⟨B,j,none⟩ u) r k e:=fun w j u h=>⟨h.ok,(AAO _ _ _ _ (by simp only;omega)).trans h.blk,h.Ta,h.up.setCell (p:=⟨B,j,none⟩) (by have:=h.ok.ge;simp only;omega) _⟩
 exact h1 _ _ _ (h1 _ _ _ (h1 _ _ _ (h1 _ _ _ (h1 _ _ _ h))))
theorem Bb {p:Nat} {a0 a1 a2 a3 a4:Value} {T:TypeId} (h:w.heap[p]? = some (.cells #[a0,a1,a2,a3,a4] T)):(w.cell? ⟨p,0,none⟩=some a0/\w.cell? ⟨p,1,none⟩=some a1/\w.cell? ⟨p,2,none⟩=some a2/\w.cell? ⟨p,3,none⟩=some a3/\w.cell? ⟨p,4,none⟩=some a4)/\(w.frozen? ⟨p,0,none⟩=false/\w.frozen? ⟨p,1,none⟩=false/\w.frozen? ⟨p,2,none⟩=false/\w.frozen? ⟨p,3,none⟩=false/\w.frozen? ⟨p,4,none⟩=false):=by
 refine ⟨⟨?_,?_,?_,?_,?_⟩,AAR _ _ _ _ _ h,AAR _ _ _ _ _ h,AAR _ _ _ _ _ h,AAR _ _ _ _ _ h,AAR _ _ _ _ _ h⟩ <;> (rw[AAN _ _ _ _ _ _ h];rfl)
abbrev o6 (t:AJ):Obj := .cells #[.int .i64 t.kind,.string t.text,.int .i64 t.int,.string t.str,.int .i64 t.line] 59
theorem Bp (n:Int) (h:Bv C w r k e):
  Calls Tryz.prog 122 #[.pointer (some ⟨C.b,0,none⟩),.int .i64 n] w (jF C n w r k e):=by
 have HB0:=zh (zD w (o6 KO));have HX0:=zh (AAL w (o6 KO));have HW:=zh (h.BJ HB0);have HS:=zh (h.below HB0);have Dz:=zh h.lt;clear h
 go_enter Tryz.func122,Tryz.ntmps122
 go_upto_region 1 with fail
 unfold o6 KO at HB0 HX0 HW HS;simp only at HB0 HX0 HW HS;generalize w.alloc _=W1 at *
 by_cases hk:∃t q,r=t::q/\t.kind=n
 ·obtain ⟨t,q,rfl,hk⟩:=hk
  have HK:Hid (CG n (t::q) = .ok (t,q)):=by show _=_;rw[CG,AAH hk]
  obtain ⟨⟨c0,c1,c2',c3,c4⟩,hf⟩:=HS.out.cells;obtain ⟨i,hi,c2,f2,hgi,HN⟩:=HS.out.af;obtain ⟨bb,o,hA,hso,t0,t1,t2,t3,t4⟩:=HS.out.lF hgi;have hi2:=(AAf.1 hgi).1;have yU:=zh hso;have HGI:=zh hgi;have HC:=zh (show Bv C W1 (t::q) k e from HS.out);rw[hA] at c1;have z1:decide ((i:Int) >= (C.l.length:Int))=false:=by simp;omega
  have z2:(0:Int)<=(i:Int):=by omega
  have z3:(i:Int)<(C.l.length:Int):=by omega
  have z4:(t.kind != n)=false:=by simp[hk]
  clear hk hso hf c2' hgi
  go_quiet (fail)
  go_upto_region 5 with fail
  have jl:=zh (HN.out.1 _ _ _ (HC.out.below (zC (Pe _ _) nq)));have Ap:=zh ((HW.out.below (zC (Pe W1.heap.size W1) nq) Dz).set 2 (.int .i64 ((i:Int)+1)))
  have CF:Hid (((W1.drewN nq).setCell ⟨C.b,2,none⟩ (.int .i64 ((i:Int)+1))).heap[w.heap.size]? = some (.cells #[.int .i64 0,.string ⟨#[]⟩,.int .i64 0,.string ⟨#[]⟩,.int .i64 0] 59)):=(AAO _ _ _ _ (by have:=Dz.out;simp only;omega)).trans HX0
  clear t0 t1 t2 t3 t4 c0 c1 c2 c3 c4 f2;generalize (W1.drewN nq).setCell ⟨C.b,2,none⟩ (.int .i64 ((i:Int)+1))=W5 at *;have c2:=HN.out.2 _ _ _ jl;obtain ⟨⟨c0,c1,_,c3,c4⟩,_⟩:=jl.out.cells;obtain ⟨bb',o',hA',_,t0,t1,t2,t3,t4⟩:=jl.out.lF HGI;rw[hA] at hA' c1
  injection hA' with hA'
  injection hA' with g1 g2
  subst g1 g2;obtain ⟨⟨x0,x1,x2,x3,x4⟩,y0,y1,y2,y3,y4⟩:=Bb CF
  go_region
  clear t0 t1 t2 t3 t4 x0 x1 x2 x3 x4 y0 y1 y2 y3 y4 c0 c1 c2 c3 c4;have Iy:=zh (sW CF (.int .i64 t.kind) (.string t.text) (.int .i64 t.int) (.string t.str) (.int .i64 t.line));have BH:=zh (Ap.out.five (.int .i64 t.kind) (.string t.text) (.int .i64 t.int) (.string t.str) (.int .i64 t.line) (AAP _) Dz)
  have HS6:=zh (jl.out.P5 Dz (.int .i64 t.kind) (.string t.text) (.int .i64 t.int) (.string t.str) (.int .i64 t.line));unfold q5 at Iy BH HS6;generalize World.setCell _ _ _=W6 at *;have HX7:=zh (Aw Iy (zC (Pe _ _) 1));have uI:=zh (HS6.out.below (zC (Pe _ _) 1))
  have Ca:=zh (BH.out.below (zC (Pe _ _) 1) Dz)
  change Hid (W6.drew.heap[w.heap.size]? = _) at HX7
  change Hid (Bv C W6.drew _ _ _) at uI
  change Hid (Ah C.b w W6.drew) at Ca
  generalize W6.drew=W7 at *;obtain ⟨⟨t0,t1,t2,t3,t4⟩,_⟩:=Bb HX7;go_wp2;refine bodyPost_ret (v:=t.v) (by simp[results,Tryz.results122,go_sem,t0,t1,t2,t3,t4,AJ.v]) rfl ?_
  exact ⟨Ca.out,.inl ⟨t,q,HK.out,rfl,uI.out,yU.out⟩⟩
 ·have HK:=zh (vY hk)
  have Ji:Hid (∀W2 W3:World,Bv C W2 r k (iH e 2)->Ah C.b w W2->W3=q5 W2 w.heap.size (.int .i64 0) (.string ⟨#[]⟩) (.int .i64 0) (.string ⟨#[]⟩) (.int .i64 0)->jF C n w r k e (.returned KO.v) W3):=fun W2 W3 h1 h2 e3=>by
   subst e3;exact ⟨h2.five _ _ _ _ _ (AAP _) Dz,.inr ⟨HK.out,rfl,h1.P5 Dz _ _ _ _ _⟩⟩
  have yu:Hid (∀W2:World,Ah C.b W1 W2->W2.heap[w.heap.size]? = some (.cells #[.int .i64 0,.string ⟨#[]⟩,.int .i64 0,.string ⟨#[]⟩,.int .i64 0] 59)):=fun W2 h=>(h.Eu _ (by have:=Dz.out;omega) (zg.1 HX0).1).trans HX0
  obtain ⟨⟨c0,c1,c2,c3,c4⟩,hf⟩:=HS.out.cells
  cases r with
  | nil =>
   have z1:decide (((C.l.length - ([]:List AJ).length:Nat):Int) >= (C.l.length:Int))=true:=by simp
   clear hk hf
   go_quiet (fail)
   go_wp2_with (go_at_call 78;refine (BZ 2 (HS.out.below (zC (Pe _ _) nq))).mono ?_;rintro x w2 ⟨rfl,h1,h2⟩;have H1:=zh h1;have NK:=zh (yu.out _ ((Ah.of (zC (Pe _ _) nq) (by have:=Dz.out;have:=HB0.out.size;omega)).trans h2));have H2:=zh ((HW.out.below (zC (Pe W1.heap.size W1) nq) Dz).trans h2);clear h1 h2;obtain ⟨⟨x0,x1,x2,x3,x4⟩,y0,y1,y2,y3,y4⟩:=Bb NK)
   have Iz:=zh (sW NK (.int .i64 0) (.string ⟨#[]⟩) (.int .i64 0) (.string ⟨#[]⟩) (.int .i64 0));have zm:=zh (Ji.out w2 _ H1 H2 rfl);unfold q5 at Iz zm;generalize World.setCell _ _ _=W3 at *;obtain ⟨⟨t0,t1,t2,t3,t4⟩,_⟩:=Bb Iz
   refine bodyPost_ret (v:=KO.v) (by simp[results,Tryz.results122,go_sem,t0,t1,t2,t3,t4,AJ.v,KO]) rfl zm
  | cons t q =>
   obtain ⟨i,hi,c2',f2,hgi,HN⟩:=HS.out.af;obtain ⟨bb,o,hA,hso,t0,t1,t2,t3,t4⟩:=HS.out.lF hgi;have hi2:=(AAf.1 hgi).1;rw[hA] at c1;have z1:decide ((i:Int) >= (C.l.length:Int))=false:=by simp;omega
   have z2:(0:Int)<=(i:Int):=by omega
   have z3:(i:Int)<(C.l.length:Int):=by omega
   have z4:(t.kind != n)=true:=by simp only[bne_iff_ne,ne_eq];exact fun e=>hk ⟨t,q,rfl,e⟩
   clear hk hso hf c2 hgi hi f2
   go_quiet (fail)
   clear t0 t1 t2 t3 t4
   go_wp2_with (go_at_call 78;refine (BZ 2 (HS.out.below (zC (Pe _ _) nq))).mono ?_;rintro x w2 ⟨rfl,h1,h2⟩;have H1:=zh h1;have NK:=zh (yu.out _ ((Ah.of (zC (Pe _ _) nq) (by have:=Dz.out;have:=HB0.out.size;omega)).trans h2));have H2:=zh ((HW.out.below (zC (Pe W1.heap.size W1) nq) Dz).trans h2);clear h1 h2;obtain ⟨⟨x0,x1,x2,x3,x4⟩,y0,y1,y2,y3,y4⟩:=Bb NK)
   have Iz:=zh (sW NK (.int .i64 0) (.string ⟨#[]⟩) (.int .i64 0) (.string ⟨#[]⟩) (.int .i64 0));have zm:=zh (Ji.out w2 _ H1 H2 rfl);unfold q5 at Iz zm;generalize World.setCell _ _ _=W3 at *;obtain ⟨⟨t0,t1,t2,t3,t4⟩,_⟩:=Bb Iz
   refine bodyPost_ret (v:=KO.v) (by simp[results,Tryz.results122,go_sem,t0,t1,t2,t3,t4,AJ.v,KO]) rfl zm
theorem Bv.zero (h:Bv C w r k e):w.cell? ⟨C.b,4,none⟩=some (.int .i64 e):=h.cells.1.2.2.2.2
def wB (C:EB) (w:World):Nat:=match w.cell? ⟨C.b,2,none⟩ with
 | some (.int _ i)=>C.l.length - i.toNat
 | _=>0
theorem Bv.meas (h:Bv C w r k e):wB C w=r.length:=by
 unfold wB;rw[h.cells.1.2.2.1];have:=h.Ta.length_le;simp only[Int.toNat_natCast]
 omega
structure RG (C:EB) (T:ByteArray) (fid:Nat) (caps:List Value) (I J F:World->List AJ->Bool->Prop) (Er:World->Int->Prop):Prop where
 iS:∀W r k,I W r k->Bv C W r k 0
 jS:∀W r k,J W r k->Bv C W r k 0
 part:∀W r k,I W r k->Calls Tryz.prog fid caps.toArray W fun y W'=>y = .returned (.tuple #[])/\∃r' k' e',Bv C W' r' k' e'/\r'.length<=r.length/\(e'=0->J W' r' k')/\(e'≠0->Er W' e')
 comma:∀W r k W',J W r k->BX ⟨#[44]⟩ r=true->Ah C.b W W'->Bv C W' r.tail k 0->I W' r.tail k
 fin:∀W r k W',J W r k->BX ⟨#[44]⟩ r=false->BX T r=true->Ah C.b W W'->Bv C W' r.tail k 0->F W' r.tail k
 bad:∀W r k W',J W r k->BX ⟨#[44]⟩ r=false->BX T r=false->Ah C.b W W'->Bv C W' r k 2->Er W' 2
def jJ (C:EB) (F:World->List AJ->Bool->Prop) (Er:World->Int->Prop) (y:Ending) (w':World):Prop :=
 y = .returned (.tuple #[])/\∃r' k' e',Bv C w' r' k' e'/\(e'=0->F w' r' k')/\(e'≠0->Er w' e')
variable {T:ByteArray} {pa pb pc:Nat} {Er:World->Int->Prop} {F J:World->List AJ->Bool->Prop}
theorem Nf {I:World->List AJ->Bool->Prop} (hc:RG C T 128 [.pointer (some ⟨pa,0,none⟩),.pointer (some ⟨pb,0,none⟩),.pointer (some ⟨pc,0,none⟩)] I J F Er) (h:Bv C w r k 0) (h0:BX T r=true->∀W',Ah C.b w W'->Bv C W' r.tail k 0->F W' r.tail k) (h1:BX T r=false->∀W',Ah C.b w W'->Bv C W' r k 0->I W' r k):
  Calls Tryz.prog 127 #[.pointer (some ⟨C.b,0,none⟩),.string T,.func (.func 128) #[] #[.pointer (some ⟨pa,0,none⟩),.pointer (some ⟨pb,0,none⟩),.pointer (some ⟨pc,0,none⟩)]] w (jJ C F Er):=by
 have HC:=zh hc;have HS:=zh h
 cases hi:BX T r with
 | true =>
  have HI:=zh hi;have HF:=zh (h0 hi);obtain ⟨t,q,rfl,_,_⟩:=Cr hi;clear hi h h0 h1 hc
  go_enter Tryz.func127,Tryz.ntmps127
  go_wp2_with (go_at_call 160;refine (zX T HS).mono ?_;rintro x w1 ⟨rfl,hb1⟩;rw[HI.out];have HB1:=zh hb1;have IA:=zh (HS.out.below hb1);obtain ⟨i,hi,c2,f2,hi2,HN⟩:=IA.out.af;clear hb1)
  have HX:=zh (HN.out.1 _ _ _ IA);refine bodyPost_ret (results_none Tryz.results127 _ _ _) rfl ⟨rfl,q,k,0,HX.out,fun _=>HF.out _ ((HS.out.BJ HB1).trans ((Ah.refl _ _).set _ _)) HX,fun h=>absurd rfl h⟩
 | false =>
  have HI:=zh hi;have HF:=zh (h1 hi);clear hi h h0 h1 hc
  go_enter Tryz.func127,Tryz.ntmps127
  go_wp2_with (go_at_call 160;refine (zX T HS).mono ?_;rintro x w1 ⟨rfl,hb1⟩;rw[HI.out];have IA:=zh (HS.out.below hb1);have HI1:=zh (HF.out _ (HS.out.BJ hb1) IA);clear hb1)
  go_loopw [] (fun wr=>∃r k,Hid (I wr r k)) (fun wr=>wB C wr)
  case atStart=>exact ⟨r,k,HI1.out⟩
  case round =>
   obtain ⟨r,k,hI⟩:=hrel;have HR:=zh (HC.out.iS _ _ _ hI.out);have hz:=HR.out.zero;go_wp2_with fail;refine (HC.out.part _ _ _ hI.out).mono ?_;rintro y w2 ⟨rfl,r2,k2,e2,h1,h2,h3,h4⟩;have HR2:=zh h1;have HL2:=zh h2;have hz2:=HR2.out.zero
   by_cases he:e2=0
   ·subst he
    have HJ:=zh (h3 rfl);clear hz h1 h2 h3 h4
    cases hcm:BX ⟨#[44]⟩ r2 with
    | true =>
     have HCM:=zh hcm;obtain ⟨t,q,rfl,_,_⟩:=Cr hcm;clear hcm;go_wp2_with (go_at_call 160;refine (zX ⟨#[44]⟩ HR2).mono ?_;rintro x w3 ⟨rfl,hb3⟩;rw[HCM.out];have HB3:=zh (HR2.out.BJ hb3);have Gx:=zh (HR2.out.below hb3);obtain ⟨i,hi,c2,f2,hi2,HN⟩:=Gx.out.af;clear hb3);have HX:=zh (HN.out.1 _ _ _ Gx)
     have qD:=zh (HC.out.comma _ _ _ _ HJ HCM (HB3.out.trans ((Ah.refl _ _).set 2 (.int .i64 ((i:Int)+1)))) HX);have Di:=zh HX.out.meas;have Fh:=zh HR.out.meas;go_roundw
     case rel=>exact ⟨q,k2,qD.out⟩
     case measure=>rw[Di.out,Fh.out];have:=HL2.out;rw[AAS] at this;omega
    | false =>
     have HCM:=zh hcm;clear hcm;go_wp2_with (go_at_call 160;refine (zX ⟨#[44]⟩ HR2).mono ?_;rintro x w3 ⟨rfl,hb3⟩;rw[HCM.out];have HB3:=zh (HR2.out.BJ hb3);have Gx:=zh (HR2.out.below hb3);have hz3:=Gx.out.zero;clear hb3);refine (BO T Gx).mono ?_;rintro y w4 ⟨rfl,hb4,h4⟩;have Dl:=zh (HB3.out.trans hb4);have H4:=zh h4;clear hb4 h4;go_wp2
     refine bodyPost_end (results_none Tryz.results127 _ _ _) rfl ⟨rfl,?_⟩
     rcases H4.out with ⟨g1,g2⟩|⟨g1,g2⟩
     ·exact ⟨_,_,_,g2,fun _=>HC.out.fin _ _ _ _ HJ HCM g1 Dl g2,fun h=>absurd rfl h⟩
     ·exact ⟨_,_,_,g2,(fun h=>by cases h),fun _=>HC.out.bad _ _ _ _ HJ HCM g1 Dl g2⟩
   ·have HE:=zh (h4 he)
    have q1:(e2 != 0)=true:=by simp[he]
    have jr:=zh he;clear hz h1 h2 h3 h4 he;go_wp2_with fail;refine bodyPost_ret (results_none Tryz.results127 _ _ _) rfl ⟨rfl,r2,k2,e2,HR2.out,fun h=>absurd h jr,fun _=>HE.out⟩
theorem P9 {I:World->List AJ->Bool->Prop} (hc:RG C T 162 [.pointer (some ⟨pa,0,none⟩),.pointer (some ⟨pb,0,none⟩),.pointer (some ⟨pc,0,none⟩)] I J F Er) (h:Bv C w r k 0) (h0:BX T r=true->∀W',Ah C.b w W'->Bv C W' r.tail k 0->F W' r.tail k) (h1:BX T r=false->∀W',Ah C.b w W'->Bv C W' r k 0->I W' r k):
  Calls Tryz.prog 127 #[.pointer (some ⟨C.b,0,none⟩),.string T,.func (.func 162) #[] #[.pointer (some ⟨pa,0,none⟩),.pointer (some ⟨pb,0,none⟩),.pointer (some ⟨pc,0,none⟩)]] w (jJ C F Er):=by
 have HC:=zh hc;have HS:=zh h
 cases hi:BX T r with
 | true =>
  have HI:=zh hi;have HF:=zh (h0 hi);obtain ⟨t,q,rfl,_,_⟩:=Cr hi;clear hi h h0 h1 hc
  go_enter Tryz.func127,Tryz.ntmps127
  go_wp2_with (go_at_call 160;refine (zX T HS).mono ?_;rintro x w1 ⟨rfl,hb1⟩;rw[HI.out];have HB1:=zh hb1;have IA:=zh (HS.out.below hb1);obtain ⟨i,hi,c2,f2,hi2,HN⟩:=IA.out.af;clear hb1)
  have HX:=zh (HN.out.1 _ _ _ IA);refine bodyPost_ret (results_none Tryz.results127 _ _ _) rfl ⟨rfl,q,k,0,HX.out,fun _=>HF.out _ ((HS.out.BJ HB1).trans ((Ah.refl _ _).set _ _)) HX,fun h=>absurd rfl h⟩
 | false =>
  have HI:=zh hi;have HF:=zh (h1 hi);clear hi h h0 h1 hc
  go_enter Tryz.func127,Tryz.ntmps127
  go_wp2_with (go_at_call 160;refine (zX T HS).mono ?_;rintro x w1 ⟨rfl,hb1⟩;rw[HI.out];have IA:=zh (HS.out.below hb1);have HI1:=zh (HF.out _ (HS.out.BJ hb1) IA);clear hb1)
  go_loopw [] (fun wr=>∃r k,Hid (I wr r k)) (fun wr=>wB C wr)
  case atStart=>exact ⟨r,k,HI1.out⟩
  case round =>
   obtain ⟨r,k,hI⟩:=hrel;have HR:=zh (HC.out.iS _ _ _ hI.out);have hz:=HR.out.zero;go_wp2_with fail;refine (HC.out.part _ _ _ hI.out).mono ?_;rintro y w2 ⟨rfl,r2,k2,e2,h1,h2,h3,h4⟩;have HR2:=zh h1;have HL2:=zh h2;have hz2:=HR2.out.zero
   by_cases he:e2=0
   ·subst he
    have HJ:=zh (h3 rfl);clear hz h1 h2 h3 h4
    cases hcm:BX ⟨#[44]⟩ r2 with
    | true =>
     have HCM:=zh hcm;obtain ⟨t,q,rfl,_,_⟩:=Cr hcm;clear hcm;go_wp2_with (go_at_call 160;refine (zX ⟨#[44]⟩ HR2).mono ?_;rintro x w3 ⟨rfl,hb3⟩;rw[HCM.out];have HB3:=zh (HR2.out.BJ hb3);have Gx:=zh (HR2.out.below hb3);obtain ⟨i,hi,c2,f2,hi2,HN⟩:=Gx.out.af;clear hb3);have HX:=zh (HN.out.1 _ _ _ Gx)
     have qD:=zh (HC.out.comma _ _ _ _ HJ HCM (HB3.out.trans ((Ah.refl _ _).set 2 (.int .i64 ((i:Int)+1)))) HX);have Di:=zh HX.out.meas;have Fh:=zh HR.out.meas;go_roundw
     case rel=>exact ⟨q,k2,qD.out⟩
     case measure=>rw[Di.out,Fh.out];have:=HL2.out;rw[AAS] at this;omega
    | false =>
     have HCM:=zh hcm;clear hcm;go_wp2_with (go_at_call 160;refine (zX ⟨#[44]⟩ HR2).mono ?_;rintro x w3 ⟨rfl,hb3⟩;rw[HCM.out];have HB3:=zh (HR2.out.BJ hb3);have Gx:=zh (HR2.out.below hb3);have hz3:=Gx.out.zero;clear hb3);refine (BO T Gx).mono ?_;rintro y w4 ⟨rfl,hb4,h4⟩;have Dl:=zh (HB3.out.trans hb4);have H4:=zh h4;clear hb4 h4;go_wp2
     refine bodyPost_end (results_none Tryz.results127 _ _ _) rfl ⟨rfl,?_⟩
     rcases H4.out with ⟨g1,g2⟩|⟨g1,g2⟩
     ·exact ⟨_,_,_,g2,fun _=>HC.out.fin _ _ _ _ HJ HCM g1 Dl g2,fun h=>absurd rfl h⟩
     ·exact ⟨_,_,_,g2,(fun h=>by cases h),fun _=>HC.out.bad _ _ _ _ HJ HCM g1 Dl g2⟩
   ·have HE:=zh (h4 he)
    have q1:(e2 != 0)=true:=by simp[he]
    have jr:=zh he;clear hz h1 h2 h3 h4 he;go_wp2_with fail;refine bodyPost_ret (results_none Tryz.results127 _ _ _) rfl ⟨rfl,r2,k2,e2,HR2.out,fun h=>absurd h jr,fun _=>HE.out⟩
theorem R4 {I:World->List AJ->Bool->Prop} (hc:RG C T 161 [.pointer (some ⟨pa,0,none⟩),.pointer (some ⟨pb,0,none⟩),.pointer (some ⟨pc,0,none⟩)] I J F Er) (h:Bv C w r k 0) (h0:BX T r=true->∀W',Ah C.b w W'->Bv C W' r.tail k 0->F W' r.tail k) (h1:BX T r=false->∀W',Ah C.b w W'->Bv C W' r k 0->I W' r k):
  Calls Tryz.prog 127 #[.pointer (some ⟨C.b,0,none⟩),.string T,.func (.func 161) #[] #[.pointer (some ⟨pa,0,none⟩),.pointer (some ⟨pb,0,none⟩),.pointer (some ⟨pc,0,none⟩)]] w (jJ C F Er):=by
 have HC:=zh hc;have HS:=zh h
 cases hi:BX T r with
 | true =>
  have HI:=zh hi;have HF:=zh (h0 hi);obtain ⟨t,q,rfl,_,_⟩:=Cr hi;clear hi h h0 h1 hc
  go_enter Tryz.func127,Tryz.ntmps127
  go_wp2_with (go_at_call 160;refine (zX T HS).mono ?_;rintro x w1 ⟨rfl,hb1⟩;rw[HI.out];have HB1:=zh hb1;have IA:=zh (HS.out.below hb1);obtain ⟨i,hi,c2,f2,hi2,HN⟩:=IA.out.af;clear hb1)
  have HX:=zh (HN.out.1 _ _ _ IA);refine bodyPost_ret (results_none Tryz.results127 _ _ _) rfl ⟨rfl,q,k,0,HX.out,fun _=>HF.out _ ((HS.out.BJ HB1).trans ((Ah.refl _ _).set _ _)) HX,fun h=>absurd rfl h⟩
 | false =>
  have HI:=zh hi;have HF:=zh (h1 hi);clear hi h h0 h1 hc
  go_enter Tryz.func127,Tryz.ntmps127
  go_wp2_with (go_at_call 160;refine (zX T HS).mono ?_;rintro x w1 ⟨rfl,hb1⟩;rw[HI.out];have IA:=zh (HS.out.below hb1);have HI1:=zh (HF.out _ (HS.out.BJ hb1) IA);clear hb1)
  go_loopw [] (fun wr=>∃r k,Hid (I wr r k)) (fun wr=>wB C wr)
  case atStart=>exact ⟨r,k,HI1.out⟩
  case round =>
   obtain ⟨r,k,hI⟩:=hrel;have HR:=zh (HC.out.iS _ _ _ hI.out);have hz:=HR.out.zero;go_wp2_with fail;refine (HC.out.part _ _ _ hI.out).mono ?_;rintro y w2 ⟨rfl,r2,k2,e2,h1,h2,h3,h4⟩;have HR2:=zh h1;have HL2:=zh h2;have hz2:=HR2.out.zero
   by_cases he:e2=0
   ·subst he
    have HJ:=zh (h3 rfl);clear hz h1 h2 h3 h4
    cases hcm:BX ⟨#[44]⟩ r2 with
    | true =>
     have HCM:=zh hcm;obtain ⟨t,q,rfl,_,_⟩:=Cr hcm;clear hcm;go_wp2_with (go_at_call 160;refine (zX ⟨#[44]⟩ HR2).mono ?_;rintro x w3 ⟨rfl,hb3⟩;rw[HCM.out];have HB3:=zh (HR2.out.BJ hb3);have Gx:=zh (HR2.out.below hb3);obtain ⟨i,hi,c2,f2,hi2,HN⟩:=Gx.out.af;clear hb3);have HX:=zh (HN.out.1 _ _ _ Gx)
     have qD:=zh (HC.out.comma _ _ _ _ HJ HCM (HB3.out.trans ((Ah.refl _ _).set 2 (.int .i64 ((i:Int)+1)))) HX);have Di:=zh HX.out.meas;have Fh:=zh HR.out.meas;go_roundw
     case rel=>exact ⟨q,k2,qD.out⟩
     case measure=>rw[Di.out,Fh.out];have:=HL2.out;rw[AAS] at this;omega
    | false =>
     have HCM:=zh hcm;clear hcm;go_wp2_with (go_at_call 160;refine (zX ⟨#[44]⟩ HR2).mono ?_;rintro x w3 ⟨rfl,hb3⟩;rw[HCM.out];have HB3:=zh (HR2.out.BJ hb3);have Gx:=zh (HR2.out.below hb3);have hz3:=Gx.out.zero;clear hb3);refine (BO T Gx).mono ?_;rintro y w4 ⟨rfl,hb4,h4⟩;have Dl:=zh (HB3.out.trans hb4);have H4:=zh h4;clear hb4 h4;go_wp2
     refine bodyPost_end (results_none Tryz.results127 _ _ _) rfl ⟨rfl,?_⟩
     rcases H4.out with ⟨g1,g2⟩|⟨g1,g2⟩
     ·exact ⟨_,_,_,g2,fun _=>HC.out.fin _ _ _ _ HJ HCM g1 Dl g2,fun h=>absurd rfl h⟩
     ·exact ⟨_,_,_,g2,(fun h=>by cases h),fun _=>HC.out.bad _ _ _ _ HJ HCM g1 Dl g2⟩
   ·have HE:=zh (h4 he)
    have q1:(e2 != 0)=true:=by simp[he]
    have jr:=zh he;clear hz h1 h2 h3 h4 he;go_wp2_with fail;refine bodyPost_ret (results_none Tryz.results127 _ _ _) rfl ⟨rfl,r2,k2,e2,HR2.out,fun h=>absurd h jr,fun _=>HE.out⟩
theorem Rf (w:World) {a b:Addr} (h:a.block≠b.block) (u v:Value):(w.setCell a u).setCell b v=(w.setCell b v).setCell a u:=by
 have e:∀ (w1 w2:World),w1.os=w2.os->w1.tape=w2.tape->w1.output=w2.output->w1.heap=w2.heap->({ w1 with heap:=w2.heap }:World)=w1:=fun w1 w2 _ _ _ h=>by rw[<-h]
 have hh:((w.setCell a u).setCell b v).heap=((w.setCell b v).setCell a u).heap:=by
  apply Array.ext_getElem?
  intro q
  by_cases h1:q=a.block
  ·rw[AAO _ _ _ _ (by rw[h1];exact h)]
   subst h1;simp only[World.setCell,Array.getElem?_modify,if_true];rw[Pd (fun e=>h e.symm)]
  ·rw[AAO _ a _ _ h1]
   by_cases h2:q=b.block
   ·subst h2
    simp only[World.setCell,Array.getElem?_modify,if_true];rw[Pd h]
   ·rw[AAO _ _ _ _ h2,AAO _ _ _ _ h1,AAO _ _ _ _ h2]
 simp only[World.setCell] at hh ⊢;rw[hh]
theorem yF {g q j:Nat} (h:q≠g) (u:Value):∀ (vs:List Value) (o:Nat) (w:World),(w.setCell ⟨q,j,none⟩ u).setCells g o vs=(w.setCells g o vs).setCell ⟨q,j,none⟩ u
 | [],_,_=>rfl
 | v::vs,o,w=>by
  rw[World.setCells,World.setCells,<-yF h u vs,Rf w (a:=⟨q,j,none⟩) (b:=⟨g,o,none⟩) h]
variable {g:Nat}
theorem GN {row:Option Nat} (hg:w.grownBy w' row) (h:row=some g\/w.heap.size<=g) (o:Nat) (vs:List Value):w.grownBy (w'.setCells g o vs) row:=by
 have hb:=yC (B:=0) (w:=w') g (Nat.zero_le _) vs o w' (Pe _ _);refine ⟨hb.os.trans hg.os,hb.tape.trans hg.tape,hb.output.trans hg.output,Nat.le_trans hg.size hb.size,fun k hk hr=>?_⟩
 have hne:k≠g:=fun e=>by
  subst e
  rcases h with h|h
  ·first|exact hr h.symm|exact hr h
  ·omega
 exact (zN hne vs o w').trans (hg.block k hk hr)
def yB:List Value:=[.int .i64 0,.bool false,.int .i64 0,.string ⟨#[]⟩,.int .i64 0,.slice none 0 0,.slice none 0 0,.slice none 0 0]
theorem I8:∀u∈yB,u.oneCell'=true:=fun u hu=>by
 unfold yB at hu;simp only[AAi,List.mem_nil_iff,or_false] at hu
 rcases hu with rfl|rfl|rfl|rfl|rfl|rfl|rfl|rfl <;> rfl
theorem kG (x:Aj):x.cells.length=8:=rfl
variable {base n:Nat}
theorem O6 {c:Nat} {L:List Aj} {x:Aj} (_hn:n=L.length+1) (h:w.ownsRow base 28 8 (.slice (some ⟨g,0,none⟩) n c) n (L.flatMap Aj.cells++yB)):
  (w.setCells g (L.length * 8) x.cells).ownsRow base 28 8 (.slice (some ⟨g,0,none⟩) n c) n (L.flatMap Aj.cells++x.cells):=by
 have e1:L.flatMap Aj.cells++yB=(L.map Aj.cells++[yB]).flatten:=by rw[List.flatten_append,List.flatMap_def];simp
 have e2:L.flatMap Aj.cells++x.cells=(L.map Aj.cells++[x.cells]).flatten:=by rw[List.flatten_append,List.flatMap_def];simp
 have hl:∀cs∈L.map Aj.cells++[yB],cs.length=8:=fun cs hc=>by
  rcases AAm.1 hc with k|k
  ·obtain ⟨y,_,rfl⟩:=List.mem_map.1 k
   rfl
  ·obtain rfl:cs=yB:=by simpa using k
   rfl
 have h3:=La (k:=8) (by omega) (L.map Aj.cells++[yB]) L.length x.cells hl (kG x) (by simp)
 rw[show (L.map Aj.cells++[yB]).set L.length x.cells=L.map Aj.cells++[x.cells] by
  rw[List.set_append_right _ _ (by simp)];simp] at h3
 rw[e2,<-h3,<-e1];exact Et x.cells _ (L.length * 8) w h
theorem EF {c:Nat} {L:List Aj} {xs:List Value} (hx:xs.length=8) (h:w.ownsRow base 28 8 (.slice (some ⟨g,0,none⟩) n c) n (L.flatMap Aj.cells++xs)):w.there g (L.length * 8) 8:=fun j hj=>by
 have hl:(L.flatMap Aj.cells).length=L.length * 8:=by rw[List.flatMap_def,DY (k:=8) (L.map Aj.cells) (fun cs hc=>by obtain ⟨y,_,rfl⟩:=List.mem_map.1 hc;rfl),AAd]
 refine ⟨?_,World.ownsRow.frozenAt h (L.length * 8+j)⟩;have hj2:(L.flatMap Aj.cells++xs)[L.length * 8+j]? = some (xs[j]'(by omega)):=by
  rw[ABQ (by omega),hl,Nat.add_sub_cancel_left,zl (by omega)]
 have:=World.ownsRow.cells h (g:=g) rfl _ _ hj2;rw[Addr.add_mid,Nat.zero_add] at this;rw[this];rfl
theorem EC {o p j:Nat} {u:Value} (h:w.there g o n) (hp:p≠g):∀w',(w'=w\/w'=w.setCell ⟨p,j,none⟩ u)->w'.there g o n:=fun w' hw=>by
 rcases hw with rfl|rfl
 ·exact h
 ·have hb:(w.setCell ⟨p,j,none⟩ u).heap[g]? = w.heap[g]? := AAO _ _ _ _ (by simpa using hp.symm)
  intro i hi
  rw[World.cell?_of_block (w:=w) (a:=⟨g,o+i,none⟩) hb,World.frozen?_of_block (w:=w) (a:=⟨g,o+i,none⟩) hb];exact h i hi
variable {q:Nat}
theorem Lj {v:Value} {l:List Aj} (h:C9 w base v l) {cs:Array Value} {T:TypeId} {fr:Nat×Nat} (hq:w.heap[q]? = some (.cells cs T fr)) (hT:T≠28):v.ownBlock≠some q:=fun e=>by
 obtain ⟨c1,f1,e1⟩:=h.block e;rw[hq] at e1
 injection e1 with e1
 injection e1 with _ e3
 exact hT e3
theorem Qn {v:Value} {l:List Af} (h:oH w base v l) {cs:Array Value} {T:TypeId} {fr:Nat×Nat} (hq:w.heap[q]? = some (.cells cs T fr)) (hT:T≠97):v.ownBlock≠some q:=fun e=>by
 obtain ⟨c1,f1,e1⟩:=h.block e;rw[hq] at e1
 injection e1 with e1
 injection e1 with _ e3
 exact hT e3
def pX (C:EB) (t:Int) (W:World) (r:List AJ) (k:Bool) (e:Int) (y:Ending) (W':World):Prop:=∃x:Aj,y = .returned (x.v.v x.A1 x.c1 x.A2 x.c2 x.A3 x.c3)/\Off (fun q=>q<W.heap.size) W' (fun u=>Ao u x.v x.A1 x.A2 x.A3)/\Ah C.b W W' /\
 ∃r' k' e',Bv C W' r' k' e'/\r'.length<=r.length/\(e≠0->e'=e)/\(e=0->match Ag false C.s t r k with
  | .ok (v,r1,k1)=>x.v=v/\r'=r1/\k'=k1/\e'=0
  | .error e1=>e'=e1)
def Dp (C:EB) (n:Nat):Prop:=∀ (t:Int) (W:World) (r:List AJ) (k:Bool) (e:Int),r.length<n->(0<=t/\t<(C.s.length:Int))->Bv C W r k e ->
 Calls Tryz.prog 79 #[.pointer (some ⟨C.b,0,none⟩),.int .i64 t] W (pX C t W r k e)
structure Vx where
 W0:World
 x:Aa
 As:zo
 cs:Nat
 Am:zo
 cm:Nat
 p:Nat
 pr:Nat
 px:Nat
 pv:Nat
structure CR (C:EB) (V:Vx) (W:World) (r:List AJ) (k:Bool) (e di:Int) (vk vi vr:Value) (K I:List Aj) (R:List Af):Prop where
 rd:Bv C W r k e
 vb:Gt V.p W V.x.kind false 0 ⟨#[]⟩ di vk vi vr K I R
 fr:Ah C.b V.W0 W
 lo:V.W0.heap.size<=V.p
 lb:C.b<V.W0.heap.size
 ty:JY C.w0 V.x V.As V.Am
 br:W.heap[V.pr]? = some (.cells #[.pointer (some ⟨C.b,0,none⟩)] 103)
 bx:W.heap[V.px]? = some (V.x.box V.As V.cs V.Am V.cm)
 bv:V.pv=V.p\/W.heap[V.pv]? = some (.cells #[.pointer (some ⟨V.p,0,none⟩)] 172)
section
variable {C:EB} {V:Vx} {W W':World} {r r':List AJ} {k k':Bool} {e e' di:Int} {vk vi vr:Value} {K I:List Aj} {R:List Af}
theorem CR.bp (h:CR C V W r k e di vk vi vr K I R):C.b<V.p:=AA2 h.lb h.lo
theorem Gs {w:World} {q q2:Nat} {a b:Array Value} {T T2:TypeId} {f f2:Nat×Nat} (h:w.heap[q]? = some (.cells a T f)) (h2:w.heap[q2]? = some (.cells b T2 f2)) (hT:T≠T2):q≠q2:=fun e=>by
 subst e;rw[h] at h2
 injection h2 with h2
 injection h2 with _ e3
 exact hT e3
theorem CR.prb (h:CR C V W r k e di vk vi vr K I R):V.pr≠C.b:=Gs h.br h.rd.blk (by decide)
theorem CR.pxb (h:CR C V W r k e di vk vi vr K I R):V.px≠C.b:=Gs h.bx h.rd.blk (by decide)
theorem CR.BJ (h:CR C V W r k e di vk vi vr K I R) (hb:Ah C.b W W') (hr:Bv C W' r' k' e'):CR C V W' r' k' e' di vk vi vr K I R :=
 ⟨hr,h.vb.BJ hb h.bp,h.fr.trans hb,h.lo,h.lb,h.ty,(hb.Eu _ h.prb (zg.1 h.br).1).trans h.br,(hb.Eu _ h.pxb (zg.1 h.bx).1).trans h.bx,
  h.bv.imp id fun g=>(hb.Eu _ (Gs g h.rd.blk (by decide)) (zg.1 g).1).trans g⟩
theorem CR.below (h:CR C V W r k e di vk vi vr K I R) (hb:Below W.heap.size W W'):CR C V W' r k e di vk vi vr K I R:=h.BJ (h.rd.BJ hb) (h.rd.below hb)
theorem CR.hot (h:CR C V W r k e di vk vi vr K I R) {P:World->Prop} (_hb:Ah C.b W W') (hx:Off (fun q=>q<W.heap.size) W' P):Off (RH V.p vk vi vr) W' P:=by
 obtain ⟨l1,l2,l3⟩:=GL h.vb;refine hx.mono fun q _ hq=>?_
 rcases hq with e|e|e|e
 ·have:=h.vb.lt;omega
 ·exact (l1 q e).2
 ·exact (l2 q e).2
 ·exact (l3 q e).2
theorem CR.rest (h:CR C V W r k e di vk vi vr K I R) {W9:World} {Zw:Int} {Kn Gd jX:Value} {K' I':List Aj} {R':List Af} (hv:Gt V.p W9 V.x.kind false 0 ⟨#[]⟩ Zw Kn Gd jX K' I' R') (hb:Below V.p W W9) (hp:∀ (q:Nat) (cs:Array Value) (T:TypeId) (fr:Nat×Nat),W.heap[q]? = some (Obj.cells cs T fr)->T≠28->T≠97->W9.heap[q]? = W.heap[q]?):CR C V W9 r k e Zw Kn Gd jX K' I' R' :=
 ⟨⟨h.rd.ok,(hb.block _ h.bp).trans h.rd.blk,h.rd.Ta,h.rd.up.trans (hb.mono (by have:=h.bp;have:=h.rd.ok.ge;omega))⟩,hv,h.fr.up hb h.lo (AAV h.bp),h.lo,h.lb,h.ty,(hp _ _ _ _ h.br (by decide) (by decide)).trans h.br,(hp _ _ _ _ h.bx (by decide) (by decide)).trans h.bx,h.bv.imp id fun g=>(hp _ _ _ _ g (by decide) (by decide)).trans g⟩
variable {v8:Value} {w4 w8:World}
theorem CR.item (h:CR C V W r k e di vk vi vr K I R) {x:Aj} (hx:Off (RH V.p vk vi vr) W fun u=>Ao u x.v x.A1 x.A2 x.A3) (hb4:Below W.heap.size W w4) (ho:w8.ownsRow (V.p+1) 28 8 v8 (I.length+1) (I.flatMap Aj.cells++x.cells)) (hg:w4.grownBy w8 vi.ownBlock) (hv:v8.ownBlock=vi.ownBlock\/v8.ownBlock=some w4.heap.size):CR C V (w8.setCell ⟨V.p,6,none⟩ v8) r k e di vk v8 vr K (I++[x]) R:=by
 obtain ⟨h1,h2,h3⟩:=h.vb.item hx hb4 ho hg hv;exact h.rest h1 h2 fun q cs T fr hq hT _=>h3 q (Gs hq h.vb.blk hT) (Lj h.vb.oi hq hT) (zg.1 hq).1
theorem CR.key (h:CR C V W r k e di vk vi vr K I R) {x:Aj} (hx:Off (RH V.p vk vi vr) W fun u=>Ao u x.v x.A1 x.A2 x.A3) (hb4:Below W.heap.size W w4) (ho:w8.ownsRow (V.p+1) 28 8 v8 (K.length+1) (K.flatMap Aj.cells++x.cells)) (hg:w4.grownBy w8 vk.ownBlock) (hv:v8.ownBlock=vk.ownBlock\/v8.ownBlock=some w4.heap.size):CR C V (w8.setCell ⟨V.p,5,none⟩ v8) r k e di v8 vi vr (K++[x]) I R:=by
 obtain ⟨h1,h2,h3⟩:=h.vb.key hx hb4 ho hg hv;exact h.rest h1 h2 fun q cs T fr hq hT _=>h3 q (Gs hq h.vb.blk hT) (Lj h.vb.ok hq hT) (zg.1 hq).1
theorem CR.Vu (h:CR C V W r k e di vk vi vr K I R) {x:Af} (hx:Dk x.data) (hb4:Below W.heap.size W w4) (ho:w8.ownsRow (V.p+1) 97 2 v8 (R.length+1) (R.flatMap encR++encR x)) (hg:w4.grownBy w8 vr.ownBlock) (hv:v8.ownBlock=vr.ownBlock\/v8.ownBlock=some w4.heap.size):CR C V (w8.setCell ⟨V.p,7,none⟩ v8) r k e di vk vi v8 K I (R++[x]):=by
 obtain ⟨h1,h2,h3⟩:=h.vb.Vu hx hb4 ho hg hv;exact h.rest h1 h2 fun q cs T fr hq hT hR=>h3 q (Gs hq h.vb.blk hT) (Qn h.vb.Rp hq hR) (zg.1 hq).1
theorem CR.p8 (h:CR C V W r k e di vk vi vr K I R) {row:Option Nat} (hg:W.grownBy w8 row) (hr:row=vk.ownBlock\/row=vi.ownBlock\/row=vr.ownBlock):w8.heap[V.p]? = W.heap[V.p]? := by
 obtain ⟨l1,l2,l3⟩:=GL h.vb;refine yA hg h.vb.lt fun q hq e=>?_
 rcases hr with e2|e2|e2
 ·have:=l1 q (e2▸hq);omega
 ·have:=l2 q (e2▸hq);omega
 ·have:=l3 q (e2▸hq);omega
theorem CR.c8 (h:CR C V W r k e di vk vi vr K I R) (hp:w8.heap[V.p]? = W.heap[V.p]?):(w8.cell? ⟨V.p,5,none⟩=some vk/\w8.cell? ⟨V.p,6,none⟩=some vi/\w8.cell? ⟨V.p,7,none⟩=some vr)/\w8.frozen? ⟨V.p,5,none⟩=false/\w8.frozen? ⟨V.p,6,none⟩=false/\w8.frozen? ⟨V.p,7,none⟩=false:=by
 have h1:=h.vb.cells;refine ⟨⟨?_,?_,?_⟩,?_,?_,?_⟩
 ·rw[World.cell?_of_block (w:=W) (a:=⟨V.p,5,none⟩) hp];exact h1.1.2.2.2.2.2.1
 ·rw[World.cell?_of_block (w:=W) (a:=⟨V.p,6,none⟩) hp];exact h1.1.2.2.2.2.2.2.1
 ·rw[World.cell?_of_block (w:=W) (a:=⟨V.p,7,none⟩) hp];exact h1.1.2.2.2.2.2.2.2
 ·rw[World.frozen?_of_block (w:=W) (a:=⟨V.p,5,none⟩) hp];exact h1.2 5
 ·rw[World.frozen?_of_block (w:=W) (a:=⟨V.p,6,none⟩) hp];exact h1.2 6
 ·rw[World.frozen?_of_block (w:=W) (a:=⟨V.p,7,none⟩) hp];exact h1.2 7
theorem CV {base n:Nat} {xs:List Value} (ho:w8.ownsRow base 28 8 v8 (n+1) xs):∃g c,v8 = .slice (some ⟨g,0,none⟩) (n+1) c/\base<=g:=by
 rcases ho.2 with ⟨_,h0⟩|⟨g,cap,cur,hv,hg0,_⟩
 ·omega
 ·exact ⟨g,cap,hv,hg0⟩
end
def ItP (C:EB) (V:Vx) (t:Int) (r:List AJ) (k:Bool) (e di:Int) (vk vr:Value) (K I:List Aj) (R:List Af) (W':World):Prop :=
 ∃x Gd r' k' e',CR C V W' r' k' e' di vk Gd vr K (I++[x]) R/\r'.length<=r.length/\(e≠0->e'=e)/\(e=0->match Ag false C.s t r k with
  | .ok (v,r1,k1)=>x.v=v/\r'=r1/\k'=k1/\e'=0
  | .error e1=>e'=e1)
def KyP (C:EB) (V:Vx) (t:Int) (r:List AJ) (k:Bool) (e di:Int) (vi vr:Value) (K I:List Aj) (R:List Af) (W':World):Prop :=
 ∃x Kn r' k' e',CR C V W' r' k' e' di Kn vi vr (K++[x]) I R/\r'.length<=r.length/\(e≠0->e'=e)/\(e=0->match Ag false C.s t r k with
  | .ok (v,r1,k1)=>x.v=v/\r'=r1/\k'=k1/\e'=0
  | .error e1=>e'=e1)
theorem Cn:(Tryz.prog.info? 28).map (·.size)=some 8:=by kernel_rfl
theorem EO (x:Aj):(x.cells.toArray).all (·.oneCell')=true:=all_oneCell_toArray (Bh x)
theorem Ju {b:Nat} {o:Nat} {cs:List Value} (hb:Ah b w w') (hq:q≠b) (h:w.rangeAt q o cs):w'.rangeAt q o cs:=fun j u hj=>by
 have:=h j u hj;rw[World.cell?_of_block (w:=w) (w':=w') (a:=⟨q,o+j,none⟩) (hb.Eu q hq (zL this))];exact this
section
variable {C:EB} {V:Vx} {W W':World} {r r':List AJ} {k k':Bool} {e e' di:Int} {vk vi vr:Value} {K I:List Aj} {R:List Af}
theorem CR.reads (h:CR C V W r k e di vk vi vr K I R) (hb:Ah C.b W W'):(W'.cell? ⟨V.p,5,none⟩=some vk/\W'.cell? ⟨V.p,6,none⟩=some vi/\W'.cell? ⟨V.p,7,none⟩=some vr/\W'.cell? ⟨V.pr,0,none⟩=some (.pointer (some ⟨C.b,0,none⟩)) /\
  W'.cell? ⟨V.px,6,none⟩=some (.slice V.Am V.x.AA.length V.cm)/\W'.cell? ⟨V.px,7,none⟩=some (.int .i64 V.x.key)/\W'.cell? ⟨V.px,8,none⟩=some (.int .i64 V.x.elem))/\Hid (Ah C.b W W'):=by
 have h1:=(h.vb.BJ hb h.bp).cells.1;have h2:=(hb.Eu _ h.prb (zg.1 h.br).1).trans h.br;have h3:=(hb.Eu _ h.pxb (zg.1 h.bx).1).trans h.bx;refine ⟨⟨h1.2.2.2.2.2.1,h1.2.2.2.2.2.2.1,h1.2.2.2.2.2.2.2,?_,?_,?_,?_⟩,hb⟩
 ·rw[AAN _ _ _ _ _ _ h2];rfl
 ·rw[AAN _ _ _ _ _ _ h3];rfl
 ·rw[AAN _ _ _ _ _ _ h3];rfl
 ·rw[AAN _ _ _ _ _ _ h3];rfl
theorem CR.Xf (h:CR C V W r k e di vk vi vr K I R) (hp:W'.heap[V.p]? = W.heap[V.p]?) (hq:∀ (q:Nat) (cs:Array Value) (T:TypeId) (fr:Nat×Nat),W.heap[q]? = some (Obj.cells cs T fr)->T≠28->T≠97->W'.heap[q]? = W.heap[q]?):(W'.cell? ⟨V.p,5,none⟩=some vk/\W'.cell? ⟨V.p,6,none⟩=some vi/\W'.cell? ⟨V.p,7,none⟩=some vr/\W'.cell? ⟨V.pr,0,none⟩=some (.pointer (some ⟨C.b,0,none⟩)) /\
  W'.cell? ⟨V.px,6,none⟩=some (.slice V.Am V.x.AA.length V.cm)/\W'.cell? ⟨V.px,7,none⟩=some (.int .i64 V.x.key)/\W'.cell? ⟨V.px,8,none⟩=some (.int .i64 V.x.elem))/\(V.pv≠V.p->W'.cell? ⟨V.pv,0,none⟩=some (.pointer (some ⟨V.p,0,none⟩))):=by
 obtain ⟨⟨h5,h6,h7⟩,_⟩:=h.c8 hp;have h2:=(hq _ _ _ _ h.br (by decide) (by decide)).trans h.br
 have h3:=(hq _ _ _ _ h.bx (by decide) (by decide)).trans h.bx
 refine ⟨⟨h5,h6,h7,?_,?_,?_,?_⟩,fun hv=>?_⟩
 ·rw[AAN _ _ _ _ _ _ h2];rfl
 ·rw[AAN _ _ _ _ _ _ h3];rfl
 ·rw[AAN _ _ _ _ _ _ h3];rfl
 ·rw[AAN _ _ _ _ _ _ h3];rfl
 ·have g:=h.bv.resolve_left hv
  rw[AAN _ _ _ _ _ _ ((hq _ _ _ _ g (by decide) (by decide)).trans g)];rfl
variable {w8:World}
theorem CR.SF (h:CR C V W r k e di vk vi vr K I R) {row:Option Nat} (hg:W.grownBy w8 row) (hr:row=vk.ownBlock\/row=vi.ownBlock\/row=vr.ownBlock):∀ (q:Nat) (cs:Array Value) (T:TypeId) (fr:Nat×Nat),W.heap[q]? = some (Obj.cells cs T fr)->T≠28->T≠97->w8.heap[q]? = W.heap[q]? := fun q cs T fr hq h1 h2=>by
 refine yA hg (zg.1 hq).1 fun q2 hq2 e=>?_
 subst e
 rcases hr with e|e|e
 ·exact Lj h.vb.ok hq h1 (e▸hq2)
 ·exact Lj h.vb.oi hq h1 (e▸hq2)
 ·exact Qn h.vb.Rp hq h2 (e▸hq2)
theorem CR.PK (h:CR C V W r k e di vk vi vr K I R) {x:Aj} (hx:Off (RH V.p vk vi vr) W fun u=>Ao u x.v x.A1 x.A2 x.A3) {w4:World} (hb4:Below W.heap.size W w4) {g c:Nat} (ho:w8.ownsRow (V.p+1) 28 8 (.slice (some ⟨g,0,none⟩) (I.length+1) c) (I.length+1) (I.flatMap Aj.cells++yB)) (hg:w4.grownBy w8 vi.ownBlock) (hv:some g=vi.ownBlock\/some g=some w4.heap.size):
  CR C V ((w8.setCells g (I.length * 8) x.cells).setCell ⟨V.p,6,none⟩ (.slice (some ⟨g,0,none⟩) (I.length+1) c)) r k e di vk (.slice (some ⟨g,0,none⟩) (I.length+1) c) vr K (I++[x]) R :=
 h.item hx hb4 (O6 rfl ho) (GN hg (hv.imp (fun e=>e.symm) fun e=>by injection e with e;omega) _ _) hv
theorem CR.wO (h:CR C V W r k e di vk vi vr K I R) {x:Aj} (hx:Off (RH V.p vk vi vr) W fun u=>Ao u x.v x.A1 x.A2 x.A3) {w4:World} (hb4:Below W.heap.size W w4) {g c:Nat} (ho:w8.ownsRow (V.p+1) 28 8 (.slice (some ⟨g,0,none⟩) (K.length+1) c) (K.length+1) (K.flatMap Aj.cells++yB)) (hg:w4.grownBy w8 vk.ownBlock) (hv:some g=vk.ownBlock\/some g=some w4.heap.size):
  CR C V ((w8.setCells g (K.length * 8) x.cells).setCell ⟨V.p,5,none⟩ (.slice (some ⟨g,0,none⟩) (K.length+1) c)) r k e di (.slice (some ⟨g,0,none⟩) (K.length+1) c) vi vr (K++[x]) I R :=
 h.key hx hb4 (O6 rfl ho) (GN hg (hv.imp (fun e=>e.symm) fun e=>by injection e with e;omega) _ _) hv
end
abbrev zO:Obj := .cells #[.int .i64 0,.bool false,.int .i64 0,.string ⟨#[]⟩,.int .i64 0,.slice none 0 0,.slice none 0 0,.slice none 0 0] 28
variable {di:Int} {R:List Af} {I K:List Aj} {vi vk vr:Value} {V:Vx} {W:World}
theorem VX (ih:Dp C n) (h:CR C V W r k e di vk vi vr K I R) (hn:r.length<n) (he:0<=V.x.elem/\V.x.elem<(C.s.length:Int)) (hl:I.length<=1000000):
  Calls Tryz.prog 128 #[.pointer (some ⟨V.p,0,none⟩),.pointer (some ⟨V.pr,0,none⟩),.pointer (some ⟨V.px,0,none⟩)] W fun y W'=>y = .returned (.tuple #[])/\ItP C V V.x.elem r k e di vk vr K I R W':=by
 obtain ⟨A2,c2,rfl,_,_,_⟩:=h.vb.oi.reads;have HV:=zh h;have HN:=zh hn;have KX:=zh he;have EI:=zh ih;have RL:=zh hl;have E8:=zh (fun (w':World) (hb:Ah C.b W w')=>h.reads hb)
 have GX:Hid (C.b<W.heap.size):=h.rd.lt;have HZP:Hid (V.p+1<=W.heap.size):=h.vb.lt;clear h ih hn he hl
 go_enter Tryz.func128,Tryz.ntmps128
 refine yE (S:=(fun w'=>(w'.cell? ⟨V.p,5,none⟩=some vk/\w'.cell? ⟨V.p,6,none⟩=some (.slice A2 I.length c2)/\w'.cell? ⟨V.p,7,none⟩=some vr/\w'.cell? ⟨V.pr,0,none⟩=some (.pointer (some ⟨C.b,0,none⟩))/\w'.cell? ⟨V.px,6,none⟩=some (.slice V.Am V.x.AA.length V.cm)/\w'.cell? ⟨V.px,7,none⟩=some (.int .i64 V.x.key)/\w'.cell? ⟨V.px,8,none⟩=some (.int .i64 V.x.elem))/\Hid (Ah C.b W w'))) 8 (by kernel_rfl) ?_ (fun AQ=>?_)
 ·(try dsimp only);exact E8.out _ (Ah.of (zC (Pe _ _) 1) (AAV GX))
 refine tC 0 ?_;refine tB 1 ?_;refine tB 2 ?_;refine tC 3 ?_;refine tB 4 ?_;refine tC 6 ?_;try simp only[ps]
 refine zV (rs:=[5,7]) (by kernel_rfl) (by simp) ?_
 refine (AB.cons rfl (fun K hK=>?_) (AB.cons rfl (fun K hK=>?_) AB.nil))
 ·
  go_simp
  (refine (EI.out V.x.elem _ r k e HN KX (HV.out.below (zC (Pe _ _) 1)).rd).mono ?_;rintro y w6 ⟨x,rfl,g1,g2,r6,k6,e6,g3,g4,g5,g6⟩;have BH:=zh ((Ah.of (zC (Pe W.heap.size W) 1) (AAV GX)).trans g2);have Iy:=zh (HV.out.hot BH g1);have DL:=zh (HV.out.BJ BH g3);have MX:=zh g4;have Nu:=zh g5;have Nt:=zh g6;clear g1 g2 g3 g4 g5 g6)
  refine hK.out _ _ ?_ (fun AQ=>?_)
  ·(try dsimp only);exact E8.out _ BH
  clear hK K;refine tS 7 (fun K hK=>?_)
  go_simp
  refine hK.out _ _ ?_ (fun AQ=>?_)
  ·(try dsimp only);exact E8.out _ (BH.out.below (zD _ _) GX)
  clear hK K;refine zV (rs:=[8]) (by kernel_rfl) (by simp) ?_
  refine AB.last rfl (by kernel_rfl) (fun K hK=>?_) AB.nil
  (have FE:=zh (DL.out.below (zD w6 zO));have hll:=RL.out;refine yH AU (by rfl) (.tmp 4) (.tmp 10) (by rfl) (V.p+1) (.slice A2 I.length c2) I.length (I.flatMap Aj.cells) (by rfl) FE.out.vb.oi w6.heap.size 0 1 1 yB (by rfl) rfl (zR w6 yB 28) I8 (by omega) (by omega) FE.out.vb.lt ?_;intro v8 w8 BI BB Ci;obtain ⟨g,c8,rfl,hgg⟩:=CV BI;have LB:=zh (DL.out.PK Iy (zD w6 zO) BI BB Ci);have MR:Hid (V.p≠g):=zh (by omega);have U6:=zh FE.out;have Jg:=zh (FE.out.p8 BB (.inr (.inl rfl)));obtain ⟨⟨_,c6,_⟩,_,f6,_⟩:=FE.out.c8 Jg;have Jf:=zh (EC (j:=6) (u := .slice (some ⟨g,0,none⟩) (I.length+1) c8) (EF (xs:=yB) rfl BI) MR);have hlt1:(I.length:Int)<(I.length:Int)+1:=(by omega);have WX:(0:Int)<=(I.length:Int):=(by omega);clear hll BI BB Ci hgg)
  refine hK.out _ _ ?_;clear hK K
  (try clear AQ)
  refine TR 9 ?v6 rfl (by kernel_rfl) (.inl ⟨by rfl,?y6⟩) ?_
  case y6=>(intro w;go_simp;try with_reducible rfl)
  refine TR 11 ?v7 rfl (by kernel_rfl) (.inl ⟨by rfl,?y7⟩) ?_
  case y7=>(intro w;go_simp;try with_reducible rfl)
  refine wpAny_ready (rs:=[10,12]) (by kernel_rfl) (by simp) ?_
  refine (AllReady.cons rfl (fun K hK=>?_) (AllReady.cons rfl (fun K hK=>?_) AllReady.nil))
  ·
   (simp only[List.getElem_toArray,List.getElem_cons_zero,List.getElem_cons_succ];rw[AAH (by rfl)];refine wp_store_mid 28 (.tmp 12) (.tmp 8) rfl (g) (I.length * 8) (x.cells.toArray) (by rfl) (by rfl) ?_ ?_ ?_ ?_;(exact Jf.out _ (by simp));(exact Cn);(exact EO x))
   refine hK _ _ ?_;clear hK K;try simp only[ps]
   (try rw[yF MR.out]);(try (have XG:=zh (CR.c8 U6 ((zN (w:=w8) MR x.cells (I.length * 8)).trans Jg));generalize w8.setCells g (I.length * 8) x.cells=w10 at *;clear c6 f6;obtain ⟨⟨_,c6,_⟩,_,f6,_⟩:=XG.out))
   refine wpAny_ready (rs:=[12]) (by kernel_rfl) (by simp) ?_
   refine (AllReady.cons rfl (fun K hK=>?_) AllReady.nil)
   go_simp
   refine hK _ _ ?_;clear hK K;refine wpAny_done (by kernel_rfl) ?_ _
   (exact bodyPost_end (results_none Tryz.results128 _ _ _) rfl ⟨rfl,x,_,r6,k6,e6,LB.out,MX.out,Nu.out,Nt.out⟩)
  ·
   go_simp
   refine hK _ _ ?_;clear hK K;refine wpAny_ready (rs:=[10]) (by kernel_rfl) (by simp) ?_
   refine (AllReady.cons rfl (fun K hK=>?_) AllReady.nil)
   (simp only[List.getElem_toArray,List.getElem_cons_zero,List.getElem_cons_succ];rw[AAH (by rfl)];refine wp_store_mid 28 (.tmp 12) (.tmp 8) rfl (g) (I.length * 8) (x.cells.toArray) (by rfl) (by rfl) ?_ ?_ ?_ ?_;(exact Jf.out _ (by simp));(exact Cn);(exact EO x))
   refine hK _ _ ?_;clear hK K
   (try rw[yF MR.out]);(try (have XG:=zh (CR.c8 U6 ((zN (w:=w8) MR x.cells (I.length * 8)).trans Jg));generalize w8.setCells g (I.length * 8) x.cells=w10 at *;clear c6 f6;obtain ⟨⟨_,c6,_⟩,_,f6,_⟩:=XG.out))
   refine wpAny_done (by kernel_rfl) ?_ _
   (exact bodyPost_end (results_none Tryz.results128 _ _ _) rfl ⟨rfl,x,_,r6,k6,e6,LB.out,MX.out,Nu.out,Nt.out⟩)
 ·
  go_simp
  refine hK.out _ _ ?_ (fun AQ=>?_)
  ·(try dsimp only);exact E8.out _ (Ah.of (zB (zC (Pe _ _) 1) (zD _ _)) (AAV GX))
  clear hK K;refine tS 5 (fun K hK=>?_)
  go_simp
  (refine (EI.out V.x.elem _ r k e HN KX (HV.out.below (zB (zC (Pe _ _) 1) (zD _ zO))).rd).mono ?_;rintro y w6 ⟨x,rfl,g1,g2,r6,k6,e6,g3,g4,g5,g6⟩;have BH:=zh ((Ah.of (zB (zC (Pe W.heap.size W) 1) (zD _ zO)) (AAV GX)).trans g2);have Iy:=zh (HV.out.hot BH (g1.mono fun q _ hq=>by have hz:((W.drewN 1).alloc zO).heap.size=W.heap.size+1:=(by simp);show q<_;omega));have DL:=zh (HV.out.BJ BH g3);have Sd:=zh (Ju g2 (by have:=GX.out;show W.heap.size≠_;omega) (zR (W.drewN 1) yB 28));have MX:=zh g4;have Nu:=zh g5;have Nt:=zh g6;clear g1 g2 g3 g4 g5 g6)
  refine hK.out _ _ ?_ (fun AQ=>?_)
  ·(try dsimp only);exact E8.out _ BH
  clear hK K;refine zV (rs:=[8]) (by kernel_rfl) (by simp) ?_
  refine AB.last rfl (by kernel_rfl) (fun K hK=>?_) AB.nil
  (have hll:=RL.out;refine yH AU (by rfl) (.tmp 4) (.tmp 10) (by rfl) (V.p+1) (.slice A2 I.length c2) I.length (I.flatMap Aj.cells) (by rfl) DL.out.vb.oi W.heap.size 0 1 1 yB (by rfl) rfl Sd I8 (by omega) (by omega) DL.out.vb.lt ?_;intro v8 w8 BI BB Ci;obtain ⟨g,c8,rfl,hgg⟩:=CV BI;have LB:=zh (DL.out.PK Iy (Pe _ _) BI BB Ci);have MR:Hid (V.p≠g):=zh (by omega);have U6:=zh DL.out;have Jg:=zh (DL.out.p8 BB (.inr (.inl rfl)));obtain ⟨⟨_,c6,_⟩,_,f6,_⟩:=DL.out.c8 Jg;have Jf:=zh (EC (j:=6) (u := .slice (some ⟨g,0,none⟩) (I.length+1) c8) (EF (xs:=yB) rfl BI) MR);have hlt1:(I.length:Int)<(I.length:Int)+1:=(by omega);have WX:(0:Int)<=(I.length:Int):=(by omega);clear hll BI BB Ci hgg)
  refine hK.out _ _ ?_;clear hK K
  (try clear AQ)
  try simp only[ps]
  refine TR 9 ?v8 rfl (by kernel_rfl) (.inl ⟨by rfl,?y8⟩) ?_
  case y8=>(intro w;go_simp;try with_reducible rfl)
  refine TR 11 ?v9 rfl (by kernel_rfl) (.inl ⟨by rfl,?y9⟩) ?_
  case y9=>(intro w;go_simp;try with_reducible rfl)
  refine wpAny_ready (rs:=[10,12]) (by kernel_rfl) (by simp) ?_
  refine (AllReady.cons rfl (fun K hK=>?_) (AllReady.cons rfl (fun K hK=>?_) AllReady.nil))
  ·
   (simp only[List.getElem_toArray,List.getElem_cons_zero,List.getElem_cons_succ];rw[AAH (by rfl)];refine wp_store_mid 28 (.tmp 12) (.tmp 8) rfl (g) (I.length * 8) (x.cells.toArray) (by rfl) (by rfl) ?_ ?_ ?_ ?_;(exact Jf.out _ (by simp));(exact Cn);(exact EO x))
   refine hK _ _ ?_;clear hK K
   (try rw[yF MR.out]);(try (have XG:=zh (CR.c8 U6 ((zN (w:=w8) MR x.cells (I.length * 8)).trans Jg));generalize w8.setCells g (I.length * 8) x.cells=w10 at *;clear c6 f6;obtain ⟨⟨_,c6,_⟩,_,f6,_⟩:=XG.out))
   refine wpAny_ready (rs:=[12]) (by kernel_rfl) (by simp) ?_
   refine (AllReady.cons rfl (fun K hK=>?_) AllReady.nil)
   go_simp
   refine hK _ _ ?_;clear hK K;refine wpAny_done (by kernel_rfl) ?_ _
   (exact bodyPost_end (results_none Tryz.results128 _ _ _) rfl ⟨rfl,x,_,r6,k6,e6,LB.out,MX.out,Nu.out,Nt.out⟩)
  ·
   go_simp
   refine hK _ _ ?_;clear hK K;refine wpAny_ready (rs:=[10]) (by kernel_rfl) (by simp) ?_
   refine (AllReady.cons rfl (fun K hK=>?_) AllReady.nil)
   (simp only[List.getElem_toArray,List.getElem_cons_zero,List.getElem_cons_succ];rw[AAH (by rfl)];refine wp_store_mid 28 (.tmp 12) (.tmp 8) rfl (g) (I.length * 8) (x.cells.toArray) (by rfl) (by rfl) ?_ ?_ ?_ ?_;(exact Jf.out _ (by simp));(exact Cn);(exact EO x))
   refine hK _ _ ?_;clear hK K;try simp only[ps]
   (try rw[yF MR.out]);(try (have XG:=zh (CR.c8 U6 ((zN (w:=w8) MR x.cells (I.length * 8)).trans Jg));generalize w8.setCells g (I.length * 8) x.cells=w10 at *;clear c6 f6;obtain ⟨⟨_,c6,_⟩,_,f6,_⟩:=XG.out))
   refine wpAny_done (by kernel_rfl) ?_ _
   (exact bodyPost_end (results_none Tryz.results128 _ _ _) rfl ⟨rfl,x,_,r6,k6,e6,LB.out,MX.out,Nu.out,Nt.out⟩)
variable {W':World}
theorem CR.Qa (h:CR C V W r k e di vk vi vr K I R) (hp:V.pv≠V.p) (hb:Ah C.b W W'):W'.cell? ⟨V.pv,0,none⟩=some (.pointer (some ⟨V.p,0,none⟩)):=by
 have g:=h.bv.resolve_left hp;rw[AAN _ _ _ _ _ _ ((hb.Eu _ (Gs g h.rd.blk (by decide)) (zg.1 g).1).trans g)];rfl
def EnP (C:EB) (V:Vx) (r:List AJ) (k:Bool) (di:Int) (vr:Value) (K I:List Aj) (R:List Af) (W':World):Prop :=
 ∃x y Kn Gd r' k' e',CR C V W' r' k' e' di Kn Gd vr (K++[x]) (I++[y]) R/\r'.length<=r.length/\(match DZ (Ag false C.s) V.x r k with
  | .ok (v,r1,k1)=>x.v=v.1/\y.v=v.2/\r'=r1/\k'=k1/\e'=0
  | .error e1=>e'=e1)
def Uw (T:ByteArray) (r2:List AJ) (e2:Int) (r':List AJ) (e':Int):Prop:=r'.length<=r2.length/\((e2≠0/\r'=r2/\e'=e2)\/(e2=0/\((BX T r2=true/\r'=r2.tail/\e'=0)\/(BX T r2=false/\e'=2))))
theorem Me (h:e≠0):Uw T r e r e:=⟨AAP _,.inl ⟨h,rfl,rfl⟩⟩
theorem Eo {y:Ending} (h:xP C T w r k 0 y w'):Ah C.b w w'/\∃r' e',Bv C w' r' k e'/\Uw T r 0 r' e':=by
 obtain ⟨_,hb,h⟩:=h;refine ⟨hb,?_⟩
 rcases h with ⟨h1,h2⟩|⟨h1,h2⟩
 ·exact ⟨_,_,h2,by simp,.inr ⟨rfl,.inl ⟨h1,rfl,rfl⟩⟩⟩
 ·exact ⟨_,_,h2,AAP _,.inr ⟨rfl,.inr ⟨h1,rfl⟩⟩⟩
theorem EQ {r2 r':List AJ} {e':Int} (h:Uw T r2 0 r' e'):match Aq T r2 with
  | .ok l=>r'=l/\e'=0
  | .error e1=>e'=e1/\e'≠0:=by
 unfold Aq
 rcases h.2 with ⟨h1,_⟩|⟨_,⟨h1,h2,h3⟩|⟨h1,h2⟩⟩
 ·exact absurd rfl h1
 ·rw[AAH h1];exact ⟨h2,h3⟩
 ·rw[Pd (by rw[h1];simp)];exact ⟨h2,by rw[h2];decide⟩
theorem sP {KL:List Aj} {x:Aj} {qP:Value} {r2:List AJ} {k2:Bool} {e2:Int} (hr2:r2.length<=r.length) (hm2:match Ag false C.s V.x.key r k with
   | .ok (v,r1,k1)=>x.v=v/\r2=r1/\k2=k1/\e2=0
   | .error e1=>e2=e1) {r4:List AJ} {e4:Int} (ha:Uw ⟨#[45,62]⟩ r2 e2 r4 e4) {y:Aj} {Gd:Value} {r':List AJ} {k':Bool} {e':Int} (h:CR C V W' r' k' e' di qP Gd vr (KL++[x]) (I++[y]) R) (hl:r'.length<=r4.length) (hn:e4≠0->e'=e4) (hm:e4=0->match Ag false C.s V.x.elem r4 k2 with
   | .ok (v,r1,k1)=>y.v=v/\r'=r1/\k'=k1/\e'=0
   | .error e1=>e'=e1):EnP C V r k di vr KL I R W':=by
 refine ⟨x,y,_,_,r',k',e',h,by have:=ha.1;omega,?_⟩
 unfold DZ
 cases hv:Ag false C.s V.x.key r k with
 | error e1 =>
  rw[hv] at hm2;simp only at hm2;subst hm2;have hz:e2≠0:=fun e=>Gf false C.s V.x.key r k (e▸hv)
  rcases ha.2 with ⟨_,_,h3⟩|⟨h1,_⟩
  ·show e'=e2
   rw[hn (by omega),h3]
  ·exact absurd h1 hz
 | ok p =>
  obtain ⟨v,r1,k1⟩:=p;rw[hv] at hm2;obtain ⟨g1,rfl,rfl,rfl⟩:=hm2;rw[zM];have hs:=EQ ha;simp only
  cases hsy:Aq ⟨#[45,62]⟩ r2 with
  | error e1 =>
   rw[hsy] at hs
   show e'=e1
   rw[<-hs.1];exact hn hs.2
  | ok l =>
   rw[hsy] at hs;obtain ⟨rfl,rfl⟩:=hs;have hm:=hm rfl;rw[zM]
   cases hw:Ag false C.s V.x.elem r4 k2 with
   | error e1=>rw[hw] at hm;exact hm
   | ok q =>
    obtain ⟨v2,r5,k5⟩:=q;rw[hw] at hm;rw[zM];exact ⟨g1,hm⟩
theorem SH (ih:Dp C n) {KL:List Aj} (h:CR C V W r k 0 di vk vi vr KL I R) (hpv:V.pv≠V.p) (hn:r.length<n) (he1:0<=V.x.key/\V.x.key<(C.s.length:Int)) (he:0<=V.x.elem/\V.x.elem<(C.s.length:Int)) (hk:KL.length<=1000000) (hl:I.length<=1000000):
  Calls Tryz.prog 162 #[.pointer (some ⟨V.pv,0,none⟩),.pointer (some ⟨V.pr,0,none⟩),.pointer (some ⟨V.px,0,none⟩)] W fun y W'=>y = .returned (.tuple #[])/\EnP C V r k di vr KL I R W':=by
 obtain ⟨A1,c1,rfl,_,_,_⟩:=h.vb.ok.reads;obtain ⟨e,he0⟩:∃e:Int,e=0:=⟨0,rfl⟩;rw[<-he0] at h;have HE0:=zh he0;have HV:=zh h;have QD:=zh hpv;have VQ:=zh hn;have uy:=zh he1;have VE:=zh he;have EI:=zh ih;have uX:=zh hk;have U9:=zh hl;clear h ih hn he he1 hl hk hpv he0
 go_enter Tryz.func162,Tryz.ntmps162
 go_upto_region 0 with fail
 go_cut [4] (fun s wx=>∃b0:Bool,s = .bool b0/\Hid (Below W.heap.size W wx))
 case first =>
  go_region <;> (go_wp2;go_meet;exact ⟨_,rfl,zC (zD W _) 1⟩)
 case rest =>
 obtain ⟨b0,rfl,hb⟩:=hcut;obtain ⟨W1,rfl⟩:∃W:World,W=wc:=⟨_,rfl⟩;have aP:=zh (HV.out.below hb.out);have qL:=zh (HV.out.rd.BJ hb.out);clear hb HV;have QG:Hid (C.b<W1.heap.size):=aP.out.rd.lt;have Sg:=zh (fun (w':World) (hb:Ah C.b W1 w')=>And.intro (aP.out.reads hb) (aP.out.Qa QD hb))
 go_upto_if 4 with fail
 go_cut [] (fun wx=>Hid (KyP C V V.x.key r k e di vi vr KL I R wx))
 case first =>
  cases b0 with
  | true =>
   go_upto_region 1 with fail
   refine yE (S:=(fun w'=>((w'.cell? ⟨V.p,5,none⟩=some (.slice A1 KL.length c1)/\w'.cell? ⟨V.p,6,none⟩=some vi/\w'.cell? ⟨V.p,7,none⟩=some vr/\w'.cell? ⟨V.pr,0,none⟩=some (.pointer (some ⟨C.b,0,none⟩))/\w'.cell? ⟨V.px,6,none⟩=some (.slice V.Am V.x.AA.length V.cm)/\w'.cell? ⟨V.px,7,none⟩=some (.int .i64 V.x.key)/\w'.cell? ⟨V.px,8,none⟩=some (.int .i64 V.x.elem))/\Hid (Ah C.b W1 w'))/\(w'.cell? ⟨V.pv,0,none⟩=some (.pointer (some ⟨V.p,0,none⟩))))) 10 (by kernel_rfl) ?_ (fun AQ=>?_)
   ·(try dsimp only);exact Sg.out _ (Ah.of (zC (Pe _ _) 1) (AAV QG))
   refine tB 0 ?_;refine tC 1 ?_;refine tC 2 ?_;refine tB 3 ?_;refine tB 4 ?_;refine tC 5 ?_;try simp only[ps]
   refine tB 6 ?_;refine tC 8 ?_;refine zV (rs:=[7,9]) (by kernel_rfl) (by simp) ?_
   refine (AB.cons rfl (fun K hK=>?_) (AB.cons rfl (fun K hK=>?_) AB.nil))
   ·
    go_simp
    (refine (EI.out V.x.key _ r k e VQ uy (aP.out.below (zC (Pe W1.heap.size W1) 1)).rd).mono ?_;rintro y w6 ⟨x,rfl,g1,g2,r6,k6,e6,g3,g4,g5,g6⟩;have BH:=zh ((Ah.of (zC (Pe W1.heap.size W1) 1) (AAV QG)).trans g2);have Iy:=zh (aP.out.hot BH g1);have DL:=zh (aP.out.BJ BH g3);have MX:=zh g4;have Nu:=zh g5;have Nt:=zh g6;clear g1 g2 g3 g4 g5 g6)
    refine hK.out _ _ ?_ (fun AQ=>?_)
    ·(try dsimp only);exact Sg.out _ BH
    clear hK K;refine tS 9 (fun K hK=>?_)
    go_simp
    refine hK.out _ _ ?_ (fun AQ=>?_)
    ·(try dsimp only);exact Sg.out _ (BH.out.below (zD _ _) QG)
    clear hK K;refine zV (rs:=[10]) (by kernel_rfl) (by simp) ?_
    refine AB.last rfl (by kernel_rfl) (fun K hK=>?_) AB.nil
    (have FE:=zh (DL.out.below (zD w6 zO));have hll:=uX.out;refine yH AU (by rfl) (.tmp 8) (.tmp 14) (by rfl) (V.p+1) (.slice A1 KL.length c1) KL.length (KL.flatMap Aj.cells) (by rfl) FE.out.vb.ok w6.heap.size 0 1 1 yB (by rfl) rfl (zR w6 yB 28) I8 (by omega) (by omega) FE.out.vb.lt ?_;intro v8 w8 BI BB Ci;obtain ⟨g,c8,rfl,hgg⟩:=CV BI;have LB:=zh (DL.out.wO Iy (zD w6 zO) BI BB Ci);have MR:Hid (V.p≠g):=zh (by omega);have Jg:=zh (FE.out.p8 BB (.inl rfl));obtain ⟨⟨c5,_,_⟩,f5,_,_⟩:=FE.out.c8 Jg;have Jf:=zh (EC (j:=5) (u := .slice (some ⟨g,0,none⟩) (KL.length+1) c8) (EF (xs:=yB) rfl BI) MR);have hlt1:(KL.length:Int)<(KL.length:Int)+1:=(by omega);have WX:(0:Int)<=(KL.length:Int):=(by omega);clear hll BI BB Ci hgg)
    refine hK.out _ _ ?_;clear hK K
    (try clear AQ)
    refine TR 11 ?v8 rfl (by kernel_rfl) (.inl ⟨by rfl,?y8⟩) ?_
    case y8=>(intro w;go_simp;try with_reducible rfl)
    try simp only[ps]
    refine TR 12 ?v9 rfl (by kernel_rfl) (.inl ⟨by rfl,?y9⟩) ?_
    case y9=>(intro w;go_simp;try with_reducible rfl)
    refine wpAny_ready (rs:=[13]) (by kernel_rfl) (by simp) ?_
    refine (AllReady.cons rfl (fun K hK=>?_) AllReady.nil)
    go_simp
    refine hK _ _ ?_;clear hK K;refine wpAny_done (by kernel_rfl) ?_ _
    (go_wp2_with (refine wpList_store_mid rfl 28 (.tmp 18) (.tmp 12) rfl g (KL.length * 8) x.cells.toArray (by rfl) (by rfl) (Jf.out _ (by simp)) Cn (EO x) ?_);rw[yF MR.out];go_meet;exact ⟨x,_,r6,k6,e6,LB.out,MX.out,Nu.out,Nt.out⟩)
   ·
    go_simp
    refine hK.out _ _ ?_ (fun AQ=>?_)
    ·(try dsimp only);exact Sg.out _ (Ah.of (zB (zC (Pe _ _) 1) (zD _ _)) (AAV QG))
    clear hK K;refine tS 7 (fun K hK=>?_)
    go_simp
    (refine (EI.out V.x.key _ r k e VQ uy (aP.out.below (zB (zC (Pe W1.heap.size W1) 1) (zD _ zO))).rd).mono ?_;rintro y w6 ⟨x,rfl,g1,g2,r6,k6,e6,g3,g4,g5,g6⟩;have BH:=zh ((Ah.of (zB (zC (Pe W1.heap.size W1) 1) (zD _ zO)) (AAV QG)).trans g2);have Iy:=zh (aP.out.hot BH (g1.mono fun q _ hq=>by have hz:((W1.drewN 1).alloc zO).heap.size=W1.heap.size+1:=(by simp);show q<_;omega));have Sd:=zh (Ju g2 (by have:=QG.out;show W1.heap.size≠_;omega) (zR (W1.drewN 1) yB 28));have DL:=zh (aP.out.BJ BH g3);have MX:=zh g4;have Nu:=zh g5;have Nt:=zh g6;clear g1 g2 g3 g4 g5 g6)
    refine hK.out _ _ ?_ (fun AQ=>?_)
    ·(try dsimp only);exact Sg.out _ BH
    clear hK K;refine zV (rs:=[10]) (by kernel_rfl) (by simp) ?_
    refine AB.last rfl (by kernel_rfl) (fun K hK=>?_) AB.nil
    (have hll:=uX.out;refine yH AU (by rfl) (.tmp 8) (.tmp 14) (by rfl) (V.p+1) (.slice A1 KL.length c1) KL.length (KL.flatMap Aj.cells) (by rfl) DL.out.vb.ok W1.heap.size 0 1 1 yB (by rfl) rfl Sd I8 (by omega) (by omega) DL.out.vb.lt ?_;intro v8 w8 BI BB Ci;obtain ⟨g,c8,rfl,hgg⟩:=CV BI;have LB:=zh (DL.out.wO Iy (Pe _ _) BI BB Ci);have MR:Hid (V.p≠g):=zh (by omega);have Jg:=zh (DL.out.p8 BB (.inl rfl));obtain ⟨⟨c5,_,_⟩,f5,_,_⟩:=DL.out.c8 Jg;have Jf:=zh (EC (j:=5) (u := .slice (some ⟨g,0,none⟩) (KL.length+1) c8) (EF (xs:=yB) rfl BI) MR);have hlt1:(KL.length:Int)<(KL.length:Int)+1:=(by omega);have WX:(0:Int)<=(KL.length:Int):=(by omega);clear hll BI BB Ci hgg)
    refine hK.out _ _ ?_;clear hK K
    (try clear AQ)
    refine TR 11 ?v10 rfl (by kernel_rfl) (.inl ⟨by rfl,?y10⟩) ?_
    case y10=>(intro w;go_simp;try with_reducible rfl)
    try simp only[ps]
    refine TR 12 ?v11 rfl (by kernel_rfl) (.inl ⟨by rfl,?y11⟩) ?_
    case y11=>(intro w;go_simp;try with_reducible rfl)
    refine wpAny_ready (rs:=[13]) (by kernel_rfl) (by simp) ?_
    refine (AllReady.cons rfl (fun K hK=>?_) AllReady.nil)
    go_simp
    refine hK _ _ ?_;clear hK K;refine wpAny_done (by kernel_rfl) ?_ _
    (go_wp2_with (refine wpList_store_mid rfl 28 (.tmp 18) (.tmp 12) rfl g (KL.length * 8) x.cells.toArray (by rfl) (by rfl) (Jf.out _ (by simp)) Cn (EO x) ?_);rw[yF MR.out];go_meet;exact ⟨x,_,r6,k6,e6,LB.out,MX.out,Nu.out,Nt.out⟩)
  | false =>
   go_upto_region 3 with fail
   refine yE (S:=(fun w'=>((w'.cell? ⟨V.p,5,none⟩=some (.slice A1 KL.length c1)/\w'.cell? ⟨V.p,6,none⟩=some vi/\w'.cell? ⟨V.p,7,none⟩=some vr/\w'.cell? ⟨V.pr,0,none⟩=some (.pointer (some ⟨C.b,0,none⟩))/\w'.cell? ⟨V.px,6,none⟩=some (.slice V.Am V.x.AA.length V.cm)/\w'.cell? ⟨V.px,7,none⟩=some (.int .i64 V.x.key)/\w'.cell? ⟨V.px,8,none⟩=some (.int .i64 V.x.elem))/\Hid True)/\(w'.cell? ⟨V.pv,0,none⟩=some (.pointer (some ⟨V.p,0,none⟩))))) 13 (by kernel_rfl) ?_ (fun AQ=>?_)
   ·(try dsimp only);(have hk:=Sg.out _ (Ah.of (zC (Pe _ _) 1) (AAV QG));exact ⟨⟨hk.1.1,trivial⟩,hk.2⟩)
   refine tB 0 ?_;refine tB 1 ?_;refine tC 2 ?_;refine tC 3 ?_;try simp only[ps]
   refine tB 4 ?_;refine tB 5 ?_;refine tC 6 ?_;refine tB 7 ?_;refine tS 8 (fun K hK=>?_)
   go_simp
   (refine (EI.out V.x.key _ r k e VQ uy (aP.out.below (zC (Pe W1.heap.size W1) 1)).rd).mono ?_;rintro y w6 ⟨x,rfl,g1,g2,r6,k6,e6,g3,g4,g5,g6⟩;have BH:=zh ((Ah.of (zC (Pe W1.heap.size W1) 1) (AAV QG)).trans g2);have Iy:=zh (aP.out.hot BH g1);have DL:=zh (aP.out.BJ BH g3);have MX:=zh g4;have Nu:=zh g5;have Nt:=zh g6;clear g1 g2 g3 g4 g5 g6)
   refine hK.out _ _ ?_ (fun AQ=>?_)
   ·(try dsimp only);(have hk:=Sg.out _ (BH.out);exact ⟨⟨hk.1.1,trivial⟩,hk.2⟩)
   clear hK K;refine tS 9 (fun K hK=>?_)
   go_simp
   refine hK.out _ _ ?_ (fun AQ=>?_)
   ·(try dsimp only);(have hk:=Sg.out _ (BH.out.below (zD w6 (.cells x.cells.toArray 28)) QG);exact ⟨⟨hk.1.1,trivial⟩,hk.2⟩)
   clear hK K;try simp only[ps]
   refine tS 10 (fun K hK=>?_)
   (have FE:=zh (DL.out.below (zD w6 (.cells x.cells.toArray 28)));have hll:=uX.out;refine yH AU (by rfl) (.tmp 23) (.tmp 28) (by rfl) (V.p+1) (.slice A1 KL.length c1) KL.length (KL.flatMap Aj.cells) (by rfl) FE.out.vb.ok w6.heap.size 0 1 1 x.cells (by rfl) rfl (zR w6 x.cells 28) (Bh x) (by omega) (by omega) FE.out.vb.lt ?_;intro v8 w8 BI BB Ci;obtain ⟨g,c8,rfl,hgg⟩:=CV BI;have LB:=zh (DL.out.key Iy (zD w6 (.cells x.cells.toArray 28)) BI BB Ci);have Jg:=zh (FE.out.p8 BB (.inl rfl));have U6:=zh (FE.out.Xf Jg (FE.out.SF BB (.inl rfl)));obtain ⟨⟨c5,_,_⟩,f5,_,_⟩:=FE.out.c8 Jg;clear hll BI Ci hgg)
   refine hK.out _ _ ?_ (fun AQ=>?_)
   ·(try dsimp only);exact ⟨⟨U6.out.1,trivial⟩,U6.out.2 QD⟩
   clear hK K;refine tC 11 ?_;refine tC 12 ?_;refine zV (rs:=[13]) (by kernel_rfl) (by simp) ?_
   refine AB.last rfl (by kernel_rfl) (fun K hK=>?_) AB.nil
   go_simp
   refine hK.out _ _ ?_;clear hK K
   (try clear AQ)
   refine wpAny_done (by kernel_rfl) ?_ _
   (go_wp2;go_meet;exact ⟨x,_,r6,k6,e6,LB.out,MX.out,Nu.out,Nt.out⟩)
 case rest =>
 obtain ⟨W2,rfl⟩:∃W:World,W=wc:=⟨_,rfl⟩;obtain ⟨x,qP,r2,k2,e2,hv2,hr2,hn2,hm2⟩:=hcut.out;have yM:=zh hv2;have HR2:=zh hr2;have Fh:=zh hm2;clear hv2 hr2 hn2 hm2 hcut Sg qL aP QG;have hz2:=yM.out.rd.zero;have p2:=(yM.out.reads (Ah.refl _ _)).1.2.2.2.1
 go_upto_if 36 with fail
 go_cut [] (fun wx=>∃r4 e4,Hid (CR C V wx r4 k2 e4 di qP vi vr (KL++[x]) I R/\Uw ⟨#[45,62]⟩ r2 e2 r4 e4))
 case first =>
  by_cases he:e2=0
  ·have q1:(e2==0)=true:=by simp[he]
   have Je:Hid (CR C V W2 r2 k2 0 di qP vi vr (KL++[x]) I R):=by show CR _ _ _ _ _ _ _ _ _ _ _ _ _;rw[<-he];exact yM.out
   have HE:=zh he;clear he hz2;go_wp2_with (go_at_call 126;refine (BO ⟨#[45,62]⟩ Je.out.rd).mono ?_;intro y w3 h3;obtain rfl:=h3.1;have Gx:=zh (Eo h3);clear h3);go_meet;obtain ⟨hb,r',e',g1,g2⟩:=Gx.out;exact ⟨r',e',Je.out.BJ hb g1,by rw[HE.out];exact g2⟩
  ·have q1:(e2==0)=false:=by simp[he]
   have HE:=zh he;clear he hz2;go_wp2;go_meet;exact ⟨r2,e2,yM.out,Me HE⟩
 case rest =>
 obtain ⟨W3,rfl⟩:∃W:World,W=wc:=⟨_,rfl⟩;obtain ⟨r4,e4,h4⟩:=hcut;have Je:=zh h4.out.1;have I6:Hid (∀ (y:Aj) (Gd:Value) (r':List AJ) (k':Bool) (e':Int) (W':World),CR C V W' r' k' e' di qP Gd vr (KL++[x]) (I++[y]) R->r'.length<=r4.length->(e4≠0->e'=e4)->(e4=0->match Ag false C.s V.x.elem r4 k2 with
   | .ok (v,r1,k1)=>y.v=v/\r'=r1/\k'=k1/\e'=0
   | .error e1=>e'=e1)->EnP C V r k di vr KL I R W'):=fun y Gd r' k' e' W' g1 g2 g3 g4=>sP HR2 (Fh.out HE0) h4.out.2 g1 g2 g3 g4
 have qE:Hid (r4.length<n):=by have:=h4.out.2.1;have:=HR2.out;have:=VQ.out;show _<_;omega
 clear h4 hz2 p2 yM;obtain ⟨A2,c2,rfl,_,_,_⟩:=Je.out.vb.oi.reads;go_upto_region 6 with fail
 go_cut [40] (fun s wx=>∃b0:Bool,s = .bool b0/\Hid (Below W3.heap.size W3 wx))
 case first =>
  go_region <;> (go_wp2;go_meet;exact ⟨_,rfl,zC (zD W3 _) 1⟩)
 case rest =>
 obtain ⟨b0,rfl,hb⟩:=hcut;obtain ⟨W4,rfl⟩:∃W:World,W=wc:=⟨_,rfl⟩;have FP:=zh (Je.out.below hb.out);clear hb Je;have H8:Hid (C.b<W4.heap.size):=FP.out.rd.lt;have I4:=zh (fun (w':World) (hb:Ah C.b W4 w')=>And.intro (FP.out.reads hb) (FP.out.Qa QD hb))
 generalize x=xk at *
 go_upto_if 40 with fail
 cases b0 with
 | true =>
  go_upto_region 7 with fail
  refine yE (S:=(fun w'=>((w'.cell? ⟨V.p,5,none⟩=some qP/\w'.cell? ⟨V.p,6,none⟩=some (.slice A2 I.length c2)/\w'.cell? ⟨V.p,7,none⟩=some vr/\w'.cell? ⟨V.pr,0,none⟩=some (.pointer (some ⟨C.b,0,none⟩))/\w'.cell? ⟨V.px,6,none⟩=some (.slice V.Am V.x.AA.length V.cm)/\w'.cell? ⟨V.px,7,none⟩=some (.int .i64 V.x.key)/\w'.cell? ⟨V.px,8,none⟩=some (.int .i64 V.x.elem))/\Hid (Ah C.b W4 w'))/\(w'.cell? ⟨V.pv,0,none⟩=some (.pointer (some ⟨V.p,0,none⟩))))) 10 (by kernel_rfl) ?_ (fun AQ=>?_)
  ·(try dsimp only);exact I4.out _ (Ah.of (zC (Pe _ _) 1) (AAV H8))
  refine tB 0 ?_;refine tC 1 ?_;try simp only[ps]
  refine tC 2 ?_;refine tB 3 ?_;refine tB 4 ?_;refine tC 5 ?_;refine tB 6 ?_;refine tC 8 ?_;try simp only[ps]
  refine zV (rs:=[7,9]) (by kernel_rfl) (by simp) ?_
  refine (AB.cons rfl (fun K hK=>?_) (AB.cons rfl (fun K hK=>?_) AB.nil))
  ·
   go_simp
   (refine (EI.out V.x.elem _ r4 k2 e4 qE VE (FP.out.below (zC (Pe W4.heap.size W4) 1)).rd).mono ?_;rintro y w6 ⟨x,rfl,g1,g2,r6,k6,e6,g3,g4,g5,g6⟩;have BH:=zh ((Ah.of (zC (Pe W4.heap.size W4) 1) (AAV H8)).trans g2);have Iy:=zh (FP.out.hot BH g1);have DL:=zh (FP.out.BJ BH g3);have MX:=zh g4;have Nu:=zh g5;have Nt:=zh g6;clear g1 g2 g3 g4 g5 g6)
   refine hK.out _ _ ?_ (fun AQ=>?_)
   ·(try dsimp only);exact I4.out _ BH
   clear hK K;refine tS 9 (fun K hK=>?_)
   go_simp
   refine hK.out _ _ ?_ (fun AQ=>?_)
   ·(try dsimp only);exact I4.out _ (BH.out.below (zD _ _) H8)
   clear hK K;refine zV (rs:=[10]) (by kernel_rfl) (by simp) ?_
   refine AB.last rfl (by kernel_rfl) (fun K hK=>?_) AB.nil
   (have FE:=zh (DL.out.below (zD w6 zO));have hll:=U9.out;refine yH AU (by rfl) (.tmp 44) (.tmp 50) (by rfl) (V.p+1) (.slice A2 I.length c2) I.length (I.flatMap Aj.cells) (by rfl) FE.out.vb.oi w6.heap.size 0 1 1 yB (by rfl) rfl (zR w6 yB 28) I8 (by omega) (by omega) FE.out.vb.lt ?_;intro v8 w8 BI BB Ci;obtain ⟨g,c8,rfl,hgg⟩:=CV BI;have LB:=zh (DL.out.PK Iy (zD w6 zO) BI BB Ci);have MR:Hid (V.p≠g):=zh (by omega);have Jg:=zh (FE.out.p8 BB (.inr (.inl rfl)));obtain ⟨⟨_,c6,_⟩,_,f6,_⟩:=FE.out.c8 Jg;have Jf:=zh (EC (j:=6) (u := .slice (some ⟨g,0,none⟩) (I.length+1) c8) (EF (xs:=yB) rfl BI) MR);have hlt1:(I.length:Int)<(I.length:Int)+1:=(by omega);have WX:(0:Int)<=(I.length:Int):=(by omega);clear hll BI BB Ci hgg)
   refine hK.out _ _ ?_;clear hK K
   (try clear AQ)
   refine TR 11 ?v30 rfl (by kernel_rfl) (.inl ⟨by rfl,?y30⟩) ?_
   case y30=>(intro w;go_simp;try with_reducible rfl)
   refine TR 12 ?v31 rfl (by kernel_rfl) (.inl ⟨by rfl,?y31⟩) ?_
   case y31=>(intro w;go_simp;try with_reducible rfl)
   refine wpAny_ready (rs:=[13]) (by kernel_rfl) (by simp) ?_
   refine (AllReady.cons rfl (fun K hK=>?_) AllReady.nil)
   go_simp
   refine hK _ _ ?_;clear hK K;try simp only[ps]
   refine wpAny_done (by kernel_rfl) ?_ _
   (go_wp2_with (refine wpList_store_mid rfl 28 (.tmp 54) (.tmp 48) rfl g (I.length * 8) x.cells.toArray (by rfl) (by rfl) (Jf.out _ (by simp)) Cn (EO x) ?_);rw[yF MR.out];exact bodyPost_end (results_none Tryz.results162 _ _ _) rfl ⟨rfl,I6.out x _ r6 k6 e6 _ LB MX Nu Nt⟩)
  ·
   go_simp
   refine hK.out _ _ ?_ (fun AQ=>?_)
   ·(try dsimp only);exact I4.out _ (Ah.of (zB (zC (Pe _ _) 1) (zD _ _)) (AAV H8))
   clear hK K;refine tS 7 (fun K hK=>?_)
   go_simp
   (refine (EI.out V.x.elem _ r4 k2 e4 qE VE (FP.out.below (zB (zC (Pe W4.heap.size W4) 1) (zD _ zO))).rd).mono ?_;rintro y w6 ⟨x,rfl,g1,g2,r6,k6,e6,g3,g4,g5,g6⟩;have BH:=zh ((Ah.of (zB (zC (Pe W4.heap.size W4) 1) (zD _ zO)) (AAV H8)).trans g2);have Iy:=zh (FP.out.hot BH (g1.mono fun q _ hq=>by have hz:((W4.drewN 1).alloc zO).heap.size=W4.heap.size+1:=(by simp);show q<_;omega));have Sd:=zh (Ju g2 (by have:=H8.out;show W4.heap.size≠_;omega) (zR (W4.drewN 1) yB 28));have DL:=zh (FP.out.BJ BH g3);have MX:=zh g4;have Nu:=zh g5;have Nt:=zh g6;clear g1 g2 g3 g4 g5 g6)
   refine hK.out _ _ ?_ (fun AQ=>?_)
   ·(try dsimp only);exact I4.out _ BH
   clear hK K;refine zV (rs:=[10]) (by kernel_rfl) (by simp) ?_
   refine AB.last rfl (by kernel_rfl) (fun K hK=>?_) AB.nil
   (have hll:=U9.out;refine yH AU (by rfl) (.tmp 44) (.tmp 50) (by rfl) (V.p+1) (.slice A2 I.length c2) I.length (I.flatMap Aj.cells) (by rfl) DL.out.vb.oi W4.heap.size 0 1 1 yB (by rfl) rfl Sd I8 (by omega) (by omega) DL.out.vb.lt ?_;intro v8 w8 BI BB Ci;obtain ⟨g,c8,rfl,hgg⟩:=CV BI;have LB:=zh (DL.out.PK Iy (Pe _ _) BI BB Ci);have MR:Hid (V.p≠g):=zh (by omega);have Jg:=zh (DL.out.p8 BB (.inr (.inl rfl)));obtain ⟨⟨_,c6,_⟩,_,f6,_⟩:=DL.out.c8 Jg;have Jf:=zh (EC (j:=6) (u := .slice (some ⟨g,0,none⟩) (I.length+1) c8) (EF (xs:=yB) rfl BI) MR);have hlt1:(I.length:Int)<(I.length:Int)+1:=(by omega);have WX:(0:Int)<=(I.length:Int):=(by omega);clear hll BI BB Ci hgg)
   refine hK.out _ _ ?_;clear hK K
   (try clear AQ)
   refine TR 11 ?v32 rfl (by kernel_rfl) (.inl ⟨by rfl,?y32⟩) ?_
   case y32=>(intro w;go_simp;try with_reducible rfl)
   refine TR 12 ?v33 rfl (by kernel_rfl) (.inl ⟨by rfl,?y33⟩) ?_
   case y33=>(intro w;go_simp;try with_reducible rfl)
   refine wpAny_ready (rs:=[13]) (by kernel_rfl) (by simp) ?_
   refine (AllReady.cons rfl (fun K hK=>?_) AllReady.nil)
   go_simp
   refine hK _ _ ?_;clear hK K;try simp only[ps]
   refine wpAny_done (by kernel_rfl) ?_ _
   (go_wp2_with (refine wpList_store_mid rfl 28 (.tmp 54) (.tmp 48) rfl g (I.length * 8) x.cells.toArray (by rfl) (by rfl) (Jf.out _ (by simp)) Cn (EO x) ?_);rw[yF MR.out];exact bodyPost_end (results_none Tryz.results162 _ _ _) rfl ⟨rfl,I6.out x _ r6 k6 e6 _ LB MX Nu Nt⟩)
 | false =>
  go_upto_region 9 with fail
  refine yE (S:=(fun w'=>((w'.cell? ⟨V.p,5,none⟩=some qP/\w'.cell? ⟨V.p,6,none⟩=some (.slice A2 I.length c2)/\w'.cell? ⟨V.p,7,none⟩=some vr/\w'.cell? ⟨V.pr,0,none⟩=some (.pointer (some ⟨C.b,0,none⟩))/\w'.cell? ⟨V.px,6,none⟩=some (.slice V.Am V.x.AA.length V.cm)/\w'.cell? ⟨V.px,7,none⟩=some (.int .i64 V.x.key)/\w'.cell? ⟨V.px,8,none⟩=some (.int .i64 V.x.elem))/\Hid True)/\(w'.cell? ⟨V.pv,0,none⟩=some (.pointer (some ⟨V.p,0,none⟩))))) 13 (by kernel_rfl) ?_ (fun AQ=>?_)
  ·(try dsimp only);(have hk:=I4.out _ (Ah.of (zC (Pe _ _) 1) (AAV H8));exact ⟨⟨hk.1.1,trivial⟩,hk.2⟩)
  refine tB 0 ?_;refine tB 1 ?_;refine tC 2 ?_;refine tC 3 ?_;refine tB 4 ?_;refine tB 5 ?_;try simp only[ps]
  refine tC 6 ?_;refine tB 7 ?_;refine tS 8 (fun K hK=>?_)
  go_simp
  (refine (EI.out V.x.elem _ r4 k2 e4 qE VE (FP.out.below (zC (Pe W4.heap.size W4) 1)).rd).mono ?_;rintro y w6 ⟨x,rfl,g1,g2,r6,k6,e6,g3,g4,g5,g6⟩;have BH:=zh ((Ah.of (zC (Pe W4.heap.size W4) 1) (AAV H8)).trans g2);have Iy:=zh (FP.out.hot BH g1);have DL:=zh (FP.out.BJ BH g3);have MX:=zh g4;have Nu:=zh g5;have Nt:=zh g6;clear g1 g2 g3 g4 g5 g6)
  refine hK.out _ _ ?_ (fun AQ=>?_)
  ·(try dsimp only);(have hk:=I4.out _ (BH.out);exact ⟨⟨hk.1.1,trivial⟩,hk.2⟩)
  clear hK K;refine tS 9 (fun K hK=>?_)
  go_simp
  refine hK.out _ _ ?_ (fun AQ=>?_)
  ·(try dsimp only);(have hk:=I4.out _ (BH.out.below (zD w6 (.cells x.cells.toArray 28)) H8);exact ⟨⟨hk.1.1,trivial⟩,hk.2⟩)
  clear hK K;refine tS 10 (fun K hK=>?_)
  (have FE:=zh (DL.out.below (zD w6 (.cells x.cells.toArray 28)));have hll:=U9.out;refine yH AU (by rfl) (.tmp 59) (.tmp 64) (by rfl) (V.p+1) (.slice A2 I.length c2) I.length (I.flatMap Aj.cells) (by rfl) FE.out.vb.oi w6.heap.size 0 1 1 x.cells (by rfl) rfl (zR w6 x.cells 28) (Bh x) (by omega) (by omega) FE.out.vb.lt ?_;intro v8 w8 BI BB Ci;obtain ⟨g,c8,rfl,hgg⟩:=CV BI;have LB:=zh (DL.out.item Iy (zD w6 (.cells x.cells.toArray 28)) BI BB Ci);have Jg:=zh (FE.out.p8 BB (.inr (.inl rfl)));have U6:=zh (FE.out.Xf Jg (FE.out.SF BB (.inr (.inl rfl))));obtain ⟨⟨_,c6,_⟩,_,f6,_⟩:=FE.out.c8 Jg;clear hll BI Ci hgg)
  refine hK.out _ _ ?_ (fun AQ=>?_)
  ·(try dsimp only);exact ⟨⟨U6.out.1,trivial⟩,U6.out.2 QD⟩
  clear hK K;refine tC 11 ?_;try simp only[ps]
  refine tC 12 ?_;refine zV (rs:=[13]) (by kernel_rfl) (by simp) ?_
  refine AB.last rfl (by kernel_rfl) (fun K hK=>?_) AB.nil
  go_simp
  refine hK.out _ _ ?_;clear hK K
  (try clear AQ)
  refine wpAny_done (by kernel_rfl) ?_ _
  (go_wp2;exact bodyPost_end (results_none Tryz.results162 _ _ _) rfl ⟨rfl,I6.out x _ r6 k6 e6 _ LB MX Nu Nt⟩)
def Wx (n:Int) (r:List AJ) (t0:AJ) (r1:List AJ) (e1:Int):Prop:=(r1.length<=r.length/\Dk t0.text/\Dk t0.str)/\((CG n r = .ok (t0,r1)/\e1=0/\r1.length<r.length)\/(CG n r = .error 2/\t0=KO/\r1=r/\e1=2))
theorem FU {n:Int} {y:Ending} (h:jF C n w r k 0 y w'):∃t0 r1 e1,y = .returned (.agg #[.int .i64 t0.kind,.string t0.text,.int .i64 t0.int,.string t0.str,.int .i64 t0.line])/\Ah C.b w w'/\Bv C w' r1 k e1/\Wx n r t0 r1 e1:=by
 obtain ⟨hb,h⟩:=h
 rcases h with ⟨t,q,h1,h2,h3,h4,h5⟩|⟨h1,h2,h3⟩
 ·have:=(Bn h1).1.2
  exact ⟨t,q,0,h2,hb,h3,⟨by omega,h4,h5⟩,.inl ⟨h1,rfl,this⟩⟩
 ·exact ⟨KO,r,2,h2,hb,h3,⟨AAP _,by unfold Dk KO;decide,by unfold Dk KO;decide⟩,.inr ⟨h1,rfl,rfl,rfl⟩⟩
theorem Wx.tk {n:Int} {r1:List AJ} {t0:AJ} {e1:Int} (h:Wx n r t0 r1 e1):match CG n r with
  | .ok p=>t0=p.1/\r1=p.2/\e1=0/\r1.length<r.length
  | .error e2=>e1=e2/\e1≠0:=by
 rcases h.2 with ⟨h1,h2,h3⟩|⟨h1,_,_,h2⟩
 ·rw[h1];exact ⟨rfl,rfl,h2,h3⟩
 ·rw[h1];exact ⟨h2,by rw[h2];decide⟩
def ah (nm:ByteArray) (t0:AJ) (e1:Int):Int:=if e1=0 then (if t0.text=nm then 0 else 4) else e1
theorem JL (h:BX T r=true):r.tail.length<r.length:=(Dt h).2
section
variable {f:Int->List AJ->Bool->PR Val} {Rt:KS} {acc:List Val} {ms:List AY} {y:AY} {r:List AJ} {k:Bool}
theorem lW (hnz:∀t l k,f t l k ≠ .error 0) (h:ML f Rt acc [] (y::ms) r k) {t0:AJ} {r1:List AJ} {e1:Int} (h1:Wx 1 r t0 r1 e1) {r3:List AJ} {e3:Int} (h3:Uw ⟨#[58]⟩ r1 (ah y.name t0 e1) r3 e3) {x:Val} {r5:List AJ} {k5:Bool} {e5:Int} (hl5:r5.length<=r3.length) (gy:e3≠0->e5=e3)
  (h5:e3=0->match f y.type r3 k with
   | .ok (v,r',k')=>x=v/\r5=r'/\k5=k'/\e5=0
   | .error e=>e5=e) {e6:Int} (h6:e6=if e5=0/\ms≠[]/\BX ⟨#[44]⟩ r5=false then 2 else e5) :
  (e6=0->Pk f Rt (acc++[x]) [] ms r5 k5/\r5.length<r.length)/\(e6≠0->Rt = .error e6):=by
 obtain ⟨_,hR⟩:=h.name;have ht:=h1.tk;have hl1:=h1.1.1;have hl3:=h3.1
 cases hk:CG 1 r with
 | error e =>
  rw[hk] at ht hR;obtain ⟨rfl,hz⟩:=ht;have hnm:ah y.name t0 e1=e1:=Pd hz;rw[hnm] at h3
  rcases h3.2 with ⟨_,_,g⟩|⟨g,_⟩
  ·have g5:=gy (by omega)
   rw[Pd (by rintro ⟨g,_⟩;omega)] at h6
   have e61:e6=e1:=by omega
   subst e61;exact ⟨fun g=>absurd g hz,fun _=>hR⟩
  ·exact absurd g hz
 | ok p =>
  obtain ⟨u,q⟩:=p;rw[hk] at ht hR;obtain ⟨rfl,rfl,rfl,hlt⟩:=ht;rw[zM] at hR;simp only at hR
  by_cases hnm:t0.text=y.name
  ·have hn0:ah y.name t0 0=0:=by unfold ah;rw[AAH rfl,AAH hnm]
   rw[hn0] at h3;rw[AAH hnm] at hR;have hs:=EQ h3
   cases hsy:Aq ⟨#[58]⟩ r1 with
   | error e =>
    rw[hsy] at hs hR;have g5:=gy hs.2;rw[Pd (by rintro ⟨g,_⟩;exact hs.2 (by omega))] at h6
    have e61:e6=e:=by have:=hs.1;omega
    subst e61;exact ⟨fun g=>absurd g (by have:=hs.2;have:=hs.1;omega),fun _=>hR⟩
   | ok l2 =>
    rw[hsy] at hs hR;obtain ⟨rfl,rfl⟩:=hs;rw[zM] at hR;have hv:=h5 rfl
    cases hf:f y.type r3 k with
    | error e =>
     rw[hf] at hv hR;simp only at hv;subst hv;have hz:e5≠0:=fun g=>hnz _ _ _ (g▸hf)
     rw[Pd (by rintro ⟨g,_⟩;exact hz g)] at h6
     subst h6;exact ⟨fun g=>absurd g hz,fun _=>hR⟩
    | ok z =>
     obtain ⟨v,r',k'⟩:=z;rw[hf] at hv hR;obtain ⟨rfl,rfl,rfl,rfl⟩:=hv;rw[zM] at hR;simp only at hR;have hR2:Rt=(BQ f false ms r5 k5).bind fun z=>Mi ((acc++[x])++z.1) [] z.2.2 (ED false false z.2.1):=by rw[hR];simp only[AAb,List.singleton_append]
     by_cases hm:ms≠[]/\BX ⟨#[44]⟩ r5=false
     ·rw[AAH ⟨rfl,hm⟩] at h6
      subst h6;exact ⟨fun g=>absurd g (by decide),fun _=>ql hR2 hm.1 hm.2⟩
     ·rw[Pd (fun g=>hm g.2)] at h6
      subst h6;refine ⟨fun _=>⟨lg rfl hR2 ?_,by omega⟩,fun g=>absurd rfl g⟩
      by_cases h0:ms=[]
      ·exact .inl h0
      ·refine .inr ?_
       cases hi:BX ⟨#[44]⟩ r5 with
       | true=>rfl
       | false=>exact absurd ⟨h0,hi⟩ hm
  ·have hn0:ah y.name t0 0=4:=by unfold ah;rw[AAH rfl,Pd hnm]
   rw[hn0] at h3;rw[Pd hnm] at hR
   rcases h3.2 with ⟨_,_,g⟩|⟨g,_⟩
   ·have g5:=gy (by omega)
    rw[Pd (by rintro ⟨g,_⟩;omega)] at h6
    have e61:e6=4:=by omega
    subst e61;exact ⟨fun g=>absurd g (by decide),fun _=>hR⟩
   ·exact absurd g (by decide)
theorem lV {rs:List Af} (h:ML f Rt acc rs [] r k) {t0:AJ} {r1:List AJ} {e1:Int} (h1:Wx 2 r t0 r1 e1) {r3:List AJ} {e3:Int} (h3:Uw ⟨#[58]⟩ r1 e1 r3 e3) {t1:AJ} {r5:List AJ} {e5:Int} (h5:(e3≠0/\r5=r3/\e5=e3)\/(e3=0/\Wx 3 r3 t1 r5 e5)) :
  (e5=0->Pk f Rt acc (rs++[⟨t0.int,t1.str⟩]) [] r5 k/\r5.length<r.length)/\(e5≠0->Rt = .error e5):=by
 have hR:=h.raw;have ht:=h1.tk;have hl3:=h3.1
 cases hk:CG 2 r with
 | error e =>
  rw[hk] at ht hR;obtain ⟨rfl,hz⟩:=ht
  rcases h3.2 with ⟨_,_,g⟩|⟨g,_⟩
  ·rcases h5 with ⟨_,_,g5⟩|⟨g5,_⟩
   ·have e61:e5=e1:=by omega
    subst e61;exact ⟨fun g=>absurd g hz,fun _=>hR⟩
   ·omega
  ·exact absurd g hz
 | ok p =>
  obtain ⟨u,q⟩:=p;rw[hk] at ht hR;obtain ⟨rfl,rfl,rfl,hlt⟩:=ht;rw[zM] at hR;simp only at hR;have hs:=EQ h3
  cases hsy:Aq ⟨#[58]⟩ r1 with
  | error e =>
   rw[hsy] at hs hR
   rcases h5 with ⟨_,_,g5⟩|⟨g5,_⟩
   ·have e61:e5=e:=by have:=hs.1;omega
    subst e61;exact ⟨fun g=>absurd g (by have:=hs.2;have:=hs.1;omega),fun _=>hR⟩
   ·exact absurd g5 hs.2
  | ok l2 =>
   rw[hsy] at hs hR;obtain ⟨rfl,rfl⟩:=hs;rw[zM] at hR
   rcases h5 with ⟨g5,_⟩|⟨_,g5⟩
   ·exact absurd rfl g5
   ·have hu:=g5.tk
    have hl5:=g5.1.1
    cases hk3:CG 3 r3 with
    | error e =>
     rw[hk3] at hu hR;obtain ⟨rfl,hz⟩:=hu;exact ⟨fun g=>absurd g hz,fun _=>hR⟩
    | ok z =>
     obtain ⟨v,q2⟩:=z;rw[hk3] at hu hR;obtain ⟨rfl,rfl,rfl,_⟩:=hu;rw[zM] at hR;simp only at hR;exact ⟨fun _=>⟨.inl ⟨rfl,hR⟩,by omega⟩,fun g=>absurd rfl g⟩
end
theorem CR.AA1 (h:CR C V W r k e di vk vi vr K I R) {w8:World} {row:Option Nat} (hg:W.grownBy w8 row) (hr:row=vk.ownBlock\/row=vi.ownBlock\/row=vr.ownBlock):Below C.w0.heap.size C.w0 w8:=by
 obtain ⟨l1,l2,l3⟩:=GL h.vb;have hb:=h.bp;have hge:=h.rd.ok.ge;refine h.rd.up.grown hg h.rd.up.size fun q hq=>?_
 rcases hr with e|e|e
 ·have:=l1 q (e▸hq);omega
 ·have:=l2 q (e▸hq);omega
 ·have:=l3 q (e▸hq);omega
theorem CR.AA0 (h:CR C V W r k e di vk vi vr K I R) (hb:Ah C.b W W'):Below C.w0.heap.size C.w0 W':=h.rd.up.trans (hb.Bz.mono h.rd.ok.ge)
theorem Og (v:Val):∀y,y∈v.keys\/y∈v.items->SizeOf.sizeOf y<SizeOf.sizeOf v:=by
 intro y hy
 obtain ⟨k,b,i,st,id,ks,is,r⟩:=v;simp only[Val.mk.sizeOf_spec]
 rcases hy with h|h
 ·have:=List.sizeOf_lt_of_mem (show y∈ks from h);omega
 ·have:=List.sizeOf_lt_of_mem (show y∈is from h);omega
theorem zF {b:Nat} {v:Val} {A1:zo} {c1:Nat} {A2:zo} {c2:Nat} {A3:zo} {c3:Nat} (h:W.heap[b]? = some (v.box A1 c1 A2 c2 A3 c3)):
  W.cell? ⟨b,0,none⟩=some (.int .i64 v.kind)/\W.cell? ⟨b,1,none⟩=some (.bool v.bool)/\W.cell? ⟨b,2,none⟩=some (.int .i64 v.int)/\W.cell? ⟨b,3,none⟩=some (.string v.str)/\W.cell? ⟨b,4,none⟩=some (.int .i64 v.id)/\W.cell? ⟨b,5,none⟩=some (.slice A1 v.keys.length c1)/\W.cell? ⟨b,6,none⟩=some (.slice A2 v.items.length c2)/\W.cell? ⟨b,7,none⟩=some (.slice A3 v.rest.length c3):=by
 refine ⟨?_,?_,?_,?_,?_,?_,?_,?_⟩ <;> (rw[AAN _ _ _ _ _ _ h];rfl)
theorem Vm (n:Int) (t:Aa) (As:zo) (cs:Nat) (Am:zo) (cm:Nat) (w:World) (ht:JY w t As Am) :
  Calls Tryz.prog 68 #[t.v As cs Am cm,.int .i64 n] w fun e w'=>∃r:Int,e = .returned (.tuple #[.int .i64 r,.bool (t.AV.any fun y=>decide (y.id=n))])/\Below w.heap.size w w' :=
 (Mh n t As cs Am cm w ht).mono fun e w' ⟨h1,h2⟩=>⟨_,h1.trans (by rw[FJ]),h2⟩
theorem Ko (n:Int) (t:Aa) (As:zo) (cs:Nat) (Am:zo) (cm:Nat) (w:World) (ht:JY w t As Am) :
  Calls Tryz.prog 58 #[t.v As cs Am cm,.int .i64 n] w fun e w'=>∃r:Int,e = .returned (.tuple #[.int .i64 r,.bool (t.AA.any fun y=>decide (y.id=n))])/\((t.AA.any fun y=>decide (y.id=n))=true->r=Bg (fun y:AY=>decide (y.id=n)) t.AA)/\Below w.heap.size w w' :=
 (Jt n t As cs Am cm w ht).mono fun e w' ⟨h1,h2⟩=>⟨_,h1.trans (by rw[FJ]),fun h=>by
  rw[<-FJ] at h;exact Pd (by have:=AAe h;omega),h2⟩
section
variable {s:List Aa} {df:AY->ByteArray}
end
theorem YB:∀ (L:List (Int×ByteArray)) (b:Int) (K:List ByteArray),Nk b K L=true->∀x∈L,(1<=x.1/\x.1<=1000)/\x.2.size<=24
 | [],_,_,_,x,hx=>by cases hx
 | y::L,b,K,h,x,hx=>by
  rw[Nk] at h;simp only[AAM,AAX] at h;obtain ⟨⟨⟨⟨⟨h1,h2⟩,_⟩,_⟩,h5⟩,h6⟩:=h
  rcases AAi.1 hx with e|e
  ·subst e
   unfold EG at h5;simp only[AAM,AAX] at h5;exact ⟨⟨h1,h2⟩,h5.1.1.2⟩
  ·exact YB L _ _ h6 x e
section
variable {s:List Aa} {t:Aa}
theorem mX (hv:zQ s=0) (ht:t∈s) {m:AY} (hm:m∈t.AA):((1<=m.id/\m.id<=1000)/\m.name.size<=24)/\(0<=m.type/\m.type<(s.length:Int)):=by
 have h:=(Df hv ht).1;unfold GQ at h;simp only[AAM,AAX] at h;obtain ⟨⟨⟨⟨h1,h2⟩,h3⟩,h4⟩,h5⟩:=h;have key:∀b,Nb b t.AA=true->((1<=m.id/\m.id<=1000)/\m.name.size<=24):=fun b hb=>by
  unfold Nb SB at hb;simp only[AAM] at hb;exact YB _ _ _ hb.1.2.1 _ (List.mem_map.2 ⟨m,hm,rfl⟩)
 refine ⟨?_,(Df hv ht).2 _ (List.mem_map.2 ⟨(m.id,m.type),?_,rfl⟩)⟩
 ·by_cases k5:t.kind=5
  ·unfold Ki at h5
   rw[Pd (by omega),Pd (by omega),Pd (by omega),AAH k5] at h5
   exact key _ h5
  by_cases k6:t.kind=6
  ·unfold Ki at h5
   rw[Pd (by omega),Pd (by omega),Pd (by omega),Pd (by omega),AAH k6] at h5
   exact key _ h5
  ·exfalso
   have:t.AA=[]:=by
    rw[h3];unfold FW
    (repeat' split) <;> first|rfl|(exfalso;omega)
   rw[this] at hm
   cases hm
 ·unfold JC
  simp only[AAm,List.mem_map];exact .inl ⟨m,hm,rfl⟩
end
theorem Ez (x:Int) (w:World):Calls Tryz.prog 173 #[.int .i64 x] w fun e w'=>e = .returned (.bool false)/\w=w':=by
 have q1:(x != x)=false:=by simp
 go_enter Tryz.func173,Tryz.ntmps173
 go_wp2
 go_ret
 exact ⟨rfl,rfl⟩
theorem Ew (x:Int) (w:World):Calls Tryz.prog 172 #[.int .u64 x] w fun e w'=>e = .returned (.bool false)/\w=w':=by
 have q1:(x != x)=false:=by simp
 go_enter Tryz.func172,Tryz.ntmps172
 go_wp2
 go_ret
 exact ⟨rfl,rfl⟩
theorem Ey (x:ByteArray) (w:World):Calls Tryz.prog 174 #[.string x] w fun e w'=>e = .returned (.bool false)/\w=w':=by
 go_enter Tryz.func174,Tryz.ntmps174
 go_wp2
 go_ret
 exact ⟨by first|rfl|simp,rfl⟩
theorem MF (x y:Int) (w:World):Calls Tryz.prog 152 #[.int .i64 x,.int .i64 y] w fun e w'=>e = .returned (.int .i64 (Dg x y))/\w=w':=by
 by_cases h1:x<y
 ·have HD:Hid (Dg x y = -1):=by show _=_;unfold Dg;rw[AAH h1]
  go_enter Tryz.func152,Tryz.ntmps152
  go_wp2_with fail
  refine (Ez x w).mono ?_;rintro e w2 ⟨rfl,rfl⟩;go_wp2_with fail;refine (Ez y w).mono ?_;rintro e w2 ⟨rfl,rfl⟩;go_wp2;go_ret;exact ⟨by rw[HD.out];rfl,rfl⟩
 ·by_cases h2:x=y
  ·subst h2
   have HD:Hid (Dg x x=0):=by show _=_;unfold Dg;rw[Pd h1,AAH rfl]
   have h3:¬ x > x:=by omega
   go_enter Tryz.func152,Tryz.ntmps152
   go_wp2_with fail
   refine (Ez x w).mono ?_;rintro e w2 ⟨rfl,rfl⟩;go_wp2_with fail;refine (Ez x w).mono ?_;rintro e w2 ⟨rfl,rfl⟩;go_wp2;go_ret;exact ⟨by rw[HD.out];rfl,rfl⟩
  ·have HD:Hid (Dg x y=1):=by show _=_;unfold Dg;rw[Pd h1,Pd h2]
   have h3:y<x:=by omega
   clear h2
   go_enter Tryz.func152,Tryz.ntmps152
   go_wp2_with fail
   refine (Ez x w).mono ?_;rintro e w2 ⟨rfl,rfl⟩;go_wp2_with fail;refine (Ez y w).mono ?_;rintro e w2 ⟨rfl,rfl⟩;go_wp2;go_ret;exact ⟨by rw[HD.out];rfl,rfl⟩
theorem SK (x y:Int) (w:World):Calls Tryz.prog 149 #[.int .u64 x,.int .u64 y] w fun e w'=>e = .returned (.int .i64 (Dg x y))/\w=w':=by
 by_cases h1:x<y
 ·have HD:Hid (Dg x y = -1):=by show _=_;unfold Dg;rw[AAH h1]
  go_enter Tryz.func149,Tryz.ntmps149
  go_wp2_with fail
  refine (Ew x w).mono ?_;rintro e w2 ⟨rfl,rfl⟩;go_wp2_with fail;refine (Ew y w).mono ?_;rintro e w2 ⟨rfl,rfl⟩;go_wp2;go_ret;exact ⟨by rw[HD.out];rfl,rfl⟩
 ·by_cases h2:x=y
  ·subst h2
   have HD:Hid (Dg x x=0):=by show _=_;unfold Dg;rw[Pd h1,AAH rfl]
   have h3:¬ x > x:=by omega
   go_enter Tryz.func149,Tryz.ntmps149
   go_wp2_with fail
   refine (Ew x w).mono ?_;rintro e w2 ⟨rfl,rfl⟩;go_wp2_with fail;refine (Ew x w).mono ?_;rintro e w2 ⟨rfl,rfl⟩;go_wp2;go_ret;exact ⟨by rw[HD.out];rfl,rfl⟩
  ·have HD:Hid (Dg x y=1):=by show _=_;unfold Dg;rw[Pd h1,Pd h2]
   have h3:y<x:=by omega
   clear h2
   go_enter Tryz.func149,Tryz.ntmps149
   go_wp2_with fail
   refine (Ew x w).mono ?_;rintro e w2 ⟨rfl,rfl⟩;go_wp2_with fail;refine (Ew y w).mono ?_;rintro e w2 ⟨rfl,rfl⟩;go_wp2;go_ret;exact ⟨by rw[HD.out];rfl,rfl⟩
theorem Y6 (x y:ByteArray) (w:World):(binOp .gtr 9 (.string x) (.string y)).run Tryz.prog w = .ok (.bool (!ja x y && !decide (x=y))) w:=by
 have h:=bytes_beq x y;simp[binOp,Op.stringOp,ja,h]
theorem SL (x y:ByteArray) (w:World):Calls Tryz.prog 153 #[.string x,.string y] w fun e w'=>e = .returned (.int .i64 (OD x y))/\w=w':=by
 cases hl:ja x y with
 | true =>
  have HD:Hid (OD x y = -1):=by show _=_;unfold OD;rw[hl,AAH rfl]
  have q1:Op.bytesLess x.toList y.toList=true:=hl;clear hl
  go_enter Tryz.func153,Tryz.ntmps153
  go_wp2_with fail
  refine (Ey x w).mono ?_;rintro e w2 ⟨rfl,rfl⟩;go_wp2_with fail;refine (Ey y w).mono ?_;rintro e w2 ⟨rfl,rfl⟩;go_wp2;go_ret;exact ⟨by rw[HD.out];rfl,rfl⟩
 | false =>
  have hg:=Y6 x y w;have q1:Op.bytesLess x.toList y.toList=false:=hl;rw[hl] at hg
  by_cases he:x=y
  ·have HD:Hid (OD x y=0):=by show _=_;unfold OD;rw[hl,Pd (by simp),AAH he]
   rw[AAT he] at hg;clear hl he
   go_enter Tryz.func153,Tryz.ntmps153
   go_wp2_with fail
   refine (Ey x w).mono ?_;rintro e w2 ⟨rfl,rfl⟩;go_wp2_with fail;refine (Ey y w).mono ?_;rintro e w2 ⟨rfl,rfl⟩;go_wp2;go_ret;exact ⟨by rw[HD.out];rfl,rfl⟩
  ·have HD:Hid (OD x y=1):=by show _=_;unfold OD;rw[hl,Pd (by simp),Pd he]
   rw[AAZ he] at hg;clear hl he
   go_enter Tryz.func153,Tryz.ntmps153
   go_wp2_with fail
   refine (Ey x w).mono ?_;rintro e w2 ⟨rfl,rfl⟩;go_wp2_with fail;refine (Ey y w).mono ?_;rintro e w2 ⟨rfl,rfl⟩;go_wp2;go_ret;exact ⟨by rw[HD.out];rfl,rfl⟩
theorem bH {n:Int} (h:In64 n):bits .xor .u64 (IntKind.u64.wrap (IntKind.u64.wrap n * 2)) (IntKind.u64.wrap (n / 9223372036854775808))=QH n:=by
 obtain ⟨h1,h2⟩:=h
 by_cases hn:0<=n
 ·have e1:IntKind.u64.wrap (IntKind.u64.wrap n * 2)=(((2 * n).toNat:Nat):Int):=by rw[IntKind.wrap_u64,IntKind.wrap_u64];omega
  have e2:IntKind.u64.wrap (n / 9223372036854775808)=((0:Nat):Int):=by rw[IntKind.wrap_u64];omega
  rw[e1,e2,bits_xor_u64_nat _ _ (by omega) (by decide),Nat.xor_zero]
  unfold QH;rw[AAH hn];omega
 ·have e1:IntKind.u64.wrap (IntKind.u64.wrap n * 2)=(((2 * n+18446744073709551616).toNat:Nat):Int):=by rw[IntKind.wrap_u64,IntKind.wrap_u64];omega
  have e2:IntKind.u64.wrap (n / 9223372036854775808)=((2 ^ 64 - 1:Nat):Int):=by rw[IntKind.wrap_u64];omega
  rw[e1,e2,bits_xor_u64_nat _ _ (by omega) (by decide),Nat.xor_comm,Lib.xor_ones64 _ (by omega)]
  unfold QH;rw[Pd hn];omega
theorem XK (n:Int) (h:In64 n) (w:World):Calls Tryz.prog 150 #[.int .i64 n] w fun e w'=>e = .returned (.int .u64 (QH n))/\w=w':=by
 have HZ:=zh (bH h)
 go_enter Tryz.func150,Tryz.ntmps150
 go_wp2
 go_ret
 exact ⟨by rw[<-HZ.out];rfl,rfl⟩
end Go.Proofs.YthkkllmmbefedaaGreatDoor



