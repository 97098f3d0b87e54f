/-
  The text of a schema: plain Lean.
-/
import Derived.Test.YthkkllmmbefedaaGreatDoorQGA7
import Derived.Test.YthkkllmmbefedaaGreatDoorQGA5
import Derived.Test.YthkkllmmbefedaaGreatDoorQGA3
import Derived.Test.YthkkllmmbefedaaGreatDoorQGA6
import Derived.Test.YthkkllmmbefedaaGreatDoorQGA2
import Derived.BigQuiet
import Derived.Deep.DeepCutAuto
import Derived.Deep.CutBlock
import Derived.Deep.LoopGhost
import Derived.Deep.MidRow
import Derived.Lib.Zigzag
import Derived.Lib.Join
namespace Go.Proofs.YthkkllmmbefedaaGreatDoor
open Go.RowKit
set_option maxHeartbeats 16000000
set_option maxRecDepth 100000
structure Ay (b:Nat) (w w':World):Prop where
 Bb:Below b w w'
 FN:∀q,q≠b->q<w.heap.size->w'.heap[q]? = w.heap[q]?
section
variable {b:Nat} {w w1 w':World}
theorem Ay.of (hb:Below w.heap.size w w') (h:b<=w.heap.size):Ay b w w':=⟨hb.mono h,fun q _ hq=>hb.block q hq⟩
theorem Ay.refl (b:Nat) (w:World):Ay b w w:=⟨Pe _ _,fun _ _ _=>rfl⟩
theorem Ay.trans (h:Ay b w w1) (h':Ay b w1 w'):Ay b w w' :=
 ⟨h.Bb.trans h'.Bb,fun q hq hl=>(h'.FN q hq (AAq hl h.Bb.size)).trans (h.FN q hq hl)⟩
theorem Ay.set (h:Ay b w w') (j:Nat) (u:Value):Ay b w (w'.setCell ⟨b,j,none⟩ u) :=
 ⟨h.Bb.setCell (p:=⟨b,j,none⟩) (AAH _) u,fun q hq hl=>(AAF _ _ _ _ (by simpa using hq)).trans (h.FN q hq hl)⟩
theorem Ay.below (h:Ay b w w1) (hb:Below w1.heap.size w1 w') (hl:b<w.heap.size):Ay b w w':=h.trans (Ay.of hb (by have:=h.Bb.size;omega))
theorem Ay.up {p:Nat} (h:Ay b w w1) (hb:Below p w1 w') (hp:w.heap.size<=p) (hl:b<=p):Ay b w w' :=
 ⟨h.Bb.trans (hb.mono hl),fun q hq hl=>(hb.block q (AAq hl hp)).trans (h.FN q hq hl)⟩
theorem Ay.size (h:Ay b w w'):w.heap.size<=w'.heap.size:=h.Bb.size
theorem Ay.off {S:Nat->Prop} {P:World->Prop} (h:Ay b w w') (hS:S b) (hp:Off S w P):Off S w' P:=hp.step h.size fun q hq hl=>h.FN q (fun e=>hq (e▸hS)) hl
end
structure FK where
 w0:World
 s:List Ae
 A:zo
 c:Nat
 l:List AQ
 AL:zo
 cL:Nat
 b:Nat
structure FK.Ok (C:FK):Prop where
 ty:CQ C.w0 C.A C.s
 tk:JE C.w0 C.AL C.l
 ge:C.w0.heap.size<=C.b
 len:C.l.length<=1000000
def FK.o (C:FK) (i:Nat) (k:Bool) (e:Int):Obj := .cells #[.slice C.A C.s.length C.c,.slice C.AL C.l.length C.cL,.int .i64 i,.bool k,.int .i64 e] 107
structure CX (C:FK) (w:World) (r:List AQ) (k:Bool) (e:Int):Prop where
 ok:C.Ok
 blk:w.heap[C.b]? = some (C.o (C.l.length - r.length) k e)
 WN:r <:+ C.l
 up:Below C.w0.heap.size C.w0 w
section
variable {C:FK} {w w':World} {r r':List AQ} {k k':Bool} {e e':Int}
theorem CX.lt (h:CX C w r k e):C.b<w.heap.size:=(zg.1 h.blk).1
theorem CX.below (h:CX C w r k e) (hb:Below w.heap.size w w'):CX C w' r k e:=⟨h.ok,BR h.blk hb,h.WN,h.up.trans (hb.mono h.up.size)⟩
theorem CX.Cn (h:CX C w r k e) (hb:Below w.heap.size w w'):Ay C.b w w':=Ay.of hb (AAe h.lt)
theorem CX.cells (h:CX C w r k e):(w.cell? ⟨C.b,0,none⟩=some (.slice C.A C.s.length C.c)/\w.cell? ⟨C.b,1,none⟩=some (.slice C.AL C.l.length C.cL)/\w.cell? ⟨C.b,2,none⟩=some (.int .i64 ((C.l.length - r.length:Nat):Int))/\w.cell? ⟨C.b,3,none⟩=some (.bool k)/\w.cell? ⟨C.b,4,none⟩=some (.int .i64 e))/\(∀j,w.frozen? ⟨C.b,j,none⟩=false):=by
 have hb:=h.blk;unfold FK.o at hb;refine ⟨⟨?_,?_,?_,?_,?_⟩,fun j=>AAL _ _ _ _ _ hb⟩ <;> (rw[AAE _ _ _ _ _ _ hb];rfl)
theorem CX.setAt (h:CX C w r k e) (hs:r' <:+ C.l) {i:Int} (hi:i=((C.l.length - r'.length:Nat):Int)):CX C (w.setCell ⟨C.b,2,none⟩ (.int .i64 i)) r' k e:=by
 subst hi;refine ⟨h.ok,?_,hs,h.up.setCell (p:=⟨C.b,2,none⟩) h.ok.ge _⟩;have hb:=h.blk;unfold FK.o at hb;rw[AAW _ _ 2 _ _ _ hb]
 rfl
theorem CX.yR (h:CX C w r k e) (e':Int):CX C (w.setCell ⟨C.b,4,none⟩ (.int .i64 e')) r k e':=by
 refine ⟨h.ok,?_,h.WN,h.up.setCell (p:=⟨C.b,4,none⟩) h.ok.ge _⟩;have hb:=h.blk;unfold FK.o at hb;rw[AAW _ _ 4 _ _ _ hb]
 rfl
variable {t:AQ}
theorem CX.iP (h:CX C w r k e) {i:Nat} (hi:C.l[i]? = some t):∃bb o,C.AL=some ⟨bb,o,none⟩/\(Db t.text/\Db t.str) /\
  w.cell? ⟨bb,o+i * 5,none⟩=some (.int .i64 t.kind)/\w.cell? ⟨bb,o+i * 5+1,none⟩=some (.string t.text)/\w.cell? ⟨bb,o+i * 5+2,none⟩=some (.int .i64 t.int)/\w.cell? ⟨bb,o+i * 5+3,none⟩=some (.string t.str)/\w.cell? ⟨bb,o+i * 5+4,none⟩=some (.int .i64 t.line):=by
 obtain ⟨hi2,rfl⟩:=AAi.1 hi;obtain ⟨bb,o,hA,h0,h1,h2,h3,h4,h5⟩:=h.ok.tk.cells hi2;exact ⟨bb,o,hA,h0,zA h.up h1,zA h.up h2,zA h.up h3,zA h.up h4,zA h.up h5⟩
theorem CX.uV {q:List AQ} (h:CX C w (t::q) k e):C.l[C.l.length - (t::q).length]? = some t:=by
 obtain ⟨p,hp⟩:=h.WN;have hl:C.l.length - (t::q).length=p.length:=by rw[<-hp];simp
 rw[hl,<-hp,ABB (AAH _),Nat.sub_self]
 rfl
theorem CX.tail {q:List AQ} (h:CX C w (t::q) k e):q <:+ C.l/\(((C.l.length - (t::q).length:Nat):Int)+1=((C.l.length - q.length:Nat):Int)):=by
 have h1:=h.WN;have h2:=h1.length_le;rw[AAS] at h2 ⊢;exact ⟨(List.suffix_cons t q).trans h1,by omega⟩
end
structure Au where
 v:Val
 A1:zo
 c1:Nat
 A2:zo
 c2:Nat
 A3:zo
 c3:Nat
def Au.cells (x:Au):List Value:=x.v.cs x.A1 x.c1 x.A2 x.c2 x.A3 x.c3
theorem CG (x:Au):∀u∈x.cells,u.oneCell'=true:=fun u hu=>by
 unfold Au.cells at hu;simp only[AAr,List.mem_nil_iff,or_false] at hu
 rcases hu with rfl|rfl|rfl|rfl|rfl|rfl|rfl|rfl <;> rfl
def encR (r:Ak):List Value:=[.int .i64 r.id,.string r.data]
theorem dF (x:Ak):∀u∈encR x,u.oneCell'=true:=fun u hu=>by
 unfold encR at hu;simp only[AAr,List.mem_nil_iff,or_false] at hu
 rcases hu with rfl|rfl <;> rfl
abbrev Cw:=Ad 28 8 Au.cells
abbrev lJ:=Ad 97 2 encR
def Ht (kd:Int) (bo:Bool) (it:Int) (st:ByteArray) (di:Int) (vk vi vr:Value):Obj := .cells #[.int .i64 kd,.bool bo,.int .i64 it,.string st,.int .i64 di,vk,vi,vr] 28
def Rb (p:Nat) (vk vi vr:Value) (q:Nat):Prop:=q<=p\/vk.ownBlock=some q\/vi.ownBlock=some q\/vr.ownBlock=some q
structure Gx (p:Nat) (w:World) (kd:Int) (bo:Bool) (it:Int) (st:ByteArray) (di:Int) (vk vi vr:Value) (K I:List Au) (R:List Ak):Prop where
 blk:w.heap[p]? = some (Ht kd bo it st di vk vi vr)
 ok:Cw w (p+1) vk K
 oi:Cw w (p+1) vi I
 Qy:lJ w (p+1) vr R
 ne:∀q,vk.ownBlock=some q->vi.ownBlock≠some q
 off:∀y∈K++I,Off (Rb p vk vi vr) w fun u=>Az u y.v y.A1 y.A2 y.A3
 str:Db st
 raw:∀y∈R,Db y.data
section
variable {p:Nat} {w w':World} {kd:Int} {bo:Bool} {it:Int} {st:ByteArray} {di:Int} {vk vi vr:Value} {K I:List Au} {R:List Ak}
theorem Gx.lt (h:Gx p w kd bo it st di vk vi vr K I R):p<w.heap.size:=(zg.1 h.blk).1
theorem Gx.keep (h : Gx p w kd bo it st di vk vi vr K I R) (hz : w.heap.size <= w'.heap.size) (hk : ∀ q, p <= q -> q < w.heap.size -> w'.heap[q]? = w.heap[q]?) : Gx p w' kd bo it st di vk vi vr K I R :=
  ⟨(hk p (AAH _) h.lt).trans h.blk, h.ok.keep fun g hg hl _ => hk g (by omega) hl, h.oi.keep fun g hg hl _ => hk g (by omega) hl, h.Qy.keep fun g hg hl _ => hk g (by omega) hl, h.ne,
    fun y hy => (h.off y hy).step hz fun q hq hl => hk q (AAe (Nat.lt_of_not_le fun e => hq (.inl e))) hl, h.str, h.raw⟩
theorem Gx.below (h:Gx p w kd bo it st di vk vi vr K I R) (hb:Below w.heap.size w w'):Gx p w' kd bo it st di vk vi vr K I R:=h.keep hb.size fun q _ hq=>hb.block q hq
theorem Gx.Cn {b:Nat} (h:Gx p w kd bo it st di vk vi vr K I R) (hb:Ay b w w') (hl:b<p):Gx p w' kd bo it st di vk vi vr K I R:=h.keep hb.size fun q hp hq=>hb.FN q (by omega) hq
theorem Gx.cells (h:Gx p w kd bo it st di vk vi vr K I R):(w.cell? ⟨p,0,none⟩=some (.int .i64 kd)/\w.cell? ⟨p,1,none⟩=some (.bool bo)/\w.cell? ⟨p,2,none⟩=some (.int .i64 it)/\w.cell? ⟨p,3,none⟩=some (.string st)/\w.cell? ⟨p,4,none⟩=some (.int .i64 di)/\w.cell? ⟨p,5,none⟩=some vk/\w.cell? ⟨p,6,none⟩=some vi/\w.cell? ⟨p,7,none⟩=some vr)/\(∀j,w.frozen? ⟨p,j,none⟩=false):=by
 have hb:=h.blk;unfold Ht at hb;refine ⟨⟨?_,?_,?_,?_,?_,?_,?_,?_⟩,fun j=>AAL _ _ _ _ _ hb⟩ <;> (rw[AAE _ _ _ _ _ _ hb];rfl)
theorem Gx.new (w:World) (kd:Int):Gx w.heap.size (w.alloc (Ht kd false 0 ⟨#[]⟩ 0 (.slice none 0 0) (.slice none 0 0) (.slice none 0 0))) kd false 0 ⟨#[]⟩ 0 (.slice none 0 0) (.slice none 0 0) (.slice none 0 0) [] [] [] :=
 ⟨AAC w _,Ad.nil _ _,Ad.nil _ _,Ad.nil _ _,(fun _ h=>by cases h),(fun _ h=>by cases h),by unfold Db;decide,(fun _ h=>by cases h)⟩
theorem Gx.Ol (h:Gx p w kd bo it st di vk vi vr K I R) {j:Nat} {u:Value} {dP:Bool} {it':Int} {st':ByteArray} {Yx:Int} (hu:(#[Value.int .i64 kd,.bool bo,.int .i64 it,.string st,.int .i64 di,vk,vi,vr]:Array Value).setIfInBounds j u = #[.int .i64 kd,.bool dP,.int .i64 it',.string st',.int .i64 Yx,vk,vi,vr]) (hs:Db st') :
  Gx p (w.setCell ⟨p,j,none⟩ u) kd dP it' st' Yx vk vi vr K I R:=by
 have hb:=h.blk;unfold Ht at hb;refine ⟨?_,h.ok.keep fun g hg _ _=>AAF _ _ _ _ (by simp only;omega),h.oi.keep fun g hg _ _=>AAF _ _ _ _ (by simp only;omega),h.Qy.keep fun g hg _ _=>AAF _ _ _ _ (by simp only;omega),h.ne,
  fun y hy=>(h.off y hy).set u (.inl (AAH _)),hs,h.raw⟩
 rw[AAW _ _ j _ _ u hb,hu];rfl
theorem Fw (h:Gx p w kd bo it st di vk vi vr K I R):(∀q,vk.ownBlock=some q->p<q/\q<w.heap.size)/\(∀q,vi.ownBlock=some q->p<q/\q<w.heap.size)/\(∀q,vr.ownBlock=some q->p<q/\q<w.heap.size) :=
 ⟨fun q hq=>World.ownsRow.lt h.ok q hq,fun q hq=>World.ownsRow.lt h.oi q hq,fun q hq=>World.ownsRow.lt h.Qy q hq⟩
theorem own_ne {w:World} {base dS:Nat} {v v2:Value} {l:List Au} {l2:List Ak} (h:Cw w base v l) (h2:lJ w dS v2 l2) (q:Nat) (hq:v.ownBlock=some q):v2.ownBlock≠some q:=fun e=>by
 obtain ⟨c1,f1,e1⟩:=h.block hq;obtain ⟨c2,f2,e2⟩:=h2.block e;rw[e1] at e2
 injection e2 with e2
 injection e2 with _ e3
 exact absurd e3 (by decide)
variable {v8:Value} {w4 w8:World}
theorem Gx.item (h:Gx p w kd bo it st di vk vi vr K I R) {x:Au} (hx:Off (Rb p vk vi vr) w fun u=>Az u x.v x.A1 x.A2 x.A3) (hb4:Below w.heap.size w w4) (ho:w8.ownsRow (p+1) 28 8 v8 (I.length+1) (I.flatMap Au.cells++x.cells)) (hg:w4.grownBy w8 vi.ownBlock) (hv:v8.ownBlock=vi.ownBlock\/v8.ownBlock=some w4.heap.size):
  Gx p (w8.setCell ⟨p,6,none⟩ v8) kd bo it st di vk v8 vr K (I++[x]) R/\Below p w (w8.setCell ⟨p,6,none⟩ v8)/\∀q,q≠p->vi.ownBlock≠some q->q<w.heap.size->(w8.setCell ⟨p,6,none⟩ v8).heap[q]? = w.heap[q]? := by
 have h4:=h.below hb4;obtain ⟨l1,l2,l3⟩:=Fw h4;have hk:∀q,q<w4.heap.size->vi.ownBlock≠some q->w8.heap[q]? = w4.heap[q]? := fun q hq hne=>yA hg hq fun k hk e=>hne (by rw[hk,e])
 have Wz:=(hk p h4.lt fun e=>by have:=l2 p e;omega).trans h4.blk
 have hso:∀q,q≠p->(w8.setCell ⟨p,6,none⟩ v8).heap[q]? = w8.heap[q]? := fun q hq=>AAF _ _ _ _ (by simpa using hq)
 have hz8:=hg.size;refine ⟨⟨?_,?_,?_,?_,?_,?_,h.str,h.raw⟩,((((hb4.mono (AAe h.lt)).grown hg (AAe h4.lt) fun q hq=>by have:=l2 q hq;omega)).setCell (p:=⟨p,6,none⟩) (AAH _) v8),fun q h1 h2 h3=>((hso q h1).trans (hk q (by have:=hb4.size;omega) h2)).trans (hb4.block q h3)⟩
 ·unfold Ht at Wz
  rw[AAW _ _ 6 _ _ v8 Wz];rfl
 ·exact h4.ok.keep fun g hg1 hl hv0=>(hso g (by omega)).trans (hk g hl (h.ne g hv0))
 ·have ho':Cw w8 (p+1) v8 (I++[x]):=Ad.snoc ho
  exact ho'.keep fun g hg1 _ _=>hso g (by omega)
 ·exact h4.Qy.keep fun g hg1 hl hv0=>(hso g (by omega)).trans (hk g hl fun e=>own_ne h4.oi h4.Qy g e hv0)
 ·intro q hq e
  rcases hv with e2|e2
  ·exact h.ne q hq (e2▸e)
  ·rw[e2] at e
   have:=AAm e;have:=(l1 q hq).2
   omega
 ·intro y hy
  have hy':Off (Rb p vk vi vr) w4 fun u=>Az u y.v y.A1 y.A2 y.A3:=by
   rw[<-AA0] at hy
   rcases AAo.1 hy with k|k
   ·exact h4.off y k
   ·obtain rfl:y=x:=by simpa using k
    exact hx.low hb4
  refine hy'.grow (fun q hq hs=>?_) (fun q hq hn=>?_) (by simp;omega)
  ·rcases hs with e|e|e|e
   ·exact .inl e
   ·exact .inr (.inl e)
   ·rcases hv with e2|e2
    ·exact .inr (.inr (.inl (e2▸e)))
    ·rw[e2] at e
     have:=AAm e
     omega
   ·exact .inr (.inr (.inr e))
  ·exact (hso q fun e=>hn (.inl (Nat.le_of_eq e))).trans (hk q hq fun e=>hn (.inr (.inr (.inl e))))
theorem Gx.key (h:Gx p w kd bo it st di vk vi vr K I R) {x:Au} (hx:Off (Rb p vk vi vr) w fun u=>Az u x.v x.A1 x.A2 x.A3) (hb4:Below w.heap.size w w4) (ho:w8.ownsRow (p+1) 28 8 v8 (K.length+1) (K.flatMap Au.cells++x.cells)) (hg:w4.grownBy w8 vk.ownBlock) (hv:v8.ownBlock=vk.ownBlock\/v8.ownBlock=some w4.heap.size):
  Gx p (w8.setCell ⟨p,5,none⟩ v8) kd bo it st di v8 vi vr (K++[x]) I R/\Below p w (w8.setCell ⟨p,5,none⟩ v8)/\∀q,q≠p->vk.ownBlock≠some q->q<w.heap.size->(w8.setCell ⟨p,5,none⟩ v8).heap[q]? = w.heap[q]? := by
 have h4:=h.below hb4;obtain ⟨l1,l2,l3⟩:=Fw h4;have hk:∀q,q<w4.heap.size->vk.ownBlock≠some q->w8.heap[q]? = w4.heap[q]? := fun q hq hne=>yA hg hq fun k hk e=>hne (by rw[hk,e])
 have Wz:=(hk p h4.lt fun e=>by have:=l1 p e;omega).trans h4.blk
 have hso:∀q,q≠p->(w8.setCell ⟨p,5,none⟩ v8).heap[q]? = w8.heap[q]? := fun q hq=>AAF _ _ _ _ (by simpa using hq)
 have hz8:=hg.size;refine ⟨⟨?_,?_,?_,?_,?_,?_,h.str,h.raw⟩,((((hb4.mono (AAe h.lt)).grown hg (AAe h4.lt) fun q hq=>by have:=l1 q hq;omega)).setCell (p:=⟨p,5,none⟩) (AAH _) v8),fun q h1 h2 h3=>((hso q h1).trans (hk q (by have:=hb4.size;omega) h2)).trans (hb4.block q h3)⟩
 ·unfold Ht at Wz
  rw[AAW _ _ 5 _ _ v8 Wz];rfl
 ·have ho':Cw w8 (p+1) v8 (K++[x]):=Ad.snoc ho
  exact ho'.keep fun g hg1 _ _=>hso g (by omega)
 ·exact h4.oi.keep fun g hg1 hl hv0=>(hso g (by omega)).trans (hk g hl fun e=>h.ne g e hv0)
 ·exact h4.Qy.keep fun g hg1 hl hv0=>(hso g (by omega)).trans (hk g hl fun e=>own_ne h4.ok h4.Qy g e hv0)
 ·intro q hq e
  rcases hv with e2|e2
  ·exact h.ne q (e2▸hq) e
  ·rw[e2] at hq
   have:=AAm hq;have:=(l2 q e).2
   omega
 ·intro y hy
  have hy':Off (Rb p vk vi vr) w4 fun u=>Az u y.v y.A1 y.A2 y.A3:=by
   rcases AAo.1 hy with k|k
   ·rcases AAo.1 k with k|k
    ·exact h4.off y (AAz _ k)
    ·obtain rfl:y=x:=by simpa using k
     exact hx.low hb4
   ·exact h4.off y (ABM _ k)
  refine hy'.grow (fun q hq hs=>?_) (fun q hq hn=>?_) (by simp;omega)
  ·rcases hs with e|e|e|e
   ·exact .inl e
   ·rcases hv with e2|e2
    ·exact .inr (.inl (e2▸e))
    ·rw[e2] at e
     have:=AAm e
     omega
   ·exact .inr (.inr (.inl e))
   ·exact .inr (.inr (.inr e))
  ·exact (hso q fun e=>hn (.inl (Nat.le_of_eq e))).trans (hk q hq fun e=>hn (.inr (.inl e)))
theorem Gx.Ux (h:Gx p w kd bo it st di vk vi vr K I R) {x:Ak} (hx:Db x.data) (hb4:Below w.heap.size w w4) (ho:w8.ownsRow (p+1) 97 2 v8 (R.length+1) (R.flatMap encR++encR x)) (hg:w4.grownBy w8 vr.ownBlock) (hv:v8.ownBlock=vr.ownBlock\/v8.ownBlock=some w4.heap.size):
  Gx p (w8.setCell ⟨p,7,none⟩ v8) kd bo it st di vk vi v8 K I (R++[x])/\Below p w (w8.setCell ⟨p,7,none⟩ v8)/\∀q,q≠p->vr.ownBlock≠some q->q<w.heap.size->(w8.setCell ⟨p,7,none⟩ v8).heap[q]? = w.heap[q]? := by
 have h4:=h.below hb4;obtain ⟨l1,l2,l3⟩:=Fw h4;have hk:∀q,q<w4.heap.size->vr.ownBlock≠some q->w8.heap[q]? = w4.heap[q]? := fun q hq hne=>yA hg hq fun k hk e=>hne (by rw[hk,e])
 have Wz:=(hk p h4.lt fun e=>by have:=l3 p e;omega).trans h4.blk
 have hso:∀q,q≠p->(w8.setCell ⟨p,7,none⟩ v8).heap[q]? = w8.heap[q]? := fun q hq=>AAF _ _ _ _ (by simpa using hq)
 have hz8:=hg.size;refine ⟨⟨?_,?_,?_,?_,h.ne,?_,h.str,?_⟩,((((hb4.mono (AAe h.lt)).grown hg (AAe h4.lt) fun q hq=>by have:=l3 q hq;omega)).setCell (p:=⟨p,7,none⟩) (AAH _) v8),fun q h1 h2 h3=>((hso q h1).trans (hk q (by have:=hb4.size;omega) h2)).trans (hb4.block q h3)⟩
 ·unfold Ht at Wz
  rw[AAW _ _ 7 _ _ v8 Wz];rfl
 ·exact h4.ok.keep fun g hg1 hl hv0=>(hso g (by omega)).trans (hk g hl (own_ne h4.ok h4.Qy g hv0))
 ·exact h4.oi.keep fun g hg1 hl hv0=>(hso g (by omega)).trans (hk g hl (own_ne h4.oi h4.Qy g hv0))
 ·have ho':lJ w8 (p+1) v8 (R++[x]):=Ad.snoc ho
  exact ho'.keep fun g hg1 _ _=>hso g (by omega)
 ·intro y hy
  refine (h4.off y hy).grow (fun q hq hs=>?_) (fun q hq hn=>?_) (by simp;omega)
  ·rcases hs with e|e|e|e
   ·exact .inl e
   ·exact .inr (.inl e)
   ·exact .inr (.inr (.inl e))
   ·rcases hv with e2|e2
    ·exact .inr (.inr (.inr (e2▸e)))
    ·rw[e2] at e
     have:=AAm e
     omega
  ·exact (hso q fun e=>hn (.inl (Nat.le_of_eq e))).trans (hk q hq fun e=>hn (.inr (.inr (.inr e))))
 ·intro y hy
  rcases AAo.1 hy with k|k
  ·exact h.raw y k
  ·obtain rfl:y=x:=by simpa using k
   exact hx
theorem SB {w:World} {A:zo} {L:List Au} (h:Aa 8 120 (fun x cs=>Val.At w x.v cs) w A L):Co w A (L.map (·.v)):=by
 refine ⟨by rw[AAZ];exact h.1,fun hn=>?_⟩
 obtain ⟨b,o,e,hi⟩:=h.2 (fun e=>hn (by rw[e];rfl))
 refine ⟨b,o,e,fun i x hx=>?_⟩
 rw[List.getElem?_map] at hx;obtain ⟨y,hy,rfl⟩:=AAs.1 hx;exact hi i y hy
theorem Gx.fin (h:Gx p w kd bo it st di vk vi vr K I R) (hK:DU 120 K.length) (hI:DU 120 I.length) (hR:DU 24 R.length):∃A1 c1 A2 c2 A3 c3,vk = .slice A1 K.length c1/\vi = .slice A2 I.length c2/\vr = .slice A3 R.length c3 /\
  Off (fun q=>q<=p) w fun u=>Az u (.mk kd bo it st di (K.map (·.v)) (I.map (·.v)) R) A1 A2 A3:=by
 obtain ⟨A1,c1,rfl,_⟩:=h.ok.reads;obtain ⟨A2,c2,rfl,_⟩:=h.oi.reads;obtain ⟨A3,c3,rfl,_⟩:=h.Qy.reads;refine ⟨A1,c1,A2,c2,A3,c3,rfl,rfl,rfl,fun u hu=>?_⟩
 have hk:∀q,p+1<=q->q<w.heap.size->u.heap[q]? = w.heap[q]? := fun q hq hl=>hu q (by omega) hl
 have hv:∀y∈K++I,Az u y.v y.A1 y.A2 y.A3:=fun y hy=>h.off y hy u fun q hq hl=>hu q (fun e=>hq (.inl e)) hl
 obtain ⟨B1,d1,e1,g1⟩:=(h.ok.keep fun g hg hl _=>hk g hg hl).rows (bytes:=120) (at_:=fun x cs=>Val.At u x.v cs) (fun _=>rfl) hK fun y hy=>Val.EF.2 ⟨_,_,_,_,_,_,rfl,hv y (AAz _ hy)⟩
 obtain ⟨B2,d2,e2,g2⟩:=(h.oi.keep fun g hg hl _=>hk g hg hl).rows (bytes:=120) (at_:=fun x cs=>Val.At u x.v cs) (fun _=>rfl) hI fun y hy=>Val.EF.2 ⟨_,_,_,_,_,_,rfl,hv y (ABM _ hy)⟩
 obtain ⟨B3,d3,e3,g3⟩:=(h.Qy.keep fun g hg hl _=>hk g hg hl).rows (bytes:=24) (at_:=Ak.At) (fun _=>rfl) hR fun y hy=>⟨h.raw y hy,rfl⟩
 injection e1 with e1 _ _
 injection e2 with e2 _ _
 injection e3 with e3 _ _
 subst e1 e2 e3;exact ⟨h.str,SB g1,SB g2,g3⟩
end
def MF {α:Type} (part:List AQ->Bool->PR α) (R:PR (List α)) (acc:List α) (r:List AQ) (k:Bool):Prop:=R=(Uo part r k).bind fun q => .ok (acc++q.1,q.2)
section
variable {α:Type} {part:List AQ->Bool->PR α} {R:PR (List α)} {acc:List α} {r r':List AQ} {k k':Bool} {x:α} {e:Int}
theorem MF.start (part:List AQ->Bool->PR α) (r:List AQ) (k:Bool):MF part (Uo part r k) [] r k:=by
 unfold MF
 cases Uo part r k with
 | error e=>rfl
 | ok q=>rfl
theorem MF.bad (hd:Dec part) (h:MF part R acc r k) (hp:part r k = .error e):R = .error e:=by
 unfold MF at h;rw[Qm hd,hp] at h;exact h
theorem MF.comma (hd:Dec part) (h:MF part R acc r k) (hp:part r k = .ok (x,r',k')) (hc:Dj ⟨#[44]⟩ r'=true):MF part R (acc++[x]) r'.tail k':=by
 unfold MF at h ⊢;rw[Qm hd,hp,zM,AAG hc] at h;rw[h]
 cases Uo part r'.tail k' with
 | error e=>rfl
 | ok q=>simp only[zM,AA0,List.singleton_append]
theorem MF.fin (hd:Dec part) (h:MF part R acc r k) (hp:part r k = .ok (x,r',k')) (hc:Dj ⟨#[44]⟩ r'=false):R = .ok (acc++[x],r',k'):=by
 unfold MF at h;rw[Qm hd,hp,zM,Pd (by rw[hc];simp)] at h
 exact h
end
variable {r:List AQ}
theorem oz {s s':ByteArray} (hn:s≠s') (h:Dj s r=true):Dj s' r=false:=by
 cases r with
 | nil=>rfl
 | cons t q =>
  rw[Dj,AAJ,AAd,AAd] at h;rw[Dj,h.2,AAU hn,Bool.and_false]
def X3 (r:List AQ):Except Int (List Ak×List AQ) :=
 (FY 2 r).bind fun p=>(Ee ⟨#[58]⟩ p.2).bind fun l3=>(FY 3 l3).bind fun q=>(EM false false q.2).bind fun z => .ok (⟨p.1.int,q.1.str⟩::z.1,z.2)
abbrev Jg:=PR (List Val×List Ak)
def Lc (acc:List Val) (rs:List Ak) (k:Bool) (a:Except Int (List Ak×List AQ)):Jg:=a.bind fun q=>(Ee ⟨#[125]⟩ q.2).bind fun l2 => .ok ((acc,rs++q.1),l2,k)
section
variable {f:Int->List AQ->Bool->PR Val} {R:Jg} {acc:List Val} {rs:List Ak} {ms:List AZ} {r r':List AQ} {k k':Bool} {x:Val} {e:Int} {y:AZ}
def LG (f:Int->List AQ->Bool->PR Val) (R:Jg) (acc:List Val) (rs:List Ak) (ms:List AZ) (r:List AQ) (k:Bool):Prop :=
 (ms=[]/\R=Lc acc rs k (X3 r))\/(ms≠[]/\rs=[]/\R=(CY f true ms r k).bind fun p=>Lc (acc++p.1) [] p.2.2 (EM false false p.2.1))
def OL (f:Int->List AQ->Bool->PR Val) (R:Jg) (acc:List Val) (rs:List Ak) (ms:List AZ) (r:List AQ) (k:Bool):Prop :=
 (ms=[]/\R=Lc acc rs k (EM false false r))\/(ms≠[]/\rs=[]/\Dj ⟨#[44]⟩ r=true/\R=(CY f false ms r k).bind fun p=>Lc (acc++p.1) [] p.2.2 (EM false false p.2.1))
theorem Uv (r:List AQ) (h:Dj ⟨#[125]⟩ r=false):EM false true r=X3 r:=by
 rw[Ip,Pd (by rw[h];simp),AAG rfl,zM]
 unfold X3;simp only[kF,Bool.false_eq_true,false_and,if_false]
theorem Uw (r:List AQ) (h:Dj ⟨#[44]⟩ r=true):EM false false r=X3 r.tail:=by
 rw[Ip,Pd (by rw[oz (by decide) h];simp),Pd (by simp)]
 unfold Ee X3;rw[AAG h,zM];simp only[kF,Bool.false_eq_true,false_and,if_false]
 rfl
theorem aT (r:List AQ) (h:Dj ⟨#[125]⟩ r=true):EM false false r = .ok ([],r):=by rw[Ip,AAG h]
theorem jB (r:List AQ) (h:Dj ⟨#[125]⟩ r=false) (h2:Dj ⟨#[44]⟩ r=false):EM false false r = .error 2:=by
 rw[Ip,Pd (by rw[h];simp),Pd (by simp)]
 unfold Ee;rw[Pd (by rw[h2];simp),K6]
def Qu (f:Int->List AQ->Bool->PR Val) (ms:List AZ) (r:List AQ) (k:Bool):Jg :=
 (CY f true ms r k).bind fun p=>Lc p.1 [] p.2.2 (EM false ms.isEmpty p.2.1)
theorem iy (x:Ae) (l:List AQ) (k:Bool):Kj false f x l k=(Ee ⟨#[123]⟩ l).bind fun l1=>Qu f x.AA l1 k:=rfl
theorem LG.start (hc:Dj ⟨#[125]⟩ r=false):LG f (Qu f ms r k) [] [] ms r k:=by
 cases ms with
 | nil =>
  refine .inl ⟨rfl,?_⟩;unfold Qu;rw[CY,zM];simp only[List.isEmpty_nil];rw[Uv r hc]
 | cons y ms=>exact .inr ⟨by simp,rfl,rfl⟩
theorem Xz (hc:Dj ⟨#[125]⟩ r=true):Qu f [] r k = .ok (([],[]),r.tail,k):=by
 unfold Qu;rw[CY,zM];simp only[List.isEmpty_nil];rw[Ip,AAG hc];unfold Lc;rw[zM];unfold Ee;simp only;rw[AAG hc,zM]
 rfl
theorem nV {n:Int} {s:ByteArray} (h:Dj s r=true) (hn:n≠4):FY n r = .error 2:=by
 obtain ⟨t,q,rfl,h1,_⟩:=I6 h;rw[FY,Pd (by omega)]
theorem aR (hm:ms≠[]) (hc:Dj ⟨#[125]⟩ r=true):Qu f ms r k = .error 2:=by
 cases ms with
 | nil=>exact absurd rfl hm
 | cons y ms =>
  unfold Qu;rw[CY,AAG rfl,zM,nV hc (by decide)]
  rfl
theorem OL.comma (h:OL f R acc rs ms r k) (hc:Dj ⟨#[44]⟩ r=true):LG f R acc rs ms r.tail k:=by
 rcases h with ⟨h1,h2⟩|⟨h1,h2,h3,h4⟩
 ·exact .inl ⟨h1,by rw[h2,Uw r hc]⟩
 ·refine .inr ⟨h1,h2,h4.trans ?_⟩
  cases ms with
  | nil=>exact absurd rfl h1
  | cons y ms =>
   rw[CY,CY,Pd (by simp),AAG rfl]
   unfold Ee;rw[AAG hc]
theorem OL.fin (h:OL f R acc rs ms r k) (hc:Dj ⟨#[44]⟩ r=false) (hb:Dj ⟨#[125]⟩ r=true):R = .ok ((acc,rs),r.tail,k):=by
 rcases h with ⟨_,h2⟩|⟨_,_,h3,_⟩
 ·rw[h2,aT r hb]
  unfold Lc;rw[zM];unfold Ee;simp only;rw[AAG hb,zM,List.append_nil]
 ·rw[hc] at h3;cases h3
theorem OL.bad (h:OL f R acc rs ms r k) (hc:Dj ⟨#[44]⟩ r=false) (hb:Dj ⟨#[125]⟩ r=false):R = .error 2:=by
 rcases h with ⟨_,h2⟩|⟨_,_,h3,_⟩
 ·rw[h2,jB r hb hc];rfl
 ·rw[hc] at h3;cases h3
theorem LG.name (h:LG f R acc rs (y::ms) r k):rs=[]/\R=(FY 1 r).bind fun p=>if p.1.text=y.name then (Ee ⟨#[58]⟩ p.2).bind fun l2=>(f y.type l2 k).bind fun q=>(CY f false ms q.2.1 q.2.2).bind fun z=>Lc (acc++(q.1::z.1)) [] z.2.2 (EM false false z.2.1) else .error 4:=by
 rcases h with ⟨h1,_⟩|⟨_,h2,h3⟩
 ·cases h1
 ·refine ⟨h2,h3.trans ?_⟩
  rw[CY,AAG rfl,zM]
  cases FY 1 r with
  | error e=>rfl
  | ok p =>
   rw[zM,zM]
   split
   ·cases Ee ⟨#[58]⟩ p.2 with
    | error e=>rfl
    | ok l2 =>
     rw[zM,zM]
     cases f y.type l2 k with
     | error e=>rfl
     | ok q =>
      rw[zM,zM]
      cases CY f false ms q.2.1 q.2.2 with
      | error e=>rfl
      | ok z=>rfl
   ·rfl
theorem jA (hr:rs=[]) (h:R=(CY f false ms r k).bind fun z=>Lc (acc++z.1) [] z.2.2 (EM false false z.2.1)) (hc:ms=[]\/Dj ⟨#[44]⟩ r=true):OL f R acc rs ms r k:=by
 by_cases hm:ms=[]
 ·refine .inl ⟨hm,?_⟩
  rw[h,hm,CY,zM,hr];simp only[List.append_nil]
 ·exact .inr ⟨hm,hr,hc.resolve_left hm,h⟩
theorem oG (h:R=(CY f false ms r k).bind fun z=>Lc (acc++z.1) [] z.2.2 (EM false false z.2.1)) (hm:ms≠[]) (hc:Dj ⟨#[44]⟩ r=false):R = .error 2:=by
 cases ms with
 | nil=>exact absurd rfl hm
 | cons y ms =>
  rw[h,CY,Pd (by simp)]
  unfold Ee;rw[Pd (by rw[hc];simp)]
  rfl
theorem LG.raw (h:LG f R acc rs [] r k):R=(FY 2 r).bind fun p=>(Ee ⟨#[58]⟩ p.2).bind fun l3=>(FY 3 l3).bind fun q=>Lc acc (rs++[⟨p.1.int,q.1.str⟩]) k (EM false false q.2):=by
 rcases h with ⟨_,h2⟩|⟨h1,_⟩
 ·rw[h2]
  unfold X3
  cases FY 2 r with
  | error e=>rfl
  | ok p =>
   rw[zM,zM]
   cases Ee ⟨#[58]⟩ p.2 with
   | error e=>rfl
   | ok l3 =>
    rw[zM,zM]
    cases FY 3 l3 with
    | error e=>rfl
    | ok q =>
     rw[zM,zM]
     cases EM false false q.2 with
     | error e=>rfl
     | ok z =>
      unfold Lc;simp only[zM,AA0,List.singleton_append]
 ·exact absurd rfl h1
end
variable {k:Bool} {e:Int} {C:FK} {w:World}
theorem zX (T:ByteArray) (h:CX C w r k e):
  Calls Tryz.prog 160 #[.pointer (some ⟨C.b,0,none⟩),.string T] w fun x w'=>x = .returned (.bool (Dj T r))/\Below w.heap.size w w':=by
 obtain ⟨⟨c0,c1,c2,c3,c4⟩,hf⟩:=h.cells;have XA:=h.ok.len
 cases r with
 | nil =>
  have z1:decide (((C.l.length - ([]:List AQ).length:Nat):Int)<(C.l.length:Int))=false:=by simp
  clear h hf
  go_enter Tryz.func160,Tryz.ntmps160
  go_wp2_with fail
  go_quiet (fail)
  go_wp2
  go_ret
  exact ⟨rfl,zC (Pe _ _) _⟩
 | cons t q =>
  have hgi:=h.uV;obtain ⟨bb,o,hA,_,t0,t1,t2,t3,t4⟩:=h.iP hgi;have hi:=(AAi.1 hgi).1;rw[hA] at c1;have hq:Dj T (t::q)=(decide (t.kind=4)&&decide (t.text=T)):=rfl;rw[hq];clear h hf hq hgi;generalize C.l.length - (t::q).length=i at *;have z1:decide ((i:Int)<(C.l.length:Int))=true:=by simp;omega
  have z2:(0:Int)<=(i:Int):=by omega
  have z3:(i:Int)<(C.l.length:Int):=by omega
  have HE:=zh (bytes_beq t.text T)
  by_cases hk:t.kind=4
  ·have q1:(t.kind==4)=true:=by simp[hk]
   rw[hk,<-bytes_beq];clear hk HE
   go_enter Tryz.func160,Tryz.ntmps160
   go_wp2_with fail
   go_quiet (fail)
   go_wp2
   go_ret
   exact ⟨rfl,zC (Pe _ _) _⟩
  ·have q1:(t.kind==4)=false:=by simp[hk]
   rw[AAU hk,Bool.false_and];clear hk HE
   go_enter Tryz.func160,Tryz.ntmps160
   go_wp2_with fail
   go_quiet (fail)
   go_wp2
   go_ret
   exact ⟨rfl,zC (Pe _ _) _⟩
theorem CX.tT {t:AQ} {q:List AQ} (h:CX C w (t::q) k e):∃i:Nat,i+1<=1000000/\w.cell? ⟨C.b,2,none⟩=some (.int .i64 (i:Int))/\w.frozen? ⟨C.b,2,none⟩=false/\C.l[i]? = some t /\
  Hid ((∀w1 e1 k1,CX C w1 (t::q) k1 e1->CX C (w1.setCell ⟨C.b,2,none⟩ (.int .i64 ((i:Int)+1))) q k1 e1)/\(∀w1 e1 k1,CX C w1 q k1 e1->w1.cell? ⟨C.b,2,none⟩=some (.int .i64 ((i:Int)+1)))):=by
 obtain ⟨⟨c0,c1,c2,c3,c4⟩,hf⟩:=h.cells;have ht:=h.tail;have hs:=h.WN.length_le;have hl:=h.ok.len;have hl1:(t::q).length=q.length+1:=rfl;refine ⟨C.l.length - (t::q).length,by omega,c2,hf 2,h.uV,fun w1 e1 k1 h1=>h1.setAt ht.1 ht.2,fun w1 e1 k1 h1=>?_⟩
 rw[h1.cells.1.2.2.1,ht.2]
def gH (e x:Int):Int:=if e=0 then x else e
theorem Ce (x:Int) (h:CX C w r k e):
  Calls Tryz.prog 78 #[.pointer (some ⟨C.b,0,none⟩),.int .i64 x] w fun y w'=>y = .returned (.tuple #[])/\CX C w' r k (gH e x)/\Ay C.b w w':=by
 have HS:=zh h;obtain ⟨⟨c0,c1,c2,c3,c4⟩,hf⟩:=h.cells;have f4:=hf 4;clear h hf
 by_cases he:e=0
 ·have q1:(e==0)=true:=by simp[he]
  have HR:Hid (gH e x=x):=AAG he;clear he
  go_enter Tryz.func78,Tryz.ntmps78
  go_wp2
  refine bodyPost_end (results_none Tryz.results78 _ _ _) rfl ⟨rfl,?_,(Ay.refl _ _).set _ _⟩;rw[HR.out];exact HS.out.yR x
 ·have q1:(e==0)=false:=by simp[he]
  have HR:Hid (gH e x=e):=Pd he;clear he
  go_enter Tryz.func78,Tryz.ntmps78
  go_wp2
  refine bodyPost_end (results_none Tryz.results78 _ _ _) rfl ⟨rfl,?_,Ay.refl _ _⟩;rw[HR.out];exact HS.out
def um (C:FK) (T:ByteArray) (w:World) (r:List AQ) (k:Bool) (e:Int) (y:Ending) (w':World):Prop:=y = .returned (.tuple #[])/\Ay C.b w w'/\((Dj T r=true/\CX C w' r.tail k e)\/(Dj T r=false/\CX C w' r k (gH e 2)))
theorem FV (T:ByteArray) (h:CX C w r k e):
  Calls Tryz.prog 126 #[.pointer (some ⟨C.b,0,none⟩),.string T] w (um C T w r k e):=by
 have HS:=zh h;clear h
 cases hi:Dj T r with
 | false =>
  have HI:=zh hi;clear hi
  go_enter Tryz.func126,Tryz.ntmps126
  go_wp2_with (go_at_call 160;refine (zX T HS).mono ?_;rintro x w1 ⟨rfl,hb1⟩;rw[HI.out];have HB1:=zh hb1;clear hb1)
  refine (Ce 2 (HS.out.below HB1)).mono ?_;rintro x w2 ⟨rfl,h1,h2⟩;have H1:=zh h1;have H2:=zh h2;clear h1 h2;go_wp2;refine bodyPost_ret (results_none Tryz.results126 _ _ _) rfl ⟨rfl,(HS.out.Cn HB1).trans H2,.inr ⟨HI.out,H1.out⟩⟩
 | true =>
  have HI:=zh hi;obtain ⟨t,q,rfl,_,_⟩:=I6 hi;clear hi
  go_enter Tryz.func126,Tryz.ntmps126
  go_wp2_with (go_at_call 160;refine (zX T HS).mono ?_;rintro x w1 ⟨rfl,hb1⟩;rw[HI.out];have HB1:=zh hb1;have KP:=zh (HS.out.below hb1);obtain ⟨i,hi,c2,f2,hi2,HN⟩:=KP.out.tT;clear hb1)
  refine bodyPost_end (results_none Tryz.results126 _ _ _) rfl ⟨rfl,(HS.out.Cn HB1).trans ((Ay.refl _ _).set _ _),.inl ⟨HI.out,?_⟩⟩;exact HN.out.1 _ _ _ KP
def Ju:AQ:=⟨0,⟨#[]⟩,0,⟨#[]⟩,0⟩
def AQ.v (t:AQ):Value := .agg #[.int .i64 t.kind,.string t.text,.int .i64 t.int,.string t.str,.int .i64 t.line]
def eG (C:FK) (n:Int) (w:World) (r:List AQ) (k:Bool) (e:Int) (y:Ending) (w':World):Prop :=
 Ay C.b w w'/\((∃t q,FY n r = .ok (t,q)/\y = .returned t.v/\CX C w' q k e/\Db t.text/\Db t.str)\/(FY n r = .error 2/\y = .returned Ju.v/\CX C w' r k (gH e 2)))
variable {n:Int}
theorem sP (h:¬ ∃t q,r=t::q/\t.kind=n):FY n r = .error 2:=by
 cases r with
 | nil=>rfl
 | cons t q=>rw[FY,Pd fun e=>h ⟨t,q,rfl,e⟩]
variable {B:Nat} {w':World}
theorem Ay.two {b:Nat} (h:Ay b w w') (j:Nat) (u:Value) (hB:w.heap.size<=B) (hb:b<w.heap.size):Ay b w (w'.setCell ⟨B,j,none⟩ u) :=
 ⟨h.Bb.setCell (p:=⟨B,j,none⟩) (by simp only;omega) u,fun q hq hl=>(AAF _ _ _ _ (by simp only;omega)).trans (h.FN q hq hl)⟩
abbrev q5 (w:World) (p:Nat) (v0 v1 v2 v3 v4:Value):World:=((((w.setCell ⟨p,0,none⟩ v0).setCell ⟨p,1,none⟩ v1).setCell ⟨p,2,none⟩ v2).setCell ⟨p,3,none⟩ v3).setCell ⟨p,4,none⟩ v4
theorem pV {p:Nat} {a0 a1 a2 a3 a4:Value} {T:TypeId} (h:w.heap[p]? = some (.cells #[a0,a1,a2,a3,a4] T)) (v0 v1 v2 v3 v4:Value):(q5 w p v0 v1 v2 v3 v4).heap[p]? = some (.cells #[v0,v1,v2,v3,v4] T):=by
 have h0:=AAW _ _ 0 _ _ v0 h;have h1:=AAW _ _ 1 _ _ v1 h0;have h2:=AAW _ _ 2 _ _ v2 h1;have h3:=AAW _ _ 3 _ _ v3 h2;exact AAW _ _ 4 _ _ v4 h3
theorem Ay.five {b:Nat} (h:Ay b w w') (v0 v1 v2 v3 v4:Value) (hB:w.heap.size<=B) (hb:b<w.heap.size):Ay b w (q5 w' B v0 v1 v2 v3 v4) :=
 ((((h.two 0 v0 hB hb).two 1 v1 hB hb).two 2 v2 hB hb).two 3 v3 hB hb).two 4 v4 hB hb
theorem CX.Om (h:CX C w r k e) (hB:C.b<B) (v0 v1 v2 v3 v4:Value):CX C (q5 w B v0 v1 v2 v3 v4) r k e:=by
 have h1:∀w j u,CX C w r k e->CX C (w.setCell ⟨B,j,none⟩ u) r k e:=fun w j u h=>⟨h.ok,(AAF _ _ _ _ (by simp only;omega)).trans h.blk,h.WN,h.up.setCell (p:=⟨B,j,none⟩) (by have:=h.ok.ge;simp only;omega) _⟩
 exact h1 _ _ _ (h1 _ _ _ (h1 _ _ _ (h1 _ _ _ (h1 _ _ _ h))))
theorem DK {p:Nat} {a0 a1 a2 a3 a4:Value} {T:TypeId} (h:w.heap[p]? = some (.cells #[a0,a1,a2,a3,a4] T)):(w.cell? ⟨p,0,none⟩=some a0/\w.cell? ⟨p,1,none⟩=some a1/\w.cell? ⟨p,2,none⟩=some a2/\w.cell? ⟨p,3,none⟩=some a3/\w.cell? ⟨p,4,none⟩=some a4)/\(w.frozen? ⟨p,0,none⟩=false/\w.frozen? ⟨p,1,none⟩=false/\w.frozen? ⟨p,2,none⟩=false/\w.frozen? ⟨p,3,none⟩=false/\w.frozen? ⟨p,4,none⟩=false):=by
 refine ⟨⟨?_,?_,?_,?_,?_⟩,AAL _ _ _ _ _ h,AAL _ _ _ _ _ h,AAL _ _ _ _ _ h,AAL _ _ _ _ _ h,AAL _ _ _ _ _ h⟩ <;> (rw[AAE _ _ _ _ _ _ h];rfl)
abbrev sQ (t:AQ):Obj := .cells #[.int .i64 t.kind,.string t.text,.int .i64 t.int,.string t.str,.int .i64 t.line] 59
theorem Fp (n:Int) (h:CX C w r k e):
  Calls Tryz.prog 122 #[.pointer (some ⟨C.b,0,none⟩),.int .i64 n] w (eG C n w r k e):=by
 have HB0:=zh (zD w (sQ Ju));have HX0:=zh (AAC w (sQ Ju));have HW:=zh (h.Cn HB0);have HS:=zh (h.below HB0);have GV:=zh h.lt;clear h
 go_enter Tryz.func122,Tryz.ntmps122
 go_upto_region 1 with fail
 unfold sQ Ju at HB0 HX0 HW HS;simp only at HB0 HX0 HW HS;generalize w.alloc _=W1 at *
 by_cases hk:∃t q,r=t::q/\t.kind=n
 ·obtain ⟨t,q,rfl,hk⟩:=hk
  have HK:Hid (FY n (t::q) = .ok (t,q)):=by show _=_;rw[FY,AAG hk]
  obtain ⟨⟨c0,c1,c2',c3,c4⟩,hf⟩:=HS.out.cells;obtain ⟨i,hi,c2,f2,hgi,HN⟩:=HS.out.tT;obtain ⟨bb,o,hA,hso,t0,t1,t2,t3,t4⟩:=HS.out.iP hgi;have hi2:=(AAi.1 hgi).1;have qN:=zh hso;have HGI:=zh hgi;have HC:=zh (show CX C W1 (t::q) k e from HS.out);rw[hA] at c1;have z1:decide ((i:Int) >= (C.l.length:Int))=false:=by simp;omega
  have z2:(0:Int)<=(i:Int):=by omega
  have z3:(i:Int)<(C.l.length:Int):=by omega
  have z4:(t.kind != n)=false:=by simp[hk]
  clear hk hso hf c2' hgi
  go_quiet (fail)
  go_upto_region 5 with fail
  have r9:=zh (HN.out.1 _ _ _ (HC.out.below (zC (Pe _ _) nq)));have Ap:=zh ((HW.out.below (zC (Pe W1.heap.size W1) nq) GV).set 2 (.int .i64 ((i:Int)+1)))
  have Bg:Hid (((W1.drewN nq).setCell ⟨C.b,2,none⟩ (.int .i64 ((i:Int)+1))).heap[w.heap.size]? = some (.cells #[.int .i64 0,.string ⟨#[]⟩,.int .i64 0,.string ⟨#[]⟩,.int .i64 0] 59)):=(AAF _ _ _ _ (by have:=GV.out;simp only;omega)).trans HX0
  clear t0 t1 t2 t3 t4 c0 c1 c2 c3 c4 f2;generalize (W1.drewN nq).setCell ⟨C.b,2,none⟩ (.int .i64 ((i:Int)+1))=W5 at *;have c2:=HN.out.2 _ _ _ r9;obtain ⟨⟨c0,c1,_,c3,c4⟩,_⟩:=r9.out.cells;obtain ⟨bb',o',hA',_,t0,t1,t2,t3,t4⟩:=r9.out.iP HGI;rw[hA] at hA' c1
  injection hA' with hA'
  injection hA' with g1 g2
  subst g1 g2;obtain ⟨⟨x0,x1,x2,x3,x4⟩,y0,y1,y2,y3,y4⟩:=DK Bg
  go_region
  clear t0 t1 t2 t3 t4 x0 x1 x2 x3 x4 y0 y1 y2 y3 y4 c0 c1 c2 c3 c4;have Ox:=zh (pV Bg (.int .i64 t.kind) (.string t.text) (.int .i64 t.int) (.string t.str) (.int .i64 t.line));have BN:=zh (Ap.out.five (.int .i64 t.kind) (.string t.text) (.int .i64 t.int) (.string t.str) (.int .i64 t.line) (AAH _) GV)
  have xR:=zh (r9.out.Om GV (.int .i64 t.kind) (.string t.text) (.int .i64 t.int) (.string t.str) (.int .i64 t.line));unfold q5 at Ox BN xR;generalize World.setCell _ _ _=W6 at *;have Gd:=zh (BR Ox (zC (Pe _ _) 1));have qP:=zh (xR.out.below (zC (Pe _ _) 1))
  have CS:=zh (BN.out.below (zC (Pe _ _) 1) GV)
  change Hid (W6.drew.heap[w.heap.size]? = _) at Gd
  change Hid (CX C W6.drew _ _ _) at qP
  change Hid (Ay C.b w W6.drew) at CS
  generalize W6.drew=W7 at *;obtain ⟨⟨t0,t1,t2,t3,t4⟩,_⟩:=DK Gd;go_wp2;refine bodyPost_ret (v:=t.v) (by simp[results,Tryz.results122,go_sem,t0,t1,t2,t3,t4,AQ.v]) rfl ?_
  exact ⟨CS.out,.inl ⟨t,q,HK.out,rfl,qP.out,qN.out⟩⟩
 ·have HK:=zh (sP hk)
  have Hy:Hid (∀W2 W3:World,CX C W2 r k (gH e 2)->Ay C.b w W2->W3=q5 W2 w.heap.size (.int .i64 0) (.string ⟨#[]⟩) (.int .i64 0) (.string ⟨#[]⟩) (.int .i64 0)->eG C n w r k e (.returned Ju.v) W3):=fun W2 W3 h1 h2 e3=>by
   subst e3;exact ⟨h2.five _ _ _ _ _ (AAH _) GV,.inr ⟨HK.out,rfl,h1.Om GV _ _ _ _ _⟩⟩
  have vv:Hid (∀W2:World,Ay C.b W1 W2->W2.heap[w.heap.size]? = some (.cells #[.int .i64 0,.string ⟨#[]⟩,.int .i64 0,.string ⟨#[]⟩,.int .i64 0] 59)):=fun W2 h=>(h.FN _ (by have:=GV.out;omega) (zg.1 HX0).1).trans HX0
  obtain ⟨⟨c0,c1,c2,c3,c4⟩,hf⟩:=HS.out.cells
  cases r with
  | nil =>
   have z1:decide (((C.l.length - ([]:List AQ).length:Nat):Int) >= (C.l.length:Int))=true:=by simp
   clear hk hf
   go_quiet (fail)
   go_wp2_with (go_at_call 78;refine (Ce 2 (HS.out.below (zC (Pe _ _) nq))).mono ?_;rintro x w2 ⟨rfl,h1,h2⟩;have H1:=zh h1;have Gg:=zh (vv.out _ ((Ay.of (zC (Pe _ _) nq) (by have:=GV.out;have:=HB0.out.size;omega)).trans h2));have H2:=zh ((HW.out.below (zC (Pe W1.heap.size W1) nq) GV).trans h2);clear h1 h2;obtain ⟨⟨x0,x1,x2,x3,x4⟩,y0,y1,y2,y3,y4⟩:=DK Gg)
   have MJ:=zh (pV Gg (.int .i64 0) (.string ⟨#[]⟩) (.int .i64 0) (.string ⟨#[]⟩) (.int .i64 0));have wJ:=zh (Hy.out w2 _ H1 H2 rfl);unfold q5 at MJ wJ;generalize World.setCell _ _ _=W3 at *;obtain ⟨⟨t0,t1,t2,t3,t4⟩,_⟩:=DK MJ
   refine bodyPost_ret (v:=Ju.v) (by simp[results,Tryz.results122,go_sem,t0,t1,t2,t3,t4,AQ.v,Ju]) rfl wJ
  | cons t q =>
   obtain ⟨i,hi,c2',f2,hgi,HN⟩:=HS.out.tT;obtain ⟨bb,o,hA,hso,t0,t1,t2,t3,t4⟩:=HS.out.iP hgi;have hi2:=(AAi.1 hgi).1;rw[hA] at c1;have z1:decide ((i:Int) >= (C.l.length:Int))=false:=by simp;omega
   have z2:(0:Int)<=(i:Int):=by omega
   have z3:(i:Int)<(C.l.length:Int):=by omega
   have z4:(t.kind != n)=true:=by simp only[bne_iff_ne,ne_eq];exact fun e=>hk ⟨t,q,rfl,e⟩
   clear hk hso hf c2 hgi hi f2
   go_quiet (fail)
   clear t0 t1 t2 t3 t4
   go_wp2_with (go_at_call 78;refine (Ce 2 (HS.out.below (zC (Pe _ _) nq))).mono ?_;rintro x w2 ⟨rfl,h1,h2⟩;have H1:=zh h1;have Gg:=zh (vv.out _ ((Ay.of (zC (Pe _ _) nq) (by have:=GV.out;have:=HB0.out.size;omega)).trans h2));have H2:=zh ((HW.out.below (zC (Pe W1.heap.size W1) nq) GV).trans h2);clear h1 h2;obtain ⟨⟨x0,x1,x2,x3,x4⟩,y0,y1,y2,y3,y4⟩:=DK Gg)
   have MJ:=zh (pV Gg (.int .i64 0) (.string ⟨#[]⟩) (.int .i64 0) (.string ⟨#[]⟩) (.int .i64 0));have wJ:=zh (Hy.out w2 _ H1 H2 rfl);unfold q5 at MJ wJ;generalize World.setCell _ _ _=W3 at *;obtain ⟨⟨t0,t1,t2,t3,t4⟩,_⟩:=DK MJ
   refine bodyPost_ret (v:=Ju.v) (by simp[results,Tryz.results122,go_sem,t0,t1,t2,t3,t4,AQ.v,Ju]) rfl wJ
theorem CX.zero (h:CX C w r k e):w.cell? ⟨C.b,4,none⟩=some (.int .i64 e):=h.cells.1.2.2.2.2
def yT (C:FK) (w:World):Nat:=match w.cell? ⟨C.b,2,none⟩ with
 | some (.int _ i)=>C.l.length - i.toNat
 | _=>0
theorem CX.meas (h:CX C w r k e):yT C w=r.length:=by
 unfold yT;rw[h.cells.1.2.2.1];have:=h.WN.length_le;simp only[Int.toNat_natCast]
 omega
structure mX (C:FK) (T:ByteArray) (fid:Nat) (caps:List Value) (I J F:World->List AQ->Bool->Prop) (Er:World->Int->Prop):Prop where
 iS:∀W r k,I W r k->CX C W r k 0
 jS:∀W r k,J W r k->CX C W r k 0
 part:∀W r k,I W r k->Calls Tryz.prog fid caps.toArray W fun y W'=>y = .returned (.tuple #[])/\∃r' k' e',CX C W' r' k' e'/\r'.length<=r.length/\(e'=0->J W' r' k')/\(e'≠0->Er W' e')
 comma:∀W r k W',J W r k->Dj ⟨#[44]⟩ r=true->Ay C.b W W'->CX C W' r.tail k 0->I W' r.tail k
 fin:∀W r k W',J W r k->Dj ⟨#[44]⟩ r=false->Dj T r=true->Ay C.b W W'->CX C W' r.tail k 0->F W' r.tail k
 bad:∀W r k W',J W r k->Dj ⟨#[44]⟩ r=false->Dj T r=false->Ay C.b W W'->CX C W' r k 2->Er W' 2
def vH (C:FK) (F:World->List AQ->Bool->Prop) (Er:World->Int->Prop) (y:Ending) (w':World):Prop :=
 y = .returned (.tuple #[])/\∃r' k' e',CX C w' r' k' e'/\(e'=0->F w' r' k')/\(e'≠0->Er w' e')
variable {T:ByteArray}
theorem RA {pa pb pc:Nat} {I J F:World->List AQ->Bool->Prop} {Er:World->Int->Prop} (hc:mX C T 161 [.pointer (some ⟨pa,0,none⟩),.pointer (some ⟨pb,0,none⟩),.pointer (some ⟨pc,0,none⟩)] I J F Er) (h:CX C w r k 0) (h0:Dj T r=true->∀W',Ay C.b w W'->CX C W' r.tail k 0->F W' r.tail k) (h1:Dj T r=false->∀W',Ay C.b w W'->CX C W' r k 0->I W' r k):
  Calls Tryz.prog 127 #[.pointer (some ⟨C.b,0,none⟩),.string T,.func (.func 161) #[] #[.pointer (some ⟨pa,0,none⟩),.pointer (some ⟨pb,0,none⟩),.pointer (some ⟨pc,0,none⟩)]] w (vH C F Er):=by
 have HC:=zh hc;have HS:=zh h
 cases hi:Dj T r with
 | true =>
  have HI:=zh hi;have HF:=zh (h0 hi);obtain ⟨t,q,rfl,_,_⟩:=I6 hi;clear hi h h0 h1 hc
  go_enter Tryz.func127,Tryz.ntmps127
  go_wp2_with (go_at_call 160;refine (zX T HS).mono ?_;rintro x w1 ⟨rfl,hb1⟩;rw[HI.out];have HB1:=zh hb1;have KP:=zh (HS.out.below hb1);obtain ⟨i,hi,c2,f2,hi2,HN⟩:=KP.out.tT;clear hb1)
  have HX:=zh (HN.out.1 _ _ _ KP);refine bodyPost_ret (results_none Tryz.results127 _ _ _) rfl ⟨rfl,q,k,0,HX.out,fun _=>HF.out _ ((HS.out.Cn HB1).trans ((Ay.refl _ _).set _ _)) HX,fun h=>absurd rfl h⟩
 | false =>
  have HI:=zh hi;have HF:=zh (h1 hi);clear hi h h0 h1 hc
  go_enter Tryz.func127,Tryz.ntmps127
  go_wp2_with (go_at_call 160;refine (zX T HS).mono ?_;rintro x w1 ⟨rfl,hb1⟩;rw[HI.out];have KP:=zh (HS.out.below hb1);have HI1:=zh (HF.out _ (HS.out.Cn hb1) KP);clear hb1)
  go_loopw [] (fun wr=>∃r k,Hid (I wr r k)) (fun wr=>yT C wr)
  case atStart=>exact ⟨r,k,HI1.out⟩
  case round =>
   obtain ⟨r,k,hI⟩:=hrel;have HR:=zh (HC.out.iS _ _ _ hI.out);have hz:=HR.out.zero;go_wp2_with fail;refine (HC.out.part _ _ _ hI.out).mono ?_;rintro y w2 ⟨rfl,r2,k2,e2,h1,h2,h3,h4⟩;have HR2:=zh h1;have HL2:=zh h2;have hz2:=HR2.out.zero
   by_cases he:e2=0
   ·subst he
    have HJ:=zh (h3 rfl);clear hz h1 h2 h3 h4
    cases hcm:Dj ⟨#[44]⟩ r2 with
    | true =>
     have HCM:=zh hcm;obtain ⟨t,q,rfl,_,_⟩:=I6 hcm;clear hcm;go_wp2_with (go_at_call 160;refine (zX ⟨#[44]⟩ HR2).mono ?_;rintro x w3 ⟨rfl,hb3⟩;rw[HCM.out];have HB3:=zh (HR2.out.Cn hb3);have OU:=zh (HR2.out.below hb3);obtain ⟨i,hi,c2,f2,hi2,HN⟩:=OU.out.tT;clear hb3);have HX:=zh (HN.out.1 _ _ _ OU)
     have xV:=zh (HC.out.comma _ _ _ _ HJ HCM (HB3.out.trans ((Ay.refl _ _).set 2 (.int .i64 ((i:Int)+1)))) HX);have Dp:=zh HX.out.meas;have GU:=zh HR.out.meas;go_roundw
     case rel=>exact ⟨q,k2,xV.out⟩
     case measure=>rw[Dp.out,GU.out];have:=HL2.out;rw[AAS] at this;omega
    | false =>
     have HCM:=zh hcm;clear hcm;go_wp2_with (go_at_call 160;refine (zX ⟨#[44]⟩ HR2).mono ?_;rintro x w3 ⟨rfl,hb3⟩;rw[HCM.out];have HB3:=zh (HR2.out.Cn hb3);have OU:=zh (HR2.out.below hb3);have hz3:=OU.out.zero;clear hb3);refine (FV T OU).mono ?_;rintro y w4 ⟨rfl,hb4,h4⟩;have BA:=zh (HB3.out.trans hb4);have H4:=zh h4;clear hb4 h4;go_wp2
     refine bodyPost_end (results_none Tryz.results127 _ _ _) rfl ⟨rfl,?_⟩
     rcases H4.out with ⟨g1,g2⟩|⟨g1,g2⟩
     ·exact ⟨_,_,_,g2,fun _=>HC.out.fin _ _ _ _ HJ HCM g1 BA g2,fun h=>absurd rfl h⟩
     ·exact ⟨_,_,_,g2,(fun h=>by cases h),fun _=>HC.out.bad _ _ _ _ HJ HCM g1 BA g2⟩
   ·have HE:=zh (h4 he)
    have q1:(e2 != 0)=true:=by simp[he]
    have sH:=zh he;clear hz h1 h2 h3 h4 he;go_wp2_with fail;refine bodyPost_ret (results_none Tryz.results127 _ _ _) rfl ⟨rfl,r2,k2,e2,HR2.out,fun h=>absurd h sH,fun _=>HE.out⟩
theorem Ql (w:World) {a b:Addr} (h:a.block≠b.block) (u v:Value):(w.setCell a u).setCell b v=(w.setCell b v).setCell a u:=by
 have e:∀ (w1 w2:World),w1.os=w2.os->w1.tape=w2.tape->w1.output=w2.output->w1.heap=w2.heap->({ w1 with heap:=w2.heap }:World)=w1:=fun w1 w2 _ _ _ h=>by rw[<-h]
 have hh:((w.setCell a u).setCell b v).heap=((w.setCell b v).setCell a u).heap:=by
  apply Array.ext_getElem?
  intro q
  by_cases h1:q=a.block
  ·rw[AAF _ _ _ _ (by rw[h1];exact h)]
   subst h1;simp only[World.setCell,Array.getElem?_modify,if_true];rw[Pd (fun e=>h e.symm)]
  ·rw[AAF _ a _ _ h1]
   by_cases h2:q=b.block
   ·subst h2
    simp only[World.setCell,Array.getElem?_modify,if_true];rw[Pd h]
   ·rw[AAF _ _ _ _ h2,AAF _ _ _ _ h1,AAF _ _ _ _ h2]
 simp only[World.setCell] at hh ⊢;rw[hh]
theorem yF {g q j:Nat} (h:q≠g) (u:Value):∀ (vs:List Value) (o:Nat) (w:World),(w.setCell ⟨q,j,none⟩ u).setCells g o vs=(w.setCells g o vs).setCell ⟨q,j,none⟩ u
 | [],_,_=>rfl
 | v::vs,o,w=>by
  rw[World.setCells,World.setCells,<-yF h u vs,Ql w (a:=⟨q,j,none⟩) (b:=⟨g,o,none⟩) h]
variable {g:Nat}
theorem I8 {row:Option Nat} (hg:w.grownBy w' row) (h:row=some g\/w.heap.size<=g) (o:Nat) (vs:List Value):w.grownBy (w'.setCells g o vs) row:=by
 have hb:=yC (B:=0) (w:=w') g (Nat.zero_le _) vs o w' (Pe _ _);refine ⟨hb.os.trans hg.os,hb.tape.trans hg.tape,hb.output.trans hg.output,Nat.le_trans hg.size hb.size,fun k hk hr=>?_⟩
 have hne:k≠g:=fun e=>by
  subst e
  rcases h with h|h
  ·first|exact hr h.symm|exact hr h
  ·omega
 exact (zN hne vs o w').trans (hg.block k hk hr)
def yB:List Value:=[.int .i64 0,.bool false,.int .i64 0,.string ⟨#[]⟩,.int .i64 0,.slice none 0 0,.slice none 0 0,.slice none 0 0]
theorem Ze:∀u∈yB,u.oneCell'=true:=fun u hu=>by
 unfold yB at hu;simp only[AAr,List.mem_nil_iff,or_false] at hu
 rcases hu with rfl|rfl|rfl|rfl|rfl|rfl|rfl|rfl <;> rfl
theorem gZ (x:Au):x.cells.length=8:=rfl
variable {base:Nat}
theorem TB {c:Nat} {L:List Au} {x:Au} {n:Nat} (_hn:n=L.length+1) (h:w.ownsRow base 28 8 (.slice (some ⟨g,0,none⟩) n c) n (L.flatMap Au.cells++yB)):
  (w.setCells g (L.length * 8) x.cells).ownsRow base 28 8 (.slice (some ⟨g,0,none⟩) n c) n (L.flatMap Au.cells++x.cells):=by
 have e1:L.flatMap Au.cells++yB=(L.map Au.cells++[yB]).flatten:=by rw[List.flatten_append,List.flatMap_def];simp
 have e2:L.flatMap Au.cells++x.cells=(L.map Au.cells++[x.cells]).flatten:=by rw[List.flatten_append,List.flatMap_def];simp
 have hl:∀cs∈L.map Au.cells++[yB],cs.length=8:=fun cs hc=>by
  rcases AAo.1 hc with k|k
  ·obtain ⟨y,_,rfl⟩:=List.mem_map.1 k
   rfl
  ·obtain rfl:cs=yB:=by simpa using k
   rfl
 have h3:=Kh (k:=8) (by omega) (L.map Au.cells++[yB]) L.length x.cells hl (gZ x) (by simp)
 rw[show (L.map Au.cells++[yB]).set L.length x.cells=L.map Au.cells++[x.cells] by
  rw[List.set_append_right _ _ (by simp)];simp] at h3
 rw[e2,<-h3,<-e1];exact EW x.cells _ (L.length * 8) w h
theorem Pw {c:Nat} {L:List Au} {n:Nat} {xs:List Value} (hx:xs.length=8) (h:w.ownsRow base 28 8 (.slice (some ⟨g,0,none⟩) n c) n (L.flatMap Au.cells++xs)):w.there g (L.length * 8) 8:=fun j hj=>by
 have hl:(L.flatMap Au.cells).length=L.length * 8:=by rw[List.flatMap_def,Cc (k:=8) (L.map Au.cells) (fun cs hc=>by obtain ⟨y,_,rfl⟩:=List.mem_map.1 hc;rfl),AAZ]
 refine ⟨?_,World.ownsRow.frozenAt h (L.length * 8+j)⟩;have hj2:(L.flatMap Au.cells++xs)[L.length * 8+j]? = some (xs[j]'(by omega)):=by
  rw[ABB (by omega),hl,Nat.add_sub_cancel_left,zl (by omega)]
 have:=World.ownsRow.cells h (g:=g) rfl _ _ hj2;rw[Addr.add_mid,Nat.zero_add] at this;rw[this];rfl
theorem PN {o n p j:Nat} {u:Value} (h:w.there g o n) (hp:p≠g):∀w',(w'=w\/w'=w.setCell ⟨p,j,none⟩ u)->w'.there g o n:=fun w' hw=>by
 rcases hw with rfl|rfl
 ·exact h
 ·have hb:(w.setCell ⟨p,j,none⟩ u).heap[g]? = w.heap[g]? := AAF _ _ _ _ (by simpa using hp.symm)
  intro i hi
  rw[World.cell?_of_block (w:=w) (a:=⟨g,o+i,none⟩) hb,World.frozen?_of_block (w:=w) (a:=⟨g,o+i,none⟩) hb];exact h i hi
variable {q:Nat}
theorem Kr {v:Value} {l:List Au} (h:Cw w base v l) {cs:Array Value} {T:TypeId} {fr:Nat×Nat} (hq:w.heap[q]? = some (.cells cs T fr)) (hT:T≠28):v.ownBlock≠some q:=fun e=>by
 obtain ⟨c1,f1,e1⟩:=h.block e;rw[hq] at e1
 injection e1 with e1
 injection e1 with _ e3
 exact hT e3
theorem Px {v:Value} {l:List Ak} (h:lJ w base v l) {cs:Array Value} {T:TypeId} {fr:Nat×Nat} (hq:w.heap[q]? = some (.cells cs T fr)) (hT:T≠97):v.ownBlock≠some q:=fun e=>by
 obtain ⟨c1,f1,e1⟩:=h.block e;rw[hq] at e1
 injection e1 with e1
 injection e1 with _ e3
 exact hT e3
def mR (C:FK) (t:Int) (W:World) (r:List AQ) (k:Bool) (e:Int) (y:Ending) (W':World):Prop:=∃x:Au,y = .returned (x.v.v x.A1 x.c1 x.A2 x.c2 x.A3 x.c3)/\Off (fun q=>q<W.heap.size) W' (fun u=>Az u x.v x.A1 x.A2 x.A3)/\Ay C.b W W' /\
 ∃r' k' e',CX C W' r' k' e'/\r'.length<=r.length/\(e≠0->e'=e)/\(e=0->match CU false C.s t r k with
  | .ok (v,r1,k1)=>x.v=v/\r'=r1/\k'=k1/\e'=0
  | .error e1=>e'=e1)
def JH (C:FK) (n:Nat):Prop:=∀ (t:Int) (W:World) (r:List AQ) (k:Bool) (e:Int),r.length<n->(0<=t/\t<(C.s.length:Int))->CX C W r k e ->
 Calls Tryz.prog 79 #[.pointer (some ⟨C.b,0,none⟩),.int .i64 t] W (mR C t W r k e)
structure Vx where
 W0:World
 x:Ae
 As:zo
 cs:Nat
 Am:zo
 cm:Nat
 p:Nat
 pr:Nat
 px:Nat
 pv:Nat
structure Df (C:FK) (V:Vx) (W:World) (r:List AQ) (k:Bool) (e di:Int) (vk vi vr:Value) (K I:List Au) (R:List Ak):Prop where
 rd:CX C W r k e
 vb:Gx V.p W V.x.kind false 0 ⟨#[]⟩ di vk vi vr K I R
 fr:Ay C.b V.W0 W
 lo:V.W0.heap.size<=V.p
 lb:C.b<V.W0.heap.size
 ty:KM C.w0 V.x V.As V.Am
 br:W.heap[V.pr]? = some (.cells #[.pointer (some ⟨C.b,0,none⟩)] 103)
 bx:W.heap[V.px]? = some (V.x.box V.As V.cs V.Am V.cm)
 bv:V.pv=V.p\/W.heap[V.pv]? = some (.cells #[.pointer (some ⟨V.p,0,none⟩)] 172)
section
variable {C:FK} {V:Vx} {W W':World} {r r':List AQ} {k k':Bool} {e e' di:Int} {vk vi vr:Value} {K I:List Au} {R:List Ak}
theorem Df.bp (h:Df C V W r k e di vk vi vr K I R):C.b<V.p:=AAq h.lb h.lo
theorem GZ {w:World} {q q2:Nat} {a b:Array Value} {T T2:TypeId} {f f2:Nat×Nat} (h:w.heap[q]? = some (.cells a T f)) (h2:w.heap[q2]? = some (.cells b T2 f2)) (hT:T≠T2):q≠q2:=fun e=>by
 subst e;rw[h] at h2
 injection h2 with h2
 injection h2 with _ e3
 exact hT e3
theorem Df.prb (h:Df C V W r k e di vk vi vr K I R):V.pr≠C.b:=GZ h.br h.rd.blk (by decide)
theorem Df.pxb (h:Df C V W r k e di vk vi vr K I R):V.px≠C.b:=GZ h.bx h.rd.blk (by decide)
theorem Df.Cn (h:Df C V W r k e di vk vi vr K I R) (hb:Ay C.b W W') (hr:CX C W' r' k' e'):Df C V W' r' k' e' di vk vi vr K I R :=
 ⟨hr,h.vb.Cn hb h.bp,h.fr.trans hb,h.lo,h.lb,h.ty,(hb.FN _ h.prb (zg.1 h.br).1).trans h.br,(hb.FN _ h.pxb (zg.1 h.bx).1).trans h.bx,
  h.bv.imp id fun g=>(hb.FN _ (GZ g h.rd.blk (by decide)) (zg.1 g).1).trans g⟩
theorem Df.below (h:Df C V W r k e di vk vi vr K I R) (hb:Below W.heap.size W W'):Df C V W' r k e di vk vi vr K I R:=h.Cn (h.rd.Cn hb) (h.rd.below hb)
theorem Df.hot (h:Df C V W r k e di vk vi vr K I R) {P:World->Prop} (_hb:Ay C.b W W') (hx:Off (fun q=>q<W.heap.size) W' P):Off (Rb V.p vk vi vr) W' P:=by
 obtain ⟨l1,l2,l3⟩:=Fw h.vb;refine hx.mono fun q _ hq=>?_
 rcases hq with e|e|e|e
 ·have:=h.vb.lt;omega
 ·exact (l1 q e).2
 ·exact (l2 q e).2
 ·exact (l3 q e).2
theorem Df.rest (h:Df C V W r k e di vk vi vr K I R) {W9:World} {Yx:Int} {NA Jv fo:Value} {K' I':List Au} {R':List Ak} (hv:Gx V.p W9 V.x.kind false 0 ⟨#[]⟩ Yx NA Jv fo K' I' R') (hb:Below V.p W W9) (hp:∀ (q:Nat) (cs:Array Value) (T:TypeId) (fr:Nat×Nat),W.heap[q]? = some (Obj.cells cs T fr)->T≠28->T≠97->W9.heap[q]? = W.heap[q]?):Df C V W9 r k e Yx NA Jv fo K' I' R' :=
 ⟨⟨h.rd.ok,(hb.block _ h.bp).trans h.rd.blk,h.rd.WN,h.rd.up.trans (hb.mono (by have:=h.bp;have:=h.rd.ok.ge;omega))⟩,hv,h.fr.up hb h.lo (AAe h.bp),h.lo,h.lb,h.ty,(hp _ _ _ _ h.br (by decide) (by decide)).trans h.br,(hp _ _ _ _ h.bx (by decide) (by decide)).trans h.bx,h.bv.imp id fun g=>(hp _ _ _ _ g (by decide) (by decide)).trans g⟩
variable {v8:Value} {w4 w8:World}
theorem Df.item (h:Df C V W r k e di vk vi vr K I R) {x:Au} (hx:Off (Rb V.p vk vi vr) W fun u=>Az u x.v x.A1 x.A2 x.A3) (hb4:Below W.heap.size W w4) (ho:w8.ownsRow (V.p+1) 28 8 v8 (I.length+1) (I.flatMap Au.cells++x.cells)) (hg:w4.grownBy w8 vi.ownBlock) (hv:v8.ownBlock=vi.ownBlock\/v8.ownBlock=some w4.heap.size):Df C V (w8.setCell ⟨V.p,6,none⟩ v8) r k e di vk v8 vr K (I++[x]) R:=by
 obtain ⟨h1,h2,h3⟩:=h.vb.item hx hb4 ho hg hv;exact h.rest h1 h2 fun q cs T fr hq hT _=>h3 q (GZ hq h.vb.blk hT) (Kr h.vb.oi hq hT) (zg.1 hq).1
theorem Df.key (h:Df C V W r k e di vk vi vr K I R) {x:Au} (hx:Off (Rb V.p vk vi vr) W fun u=>Az u x.v x.A1 x.A2 x.A3) (hb4:Below W.heap.size W w4) (ho:w8.ownsRow (V.p+1) 28 8 v8 (K.length+1) (K.flatMap Au.cells++x.cells)) (hg:w4.grownBy w8 vk.ownBlock) (hv:v8.ownBlock=vk.ownBlock\/v8.ownBlock=some w4.heap.size):Df C V (w8.setCell ⟨V.p,5,none⟩ v8) r k e di v8 vi vr (K++[x]) I R:=by
 obtain ⟨h1,h2,h3⟩:=h.vb.key hx hb4 ho hg hv;exact h.rest h1 h2 fun q cs T fr hq hT _=>h3 q (GZ hq h.vb.blk hT) (Kr h.vb.ok hq hT) (zg.1 hq).1
theorem Df.Ux (h:Df C V W r k e di vk vi vr K I R) {x:Ak} (hx:Db x.data) (hb4:Below W.heap.size W w4) (ho:w8.ownsRow (V.p+1) 97 2 v8 (R.length+1) (R.flatMap encR++encR x)) (hg:w4.grownBy w8 vr.ownBlock) (hv:v8.ownBlock=vr.ownBlock\/v8.ownBlock=some w4.heap.size):Df C V (w8.setCell ⟨V.p,7,none⟩ v8) r k e di vk vi v8 K I (R++[x]):=by
 obtain ⟨h1,h2,h3⟩:=h.vb.Ux hx hb4 ho hg hv;exact h.rest h1 h2 fun q cs T fr hq hT hR=>h3 q (GZ hq h.vb.blk hT) (Px h.vb.Qy hq hR) (zg.1 hq).1
theorem Df.p8 (h:Df C V W r k e di vk vi vr K I R) {row:Option Nat} (hg:W.grownBy w8 row) (hr:row=vk.ownBlock\/row=vi.ownBlock\/row=vr.ownBlock):w8.heap[V.p]? = W.heap[V.p]? := by
 obtain ⟨l1,l2,l3⟩:=Fw h.vb;refine yA hg h.vb.lt fun q hq e=>?_
 rcases hr with e2|e2|e2
 ·have:=l1 q (e2▸hq);omega
 ·have:=l2 q (e2▸hq);omega
 ·have:=l3 q (e2▸hq);omega
theorem Df.c8 (h:Df C V W r k e di vk vi vr K I R) (hp:w8.heap[V.p]? = W.heap[V.p]?):(w8.cell? ⟨V.p,5,none⟩=some vk/\w8.cell? ⟨V.p,6,none⟩=some vi/\w8.cell? ⟨V.p,7,none⟩=some vr)/\w8.frozen? ⟨V.p,5,none⟩=false/\w8.frozen? ⟨V.p,6,none⟩=false/\w8.frozen? ⟨V.p,7,none⟩=false:=by
 have h1:=h.vb.cells;refine ⟨⟨?_,?_,?_⟩,?_,?_,?_⟩
 ·rw[World.cell?_of_block (w:=W) (a:=⟨V.p,5,none⟩) hp];exact h1.1.2.2.2.2.2.1
 ·rw[World.cell?_of_block (w:=W) (a:=⟨V.p,6,none⟩) hp];exact h1.1.2.2.2.2.2.2.1
 ·rw[World.cell?_of_block (w:=W) (a:=⟨V.p,7,none⟩) hp];exact h1.1.2.2.2.2.2.2.2
 ·rw[World.frozen?_of_block (w:=W) (a:=⟨V.p,5,none⟩) hp];exact h1.2 5
 ·rw[World.frozen?_of_block (w:=W) (a:=⟨V.p,6,none⟩) hp];exact h1.2 6
 ·rw[World.frozen?_of_block (w:=W) (a:=⟨V.p,7,none⟩) hp];exact h1.2 7
theorem Gj {base n:Nat} {xs:List Value} (ho:w8.ownsRow base 28 8 v8 (n+1) xs):∃g c,v8 = .slice (some ⟨g,0,none⟩) (n+1) c/\base<=g:=by
 rcases ho.2 with ⟨_,h0⟩|⟨g,cap,cur,hv,hg0,_⟩
 ·omega
 ·exact ⟨g,cap,hv,hg0⟩
end
def ItP (C:FK) (V:Vx) (t:Int) (r:List AQ) (k:Bool) (e di:Int) (vk vr:Value) (K I:List Au) (R:List Ak) (W':World):Prop :=
 ∃x Jv r' k' e',Df C V W' r' k' e' di vk Jv vr K (I++[x]) R/\r'.length<=r.length/\(e≠0->e'=e)/\(e=0->match CU false C.s t r k with
  | .ok (v,r1,k1)=>x.v=v/\r'=r1/\k'=k1/\e'=0
  | .error e1=>e'=e1)
theorem Gi:(Tryz.prog.info? 28).map (·.size)=some 8:=by kernel_rfl
theorem Qd (x:Au):(x.cells.toArray).all (·.oneCell')=true:=all_oneCell_toArray (CG x)
theorem X4 {b:Nat} {o:Nat} {cs:List Value} (hb:Ay b w w') (hq:q≠b) (h:w.rangeAt q o cs):w'.rangeAt q o cs:=fun j u hj=>by
 have:=h j u hj;rw[World.cell?_of_block (w:=w) (w':=w') (a:=⟨q,o+j,none⟩) (hb.FN q hq (zL this))];exact this
section
variable {C:FK} {V:Vx} {W W':World} {r r':List AQ} {k k':Bool} {e e' di:Int} {vk vi vr:Value} {K I:List Au} {R:List Ak}
theorem Df.reads (h:Df C V W r k e di vk vi vr K I R) (hb:Ay C.b W W'):(W'.cell? ⟨V.p,5,none⟩=some vk/\W'.cell? ⟨V.p,6,none⟩=some vi/\W'.cell? ⟨V.p,7,none⟩=some vr/\W'.cell? ⟨V.pr,0,none⟩=some (.pointer (some ⟨C.b,0,none⟩)) /\
  W'.cell? ⟨V.px,6,none⟩=some (.slice V.Am V.x.AA.length V.cm)/\W'.cell? ⟨V.px,7,none⟩=some (.int .i64 V.x.key)/\W'.cell? ⟨V.px,8,none⟩=some (.int .i64 V.x.elem))/\Hid (Ay C.b W W'):=by
 have h1:=(h.vb.Cn hb h.bp).cells.1;have h2:=(hb.FN _ h.prb (zg.1 h.br).1).trans h.br;have h3:=(hb.FN _ h.pxb (zg.1 h.bx).1).trans h.bx;refine ⟨⟨h1.2.2.2.2.2.1,h1.2.2.2.2.2.2.1,h1.2.2.2.2.2.2.2,?_,?_,?_,?_⟩,hb⟩
 ·rw[AAE _ _ _ _ _ _ h2];rfl
 ·rw[AAE _ _ _ _ _ _ h3];rfl
 ·rw[AAE _ _ _ _ _ _ h3];rfl
 ·rw[AAE _ _ _ _ _ _ h3];rfl
theorem Df.mJ (h:Df C V W r k e di vk vi vr K I R) (hp:W'.heap[V.p]? = W.heap[V.p]?) (hq:∀ (q:Nat) (cs:Array Value) (T:TypeId) (fr:Nat×Nat),W.heap[q]? = some (Obj.cells cs T fr)->T≠28->T≠97->W'.heap[q]? = W.heap[q]?):(W'.cell? ⟨V.p,5,none⟩=some vk/\W'.cell? ⟨V.p,6,none⟩=some vi/\W'.cell? ⟨V.p,7,none⟩=some vr/\W'.cell? ⟨V.pr,0,none⟩=some (.pointer (some ⟨C.b,0,none⟩)) /\
  W'.cell? ⟨V.px,6,none⟩=some (.slice V.Am V.x.AA.length V.cm)/\W'.cell? ⟨V.px,7,none⟩=some (.int .i64 V.x.key)/\W'.cell? ⟨V.px,8,none⟩=some (.int .i64 V.x.elem))/\(V.pv≠V.p->W'.cell? ⟨V.pv,0,none⟩=some (.pointer (some ⟨V.p,0,none⟩))):=by
 obtain ⟨⟨h5,h6,h7⟩,_⟩:=h.c8 hp;have h2:=(hq _ _ _ _ h.br (by decide) (by decide)).trans h.br
 have h3:=(hq _ _ _ _ h.bx (by decide) (by decide)).trans h.bx
 refine ⟨⟨h5,h6,h7,?_,?_,?_,?_⟩,fun hv=>?_⟩
 ·rw[AAE _ _ _ _ _ _ h2];rfl
 ·rw[AAE _ _ _ _ _ _ h3];rfl
 ·rw[AAE _ _ _ _ _ _ h3];rfl
 ·rw[AAE _ _ _ _ _ _ h3];rfl
 ·have g:=h.bv.resolve_left hv
  rw[AAE _ _ _ _ _ _ ((hq _ _ _ _ g (by decide) (by decide)).trans g)];rfl
theorem Df.cO (h:Df C V W r k e di vk vi vr K I R) {w8:World} {row:Option Nat} (hg:W.grownBy w8 row) (hr:row=vk.ownBlock\/row=vi.ownBlock\/row=vr.ownBlock):∀ (q:Nat) (cs:Array Value) (T:TypeId) (fr:Nat×Nat),W.heap[q]? = some (Obj.cells cs T fr)->T≠28->T≠97->w8.heap[q]? = W.heap[q]? := fun q cs T fr hq h1 h2=>by
 refine yA hg (zg.1 hq).1 fun q2 hq2 e=>?_
 subst e
 rcases hr with e|e|e
 ·exact Kr h.vb.ok hq h1 (e▸hq2)
 ·exact Kr h.vb.oi hq h1 (e▸hq2)
 ·exact Px h.vb.Qy hq h2 (e▸hq2)
theorem Df.bS (h:Df C V W r k e di vk vi vr K I R) {x:Au} (hx:Off (Rb V.p vk vi vr) W fun u=>Az u x.v x.A1 x.A2 x.A3) {w4:World} (hb4:Below W.heap.size W w4) {g c:Nat} {w8:World}
  (ho:w8.ownsRow (V.p+1) 28 8 (.slice (some ⟨g,0,none⟩) (I.length+1) c) (I.length+1) (I.flatMap Au.cells++yB)) (hg:w4.grownBy w8 vi.ownBlock) (hv:some g=vi.ownBlock\/some g=some w4.heap.size) :
  Df C V ((w8.setCells g (I.length * 8) x.cells).setCell ⟨V.p,6,none⟩ (.slice (some ⟨g,0,none⟩) (I.length+1) c)) r k e di vk (.slice (some ⟨g,0,none⟩) (I.length+1) c) vr K (I++[x]) R :=
 h.item hx hb4 (TB rfl ho) (I8 hg (hv.imp (fun e=>e.symm) fun e=>by injection e with e;omega) _ _) hv
end
abbrev zO:Obj := .cells #[.int .i64 0,.bool false,.int .i64 0,.string ⟨#[]⟩,.int .i64 0,.slice none 0 0,.slice none 0 0,.slice none 0 0] 28
variable {di:Int} {R:List Ak} {I K:List Au} {vi vk vr:Value} {V:Vx} {W:World}
theorem Df.WO {W':World} (h:Df C V W r k e di vk vi vr K I R) (hp:V.pv≠V.p) (hb:Ay C.b W W'):W'.cell? ⟨V.pv,0,none⟩=some (.pointer (some ⟨V.p,0,none⟩)):=by
 have g:=h.bv.resolve_left hp;rw[AAE _ _ _ _ _ _ ((hb.FN _ (GZ g h.rd.blk (by decide)) (zg.1 g).1).trans g)];rfl
def mU (T:ByteArray) (r2:List AQ) (e2:Int) (r':List AQ) (e':Int):Prop:=r'.length<=r2.length/\((e2≠0/\r'=r2/\e'=e2)\/(e2=0/\((Dj T r2=true/\r'=r2.tail/\e'=0)\/(Dj T r2=false/\e'=2))))
theorem aC (h:e≠0):mU T r e r e:=⟨AAH _,.inl ⟨h,rfl,rfl⟩⟩
theorem Nf {y:Ending} (h:um C T w r k 0 y w'):Ay C.b w w'/\∃r' e',CX C w' r' k e'/\mU T r 0 r' e':=by
 obtain ⟨_,hb,h⟩:=h;refine ⟨hb,?_⟩
 rcases h with ⟨h1,h2⟩|⟨h1,h2⟩
 ·exact ⟨_,_,h2,by simp,.inr ⟨rfl,.inl ⟨h1,rfl,rfl⟩⟩⟩
 ·exact ⟨_,_,h2,AAH _,.inr ⟨rfl,.inr ⟨h1,rfl⟩⟩⟩
theorem La {r2 r':List AQ} {e':Int} (h:mU T r2 0 r' e'):match Ee T r2 with
  | .ok l=>r'=l/\e'=0
  | .error e1=>e'=e1/\e'≠0:=by
 unfold Ee
 rcases h.2 with ⟨h1,_⟩|⟨_,⟨h1,h2,h3⟩|⟨h1,h2⟩⟩
 ·exact absurd rfl h1
 ·rw[AAG h1];exact ⟨h2,h3⟩
 ·rw[Pd (by rw[h1];simp)];exact ⟨h2,by rw[h2];decide⟩
def gJ (n:Int) (r:List AQ) (t0:AQ) (r1:List AQ) (e1:Int):Prop:=(r1.length<=r.length/\Db t0.text/\Db t0.str)/\((FY n r = .ok (t0,r1)/\e1=0/\r1.length<r.length)\/(FY n r = .error 2/\t0=Ju/\r1=r/\e1=2))
theorem Nc {y:Ending} (h:eG C n w r k 0 y w'):∃t0 r1 e1,y = .returned (.agg #[.int .i64 t0.kind,.string t0.text,.int .i64 t0.int,.string t0.str,.int .i64 t0.line])/\Ay C.b w w'/\CX C w' r1 k e1/\gJ n r t0 r1 e1:=by
 obtain ⟨hb,h⟩:=h
 rcases h with ⟨t,q,h1,h2,h3,h4,h5⟩|⟨h1,h2,h3⟩
 ·have:=(Bo h1).1.2
  exact ⟨t,q,0,h2,hb,h3,⟨by omega,h4,h5⟩,.inl ⟨h1,rfl,this⟩⟩
 ·exact ⟨Ju,r,2,h2,hb,h3,⟨AAH _,by unfold Db Ju;decide,by unfold Db Ju;decide⟩,.inr ⟨h1,rfl,rfl,rfl⟩⟩
theorem gJ.tk {r1:List AQ} {t0:AQ} {e1:Int} (h:gJ n r t0 r1 e1):match FY n r with
  | .ok p=>t0=p.1/\r1=p.2/\e1=0/\r1.length<r.length
  | .error e2=>e1=e2/\e1≠0:=by
 rcases h.2 with ⟨h1,h2,h3⟩|⟨h1,_,_,h2⟩
 ·rw[h1];exact ⟨rfl,rfl,h2,h3⟩
 ·rw[h1];exact ⟨h2,by rw[h2];decide⟩
def ZP (nm:ByteArray) (t0:AQ) (e1:Int):Int:=if e1=0 then (if t0.text=nm then 0 else 4) else e1
theorem VJ (h:Dj T r=true):r.tail.length<r.length:=(Di h).2
section
variable {f:Int->List AQ->Bool->PR Val} {Rt:Jg} {acc:List Val} {ms:List AZ} {y:AZ} {r:List AQ} {k:Bool}
theorem ig (hnz:∀t l k,f t l k ≠ .error 0) (h:LG f Rt acc [] (y::ms) r k) {t0:AQ} {r1:List AQ} {e1:Int} (h1:gJ 1 r t0 r1 e1) {r3:List AQ} {e3:Int} (h3:mU ⟨#[58]⟩ r1 (ZP y.name t0 e1) r3 e3) {x:Val} {r5:List AQ} {k5:Bool} {e5:Int} (hl5:r5.length<=r3.length) (bZ:e3≠0->e5=e3)
  (h5:e3=0->match f y.type r3 k with
   | .ok (v,r',k')=>x=v/\r5=r'/\k5=k'/\e5=0
   | .error e=>e5=e) {e6:Int} (h6:e6=if e5=0/\ms≠[]/\Dj ⟨#[44]⟩ r5=false then 2 else e5) :
  (e6=0->OL f Rt (acc++[x]) [] ms r5 k5/\r5.length<r.length)/\(e6≠0->Rt = .error e6):=by
 obtain ⟨_,hR⟩:=h.name;have ht:=h1.tk;have hl1:=h1.1.1;have hl3:=h3.1
 cases hk:FY 1 r with
 | error e =>
  rw[hk] at ht hR;obtain ⟨rfl,hz⟩:=ht;have hnm:ZP y.name t0 e1=e1:=Pd hz;rw[hnm] at h3
  rcases h3.2 with ⟨_,_,g⟩|⟨g,_⟩
  ·have g5:=bZ (by omega)
   rw[Pd (by rintro ⟨g,_⟩;omega)] at h6
   have e61:e6=e1:=by omega
   subst e61;exact ⟨fun g=>absurd g hz,fun _=>hR⟩
  ·exact absurd g hz
 | ok p =>
  obtain ⟨u,q⟩:=p;rw[hk] at ht hR;obtain ⟨rfl,rfl,rfl,hlt⟩:=ht;rw[zM] at hR;simp only at hR
  by_cases hnm:t0.text=y.name
  ·have hn0:ZP y.name t0 0=0:=by unfold ZP;rw[AAG rfl,AAG hnm]
   rw[hn0] at h3;rw[AAG hnm] at hR;have hs:=La h3
   cases hsy:Ee ⟨#[58]⟩ r1 with
   | error e =>
    rw[hsy] at hs hR;have g5:=bZ hs.2;rw[Pd (by rintro ⟨g,_⟩;exact hs.2 (by omega))] at h6
    have e61:e6=e:=by have:=hs.1;omega
    subst e61;exact ⟨fun g=>absurd g (by have:=hs.2;have:=hs.1;omega),fun _=>hR⟩
   | ok l2 =>
    rw[hsy] at hs hR;obtain ⟨rfl,rfl⟩:=hs;rw[zM] at hR;have hv:=h5 rfl
    cases hf:f y.type r3 k with
    | error e =>
     rw[hf] at hv hR;simp only at hv;subst hv;have hz:e5≠0:=fun g=>hnz _ _ _ (g▸hf)
     rw[Pd (by rintro ⟨g,_⟩;exact hz g)] at h6
     subst h6;exact ⟨fun g=>absurd g hz,fun _=>hR⟩
    | ok z =>
     obtain ⟨v,r',k'⟩:=z;rw[hf] at hv hR;obtain ⟨rfl,rfl,rfl,rfl⟩:=hv;rw[zM] at hR;simp only at hR;have hR2:Rt=(CY f false ms r5 k5).bind fun z=>Lc ((acc++[x])++z.1) [] z.2.2 (EM false false z.2.1):=by rw[hR];simp only[AA0,List.singleton_append]
     by_cases hm:ms≠[]/\Dj ⟨#[44]⟩ r5=false
     ·rw[AAG ⟨rfl,hm⟩] at h6
      subst h6;exact ⟨fun g=>absurd g (by decide),fun _=>oG hR2 hm.1 hm.2⟩
     ·rw[Pd (fun g=>hm g.2)] at h6
      subst h6;refine ⟨fun _=>⟨jA rfl hR2 ?_,by omega⟩,fun g=>absurd rfl g⟩
      by_cases h0:ms=[]
      ·exact .inl h0
      ·refine .inr ?_
       cases hi:Dj ⟨#[44]⟩ r5 with
       | true=>rfl
       | false=>exact absurd ⟨h0,hi⟩ hm
  ·have hn0:ZP y.name t0 0=4:=by unfold ZP;rw[AAG rfl,Pd hnm]
   rw[hn0] at h3;rw[Pd hnm] at hR
   rcases h3.2 with ⟨_,_,g⟩|⟨g,_⟩
   ·have g5:=bZ (by omega)
    rw[Pd (by rintro ⟨g,_⟩;omega)] at h6
    have e61:e6=4:=by omega
    subst e61;exact ⟨fun g=>absurd g (by decide),fun _=>hR⟩
   ·exact absurd g (by decide)
theorem ic {rs:List Ak} (h:LG f Rt acc rs [] r k) {t0:AQ} {r1:List AQ} {e1:Int} (h1:gJ 2 r t0 r1 e1) {r3:List AQ} {e3:Int} (h3:mU ⟨#[58]⟩ r1 e1 r3 e3) {t1:AQ} {r5:List AQ} {e5:Int} (h5:(e3≠0/\r5=r3/\e5=e3)\/(e3=0/\gJ 3 r3 t1 r5 e5)) :
  (e5=0->OL f Rt acc (rs++[⟨t0.int,t1.str⟩]) [] r5 k/\r5.length<r.length)/\(e5≠0->Rt = .error e5):=by
 have hR:=h.raw;have ht:=h1.tk;have hl3:=h3.1
 cases hk:FY 2 r with
 | error e =>
  rw[hk] at ht hR;obtain ⟨rfl,hz⟩:=ht
  rcases h3.2 with ⟨_,_,g⟩|⟨g,_⟩
  ·rcases h5 with ⟨_,_,g5⟩|⟨g5,_⟩
   ·have e61:e5=e1:=by omega
    subst e61;exact ⟨fun g=>absurd g hz,fun _=>hR⟩
   ·omega
  ·exact absurd g hz
 | ok p =>
  obtain ⟨u,q⟩:=p;rw[hk] at ht hR;obtain ⟨rfl,rfl,rfl,hlt⟩:=ht;rw[zM] at hR;simp only at hR;have hs:=La h3
  cases hsy:Ee ⟨#[58]⟩ r1 with
  | error e =>
   rw[hsy] at hs hR
   rcases h5 with ⟨_,_,g5⟩|⟨g5,_⟩
   ·have e61:e5=e:=by have:=hs.1;omega
    subst e61;exact ⟨fun g=>absurd g (by have:=hs.2;have:=hs.1;omega),fun _=>hR⟩
   ·exact absurd g5 hs.2
  | ok l2 =>
   rw[hsy] at hs hR;obtain ⟨rfl,rfl⟩:=hs;rw[zM] at hR
   rcases h5 with ⟨g5,_⟩|⟨_,g5⟩
   ·exact absurd rfl g5
   ·have hu:=g5.tk
    have hl5:=g5.1.1
    cases hk3:FY 3 r3 with
    | error e =>
     rw[hk3] at hu hR;obtain ⟨rfl,hz⟩:=hu;exact ⟨fun g=>absurd g hz,fun _=>hR⟩
    | ok z =>
     obtain ⟨v,q2⟩:=z;rw[hk3] at hu hR;obtain ⟨rfl,rfl,rfl,_⟩:=hu;rw[zM] at hR;simp only at hR;exact ⟨fun _=>⟨.inl ⟨rfl,hR⟩,by omega⟩,fun g=>absurd rfl g⟩
end
theorem Df.yY (h:Df C V W r k e di vk vi vr K I R) {w8:World} {row:Option Nat} (hg:W.grownBy w8 row) (hr:row=vk.ownBlock\/row=vi.ownBlock\/row=vr.ownBlock):Below C.w0.heap.size C.w0 w8:=by
 obtain ⟨l1,l2,l3⟩:=Fw h.vb;have hb:=h.bp;have hge:=h.rd.ok.ge;refine h.rd.up.grown hg h.rd.up.size fun q hq=>?_
 rcases hr with e|e|e
 ·have:=l1 q (e▸hq);omega
 ·have:=l2 q (e▸hq);omega
 ·have:=l3 q (e▸hq);omega
theorem Df.yX {W':World} (h:Df C V W r k e di vk vi vr K I R) (hb:Ay C.b W W'):Below C.w0.heap.size C.w0 W':=h.rd.up.trans (hb.Bb.mono h.rd.ok.ge)
theorem KY (v:Val):∀y,y∈v.keys\/y∈v.items->SizeOf.sizeOf y<SizeOf.sizeOf v:=by
 intro y hy
 obtain ⟨k,b,i,st,id,ks,is,r⟩:=v;simp only[Val.mk.sizeOf_spec]
 rcases hy with h|h
 ·have:=List.sizeOf_lt_of_mem (show y∈ks from h);omega
 ·have:=List.sizeOf_lt_of_mem (show y∈is from h);omega
theorem zF {b:Nat} {v:Val} {A1:zo} {c1:Nat} {A2:zo} {c2:Nat} {A3:zo} {c3:Nat} (h:W.heap[b]? = some (v.box A1 c1 A2 c2 A3 c3)):
  W.cell? ⟨b,0,none⟩=some (.int .i64 v.kind)/\W.cell? ⟨b,1,none⟩=some (.bool v.bool)/\W.cell? ⟨b,2,none⟩=some (.int .i64 v.int)/\W.cell? ⟨b,3,none⟩=some (.string v.str)/\W.cell? ⟨b,4,none⟩=some (.int .i64 v.id)/\W.cell? ⟨b,5,none⟩=some (.slice A1 v.keys.length c1)/\W.cell? ⟨b,6,none⟩=some (.slice A2 v.items.length c2)/\W.cell? ⟨b,7,none⟩=some (.slice A3 v.rest.length c3):=by
 refine ⟨?_,?_,?_,?_,?_,?_,?_,?_⟩ <;> (rw[AAE _ _ _ _ _ _ h];rfl)
theorem Uq (n:Int) (t:Ae) (As:zo) (cs:Nat) (Am:zo) (cm:Nat) (w:World) (ht:KM w t As Am) :
  Calls Tryz.prog 68 #[t.v As cs Am cm,.int .i64 n] w fun e w'=>∃r:Int,e = .returned (.tuple #[.int .i64 r,.bool (t.Aj.any fun y=>decide (y.id=n))])/\Below w.heap.size w w' :=
 (Xu n t As cs Am cm w ht).mono fun e w' ⟨h1,h2⟩=>⟨_,h1.trans (by rw[Dk]),h2⟩
theorem Nj (n:Int) (t:Ae) (As:zo) (cs:Nat) (Am:zo) (cm:Nat) (w:World) (ht:KM w t As Am) :
  Calls Tryz.prog 58 #[t.v As cs Am cm,.int .i64 n] w fun e w'=>∃r:Int,e = .returned (.tuple #[.int .i64 r,.bool (t.AA.any fun y=>decide (y.id=n))])/\((t.AA.any fun y=>decide (y.id=n))=true->r=BD (fun y:AZ=>decide (y.id=n)) t.AA)/\Below w.heap.size w w' :=
 (JR n t As cs Am cm w ht).mono fun e w' ⟨h1,h2⟩=>⟨_,h1.trans (by rw[Dk]),fun h=>by
  rw[<-Dk] at h;exact Pd (by have:=AAu h;omega),h2⟩
theorem Ea (x:Int) (w:World):Calls Tryz.prog 173 #[.int .i64 x] w fun e w'=>e = .returned (.bool false)/\w=w':=by
 have q1:(x != x)=false:=by simp
 go_enter Tryz.func173,Tryz.ntmps173
 go_wp2
 go_ret
 exact ⟨rfl,rfl⟩
theorem EY (x:Int) (w:World):Calls Tryz.prog 172 #[.int .u64 x] w fun e w'=>e = .returned (.bool false)/\w=w':=by
 have q1:(x != x)=false:=by simp
 go_enter Tryz.func172,Tryz.ntmps172
 go_wp2
 go_ret
 exact ⟨rfl,rfl⟩
theorem EZ (x:ByteArray) (w:World):Calls Tryz.prog 174 #[.string x] w fun e w'=>e = .returned (.bool false)/\w=w':=by
 go_enter Tryz.func174,Tryz.ntmps174
 go_wp2
 go_ret
 exact ⟨by first|rfl|simp,rfl⟩
theorem LB (x y:Int) (w:World):Calls Tryz.prog 152 #[.int .i64 x,.int .i64 y] w fun e w'=>e = .returned (.int .i64 (DZ x y))/\w=w':=by
 by_cases h1:x<y
 ·have HD:Hid (DZ x y = -1):=by show _=_;unfold DZ;rw[AAG h1]
  go_enter Tryz.func152,Tryz.ntmps152
  go_wp2_with fail
  refine (Ea x w).mono ?_;rintro e w2 ⟨rfl,rfl⟩;go_wp2_with fail;refine (Ea y w).mono ?_;rintro e w2 ⟨rfl,rfl⟩;go_wp2;go_ret;exact ⟨by rw[HD.out];rfl,rfl⟩
 ·by_cases h2:x=y
  ·subst h2
   have HD:Hid (DZ x x=0):=by show _=_;unfold DZ;rw[Pd h1,AAG rfl]
   have h3:¬ x > x:=by omega
   go_enter Tryz.func152,Tryz.ntmps152
   go_wp2_with fail
   refine (Ea x w).mono ?_;rintro e w2 ⟨rfl,rfl⟩;go_wp2_with fail;refine (Ea x w).mono ?_;rintro e w2 ⟨rfl,rfl⟩;go_wp2;go_ret;exact ⟨by rw[HD.out];rfl,rfl⟩
  ·have HD:Hid (DZ x y=1):=by show _=_;unfold DZ;rw[Pd h1,Pd h2]
   have h3:y<x:=by omega
   clear h2
   go_enter Tryz.func152,Tryz.ntmps152
   go_wp2_with fail
   refine (Ea x w).mono ?_;rintro e w2 ⟨rfl,rfl⟩;go_wp2_with fail;refine (Ea y w).mono ?_;rintro e w2 ⟨rfl,rfl⟩;go_wp2;go_ret;exact ⟨by rw[HD.out];rfl,rfl⟩
theorem RN (x y:Int) (w:World):Calls Tryz.prog 149 #[.int .u64 x,.int .u64 y] w fun e w'=>e = .returned (.int .i64 (DZ x y))/\w=w':=by
 by_cases h1:x<y
 ·have HD:Hid (DZ x y = -1):=by show _=_;unfold DZ;rw[AAG h1]
  go_enter Tryz.func149,Tryz.ntmps149
  go_wp2_with fail
  refine (EY x w).mono ?_;rintro e w2 ⟨rfl,rfl⟩;go_wp2_with fail;refine (EY y w).mono ?_;rintro e w2 ⟨rfl,rfl⟩;go_wp2;go_ret;exact ⟨by rw[HD.out];rfl,rfl⟩
 ·by_cases h2:x=y
  ·subst h2
   have HD:Hid (DZ x x=0):=by show _=_;unfold DZ;rw[Pd h1,AAG rfl]
   have h3:¬ x > x:=by omega
   go_enter Tryz.func149,Tryz.ntmps149
   go_wp2_with fail
   refine (EY x w).mono ?_;rintro e w2 ⟨rfl,rfl⟩;go_wp2_with fail;refine (EY x w).mono ?_;rintro e w2 ⟨rfl,rfl⟩;go_wp2;go_ret;exact ⟨by rw[HD.out];rfl,rfl⟩
  ·have HD:Hid (DZ x y=1):=by show _=_;unfold DZ;rw[Pd h1,Pd h2]
   have h3:y<x:=by omega
   clear h2
   go_enter Tryz.func149,Tryz.ntmps149
   go_wp2_with fail
   refine (EY x w).mono ?_;rintro e w2 ⟨rfl,rfl⟩;go_wp2_with fail;refine (EY y w).mono ?_;rintro e w2 ⟨rfl,rfl⟩;go_wp2;go_ret;exact ⟨by rw[HD.out];rfl,rfl⟩
theorem Xw (x y:ByteArray) (w:World):(binOp .gtr 9 (.string x) (.string y)).run Tryz.prog w = .ok (.bool (!gB x y && !decide (x=y))) w:=by
 have h:=bytes_beq x y;simp[binOp,Op.stringOp,gB,h]
theorem RO (x y:ByteArray) (w:World):Calls Tryz.prog 153 #[.string x,.string y] w fun e w'=>e = .returned (.int .i64 (M4 x y))/\w=w':=by
 cases hl:gB x y with
 | true =>
  have HD:Hid (M4 x y = -1):=by show _=_;unfold M4;rw[hl,AAG rfl]
  have q1:Op.bytesLess x.toList y.toList=true:=hl;clear hl
  go_enter Tryz.func153,Tryz.ntmps153
  go_wp2_with fail
  refine (EZ x w).mono ?_;rintro e w2 ⟨rfl,rfl⟩;go_wp2_with fail;refine (EZ y w).mono ?_;rintro e w2 ⟨rfl,rfl⟩;go_wp2;go_ret;exact ⟨by rw[HD.out];rfl,rfl⟩
 | false =>
  have hg:=Xw x y w;have q1:Op.bytesLess x.toList y.toList=false:=hl;rw[hl] at hg
  by_cases he:x=y
  ·have HD:Hid (M4 x y=0):=by show _=_;unfold M4;rw[hl,Pd (by simp),AAG he]
   rw[AAX he] at hg;clear hl he
   go_enter Tryz.func153,Tryz.ntmps153
   go_wp2_with fail
   refine (EZ x w).mono ?_;rintro e w2 ⟨rfl,rfl⟩;go_wp2_with fail;refine (EZ y w).mono ?_;rintro e w2 ⟨rfl,rfl⟩;go_wp2;go_ret;exact ⟨by rw[HD.out];rfl,rfl⟩
  ·have HD:Hid (M4 x y=1):=by show _=_;unfold M4;rw[hl,Pd (by simp),Pd he]
   rw[AAU he] at hg;clear hl he
   go_enter Tryz.func153,Tryz.ntmps153
   go_wp2_with fail
   refine (EZ x w).mono ?_;rintro e w2 ⟨rfl,rfl⟩;go_wp2_with fail;refine (EZ y w).mono ?_;rintro e w2 ⟨rfl,rfl⟩;go_wp2;go_ret;exact ⟨by rw[HD.out];rfl,rfl⟩
theorem Zc (h:In64 n):bits .xor .u64 (IntKind.u64.wrap (IntKind.u64.wrap n * 2)) (IntKind.u64.wrap (n / 9223372036854775808))=O6 n:=by
 obtain ⟨h1,h2⟩:=h
 by_cases hn:0<=n
 ·have e1:IntKind.u64.wrap (IntKind.u64.wrap n * 2)=(((2 * n).toNat:Nat):Int):=by rw[IntKind.wrap_u64,IntKind.wrap_u64];omega
  have e2:IntKind.u64.wrap (n / 9223372036854775808)=((0:Nat):Int):=by rw[IntKind.wrap_u64];omega
  rw[e1,e2,bits_xor_u64_nat _ _ (by omega) (by decide),Nat.xor_zero]
  unfold O6;rw[AAG hn];omega
 ·have e1:IntKind.u64.wrap (IntKind.u64.wrap n * 2)=(((2 * n+18446744073709551616).toNat:Nat):Int):=by rw[IntKind.wrap_u64,IntKind.wrap_u64];omega
  have e2:IntKind.u64.wrap (n / 9223372036854775808)=((2 ^ 64 - 1:Nat):Int):=by rw[IntKind.wrap_u64];omega
  rw[e1,e2,bits_xor_u64_nat _ _ (by omega) (by decide),Nat.xor_comm,Lib.xor_ones64 _ (by omega)]
  unfold O6;rw[Pd hn];omega
theorem V4 (n:Int) (h:In64 n) (w:World):Calls Tryz.prog 150 #[.int .i64 n] w fun e w'=>e = .returned (.int .u64 (O6 n))/\w=w':=by
 have HZ:=zh (Zc h)
 go_enter Tryz.func150,Tryz.ntmps150
 go_wp2
 go_ret
 exact ⟨by rw[<-HZ.out];rfl,rfl⟩
section
variable {s:List Ae} {df:AZ->ByteArray}
end
theorem Wv:∀ (L:List (Int×ByteArray)) (b:Int) (K:List ByteArray),Md b K L=true->∀x∈L,(1<=x.1/\x.1<=1000)/\x.2.size<=24
 | [],_,_,_,x,hx=>by cases hx
 | y::L,b,K,h,x,hx=>by
  rw[Md] at h;simp only[AAJ,AAd] at h;obtain ⟨⟨⟨⟨⟨h1,h2⟩,_⟩,_⟩,h5⟩,h6⟩:=h
  rcases AAr.1 hx with e|e
  ·subst e
   unfold Dw at h5;simp only[AAJ,AAd] at h5;exact ⟨⟨h1,h2⟩,h5.1.1.2⟩
  ·exact Wv L _ _ h6 x e
section
variable {s:List Ae} {t:Ae}
theorem jk (hv:zQ s=0) (ht:t∈s) {m:AZ} (hm:m∈t.AA):((1<=m.id/\m.id<=1000)/\m.name.size<=24)/\(0<=m.type/\m.type<(s.length:Int)):=by
 have h:=(DV hv ht).1;unfold Fx at h;simp only[AAJ,AAd] at h;obtain ⟨⟨⟨⟨h1,h2⟩,h3⟩,h4⟩,h5⟩:=h;have key:∀b,MW b t.AA=true->((1<=m.id/\m.id<=1000)/\m.name.size<=24):=fun b hb=>by
  unfold MW RG at hb;simp only[AAJ] at hb;exact Wv _ _ _ hb.1.2.1 _ (List.mem_map.2 ⟨m,hm,rfl⟩)
 refine ⟨?_,(DV hv ht).2 _ (List.mem_map.2 ⟨(m.id,m.type),?_,rfl⟩)⟩
 ·by_cases k5:t.kind=5
  ·unfold Js at h5
   rw[Pd (by omega),Pd (by omega),Pd (by omega),AAG k5] at h5
   exact key _ h5
  by_cases k6:t.kind=6
  ·unfold Js at h5
   rw[Pd (by omega),Pd (by omega),Pd (by omega),Pd (by omega),AAG k6] at h5
   exact key _ h5
  ·exfalso
   have:t.AA=[]:=by
    rw[h3];unfold FB
    (repeat' split) <;> first|rfl|(exfalso;omega)
   rw[this] at hm
   cases hm
 ·unfold Ih
  simp only[AAo,List.mem_map];exact .inl ⟨m,hm,rfl⟩
end
end Go.Proofs.YthkkllmmbefedaaGreatDoor



