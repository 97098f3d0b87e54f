/-
  Walks: cmp.Compare, cmp.Or, Zigzag.
-/
import Derived.Test.YthkkllmmbefedaaGreatDoorQGA7
import Derived.Test.YthkkllmmbefedaaGreatDoorQGA5
import Derived.Test.YthkkllmmbefedaaGreatDoorQGA3
import Derived.Test.YthkkllmmbefedaaGreatDoorQGA6
import Derived.Test.YthkkllmmbefedaaGreatDoorQGA2
import Derived.BigQuiet
import Derived.Deep.DeepCutAuto
import Derived.Deep.CutBlock
import Derived.Deep.LoopGhost
import Derived.Deep.MidRow
import Derived.Lib.Join
import Derived.Lib.Zigzag
namespace Go.Proofs.YthkkllmmbefedaaGreatDoor
open Go.RowKit
set_option maxHeartbeats 16000000
set_option maxRecDepth 100000
structure Ah (b:Nat) (w w':World):Prop where
 Ch:Below b w w'
 Ef:∀q,q≠b->q<w.heap.size->w'.heap[q]? = w.heap[q]?
section
variable {b:Nat} {w w1 w':World}
theorem Ah.of (hb:Below w.heap.size w w') (h:b<=w.heap.size):Ah b w w':=⟨hb.mono h,fun q _ hq=>hb.block q hq⟩
theorem Ah.refl (b:Nat) (w:World):Ah b w w:=⟨Pd _ _,fun _ _ _=>rfl⟩
theorem Ah.trans (h:Ah b w w1) (h':Ah b w1 w'):Ah b w w' :=
 ⟨h.Ch.trans h'.Ch,fun q hq hl=>(h'.Ef q hq (AAt hl h.Ch.size)).trans (h.Ef q hq hl)⟩
theorem Ah.set (h:Ah b w w') (j:Nat) (u:Value):Ah b w (w'.setCell ⟨b,j,none⟩ u) :=
 ⟨h.Ch.setCell (p:=⟨b,j,none⟩) (AAQ _) u,fun q hq hl=>(AAO _ _ _ _ (by simpa using hq)).trans (h.Ef q hq hl)⟩
theorem Ah.below (h:Ah b w w1) (hb:Below w1.heap.size w1 w') (hl:b<w.heap.size):Ah b w w':=h.trans (Ah.of hb (by have:=h.Ch.size;omega))
theorem Ah.up {p:Nat} (h:Ah b w w1) (hb:Below p w1 w') (hp:w.heap.size<=p) (hl:b<=p):Ah b w w' :=
 ⟨h.Ch.trans (hb.mono hl),fun q hq hl=>(hb.block q (AAt hl hp)).trans (h.Ef q hq hl)⟩
theorem Ah.size (h:Ah b w w'):w.heap.size<=w'.heap.size:=h.Ch.size
theorem Ah.off {S:Nat->Prop} {P:World->Prop} (h:Ah b w w') (hS:S b) (hp:Off S w P):Off S w' P:=hp.step h.size fun q hq hl=>h.Ef q (fun e=>hq (e▸hS)) hl
end
structure CZ where
 w0:World
 s:List AZ
 A:zo
 c:Nat
 l:List AB
 AL:zo
 cL:Nat
 b:Nat
structure CZ.Ok (C:CZ):Prop where
 ty:DV C.w0 C.A C.s
 tk:JF C.w0 C.AL C.l
 ge:C.w0.heap.size<=C.b
 len:C.l.length<=1000000
def CZ.o (C:CZ) (i:Nat) (k:Bool) (e:Int):Obj := .cells #[.slice C.A C.s.length C.c,.slice C.AL C.l.length C.cL,.int .i64 i,.bool k,.int .i64 e] 107
structure CF (C:CZ) (w:World) (r:List AB) (k:Bool) (e:Int):Prop where
 ok:C.Ok
 blk:w.heap[C.b]? = some (C.o (C.l.length - r.length) k e)
 LH:r <:+ C.l
 up:Below C.w0.heap.size C.w0 w
section
variable {C:CZ} {w w':World} {r r':List AB} {k k':Bool} {e e':Int}
theorem CF.lt (h:CF C w r k e):C.b<w.heap.size:=(zg.1 h.blk).1
theorem CF.below (h:CF C w r k e) (hb:Below w.heap.size w w'):CF C w' r k e:=⟨h.ok,CW h.blk hb,h.LH,h.up.trans (hb.mono h.up.size)⟩
theorem CF.BF (h:CF C w r k e) (hb:Below w.heap.size w w'):Ah C.b w w':=Ah.of hb (AAT h.lt)
theorem CF.cells (h:CF C w r k e):(w.cell? ⟨C.b,0,none⟩=some (.slice C.A C.s.length C.c)/\w.cell? ⟨C.b,1,none⟩=some (.slice C.AL C.l.length C.cL)/\w.cell? ⟨C.b,2,none⟩=some (.int .i64 ((C.l.length - r.length:Nat):Int))/\w.cell? ⟨C.b,3,none⟩=some (.bool k)/\w.cell? ⟨C.b,4,none⟩=some (.int .i64 e))/\(∀j,w.frozen? ⟨C.b,j,none⟩=false):=by
 have hb:=h.blk;unfold CZ.o at hb;refine ⟨⟨?_,?_,?_,?_,?_⟩,fun j=>AAK _ _ _ _ _ hb⟩ <;> (rw[AAB _ _ _ _ _ _ hb];rfl)
theorem CF.setAt (h:CF C w r k e) (hs:r' <:+ C.l) {i:Int} (hi:i=((C.l.length - r'.length:Nat):Int)):CF C (w.setCell ⟨C.b,2,none⟩ (.int .i64 i)) r' k e:=by
 subst hi;refine ⟨h.ok,?_,hs,h.up.setCell (p:=⟨C.b,2,none⟩) h.ok.ge _⟩;have hb:=h.blk;unfold CZ.o at hb;rw[AAV _ _ 2 _ _ _ hb]
 rfl
theorem CF.tV (h:CF C w r k e) (k':Bool):CF C (w.setCell ⟨C.b,3,none⟩ (.bool k')) r k' e:=by
 refine ⟨h.ok,?_,h.LH,h.up.setCell (p:=⟨C.b,3,none⟩) h.ok.ge _⟩;have hb:=h.blk;unfold CZ.o at hb;rw[AAV _ _ 3 _ _ _ hb]
 rfl
theorem CF.oP (h:CF C w r k e) (e':Int):CF C (w.setCell ⟨C.b,4,none⟩ (.int .i64 e')) r k e':=by
 refine ⟨h.ok,?_,h.LH,h.up.setCell (p:=⟨C.b,4,none⟩) h.ok.ge _⟩;have hb:=h.blk;unfold CZ.o at hb;rw[AAV _ _ 4 _ _ _ hb]
 rfl
variable {t:AB}
theorem CF.RU (h:CF C w r k e) {i:Nat} (hi:C.l[i]? = some t):∃bb o,C.AL=some ⟨bb,o,none⟩/\(Dc t.text/\Dc t.str) /\
  w.cell? ⟨bb,o+i * 5,none⟩=some (.int .i64 t.kind)/\w.cell? ⟨bb,o+i * 5+1,none⟩=some (.string t.text)/\w.cell? ⟨bb,o+i * 5+2,none⟩=some (.int .i64 t.int)/\w.cell? ⟨bb,o+i * 5+3,none⟩=some (.string t.str)/\w.cell? ⟨bb,o+i * 5+4,none⟩=some (.int .i64 t.line):=by
 obtain ⟨hi2,rfl⟩:=AAZ.1 hi;obtain ⟨bb,o,hA,h0,h1,h2,h3,h4,h5⟩:=h.ok.tk.cells hi2;exact ⟨bb,o,hA,h0,zA h.up h1,zA h.up h2,zA h.up h3,zA h.up h4,zA h.up h5⟩
theorem CF.fB {q:List AB} (h:CF C w (t::q) k e):C.l[C.l.length - (t::q).length]? = some t:=by
 obtain ⟨p,hp⟩:=h.LH;have hl:C.l.length - (t::q).length=p.length:=by rw[<-hp];simp
 rw[hl,<-hp,AAw (AAQ _),Nat.sub_self]
 rfl
theorem CF.tail {q:List AB} (h:CF C w (t::q) k e):q <:+ C.l/\(((C.l.length - (t::q).length:Nat):Int)+1=((C.l.length - q.length:Nat):Int)):=by
 have h1:=h.LH;have h2:=h1.length_le;rw[AAS] at h2 ⊢;exact ⟨(List.suffix_cons t q).trans h1,by omega⟩
end
structure BX where
 v:Val
 A1:zo
 c1:Nat
 A2:zo
 c2:Nat
 A3:zo
 c3:Nat
def BX.cells (x:BX):List Value:=x.v.cs x.A1 x.c1 x.A2 x.c2 x.A3 x.c3
theorem Gr (x:BX):∀u∈x.cells,u.oneCell'=true:=fun u hu=>by
 unfold BX.cells at hu;simp only[AAf,List.mem_nil_iff,or_false] at hu
 rcases hu with rfl|rfl|rfl|rfl|rfl|rfl|rfl|rfl <;> rfl
def encR (r:Ac):List Value:=[.int .i64 r.id,.string r.data]
theorem U0 (x:Ac):∀u∈encR x,u.oneCell'=true:=fun u hu=>by
 unfold encR at hu;simp only[AAf,List.mem_nil_iff,or_false] at hu
 rcases hu with rfl|rfl <;> rfl
abbrev aA:=Ak 28 8 BX.cells
abbrev lZ:=Ak 97 2 encR
def NH (kd:Int) (bo:Bool) (it:Int) (st:ByteArray) (di:Int) (vk vi vr:Value):Obj := .cells #[.int .i64 kd,.bool bo,.int .i64 it,.string st,.int .i64 di,vk,vi,vr] 28
def RB (p:Nat) (vk vi vr:Value) (q:Nat):Prop:=q<=p\/vk.ownBlock=some q\/vi.ownBlock=some q\/vr.ownBlock=some q
structure Gf (p:Nat) (w:World) (kd:Int) (bo:Bool) (it:Int) (st:ByteArray) (di:Int) (vk vi vr:Value) (K I:List BX) (R:List Ac):Prop where
 blk:w.heap[p]? = some (NH kd bo it st di vk vi vr)
 ok:aA w (p+1) vk K
 oi:aA w (p+1) vi I
 Pp:lZ w (p+1) vr R
 ne:∀q,vk.ownBlock=some q->vi.ownBlock≠some q
 off:∀y∈K++I,Off (RB p vk vi vr) w fun u=>BO u y.v y.A1 y.A2 y.A3
 str:Dc st
 raw:∀y∈R,Dc y.data
section
variable {p:Nat} {w w':World} {kd:Int} {bo:Bool} {it:Int} {st:ByteArray} {di:Int} {vk vi vr:Value} {K I:List BX} {R:List Ac}
theorem Gf.lt (h:Gf p w kd bo it st di vk vi vr K I R):p<w.heap.size:=(zg.1 h.blk).1
theorem Gf.keep (h : Gf p w kd bo it st di vk vi vr K I R) (hz : w.heap.size <= w'.heap.size) (hk : ∀ q, p <= q -> q < w.heap.size -> w'.heap[q]? = w.heap[q]?) : Gf p w' kd bo it st di vk vi vr K I R :=
  ⟨(hk p (AAQ _) h.lt).trans h.blk, h.ok.keep fun g hg hl _ => hk g (by omega) hl, h.oi.keep fun g hg hl _ => hk g (by omega) hl, h.Pp.keep fun g hg hl _ => hk g (by omega) hl, h.ne,
    fun y hy => (h.off y hy).step hz fun q hq hl => hk q (AAT (Nat.lt_of_not_le fun e => hq (.inl e))) hl, h.str, h.raw⟩
theorem Gf.below (h:Gf p w kd bo it st di vk vi vr K I R) (hb:Below w.heap.size w w'):Gf p w' kd bo it st di vk vi vr K I R:=h.keep hb.size fun q _ hq=>hb.block q hq
theorem Gf.BF {b:Nat} (h:Gf p w kd bo it st di vk vi vr K I R) (hb:Ah b w w') (hl:b<p):Gf p w' kd bo it st di vk vi vr K I R:=h.keep hb.size fun q hp hq=>hb.Ef q (by omega) hq
theorem Gf.cells (h:Gf p w kd bo it st di vk vi vr K I R):(w.cell? ⟨p,0,none⟩=some (.int .i64 kd)/\w.cell? ⟨p,1,none⟩=some (.bool bo)/\w.cell? ⟨p,2,none⟩=some (.int .i64 it)/\w.cell? ⟨p,3,none⟩=some (.string st)/\w.cell? ⟨p,4,none⟩=some (.int .i64 di)/\w.cell? ⟨p,5,none⟩=some vk/\w.cell? ⟨p,6,none⟩=some vi/\w.cell? ⟨p,7,none⟩=some vr)/\(∀j,w.frozen? ⟨p,j,none⟩=false):=by
 have hb:=h.blk;unfold NH at hb;refine ⟨⟨?_,?_,?_,?_,?_,?_,?_,?_⟩,fun j=>AAK _ _ _ _ _ hb⟩ <;> (rw[AAB _ _ _ _ _ _ hb];rfl)
theorem Gf.new (w:World) (kd:Int):Gf w.heap.size (w.alloc (NH kd false 0 ⟨#[]⟩ 0 (.slice none 0 0) (.slice none 0 0) (.slice none 0 0))) kd false 0 ⟨#[]⟩ 0 (.slice none 0 0) (.slice none 0 0) (.slice none 0 0) [] [] [] :=
 ⟨AAA w _,Ak.nil _ _,Ak.nil _ _,Ak.nil _ _,(fun _ h=>by cases h),(fun _ h=>by cases h),by unfold Dc;decide,(fun _ h=>by cases h)⟩
theorem Gf.Tk (h:Gf p w kd bo it st di vk vi vr K I R) {j:Nat} {u:Value} {uo:Bool} {it':Int} {st':ByteArray} {nG:Int} (hu:(#[Value.int .i64 kd,.bool bo,.int .i64 it,.string st,.int .i64 di,vk,vi,vr]:Array Value).setIfInBounds j u = #[.int .i64 kd,.bool uo,.int .i64 it',.string st',.int .i64 nG,vk,vi,vr]) (hs:Dc st') :
  Gf p (w.setCell ⟨p,j,none⟩ u) kd uo it' st' nG vk vi vr K I R:=by
 have hb:=h.blk;unfold NH at hb;refine ⟨?_,h.ok.keep fun g hg _ _=>AAO _ _ _ _ (by simp only;omega),h.oi.keep fun g hg _ _=>AAO _ _ _ _ (by simp only;omega),h.Pp.keep fun g hg _ _=>AAO _ _ _ _ (by simp only;omega),h.ne,
  fun y hy=>(h.off y hy).set u (.inl (AAQ _)),hs,h.raw⟩
 rw[AAV _ _ j _ _ u hb,hu];rfl
theorem Jo (h:Gf p w kd bo it st di vk vi vr K I R):(∀q,vk.ownBlock=some q->p<q/\q<w.heap.size)/\(∀q,vi.ownBlock=some q->p<q/\q<w.heap.size)/\(∀q,vr.ownBlock=some q->p<q/\q<w.heap.size) :=
 ⟨fun q hq=>World.ownsRow.lt h.ok q hq,fun q hq=>World.ownsRow.lt h.oi q hq,fun q hq=>World.ownsRow.lt h.Pp q hq⟩
theorem own_ne {w:World} {base fT:Nat} {v v2:Value} {l:List BX} {l2:List Ac} (h:aA w base v l) (h2:lZ w fT v2 l2) (q:Nat) (hq:v.ownBlock=some q):v2.ownBlock≠some q:=fun e=>by
 obtain ⟨c1,f1,e1⟩:=h.block hq;obtain ⟨c2,f2,e2⟩:=h2.block e;rw[e1] at e2
 injection e2 with e2
 injection e2 with _ e3
 exact absurd e3 (by decide)
variable {v8:Value} {w4 w8:World}
theorem Gf.item (h:Gf p w kd bo it st di vk vi vr K I R) {x:BX} (hx:Off (RB p vk vi vr) w fun u=>BO u x.v x.A1 x.A2 x.A3) (hb4:Below w.heap.size w w4) (ho:w8.ownsRow (p+1) 28 8 v8 (I.length+1) (I.flatMap BX.cells++x.cells)) (hg:w4.grownBy w8 vi.ownBlock) (hv:v8.ownBlock=vi.ownBlock\/v8.ownBlock=some w4.heap.size):
  Gf p (w8.setCell ⟨p,6,none⟩ v8) kd bo it st di vk v8 vr K (I++[x]) R/\Below p w (w8.setCell ⟨p,6,none⟩ v8)/\∀q,q≠p->vi.ownBlock≠some q->q<w.heap.size->(w8.setCell ⟨p,6,none⟩ v8).heap[q]? = w.heap[q]? := by
 have h4:=h.below hb4;obtain ⟨l1,l2,l3⟩:=Jo h4;have hk:∀q,q<w4.heap.size->vi.ownBlock≠some q->w8.heap[q]? = w4.heap[q]? := fun q hq hne=>yA hg hq fun k hk e=>hne (by rw[hk,e])
 have eP:=(hk p h4.lt fun e=>by have:=l2 p e;omega).trans h4.blk
 have hso:∀q,q≠p->(w8.setCell ⟨p,6,none⟩ v8).heap[q]? = w8.heap[q]? := fun q hq=>AAO _ _ _ _ (by simpa using hq)
 have hz8:=hg.size;refine ⟨⟨?_,?_,?_,?_,?_,?_,h.str,h.raw⟩,((((hb4.mono (AAT h.lt)).grown hg (AAT h4.lt) fun q hq=>by have:=l2 q hq;omega)).setCell (p:=⟨p,6,none⟩) (AAQ _) v8),fun q h1 h2 h3=>((hso q h1).trans (hk q (by have:=hb4.size;omega) h2)).trans (hb4.block q h3)⟩
 ·unfold NH at eP
  rw[AAV _ _ 6 _ _ v8 eP];rfl
 ·exact h4.ok.keep fun g hg1 hl hv0=>(hso g (by omega)).trans (hk g hl (h.ne g hv0))
 ·have ho':aA w8 (p+1) v8 (I++[x]):=Ak.snoc ho
  exact ho'.keep fun g hg1 _ _=>hso g (by omega)
 ·exact h4.Pp.keep fun g hg1 hl hv0=>(hso g (by omega)).trans (hk g hl fun e=>own_ne h4.oi h4.Pp g e hv0)
 ·intro q hq e
  rcases hv with e2|e2
  ·exact h.ne q hq (e2▸e)
  ·rw[e2] at e
   have:=AAb e;have:=(l1 q hq).2
   omega
 ·intro y hy
  have hy':Off (RB p vk vi vr) w4 fun u=>BO u y.v y.A1 y.A2 y.A3:=by
   rw[<-AAx] at hy
   rcases AAl.1 hy with k|k
   ·exact h4.off y k
   ·obtain rfl:y=x:=by simpa using k
    exact hx.low hb4
  refine hy'.grow (fun q hq hs=>?_) (fun q hq hn=>?_) (by simp;omega)
  ·rcases hs with e|e|e|e
   ·exact .inl e
   ·exact .inr (.inl e)
   ·rcases hv with e2|e2
    ·exact .inr (.inr (.inl (e2▸e)))
    ·rw[e2] at e
     have:=AAb e
     omega
   ·exact .inr (.inr (.inr e))
  ·exact (hso q fun e=>hn (.inl (Nat.le_of_eq e))).trans (hk q hq fun e=>hn (.inr (.inr (.inl e))))
theorem Gf.key (h:Gf p w kd bo it st di vk vi vr K I R) {x:BX} (hx:Off (RB p vk vi vr) w fun u=>BO u x.v x.A1 x.A2 x.A3) (hb4:Below w.heap.size w w4) (ho:w8.ownsRow (p+1) 28 8 v8 (K.length+1) (K.flatMap BX.cells++x.cells)) (hg:w4.grownBy w8 vk.ownBlock) (hv:v8.ownBlock=vk.ownBlock\/v8.ownBlock=some w4.heap.size):
  Gf p (w8.setCell ⟨p,5,none⟩ v8) kd bo it st di v8 vi vr (K++[x]) I R/\Below p w (w8.setCell ⟨p,5,none⟩ v8)/\∀q,q≠p->vk.ownBlock≠some q->q<w.heap.size->(w8.setCell ⟨p,5,none⟩ v8).heap[q]? = w.heap[q]? := by
 have h4:=h.below hb4;obtain ⟨l1,l2,l3⟩:=Jo h4;have hk:∀q,q<w4.heap.size->vk.ownBlock≠some q->w8.heap[q]? = w4.heap[q]? := fun q hq hne=>yA hg hq fun k hk e=>hne (by rw[hk,e])
 have eP:=(hk p h4.lt fun e=>by have:=l1 p e;omega).trans h4.blk
 have hso:∀q,q≠p->(w8.setCell ⟨p,5,none⟩ v8).heap[q]? = w8.heap[q]? := fun q hq=>AAO _ _ _ _ (by simpa using hq)
 have hz8:=hg.size;refine ⟨⟨?_,?_,?_,?_,?_,?_,h.str,h.raw⟩,((((hb4.mono (AAT h.lt)).grown hg (AAT h4.lt) fun q hq=>by have:=l1 q hq;omega)).setCell (p:=⟨p,5,none⟩) (AAQ _) v8),fun q h1 h2 h3=>((hso q h1).trans (hk q (by have:=hb4.size;omega) h2)).trans (hb4.block q h3)⟩
 ·unfold NH at eP
  rw[AAV _ _ 5 _ _ v8 eP];rfl
 ·have ho':aA w8 (p+1) v8 (K++[x]):=Ak.snoc ho
  exact ho'.keep fun g hg1 _ _=>hso g (by omega)
 ·exact h4.oi.keep fun g hg1 hl hv0=>(hso g (by omega)).trans (hk g hl fun e=>h.ne g e hv0)
 ·exact h4.Pp.keep fun g hg1 hl hv0=>(hso g (by omega)).trans (hk g hl fun e=>own_ne h4.ok h4.Pp g e hv0)
 ·intro q hq e
  rcases hv with e2|e2
  ·exact h.ne q (e2▸hq) e
  ·rw[e2] at hq
   have:=AAb hq;have:=(l2 q e).2
   omega
 ·intro y hy
  have hy':Off (RB p vk vi vr) w4 fun u=>BO u y.v y.A1 y.A2 y.A3:=by
   rcases AAl.1 hy with k|k
   ·rcases AAl.1 k with k|k
    ·exact h4.off y (AAn _ k)
    ·obtain rfl:y=x:=by simpa using k
     exact hx.low hb4
   ·exact h4.off y (ABC _ k)
  refine hy'.grow (fun q hq hs=>?_) (fun q hq hn=>?_) (by simp;omega)
  ·rcases hs with e|e|e|e
   ·exact .inl e
   ·rcases hv with e2|e2
    ·exact .inr (.inl (e2▸e))
    ·rw[e2] at e
     have:=AAb e
     omega
   ·exact .inr (.inr (.inl e))
   ·exact .inr (.inr (.inr e))
  ·exact (hso q fun e=>hn (.inl (Nat.le_of_eq e))).trans (hk q hq fun e=>hn (.inr (.inl e)))
theorem Gf.UA (h:Gf p w kd bo it st di vk vi vr K I R) {x:Ac} (hx:Dc x.data) (hb4:Below w.heap.size w w4) (ho:w8.ownsRow (p+1) 97 2 v8 (R.length+1) (R.flatMap encR++encR x)) (hg:w4.grownBy w8 vr.ownBlock) (hv:v8.ownBlock=vr.ownBlock\/v8.ownBlock=some w4.heap.size):
  Gf p (w8.setCell ⟨p,7,none⟩ v8) kd bo it st di vk vi v8 K I (R++[x])/\Below p w (w8.setCell ⟨p,7,none⟩ v8)/\∀q,q≠p->vr.ownBlock≠some q->q<w.heap.size->(w8.setCell ⟨p,7,none⟩ v8).heap[q]? = w.heap[q]? := by
 have h4:=h.below hb4;obtain ⟨l1,l2,l3⟩:=Jo h4;have hk:∀q,q<w4.heap.size->vr.ownBlock≠some q->w8.heap[q]? = w4.heap[q]? := fun q hq hne=>yA hg hq fun k hk e=>hne (by rw[hk,e])
 have eP:=(hk p h4.lt fun e=>by have:=l3 p e;omega).trans h4.blk
 have hso:∀q,q≠p->(w8.setCell ⟨p,7,none⟩ v8).heap[q]? = w8.heap[q]? := fun q hq=>AAO _ _ _ _ (by simpa using hq)
 have hz8:=hg.size;refine ⟨⟨?_,?_,?_,?_,h.ne,?_,h.str,?_⟩,((((hb4.mono (AAT h.lt)).grown hg (AAT h4.lt) fun q hq=>by have:=l3 q hq;omega)).setCell (p:=⟨p,7,none⟩) (AAQ _) v8),fun q h1 h2 h3=>((hso q h1).trans (hk q (by have:=hb4.size;omega) h2)).trans (hb4.block q h3)⟩
 ·unfold NH at eP
  rw[AAV _ _ 7 _ _ v8 eP];rfl
 ·exact h4.ok.keep fun g hg1 hl hv0=>(hso g (by omega)).trans (hk g hl (own_ne h4.ok h4.Pp g hv0))
 ·exact h4.oi.keep fun g hg1 hl hv0=>(hso g (by omega)).trans (hk g hl (own_ne h4.oi h4.Pp g hv0))
 ·have ho':lZ w8 (p+1) v8 (R++[x]):=Ak.snoc ho
  exact ho'.keep fun g hg1 _ _=>hso g (by omega)
 ·intro y hy
  refine (h4.off y hy).grow (fun q hq hs=>?_) (fun q hq hn=>?_) (by simp;omega)
  ·rcases hs with e|e|e|e
   ·exact .inl e
   ·exact .inr (.inl e)
   ·exact .inr (.inr (.inl e))
   ·rcases hv with e2|e2
    ·exact .inr (.inr (.inr (e2▸e)))
    ·rw[e2] at e
     have:=AAb e
     omega
  ·exact (hso q fun e=>hn (.inl (Nat.le_of_eq e))).trans (hk q hq fun e=>hn (.inr (.inr (.inr e))))
 ·intro y hy
  rcases AAl.1 hy with k|k
  ·exact h.raw y k
  ·obtain rfl:y=x:=by simpa using k
   exact hx
theorem LY {w:World} {A:zo} {L:List BX} (h:Ae 8 120 (fun x cs=>Val.At w x.v cs) w A L):DJ w A (L.map (·.v)):=by
 refine ⟨by rw[AAk];exact h.1,fun hn=>?_⟩
 obtain ⟨b,o,e,hi⟩:=h.2 (fun e=>hn (by rw[e];rfl))
 refine ⟨b,o,e,fun i x hx=>?_⟩
 rw[List.getElem?_map] at hx;obtain ⟨y,hy,rfl⟩:=AAj.1 hx;exact hi i y hy
theorem Gf.fin (h:Gf p w kd bo it st di vk vi vr K I R) (hK:D9 120 K.length) (hI:D9 120 I.length) (hR:D9 24 R.length):∃A1 c1 A2 c2 A3 c3,vk = .slice A1 K.length c1/\vi = .slice A2 I.length c2/\vr = .slice A3 R.length c3 /\
  Off (fun q=>q<=p) w fun u=>BO u (.mk kd bo it st di (K.map (·.v)) (I.map (·.v)) R) A1 A2 A3:=by
 obtain ⟨A1,c1,rfl,_⟩:=h.ok.reads;obtain ⟨A2,c2,rfl,_⟩:=h.oi.reads;obtain ⟨A3,c3,rfl,_⟩:=h.Pp.reads;refine ⟨A1,c1,A2,c2,A3,c3,rfl,rfl,rfl,fun u hu=>?_⟩
 have hk:∀q,p+1<=q->q<w.heap.size->u.heap[q]? = w.heap[q]? := fun q hq hl=>hu q (by omega) hl
 have hv:∀y∈K++I,BO u y.v y.A1 y.A2 y.A3:=fun y hy=>h.off y hy u fun q hq hl=>hu q (fun e=>hq (.inl e)) hl
 obtain ⟨B1,d1,e1,g1⟩:=(h.ok.keep fun g hg hl _=>hk g hg hl).rows (bytes:=120) (at_:=fun x cs=>Val.At u x.v cs) (fun _=>rfl) hK fun y hy=>Val.Fh.2 ⟨_,_,_,_,_,_,rfl,hv y (AAn _ hy)⟩
 obtain ⟨B2,d2,e2,g2⟩:=(h.oi.keep fun g hg hl _=>hk g hg hl).rows (bytes:=120) (at_:=fun x cs=>Val.At u x.v cs) (fun _=>rfl) hI fun y hy=>Val.Fh.2 ⟨_,_,_,_,_,_,rfl,hv y (ABC _ hy)⟩
 obtain ⟨B3,d3,e3,g3⟩:=(h.Pp.keep fun g hg hl _=>hk g hg hl).rows (bytes:=24) (at_:=Ac.At) (fun _=>rfl) hR fun y hy=>⟨h.raw y hy,rfl⟩
 injection e1 with e1 _ _
 injection e2 with e2 _ _
 injection e3 with e3 _ _
 subst e1 e2 e3;exact ⟨h.str,LY g1,LY g2,g3⟩
end
def Ev {α:Type} (part:List AB->Bool->PR α) (R:PR (List α)) (acc:List α) (r:List AB) (k:Bool):Prop:=R=(JK part r k).bind fun q => .ok (acc++q.1,q.2)
section
variable {α:Type} {part:List AB->Bool->PR α} {R:PR (List α)} {acc:List α} {r r':List AB} {k k':Bool} {x:α} {e:Int}
theorem Ev.start (part:List AB->Bool->PR α) (r:List AB) (k:Bool):Ev part (JK part r k) [] r k:=by
 unfold Ev
 cases JK part r k with
 | error e=>rfl
 | ok q=>rfl
theorem Ev.bad (hd:Dec part) (h:Ev part R acc r k) (hp:part r k = .error e):R = .error e:=by
 unfold Ev at h;rw[OC hd,hp] at h;exact h
theorem Ev.comma (hd:Dec part) (h:Ev part R acc r k) (hp:part r k = .ok (x,r',k')) (hc:Ba ⟨#[44]⟩ r'=true):Ev part R (acc++[x]) r'.tail k':=by
 unfold Ev at h ⊢;rw[OC hd,hp,zM,AAC hc] at h;rw[h]
 cases JK part r'.tail k' with
 | error e=>rfl
 | ok q=>simp only[zM,AAx,List.singleton_append]
theorem Ev.fin (hd:Dec part) (h:Ev part R acc r k) (hp:part r k = .ok (x,r',k')) (hc:Ba ⟨#[44]⟩ r'=false):R = .ok (acc++[x],r',k'):=by
 unfold Ev at h;rw[OC hd,hp,zM,Pe (by rw[hc];simp)] at h
 exact h
end
variable {r:List AB}
theorem WU {s s':ByteArray} (hn:s≠s') (h:Ba s r=true):Ba s' r=false:=by
 cases r with
 | nil=>rfl
 | cons t q =>
  rw[Ba,AAG,AAY,AAY] at h;rw[Ba,h.2,AAE hn,Bool.and_false]
def Y6 (r:List AB):Except Int (List Ac×List AB) :=
 (Bg 2 r).bind fun p=>(BG ⟨#[58]⟩ p.2).bind fun l3=>(Bg 3 l3).bind fun q=>(Cx false false q.2).bind fun z => .ok (⟨p.1.int,q.1.str⟩::z.1,z.2)
abbrev Kb:=PR (List Val×List Ac)
def Ms (acc:List Val) (rs:List Ac) (k:Bool) (a:Except Int (List Ac×List AB)):Kb:=a.bind fun q=>(BG ⟨#[125]⟩ q.2).bind fun l2 => .ok ((acc,rs++q.1),l2,k)
section
variable {f:Int->List AB->Bool->PR Val} {R:Kb} {acc:List Val} {rs:List Ac} {ms:List AY} {r r':List AB} {k k':Bool} {x:Val} {e:Int} {y:AY}
def ML (f:Int->List AB->Bool->PR Val) (R:Kb) (acc:List Val) (rs:List Ac) (ms:List AY) (r:List AB) (k:Bool):Prop :=
 (ms=[]/\R=Ms acc rs k (Y6 r))\/(ms≠[]/\rs=[]/\R=(BM f true ms r k).bind fun p=>Ms (acc++p.1) [] p.2.2 (Cx false false p.2.1))
def PG (f:Int->List AB->Bool->PR Val) (R:Kb) (acc:List Val) (rs:List Ac) (ms:List AY) (r:List AB) (k:Bool):Prop :=
 (ms=[]/\R=Ms acc rs k (Cx false false r))\/(ms≠[]/\rs=[]/\Ba ⟨#[44]⟩ r=true/\R=(BM f false ms r k).bind fun p=>Ms (acc++p.1) [] p.2.2 (Cx false false p.2.1))
theorem Vy (r:List AB) (h:Ba ⟨#[125]⟩ r=false):Cx false true r=Y6 r:=by
 rw[IA,Pe (by rw[h];simp),AAC rfl,zM]
 unfold Y6;simp only[GH,Bool.false_eq_true,false_and,if_false]
theorem Vz (r:List AB) (h:Ba ⟨#[44]⟩ r=true):Cx false false r=Y6 r.tail:=by
 rw[IA,Pe (by rw[WU (by decide) h];simp),Pe (by simp)]
 unfold BG Y6;rw[AAC h,zM];simp only[GH,Bool.false_eq_true,false_and,if_false]
 rfl
theorem bn (r:List AB) (h:Ba ⟨#[125]⟩ r=true):Cx false false r = .ok ([],r):=by rw[IA,AAC h]
theorem jZ (r:List AB) (h:Ba ⟨#[125]⟩ r=false) (h2:Ba ⟨#[44]⟩ r=false):Cx false false r = .error 2:=by
 rw[IA,Pe (by rw[h];simp),Pe (by simp)]
 unfold BG;rw[Pe (by rw[h2];simp),Aj]
def Rm (f:Int->List AB->Bool->PR Val) (ms:List AY) (r:List AB) (k:Bool):Kb :=
 (BM f true ms r k).bind fun p=>Ms p.1 [] p.2.2 (Cx false ms.isEmpty p.2.1)
theorem jX (x:AZ) (l:List AB) (k:Bool):H9 false f x l k=(BG ⟨#[123]⟩ l).bind fun l1=>Rm f x.AA l1 k:=rfl
theorem ML.start (hc:Ba ⟨#[125]⟩ r=false):ML f (Rm f ms r k) [] [] ms r k:=by
 cases ms with
 | nil =>
  refine .inl ⟨rfl,?_⟩;unfold Rm;rw[BM,zM];simp only[List.isEmpty_nil];rw[Vy r hc]
 | cons y ms=>exact .inr ⟨by simp,rfl,rfl⟩
theorem Y2 (hc:Ba ⟨#[125]⟩ r=true):Rm f [] r k = .ok (([],[]),r.tail,k):=by
 unfold Rm;rw[BM,zM];simp only[List.isEmpty_nil];rw[IA,AAC hc];unfold Ms;rw[zM];unfold BG;simp only;rw[AAC hc,zM]
 rfl
theorem RV {n:Int} {s:ByteArray} (h:Ba s r=true) (hn:n≠4):Bg n r = .error 2:=by
 obtain ⟨t,q,rfl,h1,_⟩:=BN h;rw[Bg,Pe (by omega)]
theorem bY (hm:ms≠[]) (hc:Ba ⟨#[125]⟩ r=true):Rm f ms r k = .error 2:=by
 cases ms with
 | nil=>exact absurd rfl hm
 | cons y ms =>
  unfold Rm;rw[BM,AAC rfl,zM,RV hc (by decide)]
  rfl
theorem PG.comma (h:PG f R acc rs ms r k) (hc:Ba ⟨#[44]⟩ r=true):ML f R acc rs ms r.tail k:=by
 rcases h with ⟨h1,h2⟩|⟨h1,h2,h3,h4⟩
 ·exact .inl ⟨h1,by rw[h2,Vz r hc]⟩
 ·refine .inr ⟨h1,h2,h4.trans ?_⟩
  cases ms with
  | nil=>exact absurd rfl h1
  | cons y ms =>
   rw[BM,BM,Pe (by simp),AAC rfl]
   unfold BG;rw[AAC hc]
theorem PG.fin (h:PG f R acc rs ms r k) (hc:Ba ⟨#[44]⟩ r=false) (hb:Ba ⟨#[125]⟩ r=true):R = .ok ((acc,rs),r.tail,k):=by
 rcases h with ⟨_,h2⟩|⟨_,_,h3,_⟩
 ·rw[h2,bn r hb]
  unfold Ms;rw[zM];unfold BG;simp only;rw[AAC hb,zM,List.append_nil]
 ·rw[hc] at h3;cases h3
theorem PG.bad (h:PG f R acc rs ms r k) (hc:Ba ⟨#[44]⟩ r=false) (hb:Ba ⟨#[125]⟩ r=false):R = .error 2:=by
 rcases h with ⟨_,h2⟩|⟨_,_,h3,_⟩
 ·rw[h2,jZ r hb hc];rfl
 ·rw[hc] at h3;cases h3
theorem ML.name (h:ML f R acc rs (y::ms) r k):rs=[]/\R=(Bg 1 r).bind fun p=>if p.1.text=y.name then (BG ⟨#[58]⟩ p.2).bind fun l2=>(f y.type l2 k).bind fun q=>(BM f false ms q.2.1 q.2.2).bind fun z=>Ms (acc++(q.1::z.1)) [] z.2.2 (Cx false false z.2.1) else .error 4:=by
 rcases h with ⟨h1,_⟩|⟨_,h2,h3⟩
 ·cases h1
 ·refine ⟨h2,h3.trans ?_⟩
  rw[BM,AAC rfl,zM]
  cases Bg 1 r with
  | error e=>rfl
  | ok p =>
   rw[zM,zM]
   split
   ·cases BG ⟨#[58]⟩ p.2 with
    | error e=>rfl
    | ok l2 =>
     rw[zM,zM]
     cases f y.type l2 k with
     | error e=>rfl
     | ok q =>
      rw[zM,zM]
      cases BM f false ms q.2.1 q.2.2 with
      | error e=>rfl
      | ok z=>rfl
   ·rfl
theorem jY (hr:rs=[]) (h:R=(BM f false ms r k).bind fun z=>Ms (acc++z.1) [] z.2.2 (Cx false false z.2.1)) (hc:ms=[]\/Ba ⟨#[44]⟩ r=true):PG f R acc rs ms r k:=by
 by_cases hm:ms=[]
 ·refine .inl ⟨hm,?_⟩
  rw[h,hm,BM,zM,hr];simp only[List.append_nil]
 ·exact .inr ⟨hm,hr,hc.resolve_left hm,h⟩
theorem o7 (h:R=(BM f false ms r k).bind fun z=>Ms (acc++z.1) [] z.2.2 (Cx false false z.2.1)) (hm:ms≠[]) (hc:Ba ⟨#[44]⟩ r=false):R = .error 2:=by
 cases ms with
 | nil=>exact absurd rfl hm
 | cons y ms =>
  rw[h,BM,Pe (by simp)]
  unfold BG;rw[Pe (by rw[hc];simp)]
  rfl
theorem ML.raw (h:ML f R acc rs [] r k):R=(Bg 2 r).bind fun p=>(BG ⟨#[58]⟩ p.2).bind fun l3=>(Bg 3 l3).bind fun q=>Ms acc (rs++[⟨p.1.int,q.1.str⟩]) k (Cx false false q.2):=by
 rcases h with ⟨_,h2⟩|⟨h1,_⟩
 ·rw[h2]
  unfold Y6
  cases Bg 2 r with
  | error e=>rfl
  | ok p =>
   rw[zM,zM]
   cases BG ⟨#[58]⟩ p.2 with
   | error e=>rfl
   | ok l3 =>
    rw[zM,zM]
    cases Bg 3 l3 with
    | error e=>rfl
    | ok q =>
     rw[zM,zM]
     cases Cx false false q.2 with
     | error e=>rfl
     | ok z =>
      unfold Ms;simp only[zM,AAx,List.singleton_append]
 ·exact absurd rfl h1
end
variable {k:Bool} {e:Int} {C:CZ} {w:World}
theorem zX (T:ByteArray) (h:CF C w r k e):
  Calls Tryz.prog 160 #[.pointer (some ⟨C.b,0,none⟩),.string T] w fun x w'=>x = .returned (.bool (Ba T r))/\Below w.heap.size w w':=by
 obtain ⟨⟨c0,c1,c2,c3,c4⟩,hf⟩:=h.cells;have Ny:=h.ok.len
 cases r with
 | nil =>
  have z1:decide (((C.l.length - ([]:List AB).length:Nat):Int)<(C.l.length:Int))=false:=by simp
  clear h hf
  go_enter Tryz.func160,Tryz.ntmps160
  go_wp2_with fail
  go_quiet (fail)
  go_wp2
  go_ret
  exact ⟨rfl,zC (Pd _ _) _⟩
 | cons t q =>
  have hgi:=h.fB;obtain ⟨bb,o,hA,_,t0,t1,t2,t3,t4⟩:=h.RU hgi;have hi:=(AAZ.1 hgi).1;rw[hA] at c1;have hq:Ba T (t::q)=(decide (t.kind=4)&&decide (t.text=T)):=rfl;rw[hq];clear h hf hq hgi;generalize C.l.length - (t::q).length=i at *;have z1:decide ((i:Int)<(C.l.length:Int))=true:=by simp;omega
  have z2:(0:Int)<=(i:Int):=by omega
  have z3:(i:Int)<(C.l.length:Int):=by omega
  have HE:=zh (bytes_beq t.text T)
  by_cases hk:t.kind=4
  ·have q1:(t.kind==4)=true:=by simp[hk]
   rw[hk,<-bytes_beq];clear hk HE
   go_enter Tryz.func160,Tryz.ntmps160
   go_wp2_with fail
   go_quiet (fail)
   go_wp2
   go_ret
   exact ⟨rfl,zC (Pd _ _) _⟩
  ·have q1:(t.kind==4)=false:=by simp[hk]
   rw[AAE hk,Bool.false_and];clear hk HE
   go_enter Tryz.func160,Tryz.ntmps160
   go_wp2_with fail
   go_quiet (fail)
   go_wp2
   go_ret
   exact ⟨rfl,zC (Pd _ _) _⟩
theorem CF.Pb {t:AB} {q:List AB} (h:CF C w (t::q) k e):∃i:Nat,i+1<=1000000/\w.cell? ⟨C.b,2,none⟩=some (.int .i64 (i:Int))/\w.frozen? ⟨C.b,2,none⟩=false/\C.l[i]? = some t /\
  Hid ((∀w1 e1 k1,CF C w1 (t::q) k1 e1->CF C (w1.setCell ⟨C.b,2,none⟩ (.int .i64 ((i:Int)+1))) q k1 e1)/\(∀w1 e1 k1,CF C w1 q k1 e1->w1.cell? ⟨C.b,2,none⟩=some (.int .i64 ((i:Int)+1)))):=by
 obtain ⟨⟨c0,c1,c2,c3,c4⟩,hf⟩:=h.cells;have ht:=h.tail;have hs:=h.LH.length_le;have hl:=h.ok.len;have hl1:(t::q).length=q.length+1:=rfl;refine ⟨C.l.length - (t::q).length,by omega,c2,hf 2,h.fB,fun w1 e1 k1 h1=>h1.setAt ht.1 ht.2,fun w1 e1 k1 h1=>?_⟩
 rw[h1.cells.1.2.2.1,ht.2]
def JE (e x:Int):Int:=if e=0 then x else e
theorem Bc (x:Int) (h:CF C w r k e):
  Calls Tryz.prog 78 #[.pointer (some ⟨C.b,0,none⟩),.int .i64 x] w fun y w'=>y = .returned (.tuple #[])/\CF C w' r k (JE e x)/\Ah C.b w w':=by
 have HS:=zh h;obtain ⟨⟨c0,c1,c2,c3,c4⟩,hf⟩:=h.cells;have f4:=hf 4;clear h hf
 by_cases he:e=0
 ·have q1:(e==0)=true:=by simp[he]
  have HR:Hid (JE e x=x):=AAC he;clear he
  go_enter Tryz.func78,Tryz.ntmps78
  go_wp2
  refine bodyPost_end (results_none Tryz.results78 _ _ _) rfl ⟨rfl,?_,(Ah.refl _ _).set _ _⟩;rw[HR.out];exact HS.out.oP x
 ·have q1:(e==0)=false:=by simp[he]
  have HR:Hid (JE e x=e):=Pe he;clear he
  go_enter Tryz.func78,Tryz.ntmps78
  go_wp2
  refine bodyPost_end (results_none Tryz.results78 _ _ _) rfl ⟨rfl,?_,Ah.refl _ _⟩;rw[HR.out];exact HS.out
def uy (C:CZ) (T:ByteArray) (w:World) (r:List AB) (k:Bool) (e:Int) (y:Ending) (w':World):Prop:=y = .returned (.tuple #[])/\Ah C.b w w'/\((Ba T r=true/\CF C w' r.tail k e)\/(Ba T r=false/\CF C w' r k (JE e 2)))
theorem BV (T:ByteArray) (h:CF C w r k e):
  Calls Tryz.prog 126 #[.pointer (some ⟨C.b,0,none⟩),.string T] w (uy C T w r k e):=by
 have HS:=zh h;clear h
 cases hi:Ba T r with
 | false =>
  have HI:=zh hi;clear hi
  go_enter Tryz.func126,Tryz.ntmps126
  go_wp2_with (go_at_call 160;refine (zX T HS).mono ?_;rintro x w1 ⟨rfl,hb1⟩;rw[HI.out];have HB1:=zh hb1;clear hb1)
  refine (Bc 2 (HS.out.below HB1)).mono ?_;rintro x w2 ⟨rfl,h1,h2⟩;have H1:=zh h1;have H2:=zh h2;clear h1 h2;go_wp2;refine bodyPost_ret (results_none Tryz.results126 _ _ _) rfl ⟨rfl,(HS.out.BF HB1).trans H2,.inr ⟨HI.out,H1.out⟩⟩
 | true =>
  have HI:=zh hi;obtain ⟨t,q,rfl,_,_⟩:=BN hi;clear hi
  go_enter Tryz.func126,Tryz.ntmps126
  go_wp2_with (go_at_call 160;refine (zX T HS).mono ?_;rintro x w1 ⟨rfl,hb1⟩;rw[HI.out];have HB1:=zh hb1;have Kg:=zh (HS.out.below hb1);obtain ⟨i,hi,c2,f2,hi2,HN⟩:=Kg.out.Pb;clear hb1)
  refine bodyPost_end (results_none Tryz.results126 _ _ _) rfl ⟨rfl,(HS.out.BF HB1).trans ((Ah.refl _ _).set _ _),.inl ⟨HI.out,?_⟩⟩;exact HN.out.1 _ _ _ Kg
def Dp:AB:=⟨0,⟨#[]⟩,0,⟨#[]⟩,0⟩
def AB.v (t:AB):Value := .agg #[.int .i64 t.kind,.string t.text,.int .i64 t.int,.string t.str,.int .i64 t.line]
def gK (C:CZ) (n:Int) (w:World) (r:List AB) (k:Bool) (e:Int) (y:Ending) (w':World):Prop :=
 Ah C.b w w'/\((∃t q,Bg n r = .ok (t,q)/\y = .returned t.v/\CF C w' q k e/\Dc t.text/\Dc t.str)\/(Bg n r = .error 2/\y = .returned Dp.v/\CF C w' r k (JE e 2)))
theorem mW {n:Int} (h:¬ ∃t q,r=t::q/\t.kind=n):Bg n r = .error 2:=by
 cases r with
 | nil=>rfl
 | cons t q=>rw[Bg,Pe fun e=>h ⟨t,q,rfl,e⟩]
variable {B:Nat} {w':World}
theorem Ah.two {b:Nat} (h:Ah b w w') (j:Nat) (u:Value) (hB:w.heap.size<=B) (hb:b<w.heap.size):Ah b w (w'.setCell ⟨B,j,none⟩ u) :=
 ⟨h.Ch.setCell (p:=⟨B,j,none⟩) (by simp only;omega) u,fun q hq hl=>(AAO _ _ _ _ (by simp only;omega)).trans (h.Ef q hq hl)⟩
abbrev q5 (w:World) (p:Nat) (v0 v1 v2 v3 v4:Value):World:=((((w.setCell ⟨p,0,none⟩ v0).setCell ⟨p,1,none⟩ v1).setCell ⟨p,2,none⟩ v2).setCell ⟨p,3,none⟩ v3).setCell ⟨p,4,none⟩ v4
theorem Wu {p:Nat} {a0 a1 a2 a3 a4:Value} {T:TypeId} (h:w.heap[p]? = some (.cells #[a0,a1,a2,a3,a4] T)) (v0 v1 v2 v3 v4:Value):(q5 w p v0 v1 v2 v3 v4).heap[p]? = some (.cells #[v0,v1,v2,v3,v4] T):=by
 have h0:=AAV _ _ 0 _ _ v0 h;have h1:=AAV _ _ 1 _ _ v1 h0;have h2:=AAV _ _ 2 _ _ v2 h1;have h3:=AAV _ _ 3 _ _ v3 h2;exact AAV _ _ 4 _ _ v4 h3
theorem Ah.five {b:Nat} (h:Ah b w w') (v0 v1 v2 v3 v4:Value) (hB:w.heap.size<=B) (hb:b<w.heap.size):Ah b w (q5 w' B v0 v1 v2 v3 v4) :=
 ((((h.two 0 v0 hB hb).two 1 v1 hB hb).two 2 v2 hB hb).two 3 v3 hB hb).two 4 v4 hB hb
theorem CF.Yz (h:CF C w r k e) (hB:C.b<B) (v0 v1 v2 v3 v4:Value):CF C (q5 w B v0 v1 v2 v3 v4) r k e:=by
 have h1:∀w j u,CF C w r k e->CF C (w.setCell ⟨B,j,none⟩ u) r k e:=fun w j u h=>⟨h.ok,(AAO _ _ _ _ (by simp only;omega)).trans h.blk,h.LH,h.up.setCell (p:=⟨B,j,none⟩) (by have:=h.ok.ge;simp only;omega) _⟩
 exact h1 _ _ _ (h1 _ _ _ (h1 _ _ _ (h1 _ _ _ (h1 _ _ _ h))))
theorem Ao {p:Nat} {a0 a1 a2 a3 a4:Value} {T:TypeId} (h:w.heap[p]? = some (.cells #[a0,a1,a2,a3,a4] T)):(w.cell? ⟨p,0,none⟩=some a0/\w.cell? ⟨p,1,none⟩=some a1/\w.cell? ⟨p,2,none⟩=some a2/\w.cell? ⟨p,3,none⟩=some a3/\w.cell? ⟨p,4,none⟩=some a4)/\(w.frozen? ⟨p,0,none⟩=false/\w.frozen? ⟨p,1,none⟩=false/\w.frozen? ⟨p,2,none⟩=false/\w.frozen? ⟨p,3,none⟩=false/\w.frozen? ⟨p,4,none⟩=false):=by
 refine ⟨⟨?_,?_,?_,?_,?_⟩,AAK _ _ _ _ _ h,AAK _ _ _ _ _ h,AAK _ _ _ _ _ h,AAK _ _ _ _ _ h,AAK _ _ _ _ _ h⟩ <;> (rw[AAB _ _ _ _ _ _ h];rfl)
abbrev bG (t:AB):Obj := .cells #[.int .i64 t.kind,.string t.text,.int .i64 t.int,.string t.str,.int .i64 t.line] 59
theorem Bo (n:Int) (h:CF C w r k e):
  Calls Tryz.prog 122 #[.pointer (some ⟨C.b,0,none⟩),.int .i64 n] w (gK C n w r k e):=by
 have HB0:=zh (zD w (bG Dp));have HX0:=zh (AAA w (bG Dp));have HW:=zh (h.BF HB0);have HS:=zh (h.below HB0);have Dm:=zh h.lt;clear h
 go_enter Tryz.func122,Tryz.ntmps122
 go_upto_region 1 with fail
 unfold bG Dp at HB0 HX0 HW HS;simp only at HB0 HX0 HW HS;generalize w.alloc _=W1 at *
 by_cases hk:∃t q,r=t::q/\t.kind=n
 ·obtain ⟨t,q,rfl,hk⟩:=hk
  have HK:Hid (Bg n (t::q) = .ok (t,q)):=by show _=_;rw[Bg,AAC hk]
  obtain ⟨⟨c0,c1,c2',c3,c4⟩,hf⟩:=HS.out.cells;obtain ⟨i,hi,c2,f2,hgi,HN⟩:=HS.out.Pb;obtain ⟨bb,o,hA,hso,t0,t1,t2,t3,t4⟩:=HS.out.RU hgi;have hi2:=(AAZ.1 hgi).1;have nP:=zh hso;have HGI:=zh hgi;have HC:=zh (show CF C W1 (t::q) k e from HS.out);rw[hA] at c1;have z1:decide ((i:Int) >= (C.l.length:Int))=false:=by simp;omega
  have z2:(0:Int)<=(i:Int):=by omega
  have z3:(i:Int)<(C.l.length:Int):=by omega
  have z4:(t.kind != n)=false:=by simp[hk]
  clear hk hso hf c2' hgi
  go_quiet (fail)
  go_upto_region 5 with fail
  have YW:=zh (HN.out.1 _ _ _ (HC.out.below (zC (Pd _ _) nq)));have BB:=zh ((HW.out.below (zC (Pd W1.heap.size W1) nq) Dm).set 2 (.int .i64 ((i:Int)+1)))
  have BK:Hid (((W1.drewN nq).setCell ⟨C.b,2,none⟩ (.int .i64 ((i:Int)+1))).heap[w.heap.size]? = some (.cells #[.int .i64 0,.string ⟨#[]⟩,.int .i64 0,.string ⟨#[]⟩,.int .i64 0] 59)):=(AAO _ _ _ _ (by have:=Dm.out;simp only;omega)).trans HX0
  clear t0 t1 t2 t3 t4 c0 c1 c2 c3 c4 f2;generalize (W1.drewN nq).setCell ⟨C.b,2,none⟩ (.int .i64 ((i:Int)+1))=W5 at *;have c2:=HN.out.2 _ _ _ YW;obtain ⟨⟨c0,c1,_,c3,c4⟩,_⟩:=YW.out.cells;obtain ⟨bb',o',hA',_,t0,t1,t2,t3,t4⟩:=YW.out.RU HGI;rw[hA] at hA' c1
  injection hA' with hA'
  injection hA' with g1 g2
  subst g1 g2;obtain ⟨⟨x0,x1,x2,x3,x4⟩,y0,y1,y2,y3,y4⟩:=Ao BK
  go_region
  clear t0 t1 t2 t3 t4 x0 x1 x2 x3 x4 y0 y1 y2 y3 y4 c0 c1 c2 c3 c4;have IX:=zh (Wu BK (.int .i64 t.kind) (.string t.text) (.int .i64 t.int) (.string t.str) (.int .i64 t.line));have BA:=zh (BB.out.five (.int .i64 t.kind) (.string t.text) (.int .i64 t.int) (.string t.str) (.int .i64 t.line) (AAQ _) Dm)
  have qm:=zh (YW.out.Yz Dm (.int .i64 t.kind) (.string t.text) (.int .i64 t.int) (.string t.str) (.int .i64 t.line));unfold q5 at IX BA qm;generalize World.setCell _ _ _=W6 at *;have Gz:=zh (CW IX (zC (Pd _ _) 1));have Vd:=zh (qm.out.below (zC (Pd _ _) 1))
  have CJ:=zh (BA.out.below (zC (Pd _ _) 1) Dm)
  change Hid (W6.drew.heap[w.heap.size]? = _) at Gz
  change Hid (CF C W6.drew _ _ _) at Vd
  change Hid (Ah C.b w W6.drew) at CJ
  generalize W6.drew=W7 at *;obtain ⟨⟨t0,t1,t2,t3,t4⟩,_⟩:=Ao Gz;go_wp2;refine bodyPost_ret (v:=t.v) (by simp[results,Tryz.results122,go_sem,t0,t1,t2,t3,t4,AB.v]) rfl ?_
  exact ⟨CJ.out,.inl ⟨t,q,HK.out,rfl,Vd.out,nP.out⟩⟩
 ·have HK:=zh (mW hk)
  have Gp:Hid (∀W2 W3:World,CF C W2 r k (JE e 2)->Ah C.b w W2->W3=q5 W2 w.heap.size (.int .i64 0) (.string ⟨#[]⟩) (.int .i64 0) (.string ⟨#[]⟩) (.int .i64 0)->gK C n w r k e (.returned Dp.v) W3):=fun W2 W3 h1 h2 e3=>by
   subst e3;exact ⟨h2.five _ _ _ _ _ (AAQ _) Dm,.inr ⟨HK.out,rfl,h1.Yz Dm _ _ _ _ _⟩⟩
  have aI:Hid (∀W2:World,Ah C.b W1 W2->W2.heap[w.heap.size]? = some (.cells #[.int .i64 0,.string ⟨#[]⟩,.int .i64 0,.string ⟨#[]⟩,.int .i64 0] 59)):=fun W2 h=>(h.Ef _ (by have:=Dm.out;omega) (zg.1 HX0).1).trans HX0
  obtain ⟨⟨c0,c1,c2,c3,c4⟩,hf⟩:=HS.out.cells
  cases r with
  | nil =>
   have z1:decide (((C.l.length - ([]:List AB).length:Nat):Int) >= (C.l.length:Int))=true:=by simp
   clear hk hf
   go_quiet (fail)
   go_wp2_with (go_at_call 78;refine (Bc 2 (HS.out.below (zC (Pd _ _) nq))).mono ?_;rintro x w2 ⟨rfl,h1,h2⟩;have H1:=zh h1;have F6:=zh (aI.out _ ((Ah.of (zC (Pd _ _) nq) (by have:=Dm.out;have:=HB0.out.size;omega)).trans h2));have H2:=zh ((HW.out.below (zC (Pd W1.heap.size W1) nq) Dm).trans h2);clear h1 h2;obtain ⟨⟨x0,x1,x2,x3,x4⟩,y0,y1,y2,y3,y4⟩:=Ao F6)
   have JQ:=zh (Wu F6 (.int .i64 0) (.string ⟨#[]⟩) (.int .i64 0) (.string ⟨#[]⟩) (.int .i64 0));have Ye:=zh (Gp.out w2 _ H1 H2 rfl);unfold q5 at JQ Ye;generalize World.setCell _ _ _=W3 at *;obtain ⟨⟨t0,t1,t2,t3,t4⟩,_⟩:=Ao JQ
   refine bodyPost_ret (v:=Dp.v) (by simp[results,Tryz.results122,go_sem,t0,t1,t2,t3,t4,AB.v,Dp]) rfl Ye
  | cons t q =>
   obtain ⟨i,hi,c2',f2,hgi,HN⟩:=HS.out.Pb;obtain ⟨bb,o,hA,hso,t0,t1,t2,t3,t4⟩:=HS.out.RU hgi;have hi2:=(AAZ.1 hgi).1;rw[hA] at c1;have z1:decide ((i:Int) >= (C.l.length:Int))=false:=by simp;omega
   have z2:(0:Int)<=(i:Int):=by omega
   have z3:(i:Int)<(C.l.length:Int):=by omega
   have z4:(t.kind != n)=true:=by simp only[bne_iff_ne,ne_eq];exact fun e=>hk ⟨t,q,rfl,e⟩
   clear hk hso hf c2 hgi hi f2
   go_quiet (fail)
   clear t0 t1 t2 t3 t4
   go_wp2_with (go_at_call 78;refine (Bc 2 (HS.out.below (zC (Pd _ _) nq))).mono ?_;rintro x w2 ⟨rfl,h1,h2⟩;have H1:=zh h1;have F6:=zh (aI.out _ ((Ah.of (zC (Pd _ _) nq) (by have:=Dm.out;have:=HB0.out.size;omega)).trans h2));have H2:=zh ((HW.out.below (zC (Pd W1.heap.size W1) nq) Dm).trans h2);clear h1 h2;obtain ⟨⟨x0,x1,x2,x3,x4⟩,y0,y1,y2,y3,y4⟩:=Ao F6)
   have JQ:=zh (Wu F6 (.int .i64 0) (.string ⟨#[]⟩) (.int .i64 0) (.string ⟨#[]⟩) (.int .i64 0));have Ye:=zh (Gp.out w2 _ H1 H2 rfl);unfold q5 at JQ Ye;generalize World.setCell _ _ _=W3 at *;obtain ⟨⟨t0,t1,t2,t3,t4⟩,_⟩:=Ao JQ
   refine bodyPost_ret (v:=Dp.v) (by simp[results,Tryz.results122,go_sem,t0,t1,t2,t3,t4,AB.v,Dp]) rfl Ye
theorem CF.zero (h:CF C w r k e):w.cell? ⟨C.b,4,none⟩=some (.int .i64 e):=h.cells.1.2.2.2.2
def iF (C:CZ) (w:World):Nat:=match w.cell? ⟨C.b,2,none⟩ with
 | some (.int _ i)=>C.l.length - i.toNat
 | _=>0
theorem CF.meas (h:CF C w r k e):iF C w=r.length:=by
 unfold iF;rw[h.cells.1.2.2.1];have:=h.LH.length_le;simp only[Int.toNat_natCast]
 omega
structure RA (C:CZ) (T:ByteArray) (fid:Nat) (caps:List Value) (I J F:World->List AB->Bool->Prop) (Er:World->Int->Prop):Prop where
 iS:∀W r k,I W r k->CF C W r k 0
 jS:∀W r k,J W r k->CF C W r k 0
 part:∀W r k,I W r k->Calls Tryz.prog fid caps.toArray W fun y W'=>y = .returned (.tuple #[])/\∃r' k' e',CF C W' r' k' e'/\r'.length<=r.length/\(e'=0->J W' r' k')/\(e'≠0->Er W' e')
 comma:∀W r k W',J W r k->Ba ⟨#[44]⟩ r=true->Ah C.b W W'->CF C W' r.tail k 0->I W' r.tail k
 fin:∀W r k W',J W r k->Ba ⟨#[44]⟩ r=false->Ba T r=true->Ah C.b W W'->CF C W' r.tail k 0->F W' r.tail k
 bad:∀W r k W',J W r k->Ba ⟨#[44]⟩ r=false->Ba T r=false->Ah C.b W W'->CF C W' r k 2->Er W' 2
def gP (C:CZ) (F:World->List AB->Bool->Prop) (Er:World->Int->Prop) (y:Ending) (w':World):Prop :=
 y = .returned (.tuple #[])/\∃r' k' e',CF C w' r' k' e'/\(e'=0->F w' r' k')/\(e'≠0->Er w' e')
variable {T:ByteArray} {pa pb pc:Nat} {Er:World->Int->Prop} {F J:World->List AB->Bool->Prop}
theorem NY {I:World->List AB->Bool->Prop} (hc:RA C T 128 [.pointer (some ⟨pa,0,none⟩),.pointer (some ⟨pb,0,none⟩),.pointer (some ⟨pc,0,none⟩)] I J F Er) (h:CF C w r k 0) (h0:Ba T r=true->∀W',Ah C.b w W'->CF C W' r.tail k 0->F W' r.tail k) (h1:Ba T r=false->∀W',Ah C.b w W'->CF C W' r k 0->I W' r k):
  Calls Tryz.prog 127 #[.pointer (some ⟨C.b,0,none⟩),.string T,.func (.func 128) #[] #[.pointer (some ⟨pa,0,none⟩),.pointer (some ⟨pb,0,none⟩),.pointer (some ⟨pc,0,none⟩)]] w (gP C F Er):=by
 have HC:=zh hc;have HS:=zh h
 cases hi:Ba T r with
 | true =>
  have HI:=zh hi;have HF:=zh (h0 hi);obtain ⟨t,q,rfl,_,_⟩:=BN hi;clear hi h h0 h1 hc
  go_enter Tryz.func127,Tryz.ntmps127
  go_wp2_with (go_at_call 160;refine (zX T HS).mono ?_;rintro x w1 ⟨rfl,hb1⟩;rw[HI.out];have HB1:=zh hb1;have Kg:=zh (HS.out.below hb1);obtain ⟨i,hi,c2,f2,hi2,HN⟩:=Kg.out.Pb;clear hb1)
  have HX:=zh (HN.out.1 _ _ _ Kg);refine bodyPost_ret (results_none Tryz.results127 _ _ _) rfl ⟨rfl,q,k,0,HX.out,fun _=>HF.out _ ((HS.out.BF HB1).trans ((Ah.refl _ _).set _ _)) HX,fun h=>absurd rfl h⟩
 | false =>
  have HI:=zh hi;have HF:=zh (h1 hi);clear hi h h0 h1 hc
  go_enter Tryz.func127,Tryz.ntmps127
  go_wp2_with (go_at_call 160;refine (zX T HS).mono ?_;rintro x w1 ⟨rfl,hb1⟩;rw[HI.out];have Kg:=zh (HS.out.below hb1);have HI1:=zh (HF.out _ (HS.out.BF hb1) Kg);clear hb1)
  go_loopw [] (fun wr=>∃r k,Hid (I wr r k)) (fun wr=>iF C wr)
  case atStart=>exact ⟨r,k,HI1.out⟩
  case round =>
   obtain ⟨r,k,hI⟩:=hrel;have HR:=zh (HC.out.iS _ _ _ hI.out);have hz:=HR.out.zero;go_wp2_with fail;refine (HC.out.part _ _ _ hI.out).mono ?_;rintro y w2 ⟨rfl,r2,k2,e2,h1,h2,h3,h4⟩;have HR2:=zh h1;have HL2:=zh h2;have hz2:=HR2.out.zero
   by_cases he:e2=0
   ·subst he
    have HJ:=zh (h3 rfl);clear hz h1 h2 h3 h4
    cases hcm:Ba ⟨#[44]⟩ r2 with
    | true =>
     have HCM:=zh hcm;obtain ⟨t,q,rfl,_,_⟩:=BN hcm;clear hcm;go_wp2_with (go_at_call 160;refine (zX ⟨#[44]⟩ HR2).mono ?_;rintro x w3 ⟨rfl,hb3⟩;rw[HCM.out];have HB3:=zh (HR2.out.BF hb3);have Ie:=zh (HR2.out.below hb3);obtain ⟨i,hi,c2,f2,hi2,HN⟩:=Ie.out.Pb;clear hb3);have HX:=zh (HN.out.1 _ _ _ Ie)
     have vV:=zh (HC.out.comma _ _ _ _ HJ HCM (HB3.out.trans ((Ah.refl _ _).set 2 (.int .i64 ((i:Int)+1)))) HX);have MZ:=zh HX.out.meas;have gu:=zh HR.out.meas;go_roundw
     case rel=>exact ⟨q,k2,vV.out⟩
     case measure=>rw[MZ.out,gu.out];have:=HL2.out;rw[AAS] at this;omega
    | false =>
     have HCM:=zh hcm;clear hcm;go_wp2_with (go_at_call 160;refine (zX ⟨#[44]⟩ HR2).mono ?_;rintro x w3 ⟨rfl,hb3⟩;rw[HCM.out];have HB3:=zh (HR2.out.BF hb3);have Ie:=zh (HR2.out.below hb3);have hz3:=Ie.out.zero;clear hb3);refine (BV T Ie).mono ?_;rintro y w4 ⟨rfl,hb4,h4⟩;have BD:=zh (HB3.out.trans hb4);have H4:=zh h4;clear hb4 h4;go_wp2
     refine bodyPost_end (results_none Tryz.results127 _ _ _) rfl ⟨rfl,?_⟩
     rcases H4.out with ⟨g1,g2⟩|⟨g1,g2⟩
     ·exact ⟨_,_,_,g2,fun _=>HC.out.fin _ _ _ _ HJ HCM g1 BD g2,fun h=>absurd rfl h⟩
     ·exact ⟨_,_,_,g2,(fun h=>by cases h),fun _=>HC.out.bad _ _ _ _ HJ HCM g1 BD g2⟩
   ·have HE:=zh (h4 he)
    have q1:(e2 != 0)=true:=by simp[he]
    have rD:=zh he;clear hz h1 h2 h3 h4 he;go_wp2_with fail;refine bodyPost_ret (results_none Tryz.results127 _ _ _) rfl ⟨rfl,r2,k2,e2,HR2.out,fun h=>absurd h rD,fun _=>HE.out⟩
theorem Pt {I:World->List AB->Bool->Prop} (hc:RA C T 162 [.pointer (some ⟨pa,0,none⟩),.pointer (some ⟨pb,0,none⟩),.pointer (some ⟨pc,0,none⟩)] I J F Er) (h:CF C w r k 0) (h0:Ba T r=true->∀W',Ah C.b w W'->CF C W' r.tail k 0->F W' r.tail k) (h1:Ba T r=false->∀W',Ah C.b w W'->CF C W' r k 0->I W' r k):
  Calls Tryz.prog 127 #[.pointer (some ⟨C.b,0,none⟩),.string T,.func (.func 162) #[] #[.pointer (some ⟨pa,0,none⟩),.pointer (some ⟨pb,0,none⟩),.pointer (some ⟨pc,0,none⟩)]] w (gP C F Er):=by
 have HC:=zh hc;have HS:=zh h
 cases hi:Ba T r with
 | true =>
  have HI:=zh hi;have HF:=zh (h0 hi);obtain ⟨t,q,rfl,_,_⟩:=BN hi;clear hi h h0 h1 hc
  go_enter Tryz.func127,Tryz.ntmps127
  go_wp2_with (go_at_call 160;refine (zX T HS).mono ?_;rintro x w1 ⟨rfl,hb1⟩;rw[HI.out];have HB1:=zh hb1;have Kg:=zh (HS.out.below hb1);obtain ⟨i,hi,c2,f2,hi2,HN⟩:=Kg.out.Pb;clear hb1)
  have HX:=zh (HN.out.1 _ _ _ Kg);refine bodyPost_ret (results_none Tryz.results127 _ _ _) rfl ⟨rfl,q,k,0,HX.out,fun _=>HF.out _ ((HS.out.BF HB1).trans ((Ah.refl _ _).set _ _)) HX,fun h=>absurd rfl h⟩
 | false =>
  have HI:=zh hi;have HF:=zh (h1 hi);clear hi h h0 h1 hc
  go_enter Tryz.func127,Tryz.ntmps127
  go_wp2_with (go_at_call 160;refine (zX T HS).mono ?_;rintro x w1 ⟨rfl,hb1⟩;rw[HI.out];have Kg:=zh (HS.out.below hb1);have HI1:=zh (HF.out _ (HS.out.BF hb1) Kg);clear hb1)
  go_loopw [] (fun wr=>∃r k,Hid (I wr r k)) (fun wr=>iF C wr)
  case atStart=>exact ⟨r,k,HI1.out⟩
  case round =>
   obtain ⟨r,k,hI⟩:=hrel;have HR:=zh (HC.out.iS _ _ _ hI.out);have hz:=HR.out.zero;go_wp2_with fail;refine (HC.out.part _ _ _ hI.out).mono ?_;rintro y w2 ⟨rfl,r2,k2,e2,h1,h2,h3,h4⟩;have HR2:=zh h1;have HL2:=zh h2;have hz2:=HR2.out.zero
   by_cases he:e2=0
   ·subst he
    have HJ:=zh (h3 rfl);clear hz h1 h2 h3 h4
    cases hcm:Ba ⟨#[44]⟩ r2 with
    | true =>
     have HCM:=zh hcm;obtain ⟨t,q,rfl,_,_⟩:=BN hcm;clear hcm;go_wp2_with (go_at_call 160;refine (zX ⟨#[44]⟩ HR2).mono ?_;rintro x w3 ⟨rfl,hb3⟩;rw[HCM.out];have HB3:=zh (HR2.out.BF hb3);have Ie:=zh (HR2.out.below hb3);obtain ⟨i,hi,c2,f2,hi2,HN⟩:=Ie.out.Pb;clear hb3);have HX:=zh (HN.out.1 _ _ _ Ie)
     have vV:=zh (HC.out.comma _ _ _ _ HJ HCM (HB3.out.trans ((Ah.refl _ _).set 2 (.int .i64 ((i:Int)+1)))) HX);have MZ:=zh HX.out.meas;have gu:=zh HR.out.meas;go_roundw
     case rel=>exact ⟨q,k2,vV.out⟩
     case measure=>rw[MZ.out,gu.out];have:=HL2.out;rw[AAS] at this;omega
    | false =>
     have HCM:=zh hcm;clear hcm;go_wp2_with (go_at_call 160;refine (zX ⟨#[44]⟩ HR2).mono ?_;rintro x w3 ⟨rfl,hb3⟩;rw[HCM.out];have HB3:=zh (HR2.out.BF hb3);have Ie:=zh (HR2.out.below hb3);have hz3:=Ie.out.zero;clear hb3);refine (BV T Ie).mono ?_;rintro y w4 ⟨rfl,hb4,h4⟩;have BD:=zh (HB3.out.trans hb4);have H4:=zh h4;clear hb4 h4;go_wp2
     refine bodyPost_end (results_none Tryz.results127 _ _ _) rfl ⟨rfl,?_⟩
     rcases H4.out with ⟨g1,g2⟩|⟨g1,g2⟩
     ·exact ⟨_,_,_,g2,fun _=>HC.out.fin _ _ _ _ HJ HCM g1 BD g2,fun h=>absurd rfl h⟩
     ·exact ⟨_,_,_,g2,(fun h=>by cases h),fun _=>HC.out.bad _ _ _ _ HJ HCM g1 BD g2⟩
   ·have HE:=zh (h4 he)
    have q1:(e2 != 0)=true:=by simp[he]
    have rD:=zh he;clear hz h1 h2 h3 h4 he;go_wp2_with fail;refine bodyPost_ret (results_none Tryz.results127 _ _ _) rfl ⟨rfl,r2,k2,e2,HR2.out,fun h=>absurd h rD,fun _=>HE.out⟩
theorem SF {I:World->List AB->Bool->Prop} (hc:RA C T 161 [.pointer (some ⟨pa,0,none⟩),.pointer (some ⟨pb,0,none⟩),.pointer (some ⟨pc,0,none⟩)] I J F Er) (h:CF C w r k 0) (h0:Ba T r=true->∀W',Ah C.b w W'->CF C W' r.tail k 0->F W' r.tail k) (h1:Ba T r=false->∀W',Ah C.b w W'->CF C W' r k 0->I W' r k):
  Calls Tryz.prog 127 #[.pointer (some ⟨C.b,0,none⟩),.string T,.func (.func 161) #[] #[.pointer (some ⟨pa,0,none⟩),.pointer (some ⟨pb,0,none⟩),.pointer (some ⟨pc,0,none⟩)]] w (gP C F Er):=by
 have HC:=zh hc;have HS:=zh h
 cases hi:Ba T r with
 | true =>
  have HI:=zh hi;have HF:=zh (h0 hi);obtain ⟨t,q,rfl,_,_⟩:=BN hi;clear hi h h0 h1 hc
  go_enter Tryz.func127,Tryz.ntmps127
  go_wp2_with (go_at_call 160;refine (zX T HS).mono ?_;rintro x w1 ⟨rfl,hb1⟩;rw[HI.out];have HB1:=zh hb1;have Kg:=zh (HS.out.below hb1);obtain ⟨i,hi,c2,f2,hi2,HN⟩:=Kg.out.Pb;clear hb1)
  have HX:=zh (HN.out.1 _ _ _ Kg);refine bodyPost_ret (results_none Tryz.results127 _ _ _) rfl ⟨rfl,q,k,0,HX.out,fun _=>HF.out _ ((HS.out.BF HB1).trans ((Ah.refl _ _).set _ _)) HX,fun h=>absurd rfl h⟩
 | false =>
  have HI:=zh hi;have HF:=zh (h1 hi);clear hi h h0 h1 hc
  go_enter Tryz.func127,Tryz.ntmps127
  go_wp2_with (go_at_call 160;refine (zX T HS).mono ?_;rintro x w1 ⟨rfl,hb1⟩;rw[HI.out];have Kg:=zh (HS.out.below hb1);have HI1:=zh (HF.out _ (HS.out.BF hb1) Kg);clear hb1)
  go_loopw [] (fun wr=>∃r k,Hid (I wr r k)) (fun wr=>iF C wr)
  case atStart=>exact ⟨r,k,HI1.out⟩
  case round =>
   obtain ⟨r,k,hI⟩:=hrel;have HR:=zh (HC.out.iS _ _ _ hI.out);have hz:=HR.out.zero;go_wp2_with fail;refine (HC.out.part _ _ _ hI.out).mono ?_;rintro y w2 ⟨rfl,r2,k2,e2,h1,h2,h3,h4⟩;have HR2:=zh h1;have HL2:=zh h2;have hz2:=HR2.out.zero
   by_cases he:e2=0
   ·subst he
    have HJ:=zh (h3 rfl);clear hz h1 h2 h3 h4
    cases hcm:Ba ⟨#[44]⟩ r2 with
    | true =>
     have HCM:=zh hcm;obtain ⟨t,q,rfl,_,_⟩:=BN hcm;clear hcm;go_wp2_with (go_at_call 160;refine (zX ⟨#[44]⟩ HR2).mono ?_;rintro x w3 ⟨rfl,hb3⟩;rw[HCM.out];have HB3:=zh (HR2.out.BF hb3);have Ie:=zh (HR2.out.below hb3);obtain ⟨i,hi,c2,f2,hi2,HN⟩:=Ie.out.Pb;clear hb3);have HX:=zh (HN.out.1 _ _ _ Ie)
     have vV:=zh (HC.out.comma _ _ _ _ HJ HCM (HB3.out.trans ((Ah.refl _ _).set 2 (.int .i64 ((i:Int)+1)))) HX);have MZ:=zh HX.out.meas;have gu:=zh HR.out.meas;go_roundw
     case rel=>exact ⟨q,k2,vV.out⟩
     case measure=>rw[MZ.out,gu.out];have:=HL2.out;rw[AAS] at this;omega
    | false =>
     have HCM:=zh hcm;clear hcm;go_wp2_with (go_at_call 160;refine (zX ⟨#[44]⟩ HR2).mono ?_;rintro x w3 ⟨rfl,hb3⟩;rw[HCM.out];have HB3:=zh (HR2.out.BF hb3);have Ie:=zh (HR2.out.below hb3);have hz3:=Ie.out.zero;clear hb3);refine (BV T Ie).mono ?_;rintro y w4 ⟨rfl,hb4,h4⟩;have BD:=zh (HB3.out.trans hb4);have H4:=zh h4;clear hb4 h4;go_wp2
     refine bodyPost_end (results_none Tryz.results127 _ _ _) rfl ⟨rfl,?_⟩
     rcases H4.out with ⟨g1,g2⟩|⟨g1,g2⟩
     ·exact ⟨_,_,_,g2,fun _=>HC.out.fin _ _ _ _ HJ HCM g1 BD g2,fun h=>absurd rfl h⟩
     ·exact ⟨_,_,_,g2,(fun h=>by cases h),fun _=>HC.out.bad _ _ _ _ HJ HCM g1 BD g2⟩
   ·have HE:=zh (h4 he)
    have q1:(e2 != 0)=true:=by simp[he]
    have rD:=zh he;clear hz h1 h2 h3 h4 he;go_wp2_with fail;refine bodyPost_ret (results_none Tryz.results127 _ _ _) rfl ⟨rfl,r2,k2,e2,HR2.out,fun h=>absurd h rD,fun _=>HE.out⟩
theorem Rc (w:World) {a b:Addr} (h:a.block≠b.block) (u v:Value):(w.setCell a u).setCell b v=(w.setCell b v).setCell a u:=by
 have e:∀ (w1 w2:World),w1.os=w2.os->w1.tape=w2.tape->w1.output=w2.output->w1.heap=w2.heap->({ w1 with heap:=w2.heap }:World)=w1:=fun w1 w2 _ _ _ h=>by rw[<-h]
 have hh:((w.setCell a u).setCell b v).heap=((w.setCell b v).setCell a u).heap:=by
  apply Array.ext_getElem?
  intro q
  by_cases h1:q=a.block
  ·rw[AAO _ _ _ _ (by rw[h1];exact h)]
   subst h1;simp only[World.setCell,Array.getElem?_modify,if_true];rw[Pe (fun e=>h e.symm)]
  ·rw[AAO _ a _ _ h1]
   by_cases h2:q=b.block
   ·subst h2
    simp only[World.setCell,Array.getElem?_modify,if_true];rw[Pe h]
   ·rw[AAO _ _ _ _ h2,AAO _ _ _ _ h1,AAO _ _ _ _ h2]
 simp only[World.setCell] at hh ⊢;rw[hh]
theorem yF {g q j:Nat} (h:q≠g) (u:Value):∀ (vs:List Value) (o:Nat) (w:World),(w.setCell ⟨q,j,none⟩ u).setCells g o vs=(w.setCells g o vs).setCell ⟨q,j,none⟩ u
 | [],_,_=>rfl
 | v::vs,o,w=>by
  rw[World.setCells,World.setCells,<-yF h u vs,Rc w (a:=⟨q,j,none⟩) (b:=⟨g,o,none⟩) h]
variable {g:Nat}
theorem Jp {row:Option Nat} (hg:w.grownBy w' row) (h:row=some g\/w.heap.size<=g) (o:Nat) (vs:List Value):w.grownBy (w'.setCells g o vs) row:=by
 have hb:=yC (B:=0) (w:=w') g (Nat.zero_le _) vs o w' (Pd _ _);refine ⟨hb.os.trans hg.os,hb.tape.trans hg.tape,hb.output.trans hg.output,Nat.le_trans hg.size hb.size,fun k hk hr=>?_⟩
 have hne:k≠g:=fun e=>by
  subst e
  rcases h with h|h
  ·first|exact hr h.symm|exact hr h
  ·omega
 exact (zN hne vs o w').trans (hg.block k hk hr)
def yB:List Value:=[.int .i64 0,.bool false,.int .i64 0,.string ⟨#[]⟩,.int .i64 0,.slice none 0 0,.slice none 0 0,.slice none 0 0]
theorem JW:∀u∈yB,u.oneCell'=true:=fun u hu=>by
 unfold yB at hu;simp only[AAf,List.mem_nil_iff,or_false] at hu
 rcases hu with rfl|rfl|rfl|rfl|rfl|rfl|rfl|rfl <;> rfl
theorem iX (x:BX):x.cells.length=8:=rfl
variable {base n:Nat}
theorem UR {c:Nat} {L:List BX} {x:BX} (_hn:n=L.length+1) (h:w.ownsRow base 28 8 (.slice (some ⟨g,0,none⟩) n c) n (L.flatMap BX.cells++yB)):
  (w.setCells g (L.length * 8) x.cells).ownsRow base 28 8 (.slice (some ⟨g,0,none⟩) n c) n (L.flatMap BX.cells++x.cells):=by
 have e1:L.flatMap BX.cells++yB=(L.map BX.cells++[yB]).flatten:=by rw[List.flatten_append,List.flatMap_def];simp
 have e2:L.flatMap BX.cells++x.cells=(L.map BX.cells++[x.cells]).flatten:=by rw[List.flatten_append,List.flatMap_def];simp
 have hl:∀cs∈L.map BX.cells++[yB],cs.length=8:=fun cs hc=>by
  rcases AAl.1 hc with k|k
  ·obtain ⟨y,_,rfl⟩:=List.mem_map.1 k
   rfl
  ·obtain rfl:cs=yB:=by simpa using k
   rfl
 have h3:=Ld (k:=8) (by omega) (L.map BX.cells++[yB]) L.length x.cells hl (iX x) (by simp)
 rw[show (L.map BX.cells++[yB]).set L.length x.cells=L.map BX.cells++[x.cells] by
  rw[List.set_append_right _ _ (by simp)];simp] at h3
 rw[e2,<-h3,<-e1];exact Em x.cells _ (L.length * 8) w h
theorem EH {c:Nat} {L:List BX} {xs:List Value} (hx:xs.length=8) (h:w.ownsRow base 28 8 (.slice (some ⟨g,0,none⟩) n c) n (L.flatMap BX.cells++xs)):w.there g (L.length * 8) 8:=fun j hj=>by
 have hl:(L.flatMap BX.cells).length=L.length * 8:=by rw[List.flatMap_def,FN (k:=8) (L.map BX.cells) (fun cs hc=>by obtain ⟨y,_,rfl⟩:=List.mem_map.1 hc;rfl),AAk]
 refine ⟨?_,World.ownsRow.frozenAt h (L.length * 8+j)⟩;have hj2:(L.flatMap BX.cells++xs)[L.length * 8+j]? = some (xs[j]'(by omega)):=by
  rw[AAw (by omega),hl,Nat.add_sub_cancel_left,zl (by omega)]
 have:=World.ownsRow.cells h (g:=g) rfl _ _ hj2;rw[Addr.add_mid,Nat.zero_add] at this;rw[this];rfl
theorem EF {o p j:Nat} {u:Value} (h:w.there g o n) (hp:p≠g):∀w',(w'=w\/w'=w.setCell ⟨p,j,none⟩ u)->w'.there g o n:=fun w' hw=>by
 rcases hw with rfl|rfl
 ·exact h
 ·have hb:(w.setCell ⟨p,j,none⟩ u).heap[g]? = w.heap[g]? := AAO _ _ _ _ (by simpa using hp.symm)
  intro i hi
  rw[World.cell?_of_block (w:=w) (a:=⟨g,o+i,none⟩) hb,World.frozen?_of_block (w:=w) (a:=⟨g,o+i,none⟩) hb];exact h i hi
variable {q:Nat}
theorem Lj {v:Value} {l:List BX} (h:aA w base v l) {cs:Array Value} {T:TypeId} {fr:Nat×Nat} (hq:w.heap[q]? = some (.cells cs T fr)) (hT:T≠28):v.ownBlock≠some q:=fun e=>by
 obtain ⟨c1,f1,e1⟩:=h.block e;rw[hq] at e1
 injection e1 with e1
 injection e1 with _ e3
 exact hT e3
theorem KG {v:Value} {l:List Ac} (h:lZ w base v l) {cs:Array Value} {T:TypeId} {fr:Nat×Nat} (hq:w.heap[q]? = some (.cells cs T fr)) (hT:T≠97):v.ownBlock≠some q:=fun e=>by
 obtain ⟨c1,f1,e1⟩:=h.block e;rw[hq] at e1
 injection e1 with e1
 injection e1 with _ e3
 exact hT e3
def nJ (C:CZ) (t:Int) (W:World) (r:List AB) (k:Bool) (e:Int) (y:Ending) (W':World):Prop:=∃x:BX,y = .returned (x.v.v x.A1 x.c1 x.A2 x.c2 x.A3 x.c3)/\Off (fun q=>q<W.heap.size) W' (fun u=>BO u x.v x.A1 x.A2 x.A3)/\Ah C.b W W' /\
 ∃r' k' e',CF C W' r' k' e'/\r'.length<=r.length/\(e≠0->e'=e)/\(e=0->match AP false C.s t r k with
  | .ok (v,r1,k1)=>x.v=v/\r'=r1/\k'=k1/\e'=0
  | .error e1=>e'=e1)
def Dt (C:CZ) (n:Nat):Prop:=∀ (t:Int) (W:World) (r:List AB) (k:Bool) (e:Int),r.length<n->(0<=t/\t<(C.s.length:Int))->CF C W r k e ->
 Calls Tryz.prog 79 #[.pointer (some ⟨C.b,0,none⟩),.int .i64 t] W (nJ C t W r k e)
structure Vx where
 W0:World
 x:AZ
 As:zo
 cs:Nat
 Am:zo
 cm:Nat
 p:Nat
 pr:Nat
 px:Nat
 pv:Nat
structure CX (C:CZ) (V:Vx) (W:World) (r:List AB) (k:Bool) (e di:Int) (vk vi vr:Value) (K I:List BX) (R:List Ac):Prop where
 rd:CF C W r k e
 vb:Gf V.p W V.x.kind false 0 ⟨#[]⟩ di vk vi vr K I R
 fr:Ah C.b V.W0 W
 lo:V.W0.heap.size<=V.p
 lb:C.b<V.W0.heap.size
 ty:Ic C.w0 V.x V.As V.Am
 br:W.heap[V.pr]? = some (.cells #[.pointer (some ⟨C.b,0,none⟩)] 103)
 bx:W.heap[V.px]? = some (V.x.box V.As V.cs V.Am V.cm)
 bv:V.pv=V.p\/W.heap[V.pv]? = some (.cells #[.pointer (some ⟨V.p,0,none⟩)] 172)
section
variable {C:CZ} {V:Vx} {W W':World} {r r':List AB} {k k':Bool} {e e' di:Int} {vk vi vr:Value} {K I:List BX} {R:List Ac}
theorem CX.bp (h:CX C V W r k e di vk vi vr K I R):C.b<V.p:=AAt h.lb h.lo
theorem Jv {w:World} {q q2:Nat} {a b:Array Value} {T T2:TypeId} {f f2:Nat×Nat} (h:w.heap[q]? = some (.cells a T f)) (h2:w.heap[q2]? = some (.cells b T2 f2)) (hT:T≠T2):q≠q2:=fun e=>by
 subst e;rw[h] at h2
 injection h2 with h2
 injection h2 with _ e3
 exact hT e3
theorem CX.prb (h:CX C V W r k e di vk vi vr K I R):V.pr≠C.b:=Jv h.br h.rd.blk (by decide)
theorem CX.pxb (h:CX C V W r k e di vk vi vr K I R):V.px≠C.b:=Jv h.bx h.rd.blk (by decide)
theorem CX.BF (h:CX C V W r k e di vk vi vr K I R) (hb:Ah C.b W W') (hr:CF C W' r' k' e'):CX C V W' r' k' e' di vk vi vr K I R :=
 ⟨hr,h.vb.BF hb h.bp,h.fr.trans hb,h.lo,h.lb,h.ty,(hb.Ef _ h.prb (zg.1 h.br).1).trans h.br,(hb.Ef _ h.pxb (zg.1 h.bx).1).trans h.bx,
  h.bv.imp id fun g=>(hb.Ef _ (Jv g h.rd.blk (by decide)) (zg.1 g).1).trans g⟩
theorem CX.below (h:CX C V W r k e di vk vi vr K I R) (hb:Below W.heap.size W W'):CX C V W' r k e di vk vi vr K I R:=h.BF (h.rd.BF hb) (h.rd.below hb)
theorem CX.hot (h:CX C V W r k e di vk vi vr K I R) {P:World->Prop} (_hb:Ah C.b W W') (hx:Off (fun q=>q<W.heap.size) W' P):Off (RB V.p vk vi vr) W' P:=by
 obtain ⟨l1,l2,l3⟩:=Jo h.vb;refine hx.mono fun q _ hq=>?_
 rcases hq with e|e|e|e
 ·have:=h.vb.lt;omega
 ·exact (l1 q e).2
 ·exact (l2 q e).2
 ·exact (l3 q e).2
theorem CX.rest (h:CX C V W r k e di vk vi vr K I R) {W9:World} {nG:Int} {Xe Me aV:Value} {K' I':List BX} {R':List Ac} (hv:Gf V.p W9 V.x.kind false 0 ⟨#[]⟩ nG Xe Me aV K' I' R') (hb:Below V.p W W9) (hp:∀ (q:Nat) (cs:Array Value) (T:TypeId) (fr:Nat×Nat),W.heap[q]? = some (Obj.cells cs T fr)->T≠28->T≠97->W9.heap[q]? = W.heap[q]?):CX C V W9 r k e nG Xe Me aV K' I' R' :=
 ⟨⟨h.rd.ok,(hb.block _ h.bp).trans h.rd.blk,h.rd.LH,h.rd.up.trans (hb.mono (by have:=h.bp;have:=h.rd.ok.ge;omega))⟩,hv,h.fr.up hb h.lo (AAT h.bp),h.lo,h.lb,h.ty,(hp _ _ _ _ h.br (by decide) (by decide)).trans h.br,(hp _ _ _ _ h.bx (by decide) (by decide)).trans h.bx,h.bv.imp id fun g=>(hp _ _ _ _ g (by decide) (by decide)).trans g⟩
variable {v8:Value} {w4 w8:World}
theorem CX.item (h:CX C V W r k e di vk vi vr K I R) {x:BX} (hx:Off (RB V.p vk vi vr) W fun u=>BO u x.v x.A1 x.A2 x.A3) (hb4:Below W.heap.size W w4) (ho:w8.ownsRow (V.p+1) 28 8 v8 (I.length+1) (I.flatMap BX.cells++x.cells)) (hg:w4.grownBy w8 vi.ownBlock) (hv:v8.ownBlock=vi.ownBlock\/v8.ownBlock=some w4.heap.size):CX C V (w8.setCell ⟨V.p,6,none⟩ v8) r k e di vk v8 vr K (I++[x]) R:=by
 obtain ⟨h1,h2,h3⟩:=h.vb.item hx hb4 ho hg hv;exact h.rest h1 h2 fun q cs T fr hq hT _=>h3 q (Jv hq h.vb.blk hT) (Lj h.vb.oi hq hT) (zg.1 hq).1
theorem CX.key (h:CX C V W r k e di vk vi vr K I R) {x:BX} (hx:Off (RB V.p vk vi vr) W fun u=>BO u x.v x.A1 x.A2 x.A3) (hb4:Below W.heap.size W w4) (ho:w8.ownsRow (V.p+1) 28 8 v8 (K.length+1) (K.flatMap BX.cells++x.cells)) (hg:w4.grownBy w8 vk.ownBlock) (hv:v8.ownBlock=vk.ownBlock\/v8.ownBlock=some w4.heap.size):CX C V (w8.setCell ⟨V.p,5,none⟩ v8) r k e di v8 vi vr (K++[x]) I R:=by
 obtain ⟨h1,h2,h3⟩:=h.vb.key hx hb4 ho hg hv;exact h.rest h1 h2 fun q cs T fr hq hT _=>h3 q (Jv hq h.vb.blk hT) (Lj h.vb.ok hq hT) (zg.1 hq).1
theorem CX.UA (h:CX C V W r k e di vk vi vr K I R) {x:Ac} (hx:Dc x.data) (hb4:Below W.heap.size W w4) (ho:w8.ownsRow (V.p+1) 97 2 v8 (R.length+1) (R.flatMap encR++encR x)) (hg:w4.grownBy w8 vr.ownBlock) (hv:v8.ownBlock=vr.ownBlock\/v8.ownBlock=some w4.heap.size):CX C V (w8.setCell ⟨V.p,7,none⟩ v8) r k e di vk vi v8 K I (R++[x]):=by
 obtain ⟨h1,h2,h3⟩:=h.vb.UA hx hb4 ho hg hv;exact h.rest h1 h2 fun q cs T fr hq hT hR=>h3 q (Jv hq h.vb.blk hT) (KG h.vb.Pp hq hR) (zg.1 hq).1
theorem CX.p8 (h:CX C V W r k e di vk vi vr K I R) {row:Option Nat} (hg:W.grownBy w8 row) (hr:row=vk.ownBlock\/row=vi.ownBlock\/row=vr.ownBlock):w8.heap[V.p]? = W.heap[V.p]? := by
 obtain ⟨l1,l2,l3⟩:=Jo h.vb;refine yA hg h.vb.lt fun q hq e=>?_
 rcases hr with e2|e2|e2
 ·have:=l1 q (e2▸hq);omega
 ·have:=l2 q (e2▸hq);omega
 ·have:=l3 q (e2▸hq);omega
theorem CX.c8 (h:CX C V W r k e di vk vi vr K I R) (hp:w8.heap[V.p]? = W.heap[V.p]?):(w8.cell? ⟨V.p,5,none⟩=some vk/\w8.cell? ⟨V.p,6,none⟩=some vi/\w8.cell? ⟨V.p,7,none⟩=some vr)/\w8.frozen? ⟨V.p,5,none⟩=false/\w8.frozen? ⟨V.p,6,none⟩=false/\w8.frozen? ⟨V.p,7,none⟩=false:=by
 have h1:=h.vb.cells;refine ⟨⟨?_,?_,?_⟩,?_,?_,?_⟩
 ·rw[World.cell?_of_block (w:=W) (a:=⟨V.p,5,none⟩) hp];exact h1.1.2.2.2.2.2.1
 ·rw[World.cell?_of_block (w:=W) (a:=⟨V.p,6,none⟩) hp];exact h1.1.2.2.2.2.2.2.1
 ·rw[World.cell?_of_block (w:=W) (a:=⟨V.p,7,none⟩) hp];exact h1.1.2.2.2.2.2.2.2
 ·rw[World.frozen?_of_block (w:=W) (a:=⟨V.p,5,none⟩) hp];exact h1.2 5
 ·rw[World.frozen?_of_block (w:=W) (a:=⟨V.p,6,none⟩) hp];exact h1.2 6
 ·rw[World.frozen?_of_block (w:=W) (a:=⟨V.p,7,none⟩) hp];exact h1.2 7
theorem CR {base n:Nat} {xs:List Value} (ho:w8.ownsRow base 28 8 v8 (n+1) xs):∃g c,v8 = .slice (some ⟨g,0,none⟩) (n+1) c/\base<=g:=by
 rcases ho.2 with ⟨_,h0⟩|⟨g,cap,cur,hv,hg0,_⟩
 ·omega
 ·exact ⟨g,cap,hv,hg0⟩
end
def ItP (C:CZ) (V:Vx) (t:Int) (r:List AB) (k:Bool) (e di:Int) (vk vr:Value) (K I:List BX) (R:List Ac) (W':World):Prop :=
 ∃x Me r' k' e',CX C V W' r' k' e' di vk Me vr K (I++[x]) R/\r'.length<=r.length/\(e≠0->e'=e)/\(e=0->match AP false C.s t r k with
  | .ok (v,r1,k1)=>x.v=v/\r'=r1/\k'=k1/\e'=0
  | .error e1=>e'=e1)
def KyP (C:CZ) (V:Vx) (t:Int) (r:List AB) (k:Bool) (e di:Int) (vi vr:Value) (K I:List BX) (R:List Ac) (W':World):Prop :=
 ∃x Xe r' k' e',CX C V W' r' k' e' di Xe vi vr (K++[x]) I R/\r'.length<=r.length/\(e≠0->e'=e)/\(e=0->match AP false C.s t r k with
  | .ok (v,r1,k1)=>x.v=v/\r'=r1/\k'=k1/\e'=0
  | .error e1=>e'=e1)
theorem Du:(Tryz.prog.info? 28).map (·.size)=some 8:=by kernel_rfl
theorem E8 (x:BX):(x.cells.toArray).all (·.oneCell')=true:=all_oneCell_toArray (Gr x)
theorem KC {b:Nat} {o:Nat} {cs:List Value} (hb:Ah b w w') (hq:q≠b) (h:w.rangeAt q o cs):w'.rangeAt q o cs:=fun j u hj=>by
 have:=h j u hj;rw[World.cell?_of_block (w:=w) (w':=w') (a:=⟨q,o+j,none⟩) (hb.Ef q hq (zL this))];exact this
section
variable {C:CZ} {V:Vx} {W W':World} {r r':List AB} {k k':Bool} {e e' di:Int} {vk vi vr:Value} {K I:List BX} {R:List Ac}
theorem CX.reads (h:CX C V W r k e di vk vi vr K I R) (hb:Ah C.b W W'):(W'.cell? ⟨V.p,5,none⟩=some vk/\W'.cell? ⟨V.p,6,none⟩=some vi/\W'.cell? ⟨V.p,7,none⟩=some vr/\W'.cell? ⟨V.pr,0,none⟩=some (.pointer (some ⟨C.b,0,none⟩)) /\
  W'.cell? ⟨V.px,6,none⟩=some (.slice V.Am V.x.AA.length V.cm)/\W'.cell? ⟨V.px,7,none⟩=some (.int .i64 V.x.key)/\W'.cell? ⟨V.px,8,none⟩=some (.int .i64 V.x.elem))/\Hid (Ah C.b W W'):=by
 have h1:=(h.vb.BF hb h.bp).cells.1;have h2:=(hb.Ef _ h.prb (zg.1 h.br).1).trans h.br;have h3:=(hb.Ef _ h.pxb (zg.1 h.bx).1).trans h.bx;refine ⟨⟨h1.2.2.2.2.2.1,h1.2.2.2.2.2.2.1,h1.2.2.2.2.2.2.2,?_,?_,?_,?_⟩,hb⟩
 ·rw[AAB _ _ _ _ _ _ h2];rfl
 ·rw[AAB _ _ _ _ _ _ h3];rfl
 ·rw[AAB _ _ _ _ _ _ h3];rfl
 ·rw[AAB _ _ _ _ _ _ h3];rfl
theorem CX.Xq (h:CX C V W r k e di vk vi vr K I R) (hp:W'.heap[V.p]? = W.heap[V.p]?) (hq:∀ (q:Nat) (cs:Array Value) (T:TypeId) (fr:Nat×Nat),W.heap[q]? = some (Obj.cells cs T fr)->T≠28->T≠97->W'.heap[q]? = W.heap[q]?):(W'.cell? ⟨V.p,5,none⟩=some vk/\W'.cell? ⟨V.p,6,none⟩=some vi/\W'.cell? ⟨V.p,7,none⟩=some vr/\W'.cell? ⟨V.pr,0,none⟩=some (.pointer (some ⟨C.b,0,none⟩)) /\
  W'.cell? ⟨V.px,6,none⟩=some (.slice V.Am V.x.AA.length V.cm)/\W'.cell? ⟨V.px,7,none⟩=some (.int .i64 V.x.key)/\W'.cell? ⟨V.px,8,none⟩=some (.int .i64 V.x.elem))/\(V.pv≠V.p->W'.cell? ⟨V.pv,0,none⟩=some (.pointer (some ⟨V.p,0,none⟩))):=by
 obtain ⟨⟨h5,h6,h7⟩,_⟩:=h.c8 hp;have h2:=(hq _ _ _ _ h.br (by decide) (by decide)).trans h.br
 have h3:=(hq _ _ _ _ h.bx (by decide) (by decide)).trans h.bx
 refine ⟨⟨h5,h6,h7,?_,?_,?_,?_⟩,fun hv=>?_⟩
 ·rw[AAB _ _ _ _ _ _ h2];rfl
 ·rw[AAB _ _ _ _ _ _ h3];rfl
 ·rw[AAB _ _ _ _ _ _ h3];rfl
 ·rw[AAB _ _ _ _ _ _ h3];rfl
 ·have g:=h.bv.resolve_left hv
  rw[AAB _ _ _ _ _ _ ((hq _ _ _ _ g (by decide) (by decide)).trans g)];rfl
variable {w8:World}
theorem CX.SQ (h:CX C V W r k e di vk vi vr K I R) {row:Option Nat} (hg:W.grownBy w8 row) (hr:row=vk.ownBlock\/row=vi.ownBlock\/row=vr.ownBlock):∀ (q:Nat) (cs:Array Value) (T:TypeId) (fr:Nat×Nat),W.heap[q]? = some (Obj.cells cs T fr)->T≠28->T≠97->w8.heap[q]? = W.heap[q]? := fun q cs T fr hq h1 h2=>by
 refine yA hg (zg.1 hq).1 fun q2 hq2 e=>?_
 subst e
 rcases hr with e|e|e
 ·exact Lj h.vb.ok hq h1 (e▸hq2)
 ·exact Lj h.vb.oi hq h1 (e▸hq2)
 ·exact KG h.vb.Pp hq h2 (e▸hq2)
theorem CX.Qp (h:CX C V W r k e di vk vi vr K I R) {x:BX} (hx:Off (RB V.p vk vi vr) W fun u=>BO u x.v x.A1 x.A2 x.A3) {w4:World} (hb4:Below W.heap.size W w4) {g c:Nat} (ho:w8.ownsRow (V.p+1) 28 8 (.slice (some ⟨g,0,none⟩) (I.length+1) c) (I.length+1) (I.flatMap BX.cells++yB)) (hg:w4.grownBy w8 vi.ownBlock) (hv:some g=vi.ownBlock\/some g=some w4.heap.size):
  CX C V ((w8.setCells g (I.length * 8) x.cells).setCell ⟨V.p,6,none⟩ (.slice (some ⟨g,0,none⟩) (I.length+1) c)) r k e di vk (.slice (some ⟨g,0,none⟩) (I.length+1) c) vr K (I++[x]) R :=
 h.item hx hb4 (UR rfl ho) (Jp hg (hv.imp (fun e=>e.symm) fun e=>by injection e with e;omega) _ _) hv
theorem CX.uM (h:CX C V W r k e di vk vi vr K I R) {x:BX} (hx:Off (RB V.p vk vi vr) W fun u=>BO u x.v x.A1 x.A2 x.A3) {w4:World} (hb4:Below W.heap.size W w4) {g c:Nat} (ho:w8.ownsRow (V.p+1) 28 8 (.slice (some ⟨g,0,none⟩) (K.length+1) c) (K.length+1) (K.flatMap BX.cells++yB)) (hg:w4.grownBy w8 vk.ownBlock) (hv:some g=vk.ownBlock\/some g=some w4.heap.size):
  CX C V ((w8.setCells g (K.length * 8) x.cells).setCell ⟨V.p,5,none⟩ (.slice (some ⟨g,0,none⟩) (K.length+1) c)) r k e di (.slice (some ⟨g,0,none⟩) (K.length+1) c) vi vr (K++[x]) I R :=
 h.key hx hb4 (UR rfl ho) (Jp hg (hv.imp (fun e=>e.symm) fun e=>by injection e with e;omega) _ _) hv
end
abbrev zO:Obj := .cells #[.int .i64 0,.bool false,.int .i64 0,.string ⟨#[]⟩,.int .i64 0,.slice none 0 0,.slice none 0 0,.slice none 0 0] 28
variable {di:Int} {R:List Ac} {I K:List BX} {vi vk vr:Value} {V:Vx} {W:World}
theorem Vh (ih:Dt C n) (h:CX C V W r k e di vk vi vr K I R) (hn:r.length<n) (he:0<=V.x.elem/\V.x.elem<(C.s.length:Int)) (hl:I.length<=1000000):
  Calls Tryz.prog 128 #[.pointer (some ⟨V.p,0,none⟩),.pointer (some ⟨V.pr,0,none⟩),.pointer (some ⟨V.px,0,none⟩)] W fun y W'=>y = .returned (.tuple #[])/\ItP C V V.x.elem r k e di vk vr K I R W':=by
 obtain ⟨A2,c2,rfl,_,_,_⟩:=h.vb.oi.reads;have HV:=zh h;have HN:=zh hn;have MU:=zh he;have Df:=zh ih;have PX:=zh hl;have Fp:=zh (fun (w':World) (hb:Ah C.b W w')=>h.reads hb)
 have JI:Hid (C.b<W.heap.size):=h.rd.lt;have HZP:Hid (V.p+1<=W.heap.size):=h.vb.lt;clear h ih hn he hl
 go_enter Tryz.func128,Tryz.ntmps128
 refine yE (S:=(fun w'=>(w'.cell? ⟨V.p,5,none⟩=some vk/\w'.cell? ⟨V.p,6,none⟩=some (.slice A2 I.length c2)/\w'.cell? ⟨V.p,7,none⟩=some vr/\w'.cell? ⟨V.pr,0,none⟩=some (.pointer (some ⟨C.b,0,none⟩))/\w'.cell? ⟨V.px,6,none⟩=some (.slice V.Am V.x.AA.length V.cm)/\w'.cell? ⟨V.px,7,none⟩=some (.int .i64 V.x.key)/\w'.cell? ⟨V.px,8,none⟩=some (.int .i64 V.x.elem))/\Hid (Ah C.b W w'))) 8 (by kernel_rfl) ?_ (fun AU=>?_)
 ·(try dsimp only);exact Fp.out _ (Ah.of (zC (Pd _ _) 1) (AAT JI))
 refine tC 0 ?_;refine tB 1 ?_;refine tB 2 ?_;refine tC 3 ?_;refine tB 4 ?_;refine tC 6 ?_;try simp only[ps]
 refine zV (rs:=[5,7]) (by kernel_rfl) (by simp) ?_
 refine (AO.cons rfl (fun K hK=>?_) (AO.cons rfl (fun K hK=>?_) AO.nil))
 ·
  go_simp
  (refine (Df.out V.x.elem _ r k e HN MU (HV.out.below (zC (Pd _ _) 1)).rd).mono ?_;rintro y w6 ⟨x,rfl,g1,g2,r6,k6,e6,g3,g4,g5,g6⟩;have BA:=zh ((Ah.of (zC (Pd W.heap.size W) 1) (AAT JI)).trans g2);have IX:=zh (HV.out.hot BA g1);have DN:=zh (HV.out.BF BA g3);have Gm:=zh g4;have Hq:=zh g5;have Ma:=zh g6;clear g1 g2 g3 g4 g5 g6)
  refine hK.out _ _ ?_ (fun AU=>?_)
  ·(try dsimp only);exact Fp.out _ BA
  clear hK K;refine tS 7 (fun K hK=>?_)
  go_simp
  refine hK.out _ _ ?_ (fun AU=>?_)
  ·(try dsimp only);exact Fp.out _ (BA.out.below (zD _ _) JI)
  clear hK K;refine zV (rs:=[8]) (by kernel_rfl) (by simp) ?_
  refine AO.last rfl (by kernel_rfl) (fun K hK=>?_) AO.nil
  (have DL:=zh (DN.out.below (zD w6 zO));have hll:=PX.out;refine yH Bz (by rfl) (.tmp 4) (.tmp 10) (by rfl) (V.p+1) (.slice A2 I.length c2) I.length (I.flatMap BX.cells) (by rfl) DL.out.vb.oi w6.heap.size 0 1 1 yB (by rfl) rfl (zR w6 yB 28) JW (by omega) (by omega) DL.out.vb.lt ?_;intro v8 w8 Bq Bp FW;obtain ⟨g,c8,rfl,hgg⟩:=CR Bq;have JU:=zh (DN.out.Qp IX (zD w6 zO) Bq Bp FW);have MS:Hid (V.p≠g):=zh (by omega);have I5:=zh DL.out;have LD:=zh (DL.out.p8 Bp (.inr (.inl rfl)));obtain ⟨⟨_,c6,_⟩,_,f6,_⟩:=DL.out.c8 LD;have Ke:=zh (EF (j:=6) (u := .slice (some ⟨g,0,none⟩) (I.length+1) c8) (EH (xs:=yB) rfl Bq) MS);have hlt1:(I.length:Int)<(I.length:Int)+1:=(by omega);have Wh:(0:Int)<=(I.length:Int):=(by omega);clear hll Bq Bp FW hgg)
  refine hK.out _ _ ?_;clear hK K
  (try clear AU)
  refine Vb 9 ?v6 rfl (by kernel_rfl) (.inl ⟨by rfl,?y6⟩) ?_
  case y6=>(intro w;go_simp;try with_reducible rfl)
  refine Vb 11 ?v7 rfl (by kernel_rfl) (.inl ⟨by rfl,?y7⟩) ?_
  case y7=>(intro w;go_simp;try with_reducible rfl)
  refine wpAny_ready (rs:=[10,12]) (by kernel_rfl) (by simp) ?_
  refine (AllReady.cons rfl (fun K hK=>?_) (AllReady.cons rfl (fun K hK=>?_) AllReady.nil))
  ·
   (simp only[List.getElem_toArray,List.getElem_cons_zero,List.getElem_cons_succ];rw[AAC (by rfl)];refine wp_store_mid 28 (.tmp 12) (.tmp 8) rfl (g) (I.length * 8) (x.cells.toArray) (by rfl) (by rfl) ?_ ?_ ?_ ?_;(exact Ke.out _ (by simp));(exact Du);(exact E8 x))
   refine hK _ _ ?_;clear hK K;try simp only[ps]
   (try rw[yF MS.out]);(try (have XV:=zh (CX.c8 I5 ((zN (w:=w8) MS x.cells (I.length * 8)).trans LD));generalize w8.setCells g (I.length * 8) x.cells=xI at *;clear c6 f6;obtain ⟨⟨_,c6,_⟩,_,f6,_⟩:=XV.out))
   refine wpAny_ready (rs:=[12]) (by kernel_rfl) (by simp) ?_
   refine (AllReady.cons rfl (fun K hK=>?_) AllReady.nil)
   go_simp
   refine hK _ _ ?_;clear hK K;refine wpAny_done (by kernel_rfl) ?_ _
   (exact bodyPost_end (results_none Tryz.results128 _ _ _) rfl ⟨rfl,x,_,r6,k6,e6,JU.out,Gm.out,Hq.out,Ma.out⟩)
  ·
   go_simp
   refine hK _ _ ?_;clear hK K;refine wpAny_ready (rs:=[10]) (by kernel_rfl) (by simp) ?_
   refine (AllReady.cons rfl (fun K hK=>?_) AllReady.nil)
   (simp only[List.getElem_toArray,List.getElem_cons_zero,List.getElem_cons_succ];rw[AAC (by rfl)];refine wp_store_mid 28 (.tmp 12) (.tmp 8) rfl (g) (I.length * 8) (x.cells.toArray) (by rfl) (by rfl) ?_ ?_ ?_ ?_;(exact Ke.out _ (by simp));(exact Du);(exact E8 x))
   refine hK _ _ ?_;clear hK K
   (try rw[yF MS.out]);(try (have XV:=zh (CX.c8 I5 ((zN (w:=w8) MS x.cells (I.length * 8)).trans LD));generalize w8.setCells g (I.length * 8) x.cells=xI at *;clear c6 f6;obtain ⟨⟨_,c6,_⟩,_,f6,_⟩:=XV.out))
   refine wpAny_done (by kernel_rfl) ?_ _
   (exact bodyPost_end (results_none Tryz.results128 _ _ _) rfl ⟨rfl,x,_,r6,k6,e6,JU.out,Gm.out,Hq.out,Ma.out⟩)
 ·
  go_simp
  refine hK.out _ _ ?_ (fun AU=>?_)
  ·(try dsimp only);exact Fp.out _ (Ah.of (zB (zC (Pd _ _) 1) (zD _ _)) (AAT JI))
  clear hK K;refine tS 5 (fun K hK=>?_)
  go_simp
  (refine (Df.out V.x.elem _ r k e HN MU (HV.out.below (zB (zC (Pd _ _) 1) (zD _ zO))).rd).mono ?_;rintro y w6 ⟨x,rfl,g1,g2,r6,k6,e6,g3,g4,g5,g6⟩;have BA:=zh ((Ah.of (zB (zC (Pd W.heap.size W) 1) (zD _ zO)) (AAT JI)).trans g2);have IX:=zh (HV.out.hot BA (g1.mono fun q _ hq=>by have hz:((W.drewN 1).alloc zO).heap.size=W.heap.size+1:=(by simp);show q<_;omega));have DN:=zh (HV.out.BF BA g3);have S9:=zh (KC g2 (by have:=JI.out;show W.heap.size≠_;omega) (zR (W.drewN 1) yB 28));have Gm:=zh g4;have Hq:=zh g5;have Ma:=zh g6;clear g1 g2 g3 g4 g5 g6)
  refine hK.out _ _ ?_ (fun AU=>?_)
  ·(try dsimp only);exact Fp.out _ BA
  clear hK K;refine zV (rs:=[8]) (by kernel_rfl) (by simp) ?_
  refine AO.last rfl (by kernel_rfl) (fun K hK=>?_) AO.nil
  (have hll:=PX.out;refine yH Bz (by rfl) (.tmp 4) (.tmp 10) (by rfl) (V.p+1) (.slice A2 I.length c2) I.length (I.flatMap BX.cells) (by rfl) DN.out.vb.oi W.heap.size 0 1 1 yB (by rfl) rfl S9 JW (by omega) (by omega) DN.out.vb.lt ?_;intro v8 w8 Bq Bp FW;obtain ⟨g,c8,rfl,hgg⟩:=CR Bq;have JU:=zh (DN.out.Qp IX (Pd _ _) Bq Bp FW);have MS:Hid (V.p≠g):=zh (by omega);have I5:=zh DN.out;have LD:=zh (DN.out.p8 Bp (.inr (.inl rfl)));obtain ⟨⟨_,c6,_⟩,_,f6,_⟩:=DN.out.c8 LD;have Ke:=zh (EF (j:=6) (u := .slice (some ⟨g,0,none⟩) (I.length+1) c8) (EH (xs:=yB) rfl Bq) MS);have hlt1:(I.length:Int)<(I.length:Int)+1:=(by omega);have Wh:(0:Int)<=(I.length:Int):=(by omega);clear hll Bq Bp FW hgg)
  refine hK.out _ _ ?_;clear hK K
  (try clear AU)
  try simp only[ps]
  refine Vb 9 ?v8 rfl (by kernel_rfl) (.inl ⟨by rfl,?y8⟩) ?_
  case y8=>(intro w;go_simp;try with_reducible rfl)
  refine Vb 11 ?v9 rfl (by kernel_rfl) (.inl ⟨by rfl,?y9⟩) ?_
  case y9=>(intro w;go_simp;try with_reducible rfl)
  refine wpAny_ready (rs:=[10,12]) (by kernel_rfl) (by simp) ?_
  refine (AllReady.cons rfl (fun K hK=>?_) (AllReady.cons rfl (fun K hK=>?_) AllReady.nil))
  ·
   (simp only[List.getElem_toArray,List.getElem_cons_zero,List.getElem_cons_succ];rw[AAC (by rfl)];refine wp_store_mid 28 (.tmp 12) (.tmp 8) rfl (g) (I.length * 8) (x.cells.toArray) (by rfl) (by rfl) ?_ ?_ ?_ ?_;(exact Ke.out _ (by simp));(exact Du);(exact E8 x))
   refine hK _ _ ?_;clear hK K
   (try rw[yF MS.out]);(try (have XV:=zh (CX.c8 I5 ((zN (w:=w8) MS x.cells (I.length * 8)).trans LD));generalize w8.setCells g (I.length * 8) x.cells=xI at *;clear c6 f6;obtain ⟨⟨_,c6,_⟩,_,f6,_⟩:=XV.out))
   refine wpAny_ready (rs:=[12]) (by kernel_rfl) (by simp) ?_
   refine (AllReady.cons rfl (fun K hK=>?_) AllReady.nil)
   go_simp
   refine hK _ _ ?_;clear hK K;refine wpAny_done (by kernel_rfl) ?_ _
   (exact bodyPost_end (results_none Tryz.results128 _ _ _) rfl ⟨rfl,x,_,r6,k6,e6,JU.out,Gm.out,Hq.out,Ma.out⟩)
  ·
   go_simp
   refine hK _ _ ?_;clear hK K;refine wpAny_ready (rs:=[10]) (by kernel_rfl) (by simp) ?_
   refine (AllReady.cons rfl (fun K hK=>?_) AllReady.nil)
   (simp only[List.getElem_toArray,List.getElem_cons_zero,List.getElem_cons_succ];rw[AAC (by rfl)];refine wp_store_mid 28 (.tmp 12) (.tmp 8) rfl (g) (I.length * 8) (x.cells.toArray) (by rfl) (by rfl) ?_ ?_ ?_ ?_;(exact Ke.out _ (by simp));(exact Du);(exact E8 x))
   refine hK _ _ ?_;clear hK K;try simp only[ps]
   (try rw[yF MS.out]);(try (have XV:=zh (CX.c8 I5 ((zN (w:=w8) MS x.cells (I.length * 8)).trans LD));generalize w8.setCells g (I.length * 8) x.cells=xI at *;clear c6 f6;obtain ⟨⟨_,c6,_⟩,_,f6,_⟩:=XV.out))
   refine wpAny_done (by kernel_rfl) ?_ _
   (exact bodyPost_end (results_none Tryz.results128 _ _ _) rfl ⟨rfl,x,_,r6,k6,e6,JU.out,Gm.out,Hq.out,Ma.out⟩)
variable {W':World}
theorem CX.QW (h:CX C V W r k e di vk vi vr K I R) (hp:V.pv≠V.p) (hb:Ah C.b W W'):W'.cell? ⟨V.pv,0,none⟩=some (.pointer (some ⟨V.p,0,none⟩)):=by
 have g:=h.bv.resolve_left hp;rw[AAB _ _ _ _ _ _ ((hb.Ef _ (Jv g h.rd.blk (by decide)) (zg.1 g).1).trans g)];rfl
def EnP (C:CZ) (V:Vx) (r:List AB) (k:Bool) (di:Int) (vr:Value) (K I:List BX) (R:List Ac) (W':World):Prop :=
 ∃x y Xe Me r' k' e',CX C V W' r' k' e' di Xe Me vr (K++[x]) (I++[y]) R/\r'.length<=r.length/\(match Bb (AP false C.s) V.x r k with
  | .ok (v,r1,k1)=>x.v=v.1/\y.v=v.2/\r'=r1/\k'=k1/\e'=0
  | .error e1=>e'=e1)
def Jy (T:ByteArray) (r2:List AB) (e2:Int) (r':List AB) (e':Int):Prop:=r'.length<=r2.length/\((e2≠0/\r'=r2/\e'=e2)\/(e2=0/\((Ba T r2=true/\r'=r2.tail/\e'=0)\/(Ba T r2=false/\e'=2))))
theorem Mk (h:e≠0):Jy T r e r e:=⟨AAQ _,.inl ⟨h,rfl,rfl⟩⟩
theorem Eh {y:Ending} (h:uy C T w r k 0 y w'):Ah C.b w w'/\∃r' e',CF C w' r' k e'/\Jy T r 0 r' e':=by
 obtain ⟨_,hb,h⟩:=h;refine ⟨hb,?_⟩
 rcases h with ⟨h1,h2⟩|⟨h1,h2⟩
 ·exact ⟨_,_,h2,by simp,.inr ⟨rfl,.inl ⟨h1,rfl,rfl⟩⟩⟩
 ·exact ⟨_,_,h2,AAQ _,.inr ⟨rfl,.inr ⟨h1,rfl⟩⟩⟩
theorem Bl {r2 r':List AB} {e':Int} (h:Jy T r2 0 r' e'):match BG T r2 with
  | .ok l=>r'=l/\e'=0
  | .error e1=>e'=e1/\e'≠0:=by
 unfold BG
 rcases h.2 with ⟨h1,_⟩|⟨_,⟨h1,h2,h3⟩|⟨h1,h2⟩⟩
 ·exact absurd rfl h1
 ·rw[AAC h1];exact ⟨h2,h3⟩
 ·rw[Pe (by rw[h1];simp)];exact ⟨h2,by rw[h2];decide⟩
theorem qG {KL:List BX} {x:BX} {nu:Value} {r2:List AB} {k2:Bool} {e2:Int} (hr2:r2.length<=r.length) (hm2:match AP false C.s V.x.key r k with
   | .ok (v,r1,k1)=>x.v=v/\r2=r1/\k2=k1/\e2=0
   | .error e1=>e2=e1) {r4:List AB} {e4:Int} (ha:Jy ⟨#[45,62]⟩ r2 e2 r4 e4) {y:BX} {Me:Value} {r':List AB} {k':Bool} {e':Int} (h:CX C V W' r' k' e' di nu Me vr (KL++[x]) (I++[y]) R) (hl:r'.length<=r4.length) (hn:e4≠0->e'=e4) (hm:e4=0->match AP false C.s V.x.elem r4 k2 with
   | .ok (v,r1,k1)=>y.v=v/\r'=r1/\k'=k1/\e'=0
   | .error e1=>e'=e1):EnP C V r k di vr KL I R W':=by
 refine ⟨x,y,_,_,r',k',e',h,by have:=ha.1;omega,?_⟩
 unfold Bb
 cases hv:AP false C.s V.x.key r k with
 | error e1 =>
  rw[hv] at hm2;simp only at hm2;subst hm2;have hz:e2≠0:=fun e=>Cm false C.s V.x.key r k (e▸hv)
  rcases ha.2 with ⟨_,_,h3⟩|⟨h1,_⟩
  ·show e'=e2
   rw[hn (by omega),h3]
  ·exact absurd h1 hz
 | ok p =>
  obtain ⟨v,r1,k1⟩:=p;rw[hv] at hm2;obtain ⟨g1,rfl,rfl,rfl⟩:=hm2;rw[zM];have hs:=Bl ha;simp only
  cases hsy:BG ⟨#[45,62]⟩ r2 with
  | error e1 =>
   rw[hsy] at hs
   show e'=e1
   rw[<-hs.1];exact hn hs.2
  | ok l =>
   rw[hsy] at hs;obtain ⟨rfl,rfl⟩:=hs;have hm:=hm rfl;rw[zM]
   cases hw:AP false C.s V.x.elem r4 k2 with
   | error e1=>rw[hw] at hm;exact hm
   | ok q =>
    obtain ⟨v2,r5,k5⟩:=q;rw[hw] at hm;rw[zM];exact ⟨g1,hm⟩
theorem SX (ih:Dt C n) {KL:List BX} (h:CX C V W r k 0 di vk vi vr KL I R) (hpv:V.pv≠V.p) (hn:r.length<n) (he1:0<=V.x.key/\V.x.key<(C.s.length:Int)) (he:0<=V.x.elem/\V.x.elem<(C.s.length:Int)) (hk:KL.length<=1000000) (hl:I.length<=1000000):
  Calls Tryz.prog 162 #[.pointer (some ⟨V.pv,0,none⟩),.pointer (some ⟨V.pr,0,none⟩),.pointer (some ⟨V.px,0,none⟩)] W fun y W'=>y = .returned (.tuple #[])/\EnP C V r k di vr KL I R W':=by
 obtain ⟨A1,c1,rfl,_,_,_⟩:=h.vb.ok.reads;obtain ⟨e,he0⟩:∃e:Int,e=0:=⟨0,rfl⟩;rw[<-he0] at h;have iP:=zh he0;have HV:=zh h;have OT:=zh hpv;have OU:=zh hn;have rX:=zh he1;have VX:=zh he;have Df:=zh ih;have rF:=zh hk;have VT:=zh hl;clear h ih hn he he1 hl hk hpv he0
 go_enter Tryz.func162,Tryz.ntmps162
 go_upto_region 0 with fail
 go_cut [4] (fun s wx=>∃b0:Bool,s = .bool b0/\Hid (Below W.heap.size W wx))
 case first =>
  go_region <;> (go_wp2;go_meet;exact ⟨_,rfl,zC (zD W _) 1⟩)
 case rest =>
 obtain ⟨b0,rfl,hb⟩:=hcut;obtain ⟨W1,rfl⟩:∃W:World,W=wc:=⟨_,rfl⟩;have aD:=zh (HV.out.below hb.out);have Ki:=zh (HV.out.rd.BF hb.out);clear hb HV;have QA:Hid (C.b<W1.heap.size):=aD.out.rd.lt;have TB:=zh (fun (w':World) (hb:Ah C.b W1 w')=>And.intro (aD.out.reads hb) (aD.out.QW OT hb))
 go_upto_if 4 with fail
 go_cut [] (fun wx=>Hid (KyP C V V.x.key r k e di vi vr KL I R wx))
 case first =>
  cases b0 with
  | true =>
   go_upto_region 1 with fail
   refine yE (S:=(fun w'=>((w'.cell? ⟨V.p,5,none⟩=some (.slice A1 KL.length c1)/\w'.cell? ⟨V.p,6,none⟩=some vi/\w'.cell? ⟨V.p,7,none⟩=some vr/\w'.cell? ⟨V.pr,0,none⟩=some (.pointer (some ⟨C.b,0,none⟩))/\w'.cell? ⟨V.px,6,none⟩=some (.slice V.Am V.x.AA.length V.cm)/\w'.cell? ⟨V.px,7,none⟩=some (.int .i64 V.x.key)/\w'.cell? ⟨V.px,8,none⟩=some (.int .i64 V.x.elem))/\Hid (Ah C.b W1 w'))/\(w'.cell? ⟨V.pv,0,none⟩=some (.pointer (some ⟨V.p,0,none⟩))))) 10 (by kernel_rfl) ?_ (fun AU=>?_)
   ·(try dsimp only);exact TB.out _ (Ah.of (zC (Pd _ _) 1) (AAT QA))
   refine tB 0 ?_;refine tC 1 ?_;refine tC 2 ?_;refine tB 3 ?_;refine tB 4 ?_;refine tC 5 ?_;try simp only[ps]
   refine tB 6 ?_;refine tC 8 ?_;refine zV (rs:=[7,9]) (by kernel_rfl) (by simp) ?_
   refine (AO.cons rfl (fun K hK=>?_) (AO.cons rfl (fun K hK=>?_) AO.nil))
   ·
    go_simp
    (refine (Df.out V.x.key _ r k e OU rX (aD.out.below (zC (Pd W1.heap.size W1) 1)).rd).mono ?_;rintro y w6 ⟨x,rfl,g1,g2,r6,k6,e6,g3,g4,g5,g6⟩;have BA:=zh ((Ah.of (zC (Pd W1.heap.size W1) 1) (AAT QA)).trans g2);have IX:=zh (aD.out.hot BA g1);have DN:=zh (aD.out.BF BA g3);have Gm:=zh g4;have Hq:=zh g5;have Ma:=zh g6;clear g1 g2 g3 g4 g5 g6)
    refine hK.out _ _ ?_ (fun AU=>?_)
    ·(try dsimp only);exact TB.out _ BA
    clear hK K;refine tS 9 (fun K hK=>?_)
    go_simp
    refine hK.out _ _ ?_ (fun AU=>?_)
    ·(try dsimp only);exact TB.out _ (BA.out.below (zD _ _) QA)
    clear hK K;refine zV (rs:=[10]) (by kernel_rfl) (by simp) ?_
    refine AO.last rfl (by kernel_rfl) (fun K hK=>?_) AO.nil
    (have DL:=zh (DN.out.below (zD w6 zO));have hll:=rF.out;refine yH Bz (by rfl) (.tmp 8) (.tmp 14) (by rfl) (V.p+1) (.slice A1 KL.length c1) KL.length (KL.flatMap BX.cells) (by rfl) DL.out.vb.ok w6.heap.size 0 1 1 yB (by rfl) rfl (zR w6 yB 28) JW (by omega) (by omega) DL.out.vb.lt ?_;intro v8 w8 Bq Bp FW;obtain ⟨g,c8,rfl,hgg⟩:=CR Bq;have JU:=zh (DN.out.uM IX (zD w6 zO) Bq Bp FW);have MS:Hid (V.p≠g):=zh (by omega);have LD:=zh (DL.out.p8 Bp (.inl rfl));obtain ⟨⟨c5,_,_⟩,f5,_,_⟩:=DL.out.c8 LD;have Ke:=zh (EF (j:=5) (u := .slice (some ⟨g,0,none⟩) (KL.length+1) c8) (EH (xs:=yB) rfl Bq) MS);have hlt1:(KL.length:Int)<(KL.length:Int)+1:=(by omega);have Wh:(0:Int)<=(KL.length:Int):=(by omega);clear hll Bq Bp FW hgg)
    refine hK.out _ _ ?_;clear hK K
    (try clear AU)
    refine Vb 11 ?v8 rfl (by kernel_rfl) (.inl ⟨by rfl,?y8⟩) ?_
    case y8=>(intro w;go_simp;try with_reducible rfl)
    try simp only[ps]
    refine Vb 12 ?v9 rfl (by kernel_rfl) (.inl ⟨by rfl,?y9⟩) ?_
    case y9=>(intro w;go_simp;try with_reducible rfl)
    refine wpAny_ready (rs:=[13]) (by kernel_rfl) (by simp) ?_
    refine (AllReady.cons rfl (fun K hK=>?_) AllReady.nil)
    go_simp
    refine hK _ _ ?_;clear hK K;refine wpAny_done (by kernel_rfl) ?_ _
    (go_wp2_with (refine wpList_store_mid rfl 28 (.tmp 18) (.tmp 12) rfl g (KL.length * 8) x.cells.toArray (by rfl) (by rfl) (Ke.out _ (by simp)) Du (E8 x) ?_);rw[yF MS.out];go_meet;exact ⟨x,_,r6,k6,e6,JU.out,Gm.out,Hq.out,Ma.out⟩)
   ·
    go_simp
    refine hK.out _ _ ?_ (fun AU=>?_)
    ·(try dsimp only);exact TB.out _ (Ah.of (zB (zC (Pd _ _) 1) (zD _ _)) (AAT QA))
    clear hK K;refine tS 7 (fun K hK=>?_)
    go_simp
    (refine (Df.out V.x.key _ r k e OU rX (aD.out.below (zB (zC (Pd W1.heap.size W1) 1) (zD _ zO))).rd).mono ?_;rintro y w6 ⟨x,rfl,g1,g2,r6,k6,e6,g3,g4,g5,g6⟩;have BA:=zh ((Ah.of (zB (zC (Pd W1.heap.size W1) 1) (zD _ zO)) (AAT QA)).trans g2);have IX:=zh (aD.out.hot BA (g1.mono fun q _ hq=>by have hz:((W1.drewN 1).alloc zO).heap.size=W1.heap.size+1:=(by simp);show q<_;omega));have S9:=zh (KC g2 (by have:=QA.out;show W1.heap.size≠_;omega) (zR (W1.drewN 1) yB 28));have DN:=zh (aD.out.BF BA g3);have Gm:=zh g4;have Hq:=zh g5;have Ma:=zh g6;clear g1 g2 g3 g4 g5 g6)
    refine hK.out _ _ ?_ (fun AU=>?_)
    ·(try dsimp only);exact TB.out _ BA
    clear hK K;refine zV (rs:=[10]) (by kernel_rfl) (by simp) ?_
    refine AO.last rfl (by kernel_rfl) (fun K hK=>?_) AO.nil
    (have hll:=rF.out;refine yH Bz (by rfl) (.tmp 8) (.tmp 14) (by rfl) (V.p+1) (.slice A1 KL.length c1) KL.length (KL.flatMap BX.cells) (by rfl) DN.out.vb.ok W1.heap.size 0 1 1 yB (by rfl) rfl S9 JW (by omega) (by omega) DN.out.vb.lt ?_;intro v8 w8 Bq Bp FW;obtain ⟨g,c8,rfl,hgg⟩:=CR Bq;have JU:=zh (DN.out.uM IX (Pd _ _) Bq Bp FW);have MS:Hid (V.p≠g):=zh (by omega);have LD:=zh (DN.out.p8 Bp (.inl rfl));obtain ⟨⟨c5,_,_⟩,f5,_,_⟩:=DN.out.c8 LD;have Ke:=zh (EF (j:=5) (u := .slice (some ⟨g,0,none⟩) (KL.length+1) c8) (EH (xs:=yB) rfl Bq) MS);have hlt1:(KL.length:Int)<(KL.length:Int)+1:=(by omega);have Wh:(0:Int)<=(KL.length:Int):=(by omega);clear hll Bq Bp FW hgg)
    refine hK.out _ _ ?_;clear hK K
    (try clear AU)
    refine Vb 11 ?v10 rfl (by kernel_rfl) (.inl ⟨by rfl,?y10⟩) ?_
    case y10=>(intro w;go_simp;try with_reducible rfl)
    try simp only[ps]
    refine Vb 12 ?v11 rfl (by kernel_rfl) (.inl ⟨by rfl,?y11⟩) ?_
    case y11=>(intro w;go_simp;try with_reducible rfl)
    refine wpAny_ready (rs:=[13]) (by kernel_rfl) (by simp) ?_
    refine (AllReady.cons rfl (fun K hK=>?_) AllReady.nil)
    go_simp
    refine hK _ _ ?_;clear hK K;refine wpAny_done (by kernel_rfl) ?_ _
    (go_wp2_with (refine wpList_store_mid rfl 28 (.tmp 18) (.tmp 12) rfl g (KL.length * 8) x.cells.toArray (by rfl) (by rfl) (Ke.out _ (by simp)) Du (E8 x) ?_);rw[yF MS.out];go_meet;exact ⟨x,_,r6,k6,e6,JU.out,Gm.out,Hq.out,Ma.out⟩)
  | false =>
   go_upto_region 3 with fail
   refine yE (S:=(fun w'=>((w'.cell? ⟨V.p,5,none⟩=some (.slice A1 KL.length c1)/\w'.cell? ⟨V.p,6,none⟩=some vi/\w'.cell? ⟨V.p,7,none⟩=some vr/\w'.cell? ⟨V.pr,0,none⟩=some (.pointer (some ⟨C.b,0,none⟩))/\w'.cell? ⟨V.px,6,none⟩=some (.slice V.Am V.x.AA.length V.cm)/\w'.cell? ⟨V.px,7,none⟩=some (.int .i64 V.x.key)/\w'.cell? ⟨V.px,8,none⟩=some (.int .i64 V.x.elem))/\Hid True)/\(w'.cell? ⟨V.pv,0,none⟩=some (.pointer (some ⟨V.p,0,none⟩))))) 13 (by kernel_rfl) ?_ (fun AU=>?_)
   ·(try dsimp only);(have hk:=TB.out _ (Ah.of (zC (Pd _ _) 1) (AAT QA));exact ⟨⟨hk.1.1,trivial⟩,hk.2⟩)
   refine tB 0 ?_;refine tB 1 ?_;refine tC 2 ?_;refine tC 3 ?_;try simp only[ps]
   refine tB 4 ?_;refine tB 5 ?_;refine tC 6 ?_;refine tB 7 ?_;refine tS 8 (fun K hK=>?_)
   go_simp
   (refine (Df.out V.x.key _ r k e OU rX (aD.out.below (zC (Pd W1.heap.size W1) 1)).rd).mono ?_;rintro y w6 ⟨x,rfl,g1,g2,r6,k6,e6,g3,g4,g5,g6⟩;have BA:=zh ((Ah.of (zC (Pd W1.heap.size W1) 1) (AAT QA)).trans g2);have IX:=zh (aD.out.hot BA g1);have DN:=zh (aD.out.BF BA g3);have Gm:=zh g4;have Hq:=zh g5;have Ma:=zh g6;clear g1 g2 g3 g4 g5 g6)
   refine hK.out _ _ ?_ (fun AU=>?_)
   ·(try dsimp only);(have hk:=TB.out _ (BA.out);exact ⟨⟨hk.1.1,trivial⟩,hk.2⟩)
   clear hK K;refine tS 9 (fun K hK=>?_)
   go_simp
   refine hK.out _ _ ?_ (fun AU=>?_)
   ·(try dsimp only);(have hk:=TB.out _ (BA.out.below (zD w6 (.cells x.cells.toArray 28)) QA);exact ⟨⟨hk.1.1,trivial⟩,hk.2⟩)
   clear hK K;try simp only[ps]
   refine tS 10 (fun K hK=>?_)
   (have DL:=zh (DN.out.below (zD w6 (.cells x.cells.toArray 28)));have hll:=rF.out;refine yH Bz (by rfl) (.tmp 23) (.tmp 28) (by rfl) (V.p+1) (.slice A1 KL.length c1) KL.length (KL.flatMap BX.cells) (by rfl) DL.out.vb.ok w6.heap.size 0 1 1 x.cells (by rfl) rfl (zR w6 x.cells 28) (Gr x) (by omega) (by omega) DL.out.vb.lt ?_;intro v8 w8 Bq Bp FW;obtain ⟨g,c8,rfl,hgg⟩:=CR Bq;have JU:=zh (DN.out.key IX (zD w6 (.cells x.cells.toArray 28)) Bq Bp FW);have LD:=zh (DL.out.p8 Bp (.inl rfl));have I5:=zh (DL.out.Xq LD (DL.out.SQ Bp (.inl rfl)));obtain ⟨⟨c5,_,_⟩,f5,_,_⟩:=DL.out.c8 LD;clear hll Bq FW hgg)
   refine hK.out _ _ ?_ (fun AU=>?_)
   ·(try dsimp only);exact ⟨⟨I5.out.1,trivial⟩,I5.out.2 OT⟩
   clear hK K;refine tC 11 ?_;refine tC 12 ?_;refine zV (rs:=[13]) (by kernel_rfl) (by simp) ?_
   refine AO.last rfl (by kernel_rfl) (fun K hK=>?_) AO.nil
   go_simp
   refine hK.out _ _ ?_;clear hK K
   (try clear AU)
   refine wpAny_done (by kernel_rfl) ?_ _
   (go_wp2;go_meet;exact ⟨x,_,r6,k6,e6,JU.out,Gm.out,Hq.out,Ma.out⟩)
 case rest =>
 obtain ⟨W2,rfl⟩:∃W:World,W=wc:=⟨_,rfl⟩;obtain ⟨x,nu,r2,k2,e2,hv2,hr2,hn2,hm2⟩:=hcut.out;have vO:=zh hv2;have HR2:=zh hr2;have gu:=zh hm2;clear hv2 hr2 hn2 hm2 hcut TB Ki aD QA;have hz2:=vO.out.rd.zero;have p2:=(vO.out.reads (Ah.refl _ _)).1.2.2.2.1
 go_upto_if 36 with fail
 go_cut [] (fun wx=>∃r4 e4,Hid (CX C V wx r4 k2 e4 di nu vi vr (KL++[x]) I R/\Jy ⟨#[45,62]⟩ r2 e2 r4 e4))
 case first =>
  by_cases he:e2=0
  ·have q1:(e2==0)=true:=by simp[he]
   have FX:Hid (CX C V W2 r2 k2 0 di nu vi vr (KL++[x]) I R):=by show CX _ _ _ _ _ _ _ _ _ _ _ _ _;rw[<-he];exact vO.out
   have HE:=zh he;clear he hz2;go_wp2_with (go_at_call 126;refine (BV ⟨#[45,62]⟩ FX.out.rd).mono ?_;intro y w3 h3;obtain rfl:=h3.1;have Ie:=zh (Eh h3);clear h3);go_meet;obtain ⟨hb,r',e',g1,g2⟩:=Ie.out;exact ⟨r',e',FX.out.BF hb g1,by rw[HE.out];exact g2⟩
  ·have q1:(e2==0)=false:=by simp[he]
   have HE:=zh he;clear he hz2;go_wp2;go_meet;exact ⟨r2,e2,vO.out,Mk HE⟩
 case rest =>
 obtain ⟨W3,rfl⟩:∃W:World,W=wc:=⟨_,rfl⟩;obtain ⟨r4,e4,h4⟩:=hcut;have FX:=zh h4.out.1;have EK:Hid (∀ (y:BX) (Me:Value) (r':List AB) (k':Bool) (e':Int) (W':World),CX C V W' r' k' e' di nu Me vr (KL++[x]) (I++[y]) R->r'.length<=r4.length->(e4≠0->e'=e4)->(e4=0->match AP false C.s V.x.elem r4 k2 with
   | .ok (v,r1,k1)=>y.v=v/\r'=r1/\k'=k1/\e'=0
   | .error e1=>e'=e1)->EnP C V r k di vr KL I R W'):=fun y Me r' k' e' W' g1 g2 g3 g4=>qG HR2 (gu.out iP) h4.out.2 g1 g2 g3 g4
 have nT:Hid (r4.length<n):=by have:=h4.out.2.1;have:=HR2.out;have:=OU.out;show _<_;omega
 clear h4 hz2 p2 vO;obtain ⟨A2,c2,rfl,_,_,_⟩:=FX.out.vb.oi.reads;go_upto_region 6 with fail
 go_cut [40] (fun s wx=>∃b0:Bool,s = .bool b0/\Hid (Below W3.heap.size W3 wx))
 case first =>
  go_region <;> (go_wp2;go_meet;exact ⟨_,rfl,zC (zD W3 _) 1⟩)
 case rest =>
 obtain ⟨b0,rfl,hb⟩:=hcut;obtain ⟨W4,rfl⟩:∃W:World,W=wc:=⟨_,rfl⟩;have Db:=zh (FX.out.below hb.out);clear hb FX;have Ia:Hid (C.b<W4.heap.size):=Db.out.rd.lt;have JN:=zh (fun (w':World) (hb:Ah C.b W4 w')=>And.intro (Db.out.reads hb) (Db.out.QW OT hb))
 generalize x=xk at *
 go_upto_if 40 with fail
 cases b0 with
 | true =>
  go_upto_region 7 with fail
  refine yE (S:=(fun w'=>((w'.cell? ⟨V.p,5,none⟩=some nu/\w'.cell? ⟨V.p,6,none⟩=some (.slice A2 I.length c2)/\w'.cell? ⟨V.p,7,none⟩=some vr/\w'.cell? ⟨V.pr,0,none⟩=some (.pointer (some ⟨C.b,0,none⟩))/\w'.cell? ⟨V.px,6,none⟩=some (.slice V.Am V.x.AA.length V.cm)/\w'.cell? ⟨V.px,7,none⟩=some (.int .i64 V.x.key)/\w'.cell? ⟨V.px,8,none⟩=some (.int .i64 V.x.elem))/\Hid (Ah C.b W4 w'))/\(w'.cell? ⟨V.pv,0,none⟩=some (.pointer (some ⟨V.p,0,none⟩))))) 10 (by kernel_rfl) ?_ (fun AU=>?_)
  ·(try dsimp only);exact JN.out _ (Ah.of (zC (Pd _ _) 1) (AAT Ia))
  refine tB 0 ?_;refine tC 1 ?_;try simp only[ps]
  refine tC 2 ?_;refine tB 3 ?_;refine tB 4 ?_;refine tC 5 ?_;refine tB 6 ?_;refine tC 8 ?_;try simp only[ps]
  refine zV (rs:=[7,9]) (by kernel_rfl) (by simp) ?_
  refine (AO.cons rfl (fun K hK=>?_) (AO.cons rfl (fun K hK=>?_) AO.nil))
  ·
   go_simp
   (refine (Df.out V.x.elem _ r4 k2 e4 nT VX (Db.out.below (zC (Pd W4.heap.size W4) 1)).rd).mono ?_;rintro y w6 ⟨x,rfl,g1,g2,r6,k6,e6,g3,g4,g5,g6⟩;have BA:=zh ((Ah.of (zC (Pd W4.heap.size W4) 1) (AAT Ia)).trans g2);have IX:=zh (Db.out.hot BA g1);have DN:=zh (Db.out.BF BA g3);have Gm:=zh g4;have Hq:=zh g5;have Ma:=zh g6;clear g1 g2 g3 g4 g5 g6)
   refine hK.out _ _ ?_ (fun AU=>?_)
   ·(try dsimp only);exact JN.out _ BA
   clear hK K;refine tS 9 (fun K hK=>?_)
   go_simp
   refine hK.out _ _ ?_ (fun AU=>?_)
   ·(try dsimp only);exact JN.out _ (BA.out.below (zD _ _) Ia)
   clear hK K;refine zV (rs:=[10]) (by kernel_rfl) (by simp) ?_
   refine AO.last rfl (by kernel_rfl) (fun K hK=>?_) AO.nil
   (have DL:=zh (DN.out.below (zD w6 zO));have hll:=VT.out;refine yH Bz (by rfl) (.tmp 44) (.tmp 50) (by rfl) (V.p+1) (.slice A2 I.length c2) I.length (I.flatMap BX.cells) (by rfl) DL.out.vb.oi w6.heap.size 0 1 1 yB (by rfl) rfl (zR w6 yB 28) JW (by omega) (by omega) DL.out.vb.lt ?_;intro v8 w8 Bq Bp FW;obtain ⟨g,c8,rfl,hgg⟩:=CR Bq;have JU:=zh (DN.out.Qp IX (zD w6 zO) Bq Bp FW);have MS:Hid (V.p≠g):=zh (by omega);have LD:=zh (DL.out.p8 Bp (.inr (.inl rfl)));obtain ⟨⟨_,c6,_⟩,_,f6,_⟩:=DL.out.c8 LD;have Ke:=zh (EF (j:=6) (u := .slice (some ⟨g,0,none⟩) (I.length+1) c8) (EH (xs:=yB) rfl Bq) MS);have hlt1:(I.length:Int)<(I.length:Int)+1:=(by omega);have Wh:(0:Int)<=(I.length:Int):=(by omega);clear hll Bq Bp FW hgg)
   refine hK.out _ _ ?_;clear hK K
   (try clear AU)
   refine Vb 11 ?v30 rfl (by kernel_rfl) (.inl ⟨by rfl,?y30⟩) ?_
   case y30=>(intro w;go_simp;try with_reducible rfl)
   refine Vb 12 ?v31 rfl (by kernel_rfl) (.inl ⟨by rfl,?y31⟩) ?_
   case y31=>(intro w;go_simp;try with_reducible rfl)
   refine wpAny_ready (rs:=[13]) (by kernel_rfl) (by simp) ?_
   refine (AllReady.cons rfl (fun K hK=>?_) AllReady.nil)
   go_simp
   refine hK _ _ ?_;clear hK K;try simp only[ps]
   refine wpAny_done (by kernel_rfl) ?_ _
   (go_wp2_with (refine wpList_store_mid rfl 28 (.tmp 54) (.tmp 48) rfl g (I.length * 8) x.cells.toArray (by rfl) (by rfl) (Ke.out _ (by simp)) Du (E8 x) ?_);rw[yF MS.out];exact bodyPost_end (results_none Tryz.results162 _ _ _) rfl ⟨rfl,EK.out x _ r6 k6 e6 _ JU Gm Hq Ma⟩)
  ·
   go_simp
   refine hK.out _ _ ?_ (fun AU=>?_)
   ·(try dsimp only);exact JN.out _ (Ah.of (zB (zC (Pd _ _) 1) (zD _ _)) (AAT Ia))
   clear hK K;refine tS 7 (fun K hK=>?_)
   go_simp
   (refine (Df.out V.x.elem _ r4 k2 e4 nT VX (Db.out.below (zB (zC (Pd W4.heap.size W4) 1) (zD _ zO))).rd).mono ?_;rintro y w6 ⟨x,rfl,g1,g2,r6,k6,e6,g3,g4,g5,g6⟩;have BA:=zh ((Ah.of (zB (zC (Pd W4.heap.size W4) 1) (zD _ zO)) (AAT Ia)).trans g2);have IX:=zh (Db.out.hot BA (g1.mono fun q _ hq=>by have hz:((W4.drewN 1).alloc zO).heap.size=W4.heap.size+1:=(by simp);show q<_;omega));have S9:=zh (KC g2 (by have:=Ia.out;show W4.heap.size≠_;omega) (zR (W4.drewN 1) yB 28));have DN:=zh (Db.out.BF BA g3);have Gm:=zh g4;have Hq:=zh g5;have Ma:=zh g6;clear g1 g2 g3 g4 g5 g6)
   refine hK.out _ _ ?_ (fun AU=>?_)
   ·(try dsimp only);exact JN.out _ BA
   clear hK K;refine zV (rs:=[10]) (by kernel_rfl) (by simp) ?_
   refine AO.last rfl (by kernel_rfl) (fun K hK=>?_) AO.nil
   (have hll:=VT.out;refine yH Bz (by rfl) (.tmp 44) (.tmp 50) (by rfl) (V.p+1) (.slice A2 I.length c2) I.length (I.flatMap BX.cells) (by rfl) DN.out.vb.oi W4.heap.size 0 1 1 yB (by rfl) rfl S9 JW (by omega) (by omega) DN.out.vb.lt ?_;intro v8 w8 Bq Bp FW;obtain ⟨g,c8,rfl,hgg⟩:=CR Bq;have JU:=zh (DN.out.Qp IX (Pd _ _) Bq Bp FW);have MS:Hid (V.p≠g):=zh (by omega);have LD:=zh (DN.out.p8 Bp (.inr (.inl rfl)));obtain ⟨⟨_,c6,_⟩,_,f6,_⟩:=DN.out.c8 LD;have Ke:=zh (EF (j:=6) (u := .slice (some ⟨g,0,none⟩) (I.length+1) c8) (EH (xs:=yB) rfl Bq) MS);have hlt1:(I.length:Int)<(I.length:Int)+1:=(by omega);have Wh:(0:Int)<=(I.length:Int):=(by omega);clear hll Bq Bp FW hgg)
   refine hK.out _ _ ?_;clear hK K
   (try clear AU)
   refine Vb 11 ?v32 rfl (by kernel_rfl) (.inl ⟨by rfl,?y32⟩) ?_
   case y32=>(intro w;go_simp;try with_reducible rfl)
   refine Vb 12 ?v33 rfl (by kernel_rfl) (.inl ⟨by rfl,?y33⟩) ?_
   case y33=>(intro w;go_simp;try with_reducible rfl)
   refine wpAny_ready (rs:=[13]) (by kernel_rfl) (by simp) ?_
   refine (AllReady.cons rfl (fun K hK=>?_) AllReady.nil)
   go_simp
   refine hK _ _ ?_;clear hK K;try simp only[ps]
   refine wpAny_done (by kernel_rfl) ?_ _
   (go_wp2_with (refine wpList_store_mid rfl 28 (.tmp 54) (.tmp 48) rfl g (I.length * 8) x.cells.toArray (by rfl) (by rfl) (Ke.out _ (by simp)) Du (E8 x) ?_);rw[yF MS.out];exact bodyPost_end (results_none Tryz.results162 _ _ _) rfl ⟨rfl,EK.out x _ r6 k6 e6 _ JU Gm Hq Ma⟩)
 | false =>
  go_upto_region 9 with fail
  refine yE (S:=(fun w'=>((w'.cell? ⟨V.p,5,none⟩=some nu/\w'.cell? ⟨V.p,6,none⟩=some (.slice A2 I.length c2)/\w'.cell? ⟨V.p,7,none⟩=some vr/\w'.cell? ⟨V.pr,0,none⟩=some (.pointer (some ⟨C.b,0,none⟩))/\w'.cell? ⟨V.px,6,none⟩=some (.slice V.Am V.x.AA.length V.cm)/\w'.cell? ⟨V.px,7,none⟩=some (.int .i64 V.x.key)/\w'.cell? ⟨V.px,8,none⟩=some (.int .i64 V.x.elem))/\Hid True)/\(w'.cell? ⟨V.pv,0,none⟩=some (.pointer (some ⟨V.p,0,none⟩))))) 13 (by kernel_rfl) ?_ (fun AU=>?_)
  ·(try dsimp only);(have hk:=JN.out _ (Ah.of (zC (Pd _ _) 1) (AAT Ia));exact ⟨⟨hk.1.1,trivial⟩,hk.2⟩)
  refine tB 0 ?_;refine tB 1 ?_;refine tC 2 ?_;refine tC 3 ?_;refine tB 4 ?_;refine tB 5 ?_;try simp only[ps]
  refine tC 6 ?_;refine tB 7 ?_;refine tS 8 (fun K hK=>?_)
  go_simp
  (refine (Df.out V.x.elem _ r4 k2 e4 nT VX (Db.out.below (zC (Pd W4.heap.size W4) 1)).rd).mono ?_;rintro y w6 ⟨x,rfl,g1,g2,r6,k6,e6,g3,g4,g5,g6⟩;have BA:=zh ((Ah.of (zC (Pd W4.heap.size W4) 1) (AAT Ia)).trans g2);have IX:=zh (Db.out.hot BA g1);have DN:=zh (Db.out.BF BA g3);have Gm:=zh g4;have Hq:=zh g5;have Ma:=zh g6;clear g1 g2 g3 g4 g5 g6)
  refine hK.out _ _ ?_ (fun AU=>?_)
  ·(try dsimp only);(have hk:=JN.out _ (BA.out);exact ⟨⟨hk.1.1,trivial⟩,hk.2⟩)
  clear hK K;refine tS 9 (fun K hK=>?_)
  go_simp
  refine hK.out _ _ ?_ (fun AU=>?_)
  ·(try dsimp only);(have hk:=JN.out _ (BA.out.below (zD w6 (.cells x.cells.toArray 28)) Ia);exact ⟨⟨hk.1.1,trivial⟩,hk.2⟩)
  clear hK K;refine tS 10 (fun K hK=>?_)
  (have DL:=zh (DN.out.below (zD w6 (.cells x.cells.toArray 28)));have hll:=VT.out;refine yH Bz (by rfl) (.tmp 59) (.tmp 64) (by rfl) (V.p+1) (.slice A2 I.length c2) I.length (I.flatMap BX.cells) (by rfl) DL.out.vb.oi w6.heap.size 0 1 1 x.cells (by rfl) rfl (zR w6 x.cells 28) (Gr x) (by omega) (by omega) DL.out.vb.lt ?_;intro v8 w8 Bq Bp FW;obtain ⟨g,c8,rfl,hgg⟩:=CR Bq;have JU:=zh (DN.out.item IX (zD w6 (.cells x.cells.toArray 28)) Bq Bp FW);have LD:=zh (DL.out.p8 Bp (.inr (.inl rfl)));have I5:=zh (DL.out.Xq LD (DL.out.SQ Bp (.inr (.inl rfl))));obtain ⟨⟨_,c6,_⟩,_,f6,_⟩:=DL.out.c8 LD;clear hll Bq FW hgg)
  refine hK.out _ _ ?_ (fun AU=>?_)
  ·(try dsimp only);exact ⟨⟨I5.out.1,trivial⟩,I5.out.2 OT⟩
  clear hK K;refine tC 11 ?_;try simp only[ps]
  refine tC 12 ?_;refine zV (rs:=[13]) (by kernel_rfl) (by simp) ?_
  refine AO.last rfl (by kernel_rfl) (fun K hK=>?_) AO.nil
  go_simp
  refine hK.out _ _ ?_;clear hK K
  (try clear AU)
  refine wpAny_done (by kernel_rfl) ?_ _
  (go_wp2;exact bodyPost_end (results_none Tryz.results162 _ _ _) rfl ⟨rfl,EK.out x _ r6 k6 e6 _ JU Gm Hq Ma⟩)
def Q6 (n:Int) (r:List AB) (t0:AB) (r1:List AB) (e1:Int):Prop:=(r1.length<=r.length/\Dc t0.text/\Dc t0.str)/\((Bg n r = .ok (t0,r1)/\e1=0/\r1.length<r.length)\/(Bg n r = .error 2/\t0=Dp/\r1=r/\e1=2))
theorem Fa {n:Int} {y:Ending} (h:gK C n w r k 0 y w'):∃t0 r1 e1,y = .returned (.agg #[.int .i64 t0.kind,.string t0.text,.int .i64 t0.int,.string t0.str,.int .i64 t0.line])/\Ah C.b w w'/\CF C w' r1 k e1/\Q6 n r t0 r1 e1:=by
 obtain ⟨hb,h⟩:=h
 rcases h with ⟨t,q,h1,h2,h3,h4,h5⟩|⟨h1,h2,h3⟩
 ·have:=(Bj h1).1.2
  exact ⟨t,q,0,h2,hb,h3,⟨by omega,h4,h5⟩,.inl ⟨h1,rfl,this⟩⟩
 ·exact ⟨Dp,r,2,h2,hb,h3,⟨AAQ _,by unfold Dc Dp;decide,by unfold Dc Dp;decide⟩,.inr ⟨h1,rfl,rfl,rfl⟩⟩
theorem Q6.tk {n:Int} {r1:List AB} {t0:AB} {e1:Int} (h:Q6 n r t0 r1 e1):match Bg n r with
  | .ok p=>t0=p.1/\r1=p.2/\e1=0/\r1.length<r.length
  | .error e2=>e1=e2/\e1≠0:=by
 rcases h.2 with ⟨h1,h2,h3⟩|⟨h1,_,_,h2⟩
 ·rw[h1];exact ⟨rfl,rfl,h2,h3⟩
 ·rw[h1];exact ⟨h2,by rw[h2];decide⟩
def aL (nm:ByteArray) (t0:AB) (e1:Int):Int:=if e1=0 then (if t0.text=nm then 0 else 4) else e1
theorem Jl (h:Ba T r=true):r.tail.length<r.length:=(Dz h).2
section
variable {f:Int->List AB->Bool->PR Val} {Rt:Kb} {acc:List Val} {ms:List AY} {y:AY} {r:List AB} {k:Bool}
theorem jU (hnz:∀t l k,f t l k ≠ .error 0) (h:ML f Rt acc [] (y::ms) r k) {t0:AB} {r1:List AB} {e1:Int} (h1:Q6 1 r t0 r1 e1) {r3:List AB} {e3:Int} (h3:Jy ⟨#[58]⟩ r1 (aL y.name t0 e1) r3 e3) {x:Val} {r5:List AB} {k5:Bool} {e5:Int} (hl5:r5.length<=r3.length) (nC:e3≠0->e5=e3)
  (h5:e3=0->match f y.type r3 k with
   | .ok (v,r',k')=>x=v/\r5=r'/\k5=k'/\e5=0
   | .error e=>e5=e) {e6:Int} (h6:e6=if e5=0/\ms≠[]/\Ba ⟨#[44]⟩ r5=false then 2 else e5) :
  (e6=0->PG f Rt (acc++[x]) [] ms r5 k5/\r5.length<r.length)/\(e6≠0->Rt = .error e6):=by
 obtain ⟨_,hR⟩:=h.name;have ht:=h1.tk;have hl1:=h1.1.1;have hl3:=h3.1
 cases hk:Bg 1 r with
 | error e =>
  rw[hk] at ht hR;obtain ⟨rfl,hz⟩:=ht;have hnm:aL y.name t0 e1=e1:=Pe hz;rw[hnm] at h3
  rcases h3.2 with ⟨_,_,g⟩|⟨g,_⟩
  ·have g5:=nC (by omega)
   rw[Pe (by rintro ⟨g,_⟩;omega)] at h6
   have e61:e6=e1:=by omega
   subst e61;exact ⟨fun g=>absurd g hz,fun _=>hR⟩
  ·exact absurd g hz
 | ok p =>
  obtain ⟨u,q⟩:=p;rw[hk] at ht hR;obtain ⟨rfl,rfl,rfl,hlt⟩:=ht;rw[zM] at hR;simp only at hR
  by_cases hnm:t0.text=y.name
  ·have hn0:aL y.name t0 0=0:=by unfold aL;rw[AAC rfl,AAC hnm]
   rw[hn0] at h3;rw[AAC hnm] at hR;have hs:=Bl h3
   cases hsy:BG ⟨#[58]⟩ r1 with
   | error e =>
    rw[hsy] at hs hR;have g5:=nC hs.2;rw[Pe (by rintro ⟨g,_⟩;exact hs.2 (by omega))] at h6
    have e61:e6=e:=by have:=hs.1;omega
    subst e61;exact ⟨fun g=>absurd g (by have:=hs.2;have:=hs.1;omega),fun _=>hR⟩
   | ok l2 =>
    rw[hsy] at hs hR;obtain ⟨rfl,rfl⟩:=hs;rw[zM] at hR;have hv:=h5 rfl
    cases hf:f y.type r3 k with
    | error e =>
     rw[hf] at hv hR;simp only at hv;subst hv;have hz:e5≠0:=fun g=>hnz _ _ _ (g▸hf)
     rw[Pe (by rintro ⟨g,_⟩;exact hz g)] at h6
     subst h6;exact ⟨fun g=>absurd g hz,fun _=>hR⟩
    | ok z =>
     obtain ⟨v,r',k'⟩:=z;rw[hf] at hv hR;obtain ⟨rfl,rfl,rfl,rfl⟩:=hv;rw[zM] at hR;simp only at hR;have hR2:Rt=(BM f false ms r5 k5).bind fun z=>Ms ((acc++[x])++z.1) [] z.2.2 (Cx false false z.2.1):=by rw[hR];simp only[AAx,List.singleton_append]
     by_cases hm:ms≠[]/\Ba ⟨#[44]⟩ r5=false
     ·rw[AAC ⟨rfl,hm⟩] at h6
      subst h6;exact ⟨fun g=>absurd g (by decide),fun _=>o7 hR2 hm.1 hm.2⟩
     ·rw[Pe (fun g=>hm g.2)] at h6
      subst h6;refine ⟨fun _=>⟨jY rfl hR2 ?_,by omega⟩,fun g=>absurd rfl g⟩
      by_cases h0:ms=[]
      ·exact .inl h0
      ·refine .inr ?_
       cases hi:Ba ⟨#[44]⟩ r5 with
       | true=>rfl
       | false=>exact absurd ⟨h0,hi⟩ hm
  ·have hn0:aL y.name t0 0=4:=by unfold aL;rw[AAC rfl,Pe hnm]
   rw[hn0] at h3;rw[Pe hnm] at hR
   rcases h3.2 with ⟨_,_,g⟩|⟨g,_⟩
   ·have g5:=nC (by omega)
    rw[Pe (by rintro ⟨g,_⟩;omega)] at h6
    have e61:e6=4:=by omega
    subst e61;exact ⟨fun g=>absurd g (by decide),fun _=>hR⟩
   ·exact absurd g (by decide)
theorem jT {rs:List Ac} (h:ML f Rt acc rs [] r k) {t0:AB} {r1:List AB} {e1:Int} (h1:Q6 2 r t0 r1 e1) {r3:List AB} {e3:Int} (h3:Jy ⟨#[58]⟩ r1 e1 r3 e3) {t1:AB} {r5:List AB} {e5:Int} (h5:(e3≠0/\r5=r3/\e5=e3)\/(e3=0/\Q6 3 r3 t1 r5 e5)) :
  (e5=0->PG f Rt acc (rs++[⟨t0.int,t1.str⟩]) [] r5 k/\r5.length<r.length)/\(e5≠0->Rt = .error e5):=by
 have hR:=h.raw;have ht:=h1.tk;have hl3:=h3.1
 cases hk:Bg 2 r with
 | error e =>
  rw[hk] at ht hR;obtain ⟨rfl,hz⟩:=ht
  rcases h3.2 with ⟨_,_,g⟩|⟨g,_⟩
  ·rcases h5 with ⟨_,_,g5⟩|⟨g5,_⟩
   ·have e61:e5=e1:=by omega
    subst e61;exact ⟨fun g=>absurd g hz,fun _=>hR⟩
   ·omega
  ·exact absurd g hz
 | ok p =>
  obtain ⟨u,q⟩:=p;rw[hk] at ht hR;obtain ⟨rfl,rfl,rfl,hlt⟩:=ht;rw[zM] at hR;simp only at hR;have hs:=Bl h3
  cases hsy:BG ⟨#[58]⟩ r1 with
  | error e =>
   rw[hsy] at hs hR
   rcases h5 with ⟨_,_,g5⟩|⟨g5,_⟩
   ·have e61:e5=e:=by have:=hs.1;omega
    subst e61;exact ⟨fun g=>absurd g (by have:=hs.2;have:=hs.1;omega),fun _=>hR⟩
   ·exact absurd g5 hs.2
  | ok l2 =>
   rw[hsy] at hs hR;obtain ⟨rfl,rfl⟩:=hs;rw[zM] at hR
   rcases h5 with ⟨g5,_⟩|⟨_,g5⟩
   ·exact absurd rfl g5
   ·have hu:=g5.tk
    have hl5:=g5.1.1
    cases hk3:Bg 3 r3 with
    | error e =>
     rw[hk3] at hu hR;obtain ⟨rfl,hz⟩:=hu;exact ⟨fun g=>absurd g hz,fun _=>hR⟩
    | ok z =>
     obtain ⟨v,q2⟩:=z;rw[hk3] at hu hR;obtain ⟨rfl,rfl,rfl,_⟩:=hu;rw[zM] at hR;simp only at hR;exact ⟨fun _=>⟨.inl ⟨rfl,hR⟩,by omega⟩,fun g=>absurd rfl g⟩
end
theorem CX.xR (h:CX C V W r k e di vk vi vr K I R) {w8:World} {row:Option Nat} (hg:W.grownBy w8 row) (hr:row=vk.ownBlock\/row=vi.ownBlock\/row=vr.ownBlock):Below C.w0.heap.size C.w0 w8:=by
 obtain ⟨l1,l2,l3⟩:=Jo h.vb;have hb:=h.bp;have hge:=h.rd.ok.ge;refine h.rd.up.grown hg h.rd.up.size fun q hq=>?_
 rcases hr with e|e|e
 ·have:=l1 q (e▸hq);omega
 ·have:=l2 q (e▸hq);omega
 ·have:=l3 q (e▸hq);omega
theorem CX.xQ (h:CX C V W r k e di vk vi vr K I R) (hb:Ah C.b W W'):Below C.w0.heap.size C.w0 W':=h.rd.up.trans (hb.Ch.mono h.rd.ok.ge)
theorem TS (v:Val):∀y,y∈v.keys\/y∈v.items->SizeOf.sizeOf y<SizeOf.sizeOf v:=by
 intro y hy
 obtain ⟨k,b,i,st,id,ks,is,r⟩:=v;simp only[Val.mk.sizeOf_spec]
 rcases hy with h|h
 ·have:=List.sizeOf_lt_of_mem (show y∈ks from h);omega
 ·have:=List.sizeOf_lt_of_mem (show y∈is from h);omega
theorem zF {b:Nat} {v:Val} {A1:zo} {c1:Nat} {A2:zo} {c2:Nat} {A3:zo} {c3:Nat} (h:W.heap[b]? = some (v.box A1 c1 A2 c2 A3 c3)):
  W.cell? ⟨b,0,none⟩=some (.int .i64 v.kind)/\W.cell? ⟨b,1,none⟩=some (.bool v.bool)/\W.cell? ⟨b,2,none⟩=some (.int .i64 v.int)/\W.cell? ⟨b,3,none⟩=some (.string v.str)/\W.cell? ⟨b,4,none⟩=some (.int .i64 v.id)/\W.cell? ⟨b,5,none⟩=some (.slice A1 v.keys.length c1)/\W.cell? ⟨b,6,none⟩=some (.slice A2 v.items.length c2)/\W.cell? ⟨b,7,none⟩=some (.slice A3 v.rest.length c3):=by
 refine ⟨?_,?_,?_,?_,?_,?_,?_,?_⟩ <;> (rw[AAB _ _ _ _ _ _ h];rfl)
theorem Vt (n:Int) (t:AZ) (As:zo) (cs:Nat) (Am:zo) (cm:Nat) (w:World) (ht:Ic w t As Am) :
  Calls Tryz.prog 68 #[t.v As cs Am cm,.int .i64 n] w fun e w'=>∃r:Int,e = .returned (.tuple #[.int .i64 r,.bool (t.Ab.any fun y=>decide (y.id=n))])/\Below w.heap.size w w' :=
 (QU n t As cs Am cm w ht).mono fun e w' ⟨h1,h2⟩=>⟨_,h1.trans (by rw[IE]),h2⟩
theorem Oe (n:Int) (t:AZ) (As:zo) (cs:Nat) (Am:zo) (cm:Nat) (w:World) (ht:Ic w t As Am) :
  Calls Tryz.prog 58 #[t.v As cs Am cm,.int .i64 n] w fun e w'=>∃r:Int,e = .returned (.tuple #[.int .i64 r,.bool (t.AA.any fun y=>decide (y.id=n))])/\((t.AA.any fun y=>decide (y.id=n))=true->r=Bv (fun y:AY=>decide (y.id=n)) t.AA)/\Below w.heap.size w w' :=
 (Mq n t As cs Am cm w ht).mono fun e w' ⟨h1,h2⟩=>⟨_,h1.trans (by rw[IE]),fun h=>by
  rw[<-IE] at h;exact Pe (by have:=AAm h;omega),h2⟩
section
variable {s:List AZ} {df:AY->ByteArray}
end
theorem YC:∀ (L:List (Int×ByteArray)) (b:Int) (K:List ByteArray),Nb b K L=true->∀x∈L,(1<=x.1/\x.1<=1000)/\x.2.size<=24
 | [],_,_,_,x,hx=>by cases hx
 | y::L,b,K,h,x,hx=>by
  rw[Nb] at h;simp only[AAG,AAY] at h;obtain ⟨⟨⟨⟨⟨h1,h2⟩,_⟩,_⟩,h5⟩,h6⟩:=h
  rcases AAf.1 hx with e|e
  ·subst e
   unfold CV at h5;simp only[AAG,AAY] at h5;exact ⟨⟨h1,h2⟩,h5.1.1.2⟩
  ·exact YC L _ _ h6 x e
section
variable {s:List AZ} {t:AZ}
theorem X8 (hv:zQ s=0) (ht:t∈s) {m:AY} (hm:m∈t.AA):((1<=m.id/\m.id<=1000)/\m.name.size<=24)/\(0<=m.type/\m.type<(s.length:Int)):=by
 have h:=(Dk hv ht).1;unfold GZ at h;simp only[AAG,AAY] at h;obtain ⟨⟨⟨⟨h1,h2⟩,h3⟩,h4⟩,h5⟩:=h;have key:∀b,NV b t.AA=true->((1<=m.id/\m.id<=1000)/\m.name.size<=24):=fun b hb=>by
  unfold NV SL at hb;simp only[AAG] at hb;exact YC _ _ _ hb.1.2.1 _ (List.mem_map.2 ⟨m,hm,rfl⟩)
 refine ⟨?_,(Dk hv ht).2 _ (List.mem_map.2 ⟨(m.id,m.type),?_,rfl⟩)⟩
 ·by_cases k5:t.kind=5
  ·unfold Kq at h5
   rw[Pe (by omega),Pe (by omega),Pe (by omega),AAC k5] at h5
   exact key _ h5
  by_cases k6:t.kind=6
  ·unfold Kq at h5
   rw[Pe (by omega),Pe (by omega),Pe (by omega),Pe (by omega),AAC k6] at h5
   exact key _ h5
  ·exfalso
   have:t.AA=[]:=by
    rw[h3];unfold Fe
    (repeat' split) <;> first|rfl|(exfalso;omega)
   rw[this] at hm
   cases hm
 ·unfold JZ
  simp only[AAl,List.mem_map];exact .inl ⟨m,hm,rfl⟩
end
theorem Ep (x:Int) (w:World):Calls Tryz.prog 173 #[.int .i64 x] w fun e w'=>e = .returned (.bool false)/\w=w':=by
 have q1:(x != x)=false:=by simp
 go_enter Tryz.func173,Tryz.ntmps173
 go_wp2
 go_ret
 exact ⟨rfl,rfl⟩
theorem En (x:Int) (w:World):Calls Tryz.prog 172 #[.int .u64 x] w fun e w'=>e = .returned (.bool false)/\w=w':=by
 have q1:(x != x)=false:=by simp
 go_enter Tryz.func172,Tryz.ntmps172
 go_wp2
 go_ret
 exact ⟨rfl,rfl⟩
theorem Eo (x:ByteArray) (w:World):Calls Tryz.prog 174 #[.string x] w fun e w'=>e = .returned (.bool false)/\w=w':=by
 go_enter Tryz.func174,Tryz.ntmps174
 go_wp2
 go_ret
 exact ⟨by first|rfl|simp,rfl⟩
theorem MC (x y:Int) (w:World):Calls Tryz.prog 152 #[.int .i64 x,.int .i64 y] w fun e w'=>e = .returned (.int .i64 (Eu x y))/\w=w':=by
 by_cases h1:x<y
 ·have HD:Hid (Eu x y = -1):=by show _=_;unfold Eu;rw[AAC h1]
  go_enter Tryz.func152,Tryz.ntmps152
  go_wp2_with fail
  refine (Ep x w).mono ?_;rintro e w2 ⟨rfl,rfl⟩;go_wp2_with fail;refine (Ep y w).mono ?_;rintro e w2 ⟨rfl,rfl⟩;go_wp2;go_ret;exact ⟨by rw[HD.out];rfl,rfl⟩
 ·by_cases h2:x=y
  ·subst h2
   have HD:Hid (Eu x x=0):=by show _=_;unfold Eu;rw[Pe h1,AAC rfl]
   have h3:¬ x > x:=by omega
   go_enter Tryz.func152,Tryz.ntmps152
   go_wp2_with fail
   refine (Ep x w).mono ?_;rintro e w2 ⟨rfl,rfl⟩;go_wp2_with fail;refine (Ep x w).mono ?_;rintro e w2 ⟨rfl,rfl⟩;go_wp2;go_ret;exact ⟨by rw[HD.out];rfl,rfl⟩
  ·have HD:Hid (Eu x y=1):=by show _=_;unfold Eu;rw[Pe h1,Pe h2]
   have h3:y<x:=by omega
   clear h2
   go_enter Tryz.func152,Tryz.ntmps152
   go_wp2_with fail
   refine (Ep x w).mono ?_;rintro e w2 ⟨rfl,rfl⟩;go_wp2_with fail;refine (Ep y w).mono ?_;rintro e w2 ⟨rfl,rfl⟩;go_wp2;go_ret;exact ⟨by rw[HD.out];rfl,rfl⟩
theorem Sc (x y:Int) (w:World):Calls Tryz.prog 149 #[.int .u64 x,.int .u64 y] w fun e w'=>e = .returned (.int .i64 (Eu x y))/\w=w':=by
 by_cases h1:x<y
 ·have HD:Hid (Eu x y = -1):=by show _=_;unfold Eu;rw[AAC h1]
  go_enter Tryz.func149,Tryz.ntmps149
  go_wp2_with fail
  refine (En x w).mono ?_;rintro e w2 ⟨rfl,rfl⟩;go_wp2_with fail;refine (En y w).mono ?_;rintro e w2 ⟨rfl,rfl⟩;go_wp2;go_ret;exact ⟨by rw[HD.out];rfl,rfl⟩
 ·by_cases h2:x=y
  ·subst h2
   have HD:Hid (Eu x x=0):=by show _=_;unfold Eu;rw[Pe h1,AAC rfl]
   have h3:¬ x > x:=by omega
   go_enter Tryz.func149,Tryz.ntmps149
   go_wp2_with fail
   refine (En x w).mono ?_;rintro e w2 ⟨rfl,rfl⟩;go_wp2_with fail;refine (En x w).mono ?_;rintro e w2 ⟨rfl,rfl⟩;go_wp2;go_ret;exact ⟨by rw[HD.out];rfl,rfl⟩
  ·have HD:Hid (Eu x y=1):=by show _=_;unfold Eu;rw[Pe h1,Pe h2]
   have h3:y<x:=by omega
   clear h2
   go_enter Tryz.func149,Tryz.ntmps149
   go_wp2_with fail
   refine (En x w).mono ?_;rintro e w2 ⟨rfl,rfl⟩;go_wp2_with fail;refine (En y w).mono ?_;rintro e w2 ⟨rfl,rfl⟩;go_wp2;go_ret;exact ⟨by rw[HD.out];rfl,rfl⟩
theorem Y1 (x y:ByteArray) (w:World):(binOp .gtr 9 (.string x) (.string y)).run Tryz.prog w = .ok (.bool (!pU x y && !decide (x=y))) w:=by
 have h:=bytes_beq x y;simp[binOp,Op.stringOp,pU,h]
theorem Sd (x y:ByteArray) (w:World):Calls Tryz.prog 153 #[.string x,.string y] w fun e w'=>e = .returned (.int .i64 (PD x y))/\w=w':=by
 cases hl:pU x y with
 | true =>
  have HD:Hid (PD x y = -1):=by show _=_;unfold PD;rw[hl,AAC rfl]
  have q1:Op.bytesLess x.toList y.toList=true:=hl;clear hl
  go_enter Tryz.func153,Tryz.ntmps153
  go_wp2_with fail
  refine (Eo x w).mono ?_;rintro e w2 ⟨rfl,rfl⟩;go_wp2_with fail;refine (Eo y w).mono ?_;rintro e w2 ⟨rfl,rfl⟩;go_wp2;go_ret;exact ⟨by rw[HD.out];rfl,rfl⟩
 | false =>
  have hg:=Y1 x y w;have q1:Op.bytesLess x.toList y.toList=false:=hl;rw[hl] at hg
  by_cases he:x=y
  ·have HD:Hid (PD x y=0):=by show _=_;unfold PD;rw[hl,Pe (by simp),AAC he]
   rw[AAM he] at hg;clear hl he
   go_enter Tryz.func153,Tryz.ntmps153
   go_wp2_with fail
   refine (Eo x w).mono ?_;rintro e w2 ⟨rfl,rfl⟩;go_wp2_with fail;refine (Eo y w).mono ?_;rintro e w2 ⟨rfl,rfl⟩;go_wp2;go_ret;exact ⟨by rw[HD.out];rfl,rfl⟩
  ·have HD:Hid (PD x y=1):=by show _=_;unfold PD;rw[hl,Pe (by simp),Pe he]
   rw[AAE he] at hg;clear hl he
   go_enter Tryz.func153,Tryz.ntmps153
   go_wp2_with fail
   refine (Eo x w).mono ?_;rintro e w2 ⟨rfl,rfl⟩;go_wp2_with fail;refine (Eo y w).mono ?_;rintro e w2 ⟨rfl,rfl⟩;go_wp2;go_ret;exact ⟨by rw[HD.out];rfl,rfl⟩
theorem aR {n:Int} (h:In64 n):bits .xor .u64 (IntKind.u64.wrap (IntKind.u64.wrap n * 2)) (IntKind.u64.wrap (n / 9223372036854775808))=QC n:=by
 obtain ⟨h1,h2⟩:=h
 by_cases hn:0<=n
 ·have e1:IntKind.u64.wrap (IntKind.u64.wrap n * 2)=(((2 * n).toNat:Nat):Int):=by rw[IntKind.wrap_u64,IntKind.wrap_u64];omega
  have e2:IntKind.u64.wrap (n / 9223372036854775808)=((0:Nat):Int):=by rw[IntKind.wrap_u64];omega
  rw[e1,e2,bits_xor_u64_nat _ _ (by omega) (by decide),Nat.xor_zero]
  unfold QC;rw[AAC hn];omega
 ·have e1:IntKind.u64.wrap (IntKind.u64.wrap n * 2)=(((2 * n+18446744073709551616).toNat:Nat):Int):=by rw[IntKind.wrap_u64,IntKind.wrap_u64];omega
  have e2:IntKind.u64.wrap (n / 9223372036854775808)=((2 ^ 64 - 1:Nat):Int):=by rw[IntKind.wrap_u64];omega
  rw[e1,e2,bits_xor_u64_nat _ _ (by omega) (by decide),Nat.xor_comm,Lib.xor_ones64 _ (by omega)]
  unfold QC;rw[Pe hn];omega
theorem Xb (n:Int) (h:In64 n) (w:World):Calls Tryz.prog 150 #[.int .i64 n] w fun e w'=>e = .returned (.int .u64 (QC n))/\w=w':=by
 have HZ:=zh (aR h)
 go_enter Tryz.func150,Tryz.ntmps150
 go_wp2
 go_ret
 exact ⟨by rw[<-HZ.out];rfl,rfl⟩
end Go.Proofs.YthkkllmmbefedaaGreatDoor



