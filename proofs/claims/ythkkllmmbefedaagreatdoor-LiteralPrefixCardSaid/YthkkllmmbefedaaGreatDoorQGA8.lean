/-
  The text of a schema: plain Lean.
-/
import Derived.Test.YthkkllmmbefedaaGreatDoorQGA7
import Derived.Deep.CutBlock
import Derived.Lib.Zigzag
import Derived.Lib.Join
namespace Go.Proofs.YthkkllmmbefedaaGreatDoor
open Go.RowKit Tryz
set_option maxHeartbeats 16000000
set_option maxRecDepth 100000
structure Ah (b:Nat) (w w':World):Prop where
 Cm:Below b w w'
 FN:∀q,q≠b->q<w.heap.size->w'.heap[q]? = w.heap[q]?
section
variable {b:Nat} {w w1 w':World}
theorem Ah.of (hb:Below w.heap.size w w') (h:b<=w.heap.size):Ah b w w':=⟨hb.mono h,fun q _ hq=>hb.block q hq⟩
theorem Ah.refl (b:Nat) (w:World):Ah b w w:=⟨Pe _ _,fun _ _ _=>rfl⟩
theorem Ah.trans (h:Ah b w w1) (h':Ah b w1 w'):Ah b w w' :=
 ⟨h.Cm.trans h'.Cm,fun q hq hl=>(h'.FN q hq (ABa hl h.Cm.size)).trans (h.FN q hq hl)⟩
theorem Ah.set (h:Ah b w w') (j:Nat) (u:Value):Ah b w (w'.setCell ⟨b,j,none⟩ u) :=
 ⟨h.Cm.setCell (p:=⟨b,j,none⟩) (AAF _) u,fun q hq hl=>(AAE _ _ _ _ (by simpa using hq)).trans (h.FN q hq hl)⟩
theorem Ah.below (h:Ah b w w1) (hb:Below w1.heap.size w1 w') (hl:b<w.heap.size):Ah b w w':=h.trans (Ah.of hb (by have:=h.Cm.size;omega))
theorem Ah.up {p:Nat} (h:Ah b w w1) (hb:Below p w1 w') (hp:w.heap.size<=p) (hl:b<=p):Ah b w w' :=
 ⟨h.Cm.trans (hb.mono hl),fun q hq hl=>(hb.block q (ABa hl hp)).trans (h.FN q hq hl)⟩
theorem Ah.size (h:Ah b w w'):w.heap.size<=w'.heap.size:=h.Cm.size
theorem Ah.off {S:Nat->Prop} {P:World->Prop} (h:Ah b w w') (hS:S b) (hp:Off S w P):Off S w' P:=hp.step h.size fun q hq hl=>h.FN q (fun e=>hq (e▸hS)) hl
end
structure Eh where
 w0:World
 s:List Aa
 A:zo
 c:Nat
 l:List AJ
 AL:zo
 cL:Nat
 b:Nat
structure Eh.Ok (C:Eh):Prop where
 ty:DC C.w0 C.A C.s
 tk:Ew C.w0 C.AL C.l
 ge:C.w0.heap.size<=C.b
 len:C.l.length<=1000000
def Eh.o (C:Eh) (i:Nat) (k:Bool) (e:Int):Obj := .cells #[.slice C.A C.s.length C.c,.slice C.AL C.l.length C.cL,.int .i64 i,.bool k,.int .i64 e] 107
structure CJ (C:Eh) (w:World) (r:List AJ) (k:Bool) (e:Int):Prop where
 ok:C.Ok
 blk:w.heap[C.b]? = some (C.o (C.l.length - r.length) k e)
 Uk:r <:+ C.l
 up:Below C.w0.heap.size C.w0 w
section
variable {C:Eh} {w w':World} {r r':List AJ} {k k':Bool} {e e':Int}
theorem CJ.lt (h:CJ C w r k e):C.b<w.heap.size:=(zg.1 h.blk).1
theorem CJ.below (h:CJ C w r k e) (hb:Below w.heap.size w w'):CJ C w' r k e:=⟨h.ok,Au h.blk hb,h.Uk,h.up.trans (hb.mono h.up.size)⟩
theorem CJ.BK (h:CJ C w r k e) (hb:Below w.heap.size w w'):Ah C.b w w':=Ah.of hb (AAM h.lt)
theorem CJ.cells (h:CJ C w r k e):(w.cell? ⟨C.b,0,none⟩=some (.slice C.A C.s.length C.c)/\w.cell? ⟨C.b,1,none⟩=some (.slice C.AL C.l.length C.cL)/\w.cell? ⟨C.b,2,none⟩=some (.int .i64 ((C.l.length - r.length:Nat):Int))/\w.cell? ⟨C.b,3,none⟩=some (.bool k)/\w.cell? ⟨C.b,4,none⟩=some (.int .i64 e))/\(∀j,w.frozen? ⟨C.b,j,none⟩=false):=by
 have hb:=h.blk;unfold Eh.o at hb;refine ⟨⟨?_,?_,?_,?_,?_⟩,fun j=>AAG _ _ _ _ _ hb⟩ <;> (rw[AAC _ _ _ _ _ _ hb];rfl)
theorem CJ.setAt (h:CJ C w r k e) (hs:r' <:+ C.l) {i:Int} (hi:i=((C.l.length - r'.length:Nat):Int)):CJ C (w.setCell ⟨C.b,2,none⟩ (.int .i64 i)) r' k e:=by
 subst hi;refine ⟨h.ok,?_,hs,h.up.setCell (p:=⟨C.b,2,none⟩) h.ok.ge _⟩;have hb:=h.blk;unfold Eh.o at hb;rw[AAK _ _ 2 _ _ _ hb]
 rfl
theorem CJ.AAU (h:CJ C w r k e) (k':Bool):CJ C (w.setCell ⟨C.b,3,none⟩ (.bool k')) r k' e:=by
 refine ⟨h.ok,?_,h.Uk,h.up.setCell (p:=⟨C.b,3,none⟩) h.ok.ge _⟩;have hb:=h.blk;unfold Eh.o at hb;rw[AAK _ _ 3 _ _ _ hb]
 rfl
theorem CJ.ACt (h:CJ C w r k e) (e':Int):CJ C (w.setCell ⟨C.b,4,none⟩ (.int .i64 e')) r k e':=by
 refine ⟨h.ok,?_,h.Uk,h.up.setCell (p:=⟨C.b,4,none⟩) h.ok.ge _⟩;have hb:=h.blk;unfold Eh.o at hb;rw[AAK _ _ 4 _ _ _ hb]
 rfl
variable {t:AJ}
theorem CJ.oh (h:CJ C w r k e) {i:Nat} (hi:C.l[i]? = some t):∃bb o,C.AL=some ⟨bb,o,none⟩/\(Cw t.text/\Cw t.str) /\
  w.cell? ⟨bb,o+i * 5,none⟩=some (.int .i64 t.kind)/\w.cell? ⟨bb,o+i * 5+1,none⟩=some (.string t.text)/\w.cell? ⟨bb,o+i * 5+2,none⟩=some (.int .i64 t.int)/\w.cell? ⟨bb,o+i * 5+3,none⟩=some (.string t.str)/\w.cell? ⟨bb,o+i * 5+4,none⟩=some (.int .i64 t.line):=by
 obtain ⟨hi2,rfl⟩:=AAv.1 hi;obtain ⟨bb,o,hA,h0,h1,h2,h3,h4,h5⟩:=h.ok.tk.cells hi2;exact ⟨bb,o,hA,h0,zA h.up h1,zA h.up h2,zA h.up h3,zA h.up h4,zA h.up h5⟩
theorem CJ.AA2 {q:List AJ} (h:CJ C w (t::q) k e):C.l[C.l.length - (t::q).length]? = some t:=by
 obtain ⟨p,hp⟩:=h.Uk;have hl:C.l.length - (t::q).length=p.length:=by rw[<-hp];simp
 rw[hl,<-hp,ABm (AAF _),Nat.sub_self]
 rfl
theorem CJ.tail {q:List AJ} (h:CJ C w (t::q) k e):q <:+ C.l/\(((C.l.length - (t::q).length:Nat):Int)+1=((C.l.length - q.length:Nat):Int)):=by
 have h1:=h.Uk;have h2:=h1.length_le;rw[AAI] at h2 ⊢;exact ⟨(List.suffix_cons t q).trans h1,by omega⟩
end
structure Aj where
 v:Val
 A1:zo
 c1:Nat
 A2:zo
 c2:Nat
 A3:zo
 c3:Nat
def Aj.cells (x:Aj):List Value:=x.v.cs x.A1 x.c1 x.A2 x.c2 x.A3 x.c3
theorem Bn (x:Aj):∀u∈x.cells,u.oneCell'=true:=fun u hu=>by
 unfold Aj.cells at hu;simp only[ABP,List.mem_nil_iff,or_false] at hu
 rcases hu with rfl|rfl|rfl|rfl|rfl|rfl|rfl|rfl <;> rfl
def encR (r:Af):List Value:=[.int .i64 r.id,.string r.data]
theorem lW (x:Af):∀u∈encR x,u.oneCell'=true:=fun u hu=>by
 unfold encR at hu;simp only[ABP,List.mem_nil_iff,or_false] at hu
 rcases hu with rfl|rfl <;> rfl
abbrev Dc:=AZ 28 8 Aj.cells
abbrev rT:=AZ 97 2 encR
def I8 (kd:Int) (bo:Bool) (it:Int) (st:ByteArray) (di:Int) (vk vi vr:Value):Obj := .cells #[.int .i64 kd,.bool bo,.int .i64 it,.string st,.int .i64 di,vk,vi,vr] 28
def R8 (p:Nat) (vk vi vr:Value) (q:Nat):Prop:=q<=p\/vk.ownBlock=some q\/vi.ownBlock=some q\/vr.ownBlock=some q
structure Hw (p:Nat) (w:World) (kd:Int) (bo:Bool) (it:Int) (st:ByteArray) (di:Int) (vk vi vr:Value) (K I:List Aj) (R:List Af):Prop where
 blk:w.heap[p]? = some (I8 kd bo it st di vk vi vr)
 ok:Dc w (p+1) vk K
 oi:Dc w (p+1) vi I
 Sw:rT w (p+1) vr R
 ne:∀q,vk.ownBlock=some q->vi.ownBlock≠some q
 off:∀y∈K++I,Off (R8 p vk vi vr) w fun u=>Ar u y.v y.A1 y.A2 y.A3
 str:Cw st
 raw:∀y∈R,Cw y.data
section
variable {p:Nat} {w w':World} {kd:Int} {bo:Bool} {it:Int} {st:ByteArray} {di:Int} {vk vi vr:Value} {K I:List Aj} {R:List Af}
theorem Hw.lt (h:Hw p w kd bo it st di vk vi vr K I R):p<w.heap.size:=(zg.1 h.blk).1
theorem Hw.keep (h : Hw p w kd bo it st di vk vi vr K I R) (hz : w.heap.size <= w'.heap.size) (hk : ∀ q, p <= q -> q < w.heap.size -> w'.heap[q]? = w.heap[q]?) : Hw p w' kd bo it st di vk vi vr K I R :=
  ⟨(hk p (AAF _) h.lt).trans h.blk, h.ok.keep fun g hg hl _ => hk g (by omega) hl, h.oi.keep fun g hg hl _ => hk g (by omega) hl, h.Sw.keep fun g hg hl _ => hk g (by omega) hl, h.ne,
    fun y hy => (h.off y hy).step hz fun q hq hl => hk q (AAM (Nat.lt_of_not_le fun e => hq (.inl e))) hl, h.str, h.raw⟩
theorem Hw.below (h:Hw p w kd bo it st di vk vi vr K I R) (hb:Below w.heap.size w w'):Hw p w' kd bo it st di vk vi vr K I R:=h.keep hb.size fun q _ hq=>hb.block q hq
theorem Hw.BK {b:Nat} (h:Hw p w kd bo it st di vk vi vr K I R) (hb:Ah b w w') (hl:b<p):Hw p w' kd bo it st di vk vi vr K I R:=h.keep hb.size fun q hp hq=>hb.FN q (by omega) hq
theorem Hw.cells (h:Hw p w kd bo it st di vk vi vr K I R):(w.cell? ⟨p,0,none⟩=some (.int .i64 kd)/\w.cell? ⟨p,1,none⟩=some (.bool bo)/\w.cell? ⟨p,2,none⟩=some (.int .i64 it)/\w.cell? ⟨p,3,none⟩=some (.string st)/\w.cell? ⟨p,4,none⟩=some (.int .i64 di)/\w.cell? ⟨p,5,none⟩=some vk/\w.cell? ⟨p,6,none⟩=some vi/\w.cell? ⟨p,7,none⟩=some vr)/\(∀j,w.frozen? ⟨p,j,none⟩=false):=by
 have hb:=h.blk;unfold I8 at hb;refine ⟨⟨?_,?_,?_,?_,?_,?_,?_,?_⟩,fun j=>AAG _ _ _ _ _ hb⟩ <;> (rw[AAC _ _ _ _ _ _ hb];rfl)
theorem Hw.new (w:World) (kd:Int):Hw w.heap.size (w.alloc (I8 kd false 0 ⟨#[]⟩ 0 (.slice none 0 0) (.slice none 0 0) (.slice none 0 0))) kd false 0 ⟨#[]⟩ 0 (.slice none 0 0) (.slice none 0 0) (.slice none 0 0) [] [] [] :=
 ⟨AAA w _,AZ.nil _ _,AZ.nil _ _,AZ.nil _ _,(fun _ h=>by cases h),(fun _ h=>by cases h),by unfold Cw;decide,(fun _ h=>by cases h)⟩
theorem Hw.NI (h:Hw p w kd bo it st di vk vi vr K I R) {j:Nat} {u:Value} {l8:Bool} {it':Int} {st':ByteArray} {dL:Int} (hu:(#[Value.int .i64 kd,.bool bo,.int .i64 it,.string st,.int .i64 di,vk,vi,vr]:Array Value).setIfInBounds j u = #[.int .i64 kd,.bool l8,.int .i64 it',.string st',.int .i64 dL,vk,vi,vr]) (hs:Cw st') :
  Hw p (w.setCell ⟨p,j,none⟩ u) kd l8 it' st' dL vk vi vr K I R:=by
 have hb:=h.blk;unfold I8 at hb;refine ⟨?_,h.ok.keep fun g hg _ _=>AAE _ _ _ _ (by simp only;omega),h.oi.keep fun g hg _ _=>AAE _ _ _ _ (by simp only;omega),h.Sw.keep fun g hg _ _=>AAE _ _ _ _ (by simp only;omega),h.ne,
  fun y hy=>(h.off y hy).set u (.inl (AAF _)),hs,h.raw⟩
 rw[AAK _ _ j _ _ u hb,hu];rfl
theorem Gi (h:Hw p w kd bo it st di vk vi vr K I R):(∀q,vk.ownBlock=some q->p<q/\q<w.heap.size)/\(∀q,vi.ownBlock=some q->p<q/\q<w.heap.size)/\(∀q,vr.ownBlock=some q->p<q/\q<w.heap.size) :=
 ⟨fun q hq=>World.ownsRow.lt h.ok q hq,fun q hq=>World.ownsRow.lt h.oi q hq,fun q hq=>World.ownsRow.lt h.Sw q hq⟩
theorem own_ne {w:World} {base mD:Nat} {v v2:Value} {l:List Aj} {l2:List Af} (h:Dc w base v l) (h2:rT w mD v2 l2) (q:Nat) (hq:v.ownBlock=some q):v2.ownBlock≠some q:=fun e=>by
 obtain ⟨c1,f1,e1⟩:=h.block hq;obtain ⟨c2,f2,e2⟩:=h2.block e;rw[e1] at e2
 injection e2 with e2
 injection e2 with _ e3
 exact absurd e3 (by decide)
variable {v8:Value} {w4 w8:World}
theorem Hw.item (h:Hw p w kd bo it st di vk vi vr K I R) {x:Aj} (hx:Off (R8 p vk vi vr) w fun u=>Ar u x.v x.A1 x.A2 x.A3) (hb4:Below w.heap.size w w4) (ho:w8.ownsRow (p+1) 28 8 v8 (I.length+1) (I.flatMap Aj.cells++x.cells)) (hg:w4.grownBy w8 vi.ownBlock) (hv:v8.ownBlock=vi.ownBlock\/v8.ownBlock=some w4.heap.size):
  Hw p (w8.setCell ⟨p,6,none⟩ v8) kd bo it st di vk v8 vr K (I++[x]) R/\Below p w (w8.setCell ⟨p,6,none⟩ v8)/\∀q,q≠p->vi.ownBlock≠some q->q<w.heap.size->(w8.setCell ⟨p,6,none⟩ v8).heap[q]? = w.heap[q]? := by
 have h4:=h.below hb4;obtain ⟨l1,l2,l3⟩:=Gi h4;have hk:∀q,q<w4.heap.size->vi.ownBlock≠some q->w8.heap[q]? = w4.heap[q]? := fun q hq hne=>yA hg hq fun k hk e=>hne (by rw[hk,e])
 have lF:=(hk p h4.lt fun e=>by have:=l2 p e;omega).trans h4.blk
 have hso:∀q,q≠p->(w8.setCell ⟨p,6,none⟩ v8).heap[q]? = w8.heap[q]? := fun q hq=>AAE _ _ _ _ (by simpa using hq)
 have hz8:=hg.size;refine ⟨⟨?_,?_,?_,?_,?_,?_,h.str,h.raw⟩,((((hb4.mono (AAM h.lt)).grown hg (AAM h4.lt) fun q hq=>by have:=l2 q hq;omega)).setCell (p:=⟨p,6,none⟩) (AAF _) v8),fun q h1 h2 h3=>((hso q h1).trans (hk q (by have:=hb4.size;omega) h2)).trans (hb4.block q h3)⟩
 ·unfold I8 at lF
  rw[AAK _ _ 6 _ _ v8 lF];rfl
 ·exact h4.ok.keep fun g hg1 hl hv0=>(hso g (by omega)).trans (hk g hl (h.ne g hv0))
 ·have ho':Dc w8 (p+1) v8 (I++[x]):=AZ.snoc ho
  exact ho'.keep fun g hg1 _ _=>hso g (by omega)
 ·exact h4.Sw.keep fun g hg1 hl hv0=>(hso g (by omega)).trans (hk g hl fun e=>own_ne h4.oi h4.Sw g e hv0)
 ·intro q hq e
  rcases hv with e2|e2
  ·exact h.ne q hq (e2▸e)
  ·rw[e2] at e
   have:=ABW e;have:=(l1 q hq).2
   omega
 ·intro y hy
  have hy':Off (R8 p vk vi vr) w4 fun u=>Ar u y.v y.A1 y.A2 y.A3:=by
   rw[<-AAo] at hy
   rcases ABY.1 hy with k|k
   ·exact h4.off y k
   ·obtain rfl:y=x:=by simpa using k
    exact hx.low hb4
  refine hy'.grow (fun q hq hs=>?_) (fun q hq hn=>?_) (by simp;omega)
  ·rcases hs with e|e|e|e
   ·exact .inl e
   ·exact .inr (.inl e)
   ·rcases hv with e2|e2
    ·exact .inr (.inr (.inl (e2▸e)))
    ·rw[e2] at e
     have:=ABW e
     omega
   ·exact .inr (.inr (.inr e))
  ·exact (hso q fun e=>hn (.inl (Nat.le_of_eq e))).trans (hk q hq fun e=>hn (.inr (.inr (.inl e))))
theorem Hw.key (h:Hw p w kd bo it st di vk vi vr K I R) {x:Aj} (hx:Off (R8 p vk vi vr) w fun u=>Ar u x.v x.A1 x.A2 x.A3) (hb4:Below w.heap.size w w4) (ho:w8.ownsRow (p+1) 28 8 v8 (K.length+1) (K.flatMap Aj.cells++x.cells)) (hg:w4.grownBy w8 vk.ownBlock) (hv:v8.ownBlock=vk.ownBlock\/v8.ownBlock=some w4.heap.size):
  Hw p (w8.setCell ⟨p,5,none⟩ v8) kd bo it st di v8 vi vr (K++[x]) I R/\Below p w (w8.setCell ⟨p,5,none⟩ v8)/\∀q,q≠p->vk.ownBlock≠some q->q<w.heap.size->(w8.setCell ⟨p,5,none⟩ v8).heap[q]? = w.heap[q]? := by
 have h4:=h.below hb4;obtain ⟨l1,l2,l3⟩:=Gi h4;have hk:∀q,q<w4.heap.size->vk.ownBlock≠some q->w8.heap[q]? = w4.heap[q]? := fun q hq hne=>yA hg hq fun k hk e=>hne (by rw[hk,e])
 have lF:=(hk p h4.lt fun e=>by have:=l1 p e;omega).trans h4.blk
 have hso:∀q,q≠p->(w8.setCell ⟨p,5,none⟩ v8).heap[q]? = w8.heap[q]? := fun q hq=>AAE _ _ _ _ (by simpa using hq)
 have hz8:=hg.size;refine ⟨⟨?_,?_,?_,?_,?_,?_,h.str,h.raw⟩,((((hb4.mono (AAM h.lt)).grown hg (AAM h4.lt) fun q hq=>by have:=l1 q hq;omega)).setCell (p:=⟨p,5,none⟩) (AAF _) v8),fun q h1 h2 h3=>((hso q h1).trans (hk q (by have:=hb4.size;omega) h2)).trans (hb4.block q h3)⟩
 ·unfold I8 at lF
  rw[AAK _ _ 5 _ _ v8 lF];rfl
 ·have ho':Dc w8 (p+1) v8 (K++[x]):=AZ.snoc ho
  exact ho'.keep fun g hg1 _ _=>hso g (by omega)
 ·exact h4.oi.keep fun g hg1 hl hv0=>(hso g (by omega)).trans (hk g hl fun e=>h.ne g e hv0)
 ·exact h4.Sw.keep fun g hg1 hl hv0=>(hso g (by omega)).trans (hk g hl fun e=>own_ne h4.ok h4.Sw g e hv0)
 ·intro q hq e
  rcases hv with e2|e2
  ·exact h.ne q (e2▸hq) e
  ·rw[e2] at hq
   have:=ABW hq;have:=(l2 q e).2
   omega
 ·intro y hy
  have hy':Off (R8 p vk vi vr) w4 fun u=>Ar u y.v y.A1 y.A2 y.A3:=by
   rcases ABY.1 hy with k|k
   ·rcases ABY.1 k with k|k
    ·exact h4.off y (ABj _ k)
    ·obtain rfl:y=x:=by simpa using k
     exact hx.low hb4
   ·exact h4.off y (ABw _ k)
  refine hy'.grow (fun q hq hs=>?_) (fun q hq hn=>?_) (by simp;omega)
  ·rcases hs with e|e|e|e
   ·exact .inl e
   ·rcases hv with e2|e2
    ·exact .inr (.inl (e2▸e))
    ·rw[e2] at e
     have:=ABW e
     omega
   ·exact .inr (.inr (.inl e))
   ·exact .inr (.inr (.inr e))
  ·exact (hso q fun e=>hn (.inl (Nat.le_of_eq e))).trans (hk q hq fun e=>hn (.inr (.inl e)))
theorem Hw.XW (h:Hw p w kd bo it st di vk vi vr K I R) {x:Af} (hx:Cw x.data) (hb4:Below w.heap.size w w4) (ho:w8.ownsRow (p+1) 97 2 v8 (R.length+1) (R.flatMap encR++encR x)) (hg:w4.grownBy w8 vr.ownBlock) (hv:v8.ownBlock=vr.ownBlock\/v8.ownBlock=some w4.heap.size):
  Hw p (w8.setCell ⟨p,7,none⟩ v8) kd bo it st di vk vi v8 K I (R++[x])/\Below p w (w8.setCell ⟨p,7,none⟩ v8)/\∀q,q≠p->vr.ownBlock≠some q->q<w.heap.size->(w8.setCell ⟨p,7,none⟩ v8).heap[q]? = w.heap[q]? := by
 have h4:=h.below hb4;obtain ⟨l1,l2,l3⟩:=Gi h4;have hk:∀q,q<w4.heap.size->vr.ownBlock≠some q->w8.heap[q]? = w4.heap[q]? := fun q hq hne=>yA hg hq fun k hk e=>hne (by rw[hk,e])
 have lF:=(hk p h4.lt fun e=>by have:=l3 p e;omega).trans h4.blk
 have hso:∀q,q≠p->(w8.setCell ⟨p,7,none⟩ v8).heap[q]? = w8.heap[q]? := fun q hq=>AAE _ _ _ _ (by simpa using hq)
 have hz8:=hg.size;refine ⟨⟨?_,?_,?_,?_,h.ne,?_,h.str,?_⟩,((((hb4.mono (AAM h.lt)).grown hg (AAM h4.lt) fun q hq=>by have:=l3 q hq;omega)).setCell (p:=⟨p,7,none⟩) (AAF _) v8),fun q h1 h2 h3=>((hso q h1).trans (hk q (by have:=hb4.size;omega) h2)).trans (hb4.block q h3)⟩
 ·unfold I8 at lF
  rw[AAK _ _ 7 _ _ v8 lF];rfl
 ·exact h4.ok.keep fun g hg1 hl hv0=>(hso g (by omega)).trans (hk g hl (own_ne h4.ok h4.Sw g hv0))
 ·exact h4.oi.keep fun g hg1 hl hv0=>(hso g (by omega)).trans (hk g hl (own_ne h4.oi h4.Sw g hv0))
 ·have ho':rT w8 (p+1) v8 (R++[x]):=AZ.snoc ho
  exact ho'.keep fun g hg1 _ _=>hso g (by omega)
 ·intro y hy
  refine (h4.off y hy).grow (fun q hq hs=>?_) (fun q hq hn=>?_) (by simp;omega)
  ·rcases hs with e|e|e|e
   ·exact .inl e
   ·exact .inr (.inl e)
   ·exact .inr (.inr (.inl e))
   ·rcases hv with e2|e2
    ·exact .inr (.inr (.inr (e2▸e)))
    ·rw[e2] at e
     have:=ABW e
     omega
  ·exact (hso q fun e=>hn (.inl (Nat.le_of_eq e))).trans (hk q hq fun e=>hn (.inr (.inr (.inr e))))
 ·intro y hy
  rcases ABY.1 hy with k|k
  ·exact h.raw y k
  ·obtain rfl:y=x:=by simpa using k
   exact hx
theorem UR {w:World} {A:zo} {L:List Aj} (h:AY 8 120 (fun x cs=>Val.At w x.v cs) w A L):Cz w A (L.map (·.v)):=by
 refine ⟨by rw[AAt];exact h.1,fun hn=>?_⟩
 obtain ⟨b,o,e,hi⟩:=h.2 (fun e=>hn (by rw[e];rfl))
 refine ⟨b,o,e,fun i x hx=>?_⟩
 rw[List.getElem?_map] at hx;obtain ⟨y,hy,rfl⟩:=ABc.1 hx;exact hi i y hy
theorem Hw.fin (h:Hw p w kd bo it st di vk vi vr K I R) (hK:EF 120 K.length) (hI:EF 120 I.length) (hR:EF 24 R.length):∃A1 c1 A2 c2 A3 c3,vk = .slice A1 K.length c1/\vi = .slice A2 I.length c2/\vr = .slice A3 R.length c3 /\
  Off (fun q=>q<=p) w fun u=>Ar u (.mk kd bo it st di (K.map (·.v)) (I.map (·.v)) R) A1 A2 A3:=by
 obtain ⟨A1,c1,rfl,_⟩:=h.ok.reads;obtain ⟨A2,c2,rfl,_⟩:=h.oi.reads;obtain ⟨A3,c3,rfl,_⟩:=h.Sw.reads;refine ⟨A1,c1,A2,c2,A3,c3,rfl,rfl,rfl,fun u hu=>?_⟩
 have hk:∀q,p+1<=q->q<w.heap.size->u.heap[q]? = w.heap[q]? := fun q hq hl=>hu q (by omega) hl
 have hv:∀y∈K++I,Ar u y.v y.A1 y.A2 y.A3:=fun y hy=>h.off y hy u fun q hq hl=>hu q (fun e=>hq (.inl e)) hl
 obtain ⟨B1,d1,e1,g1⟩:=(h.ok.keep fun g hg hl _=>hk g hg hl).rows (bytes:=120) (at_:=fun x cs=>Val.At u x.v cs) (fun _=>rfl) hK fun y hy=>Val.Hu.2 ⟨_,_,_,_,_,_,rfl,hv y (ABj _ hy)⟩
 obtain ⟨B2,d2,e2,g2⟩:=(h.oi.keep fun g hg hl _=>hk g hg hl).rows (bytes:=120) (at_:=fun x cs=>Val.At u x.v cs) (fun _=>rfl) hI fun y hy=>Val.Hu.2 ⟨_,_,_,_,_,_,rfl,hv y (ABw _ hy)⟩
 obtain ⟨B3,d3,e3,g3⟩:=(h.Sw.keep fun g hg hl _=>hk g hg hl).rows (bytes:=24) (at_:=Af.At) (fun _=>rfl) hR fun y hy=>⟨h.raw y hy,rfl⟩
 injection e1 with e1 _ _
 injection e2 with e2 _ _
 injection e3 with e3 _ _
 subst e1 e2 e3;exact ⟨h.str,UR g1,UR g2,g3⟩
end
def JB {α:Type} (part:List AJ->Bool->PR α) (R:PR (List α)) (acc:List α) (r:List AJ) (k:Bool):Prop:=R=(Kt part r k).bind fun q => .ok (acc++q.1,q.2)
section
variable {α:Type} {part:List AJ->Bool->PR α} {R:PR (List α)} {acc:List α} {r r':List AJ} {k k':Bool} {x:α} {e:Int}
theorem JB.start (part:List AJ->Bool->PR α) (r:List AJ) (k:Bool):JB part (Kt part r k) [] r k:=by
 unfold JB
 cases Kt part r k with
 | error e=>rfl
 | ok q=>rfl
theorem JB.bad (hd:Dec part) (h:JB part R acc r k) (hp:part r k = .error e):R = .error e:=by
 unfold JB at h;rw[MI hd,hp] at h;exact h
theorem JB.comma (hd:Dec part) (h:JB part R acc r k) (hp:part r k = .ok (x,r',k')) (hc:Ba ⟨#[44]⟩ r'=true):JB part R (acc++[x]) r'.tail k':=by
 unfold JB at h ⊢;rw[MI hd,hp,zM,AAB hc] at h;rw[h]
 cases Kt part r'.tail k' with
 | error e=>rfl
 | ok q=>simp only[zM,AAo,List.singleton_append]
theorem JB.fin (hd:Dec part) (h:JB part R acc r k) (hp:part r k = .ok (x,r',k')) (hc:Ba ⟨#[44]⟩ r'=false):R = .ok (acc++[x],r',k'):=by
 unfold JB at h;rw[MI hd,hp,zM,Pd (by rw[hc];simp)] at h
 exact h
end
variable {r:List AJ}
theorem wD {s s':ByteArray} (hn:s≠s') (h:Ba s r=true):Ba s' r=false:=by
 cases r with
 | nil=>rfl
 | cons t q =>
  rw[Ba,AAD,AAV,AAV] at h;rw[Ba,h.2,AAP hn,Bool.and_false]
def ai (r:List AJ):Except Int (List Af×List AJ) :=
 (CS 2 r).bind fun p=>(Ay ⟨#[58]⟩ p.2).bind fun l3=>(CS 3 l3).bind fun q=>(Eb false false q.2).bind fun z => .ok (⟨p.1.int,q.1.str⟩::z.1,z.2)
abbrev Kv:=PR (List Val×List Af)
def NP (acc:List Val) (rs:List Af) (k:Bool) (a:Except Int (List Af×List AJ)):Kv:=a.bind fun q=>(Ay ⟨#[125]⟩ q.2).bind fun l2 => .ok ((acc,rs++q.1),l2,k)
section
variable {f:Int->List AJ->Bool->PR Val} {R:Kv} {acc:List Val} {rs:List Af} {ms:List Ac} {r r':List AJ} {k k':Bool} {x:Val} {e:Int} {y:Ac}
def Mr (f:Int->List AJ->Bool->PR Val) (R:Kv) (acc:List Val) (rs:List Af) (ms:List Ac) (r:List AJ) (k:Bool):Prop :=
 (ms=[]/\R=NP acc rs k (ai r))\/(ms≠[]/\rs=[]/\R=(BU f true ms r k).bind fun p=>NP (acc++p.1) [] p.2.2 (Eb false false p.2.1))
def QX (f:Int->List AJ->Bool->PR Val) (R:Kv) (acc:List Val) (rs:List Af) (ms:List Ac) (r:List AJ) (k:Bool):Prop :=
 (ms=[]/\R=NP acc rs k (Eb false false r))\/(ms≠[]/\rs=[]/\Ba ⟨#[44]⟩ r=true/\R=(BU f false ms r k).bind fun p=>NP (acc++p.1) [] p.2.2 (Eb false false p.2.1))
theorem XT (r:List AJ) (h:Ba ⟨#[125]⟩ r=false):Eb false true r=ai r:=by
 rw[GZ,Pd (by rw[h];simp),AAB rfl,zM]
 unfold ai;simp only[Rq,Bool.false_eq_true,false_and,if_false]
theorem XU (r:List AJ) (h:Ba ⟨#[44]⟩ r=true):Eb false false r=ai r.tail:=by
 rw[GZ,Pd (by rw[wD (by decide) h];simp),Pd (by simp)]
 unfold Ay ai;rw[AAB h,zM];simp only[Rq,Bool.false_eq_true,false_and,if_false]
 rfl
theorem jK (r:List AJ) (h:Ba ⟨#[125]⟩ r=true):Eb false false r = .ok ([],r):=by rw[GZ,AAB h]
theorem pQ (r:List AJ) (h:Ba ⟨#[125]⟩ r=false) (h2:Ba ⟨#[44]⟩ r=false):Eb false false r = .error 2:=by
 rw[GZ,Pd (by rw[h];simp),Pd (by simp)]
 unfold Ay;rw[Pd (by rw[h2];simp),DV]
def Sl (f:Int->List AJ->Bool->PR Val) (ms:List Ac) (r:List AJ) (k:Bool):Kv :=
 (BU f true ms r k).bind fun p=>NP p.1 [] p.2.2 (Eb false ms.isEmpty p.2.1)
theorem pK (x:Aa) (l:List AJ) (k:Bool):JN false f x l k=(Ay ⟨#[123]⟩ l).bind fun l1=>Sl f x.AA l1 k:=rfl
theorem Mr.start (hc:Ba ⟨#[125]⟩ r=false):Mr f (Sl f ms r k) [] [] ms r k:=by
 cases ms with
 | nil =>
  refine .inl ⟨rfl,?_⟩;unfold Sl;rw[BU,zM];simp only[List.isEmpty_nil];rw[XT r hc]
 | cons y ms=>exact .inr ⟨by simp,rfl,rfl⟩
theorem aY (hc:Ba ⟨#[125]⟩ r=true):Sl f [] r k = .ok (([],[]),r.tail,k):=by
 unfold Sl;rw[BU,zM];simp only[List.isEmpty_nil];rw[GZ,AAB hc];unfold NP;rw[zM];unfold Ay;simp only;rw[AAB hc,zM]
 rfl
theorem uo {n:Int} {s:ByteArray} (h:Ba s r=true) (hn:n≠4):CS n r = .error 2:=by
 obtain ⟨t,q,rfl,h1,_⟩:=DR h;rw[CS,Pd (by omega)]
theorem jH (hm:ms≠[]) (hc:Ba ⟨#[125]⟩ r=true):Sl f ms r k = .error 2:=by
 cases ms with
 | nil=>exact absurd rfl hm
 | cons y ms =>
  unfold Sl;rw[BU,AAB rfl,zM,uo hc (by decide)]
  rfl
theorem QX.comma (h:QX f R acc rs ms r k) (hc:Ba ⟨#[44]⟩ r=true):Mr f R acc rs ms r.tail k:=by
 rcases h with ⟨h1,h2⟩|⟨h1,h2,h3,h4⟩
 ·exact .inl ⟨h1,by rw[h2,XU r hc]⟩
 ·refine .inr ⟨h1,h2,h4.trans ?_⟩
  cases ms with
  | nil=>exact absurd rfl h1
  | cons y ms =>
   rw[BU,BU,Pd (by simp),AAB rfl]
   unfold Ay;rw[AAB hc]
theorem QX.fin (h:QX f R acc rs ms r k) (hc:Ba ⟨#[44]⟩ r=false) (hb:Ba ⟨#[125]⟩ r=true):R = .ok ((acc,rs),r.tail,k):=by
 rcases h with ⟨_,h2⟩|⟨_,_,h3,_⟩
 ·rw[h2,jK r hb]
  unfold NP;rw[zM];unfold Ay;simp only;rw[AAB hb,zM,List.append_nil]
 ·rw[hc] at h3;cases h3
theorem QX.bad (h:QX f R acc rs ms r k) (hc:Ba ⟨#[44]⟩ r=false) (hb:Ba ⟨#[125]⟩ r=false):R = .error 2:=by
 rcases h with ⟨_,h2⟩|⟨_,_,h3,_⟩
 ·rw[h2,pQ r hb hc];rfl
 ·rw[hc] at h3;cases h3
theorem Mr.name (h:Mr f R acc rs (y::ms) r k):rs=[]/\R=(CS 1 r).bind fun p=>if p.1.text=y.name then (Ay ⟨#[58]⟩ p.2).bind fun l2=>(f y.type l2 k).bind fun q=>(BU f false ms q.2.1 q.2.2).bind fun z=>NP (acc++(q.1::z.1)) [] z.2.2 (Eb false false z.2.1) else .error 4:=by
 rcases h with ⟨h1,_⟩|⟨_,h2,h3⟩
 ·cases h1
 ·refine ⟨h2,h3.trans ?_⟩
  rw[BU,AAB rfl,zM]
  cases CS 1 r with
  | error e=>rfl
  | ok p =>
   rw[zM,zM]
   split
   ·cases Ay ⟨#[58]⟩ p.2 with
    | error e=>rfl
    | ok l2 =>
     rw[zM,zM]
     cases f y.type l2 k with
     | error e=>rfl
     | ok q =>
      rw[zM,zM]
      cases BU f false ms q.2.1 q.2.2 with
      | error e=>rfl
      | ok z=>rfl
   ·rfl
theorem pO (hr:rs=[]) (h:R=(BU f false ms r k).bind fun z=>NP (acc++z.1) [] z.2.2 (Eb false false z.2.1)) (hc:ms=[]\/Ba ⟨#[44]⟩ r=true):QX f R acc rs ms r k:=by
 by_cases hm:ms=[]
 ·refine .inl ⟨hm,?_⟩
  rw[h,hm,BU,zM,hr];simp only[List.append_nil]
 ·exact .inr ⟨hm,hr,hc.resolve_left hm,h⟩
theorem vJ (h:R=(BU f false ms r k).bind fun z=>NP (acc++z.1) [] z.2.2 (Eb false false z.2.1)) (hm:ms≠[]) (hc:Ba ⟨#[44]⟩ r=false):R = .error 2:=by
 cases ms with
 | nil=>exact absurd rfl hm
 | cons y ms =>
  rw[h,BU,Pd (by simp)]
  unfold Ay;rw[Pd (by rw[hc];simp)]
  rfl
theorem Mr.raw (h:Mr f R acc rs [] r k):R=(CS 2 r).bind fun p=>(Ay ⟨#[58]⟩ p.2).bind fun l3=>(CS 3 l3).bind fun q=>NP acc (rs++[⟨p.1.int,q.1.str⟩]) k (Eb false false q.2):=by
 rcases h with ⟨_,h2⟩|⟨h1,_⟩
 ·rw[h2]
  unfold ai
  cases CS 2 r with
  | error e=>rfl
  | ok p =>
   rw[zM,zM]
   cases Ay ⟨#[58]⟩ p.2 with
   | error e=>rfl
   | ok l3 =>
    rw[zM,zM]
    cases CS 3 l3 with
    | error e=>rfl
    | ok q =>
     rw[zM,zM]
     cases Eb false false q.2 with
     | error e=>rfl
     | ok z =>
      unfold NP;simp only[zM,AAo,List.singleton_append]
 ·exact absurd rfl h1
end
variable {k:Bool} {e:Int} {C:Eh} {w:World}
theorem zX (T:ByteArray) (h:CJ C w r k e):
  Calls prog 160 #[.pointer (some ⟨C.b,0,none⟩),.string T] w fun x w'=>x = .returned (.bool (Ba T r))/\Below w.heap.size w w':=by
 obtain ⟨⟨c0,c1,c2,c3,c4⟩,hf⟩:=h.cells;have TW:=h.ok.len
 cases r with
 | nil =>
  have z1:decide (((C.l.length - ([]:List AJ).length:Nat):Int)<(C.l.length:Int))=false:=by simp
  clear h hf
  go_enter func160,ntmps160
  go_wp2_with fail
  go_quiet (fail)
  go_wp2
  go_ret
  exact ⟨rfl,zC (Pe _ _) _⟩
 | cons t q =>
  have hgi:=h.AA2;obtain ⟨bb,o,hA,_,t0,t1,t2,t3,t4⟩:=h.oh hgi;have hi:=(AAv.1 hgi).1;rw[hA] at c1;have hq:Ba T (t::q)=(decide (t.kind=4)&&decide (t.text=T)):=rfl;rw[hq];clear h hf hq hgi;generalize C.l.length - (t::q).length=i at *;have z1:decide ((i:Int)<(C.l.length:Int))=true:=by simp;omega
  have z2:(0:Int)<=(i:Int):=by omega
  have z3:(i:Int)<(C.l.length:Int):=by omega
  have HE:=zh (bytes_beq t.text T)
  by_cases hk:t.kind=4
  ·have q1:(t.kind==4)=true:=by simp[hk]
   rw[hk,<-bytes_beq];clear hk HE
   go_enter func160,ntmps160
   go_wp2_with fail
   go_quiet (fail)
   go_wp2
   go_ret
   exact ⟨rfl,zC (Pe _ _) _⟩
  ·have q1:(t.kind==4)=false:=by simp[hk]
   rw[AAP hk,Bool.false_and];clear hk HE
   go_enter func160,ntmps160
   go_wp2_with fail
   go_quiet (fail)
   go_wp2
   go_ret
   exact ⟨rfl,zC (Pe _ _) _⟩
theorem CJ.fB {t:AJ} {q:List AJ} (h:CJ C w (t::q) k e):∃i:Nat,i+1<=1000000/\w.cell? ⟨C.b,2,none⟩=some (.int .i64 (i:Int))/\w.frozen? ⟨C.b,2,none⟩=false/\C.l[i]? = some t /\
  Hid ((∀w1 e1 k1,CJ C w1 (t::q) k1 e1->CJ C (w1.setCell ⟨C.b,2,none⟩ (.int .i64 ((i:Int)+1))) q k1 e1)/\(∀w1 e1 k1,CJ C w1 q k1 e1->w1.cell? ⟨C.b,2,none⟩=some (.int .i64 ((i:Int)+1)))):=by
 obtain ⟨⟨c0,c1,c2,c3,c4⟩,hf⟩:=h.cells;have ht:=h.tail;have hs:=h.Uk.length_le;have hl:=h.ok.len;have hl1:(t::q).length=q.length+1:=rfl;refine ⟨C.l.length - (t::q).length,by omega,c2,hf 2,h.AA2,fun w1 e1 k1 h1=>h1.setAt ht.1 ht.2,fun w1 e1 k1 h1=>?_⟩
 rw[h1.cells.1.2.2.1,ht.2]
def lS (e x:Int):Int:=if e=0 then x else e
theorem Bc (x:Int) (h:CJ C w r k e):
  Calls prog 78 #[.pointer (some ⟨C.b,0,none⟩),.int .i64 x] w fun y w'=>y = .returned (.tuple #[])/\CJ C w' r k (lS e x)/\Ah C.b w w':=by
 have HS:=zh h;obtain ⟨⟨c0,c1,c2,c3,c4⟩,hf⟩:=h.cells;have f4:=hf 4;clear h hf
 by_cases he:e=0
 ·have q1:(e==0)=true:=by simp[he]
  have HR:Hid (lS e x=x):=AAB he;clear he
  go_enter func78,ntmps78
  go_wp2
  refine bodyPost_end (results_none results78 _ _ _) rfl ⟨rfl,?_,(Ah.refl _ _).set _ _⟩;rw[HR.O];exact HS.O.ACt x
 ·have q1:(e==0)=false:=by simp[he]
  have HR:Hid (lS e x=e):=Pd he;clear he
  go_enter func78,ntmps78
  go_wp2
  refine bodyPost_end (results_none results78 _ _ _) rfl ⟨rfl,?_,Ah.refl _ _⟩;rw[HR.O];exact HS.O
def ABD (C:Eh) (T:ByteArray) (w:World) (r:List AJ) (k:Bool) (e:Int) (y:Ending) (w':World):Prop:=y = .returned (.tuple #[])/\Ah C.b w w'/\((Ba T r=true/\CJ C w' r.tail k e)\/(Ba T r=false/\CJ C w' r k (lS e 2)))
theorem BS (T:ByteArray) (h:CJ C w r k e):
  Calls prog 126 #[.pointer (some ⟨C.b,0,none⟩),.string T] w (ABD C T w r k e):=by
 have HS:=zh h;clear h
 cases hi:Ba T r with
 | false =>
  have HI:=zh hi;clear hi
  go_enter func126,ntmps126
  go_wp2_with (go_at_call 160;refine (zX T HS).mono ?_;rintro x w1 ⟨rfl,hb1⟩;rw[HI.O];have HB1:=zh hb1;clear hb1)
  refine (Bc 2 (HS.O.below HB1)).mono ?_;rintro x w2 ⟨rfl,h1,h2⟩;have H1:=zh h1;have H2:=zh h2;clear h1 h2;go_wp2;refine bodyPost_ret (results_none results126 _ _ _) rfl ⟨rfl,(HS.O.BK HB1).trans H2,.inr ⟨HI.O,H1.O⟩⟩
 | true =>
  have HI:=zh hi;obtain ⟨t,q,rfl,_,_⟩:=DR hi;clear hi
  go_enter func126,ntmps126
  go_wp2_with (go_at_call 160;refine (zX T HS).mono ?_;rintro x w1 ⟨rfl,hb1⟩;rw[HI.O];have HB1:=zh hb1;have Il:=zh (HS.O.below hb1);obtain ⟨i,hi,c2,f2,hi2,HN⟩:=Il.O.fB;clear hb1)
  refine bodyPost_end (results_none results126 _ _ _) rfl ⟨rfl,(HS.O.BK HB1).trans ((Ah.refl _ _).set _ _),.inl ⟨HI.O,?_⟩⟩;exact HN.O.1 _ _ _ Il
def Kr:AJ:=⟨0,⟨#[]⟩,0,⟨#[]⟩,0⟩
def AJ.v (t:AJ):Value := .agg #[.int .i64 t.kind,.string t.text,.int .i64 t.int,.string t.str,.int .i64 t.line]
def mR (C:Eh) (n:Int) (w:World) (r:List AJ) (k:Bool) (e:Int) (y:Ending) (w':World):Prop :=
 Ah C.b w w'/\((∃t q,CS n r = .ok (t,q)/\y = .returned t.v/\CJ C w' q k e/\Cw t.text/\Cw t.str)\/(CS n r = .error 2/\y = .returned Kr.v/\CJ C w' r k (lS e 2)))
theorem AAN {n:Int} (h:¬ ∃t q,r=t::q/\t.kind=n):CS n r = .error 2:=by
 cases r with
 | nil=>rfl
 | cons t q=>rw[CS,Pd fun e=>h ⟨t,q,rfl,e⟩]
variable {B:Nat} {w':World}
theorem Ah.two {b:Nat} (h:Ah b w w') (j:Nat) (u:Value) (hB:w.heap.size<=B) (hb:b<w.heap.size):Ah b w (w'.setCell ⟨B,j,none⟩ u) :=
 ⟨h.Cm.setCell (p:=⟨B,j,none⟩) (by simp only;omega) u,fun q hq hl=>(AAE _ _ _ _ (by simp only;omega)).trans (h.FN q hq hl)⟩
abbrev q5 (w:World) (p:Nat) (v0 v1 v2 v3 v4:Value):World:=((((w.setCell ⟨p,0,none⟩ v0).setCell ⟨p,1,none⟩ v1).setCell ⟨p,2,none⟩ v2).setCell ⟨p,3,none⟩ v3).setCell ⟨p,4,none⟩ v4
theorem wY {p:Nat} {a0 a1 a2 a3 a4:Value} {T:TypeId} (h:w.heap[p]? = some (.cells #[a0,a1,a2,a3,a4] T)) (v0 v1 v2 v3 v4:Value):(q5 w p v0 v1 v2 v3 v4).heap[p]? = some (.cells #[v0,v1,v2,v3,v4] T):=by
 have h0:=AAK _ _ 0 _ _ v0 h;have h1:=AAK _ _ 1 _ _ v1 h0;have h2:=AAK _ _ 2 _ _ v2 h1;have h3:=AAK _ _ 3 _ _ v3 h2;exact AAK _ _ 4 _ _ v4 h3
theorem Ah.five {b:Nat} (h:Ah b w w') (v0 v1 v2 v3 v4:Value) (hB:w.heap.size<=B) (hb:b<w.heap.size):Ah b w (q5 w' B v0 v1 v2 v3 v4) :=
 ((((h.two 0 v0 hB hb).two 1 v1 hB hb).two 2 v2 hB hb).two 3 v3 hB hb).two 4 v4 hB hb
theorem CJ.Qk (h:CJ C w r k e) (hB:C.b<B) (v0 v1 v2 v3 v4:Value):CJ C (q5 w B v0 v1 v2 v3 v4) r k e:=by
 have h1:∀w j u,CJ C w r k e->CJ C (w.setCell ⟨B,j,none⟩ u) r k e:=fun w j u h=>⟨h.ok,(AAE _ _ _ _ (by simp only;omega)).trans h.blk,h.Uk,h.up.setCell (p:=⟨B,j,none⟩) (by have:=h.ok.ge;simp only;omega) _⟩
 exact h1 _ _ _ (h1 _ _ _ (h1 _ _ _ (h1 _ _ _ (h1 _ _ _ h))))
theorem Bd {p:Nat} {a0 a1 a2 a3 a4:Value} {T:TypeId} (h:w.heap[p]? = some (.cells #[a0,a1,a2,a3,a4] T)):(w.cell? ⟨p,0,none⟩=some a0/\w.cell? ⟨p,1,none⟩=some a1/\w.cell? ⟨p,2,none⟩=some a2/\w.cell? ⟨p,3,none⟩=some a3/\w.cell? ⟨p,4,none⟩=some a4)/\(w.frozen? ⟨p,0,none⟩=false/\w.frozen? ⟨p,1,none⟩=false/\w.frozen? ⟨p,2,none⟩=false/\w.frozen? ⟨p,3,none⟩=false/\w.frozen? ⟨p,4,none⟩=false):=by
 refine ⟨⟨?_,?_,?_,?_,?_⟩,AAG _ _ _ _ _ h,AAG _ _ _ _ _ h,AAG _ _ _ _ _ h,AAG _ _ _ _ _ h,AAG _ _ _ _ _ h⟩ <;> (rw[AAC _ _ _ _ _ _ h];rfl)
abbrev sU (t:AJ):Obj := .cells #[.int .i64 t.kind,.string t.text,.int .i64 t.int,.string t.str,.int .i64 t.line] 59
theorem Br (n:Int) (h:CJ C w r k e):
  Calls prog 122 #[.pointer (some ⟨C.b,0,none⟩),.int .i64 n] w (mR C n w r k e):=by
 have HB0:=zh (zD w (sU Kr));have HX0:=zh (AAA w (sU Kr));have HW:=zh (h.BK HB0);have HS:=zh (h.below HB0);have EP:=zh h.lt;clear h
 go_enter func122,ntmps122
 go_upto_region 1 with fail
 unfold sU Kr at HB0 HX0 HW HS;simp only at HB0 HX0 HW HS;generalize w.alloc _=W1 at *
 by_cases hk:∃t q,r=t::q/\t.kind=n
 ·obtain ⟨t,q,rfl,hk⟩:=hk
  have HK:Hid (CS n (t::q) = .ok (t,q)):=by show _=_;rw[CS,AAB hk]
  obtain ⟨⟨c0,c1,c2',c3,c4⟩,hf⟩:=HS.O.cells;obtain ⟨i,hi,c2,f2,hgi,HN⟩:=HS.O.fB;obtain ⟨bb,o,hA,hso,t0,t1,t2,t3,t4⟩:=HS.O.oh hgi;have hi2:=(AAv.1 hgi).1;have HSO:=zh hso;have HGI:=zh hgi;have HC:=zh (show CJ C W1 (t::q) k e from HS.O);rw[hA] at c1;have z1:decide ((i:Int) >= (C.l.length:Int))=false:=by simp;omega
  have z2:(0:Int)<=(i:Int):=by omega
  have z3:(i:Int)<(C.l.length:Int):=by omega
  have z4:(t.kind != n)=false:=by simp[hk]
  clear hk hso hf c2' hgi
  go_quiet (fail)
  go_upto_region 5 with fail
  have HS5:=zh (HN.O.1 _ _ _ (HC.O.below (zC (Pe _ _) nq)));have Aq:=zh ((HW.O.below (zC (Pe W1.heap.size W1) nq) EP).set 2 (.int .i64 ((i:Int)+1)))
  have CO:Hid (((W1.drewN nq).setCell ⟨C.b,2,none⟩ (.int .i64 ((i:Int)+1))).heap[w.heap.size]? = some (.cells #[.int .i64 0,.string ⟨#[]⟩,.int .i64 0,.string ⟨#[]⟩,.int .i64 0] 59)):=(AAE _ _ _ _ (by have:=EP.O;simp only;omega)).trans HX0
  clear t0 t1 t2 t3 t4 c0 c1 c2 c3 c4 f2;generalize (W1.drewN nq).setCell ⟨C.b,2,none⟩ (.int .i64 ((i:Int)+1))=W5 at *;have c2:=HN.O.2 _ _ _ HS5;obtain ⟨⟨c0,c1,_,c3,c4⟩,_⟩:=HS5.O.cells;obtain ⟨bb',o',hA',_,t0,t1,t2,t3,t4⟩:=HS5.O.oh HGI;rw[hA] at hA' c1
  injection hA' with hA'
  injection hA' with g1 g2
  subst g1 g2;obtain ⟨⟨x0,x1,x2,x3,x4⟩,y0,y1,y2,y3,y4⟩:=Bd CO
  go_region
  clear t0 t1 t2 t3 t4 x0 x1 x2 x3 x4 y0 y1 y2 y3 y4 c0 c1 c2 c3 c4;have JQ:=zh (wY CO (.int .i64 t.kind) (.string t.text) (.int .i64 t.int) (.string t.str) (.int .i64 t.line));have BH:=zh (Aq.O.five (.int .i64 t.kind) (.string t.text) (.int .i64 t.int) (.string t.str) (.int .i64 t.line) (AAF _) EP)
  have HS6:=zh (HS5.O.Qk EP (.int .i64 t.kind) (.string t.text) (.int .i64 t.int) (.string t.str) (.int .i64 t.line));unfold q5 at JQ BH HS6;generalize World.setCell _ _ _=W6 at *;have xP:=zh (Au JQ (zC (Pe _ _) 1));have xV:=zh (HS6.O.below (zC (Pe _ _) 1))
  have Bv:=zh (BH.O.below (zC (Pe _ _) 1) EP)
  change Hid (W6.drew.heap[w.heap.size]? = _) at xP
  change Hid (CJ C W6.drew _ _ _) at xV
  change Hid (Ah C.b w W6.drew) at Bv
  generalize W6.drew=W7 at *;obtain ⟨⟨t0,t1,t2,t3,t4⟩,_⟩:=Bd xP;go_wp2;refine bodyPost_ret (v:=t.v) (by simp[results,results122,go_sem,t0,t1,t2,t3,t4,AJ.v]) rfl ?_
  exact ⟨Bv.O,.inl ⟨t,q,HK.O,rfl,xV.O,HSO.O⟩⟩
 ·have HK:=zh (AAN hk)
  have Li:Hid (∀W2 W3:World,CJ C W2 r k (lS e 2)->Ah C.b w W2->W3=q5 W2 w.heap.size (.int .i64 0) (.string ⟨#[]⟩) (.int .i64 0) (.string ⟨#[]⟩) (.int .i64 0)->mR C n w r k e (.returned Kr.v) W3):=fun W2 W3 h1 h2 e3=>by
   subst e3;exact ⟨h2.five _ _ _ _ _ (AAF _) EP,.inr ⟨HK.O,rfl,h1.Qk EP _ _ _ _ _⟩⟩
  have ABr:Hid (∀W2:World,Ah C.b W1 W2->W2.heap[w.heap.size]? = some (.cells #[.int .i64 0,.string ⟨#[]⟩,.int .i64 0,.string ⟨#[]⟩,.int .i64 0] 59)):=fun W2 h=>(h.FN _ (by have:=EP.O;omega) (zg.1 HX0).1).trans HX0
  obtain ⟨⟨c0,c1,c2,c3,c4⟩,hf⟩:=HS.O.cells
  cases r with
  | nil =>
   have z1:decide (((C.l.length - ([]:List AJ).length:Nat):Int) >= (C.l.length:Int))=true:=by simp
   clear hk hf
   go_quiet (fail)
   go_wp2_with (go_at_call 78;refine (Bc 2 (HS.O.below (zC (Pe _ _) nq))).mono ?_;rintro x w2 ⟨rfl,h1,h2⟩;have H1:=zh h1;have N9:=zh (ABr.O _ ((Ah.of (zC (Pe _ _) nq) (by have:=EP.O;have:=HB0.O.size;omega)).trans h2));have H2:=zh ((HW.O.below (zC (Pe W1.heap.size W1) nq) EP).trans h2);clear h1 h2;obtain ⟨⟨x0,x1,x2,x3,x4⟩,y0,y1,y2,y3,y4⟩:=Bd N9)
   have JR:=zh (wY N9 (.int .i64 0) (.string ⟨#[]⟩) (.int .i64 0) (.string ⟨#[]⟩) (.int .i64 0));have HE3:=zh (Li.O w2 _ H1 H2 rfl);unfold q5 at JR HE3;generalize World.setCell _ _ _=W3 at *;obtain ⟨⟨t0,t1,t2,t3,t4⟩,_⟩:=Bd JR
   refine bodyPost_ret (v:=Kr.v) (by simp[results,results122,go_sem,t0,t1,t2,t3,t4,AJ.v,Kr]) rfl HE3
  | cons t q =>
   obtain ⟨i,hi,c2',f2,hgi,HN⟩:=HS.O.fB;obtain ⟨bb,o,hA,hso,t0,t1,t2,t3,t4⟩:=HS.O.oh hgi;have hi2:=(AAv.1 hgi).1;rw[hA] at c1;have z1:decide ((i:Int) >= (C.l.length:Int))=false:=by simp;omega
   have z2:(0:Int)<=(i:Int):=by omega
   have z3:(i:Int)<(C.l.length:Int):=by omega
   have z4:(t.kind != n)=true:=by simp only[bne_iff_ne,ne_eq];exact fun e=>hk ⟨t,q,rfl,e⟩
   clear hk hso hf c2 hgi hi f2
   go_quiet (fail)
   clear t0 t1 t2 t3 t4
   go_wp2_with (go_at_call 78;refine (Bc 2 (HS.O.below (zC (Pe _ _) nq))).mono ?_;rintro x w2 ⟨rfl,h1,h2⟩;have H1:=zh h1;have N9:=zh (ABr.O _ ((Ah.of (zC (Pe _ _) nq) (by have:=EP.O;have:=HB0.O.size;omega)).trans h2));have H2:=zh ((HW.O.below (zC (Pe W1.heap.size W1) nq) EP).trans h2);clear h1 h2;obtain ⟨⟨x0,x1,x2,x3,x4⟩,y0,y1,y2,y3,y4⟩:=Bd N9)
   have JR:=zh (wY N9 (.int .i64 0) (.string ⟨#[]⟩) (.int .i64 0) (.string ⟨#[]⟩) (.int .i64 0));have HE3:=zh (Li.O w2 _ H1 H2 rfl);unfold q5 at JR HE3;generalize World.setCell _ _ _=W3 at *;obtain ⟨⟨t0,t1,t2,t3,t4⟩,_⟩:=Bd JR
   refine bodyPost_ret (v:=Kr.v) (by simp[results,results122,go_sem,t0,t1,t2,t3,t4,AJ.v,Kr]) rfl HE3
theorem CJ.zero (h:CJ C w r k e):w.cell? ⟨C.b,4,none⟩=some (.int .i64 e):=h.cells.1.2.2.2.2
def rdM (C:Eh) (w:World):Nat:=match w.cell? ⟨C.b,2,none⟩ with
 | some (.int _ i)=>C.l.length - i.toNat
 | _=>0
theorem CJ.meas (h:CJ C w r k e):rdM C w=r.length:=by
 unfold rdM;rw[h.cells.1.2.2.1];have:=h.Uk.length_le;simp only[Int.toNat_natCast]
 omega
structure R7 (C:Eh) (T:ByteArray) (fid:Nat) (caps:List Value) (I J F:World->List AJ->Bool->Prop) (Er:World->Int->Prop):Prop where
 iS:∀W r k,I W r k->CJ C W r k 0
 jS:∀W r k,J W r k->CJ C W r k 0
 part:∀W r k,I W r k->Calls prog fid caps.toArray W fun y W'=>y = .returned (.tuple #[])/\∃r' k' e',CJ C W' r' k' e'/\r'.length<=r.length/\(e'=0->J W' r' k')/\(e'≠0->Er W' e')
 comma:∀W r k W',J W r k->Ba ⟨#[44]⟩ r=true->Ah C.b W W'->CJ C W' r.tail k 0->I W' r.tail k
 fin:∀W r k W',J W r k->Ba ⟨#[44]⟩ r=false->Ba T r=true->Ah C.b W W'->CJ C W' r.tail k 0->F W' r.tail k
 bad:∀W r k W',J W r k->Ba ⟨#[44]⟩ r=false->Ba T r=false->Ah C.b W W'->CJ C W' r k 2->Er W' 2
def mX (C:Eh) (F:World->List AJ->Bool->Prop) (Er:World->Int->Prop) (y:Ending) (w':World):Prop :=
 y = .returned (.tuple #[])/\∃r' k' e',CJ C w' r' k' e'/\(e'=0->F w' r' k')/\(e'≠0->Er w' e')
variable {T:ByteArray} {pa pb pc:Nat} {Er:World->Int->Prop} {F J:World->List AJ->Bool->Prop}
theorem OM {I:World->List AJ->Bool->Prop} (hc:R7 C T 128 [.pointer (some ⟨pa,0,none⟩),.pointer (some ⟨pb,0,none⟩),.pointer (some ⟨pc,0,none⟩)] I J F Er) (h:CJ C w r k 0) (h0:Ba T r=true->∀W',Ah C.b w W'->CJ C W' r.tail k 0->F W' r.tail k) (h1:Ba T r=false->∀W',Ah C.b w W'->CJ C W' r k 0->I W' r k):
  Calls prog 127 #[.pointer (some ⟨C.b,0,none⟩),.string T,.func (.func 128) #[] #[.pointer (some ⟨pa,0,none⟩),.pointer (some ⟨pb,0,none⟩),.pointer (some ⟨pc,0,none⟩)]] w (mX C F Er):=by
 have HC:=zh hc;have HS:=zh h
 cases hi:Ba T r with
 | true =>
  have HI:=zh hi;have HF:=zh (h0 hi);obtain ⟨t,q,rfl,_,_⟩:=DR hi;clear hi h h0 h1 hc
  go_enter func127,ntmps127
  go_wp2_with (go_at_call 160;refine (zX T HS).mono ?_;rintro x w1 ⟨rfl,hb1⟩;rw[HI.O];have HB1:=zh hb1;have Il:=zh (HS.O.below hb1);obtain ⟨i,hi,c2,f2,hi2,HN⟩:=Il.O.fB;clear hb1)
  have HX:=zh (HN.O.1 _ _ _ Il);refine bodyPost_ret (results_none results127 _ _ _) rfl ⟨rfl,q,k,0,HX.O,fun _=>HF.O _ ((HS.O.BK HB1).trans ((Ah.refl _ _).set _ _)) HX,fun h=>absurd rfl h⟩
 | false =>
  have HI:=zh hi;have HF:=zh (h1 hi);clear hi h h0 h1 hc
  go_enter func127,ntmps127
  go_wp2_with (go_at_call 160;refine (zX T HS).mono ?_;rintro x w1 ⟨rfl,hb1⟩;rw[HI.O];have Il:=zh (HS.O.below hb1);have HI1:=zh (HF.O _ (HS.O.BK hb1) Il);clear hb1)
  go_loopw [] (fun wr=>∃r k,Hid (I wr r k)) (fun wr=>rdM C wr)
  case atStart=>exact ⟨r,k,HI1.O⟩
  case round =>
   obtain ⟨r,k,hI⟩:=hrel;have HR:=zh (HC.O.iS _ _ _ hI.O);have hz:=HR.O.zero;go_wp2_with fail;refine (HC.O.part _ _ _ hI.O).mono ?_;rintro y w2 ⟨rfl,r2,k2,e2,h1,h2,h3,h4⟩;have HR2:=zh h1;have HL2:=zh h2;have hz2:=HR2.O.zero
   by_cases he:e2=0
   ·subst he
    have HJ:=zh (h3 rfl);clear hz h1 h2 h3 h4
    cases hcm:Ba ⟨#[44]⟩ r2 with
    | true =>
     have HCM:=zh hcm;obtain ⟨t,q,rfl,_,_⟩:=DR hcm;clear hcm;go_wp2_with (go_at_call 160;refine (zX ⟨#[44]⟩ HR2).mono ?_;rintro x w3 ⟨rfl,hb3⟩;rw[HCM.O];have HB3:=zh (HR2.O.BK hb3);have H9:=zh (HR2.O.below hb3);obtain ⟨i,hi,c2,f2,hi2,HN⟩:=H9.O.fB;clear hb3);have HX:=zh (HN.O.1 _ _ _ H9)
     have uK:=zh (HC.O.comma _ _ _ _ HJ HCM (HB3.O.trans ((Ah.refl _ _).set 2 (.int .i64 ((i:Int)+1)))) HX);have D7:=zh HX.O.meas;have Fb:=zh HR.O.meas;go_roundw
     case rel=>exact ⟨q,k2,uK.O⟩
     case measure=>rw[D7.O,Fb.O];have:=HL2.O;rw[AAI] at this;omega
    | false =>
     have HCM:=zh hcm;clear hcm;go_wp2_with (go_at_call 160;refine (zX ⟨#[44]⟩ HR2).mono ?_;rintro x w3 ⟨rfl,hb3⟩;rw[HCM.O];have HB3:=zh (HR2.O.BK hb3);have H9:=zh (HR2.O.below hb3);have hz3:=H9.O.zero;clear hb3);refine (BS T H9).mono ?_;rintro y w4 ⟨rfl,hb4,h4⟩;have ED:=zh (HB3.O.trans hb4);have H4:=zh h4;clear hb4 h4;go_wp2
     refine bodyPost_end (results_none results127 _ _ _) rfl ⟨rfl,?_⟩
     rcases H4.O with ⟨g1,g2⟩|⟨g1,g2⟩
     ·exact ⟨_,_,_,g2,fun _=>HC.O.fin _ _ _ _ HJ HCM g1 ED g2,fun h=>absurd rfl h⟩
     ·exact ⟨_,_,_,g2,(fun h=>by cases h),fun _=>HC.O.bad _ _ _ _ HJ HCM g1 ED g2⟩
   ·have HE:=zh (h4 he)
    have q1:(e2 != 0)=true:=by simp[he]
    have nW:=zh he;clear hz h1 h2 h3 h4 he;go_wp2_with fail;refine bodyPost_ret (results_none results127 _ _ _) rfl ⟨rfl,r2,k2,e2,HR2.O,fun h=>absurd h nW,fun _=>HE.O⟩
theorem Qq {I:World->List AJ->Bool->Prop} (hc:R7 C T 162 [.pointer (some ⟨pa,0,none⟩),.pointer (some ⟨pb,0,none⟩),.pointer (some ⟨pc,0,none⟩)] I J F Er) (h:CJ C w r k 0) (h0:Ba T r=true->∀W',Ah C.b w W'->CJ C W' r.tail k 0->F W' r.tail k) (h1:Ba T r=false->∀W',Ah C.b w W'->CJ C W' r k 0->I W' r k):
  Calls prog 127 #[.pointer (some ⟨C.b,0,none⟩),.string T,.func (.func 162) #[] #[.pointer (some ⟨pa,0,none⟩),.pointer (some ⟨pb,0,none⟩),.pointer (some ⟨pc,0,none⟩)]] w (mX C F Er):=by
 have HC:=zh hc;have HS:=zh h
 cases hi:Ba T r with
 | true =>
  have HI:=zh hi;have HF:=zh (h0 hi);obtain ⟨t,q,rfl,_,_⟩:=DR hi;clear hi h h0 h1 hc
  go_enter func127,ntmps127
  go_wp2_with (go_at_call 160;refine (zX T HS).mono ?_;rintro x w1 ⟨rfl,hb1⟩;rw[HI.O];have HB1:=zh hb1;have Il:=zh (HS.O.below hb1);obtain ⟨i,hi,c2,f2,hi2,HN⟩:=Il.O.fB;clear hb1)
  have HX:=zh (HN.O.1 _ _ _ Il);refine bodyPost_ret (results_none results127 _ _ _) rfl ⟨rfl,q,k,0,HX.O,fun _=>HF.O _ ((HS.O.BK HB1).trans ((Ah.refl _ _).set _ _)) HX,fun h=>absurd rfl h⟩
 | false =>
  have HI:=zh hi;have HF:=zh (h1 hi);clear hi h h0 h1 hc
  go_enter func127,ntmps127
  go_wp2_with (go_at_call 160;refine (zX T HS).mono ?_;rintro x w1 ⟨rfl,hb1⟩;rw[HI.O];have Il:=zh (HS.O.below hb1);have HI1:=zh (HF.O _ (HS.O.BK hb1) Il);clear hb1)
  go_loopw [] (fun wr=>∃r k,Hid (I wr r k)) (fun wr=>rdM C wr)
  case atStart=>exact ⟨r,k,HI1.O⟩
  case round =>
   obtain ⟨r,k,hI⟩:=hrel;have HR:=zh (HC.O.iS _ _ _ hI.O);have hz:=HR.O.zero;go_wp2_with fail;refine (HC.O.part _ _ _ hI.O).mono ?_;rintro y w2 ⟨rfl,r2,k2,e2,h1,h2,h3,h4⟩;have HR2:=zh h1;have HL2:=zh h2;have hz2:=HR2.O.zero
   by_cases he:e2=0
   ·subst he
    have HJ:=zh (h3 rfl);clear hz h1 h2 h3 h4
    cases hcm:Ba ⟨#[44]⟩ r2 with
    | true =>
     have HCM:=zh hcm;obtain ⟨t,q,rfl,_,_⟩:=DR hcm;clear hcm;go_wp2_with (go_at_call 160;refine (zX ⟨#[44]⟩ HR2).mono ?_;rintro x w3 ⟨rfl,hb3⟩;rw[HCM.O];have HB3:=zh (HR2.O.BK hb3);have H9:=zh (HR2.O.below hb3);obtain ⟨i,hi,c2,f2,hi2,HN⟩:=H9.O.fB;clear hb3);have HX:=zh (HN.O.1 _ _ _ H9)
     have uK:=zh (HC.O.comma _ _ _ _ HJ HCM (HB3.O.trans ((Ah.refl _ _).set 2 (.int .i64 ((i:Int)+1)))) HX);have D7:=zh HX.O.meas;have Fb:=zh HR.O.meas;go_roundw
     case rel=>exact ⟨q,k2,uK.O⟩
     case measure=>rw[D7.O,Fb.O];have:=HL2.O;rw[AAI] at this;omega
    | false =>
     have HCM:=zh hcm;clear hcm;go_wp2_with (go_at_call 160;refine (zX ⟨#[44]⟩ HR2).mono ?_;rintro x w3 ⟨rfl,hb3⟩;rw[HCM.O];have HB3:=zh (HR2.O.BK hb3);have H9:=zh (HR2.O.below hb3);have hz3:=H9.O.zero;clear hb3);refine (BS T H9).mono ?_;rintro y w4 ⟨rfl,hb4,h4⟩;have ED:=zh (HB3.O.trans hb4);have H4:=zh h4;clear hb4 h4;go_wp2
     refine bodyPost_end (results_none results127 _ _ _) rfl ⟨rfl,?_⟩
     rcases H4.O with ⟨g1,g2⟩|⟨g1,g2⟩
     ·exact ⟨_,_,_,g2,fun _=>HC.O.fin _ _ _ _ HJ HCM g1 ED g2,fun h=>absurd rfl h⟩
     ·exact ⟨_,_,_,g2,(fun h=>by cases h),fun _=>HC.O.bad _ _ _ _ HJ HCM g1 ED g2⟩
   ·have HE:=zh (h4 he)
    have q1:(e2 != 0)=true:=by simp[he]
    have nW:=zh he;clear hz h1 h2 h3 h4 he;go_wp2_with fail;refine bodyPost_ret (results_none results127 _ _ _) rfl ⟨rfl,r2,k2,e2,HR2.O,fun h=>absurd h nW,fun _=>HE.O⟩
theorem TN {I:World->List AJ->Bool->Prop} (hc:R7 C T 161 [.pointer (some ⟨pa,0,none⟩),.pointer (some ⟨pb,0,none⟩),.pointer (some ⟨pc,0,none⟩)] I J F Er) (h:CJ C w r k 0) (h0:Ba T r=true->∀W',Ah C.b w W'->CJ C W' r.tail k 0->F W' r.tail k) (h1:Ba T r=false->∀W',Ah C.b w W'->CJ C W' r k 0->I W' r k):
  Calls prog 127 #[.pointer (some ⟨C.b,0,none⟩),.string T,.func (.func 161) #[] #[.pointer (some ⟨pa,0,none⟩),.pointer (some ⟨pb,0,none⟩),.pointer (some ⟨pc,0,none⟩)]] w (mX C F Er):=by
 have HC:=zh hc;have HS:=zh h
 cases hi:Ba T r with
 | true =>
  have HI:=zh hi;have HF:=zh (h0 hi);obtain ⟨t,q,rfl,_,_⟩:=DR hi;clear hi h h0 h1 hc
  go_enter func127,ntmps127
  go_wp2_with (go_at_call 160;refine (zX T HS).mono ?_;rintro x w1 ⟨rfl,hb1⟩;rw[HI.O];have HB1:=zh hb1;have Il:=zh (HS.O.below hb1);obtain ⟨i,hi,c2,f2,hi2,HN⟩:=Il.O.fB;clear hb1)
  have HX:=zh (HN.O.1 _ _ _ Il);refine bodyPost_ret (results_none results127 _ _ _) rfl ⟨rfl,q,k,0,HX.O,fun _=>HF.O _ ((HS.O.BK HB1).trans ((Ah.refl _ _).set _ _)) HX,fun h=>absurd rfl h⟩
 | false =>
  have HI:=zh hi;have HF:=zh (h1 hi);clear hi h h0 h1 hc
  go_enter func127,ntmps127
  go_wp2_with (go_at_call 160;refine (zX T HS).mono ?_;rintro x w1 ⟨rfl,hb1⟩;rw[HI.O];have Il:=zh (HS.O.below hb1);have HI1:=zh (HF.O _ (HS.O.BK hb1) Il);clear hb1)
  go_loopw [] (fun wr=>∃r k,Hid (I wr r k)) (fun wr=>rdM C wr)
  case atStart=>exact ⟨r,k,HI1.O⟩
  case round =>
   obtain ⟨r,k,hI⟩:=hrel;have HR:=zh (HC.O.iS _ _ _ hI.O);have hz:=HR.O.zero;go_wp2_with fail;refine (HC.O.part _ _ _ hI.O).mono ?_;rintro y w2 ⟨rfl,r2,k2,e2,h1,h2,h3,h4⟩;have HR2:=zh h1;have HL2:=zh h2;have hz2:=HR2.O.zero
   by_cases he:e2=0
   ·subst he
    have HJ:=zh (h3 rfl);clear hz h1 h2 h3 h4
    cases hcm:Ba ⟨#[44]⟩ r2 with
    | true =>
     have HCM:=zh hcm;obtain ⟨t,q,rfl,_,_⟩:=DR hcm;clear hcm;go_wp2_with (go_at_call 160;refine (zX ⟨#[44]⟩ HR2).mono ?_;rintro x w3 ⟨rfl,hb3⟩;rw[HCM.O];have HB3:=zh (HR2.O.BK hb3);have H9:=zh (HR2.O.below hb3);obtain ⟨i,hi,c2,f2,hi2,HN⟩:=H9.O.fB;clear hb3);have HX:=zh (HN.O.1 _ _ _ H9)
     have uK:=zh (HC.O.comma _ _ _ _ HJ HCM (HB3.O.trans ((Ah.refl _ _).set 2 (.int .i64 ((i:Int)+1)))) HX);have D7:=zh HX.O.meas;have Fb:=zh HR.O.meas;go_roundw
     case rel=>exact ⟨q,k2,uK.O⟩
     case measure=>rw[D7.O,Fb.O];have:=HL2.O;rw[AAI] at this;omega
    | false =>
     have HCM:=zh hcm;clear hcm;go_wp2_with (go_at_call 160;refine (zX ⟨#[44]⟩ HR2).mono ?_;rintro x w3 ⟨rfl,hb3⟩;rw[HCM.O];have HB3:=zh (HR2.O.BK hb3);have H9:=zh (HR2.O.below hb3);have hz3:=H9.O.zero;clear hb3);refine (BS T H9).mono ?_;rintro y w4 ⟨rfl,hb4,h4⟩;have ED:=zh (HB3.O.trans hb4);have H4:=zh h4;clear hb4 h4;go_wp2
     refine bodyPost_end (results_none results127 _ _ _) rfl ⟨rfl,?_⟩
     rcases H4.O with ⟨g1,g2⟩|⟨g1,g2⟩
     ·exact ⟨_,_,_,g2,fun _=>HC.O.fin _ _ _ _ HJ HCM g1 ED g2,fun h=>absurd rfl h⟩
     ·exact ⟨_,_,_,g2,(fun h=>by cases h),fun _=>HC.O.bad _ _ _ _ HJ HCM g1 ED g2⟩
   ·have HE:=zh (h4 he)
    have q1:(e2 != 0)=true:=by simp[he]
    have nW:=zh he;clear hz h1 h2 h3 h4 he;go_wp2_with fail;refine bodyPost_ret (results_none results127 _ _ _) rfl ⟨rfl,r2,k2,e2,HR2.O,fun h=>absurd h nW,fun _=>HE.O⟩
theorem Sc (w:World) {a b:Addr} (h:a.block≠b.block) (u v:Value):(w.setCell a u).setCell b v=(w.setCell b v).setCell a u:=by
 have e:∀ (w1 w2:World),w1.os=w2.os->w1.tape=w2.tape->w1.output=w2.output->w1.heap=w2.heap->({ w1 with heap:=w2.heap }:World)=w1:=fun w1 w2 _ _ _ h=>by rw[<-h]
 have hh:((w.setCell a u).setCell b v).heap=((w.setCell b v).setCell a u).heap:=by
  apply Array.ext_getElem?
  intro q
  by_cases h1:q=a.block
  ·rw[AAE _ _ _ _ (by rw[h1];exact h)]
   subst h1;simp only[World.setCell,Array.getElem?_modify,if_true];rw[Pd (fun e=>h e.symm)]
  ·rw[AAE _ a _ _ h1]
   by_cases h2:q=b.block
   ·subst h2
    simp only[World.setCell,Array.getElem?_modify,if_true];rw[Pd h]
   ·rw[AAE _ _ _ _ h2,AAE _ _ _ _ h1,AAE _ _ _ _ h2]
 simp only[World.setCell] at hh ⊢;rw[hh]
theorem yF {g q j:Nat} (h:q≠g) (u:Value):∀ (vs:List Value) (o:Nat) (w:World),(w.setCell ⟨q,j,none⟩ u).setCells g o vs=(w.setCells g o vs).setCell ⟨q,j,none⟩ u
 | [],_,_=>rfl
 | v::vs,o,w=>by
  rw[World.setCells,World.setCells,<-yF h u vs,Sc w (a:=⟨q,j,none⟩) (b:=⟨g,o,none⟩) h]
variable {g:Nat}
theorem Gl {row:Option Nat} (hg:w.grownBy w' row) (h:row=some g\/w.heap.size<=g) (o:Nat) (vs:List Value):w.grownBy (w'.setCells g o vs) row:=by
 have hb:=yC (B:=0) (w:=w') g (Nat.zero_le _) vs o w' (Pe _ _);refine ⟨hb.os.trans hg.os,hb.tape.trans hg.tape,hb.output.trans hg.output,Nat.le_trans hg.size hb.size,fun k hk hr=>?_⟩
 have hne:k≠g:=fun e=>by
  subst e
  rcases h with h|h
  ·first|exact hr h.symm|exact hr h
  ·omega
 exact (zN hne vs o w').trans (hg.block k hk hr)
def yB:List Value:=[.int .i64 0,.bool false,.int .i64 0,.string ⟨#[]⟩,.int .i64 0,.slice none 0 0,.slice none 0 0,.slice none 0 0]
theorem JY:∀u∈yB,u.oneCell'=true:=fun u hu=>by
 unfold yB at hu;simp only[ABP,List.mem_nil_iff,or_false] at hu
 rcases hu with rfl|rfl|rfl|rfl|rfl|rfl|rfl|rfl <;> rfl
theorem ny (x:Aj):x.cells.length=8:=rfl
variable {base n:Nat}
theorem P8 {c:Nat} {L:List Aj} {x:Aj} (_hn:n=L.length+1) (h:w.ownsRow base 28 8 (.slice (some ⟨g,0,none⟩) n c) n (L.flatMap Aj.cells++yB)):
  (w.setCells g (L.length * 8) x.cells).ownsRow base 28 8 (.slice (some ⟨g,0,none⟩) n c) n (L.flatMap Aj.cells++x.cells):=by
 have e1:L.flatMap Aj.cells++yB=(L.map Aj.cells++[yB]).flatten:=by rw[List.flatten_append,List.flatMap_def];simp
 have e2:L.flatMap Aj.cells++x.cells=(L.map Aj.cells++[x.cells]).flatten:=by rw[List.flatten_append,List.flatMap_def];simp
 have hl:∀cs∈L.map Aj.cells++[yB],cs.length=8:=fun cs hc=>by
  rcases ABY.1 hc with k|k
  ·obtain ⟨y,_,rfl⟩:=List.mem_map.1 k
   rfl
  ·obtain rfl:cs=yB:=by simpa using k
   rfl
 have h3:=MH (k:=8) (by omega) (L.map Aj.cells++[yB]) L.length x.cells hl (ny x) (by simp)
 rw[show (L.map Aj.cells++[yB]).set L.length x.cells=L.map Aj.cells++[x.cells] by
  rw[List.set_append_right _ _ (by simp)];simp] at h3
 rw[e2,<-h3,<-e1];exact FM x.cells _ (L.length * 8) w h
theorem Ec {c:Nat} {L:List Aj} {xs:List Value} (hx:xs.length=8) (h:w.ownsRow base 28 8 (.slice (some ⟨g,0,none⟩) n c) n (L.flatMap Aj.cells++xs)):w.there g (L.length * 8) 8:=fun j hj=>by
 have hl:(L.flatMap Aj.cells).length=L.length * 8:=by rw[List.flatMap_def,Cy (k:=8) (L.map Aj.cells) (fun cs hc=>by obtain ⟨y,_,rfl⟩:=List.mem_map.1 hc;rfl),AAt]
 refine ⟨?_,World.ownsRow.frozenAt h (L.length * 8+j)⟩;have hj2:(L.flatMap Aj.cells++xs)[L.length * 8+j]? = some (xs[j]'(by omega)):=by
  rw[ABm (by omega),hl,Nat.add_sub_cancel_left,zl (by omega)]
 have:=World.ownsRow.cells h (g:=g) rfl _ _ hj2;rw[Addr.add_mid,Nat.zero_add] at this;rw[this];rfl
theorem EZ {o p j:Nat} {u:Value} (h:w.there g o n) (hp:p≠g):∀w',(w'=w\/w'=w.setCell ⟨p,j,none⟩ u)->w'.there g o n:=fun w' hw=>by
 rcases hw with rfl|rfl
 ·exact h
 ·have hb:(w.setCell ⟨p,j,none⟩ u).heap[g]? = w.heap[g]? := AAE _ _ _ _ (by simpa using hp.symm)
  intro i hi
  rw[World.cell?_of_block (w:=w) (a:=⟨g,o+i,none⟩) hb,World.frozen?_of_block (w:=w) (a:=⟨g,o+i,none⟩) hb];exact h i hi
variable {q:Nat}
theorem MO {v:Value} {l:List Aj} (h:Dc w base v l) {cs:Array Value} {T:TypeId} {fr:Nat×Nat} (hq:w.heap[q]? = some (.cells cs T fr)) (hT:T≠28):v.ownBlock≠some q:=fun e=>by
 obtain ⟨c1,f1,e1⟩:=h.block e;rw[hq] at e1
 injection e1 with e1
 injection e1 with _ e3
 exact hT e3
theorem Ra {v:Value} {l:List Af} (h:rT w base v l) {cs:Array Value} {T:TypeId} {fr:Nat×Nat} (hq:w.heap[q]? = some (.cells cs T fr)) (hT:T≠97):v.ownBlock≠some q:=fun e=>by
 obtain ⟨c1,f1,e1⟩:=h.block e;rw[hq] at e1
 injection e1 with e1
 injection e1 with _ e3
 exact hT e3
def tq (C:Eh) (t:Int) (W:World) (r:List AJ) (k:Bool) (e:Int) (y:Ending) (W':World):Prop:=∃x:Aj,y = .returned (x.v.v x.A1 x.c1 x.A2 x.c2 x.A3 x.c3)/\Off (fun q=>q<W.heap.size) W' (fun u=>Ar u x.v x.A1 x.A2 x.A3)/\Ah C.b W W' /\
 ∃r' k' e',CJ C W' r' k' e'/\r'.length<=r.length/\(e≠0->e'=e)/\(e=0->match Ag false C.s t r k with
  | .ok (v,r1,k1)=>x.v=v/\r'=r1/\k'=k1/\e'=0
  | .error e1=>e'=e1)
def EB (C:Eh) (n:Nat):Prop:=∀ (t:Int) (W:World) (r:List AJ) (k:Bool) (e:Int),r.length<n->(0<=t/\t<(C.s.length:Int))->CJ C W r k e ->
 Calls prog 79 #[.pointer (some ⟨C.b,0,none⟩),.int .i64 t] W (tq C t W r k e)
structure Vx where
 W0:World
 x:Aa
 As:zo
 cs:Nat
 Am:zo
 cm:Nat
 p:Nat
 pr:Nat
 px:Nat
 pv:Nat
structure CZ (C:Eh) (V:Vx) (W:World) (r:List AJ) (k:Bool) (e di:Int) (vk vi vr:Value) (K I:List Aj) (R:List Af):Prop where
 rd:CJ C W r k e
 vb:Hw V.p W V.x.kind false 0 ⟨#[]⟩ di vk vi vr K I R
 fr:Ah C.b V.W0 W
 lo:V.W0.heap.size<=V.p
 lb:C.b<V.W0.heap.size
 ty:J4 C.w0 V.x V.As V.Am
 br:W.heap[V.pr]? = some (.cells #[.pointer (some ⟨C.b,0,none⟩)] 103)
 bx:W.heap[V.px]? = some (V.x.box V.As V.cs V.Am V.cm)
 bv:V.pv=V.p\/W.heap[V.pv]? = some (.cells #[.pointer (some ⟨V.p,0,none⟩)] 172)
section
variable {C:Eh} {V:Vx} {W W':World} {r r':List AJ} {k k':Bool} {e e' di:Int} {vk vi vr:Value} {K I:List Aj} {R:List Af}
theorem CZ.bp (h:CZ C V W r k e di vk vi vr K I R):C.b<V.p:=ABa h.lb h.lo
theorem Gr {w:World} {q q2:Nat} {a b:Array Value} {T T2:TypeId} {f f2:Nat×Nat} (h:w.heap[q]? = some (.cells a T f)) (h2:w.heap[q2]? = some (.cells b T2 f2)) (hT:T≠T2):q≠q2:=fun e=>by
 subst e;rw[h] at h2
 injection h2 with h2
 injection h2 with _ e3
 exact hT e3
theorem CZ.prb (h:CZ C V W r k e di vk vi vr K I R):V.pr≠C.b:=Gr h.br h.rd.blk (by decide)
theorem CZ.pxb (h:CZ C V W r k e di vk vi vr K I R):V.px≠C.b:=Gr h.bx h.rd.blk (by decide)
theorem CZ.BK (h:CZ C V W r k e di vk vi vr K I R) (hb:Ah C.b W W') (hr:CJ C W' r' k' e'):CZ C V W' r' k' e' di vk vi vr K I R :=
 ⟨hr,h.vb.BK hb h.bp,h.fr.trans hb,h.lo,h.lb,h.ty,(hb.FN _ h.prb (zg.1 h.br).1).trans h.br,(hb.FN _ h.pxb (zg.1 h.bx).1).trans h.bx,
  h.bv.imp id fun g=>(hb.FN _ (Gr g h.rd.blk (by decide)) (zg.1 g).1).trans g⟩
theorem CZ.below (h:CZ C V W r k e di vk vi vr K I R) (hb:Below W.heap.size W W'):CZ C V W' r k e di vk vi vr K I R:=h.BK (h.rd.BK hb) (h.rd.below hb)
theorem CZ.hot (h:CZ C V W r k e di vk vi vr K I R) {P:World->Prop} (_hb:Ah C.b W W') (hx:Off (fun q=>q<W.heap.size) W' P):Off (R8 V.p vk vi vr) W' P:=by
 obtain ⟨l1,l2,l3⟩:=Gi h.vb;refine hx.mono fun q _ hq=>?_
 rcases hq with e|e|e|e
 ·have:=h.vb.lt;omega
 ·exact (l1 q e).2
 ·exact (l2 q e).2
 ·exact (l3 q e).2
theorem CZ.rest (h:CZ C V W r k e di vk vi vr K I R) {W9:World} {dL:Int} {LF G5 nM:Value} {K' I':List Aj} {R':List Af} (hv:Hw V.p W9 V.x.kind false 0 ⟨#[]⟩ dL LF G5 nM K' I' R') (hb:Below V.p W W9) (hp:∀ (q:Nat) (cs:Array Value) (T:TypeId) (fr:Nat×Nat),W.heap[q]? = some (Obj.cells cs T fr)->T≠28->T≠97->W9.heap[q]? = W.heap[q]?):CZ C V W9 r k e dL LF G5 nM K' I' R' :=
 ⟨⟨h.rd.ok,(hb.block _ h.bp).trans h.rd.blk,h.rd.Uk,h.rd.up.trans (hb.mono (by have:=h.bp;have:=h.rd.ok.ge;omega))⟩,hv,h.fr.up hb h.lo (AAM h.bp),h.lo,h.lb,h.ty,(hp _ _ _ _ h.br (by decide) (by decide)).trans h.br,(hp _ _ _ _ h.bx (by decide) (by decide)).trans h.bx,h.bv.imp id fun g=>(hp _ _ _ _ g (by decide) (by decide)).trans g⟩
variable {v8:Value} {w4 w8:World}
theorem CZ.item (h:CZ C V W r k e di vk vi vr K I R) {x:Aj} (hx:Off (R8 V.p vk vi vr) W fun u=>Ar u x.v x.A1 x.A2 x.A3) (hb4:Below W.heap.size W w4) (ho:w8.ownsRow (V.p+1) 28 8 v8 (I.length+1) (I.flatMap Aj.cells++x.cells)) (hg:w4.grownBy w8 vi.ownBlock) (hv:v8.ownBlock=vi.ownBlock\/v8.ownBlock=some w4.heap.size):CZ C V (w8.setCell ⟨V.p,6,none⟩ v8) r k e di vk v8 vr K (I++[x]) R:=by
 obtain ⟨h1,h2,h3⟩:=h.vb.item hx hb4 ho hg hv;exact h.rest h1 h2 fun q cs T fr hq hT _=>h3 q (Gr hq h.vb.blk hT) (MO h.vb.oi hq hT) (zg.1 hq).1
theorem CZ.key (h:CZ C V W r k e di vk vi vr K I R) {x:Aj} (hx:Off (R8 V.p vk vi vr) W fun u=>Ar u x.v x.A1 x.A2 x.A3) (hb4:Below W.heap.size W w4) (ho:w8.ownsRow (V.p+1) 28 8 v8 (K.length+1) (K.flatMap Aj.cells++x.cells)) (hg:w4.grownBy w8 vk.ownBlock) (hv:v8.ownBlock=vk.ownBlock\/v8.ownBlock=some w4.heap.size):CZ C V (w8.setCell ⟨V.p,5,none⟩ v8) r k e di v8 vi vr (K++[x]) I R:=by
 obtain ⟨h1,h2,h3⟩:=h.vb.key hx hb4 ho hg hv;exact h.rest h1 h2 fun q cs T fr hq hT _=>h3 q (Gr hq h.vb.blk hT) (MO h.vb.ok hq hT) (zg.1 hq).1
theorem CZ.XW (h:CZ C V W r k e di vk vi vr K I R) {x:Af} (hx:Cw x.data) (hb4:Below W.heap.size W w4) (ho:w8.ownsRow (V.p+1) 97 2 v8 (R.length+1) (R.flatMap encR++encR x)) (hg:w4.grownBy w8 vr.ownBlock) (hv:v8.ownBlock=vr.ownBlock\/v8.ownBlock=some w4.heap.size):CZ C V (w8.setCell ⟨V.p,7,none⟩ v8) r k e di vk vi v8 K I (R++[x]):=by
 obtain ⟨h1,h2,h3⟩:=h.vb.XW hx hb4 ho hg hv;exact h.rest h1 h2 fun q cs T fr hq hT hR=>h3 q (Gr hq h.vb.blk hT) (Ra h.vb.Sw hq hR) (zg.1 hq).1
theorem CZ.p8 (h:CZ C V W r k e di vk vi vr K I R) {row:Option Nat} (hg:W.grownBy w8 row) (hr:row=vk.ownBlock\/row=vi.ownBlock\/row=vr.ownBlock):w8.heap[V.p]? = W.heap[V.p]? := by
 obtain ⟨l1,l2,l3⟩:=Gi h.vb;refine yA hg h.vb.lt fun q hq e=>?_
 rcases hr with e2|e2|e2
 ·have:=l1 q (e2▸hq);omega
 ·have:=l2 q (e2▸hq);omega
 ·have:=l3 q (e2▸hq);omega
theorem CZ.c8 (h:CZ C V W r k e di vk vi vr K I R) (hp:w8.heap[V.p]? = W.heap[V.p]?):(w8.cell? ⟨V.p,5,none⟩=some vk/\w8.cell? ⟨V.p,6,none⟩=some vi/\w8.cell? ⟨V.p,7,none⟩=some vr)/\w8.frozen? ⟨V.p,5,none⟩=false/\w8.frozen? ⟨V.p,6,none⟩=false/\w8.frozen? ⟨V.p,7,none⟩=false:=by
 have h1:=h.vb.cells;refine ⟨⟨?_,?_,?_⟩,?_,?_,?_⟩
 ·rw[World.cell?_of_block (w:=W) (a:=⟨V.p,5,none⟩) hp];exact h1.1.2.2.2.2.2.1
 ·rw[World.cell?_of_block (w:=W) (a:=⟨V.p,6,none⟩) hp];exact h1.1.2.2.2.2.2.2.1
 ·rw[World.cell?_of_block (w:=W) (a:=⟨V.p,7,none⟩) hp];exact h1.1.2.2.2.2.2.2.2
 ·rw[World.frozen?_of_block (w:=W) (a:=⟨V.p,5,none⟩) hp];exact h1.2 5
 ·rw[World.frozen?_of_block (w:=W) (a:=⟨V.p,6,none⟩) hp];exact h1.2 6
 ·rw[World.frozen?_of_block (w:=W) (a:=⟨V.p,7,none⟩) hp];exact h1.2 7
theorem Ce {base n:Nat} {xs:List Value} (ho:w8.ownsRow base 28 8 v8 (n+1) xs):∃g c,v8 = .slice (some ⟨g,0,none⟩) (n+1) c/\base<=g:=by
 rcases ho.2 with ⟨_,h0⟩|⟨g,cap,cur,hv,hg0,_⟩
 ·omega
 ·exact ⟨g,cap,hv,hg0⟩
end
def ItP (C:Eh) (V:Vx) (t:Int) (r:List AJ) (k:Bool) (e di:Int) (vk vr:Value) (K I:List Aj) (R:List Af) (W':World):Prop :=
 ∃x G5 r' k' e',CZ C V W' r' k' e' di vk G5 vr K (I++[x]) R/\r'.length<=r.length/\(e≠0->e'=e)/\(e=0->match Ag false C.s t r k with
  | .ok (v,r1,k1)=>x.v=v/\r'=r1/\k'=k1/\e'=0
  | .error e1=>e'=e1)
def KyP (C:Eh) (V:Vx) (t:Int) (r:List AJ) (k:Bool) (e di:Int) (vi vr:Value) (K I:List Aj) (R:List Af) (W':World):Prop :=
 ∃x LF r' k' e',CZ C V W' r' k' e' di LF vi vr (K++[x]) I R/\r'.length<=r.length/\(e≠0->e'=e)/\(e=0->match Ag false C.s t r k with
  | .ok (v,r1,k1)=>x.v=v/\r'=r1/\k'=k1/\e'=0
  | .error e1=>e'=e1)
theorem Bw:(prog.info? 28).map (·.size)=some 8:=by kernel_rfl
theorem C8 (x:Aj):(x.cells.toArray).all (·.oneCell')=true:=all_oneCell_toArray (Bn x)
theorem KN {b:Nat} {o:Nat} {cs:List Value} (hb:Ah b w w') (hq:q≠b) (h:w.rangeAt q o cs):w'.rangeAt q o cs:=fun j u hj=>by
 have:=h j u hj;rw[World.cell?_of_block (w:=w) (w':=w') (a:=⟨q,o+j,none⟩) (hb.FN q hq (zL this))];exact this
section
variable {C:Eh} {V:Vx} {W W':World} {r r':List AJ} {k k':Bool} {e e' di:Int} {vk vi vr:Value} {K I:List Aj} {R:List Af}
theorem CZ.reads (h:CZ C V W r k e di vk vi vr K I R) (hb:Ah C.b W W'):(W'.cell? ⟨V.p,5,none⟩=some vk/\W'.cell? ⟨V.p,6,none⟩=some vi/\W'.cell? ⟨V.p,7,none⟩=some vr/\W'.cell? ⟨V.pr,0,none⟩=some (.pointer (some ⟨C.b,0,none⟩)) /\
  W'.cell? ⟨V.px,6,none⟩=some (.slice V.Am V.x.AA.length V.cm)/\W'.cell? ⟨V.px,7,none⟩=some (.int .i64 V.x.key)/\W'.cell? ⟨V.px,8,none⟩=some (.int .i64 V.x.elem))/\Hid (Ah C.b W W'):=by
 have h1:=(h.vb.BK hb h.bp).cells.1;have h2:=(hb.FN _ h.prb (zg.1 h.br).1).trans h.br;have h3:=(hb.FN _ h.pxb (zg.1 h.bx).1).trans h.bx;refine ⟨⟨h1.2.2.2.2.2.1,h1.2.2.2.2.2.2.1,h1.2.2.2.2.2.2.2,?_,?_,?_,?_⟩,hb⟩
 ·rw[AAC _ _ _ _ _ _ h2];rfl
 ·rw[AAC _ _ _ _ _ _ h3];rfl
 ·rw[AAC _ _ _ _ _ _ h3];rfl
 ·rw[AAC _ _ _ _ _ _ h3];rfl
theorem CZ.Y0 (h:CZ C V W r k e di vk vi vr K I R) (hp:W'.heap[V.p]? = W.heap[V.p]?) (hq:∀ (q:Nat) (cs:Array Value) (T:TypeId) (fr:Nat×Nat),W.heap[q]? = some (Obj.cells cs T fr)->T≠28->T≠97->W'.heap[q]? = W.heap[q]?):(W'.cell? ⟨V.p,5,none⟩=some vk/\W'.cell? ⟨V.p,6,none⟩=some vi/\W'.cell? ⟨V.p,7,none⟩=some vr/\W'.cell? ⟨V.pr,0,none⟩=some (.pointer (some ⟨C.b,0,none⟩)) /\
  W'.cell? ⟨V.px,6,none⟩=some (.slice V.Am V.x.AA.length V.cm)/\W'.cell? ⟨V.px,7,none⟩=some (.int .i64 V.x.key)/\W'.cell? ⟨V.px,8,none⟩=some (.int .i64 V.x.elem))/\(V.pv≠V.p->W'.cell? ⟨V.pv,0,none⟩=some (.pointer (some ⟨V.p,0,none⟩))):=by
 obtain ⟨⟨h5,h6,h7⟩,_⟩:=h.c8 hp;have h2:=(hq _ _ _ _ h.br (by decide) (by decide)).trans h.br
 have h3:=(hq _ _ _ _ h.bx (by decide) (by decide)).trans h.bx
 refine ⟨⟨h5,h6,h7,?_,?_,?_,?_⟩,fun hv=>?_⟩
 ·rw[AAC _ _ _ _ _ _ h2];rfl
 ·rw[AAC _ _ _ _ _ _ h3];rfl
 ·rw[AAC _ _ _ _ _ _ h3];rfl
 ·rw[AAC _ _ _ _ _ _ h3];rfl
 ·have g:=h.bv.resolve_left hv
  rw[AAC _ _ _ _ _ _ ((hq _ _ _ _ g (by decide) (by decide)).trans g)];rfl
variable {w8:World}
theorem CZ.TY (h:CZ C V W r k e di vk vi vr K I R) {row:Option Nat} (hg:W.grownBy w8 row) (hr:row=vk.ownBlock\/row=vi.ownBlock\/row=vr.ownBlock):∀ (q:Nat) (cs:Array Value) (T:TypeId) (fr:Nat×Nat),W.heap[q]? = some (Obj.cells cs T fr)->T≠28->T≠97->w8.heap[q]? = W.heap[q]? := fun q cs T fr hq h1 h2=>by
 refine yA hg (zg.1 hq).1 fun q2 hq2 e=>?_
 subst e
 rcases hr with e|e|e
 ·exact MO h.vb.ok hq h1 (e▸hq2)
 ·exact MO h.vb.oi hq h1 (e▸hq2)
 ·exact Ra h.vb.Sw hq h2 (e▸hq2)
theorem CZ.QG (h:CZ C V W r k e di vk vi vr K I R) {x:Aj} (hx:Off (R8 V.p vk vi vr) W fun u=>Ar u x.v x.A1 x.A2 x.A3) {w4:World} (hb4:Below W.heap.size W w4) {g c:Nat} (ho:w8.ownsRow (V.p+1) 28 8 (.slice (some ⟨g,0,none⟩) (I.length+1) c) (I.length+1) (I.flatMap Aj.cells++yB)) (hg:w4.grownBy w8 vi.ownBlock) (hv:some g=vi.ownBlock\/some g=some w4.heap.size):
  CZ C V ((w8.setCells g (I.length * 8) x.cells).setCell ⟨V.p,6,none⟩ (.slice (some ⟨g,0,none⟩) (I.length+1) c)) r k e di vk (.slice (some ⟨g,0,none⟩) (I.length+1) c) vr K (I++[x]) R :=
 h.item hx hb4 (P8 rfl ho) (Gl hg (hv.imp (fun e=>e.symm) fun e=>by injection e with e;omega) _ _) hv
theorem CZ.AAi (h:CZ C V W r k e di vk vi vr K I R) {x:Aj} (hx:Off (R8 V.p vk vi vr) W fun u=>Ar u x.v x.A1 x.A2 x.A3) {w4:World} (hb4:Below W.heap.size W w4) {g c:Nat} (ho:w8.ownsRow (V.p+1) 28 8 (.slice (some ⟨g,0,none⟩) (K.length+1) c) (K.length+1) (K.flatMap Aj.cells++yB)) (hg:w4.grownBy w8 vk.ownBlock) (hv:some g=vk.ownBlock\/some g=some w4.heap.size):
  CZ C V ((w8.setCells g (K.length * 8) x.cells).setCell ⟨V.p,5,none⟩ (.slice (some ⟨g,0,none⟩) (K.length+1) c)) r k e di (.slice (some ⟨g,0,none⟩) (K.length+1) c) vi vr (K++[x]) I R :=
 h.key hx hb4 (P8 rfl ho) (Gl hg (hv.imp (fun e=>e.symm) fun e=>by injection e with e;omega) _ _) hv
end
abbrev zO:Obj := .cells #[.int .i64 0,.bool false,.int .i64 0,.string ⟨#[]⟩,.int .i64 0,.slice none 0 0,.slice none 0 0,.slice none 0 0] 28
variable {di:Int} {R:List Af} {I K:List Aj} {vi vk vr:Value} {V:Vx} {W:World}
theorem Wu (ih:EB C n) (h:CZ C V W r k e di vk vi vr K I R) (hn:r.length<n) (he:0<=V.x.elem/\V.x.elem<(C.s.length:Int)) (hl:I.length<=1000000):
  Calls prog 128 #[.pointer (some ⟨V.p,0,none⟩),.pointer (some ⟨V.pr,0,none⟩),.pointer (some ⟨V.px,0,none⟩)] W fun y W'=>y = .returned (.tuple #[])/\ItP C V V.x.elem r k e di vk vr K I R W':=by
 obtain ⟨A2,c2,rfl,_,_,_⟩:=h.vb.oi.reads;have HV:=zh h;have HN:=zh hn;have Kz:=zh he;have Ed:=zh ih;have Lh:=zh hl;have Ej:=zh (fun (w':World) (hb:Ah C.b W w')=>h.reads hb)
 have GJ:Hid (C.b<W.heap.size):=h.rd.lt;have HZP:Hid (V.p+1<=W.heap.size):=h.vb.lt;clear h ih hn he hl
 go_enter func128,ntmps128
 refine yE (S:=(fun w'=>(w'.cell? ⟨V.p,5,none⟩=some vk/\w'.cell? ⟨V.p,6,none⟩=some (.slice A2 I.length c2)/\w'.cell? ⟨V.p,7,none⟩=some vr/\w'.cell? ⟨V.pr,0,none⟩=some (.pointer (some ⟨C.b,0,none⟩))/\w'.cell? ⟨V.px,6,none⟩=some (.slice V.Am V.x.AA.length V.cm)/\w'.cell? ⟨V.px,7,none⟩=some (.int .i64 V.x.key)/\w'.cell? ⟨V.px,8,none⟩=some (.int .i64 V.x.elem))/\Hid (Ah C.b W w'))) 8 (by kernel_rfl) ?_ (fun AQ=>?_)
 ·(try dsimp only);exact Ej.O _ (Ah.of (zC (Pe _ _) 1) (AAM GJ))
 refine tC 0 ?_;refine tB 1 ?_;refine tB 2 ?_;refine tC 3 ?_;refine tB 4 ?_;refine tC 6 ?_;try simp only[ps]
 refine zV (rs:=[5,7]) (by kernel_rfl) (by simp) ?_
 refine (AB.cons rfl (fun K hK=>?_) (AB.cons rfl (fun K hK=>?_) AB.nil))
 ·
  go_simp
  (refine (Ed.O V.x.elem _ r k e HN Kz (HV.O.below (zC (Pe _ _) 1)).rd).mono ?_;rintro y w6 ⟨x,rfl,g1,g2,r6,k6,e6,g3,g4,g5,g6⟩;have BH:=zh ((Ah.of (zC (Pe W.heap.size W) 1) (AAM GJ)).trans g2);have JQ:=zh (HV.O.hot BH g1);have Dw:=zh (HV.O.BK BH g3);have NA:=zh g4;have Oe:=zh g5;have Od:=zh g6;clear g1 g2 g3 g4 g5 g6)
  refine hK.out _ _ ?_ (fun AQ=>?_)
  ·(try dsimp only);exact Ej.O _ BH
  clear hK K;refine tS 7 (fun K hK=>?_)
  go_simp
  refine hK.out _ _ ?_ (fun AQ=>?_)
  ·(try dsimp only);exact Ej.O _ (BH.O.below (zD _ _) GJ)
  clear hK K;refine zV (rs:=[8]) (by kernel_rfl) (by simp) ?_
  refine AB.last rfl (by kernel_rfl) (fun K hK=>?_) AB.nil
  (have Fa:=zh (Dw.O.below (zD w6 zO));have hll:=Lh.O;refine yH AV (by rfl) (.tmp 4) (.tmp 10) (by rfl) (V.p+1) (.slice A2 I.length c2) I.length (I.flatMap Aj.cells) (by rfl) Fa.O.vb.oi w6.heap.size 0 1 1 yB (by rfl) rfl (zR w6 yB 28) JY (by omega) (by omega) Fa.O.vb.lt ?_;intro v8 w8 BB Aw Cv;obtain ⟨g,c8,rfl,hgg⟩:=Ce BB;have Lj:=zh (Dw.O.QG JQ (zD w6 zO) BB Aw Cv);have M4:Hid (V.p≠g):=zh (by omega);have WQ:=zh Fa.O;have KD:=zh (Fa.O.p8 Aw (.inr (.inl rfl)));obtain ⟨⟨_,c6,_⟩,_,f6,_⟩:=Fa.O.c8 KD;have KC:=zh (EZ (j:=6) (u := .slice (some ⟨g,0,none⟩) (I.length+1) c8) (Ec (xs:=yB) rfl BB) M4);have hlt1:(I.length:Int)<(I.length:Int)+1:=(by omega);have X6:(0:Int)<=(I.length:Int):=(by omega);clear hll BB Aw Cv hgg)
  refine hK.out _ _ ?_;clear hK K
  (try clear AQ)
  refine Ue 9 ?v6 rfl (by kernel_rfl) (.inl ⟨by rfl,?y6⟩) ?_
  case y6=>(intro w;go_simp;try with_reducible rfl)
  refine Ue 11 ?v7 rfl (by kernel_rfl) (.inl ⟨by rfl,?y7⟩) ?_
  case y7=>(intro w;go_simp;try with_reducible rfl)
  refine wpAny_ready (rs:=[10,12]) (by kernel_rfl) (by simp) ?_
  refine (AllReady.cons rfl (fun K hK=>?_) (AllReady.cons rfl (fun K hK=>?_) AllReady.nil))
  ·
   (simp only[List.getElem_toArray,List.getElem_cons_zero,List.getElem_cons_succ];rw[AAB (by rfl)];refine wp_store_mid 28 (.tmp 12) (.tmp 8) rfl (g) (I.length * 8) (x.cells.toArray) (by rfl) (by rfl) ?_ ?_ ?_ ?_;(exact KC.O _ (by simp));(exact Bw);(exact C8 x))
   refine hK _ _ ?_;clear hK K;try simp only[ps]
   (try rw[yF M4.O]);(try (have YZ:=zh (CZ.c8 WQ ((zN (w:=w8) M4 x.cells (I.length * 8)).trans KD));generalize w8.setCells g (I.length * 8) x.cells=w10 at *;clear c6 f6;obtain ⟨⟨_,c6,_⟩,_,f6,_⟩:=YZ.O))
   refine wpAny_ready (rs:=[12]) (by kernel_rfl) (by simp) ?_
   refine (AllReady.cons rfl (fun K hK=>?_) AllReady.nil)
   go_simp
   refine hK _ _ ?_;clear hK K;refine wpAny_done (by kernel_rfl) ?_ _
   (exact bodyPost_end (results_none results128 _ _ _) rfl ⟨rfl,x,_,r6,k6,e6,Lj.O,NA.O,Oe.O,Od.O⟩)
  ·
   go_simp
   refine hK _ _ ?_;clear hK K;refine wpAny_ready (rs:=[10]) (by kernel_rfl) (by simp) ?_
   refine (AllReady.cons rfl (fun K hK=>?_) AllReady.nil)
   (simp only[List.getElem_toArray,List.getElem_cons_zero,List.getElem_cons_succ];rw[AAB (by rfl)];refine wp_store_mid 28 (.tmp 12) (.tmp 8) rfl (g) (I.length * 8) (x.cells.toArray) (by rfl) (by rfl) ?_ ?_ ?_ ?_;(exact KC.O _ (by simp));(exact Bw);(exact C8 x))
   refine hK _ _ ?_;clear hK K
   (try rw[yF M4.O]);(try (have YZ:=zh (CZ.c8 WQ ((zN (w:=w8) M4 x.cells (I.length * 8)).trans KD));generalize w8.setCells g (I.length * 8) x.cells=w10 at *;clear c6 f6;obtain ⟨⟨_,c6,_⟩,_,f6,_⟩:=YZ.O))
   refine wpAny_done (by kernel_rfl) ?_ _
   (exact bodyPost_end (results_none results128 _ _ _) rfl ⟨rfl,x,_,r6,k6,e6,Lj.O,NA.O,Oe.O,Od.O⟩)
 ·
  go_simp
  refine hK.out _ _ ?_ (fun AQ=>?_)
  ·(try dsimp only);exact Ej.O _ (Ah.of (zB (zC (Pe _ _) 1) (zD _ _)) (AAM GJ))
  clear hK K;refine tS 5 (fun K hK=>?_)
  go_simp
  (refine (Ed.O V.x.elem _ r k e HN Kz (HV.O.below (zB (zC (Pe _ _) 1) (zD _ zO))).rd).mono ?_;rintro y w6 ⟨x,rfl,g1,g2,r6,k6,e6,g3,g4,g5,g6⟩;have BH:=zh ((Ah.of (zB (zC (Pe W.heap.size W) 1) (zD _ zO)) (AAM GJ)).trans g2);have JQ:=zh (HV.O.hot BH (g1.mono fun q _ hq=>by have hz:((W.drewN 1).alloc zO).heap.size=W.heap.size+1:=(by simp);show q<_;omega));have Dw:=zh (HV.O.BK BH g3);have Tp:=zh (KN g2 (by have:=GJ.O;show W.heap.size≠_;omega) (zR (W.drewN 1) yB 28));have NA:=zh g4;have Oe:=zh g5;have Od:=zh g6;clear g1 g2 g3 g4 g5 g6)
  refine hK.out _ _ ?_ (fun AQ=>?_)
  ·(try dsimp only);exact Ej.O _ BH
  clear hK K;refine zV (rs:=[8]) (by kernel_rfl) (by simp) ?_
  refine AB.last rfl (by kernel_rfl) (fun K hK=>?_) AB.nil
  (have hll:=Lh.O;refine yH AV (by rfl) (.tmp 4) (.tmp 10) (by rfl) (V.p+1) (.slice A2 I.length c2) I.length (I.flatMap Aj.cells) (by rfl) Dw.O.vb.oi W.heap.size 0 1 1 yB (by rfl) rfl Tp JY (by omega) (by omega) Dw.O.vb.lt ?_;intro v8 w8 BB Aw Cv;obtain ⟨g,c8,rfl,hgg⟩:=Ce BB;have Lj:=zh (Dw.O.QG JQ (Pe _ _) BB Aw Cv);have M4:Hid (V.p≠g):=zh (by omega);have WQ:=zh Dw.O;have KD:=zh (Dw.O.p8 Aw (.inr (.inl rfl)));obtain ⟨⟨_,c6,_⟩,_,f6,_⟩:=Dw.O.c8 KD;have KC:=zh (EZ (j:=6) (u := .slice (some ⟨g,0,none⟩) (I.length+1) c8) (Ec (xs:=yB) rfl BB) M4);have hlt1:(I.length:Int)<(I.length:Int)+1:=(by omega);have X6:(0:Int)<=(I.length:Int):=(by omega);clear hll BB Aw Cv hgg)
  refine hK.out _ _ ?_;clear hK K
  (try clear AQ)
  try simp only[ps]
  refine Ue 9 ?v8 rfl (by kernel_rfl) (.inl ⟨by rfl,?y8⟩) ?_
  case y8=>(intro w;go_simp;try with_reducible rfl)
  refine Ue 11 ?v9 rfl (by kernel_rfl) (.inl ⟨by rfl,?y9⟩) ?_
  case y9=>(intro w;go_simp;try with_reducible rfl)
  refine wpAny_ready (rs:=[10,12]) (by kernel_rfl) (by simp) ?_
  refine (AllReady.cons rfl (fun K hK=>?_) (AllReady.cons rfl (fun K hK=>?_) AllReady.nil))
  ·
   (simp only[List.getElem_toArray,List.getElem_cons_zero,List.getElem_cons_succ];rw[AAB (by rfl)];refine wp_store_mid 28 (.tmp 12) (.tmp 8) rfl (g) (I.length * 8) (x.cells.toArray) (by rfl) (by rfl) ?_ ?_ ?_ ?_;(exact KC.O _ (by simp));(exact Bw);(exact C8 x))
   refine hK _ _ ?_;clear hK K
   (try rw[yF M4.O]);(try (have YZ:=zh (CZ.c8 WQ ((zN (w:=w8) M4 x.cells (I.length * 8)).trans KD));generalize w8.setCells g (I.length * 8) x.cells=w10 at *;clear c6 f6;obtain ⟨⟨_,c6,_⟩,_,f6,_⟩:=YZ.O))
   refine wpAny_ready (rs:=[12]) (by kernel_rfl) (by simp) ?_
   refine (AllReady.cons rfl (fun K hK=>?_) AllReady.nil)
   go_simp
   refine hK _ _ ?_;clear hK K;refine wpAny_done (by kernel_rfl) ?_ _
   (exact bodyPost_end (results_none results128 _ _ _) rfl ⟨rfl,x,_,r6,k6,e6,Lj.O,NA.O,Oe.O,Od.O⟩)
  ·
   go_simp
   refine hK _ _ ?_;clear hK K;refine wpAny_ready (rs:=[10]) (by kernel_rfl) (by simp) ?_
   refine (AllReady.cons rfl (fun K hK=>?_) AllReady.nil)
   (simp only[List.getElem_toArray,List.getElem_cons_zero,List.getElem_cons_succ];rw[AAB (by rfl)];refine wp_store_mid 28 (.tmp 12) (.tmp 8) rfl (g) (I.length * 8) (x.cells.toArray) (by rfl) (by rfl) ?_ ?_ ?_ ?_;(exact KC.O _ (by simp));(exact Bw);(exact C8 x))
   refine hK _ _ ?_;clear hK K;try simp only[ps]
   (try rw[yF M4.O]);(try (have YZ:=zh (CZ.c8 WQ ((zN (w:=w8) M4 x.cells (I.length * 8)).trans KD));generalize w8.setCells g (I.length * 8) x.cells=w10 at *;clear c6 f6;obtain ⟨⟨_,c6,_⟩,_,f6,_⟩:=YZ.O))
   refine wpAny_done (by kernel_rfl) ?_ _
   (exact bodyPost_end (results_none results128 _ _ _) rfl ⟨rfl,x,_,r6,k6,e6,Lj.O,NA.O,Oe.O,Od.O⟩)
variable {W':World}
theorem CZ.RJ (h:CZ C V W r k e di vk vi vr K I R) (hp:V.pv≠V.p) (hb:Ah C.b W W'):W'.cell? ⟨V.pv,0,none⟩=some (.pointer (some ⟨V.p,0,none⟩)):=by
 have g:=h.bv.resolve_left hp;rw[AAC _ _ _ _ _ _ ((hb.FN _ (Gr g h.rd.blk (by decide)) (zg.1 g).1).trans g)];rfl
def EnP (C:Eh) (V:Vx) (r:List AJ) (k:Bool) (di:Int) (vr:Value) (K I:List Aj) (R:List Af) (W':World):Prop :=
 ∃x y LF G5 r' k' e',CZ C V W' r' k' e' di LF G5 vr (K++[x]) (I++[y]) R/\r'.length<=r.length/\(match Dr (Ag false C.s) V.x r k with
  | .ok (v,r1,k1)=>x.v=v.1/\y.v=v.2/\r'=r1/\k'=k1/\e'=0
  | .error e1=>e'=e1)
def WA (T:ByteArray) (r2:List AJ) (e2:Int) (r':List AJ) (e':Int):Prop:=r'.length<=r2.length/\((e2≠0/\r'=r2/\e'=e2)\/(e2=0/\((Ba T r2=true/\r'=r2.tail/\e'=0)\/(Ba T r2=false/\e'=2))))
theorem NH (h:e≠0):WA T r e r e:=⟨AAF _,.inl ⟨h,rfl,rfl⟩⟩
theorem FJ {y:Ending} (h:ABD C T w r k 0 y w'):Ah C.b w w'/\∃r' e',CJ C w' r' k e'/\WA T r 0 r' e':=by
 obtain ⟨_,hb,h⟩:=h;refine ⟨hb,?_⟩
 rcases h with ⟨h1,h2⟩|⟨h1,h2⟩
 ·exact ⟨_,_,h2,by simp,.inr ⟨rfl,.inl ⟨h1,rfl,rfl⟩⟩⟩
 ·exact ⟨_,_,h2,AAF _,.inr ⟨rfl,.inr ⟨h1,rfl⟩⟩⟩
theorem En {r2 r':List AJ} {e':Int} (h:WA T r2 0 r' e'):match Ay T r2 with
  | .ok l=>r'=l/\e'=0
  | .error e1=>e'=e1/\e'≠0:=by
 unfold Ay
 rcases h.2 with ⟨h1,_⟩|⟨_,⟨h1,h2,h3⟩|⟨h1,h2⟩⟩
 ·exact absurd rfl h1
 ·rw[AAB h1];exact ⟨h2,h3⟩
 ·rw[Pd (by rw[h1];simp)];exact ⟨h2,by rw[h2];decide⟩
theorem wT {KL:List Aj} {x:Aj} {uV:Value} {r2:List AJ} {k2:Bool} {e2:Int} (hr2:r2.length<=r.length) (hm2:match Ag false C.s V.x.key r k with
   | .ok (v,r1,k1)=>x.v=v/\r2=r1/\k2=k1/\e2=0
   | .error e1=>e2=e1) {r4:List AJ} {e4:Int} (ha:WA ⟨#[45,62]⟩ r2 e2 r4 e4) {y:Aj} {G5:Value} {r':List AJ} {k':Bool} {e':Int} (h:CZ C V W' r' k' e' di uV G5 vr (KL++[x]) (I++[y]) R) (hl:r'.length<=r4.length) (hn:e4≠0->e'=e4) (hm:e4=0->match Ag false C.s V.x.elem r4 k2 with
   | .ok (v,r1,k1)=>y.v=v/\r'=r1/\k'=k1/\e'=0
   | .error e1=>e'=e1):EnP C V r k di vr KL I R W':=by
 refine ⟨x,y,_,_,r',k',e',h,by have:=ha.1;omega,?_⟩
 unfold Dr
 cases hv:Ag false C.s V.x.key r k with
 | error e1 =>
  rw[hv] at hm2;simp only at hm2;subst hm2;have hz:e2≠0:=fun e=>GK false C.s V.x.key r k (e▸hv)
  rcases ha.2 with ⟨_,_,h3⟩|⟨h1,_⟩
  ·show e'=e2
   rw[hn (by omega),h3]
  ·exact absurd h1 hz
 | ok p =>
  obtain ⟨v,r1,k1⟩:=p;rw[hv] at hm2;obtain ⟨g1,rfl,rfl,rfl⟩:=hm2;rw[zM];have hs:=En ha;simp only
  cases hsy:Ay ⟨#[45,62]⟩ r2 with
  | error e1 =>
   rw[hsy] at hs
   show e'=e1
   rw[<-hs.1];exact hn hs.2
  | ok l =>
   rw[hsy] at hs;obtain ⟨rfl,rfl⟩:=hs;have hm:=hm rfl;rw[zM]
   cases hw:Ag false C.s V.x.elem r4 k2 with
   | error e1=>rw[hw] at hm;exact hm
   | ok q =>
    obtain ⟨v2,r5,k5⟩:=q;rw[hw] at hm;rw[zM];exact ⟨g1,hm⟩
theorem Tc (ih:EB C n) {KL:List Aj} (h:CZ C V W r k 0 di vk vi vr KL I R) (hpv:V.pv≠V.p) (hn:r.length<n) (he1:0<=V.x.key/\V.x.key<(C.s.length:Int)) (he:0<=V.x.elem/\V.x.elem<(C.s.length:Int)) (hk:KL.length<=1000000) (hl:I.length<=1000000):
  Calls prog 162 #[.pointer (some ⟨V.pv,0,none⟩),.pointer (some ⟨V.pr,0,none⟩),.pointer (some ⟨V.px,0,none⟩)] W fun y W'=>y = .returned (.tuple #[])/\EnP C V r k di vr KL I R W':=by
 obtain ⟨A1,c1,rfl,_,_,_⟩:=h.vb.ok.reads;obtain ⟨e,he0⟩:∃e:Int,e=0:=⟨0,rfl⟩;rw[<-he0] at h;have HE0:=zh he0;have HV:=zh h;have Qu:=zh hpv;have SB:=zh hn;have yc:=zh he1;have WX:=zh he;have Ed:=zh ih;have yN:=zh hk;have WV:=zh hl;clear h ih hn he he1 hl hk hpv he0
 go_enter func162,ntmps162
 go_upto_region 0 with fail
 go_cut [4] (fun s wx=>∃b0:Bool,s = .bool b0/\Hid (Below W.heap.size W wx))
 case first =>
  go_region <;> (go_wp2;go_meet;exact ⟨_,rfl,zC (zD W _) 1⟩)
 case rest =>
 obtain ⟨b0,rfl,hb⟩:=hcut;obtain ⟨W1,rfl⟩:∃W:World,W=wc:=⟨_,rfl⟩;have eD:=zh (HV.O.below hb.O);have uR:=zh (HV.O.rd.BK hb.O);clear hb HV;have Qx:Hid (C.b<W1.heap.size):=eD.O.rd.lt;have Tq:=zh (fun (w':World) (hb:Ah C.b W1 w')=>And.intro (eD.O.reads hb) (eD.O.RJ Qu hb))
 go_upto_if 4 with fail
 go_cut [] (fun wx=>Hid (KyP C V V.x.key r k e di vi vr KL I R wx))
 case first =>
  cases b0 with
  | true =>
   go_upto_region 1 with fail
   refine yE (S:=(fun w'=>((w'.cell? ⟨V.p,5,none⟩=some (.slice A1 KL.length c1)/\w'.cell? ⟨V.p,6,none⟩=some vi/\w'.cell? ⟨V.p,7,none⟩=some vr/\w'.cell? ⟨V.pr,0,none⟩=some (.pointer (some ⟨C.b,0,none⟩))/\w'.cell? ⟨V.px,6,none⟩=some (.slice V.Am V.x.AA.length V.cm)/\w'.cell? ⟨V.px,7,none⟩=some (.int .i64 V.x.key)/\w'.cell? ⟨V.px,8,none⟩=some (.int .i64 V.x.elem))/\Hid (Ah C.b W1 w'))/\(w'.cell? ⟨V.pv,0,none⟩=some (.pointer (some ⟨V.p,0,none⟩))))) 10 (by kernel_rfl) ?_ (fun AQ=>?_)
   ·(try dsimp only);exact Tq.O _ (Ah.of (zC (Pe _ _) 1) (AAM Qx))
   refine tB 0 ?_;refine tC 1 ?_;refine tC 2 ?_;refine tB 3 ?_;refine tB 4 ?_;refine tC 5 ?_;try simp only[ps]
   refine tB 6 ?_;refine tC 8 ?_;refine zV (rs:=[7,9]) (by kernel_rfl) (by simp) ?_
   refine (AB.cons rfl (fun K hK=>?_) (AB.cons rfl (fun K hK=>?_) AB.nil))
   ·
    go_simp
    (refine (Ed.O V.x.key _ r k e SB yc (eD.O.below (zC (Pe W1.heap.size W1) 1)).rd).mono ?_;rintro y w6 ⟨x,rfl,g1,g2,r6,k6,e6,g3,g4,g5,g6⟩;have BH:=zh ((Ah.of (zC (Pe W1.heap.size W1) 1) (AAM Qx)).trans g2);have JQ:=zh (eD.O.hot BH g1);have Dw:=zh (eD.O.BK BH g3);have NA:=zh g4;have Oe:=zh g5;have Od:=zh g6;clear g1 g2 g3 g4 g5 g6)
    refine hK.out _ _ ?_ (fun AQ=>?_)
    ·(try dsimp only);exact Tq.O _ BH
    clear hK K;refine tS 9 (fun K hK=>?_)
    go_simp
    refine hK.out _ _ ?_ (fun AQ=>?_)
    ·(try dsimp only);exact Tq.O _ (BH.O.below (zD _ _) Qx)
    clear hK K;refine zV (rs:=[10]) (by kernel_rfl) (by simp) ?_
    refine AB.last rfl (by kernel_rfl) (fun K hK=>?_) AB.nil
    (have Fa:=zh (Dw.O.below (zD w6 zO));have hll:=yN.O;refine yH AV (by rfl) (.tmp 8) (.tmp 14) (by rfl) (V.p+1) (.slice A1 KL.length c1) KL.length (KL.flatMap Aj.cells) (by rfl) Fa.O.vb.ok w6.heap.size 0 1 1 yB (by rfl) rfl (zR w6 yB 28) JY (by omega) (by omega) Fa.O.vb.lt ?_;intro v8 w8 BB Aw Cv;obtain ⟨g,c8,rfl,hgg⟩:=Ce BB;have Lj:=zh (Dw.O.AAi JQ (zD w6 zO) BB Aw Cv);have M4:Hid (V.p≠g):=zh (by omega);have KD:=zh (Fa.O.p8 Aw (.inl rfl));obtain ⟨⟨c5,_,_⟩,f5,_,_⟩:=Fa.O.c8 KD;have KC:=zh (EZ (j:=5) (u := .slice (some ⟨g,0,none⟩) (KL.length+1) c8) (Ec (xs:=yB) rfl BB) M4);have hlt1:(KL.length:Int)<(KL.length:Int)+1:=(by omega);have X6:(0:Int)<=(KL.length:Int):=(by omega);clear hll BB Aw Cv hgg)
    refine hK.out _ _ ?_;clear hK K
    (try clear AQ)
    refine Ue 11 ?v8 rfl (by kernel_rfl) (.inl ⟨by rfl,?y8⟩) ?_
    case y8=>(intro w;go_simp;try with_reducible rfl)
    try simp only[ps]
    refine Ue 12 ?v9 rfl (by kernel_rfl) (.inl ⟨by rfl,?y9⟩) ?_
    case y9=>(intro w;go_simp;try with_reducible rfl)
    refine wpAny_ready (rs:=[13]) (by kernel_rfl) (by simp) ?_
    refine (AllReady.cons rfl (fun K hK=>?_) AllReady.nil)
    go_simp
    refine hK _ _ ?_;clear hK K;refine wpAny_done (by kernel_rfl) ?_ _
    (go_wp2_with (refine wpList_store_mid rfl 28 (.tmp 18) (.tmp 12) rfl g (KL.length * 8) x.cells.toArray (by rfl) (by rfl) (KC.O _ (by simp)) Bw (C8 x) ?_);rw[yF M4.O];go_meet;exact ⟨x,_,r6,k6,e6,Lj.O,NA.O,Oe.O,Od.O⟩)
   ·
    go_simp
    refine hK.out _ _ ?_ (fun AQ=>?_)
    ·(try dsimp only);exact Tq.O _ (Ah.of (zB (zC (Pe _ _) 1) (zD _ _)) (AAM Qx))
    clear hK K;refine tS 7 (fun K hK=>?_)
    go_simp
    (refine (Ed.O V.x.key _ r k e SB yc (eD.O.below (zB (zC (Pe W1.heap.size W1) 1) (zD _ zO))).rd).mono ?_;rintro y w6 ⟨x,rfl,g1,g2,r6,k6,e6,g3,g4,g5,g6⟩;have BH:=zh ((Ah.of (zB (zC (Pe W1.heap.size W1) 1) (zD _ zO)) (AAM Qx)).trans g2);have JQ:=zh (eD.O.hot BH (g1.mono fun q _ hq=>by have hz:((W1.drewN 1).alloc zO).heap.size=W1.heap.size+1:=(by simp);show q<_;omega));have Tp:=zh (KN g2 (by have:=Qx.O;show W1.heap.size≠_;omega) (zR (W1.drewN 1) yB 28));have Dw:=zh (eD.O.BK BH g3);have NA:=zh g4;have Oe:=zh g5;have Od:=zh g6;clear g1 g2 g3 g4 g5 g6)
    refine hK.out _ _ ?_ (fun AQ=>?_)
    ·(try dsimp only);exact Tq.O _ BH
    clear hK K;refine zV (rs:=[10]) (by kernel_rfl) (by simp) ?_
    refine AB.last rfl (by kernel_rfl) (fun K hK=>?_) AB.nil
    (have hll:=yN.O;refine yH AV (by rfl) (.tmp 8) (.tmp 14) (by rfl) (V.p+1) (.slice A1 KL.length c1) KL.length (KL.flatMap Aj.cells) (by rfl) Dw.O.vb.ok W1.heap.size 0 1 1 yB (by rfl) rfl Tp JY (by omega) (by omega) Dw.O.vb.lt ?_;intro v8 w8 BB Aw Cv;obtain ⟨g,c8,rfl,hgg⟩:=Ce BB;have Lj:=zh (Dw.O.AAi JQ (Pe _ _) BB Aw Cv);have M4:Hid (V.p≠g):=zh (by omega);have KD:=zh (Dw.O.p8 Aw (.inl rfl));obtain ⟨⟨c5,_,_⟩,f5,_,_⟩:=Dw.O.c8 KD;have KC:=zh (EZ (j:=5) (u := .slice (some ⟨g,0,none⟩) (KL.length+1) c8) (Ec (xs:=yB) rfl BB) M4);have hlt1:(KL.length:Int)<(KL.length:Int)+1:=(by omega);have X6:(0:Int)<=(KL.length:Int):=(by omega);clear hll BB Aw Cv hgg)
    refine hK.out _ _ ?_;clear hK K
    (try clear AQ)
    refine Ue 11 ?v10 rfl (by kernel_rfl) (.inl ⟨by rfl,?y10⟩) ?_
    case y10=>(intro w;go_simp;try with_reducible rfl)
    try simp only[ps]
    refine Ue 12 ?v11 rfl (by kernel_rfl) (.inl ⟨by rfl,?y11⟩) ?_
    case y11=>(intro w;go_simp;try with_reducible rfl)
    refine wpAny_ready (rs:=[13]) (by kernel_rfl) (by simp) ?_
    refine (AllReady.cons rfl (fun K hK=>?_) AllReady.nil)
    go_simp
    refine hK _ _ ?_;clear hK K;refine wpAny_done (by kernel_rfl) ?_ _
    (go_wp2_with (refine wpList_store_mid rfl 28 (.tmp 18) (.tmp 12) rfl g (KL.length * 8) x.cells.toArray (by rfl) (by rfl) (KC.O _ (by simp)) Bw (C8 x) ?_);rw[yF M4.O];go_meet;exact ⟨x,_,r6,k6,e6,Lj.O,NA.O,Oe.O,Od.O⟩)
  | false =>
   go_upto_region 3 with fail
   refine yE (S:=(fun w'=>((w'.cell? ⟨V.p,5,none⟩=some (.slice A1 KL.length c1)/\w'.cell? ⟨V.p,6,none⟩=some vi/\w'.cell? ⟨V.p,7,none⟩=some vr/\w'.cell? ⟨V.pr,0,none⟩=some (.pointer (some ⟨C.b,0,none⟩))/\w'.cell? ⟨V.px,6,none⟩=some (.slice V.Am V.x.AA.length V.cm)/\w'.cell? ⟨V.px,7,none⟩=some (.int .i64 V.x.key)/\w'.cell? ⟨V.px,8,none⟩=some (.int .i64 V.x.elem))/\Hid True)/\(w'.cell? ⟨V.pv,0,none⟩=some (.pointer (some ⟨V.p,0,none⟩))))) 13 (by kernel_rfl) ?_ (fun AQ=>?_)
   ·(try dsimp only);(have hk:=Tq.O _ (Ah.of (zC (Pe _ _) 1) (AAM Qx));exact ⟨⟨hk.1.1,trivial⟩,hk.2⟩)
   refine tB 0 ?_;refine tB 1 ?_;refine tC 2 ?_;refine tC 3 ?_;try simp only[ps]
   refine tB 4 ?_;refine tB 5 ?_;refine tC 6 ?_;refine tB 7 ?_;refine tS 8 (fun K hK=>?_)
   go_simp
   (refine (Ed.O V.x.key _ r k e SB yc (eD.O.below (zC (Pe W1.heap.size W1) 1)).rd).mono ?_;rintro y w6 ⟨x,rfl,g1,g2,r6,k6,e6,g3,g4,g5,g6⟩;have BH:=zh ((Ah.of (zC (Pe W1.heap.size W1) 1) (AAM Qx)).trans g2);have JQ:=zh (eD.O.hot BH g1);have Dw:=zh (eD.O.BK BH g3);have NA:=zh g4;have Oe:=zh g5;have Od:=zh g6;clear g1 g2 g3 g4 g5 g6)
   refine hK.out _ _ ?_ (fun AQ=>?_)
   ·(try dsimp only);(have hk:=Tq.O _ (BH.O);exact ⟨⟨hk.1.1,trivial⟩,hk.2⟩)
   clear hK K;refine tS 9 (fun K hK=>?_)
   go_simp
   refine hK.out _ _ ?_ (fun AQ=>?_)
   ·(try dsimp only);(have hk:=Tq.O _ (BH.O.below (zD w6 (.cells x.cells.toArray 28)) Qx);exact ⟨⟨hk.1.1,trivial⟩,hk.2⟩)
   clear hK K;try simp only[ps]
   refine tS 10 (fun K hK=>?_)
   (have Fa:=zh (Dw.O.below (zD w6 (.cells x.cells.toArray 28)));have hll:=yN.O;refine yH AV (by rfl) (.tmp 23) (.tmp 28) (by rfl) (V.p+1) (.slice A1 KL.length c1) KL.length (KL.flatMap Aj.cells) (by rfl) Fa.O.vb.ok w6.heap.size 0 1 1 x.cells (by rfl) rfl (zR w6 x.cells 28) (Bn x) (by omega) (by omega) Fa.O.vb.lt ?_;intro v8 w8 BB Aw Cv;obtain ⟨g,c8,rfl,hgg⟩:=Ce BB;have Lj:=zh (Dw.O.key JQ (zD w6 (.cells x.cells.toArray 28)) BB Aw Cv);have KD:=zh (Fa.O.p8 Aw (.inl rfl));have WQ:=zh (Fa.O.Y0 KD (Fa.O.TY Aw (.inl rfl)));obtain ⟨⟨c5,_,_⟩,f5,_,_⟩:=Fa.O.c8 KD;clear hll BB Cv hgg)
   refine hK.out _ _ ?_ (fun AQ=>?_)
   ·(try dsimp only);exact ⟨⟨WQ.O.1,trivial⟩,WQ.O.2 Qu⟩
   clear hK K;refine tC 11 ?_;refine tC 12 ?_;refine zV (rs:=[13]) (by kernel_rfl) (by simp) ?_
   refine AB.last rfl (by kernel_rfl) (fun K hK=>?_) AB.nil
   go_simp
   refine hK.out _ _ ?_;clear hK K
   (try clear AQ)
   refine wpAny_done (by kernel_rfl) ?_ _
   (go_wp2;go_meet;exact ⟨x,_,r6,k6,e6,Lj.O,NA.O,Oe.O,Od.O⟩)
 case rest =>
 obtain ⟨W2,rfl⟩:∃W:World,W=wc:=⟨_,rfl⟩;obtain ⟨x,uV,r2,k2,e2,hv2,hr2,hn2,hm2⟩:=hcut.O;have HV2:=zh hv2;have HR2:=zh hr2;have Fb:=zh hm2;clear hv2 hr2 hn2 hm2 hcut Tq uR eD Qx;have hz2:=HV2.O.rd.zero;have p2:=(HV2.O.reads (Ah.refl _ _)).1.2.2.2.1
 go_upto_if 36 with fail
 go_cut [] (fun wx=>∃r4 e4,Hid (CZ C V wx r4 k2 e4 di uV vi vr (KL++[x]) I R/\WA ⟨#[45,62]⟩ r2 e2 r4 e4))
 case first =>
  by_cases he:e2=0
  ·have q1:(e2==0)=true:=by simp[he]
   have KA:Hid (CZ C V W2 r2 k2 0 di uV vi vr (KL++[x]) I R):=by show CZ _ _ _ _ _ _ _ _ _ _ _ _ _;rw[<-he];exact HV2.O
   have HE:=zh he;clear he hz2;go_wp2_with (go_at_call 126;refine (BS ⟨#[45,62]⟩ KA.O.rd).mono ?_;intro y w3 h3;obtain rfl:=h3.1;have H9:=zh (FJ h3);clear h3);go_meet;obtain ⟨hb,r',e',g1,g2⟩:=H9.O;exact ⟨r',e',KA.O.BK hb g1,by rw[HE.O];exact g2⟩
  ·have q1:(e2==0)=false:=by simp[he]
   have HE:=zh he;clear he hz2;go_wp2;go_meet;exact ⟨r2,e2,HV2.O,NH HE⟩
 case rest =>
 obtain ⟨W3,rfl⟩:∃W:World,W=wc:=⟨_,rfl⟩;obtain ⟨r4,e4,h4⟩:=hcut;have KA:=zh h4.O.1;have JV:Hid (∀ (y:Aj) (G5:Value) (r':List AJ) (k':Bool) (e':Int) (W':World),CZ C V W' r' k' e' di uV G5 vr (KL++[x]) (I++[y]) R->r'.length<=r4.length->(e4≠0->e'=e4)->(e4=0->match Ag false C.s V.x.elem r4 k2 with
   | .ok (v,r1,k1)=>y.v=v/\r'=r1/\k'=k1/\e'=0
   | .error e1=>e'=e1)->EnP C V r k di vr KL I R W'):=fun y G5 r' k' e' W' g1 g2 g3 g4=>wT HR2 (Fb.O HE0) h4.O.2 g1 g2 g3 g4
 have uL:Hid (r4.length<n):=by have:=h4.O.2.1;have:=HR2.O;have:=SB.O;show _<_;omega
 clear h4 hz2 p2 HV2;obtain ⟨A2,c2,rfl,_,_,_⟩:=KA.O.vb.oi.reads;go_upto_region 6 with fail
 go_cut [40] (fun s wx=>∃b0:Bool,s = .bool b0/\Hid (Below W3.heap.size W3 wx))
 case first =>
  go_region <;> (go_wp2;go_meet;exact ⟨_,rfl,zC (zD W3 _) 1⟩)
 case rest =>
 obtain ⟨b0,rfl,hb⟩:=hcut;obtain ⟨W4,rfl⟩:∃W:World,W=wc:=⟨_,rfl⟩;have Fx:=zh (KA.O.below hb.O);clear hb KA;have Ii:Hid (C.b<W4.heap.size):=Fx.O.rd.lt;have JS:=zh (fun (w':World) (hb:Ah C.b W4 w')=>And.intro (Fx.O.reads hb) (Fx.O.RJ Qu hb))
 generalize x=xk at *
 go_upto_if 40 with fail
 cases b0 with
 | true =>
  go_upto_region 7 with fail
  refine yE (S:=(fun w'=>((w'.cell? ⟨V.p,5,none⟩=some uV/\w'.cell? ⟨V.p,6,none⟩=some (.slice A2 I.length c2)/\w'.cell? ⟨V.p,7,none⟩=some vr/\w'.cell? ⟨V.pr,0,none⟩=some (.pointer (some ⟨C.b,0,none⟩))/\w'.cell? ⟨V.px,6,none⟩=some (.slice V.Am V.x.AA.length V.cm)/\w'.cell? ⟨V.px,7,none⟩=some (.int .i64 V.x.key)/\w'.cell? ⟨V.px,8,none⟩=some (.int .i64 V.x.elem))/\Hid (Ah C.b W4 w'))/\(w'.cell? ⟨V.pv,0,none⟩=some (.pointer (some ⟨V.p,0,none⟩))))) 10 (by kernel_rfl) ?_ (fun AQ=>?_)
  ·(try dsimp only);exact JS.O _ (Ah.of (zC (Pe _ _) 1) (AAM Ii))
  refine tB 0 ?_;refine tC 1 ?_;try simp only[ps]
  refine tC 2 ?_;refine tB 3 ?_;refine tB 4 ?_;refine tC 5 ?_;refine tB 6 ?_;refine tC 8 ?_;try simp only[ps]
  refine zV (rs:=[7,9]) (by kernel_rfl) (by simp) ?_
  refine (AB.cons rfl (fun K hK=>?_) (AB.cons rfl (fun K hK=>?_) AB.nil))
  ·
   go_simp
   (refine (Ed.O V.x.elem _ r4 k2 e4 uL WX (Fx.O.below (zC (Pe W4.heap.size W4) 1)).rd).mono ?_;rintro y w6 ⟨x,rfl,g1,g2,r6,k6,e6,g3,g4,g5,g6⟩;have BH:=zh ((Ah.of (zC (Pe W4.heap.size W4) 1) (AAM Ii)).trans g2);have JQ:=zh (Fx.O.hot BH g1);have Dw:=zh (Fx.O.BK BH g3);have NA:=zh g4;have Oe:=zh g5;have Od:=zh g6;clear g1 g2 g3 g4 g5 g6)
   refine hK.out _ _ ?_ (fun AQ=>?_)
   ·(try dsimp only);exact JS.O _ BH
   clear hK K;refine tS 9 (fun K hK=>?_)
   go_simp
   refine hK.out _ _ ?_ (fun AQ=>?_)
   ·(try dsimp only);exact JS.O _ (BH.O.below (zD _ _) Ii)
   clear hK K;refine zV (rs:=[10]) (by kernel_rfl) (by simp) ?_
   refine AB.last rfl (by kernel_rfl) (fun K hK=>?_) AB.nil
   (have Fa:=zh (Dw.O.below (zD w6 zO));have hll:=WV.O;refine yH AV (by rfl) (.tmp 44) (.tmp 50) (by rfl) (V.p+1) (.slice A2 I.length c2) I.length (I.flatMap Aj.cells) (by rfl) Fa.O.vb.oi w6.heap.size 0 1 1 yB (by rfl) rfl (zR w6 yB 28) JY (by omega) (by omega) Fa.O.vb.lt ?_;intro v8 w8 BB Aw Cv;obtain ⟨g,c8,rfl,hgg⟩:=Ce BB;have Lj:=zh (Dw.O.QG JQ (zD w6 zO) BB Aw Cv);have M4:Hid (V.p≠g):=zh (by omega);have KD:=zh (Fa.O.p8 Aw (.inr (.inl rfl)));obtain ⟨⟨_,c6,_⟩,_,f6,_⟩:=Fa.O.c8 KD;have KC:=zh (EZ (j:=6) (u := .slice (some ⟨g,0,none⟩) (I.length+1) c8) (Ec (xs:=yB) rfl BB) M4);have hlt1:(I.length:Int)<(I.length:Int)+1:=(by omega);have X6:(0:Int)<=(I.length:Int):=(by omega);clear hll BB Aw Cv hgg)
   refine hK.out _ _ ?_;clear hK K
   (try clear AQ)
   refine Ue 11 ?v30 rfl (by kernel_rfl) (.inl ⟨by rfl,?y30⟩) ?_
   case y30=>(intro w;go_simp;try with_reducible rfl)
   refine Ue 12 ?v31 rfl (by kernel_rfl) (.inl ⟨by rfl,?y31⟩) ?_
   case y31=>(intro w;go_simp;try with_reducible rfl)
   refine wpAny_ready (rs:=[13]) (by kernel_rfl) (by simp) ?_
   refine (AllReady.cons rfl (fun K hK=>?_) AllReady.nil)
   go_simp
   refine hK _ _ ?_;clear hK K;try simp only[ps]
   refine wpAny_done (by kernel_rfl) ?_ _
   (go_wp2_with (refine wpList_store_mid rfl 28 (.tmp 54) (.tmp 48) rfl g (I.length * 8) x.cells.toArray (by rfl) (by rfl) (KC.O _ (by simp)) Bw (C8 x) ?_);rw[yF M4.O];exact bodyPost_end (results_none results162 _ _ _) rfl ⟨rfl,JV.O x _ r6 k6 e6 _ Lj NA Oe Od⟩)
  ·
   go_simp
   refine hK.out _ _ ?_ (fun AQ=>?_)
   ·(try dsimp only);exact JS.O _ (Ah.of (zB (zC (Pe _ _) 1) (zD _ _)) (AAM Ii))
   clear hK K;refine tS 7 (fun K hK=>?_)
   go_simp
   (refine (Ed.O V.x.elem _ r4 k2 e4 uL WX (Fx.O.below (zB (zC (Pe W4.heap.size W4) 1) (zD _ zO))).rd).mono ?_;rintro y w6 ⟨x,rfl,g1,g2,r6,k6,e6,g3,g4,g5,g6⟩;have BH:=zh ((Ah.of (zB (zC (Pe W4.heap.size W4) 1) (zD _ zO)) (AAM Ii)).trans g2);have JQ:=zh (Fx.O.hot BH (g1.mono fun q _ hq=>by have hz:((W4.drewN 1).alloc zO).heap.size=W4.heap.size+1:=(by simp);show q<_;omega));have Tp:=zh (KN g2 (by have:=Ii.O;show W4.heap.size≠_;omega) (zR (W4.drewN 1) yB 28));have Dw:=zh (Fx.O.BK BH g3);have NA:=zh g4;have Oe:=zh g5;have Od:=zh g6;clear g1 g2 g3 g4 g5 g6)
   refine hK.out _ _ ?_ (fun AQ=>?_)
   ·(try dsimp only);exact JS.O _ BH
   clear hK K;refine zV (rs:=[10]) (by kernel_rfl) (by simp) ?_
   refine AB.last rfl (by kernel_rfl) (fun K hK=>?_) AB.nil
   (have hll:=WV.O;refine yH AV (by rfl) (.tmp 44) (.tmp 50) (by rfl) (V.p+1) (.slice A2 I.length c2) I.length (I.flatMap Aj.cells) (by rfl) Dw.O.vb.oi W4.heap.size 0 1 1 yB (by rfl) rfl Tp JY (by omega) (by omega) Dw.O.vb.lt ?_;intro v8 w8 BB Aw Cv;obtain ⟨g,c8,rfl,hgg⟩:=Ce BB;have Lj:=zh (Dw.O.QG JQ (Pe _ _) BB Aw Cv);have M4:Hid (V.p≠g):=zh (by omega);have KD:=zh (Dw.O.p8 Aw (.inr (.inl rfl)));obtain ⟨⟨_,c6,_⟩,_,f6,_⟩:=Dw.O.c8 KD;have KC:=zh (EZ (j:=6) (u := .slice (some ⟨g,0,none⟩) (I.length+1) c8) (Ec (xs:=yB) rfl BB) M4);have hlt1:(I.length:Int)<(I.length:Int)+1:=(by omega);have X6:(0:Int)<=(I.length:Int):=(by omega);clear hll BB Aw Cv hgg)
   refine hK.out _ _ ?_;clear hK K
   (try clear AQ)
   refine Ue 11 ?v32 rfl (by kernel_rfl) (.inl ⟨by rfl,?y32⟩) ?_
   case y32=>(intro w;go_simp;try with_reducible rfl)
   refine Ue 12 ?v33 rfl (by kernel_rfl) (.inl ⟨by rfl,?y33⟩) ?_
   case y33=>(intro w;go_simp;try with_reducible rfl)
   refine wpAny_ready (rs:=[13]) (by kernel_rfl) (by simp) ?_
   refine (AllReady.cons rfl (fun K hK=>?_) AllReady.nil)
   go_simp
   refine hK _ _ ?_;clear hK K;try simp only[ps]
   refine wpAny_done (by kernel_rfl) ?_ _
   (go_wp2_with (refine wpList_store_mid rfl 28 (.tmp 54) (.tmp 48) rfl g (I.length * 8) x.cells.toArray (by rfl) (by rfl) (KC.O _ (by simp)) Bw (C8 x) ?_);rw[yF M4.O];exact bodyPost_end (results_none results162 _ _ _) rfl ⟨rfl,JV.O x _ r6 k6 e6 _ Lj NA Oe Od⟩)
 | false =>
  go_upto_region 9 with fail
  refine yE (S:=(fun w'=>((w'.cell? ⟨V.p,5,none⟩=some uV/\w'.cell? ⟨V.p,6,none⟩=some (.slice A2 I.length c2)/\w'.cell? ⟨V.p,7,none⟩=some vr/\w'.cell? ⟨V.pr,0,none⟩=some (.pointer (some ⟨C.b,0,none⟩))/\w'.cell? ⟨V.px,6,none⟩=some (.slice V.Am V.x.AA.length V.cm)/\w'.cell? ⟨V.px,7,none⟩=some (.int .i64 V.x.key)/\w'.cell? ⟨V.px,8,none⟩=some (.int .i64 V.x.elem))/\Hid True)/\(w'.cell? ⟨V.pv,0,none⟩=some (.pointer (some ⟨V.p,0,none⟩))))) 13 (by kernel_rfl) ?_ (fun AQ=>?_)
  ·(try dsimp only);(have hk:=JS.O _ (Ah.of (zC (Pe _ _) 1) (AAM Ii));exact ⟨⟨hk.1.1,trivial⟩,hk.2⟩)
  refine tB 0 ?_;refine tB 1 ?_;refine tC 2 ?_;refine tC 3 ?_;refine tB 4 ?_;refine tB 5 ?_;try simp only[ps]
  refine tC 6 ?_;refine tB 7 ?_;refine tS 8 (fun K hK=>?_)
  go_simp
  (refine (Ed.O V.x.elem _ r4 k2 e4 uL WX (Fx.O.below (zC (Pe W4.heap.size W4) 1)).rd).mono ?_;rintro y w6 ⟨x,rfl,g1,g2,r6,k6,e6,g3,g4,g5,g6⟩;have BH:=zh ((Ah.of (zC (Pe W4.heap.size W4) 1) (AAM Ii)).trans g2);have JQ:=zh (Fx.O.hot BH g1);have Dw:=zh (Fx.O.BK BH g3);have NA:=zh g4;have Oe:=zh g5;have Od:=zh g6;clear g1 g2 g3 g4 g5 g6)
  refine hK.out _ _ ?_ (fun AQ=>?_)
  ·(try dsimp only);(have hk:=JS.O _ (BH.O);exact ⟨⟨hk.1.1,trivial⟩,hk.2⟩)
  clear hK K;refine tS 9 (fun K hK=>?_)
  go_simp
  refine hK.out _ _ ?_ (fun AQ=>?_)
  ·(try dsimp only);(have hk:=JS.O _ (BH.O.below (zD w6 (.cells x.cells.toArray 28)) Ii);exact ⟨⟨hk.1.1,trivial⟩,hk.2⟩)
  clear hK K;refine tS 10 (fun K hK=>?_)
  (have Fa:=zh (Dw.O.below (zD w6 (.cells x.cells.toArray 28)));have hll:=WV.O;refine yH AV (by rfl) (.tmp 59) (.tmp 64) (by rfl) (V.p+1) (.slice A2 I.length c2) I.length (I.flatMap Aj.cells) (by rfl) Fa.O.vb.oi w6.heap.size 0 1 1 x.cells (by rfl) rfl (zR w6 x.cells 28) (Bn x) (by omega) (by omega) Fa.O.vb.lt ?_;intro v8 w8 BB Aw Cv;obtain ⟨g,c8,rfl,hgg⟩:=Ce BB;have Lj:=zh (Dw.O.item JQ (zD w6 (.cells x.cells.toArray 28)) BB Aw Cv);have KD:=zh (Fa.O.p8 Aw (.inr (.inl rfl)));have WQ:=zh (Fa.O.Y0 KD (Fa.O.TY Aw (.inr (.inl rfl))));obtain ⟨⟨_,c6,_⟩,_,f6,_⟩:=Fa.O.c8 KD;clear hll BB Cv hgg)
  refine hK.out _ _ ?_ (fun AQ=>?_)
  ·(try dsimp only);exact ⟨⟨WQ.O.1,trivial⟩,WQ.O.2 Qu⟩
  clear hK K;refine tC 11 ?_;try simp only[ps]
  refine tC 12 ?_;refine zV (rs:=[13]) (by kernel_rfl) (by simp) ?_
  refine AB.last rfl (by kernel_rfl) (fun K hK=>?_) AB.nil
  go_simp
  refine hK.out _ _ ?_;clear hK K
  (try clear AQ)
  refine wpAny_done (by kernel_rfl) ?_ _
  (go_wp2;exact bodyPost_end (results_none results162 _ _ _) rfl ⟨rfl,JV.O x _ r6 k6 e6 _ Lj NA Oe Od⟩)
def YN (n:Int) (r:List AJ) (t0:AJ) (r1:List AJ) (e1:Int):Prop:=(r1.length<=r.length/\Cw t0.text/\Cw t0.str)/\((CS n r = .ok (t0,r1)/\e1=0/\r1.length<r.length)\/(CS n r = .error 2/\t0=Kr/\r1=r/\e1=2))
theorem F5 {n:Int} {y:Ending} (h:mR C n w r k 0 y w'):∃t0 r1 e1,y = .returned (.agg #[.int .i64 t0.kind,.string t0.text,.int .i64 t0.int,.string t0.str,.int .i64 t0.line])/\Ah C.b w w'/\CJ C w' r1 k e1/\YN n r t0 r1 e1:=by
 obtain ⟨hb,h⟩:=h
 rcases h with ⟨t,q,h1,h2,h3,h4,h5⟩|⟨h1,h2,h3⟩
 ·have:=(Bq h1).1.2
  exact ⟨t,q,0,h2,hb,h3,⟨by omega,h4,h5⟩,.inl ⟨h1,rfl,this⟩⟩
 ·exact ⟨Kr,r,2,h2,hb,h3,⟨AAF _,by unfold Cw Kr;decide,by unfold Cw Kr;decide⟩,.inr ⟨h1,rfl,rfl,rfl⟩⟩
theorem YN.tk {n:Int} {r1:List AJ} {t0:AJ} {e1:Int} (h:YN n r t0 r1 e1):match CS n r with
  | .ok p=>t0=p.1/\r1=p.2/\e1=0/\r1.length<r.length
  | .error e2=>e1=e2/\e1≠0:=by
 rcases h.2 with ⟨h1,h2,h3⟩|⟨h1,_,_,h2⟩
 ·rw[h1];exact ⟨rfl,rfl,h2,h3⟩
 ·rw[h1];exact ⟨h2,by rw[h2];decide⟩
def fC (nm:ByteArray) (t0:AJ) (e1:Int):Int:=if e1=0 then (if t0.text=nm then 0 else 4) else e1
theorem Jq (h:Ba T r=true):r.tail.length<r.length:=(EJ h).2
section
variable {f:Int->List AJ->Bool->PR Val} {Rt:Kv} {acc:List Val} {ms:List Ac} {y:Ac} {r:List AJ} {k:Bool}
theorem pG (hnz:∀t l k,f t l k ≠ .error 0) (h:Mr f Rt acc [] (y::ms) r k) {t0:AJ} {r1:List AJ} {e1:Int} (h1:YN 1 r t0 r1 e1) {r3:List AJ} {e3:Int} (h3:WA ⟨#[58]⟩ r1 (fC y.name t0 e1) r3 e3) {x:Val} {r5:List AJ} {k5:Bool} {e5:Int} (hl5:r5.length<=r3.length) (lH:e3≠0->e5=e3)
  (h5:e3=0->match f y.type r3 k with
   | .ok (v,r',k')=>x=v/\r5=r'/\k5=k'/\e5=0
   | .error e=>e5=e) {e6:Int} (h6:e6=if e5=0/\ms≠[]/\Ba ⟨#[44]⟩ r5=false then 2 else e5) :
  (e6=0->QX f Rt (acc++[x]) [] ms r5 k5/\r5.length<r.length)/\(e6≠0->Rt = .error e6):=by
 obtain ⟨_,hR⟩:=h.name;have ht:=h1.tk;have hl1:=h1.1.1;have hl3:=h3.1
 cases hk:CS 1 r with
 | error e =>
  rw[hk] at ht hR;obtain ⟨rfl,hz⟩:=ht;have hnm:fC y.name t0 e1=e1:=Pd hz;rw[hnm] at h3
  rcases h3.2 with ⟨_,_,g⟩|⟨g,_⟩
  ·have g5:=lH (by omega)
   rw[Pd (by rintro ⟨g,_⟩;omega)] at h6
   have e61:e6=e1:=by omega
   subst e61;exact ⟨fun g=>absurd g hz,fun _=>hR⟩
  ·exact absurd g hz
 | ok p =>
  obtain ⟨u,q⟩:=p;rw[hk] at ht hR;obtain ⟨rfl,rfl,rfl,hlt⟩:=ht;rw[zM] at hR;simp only at hR
  by_cases hnm:t0.text=y.name
  ·have hn0:fC y.name t0 0=0:=by unfold fC;rw[AAB rfl,AAB hnm]
   rw[hn0] at h3;rw[AAB hnm] at hR;have hs:=En h3
   cases hsy:Ay ⟨#[58]⟩ r1 with
   | error e =>
    rw[hsy] at hs hR;have g5:=lH hs.2;rw[Pd (by rintro ⟨g,_⟩;exact hs.2 (by omega))] at h6
    have e61:e6=e:=by have:=hs.1;omega
    subst e61;exact ⟨fun g=>absurd g (by have:=hs.2;have:=hs.1;omega),fun _=>hR⟩
   | ok l2 =>
    rw[hsy] at hs hR;obtain ⟨rfl,rfl⟩:=hs;rw[zM] at hR;have hv:=h5 rfl
    cases hf:f y.type r3 k with
    | error e =>
     rw[hf] at hv hR;simp only at hv;subst hv;have hz:e5≠0:=fun g=>hnz _ _ _ (g▸hf)
     rw[Pd (by rintro ⟨g,_⟩;exact hz g)] at h6
     subst h6;exact ⟨fun g=>absurd g hz,fun _=>hR⟩
    | ok z =>
     obtain ⟨v,r',k'⟩:=z;rw[hf] at hv hR;obtain ⟨rfl,rfl,rfl,rfl⟩:=hv;rw[zM] at hR;simp only at hR;have hR2:Rt=(BU f false ms r5 k5).bind fun z=>NP ((acc++[x])++z.1) [] z.2.2 (Eb false false z.2.1):=by rw[hR];simp only[AAo,List.singleton_append]
     by_cases hm:ms≠[]/\Ba ⟨#[44]⟩ r5=false
     ·rw[AAB ⟨rfl,hm⟩] at h6
      subst h6;exact ⟨fun g=>absurd g (by decide),fun _=>vJ hR2 hm.1 hm.2⟩
     ·rw[Pd (fun g=>hm g.2)] at h6
      subst h6;refine ⟨fun _=>⟨pO rfl hR2 ?_,by omega⟩,fun g=>absurd rfl g⟩
      by_cases h0:ms=[]
      ·exact .inl h0
      ·refine .inr ?_
       cases hi:Ba ⟨#[44]⟩ r5 with
       | true=>rfl
       | false=>exact absurd ⟨h0,hi⟩ hm
  ·have hn0:fC y.name t0 0=4:=by unfold fC;rw[AAB rfl,Pd hnm]
   rw[hn0] at h3;rw[Pd hnm] at hR
   rcases h3.2 with ⟨_,_,g⟩|⟨g,_⟩
   ·have g5:=lH (by omega)
    rw[Pd (by rintro ⟨g,_⟩;omega)] at h6
    have e61:e6=4:=by omega
    subst e61;exact ⟨fun g=>absurd g (by decide),fun _=>hR⟩
   ·exact absurd g (by decide)
theorem pF {rs:List Af} (h:Mr f Rt acc rs [] r k) {t0:AJ} {r1:List AJ} {e1:Int} (h1:YN 2 r t0 r1 e1) {r3:List AJ} {e3:Int} (h3:WA ⟨#[58]⟩ r1 e1 r3 e3) {t1:AJ} {r5:List AJ} {e5:Int} (h5:(e3≠0/\r5=r3/\e5=e3)\/(e3=0/\YN 3 r3 t1 r5 e5)) :
  (e5=0->QX f Rt acc (rs++[⟨t0.int,t1.str⟩]) [] r5 k/\r5.length<r.length)/\(e5≠0->Rt = .error e5):=by
 have hR:=h.raw;have ht:=h1.tk;have hl3:=h3.1
 cases hk:CS 2 r with
 | error e =>
  rw[hk] at ht hR;obtain ⟨rfl,hz⟩:=ht
  rcases h3.2 with ⟨_,_,g⟩|⟨g,_⟩
  ·rcases h5 with ⟨_,_,g5⟩|⟨g5,_⟩
   ·have e61:e5=e1:=by omega
    subst e61;exact ⟨fun g=>absurd g hz,fun _=>hR⟩
   ·omega
  ·exact absurd g hz
 | ok p =>
  obtain ⟨u,q⟩:=p;rw[hk] at ht hR;obtain ⟨rfl,rfl,rfl,hlt⟩:=ht;rw[zM] at hR;simp only at hR;have hs:=En h3
  cases hsy:Ay ⟨#[58]⟩ r1 with
  | error e =>
   rw[hsy] at hs hR
   rcases h5 with ⟨_,_,g5⟩|⟨g5,_⟩
   ·have e61:e5=e:=by have:=hs.1;omega
    subst e61;exact ⟨fun g=>absurd g (by have:=hs.2;have:=hs.1;omega),fun _=>hR⟩
   ·exact absurd g5 hs.2
  | ok l2 =>
   rw[hsy] at hs hR;obtain ⟨rfl,rfl⟩:=hs;rw[zM] at hR
   rcases h5 with ⟨g5,_⟩|⟨_,g5⟩
   ·exact absurd rfl g5
   ·have hu:=g5.tk
    have hl5:=g5.1.1
    cases hk3:CS 3 r3 with
    | error e =>
     rw[hk3] at hu hR;obtain ⟨rfl,hz⟩:=hu;exact ⟨fun g=>absurd g hz,fun _=>hR⟩
    | ok z =>
     obtain ⟨v,q2⟩:=z;rw[hk3] at hu hR;obtain ⟨rfl,rfl,rfl,_⟩:=hu;rw[zM] at hR;simp only at hR;exact ⟨fun _=>⟨.inl ⟨rfl,hR⟩,by omega⟩,fun g=>absurd rfl g⟩
end
theorem CZ.ACy (h:CZ C V W r k e di vk vi vr K I R) {w8:World} {row:Option Nat} (hg:W.grownBy w8 row) (hr:row=vk.ownBlock\/row=vi.ownBlock\/row=vr.ownBlock):Below C.w0.heap.size C.w0 w8:=by
 obtain ⟨l1,l2,l3⟩:=Gi h.vb;have hb:=h.bp;have hge:=h.rd.ok.ge;refine h.rd.up.grown hg h.rd.up.size fun q hq=>?_
 rcases hr with e|e|e
 ·have:=l1 q (e▸hq);omega
 ·have:=l2 q (e▸hq);omega
 ·have:=l3 q (e▸hq);omega
theorem CZ.ACx (h:CZ C V W r k e di vk vi vr K I R) (hb:Ah C.b W W'):Below C.w0.heap.size C.w0 W':=h.rd.up.trans (hb.Cm.mono h.rd.ok.ge)
theorem PX (v:Val):∀y,y∈v.keys\/y∈v.items->SizeOf.sizeOf y<SizeOf.sizeOf v:=by
 intro y hy
 obtain ⟨k,b,i,st,id,ks,is,r⟩:=v;simp only[Val.mk.sizeOf_spec]
 rcases hy with h|h
 ·have:=List.sizeOf_lt_of_mem (show y∈ks from h);omega
 ·have:=List.sizeOf_lt_of_mem (show y∈is from h);omega
theorem zF {b:Nat} {v:Val} {A1:zo} {c1:Nat} {A2:zo} {c2:Nat} {A3:zo} {c3:Nat} (h:W.heap[b]? = some (v.box A1 c1 A2 c2 A3 c3)):
  W.cell? ⟨b,0,none⟩=some (.int .i64 v.kind)/\W.cell? ⟨b,1,none⟩=some (.bool v.bool)/\W.cell? ⟨b,2,none⟩=some (.int .i64 v.int)/\W.cell? ⟨b,3,none⟩=some (.string v.str)/\W.cell? ⟨b,4,none⟩=some (.int .i64 v.id)/\W.cell? ⟨b,5,none⟩=some (.slice A1 v.keys.length c1)/\W.cell? ⟨b,6,none⟩=some (.slice A2 v.items.length c2)/\W.cell? ⟨b,7,none⟩=some (.slice A3 v.rest.length c3):=by
 refine ⟨?_,?_,?_,?_,?_,?_,?_,?_⟩ <;> (rw[AAC _ _ _ _ _ _ h];rfl)
theorem XL (n:Int) (t:Aa) (As:zo) (cs:Nat) (Am:zo) (cm:Nat) (w:World) (ht:J4 w t As Am) :
  Calls prog 68 #[t.v As cs Am cm,.int .i64 n] w fun e w'=>∃r:Int,e = .returned (.tuple #[.int .i64 r,.bool (t.AX.any fun y=>decide (y.id=n))])/\Below w.heap.size w w' :=
 (NK n t As cs Am cm w ht).mono fun e w' ⟨h1,h2⟩=>⟨_,h1.trans (by rw[Fj]),h2⟩
theorem LH (n:Int) (t:Aa) (As:zo) (cs:Nat) (Am:zo) (cm:Nat) (w:World) (ht:J4 w t As Am) :
  Calls prog 58 #[t.v As cs Am cm,.int .i64 n] w fun e w'=>∃r:Int,e = .returned (.tuple #[.int .i64 r,.bool (t.AA.any fun y=>decide (y.id=n))])/\((t.AA.any fun y=>decide (y.id=n))=true->r=Bt (fun y:Ac=>decide (y.id=n)) t.AA)/\Below w.heap.size w w' :=
 (NM n t As cs Am cm w ht).mono fun e w' ⟨h1,h2⟩=>⟨_,h1.trans (by rw[Fj]),fun h=>by
  rw[<-Fj] at h;exact Pd (by have:=AAr h;omega),h2⟩
theorem FR (x:Int) (w:World):Calls prog 173 #[.int .i64 x] w fun e w'=>e = .returned (.bool false)/\w=w':=by
 have q1:(x != x)=false:=by simp
 go_enter func173,ntmps173
 go_wp2
 go_ret
 exact ⟨rfl,rfl⟩
theorem FP (x:Int) (w:World):Calls prog 172 #[.int .u64 x] w fun e w'=>e = .returned (.bool false)/\w=w':=by
 have q1:(x != x)=false:=by simp
 go_enter func172,ntmps172
 go_wp2
 go_ret
 exact ⟨rfl,rfl⟩
theorem FQ (x:ByteArray) (w:World):Calls prog 174 #[.string x] w fun e w'=>e = .returned (.bool false)/\w=w':=by
 go_enter func174,ntmps174
 go_wp2
 go_ret
 exact ⟨by first|rfl|simp,rfl⟩
theorem Mg (x y:Int) (w:World):Calls prog 152 #[.int .i64 x,.int .i64 y] w fun e w'=>e = .returned (.int .i64 (Dz x y))/\w=w':=by
 by_cases h1:x<y
 ·have HD:Hid (Dz x y = -1):=by show _=_;unfold Dz;rw[AAB h1]
  go_enter func152,ntmps152
  go_wp2_with fail
  refine (FR x w).mono ?_;rintro e w2 ⟨rfl,rfl⟩;go_wp2_with fail;refine (FR y w).mono ?_;rintro e w2 ⟨rfl,rfl⟩;go_wp2;go_ret;exact ⟨by rw[HD.O];rfl,rfl⟩
 ·by_cases h2:x=y
  ·subst h2
   have HD:Hid (Dz x x=0):=by show _=_;unfold Dz;rw[Pd h1,AAB rfl]
   have h3:¬ x > x:=by omega
   go_enter func152,ntmps152
   go_wp2_with fail
   refine (FR x w).mono ?_;rintro e w2 ⟨rfl,rfl⟩;go_wp2_with fail;refine (FR x w).mono ?_;rintro e w2 ⟨rfl,rfl⟩;go_wp2;go_ret;exact ⟨by rw[HD.O];rfl,rfl⟩
  ·have HD:Hid (Dz x y=1):=by show _=_;unfold Dz;rw[Pd h1,Pd h2]
   have h3:y<x:=by omega
   clear h2
   go_enter func152,ntmps152
   go_wp2_with fail
   refine (FR x w).mono ?_;rintro e w2 ⟨rfl,rfl⟩;go_wp2_with fail;refine (FR y w).mono ?_;rintro e w2 ⟨rfl,rfl⟩;go_wp2;go_ret;exact ⟨by rw[HD.O];rfl,rfl⟩
theorem Te (x y:Int) (w:World):Calls prog 149 #[.int .u64 x,.int .u64 y] w fun e w'=>e = .returned (.int .i64 (Dz x y))/\w=w':=by
 by_cases h1:x<y
 ·have HD:Hid (Dz x y = -1):=by show _=_;unfold Dz;rw[AAB h1]
  go_enter func149,ntmps149
  go_wp2_with fail
  refine (FP x w).mono ?_;rintro e w2 ⟨rfl,rfl⟩;go_wp2_with fail;refine (FP y w).mono ?_;rintro e w2 ⟨rfl,rfl⟩;go_wp2;go_ret;exact ⟨by rw[HD.O];rfl,rfl⟩
 ·by_cases h2:x=y
  ·subst h2
   have HD:Hid (Dz x x=0):=by show _=_;unfold Dz;rw[Pd h1,AAB rfl]
   have h3:¬ x > x:=by omega
   go_enter func149,ntmps149
   go_wp2_with fail
   refine (FP x w).mono ?_;rintro e w2 ⟨rfl,rfl⟩;go_wp2_with fail;refine (FP x w).mono ?_;rintro e w2 ⟨rfl,rfl⟩;go_wp2;go_ret;exact ⟨by rw[HD.O];rfl,rfl⟩
  ·have HD:Hid (Dz x y=1):=by show _=_;unfold Dz;rw[Pd h1,Pd h2]
   have h3:y<x:=by omega
   clear h2
   go_enter func149,ntmps149
   go_wp2_with fail
   refine (FP x w).mono ?_;rintro e w2 ⟨rfl,rfl⟩;go_wp2_with fail;refine (FP y w).mono ?_;rintro e w2 ⟨rfl,rfl⟩;go_wp2;go_ret;exact ⟨by rw[HD.O];rfl,rfl⟩
theorem aW (x y:ByteArray) (w:World):(binOp .gtr 9 (.string x) (.string y)).run prog w = .ok (.bool (!nP x y && !decide (x=y))) w:=by
 have h:=bytes_beq x y;simp[binOp,Op.stringOp,nP,h]
theorem Tf (x y:ByteArray) (w:World):Calls prog 153 #[.string x,.string y] w fun e w'=>e = .returned (.int .i64 (Ot x y))/\w=w':=by
 cases hl:nP x y with
 | true =>
  have HD:Hid (Ot x y = -1):=by show _=_;unfold Ot;rw[hl,AAB rfl]
  have q1:Op.bytesLess x.toList y.toList=true:=hl;clear hl
  go_enter func153,ntmps153
  go_wp2_with fail
  refine (FQ x w).mono ?_;rintro e w2 ⟨rfl,rfl⟩;go_wp2_with fail;refine (FQ y w).mono ?_;rintro e w2 ⟨rfl,rfl⟩;go_wp2;go_ret;exact ⟨by rw[HD.O];rfl,rfl⟩
 | false =>
  have hg:=aW x y w;have q1:Op.bytesLess x.toList y.toList=false:=hl;rw[hl] at hg
  by_cases he:x=y
  ·have HD:Hid (Ot x y=0):=by show _=_;unfold Ot;rw[hl,Pd (by simp),AAB he]
   rw[AAJ he] at hg;clear hl he
   go_enter func153,ntmps153
   go_wp2_with fail
   refine (FQ x w).mono ?_;rintro e w2 ⟨rfl,rfl⟩;go_wp2_with fail;refine (FQ y w).mono ?_;rintro e w2 ⟨rfl,rfl⟩;go_wp2;go_ret;exact ⟨by rw[HD.O];rfl,rfl⟩
  ·have HD:Hid (Ot x y=1):=by show _=_;unfold Ot;rw[hl,Pd (by simp),Pd he]
   rw[AAP he] at hg;clear hl he
   go_enter func153,ntmps153
   go_wp2_with fail
   refine (FQ x w).mono ?_;rintro e w2 ⟨rfl,rfl⟩;go_wp2_with fail;refine (FQ y w).mono ?_;rintro e w2 ⟨rfl,rfl⟩;go_wp2;go_ret;exact ⟨by rw[HD.O];rfl,rfl⟩
theorem fw {n:Int} (h:In64 n):bits .xor .u64 (IntKind.u64.wrap (IntKind.u64.wrap n * 2)) (IntKind.u64.wrap (n / 9223372036854775808))=Qy n:=by
 obtain ⟨h1,h2⟩:=h
 by_cases hn:0<=n
 ·have e1:IntKind.u64.wrap (IntKind.u64.wrap n * 2)=(((2 * n).toNat:Nat):Int):=by rw[IntKind.wrap_u64,IntKind.wrap_u64];omega
  have e2:IntKind.u64.wrap (n / 9223372036854775808)=((0:Nat):Int):=by rw[IntKind.wrap_u64];omega
  rw[e1,e2,bits_xor_u64_nat _ _ (by omega) (by decide),Nat.xor_zero]
  unfold Qy;rw[AAB hn];omega
 ·have e1:IntKind.u64.wrap (IntKind.u64.wrap n * 2)=(((2 * n+18446744073709551616).toNat:Nat):Int):=by rw[IntKind.wrap_u64,IntKind.wrap_u64];omega
  have e2:IntKind.u64.wrap (n / 9223372036854775808)=((2 ^ 64 - 1:Nat):Int):=by rw[IntKind.wrap_u64];omega
  rw[e1,e2,bits_xor_u64_nat _ _ (by omega) (by decide),Nat.xor_comm,Lib.xor_ones64 _ (by omega)]
  unfold Qy;rw[Pd hn];omega
theorem Yd (n:Int) (h:In64 n) (w:World):Calls prog 150 #[.int .i64 n] w fun e w'=>e = .returned (.int .u64 (Qy n))/\w=w':=by
 have HZ:=zh (fw h)
 go_enter func150,ntmps150
 go_wp2
 go_ret
 exact ⟨by rw[<-HZ.O];rfl,rfl⟩
section
variable {s:List Aa} {df:Ac->ByteArray}
end
theorem ZV:∀ (L:List (Int×ByteArray)) (b:Int) (K:List ByteArray),OU b K L=true->∀x∈L,(1<=x.1/\x.1<=1000)/\x.2.size<=24
 | [],_,_,_,x,hx=>by cases hx
 | y::L,b,K,h,x,hx=>by
  rw[OU] at h;simp only[AAD,AAV] at h;obtain ⟨⟨⟨⟨⟨h1,h2⟩,_⟩,_⟩,h5⟩,h6⟩:=h
  rcases ABP.1 hx with e|e
  ·subst e
   unfold Bz at h5;simp only[AAD,AAV] at h5;exact ⟨⟨h1,h2⟩,h5.1.1.2⟩
  ·exact ZV L _ _ h6 x e
section
variable {s:List Aa} {t:Aa}
theorem qM (hv:zQ s=0) (ht:t∈s) {m:Ac} (hm:m∈t.AA):((1<=m.id/\m.id<=1000)/\m.name.size<=24)/\(0<=m.type/\m.type<(s.length:Int)):=by
 have h:=(Dx hv ht).1;unfold Gm at h;simp only[AAD,AAV] at h;obtain ⟨⟨⟨⟨h1,h2⟩,h3⟩,h4⟩,h5⟩:=h;have key:∀b,OJ b t.AA=true->((1<=m.id/\m.id<=1000)/\m.name.size<=24):=fun b hb=>by
  unfold OJ TT at hb;simp only[AAD] at hb;exact ZV _ _ _ hb.1.2.1 _ (List.mem_map.2 ⟨m,hm,rfl⟩)
 refine ⟨?_,(Dx hv ht).2 _ (List.mem_map.2 ⟨(m.id,m.type),?_,rfl⟩)⟩
 ·by_cases k5:t.kind=5
  ·unfold LB at h5
   rw[Pd (by omega),Pd (by omega),Pd (by omega),AAB k5] at h5
   exact key _ h5
  by_cases k6:t.kind=6
  ·unfold LB at h5
   rw[Pd (by omega),Pd (by omega),Pd (by omega),Pd (by omega),AAB k6] at h5
   exact key _ h5
  ·exfalso
   have:t.AA=[]:=by
    rw[h3];unfold F6
    (repeat' split) <;> first|rfl|(exfalso;omega)
   rw[this] at hm
   cases hm
 ·unfold Jc
  simp only[ABY,List.mem_map];exact .inl ⟨m,hm,rfl⟩
end
