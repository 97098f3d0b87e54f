/-
  Walks: the schema of a draft.
-/
import Derived.Test.YthkkllmmbefedaaGreatDoorQGX0
import Derived.Test.YthkkllmmbefedaaGreatDoorQGA10
import Derived.Deep.CutBlock
namespace Go.Proofs.YthkkllmmbefedaaGreatDoor
open Go.RowKit
set_option maxHeartbeats 16000000
set_option maxRecDepth 100000
theorem valR_flat {x:Val} (h:FlatV x) (w:World) (A1 A2 A3:zo):ValR w x A1 A2 A3:=by
 obtain ⟨h0,h1,h2,h3⟩:=h;exact ⟨yK (Nat.le_trans h0.1 (by decide)),by rw[h1];exact RowsR.nil _ _ _ _ _,by rw[h2];exact RowsR.nil _ _ _ _ _,by rw[h3];exact RowsR.nil _ _ _ _ _⟩
theorem MsSt.mems {rec:Bool} {n base:Nat} {W:World} {v:Value} {ms:List MemD} (h:MsSt rec n 12 base W v ms):∃A c,v = .slice A ms.length c∧Off (· < base) W fun u=>MemsR u A ms:=by
 obtain ⟨A,c,hv,_⟩:=h.own.reads;refine ⟨A,c,hv,fun u hu=>?_⟩
 have ho:OwnM u base v ms:=h.own.keep fun g hg hl _=>hu g (by omega) hl
 obtain ⟨A',c',hv',hr⟩:=OwnL.rows (bytes:=160) (at_:=fun x cs=>MemD.At u x cs) ho (fun _=>rfl) (by have:=h.ok.len;unfold Lim;omega) (fun m hm=>⟨none,0,none,0,none,0,by
  obtain ⟨_,h1,h2,h3⟩:=h.flat m hm;unfold encM
  rfl,⟨by rw[(h.ok.2 m hm).2.1];exact yK (by rw[show (nmM 109 m.id.toNat).size=2 from rfl];decide),valR_flat (h.flat m hm) _ _ _ _⟩⟩)
 rw[hv] at hv'
 injection hv' with e1 _ _
 rw[e1];exact hr
theorem ints_low {w w':World} {A:zo} {l:List Int} (h:IntsR w A l) (hb:∀b o,A=some ⟨b,o,none⟩→w'.heap[b]? = w.heap[b]?):IntsR w' A l:=by
 refine ⟨h.1,fun hn=>?_⟩
 obtain ⟨q,o,e,hi⟩:=h.2 hn;refine ⟨q,o,e,fun i x hx=>?_⟩
 obtain ⟨cs,h1,h2⟩:=hi i x hx;refine ⟨cs,h1,fun j u hj=>?_⟩
 rw[World.cell?_of_block (w:=w) (w':=w') (a:=⟨q,o+i * 1+j,none⟩) (hb q o e)];exact h2 j u hj
structure OfSt (w W:World) (A:zo) (d:List NodeD) (c:Nat) (v:Value) (L:List TyA):Prop where
 db:DBox w W A d c
 rb:W.heap[w.heap.size+1]? = some (.cells #[.slice none 0 0] 31 (0,0))
 sb:W.heap[w.heap.size+1+1]? = some (.cells #[v] 31 (0,0))
 out:OutSt (w.heap.size+1+1) W v L
theorem OfSt.below {w W W':World} {A:zo} {d:List NodeD} {c:Nat} {v:Value} {L:List TyA} (h:OfSt w W A d c v L) (hb:Below W.heap.size W W'):OfSt w W' A d c v L :=
 ⟨h.db.step hb,(hb.block _ (zg.1 h.rb).1).trans h.rb,(hb.block _ (zg.1 h.sb).1).trans h.sb,h.out.below hb⟩
theorem OfSt.new {w:World} {A:zo} {d:List NodeD} {c:Nat} (h:NodesR w A d):OfSt w (((w.alloc (.cells #[.slice A d.length c] 24)).alloc (.cells #[.slice none 0 0] 31)).alloc (.cells #[.slice none 0 0] 31)) A d c (.slice none 0 0) []:=by
 have hz:(w.alloc (.cells #[.slice A d.length c] 24)).heap.size=w.heap.size+1:=by simp
 have hz2:((w.alloc (.cells #[.slice A d.length c] 24)).alloc (.cells #[.slice none 0 0] 31)).heap.size=w.heap.size+1+1:=by simp
 refine ⟨((DBox.new h).step (zD _ _)).step (zD _ _),tmp_al ?_ _,?_,OutSt.nil _ _⟩
 ·have:=heap_alloc_new (w.alloc (.cells #[.slice A d.length c] 24)) (.cells #[.slice none 0 0] 31)
  rw[hz] at this;exact this
 ·have:=heap_alloc_new ((w.alloc (.cells #[.slice A d.length c] 24)).alloc (.cells #[.slice none 0 0] 31)) (.cells #[.slice none 0 0] 31)
  rw[hz2] at this;exact this
structure Mid (wi W:World) (x:NodeD) (A':zo) (c' b8:Nat) (t:TyD) (As:zo) (cs:Nat) (Am:zo) (cm:Nat):Prop where
 nb:NBox W wi.heap.size x A' c'
 tb:TBox W b8 t As cs Am cm
 bel:Below wi.heap.size wi W
 ne:wi.heap.size<b8
section
variable {wi W W':World} {x:NodeD} {A':zo} {c' b8:Nat} {t:TyD} {As:zo} {cs:Nat} {Am:zo} {cm:Nat}
theorem Mid.below (h:Mid wi W x A' c' b8 t As cs Am cm) (hb:Below W.heap.size W W'):Mid wi W' x A' c' b8 t As cs Am cm:=⟨h.nb.below hb,h.tb.below hb,zB h.bel hb,h.ne⟩
theorem mid_hold (h : Mid wi W x A' c' b8 t As cs Am cm) :
    (((W.cell? ⟨wi.heap.size, 0, none⟩ = some (.int .u8 x.kind) ∧ W.cell? ⟨wi.heap.size, 1, none⟩ = some (.int .u8 x.a) ∧ W.cell? ⟨wi.heap.size, 2, none⟩ = some (.int .u8 x.b) ∧ W.cell? ⟨wi.heap.size, 3, none⟩ = some (.int .u8 x.c) ∧ W.cell? ⟨wi.heap.size, 4, none⟩ = some (.slice A' x.parts.length c')) ∧ (∀ j, W.frozen? ⟨b8, j, none⟩ = false)) ∧
      (W.cell? ⟨b8, 0, none⟩ = some (.int .i64 t.kind) ∧ W.cell? ⟨b8, 1, none⟩ = some (.string t.name) ∧ W.cell? ⟨b8, 2, none⟩ = some (.int .i64 t.low) ∧ W.cell? ⟨b8, 3, none⟩ = some (.int .i64 t.high) ∧ W.cell? ⟨b8, 4, none⟩ = some (.int .i64 t.max) ∧ W.cell? ⟨b8, 5, none⟩ = some (.slice As t.syms.length cs) ∧ W.cell? ⟨b8, 6, none⟩ = some (.slice Am t.mems.length cm) ∧ W.cell? ⟨b8, 7, none⟩ = some (.int .i64 t.key) ∧ W.cell? ⟨b8, 8, none⟩ = some (.int .i64 t.elem) ∧ W.cell? ⟨b8, 9, none⟩ = some (.bool t.open_))) ∧
      Hid (Mid wi W x A' c' b8 t As cs Am cm) :=
  ⟨⟨⟨⟨h.nb.cell 0, h.nb.cell 1, h.nb.cell 2, h.nb.cell 3, h.nb.cell 4⟩, fun _ => frozen_of_row _ _ _ _ _ h.tb⟩, h.tb.cell 0, h.tb.cell 1, h.tb.cell 2, h.tb.cell 3, h.tb.cell 4, h.tb.cell 5, h.tb.cell 6, h.tb.cell 7, h.tb.cell 8, h.tb.cell 9⟩, h⟩
theorem Mid.other (h:Mid wi W x A' c' b8 t As cs Am cm) (j:Nat) (v:Value):NBox (W.setCell ⟨b8,j,none⟩ v) wi.heap.size x A' c'∧Below wi.heap.size wi (W.setCell ⟨b8,j,none⟩ v) :=
 ⟨(heap_setCell_other _ _ _ _ (by have:=h.ne;show wi.heap.size≠b8;omega)).trans h.nb,h.bel.setCell (p:=⟨b8,j,none⟩) (by have:=h.ne;show wi.heap.size≤b8;omega) v⟩
theorem Mid.blt (h:Mid wi W x A' c' b8 t As cs Am cm):b8<W.heap.size:=h.tb.blt
theorem Mid.set_low (h:Mid wi W x A' c' b8 t As cs Am cm) (m:Int):Mid wi (W.setCell ⟨b8,2,none⟩ (.int .i64 m)) x A' c' b8 { t with low:=m } As cs Am cm :=
 ⟨(h.other _ _).1,by have:=heap_setCell_same _ _ 2 _ _ (.int .i64 m) h.tb;unfold TBox;rw[this];simp,(h.other _ _).2,h.ne⟩
theorem Mid.set_high (h:Mid wi W x A' c' b8 t As cs Am cm) (m:Int):Mid wi (W.setCell ⟨b8,3,none⟩ (.int .i64 m)) x A' c' b8 { t with high:=m } As cs Am cm :=
 ⟨(h.other _ _).1,by have:=heap_setCell_same _ _ 3 _ _ (.int .i64 m) h.tb;unfold TBox;rw[this];simp,(h.other _ _).2,h.ne⟩
theorem Mid.set_max (h:Mid wi W x A' c' b8 t As cs Am cm) (m:Int):Mid wi (W.setCell ⟨b8,4,none⟩ (.int .i64 m)) x A' c' b8 { t with max:=m } As cs Am cm :=
 ⟨(h.other _ _).1,by have:=heap_setCell_same _ _ 4 _ _ (.int .i64 m) h.tb;unfold TBox;rw[this];simp,(h.other _ _).2,h.ne⟩
theorem Mid.set_key (h:Mid wi W x A' c' b8 t As cs Am cm) (m:Int):Mid wi (W.setCell ⟨b8,7,none⟩ (.int .i64 m)) x A' c' b8 { t with key:=m } As cs Am cm :=
 ⟨(h.other _ _).1,by have:=heap_setCell_same _ _ 7 _ _ (.int .i64 m) h.tb;unfold TBox;rw[this];simp,(h.other _ _).2,h.ne⟩
theorem Mid.set_elem (h:Mid wi W x A' c' b8 t As cs Am cm) (m:Int):Mid wi (W.setCell ⟨b8,8,none⟩ (.int .i64 m)) x A' c' b8 { t with elem:=m } As cs Am cm :=
 ⟨(h.other _ _).1,by have:=heap_setCell_same _ _ 8 _ _ (.int .i64 m) h.tb;unfold TBox;rw[this];simp,(h.other _ _).2,h.ne⟩
theorem Mid.set_open_ (h:Mid wi W x A' c' b8 t As cs Am cm) (m:Bool):Mid wi (W.setCell ⟨b8,9,none⟩ (.bool m)) x A' c' b8 { t with open_:=m } As cs Am cm :=
 ⟨(h.other _ _).1,by have:=heap_setCell_same _ _ 9 _ _ (.bool m) h.tb;unfold TBox;rw[this];simp,(h.other _ _).2,h.ne⟩
theorem Mid.set_name (h:Mid wi W x A' c' b8 t As cs Am cm) (m:ByteArray):Mid wi (W.setCell ⟨b8,1,none⟩ (.string m)) x A' c' b8 { t with name:=m } As cs Am cm :=
 ⟨(h.other _ _).1,by have:=heap_setCell_same _ _ 1 _ _ (.string m) h.tb;unfold TBox;rw[this];simp,(h.other _ _).2,h.ne⟩
theorem Mid.set_syms (h:Mid wi W x A' c' b8 t As cs Am cm) (l:List SymD) (B:zo) (d:Nat):Mid wi (W.setCell ⟨b8,5,none⟩ (.slice B l.length d)) x A' c' b8 { t with syms:=l } B d Am cm :=
 ⟨(h.other _ _).1,by have:=heap_setCell_same _ _ 5 _ _ (.slice B l.length d) h.tb;unfold TBox;rw[this];simp,(h.other _ _).2,h.ne⟩
theorem Mid.set_mems (h:Mid wi W x A' c' b8 t As cs Am cm) (l:List MemD) (B:zo) (d:Nat):Mid wi (W.setCell ⟨b8,6,none⟩ (.slice B l.length d)) x A' c' b8 { t with mems:=l } As cs B d :=
 ⟨(h.other _ _).1,by have:=heap_setCell_same _ _ 6 _ _ (.slice B l.length d) h.tb;unfold TBox;rw[this];simp,(h.other _ _).2,h.ne⟩
theorem mid_hold2 (h : Mid wi W x A' c' b8 t As cs Am cm) {q : Nat} {sv : Value} (hd : wi.cell? ⟨q, 0, none⟩ = some sv) :
    ((((W.cell? ⟨wi.heap.size, 0, none⟩ = some (.int .u8 x.kind) ∧ W.cell? ⟨wi.heap.size, 1, none⟩ = some (.int .u8 x.a) ∧ W.cell? ⟨wi.heap.size, 2, none⟩ = some (.int .u8 x.b) ∧ W.cell? ⟨wi.heap.size, 3, none⟩ = some (.int .u8 x.c) ∧ W.cell? ⟨wi.heap.size, 4, none⟩ = some (.slice A' x.parts.length c')) ∧ (∀ j, W.frozen? ⟨b8, j, none⟩ = false)) ∧
      (W.cell? ⟨b8, 0, none⟩ = some (.int .i64 t.kind) ∧ W.cell? ⟨b8, 1, none⟩ = some (.string t.name) ∧ W.cell? ⟨b8, 2, none⟩ = some (.int .i64 t.low) ∧ W.cell? ⟨b8, 3, none⟩ = some (.int .i64 t.high) ∧ W.cell? ⟨b8, 4, none⟩ = some (.int .i64 t.max) ∧ W.cell? ⟨b8, 5, none⟩ = some (.slice As t.syms.length cs) ∧ W.cell? ⟨b8, 6, none⟩ = some (.slice Am t.mems.length cm) ∧ W.cell? ⟨b8, 7, none⟩ = some (.int .i64 t.key) ∧ W.cell? ⟨b8, 8, none⟩ = some (.int .i64 t.elem) ∧ W.cell? ⟨b8, 9, none⟩ = some (.bool t.open_))) ∧ W.cell? ⟨q, 0, none⟩ = some sv) ∧
      Hid (Mid wi W x A' c' b8 t As cs Am cm) :=
  ⟨⟨(mid_hold h).1, zA h.bel hd⟩, h⟩
theorem mid_loose (h : Mid wi W x A' c' b8 t As cs Am cm) {q : Nat} {sv : Value} (hd : wi.cell? ⟨q, 0, none⟩ = some sv) :
    ((((W.cell? ⟨wi.heap.size, 0, none⟩ = some (.int .u8 x.kind) ∧ W.cell? ⟨wi.heap.size, 1, none⟩ = some (.int .u8 x.a) ∧ W.cell? ⟨wi.heap.size, 2, none⟩ = some (.int .u8 x.b) ∧ W.cell? ⟨wi.heap.size, 3, none⟩ = some (.int .u8 x.c) ∧ W.cell? ⟨wi.heap.size, 4, none⟩ = some (.slice A' x.parts.length c')) ∧ (∀ j, W.frozen? ⟨b8, j, none⟩ = false)) ∧
      (∀ j, j < 10 → (W.cell? ⟨b8, j, none⟩).isSome = true)) ∧ W.cell? ⟨q, 0, none⟩ = some sv) ∧ Hid (∃ t As cs Am cm, Mid wi W x A' c' b8 t As cs Am cm) :=
  ⟨⟨⟨(mid_hold h).1.1, fun j hj => by rw [h.tb.cell j]; simp; omega⟩, zA h.bel hd⟩, t, As, cs, Am, cm, h⟩
theorem mid_there (h:Mid wi W x A' c' b8 t As cs Am cm):W.there b8 0 10:=fun j hj=>by
 rw[Nat.zero_add];refine ⟨?_,frozen_of_row _ _ _ _ _ h.tb⟩;rw[cell_of_row _ _ _ _ _ _ h.tb]
 match j,hj with
 | 0,_=>rfl
 | 1,_=>rfl
 | 2,_=>rfl
 | 3,_=>rfl
 | 4,_=>rfl
 | 5,_=>rfl
 | 6,_=>rfl
 | 7,_=>rfl
 | 8,_=>rfl
 | 9,_=>rfl
theorem Mid.all (h:Mid wi W x A' c' b8 t As cs Am cm) (u:TyD):Mid wi (W.setCells b8 0 (u.cs none 0 none 0)) x A' c' b8 u none 0 none 0 :=
 ⟨(zN (by have:=h.ne;omega) _ _ _).trans h.nb,by unfold TBox;rw[heap_setCells_row _ _ _ _ h.tb];simp[setA],yC _ (by have:=h.ne;omega) _ _ _ h.bel,h.ne⟩
theorem Mid.keep (h:Mid wi W x A' c' b8 t As cs Am cm) (hb:Below wi.heap.size wi W') (hk:∀g,g=wi.heap.size∨g=b8→W'.heap[g]? = W.heap[g]?):Mid wi W' x A' c' b8 t As cs Am cm :=
 ⟨(hk _ (.inl rfl)).trans h.nb,(hk _ (.inr rfl)).trans h.tb,hb,h.ne⟩
theorem sy_hold (h:Mid wi W x A' c' b8 t As cs Am cm) {b3 o3:Nat} {ob:Obj} {z:Value} (hk:W.heap[b3]? = some ob) (hc:∀W:World,W.heap[b3]? = some ob→W.cell? ⟨b3,o3,none⟩=some z) :
  ((W.cell? ⟨b8,5,none⟩=some (.slice As t.syms.length cs)∧W.frozen? ⟨b8,5,none⟩=false)∧W.cell? ⟨b3,o3,none⟩=some z)∧Hid (Mid wi W x A' c' b8 t As cs Am cm∧W.heap[b3]? = some ob) :=
 ⟨⟨⟨h.tb.cell 5,frozen_of_row _ _ _ _ _ h.tb⟩,hc W hk⟩,h,hk⟩
end
def encY (s:SymD):List Value:=[.int .i64 s.id,.string s.name]
theorem encY_one (s:SymD):∀u∈encY s,u.oneCell'=true:=fun u hu=>by
 unfold encY at hu;simp only[List.mem_cons,List.mem_nil_iff,or_false] at hu
 rcases hu with rfl|rfl <;> rfl
theorem sy_off {W:World} {base:Nat} {B:zo} {dc:Nat} {L:List SymD} (h:OwnL 92 2 encY W base (.slice B L.length dc) L) (hl:L.length≤100) (hs:∀s∈L,SOk s.name):Off (· < base) W fun u=>SymsR u B L:=fun u hu=>by
 have ho:OwnL 92 2 encY u base (.slice B L.length dc) L:=h.keep fun g hg hlt _=>hu g (by omega) hlt
 obtain ⟨A',c',hv',hr⟩:=OwnL.rows (bytes:=24) (at_:=fun x cs=>SymD.At x cs) ho (fun _=>rfl) (by unfold Lim;omega) (fun s hm=>⟨hs s hm,rfl⟩)
 injection hv' with e1 _ _
 rw[e1];exact hr
theorem sch_info:(Tryz.prog.info? 31).map (·.size)=some 1:=by kernel_rfl
theorem OfSt.next {w W:World} {A:zo} {d:List NodeD} {c:Nat} {v:Value} {L:List TyA} (h:OfSt w W A d c v L) (hd:NodesR w A d) {x:TyA} (hx:Off (fun q=>q≤w.heap.size+1+1∨v.ownBlock=some q) W fun u=>TyR u x.t x.As x.Am) {v9:Value} {w9:World}
  (ho:w9.ownsRow (w.heap.size+1+1+1) 87 10 v9 (L.length+1) (L.flatMap TyA.cells++x.cells)) (hg:(W.alloc (.cells x.cells.toArray 87)).grownBy w9 v.ownBlock) (hv:v9.ownBlock=v.ownBlock∨v9.ownBlock=some (W.alloc (.cells x.cells.toArray 87)).heap.size) :
  w9.frozen? ⟨w.heap.size+1+1,0,none⟩=false∧w9.cell? ⟨w.heap.size+1+1,0,none⟩=some v∧w.heap.size+1+1<w9.heap.size∧OfSt w (w9.setCell ⟨w.heap.size+1+1,0,none⟩ v9) A d c v9 (L++[x]):=by
 have hnew:=zD W (.cells x.cells.toArray 87);have hzs:=(zg.1 h.sb).1;have hoo:=(h.out.below hnew).own;have hk:∀q,q<w.heap.size+1+1+1→w9.heap[q]? = W.heap[q]? := fun q hq=>(yA hg (by have:=hnew.size;omega) fun k hk e=>by have:=hoo.lt k hk;omega).trans (hnew.block q (by omega))
 have hsb:=(hk (w.heap.size+1+1) (by omega)).trans h.sb
 have hb9:Below w.heap.size w w9:=(zB h.db.below hnew).grown hg (zB h.db.below hnew).size (fun q hq=>by have:=hoo.lt q hq;omega)
 refine ⟨frozen_of_row _ _ _ _ _ hsb,by rw[cell_of_row _ _ _ _ _ _ hsb];rfl,(zg.1 hsb).1,⟨?_,?_,?_,?_⟩,?_,?_,?_⟩
 ·have:=(zg.1 hsb).1;simp;omega
 ·rw[World.cell?_of_block (w:=W) (w':=w9.setCell ⟨w.heap.size+1+1,0,none⟩ v9) (a:=⟨w.heap.size,0,none⟩) ((heap_setCell_other _ _ _ _ (by simp;omega)).trans (hk _ (by simp only;omega)))];exact h.db.cell
 ·exact hd.below (hb9.setCell (p:=⟨w.heap.size+1+1,0,none⟩) (by simp only;omega) _)
 ·exact hb9.setCell (p:=⟨w.heap.size+1+1,0,none⟩) (by simp only;omega) _
 ·exact ((heap_setCell_other _ _ _ _ (by simp)).trans (hk _ (by omega))).trans h.rb
 ·rw[heap_setCell_same _ _ 0 _ _ v9 hsb];rfl
 ·exact (OutSt.snoc (h.out.below hnew) (hx.low hnew) ho hg hv).set (by simp) (b:=w.heap.size+1+1) (Nat.le_refl _) (fun q hq _=>heap_setCell_other _ _ _ _ (by simpa using hq))
theorem wpList_append_o {T E:TypeId} {size bytes:Nat} (hE:Elem T E size bytes) (w:World) {ops:Array Oper} {rest:List Oper} {op:Oper} {a:Act} {Q:Exit→Act→World→Prop} (hgd:op.guard=none) (s x:Operand)
  (ho:op.op = .call { callee := .builtin .append,args:=#[s,x],argTypes:=#[T,T] }) (base:Nat) (v:Value) (n:Nat) (xs:List Value) (hs:a.eval s=v) (h:w.ownsRow base E size v n xs) (b o m c:Nat) (news:List Value) (hx:a.eval x = .slice (some ⟨b,o,none⟩) m c)
  (hl:news.length=m * size) (hnews:w.rangeAt b o news) (h1:∀u∈news,u.oneCell'=true) (hlen:n+m≤9223372036854775807) (hby:(n+m) * bytes≤140737488355328) (hb:base≤w.heap.size)
  (hk:∀v' w',w'.ownsRow base E size v' (n+m) (xs++news)→w.grownBy w' v.ownBlock→(v'.ownBlock=v.ownBlock∨v'.ownBlock=some w.heap.size)→wpList Tryz.prog ops Q rest (a.put op.dst v') w'):wpList Tryz.prog ops Q (op::rest) a w:=by
 refine wpList_plain hgd fun K hK=>?_
 obtain ⟨v',w',hr,h2,h3,h5⟩:=run_append_o hE w base op.type v n xs h b o m c news hl hnews h1 hlen hby hb;unfold Oper.wp execOp;simp only[ho,resolve,invoke,builtin,Sem.run_bind,Sem.run_pure,Result.andThen_ok,List.map_toArray,List.map_cons,List.map_nil,hs,hx,hr];exact hK _ _ (hk v' w' h2 h3 h5)
def OfPost (d:List NodeD) (w:World) (e:Ending) (w':World):Prop :=
 ∃A c s ok,e = .returned (.tuple #[.agg #[.slice A s.length c],.bool ok])∧TysR w' A s∧(ok=true→zQ s=0∧Short s∧s.length=d.length∧0<d.length∧d.length≤5∧(∀t∈s,In64 t.low∧In64 t.high)∧∀t∈s,∀m∈t.mems,FlatV m.dflt)∧(ok=false→s=[])∧Below w.heap.size w w'
theorem of_end {d:List NodeD} {w W':World} {A:zo} {c:Nat} {L:List TyA} (hd:DraftOk d (L.map (·.t))) (h1:1≤d.length) (h5:d.length≤5) (ht:TysR W' A (L.map (·.t))) (hb:Below w.heap.size w W'):OfPost d w (.returned (.tuple #[.agg #[.slice A L.length c],.bool true])) W':=by
 have h0:Ending.returned (.tuple #[.agg #[.slice A L.length c],.bool true]) = .returned (.tuple #[.agg #[.slice A (L.map (·.t)).length c],.bool true]):=by rw[List.length_map]
 have hv:=draft_valid hd h5;have hs:=draft_short hd;have hf:=draft_flat hd;have hnu:=draft_num hd;have hl:=hd.1;clear hd;generalize L.map (·.t)=s at *;exact ⟨A,c,s,true,h0,ht,fun _=>⟨hv,hs,hl,h1,h5,hnu,hf⟩,(fun h=>by cases h),hb⟩
def MidRel (wi:World) (d:List NodeD) (i:Nat) (x:NodeD) (A':zo) (c' b8:Nat) (wx:World):Prop :=
 ∃t As cs Am cm,Mid wi wx x A' c' b8 t As cs Am cm∧TyOk d i t∧Off (· < wi.heap.size) wx fun u=>TyR u t As Am
theorem of_any (d : List NodeD) (A : zo) (c : Nat) (w : World) (hd : NodesR w A d) :
    Calls Tryz.prog 11 #[draftV A d.length c] w (OfPost d w) := by
  have hn := hd.1.lt (by omega)
  have HD0 := zh hd;have HI := zh (OfSt.new (c := c) hd);clear hd
  by_cases hbad : d.length < 1 ∨ 5 < d.length
  · have HBD := zh (zI w (.cells #[.slice A d.length c] 24) (.cells #[.slice none 0 0] 31))
    rcases hbad with hb | hb
    · have q1 : decide ((d.length : Int) < 1) = true := by simp; omega
      have q3 : d = [] := List.eq_nil_of_length_eq_zero (by omega)
      subst q3;clear q1 hb
      go_enter Tryz.func11, Tryz.ntmps11
      go_wp2
      exact bodyPost_ret (v := .tuple #[.agg #[.slice none 0 0], .bool false]) (by simp [results, Tryz.results11, go_sem]) rfl ⟨none, 0, [], false, rfl, RowsR.nil _ _ _ _ _, (fun h => by cases h), (fun _ => rfl), HBD.out⟩
    · have q1 : decide ((d.length : Int) < 1) = false := by simp; omega
      have q2 : decide ((5 : Int) < (d.length : Int)) = true := by simp; omega
      clear hb
      go_enter Tryz.func11, Tryz.ntmps11
      go_wp2
      exact bodyPost_ret (v := .tuple #[.agg #[.slice none 0 0], .bool false]) (by simp [results, Tryz.results11, go_sem]) rfl ⟨none, 0, [], false, rfl, RowsR.nil _ _ _ _ _, (fun h => by cases h), (fun _ => rfl), HBD.out⟩
  have hn1 : 1 ≤ d.length := by omega
  have hn5 : d.length ≤ 5 := by omega
  have q1 : decide ((d.length : Int) < 1) = false := by simp; omega
  have q2 : decide ((5 : Int) < (d.length : Int)) = false := by simp; omega
  clear hbad
  go_enter Tryz.func11, Tryz.ntmps11
  go_wp2
  generalize ((w.alloc (.cells #[.slice A d.length c] 24)).alloc (.cells #[.slice none 0 0] 31)).alloc (.cells #[.slice none 0 0] 31) = wc at *
  go_loopw [6] (fun s wr => ∃ (i : Nat) (v : Value) (L : List TyA), i ≤ d.length ∧ s = .int .i64 (i : Int) ∧ Hid (OfSt w wr A d c v L ∧ L.length = i ∧ ∀ j (h : j < L.length), TyOk d j L[j].t)) (fun s _ => d.length - (intOf s).toNat)
  case atStart => exact ⟨0, _, [], by omega, rfl, HI.out, rfl, fun j h => absurd h (by simp)⟩
  case round =>
    obtain ⟨i, v, L, hi, rfl, hh⟩ := hrel;obtain ⟨wi, rfl⟩ : ∃ wi : World, wi = wr := ⟨_, rfl⟩;have HST := zh hh.out.1;have HLI := zh hh.out.2.1;have HOK := zh hh.out.2.2;clear hh
    by_cases hlt : i < d.length
    · have hdc := HST.out.db.cell
      have hdl := HST.out.db.lt;obtain ⟨b, o, A', c', rfl, hr, c0, c1, c2, c3, c4⟩ := HST.out.db.nodes.at5 hlt;generalize d.getD i node0 = x at *;have HR := zh hr;have hz := zL c0;simp only at hz;have g1 : (0:Int) ≤ (i:Int) := by omega
      have g2 : (i : Int) < (d.length : Int) := by omega
      clear hr;have HN1 := zh (NBox.new wi x A' c');have HB1 := zh (zD wi (x.box A' c'));have HS1 := zh (HST.out.below HB1.out);go_wp2_with fail;refine (kind_any d i _ c _ HS1.out.db.nodes hlt).mono ?_;rintro e w2 ⟨rfl, hb2⟩;have HKR := zh (kindN_range d i);have HK : ∃ K, Hid (kindN d i = K) := ⟨_, rfl⟩;obtain ⟨K, HK⟩ := HK;rw [HK.out]
      have HM0 : Hid (Mid wi (w2.alloc (.cells #[.int .i64 K, .string ⟨#[]⟩, .int .i64 0, .int .i64 0, .int .i64 0, .slice none 0 0, .slice none 0 0, .int .i64 0, .int .i64 0, .bool false] 87)) x A' c' w2.heap.size { zeroT with kind := K } none 0 none 0) :=
        ⟨(HN1.out.below hb2).below (zD _ _), heap_alloc_new _ _, zB (zB HB1.out hb2) (zD _ _), by have := (HN1.out.below hb2).blt; omega⟩
      have HS2 := zh ((HS1.out.below hb2).below (zD w2 (.cells #[.int .i64 K, .string ⟨#[]⟩, .int .i64 0, .int .i64 0, .int .i64 0, .slice none 0 0, .slice none 0 0, .int .i64 0, .int .i64 0, .bool false] 87)));clear hb2 c0 c1 c2 c3 c4 hz hdc hdl;have HN10 : Hid (namedD K = namedD K) := rfl;obtain ⟨NB, HNB⟩ : ∃ NB, Hid (namedD K = NB) := ⟨_, rfl⟩
      go_upto_if 37 with fail
      refine (rNamed_any _ _).mono ?_;rintro e w3 ⟨rfl, rfl⟩;rw [HNB.out];generalize w2.alloc (.cells #[.int .i64 K, .string ⟨#[]⟩, .int .i64 0, .int .i64 0, .int .i64 0, .slice none 0 0, .slice none 0 0, .int .i64 0, .int .i64 0, .bool false] 87) = W0 at *;generalize w2.heap.size = b8 at *;obtain ⟨⟨⟨⟨n0, n1, n2, n3, n4⟩, hfz⟩, t0, t1, t2, t3, t4, t5, t6, t7, t8, t9⟩, _⟩ := mid_hold HM0.out
      have hb8 := HM0.out.blt
      go_upto_if 37 with fail
      go_cut [] (fun wx => Hid (Mid wi wx x A' c' b8 { zeroT with kind := K, name := if namedD K then nmT i else ⟨#[]⟩ } none 0 none 0))
      case first =>
        as_aux_lemma =>
        cases NB with
        | true =>
          obtain ⟨S, hS⟩ : ∃ S, Utf8.encode (65 + (i : Int)) = S := ⟨_, rfl⟩;have HS : Hid (S = nmT i) := by have := (enc_low (n := i) (by omega)).2; rw [← hS]; exact this
          have HMS := zh (HM0.out.set_name S);go_wp2;go_meet;have := HMS.out;rw [HS.out] at this;rw [HNB.out, if_pos rfl, HS.out];exact this
        | false =>
          go_wp2
          go_meet
          rw [HNB.out];exact HM0.out
      case rest =>
      have HM1 := zh hcut.out;have HI20 : Hid (i ≤ 20) := by show _ ≤ _; omega
      have HXA := zh HR.out.a;have HXB := zh HR.out.b;have hpos : (0 : Int) < (d.length : Int) := by omega
      have hnz : ¬ ((d.length : Int) = 0) := by omega
      have hnil : ¬ (d = []) := fun e => by rw [e] at hn1; simp at hn1
      obtain ⟨ev, hev⟩ : ∃ ev : Int, ev = ((x.c % d.length : Nat) : Int) := ⟨_, rfl⟩;have hxc := HR.out.c;have hev1 : (x.c : Int).tmod (d.length : Int) = ev := hev.symm;have hev2 : (x.c : Int) % (d.length : Int) = ev := by rw [hev]; simp
      have hev3 : (IntKind.i64.wrap (x.c : Int)).tmod (d.length : Int) = ev := by rw [IntWalk.i64_in _ (by omega)]; exact hev1
      have hev4 : (wrap64 (x.c : Int)).tmod (d.length : Int) = ev := by rw [IntWalk.wrap64_in _ (by omega)]; exact hev1
      have HEL : Hid (0 ≤ ev ∧ ev < (d.length : Int)) := by
        have := Nat.mod_lt x.c (show 0 < d.length by omega)
        show _ ∧ _
        omega
      obtain ⟨mx, hmx⟩ : ∃ mx : Int, mx = ((x.a % 4 : Nat) : Int) := ⟨_, rfl⟩;have hmx1 : (x.a : Int).tmod 4 = mx := hmx.symm;have hmx2 : (x.a : Int) % 4 = mx := by rw [hmx]; simp
      have hmx3 : IntKind.i64.wrap mx = mx := IntWalk.i64_in _ (by omega)
      have HMX : Hid (0 ≤ mx ∧ mx ≤ 3) := by show _ ∧ _; omega
      clear hev hmx hxc;have HDC := zh HST.out.db.cell;clear hcut HM0 HS1 HS2 n0 n1 n2 n3 n4 hfz t0 t1 t2 t3 t4 t5 t6 t7 t8 t9 hb8 HN1 HB1 HN10;obtain ⟨⟨⟨⟨⟨n0, n1, n2, n3, n4⟩, hfz⟩, t0, t1, t2, t3, t4, t5, t6, t7, t8, t9⟩, hdc⟩, _⟩ := mid_hold2 HM1.out HDC.out;have hb8 := HM1.out.blt;have hb7 := HM1.out.nb.blt
      go_upto_block 2 with fail
      clear n0 n1 n2 n3 n4 hfz t0 t1 t2 t3 t4 t5 t6 t7 t8 t9 hb8 hb7 hdc
      go_cut [] (fun wx => Hid (MidRel wi d i x A' c' b8 wx))
      case first =>
        as_aux_lemma =>
        have hK : K = 1 ∨ K = 2 ∨ K = 3 ∨ K = 4 ∨ K = 5 ∨ K = 6 ∨ K = 7 ∨ K = 8 ∨ K = 9 := by have := HKR.out; have := HK.out; omega
        rcases hK with rfl | rfl | rfl | rfl | rfl | rfl | rfl | rfl | rfl
        · have HM : Hid (Mid wi wc x A' c' b8 { zeroT with kind := 1 } none 0 none 0) := zh (show Mid wi wc x A' c' b8 { zeroT with kind := 1 } none 0 none 0 from HM1.out)
          clear HM1;obtain ⟨⟨⟨⟨⟨n0, n1, n2, n3, n4⟩, hfz⟩, t0, t1, t2, t3, t4, t5, t6, t7, t8, t9⟩, hdc⟩, _⟩ := mid_hold2 HM.out HDC.out;have hb8 := HM.out.blt;have hb7 := HM.out.nb.blt;have hdl := zL hdc;simp only at hdl;go_wp2;go_meet;exact ⟨_, none, 0, none, 0, HM.out, tyOk_bool HI20.out HK.out, (fun u _ => tyR_none (yK (show (0 : Nat) ≤ 100 by decide)) rfl rfl)⟩
        · have HM : Hid (Mid wi wc x A' c' b8 { zeroT with kind := 2 } none 0 none 0) := zh (show Mid wi wc x A' c' b8 { zeroT with kind := 2 } none 0 none 0 from HM1.out)
          clear HM1;obtain ⟨⟨⟨⟨⟨n0, n1, n2, n3, n4⟩, hfz⟩, t0, t1, t2, t3, t4, t5, t6, t7, t8, t9⟩, hdc⟩, _⟩ := mid_hold2 HM.out HDC.out;have hb8 := HM.out.blt;have hb7 := HM.out.nb.blt;have hdl := zL hdc;simp only at hdl;go_wp2_with fail
          refine wp_region_held_drew (S := (fun w' => ((((w'.cell? ⟨wi.heap.size, 0, none⟩ = some (.int .u8 x.kind) ∧ w'.cell? ⟨wi.heap.size, 1, none⟩ = some (.int .u8 x.a) ∧ w'.cell? ⟨wi.heap.size, 2, none⟩ = some (.int .u8 x.b) ∧ w'.cell? ⟨wi.heap.size, 3, none⟩ = some (.int .u8 x.c) ∧ w'.cell? ⟨wi.heap.size, 4, none⟩ = some (.slice A' x.parts.length c')) ∧ (∀ j, w'.frozen? ⟨b8, j, none⟩ = false)) ∧ (∀ j, j < 10 → (w'.cell? ⟨b8, j, none⟩).isSome = true)) ∧ w'.cell? ⟨w.heap.size, 0, none⟩ = some (.slice (some ⟨b, o, none⟩) d.length c)) ∧ Hid (∃ t As cs Am cm, Mid wi w' x A' c' b8 t As cs Am cm))) (by kernel_rfl) ?_ (fun zH_ => ?_)
          · (try dsimp only); exact mid_loose (HM.out.below (zC (Below.refl _ _) 1)) HDC.out
          have HMa := zh (HM.out.below (zC (Below.refl wc.heap.size wc) 1));refine tL 0 ?_
          (try simp only [ps])
          refine tL 2 ?_
          (try simp only [ps])
          refine tR 1 (fun K hK => ?_)
          go_simp
          (refine (low_any x A' c' _ HXA.out).mono ?_; rintro e w4 ⟨rfl, hbx⟩; have HMb := zh (HMa.out.below hbx))
          refine hK.out _ _ ?_ (fun zH_ => ?_)
          · (try dsimp only); exact mid_loose HMb.out HDC.out
          clear hK K
          (try simp only [ps])
          refine tL 4 ?_
          (try simp only [ps])
          refine tR 3 (fun K hK => ?_)
          go_simp
          (refine (high_any x A' c' _ HXA.out).mono ?_; rintro e w5 ⟨rfl, hbx⟩; have HMc := zh (HMb.out.below hbx))
          refine hK.out _ _ ?_ (fun zH_ => ?_)
          · (try dsimp only); exact mid_loose HMc.out HDC.out
          clear hK K
          (try simp only [ps])
          refine tR 5 (fun K hK => ?_)
          (obtain ⟨z5, hz5⟩ := Option.isSome_iff_exists.1 (zH_.1.1.2 2 (by decide)); have hf5 := zH_.1.1.1.2 2; go_simp; have HMd := zh (HMc.out.set_low (lowN x)))
          refine hK.out _ _ ?_ (fun zH_ => ?_)
          · (try dsimp only); exact mid_loose HMd.out HDC.out
          clear hK K
          (try simp only [ps])
          refine tL 6 ?_
          (try simp only [ps])
          refine tR 7 (fun K hK => ?_)
          (obtain ⟨z7, hz7⟩ := Option.isSome_iff_exists.1 (zH_.1.1.2 3 (by decide)); have hf7 := zH_.1.1.1.2 3; go_simp; have HMe := zh (HMd.out.set_high (highN x)))
          refine hK.out _ _ ?_ (fun zH_ => ?_)
          · (try dsimp only); exact mid_loose HMe.out HDC.out
          clear hK K
          (try simp only [ps])
          refine wpAnyH_done (by kernel_rfl) ?_ _
          go_wp2
          go_meet
          exact ⟨_, none, 0, none, 0, HMe.out, tyOk_int HI20.out HK.out (low_high x) (low_num x), (fun u _ => tyR_none (yK (show (0 : Nat) ≤ 100 by decide)) rfl rfl)⟩
        · have HM : Hid (Mid wi wc x A' c' b8 { zeroT with kind := 3 } none 0 none 0) := zh (show Mid wi wc x A' c' b8 { zeroT with kind := 3 } none 0 none 0 from HM1.out)
          clear HM1;obtain ⟨⟨⟨⟨⟨n0, n1, n2, n3, n4⟩, hfz⟩, t0, t1, t2, t3, t4, t5, t6, t7, t8, t9⟩, hdc⟩, _⟩ := mid_hold2 HM.out HDC.out;have hb8 := HM.out.blt;have hb7 := HM.out.nb.blt;have hdl := zL hdc;simp only at hdl;go_wp2;go_meet;exact ⟨_, none, 0, none, 0, HM.out.set_max _, tyOk_str HI20.out HK.out HMX.out, (fun u _ => tyR_none (yK (show (0 : Nat) ≤ 100 by decide)) rfl rfl)⟩
        · have HM : Hid (Mid wi wc x A' c' b8 { zeroT with kind := 4, name := nmT i } none 0 none 0) := zh (show Mid wi wc x A' c' b8 { zeroT with kind := 4, name := nmT i } none 0 none 0 from HM1.out)
          clear HM1;obtain ⟨⟨⟨⟨⟨n0, n1, n2, n3, n4⟩, hfz⟩, t0, t1, t2, t3, t4, t5, t6, t7, t8, t9⟩, hdc⟩, _⟩ := mid_hold2 HM.out HDC.out;have hb8 := HM.out.blt;have hb7 := HM.out.nb.blt;have hdl := zL hdc;simp only at hdl;obtain ⟨E, hE⟩ : ∃ E, ((x.b : Int) % 2 == 1) = E := ⟨_, rfl⟩;have HME := zh (HM.out.set_open_ E);go_upto_region 19 with fail
          clear n0 n1 n2 n3 n4 hfz t0 t1 t2 t3 t4 t5 t6 t7 t8 t9 hdc hb8 hb7 hdl hE;generalize wc.setCell ⟨b8, 9, none⟩ (.bool E) = W2 at *;obtain ⟨⟨⟨⟨⟨n0, n1, n2, n3, n4⟩, hfz⟩, t0, t1, t2, t3, t4, t5, t6, t7, t8, t9⟩, hdc⟩, _⟩ := mid_hold2 HME.out HDC.out;have hb8 := HME.out.blt;have hb7 := HME.out.nb.blt;have hdl := zL hdc;simp only at hdl;go_wp2_with fail;refine (rIds_any x A' c' _ HXA.out).mono ?_
          rintro e W5 ⟨v5, rfl, ho5, hb5⟩;have HLN := zh (idsN_ok x);have HLE : Hid ((idsN x).length ≤ 6) := by have := asc_len (idsN x) 0 6 HLN.out.1 HLN.out.2.1 (by omega); show _ ≤ _; omega
          obtain ⟨A5, c5, rfl, hi5⟩ := OwnI.ints ho5 (by have := HLE.out; unfold Lim; omega)
          have HM5 := zh (HME.out.below hb5);have HI5 := zh hi5;have HO5 : Hid (∀ g o, A5 = some ⟨g, o, none⟩ → g ≠ b8 ∧ g < W5.heap.size) := fun g o hg => by
            have := World.ownsRow.lt ho5 g (by rw [hg]; rfl)
            have := HME.out.blt;exact ⟨by omega, by omega⟩
          have HSL : Hid ((symsN x).length = (idsN x).length) := by show _ = _; simp [symsN]
          have HW5 : Hid (wi.heap.size ≤ W5.heap.size) := HM5.out.bel.size;clear hi5 ho5 hb5 n0 n1 n2 n3 n4 hfz t0 t1 t2 t3 t4 t5 t6 t7 t8 t9 hdc hb8 hb7 hdl;go_wp2
          go_loopw [10] (fun s wr => ∃ (q : Nat) (B : zo) (dc : Nat) (L : List SymD), q ≤ (idsN x).length ∧ s = .int .i64 (q : Int) ∧ Hid (L = (symsN x).take q ∧ Mid wi wr x A' c' b8 { zeroT with kind := 4, name := nmT i, syms := L, open_ := E } B dc none 0 ∧ OwnL 92 2 encY wr W5.heap.size (.slice B L.length dc) L ∧ (∀ g, g ≠ b8 → g < W5.heap.size → wr.heap[g]? = W5.heap[g]?) ∧ W5.heap.size ≤ wr.heap.size)) (fun s _ => (idsN x).length - (intOf s).toNat)
          case atStart => exact ⟨0, none, 0, [], by omega, rfl, rfl, HM5.out, OwnL.nil _ _, (fun _ _ _ => rfl), Nat.le_refl _⟩
          case round =>
            obtain ⟨q, B, dc, L, hq, rfl, hh⟩ := hrel;obtain ⟨wo, rfl⟩ : ∃ wo : World, wo = wr := ⟨_, rfl⟩;have HLT := zh hh.out.1;have HMO := zh hh.out.2.1;have HOO := zh hh.out.2.2.1;have HKO := zh hh.out.2.2.2.1;have HBS := zh hh.out.2.2.2.2;have HIO : Hid (IntsR wo A5 (idsN x)) := ints_low HI5.out fun g o' e => HKO.out g (HO5.out g o' e).1 (HO5.out g o' e).2
            have HLL : Hid (L.length ≤ 6) := by show _ ≤ _; rw [HLT.out]; have := HLE.out; have := HSL.out; simp; omega
            have hle6 := HLE.out;have hs5 : wo.cell? ⟨b8, 5, none⟩ = some (.slice B L.length dc) := HMO.out.tb.cell 5;clear hh
            by_cases hql : q < (idsN x).length
            · obtain ⟨b3, o3, rfl, i3⟩ := HIO.out.at1 hql
              have HTK0 : Hid ((symsN x).take (q + 1) = L ++ [⟨(idsN x)[q], nmM 115 ((idsN x)[q]).toNat⟩]) := by
                show _ = _
                have hql' : q < (symsN x).length := by rw [HSL.out]; exact hql
                rw [List.take_succ_eq_append_getElem hql', ← HLT.out];simp [symsN]
              have hzr := HLN.out.2.1 _ (List.getElem_mem hql);generalize (idsN x)[q] = z at *;obtain ⟨zn, rfl⟩ := Int.eq_ofNat_of_zero_le (show 0 ≤ z by omega)
              have hlt3 := zL i3;simp only at hlt3;obtain ⟨ob, hob⟩ : ∃ ob, wo.heap[b3]? = some ob := ⟨_, Array.getElem?_eq_getElem hlt3⟩;have HOB := zh hob;have HCZ : Hid (∀ W : World, W.heap[b3]? = some ob → W.cell? ⟨b3, o3 + q, none⟩ = some (.int .i64 (zn : Int))) := fun W hW => (World.cell?_of_block (w := wo) (w' := W) (a := ⟨b3, o3 + q, none⟩) (hW.trans HOB.out.symm)).trans i3
              have H3 := zh (HO5.out b3 o3 rfl);obtain ⟨S, hS⟩ : ∃ S, Utf8.encode (97 + (zn : Int)) = S := ⟨_, rfl⟩;have hS2 : Utf8.encode (IntKind.i32.wrap (IntKind.i64.wrap (97 + (zn : Int)))) = S := by rw [IntWalk.i64_in _ (by omega), IntWalk.i32_in _ (by omega)]; exact hS
              have HS : Hid (S = ⟨#[UInt8.ofNat (97 + zn)]⟩) := by have := (enc_low (n := zn) (by omega)).1; rw [← hS]; exact this
              have hds : ¬ 9223372036854775807 < 1 + S.size := by have : S.size = 1 := by rw [HS.out]; rfl
                                                                  omega
              have HTK : Hid ((symsN x).take (q + 1) = L ++ [⟨(zn : Int), (⟨#[115]⟩ : ByteArray) ++ S⟩]) := by
                show _ = _
                rw [HTK0.out, HS.out, nm_app]; rfl
              have hbb := HMO.out.blt;have g1 : (0:Int) ≤ (q:Int) := by omega
              have g2 : (q : Int) < ((idsN x).length : Int) := by omega
              have hzr2 := hzr.2;clear hob HTK0 hzr;go_wp2_with fail
              refine yE (S := (fun w' => ((w'.cell? ⟨b8, 5, none⟩ = some (.slice B L.length dc) ∧ w'.frozen? ⟨b8, 5, none⟩ = false) ∧ w'.cell? ⟨b3, o3 + q, none⟩ = some (.int .i64 (zn : Int))) ∧ Hid (Mid wi w' x A' c' b8 { zeroT with kind := 4, name := nmT i, syms := L, open_ := E } B dc none 0 ∧ w'.heap[b3]? = some ob))) 18 (by kernel_rfl) ?_ (fun zH_ => ?_)
              · (try dsimp only); exact sy_hold (HMO.out.below (zC (Below.refl _ _) 1)) HOB.out HCZ.out
              refine tC 0 ?_
              (try simp only [ps])
              refine tB 1 ?_
              (try simp only [ps])
              refine tC 2 ?_
              (try simp only [ps])
              refine tC 3 ?_
              (try simp only [ps])
              refine tC 4 ?_
              (try simp only [ps])
              refine tB 5 ?_
              (try simp only [ps])
              refine tC 6 ?_
              (try simp only [ps])
              refine tC 7 ?_
              (try simp only [ps])
              refine tC 8 ?_
              (try simp only [ps])
              refine tB 9 ?_
              (try simp only [ps])
              refine tC 10 ?_
              (try simp only [ps])
              refine tC 11 ?_
              (try simp only [ps])
              refine tC 12 ?_
              (try simp only [ps])
              refine tC 13 ?_
              (try simp only [ps])
              refine tC 14 ?_
              (try simp only [ps])
              refine tS 15 (fun K hK => ?_)
              go_simp
              refine hK.out _ _ ?_ (fun zH_ => ?_)
              · (try dsimp only); exact sy_hold (zH_.2.out.1.below (zD _ _)) (tmp_al zH_.2.out.2 _) HCZ.out
              clear hK K
              (try simp only [ps])
              refine tS 16 (fun K hK => ?_)
              (have HW6 := zh (OwnL.alloc (HOO.out.below (zC (Below.refl wo.heap.size wo) 1)) (.cells #[.int .i64 (zn : Int), .string ((⟨#[115]⟩ : ByteArray) ++ S)] 92)); have HRN6 := zh (zR (wo.drewN 1) [.int .i64 (zn : Int), .string ((⟨#[115]⟩ : ByteArray) ++ S)] 92); have HZ6 : Hid (W5.heap.size ≤ ((wo.drewN 1).alloc (.cells #[.int .i64 (zn : Int), .string ((⟨#[115]⟩ : ByteArray) ++ S)] 92)).heap.size) := (by have := HMO.out.blt; show _ ≤ _; have := HBS.out; simp; omega); have HM6 := zh zH_.2.out.1; have HB6 := zh zH_.2.out.2; refine step_append_o elem_sym (by rfl) (.tmp 76) (.tmp 90) (by rfl) W5.heap.size (.slice B L.length dc) L.length (L.flatMap encY) (by rfl) HW6.out wo.heap.size 0 1 1 [.int .i64 (zn : Int), .string ((⟨#[115]⟩ : ByteArray) ++ S)] (by rfl) rfl HRN6.out (encY_one ⟨(zn : Int), (⟨#[115]⟩ : ByteArray) ++ S⟩) (by have := HLL.out; omega) (by have := HLL.out; omega) HZ6.out ?_; intro v8 w8 ho8 hg8 hv8; have ho9 := OwnL.snoc (enc := encY) (x := (⟨(zn : Int), (⟨#[115]⟩ : ByteArray) ++ S⟩ : SymD)) ho8; obtain ⟨B8, d8, rfl, _⟩ := OwnL.reads ho9; have HO9 := zh ho9; have HKG : Hid (∀ g, g < W5.heap.size → w8.heap[g]? = ((wo.drewN 1).alloc (.cells #[.int .i64 (zn : Int), .string ((⟨#[115]⟩ : ByteArray) ++ S)] 92)).heap[g]?) := zh (fun g hg => yA hg8 (by have := HZ6.out; omega) (fun j hj e => by have := HOO.out.lt j hj; omega)); have HM8 : Hid (Mid wi w8 x A' c' b8 { zeroT with kind := 4, name := nmT i, syms := L, open_ := E } B dc none 0) := zh (HM6.out.keep (HM6.out.bel.grown hg8 HM6.out.bel.size (fun j hj => by have := HOO.out.lt j hj; have := HW5.out; omega)) (fun g hg => HKG.out g (by rcases hg with rfl | rfl; (have := HM5.out.nb.blt; omega); (have := HM5.out.blt; omega)))); have HB8 : Hid (w8.heap[b3]? = some ob) := zh ((HKG.out b3 H3.out.2).trans HB6.out); have HKF : Hid (∀ g, g ≠ b8 → g < W5.heap.size → w8.heap[g]? = W5.heap[g]?) := zh (fun g h1 h2 => ((HKG.out g h2).trans ((zD (wo.drewN 1) _).block g (by have := HBS.out; show g < wo.heap.size; omega))).trans (HKO.out g h1 h2)); have HSZ8 : Hid (W5.heap.size ≤ w8.heap.size) := Nat.le_trans HZ6.out hg8.size; clear ho8 ho9 hg8 hv8)
              refine hK.out _ _ ?_ (fun zH_ => ?_)
              · (try dsimp only); exact sy_hold HM8.out HB8.out HCZ.out
              clear hK K
              (try simp only [ps])
              refine tC 17 ?_
              (try simp only [ps])
              refine zV (rs := [18]) (by kernel_rfl) (by simp) ?_
              refine AllReadyB.last rfl (by kernel_rfl) (fun K hK => ?_) AllReadyB.nil
              (obtain ⟨⟨⟨hc5, hf5⟩, _⟩, hin⟩ := zH_; go_simp)
              refine hK.out _ _ ?_;clear hK K
              (try clear zH_)
              (try simp only [ps])
              refine wpAny_done (by kernel_rfl) ?_ _
              have HN := zh (HM8.out.set_syms (L ++ [⟨(zn : Int), (⟨#[115]⟩ : ByteArray) ++ S⟩]) B8 d8)
              have HOW : Hid (OwnL 92 2 encY (w8.setCell ⟨b8, 5, none⟩ (.slice B8 (L ++ [(⟨(zn : Int), (⟨#[115]⟩ : ByteArray) ++ S⟩ : SymD)]).length d8)) W5.heap.size (.slice B8 (L ++ [(⟨(zn : Int), (⟨#[115]⟩ : ByteArray) ++ S⟩ : SymD)]).length d8) (L ++ [(⟨(zn : Int), (⟨#[115]⟩ : ByteArray) ++ S⟩ : SymD)])) := HO9.out.keep fun g hg _ _ => heap_setCell_other _ _ _ _ (by have := HM5.out.blt; simp only; omega)
              have HKN : Hid (∀ g, g ≠ b8 → g < W5.heap.size → (w8.setCell ⟨b8, 5, none⟩ (.slice B8 (L ++ [(⟨(zn : Int), (⟨#[115]⟩ : ByteArray) ++ S⟩ : SymD)]).length d8)).heap[g]? = W5.heap[g]?) := fun g h1 h2 => (heap_setCell_other _ _ _ _ (by simpa using h1)).trans (HKF.out g h1 h2)
              clear hc5 hf5 hin;go_wp2;go_roundw
              case rel =>
                refine ⟨q + 1, B8, d8, L ++ [⟨(zn : Int), (⟨#[115]⟩ : ByteArray) ++ S⟩], by omega, by go_num, HTK.out.symm, ?_⟩
                have h := And.intro HN.out (And.intro HOW.out (And.intro HKN.out (show W5.heap.size ≤ (w8.setCell ⟨b8, 5, none⟩ (.slice B8 (L ++ [(⟨(zn : Int), (⟨#[115]⟩ : ByteArray) ++ S⟩ : SymD)]).length d8)).heap.size by have := HSZ8.out; simpa using this)))
                simp only [List.length_append, List.length_cons, List.length_nil, Nat.zero_add] at h ⊢;exact h
              case measure => simp [intOf]; omega
            · obtain rfl : L = symsN x := by rw [HLT.out]; exact List.take_of_length_le (by rw [HSL.out]; omega)
              have HOF := zh (sy_off HOO.out (by have := HLL.out; omega) (fun s hs => by obtain ⟨n, _, rfl⟩ := List.mem_map.1 (show s ∈ symsN x from hs); exact yK (show (2 : Nat) ≤ 100 by decide)))
              go_wp2
              go_meet
              exact ⟨_, B, dc, none, 0, HMO.out, tyOk_enum HI20.out HK.out x E, fun u hu => ⟨yK (show (1 : Nat) ≤ 100 by decide), (HOF.out.mono fun g _ hg => by have := HW5.out; omega) u hu, RowsR.nil _ _ _ _ _⟩⟩
        · have HM : Hid (Mid wi wc x A' c' b8 { zeroT with kind := 5, name := nmT i } none 0 none 0) := zh (show Mid wi wc x A' c' b8 { zeroT with kind := 5, name := nmT i } none 0 none 0 from HM1.out)
          clear HM1;obtain ⟨⟨⟨⟨⟨n0, n1, n2, n3, n4⟩, hfz⟩, t0, t1, t2, t3, t4, t5, t6, t7, t8, t9⟩, hdc⟩, _⟩ := mid_hold2 HM.out HDC.out;have hb8 := HM.out.blt;have hb7 := HM.out.nb.blt;have hdl := zL hdc;simp only at hdl;go_wp2_with fail;refine (parts_any d i true _ c _ ((HST.out.below HM.out.bel).db.nodes) hlt).mono ?_;rintro e w5 ⟨v5, ms, rfl, hms, hb5⟩;obtain ⟨A5, c5, rfl, hoff⟩ := hms.mems
          have HM5 := zh ((HM.out.below hb5).set_mems ms A5 c5);have HOK5 := zh hms.ok;have HFL5 := zh hms.flat;have HF5 : Hid (Off (· < wi.heap.size) (w5.setCell ⟨b8, 6, none⟩ (.slice A5 ms.length c5)) fun u => MemsR u A5 ms) := (hoff.set (a := ⟨b8, 6, none⟩) (.slice A5 ms.length c5) HM.out.blt).mono fun q _ hq => by have := HM.out.bel.size; omega
          have hf6 := frozen_of_row _ _ 6 _ _ (HM.out.below hb5).tb;have hc6 : w5.cell? ⟨b8, 6, none⟩ = some (.slice none 0 0) := (HM.out.below hb5).tb.cell 6;have hl6 := (HM.out.below hb5).blt;clear hms hoff hb5 n0 n1 n2 n3 n4 hfz t0 t1 t2 t3 t4 t5 t6 t7 t8 t9 hdc hb8 hb7 hdl;go_wp2;go_meet
          exact ⟨_, none, 0, A5, c5, HM5.out, tyOk_rec HI20.out (by rw [HK.out]; rfl) HOK5.out HFL5.out, fun u hu => tyR_mems (yK (show (1 : Nat) ≤ 100 by decide)) rfl (HF5.out u hu)⟩
        · have HM : Hid (Mid wi wc x A' c' b8 { zeroT with kind := 6, name := nmT i } none 0 none 0) := zh (show Mid wi wc x A' c' b8 { zeroT with kind := 6, name := nmT i } none 0 none 0 from HM1.out)
          clear HM1;obtain ⟨⟨⟨⟨⟨n0, n1, n2, n3, n4⟩, hfz⟩, t0, t1, t2, t3, t4, t5, t6, t7, t8, t9⟩, hdc⟩, _⟩ := mid_hold2 HM.out HDC.out;have hb8 := HM.out.blt;have hb7 := HM.out.nb.blt;have hdl := zL hdc;simp only at hdl;obtain ⟨E, hE⟩ : ∃ E, ((x.b : Int) % 2 == 1) = E := ⟨_, rfl⟩;have HME := zh (HM.out.set_open_ E);go_upto_region 28 with fail
          clear n0 n1 n2 n3 n4 hfz t0 t1 t2 t3 t4 t5 t6 t7 t8 t9 hdc hb8 hb7 hdl hE;generalize wc.setCell ⟨b8, 9, none⟩ (.bool E) = W2 at *;obtain ⟨⟨⟨⟨⟨n0, n1, n2, n3, n4⟩, hfz⟩, t0, t1, t2, t3, t4, t5, t6, t7, t8, t9⟩, hdc⟩, _⟩ := mid_hold2 HME.out HDC.out;have hb8 := HME.out.blt;have hb7 := HME.out.nb.blt;have hdl := zL hdc;simp only at hdl;go_wp2_with fail
          refine (parts_any d i false _ c _ ((HST.out.below HME.out.bel).db.nodes) hlt).mono ?_;rintro e w5 ⟨v5, ms, rfl, hms, hb5⟩;obtain ⟨A5, c5, rfl, hoff⟩ := hms.mems;have HM5 := zh ((HME.out.below hb5).set_mems ms A5 c5);have HOK5 := zh hms.ok;have HFL5 := zh hms.flat
          have HF5 : Hid (Off (· < wi.heap.size) (w5.setCell ⟨b8, 6, none⟩ (.slice A5 ms.length c5)) fun u => MemsR u A5 ms) := (hoff.set (a := ⟨b8, 6, none⟩) (.slice A5 ms.length c5) HME.out.blt).mono fun q _ hq => by have := HME.out.bel.size; omega
          have hf6 := frozen_of_row _ _ 6 _ _ (HME.out.below hb5).tb;have hc6 : w5.cell? ⟨b8, 6, none⟩ = some (.slice none 0 0) := (HME.out.below hb5).tb.cell 6;have hl6 := (HME.out.below hb5).blt;clear hms hoff hb5 n0 n1 n2 n3 n4 hfz t0 t1 t2 t3 t4 t5 t6 t7 t8 t9 hdc hb8 hb7 hdl;go_upto_region 29 with fail
          clear hf6 hc6 hl6;generalize w5.setCell ⟨b8, 6, none⟩ (.slice A5 ms.length c5) = W6 at *;have s1 : W6.cell? ⟨b8, 1, none⟩ = some (.string (nmT i)) := HM5.out.tb.cell 1;have s6 : W6.cell? ⟨b8, 6, none⟩ = some (.slice A5 ms.length c5) := HM5.out.tb.cell 6;have hl6 := HM5.out.blt
          by_cases hne : ms = []
          · have hel : ((ms.length : Int) == 0) = true := by rw [hne]; rfl
            have HTH := zh (mid_there HM5.out);have HMA := zh (HM5.out.all { zeroT with kind := 5, name := nmT i })
            clear hne;go_wp2_with (refine wpList_store_mid rfl 87 (.tmp 8) (.tmp 116) rfl b8 0 #[.int .i64 5, .string (nmT i), .int .i64 0, .int .i64 0, .int .i64 0, .slice none 0 0, .slice none 0 0, .int .i64 0, .int .i64 0, .bool false] (by rfl) (by rfl) ?_ ?_ ?_ ?_; (exact HTH.out); (exact ty_info); (exact ty_one { zeroT with kind := 5, name := nmT i } none 0 none 0))
            go_meet
            exact ⟨_, none, 0, none, 0, HMA.out, tyOk_rec HI20.out (by rw [HK.out]; rfl) (MsOk.nil _ _ _) (fun _ h => by cases h), fun u _ => tyR_none (yK (show (1 : Nat) ≤ 100 by decide)) rfl rfl⟩
          · have hel : ((ms.length : Int) == 0) = false := by
              have : ms.length ≠ 0 := fun e => hne (List.eq_nil_of_length_eq_zero e)
              simp; omega
            have HNE := zh hne;clear hne;go_wp2;go_meet;exact ⟨_, none, 0, A5, c5, HM5.out, tyOk_union HI20.out (by rw [HK.out]; rfl) HOK5.out HFL5.out HNE.out E, fun u hu => tyR_mems (yK (show (1 : Nat) ≤ 100 by decide)) rfl (HF5.out u hu)⟩
        · have HM : Hid (Mid wi wc x A' c' b8 { zeroT with kind := 7 } none 0 none 0) := zh (show Mid wi wc x A' c' b8 { zeroT with kind := 7 } none 0 none 0 from HM1.out)
          clear HM1;obtain ⟨⟨⟨⟨⟨n0, n1, n2, n3, n4⟩, hfz⟩, t0, t1, t2, t3, t4, t5, t6, t7, t8, t9⟩, hdc⟩, _⟩ := mid_hold2 HM.out HDC.out;have hb8 := HM.out.blt;have hb7 := HM.out.nb.blt;have hdl := zL hdc;simp only at hdl;go_wp2_with fail
          refine wp_region_held_drew (S := (fun w' => ((((w'.cell? ⟨wi.heap.size, 0, none⟩ = some (.int .u8 x.kind) ∧ w'.cell? ⟨wi.heap.size, 1, none⟩ = some (.int .u8 x.a) ∧ w'.cell? ⟨wi.heap.size, 2, none⟩ = some (.int .u8 x.b) ∧ w'.cell? ⟨wi.heap.size, 3, none⟩ = some (.int .u8 x.c) ∧ w'.cell? ⟨wi.heap.size, 4, none⟩ = some (.slice A' x.parts.length c')) ∧ (∀ j, w'.frozen? ⟨b8, j, none⟩ = false)) ∧ (∀ j, j < 10 → (w'.cell? ⟨b8, j, none⟩).isSome = true)) ∧ w'.cell? ⟨w.heap.size, 0, none⟩ = some (.slice (some ⟨b, o, none⟩) d.length c)) ∧ Hid (∃ t As cs Am cm, Mid wi w' x A' c' b8 t As cs Am cm))) (by kernel_rfl) ?_ (fun zH_ => ?_)
          · (try dsimp only); exact mid_loose (HM.out.below (zC (Below.refl _ _) 1)) HDC.out
          have HMa := zh (HM.out.below (zC (Below.refl wc.heap.size wc) 1));refine tL 0 ?_
          (try simp only [ps])
          refine tL 1 ?_
          (try simp only [ps])
          refine tL 2 ?_
          (try simp only [ps])
          refine tL 3 ?_
          (try simp only [ps])
          refine tL 4 ?_
          (try simp only [ps])
          refine tL 5 ?_
          (try simp only [ps])
          refine tL 6 ?_
          (try simp only [ps])
          refine tL 7 ?_
          (try simp only [ps])
          refine tL 8 ?_
          (try simp only [ps])
          refine tL 9 ?_
          (try simp only [ps])
          refine tR 10 (fun K hK => ?_)
          (obtain ⟨z10, hz10⟩ := Option.isSome_iff_exists.1 (zH_.1.1.2 4 (by decide)); have hf10 := zH_.1.1.1.2 4; go_simp; skip)
          refine hK.out _ _ ?_ (fun zH_ => ?_)
          · (try dsimp only); exact mid_loose (HMa.out.set_max _) HDC.out
          clear hK K
          (try simp only [ps])
          refine tL 11 ?_
          (try simp only [ps])
          refine tR 12 (fun K hK => ?_)
          (obtain ⟨z12, hz12⟩ := Option.isSome_iff_exists.1 (zH_.1.1.2 8 (by decide)); have hf12 := zH_.1.1.1.2 8; go_simp; skip)
          refine hK.out _ _ ?_ (fun zH_ => ?_)
          · (try dsimp only); exact mid_loose ((HMa.out.set_max _).set_elem _) HDC.out
          clear hK K
          (try simp only [ps])
          refine wpAnyH_done (by kernel_rfl) ?_ _
          go_wp2
          go_meet
          exact ⟨_, none, 0, none, 0, (HMa.out.set_max _).set_elem _, tyOk_list HI20.out (by rw [HK.out]; rfl) HMX.out HEL.out, (fun u _ => tyR_none (yK (show (0 : Nat) ≤ 100 by decide)) rfl rfl)⟩
        · have HM : Hid (Mid wi wc x A' c' b8 { zeroT with kind := 8 } none 0 none 0) := zh (show Mid wi wc x A' c' b8 { zeroT with kind := 8 } none 0 none 0 from HM1.out)
          clear HM1;obtain ⟨⟨⟨⟨⟨n0, n1, n2, n3, n4⟩, hfz⟩, t0, t1, t2, t3, t4, t5, t6, t7, t8, t9⟩, hdc⟩, _⟩ := mid_hold2 HM.out HDC.out;have hb8 := HM.out.blt;have hb7 := HM.out.nb.blt;have hdl := zL hdc;simp only at hdl;have HKD := zh (@keyD_ok d x.b);obtain ⟨ky, hky⟩ : ∃ ky, Hid (keyD d x.b = ky) := ⟨_, rfl⟩;rw [hky.out] at HKD;go_wp2_with fail
          refine wp_region_held_drew (S := (fun w' => ((((w'.cell? ⟨wi.heap.size, 0, none⟩ = some (.int .u8 x.kind) ∧ w'.cell? ⟨wi.heap.size, 1, none⟩ = some (.int .u8 x.a) ∧ w'.cell? ⟨wi.heap.size, 2, none⟩ = some (.int .u8 x.b) ∧ w'.cell? ⟨wi.heap.size, 3, none⟩ = some (.int .u8 x.c) ∧ w'.cell? ⟨wi.heap.size, 4, none⟩ = some (.slice A' x.parts.length c')) ∧ (∀ j, w'.frozen? ⟨b8, j, none⟩ = false)) ∧ (∀ j, j < 10 → (w'.cell? ⟨b8, j, none⟩).isSome = true)) ∧ w'.cell? ⟨w.heap.size, 0, none⟩ = some (.slice (some ⟨b, o, none⟩) d.length c)) ∧ Hid (∃ t As cs Am cm, Mid wi w' x A' c' b8 t As cs Am cm))) (by kernel_rfl) ?_ (fun zH_ => ?_)
          · (try dsimp only); exact mid_loose (HM.out.below (zC (Below.refl _ _) 1)) HDC.out
          have HMa := zh (HM.out.below (zC (Below.refl wc.heap.size wc) 1));refine tL 0 ?_
          (try simp only [ps])
          refine tL 1 ?_
          (try simp only [ps])
          refine tL 2 ?_
          (try simp only [ps])
          refine tL 3 ?_
          (try simp only [ps])
          refine tL 4 ?_
          (try simp only [ps])
          refine tL 5 ?_
          (try simp only [ps])
          refine tL 6 ?_
          (try simp only [ps])
          refine tL 8 ?_
          (try simp only [ps])
          refine tL 9 ?_
          (try simp only [ps])
          refine tL 10 ?_
          (try simp only [ps])
          refine tL 11 ?_
          (try simp only [ps])
          refine tL 12 ?_
          (try simp only [ps])
          refine tL 13 ?_
          (try simp only [ps])
          refine tR 7 (fun K hK => ?_)
          go_simp
          (refine (key_any d x.b _ c _ ((HST.out.below HMa.out.bel).db.nodes) HXB.out).mono ?_; rintro e w4 ⟨rfl, hbx⟩; rw [hky.out]; have HMb := zh (HMa.out.below hbx))
          refine hK.out _ _ ?_ (fun zH_ => ?_)
          · (try dsimp only); exact mid_loose HMb.out HDC.out
          clear hK K
          (try simp only [ps])
          refine tR 14 (fun K hK => ?_)
          (obtain ⟨z14, hz14⟩ := Option.isSome_iff_exists.1 (zH_.1.1.2 4 (by decide)); have hf14 := zH_.1.1.1.2 4; go_simp; skip)
          refine hK.out _ _ ?_ (fun zH_ => ?_)
          · (try dsimp only); exact mid_loose (HMb.out.set_max _) HDC.out
          clear hK K
          (try simp only [ps])
          refine tL 15 ?_
          (try simp only [ps])
          refine tR 16 (fun K hK => ?_)
          (obtain ⟨z16, hz16⟩ := Option.isSome_iff_exists.1 (zH_.1.1.2 7 (by decide)); have hf16 := zH_.1.1.1.2 7; go_simp; skip)
          refine hK.out _ _ ?_ (fun zH_ => ?_)
          · (try dsimp only); exact mid_loose ((HMb.out.set_max _).set_key _) HDC.out
          clear hK K
          (try simp only [ps])
          refine tL 17 ?_
          (try simp only [ps])
          refine tR 18 (fun K hK => ?_)
          (obtain ⟨z18, hz18⟩ := Option.isSome_iff_exists.1 (zH_.1.1.2 8 (by decide)); have hf18 := zH_.1.1.1.2 8; go_simp; skip)
          refine hK.out _ _ ?_ (fun zH_ => ?_)
          · (try dsimp only); exact mid_loose (((HMb.out.set_max _).set_key _).set_elem _) HDC.out
          clear hK K
          (try simp only [ps])
          refine wpAnyH_done (by kernel_rfl) ?_ _
          have HMf := zh (((HMb.out.set_max mx).set_key ky).set_elem ev);clear zH_;generalize ((w4.setCell ⟨b8, 4, none⟩ (.int .i64 mx)).setCell ⟨b8, 7, none⟩ (.int .i64 ky)).setCell ⟨b8, 8, none⟩ (.int .i64 ev) = W6 at *;have s4 : W6.cell? ⟨b8, 4, none⟩ = some (.int .i64 mx) := HMf.out.tb.cell 4;have s7 : W6.cell? ⟨b8, 7, none⟩ = some (.int .i64 ky) := HMf.out.tb.cell 7
          have s8 : W6.cell? ⟨b8, 8, none⟩ = some (.int .i64 ev) := HMf.out.tb.cell 8;have hl6 := HMf.out.blt;clear n0 n1 n2 n3 n4 hfz t0 t1 t2 t3 t4 t5 t6 t7 t8 t9 hdc hb8 hb7 hdl
          by_cases hk0 : ky < 0
          · have HTH := zh (mid_there HMf.out)
            have HMA := zh (HMf.out.all { zeroT with kind := 7, max := mx, elem := ev })
            go_wp2_with (refine wpList_store_mid rfl 87 (.tmp 8) (.tmp 155) rfl b8 0 #[.int .i64 7, .string ⟨#[]⟩, .int .i64 0, .int .i64 0, .int .i64 mx, .slice none 0 0, .slice none 0 0, .int .i64 0, .int .i64 ev, .bool false] (by rfl) (by rfl) ?_ ?_ ?_ ?_; (exact HTH.out); (exact ty_info); (exact ty_one { zeroT with kind := 7, max := mx, elem := ev } none 0 none 0))
            go_meet
            exact ⟨_, none, 0, none, 0, HMA.out, tyOk_list HI20.out (by rw [HK.out]; rfl) HMX.out HEL.out, (fun u _ => tyR_none (yK (show (0 : Nat) ≤ 100 by decide)) rfl rfl)⟩
          · have hk1 : decide (ky < 0) = false := decide_eq_false (by omega)
            have HKY := zh (HKD.out (by omega))
            clear hk0;go_wp2;go_meet;exact ⟨_, none, 0, none, 0, HMf.out, tyOk_map HI20.out (by rw [HK.out]; rfl) HMX.out HEL.out HKY.out.1 HKY.out.2, (fun u _ => tyR_none (yK (show (0 : Nat) ≤ 100 by decide)) rfl rfl)⟩
        · have HM : Hid (Mid wi wc x A' c' b8 { zeroT with kind := 9 } none 0 none 0) := zh (show Mid wi wc x A' c' b8 { zeroT with kind := 9 } none 0 none 0 from HM1.out)
          clear HM1;obtain ⟨⟨⟨⟨⟨n0, n1, n2, n3, n4⟩, hfz⟩, t0, t1, t2, t3, t4, t5, t6, t7, t8, t9⟩, hdc⟩, _⟩ := mid_hold2 HM.out HDC.out;have hb8 := HM.out.blt;have hb7 := HM.out.nb.blt;have hdl := zL hdc;simp only at hdl;go_wp2;go_meet;exact ⟨_, none, 0, none, 0, HM.out.set_elem _, tyOk_opt HI20.out (by rw [HK.out]; rfl) HEL.out, (fun u _ => tyR_none (yK (show (0 : Nat) ≤ 100 by decide)) rfl rfl)⟩
      case rest =>
      obtain ⟨t, As, cs, Am, cm, HMx, HTx, HOx⟩ := hcut.out;have HMM := zh HMx;have HTO := zh HTx;have HOF := zh HOx;have HSX := zh (HST.out.below HMx.bel);clear hcut HMx HTx HOx HM1;obtain ⟨_, t0, t1, t2, t3, t4, t5, t6, t7, t8, t9⟩ := (mid_hold HMM.out).1;have hb8 := HMM.out.blt;have s0 : wc.cell? ⟨w.heap.size + 1 + 1, 0, none⟩ = some v := by rw [cell_of_row _ _ _ _ _ _ HSX.out.sb]; rfl
      have hls := zL s0;simp only at hls;obtain ⟨Av, cv, rfl, _, _, _⟩ := OwnL.reads HSX.out.out.own;have HLN : Hid (L.length ≤ 5) := by have := HLI.out; show _ ≤ _; omega
      have HX : Hid (OutSt (w.heap.size + 1 + 1) (wc.alloc (.cells (⟨t, As, cs, Am, cm⟩ : TyA).cells.toArray 87)) (.slice Av L.length cv) L) := HSX.out.out.below (zD _ _);have HRN := zh (zR wc (⟨t, As, cs, Am, cm⟩ : TyA).cells 87);have HZ7 : Hid (w.heap.size + 1 + 1 + 1 ≤ (wc.alloc (.cells (⟨t, As, cs, Am, cm⟩ : TyA).cells.toArray 87)).heap.size) := by show _ ≤ _; simp; omega
      have HNX := zh (fun v9 w9 ho hg hv => OfSt.next HSX.out HD0.out (x := ⟨t, As, cs, Am, cm⟩) (HOF.out.mono fun q _ hq => by
        have h1 := (zg.1 HST.out.sb).1
        show q < wi.heap.size
        rcases hq with h | h
        · omega
        · exact (World.ownsRow.lt HST.out.out.own q h).2) (v9 := v9) (w9 := w9) ho hg hv)
      go_wp2_with (at_builtin; refine wpList_append_o elem_ty _ rfl (.tmp 165) (.tmp 167) rfl (w.heap.size + 1 + 1 + 1) _ _ _ rfl HX.out.own wc.heap.size 0 1 1 (⟨t, As, cs, Am, cm⟩ : TyA).cells rfl rfl HRN.out (tyA_one _) (by have := HLN.out; omega) (by have := HLN.out; omega) HZ7.out ?_; intro v9 w9 ho9 hg9 hv9; obtain ⟨A9, c9, rfl, _⟩ := OwnL.reads (OwnL.snoc (enc := TyA.cells) (x := (⟨t, As, cs, Am, cm⟩ : TyA)) ho9); have HN9 := zh (HNX.out _ w9 ho9 hg9 hv9); have hf9 := HN9.out.1; have hc9 := HN9.out.2.1; have hl9 := HN9.out.2.2.1; clear ho9 hg9 hv9)
      go_roundw
      case rel =>
        refine ⟨i + 1, _, L ++ [⟨t, As, cs, Am, cm⟩], by omega, by go_num, (by have h := HN9.out.2.2.2; simp only [List.length_append, List.length_cons, List.length_nil, Nat.zero_add] at h; exact h), (by rw [List.length_append, HLI.out]; rfl), fun j hj => ?_⟩
        by_cases hji : j < L.length
        · rw [List.getElem_append_left hji]; exact HOK.out j hji
        · have hje : j = i := by rw [List.length_append, HLI.out] at hj; rw [HLI.out] at hji; simp at hj; omega
          subst hje;rw [List.getElem_append_right (by rw [HLI.out]; exact Nat.le_refl _)]
          simpa using HTO.out
      case measure => simp [intOf]; omega
    · have HDO : Hid (DraftOk d (L.map (·.t))) := by
        refine ⟨by rw [List.length_map, HLI.out]; omega, fun j hj => ?_⟩
        rw [List.getElem_map];exact HOK.out j (by simpa using hj)
      have s0 : wi.cell? ⟨w.heap.size + 1 + 1, 0, none⟩ = some v := by rw [cell_of_row _ _ _ _ _ _ HST.out.sb]; rfl
      have r0 : wi.cell? ⟨w.heap.size + 1, 0, none⟩ = some (.slice none 0 0) := by rw [cell_of_row _ _ _ _ _ _ HST.out.rb]; rfl
      have f0 := frozen_of_row _ _ 0 _ _ HST.out.rb;have hls := zL s0;simp only at hls;obtain ⟨Av, cv, rfl, _, _, _⟩ := OwnL.reads HST.out.out.own;have HFIN : Hid (∀ x1, TysR (wi.setCells (w.heap.size + 1) 0 [x1]) Av (L.map (·.t))) := fun x1 => by
        rw [World.setCells, World.setCells];have h1 := HST.out.out.set (w' := wi.setCell ⟨w.heap.size + 1, 0, none⟩ x1) (by simp) (Nat.le_succ _) (fun q hq _ => heap_setCell_other _ _ _ _ (by simpa using hq))
        obtain ⟨A', c', e, hr⟩ := h1.rows (by rw [HLI.out]; omega)
        injection e with e1 _ _
        rw [e1]; exact hr
      have HBF : Hid (∀ x1, Below w.heap.size w (wi.setCells (w.heap.size + 1) 0 [x1])) := fun x1 => by
        rw [World.setCells, World.setCells];exact HST.out.db.below.setCell (p := ⟨w.heap.size + 1, 0, none⟩) (by simp) _
      have HC1 : Hid (∀ x1, (wi.setCells (w.heap.size + 1) 0 [x1]).cell? ⟨w.heap.size + 1, 0, none⟩ = some x1) := fun x1 => by
        rw [World.setCells, World.setCells];rw [cell_of_row _ _ _ _ _ _ (heap_setCell_same _ _ 0 _ _ x1 HST.out.rb)]; rfl
      have HTH : Hid (wi.there (w.heap.size + 1) 0 1) := fun j hj => by
        obtain rfl : j = 0 := by omega
        exact ⟨by rw [r0]; rfl, f0⟩
      clear r0 f0;go_wp2_with (refine wpList_store_mid rfl 31 (.tmp 2) (.tmp 170) rfl (w.heap.size + 1) 0 #[.slice Av L.length cv] (by rfl) (by rfl) ?_ ?_ ?_ ?_; (exact HTH.out); (exact sch_info); (simp [Value.oneCell']))
      have hc1 := HC1.out (.slice Av L.length cv);exact bodyPost_ret (v := .tuple #[.agg #[.slice Av L.length cv], .bool true]) (by simp [results, Tryz.results11, go_sem, hc1]) rfl (of_end HDO.out hn1 hn5 (HFIN.out (.slice Av L.length cv)) (HBF.out (.slice Av L.length cv)))
end Go.Proofs.YthkkllmmbefedaaGreatDoor


