/-
  Walks: the schema of a draft.
-/
import Derived.Test.YthkkllmmbefedaaGreatDoorQGX0
import Derived.Test.YthkkllmmbefedaaGreatDoorQGN3
import Derived.Test.YthkkllmmbefedaaGreatDoorQGB1
import Derived.Deep.CutBlock
namespace Go.Proofs.YthkkllmmbefedaaGreatDoor
open Go.RowKit
set_option maxHeartbeats 16000000
set_option maxRecDepth 100000
theorem Xd {x:Val} (h:JK x) (w:World) (A1 A2 A3:zo):Az w x A1 A2 A3:=by
 obtain ⟨h0,h1,h2,h3⟩:=h;exact ⟨yK (Nat.le_trans h0.1 (by decide)),by rw[h1];exact Aa.nil _ _ _ _ _,by rw[h2];exact Aa.nil _ _ _ _ _,by rw[h3];exact Aa.nil _ _ _ _ _⟩
variable {d:List AX} {v:Value} {W:World}
theorem JJ.AA {i:Nat} {rec:Bool} {n base:Nat} {ms:List AZ} (h:JJ d i rec n 12 base W v ms):∃A c,v = .slice A ms.length c/\Off (· < base) W fun u=>FL u A ms:=by
 obtain ⟨A,c,hv,_⟩:=h.own.reads;refine ⟨A,c,hv,fun u hu=>?_⟩
 have ho:vD u base v ms:=h.own.keep fun g hg hl _=>hu g (by omega) hl
 obtain ⟨A',c',hv',hr⟩:=Ad.rows (bytes:=160) (at_:=fun x cs=>AZ.At u x cs) ho (fun _=>rfl) (by have:=h.ok.len;unfold DU;omega) (fun m hm=>⟨none,0,none,0,none,0,by
  obtain ⟨_,h1,h2,h3⟩:=h.flat m hm;unfold Yu
  rfl,⟨by rw[(h.ok.2 m hm).2.1];exact yK (by rw[show (Ru 109 m.id.toNat).size=2 from rfl];decide),Xd (h.flat m hm) _ _ _ _⟩⟩)
 rw[hv] at hv'
 injection hv' with e1 _ _
 rw[e1];exact hr
variable {w:World} {A:zo}
theorem bT {w':World} {l:List Int} (h:Bl w A l) (hb:∀b o,A=some ⟨b,o,none⟩->w'.heap[b]? = w.heap[b]?):Bl w' A l:=by
 refine ⟨h.1,fun hn=>?_⟩
 obtain ⟨q,o,e,hi⟩:=h.2 hn;refine ⟨q,o,e,fun i x hx=>?_⟩
 obtain ⟨cs,h1,h2⟩:=hi i x hx;refine ⟨cs,h1,fun j u hj=>?_⟩
 rw[World.cell?_of_block (w:=w) (w':=w') (a:=⟨q,o+i * 1+j,none⟩) (hb q o e)];exact h2 j u hj
structure OO (w W:World) (A:zo) (d:List AX) (c:Nat) (v:Value) (L:List KN):Prop where
 db:KH w W A d c
 rb:W.heap[w.heap.size+1]? = some (.cells #[.slice none 0 0] 31 (0,0))
 sb:W.heap[w.heap.size+1+1]? = some (.cells #[v] 31 (0,0))
 out:EN (w.heap.size+1+1) W v L
variable {L:List KN} {c:Nat}
theorem OO.below {W':World} (h:OO w W A d c v L) (hb:Below W.heap.size W W'):OO w W' A d c v L :=
 ⟨h.db.step hb,(hb.block _ (zg.1 h.rb).1).trans h.rb,(hb.block _ (zg.1 h.sb).1).trans h.sb,h.out.below hb⟩
theorem OO.new (h:BM w A d):OO w (((w.alloc (.cells #[.slice A d.length c] 24)).alloc (.cells #[.slice none 0 0] 31)).alloc (.cells #[.slice none 0 0] 31)) A d c (.slice none 0 0) []:=by
 have hz:(w.alloc (.cells #[.slice A d.length c] 24)).heap.size=w.heap.size+1:=by simp
 have hz2:((w.alloc (.cells #[.slice A d.length c] 24)).alloc (.cells #[.slice none 0 0] 31)).heap.size=w.heap.size+1+1:=by simp
 refine ⟨((KH.new h).step (zD _ _)).step (zD _ _),EP ?_ _,?_,EN.nil _ _⟩
 ·have:=AAC (w.alloc (.cells #[.slice A d.length c] 24)) (.cells #[.slice none 0 0] 31)
  rw[hz] at this;exact this
 ·have:=AAC ((w.alloc (.cells #[.slice A d.length c] 24)).alloc (.cells #[.slice none 0 0] 31)) (.cells #[.slice none 0 0] 31)
  rw[hz2] at this;exact this
structure Mid (wi W:World) (x:AX) (A':zo) (c' b8:Nat) (t:Ae) (As:zo) (cs:Nat) (Am:zo) (cm:Nat):Prop where
 nb:Gb W wi.heap.size x A' c'
 tb:BX W b8 t As cs Am cm
 Bb:Below wi.heap.size wi W
 ne:wi.heap.size<b8
section
variable {wi W W':World} {x:AX} {A':zo} {c' b8:Nat} {t:Ae} {As:zo} {cs:Nat} {Am:zo} {cm:Nat}
theorem Mid.below (h:Mid wi W x A' c' b8 t As cs Am cm) (hb:Below W.heap.size W W'):Mid wi W' x A' c' b8 t As cs Am cm:=⟨h.nb.below hb,h.tb.below hb,zB h.Bb hb,h.ne⟩
theorem Ku (h : Mid wi W x A' c' b8 t As cs Am cm) :
    (((W.cell? ⟨wi.heap.size, 0, none⟩ = some (.int .u8 x.kind) /\ W.cell? ⟨wi.heap.size, 1, none⟩ = some (.int .u8 x.a) /\ W.cell? ⟨wi.heap.size, 2, none⟩ = some (.int .u8 x.b) /\ W.cell? ⟨wi.heap.size, 3, none⟩ = some (.int .u8 x.c) /\ W.cell? ⟨wi.heap.size, 4, none⟩ = some (.slice A' x.parts.length c')) /\ (∀ j, W.frozen? ⟨b8, j, none⟩ = false)) /\
      (W.cell? ⟨b8, 0, none⟩ = some (.int .i64 t.kind) /\ W.cell? ⟨b8, 1, none⟩ = some (.string t.name) /\ W.cell? ⟨b8, 2, none⟩ = some (.int .i64 t.low) /\ W.cell? ⟨b8, 3, none⟩ = some (.int .i64 t.high) /\ W.cell? ⟨b8, 4, none⟩ = some (.int .i64 t.max) /\ W.cell? ⟨b8, 5, none⟩ = some (.slice As t.Aj.length cs) /\ W.cell? ⟨b8, 6, none⟩ = some (.slice Am t.AA.length cm) /\ W.cell? ⟨b8, 7, none⟩ = some (.int .i64 t.key) /\ W.cell? ⟨b8, 8, none⟩ = some (.int .i64 t.elem) /\ W.cell? ⟨b8, 9, none⟩ = some (.bool t.open_))) /\
      Hid (Mid wi W x A' c' b8 t As cs Am cm) :=
  ⟨⟨⟨⟨h.nb.cell 0, h.nb.cell 1, h.nb.cell 2, h.nb.cell 3, h.nb.cell 4⟩, fun _ => AAL _ _ _ _ _ h.tb⟩, h.tb.cell 0, h.tb.cell 1, h.tb.cell 2, h.tb.cell 3, h.tb.cell 4, h.tb.cell 5, h.tb.cell 6, h.tb.cell 7, h.tb.cell 8, h.tb.cell 9⟩, h⟩
theorem Mid.other (h:Mid wi W x A' c' b8 t As cs Am cm) (j:Nat) (v:Value):Gb (W.setCell ⟨b8,j,none⟩ v) wi.heap.size x A' c'/\Below wi.heap.size wi (W.setCell ⟨b8,j,none⟩ v) :=
 ⟨(AAF _ _ _ _ (by have:=h.ne;show wi.heap.size≠b8;omega)).trans h.nb,h.Bb.setCell (p:=⟨b8,j,none⟩) (by have:=h.ne;show wi.heap.size<=b8;omega) v⟩
theorem Mid.blt (h:Mid wi W x A' c' b8 t As cs Am cm):b8<W.heap.size:=h.tb.blt
theorem Mid.iX (h:Mid wi W x A' c' b8 t As cs Am cm) (m:Int):Mid wi (W.setCell ⟨b8,2,none⟩ (.int .i64 m)) x A' c' b8 { t with low:=m } As cs Am cm :=
 ⟨(h.other _ _).1,by have:=AAW _ _ 2 _ _ (.int .i64 m) h.tb;unfold BX;rw[this];simp,(h.other _ _).2,h.ne⟩
theorem Mid.aK (h:Mid wi W x A' c' b8 t As cs Am cm) (m:Int):Mid wi (W.setCell ⟨b8,3,none⟩ (.int .i64 m)) x A' c' b8 { t with high:=m } As cs Am cm :=
 ⟨(h.other _ _).1,by have:=AAW _ _ 3 _ _ (.int .i64 m) h.tb;unfold BX;rw[this];simp,(h.other _ _).2,h.ne⟩
theorem Mid.GI (h:Mid wi W x A' c' b8 t As cs Am cm) (m:Int):Mid wi (W.setCell ⟨b8,4,none⟩ (.int .i64 m)) x A' c' b8 { t with max:=m } As cs Am cm :=
 ⟨(h.other _ _).1,by have:=AAW _ _ 4 _ _ (.int .i64 m) h.tb;unfold BX;rw[this];simp,(h.other _ _).2,h.ne⟩
theorem Mid.Qk (h:Mid wi W x A' c' b8 t As cs Am cm) (m:Int):Mid wi (W.setCell ⟨b8,7,none⟩ (.int .i64 m)) x A' c' b8 { t with key:=m } As cs Am cm :=
 ⟨(h.other _ _).1,by have:=AAW _ _ 7 _ _ (.int .i64 m) h.tb;unfold BX;rw[this];simp,(h.other _ _).2,h.ne⟩
theorem Mid.Il (h:Mid wi W x A' c' b8 t As cs Am cm) (m:Int):Mid wi (W.setCell ⟨b8,8,none⟩ (.int .i64 m)) x A' c' b8 { t with elem:=m } As cs Am cm :=
 ⟨(h.other _ _).1,by have:=AAW _ _ 8 _ _ (.int .i64 m) h.tb;unfold BX;rw[this];simp,(h.other _ _).2,h.ne⟩
theorem Mid.Pb (h:Mid wi W x A' c' b8 t As cs Am cm) (m:Bool):Mid wi (W.setCell ⟨b8,9,none⟩ (.bool m)) x A' c' b8 { t with open_:=m } As cs Am cm :=
 ⟨(h.other _ _).1,by have:=AAW _ _ 9 _ _ (.bool m) h.tb;unfold BX;rw[this];simp,(h.other _ _).2,h.ne⟩
theorem Mid.aJ (h:Mid wi W x A' c' b8 t As cs Am cm) (m:ByteArray):Mid wi (W.setCell ⟨b8,1,none⟩ (.string m)) x A' c' b8 { t with name:=m } As cs Am cm :=
 ⟨(h.other _ _).1,by have:=AAW _ _ 1 _ _ (.string m) h.tb;unfold BX;rw[this];simp,(h.other _ _).2,h.ne⟩
theorem Mid.aI (h:Mid wi W x A' c' b8 t As cs Am cm) (l:List Bu) (B:zo) (d:Nat):Mid wi (W.setCell ⟨b8,5,none⟩ (.slice B l.length d)) x A' c' b8 { t with Aj:=l } B d Am cm :=
 ⟨(h.other _ _).1,by have:=AAW _ _ 5 _ _ (.slice B l.length d) h.tb;unfold BX;rw[this];simp,(h.other _ _).2,h.ne⟩
theorem Mid.SY (h:Mid wi W x A' c' b8 t As cs Am cm) (l:List AZ) (B:zo) (d:Nat):Mid wi (W.setCell ⟨b8,6,none⟩ (.slice B l.length d)) x A' c' b8 { t with AA:=l } As cs B d :=
 ⟨(h.other _ _).1,by have:=AAW _ _ 6 _ _ (.slice B l.length d) h.tb;unfold BX;rw[this];simp,(h.other _ _).2,h.ne⟩
theorem CR (h : Mid wi W x A' c' b8 t As cs Am cm) {q : Nat} {sv : Value} (hd : wi.cell? ⟨q, 0, none⟩ = some sv) :
    ((((W.cell? ⟨wi.heap.size, 0, none⟩ = some (.int .u8 x.kind) /\ W.cell? ⟨wi.heap.size, 1, none⟩ = some (.int .u8 x.a) /\ W.cell? ⟨wi.heap.size, 2, none⟩ = some (.int .u8 x.b) /\ W.cell? ⟨wi.heap.size, 3, none⟩ = some (.int .u8 x.c) /\ W.cell? ⟨wi.heap.size, 4, none⟩ = some (.slice A' x.parts.length c')) /\ (∀ j, W.frozen? ⟨b8, j, none⟩ = false)) /\
      (W.cell? ⟨b8, 0, none⟩ = some (.int .i64 t.kind) /\ W.cell? ⟨b8, 1, none⟩ = some (.string t.name) /\ W.cell? ⟨b8, 2, none⟩ = some (.int .i64 t.low) /\ W.cell? ⟨b8, 3, none⟩ = some (.int .i64 t.high) /\ W.cell? ⟨b8, 4, none⟩ = some (.int .i64 t.max) /\ W.cell? ⟨b8, 5, none⟩ = some (.slice As t.Aj.length cs) /\ W.cell? ⟨b8, 6, none⟩ = some (.slice Am t.AA.length cm) /\ W.cell? ⟨b8, 7, none⟩ = some (.int .i64 t.key) /\ W.cell? ⟨b8, 8, none⟩ = some (.int .i64 t.elem) /\ W.cell? ⟨b8, 9, none⟩ = some (.bool t.open_))) /\ W.cell? ⟨q, 0, none⟩ = some sv) /\
      Hid (Mid wi W x A' c' b8 t As cs Am cm) :=
  ⟨⟨(Ku h).1, zA h.Bb hd⟩, h⟩
theorem Br (h : Mid wi W x A' c' b8 t As cs Am cm) {q : Nat} {sv : Value} (hd : wi.cell? ⟨q, 0, none⟩ = some sv) :
    ((((W.cell? ⟨wi.heap.size, 0, none⟩ = some (.int .u8 x.kind) /\ W.cell? ⟨wi.heap.size, 1, none⟩ = some (.int .u8 x.a) /\ W.cell? ⟨wi.heap.size, 2, none⟩ = some (.int .u8 x.b) /\ W.cell? ⟨wi.heap.size, 3, none⟩ = some (.int .u8 x.c) /\ W.cell? ⟨wi.heap.size, 4, none⟩ = some (.slice A' x.parts.length c')) /\ (∀ j, W.frozen? ⟨b8, j, none⟩ = false)) /\
      (∀ j, j < 10 -> (W.cell? ⟨b8, j, none⟩).isSome = true)) /\ W.cell? ⟨q, 0, none⟩ = some sv) /\ Hid (∃ t As cs Am cm, Mid wi W x A' c' b8 t As cs Am cm) :=
  ⟨⟨⟨(Ku h).1.1, fun j hj => by rw [h.tb.cell j]; simp; omega⟩, zA h.Bb hd⟩, t, As, cs, Am, cm, h⟩
theorem P7 (h:Mid wi W x A' c' b8 t As cs Am cm):W.there b8 0 10:=fun j hj=>by
 rw[Nat.zero_add];refine ⟨?_,AAL _ _ _ _ _ h.tb⟩;rw[AAE _ _ _ _ _ _ h.tb]
 match j,hj with
 | 0,_=>rfl
 | 1,_=>rfl
 | 2,_=>rfl
 | 3,_=>rfl
 | 4,_=>rfl
 | 5,_=>rfl
 | 6,_=>rfl
 | 7,_=>rfl
 | 8,_=>rfl
 | 9,_=>rfl
theorem Mid.all (h:Mid wi W x A' c' b8 t As cs Am cm) (u:Ae):Mid wi (W.setCells b8 0 (u.cs none 0 none 0)) x A' c' b8 u none 0 none 0 :=
 ⟨(zN (by have:=h.ne;omega) _ _ _).trans h.nb,by unfold BX;rw[Bj _ _ _ _ h.tb];simp[Un],yC _ (by have:=h.ne;omega) _ _ _ h.Bb,h.ne⟩
theorem Mid.keep (h:Mid wi W x A' c' b8 t As cs Am cm) (hb:Below wi.heap.size wi W') (hk:∀g,g=wi.heap.size\/g=b8->W'.heap[g]? = W.heap[g]?):Mid wi W' x A' c' b8 t As cs Am cm :=
 ⟨(hk _ (.inl rfl)).trans h.nb,(hk _ (.inr rfl)).trans h.tb,hb,h.ne⟩
theorem Qh (h:Mid wi W x A' c' b8 t As cs Am cm) {b3 o3:Nat} {ob:Obj} {z:Value} (hk:W.heap[b3]? = some ob) (hc:∀W:World,W.heap[b3]? = some ob->W.cell? ⟨b3,o3,none⟩=some z) :
  ((W.cell? ⟨b8,5,none⟩=some (.slice As t.Aj.length cs)/\W.frozen? ⟨b8,5,none⟩=false)/\W.cell? ⟨b3,o3,none⟩=some z)/\Hid (Mid wi W x A' c' b8 t As cs Am cm/\W.heap[b3]? = some ob) :=
 ⟨⟨⟨h.tb.cell 5,AAL _ _ _ _ _ h.tb⟩,hc W hk⟩,h,hk⟩
end
def Tw (s:Bu):List Value:=[.int .i64 s.id,.string s.name]
theorem dD (s:Bu):∀u∈Tw s,u.oneCell'=true:=fun u hu=>by
 unfold Tw at hu;simp only[AAr,List.mem_nil_iff,or_false] at hu
 rcases hu with rfl|rfl <;> rfl
theorem nY {base:Nat} {B:zo} {dc:Nat} {L:List Bu} (h:Ad 92 2 Tw W base (.slice B L.length dc) L) (hl:L.length<=100) (hs:∀s∈L,Db s.name):Off (· < base) W fun u=>JF u B L:=fun u hu=>by
 have ho:Ad 92 2 Tw u base (.slice B L.length dc) L:=h.keep fun g hg hlt _=>hu g (by omega) hlt
 obtain ⟨A',c',hv',hr⟩:=Ad.rows (bytes:=24) (at_:=fun x cs=>Bu.At x cs) ho (fun _=>rfl) (by unfold DU;omega) (fun s hm=>⟨hs s hm,rfl⟩)
 injection hv' with e1 _ _
 rw[e1];exact hr
theorem aL:(Tryz.prog.info? 31).map (·.size)=some 1:=by kernel_rfl
theorem OO.next (h:OO w W A d c v L) (hd:BM w A d) {x:KN} (hx:Off (fun q=>q<=w.heap.size+1+1\/v.ownBlock=some q) W fun u=>KM u x.t x.As x.Am) {v9:Value} {w9:World} (ho:w9.ownsRow (w.heap.size+1+1+1) 87 10 v9 (L.length+1) (L.flatMap KN.cells++x.cells)) (hg:(W.alloc (.cells x.cells.toArray 87)).grownBy w9 v.ownBlock) (hv:v9.ownBlock=v.ownBlock\/v9.ownBlock=some (W.alloc (.cells x.cells.toArray 87)).heap.size):
  w9.frozen? ⟨w.heap.size+1+1,0,none⟩=false/\w9.cell? ⟨w.heap.size+1+1,0,none⟩=some v/\w.heap.size+1+1<w9.heap.size/\OO w (w9.setCell ⟨w.heap.size+1+1,0,none⟩ v9) A d c v9 (L++[x]):=by
 have hnew:=zD W (.cells x.cells.toArray 87);have hzs:=(zg.1 h.sb).1;have hoo:=(h.out.below hnew).own;have hk:∀q,q<w.heap.size+1+1+1->w9.heap[q]? = W.heap[q]? := fun q hq=>(yA hg (by have:=hnew.size;omega) fun k hk e=>by have:=hoo.lt k hk;omega).trans (hnew.block q (by omega))
 have hsb:=(hk (w.heap.size+1+1) (by omega)).trans h.sb
 have hb9:Below w.heap.size w w9:=(zB h.db.below hnew).grown hg (zB h.db.below hnew).size (fun q hq=>by have:=hoo.lt q hq;omega)
 refine ⟨AAL _ _ _ _ _ hsb,by rw[AAE _ _ _ _ _ _ hsb];rfl,(zg.1 hsb).1,⟨?_,?_,?_,?_⟩,?_,?_,?_⟩
 ·have:=(zg.1 hsb).1;simp;omega
 ·rw[World.cell?_of_block (w:=W) (w':=w9.setCell ⟨w.heap.size+1+1,0,none⟩ v9) (a:=⟨w.heap.size,0,none⟩) ((AAF _ _ _ _ (by simp;omega)).trans (hk _ (by simp only;omega)))];exact h.db.cell
 ·exact hd.below (hb9.setCell (p:=⟨w.heap.size+1+1,0,none⟩) (by simp only;omega) _)
 ·exact hb9.setCell (p:=⟨w.heap.size+1+1,0,none⟩) (by simp only;omega) _
 ·exact ((AAF _ _ _ _ (by simp)).trans (hk _ (by omega))).trans h.rb
 ·rw[AAW _ _ 0 _ _ v9 hsb];rfl
 ·exact (EN.snoc (h.out.below hnew) (hx.low hnew) ho hg hv).set (by simp) (b:=w.heap.size+1+1) (AAH _) (fun q hq _=>AAF _ _ _ _ (by simpa using hq))
theorem Ml {T E:TypeId} {size bytes:Nat} (hE:Elem T E size bytes) (w:World) {ops:Array Oper} {rest:List Oper} {op:Oper} {a:Act} {Q:Exit->Act->World->Prop} (hgd:op.guard=none) (s x:Operand)
  (ho:op.op = .call { callee := .builtin .append,args:=#[s,x],argTypes:=#[T,T] }) (base:Nat) (v:Value) (n:Nat) (xs:List Value) (hs:a.eval s=v) (h:w.ownsRow base E size v n xs) (b o m c:Nat) (news:List Value) (hx:a.eval x = .slice (some ⟨b,o,none⟩) m c)
  (hl:news.length=m * size) (hnews:w.rangeAt b o news) (h1:∀u∈news,u.oneCell'=true) (hlen:n+m<=9223372036854775807) (hby:(n+m) * bytes<=140737488355328) (hb:base<=w.heap.size)
  (hk:∀v' w',w'.ownsRow base E size v' (n+m) (xs++news)->w.grownBy w' v.ownBlock->(v'.ownBlock=v.ownBlock\/v'.ownBlock=some w.heap.size)->wpList Tryz.prog ops Q rest (a.put op.dst v') w'):wpList Tryz.prog ops Q (op::rest) a w:=by
 refine wpList_plain hgd fun K hK=>?_
 obtain ⟨v',w',hr,h2,h3,h5⟩:=Ki hE w base op.type v n xs h b o m c news hl hnews h1 hlen hby hb;unfold Oper.wp execOp;simp only[ho,resolve,invoke,builtin,Sem.run_bind,Sem.run_pure,Result.andThen_ok,List.map_toArray,AA4,List.map_nil,hs,hx,hr];exact hK _ _ (hk v' w' h2 h3 h5)
def rW (d:List AX) (s:List Ae):Prop:=∀j (h:j<s.length),LD d j s[j]/\XO d j (d.getD j Bh) s[j]
def eU (d:List AX) (w:World) (e:Ending) (w':World):Prop :=
 ∃A c s ok,e = .returned (.tuple #[.agg #[.slice A s.length c],.bool ok])/\CQ w' A s/\(ok=true->zQ s=0/\Short s/\s.length=d.length/\0<d.length/\d.length<=5/\(∀t∈s,In64 t.low/\In64 t.high)/\∀t∈s,∀m∈t.AA,JK m.dflt)/\(ok=false->s=[])/\Below w.heap.size w w'/\(ok=true->rW d s/\Off (· < w.heap.size) w' fun u=>CQ u A s)
theorem oM {W':World} (hd:Jf d (L.map (·.t))) (hoi:rW d (L.map (·.t))) (h1:1<=d.length) (h5:d.length<=5) (hO:Off (· < w.heap.size) W' fun u=>CQ u A (L.map (·.t))) (hb:Below w.heap.size w W'):eU d w (.returned (.tuple #[.agg #[.slice A L.length c],.bool true])) W':=by
 have h0:Ending.returned (.tuple #[.agg #[.slice A L.length c],.bool true]) = .returned (.tuple #[.agg #[.slice A (L.map (·.t)).length c],.bool true]):=by rw[AAZ]
 have hv:=Tz hd h5;have hs:=T9 hd;have hf:=Va hd;have hnu:=Yw hd;have hl:=hd.1;have ht:=hO.out;clear hd;generalize L.map (·.t)=s at *;exact ⟨A,c,s,true,h0,ht,fun _=>⟨hv,hs,hl,h1,h5,hnu,hf⟩,(fun h=>by cases h),hb,fun _=>⟨hoi,hO⟩⟩
def qC (wi:World) (d:List AX) (i:Nat) (x:AX) (A':zo) (c' b8:Nat) (wx:World):Prop :=
 ∃t As cs Am cm,Mid wi wx x A' c' b8 t As cs Am cm/\(LD d i t/\XO d i x t)/\Off (· < wi.heap.size) wx fun u=>KM u t As Am
theorem oN (d : List AX) (A : zo) (c : Nat) (w : World) (hd : BM w A d) :
    Calls Tryz.prog 11 #[Dc A d.length c] w (eU d w) := by
  have hn := hd.1.lt (by omega)
  have HD0 := zh hd;have HI := zh (OO.new (c := c) hd);clear hd
  by_cases hbad : d.length < 1 \/ 5 < d.length
  · have NY := zh (zI w (.cells #[.slice A d.length c] 24) (.cells #[.slice none 0 0] 31))
    rcases hbad with hb | hb
    · have q1 : decide ((d.length : Int) < 1) = true := by simp; omega
      have q3 : d = [] := AAf (by omega)
      subst q3;clear q1 hb
      go_enter Tryz.func11, Tryz.ntmps11
      go_wp2
      exact bodyPost_ret (v := .tuple #[.agg #[.slice none 0 0], .bool false]) (by simp [results, Tryz.results11, go_sem]) rfl ⟨none, 0, [], false, rfl, Aa.nil _ _ _ _ _, (fun h => by cases h), (fun _ => rfl), NY.out, fun h => by cases h⟩
    · have q1 : decide ((d.length : Int) < 1) = false := by simp; omega
      have q2 : decide ((5 : Int) < (d.length : Int)) = true := by simp; omega
      clear hb
      go_enter Tryz.func11, Tryz.ntmps11
      go_wp2
      exact bodyPost_ret (v := .tuple #[.agg #[.slice none 0 0], .bool false]) (by simp [results, Tryz.results11, go_sem]) rfl ⟨none, 0, [], false, rfl, Aa.nil _ _ _ _ _, (fun h => by cases h), (fun _ => rfl), NY.out, fun h => by cases h⟩
  have hn1 : 1 <= d.length := by omega
  have bZ : d.length <= 5 := by omega
  have q1 : decide ((d.length : Int) < 1) = false := by simp; omega
  have q2 : decide ((5 : Int) < (d.length : Int)) = false := by simp; omega
  clear hbad
  go_enter Tryz.func11, Tryz.ntmps11
  go_wp2
  generalize ((w.alloc (.cells #[.slice A d.length c] 24)).alloc (.cells #[.slice none 0 0] 31)).alloc (.cells #[.slice none 0 0] 31) = wc at *
  go_loopw [6] (fun s wr => ∃ (i : Nat) (v : Value) (L : List KN), i <= d.length /\ s = .int .i64 (i : Int) /\ Hid (OO w wr A d c v L /\ L.length = i /\ ∀ j (h : j < L.length), LD d j L[j].t /\ XO d j (d.getD j Bh) L[j].t)) (fun s _ => d.length - (intOf s).toNat)
  case atStart => exact ⟨0, _, [], by omega, rfl, HI.out, rfl, fun j h => absurd h (by simp)⟩
  case round =>
    obtain ⟨i, v, L, hi, rfl, hh⟩ := hrel;obtain ⟨wi, rfl⟩ : ∃ wi : World, wi = wr := ⟨_, rfl⟩;have HST := zh hh.out.1;have qo := zh hh.out.2.1;have KR := zh hh.out.2.2;clear hh
    by_cases hlt : i < d.length
    · have hdc := HST.out.db.cell
      have hdl := HST.out.db.lt;obtain ⟨b, o, A', c', rfl, hr, c0, c1, c2, c3, c4⟩ := HST.out.db.nodes.Vh hlt;generalize Jo : d.getD i Bh = x at *;have XR := zh Jo;clear Jo;have HR := zh hr;have hz := zL c0;simp only at hz;have g1 : (0:Int) <= (i:Int) := by omega
      have g2 : (i : Int) < (d.length : Int) := by omega
      clear hr;have qh := zh (Gb.new wi x A' c');have HB1 := zh (zD wi (x.box A' c'));have KP := zh (HST.out.below HB1);go_wp2_with fail;refine (CV d i _ c _ KP.out.db.nodes hlt).mono ?_;rintro e w2 ⟨rfl, hb2⟩;have ZL := zh (GK d i);have HK : ∃ K, Hid (Ac d i = K) := ⟨_, rfl⟩;obtain ⟨K, HK⟩ := HK;rw [HK.out]
      have LM : Hid (Mid wi (w2.alloc (.cells #[.int .i64 K, .string ⟨#[]⟩, .int .i64 0, .int .i64 0, .int .i64 0, .slice none 0 0, .slice none 0 0, .int .i64 0, .int .i64 0, .bool false] 87)) x A' c' w2.heap.size { Al with kind := K } none 0 none 0) :=
        ⟨(qh.out.below hb2).below (zD _ _), AAC _ _, zB (zB HB1 hb2) (zD _ _), by have := (qh.out.below hb2).blt; omega⟩
      have HS2 := zh ((KP.out.below hb2).below (zD w2 (.cells #[.int .i64 K, .string ⟨#[]⟩, .int .i64 0, .int .i64 0, .int .i64 0, .slice none 0 0, .slice none 0 0, .int .i64 0, .int .i64 0, .bool false] 87)));clear hb2 c0 c1 c2 c3 c4 hz hdc hdl;have AAy : Hid (Cv K = Cv K) := rfl;obtain ⟨NB, OW⟩ : ∃ NB, Hid (Cv K = NB) := ⟨_, rfl⟩
      go_upto_if 37 with fail
      refine (Uy _ _).mono ?_;rintro e w3 ⟨rfl, rfl⟩;rw [OW.out];generalize w2.alloc (.cells #[.int .i64 K, .string ⟨#[]⟩, .int .i64 0, .int .i64 0, .int .i64 0, .slice none 0 0, .slice none 0 0, .int .i64 0, .int .i64 0, .bool false] 87) = W0 at *;generalize w2.heap.size = b8 at *;obtain ⟨⟨⟨⟨n0, n1, n2, n3, n4⟩, hfz⟩, t0, t1, t2, t3, t4, t5, t6, t7, t8, t9⟩, _⟩ := Ku LM
      have EJ := LM.out.blt
      go_upto_if 37 with fail
      go_cut [] (fun wx => Hid (Mid wi wx x A' c' b8 { Al with kind := K, name := if Cv K then LU i else ⟨#[]⟩ } none 0 none 0))
      case first =>
        as_aux_lemma =>
        cases NB with
        | true =>
          obtain ⟨S, hS⟩ : ∃ S, Utf8.encode (65 + (i : Int)) = S := ⟨_, rfl⟩;have HS : Hid (S = LU i) := by have := (NN (n := i) (by omega)).2; rw [<- hS]; exact this
          have nG := zh (LM.out.aJ S);go_wp2;go_meet;have := nG.out;rw [HS.out] at this;rw [OW.out, AAG rfl, HS.out];exact this
        | false =>
          go_wp2
          go_meet
          rw [OW.out];exact LM.out
      case rest =>
      have Dp := zh hcut.out;have OY : Hid (i <= 20) := by show _ <= _; omega
      have ZG := zh HR.out.a;have HXB := zh HR.out.b;have hpos : (0 : Int) < (d.length : Int) := by omega
      have hnz : ¬ ((d.length : Int) = 0) := by omega
      have hnil : ¬ (d = []) := fun e => by rw [e] at hn1; simp at hn1
      obtain ⟨ev, hev⟩ : ∃ ev : Int, ev = ((x.c % d.length : Nat) : Int) := ⟨_, rfl⟩;have hxc := HR.out.c;have uP : (x.c : Int).tmod (d.length : Int) = ev := hev.symm;have ADl : (x.c : Int) % (d.length : Int) = ev := by rw [hev]; simp
      have ADk : (IntKind.i64.wrap (x.c : Int)).tmod (d.length : Int) = ev := by rw [IntWalk.i64_in _ (by omega)]; exact uP
      have ADj : (wrap64 (x.c : Int)).tmod (d.length : Int) = ev := by rw [IntWalk.wrap64_in _ (by omega)]; exact uP
      have LQ : Hid (0 <= ev /\ ev < (d.length : Int)) := by
        have := Nat.mod_lt x.c (show 0 < d.length by omega)
        show _ /\ _
        omega
      obtain ⟨mx, hmx⟩ : ∃ mx : Int, mx = ((x.a % 4 : Nat) : Int) := ⟨_, rfl⟩;have ADZ : (x.a : Int).tmod 4 = mx := hmx.symm;have ADY : (x.a : Int) % 4 = mx := by rw [hmx]; simp
      have ADX : IntKind.i64.wrap mx = mx := IntWalk.i64_in _ (by omega)
      have Rz : Hid (0 <= mx /\ mx <= 3) := by show _ /\ _; omega
      have HMV := zh hmx;clear hev hmx hxc;have Ia := zh HST.out.db.cell;clear hcut LM KP HS2 n0 n1 n2 n3 n4 hfz t0 t1 t2 t3 t4 t5 t6 t7 t8 t9 EJ qh HB1 AAy;obtain ⟨⟨⟨⟨⟨n0, n1, n2, n3, n4⟩, hfz⟩, t0, t1, t2, t3, t4, t5, t6, t7, t8, t9⟩, hdc⟩, _⟩ := CR Dp Ia;have EJ := Dp.out.blt;have FE := Dp.out.nb.blt
      go_upto_block 2 with fail
      clear n0 n1 n2 n3 n4 hfz t0 t1 t2 t3 t4 t5 t6 t7 t8 t9 EJ FE hdc
      go_cut [] (fun wx => Hid (qC wi d i x A' c' b8 wx))
      case first =>
        as_aux_lemma =>
        have hK : K = 1 \/ K = 2 \/ K = 3 \/ K = 4 \/ K = 5 \/ K = 6 \/ K = 7 \/ K = 8 \/ K = 9 := by have := ZL.out; have := HK.out; omega
        rcases hK with rfl | rfl | rfl | rfl | rfl | rfl | rfl | rfl | rfl
        · have HM : Hid (Mid wi wc x A' c' b8 { Al with kind := 1 } none 0 none 0) := zh (show Mid wi wc x A' c' b8 { Al with kind := 1 } none 0 none 0 from Dp.out)
          clear Dp;obtain ⟨⟨⟨⟨⟨n0, n1, n2, n3, n4⟩, hfz⟩, t0, t1, t2, t3, t4, t5, t6, t7, t8, t9⟩, hdc⟩, _⟩ := CR HM Ia;have EJ := HM.out.blt;have FE := HM.out.nb.blt;have hdl := zL hdc;simp only at hdl;go_wp2;go_meet;exact ⟨_, none, 0, none, 0, HM.out, ⟨Xh OY HK, Zu HK⟩, (fun u _ => Dg (yK (show (0 : Nat) <= 100 by decide)) rfl rfl)⟩
        · have HM : Hid (Mid wi wc x A' c' b8 { Al with kind := 2 } none 0 none 0) := zh (show Mid wi wc x A' c' b8 { Al with kind := 2 } none 0 none 0 from Dp.out)
          clear Dp;obtain ⟨⟨⟨⟨⟨n0, n1, n2, n3, n4⟩, hfz⟩, t0, t1, t2, t3, t4, t5, t6, t7, t8, t9⟩, hdc⟩, _⟩ := CR HM Ia;have EJ := HM.out.blt;have FE := HM.out.nb.blt;have hdl := zL hdc;simp only at hdl;go_wp2_with fail
          refine wp_region_held_drew (S := (fun w' => ((((w'.cell? ⟨wi.heap.size, 0, none⟩ = some (.int .u8 x.kind) /\ w'.cell? ⟨wi.heap.size, 1, none⟩ = some (.int .u8 x.a) /\ w'.cell? ⟨wi.heap.size, 2, none⟩ = some (.int .u8 x.b) /\ w'.cell? ⟨wi.heap.size, 3, none⟩ = some (.int .u8 x.c) /\ w'.cell? ⟨wi.heap.size, 4, none⟩ = some (.slice A' x.parts.length c')) /\ (∀ j, w'.frozen? ⟨b8, j, none⟩ = false)) /\ (∀ j, j < 10 -> (w'.cell? ⟨b8, j, none⟩).isSome = true)) /\ w'.cell? ⟨w.heap.size, 0, none⟩ = some (.slice (some ⟨b, o, none⟩) d.length c)) /\ Hid (∃ t As cs Am cm, Mid wi w' x A' c' b8 t As cs Am cm))) (by kernel_rfl) ?_ (fun AO => ?_)
          · (try dsimp only); exact Br (HM.out.below (zC (Pe _ _) 1)) Ia
          have nE := zh (HM.out.below (zC (Pe wc.heap.size wc) 1));refine tL 0 ?_
          (try simp only [ps])
          refine tL 2 ?_
          (try simp only [ps])
          refine tR 1 (fun K hK => ?_)
          go_simp
          (refine (NJ x A' c' _ ZG).mono ?_; rintro e w4 ⟨rfl, hbx⟩; have nD := zh (nE.out.below hbx))
          refine hK.out _ _ ?_ (fun AO => ?_)
          · (try dsimp only); exact Br nD Ia
          clear hK K
          (try simp only [ps])
          refine tL 4 ?_
          (try simp only [ps])
          refine tR 3 (fun K hK => ?_)
          go_simp
          (refine (Td x A' c' _ ZG).mono ?_; rintro e w5 ⟨rfl, hbx⟩; have HMc := zh (nD.out.below hbx))
          refine hK.out _ _ ?_ (fun AO => ?_)
          · (try dsimp only); exact Br HMc Ia
          clear hK K
          (try simp only [ps])
          refine tR 5 (fun K hK => ?_)
          (obtain ⟨z5, yu⟩ := Option.isSome_iff_exists.1 (AO.1.1.2 2 (by decide)); have hf5 := AO.1.1.1.2 2; go_simp; have HMd := zh (HMc.out.iX (FD x)))
          refine hK.out _ _ ?_ (fun AO => ?_)
          · (try dsimp only); exact Br HMd Ia
          clear hK K
          (try simp only [ps])
          refine tL 6 ?_
          (try simp only [ps])
          refine tR 7 (fun K hK => ?_)
          (obtain ⟨z7, hz7⟩ := Option.isSome_iff_exists.1 (AO.1.1.2 3 (by decide)); have hf7 := AO.1.1.1.2 3; go_simp; have HMe := zh (HMd.out.aK (Ep x)))
          refine hK.out _ _ ?_ (fun AO => ?_)
          · (try dsimp only); exact Br HMe Ia
          clear hK K
          (try simp only [ps])
          refine wpAnyH_done (by kernel_rfl) ?_ _
          go_wp2
          go_meet
          exact ⟨_, none, 0, none, 0, HMe.out, ⟨Zr OY HK (bJ x) (jr x), iE HK⟩, (fun u _ => Dg (yK (show (0 : Nat) <= 100 by decide)) rfl rfl)⟩
        · have HM : Hid (Mid wi wc x A' c' b8 { Al with kind := 3 } none 0 none 0) := zh (show Mid wi wc x A' c' b8 { Al with kind := 3 } none 0 none 0 from Dp.out)
          clear Dp;obtain ⟨⟨⟨⟨⟨n0, n1, n2, n3, n4⟩, hfz⟩, t0, t1, t2, t3, t4, t5, t6, t7, t8, t9⟩, hdc⟩, _⟩ := CR HM Ia;have EJ := HM.out.blt;have FE := HM.out.nb.blt;have hdl := zL hdc;simp only at hdl;go_wp2;go_meet
          exact ⟨_, none, 0, none, 0, HM.out.GI _, ⟨Zo OY HK Rz, iB HK Rz HMV⟩, (fun u _ => Dg (yK (show (0 : Nat) <= 100 by decide)) rfl rfl)⟩
        · have HM : Hid (Mid wi wc x A' c' b8 { Al with kind := 4, name := LU i } none 0 none 0) := zh (show Mid wi wc x A' c' b8 { Al with kind := 4, name := LU i } none 0 none 0 from Dp.out)
          clear Dp;obtain ⟨⟨⟨⟨⟨n0, n1, n2, n3, n4⟩, hfz⟩, t0, t1, t2, t3, t4, t5, t6, t7, t8, t9⟩, hdc⟩, _⟩ := CR HM Ia;have EJ := HM.out.blt;have FE := HM.out.nb.blt;have hdl := zL hdc;simp only at hdl;obtain ⟨E, hE⟩ : ∃ E, ((x.b : Int) % 2 == 1) = E := ⟨_, rfl⟩;have Rl := zh (HM.out.Pb E);go_upto_region 19 with fail
          clear n0 n1 n2 n3 n4 hfz t0 t1 t2 t3 t4 t5 t6 t7 t8 t9 hdc EJ FE hdl hE;generalize wc.setCell ⟨b8, 9, none⟩ (.bool E) = W2 at *;obtain ⟨⟨⟨⟨⟨n0, n1, n2, n3, n4⟩, hfz⟩, t0, t1, t2, t3, t4, t5, t6, t7, t8, t9⟩, hdc⟩, _⟩ := CR Rl Ia;have EJ := Rl.out.blt;have FE := Rl.out.nb.blt;have hdl := zL hdc;simp only at hdl;go_wp2_with fail;refine (Np x A' c' _ ZG).mono ?_
          rintro e W5 ⟨v5, rfl, Hl, hb5⟩;have NV := zh (Jb x);have R4 : Hid ((C9 x).length <= 6) := by have := Je (C9 x) 0 6 NV.out.1 NV.out.2.1 (by omega); show _ <= _; omega
          obtain ⟨A5, c5, rfl, hi5⟩ := Jh.ints Hl (by have := R4.out; unfold DU; omega)
          have LK := zh (Rl.out.below hb5);have HI5 := zh hi5;have KF : Hid (∀ g o, A5 = some ⟨g, o, none⟩ -> g ≠ b8 /\ g < W5.heap.size) := fun g o hg => by
            have := World.ownsRow.lt Hl g (by rw [hg]; rfl)
            have := Rl.out.blt;exact ⟨by omega, by omega⟩
          have ru : Hid ((D8 x).length = (C9 x).length) := by show _ = _; simp [D8]
          have fC : Hid (wi.heap.size <= W5.heap.size) := LK.out.Bb.size;clear hi5 Hl hb5 n0 n1 n2 n3 n4 hfz t0 t1 t2 t3 t4 t5 t6 t7 t8 t9 hdc EJ FE hdl;go_wp2
          go_loopw [10] (fun s wr => ∃ (q : Nat) (B : zo) (dc : Nat) (L : List Bu), q <= (C9 x).length /\ s = .int .i64 (q : Int) /\ Hid (L = (D8 x).take q /\ Mid wi wr x A' c' b8 { Al with kind := 4, name := LU i, Aj := L, open_ := E } B dc none 0 /\ Ad 92 2 Tw wr W5.heap.size (.slice B L.length dc) L /\ (∀ g, g ≠ b8 -> g < W5.heap.size -> wr.heap[g]? = W5.heap[g]?) /\ W5.heap.size <= wr.heap.size)) (fun s _ => (C9 x).length - (intOf s).toNat)
          case atStart => exact ⟨0, none, 0, [], by omega, rfl, rfl, LK.out, Ad.nil _ _, (fun _ _ _ => rfl), AAH _⟩
          case round =>
            obtain ⟨q, B, dc, L, hq, rfl, hh⟩ := hrel;obtain ⟨wo, rfl⟩ : ∃ wo : World, wo = wr := ⟨_, rfl⟩;have GV := zh hh.out.1;have QX := zh hh.out.2.1;have xU := zh hh.out.2.2.1;have sJ := zh hh.out.2.2.2.1;have HBS := zh hh.out.2.2.2.2;have HIO : Hid (Bl wo A5 (C9 x)) := bT HI5 fun g o' e => sJ.out g (KF.out g o' e).1 (KF.out g o' e).2
            have Oh : Hid (L.length <= 6) := by show _ <= _; rw [GV.out]; have := R4.out; have := ru.out; simp; omega
            have ADc := R4.out;have hs5 : wo.cell? ⟨b8, 5, none⟩ = some (.slice B L.length dc) := QX.out.tb.cell 5;clear hh
            by_cases gD : q < (C9 x).length
            · obtain ⟨b3, o3, rfl, i3⟩ := HIO.out.UD gD
              have vX : Hid ((D8 x).take (q + 1) = L ++ [⟨(C9 x)[q], Ru 115 ((C9 x)[q]).toNat⟩]) := by
                show _ = _
                have za : q < (D8 x).length := by rw [ru.out]; exact gD
                rw [ABC za, <- GV.out];simp [D8]
              have hzr := NV.out.2.1 _ (AAK gD);generalize (C9 x)[q] = z at *;obtain ⟨zn, rfl⟩ := AAT (show 0 <= z by omega)
              have hlt3 := zL i3;simp only at hlt3;obtain ⟨ob, hob⟩ : ∃ ob, wo.heap[b3]? = some ob := ⟨_, Array.getElem?_eq_getElem hlt3⟩;have HOB := zh hob;have HCZ : Hid (∀ W : World, W.heap[b3]? = some ob -> W.cell? ⟨b3, o3 + q, none⟩ = some (.int .i64 (zn : Int))) := fun W hW => (World.cell?_of_block (w := wo) (w' := W) (a := ⟨b3, o3 + q, none⟩) (hW.trans HOB.out.symm)).trans i3
              have H3 := zh (KF.out b3 o3 rfl);obtain ⟨S, hS⟩ : ∃ S, Utf8.encode (97 + (zn : Int)) = S := ⟨_, rfl⟩;have hS2 : Utf8.encode (IntKind.i32.wrap (IntKind.i64.wrap (97 + (zn : Int)))) = S := by rw [IntWalk.i64_in _ (by omega), IntWalk.i32_in _ (by omega)]; exact hS
              have HS : Hid (S = ⟨#[UInt8.ofNat (97 + zn)]⟩) := by have := (NN (n := zn) (by omega)).1; rw [<- hS]; exact this
              have hds : ¬ 9223372036854775807 < 1 + S.size := by have : S.size = 1 := by rw [HS.out]; rfl
                                                                  omega
              have NS : Hid ((D8 x).take (q + 1) = L ++ [⟨(zn : Int), (⟨#[115]⟩ : ByteArray) ++ S⟩]) := by
                show _ = _
                rw [vX.out, HS.out, Nu]; rfl
              have hbb := QX.out.blt;have g1 : (0:Int) <= (q:Int) := by omega
              have g2 : (q : Int) < ((C9 x).length : Int) := by omega
              have ADJ := hzr.2;clear hob vX hzr;go_wp2_with fail
              refine yE (S := (fun w' => ((w'.cell? ⟨b8, 5, none⟩ = some (.slice B L.length dc) /\ w'.frozen? ⟨b8, 5, none⟩ = false) /\ w'.cell? ⟨b3, o3 + q, none⟩ = some (.int .i64 (zn : Int))) /\ Hid (Mid wi w' x A' c' b8 { Al with kind := 4, name := LU i, Aj := L, open_ := E } B dc none 0 /\ w'.heap[b3]? = some ob))) 18 (by kernel_rfl) ?_ (fun AO => ?_)
              · (try dsimp only); exact Qh (QX.out.below (zC (Pe _ _) 1)) HOB HCZ
              refine tC 0 ?_
              (try simp only [ps])
              refine tB 1 ?_
              (try simp only [ps])
              refine tC 2 ?_
              (try simp only [ps])
              refine tC 3 ?_
              (try simp only [ps])
              refine tC 4 ?_
              (try simp only [ps])
              refine tB 5 ?_
              (try simp only [ps])
              refine tC 6 ?_
              (try simp only [ps])
              refine tC 7 ?_
              (try simp only [ps])
              refine tC 8 ?_
              (try simp only [ps])
              refine tB 9 ?_
              (try simp only [ps])
              refine tC 10 ?_
              (try simp only [ps])
              refine tC 11 ?_
              (try simp only [ps])
              refine tC 12 ?_
              (try simp only [ps])
              refine tC 13 ?_
              (try simp only [ps])
              refine tC 14 ?_
              (try simp only [ps])
              refine tS 15 (fun K hK => ?_)
              go_simp
              refine hK.out _ _ ?_ (fun AO => ?_)
              · (try dsimp only); exact Qh (AO.2.out.1.below (zD _ _)) (EP AO.2.out.2 _) HCZ
              clear hK K
              (try simp only [ps])
              refine tS 16 (fun K hK => ?_)
              (have Oc := zh (Ad.alloc (xU.out.below (zC (Pe wo.heap.size wo) 1)) (.cells #[.int .i64 (zn : Int), .string ((⟨#[115]⟩ : ByteArray) ++ S)] 92)); have qU := zh (zR (wo.drewN 1) [.int .i64 (zn : Int), .string ((⟨#[115]⟩ : ByteArray) ++ S)] 92); have vI : Hid (W5.heap.size <= ((wo.drewN 1).alloc (.cells #[.int .i64 (zn : Int), .string ((⟨#[115]⟩ : ByteArray) ++ S)] 92)).heap.size) := (by have := QX.out.blt; show _ <= _; have := HBS.out; simp; omega); have FU := zh AO.2.out.1; have BN := zh AO.2.out.2; refine Oj dI (by rfl) (.tmp 76) (.tmp 90) (by rfl) W5.heap.size (.slice B L.length dc) L.length (L.flatMap Tw) (by rfl) Oc wo.heap.size 0 1 1 [.int .i64 (zn : Int), .string ((⟨#[115]⟩ : ByteArray) ++ S)] (by rfl) rfl qU (dD ⟨(zn : Int), (⟨#[115]⟩ : ByteArray) ++ S⟩) (by have := Oh.out; omega) (by have := Oh.out; omega) vI ?_; intro v8 w8 CW Bt Ey; have gF := Ad.snoc (enc := Tw) (x := (⟨(zn : Int), (⟨#[115]⟩ : ByteArray) ++ S⟩ : Bu)) CW; obtain ⟨B8, d8, rfl, _⟩ := Ad.reads gF; have HO9 := zh gF; have HKG : Hid (∀ g, g < W5.heap.size -> w8.heap[g]? = ((wo.drewN 1).alloc (.cells #[.int .i64 (zn : Int), .string ((⟨#[115]⟩ : ByteArray) ++ S)] 92)).heap[g]?) := zh (fun g hg => yA Bt (by have := vI.out; omega) (fun j hj e => by have := xU.out.lt j hj; omega)); have QY : Hid (Mid wi w8 x A' c' b8 { Al with kind := 4, name := LU i, Aj := L, open_ := E } B dc none 0) := zh (FU.out.keep (FU.out.Bb.grown Bt FU.out.Bb.size (fun j hj => by have := xU.out.lt j hj; have := fC.out; omega)) (fun g hg => HKG.out g (by rcases hg with rfl | rfl; (have := LK.out.nb.blt; omega); (have := LK.out.blt; omega)))); have BK : Hid (w8.heap[b3]? = some ob) := zh ((HKG.out b3 H3.out.2).trans BN); have HKF : Hid (∀ g, g ≠ b8 -> g < W5.heap.size -> w8.heap[g]? = W5.heap[g]?) := zh (fun g h1 h2 => ((HKG.out g h2).trans ((zD (wo.drewN 1) _).block g (by have := HBS.out; show g < wo.heap.size; omega))).trans (sJ.out g h1 h2)); have AAj : Hid (W5.heap.size <= w8.heap.size) := Nat.le_trans vI Bt.size; clear CW gF Bt Ey)
              refine hK.out _ _ ?_ (fun AO => ?_)
              · (try dsimp only); exact Qh QY BK HCZ
              clear hK K
              (try simp only [ps])
              refine tC 17 ?_
              (try simp only [ps])
              refine zV (rs := [18]) (by kernel_rfl) (by simp) ?_
              refine AJ.last rfl (by kernel_rfl) (fun K hK => ?_) AJ.nil
              (obtain ⟨⟨⟨hc5, hf5⟩, _⟩, hin⟩ := AO; go_simp)
              refine hK.out _ _ ?_;clear hK K
              (try clear AO)
              (try simp only [ps])
              refine wpAny_done (by kernel_rfl) ?_ _
              have HN := zh (QY.out.aI (L ++ [⟨(zn : Int), (⟨#[115]⟩ : ByteArray) ++ S⟩]) B8 d8)
              have HOW : Hid (Ad 92 2 Tw (w8.setCell ⟨b8, 5, none⟩ (.slice B8 (L ++ [(⟨(zn : Int), (⟨#[115]⟩ : ByteArray) ++ S⟩ : Bu)]).length d8)) W5.heap.size (.slice B8 (L ++ [(⟨(zn : Int), (⟨#[115]⟩ : ByteArray) ++ S⟩ : Bu)]).length d8) (L ++ [(⟨(zn : Int), (⟨#[115]⟩ : ByteArray) ++ S⟩ : Bu)])) := HO9.out.keep fun g hg _ _ => AAF _ _ _ _ (by have := LK.out.blt; simp only; omega)
              have xZ : Hid (∀ g, g ≠ b8 -> g < W5.heap.size -> (w8.setCell ⟨b8, 5, none⟩ (.slice B8 (L ++ [(⟨(zn : Int), (⟨#[115]⟩ : ByteArray) ++ S⟩ : Bu)]).length d8)).heap[g]? = W5.heap[g]?) := fun g h1 h2 => (AAF _ _ _ _ (by simpa using h1)).trans (HKF.out g h1 h2)
              clear hc5 hf5 hin;go_wp2;go_roundw
              case rel =>
                refine ⟨q + 1, B8, d8, L ++ [⟨(zn : Int), (⟨#[115]⟩ : ByteArray) ++ S⟩], by omega, by go_num, NS.out.symm, ?_⟩
                have h := And.intro HN.out (And.intro HOW.out (And.intro xZ.out (show W5.heap.size <= (w8.setCell ⟨b8, 5, none⟩ (.slice B8 (L ++ [(⟨(zn : Int), (⟨#[115]⟩ : ByteArray) ++ S⟩ : Bu)]).length d8)).heap.size by have := AAj.out; simpa using this)))
                simp only [AAt, AAS, List.length_nil, Nat.zero_add] at h ⊢;exact h
              case measure => simp [intOf]; omega
            · obtain rfl : L = D8 x := by rw [GV.out]; exact List.take_of_length_le (by rw [ru.out]; omega)
              have qc := zh (nY xU (by have := Oh.out; omega) (fun s hs => by obtain ⟨n, _, rfl⟩ := List.mem_map.1 (show s ∈ D8 x from hs); exact yK (show (2 : Nat) <= 100 by decide)))
              go_wp2
              go_meet
              exact ⟨_, B, dc, none, 0, QX.out, ⟨Xg OY HK x E, Zt HK E⟩, fun u hu => ⟨yK (show (1 : Nat) <= 100 by decide), (qc.out.mono fun g _ hg => by have := fC.out; omega) u hu, Aa.nil _ _ _ _ _⟩⟩
        · have HM : Hid (Mid wi wc x A' c' b8 { Al with kind := 5, name := LU i } none 0 none 0) := zh (show Mid wi wc x A' c' b8 { Al with kind := 5, name := LU i } none 0 none 0 from Dp.out)
          clear Dp;obtain ⟨⟨⟨⟨⟨n0, n1, n2, n3, n4⟩, hfz⟩, t0, t1, t2, t3, t4, t5, t6, t7, t8, t9⟩, hdc⟩, _⟩ := CR HM Ia;have EJ := HM.out.blt;have FE := HM.out.nb.blt;have hdl := zL hdc;simp only at hdl;go_wp2_with fail;refine (Pt d i true _ c _ ((HST.out.below HM.out.Bb).db.nodes) hlt).mono ?_;rintro e w5 ⟨v5, ms, rfl, hms, hb5⟩;obtain ⟨A5, c5, rfl, hoff⟩ := hms.AA
          have LK := zh ((HM.out.below hb5).SY ms A5 c5);have fJ := zh hms.ok;have rD := zh hms.flat;have qj := zh hms.mO;have HF5 : Hid (Off (· < wi.heap.size) (w5.setCell ⟨b8, 6, none⟩ (.slice A5 ms.length c5)) fun u => FL u A5 ms) := (hoff.set (a := ⟨b8, 6, none⟩) (.slice A5 ms.length c5) HM.out.blt).mono fun q _ hq => by have := HM.out.Bb.size; omega
          have hf6 := AAL _ _ 6 _ _ (HM.out.below hb5).tb;have hc6 : w5.cell? ⟨b8, 6, none⟩ = some (.slice none 0 0) := (HM.out.below hb5).tb.cell 6;have XA := (HM.out.below hb5).blt;clear hms hoff hb5 n0 n1 n2 n3 n4 hfz t0 t1 t2 t3 t4 t5 t6 t7 t8 t9 hdc EJ FE hdl;go_wp2;go_meet
          exact ⟨_, none, 0, A5, c5, LK.out, ⟨SE OY (by rw [HK.out]; rfl) fJ rD, WE (.inl HK.out) fJ qj⟩, fun u hu => Na (yK (show (1 : Nat) <= 100 by decide)) rfl (HF5.out u hu)⟩
        · have HM : Hid (Mid wi wc x A' c' b8 { Al with kind := 6, name := LU i } none 0 none 0) := zh (show Mid wi wc x A' c' b8 { Al with kind := 6, name := LU i } none 0 none 0 from Dp.out)
          clear Dp;obtain ⟨⟨⟨⟨⟨n0, n1, n2, n3, n4⟩, hfz⟩, t0, t1, t2, t3, t4, t5, t6, t7, t8, t9⟩, hdc⟩, _⟩ := CR HM Ia;have EJ := HM.out.blt;have FE := HM.out.nb.blt;have hdl := zL hdc;simp only at hdl;obtain ⟨E, hE⟩ : ∃ E, ((x.b : Int) % 2 == 1) = E := ⟨_, rfl⟩;have Rl := zh (HM.out.Pb E);go_upto_region 28 with fail
          clear n0 n1 n2 n3 n4 hfz t0 t1 t2 t3 t4 t5 t6 t7 t8 t9 hdc EJ FE hdl hE;generalize wc.setCell ⟨b8, 9, none⟩ (.bool E) = W2 at *;obtain ⟨⟨⟨⟨⟨n0, n1, n2, n3, n4⟩, hfz⟩, t0, t1, t2, t3, t4, t5, t6, t7, t8, t9⟩, hdc⟩, _⟩ := CR Rl Ia;have EJ := Rl.out.blt;have FE := Rl.out.nb.blt;have hdl := zL hdc;simp only at hdl;go_wp2_with fail
          refine (Pt d i false _ c _ ((HST.out.below Rl.out.Bb).db.nodes) hlt).mono ?_;rintro e w5 ⟨v5, ms, rfl, hms, hb5⟩;obtain ⟨A5, c5, rfl, hoff⟩ := hms.AA;have LK := zh ((Rl.out.below hb5).SY ms A5 c5);have fJ := zh hms.ok;have rD := zh hms.flat;have qj := zh hms.mO
          have HF5 : Hid (Off (· < wi.heap.size) (w5.setCell ⟨b8, 6, none⟩ (.slice A5 ms.length c5)) fun u => FL u A5 ms) := (hoff.set (a := ⟨b8, 6, none⟩) (.slice A5 ms.length c5) Rl.out.blt).mono fun q _ hq => by have := Rl.out.Bb.size; omega
          have hf6 := AAL _ _ 6 _ _ (Rl.out.below hb5).tb;have hc6 : w5.cell? ⟨b8, 6, none⟩ = some (.slice none 0 0) := (Rl.out.below hb5).tb.cell 6;have XA := (Rl.out.below hb5).blt;clear hms hoff hb5 n0 n1 n2 n3 n4 hfz t0 t1 t2 t3 t4 t5 t6 t7 t8 t9 hdc EJ FE hdl;go_upto_region 29 with fail
          clear hf6 hc6 XA;generalize w5.setCell ⟨b8, 6, none⟩ (.slice A5 ms.length c5) = W6 at *;have s1 : W6.cell? ⟨b8, 1, none⟩ = some (.string (LU i)) := LK.out.tb.cell 1;have s6 : W6.cell? ⟨b8, 6, none⟩ = some (.slice A5 ms.length c5) := LK.out.tb.cell 6;have XA := LK.out.blt
          by_cases hne : ms = []
          · have hel : ((ms.length : Int) == 0) = true := by rw [hne]; rfl
            have Oy := zh (P7 LK);have HMA := zh (LK.out.all { Al with kind := 5, name := LU i })
            clear hne;go_wp2_with (refine wpList_store_mid rfl 87 (.tmp 8) (.tmp 116) rfl b8 0 #[.int .i64 5, .string (LU i), .int .i64 0, .int .i64 0, .int .i64 0, .slice none 0 0, .slice none 0 0, .int .i64 0, .int .i64 0, .bool false] (by rfl) (by rfl) ?_ ?_ ?_ ?_; (exact Oy.out); (exact WC); (exact Zn { Al with kind := 5, name := LU i } none 0 none 0))
            go_meet
            exact ⟨_, none, 0, none, 0, HMA.out, ⟨SE OY (by rw [HK.out]; rfl) (Dm.nil _ _ _) (fun _ h => by cases h), WE (.inr HK.out) (Dm.nil true _ _) (fun _ h => by cases h)⟩, fun u _ => Dg (yK (show (1 : Nat) <= 100 by decide)) rfl rfl⟩
          · have hel : ((ms.length : Int) == 0) = false := by
              have : ms.length ≠ 0 := fun e => hne (AAf e)
              simp; omega
            have sH := zh hne;clear hne;go_wp2;go_meet;exact ⟨_, none, 0, A5, c5, LK.out, ⟨Uf OY (by rw [HK.out]; rfl) fJ rD sH E, Xi HK fJ qj sH E⟩, fun u hu => Na (yK (show (1 : Nat) <= 100 by decide)) rfl (HF5.out u hu)⟩
        · have HM : Hid (Mid wi wc x A' c' b8 { Al with kind := 7 } none 0 none 0) := zh (show Mid wi wc x A' c' b8 { Al with kind := 7 } none 0 none 0 from Dp.out)
          clear Dp;obtain ⟨⟨⟨⟨⟨n0, n1, n2, n3, n4⟩, hfz⟩, t0, t1, t2, t3, t4, t5, t6, t7, t8, t9⟩, hdc⟩, _⟩ := CR HM Ia;have EJ := HM.out.blt;have FE := HM.out.nb.blt;have hdl := zL hdc;simp only at hdl;go_wp2_with fail
          refine wp_region_held_drew (S := (fun w' => ((((w'.cell? ⟨wi.heap.size, 0, none⟩ = some (.int .u8 x.kind) /\ w'.cell? ⟨wi.heap.size, 1, none⟩ = some (.int .u8 x.a) /\ w'.cell? ⟨wi.heap.size, 2, none⟩ = some (.int .u8 x.b) /\ w'.cell? ⟨wi.heap.size, 3, none⟩ = some (.int .u8 x.c) /\ w'.cell? ⟨wi.heap.size, 4, none⟩ = some (.slice A' x.parts.length c')) /\ (∀ j, w'.frozen? ⟨b8, j, none⟩ = false)) /\ (∀ j, j < 10 -> (w'.cell? ⟨b8, j, none⟩).isSome = true)) /\ w'.cell? ⟨w.heap.size, 0, none⟩ = some (.slice (some ⟨b, o, none⟩) d.length c)) /\ Hid (∃ t As cs Am cm, Mid wi w' x A' c' b8 t As cs Am cm))) (by kernel_rfl) ?_ (fun AO => ?_)
          · (try dsimp only); exact Br (HM.out.below (zC (Pe _ _) 1)) Ia
          have nE := zh (HM.out.below (zC (Pe wc.heap.size wc) 1));refine tL 0 ?_
          (try simp only [ps])
          refine tL 1 ?_
          (try simp only [ps])
          refine tL 2 ?_
          (try simp only [ps])
          refine tL 3 ?_
          (try simp only [ps])
          refine tL 4 ?_
          (try simp only [ps])
          refine tL 5 ?_
          (try simp only [ps])
          refine tL 6 ?_
          (try simp only [ps])
          refine tL 7 ?_
          (try simp only [ps])
          refine tL 8 ?_
          (try simp only [ps])
          refine tL 9 ?_
          (try simp only [ps])
          refine tR 10 (fun K hK => ?_)
          (obtain ⟨z10, ADQ⟩ := Option.isSome_iff_exists.1 (AO.1.1.2 4 (by decide)); have ADi := AO.1.1.1.2 4; go_simp; skip)
          refine hK.out _ _ ?_ (fun AO => ?_)
          · (try dsimp only); exact Br (nE.out.GI _) Ia
          clear hK K
          (try simp only [ps])
          refine tL 11 ?_
          (try simp only [ps])
          refine tR 12 (fun K hK => ?_)
          (obtain ⟨z12, ADP⟩ := Option.isSome_iff_exists.1 (AO.1.1.2 8 (by decide)); have ADh := AO.1.1.1.2 8; go_simp; skip)
          refine hK.out _ _ ?_ (fun AO => ?_)
          · (try dsimp only); exact Br ((nE.out.GI _).Il _) Ia
          clear hK K
          (try simp only [ps])
          refine wpAnyH_done (by kernel_rfl) ?_ _
          go_wp2
          go_meet
          exact ⟨_, none, 0, none, 0, (nE.out.GI _).Il _, ⟨PL OY (by rw [HK.out]; rfl) Rz LQ, SF (.inl HK.out) Rz⟩, (fun u _ => Dg (yK (show (0 : Nat) <= 100 by decide)) rfl rfl)⟩
        · have HM : Hid (Mid wi wc x A' c' b8 { Al with kind := 8 } none 0 none 0) := zh (show Mid wi wc x A' c' b8 { Al with kind := 8 } none 0 none 0 from Dp.out)
          clear Dp;obtain ⟨⟨⟨⟨⟨n0, n1, n2, n3, n4⟩, hfz⟩, t0, t1, t2, t3, t4, t5, t6, t7, t8, t9⟩, hdc⟩, _⟩ := CR HM Ia;have EJ := HM.out.blt;have FE := HM.out.nb.blt;have hdl := zL hdc;simp only at hdl;have HKD := zh (@Wt d x.b);obtain ⟨ky, hky⟩ : ∃ ky, Hid (Dz d x.b = ky) := ⟨_, rfl⟩;rw [hky.out] at HKD;go_wp2_with fail
          refine wp_region_held_drew (S := (fun w' => ((((w'.cell? ⟨wi.heap.size, 0, none⟩ = some (.int .u8 x.kind) /\ w'.cell? ⟨wi.heap.size, 1, none⟩ = some (.int .u8 x.a) /\ w'.cell? ⟨wi.heap.size, 2, none⟩ = some (.int .u8 x.b) /\ w'.cell? ⟨wi.heap.size, 3, none⟩ = some (.int .u8 x.c) /\ w'.cell? ⟨wi.heap.size, 4, none⟩ = some (.slice A' x.parts.length c')) /\ (∀ j, w'.frozen? ⟨b8, j, none⟩ = false)) /\ (∀ j, j < 10 -> (w'.cell? ⟨b8, j, none⟩).isSome = true)) /\ w'.cell? ⟨w.heap.size, 0, none⟩ = some (.slice (some ⟨b, o, none⟩) d.length c)) /\ Hid (∃ t As cs Am cm, Mid wi w' x A' c' b8 t As cs Am cm))) (by kernel_rfl) ?_ (fun AO => ?_)
          · (try dsimp only); exact Br (HM.out.below (zC (Pe _ _) 1)) Ia
          have nE := zh (HM.out.below (zC (Pe wc.heap.size wc) 1));refine tL 0 ?_
          (try simp only [ps])
          refine tL 1 ?_
          (try simp only [ps])
          refine tL 2 ?_
          (try simp only [ps])
          refine tL 3 ?_
          (try simp only [ps])
          refine tL 4 ?_
          (try simp only [ps])
          refine tL 5 ?_
          (try simp only [ps])
          refine tL 6 ?_
          (try simp only [ps])
          refine tL 8 ?_
          (try simp only [ps])
          refine tL 9 ?_
          (try simp only [ps])
          refine tL 10 ?_
          (try simp only [ps])
          refine tL 11 ?_
          (try simp only [ps])
          refine tL 12 ?_
          (try simp only [ps])
          refine tL 13 ?_
          (try simp only [ps])
          refine tR 7 (fun K hK => ?_)
          go_simp
          (refine (RB d x.b _ c _ ((HST.out.below nE.out.Bb).db.nodes) HXB).mono ?_; rintro e w4 ⟨rfl, hbx⟩; rw [hky.out]; have nD := zh (nE.out.below hbx))
          refine hK.out _ _ ?_ (fun AO => ?_)
          · (try dsimp only); exact Br nD Ia
          clear hK K
          (try simp only [ps])
          refine tR 14 (fun K hK => ?_)
          (obtain ⟨z14, ADO⟩ := Option.isSome_iff_exists.1 (AO.1.1.2 4 (by decide)); have ADg := AO.1.1.1.2 4; go_simp; skip)
          refine hK.out _ _ ?_ (fun AO => ?_)
          · (try dsimp only); exact Br (nD.out.GI _) Ia
          clear hK K
          (try simp only [ps])
          refine tL 15 ?_
          (try simp only [ps])
          refine tR 16 (fun K hK => ?_)
          (obtain ⟨z16, ADN⟩ := Option.isSome_iff_exists.1 (AO.1.1.2 7 (by decide)); have ADf := AO.1.1.1.2 7; go_simp; skip)
          refine hK.out _ _ ?_ (fun AO => ?_)
          · (try dsimp only); exact Br ((nD.out.GI _).Qk _) Ia
          clear hK K
          (try simp only [ps])
          refine tL 17 ?_
          (try simp only [ps])
          refine tR 18 (fun K hK => ?_)
          (obtain ⟨z18, ADM⟩ := Option.isSome_iff_exists.1 (AO.1.1.2 8 (by decide)); have ADe := AO.1.1.1.2 8; go_simp; skip)
          refine hK.out _ _ ?_ (fun AO => ?_)
          · (try dsimp only); exact Br (((nD.out.GI _).Qk _).Il _) Ia
          clear hK K
          (try simp only [ps])
          refine wpAnyH_done (by kernel_rfl) ?_ _
          have qi := zh (((nD.out.GI mx).Qk ky).Il ev);clear AO;generalize ((w4.setCell ⟨b8, 4, none⟩ (.int .i64 mx)).setCell ⟨b8, 7, none⟩ (.int .i64 ky)).setCell ⟨b8, 8, none⟩ (.int .i64 ev) = W6 at *;have s4 : W6.cell? ⟨b8, 4, none⟩ = some (.int .i64 mx) := qi.out.tb.cell 4;have s7 : W6.cell? ⟨b8, 7, none⟩ = some (.int .i64 ky) := qi.out.tb.cell 7
          have s8 : W6.cell? ⟨b8, 8, none⟩ = some (.int .i64 ev) := qi.out.tb.cell 8;have XA := qi.out.blt;clear n0 n1 n2 n3 n4 hfz t0 t1 t2 t3 t4 t5 t6 t7 t8 t9 hdc EJ FE hdl
          by_cases hk0 : ky < 0
          · have HK0 : Hid (Dz d x.b < 0) := by show _ < _; rw [hky.out]; exact hk0
            have Oy := zh (P7 qi);have HMA := zh (qi.out.all { Al with kind := 7, max := mx, elem := ev })
            go_wp2_with (refine wpList_store_mid rfl 87 (.tmp 8) (.tmp 155) rfl b8 0 #[.int .i64 7, .string ⟨#[]⟩, .int .i64 0, .int .i64 0, .int .i64 mx, .slice none 0 0, .slice none 0 0, .int .i64 0, .int .i64 ev, .bool false] (by rfl) (by rfl) ?_ ?_ ?_ ?_; (exact Oy.out); (exact WC); (exact Zn { Al with kind := 7, max := mx, elem := ev } none 0 none 0))
            go_meet
            exact ⟨_, none, 0, none, 0, HMA.out, ⟨PL OY (by rw [HK.out]; rfl) Rz LQ, SF (.inr ⟨HK.out, _, HK0.out⟩) Rz⟩, (fun u _ => Dg (yK (show (0 : Nat) <= 100 by decide)) rfl rfl)⟩
          · have HK0 : Hid (¬ Dz d x.b < 0) := by show ¬ _ < _; rw [hky.out]; exact hk0
            have hk1 : decide (ky < 0) = false := AAU (by omega)
            have fP := zh (HKD.out (by omega))
            clear hk0;go_wp2;go_meet;exact ⟨_, none, 0, none, 0, qi.out, ⟨Zq OY (by rw [HK.out]; rfl) Rz LQ fP.out.1 fP.out.2, iD (q := x.b) HK (by have := HK0.out; omega) Rz⟩, (fun u _ => Dg (yK (show (0 : Nat) <= 100 by decide)) rfl rfl)⟩
        · have HM : Hid (Mid wi wc x A' c' b8 { Al with kind := 9 } none 0 none 0) := zh (show Mid wi wc x A' c' b8 { Al with kind := 9 } none 0 none 0 from Dp.out)
          clear Dp;obtain ⟨⟨⟨⟨⟨n0, n1, n2, n3, n4⟩, hfz⟩, t0, t1, t2, t3, t4, t5, t6, t7, t8, t9⟩, hdc⟩, _⟩ := CR HM Ia;have EJ := HM.out.blt;have FE := HM.out.nb.blt;have hdl := zL hdc;simp only at hdl;go_wp2;go_meet
          exact ⟨_, none, 0, none, 0, HM.out.Il _, ⟨Zp OY (by rw [HK.out]; rfl) LQ, iC HK⟩, (fun u _ => Dg (yK (show (0 : Nat) <= 100 by decide)) rfl rfl)⟩
      case rest =>
      obtain ⟨t, As, cs, Am, cm, HMx, HTx, HOx⟩ := hcut.out;have HMM := zh HMx;have xP := zh HTx;have qc := zh HOx;have xQ := zh (HST.out.below HMx.Bb);clear hcut HMx HTx HOx Dp;obtain ⟨_, t0, t1, t2, t3, t4, t5, t6, t7, t8, t9⟩ := (Ku HMM).1;have EJ := HMM.out.blt;have s0 : wc.cell? ⟨w.heap.size + 1 + 1, 0, none⟩ = some v := by rw [AAE _ _ _ _ _ _ xQ.out.sb]; rfl
      have hls := zL s0;simp only at hls;obtain ⟨Av, cv, rfl, _, _, _⟩ := Ad.reads xQ.out.out.own;have NV : Hid (L.length <= 5) := by have := qo.out; show _ <= _; omega
      have HX : Hid (EN (w.heap.size + 1 + 1) (wc.alloc (.cells (⟨t, As, cs, Am, cm⟩ : KN).cells.toArray 87)) (.slice Av L.length cv) L) := xQ.out.out.below (zD _ _);have Rj := zh (zR wc (⟨t, As, cs, Am, cm⟩ : KN).cells 87);have NR : Hid (w.heap.size + 1 + 1 + 1 <= (wc.alloc (.cells (⟨t, As, cs, Am, cm⟩ : KN).cells.toArray 87)).heap.size) := by show _ <= _; simp; omega
      have Ic := zh (fun v9 w9 ho hg hv => OO.next xQ HD0 (x := ⟨t, As, cs, Am, cm⟩) (qc.out.mono fun q _ hq => by
        have h1 := (zg.1 HST.out.sb).1
        show q < wi.heap.size
        rcases hq with h | h
        · omega
        · exact (World.ownsRow.lt HST.out.out.own q h).2) (v9 := v9) (w9 := w9) ho hg hv)
      go_wp2_with (at_builtin; refine Ml kZ _ rfl (.tmp 165) (.tmp 167) rfl (w.heap.size + 1 + 1 + 1) _ _ _ rfl HX.out.own wc.heap.size 0 1 1 (⟨t, As, cs, Am, cm⟩ : KN).cells rfl rfl Rj (iF _) (by have := NV.out; omega) (by have := NV.out; omega) NR ?_; intro v9 w9 gF kJ xA; obtain ⟨A9, c9, rfl, _⟩ := Ad.reads (Ad.snoc (enc := KN.cells) (x := (⟨t, As, cs, Am, cm⟩ : KN)) gF); have xX := zh (Ic.out _ w9 gF kJ xA); have hf9 := xX.out.1; have hc9 := xX.out.2.1; have hl9 := xX.out.2.2.1; clear gF kJ xA)
      go_roundw
      case rel =>
        refine ⟨i + 1, _, L ++ [⟨t, As, cs, Am, cm⟩], by omega, by go_num, (by have h := xX.out.2.2.2; simp only [AAt, AAS, List.length_nil, Nat.zero_add] at h; exact h), (by rw [AAt, qo.out]; rfl), fun j hj => ?_⟩
        by_cases hji : j < L.length
        · rw [List.getElem_append_left hji]; exact KR.out j hji
        · have uN : j = i := by rw [AAt, qo.out] at hj; rw [qo.out] at hji; simp at hj; omega
          subst uN;rw [List.getElem_append_right (by rw [qo.out]; exact AAH _)]
          rw [XR.out]
          simpa using xP.out
      case measure => simp [intOf]; omega
    · have HDO : Hid (Jf d (L.map (·.t))) := by
        refine ⟨by rw [AAZ, qo.out]; omega, fun j hj => ?_⟩
        rw [List.getElem_map];exact (KR.out j (by simpa using hj)).1
      have lV : Hid (rW d (L.map (·.t))) := fun j hj => by
        rw [List.getElem_map];exact KR.out j (by simpa using hj)
      have s0 : wi.cell? ⟨w.heap.size + 1 + 1, 0, none⟩ = some v := by rw [AAE _ _ _ _ _ _ HST.out.sb]; rfl
      have r0 : wi.cell? ⟨w.heap.size + 1, 0, none⟩ = some (.slice none 0 0) := by rw [AAE _ _ _ _ _ _ HST.out.rb]; rfl
      have f0 := AAL _ _ 0 _ _ HST.out.rb;have hls := zL s0;simp only at hls;obtain ⟨Av, cv, rfl, _, _, _⟩ := Ad.reads HST.out.out.own;have O4 : Hid (∀ x1, Off (· < w.heap.size) (wi.setCells (w.heap.size + 1) 0 [x1]) fun u => CQ u Av (L.map (·.t))) := fun x1 => by
        rw [World.setCells, World.setCells];have h1 := HST.out.out.set (w' := wi.setCell ⟨w.heap.size + 1, 0, none⟩ x1) (by simp) (Nat.le_succ _) (fun q hq _ => AAF _ _ _ _ (by simpa using hq))
        refine fun u hu => ?_
        have h2 : EN (w.heap.size + 1 + 1) u (.slice Av L.length cv) L := ⟨h1.own.keep fun g k1 k2 _ => hu g (fun h => by have : g < w.heap.size := h; omega) k2, fun x hx => fun u2 hu2 => h1.off x hx u2 fun q hq hl => by
          have e := hu q (fun h => hq (.inl (by have : q < w.heap.size := h; omega))) hl
          have uL : q < u.heap.size := (zg.1 (e.trans (Array.getElem?_eq_getElem hl))).1;exact (hu2 q hq uL).trans e⟩
        obtain ⟨A', c', e, hr⟩ := h2.rows (by rw [qo.out]; omega)
        injection e with e1 _ _
        rw [e1]; exact hr
      have mD : Hid (∀ x1, Below w.heap.size w (wi.setCells (w.heap.size + 1) 0 [x1])) := fun x1 => by
        rw [World.setCells, World.setCells];exact HST.out.db.below.setCell (p := ⟨w.heap.size + 1, 0, none⟩) (by simp) _
      have UR : Hid (∀ x1, (wi.setCells (w.heap.size + 1) 0 [x1]).cell? ⟨w.heap.size + 1, 0, none⟩ = some x1) := fun x1 => by
        rw [World.setCells, World.setCells];rw [AAE _ _ _ _ _ _ (AAW _ _ 0 _ _ x1 HST.out.rb)]; rfl
      have Oy : Hid (wi.there (w.heap.size + 1) 0 1) := fun j hj => by
        obtain rfl : j = 0 := by omega
        exact ⟨by rw [r0]; rfl, f0⟩
      clear r0 f0;go_wp2_with (refine wpList_store_mid rfl 31 (.tmp 2) (.tmp 170) rfl (w.heap.size + 1) 0 #[.slice Av L.length cv] (by rfl) (by rfl) ?_ ?_ ?_ ?_; (exact Oy.out); (exact aL); (simp [Value.oneCell']))
      have hc1 := UR.out (.slice Av L.length cv);exact bodyPost_ret (v := .tuple #[.agg #[.slice Av L.length cv], .bool true]) (by simp [results, Tryz.results11, go_sem, hc1]) rfl (oM HDO lV hn1 bZ (O4.out (.slice Av L.length cv)) (mD.out (.slice Av L.length cv)))
end Go.Proofs.YthkkllmmbefedaaGreatDoor



