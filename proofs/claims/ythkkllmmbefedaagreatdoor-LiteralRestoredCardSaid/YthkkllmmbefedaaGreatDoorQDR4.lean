/-
  Walks: the schema of a draft.
-/
import Derived.Test.YthkkllmmbefedaaGreatDoorQGX0
import Derived.Test.YthkkllmmbefedaaGreatDoorQGN3
import Derived.Test.YthkkllmmbefedaaGreatDoorQGB1
import Derived.Deep.CutBlock
namespace Go.Proofs.YthkkllmmbefedaaGreatDoor
open Go.RowKit
set_option maxHeartbeats 16000000
set_option maxRecDepth 100000
theorem Yn {x:Val} (h:Jj x) (w:World) (A1 A2 A3:zo):Ao w x A1 A2 A3:=by
 obtain ⟨h0,h1,h2,h3⟩:=h;exact ⟨yK (Nat.le_trans h0.1 (by decide)),by rw[h1];exact Ac.nil _ _ _ _ _,by rw[h2];exact Ac.nil _ _ _ _ _,by rw[h3];exact Ac.nil _ _ _ _ _⟩
variable {d:List AR} {v:Value} {W:World}
theorem Jd.AA {i:Nat} {rec:Bool} {n base:Nat} {ms:List AY} (h:Jd d i rec n 12 base W v ms):∃A c,v = .slice A ms.length c/\Off (· < base) W fun u=>Fg u A ms:=by
 obtain ⟨A,c,hv,_⟩:=h.own.reads;refine ⟨A,c,hv,fun u hu=>?_⟩
 have ho:xW u base v ms:=h.own.keep fun g hg hl _=>hu g (by omega) hl
 obtain ⟨A',c',hv',hr⟩:=Ab.rows (bytes:=160) (at_:=fun x cs=>AY.At u x cs) ho (fun _=>rfl) (by have:=h.ok.len;unfold EK;omega) (fun m hm=>⟨none,0,none,0,none,0,by
  obtain ⟨_,h1,h2,h3⟩:=h.flat m hm;unfold Zu
  rfl,⟨by rw[(h.ok.2 m hm).2.1];exact yK (by rw[show (Sm 109 m.id.toNat).size=2 from rfl];decide),Yn (h.flat m hm) _ _ _ _⟩⟩)
 rw[hv] at hv'
 injection hv' with e1 _ _
 rw[e1];exact hr
variable {w:World} {A:zo}
theorem gX {w':World} {l:List Int} (h:Io w A l) (hb:∀b o,A=some ⟨b,o,none⟩->w'.heap[b]? = w.heap[b]?):Io w' A l:=by
 refine ⟨h.1,fun hn=>?_⟩
 obtain ⟨q,o,e,hi⟩:=h.2 hn;refine ⟨q,o,e,fun i x hx=>?_⟩
 obtain ⟨cs,h1,h2⟩:=hi i x hx;refine ⟨cs,h1,fun j u hj=>?_⟩
 rw[World.cell?_of_block (w:=w) (w':=w') (a:=⟨q,o+i * 1+j,none⟩) (hb q o e)];exact h2 j u hj
structure Pn (w W:World) (A:zo) (d:List AR) (c:Nat) (v:Value) (L:List LK):Prop where
 db:LD w W A d c
 rb:W.heap[w.heap.size+1]? = some (.cells #[.slice none 0 0] 31 (0,0))
 sb:W.heap[w.heap.size+1+1]? = some (.cells #[v] 31 (0,0))
 out:Ei (w.heap.size+1+1) W v L
variable {L:List LK} {c:Nat}
theorem Pn.below {W':World} (h:Pn w W A d c v L) (hb:Below W.heap.size W W'):Pn w W' A d c v L :=
 ⟨h.db.step hb,(hb.block _ (zg.1 h.rb).1).trans h.rb,(hb.block _ (zg.1 h.sb).1).trans h.sb,h.out.below hb⟩
theorem Pn.new (h:BD w A d):Pn w (((w.alloc (.cells #[.slice A d.length c] 24)).alloc (.cells #[.slice none 0 0] 31)).alloc (.cells #[.slice none 0 0] 31)) A d c (.slice none 0 0) []:=by
 have hz:(w.alloc (.cells #[.slice A d.length c] 24)).heap.size=w.heap.size+1:=by simp
 have hz2:((w.alloc (.cells #[.slice A d.length c] 24)).alloc (.cells #[.slice none 0 0] 31)).heap.size=w.heap.size+1+1:=by simp
 refine ⟨((LD.new h).step (zD _ _)).step (zD _ _),FR ?_ _,?_,Ei.nil _ _⟩
 ·have:=AAL (w.alloc (.cells #[.slice A d.length c] 24)) (.cells #[.slice none 0 0] 31)
  rw[hz] at this;exact this
 ·have:=AAL ((w.alloc (.cells #[.slice A d.length c] 24)).alloc (.cells #[.slice none 0 0] 31)) (.cells #[.slice none 0 0] 31)
  rw[hz2] at this;exact this
structure Mid (wi W:World) (x:AR) (A':zo) (c' b8:Nat) (t:Aa) (As:zo) (cs:Nat) (Am:zo) (cm:Nat):Prop where
 nb:Gv W wi.heap.size x A' c'
 tb:CS W b8 t As cs Am cm
 Bz:Below wi.heap.size wi W
 ne:wi.heap.size<b8
section
variable {wi W W':World} {x:AR} {A':zo} {c' b8:Nat} {t:Aa} {As:zo} {cs:Nat} {Am:zo} {cm:Nat}
theorem Mid.below (h:Mid wi W x A' c' b8 t As cs Am cm) (hb:Below W.heap.size W W'):Mid wi W' x A' c' b8 t As cs Am cm:=⟨h.nb.below hb,h.tb.below hb,zB h.Bz hb,h.ne⟩
theorem Lm (h : Mid wi W x A' c' b8 t As cs Am cm) :
    (((W.cell? ⟨wi.heap.size, 0, none⟩ = some (.int .u8 x.kind) /\ W.cell? ⟨wi.heap.size, 1, none⟩ = some (.int .u8 x.a) /\ W.cell? ⟨wi.heap.size, 2, none⟩ = some (.int .u8 x.b) /\ W.cell? ⟨wi.heap.size, 3, none⟩ = some (.int .u8 x.c) /\ W.cell? ⟨wi.heap.size, 4, none⟩ = some (.slice A' x.parts.length c')) /\ (∀ j, W.frozen? ⟨b8, j, none⟩ = false)) /\
      (W.cell? ⟨b8, 0, none⟩ = some (.int .i64 t.kind) /\ W.cell? ⟨b8, 1, none⟩ = some (.string t.name) /\ W.cell? ⟨b8, 2, none⟩ = some (.int .i64 t.low) /\ W.cell? ⟨b8, 3, none⟩ = some (.int .i64 t.high) /\ W.cell? ⟨b8, 4, none⟩ = some (.int .i64 t.max) /\ W.cell? ⟨b8, 5, none⟩ = some (.slice As t.AV.length cs) /\ W.cell? ⟨b8, 6, none⟩ = some (.slice Am t.AA.length cm) /\ W.cell? ⟨b8, 7, none⟩ = some (.int .i64 t.key) /\ W.cell? ⟨b8, 8, none⟩ = some (.int .i64 t.elem) /\ W.cell? ⟨b8, 9, none⟩ = some (.bool t.open_))) /\
      Hid (Mid wi W x A' c' b8 t As cs Am cm) :=
  ⟨⟨⟨⟨h.nb.cell 0, h.nb.cell 1, h.nb.cell 2, h.nb.cell 3, h.nb.cell 4⟩, fun _ => AAR _ _ _ _ _ h.tb⟩, h.tb.cell 0, h.tb.cell 1, h.tb.cell 2, h.tb.cell 3, h.tb.cell 4, h.tb.cell 5, h.tb.cell 6, h.tb.cell 7, h.tb.cell 8, h.tb.cell 9⟩, h⟩
theorem Mid.other (h:Mid wi W x A' c' b8 t As cs Am cm) (j:Nat) (v:Value):Gv (W.setCell ⟨b8,j,none⟩ v) wi.heap.size x A' c'/\Below wi.heap.size wi (W.setCell ⟨b8,j,none⟩ v) :=
 ⟨(AAO _ _ _ _ (by have:=h.ne;show wi.heap.size≠b8;omega)).trans h.nb,h.Bz.setCell (p:=⟨b8,j,none⟩) (by have:=h.ne;show wi.heap.size<=b8;omega) v⟩
theorem Mid.blt (h:Mid wi W x A' c' b8 t As cs Am cm):b8<W.heap.size:=h.tb.blt
theorem Mid.lS (h:Mid wi W x A' c' b8 t As cs Am cm) (m:Int):Mid wi (W.setCell ⟨b8,2,none⟩ (.int .i64 m)) x A' c' b8 { t with low:=m } As cs Am cm :=
 ⟨(h.other _ _).1,by have:=AAW _ _ 2 _ _ (.int .i64 m) h.tb;unfold CS;rw[this];simp,(h.other _ _).2,h.ne⟩
theorem Mid.dY (h:Mid wi W x A' c' b8 t As cs Am cm) (m:Int):Mid wi (W.setCell ⟨b8,3,none⟩ (.int .i64 m)) x A' c' b8 { t with high:=m } As cs Am cm :=
 ⟨(h.other _ _).1,by have:=AAW _ _ 3 _ _ (.int .i64 m) h.tb;unfold CS;rw[this];simp,(h.other _ _).2,h.ne⟩
theorem Mid.Gg (h:Mid wi W x A' c' b8 t As cs Am cm) (m:Int):Mid wi (W.setCell ⟨b8,4,none⟩ (.int .i64 m)) x A' c' b8 { t with max:=m } As cs Am cm :=
 ⟨(h.other _ _).1,by have:=AAW _ _ 4 _ _ (.int .i64 m) h.tb;unfold CS;rw[this];simp,(h.other _ _).2,h.ne⟩
theorem Mid.Rc (h:Mid wi W x A' c' b8 t As cs Am cm) (m:Int):Mid wi (W.setCell ⟨b8,7,none⟩ (.int .i64 m)) x A' c' b8 { t with key:=m } As cs Am cm :=
 ⟨(h.other _ _).1,by have:=AAW _ _ 7 _ _ (.int .i64 m) h.tb;unfold CS;rw[this];simp,(h.other _ _).2,h.ne⟩
theorem Mid.JG (h:Mid wi W x A' c' b8 t As cs Am cm) (m:Int):Mid wi (W.setCell ⟨b8,8,none⟩ (.int .i64 m)) x A' c' b8 { t with elem:=m } As cs Am cm :=
 ⟨(h.other _ _).1,by have:=AAW _ _ 8 _ _ (.int .i64 m) h.tb;unfold CS;rw[this];simp,(h.other _ _).2,h.ne⟩
theorem Mid.QX (h:Mid wi W x A' c' b8 t As cs Am cm) (m:Bool):Mid wi (W.setCell ⟨b8,9,none⟩ (.bool m)) x A' c' b8 { t with open_:=m } As cs Am cm :=
 ⟨(h.other _ _).1,by have:=AAW _ _ 9 _ _ (.bool m) h.tb;unfold CS;rw[this];simp,(h.other _ _).2,h.ne⟩
theorem Mid.dX (h:Mid wi W x A' c' b8 t As cs Am cm) (m:ByteArray):Mid wi (W.setCell ⟨b8,1,none⟩ (.string m)) x A' c' b8 { t with name:=m } As cs Am cm :=
 ⟨(h.other _ _).1,by have:=AAW _ _ 1 _ _ (.string m) h.tb;unfold CS;rw[this];simp,(h.other _ _).2,h.ne⟩
theorem Mid.dW (h:Mid wi W x A' c' b8 t As cs Am cm) (l:List Bq) (B:zo) (d:Nat):Mid wi (W.setCell ⟨b8,5,none⟩ (.slice B l.length d)) x A' c' b8 { t with AV:=l } B d Am cm :=
 ⟨(h.other _ _).1,by have:=AAW _ _ 5 _ _ (.slice B l.length d) h.tb;unfold CS;rw[this];simp,(h.other _ _).2,h.ne⟩
theorem Mid.Tc (h:Mid wi W x A' c' b8 t As cs Am cm) (l:List AY) (B:zo) (d:Nat):Mid wi (W.setCell ⟨b8,6,none⟩ (.slice B l.length d)) x A' c' b8 { t with AA:=l } As cs B d :=
 ⟨(h.other _ _).1,by have:=AAW _ _ 6 _ _ (.slice B l.length d) h.tb;unfold CS;rw[this];simp,(h.other _ _).2,h.ne⟩
theorem CU (h : Mid wi W x A' c' b8 t As cs Am cm) {q : Nat} {sv : Value} (hd : wi.cell? ⟨q, 0, none⟩ = some sv) :
    ((((W.cell? ⟨wi.heap.size, 0, none⟩ = some (.int .u8 x.kind) /\ W.cell? ⟨wi.heap.size, 1, none⟩ = some (.int .u8 x.a) /\ W.cell? ⟨wi.heap.size, 2, none⟩ = some (.int .u8 x.b) /\ W.cell? ⟨wi.heap.size, 3, none⟩ = some (.int .u8 x.c) /\ W.cell? ⟨wi.heap.size, 4, none⟩ = some (.slice A' x.parts.length c')) /\ (∀ j, W.frozen? ⟨b8, j, none⟩ = false)) /\
      (W.cell? ⟨b8, 0, none⟩ = some (.int .i64 t.kind) /\ W.cell? ⟨b8, 1, none⟩ = some (.string t.name) /\ W.cell? ⟨b8, 2, none⟩ = some (.int .i64 t.low) /\ W.cell? ⟨b8, 3, none⟩ = some (.int .i64 t.high) /\ W.cell? ⟨b8, 4, none⟩ = some (.int .i64 t.max) /\ W.cell? ⟨b8, 5, none⟩ = some (.slice As t.AV.length cs) /\ W.cell? ⟨b8, 6, none⟩ = some (.slice Am t.AA.length cm) /\ W.cell? ⟨b8, 7, none⟩ = some (.int .i64 t.key) /\ W.cell? ⟨b8, 8, none⟩ = some (.int .i64 t.elem) /\ W.cell? ⟨b8, 9, none⟩ = some (.bool t.open_))) /\ W.cell? ⟨q, 0, none⟩ = some sv) /\
      Hid (Mid wi W x A' c' b8 t As cs Am cm) :=
  ⟨⟨(Lm h).1, zA h.Bz hd⟩, h⟩
theorem CB (h : Mid wi W x A' c' b8 t As cs Am cm) {q : Nat} {sv : Value} (hd : wi.cell? ⟨q, 0, none⟩ = some sv) :
    ((((W.cell? ⟨wi.heap.size, 0, none⟩ = some (.int .u8 x.kind) /\ W.cell? ⟨wi.heap.size, 1, none⟩ = some (.int .u8 x.a) /\ W.cell? ⟨wi.heap.size, 2, none⟩ = some (.int .u8 x.b) /\ W.cell? ⟨wi.heap.size, 3, none⟩ = some (.int .u8 x.c) /\ W.cell? ⟨wi.heap.size, 4, none⟩ = some (.slice A' x.parts.length c')) /\ (∀ j, W.frozen? ⟨b8, j, none⟩ = false)) /\
      (∀ j, j < 10 -> (W.cell? ⟨b8, j, none⟩).isSome = true)) /\ W.cell? ⟨q, 0, none⟩ = some sv) /\ Hid (∃ t As cs Am cm, Mid wi W x A' c' b8 t As cs Am cm) :=
  ⟨⟨⟨(Lm h).1.1, fun j hj => by rw [h.tb.cell j]; simp; omega⟩, zA h.Bz hd⟩, t, As, cs, Am, cm, h⟩
theorem Qp (h:Mid wi W x A' c' b8 t As cs Am cm):W.there b8 0 10:=fun j hj=>by
 rw[Nat.zero_add];refine ⟨?_,AAR _ _ _ _ _ h.tb⟩;rw[AAN _ _ _ _ _ _ h.tb]
 match j,hj with
 | 0,_=>rfl
 | 1,_=>rfl
 | 2,_=>rfl
 | 3,_=>rfl
 | 4,_=>rfl
 | 5,_=>rfl
 | 6,_=>rfl
 | 7,_=>rfl
 | 8,_=>rfl
 | 9,_=>rfl
theorem Mid.all (h:Mid wi W x A' c' b8 t As cs Am cm) (u:Aa):Mid wi (W.setCells b8 0 (u.cs none 0 none 0)) x A' c' b8 u none 0 none 0 :=
 ⟨(zN (by have:=h.ne;omega) _ _ _).trans h.nb,by unfold CS;rw[Bl _ _ _ _ h.tb];simp[Vi],yC _ (by have:=h.ne;omega) _ _ _ h.Bz,h.ne⟩
theorem Mid.keep (h:Mid wi W x A' c' b8 t As cs Am cm) (hb:Below wi.heap.size wi W') (hk:∀g,g=wi.heap.size\/g=b8->W'.heap[g]? = W.heap[g]?):Mid wi W' x A' c' b8 t As cs Am cm :=
 ⟨(hk _ (.inl rfl)).trans h.nb,(hk _ (.inr rfl)).trans h.tb,hb,h.ne⟩
theorem RY (h:Mid wi W x A' c' b8 t As cs Am cm) {b3 o3:Nat} {ob:Obj} {z:Value} (hk:W.heap[b3]? = some ob) (hc:∀W:World,W.heap[b3]? = some ob->W.cell? ⟨b3,o3,none⟩=some z) :
  ((W.cell? ⟨b8,5,none⟩=some (.slice As t.AV.length cs)/\W.frozen? ⟨b8,5,none⟩=false)/\W.cell? ⟨b3,o3,none⟩=some z)/\Hid (Mid wi W x A' c' b8 t As cs Am cm/\W.heap[b3]? = some ob) :=
 ⟨⟨⟨h.tb.cell 5,AAR _ _ _ _ _ h.tb⟩,hc W hk⟩,h,hk⟩
end
def Um (s:Bq):List Value:=[.int .i64 s.id,.string s.name]
theorem iK (s:Bq):∀u∈Um s,u.oneCell'=true:=fun u hu=>by
 unfold Um at hu;simp only[AAi,List.mem_nil_iff,or_false] at hu
 rcases hu with rfl|rfl <;> rfl
theorem qf {base:Nat} {B:zo} {dc:Nat} {L:List Bq} (h:Ab 92 2 Um W base (.slice B L.length dc) L) (hl:L.length<=100) (hs:∀s∈L,Dk s.name):Off (· < base) W fun u=>Ja u B L:=fun u hu=>by
 have ho:Ab 92 2 Um u base (.slice B L.length dc) L:=h.keep fun g hg hlt _=>hu g (by omega) hlt
 obtain ⟨A',c',hv',hr⟩:=Ab.rows (bytes:=24) (at_:=fun x cs=>Bq.At x cs) ho (fun _=>rfl) (by unfold EK;omega) (fun s hm=>⟨hs s hm,rfl⟩)
 injection hv' with e1 _ _
 rw[e1];exact hr
theorem dZ:(Tryz.prog.info? 31).map (·.size)=some 1:=by kernel_rfl
theorem Pn.next (h:Pn w W A d c v L) (hd:BD w A d) {x:LK} (hx:Off (fun q=>q<=w.heap.size+1+1\/v.ownBlock=some q) W fun u=>JY u x.t x.As x.Am) {v9:Value} {w9:World} (ho:w9.ownsRow (w.heap.size+1+1+1) 87 10 v9 (L.length+1) (L.flatMap LK.cells++x.cells)) (hg:(W.alloc (.cells x.cells.toArray 87)).grownBy w9 v.ownBlock) (hv:v9.ownBlock=v.ownBlock\/v9.ownBlock=some (W.alloc (.cells x.cells.toArray 87)).heap.size):
  w9.frozen? ⟨w.heap.size+1+1,0,none⟩=false/\w9.cell? ⟨w.heap.size+1+1,0,none⟩=some v/\w.heap.size+1+1<w9.heap.size/\Pn w (w9.setCell ⟨w.heap.size+1+1,0,none⟩ v9) A d c v9 (L++[x]):=by
 have hnew:=zD W (.cells x.cells.toArray 87);have hzs:=(zg.1 h.sb).1;have hoo:=(h.out.below hnew).own;have hk:∀q,q<w.heap.size+1+1+1->w9.heap[q]? = W.heap[q]? := fun q hq=>(yA hg (by have:=hnew.size;omega) fun k hk e=>by have:=hoo.lt k hk;omega).trans (hnew.block q (by omega))
 have hsb:=(hk (w.heap.size+1+1) (by omega)).trans h.sb
 have wu:Below w.heap.size w w9:=(zB h.db.below hnew).grown hg (zB h.db.below hnew).size (fun q hq=>by have:=hoo.lt q hq;omega)
 refine ⟨AAR _ _ _ _ _ hsb,by rw[AAN _ _ _ _ _ _ hsb];rfl,(zg.1 hsb).1,⟨?_,?_,?_,?_⟩,?_,?_,?_⟩
 ·have:=(zg.1 hsb).1;simp;omega
 ·rw[World.cell?_of_block (w:=W) (w':=w9.setCell ⟨w.heap.size+1+1,0,none⟩ v9) (a:=⟨w.heap.size,0,none⟩) ((AAO _ _ _ _ (by simp;omega)).trans (hk _ (by simp only;omega)))];exact h.db.cell
 ·exact hd.below (wu.setCell (p:=⟨w.heap.size+1+1,0,none⟩) (by simp only;omega) _)
 ·exact wu.setCell (p:=⟨w.heap.size+1+1,0,none⟩) (by simp only;omega) _
 ·exact ((AAO _ _ _ _ (by simp)).trans (hk _ (by omega))).trans h.rb
 ·rw[AAW _ _ 0 _ _ v9 hsb];rfl
 ·exact (Ei.snoc (h.out.below hnew) (hx.low hnew) ho hg hv).set (by simp) (b:=w.heap.size+1+1) (AAP _) (fun q hq _=>AAO _ _ _ _ (by simpa using hq))
theorem Nw {T E:TypeId} {size bytes:Nat} (hE:Elem T E size bytes) (w:World) {ops:Array Oper} {rest:List Oper} {op:Oper} {a:Act} {Q:Exit->Act->World->Prop} (hgd:op.guard=none) (s x:Operand)
  (ho:op.op = .call { callee := .builtin .append,args:=#[s,x],argTypes:=#[T,T] }) (base:Nat) (v:Value) (n:Nat) (xs:List Value) (hs:a.eval s=v) (h:w.ownsRow base E size v n xs) (b o m c:Nat) (news:List Value) (hx:a.eval x = .slice (some ⟨b,o,none⟩) m c)
  (hl:news.length=m * size) (hnews:w.rangeAt b o news) (h1:∀u∈news,u.oneCell'=true) (hlen:n+m<=9223372036854775807) (hby:(n+m) * bytes<=140737488355328) (hb:base<=w.heap.size)
  (hk:∀v' w',w'.ownsRow base E size v' (n+m) (xs++news)->w.grownBy w' v.ownBlock->(v'.ownBlock=v.ownBlock\/v'.ownBlock=some w.heap.size)->wpList Tryz.prog ops Q rest (a.put op.dst v') w'):wpList Tryz.prog ops Q (op::rest) a w:=by
 refine wpList_plain hgd fun K hK=>?_
 obtain ⟨v',w',hr,h2,h3,h5⟩:=Lc hE w base op.type v n xs h b o m c news hl hnews h1 hlen hby hb;unfold Oper.wp execOp;simp only[ho,resolve,invoke,builtin,Sem.run_bind,Sem.run_pure,Result.andThen_ok,List.map_toArray,AA5,List.map_nil,hs,hx,hr];exact hK _ _ (hk v' w' h2 h3 h5)
def vG (d:List AR) (s:List Aa):Prop:=∀j (h:j<s.length),MJ d j s[j]/\YR d j (d.getD j Bj) s[j]
def jH (d:List AR) (w:World) (e:Ending) (w':World):Prop :=
 ∃A c s ok,e = .returned (.tuple #[.agg #[.slice A s.length c],.bool ok])/\C8 w' A s/\(ok=true->zQ s=0/\Short s/\s.length=d.length/\0<d.length/\d.length<=5/\(∀t∈s,In64 t.low/\In64 t.high)/\∀t∈s,∀m∈t.AA,Jj m.dflt)/\(ok=false->s=[])/\Below w.heap.size w w'/\(ok=true->vG d s/\Off (· < w.heap.size) w' fun u=>C8 u A s)
theorem qz {W':World} (hd:KN d (L.map (·.t))) (hoi:vG d (L.map (·.t))) (h1:1<=d.length) (h5:d.length<=5) (hO:Off (· < w.heap.size) W' fun u=>C8 u A (L.map (·.t))) (hb:Below w.heap.size w W'):jH d w (.returned (.tuple #[.agg #[.slice A L.length c],.bool true])) W':=by
 have h0:Ending.returned (.tuple #[.agg #[.slice A L.length c],.bool true]) = .returned (.tuple #[.agg #[.slice A (L.map (·.t)).length c],.bool true]):=by rw[AAd]
 have hv:=Uq hd h5;have hs:=Ur hd;have hf:=Wj hd;have hnu:=Zv hd;have hl:=hd.1;have ht:=hO.out;clear hd;generalize L.map (·.t)=s at *;exact ⟨A,c,s,true,h0,ht,fun _=>⟨hv,hs,hl,h1,h5,hnu,hf⟩,(fun h=>by cases h),hb,fun _=>⟨hoi,hO⟩⟩
def tN (wi:World) (d:List AR) (i:Nat) (x:AR) (A':zo) (c' b8:Nat) (wx:World):Prop :=
 ∃t As cs Am cm,Mid wi wx x A' c' b8 t As cs Am cm/\(MJ d i t/\YR d i x t)/\Off (· < wi.heap.size) wx fun u=>JY u t As Am
theorem rA (d : List AR) (A : zo) (c : Nat) (w : World) (hd : BD w A d) :
    Calls Tryz.prog 11 #[Dm A d.length c] w (jH d w) := by
  have hn := hd.1.lt (by omega)
  have HD0 := zh hd;have HI := zh (Pn.new (c := c) hd);clear hd
  by_cases hbad : d.length < 1 \/ 5 < d.length
  · have VT := zh (zI w (.cells #[.slice A d.length c] 24) (.cells #[.slice none 0 0] 31))
    rcases hbad with hb | hb
    · have q1 : decide ((d.length : Int) < 1) = true := by simp; omega
      have q3 : d = [] := AAa (by omega)
      subst q3;clear q1 hb
      go_enter Tryz.func11, Tryz.ntmps11
      go_wp2
      exact bodyPost_ret (v := .tuple #[.agg #[.slice none 0 0], .bool false]) (by simp [results, Tryz.results11, go_sem]) rfl ⟨none, 0, [], false, rfl, Ac.nil _ _ _ _ _, (fun h => by cases h), (fun _ => rfl), VT.out, fun h => by cases h⟩
    · have q1 : decide ((d.length : Int) < 1) = false := by simp; omega
      have q2 : decide ((5 : Int) < (d.length : Int)) = true := by simp; omega
      clear hb
      go_enter Tryz.func11, Tryz.ntmps11
      go_wp2
      exact bodyPost_ret (v := .tuple #[.agg #[.slice none 0 0], .bool false]) (by simp [results, Tryz.results11, go_sem]) rfl ⟨none, 0, [], false, rfl, Ac.nil _ _ _ _ _, (fun h => by cases h), (fun _ => rfl), VT.out, fun h => by cases h⟩
  have hn1 : 1 <= d.length := by omega
  have gy : d.length <= 5 := by omega
  have q1 : decide ((d.length : Int) < 1) = false := by simp; omega
  have q2 : decide ((5 : Int) < (d.length : Int)) = false := by simp; omega
  clear hbad
  go_enter Tryz.func11, Tryz.ntmps11
  go_wp2
  generalize ((w.alloc (.cells #[.slice A d.length c] 24)).alloc (.cells #[.slice none 0 0] 31)).alloc (.cells #[.slice none 0 0] 31) = wc at *
  go_loopw [6] (fun s wr => ∃ (i : Nat) (v : Value) (L : List LK), i <= d.length /\ s = .int .i64 (i : Int) /\ Hid (Pn w wr A d c v L /\ L.length = i /\ ∀ j (h : j < L.length), MJ d j L[j].t /\ YR d j (d.getD j Bj) L[j].t)) (fun s _ => d.length - (intOf s).toNat)
  case atStart => exact ⟨0, _, [], by omega, rfl, HI.out, rfl, fun j h => absurd h (by simp)⟩
  case round =>
    obtain ⟨i, v, L, hi, rfl, hh⟩ := hrel;obtain ⟨wi, rfl⟩ : ∃ wi : World, wi = wr := ⟨_, rfl⟩;have HST := zh hh.out.1;have uZ := zh hh.out.2.1;have OE := zh hh.out.2.2;clear hh
    by_cases hlt : i < d.length
    · have hdc := HST.out.db.cell
      have hdl := HST.out.db.lt;obtain ⟨b, o, A', c', rfl, hr, c0, c1, c2, c3, c4⟩ := HST.out.db.nodes.Wu hlt;generalize Kh : d.getD i Bj = x at *;have YV := zh Kh;clear Kh;have HR := zh hr;have hz := zL c0;simp only at hz;have g1 : (0:Int) <= (i:Int) := by omega
      have g2 : (i : Int) < (d.length : Int) := by omega
      clear hr;have VQ := zh (Gv.new wi x A' c');have HB1 := zh (zD wi (x.box A' c'));have IA := zh (HST.out.below HB1);go_wp2_with fail;refine (CW d i _ c _ IA.out.db.nodes hlt).mono ?_;rintro e w2 ⟨rfl, hb2⟩;have aV := zh (Gi d i);have HK : ∃ K, Hid (AZ d i = K) := ⟨_, rfl⟩;obtain ⟨K, HK⟩ := HK;rw [HK.out]
      have MQ : Hid (Mid wi (w2.alloc (.cells #[.int .i64 K, .string ⟨#[]⟩, .int .i64 0, .int .i64 0, .int .i64 0, .slice none 0 0, .slice none 0 0, .int .i64 0, .int .i64 0, .bool false] 87)) x A' c' w2.heap.size { Ai with kind := K } none 0 none 0) :=
        ⟨(VQ.out.below hb2).below (zD _ _), AAL _ _, zB (zB HB1 hb2) (zD _ _), by have := (VQ.out.below hb2).blt; omega⟩
      have HS2 := zh ((IA.out.below hb2).below (zD w2 (.cells #[.int .i64 K, .string ⟨#[]⟩, .int .i64 0, .int .i64 0, .int .i64 0, .slice none 0 0, .slice none 0 0, .int .i64 0, .int .i64 0, .bool false] 87)));clear hb2 c0 c1 c2 c3 c4 hz hdc hdl;have AB5 : Hid (Cz K = Cz K) := rfl;obtain ⟨NB, NP⟩ : ∃ NB, Hid (Cz K = NB) := ⟨_, rfl⟩
      go_upto_if 37 with fail
      refine (Vw _ _).mono ?_;rintro e w3 ⟨rfl, rfl⟩;rw [NP.out];generalize w2.alloc (.cells #[.int .i64 K, .string ⟨#[]⟩, .int .i64 0, .int .i64 0, .int .i64 0, .slice none 0 0, .slice none 0 0, .int .i64 0, .int .i64 0, .bool false] 87) = W0 at *;generalize w2.heap.size = b8 at *;obtain ⟨⟨⟨⟨n0, n1, n2, n3, n4⟩, hfz⟩, t0, t1, t2, t3, t4, t5, t6, t7, t8, t9⟩, _⟩ := Lm MQ
      have EM := MQ.out.blt
      go_upto_if 37 with fail
      go_cut [] (fun wx => Hid (Mid wi wx x A' c' b8 { Ai with kind := K, name := if Cz K then MS i else ⟨#[]⟩ } none 0 none 0))
      case first =>
        as_aux_lemma =>
        cases NB with
        | true =>
          obtain ⟨S, hS⟩ : ∃ S, Utf8.encode (65 + (i : Int)) = S := ⟨_, rfl⟩;have HS : Hid (S = MS i) := by have := (OW (n := i) (by omega)).2; rw [<- hS]; exact this
          have qH := zh (MQ.out.dX S);go_wp2;go_meet;have := qH.out;rw [HS.out] at this;rw [NP.out, AAH rfl, HS.out];exact this
        | false =>
          go_wp2
          go_meet
          rw [NP.out];exact MQ.out
      case rest =>
      have Di := zh hcut.out;have Pt : Hid (i <= 20) := by show _ <= _; omega
      have jh := zh HR.out.a;have HXB := zh HR.out.b;have hpos : (0 : Int) < (d.length : Int) := by omega
      have hnz : ¬ ((d.length : Int) = 0) := by omega
      have hnil : ¬ (d = []) := fun e => by rw [e] at hn1; simp at hn1
      obtain ⟨ev, hev⟩ : ∃ ev : Int, ev = ((x.c % d.length : Nat) : Int) := ⟨_, rfl⟩;have hxc := HR.out.c;have wm : (x.c : Int).tmod (d.length : Int) = ev := hev.symm;have AEi : (x.c : Int) % (d.length : Int) = ev := by rw [hev]; simp
      have AEh : (IntKind.i64.wrap (x.c : Int)).tmod (d.length : Int) = ev := by rw [IntWalk.i64_in _ (by omega)]; exact wm
      have AEg : (wrap64 (x.c : Int)).tmod (d.length : Int) = ev := by rw [IntWalk.wrap64_in _ (by omega)]; exact wm
      have KX : Hid (0 <= ev /\ ev < (d.length : Int)) := by
        have := Nat.mod_lt x.c (show 0 < d.length by omega)
        show _ /\ _
        omega
      obtain ⟨mx, hmx⟩ : ∃ mx : Int, mx = ((x.a % 4 : Nat) : Int) := ⟨_, rfl⟩;have AEU : (x.a : Int).tmod 4 = mx := hmx.symm;have AET : (x.a : Int) % 4 = mx := by rw [hmx]; simp
      have AES : IntKind.i64.wrap mx = mx := IntWalk.i64_in _ (by omega)
      have Sw : Hid (0 <= mx /\ mx <= 3) := by show _ /\ _; omega
      have HMV := zh hmx;clear hev hmx hxc;have I7 := zh HST.out.db.cell;clear hcut MQ IA HS2 n0 n1 n2 n3 n4 hfz t0 t1 t2 t3 t4 t5 t6 t7 t8 t9 EM VQ HB1 AB5;obtain ⟨⟨⟨⟨⟨n0, n1, n2, n3, n4⟩, hfz⟩, t0, t1, t2, t3, t4, t5, t6, t7, t8, t9⟩, hdc⟩, _⟩ := CU Di I7;have EM := Di.out.blt;have F4 := Di.out.nb.blt
      go_upto_block 2 with fail
      clear n0 n1 n2 n3 n4 hfz t0 t1 t2 t3 t4 t5 t6 t7 t8 t9 EM F4 hdc
      go_cut [] (fun wx => Hid (tN wi d i x A' c' b8 wx))
      case first =>
        as_aux_lemma =>
        have hK : K = 1 \/ K = 2 \/ K = 3 \/ K = 4 \/ K = 5 \/ K = 6 \/ K = 7 \/ K = 8 \/ K = 9 := by have := aV.out; have := HK.out; omega
        rcases hK with rfl | rfl | rfl | rfl | rfl | rfl | rfl | rfl | rfl
        · have HM : Hid (Mid wi wc x A' c' b8 { Ai with kind := 1 } none 0 none 0) := zh (show Mid wi wc x A' c' b8 { Ai with kind := 1 } none 0 none 0 from Di.out)
          clear Di;obtain ⟨⟨⟨⟨⟨n0, n1, n2, n3, n4⟩, hfz⟩, t0, t1, t2, t3, t4, t5, t6, t7, t8, t9⟩, hdc⟩, _⟩ := CU HM I7;have EM := HM.out.blt;have F4 := HM.out.nb.blt;have hdl := zL hdc;simp only at hdl;go_wp2;go_meet;exact ⟨_, none, 0, none, 0, HM.out, ⟨Yt Pt HK, dA HK⟩, (fun u _ => Dr (yK (show (0 : Nat) <= 100 by decide)) rfl rfl)⟩
        · have HM : Hid (Mid wi wc x A' c' b8 { Ai with kind := 2 } none 0 none 0) := zh (show Mid wi wc x A' c' b8 { Ai with kind := 2 } none 0 none 0 from Di.out)
          clear Di;obtain ⟨⟨⟨⟨⟨n0, n1, n2, n3, n4⟩, hfz⟩, t0, t1, t2, t3, t4, t5, t6, t7, t8, t9⟩, hdc⟩, _⟩ := CU HM I7;have EM := HM.out.blt;have F4 := HM.out.nb.blt;have hdl := zL hdc;simp only at hdl;go_wp2_with fail
          refine wp_region_held_drew (S := (fun w' => ((((w'.cell? ⟨wi.heap.size, 0, none⟩ = some (.int .u8 x.kind) /\ w'.cell? ⟨wi.heap.size, 1, none⟩ = some (.int .u8 x.a) /\ w'.cell? ⟨wi.heap.size, 2, none⟩ = some (.int .u8 x.b) /\ w'.cell? ⟨wi.heap.size, 3, none⟩ = some (.int .u8 x.c) /\ w'.cell? ⟨wi.heap.size, 4, none⟩ = some (.slice A' x.parts.length c')) /\ (∀ j, w'.frozen? ⟨b8, j, none⟩ = false)) /\ (∀ j, j < 10 -> (w'.cell? ⟨b8, j, none⟩).isSome = true)) /\ w'.cell? ⟨w.heap.size, 0, none⟩ = some (.slice (some ⟨b, o, none⟩) d.length c)) /\ Hid (∃ t As cs Am cm, Mid wi w' x A' c' b8 t As cs Am cm))) (by kernel_rfl) ?_ (fun AQ => ?_)
          · (try dsimp only); exact CB (HM.out.below (zC (Pe _ _) 1)) I7
          have qG := zh (HM.out.below (zC (Pe wc.heap.size wc) 1));refine tL 0 ?_
          (try simp only [ps])
          refine tL 2 ?_
          (try simp only [ps])
          refine tR 1 (fun K hK => ?_)
          go_simp
          (refine (OQ x A' c' _ jh).mono ?_; rintro e w4 ⟨rfl, hbx⟩; have qF := zh (qG.out.below hbx))
          refine hK.out _ _ ?_ (fun AQ => ?_)
          · (try dsimp only); exact CB qF I7
          clear hK K
          (try simp only [ps])
          refine tL 4 ?_
          (try simp only [ps])
          refine tR 3 (fun K hK => ?_)
          go_simp
          (refine (UY x A' c' _ jh).mono ?_; rintro e w5 ⟨rfl, hbx⟩; have HMc := zh (qF.out.below hbx))
          refine hK.out _ _ ?_ (fun AQ => ?_)
          · (try dsimp only); exact CB HMc I7
          clear hK K
          (try simp only [ps])
          refine tR 5 (fun K hK => ?_)
          (obtain ⟨z5, hz5⟩ := Option.isSome_iff_exists.1 (AQ.1.1.2 2 (by decide)); have hf5 := AQ.1.1.1.2 2; go_simp; have HMd := zh (HMc.out.lS (FX x)))
          refine hK.out _ _ ?_ (fun AQ => ?_)
          · (try dsimp only); exact CB HMd I7
          clear hK K
          (try simp only [ps])
          refine tL 6 ?_
          (try simp only [ps])
          refine tR 7 (fun K hK => ?_)
          (obtain ⟨z7, hz7⟩ := Option.isSome_iff_exists.1 (AQ.1.1.2 3 (by decide)); have hf7 := AQ.1.1.1.2 3; go_simp; have HMe := zh (HMd.out.dY (FK x)))
          refine hK.out _ _ ?_ (fun AQ => ?_)
          · (try dsimp only); exact CB HMe I7
          clear hK K
          (try simp only [ps])
          refine wpAnyH_done (by kernel_rfl) ?_ _
          go_wp2
          go_meet
          exact ⟨_, none, 0, none, 0, HMe.out, ⟨cZ Pt HK (gG x) (mr x), kU HK⟩, (fun u _ => Dr (yK (show (0 : Nat) <= 100 by decide)) rfl rfl)⟩
        · have HM : Hid (Mid wi wc x A' c' b8 { Ai with kind := 3 } none 0 none 0) := zh (show Mid wi wc x A' c' b8 { Ai with kind := 3 } none 0 none 0 from Di.out)
          clear Di;obtain ⟨⟨⟨⟨⟨n0, n1, n2, n3, n4⟩, hfz⟩, t0, t1, t2, t3, t4, t5, t6, t7, t8, t9⟩, hdc⟩, _⟩ := CU HM I7;have EM := HM.out.blt;have F4 := HM.out.nb.blt;have hdl := zL hdc;simp only at hdl;go_wp2;go_meet
          exact ⟨_, none, 0, none, 0, HM.out.Gg _, ⟨bn Pt HK Sw, kP HK Sw HMV⟩, (fun u _ => Dr (yK (show (0 : Nat) <= 100 by decide)) rfl rfl)⟩
        · have HM : Hid (Mid wi wc x A' c' b8 { Ai with kind := 4, name := MS i } none 0 none 0) := zh (show Mid wi wc x A' c' b8 { Ai with kind := 4, name := MS i } none 0 none 0 from Di.out)
          clear Di;obtain ⟨⟨⟨⟨⟨n0, n1, n2, n3, n4⟩, hfz⟩, t0, t1, t2, t3, t4, t5, t6, t7, t8, t9⟩, hdc⟩, _⟩ := CU HM I7;have EM := HM.out.blt;have F4 := HM.out.nb.blt;have hdl := zL hdc;simp only at hdl;obtain ⟨E, hE⟩ : ∃ E, ((x.b : Int) % 2 == 1) = E := ⟨_, rfl⟩;have QE := zh (HM.out.QX E);go_upto_region 19 with fail
          clear n0 n1 n2 n3 n4 hfz t0 t1 t2 t3 t4 t5 t6 t7 t8 t9 hdc EM F4 hdl hE;generalize wc.setCell ⟨b8, 9, none⟩ (.bool E) = W2 at *;obtain ⟨⟨⟨⟨⟨n0, n1, n2, n3, n4⟩, hfz⟩, t0, t1, t2, t3, t4, t5, t6, t7, t8, t9⟩, hdc⟩, _⟩ := CU QE I7;have EM := QE.out.blt;have F4 := QE.out.nb.blt;have hdl := zL hdc;simp only at hdl;go_wp2_with fail;refine (O4 x A' c' _ jh).mono ?_
          rintro e W5 ⟨v5, rfl, IQ, hb5⟩;have OZ := zh (J9 x);have VR : Hid ((DJ x).length <= 6) := by have := KI (DJ x) 0 6 OZ.out.1 OZ.out.2.1 (by omega); show _ <= _; omega
          obtain ⟨A5, c5, rfl, hi5⟩ := Uy.ints IQ (by have := VR.out; unfold EK; omega)
          have MP := zh (QE.out.below hb5);have HI5 := zh hi5;have KU : Hid (∀ g o, A5 = some ⟨g, o, none⟩ -> g ≠ b8 /\ g < W5.heap.size) := fun g o hg => by
            have := World.ownsRow.lt IQ g (by rw [hg]; rfl)
            have := QE.out.blt;exact ⟨by omega, by omega⟩
          have vM : Hid ((EP x).length = (DJ x).length) := by show _ = _; simp [EP]
          have RI : Hid (wi.heap.size <= W5.heap.size) := MP.out.Bz.size;clear hi5 IQ hb5 n0 n1 n2 n3 n4 hfz t0 t1 t2 t3 t4 t5 t6 t7 t8 t9 hdc EM F4 hdl;go_wp2
          go_loopw [10] (fun s wr => ∃ (q : Nat) (B : zo) (dc : Nat) (L : List Bq), q <= (DJ x).length /\ s = .int .i64 (q : Int) /\ Hid (L = (EP x).take q /\ Mid wi wr x A' c' b8 { Ai with kind := 4, name := MS i, AV := L, open_ := E } B dc none 0 /\ Ab 92 2 Um wr W5.heap.size (.slice B L.length dc) L /\ (∀ g, g ≠ b8 -> g < W5.heap.size -> wr.heap[g]? = W5.heap[g]?) /\ W5.heap.size <= wr.heap.size)) (fun s _ => (DJ x).length - (intOf s).toNat)
          case atStart => exact ⟨0, none, 0, [], by omega, rfl, rfl, MP.out, Ab.nil _ _, (fun _ _ _ => rfl), AAP _⟩
          case round =>
            obtain ⟨q, B, dc, L, hq, rfl, hh⟩ := hrel;obtain ⟨wo, rfl⟩ : ∃ wo : World, wo = wr := ⟨_, rfl⟩;have Dz := zh hh.out.1;have Yc := zh hh.out.2.1;have HOO := zh hh.out.2.2.1;have vU := zh hh.out.2.2.2.1;have HBS := zh hh.out.2.2.2.2;have HIO : Hid (Io wo A5 (DJ x)) := gX HI5 fun g o' e => vU.out g (KU.out g o' e).1 (KU.out g o' e).2
            have RL : Hid (L.length <= 6) := by show _ <= _; rw [Dz.out]; have := VR.out; have := vM.out; simp; omega
            have AEY := VR.out;have hs5 : wo.cell? ⟨b8, 5, none⟩ = some (.slice B L.length dc) := Yc.out.tb.cell 5;clear hh
            by_cases pQ : q < (DJ x).length
            · obtain ⟨b3, o3, rfl, i3⟩ := HIO.out.aj pQ
              have yS : Hid ((EP x).take (q + 1) = L ++ [⟨(DJ x)[q], Sm 115 ((DJ x)[q]).toNat⟩]) := by
                show _ = _
                have ABG : q < (EP x).length := by rw [vM.out]; exact pQ
                rw [ABd ABG, <- Dz.out];simp [EP]
              have hzr := OZ.out.2.1 _ (AAU pQ);generalize (DJ x)[q] = z at *;obtain ⟨zn, rfl⟩ := AAY (show 0 <= z by omega)
              have hlt3 := zL i3;simp only at hlt3;obtain ⟨ob, hob⟩ : ∃ ob, wo.heap[b3]? = some ob := ⟨_, Array.getElem?_eq_getElem hlt3⟩;have HOB := zh hob;have HCZ : Hid (∀ W : World, W.heap[b3]? = some ob -> W.cell? ⟨b3, o3 + q, none⟩ = some (.int .i64 (zn : Int))) := fun W hW => (World.cell?_of_block (w := wo) (w' := W) (a := ⟨b3, o3 + q, none⟩) (hW.trans HOB.out.symm)).trans i3
              have H3 := zh (KU.out b3 o3 rfl);obtain ⟨S, hS⟩ : ∃ S, Utf8.encode (97 + (zn : Int)) = S := ⟨_, rfl⟩;have hS2 : Utf8.encode (IntKind.i32.wrap (IntKind.i64.wrap (97 + (zn : Int)))) = S := by rw [IntWalk.i64_in _ (by omega), IntWalk.i32_in _ (by omega)]; exact hS
              have HS : Hid (S = ⟨#[UInt8.ofNat (97 + zn)]⟩) := by have := (OW (n := zn) (by omega)).1; rw [<- hS]; exact this
              have hds : ¬ 9223372036854775807 < 1 + S.size := by have : S.size = 1 := by rw [HS.out]; rfl
                                                                  omega
              have VO : Hid ((EP x).take (q + 1) = L ++ [⟨(zn : Int), (⟨#[115]⟩ : ByteArray) ++ S⟩]) := by
                show _ = _
                rw [yS.out, HS.out, O8]; rfl
              have hbb := Yc.out.blt;have g1 : (0:Int) <= (q:Int) := by omega
              have g2 : (q : Int) < ((DJ x).length : Int) := by omega
              have AEG := hzr.2;clear hob yS hzr;go_wp2_with fail
              refine yE (S := (fun w' => ((w'.cell? ⟨b8, 5, none⟩ = some (.slice B L.length dc) /\ w'.frozen? ⟨b8, 5, none⟩ = false) /\ w'.cell? ⟨b3, o3 + q, none⟩ = some (.int .i64 (zn : Int))) /\ Hid (Mid wi w' x A' c' b8 { Ai with kind := 4, name := MS i, AV := L, open_ := E } B dc none 0 /\ w'.heap[b3]? = some ob))) 18 (by kernel_rfl) ?_ (fun AQ => ?_)
              · (try dsimp only); exact RY (Yc.out.below (zC (Pe _ _) 1)) HOB HCZ
              refine tC 0 ?_
              (try simp only [ps])
              refine tB 1 ?_
              (try simp only [ps])
              refine tC 2 ?_
              (try simp only [ps])
              refine tC 3 ?_
              (try simp only [ps])
              refine tC 4 ?_
              (try simp only [ps])
              refine tB 5 ?_
              (try simp only [ps])
              refine tC 6 ?_
              (try simp only [ps])
              refine tC 7 ?_
              (try simp only [ps])
              refine tC 8 ?_
              (try simp only [ps])
              refine tB 9 ?_
              (try simp only [ps])
              refine tC 10 ?_
              (try simp only [ps])
              refine tC 11 ?_
              (try simp only [ps])
              refine tC 12 ?_
              (try simp only [ps])
              refine tC 13 ?_
              (try simp only [ps])
              refine tC 14 ?_
              (try simp only [ps])
              refine tS 15 (fun K hK => ?_)
              go_simp
              refine hK.out _ _ ?_ (fun AQ => ?_)
              · (try dsimp only); exact RY (AQ.2.out.1.below (zD _ _)) (FR AQ.2.out.2 _) HCZ
              clear hK K
              (try simp only [ps])
              refine tS 16 (fun K hK => ?_)
              (have FE := zh (Ab.alloc (HOO.out.below (zC (Pe wo.heap.size wo) 1)) (.cells #[.int .i64 (zn : Int), .string ((⟨#[115]⟩ : ByteArray) ++ S)] 92)); have Sd := zh (zR (wo.drewN 1) [.int .i64 (zn : Int), .string ((⟨#[115]⟩ : ByteArray) ++ S)] 92); have HZ6 : Hid (W5.heap.size <= ((wo.drewN 1).alloc (.cells #[.int .i64 (zn : Int), .string ((⟨#[115]⟩ : ByteArray) ++ S)] 92)).heap.size) := (by have := Yc.out.blt; show _ <= _; have := HBS.out; simp; omega); have Gb := zh AQ.2.out.1; have BH := zh AQ.2.out.2; refine Pz iN (by rfl) (.tmp 76) (.tmp 90) (by rfl) W5.heap.size (.slice B L.length dc) L.length (L.flatMap Um) (by rfl) FE wo.heap.size 0 1 1 [.int .i64 (zn : Int), .string ((⟨#[115]⟩ : ByteArray) ++ S)] (by rfl) rfl Sd (iK ⟨(zn : Int), (⟨#[115]⟩ : ByteArray) ++ S⟩) (by have := RL.out; omega) (by have := RL.out; omega) HZ6 ?_; intro v8 w8 BI BB Ci; have rX := Ab.snoc (enc := Um) (x := (⟨(zn : Int), (⟨#[115]⟩ : ByteArray) ++ S⟩ : Bq)) BI; obtain ⟨B8, d8, rfl, _⟩ := Ab.reads rX; have HO9 := zh rX; have HKG : Hid (∀ g, g < W5.heap.size -> w8.heap[g]? = ((wo.drewN 1).alloc (.cells #[.int .i64 (zn : Int), .string ((⟨#[115]⟩ : ByteArray) ++ S)] 92)).heap[g]?) := zh (fun g hg => yA BB (by have := HZ6.out; omega) (fun j hj e => by have := HOO.out.lt j hj; omega)); have aU : Hid (Mid wi w8 x A' c' b8 { Ai with kind := 4, name := MS i, AV := L, open_ := E } B dc none 0) := zh (Gb.out.keep (Gb.out.Bz.grown BB Gb.out.Bz.size (fun j hj => by have := HOO.out.lt j hj; have := RI.out; omega)) (fun g hg => HKG.out g (by rcases hg with rfl | rfl; (have := MP.out.nb.blt; omega); (have := MP.out.blt; omega)))); have BK : Hid (w8.heap[b3]? = some ob) := zh ((HKG.out b3 H3.out.2).trans BH); have HKF : Hid (∀ g, g ≠ b8 -> g < W5.heap.size -> w8.heap[g]? = W5.heap[g]?) := zh (fun g h1 h2 => ((HKG.out g h2).trans ((zD (wo.drewN 1) _).block g (by have := HBS.out; show g < wo.heap.size; omega))).trans (vU.out g h1 h2)); have ABo : Hid (W5.heap.size <= w8.heap.size) := Nat.le_trans HZ6 BB.size; clear BI rX BB Ci)
              refine hK.out _ _ ?_ (fun AQ => ?_)
              · (try dsimp only); exact RY aU BK HCZ
              clear hK K
              (try simp only [ps])
              refine tC 17 ?_
              (try simp only [ps])
              refine zV (rs := [18]) (by kernel_rfl) (by simp) ?_
              refine AB.last rfl (by kernel_rfl) (fun K hK => ?_) AB.nil
              (obtain ⟨⟨⟨hc5, hf5⟩, _⟩, hin⟩ := AQ; go_simp)
              refine hK.out _ _ ?_;clear hK K
              (try clear AQ)
              (try simp only [ps])
              refine wpAny_done (by kernel_rfl) ?_ _
              have HN := zh (aU.out.dW (L ++ [⟨(zn : Int), (⟨#[115]⟩ : ByteArray) ++ S⟩]) B8 d8)
              have HOW : Hid (Ab 92 2 Um (w8.setCell ⟨b8, 5, none⟩ (.slice B8 (L ++ [(⟨(zn : Int), (⟨#[115]⟩ : ByteArray) ++ S⟩ : Bq)]).length d8)) W5.heap.size (.slice B8 (L ++ [(⟨(zn : Int), (⟨#[115]⟩ : ByteArray) ++ S⟩ : Bq)]).length d8) (L ++ [(⟨(zn : Int), (⟨#[115]⟩ : ByteArray) ++ S⟩ : Bq)])) := HO9.out.keep fun g hg _ _ => AAO _ _ _ _ (by have := MP.out.blt; simp only; omega)
              have vV : Hid (∀ g, g ≠ b8 -> g < W5.heap.size -> (w8.setCell ⟨b8, 5, none⟩ (.slice B8 (L ++ [(⟨(zn : Int), (⟨#[115]⟩ : ByteArray) ++ S⟩ : Bq)]).length d8)).heap[g]? = W5.heap[g]?) := fun g h1 h2 => (AAO _ _ _ _ (by simpa using h1)).trans (HKF.out g h1 h2)
              clear hc5 hf5 hin;go_wp2;go_roundw
              case rel =>
                refine ⟨q + 1, B8, d8, L ++ [⟨(zn : Int), (⟨#[115]⟩ : ByteArray) ++ S⟩], by omega, by go_num, VO.out.symm, ?_⟩
                have h := And.intro HN.out (And.intro HOW.out (And.intro vV.out (show W5.heap.size <= (w8.setCell ⟨b8, 5, none⟩ (.slice B8 (L ++ [(⟨(zn : Int), (⟨#[115]⟩ : ByteArray) ++ S⟩ : Bq)]).length d8)).heap.size by have := ABo.out; simpa using this)))
                simp only [AAp, AAS, List.length_nil, Nat.zero_add] at h ⊢;exact h
              case measure => simp [intOf]; omega
            · obtain rfl : L = EP x := by rw [Dz.out]; exact List.take_of_length_le (by rw [vM.out]; omega)
              have uR := zh (qf HOO (by have := RL.out; omega) (fun s hs => by obtain ⟨n, _, rfl⟩ := List.mem_map.1 (show s ∈ EP x from hs); exact yK (show (2 : Nat) <= 100 by decide)))
              go_wp2
              go_meet
              exact ⟨_, B, dc, none, 0, Yc.out, ⟨Yr Pt HK x E, cu HK E⟩, fun u hu => ⟨yK (show (1 : Nat) <= 100 by decide), (uR.out.mono fun g _ hg => by have := RI.out; omega) u hu, Ac.nil _ _ _ _ _⟩⟩
        · have HM : Hid (Mid wi wc x A' c' b8 { Ai with kind := 5, name := MS i } none 0 none 0) := zh (show Mid wi wc x A' c' b8 { Ai with kind := 5, name := MS i } none 0 none 0 from Di.out)
          clear Di;obtain ⟨⟨⟨⟨⟨n0, n1, n2, n3, n4⟩, hfz⟩, t0, t1, t2, t3, t4, t5, t6, t7, t8, t9⟩, hdc⟩, _⟩ := CU HM I7;have EM := HM.out.blt;have F4 := HM.out.nb.blt;have hdl := zL hdc;simp only at hdl;go_wp2_with fail;refine (Qk d i true _ c _ ((HST.out.below HM.out.Bz).db.nodes) hlt).mono ?_;rintro e w5 ⟨v5, ms, rfl, hms, hb5⟩;obtain ⟨A5, c5, rfl, hoff⟩ := hms.AA
          have MP := zh ((HM.out.below hb5).Tc ms A5 c5);have jQ := zh hms.ok;have uq := zh hms.flat;have uV := zh hms.pK;have VD : Hid (Off (· < wi.heap.size) (w5.setCell ⟨b8, 6, none⟩ (.slice A5 ms.length c5)) fun u => Fg u A5 ms) := (hoff.set (a := ⟨b8, 6, none⟩) (.slice A5 ms.length c5) HM.out.blt).mono fun q _ hq => by have := HM.out.Bz.size; omega
          have hf6 := AAR _ _ 6 _ _ (HM.out.below hb5).tb;have hc6 : w5.cell? ⟨b8, 6, none⟩ = some (.slice none 0 0) := (HM.out.below hb5).tb.cell 6;have SE := (HM.out.below hb5).blt;clear hms hoff hb5 n0 n1 n2 n3 n4 hfz t0 t1 t2 t3 t4 t5 t6 t7 t8 t9 hdc EM F4 hdl;go_wp2;go_meet
          exact ⟨_, none, 0, A5, c5, MP.out, ⟨TL Pt (by rw [HK.out]; rfl) jQ uq, XV (.inl HK.out) jQ uV⟩, fun u hu => Oh (yK (show (1 : Nat) <= 100 by decide)) rfl (VD.out u hu)⟩
        · have HM : Hid (Mid wi wc x A' c' b8 { Ai with kind := 6, name := MS i } none 0 none 0) := zh (show Mid wi wc x A' c' b8 { Ai with kind := 6, name := MS i } none 0 none 0 from Di.out)
          clear Di;obtain ⟨⟨⟨⟨⟨n0, n1, n2, n3, n4⟩, hfz⟩, t0, t1, t2, t3, t4, t5, t6, t7, t8, t9⟩, hdc⟩, _⟩ := CU HM I7;have EM := HM.out.blt;have F4 := HM.out.nb.blt;have hdl := zL hdc;simp only at hdl;obtain ⟨E, hE⟩ : ∃ E, ((x.b : Int) % 2 == 1) = E := ⟨_, rfl⟩;have QE := zh (HM.out.QX E);go_upto_region 28 with fail
          clear n0 n1 n2 n3 n4 hfz t0 t1 t2 t3 t4 t5 t6 t7 t8 t9 hdc EM F4 hdl hE;generalize wc.setCell ⟨b8, 9, none⟩ (.bool E) = W2 at *;obtain ⟨⟨⟨⟨⟨n0, n1, n2, n3, n4⟩, hfz⟩, t0, t1, t2, t3, t4, t5, t6, t7, t8, t9⟩, hdc⟩, _⟩ := CU QE I7;have EM := QE.out.blt;have F4 := QE.out.nb.blt;have hdl := zL hdc;simp only at hdl;go_wp2_with fail
          refine (Qk d i false _ c _ ((HST.out.below QE.out.Bz).db.nodes) hlt).mono ?_;rintro e w5 ⟨v5, ms, rfl, hms, hb5⟩;obtain ⟨A5, c5, rfl, hoff⟩ := hms.AA;have MP := zh ((QE.out.below hb5).Tc ms A5 c5);have jQ := zh hms.ok;have uq := zh hms.flat;have uV := zh hms.pK
          have VD : Hid (Off (· < wi.heap.size) (w5.setCell ⟨b8, 6, none⟩ (.slice A5 ms.length c5)) fun u => Fg u A5 ms) := (hoff.set (a := ⟨b8, 6, none⟩) (.slice A5 ms.length c5) QE.out.blt).mono fun q _ hq => by have := QE.out.Bz.size; omega
          have hf6 := AAR _ _ 6 _ _ (QE.out.below hb5).tb;have hc6 : w5.cell? ⟨b8, 6, none⟩ = some (.slice none 0 0) := (QE.out.below hb5).tb.cell 6;have SE := (QE.out.below hb5).blt;clear hms hoff hb5 n0 n1 n2 n3 n4 hfz t0 t1 t2 t3 t4 t5 t6 t7 t8 t9 hdc EM F4 hdl;go_upto_region 29 with fail
          clear hf6 hc6 SE;generalize w5.setCell ⟨b8, 6, none⟩ (.slice A5 ms.length c5) = W6 at *;have s1 : W6.cell? ⟨b8, 1, none⟩ = some (.string (MS i)) := MP.out.tb.cell 1;have s6 : W6.cell? ⟨b8, 6, none⟩ = some (.slice A5 ms.length c5) := MP.out.tb.cell 6;have SE := MP.out.blt
          by_cases hne : ms = []
          · have hel : ((ms.length : Int) == 0) = true := by rw [hne]; rfl
            have Jf := zh (Qp MP);have HMA := zh (MP.out.all { Ai with kind := 5, name := MS i })
            clear hne;go_wp2_with (refine wpList_store_mid rfl 87 (.tmp 8) (.tmp 116) rfl b8 0 #[.int .i64 5, .string (MS i), .int .i64 0, .int .i64 0, .int .i64 0, .slice none 0 0, .slice none 0 0, .int .i64 0, .int .i64 0, .bool false] (by rfl) (by rfl) ?_ ?_ ?_ ?_; (exact Jf.out); (exact XU); (exact bg { Ai with kind := 5, name := MS i } none 0 none 0))
            go_meet
            exact ⟨_, none, 0, none, 0, HMA.out, ⟨TL Pt (by rw [HK.out]; rfl) (Dx.nil _ _ _) (fun _ h => by cases h), XV (.inr HK.out) (Dx.nil true _ _) (fun _ h => by cases h)⟩, fun u _ => Dr (yK (show (1 : Nat) <= 100 by decide)) rfl rfl⟩
          · have hel : ((ms.length : Int) == 0) = false := by
              have : ms.length ≠ 0 := fun e => hne (AAa e)
              simp; omega
            have jr := zh hne;clear hne;go_wp2;go_meet;exact ⟨_, none, 0, A5, c5, MP.out, ⟨VZ Pt (by rw [HK.out]; rfl) jQ uq jr E, Yu HK jQ uV jr E⟩, fun u hu => Oh (yK (show (1 : Nat) <= 100 by decide)) rfl (VD.out u hu)⟩
        · have HM : Hid (Mid wi wc x A' c' b8 { Ai with kind := 7 } none 0 none 0) := zh (show Mid wi wc x A' c' b8 { Ai with kind := 7 } none 0 none 0 from Di.out)
          clear Di;obtain ⟨⟨⟨⟨⟨n0, n1, n2, n3, n4⟩, hfz⟩, t0, t1, t2, t3, t4, t5, t6, t7, t8, t9⟩, hdc⟩, _⟩ := CU HM I7;have EM := HM.out.blt;have F4 := HM.out.nb.blt;have hdl := zL hdc;simp only at hdl;go_wp2_with fail
          refine wp_region_held_drew (S := (fun w' => ((((w'.cell? ⟨wi.heap.size, 0, none⟩ = some (.int .u8 x.kind) /\ w'.cell? ⟨wi.heap.size, 1, none⟩ = some (.int .u8 x.a) /\ w'.cell? ⟨wi.heap.size, 2, none⟩ = some (.int .u8 x.b) /\ w'.cell? ⟨wi.heap.size, 3, none⟩ = some (.int .u8 x.c) /\ w'.cell? ⟨wi.heap.size, 4, none⟩ = some (.slice A' x.parts.length c')) /\ (∀ j, w'.frozen? ⟨b8, j, none⟩ = false)) /\ (∀ j, j < 10 -> (w'.cell? ⟨b8, j, none⟩).isSome = true)) /\ w'.cell? ⟨w.heap.size, 0, none⟩ = some (.slice (some ⟨b, o, none⟩) d.length c)) /\ Hid (∃ t As cs Am cm, Mid wi w' x A' c' b8 t As cs Am cm))) (by kernel_rfl) ?_ (fun AQ => ?_)
          · (try dsimp only); exact CB (HM.out.below (zC (Pe _ _) 1)) I7
          have qG := zh (HM.out.below (zC (Pe wc.heap.size wc) 1));refine tL 0 ?_
          (try simp only [ps])
          refine tL 1 ?_
          (try simp only [ps])
          refine tL 2 ?_
          (try simp only [ps])
          refine tL 3 ?_
          (try simp only [ps])
          refine tL 4 ?_
          (try simp only [ps])
          refine tL 5 ?_
          (try simp only [ps])
          refine tL 6 ?_
          (try simp only [ps])
          refine tL 7 ?_
          (try simp only [ps])
          refine tL 8 ?_
          (try simp only [ps])
          refine tL 9 ?_
          (try simp only [ps])
          refine tR 10 (fun K hK => ?_)
          (obtain ⟨z10, AEM⟩ := Option.isSome_iff_exists.1 (AQ.1.1.2 4 (by decide)); have AEf := AQ.1.1.1.2 4; go_simp; skip)
          refine hK.out _ _ ?_ (fun AQ => ?_)
          · (try dsimp only); exact CB (qG.out.Gg _) I7
          clear hK K
          (try simp only [ps])
          refine tL 11 ?_
          (try simp only [ps])
          refine tR 12 (fun K hK => ?_)
          (obtain ⟨z12, AEL⟩ := Option.isSome_iff_exists.1 (AQ.1.1.2 8 (by decide)); have AEe := AQ.1.1.1.2 8; go_simp; skip)
          refine hK.out _ _ ?_ (fun AQ => ?_)
          · (try dsimp only); exact CB ((qG.out.Gg _).JG _) I7
          clear hK K
          (try simp only [ps])
          refine wpAnyH_done (by kernel_rfl) ?_ _
          go_wp2
          go_meet
          exact ⟨_, none, 0, none, 0, (qG.out.Gg _).JG _, ⟨QS Pt (by rw [HK.out]; rfl) Sw KX, TM (.inl HK.out) Sw⟩, (fun u _ => Dr (yK (show (0 : Nat) <= 100 by decide)) rfl rfl)⟩
        · have HM : Hid (Mid wi wc x A' c' b8 { Ai with kind := 8 } none 0 none 0) := zh (show Mid wi wc x A' c' b8 { Ai with kind := 8 } none 0 none 0 from Di.out)
          clear Di;obtain ⟨⟨⟨⟨⟨n0, n1, n2, n3, n4⟩, hfz⟩, t0, t1, t2, t3, t4, t5, t6, t7, t8, t9⟩, hdc⟩, _⟩ := CU HM I7;have EM := HM.out.blt;have F4 := HM.out.nb.blt;have hdl := zL hdc;simp only at hdl;have HKD := zh (@X8 d x.b);obtain ⟨ky, hky⟩ : ∃ ky, Hid (EJ d x.b = ky) := ⟨_, rfl⟩;rw [hky.out] at HKD;go_wp2_with fail
          refine wp_region_held_drew (S := (fun w' => ((((w'.cell? ⟨wi.heap.size, 0, none⟩ = some (.int .u8 x.kind) /\ w'.cell? ⟨wi.heap.size, 1, none⟩ = some (.int .u8 x.a) /\ w'.cell? ⟨wi.heap.size, 2, none⟩ = some (.int .u8 x.b) /\ w'.cell? ⟨wi.heap.size, 3, none⟩ = some (.int .u8 x.c) /\ w'.cell? ⟨wi.heap.size, 4, none⟩ = some (.slice A' x.parts.length c')) /\ (∀ j, w'.frozen? ⟨b8, j, none⟩ = false)) /\ (∀ j, j < 10 -> (w'.cell? ⟨b8, j, none⟩).isSome = true)) /\ w'.cell? ⟨w.heap.size, 0, none⟩ = some (.slice (some ⟨b, o, none⟩) d.length c)) /\ Hid (∃ t As cs Am cm, Mid wi w' x A' c' b8 t As cs Am cm))) (by kernel_rfl) ?_ (fun AQ => ?_)
          · (try dsimp only); exact CB (HM.out.below (zC (Pe _ _) 1)) I7
          have qG := zh (HM.out.below (zC (Pe wc.heap.size wc) 1));refine tL 0 ?_
          (try simp only [ps])
          refine tL 1 ?_
          (try simp only [ps])
          refine tL 2 ?_
          (try simp only [ps])
          refine tL 3 ?_
          (try simp only [ps])
          refine tL 4 ?_
          (try simp only [ps])
          refine tL 5 ?_
          (try simp only [ps])
          refine tL 6 ?_
          (try simp only [ps])
          refine tL 8 ?_
          (try simp only [ps])
          refine tL 9 ?_
          (try simp only [ps])
          refine tL 10 ?_
          (try simp only [ps])
          refine tL 11 ?_
          (try simp only [ps])
          refine tL 12 ?_
          (try simp only [ps])
          refine tL 13 ?_
          (try simp only [ps])
          refine tR 7 (fun K hK => ?_)
          go_simp
          (refine (R8 d x.b _ c _ ((HST.out.below qG.out.Bz).db.nodes) HXB).mono ?_; rintro e w4 ⟨rfl, hbx⟩; rw [hky.out]; have qF := zh (qG.out.below hbx))
          refine hK.out _ _ ?_ (fun AQ => ?_)
          · (try dsimp only); exact CB qF I7
          clear hK K
          (try simp only [ps])
          refine tR 14 (fun K hK => ?_)
          (obtain ⟨z14, AEK⟩ := Option.isSome_iff_exists.1 (AQ.1.1.2 4 (by decide)); have AEd := AQ.1.1.1.2 4; go_simp; skip)
          refine hK.out _ _ ?_ (fun AQ => ?_)
          · (try dsimp only); exact CB (qF.out.Gg _) I7
          clear hK K
          (try simp only [ps])
          refine tL 15 ?_
          (try simp only [ps])
          refine tR 16 (fun K hK => ?_)
          (obtain ⟨z16, AEJ⟩ := Option.isSome_iff_exists.1 (AQ.1.1.2 7 (by decide)); have AEc := AQ.1.1.1.2 7; go_simp; skip)
          refine hK.out _ _ ?_ (fun AQ => ?_)
          · (try dsimp only); exact CB ((qF.out.Gg _).Rc _) I7
          clear hK K
          (try simp only [ps])
          refine tL 17 ?_
          (try simp only [ps])
          refine tR 18 (fun K hK => ?_)
          (obtain ⟨z18, AEI⟩ := Option.isSome_iff_exists.1 (AQ.1.1.2 8 (by decide)); have AEb := AQ.1.1.1.2 8; go_simp; skip)
          refine hK.out _ _ ?_ (fun AQ => ?_)
          · (try dsimp only); exact CB (((qF.out.Gg _).Rc _).JG _) I7
          clear hK K
          (try simp only [ps])
          refine wpAnyH_done (by kernel_rfl) ?_ _
          have uT := zh (((qF.out.Gg mx).Rc ky).JG ev);clear AQ;generalize ((w4.setCell ⟨b8, 4, none⟩ (.int .i64 mx)).setCell ⟨b8, 7, none⟩ (.int .i64 ky)).setCell ⟨b8, 8, none⟩ (.int .i64 ev) = W6 at *;have s4 : W6.cell? ⟨b8, 4, none⟩ = some (.int .i64 mx) := uT.out.tb.cell 4;have s7 : W6.cell? ⟨b8, 7, none⟩ = some (.int .i64 ky) := uT.out.tb.cell 7
          have s8 : W6.cell? ⟨b8, 8, none⟩ = some (.int .i64 ev) := uT.out.tb.cell 8;have SE := uT.out.blt;clear n0 n1 n2 n3 n4 hfz t0 t1 t2 t3 t4 t5 t6 t7 t8 t9 hdc EM F4 hdl
          by_cases hk0 : ky < 0
          · have HK0 : Hid (EJ d x.b < 0) := by show _ < _; rw [hky.out]; exact hk0
            have Jf := zh (Qp uT);have HMA := zh (uT.out.all { Ai with kind := 7, max := mx, elem := ev })
            go_wp2_with (refine wpList_store_mid rfl 87 (.tmp 8) (.tmp 155) rfl b8 0 #[.int .i64 7, .string ⟨#[]⟩, .int .i64 0, .int .i64 0, .int .i64 mx, .slice none 0 0, .slice none 0 0, .int .i64 0, .int .i64 ev, .bool false] (by rfl) (by rfl) ?_ ?_ ?_ ?_; (exact Jf.out); (exact XU); (exact bg { Ai with kind := 7, max := mx, elem := ev } none 0 none 0))
            go_meet
            exact ⟨_, none, 0, none, 0, HMA.out, ⟨QS Pt (by rw [HK.out]; rfl) Sw KX, TM (.inr ⟨HK.out, _, HK0.out⟩) Sw⟩, (fun u _ => Dr (yK (show (0 : Nat) <= 100 by decide)) rfl rfl)⟩
          · have HK0 : Hid (¬ EJ d x.b < 0) := by show ¬ _ < _; rw [hky.out]; exact hk0
            have hk1 : decide (ky < 0) = false := AAZ (by omega)
            have jT := zh (HKD.out (by omega))
            clear hk0;go_wp2;go_meet;exact ⟨_, none, 0, none, 0, uT.out, ⟨cO Pt (by rw [HK.out]; rfl) Sw KX jT.out.1 jT.out.2, kT (q := x.b) HK (by have := HK0.out; omega) Sw⟩, (fun u _ => Dr (yK (show (0 : Nat) <= 100 by decide)) rfl rfl)⟩
        · have HM : Hid (Mid wi wc x A' c' b8 { Ai with kind := 9 } none 0 none 0) := zh (show Mid wi wc x A' c' b8 { Ai with kind := 9 } none 0 none 0 from Di.out)
          clear Di;obtain ⟨⟨⟨⟨⟨n0, n1, n2, n3, n4⟩, hfz⟩, t0, t1, t2, t3, t4, t5, t6, t7, t8, t9⟩, hdc⟩, _⟩ := CU HM I7;have EM := HM.out.blt;have F4 := HM.out.nb.blt;have hdl := zL hdc;simp only at hdl;go_wp2;go_meet
          exact ⟨_, none, 0, none, 0, HM.out.JG _, ⟨cB Pt (by rw [HK.out]; rfl) KX, kQ HK⟩, (fun u _ => Dr (yK (show (0 : Nat) <= 100 by decide)) rfl rfl)⟩
      case rest =>
      obtain ⟨t, As, cs, Am, cm, HMx, HTx, HOx⟩ := hcut.out;have HMM := zh HMx;have HTO := zh HTx;have uR := zh HOx;have uG := zh (HST.out.below HMx.Bz);clear hcut HMx HTx HOx Di;obtain ⟨_, t0, t1, t2, t3, t4, t5, t6, t7, t8, t9⟩ := (Lm HMM).1;have EM := HMM.out.blt;have s0 : wc.cell? ⟨w.heap.size + 1 + 1, 0, none⟩ = some v := by rw [AAN _ _ _ _ _ _ uG.out.sb]; rfl
      have hls := zL s0;simp only at hls;obtain ⟨Av, cv, rfl, _, _, _⟩ := Ab.reads uG.out.out.own;have OZ : Hid (L.length <= 5) := by have := uZ.out; show _ <= _; omega
      have HX : Hid (Ei (w.heap.size + 1 + 1) (wc.alloc (.cells (⟨t, As, cs, Am, cm⟩ : LK).cells.toArray 87)) (.slice Av L.length cv) L) := uG.out.out.below (zD _ _);have Po := zh (zR wc (⟨t, As, cs, Am, cm⟩ : LK).cells 87);have MU : Hid (w.heap.size + 1 + 1 + 1 <= (wc.alloc (.cells (⟨t, As, cs, Am, cm⟩ : LK).cells.toArray 87)).heap.size) := by show _ <= _; simp; omega
      have Si := zh (fun v9 w9 ho hg hv => Pn.next uG HD0 (x := ⟨t, As, cs, Am, cm⟩) (uR.out.mono fun q _ hq => by
        have h1 := (zg.1 HST.out.sb).1
        show q < wi.heap.size
        rcases hq with h | h
        · omega
        · exact (World.ownsRow.lt HST.out.out.own q h).2) (v9 := v9) (w9 := w9) ho hg hv)
      go_wp2_with (at_builtin; refine Nw ng _ rfl (.tmp 165) (.tmp 167) rfl (w.heap.size + 1 + 1 + 1) _ _ _ rfl HX.out.own wc.heap.size 0 1 1 (⟨t, As, cs, Am, cm⟩ : LK).cells rfl rfl Po (kW _) (by have := OZ.out; omega) (by have := OZ.out; omega) MU ?_; intro v9 w9 rX hg9 hv9; obtain ⟨A9, c9, rfl, _⟩ := Ab.reads (Ab.snoc (enc := LK.cells) (x := (⟨t, As, cs, Am, cm⟩ : LK)) rX); have HN9 := zh (Si.out _ w9 rX hg9 hv9); have hf9 := HN9.out.1; have hc9 := HN9.out.2.1; have hl9 := HN9.out.2.2.1; clear rX hg9 hv9)
      go_roundw
      case rel =>
        refine ⟨i + 1, _, L ++ [⟨t, As, cs, Am, cm⟩], by omega, by go_num, (by have h := HN9.out.2.2.2; simp only [AAp, AAS, List.length_nil, Nat.zero_add] at h; exact h), (by rw [AAp, uZ.out]; rfl), fun j hj => ?_⟩
        by_cases hji : j < L.length
        · rw [List.getElem_append_left hji]; exact OE.out j hji
        · have hje : j = i := by rw [AAp, uZ.out] at hj; rw [uZ.out] at hji; simp at hj; omega
          subst hje;rw [List.getElem_append_right (by rw [uZ.out]; exact AAP _)]
          rw [YV.out]
          simpa using HTO.out
      case measure => simp [intOf]; omega
    · have HDO : Hid (KN d (L.map (·.t))) := by
        refine ⟨by rw [AAd, uZ.out]; omega, fun j hj => ?_⟩
        rw [List.getElem_map];exact (OE.out j (by simpa using hj)).1
      have yh : Hid (vG d (L.map (·.t))) := fun j hj => by
        rw [List.getElem_map];exact OE.out j (by simpa using hj)
      have s0 : wi.cell? ⟨w.heap.size + 1 + 1, 0, none⟩ = some v := by rw [AAN _ _ _ _ _ _ HST.out.sb]; rfl
      have r0 : wi.cell? ⟨w.heap.size + 1, 0, none⟩ = some (.slice none 0 0) := by rw [AAN _ _ _ _ _ _ HST.out.rb]; rfl
      have f0 := AAR _ _ 0 _ _ HST.out.rb;have hls := zL s0;simp only at hls;obtain ⟨Av, cv, rfl, _, _, _⟩ := Ab.reads HST.out.out.own;have I6 : Hid (∀ x1, Off (· < w.heap.size) (wi.setCells (w.heap.size + 1) 0 [x1]) fun u => C8 u Av (L.map (·.t))) := fun x1 => by
        rw [World.setCells, World.setCells];have h1 := HST.out.out.set (w' := wi.setCell ⟨w.heap.size + 1, 0, none⟩ x1) (by simp) (Nat.le_succ _) (fun q hq _ => AAO _ _ _ _ (by simpa using hq))
        refine fun u hu => ?_
        have h2 : Ei (w.heap.size + 1 + 1) u (.slice Av L.length cv) L := ⟨h1.own.keep fun g k1 k2 _ => hu g (fun h => by have : g < w.heap.size := h; omega) k2, fun x hx => fun u2 hu2 => h1.off x hx u2 fun q hq hl => by
          have e := hu q (fun h => hq (.inl (by have : q < w.heap.size := h; omega))) hl
          have hlu : q < u.heap.size := (zg.1 (e.trans (Array.getElem?_eq_getElem hl))).1;exact (hu2 q hq hlu).trans e⟩
        obtain ⟨A', c', e, hr⟩ := h2.rows (by rw [uZ.out]; omega)
        injection e with e1 _ _
        rw [e1]; exact hr
      have om : Hid (∀ x1, Below w.heap.size w (wi.setCells (w.heap.size + 1) 0 [x1])) := fun x1 => by
        rw [World.setCells, World.setCells];exact HST.out.db.below.setCell (p := ⟨w.heap.size + 1, 0, none⟩) (by simp) _
      have VG : Hid (∀ x1, (wi.setCells (w.heap.size + 1) 0 [x1]).cell? ⟨w.heap.size + 1, 0, none⟩ = some x1) := fun x1 => by
        rw [World.setCells, World.setCells];rw [AAN _ _ _ _ _ _ (AAW _ _ 0 _ _ x1 HST.out.rb)]; rfl
      have Jf : Hid (wi.there (w.heap.size + 1) 0 1) := fun j hj => by
        obtain rfl : j = 0 := by omega
        exact ⟨by rw [r0]; rfl, f0⟩
      clear r0 f0;go_wp2_with (refine wpList_store_mid rfl 31 (.tmp 2) (.tmp 170) rfl (w.heap.size + 1) 0 #[.slice Av L.length cv] (by rfl) (by rfl) ?_ ?_ ?_ ?_; (exact Jf.out); (exact dZ); (simp [Value.oneCell']))
      have hc1 := VG.out (.slice Av L.length cv);exact bodyPost_ret (v := .tuple #[.agg #[.slice Av L.length cv], .bool true]) (by simp [results, Tryz.results11, go_sem, hc1]) rfl (qz HDO yh hn1 gy (I6.out (.slice Av L.length cv)) (om.out (.slice Av L.length cv)))
end Go.Proofs.YthkkllmmbefedaaGreatDoor



