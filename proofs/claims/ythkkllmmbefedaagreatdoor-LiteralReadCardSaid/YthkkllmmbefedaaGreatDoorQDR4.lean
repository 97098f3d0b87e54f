/-
  Walks: the schema of a draft.
-/
import Derived.Test.YthkkllmmbefedaaGreatDoorQGX0
import Derived.Test.YthkkllmmbefedaaGreatDoorQGA10
import Derived.Deep.CutBlock
namespace Go.Proofs.YthkkllmmbefedaaGreatDoor
open Go.RowKit
set_option maxHeartbeats 16000000
set_option maxRecDepth 100000
theorem Yl {x:Val} (h:Kv x) (w:World) (A1 A2 A3:zo):BO w x A1 A2 A3:=by
 obtain ⟨h0,h1,h2,h3⟩:=h;exact ⟨yK (Nat.le_trans h0.1 (by decide)),by rw[h1];exact Ae.nil _ _ _ _ _,by rw[h2];exact Ae.nil _ _ _ _ _,by rw[h3];exact Ae.nil _ _ _ _ _⟩
variable {v:Value} {W:World}
theorem J4.AA {rec:Bool} {n base:Nat} {ms:List AY} (h:J4 rec n 12 base W v ms):∃A c,v = .slice A ms.length c/\Off (· < base) W fun u=>Fv u A ms:=by
 obtain ⟨A,c,hv,_⟩:=h.own.reads;refine ⟨A,c,hv,fun u hu=>?_⟩
 have ho:vE u base v ms:=h.own.keep fun g hg hl _=>hu g (by omega) hl
 obtain ⟨A',c',hv',hr⟩:=Ak.rows (bytes:=160) (at_:=fun x cs=>AY.At u x cs) ho (fun _=>rfl) (by have:=h.ok.len;unfold D9;omega) (fun m hm=>⟨none,0,none,0,none,0,by
  obtain ⟨_,h1,h2,h3⟩:=h.flat m hm;unfold Zt
  rfl,⟨by rw[(h.ok.2 m hm).2.1];exact yK (by rw[show (UZ 109 m.id.toNat).size=2 from rfl];decide),Yl (h.flat m hm) _ _ _ _⟩⟩)
 rw[hv] at hv'
 injection hv' with e1 _ _
 rw[e1];exact hr
variable {w:World} {A:zo}
theorem eB {w':World} {l:List Int} (h:JH w A l) (hb:∀b o,A=some ⟨b,o,none⟩->w'.heap[b]? = w.heap[b]?):JH w' A l:=by
 refine ⟨h.1,fun hn=>?_⟩
 obtain ⟨q,o,e,hi⟩:=h.2 hn;refine ⟨q,o,e,fun i x hx=>?_⟩
 obtain ⟨cs,h1,h2⟩:=hi i x hx;refine ⟨cs,h1,fun j u hj=>?_⟩
 rw[World.cell?_of_block (w:=w) (w':=w') (a:=⟨q,o+i * 1+j,none⟩) (hb q o e)];exact h2 j u hj
structure PK (w W:World) (A:zo) (d:List Aa) (c:Nat) (v:Value) (L:List LK):Prop where
 db:LG w W A d c
 rb:W.heap[w.heap.size+1]? = some (.cells #[.slice none 0 0] 31 (0,0))
 sb:W.heap[w.heap.size+1+1]? = some (.cells #[v] 31 (0,0))
 out:FV (w.heap.size+1+1) W v L
variable {d:List Aa} {L:List LK} {c:Nat}
theorem PK.below {W':World} (h:PK w W A d c v L) (hb:Below W.heap.size W W'):PK w W' A d c v L :=
 ⟨h.db.step hb,(hb.block _ (zg.1 h.rb).1).trans h.rb,(hb.block _ (zg.1 h.sb).1).trans h.sb,h.out.below hb⟩
theorem PK.new (h:BR w A d):PK w (((w.alloc (.cells #[.slice A d.length c] 24)).alloc (.cells #[.slice none 0 0] 31)).alloc (.cells #[.slice none 0 0] 31)) A d c (.slice none 0 0) []:=by
 have hz:(w.alloc (.cells #[.slice A d.length c] 24)).heap.size=w.heap.size+1:=by simp
 have hz2:((w.alloc (.cells #[.slice A d.length c] 24)).alloc (.cells #[.slice none 0 0] 31)).heap.size=w.heap.size+1+1:=by simp
 refine ⟨((LG.new h).step (zD _ _)).step (zD _ _),EP ?_ _,?_,FV.nil _ _⟩
 ·have:=AAA (w.alloc (.cells #[.slice A d.length c] 24)) (.cells #[.slice none 0 0] 31)
  rw[hz] at this;exact this
 ·have:=AAA ((w.alloc (.cells #[.slice A d.length c] 24)).alloc (.cells #[.slice none 0 0] 31)) (.cells #[.slice none 0 0] 31)
  rw[hz2] at this;exact this
structure Mid (wi W:World) (x:Aa) (A':zo) (c' b8:Nat) (t:AZ) (As:zo) (cs:Nat) (Am:zo) (cm:Nat):Prop where
 nb:G9 W wi.heap.size x A' c'
 tb:Bf W b8 t As cs Am cm
 Ch:Below wi.heap.size wi W
 ne:wi.heap.size<b8
section
variable {wi W W':World} {x:Aa} {A':zo} {c' b8:Nat} {t:AZ} {As:zo} {cs:Nat} {Am:zo} {cm:Nat}
theorem Mid.below (h:Mid wi W x A' c' b8 t As cs Am cm) (hb:Below W.heap.size W W'):Mid wi W' x A' c' b8 t As cs Am cm:=⟨h.nb.below hb,h.tb.below hb,zB h.Ch hb,h.ne⟩
theorem Lm (h : Mid wi W x A' c' b8 t As cs Am cm) :
    (((W.cell? ⟨wi.heap.size, 0, none⟩ = some (.int .u8 x.kind) /\ W.cell? ⟨wi.heap.size, 1, none⟩ = some (.int .u8 x.a) /\ W.cell? ⟨wi.heap.size, 2, none⟩ = some (.int .u8 x.b) /\ W.cell? ⟨wi.heap.size, 3, none⟩ = some (.int .u8 x.c) /\ W.cell? ⟨wi.heap.size, 4, none⟩ = some (.slice A' x.parts.length c')) /\ (∀ j, W.frozen? ⟨b8, j, none⟩ = false)) /\
      (W.cell? ⟨b8, 0, none⟩ = some (.int .i64 t.kind) /\ W.cell? ⟨b8, 1, none⟩ = some (.string t.name) /\ W.cell? ⟨b8, 2, none⟩ = some (.int .i64 t.low) /\ W.cell? ⟨b8, 3, none⟩ = some (.int .i64 t.high) /\ W.cell? ⟨b8, 4, none⟩ = some (.int .i64 t.max) /\ W.cell? ⟨b8, 5, none⟩ = some (.slice As t.Ab.length cs) /\ W.cell? ⟨b8, 6, none⟩ = some (.slice Am t.AA.length cm) /\ W.cell? ⟨b8, 7, none⟩ = some (.int .i64 t.key) /\ W.cell? ⟨b8, 8, none⟩ = some (.int .i64 t.elem) /\ W.cell? ⟨b8, 9, none⟩ = some (.bool t.open_))) /\
      Hid (Mid wi W x A' c' b8 t As cs Am cm) :=
  ⟨⟨⟨⟨h.nb.cell 0, h.nb.cell 1, h.nb.cell 2, h.nb.cell 3, h.nb.cell 4⟩, fun _ => AAK _ _ _ _ _ h.tb⟩, h.tb.cell 0, h.tb.cell 1, h.tb.cell 2, h.tb.cell 3, h.tb.cell 4, h.tb.cell 5, h.tb.cell 6, h.tb.cell 7, h.tb.cell 8, h.tb.cell 9⟩, h⟩
theorem Mid.other (h:Mid wi W x A' c' b8 t As cs Am cm) (j:Nat) (v:Value):G9 (W.setCell ⟨b8,j,none⟩ v) wi.heap.size x A' c'/\Below wi.heap.size wi (W.setCell ⟨b8,j,none⟩ v) :=
 ⟨(AAO _ _ _ _ (by have:=h.ne;show wi.heap.size≠b8;omega)).trans h.nb,h.Ch.setCell (p:=⟨b8,j,none⟩) (by have:=h.ne;show wi.heap.size<=b8;omega) v⟩
theorem Mid.blt (h:Mid wi W x A' c' b8 t As cs Am cm):b8<W.heap.size:=h.tb.blt
theorem Mid.jM (h:Mid wi W x A' c' b8 t As cs Am cm) (m:Int):Mid wi (W.setCell ⟨b8,2,none⟩ (.int .i64 m)) x A' c' b8 { t with low:=m } As cs Am cm :=
 ⟨(h.other _ _).1,by have:=AAV _ _ 2 _ _ (.int .i64 m) h.tb;unfold Bf;rw[this];simp,(h.other _ _).2,h.ne⟩
theorem Mid.bR (h:Mid wi W x A' c' b8 t As cs Am cm) (m:Int):Mid wi (W.setCell ⟨b8,3,none⟩ (.int .i64 m)) x A' c' b8 { t with high:=m } As cs Am cm :=
 ⟨(h.other _ _).1,by have:=AAV _ _ 3 _ _ (.int .i64 m) h.tb;unfold Bf;rw[this];simp,(h.other _ _).2,h.ne⟩
theorem Mid.Gs (h:Mid wi W x A' c' b8 t As cs Am cm) (m:Int):Mid wi (W.setCell ⟨b8,4,none⟩ (.int .i64 m)) x A' c' b8 { t with max:=m } As cs Am cm :=
 ⟨(h.other _ _).1,by have:=AAV _ _ 4 _ _ (.int .i64 m) h.tb;unfold Bf;rw[this];simp,(h.other _ _).2,h.ne⟩
theorem Mid.Ra (h:Mid wi W x A' c' b8 t As cs Am cm) (m:Int):Mid wi (W.setCell ⟨b8,7,none⟩ (.int .i64 m)) x A' c' b8 { t with key:=m } As cs Am cm :=
 ⟨(h.other _ _).1,by have:=AAV _ _ 7 _ _ (.int .i64 m) h.tb;unfold Bf;rw[this];simp,(h.other _ _).2,h.ne⟩
theorem Mid.Jc (h:Mid wi W x A' c' b8 t As cs Am cm) (m:Int):Mid wi (W.setCell ⟨b8,8,none⟩ (.int .i64 m)) x A' c' b8 { t with elem:=m } As cs Am cm :=
 ⟨(h.other _ _).1,by have:=AAV _ _ 8 _ _ (.int .i64 m) h.tb;unfold Bf;rw[this];simp,(h.other _ _).2,h.ne⟩
theorem Mid.QS (h:Mid wi W x A' c' b8 t As cs Am cm) (m:Bool):Mid wi (W.setCell ⟨b8,9,none⟩ (.bool m)) x A' c' b8 { t with open_:=m } As cs Am cm :=
 ⟨(h.other _ _).1,by have:=AAV _ _ 9 _ _ (.bool m) h.tb;unfold Bf;rw[this];simp,(h.other _ _).2,h.ne⟩
theorem Mid.bQ (h:Mid wi W x A' c' b8 t As cs Am cm) (m:ByteArray):Mid wi (W.setCell ⟨b8,1,none⟩ (.string m)) x A' c' b8 { t with name:=m } As cs Am cm :=
 ⟨(h.other _ _).1,by have:=AAV _ _ 1 _ _ (.string m) h.tb;unfold Bf;rw[this];simp,(h.other _ _).2,h.ne⟩
theorem Mid.bP (h:Mid wi W x A' c' b8 t As cs Am cm) (l:List CB) (B:zo) (d:Nat):Mid wi (W.setCell ⟨b8,5,none⟩ (.slice B l.length d)) x A' c' b8 { t with Ab:=l } B d Am cm :=
 ⟨(h.other _ _).1,by have:=AAV _ _ 5 _ _ (.slice B l.length d) h.tb;unfold Bf;rw[this];simp,(h.other _ _).2,h.ne⟩
theorem Mid.Tj (h:Mid wi W x A' c' b8 t As cs Am cm) (l:List AY) (B:zo) (d:Nat):Mid wi (W.setCell ⟨b8,6,none⟩ (.slice B l.length d)) x A' c' b8 { t with AA:=l } As cs B d :=
 ⟨(h.other _ _).1,by have:=AAV _ _ 6 _ _ (.slice B l.length d) h.tb;unfold Bf;rw[this];simp,(h.other _ _).2,h.ne⟩
theorem Cb (h : Mid wi W x A' c' b8 t As cs Am cm) {q : Nat} {sv : Value} (hd : wi.cell? ⟨q, 0, none⟩ = some sv) :
    ((((W.cell? ⟨wi.heap.size, 0, none⟩ = some (.int .u8 x.kind) /\ W.cell? ⟨wi.heap.size, 1, none⟩ = some (.int .u8 x.a) /\ W.cell? ⟨wi.heap.size, 2, none⟩ = some (.int .u8 x.b) /\ W.cell? ⟨wi.heap.size, 3, none⟩ = some (.int .u8 x.c) /\ W.cell? ⟨wi.heap.size, 4, none⟩ = some (.slice A' x.parts.length c')) /\ (∀ j, W.frozen? ⟨b8, j, none⟩ = false)) /\
      (W.cell? ⟨b8, 0, none⟩ = some (.int .i64 t.kind) /\ W.cell? ⟨b8, 1, none⟩ = some (.string t.name) /\ W.cell? ⟨b8, 2, none⟩ = some (.int .i64 t.low) /\ W.cell? ⟨b8, 3, none⟩ = some (.int .i64 t.high) /\ W.cell? ⟨b8, 4, none⟩ = some (.int .i64 t.max) /\ W.cell? ⟨b8, 5, none⟩ = some (.slice As t.Ab.length cs) /\ W.cell? ⟨b8, 6, none⟩ = some (.slice Am t.AA.length cm) /\ W.cell? ⟨b8, 7, none⟩ = some (.int .i64 t.key) /\ W.cell? ⟨b8, 8, none⟩ = some (.int .i64 t.elem) /\ W.cell? ⟨b8, 9, none⟩ = some (.bool t.open_))) /\ W.cell? ⟨q, 0, none⟩ = some sv) /\
      Hid (Mid wi W x A' c' b8 t As cs Am cm) :=
  ⟨⟨(Lm h).1, zA h.Ch hd⟩, h⟩
theorem CP (h : Mid wi W x A' c' b8 t As cs Am cm) {q : Nat} {sv : Value} (hd : wi.cell? ⟨q, 0, none⟩ = some sv) :
    ((((W.cell? ⟨wi.heap.size, 0, none⟩ = some (.int .u8 x.kind) /\ W.cell? ⟨wi.heap.size, 1, none⟩ = some (.int .u8 x.a) /\ W.cell? ⟨wi.heap.size, 2, none⟩ = some (.int .u8 x.b) /\ W.cell? ⟨wi.heap.size, 3, none⟩ = some (.int .u8 x.c) /\ W.cell? ⟨wi.heap.size, 4, none⟩ = some (.slice A' x.parts.length c')) /\ (∀ j, W.frozen? ⟨b8, j, none⟩ = false)) /\
      (∀ j, j < 10 -> (W.cell? ⟨b8, j, none⟩).isSome = true)) /\ W.cell? ⟨q, 0, none⟩ = some sv) /\ Hid (∃ t As cs Am cm, Mid wi W x A' c' b8 t As cs Am cm) :=
  ⟨⟨⟨(Lm h).1.1, fun j hj => by rw [h.tb.cell j]; simp; omega⟩, zA h.Ch hd⟩, t, As, cs, Am, cm, h⟩
theorem Qh (h:Mid wi W x A' c' b8 t As cs Am cm):W.there b8 0 10:=fun j hj=>by
 rw[Nat.zero_add];refine ⟨?_,AAK _ _ _ _ _ h.tb⟩;rw[AAB _ _ _ _ _ _ h.tb]
 match j,hj with
 | 0,_=>rfl
 | 1,_=>rfl
 | 2,_=>rfl
 | 3,_=>rfl
 | 4,_=>rfl
 | 5,_=>rfl
 | 6,_=>rfl
 | 7,_=>rfl
 | 8,_=>rfl
 | 9,_=>rfl
theorem Mid.all (h:Mid wi W x A' c' b8 t As cs Am cm) (u:AZ):Mid wi (W.setCells b8 0 (u.cs none 0 none 0)) x A' c' b8 u none 0 none 0 :=
 ⟨(zN (by have:=h.ne;omega) _ _ _).trans h.nb,by unfold Bf;rw[EY _ _ _ _ h.tb];simp[jN],yC _ (by have:=h.ne;omega) _ _ _ h.Ch,h.ne⟩
theorem Mid.keep (h:Mid wi W x A' c' b8 t As cs Am cm) (hb:Below wi.heap.size wi W') (hk:∀g,g=wi.heap.size\/g=b8->W'.heap[g]? = W.heap[g]?):Mid wi W' x A' c' b8 t As cs Am cm :=
 ⟨(hk _ (.inl rfl)).trans h.nb,(hk _ (.inr rfl)).trans h.tb,hb,h.ne⟩
theorem RX (h:Mid wi W x A' c' b8 t As cs Am cm) {b3 o3:Nat} {ob:Obj} {z:Value} (hk:W.heap[b3]? = some ob) (hc:∀W:World,W.heap[b3]? = some ob->W.cell? ⟨b3,o3,none⟩=some z) :
  ((W.cell? ⟨b8,5,none⟩=some (.slice As t.Ab.length cs)/\W.frozen? ⟨b8,5,none⟩=false)/\W.cell? ⟨b3,o3,none⟩=some z)/\Hid (Mid wi W x A' c' b8 t As cs Am cm/\W.heap[b3]? = some ob) :=
 ⟨⟨⟨h.tb.cell 5,AAK _ _ _ _ _ h.tb⟩,hc W hk⟩,h,hk⟩
end
def Uz (s:CB):List Value:=[.int .i64 s.id,.string s.name]
theorem fI (s:CB):∀u∈Uz s,u.oneCell'=true:=fun u hu=>by
 unfold Uz at hu;simp only[AAf,List.mem_nil_iff,or_false] at hu
 rcases hu with rfl|rfl <;> rfl
theorem oJ {base:Nat} {B:zo} {dc:Nat} {L:List CB} (h:Ak 92 2 Uz W base (.slice B L.length dc) L) (hl:L.length<=100) (hs:∀s∈L,Dc s.name):Off (· < base) W fun u=>Jw u B L:=fun u hu=>by
 have ho:Ak 92 2 Uz u base (.slice B L.length dc) L:=h.keep fun g hg hlt _=>hu g (by omega) hlt
 obtain ⟨A',c',hv',hr⟩:=Ak.rows (bytes:=24) (at_:=fun x cs=>CB.At x cs) ho (fun _=>rfl) (by unfold D9;omega) (fun s hm=>⟨hs s hm,rfl⟩)
 injection hv' with e1 _ _
 rw[e1];exact hr
theorem bT:(Tryz.prog.info? 31).map (·.size)=some 1:=by kernel_rfl
theorem PK.next (h:PK w W A d c v L) (hd:BR w A d) {x:LK} (hx:Off (fun q=>q<=w.heap.size+1+1\/v.ownBlock=some q) W fun u=>Ic u x.t x.As x.Am) {v9:Value} {w9:World} (ho:w9.ownsRow (w.heap.size+1+1+1) 87 10 v9 (L.length+1) (L.flatMap LK.cells++x.cells)) (hg:(W.alloc (.cells x.cells.toArray 87)).grownBy w9 v.ownBlock) (hv:v9.ownBlock=v.ownBlock\/v9.ownBlock=some (W.alloc (.cells x.cells.toArray 87)).heap.size):
  w9.frozen? ⟨w.heap.size+1+1,0,none⟩=false/\w9.cell? ⟨w.heap.size+1+1,0,none⟩=some v/\w.heap.size+1+1<w9.heap.size/\PK w (w9.setCell ⟨w.heap.size+1+1,0,none⟩ v9) A d c v9 (L++[x]):=by
 have hnew:=zD W (.cells x.cells.toArray 87);have hzs:=(zg.1 h.sb).1;have hoo:=(h.out.below hnew).own;have hk:∀q,q<w.heap.size+1+1+1->w9.heap[q]? = W.heap[q]? := fun q hq=>(yA hg (by have:=hnew.size;omega) fun k hk e=>by have:=hoo.lt k hk;omega).trans (hnew.block q (by omega))
 have hsb:=(hk (w.heap.size+1+1) (by omega)).trans h.sb
 have aN:Below w.heap.size w w9:=(zB h.db.below hnew).grown hg (zB h.db.below hnew).size (fun q hq=>by have:=hoo.lt q hq;omega)
 refine ⟨AAK _ _ _ _ _ hsb,by rw[AAB _ _ _ _ _ _ hsb];rfl,(zg.1 hsb).1,⟨?_,?_,?_,?_⟩,?_,?_,?_⟩
 ·have:=(zg.1 hsb).1;simp;omega
 ·rw[World.cell?_of_block (w:=W) (w':=w9.setCell ⟨w.heap.size+1+1,0,none⟩ v9) (a:=⟨w.heap.size,0,none⟩) ((AAO _ _ _ _ (by simp;omega)).trans (hk _ (by simp only;omega)))];exact h.db.cell
 ·exact hd.below (aN.setCell (p:=⟨w.heap.size+1+1,0,none⟩) (by simp only;omega) _)
 ·exact aN.setCell (p:=⟨w.heap.size+1+1,0,none⟩) (by simp only;omega) _
 ·exact ((AAO _ _ _ _ (by simp)).trans (hk _ (by omega))).trans h.rb
 ·rw[AAV _ _ 0 _ _ v9 hsb];rfl
 ·exact (FV.snoc (h.out.below hnew) (hx.low hnew) ho hg hv).set (by simp) (b:=w.heap.size+1+1) (AAQ _) (fun q hq _=>AAO _ _ _ _ (by simpa using hq))
theorem Nl {T E:TypeId} {size bytes:Nat} (hE:Elem T E size bytes) (w:World) {ops:Array Oper} {rest:List Oper} {op:Oper} {a:Act} {Q:Exit->Act->World->Prop} (hgd:op.guard=none) (s x:Operand)
  (ho:op.op = .call { callee := .builtin .append,args:=#[s,x],argTypes:=#[T,T] }) (base:Nat) (v:Value) (n:Nat) (xs:List Value) (hs:a.eval s=v) (h:w.ownsRow base E size v n xs) (b o m c:Nat) (news:List Value) (hx:a.eval x = .slice (some ⟨b,o,none⟩) m c)
  (hl:news.length=m * size) (hnews:w.rangeAt b o news) (h1:∀u∈news,u.oneCell'=true) (hlen:n+m<=9223372036854775807) (hby:(n+m) * bytes<=140737488355328) (hb:base<=w.heap.size)
  (hk:∀v' w',w'.ownsRow base E size v' (n+m) (xs++news)->w.grownBy w' v.ownBlock->(v'.ownBlock=v.ownBlock\/v'.ownBlock=some w.heap.size)->wpList Tryz.prog ops Q rest (a.put op.dst v') w'):wpList Tryz.prog ops Q (op::rest) a w:=by
 refine wpList_plain hgd fun K hK=>?_
 obtain ⟨v',w',hr,h2,h3,h5⟩:=Le hE w base op.type v n xs h b o m c news hl hnews h1 hlen hby hb;unfold Oper.wp execOp;simp only[ho,resolve,invoke,builtin,Sem.run_bind,Sem.run_pure,Result.andThen_ok,List.map_toArray,ABB,List.map_nil,hs,hx,hr];exact hK _ _ (hk v' w' h2 h3 h5)
def gN (d:List Aa) (w:World) (e:Ending) (w':World):Prop :=
 ∃A c s ok,e = .returned (.tuple #[.agg #[.slice A s.length c],.bool ok])/\DV w' A s/\(ok=true->zQ s=0/\Short s/\s.length=d.length/\0<d.length/\d.length<=5/\(∀t∈s,In64 t.low/\In64 t.high)/\∀t∈s,∀m∈t.AA,Kv m.dflt)/\(ok=false->s=[])/\Below w.heap.size w w'
theorem pI {W':World} (hd:KX d (L.map (·.t))) (h1:1<=d.length) (h5:d.length<=5) (ht:DV W' A (L.map (·.t))) (hb:Below w.heap.size w W'):gN d w (.returned (.tuple #[.agg #[.slice A L.length c],.bool true])) W':=by
 have h0:Ending.returned (.tuple #[.agg #[.slice A L.length c],.bool true]) = .returned (.tuple #[.agg #[.slice A (L.map (·.t)).length c],.bool true]):=by rw[AAk]
 have hv:=U5 hd h5;have hs:=U6 hd;have hf:=Wq hd;have hnu:=Zu hd;have hl:=hd.1;clear hd;generalize L.map (·.t)=s at *;exact ⟨A,c,s,true,h0,ht,fun _=>⟨hv,hs,hl,h1,h5,hnu,hf⟩,(fun h=>by cases h),hb⟩
def qW (wi:World) (d:List Aa) (i:Nat) (x:Aa) (A':zo) (c' b8:Nat) (wx:World):Prop :=
 ∃t As cs Am cm,Mid wi wx x A' c' b8 t As cs Am cm/\Nz d i t/\Off (· < wi.heap.size) wx fun u=>Ic u t As Am
theorem pJ (d : List Aa) (A : zo) (c : Nat) (w : World) (hd : BR w A d) :
    Calls Tryz.prog 11 #[DU A d.length c] w (gN d w) := by
  have hn := hd.1.lt (by omega)
  have HD0 := zh hd;have HI := zh (PK.new (c := c) hd);clear hd
  by_cases hbad : d.length < 1 \/ 5 < d.length
  · have HBD := zh (zI w (.cells #[.slice A d.length c] 24) (.cells #[.slice none 0 0] 31))
    rcases hbad with hb | hb
    · have q1 : decide ((d.length : Int) < 1) = true := by simp; omega
      have q3 : d = [] := AAo (by omega)
      subst q3;clear q1 hb
      go_enter Tryz.func11, Tryz.ntmps11
      go_wp2
      exact bodyPost_ret (v := .tuple #[.agg #[.slice none 0 0], .bool false]) (by simp [results, Tryz.results11, go_sem]) rfl ⟨none, 0, [], false, rfl, Ae.nil _ _ _ _ _, (fun h => by cases h), (fun _ => rfl), HBD.out⟩
    · have q1 : decide ((d.length : Int) < 1) = false := by simp; omega
      have q2 : decide ((5 : Int) < (d.length : Int)) = true := by simp; omega
      clear hb
      go_enter Tryz.func11, Tryz.ntmps11
      go_wp2
      exact bodyPost_ret (v := .tuple #[.agg #[.slice none 0 0], .bool false]) (by simp [results, Tryz.results11, go_sem]) rfl ⟨none, 0, [], false, rfl, Ae.nil _ _ _ _ _, (fun h => by cases h), (fun _ => rfl), HBD.out⟩
  have hn1 : 1 <= d.length := by omega
  have nC : d.length <= 5 := by omega
  have q1 : decide ((d.length : Int) < 1) = false := by simp; omega
  have q2 : decide ((5 : Int) < (d.length : Int)) = false := by simp; omega
  clear hbad
  go_enter Tryz.func11, Tryz.ntmps11
  go_wp2
  generalize ((w.alloc (.cells #[.slice A d.length c] 24)).alloc (.cells #[.slice none 0 0] 31)).alloc (.cells #[.slice none 0 0] 31) = wc at *
  go_loopw [6] (fun s wr => ∃ (i : Nat) (v : Value) (L : List LK), i <= d.length /\ s = .int .i64 (i : Int) /\ Hid (PK w wr A d c v L /\ L.length = i /\ ∀ j (h : j < L.length), Nz d j L[j].t)) (fun s _ => d.length - (intOf s).toNat)
  case atStart => exact ⟨0, _, [], by omega, rfl, HI.out, rfl, fun j h => absurd h (by simp)⟩
  case round =>
    obtain ⟨i, v, L, hi, rfl, hh⟩ := hrel;obtain ⟨wi, rfl⟩ : ∃ wi : World, wi = wr := ⟨_, rfl⟩;have HST := zh hh.out.1;have P9 := zh hh.out.2.1;have TK := zh hh.out.2.2;clear hh
    by_cases hlt : i < d.length
    · have hdc := HST.out.db.cell
      have hdl := HST.out.db.lt;obtain ⟨b, o, A', c', rfl, hr, c0, c1, c2, c3, c4⟩ := HST.out.db.nodes.Wy hlt;generalize d.getD i Dx = x at *;have HR := zh hr;have hz := zL c0;simp only at hz;have g1 : (0:Int) <= (i:Int) := by omega
      have g2 : (i : Int) < (d.length : Int) := by omega
      clear hr;have OU := zh (G9.new wi x A' c');have HB1 := zh (zD wi (x.box A' c'));have Kg := zh (HST.out.below HB1);go_wp2_with fail;refine (Cc d i _ c _ Kg.out.db.nodes hlt).mono ?_;rintro e w2 ⟨rfl, hb2⟩;have gy := zh (Na d i);have HK : ∃ K, Hid (BH d i = K) := ⟨_, rfl⟩;obtain ⟨K, HK⟩ := HK;rw [HK.out]
      have vg : Hid (Mid wi (w2.alloc (.cells #[.int .i64 K, .string ⟨#[]⟩, .int .i64 0, .int .i64 0, .int .i64 0, .slice none 0 0, .slice none 0 0, .int .i64 0, .int .i64 0, .bool false] 87)) x A' c' w2.heap.size { Ar with kind := K } none 0 none 0) :=
        ⟨(OU.out.below hb2).below (zD _ _), AAA _ _, zB (zB HB1 hb2) (zD _ _), by have := (OU.out.below hb2).blt; omega⟩
      have HS2 := zh ((Kg.out.below hb2).below (zD w2 (.cells #[.int .i64 K, .string ⟨#[]⟩, .int .i64 0, .int .i64 0, .int .i64 0, .slice none 0 0, .slice none 0 0, .int .i64 0, .int .i64 0, .bool false] 87)));clear hb2 c0 c1 c2 c3 c4 hz hdc hdl;have AAe : Hid (DR K = DR K) := rfl;obtain ⟨NB, LQ⟩ : ∃ NB, Hid (DR K = NB) := ⟨_, rfl⟩
      go_upto_if 37 with fail
      refine (V5 _ _).mono ?_;rintro e w3 ⟨rfl, rfl⟩;rw [LQ.out];generalize w2.alloc (.cells #[.int .i64 K, .string ⟨#[]⟩, .int .i64 0, .int .i64 0, .int .i64 0, .slice none 0 0, .slice none 0 0, .int .i64 0, .int .i64 0, .bool false] 87) = W0 at *;generalize w2.heap.size = b8 at *;obtain ⟨⟨⟨⟨n0, n1, n2, n3, n4⟩, hfz⟩, t0, t1, t2, t3, t4, t5, t6, t7, t8, t9⟩, _⟩ := Lm vg
      have IG := vg.out.blt
      go_upto_if 37 with fail
      go_cut [] (fun wx => Hid (Mid wi wx x A' c' b8 { Ar with kind := K, name := if DR K then Nv i else ⟨#[]⟩ } none 0 none 0))
      case first =>
        as_aux_lemma =>
        cases NB with
        | true =>
          obtain ⟨S, hS⟩ : ∃ S, Utf8.encode (65 + (i : Int)) = S := ⟨_, rfl⟩;have HS : Hid (S = Nv i) := by have := (SY (n := i) (by omega)).2; rw [<- hS]; exact this
          have gm := zh (vg.out.bQ S);go_wp2;go_meet;have := gm.out;rw [HS.out] at this;rw [LQ.out, AAC rfl, HS.out];exact this
        | false =>
          go_wp2
          go_meet
          rw [LQ.out];exact vg.out
      case rest =>
      have MZ := zh hcut.out;have PY : Hid (i <= 20) := by show _ <= _; omega
      have iN := zh HR.out.a;have HXB := zh HR.out.b;have hpos : (0 : Int) < (d.length : Int) := by omega
      have hnz : ¬ ((d.length : Int) = 0) := by omega
      have hnil : ¬ (d = []) := fun e => by rw [e] at hn1; simp at hn1
      obtain ⟨ev, hev⟩ : ∃ ev : Int, ev = ((x.c % d.length : Nat) : Int) := ⟨_, rfl⟩;have hxc := HR.out.c;have uU : (x.c : Int).tmod (d.length : Int) = ev := hev.symm;have ADJ : (x.c : Int) % (d.length : Int) = ev := by rw [hev]; simp
      have ADI : (IntKind.i64.wrap (x.c : Int)).tmod (d.length : Int) = ev := by rw [IntWalk.i64_in _ (by omega)]; exact uU
      have ADH : (wrap64 (x.c : Int)).tmod (d.length : Int) = ev := by rw [IntWalk.wrap64_in _ (by omega)]; exact uU
      have MU : Hid (0 <= ev /\ ev < (d.length : Int)) := by
        have := Nat.mod_lt x.c (show 0 < d.length by omega)
        show _ /\ _
        omega
      obtain ⟨mx, hmx⟩ : ∃ mx : Int, mx = ((x.a % 4 : Nat) : Int) := ⟨_, rfl⟩;have AC7 : (x.a : Int).tmod 4 = mx := hmx.symm;have AC6 : (x.a : Int) % 4 = mx := by rw [hmx]; simp
      have AC5 : IntKind.i64.wrap mx = mx := IntWalk.i64_in _ (by omega)
      have xC : Hid (0 <= mx /\ mx <= 3) := by show _ /\ _; omega
      clear hev hmx hxc;have MV := zh HST.out.db.cell;clear hcut vg Kg HS2 n0 n1 n2 n3 n4 hfz t0 t1 t2 t3 t4 t5 t6 t7 t8 t9 IG OU HB1 AAe;obtain ⟨⟨⟨⟨⟨n0, n1, n2, n3, n4⟩, hfz⟩, t0, t1, t2, t3, t4, t5, t6, t7, t8, t9⟩, hdc⟩, _⟩ := Cb MZ MV;have IG := MZ.out.blt;have FK := MZ.out.nb.blt
      go_upto_block 2 with fail
      clear n0 n1 n2 n3 n4 hfz t0 t1 t2 t3 t4 t5 t6 t7 t8 t9 IG FK hdc
      go_cut [] (fun wx => Hid (qW wi d i x A' c' b8 wx))
      case first =>
        as_aux_lemma =>
        have hK : K = 1 \/ K = 2 \/ K = 3 \/ K = 4 \/ K = 5 \/ K = 6 \/ K = 7 \/ K = 8 \/ K = 9 := by have := gy.out; have := HK.out; omega
        rcases hK with rfl | rfl | rfl | rfl | rfl | rfl | rfl | rfl | rfl
        · have HM : Hid (Mid wi wc x A' c' b8 { Ar with kind := 1 } none 0 none 0) := zh (show Mid wi wc x A' c' b8 { Ar with kind := 1 } none 0 none 0 from MZ.out)
          clear MZ;obtain ⟨⟨⟨⟨⟨n0, n1, n2, n3, n4⟩, hfz⟩, t0, t1, t2, t3, t4, t5, t6, t7, t8, t9⟩, hdc⟩, _⟩ := Cb HM MV;have IG := HM.out.blt;have FK := HM.out.nb.blt;have hdl := zL hdc;simp only at hdl;go_wp2;go_meet;exact ⟨_, none, 0, none, 0, HM.out, Yp PY HK, (fun u _ => Dw (yK (show (0 : Nat) <= 100 by decide)) rfl rfl)⟩
        · have HM : Hid (Mid wi wc x A' c' b8 { Ar with kind := 2 } none 0 none 0) := zh (show Mid wi wc x A' c' b8 { Ar with kind := 2 } none 0 none 0 from MZ.out)
          clear MZ;obtain ⟨⟨⟨⟨⟨n0, n1, n2, n3, n4⟩, hfz⟩, t0, t1, t2, t3, t4, t5, t6, t7, t8, t9⟩, hdc⟩, _⟩ := Cb HM MV;have IG := HM.out.blt;have FK := HM.out.nb.blt;have hdl := zL hdc;simp only at hdl;go_wp2_with fail
          refine wp_region_held_drew (S := (fun w' => ((((w'.cell? ⟨wi.heap.size, 0, none⟩ = some (.int .u8 x.kind) /\ w'.cell? ⟨wi.heap.size, 1, none⟩ = some (.int .u8 x.a) /\ w'.cell? ⟨wi.heap.size, 2, none⟩ = some (.int .u8 x.b) /\ w'.cell? ⟨wi.heap.size, 3, none⟩ = some (.int .u8 x.c) /\ w'.cell? ⟨wi.heap.size, 4, none⟩ = some (.slice A' x.parts.length c')) /\ (∀ j, w'.frozen? ⟨b8, j, none⟩ = false)) /\ (∀ j, j < 10 -> (w'.cell? ⟨b8, j, none⟩).isSome = true)) /\ w'.cell? ⟨w.heap.size, 0, none⟩ = some (.slice (some ⟨b, o, none⟩) d.length c)) /\ Hid (∃ t As cs Am cm, Mid wi w' x A' c' b8 t As cs Am cm))) (by kernel_rfl) ?_ (fun AU => ?_)
          · (try dsimp only); exact CP (HM.out.below (zC (Pd _ _) 1)) MV
          have nV := zh (HM.out.below (zC (Pd wc.heap.size wc) 1));refine tL 0 ?_
          (try simp only [ps])
          refine tL 2 ?_
          (try simp only [ps])
          refine tR 1 (fun K hK => ?_)
          go_simp
          (refine (OI x A' c' _ iN).mono ?_; rintro e w4 ⟨rfl, hbx⟩; have nU := zh (nV.out.below hbx))
          refine hK.out _ _ ?_ (fun AU => ?_)
          · (try dsimp only); exact CP nU MV
          clear hK K
          (try simp only [ps])
          refine tL 4 ?_
          (try simp only [ps])
          refine tR 3 (fun K hK => ?_)
          go_simp
          (refine (Un x A' c' _ iN).mono ?_; rintro e w5 ⟨rfl, hbx⟩; have HMc := zh (nU.out.below hbx))
          refine hK.out _ _ ?_ (fun AU => ?_)
          · (try dsimp only); exact CP HMc MV
          clear hK K
          (try simp only [ps])
          refine tR 5 (fun K hK => ?_)
          (obtain ⟨z5, xX⟩ := Option.isSome_iff_exists.1 (AU.1.1.2 2 (by decide)); have hf5 := AU.1.1.1.2 2; go_simp; have HMd := zh (HMc.out.jM (K8 x)))
          refine hK.out _ _ ?_ (fun AU => ?_)
          · (try dsimp only); exact CP HMd MV
          clear hK K
          (try simp only [ps])
          refine tL 6 ?_
          (try simp only [ps])
          refine tR 7 (fun K hK => ?_)
          (obtain ⟨z7, mr⟩ := Option.isSome_iff_exists.1 (AU.1.1.2 3 (by decide)); have hf7 := AU.1.1.1.2 3; go_simp; have HMe := zh (HMd.out.bR (Kn x)))
          refine hK.out _ _ ?_ (fun AU => ?_)
          · (try dsimp only); exact CP HMe MV
          clear hK K
          (try simp only [ps])
          refine wpAnyH_done (by kernel_rfl) ?_ _
          go_wp2
          go_meet
          exact ⟨_, none, 0, none, 0, HMe.out, av PY HK (dZ x) (kQ x), (fun u _ => Dw (yK (show (0 : Nat) <= 100 by decide)) rfl rfl)⟩
        · have HM : Hid (Mid wi wc x A' c' b8 { Ar with kind := 3 } none 0 none 0) := zh (show Mid wi wc x A' c' b8 { Ar with kind := 3 } none 0 none 0 from MZ.out)
          clear MZ;obtain ⟨⟨⟨⟨⟨n0, n1, n2, n3, n4⟩, hfz⟩, t0, t1, t2, t3, t4, t5, t6, t7, t8, t9⟩, hdc⟩, _⟩ := Cb HM MV;have IG := HM.out.blt;have FK := HM.out.nb.blt;have hdl := zL hdc;simp only at hdl;go_wp2;go_meet;exact ⟨_, none, 0, none, 0, HM.out.Gs _, aj PY HK xC, (fun u _ => Dw (yK (show (0 : Nat) <= 100 by decide)) rfl rfl)⟩
        · have HM : Hid (Mid wi wc x A' c' b8 { Ar with kind := 4, name := Nv i } none 0 none 0) := zh (show Mid wi wc x A' c' b8 { Ar with kind := 4, name := Nv i } none 0 none 0 from MZ.out)
          clear MZ;obtain ⟨⟨⟨⟨⟨n0, n1, n2, n3, n4⟩, hfz⟩, t0, t1, t2, t3, t4, t5, t6, t7, t8, t9⟩, hdc⟩, _⟩ := Cb HM MV;have IG := HM.out.blt;have FK := HM.out.nb.blt;have hdl := zL hdc;simp only at hdl;obtain ⟨E, hE⟩ : ∃ E, ((x.b : Int) % 2 == 1) = E := ⟨_, rfl⟩;have RF := zh (HM.out.QS E);go_upto_region 19 with fail
          clear n0 n1 n2 n3 n4 hfz t0 t1 t2 t3 t4 t5 t6 t7 t8 t9 hdc IG FK hdl hE;generalize wc.setCell ⟨b8, 9, none⟩ (.bool E) = W2 at *;obtain ⟨⟨⟨⟨⟨n0, n1, n2, n3, n4⟩, hfz⟩, t0, t1, t2, t3, t4, t5, t6, t7, t8, t9⟩, hdc⟩, _⟩ := Cb RF MV;have IG := RF.out.blt;have FK := RF.out.nb.blt;have hdl := zL hdc;simp only at hdl;go_wp2_with fail;refine (Oi x A' c' _ iN).mono ?_
          rintro e W5 ⟨v5, rfl, xu, hb5⟩;have P8 := zh (SK x);have Ez : Hid ((EB x).length <= 6) := by have := MI (EB x) 0 6 P8.out.1 P8.out.2.1 (by omega); show _ <= _; omega
          obtain ⟨A5, c5, rfl, hi5⟩ := VG.ints xu (by have := Ez.out; unfold D9; omega)
          have Yb := zh (RF.out.below hb5);have HI5 := zh hi5;have TL : Hid (∀ g o, A5 = some ⟨g, o, none⟩ -> g ≠ b8 /\ g < W5.heap.size) := fun g o hg => by
            have := World.ownsRow.lt xu g (by rw [hg]; rfl)
            have := RF.out.blt;exact ⟨by omega, by omega⟩
          have HSL : Hid ((Hy x).length = (EB x).length) := by show _ = _; simp [Hy]
          have YT : Hid (wi.heap.size <= W5.heap.size) := Yb.out.Ch.size;clear hi5 xu hb5 n0 n1 n2 n3 n4 hfz t0 t1 t2 t3 t4 t5 t6 t7 t8 t9 hdc IG FK hdl;go_wp2
          go_loopw [10] (fun s wr => ∃ (q : Nat) (B : zo) (dc : Nat) (L : List CB), q <= (EB x).length /\ s = .int .i64 (q : Int) /\ Hid (L = (Hy x).take q /\ Mid wi wr x A' c' b8 { Ar with kind := 4, name := Nv i, Ab := L, open_ := E } B dc none 0 /\ Ak 92 2 Uz wr W5.heap.size (.slice B L.length dc) L /\ (∀ g, g ≠ b8 -> g < W5.heap.size -> wr.heap[g]? = W5.heap[g]?) /\ W5.heap.size <= wr.heap.size)) (fun s _ => (EB x).length - (intOf s).toNat)
          case atStart => exact ⟨0, none, 0, [], by omega, rfl, rfl, Yb.out, Ak.nil _ _, (fun _ _ _ => rfl), AAQ _⟩
          case round =>
            obtain ⟨q, B, dc, L, hq, rfl, hh⟩ := hrel;obtain ⟨wo, rfl⟩ : ∃ wo : World, wo = wr := ⟨_, rfl⟩;have Dm := zh hh.out.1;have vZ := zh hh.out.2.1;have wm := zh hh.out.2.2.1;have HKO := zh hh.out.2.2.2.1;have HBS := zh hh.out.2.2.2.2;have HIO : Hid (JH wo A5 (EB x)) := eB HI5 fun g o' e => HKO.out g (TL.out g o' e).1 (TL.out g o' e).2
            have PX : Hid (L.length <= 6) := by show _ <= _; rw [Dm.out]; have := Ez.out; have := HSL.out; simp; omega
            have AC9 := Ez.out;have hs5 : wo.cell? ⟨b8, 5, none⟩ = some (.slice B L.length dc) := vZ.out.tb.cell 5;clear hh
            by_cases pY : q < (EB x).length
            · obtain ⟨b3, o3, rfl, i3⟩ := HIO.out.iJ pY
              have vR : Hid ((Hy x).take (q + 1) = L ++ [⟨(EB x)[q], UZ 115 ((EB x)[q]).toNat⟩]) := by
                show _ = _
                have xZ : q < (Hy x).length := by rw [HSL.out]; exact pY
                rw [ABD xZ, <- Dm.out];simp [Hy]
              have hzr := P8.out.2.1 _ (AAW pY);generalize (EB x)[q] = z at *;obtain ⟨zn, rfl⟩ := AAh (show 0 <= z by omega)
              have hlt3 := zL i3;simp only at hlt3;obtain ⟨ob, hob⟩ : ∃ ob, wo.heap[b3]? = some ob := ⟨_, Array.getElem?_eq_getElem hlt3⟩;have HOB := zh hob;have HCZ : Hid (∀ W : World, W.heap[b3]? = some ob -> W.cell? ⟨b3, o3 + q, none⟩ = some (.int .i64 (zn : Int))) := fun W hW => (World.cell?_of_block (w := wo) (w' := W) (a := ⟨b3, o3 + q, none⟩) (hW.trans HOB.out.symm)).trans i3
              have H3 := zh (TL.out b3 o3 rfl);obtain ⟨S, hS⟩ : ∃ S, Utf8.encode (97 + (zn : Int)) = S := ⟨_, rfl⟩;have hS2 : Utf8.encode (IntKind.i32.wrap (IntKind.i64.wrap (97 + (zn : Int)))) = S := by rw [IntWalk.i64_in _ (by omega), IntWalk.i32_in _ (by omega)]; exact hS
              have HS : Hid (S = ⟨#[UInt8.ofNat (97 + zn)]⟩) := by have := (SY (n := zn) (by omega)).1; rw [<- hS]; exact this
              have hds : ¬ 9223372036854775807 < 1 + S.size := by have : S.size = 1 := by rw [HS.out]; rfl
                                                                  omega
              have NK : Hid ((Hy x).take (q + 1) = L ++ [⟨(zn : Int), (⟨#[115]⟩ : ByteArray) ++ S⟩]) := by
                show _ = _
                rw [vR.out, HS.out, Ox]; rfl
              have hbb := vZ.out.blt;have g1 : (0:Int) <= (q:Int) := by omega
              have g2 : (q : Int) < ((EB x).length : Int) := by omega
              have ACu := hzr.2;clear hob vR hzr;go_wp2_with fail
              refine yE (S := (fun w' => ((w'.cell? ⟨b8, 5, none⟩ = some (.slice B L.length dc) /\ w'.frozen? ⟨b8, 5, none⟩ = false) /\ w'.cell? ⟨b3, o3 + q, none⟩ = some (.int .i64 (zn : Int))) /\ Hid (Mid wi w' x A' c' b8 { Ar with kind := 4, name := Nv i, Ab := L, open_ := E } B dc none 0 /\ w'.heap[b3]? = some ob))) 18 (by kernel_rfl) ?_ (fun AU => ?_)
              · (try dsimp only); exact RX (vZ.out.below (zC (Pd _ _) 1)) HOB HCZ
              refine tC 0 ?_
              (try simp only [ps])
              refine tB 1 ?_
              (try simp only [ps])
              refine tC 2 ?_
              (try simp only [ps])
              refine tC 3 ?_
              (try simp only [ps])
              refine tC 4 ?_
              (try simp only [ps])
              refine tB 5 ?_
              (try simp only [ps])
              refine tC 6 ?_
              (try simp only [ps])
              refine tC 7 ?_
              (try simp only [ps])
              refine tC 8 ?_
              (try simp only [ps])
              refine tB 9 ?_
              (try simp only [ps])
              refine tC 10 ?_
              (try simp only [ps])
              refine tC 11 ?_
              (try simp only [ps])
              refine tC 12 ?_
              (try simp only [ps])
              refine tC 13 ?_
              (try simp only [ps])
              refine tC 14 ?_
              (try simp only [ps])
              refine tS 15 (fun K hK => ?_)
              go_simp
              refine hK.out _ _ ?_ (fun AU => ?_)
              · (try dsimp only); exact RX (AU.2.out.1.below (zD _ _)) (EP AU.2.out.2 _) HCZ
              clear hK K
              (try simp only [ps])
              refine tS 16 (fun K hK => ?_)
              (have DL := zh (Ak.alloc (wm.out.below (zC (Pd wo.heap.size wo) 1)) (.cells #[.int .i64 (zn : Int), .string ((⟨#[115]⟩ : ByteArray) ++ S)] 92)); have S9 := zh (zR (wo.drewN 1) [.int .i64 (zn : Int), .string ((⟨#[115]⟩ : ByteArray) ++ S)] 92); have zu : Hid (W5.heap.size <= ((wo.drewN 1).alloc (.cells #[.int .i64 (zn : Int), .string ((⟨#[115]⟩ : ByteArray) ++ S)] 92)).heap.size) := (by have := vZ.out.blt; show _ <= _; have := HBS.out; simp; omega); have Ya := zh AU.2.out.1; have BA := zh AU.2.out.2; refine Pj fJ (by rfl) (.tmp 76) (.tmp 90) (by rfl) W5.heap.size (.slice B L.length dc) L.length (L.flatMap Uz) (by rfl) DL wo.heap.size 0 1 1 [.int .i64 (zn : Int), .string ((⟨#[115]⟩ : ByteArray) ++ S)] (by rfl) rfl S9 (fI ⟨(zn : Int), (⟨#[115]⟩ : ByteArray) ++ S⟩) (by have := PX.out; omega) (by have := PX.out; omega) zu ?_; intro v8 w8 Bq Bp FW; have pq := Ak.snoc (enc := Uz) (x := (⟨(zn : Int), (⟨#[115]⟩ : ByteArray) ++ S⟩ : CB)) Bq; obtain ⟨B8, d8, rfl, _⟩ := Ak.reads pq; have HO9 := zh pq; have HKG : Hid (∀ g, g < W5.heap.size -> w8.heap[g]? = ((wo.drewN 1).alloc (.cells #[.int .i64 (zn : Int), .string ((⟨#[115]⟩ : ByteArray) ++ S)] 92)).heap[g]?) := zh (fun g hg => yA Bp (by have := zu.out; omega) (fun j hj e => by have := wm.out.lt j hj; omega)); have su : Hid (Mid wi w8 x A' c' b8 { Ar with kind := 4, name := Nv i, Ab := L, open_ := E } B dc none 0) := zh (Ya.out.keep (Ya.out.Ch.grown Bp Ya.out.Ch.size (fun j hj => by have := wm.out.lt j hj; have := YT.out; omega)) (fun g hg => HKG.out g (by rcases hg with rfl | rfl; (have := Yb.out.nb.blt; omega); (have := Yb.out.blt; omega)))); have FY : Hid (w8.heap[b3]? = some ob) := zh ((HKG.out b3 H3.out.2).trans BA); have VW : Hid (∀ g, g ≠ b8 -> g < W5.heap.size -> w8.heap[g]? = W5.heap[g]?) := zh (fun g h1 h2 => ((HKG.out g h2).trans ((zD (wo.drewN 1) _).block g (by have := HBS.out; show g < wo.heap.size; omega))).trans (HKO.out g h1 h2)); have AAJ : Hid (W5.heap.size <= w8.heap.size) := Nat.le_trans zu Bp.size; clear Bq pq Bp FW)
              refine hK.out _ _ ?_ (fun AU => ?_)
              · (try dsimp only); exact RX su FY HCZ
              clear hK K
              (try simp only [ps])
              refine tC 17 ?_
              (try simp only [ps])
              refine zV (rs := [18]) (by kernel_rfl) (by simp) ?_
              refine AO.last rfl (by kernel_rfl) (fun K hK => ?_) AO.nil
              (obtain ⟨⟨⟨hc5, hf5⟩, _⟩, hin⟩ := AU; go_simp)
              refine hK.out _ _ ?_;clear hK K
              (try clear AU)
              (try simp only [ps])
              refine wpAny_done (by kernel_rfl) ?_ _
              have HN := zh (su.out.bP (L ++ [⟨(zn : Int), (⟨#[115]⟩ : ByteArray) ++ S⟩]) B8 d8)
              have HOW : Hid (Ak 92 2 Uz (w8.setCell ⟨b8, 5, none⟩ (.slice B8 (L ++ [(⟨(zn : Int), (⟨#[115]⟩ : ByteArray) ++ S⟩ : CB)]).length d8)) W5.heap.size (.slice B8 (L ++ [(⟨(zn : Int), (⟨#[115]⟩ : ByteArray) ++ S⟩ : CB)]).length d8) (L ++ [(⟨(zn : Int), (⟨#[115]⟩ : ByteArray) ++ S⟩ : CB)])) := HO9.out.keep fun g hg _ _ => AAO _ _ _ _ (by have := Yb.out.blt; simp only; omega)
              have vv : Hid (∀ g, g ≠ b8 -> g < W5.heap.size -> (w8.setCell ⟨b8, 5, none⟩ (.slice B8 (L ++ [(⟨(zn : Int), (⟨#[115]⟩ : ByteArray) ++ S⟩ : CB)]).length d8)).heap[g]? = W5.heap[g]?) := fun g h1 h2 => (AAO _ _ _ _ (by simpa using h1)).trans (VW.out g h1 h2)
              clear hc5 hf5 hin;go_wp2;go_roundw
              case rel =>
                refine ⟨q + 1, B8, d8, L ++ [⟨(zn : Int), (⟨#[115]⟩ : ByteArray) ++ S⟩], by omega, by go_num, NK.out.symm, ?_⟩
                have h := And.intro HN.out (And.intro HOW.out (And.intro vv.out (show W5.heap.size <= (w8.setCell ⟨b8, 5, none⟩ (.slice B8 (L ++ [(⟨(zn : Int), (⟨#[115]⟩ : ByteArray) ++ S⟩ : CB)]).length d8)).heap.size by have := AAJ.out; simpa using this)))
                simp only [AA6, AAS, List.length_nil, Nat.zero_add] at h ⊢;exact h
              case measure => simp [intOf]; omega
            · obtain rfl : L = Hy x := by rw [Dm.out]; exact List.take_of_length_le (by rw [HSL.out]; omega)
              have qz := zh (oJ wm (by have := PX.out; omega) (fun s hs => by obtain ⟨n, _, rfl⟩ := List.mem_map.1 (show s ∈ Hy x from hs); exact yK (show (2 : Nat) <= 100 by decide)))
              go_wp2
              go_meet
              exact ⟨_, B, dc, none, 0, vZ.out, Yo PY HK x E, fun u hu => ⟨yK (show (1 : Nat) <= 100 by decide), (qz.out.mono fun g _ hg => by have := YT.out; omega) u hu, Ae.nil _ _ _ _ _⟩⟩
        · have HM : Hid (Mid wi wc x A' c' b8 { Ar with kind := 5, name := Nv i } none 0 none 0) := zh (show Mid wi wc x A' c' b8 { Ar with kind := 5, name := Nv i } none 0 none 0 from MZ.out)
          clear MZ;obtain ⟨⟨⟨⟨⟨n0, n1, n2, n3, n4⟩, hfz⟩, t0, t1, t2, t3, t4, t5, t6, t7, t8, t9⟩, hdc⟩, _⟩ := Cb HM MV;have IG := HM.out.blt;have FK := HM.out.nb.blt;have hdl := zL hdc;simp only at hdl;go_wp2_with fail;refine (Qd d i true _ c _ ((HST.out.below HM.out.Ch).db.nodes) hlt).mono ?_;rintro e w5 ⟨v5, ms, rfl, hms, hb5⟩;obtain ⟨A5, c5, rfl, hoff⟩ := hms.AA
          have Yb := zh ((HM.out.below hb5).Tj ms A5 c5);have qy := zh hms.ok;have rR := zh hms.flat;have Gn : Hid (Off (· < wi.heap.size) (w5.setCell ⟨b8, 6, none⟩ (.slice A5 ms.length c5)) fun u => Fv u A5 ms) := (hoff.set (a := ⟨b8, 6, none⟩) (.slice A5 ms.length c5) HM.out.blt).mono fun q _ hq => by have := HM.out.Ch.size; omega
          have hf6 := AAK _ _ 6 _ _ (HM.out.below hb5).tb;have hc6 : w5.cell? ⟨b8, 6, none⟩ = some (.slice none 0 0) := (HM.out.below hb5).tb.cell 6;have Ny := (HM.out.below hb5).blt;clear hms hoff hb5 n0 n1 n2 n3 n4 hfz t0 t1 t2 t3 t4 t5 t6 t7 t8 t9 hdc IG FK hdl;go_wp2;go_meet
          exact ⟨_, none, 0, A5, c5, Yb.out, TW PY (by rw [HK.out]; rfl) qy rR, fun u hu => OW (yK (show (1 : Nat) <= 100 by decide)) rfl (Gn.out u hu)⟩
        · have HM : Hid (Mid wi wc x A' c' b8 { Ar with kind := 6, name := Nv i } none 0 none 0) := zh (show Mid wi wc x A' c' b8 { Ar with kind := 6, name := Nv i } none 0 none 0 from MZ.out)
          clear MZ;obtain ⟨⟨⟨⟨⟨n0, n1, n2, n3, n4⟩, hfz⟩, t0, t1, t2, t3, t4, t5, t6, t7, t8, t9⟩, hdc⟩, _⟩ := Cb HM MV;have IG := HM.out.blt;have FK := HM.out.nb.blt;have hdl := zL hdc;simp only at hdl;obtain ⟨E, hE⟩ : ∃ E, ((x.b : Int) % 2 == 1) = E := ⟨_, rfl⟩;have RF := zh (HM.out.QS E);go_upto_region 28 with fail
          clear n0 n1 n2 n3 n4 hfz t0 t1 t2 t3 t4 t5 t6 t7 t8 t9 hdc IG FK hdl hE;generalize wc.setCell ⟨b8, 9, none⟩ (.bool E) = W2 at *;obtain ⟨⟨⟨⟨⟨n0, n1, n2, n3, n4⟩, hfz⟩, t0, t1, t2, t3, t4, t5, t6, t7, t8, t9⟩, hdc⟩, _⟩ := Cb RF MV;have IG := RF.out.blt;have FK := RF.out.nb.blt;have hdl := zL hdc;simp only at hdl;go_wp2_with fail
          refine (Qd d i false _ c _ ((HST.out.below RF.out.Ch).db.nodes) hlt).mono ?_;rintro e w5 ⟨v5, ms, rfl, hms, hb5⟩;obtain ⟨A5, c5, rfl, hoff⟩ := hms.AA;have Yb := zh ((RF.out.below hb5).Tj ms A5 c5);have qy := zh hms.ok;have rR := zh hms.flat
          have Gn : Hid (Off (· < wi.heap.size) (w5.setCell ⟨b8, 6, none⟩ (.slice A5 ms.length c5)) fun u => Fv u A5 ms) := (hoff.set (a := ⟨b8, 6, none⟩) (.slice A5 ms.length c5) RF.out.blt).mono fun q _ hq => by have := RF.out.Ch.size; omega
          have hf6 := AAK _ _ 6 _ _ (RF.out.below hb5).tb;have hc6 : w5.cell? ⟨b8, 6, none⟩ = some (.slice none 0 0) := (RF.out.below hb5).tb.cell 6;have Ny := (RF.out.below hb5).blt;clear hms hoff hb5 n0 n1 n2 n3 n4 hfz t0 t1 t2 t3 t4 t5 t6 t7 t8 t9 hdc IG FK hdl;go_upto_region 29 with fail
          clear hf6 hc6 Ny;generalize w5.setCell ⟨b8, 6, none⟩ (.slice A5 ms.length c5) = W6 at *;have s1 : W6.cell? ⟨b8, 1, none⟩ = some (.string (Nv i)) := Yb.out.tb.cell 1;have s6 : W6.cell? ⟨b8, 6, none⟩ = some (.slice A5 ms.length c5) := Yb.out.tb.cell 6;have Ny := Yb.out.blt
          by_cases hne : ms = []
          · have hel : ((ms.length : Int) == 0) = true := by rw [hne]; rfl
            have Ke := zh (Qh Yb);have ve := zh (Yb.out.all { Ar with kind := 5, name := Nv i })
            clear hne;go_wp2_with (refine wpList_store_mid rfl 87 (.tmp 8) (.tmp 116) rfl b8 0 #[.int .i64 5, .string (Nv i), .int .i64 0, .int .i64 0, .int .i64 0, .slice none 0 0, .slice none 0 0, .int .i64 0, .int .i64 0, .bool false] (by rfl) (by rfl) ?_ ?_ ?_ ?_; (exact Ke.out); (exact Xh); (exact ai { Ar with kind := 5, name := Nv i } none 0 none 0))
            go_meet
            exact ⟨_, none, 0, none, 0, ve.out, TW PY (by rw [HK.out]; rfl) (He.nil _ _ _) (fun _ h => by cases h), fun u _ => Dw (yK (show (1 : Nat) <= 100 by decide)) rfl rfl⟩
          · have hel : ((ms.length : Int) == 0) = false := by
              have : ms.length ≠ 0 := fun e => hne (AAo e)
              simp; omega
            have rD := zh hne;clear hne;go_wp2;go_meet;exact ⟨_, none, 0, A5, c5, Yb.out, Vj PY (by rw [HK.out]; rfl) qy rR rD E, fun u hu => OW (yK (show (1 : Nat) <= 100 by decide)) rfl (Gn.out u hu)⟩
        · have HM : Hid (Mid wi wc x A' c' b8 { Ar with kind := 7 } none 0 none 0) := zh (show Mid wi wc x A' c' b8 { Ar with kind := 7 } none 0 none 0 from MZ.out)
          clear MZ;obtain ⟨⟨⟨⟨⟨n0, n1, n2, n3, n4⟩, hfz⟩, t0, t1, t2, t3, t4, t5, t6, t7, t8, t9⟩, hdc⟩, _⟩ := Cb HM MV;have IG := HM.out.blt;have FK := HM.out.nb.blt;have hdl := zL hdc;simp only at hdl;go_wp2_with fail
          refine wp_region_held_drew (S := (fun w' => ((((w'.cell? ⟨wi.heap.size, 0, none⟩ = some (.int .u8 x.kind) /\ w'.cell? ⟨wi.heap.size, 1, none⟩ = some (.int .u8 x.a) /\ w'.cell? ⟨wi.heap.size, 2, none⟩ = some (.int .u8 x.b) /\ w'.cell? ⟨wi.heap.size, 3, none⟩ = some (.int .u8 x.c) /\ w'.cell? ⟨wi.heap.size, 4, none⟩ = some (.slice A' x.parts.length c')) /\ (∀ j, w'.frozen? ⟨b8, j, none⟩ = false)) /\ (∀ j, j < 10 -> (w'.cell? ⟨b8, j, none⟩).isSome = true)) /\ w'.cell? ⟨w.heap.size, 0, none⟩ = some (.slice (some ⟨b, o, none⟩) d.length c)) /\ Hid (∃ t As cs Am cm, Mid wi w' x A' c' b8 t As cs Am cm))) (by kernel_rfl) ?_ (fun AU => ?_)
          · (try dsimp only); exact CP (HM.out.below (zC (Pd _ _) 1)) MV
          have nV := zh (HM.out.below (zC (Pd wc.heap.size wc) 1));refine tL 0 ?_
          (try simp only [ps])
          refine tL 1 ?_
          (try simp only [ps])
          refine tL 2 ?_
          (try simp only [ps])
          refine tL 3 ?_
          (try simp only [ps])
          refine tL 4 ?_
          (try simp only [ps])
          refine tL 5 ?_
          (try simp only [ps])
          refine tL 6 ?_
          (try simp only [ps])
          refine tL 7 ?_
          (try simp only [ps])
          refine tL 8 ?_
          (try simp only [ps])
          refine tL 9 ?_
          (try simp only [ps])
          refine tR 10 (fun K hK => ?_)
          (obtain ⟨z10, ACz⟩ := Option.isSome_iff_exists.1 (AU.1.1.2 4 (by decide)); have ADG := AU.1.1.1.2 4; go_simp; skip)
          refine hK.out _ _ ?_ (fun AU => ?_)
          · (try dsimp only); exact CP (nV.out.Gs _) MV
          clear hK K
          (try simp only [ps])
          refine tL 11 ?_
          (try simp only [ps])
          refine tR 12 (fun K hK => ?_)
          (obtain ⟨z12, ACy⟩ := Option.isSome_iff_exists.1 (AU.1.1.2 8 (by decide)); have ADF := AU.1.1.1.2 8; go_simp; skip)
          refine hK.out _ _ ?_ (fun AU => ?_)
          · (try dsimp only); exact CP ((nV.out.Gs _).Jc _) MV
          clear hK K
          (try simp only [ps])
          refine wpAnyH_done (by kernel_rfl) ?_ _
          go_wp2
          go_meet
          exact ⟨_, none, 0, none, 0, (nV.out.Gs _).Jc _, QK PY (by rw [HK.out]; rfl) xC MU, (fun u _ => Dw (yK (show (0 : Nat) <= 100 by decide)) rfl rfl)⟩
        · have HM : Hid (Mid wi wc x A' c' b8 { Ar with kind := 8 } none 0 none 0) := zh (show Mid wi wc x A' c' b8 { Ar with kind := 8 } none 0 none 0 from MZ.out)
          clear MZ;obtain ⟨⟨⟨⟨⟨n0, n1, n2, n3, n4⟩, hfz⟩, t0, t1, t2, t3, t4, t5, t6, t7, t8, t9⟩, hdc⟩, _⟩ := Cb HM MV;have IG := HM.out.blt;have FK := HM.out.nb.blt;have hdl := zL hdc;simp only at hdl;have HKD := zh (@kU d x.b);obtain ⟨ky, hky⟩ : ∃ ky, Hid (KZ d x.b = ky) := ⟨_, rfl⟩;rw [hky.out] at HKD;go_wp2_with fail
          refine wp_region_held_drew (S := (fun w' => ((((w'.cell? ⟨wi.heap.size, 0, none⟩ = some (.int .u8 x.kind) /\ w'.cell? ⟨wi.heap.size, 1, none⟩ = some (.int .u8 x.a) /\ w'.cell? ⟨wi.heap.size, 2, none⟩ = some (.int .u8 x.b) /\ w'.cell? ⟨wi.heap.size, 3, none⟩ = some (.int .u8 x.c) /\ w'.cell? ⟨wi.heap.size, 4, none⟩ = some (.slice A' x.parts.length c')) /\ (∀ j, w'.frozen? ⟨b8, j, none⟩ = false)) /\ (∀ j, j < 10 -> (w'.cell? ⟨b8, j, none⟩).isSome = true)) /\ w'.cell? ⟨w.heap.size, 0, none⟩ = some (.slice (some ⟨b, o, none⟩) d.length c)) /\ Hid (∃ t As cs Am cm, Mid wi w' x A' c' b8 t As cs Am cm))) (by kernel_rfl) ?_ (fun AU => ?_)
          · (try dsimp only); exact CP (HM.out.below (zC (Pd _ _) 1)) MV
          have nV := zh (HM.out.below (zC (Pd wc.heap.size wc) 1));refine tL 0 ?_
          (try simp only [ps])
          refine tL 1 ?_
          (try simp only [ps])
          refine tL 2 ?_
          (try simp only [ps])
          refine tL 3 ?_
          (try simp only [ps])
          refine tL 4 ?_
          (try simp only [ps])
          refine tL 5 ?_
          (try simp only [ps])
          refine tL 6 ?_
          (try simp only [ps])
          refine tL 8 ?_
          (try simp only [ps])
          refine tL 9 ?_
          (try simp only [ps])
          refine tL 10 ?_
          (try simp only [ps])
          refine tL 11 ?_
          (try simp only [ps])
          refine tL 12 ?_
          (try simp only [ps])
          refine tL 13 ?_
          (try simp only [ps])
          refine tR 7 (fun K hK => ?_)
          go_simp
          (refine (SI d x.b _ c _ ((HST.out.below nV.out.Ch).db.nodes) HXB).mono ?_; rintro e w4 ⟨rfl, hbx⟩; rw [hky.out]; have nU := zh (nV.out.below hbx))
          refine hK.out _ _ ?_ (fun AU => ?_)
          · (try dsimp only); exact CP nU MV
          clear hK K
          (try simp only [ps])
          refine tR 14 (fun K hK => ?_)
          (obtain ⟨z14, ACx⟩ := Option.isSome_iff_exists.1 (AU.1.1.2 4 (by decide)); have ADE := AU.1.1.1.2 4; go_simp; skip)
          refine hK.out _ _ ?_ (fun AU => ?_)
          · (try dsimp only); exact CP (nU.out.Gs _) MV
          clear hK K
          (try simp only [ps])
          refine tL 15 ?_
          (try simp only [ps])
          refine tR 16 (fun K hK => ?_)
          (obtain ⟨z16, ACw⟩ := Option.isSome_iff_exists.1 (AU.1.1.2 7 (by decide)); have ADC := AU.1.1.1.2 7; go_simp; skip)
          refine hK.out _ _ ?_ (fun AU => ?_)
          · (try dsimp only); exact CP ((nU.out.Gs _).Ra _) MV
          clear hK K
          (try simp only [ps])
          refine tL 17 ?_
          (try simp only [ps])
          refine tR 18 (fun K hK => ?_)
          (obtain ⟨z18, ACv⟩ := Option.isSome_iff_exists.1 (AU.1.1.2 8 (by decide)); have ADB := AU.1.1.1.2 8; go_simp; skip)
          refine hK.out _ _ ?_ (fun AU => ?_)
          · (try dsimp only); exact CP (((nU.out.Gs _).Ra _).Jc _) MV
          clear hK K
          (try simp only [ps])
          refine wpAnyH_done (by kernel_rfl) ?_ _
          have rE := zh (((nU.out.Gs mx).Ra ky).Jc ev);clear AU;generalize ((w4.setCell ⟨b8, 4, none⟩ (.int .i64 mx)).setCell ⟨b8, 7, none⟩ (.int .i64 ky)).setCell ⟨b8, 8, none⟩ (.int .i64 ev) = W6 at *;have s4 : W6.cell? ⟨b8, 4, none⟩ = some (.int .i64 mx) := rE.out.tb.cell 4;have s7 : W6.cell? ⟨b8, 7, none⟩ = some (.int .i64 ky) := rE.out.tb.cell 7
          have s8 : W6.cell? ⟨b8, 8, none⟩ = some (.int .i64 ev) := rE.out.tb.cell 8;have Ny := rE.out.blt;clear n0 n1 n2 n3 n4 hfz t0 t1 t2 t3 t4 t5 t6 t7 t8 t9 hdc IG FK hdl
          by_cases hk0 : ky < 0
          · have Ke := zh (Qh rE)
            have ve := zh (rE.out.all { Ar with kind := 7, max := mx, elem := ev })
            go_wp2_with (refine wpList_store_mid rfl 87 (.tmp 8) (.tmp 155) rfl b8 0 #[.int .i64 7, .string ⟨#[]⟩, .int .i64 0, .int .i64 0, .int .i64 mx, .slice none 0 0, .slice none 0 0, .int .i64 0, .int .i64 ev, .bool false] (by rfl) (by rfl) ?_ ?_ ?_ ?_; (exact Ke.out); (exact Xh); (exact ai { Ar with kind := 7, max := mx, elem := ev } none 0 none 0))
            go_meet
            exact ⟨_, none, 0, none, 0, ve.out, QK PY (by rw [HK.out]; rfl) xC MU, (fun u _ => Dw (yK (show (0 : Nat) <= 100 by decide)) rfl rfl)⟩
          · have hk1 : decide (ky < 0) = false := AAE (by omega)
            have tH := zh (HKD.out (by omega))
            clear hk0;go_wp2;go_meet;exact ⟨_, none, 0, none, 0, rE.out, au PY (by rw [HK.out]; rfl) xC MU tH.out.1 tH.out.2, (fun u _ => Dw (yK (show (0 : Nat) <= 100 by decide)) rfl rfl)⟩
        · have HM : Hid (Mid wi wc x A' c' b8 { Ar with kind := 9 } none 0 none 0) := zh (show Mid wi wc x A' c' b8 { Ar with kind := 9 } none 0 none 0 from MZ.out)
          clear MZ;obtain ⟨⟨⟨⟨⟨n0, n1, n2, n3, n4⟩, hfz⟩, t0, t1, t2, t3, t4, t5, t6, t7, t8, t9⟩, hdc⟩, _⟩ := Cb HM MV;have IG := HM.out.blt;have FK := HM.out.nb.blt;have hdl := zL hdc;simp only at hdl;go_wp2;go_meet;exact ⟨_, none, 0, none, 0, HM.out.Jc _, ak PY (by rw [HK.out]; rfl) MU, (fun u _ => Dw (yK (show (0 : Nat) <= 100 by decide)) rfl rfl)⟩
      case rest =>
      obtain ⟨t, As, cs, Am, cm, HMx, HTx, HOx⟩ := hcut.out;have HMM := zh HMx;have HTO := zh HTx;have qz := zh HOx;have nO := zh (HST.out.below HMx.Ch);clear hcut HMx HTx HOx MZ;obtain ⟨_, t0, t1, t2, t3, t4, t5, t6, t7, t8, t9⟩ := (Lm HMM).1;have IG := HMM.out.blt;have s0 : wc.cell? ⟨w.heap.size + 1 + 1, 0, none⟩ = some v := by rw [AAB _ _ _ _ _ _ nO.out.sb]; rfl
      have hls := zL s0;simp only at hls;obtain ⟨Av, cv, rfl, _, _, _⟩ := Ak.reads nO.out.out.own;have P8 : Hid (L.length <= 5) := by have := P9.out; show _ <= _; omega
      have HX : Hid (FV (w.heap.size + 1 + 1) (wc.alloc (.cells (⟨t, As, cs, Am, cm⟩ : LK).cells.toArray 87)) (.slice Av L.length cv) L) := nO.out.out.below (zD _ _);have MR := zh (zR wc (⟨t, As, cs, Am, cm⟩ : LK).cells 87);have KS : Hid (w.heap.size + 1 + 1 + 1 <= (wc.alloc (.cells (⟨t, As, cs, Am, cm⟩ : LK).cells.toArray 87)).heap.size) := by show _ <= _; simp; omega
      have KV := zh (fun v9 w9 ho hg hv => PK.next nO HD0 (x := ⟨t, As, cs, Am, cm⟩) (qz.out.mono fun q _ hq => by
        have h1 := (zg.1 HST.out.sb).1
        show q < wi.heap.size
        rcases hq with h | h
        · omega
        · exact (World.ownsRow.lt HST.out.out.own q h).2) (v9 := v9) (w9 := w9) ho hg hv)
      go_wp2_with (at_builtin; refine Nl lN _ rfl (.tmp 165) (.tmp 167) rfl (w.heap.size + 1 + 1 + 1) _ _ _ rfl HX.out.own wc.heap.size 0 1 1 (⟨t, As, cs, Am, cm⟩ : LK).cells rfl rfl MR (iw _) (by have := P8.out; omega) (by have := P8.out; omega) KS ?_; intro v9 w9 pq hg9 hv9; obtain ⟨A9, c9, rfl, _⟩ := Ak.reads (Ak.snoc (enc := LK.cells) (x := (⟨t, As, cs, Am, cm⟩ : LK)) pq); have xB := zh (KV.out _ w9 pq hg9 hv9); have hf9 := xB.out.1; have hc9 := xB.out.2.1; have hl9 := xB.out.2.2.1; clear pq hg9 hv9)
      go_roundw
      case rel =>
        refine ⟨i + 1, _, L ++ [⟨t, As, cs, Am, cm⟩], by omega, by go_num, (by have h := xB.out.2.2.2; simp only [AA6, AAS, List.length_nil, Nat.zero_add] at h; exact h), (by rw [AA6, P9.out]; rfl), fun j hj => ?_⟩
        by_cases hji : j < L.length
        · rw [List.getElem_append_left hji]; exact TK.out j hji
        · have hje : j = i := by rw [AA6, P9.out] at hj; rw [P9.out] at hji; simp at hj; omega
          subst hje;rw [List.getElem_append_right (by rw [P9.out]; exact AAQ _)]
          simpa using HTO.out
      case measure => simp [intOf]; omega
    · have HDO : Hid (KX d (L.map (·.t))) := by
        refine ⟨by rw [AAk, P9.out]; omega, fun j hj => ?_⟩
        rw [List.getElem_map];exact TK.out j (by simpa using hj)
      have s0 : wi.cell? ⟨w.heap.size + 1 + 1, 0, none⟩ = some v := by rw [AAB _ _ _ _ _ _ HST.out.sb]; rfl
      have r0 : wi.cell? ⟨w.heap.size + 1, 0, none⟩ = some (.slice none 0 0) := by rw [AAB _ _ _ _ _ _ HST.out.rb]; rfl
      have f0 := AAK _ _ 0 _ _ HST.out.rb;have hls := zL s0;simp only at hls;obtain ⟨Av, cv, rfl, _, _, _⟩ := Ak.reads HST.out.out.own;have EK : Hid (∀ x1, DV (wi.setCells (w.heap.size + 1) 0 [x1]) Av (L.map (·.t))) := fun x1 => by
        rw [World.setCells, World.setCells];have h1 := HST.out.out.set (w' := wi.setCell ⟨w.heap.size + 1, 0, none⟩ x1) (by simp) (Nat.le_succ _) (fun q hq _ => AAO _ _ _ _ (by simpa using hq))
        obtain ⟨A', c', e, hr⟩ := h1.rows (by rw [P9.out]; omega)
        injection e with e1 _ _
        rw [e1]; exact hr
      have mP : Hid (∀ x1, Below w.heap.size w (wi.setCells (w.heap.size + 1) 0 [x1])) := fun x1 => by
        rw [World.setCells, World.setCells];exact HST.out.db.below.setCell (p := ⟨w.heap.size + 1, 0, none⟩) (by simp) _
      have VZ : Hid (∀ x1, (wi.setCells (w.heap.size + 1) 0 [x1]).cell? ⟨w.heap.size + 1, 0, none⟩ = some x1) := fun x1 => by
        rw [World.setCells, World.setCells];rw [AAB _ _ _ _ _ _ (AAV _ _ 0 _ _ x1 HST.out.rb)]; rfl
      have Ke : Hid (wi.there (w.heap.size + 1) 0 1) := fun j hj => by
        obtain rfl : j = 0 := by omega
        exact ⟨by rw [r0]; rfl, f0⟩
      clear r0 f0;go_wp2_with (refine wpList_store_mid rfl 31 (.tmp 2) (.tmp 170) rfl (w.heap.size + 1) 0 #[.slice Av L.length cv] (by rfl) (by rfl) ?_ ?_ ?_ ?_; (exact Ke.out); (exact bT); (simp [Value.oneCell']))
      have hc1 := VZ.out (.slice Av L.length cv);exact bodyPost_ret (v := .tuple #[.agg #[.slice Av L.length cv], .bool true]) (by simp [results, Tryz.results11, go_sem, hc1]) rfl (pI HDO hn1 nC (EK.out (.slice Av L.length cv)) (mP.out (.slice Av L.length cv)))
end Go.Proofs.YthkkllmmbefedaaGreatDoor



