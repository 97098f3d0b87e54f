/-
  Walks: the schema of a draft.
-/
import Derived.Test.YthkkllmmbefedaaGreatDoorQGX0
import Derived.Test.YthkkllmmbefedaaGreatDoorQGN3
namespace Go.Proofs.YthkkllmmbefedaaGreatDoor
open Go.RowKit Tryz
set_option maxHeartbeats 16000000
set_option maxRecDepth 100000
theorem aC {x:Val} (h:KF x) (w:World) (A1 A2 A3:zo):Ar w x A1 A2 A3:=by
 obtain ⟨h0,h1,h2,h3⟩:=h;exact ⟨yK (Nat.le_trans h0.1 (by decide)),by rw[h1];exact AY.nil _ _ _ _ _,by rw[h2];exact AY.nil _ _ _ _ _,by rw[h3];exact AY.nil _ _ _ _ _⟩
variable {d:List AR} {v:Value} {W:World}
theorem J8.AA {i:Nat} {rec:Bool} {n base:Nat} {ms:List Ac} (h:J8 d i rec n 12 base W v ms):∃A c,v = .slice A ms.length c/\Off (· < base) W fun u=>GI u A ms:=by
 obtain ⟨A,c,hv,_⟩:=h.own.reads;refine ⟨A,c,hv,fun u hu=>?_⟩
 have ho:ABK u base v ms:=h.own.keep fun g hg hl _=>hu g (by omega) hl
 obtain ⟨A',c',hv',hr⟩:=AZ.rows (bytes:=160) (at_:=fun x cs=>Ac.At u x cs) ho (fun _=>rfl) (by have:=h.ok.len;unfold EF;omega) (fun m hm=>⟨none,0,none,0,none,0,by
  obtain ⟨_,h1,h2,h3⟩:=h.flat m hm;unfold dJ
  rfl,⟨by rw[(h.ok.2 m hm).2.1];exact yK (by rw[show (Tz 109 m.id.toNat).size=2 from rfl];decide),aC (h.flat m hm) _ _ _ _⟩⟩)
 rw[hv] at hv'
 injection hv' with e1 _ _
 rw[e1];exact hr
variable {w:World} {A:zo}
theorem ku {w':World} {l:List Int} (h:JL w A l) (hb:∀b o,A=some ⟨b,o,none⟩->w'.heap[b]? = w.heap[b]?):JL w' A l:=by
 refine ⟨h.1,fun hn=>?_⟩
 obtain ⟨q,o,e,hi⟩:=h.2 hn;refine ⟨q,o,e,fun i x hx=>?_⟩
 obtain ⟨cs,h1,h2⟩:=hi i x hx;refine ⟨cs,h1,fun j u hj=>?_⟩
 rw[World.cell?_of_block (w:=w) (w':=w') (a:=⟨q,o+i * 1+j,none⟩) (hb q o e)];exact h2 j u hj
structure QZ (w W:World) (A:zo) (d:List AR) (c:Nat) (v:Value) (L:List Lu):Prop where
 db:Lm w W A d c
 rb:W.heap[w.heap.size+1]? = some (.cells #[.slice none 0 0] 31 (0,0))
 sb:W.heap[w.heap.size+1+1]? = some (.cells #[v] 31 (0,0))
 O:FC (w.heap.size+1+1) W v L
variable {L:List Lu} {c:Nat}
theorem QZ.below {W':World} (h:QZ w W A d c v L) (hb:Below W.heap.size W W'):QZ w W' A d c v L :=
 ⟨h.db.step hb,(hb.block _ (zg.1 h.rb).1).trans h.rb,(hb.block _ (zg.1 h.sb).1).trans h.sb,h.O.below hb⟩
theorem QZ.new (h:BG w A d):QZ w (((w.alloc (.cells #[.slice A d.length c] 24)).alloc (.cells #[.slice none 0 0] 31)).alloc (.cells #[.slice none 0 0] 31)) A d c (.slice none 0 0) []:=by
 have hz:(w.alloc (.cells #[.slice A d.length c] 24)).heap.size=w.heap.size+1:=by simp
 have hz2:((w.alloc (.cells #[.slice A d.length c] 24)).alloc (.cells #[.slice none 0 0] 31)).heap.size=w.heap.size+1+1:=by simp
 refine ⟨((Lm.new h).step (zD _ _)).step (zD _ _),FH ?_ _,?_,FC.nil _ _⟩
 ·have:=AAA (w.alloc (.cells #[.slice A d.length c] 24)) (.cells #[.slice none 0 0] 31)
  rw[hz] at this;exact this
 ·have:=AAA ((w.alloc (.cells #[.slice A d.length c] 24)).alloc (.cells #[.slice none 0 0] 31)) (.cells #[.slice none 0 0] 31)
  rw[hz2] at this;exact this
structure Mid (wi W:World) (x:AR) (A':zo) (c' b8:Nat) (t:Aa) (As:zo) (cs:Nat) (Am:zo) (cm:Nat):Prop where
 nb:Hz W wi.heap.size x A' c'
 tb:Ca W b8 t As cs Am cm
 Cm:Below wi.heap.size wi W
 ne:wi.heap.size<b8
section
variable {wi W W':World} {x:AR} {A':zo} {c' b8:Nat} {t:Aa} {As:zo} {cs:Nat} {Am:zo} {cm:Nat}
theorem Mid.below (h:Mid wi W x A' c' b8 t As cs Am cm) (hb:Below W.heap.size W W'):Mid wi W' x A' c' b8 t As cs Am cm:=⟨h.nb.below hb,h.tb.below hb,zB h.Cm hb,h.ne⟩
theorem MQ (h : Mid wi W x A' c' b8 t As cs Am cm) :
    (((W.cell? ⟨wi.heap.size, 0, none⟩ = some (.int .u8 x.kind) /\ W.cell? ⟨wi.heap.size, 1, none⟩ = some (.int .u8 x.a) /\ W.cell? ⟨wi.heap.size, 2, none⟩ = some (.int .u8 x.b) /\ W.cell? ⟨wi.heap.size, 3, none⟩ = some (.int .u8 x.c) /\ W.cell? ⟨wi.heap.size, 4, none⟩ = some (.slice A' x.parts.length c')) /\ (∀ j, W.frozen? ⟨b8, j, none⟩ = false)) /\
      (W.cell? ⟨b8, 0, none⟩ = some (.int .i64 t.kind) /\ W.cell? ⟨b8, 1, none⟩ = some (.string t.name) /\ W.cell? ⟨b8, 2, none⟩ = some (.int .i64 t.low) /\ W.cell? ⟨b8, 3, none⟩ = some (.int .i64 t.high) /\ W.cell? ⟨b8, 4, none⟩ = some (.int .i64 t.max) /\ W.cell? ⟨b8, 5, none⟩ = some (.slice As t.AX.length cs) /\ W.cell? ⟨b8, 6, none⟩ = some (.slice Am t.AA.length cm) /\ W.cell? ⟨b8, 7, none⟩ = some (.int .i64 t.key) /\ W.cell? ⟨b8, 8, none⟩ = some (.int .i64 t.elem) /\ W.cell? ⟨b8, 9, none⟩ = some (.bool t.open_))) /\
      Hid (Mid wi W x A' c' b8 t As cs Am cm) :=
  ⟨⟨⟨⟨h.nb.cell 0, h.nb.cell 1, h.nb.cell 2, h.nb.cell 3, h.nb.cell 4⟩, fun _ => AAG _ _ _ _ _ h.tb⟩, h.tb.cell 0, h.tb.cell 1, h.tb.cell 2, h.tb.cell 3, h.tb.cell 4, h.tb.cell 5, h.tb.cell 6, h.tb.cell 7, h.tb.cell 8, h.tb.cell 9⟩, h⟩
theorem Mid.other (h:Mid wi W x A' c' b8 t As cs Am cm) (j:Nat) (v:Value):Hz (W.setCell ⟨b8,j,none⟩ v) wi.heap.size x A' c'/\Below wi.heap.size wi (W.setCell ⟨b8,j,none⟩ v) :=
 ⟨(AAE _ _ _ _ (by have:=h.ne;show wi.heap.size≠b8;omega)).trans h.nb,h.Cm.setCell (p:=⟨b8,j,none⟩) (by have:=h.ne;show wi.heap.size<=b8;omega) v⟩
theorem Mid.blt (h:Mid wi W x A' c' b8 t As cs Am cm):b8<W.heap.size:=h.tb.blt
theorem Mid.o8 (h:Mid wi W x A' c' b8 t As cs Am cm) (m:Int):Mid wi (W.setCell ⟨b8,2,none⟩ (.int .i64 m)) x A' c' b8 { t with low:=m } As cs Am cm :=
 ⟨(h.other _ _).1,by have:=AAK _ _ 2 _ _ (.int .i64 m) h.tb;unfold Ca;rw[this];simp,(h.other _ _).2,h.ne⟩
theorem Mid.iy (h:Mid wi W x A' c' b8 t As cs Am cm) (m:Int):Mid wi (W.setCell ⟨b8,3,none⟩ (.int .i64 m)) x A' c' b8 { t with high:=m } As cs Am cm :=
 ⟨(h.other _ _).1,by have:=AAK _ _ 3 _ _ (.int .i64 m) h.tb;unfold Ca;rw[this];simp,(h.other _ _).2,h.ne⟩
theorem Mid.G6 (h:Mid wi W x A' c' b8 t As cs Am cm) (m:Int):Mid wi (W.setCell ⟨b8,4,none⟩ (.int .i64 m)) x A' c' b8 { t with max:=m } As cs Am cm :=
 ⟨(h.other _ _).1,by have:=AAK _ _ 4 _ _ (.int .i64 m) h.tb;unfold Ca;rw[this];simp,(h.other _ _).2,h.ne⟩
theorem Mid.Sb (h:Mid wi W x A' c' b8 t As cs Am cm) (m:Int):Mid wi (W.setCell ⟨b8,7,none⟩ (.int .i64 m)) x A' c' b8 { t with key:=m } As cs Am cm :=
 ⟨(h.other _ _).1,by have:=AAK _ _ 7 _ _ (.int .i64 m) h.tb;unfold Ca;rw[this];simp,(h.other _ _).2,h.ne⟩
theorem Mid.Jg (h:Mid wi W x A' c' b8 t As cs Am cm) (m:Int):Mid wi (W.setCell ⟨b8,8,none⟩ (.int .i64 m)) x A' c' b8 { t with elem:=m } As cs Am cm :=
 ⟨(h.other _ _).1,by have:=AAK _ _ 8 _ _ (.int .i64 m) h.tb;unfold Ca;rw[this];simp,(h.other _ _).2,h.ne⟩
theorem Mid.RG (h:Mid wi W x A' c' b8 t As cs Am cm) (m:Bool):Mid wi (W.setCell ⟨b8,9,none⟩ (.bool m)) x A' c' b8 { t with open_:=m } As cs Am cm :=
 ⟨(h.other _ _).1,by have:=AAK _ _ 9 _ _ (.bool m) h.tb;unfold Ca;rw[this];simp,(h.other _ _).2,h.ne⟩
theorem Mid.iw (h:Mid wi W x A' c' b8 t As cs Am cm) (m:ByteArray):Mid wi (W.setCell ⟨b8,1,none⟩ (.string m)) x A' c' b8 { t with name:=m } As cs Am cm :=
 ⟨(h.other _ _).1,by have:=AAK _ _ 1 _ _ (.string m) h.tb;unfold Ca;rw[this];simp,(h.other _ _).2,h.ne⟩
theorem Mid.iq (h:Mid wi W x A' c' b8 t As cs Am cm) (l:List Bu) (B:zo) (d:Nat):Mid wi (W.setCell ⟨b8,5,none⟩ (.slice B l.length d)) x A' c' b8 { t with AX:=l } B d Am cm :=
 ⟨(h.other _ _).1,by have:=AAK _ _ 5 _ _ (.slice B l.length d) h.tb;unfold Ca;rw[this];simp,(h.other _ _).2,h.ne⟩
theorem Mid.Ul (h:Mid wi W x A' c' b8 t As cs Am cm) (l:List Ac) (B:zo) (d:Nat):Mid wi (W.setCell ⟨b8,6,none⟩ (.slice B l.length d)) x A' c' b8 { t with AA:=l } As cs B d :=
 ⟨(h.other _ _).1,by have:=AAK _ _ 6 _ _ (.slice B l.length d) h.tb;unfold Ca;rw[this];simp,(h.other _ _).2,h.ne⟩
theorem Cc (h : Mid wi W x A' c' b8 t As cs Am cm) {q : Nat} {sv : Value} (hd : wi.cell? ⟨q, 0, none⟩ = some sv) :
    ((((W.cell? ⟨wi.heap.size, 0, none⟩ = some (.int .u8 x.kind) /\ W.cell? ⟨wi.heap.size, 1, none⟩ = some (.int .u8 x.a) /\ W.cell? ⟨wi.heap.size, 2, none⟩ = some (.int .u8 x.b) /\ W.cell? ⟨wi.heap.size, 3, none⟩ = some (.int .u8 x.c) /\ W.cell? ⟨wi.heap.size, 4, none⟩ = some (.slice A' x.parts.length c')) /\ (∀ j, W.frozen? ⟨b8, j, none⟩ = false)) /\
      (W.cell? ⟨b8, 0, none⟩ = some (.int .i64 t.kind) /\ W.cell? ⟨b8, 1, none⟩ = some (.string t.name) /\ W.cell? ⟨b8, 2, none⟩ = some (.int .i64 t.low) /\ W.cell? ⟨b8, 3, none⟩ = some (.int .i64 t.high) /\ W.cell? ⟨b8, 4, none⟩ = some (.int .i64 t.max) /\ W.cell? ⟨b8, 5, none⟩ = some (.slice As t.AX.length cs) /\ W.cell? ⟨b8, 6, none⟩ = some (.slice Am t.AA.length cm) /\ W.cell? ⟨b8, 7, none⟩ = some (.int .i64 t.key) /\ W.cell? ⟨b8, 8, none⟩ = some (.int .i64 t.elem) /\ W.cell? ⟨b8, 9, none⟩ = some (.bool t.open_))) /\ W.cell? ⟨q, 0, none⟩ = some sv) /\
      Hid (Mid wi W x A' c' b8 t As cs Am cm) :=
  ⟨⟨(MQ h).1, zA h.Cm hd⟩, h⟩
theorem CR (h : Mid wi W x A' c' b8 t As cs Am cm) {q : Nat} {sv : Value} (hd : wi.cell? ⟨q, 0, none⟩ = some sv) :
    ((((W.cell? ⟨wi.heap.size, 0, none⟩ = some (.int .u8 x.kind) /\ W.cell? ⟨wi.heap.size, 1, none⟩ = some (.int .u8 x.a) /\ W.cell? ⟨wi.heap.size, 2, none⟩ = some (.int .u8 x.b) /\ W.cell? ⟨wi.heap.size, 3, none⟩ = some (.int .u8 x.c) /\ W.cell? ⟨wi.heap.size, 4, none⟩ = some (.slice A' x.parts.length c')) /\ (∀ j, W.frozen? ⟨b8, j, none⟩ = false)) /\
      (∀ j, j < 10 -> (W.cell? ⟨b8, j, none⟩).isSome = true)) /\ W.cell? ⟨q, 0, none⟩ = some sv) /\ Hid (∃ t As cs Am cm, Mid wi W x A' c' b8 t As cs Am cm) :=
  ⟨⟨⟨(MQ h).1.1, fun j hj => by rw [h.tb.cell j]; simp; omega⟩, zA h.Cm hd⟩, t, As, cs, Am, cm, h⟩
theorem Rf (h:Mid wi W x A' c' b8 t As cs Am cm):W.there b8 0 10:=fun j hj=>by
 rw[Nat.zero_add];refine ⟨?_,AAG _ _ _ _ _ h.tb⟩;rw[AAC _ _ _ _ _ _ h.tb]
 match j,hj with
 | 0,_=>rfl
 | 1,_=>rfl
 | 2,_=>rfl
 | 3,_=>rfl
 | 4,_=>rfl
 | 5,_=>rfl
 | 6,_=>rfl
 | 7,_=>rfl
 | 8,_=>rfl
 | 9,_=>rfl
theorem Mid.all (h:Mid wi W x A' c' b8 t As cs Am cm) (u:Aa):Mid wi (W.setCells b8 0 (u.cs none 0 none 0)) x A' c' b8 u none 0 none 0 :=
 ⟨(zN (by have:=h.ne;omega) _ _ _).trans h.nb,by unfold Ca;rw[Bp _ _ _ _ h.tb];simp[XG],yC _ (by have:=h.ne;omega) _ _ _ h.Cm,h.ne⟩
theorem Mid.keep (h:Mid wi W x A' c' b8 t As cs Am cm) (hb:Below wi.heap.size wi W') (hk:∀g,g=wi.heap.size\/g=b8->W'.heap[g]? = W.heap[g]?):Mid wi W' x A' c' b8 t As cs Am cm :=
 ⟨(hk _ (.inl rfl)).trans h.nb,(hk _ (.inr rfl)).trans h.tb,hb,h.ne⟩
theorem SS (h:Mid wi W x A' c' b8 t As cs Am cm) {b3 o3:Nat} {ob:Obj} {z:Value} (hk:W.heap[b3]? = some ob) (hc:∀W:World,W.heap[b3]? = some ob->W.cell? ⟨b3,o3,none⟩=some z) :
  ((W.cell? ⟨b8,5,none⟩=some (.slice As t.AX.length cs)/\W.frozen? ⟨b8,5,none⟩=false)/\W.cell? ⟨b3,o3,none⟩=some z)/\Hid (Mid wi W x A' c' b8 t As cs Am cm/\W.heap[b3]? = some ob) :=
 ⟨⟨⟨h.tb.cell 5,AAG _ _ _ _ _ h.tb⟩,hc W hk⟩,h,hk⟩
end
def Vq (s:Bu):List Value:=[.int .i64 s.id,.string s.name]
theorem lV (s:Bu):∀u∈Vq s,u.oneCell'=true:=fun u hu=>by
 unfold Vq at hu;simp only[ABP,List.mem_nil_iff,or_false] at hu
 rcases hu with rfl|rfl <;> rfl
theorem vD {base:Nat} {B:zo} {dc:Nat} {L:List Bu} (h:AZ 92 2 Vq W base (.slice B L.length dc) L) (hl:L.length<=100) (hs:∀s∈L,Cw s.name):Off (· < base) W fun u=>J5 u B L:=fun u hu=>by
 have ho:AZ 92 2 Vq u base (.slice B L.length dc) L:=h.keep fun g hg hlt _=>hu g (by omega) hlt
 obtain ⟨A',c',hv',hr⟩:=AZ.rows (bytes:=24) (at_:=fun x cs=>Bu.At x cs) ho (fun _=>rfl) (by unfold EF;omega) (fun s hm=>⟨hs s hm,rfl⟩)
 injection hv' with e1 _ _
 rw[e1];exact hr
theorem jA:(prog.info? 31).map (·.size)=some 1:=by kernel_rfl
theorem QZ.next (h:QZ w W A d c v L) (hd:BG w A d) {x:Lu} (hx:Off (fun q=>q<=w.heap.size+1+1\/v.ownBlock=some q) W fun u=>J4 u x.t x.As x.Am) {v9:Value} {w9:World} (ho:w9.ownsRow (w.heap.size+1+1+1) 87 10 v9 (L.length+1) (L.flatMap Lu.cells++x.cells)) (hg:(W.alloc (.cells x.cells.toArray 87)).grownBy w9 v.ownBlock) (hv:v9.ownBlock=v.ownBlock\/v9.ownBlock=some (W.alloc (.cells x.cells.toArray 87)).heap.size):
  w9.frozen? ⟨w.heap.size+1+1,0,none⟩=false/\w9.cell? ⟨w.heap.size+1+1,0,none⟩=some v/\w.heap.size+1+1<w9.heap.size/\QZ w (w9.setCell ⟨w.heap.size+1+1,0,none⟩ v9) A d c v9 (L++[x]):=by
 have hnew:=zD W (.cells x.cells.toArray 87);have hzs:=(zg.1 h.sb).1;have hoo:=(h.O.below hnew).own;have hk:∀q,q<w.heap.size+1+1+1->w9.heap[q]? = W.heap[q]? := fun q hq=>(yA hg (by have:=hnew.size;omega) fun k hk e=>by have:=hoo.lt k hk;omega).trans (hnew.block q (by omega))
 have hsb:=(hk (w.heap.size+1+1) (by omega)).trans h.sb
 have za:Below w.heap.size w w9:=(zB h.db.below hnew).grown hg (zB h.db.below hnew).size (fun q hq=>by have:=hoo.lt q hq;omega)
 refine ⟨AAG _ _ _ _ _ hsb,by rw[AAC _ _ _ _ _ _ hsb];rfl,(zg.1 hsb).1,⟨?_,?_,?_,?_⟩,?_,?_,?_⟩
 ·have:=(zg.1 hsb).1;simp;omega
 ·rw[World.cell?_of_block (w:=W) (w':=w9.setCell ⟨w.heap.size+1+1,0,none⟩ v9) (a:=⟨w.heap.size,0,none⟩) ((AAE _ _ _ _ (by simp;omega)).trans (hk _ (by simp only;omega)))];exact h.db.cell
 ·exact hd.below (za.setCell (p:=⟨w.heap.size+1+1,0,none⟩) (by simp only;omega) _)
 ·exact za.setCell (p:=⟨w.heap.size+1+1,0,none⟩) (by simp only;omega) _
 ·exact ((AAE _ _ _ _ (by simp)).trans (hk _ (by omega))).trans h.rb
 ·rw[AAK _ _ 0 _ _ v9 hsb];rfl
 ·exact (FC.snoc (h.O.below hnew) (hx.low hnew) ho hg hv).set (by simp) (b:=w.heap.size+1+1) (AAF _) (fun q hq _=>AAE _ _ _ _ (by simpa using hq))
theorem Og {T E:TypeId} {size bytes:Nat} (hE:Elem T E size bytes) (w:World) {ops:Array Oper} {rest:List Oper} {op:Oper} {a:Act} {Q:Exit->Act->World->Prop} (hgd:op.guard=none) (s x:Operand)
  (ho:op.op = .call { callee := .builtin .append,args:=#[s,x],argTypes:=#[T,T] }) (base:Nat) (v:Value) (n:Nat) (xs:List Value) (hs:a.eval s=v) (h:w.ownsRow base E size v n xs) (b o m c:Nat) (news:List Value) (hx:a.eval x = .slice (some ⟨b,o,none⟩) m c)
  (hl:news.length=m * size) (hnews:w.rangeAt b o news) (h1:∀u∈news,u.oneCell'=true) (hlen:n+m<=9223372036854775807) (hby:(n+m) * bytes<=140737488355328) (hb:base<=w.heap.size)
  (hk:∀v' w',w'.ownsRow base E size v' (n+m) (xs++news)->w.grownBy w' v.ownBlock->(v'.ownBlock=v.ownBlock\/v'.ownBlock=some w.heap.size)->wpList prog ops Q rest (a.put op.dst v') w'):wpList prog ops Q (op::rest) a w:=by
 refine wpList_plain hgd fun K hK=>?_
 obtain ⟨v',w',hr,h2,h3,h5⟩:=MJ hE w base op.type v n xs h b o m c news hl hnews h1 hlen hby hb;unfold Oper.wp execOp;simp only[ho,resolve,invoke,builtin,Sem.run_bind,Sem.run_pure,Result.andThen_ok,List.map_toArray,ABh,List.map_nil,hs,hx,hr];exact hK _ _ (hk v' w' h2 h3 h5)
def zf (d:List AR) (s:List Aa):Prop:=∀j (h:j<s.length),Mq d j s[j]/\Zo d j (d.getD j Bo) s[j]
def mV (d:List AR) (w:World) (e:Ending) (w':World):Prop :=
 ∃A c s ok,e = .returned (.tuple #[.agg #[.slice A s.length c],.bool ok])/\DC w' A s/\(ok=true->zQ s=0/\Short s/\s.length=d.length/\0<d.length/\d.length<=5/\(∀t∈s,In64 t.low/\In64 t.high)/\∀t∈s,∀m∈t.AA,KF m.dflt)/\(ok=false->s=[])/\Below w.heap.size w w'/\(ok=true->zf d s/\Off (· < w.heap.size) w' fun u=>DC u A s)
theorem vR {W':World} (hd:Kq d (L.map (·.t))) (hoi:zf d (L.map (·.t))) (h1:1<=d.length) (h5:d.length<=5) (hO:Off (· < w.heap.size) W' fun u=>DC u A (L.map (·.t))) (hb:Below w.heap.size w W'):mV d w (.returned (.tuple #[.agg #[.slice A L.length c],.bool true])) W':=by
 have h0:Ending.returned (.tuple #[.agg #[.slice A L.length c],.bool true]) = .returned (.tuple #[.agg #[.slice A (L.map (·.t)).length c],.bool true]):=by rw[AAt]
 have hv:=Vu hd h5;have hs:=Vv hd;have hf:=YC hd;have hnu:=dK hd;have hl:=hd.1;have ht:=hO.O;clear hd;generalize L.map (·.t)=s at *;exact ⟨A,c,s,true,h0,ht,fun _=>⟨hv,hs,hl,h1,h5,hnu,hf⟩,(fun h=>by cases h),hb,fun _=>⟨hoi,hO⟩⟩
def xG (wi:World) (d:List AR) (i:Nat) (x:AR) (A':zo) (c' b8:Nat) (wx:World):Prop :=
 ∃t As cs Am cm,Mid wi wx x A' c' b8 t As cs Am cm/\(Mq d i t/\Zo d i x t)/\Off (· < wi.heap.size) wx fun u=>J4 u t As Am
theorem vS (d : List AR) (A : zo) (c : Nat) (w : World) (hd : BG w A d) :
    Calls prog 11 #[EA A d.length c] w (mV d w) := by
  have hn := hd.1.lt (by omega)
  have HD0 := zh hd;have HI := zh (QZ.new (c := c) hd);clear hd
  by_cases hbad : d.length < 1 \/ 5 < d.length
  · have Wp := zh (zI w (.cells #[.slice A d.length c] 24) (.cells #[.slice none 0 0] 31))
    rcases hbad with hb | hb
    · have q1 : decide ((d.length : Int) < 1) = true := by simp; omega
      have q3 : d = [] := AAn (by omega)
      subst q3;clear q1 hb
      go_enter func11, ntmps11
      go_wp2
      exact bodyPost_ret (v := .tuple #[.agg #[.slice none 0 0], .bool false]) (by simp [results, results11, go_sem]) rfl ⟨none, 0, [], false, rfl, AY.nil _ _ _ _ _, (fun h => by cases h), (fun _ => rfl), Wp.O, fun h => by cases h⟩
    · have q1 : decide ((d.length : Int) < 1) = false := by simp; omega
      have q2 : decide ((5 : Int) < (d.length : Int)) = true := by simp; omega
      clear hb
      go_enter func11, ntmps11
      go_wp2
      exact bodyPost_ret (v := .tuple #[.agg #[.slice none 0 0], .bool false]) (by simp [results, results11, go_sem]) rfl ⟨none, 0, [], false, rfl, AY.nil _ _ _ _ _, (fun h => by cases h), (fun _ => rfl), Wp.O, fun h => by cases h⟩
  have hn1 : 1 <= d.length := by omega
  have lH : d.length <= 5 := by omega
  have q1 : decide ((d.length : Int) < 1) = false := by simp; omega
  have q2 : decide ((5 : Int) < (d.length : Int)) = false := by simp; omega
  clear hbad
  go_enter func11, ntmps11
  go_wp2
  generalize ((w.alloc (.cells #[.slice A d.length c] 24)).alloc (.cells #[.slice none 0 0] 31)).alloc (.cells #[.slice none 0 0] 31) = wc at *
  go_loopw [6] (fun s wr => ∃ (i : Nat) (v : Value) (L : List Lu), i <= d.length /\ s = .int .i64 (i : Int) /\ Hid (QZ w wr A d c v L /\ L.length = i /\ ∀ j (h : j < L.length), Mq d j L[j].t /\ Zo d j (d.getD j Bo) L[j].t)) (fun s _ => d.length - (intOf s).toNat)
  case atStart => exact ⟨0, _, [], by omega, rfl, HI.O, rfl, fun j h => absurd h (by simp)⟩
  case round =>
    obtain ⟨i, v, L, hi, rfl, hh⟩ := hrel;obtain ⟨wi, rfl⟩ : ∃ wi : World, wi = wr := ⟨_, rfl⟩;have HST := zh hh.O.1;have yP := zh hh.O.2.1;have PI := zh hh.O.2.2;clear hh
    by_cases hlt : i < d.length
    · have hdc := HST.O.db.cell
      have hdl := HST.O.db.lt;obtain ⟨b, o, A', c', rfl, hr, c0, c1, c2, c3, c4⟩ := HST.O.db.nodes.YK hlt;generalize K9 : d.getD i Bo = x at *;have Zt := zh K9;clear K9;have HR := zh hr;have hz := zL c0;simp only at hz;have g1 : (0:Int) <= (i:Int) := by omega
      have g2 : (i : Int) < (d.length : Int) := by omega
      clear hr;have SB := zh (Hz.new wi x A' c');have HB1 := zh (zD wi (x.box A' c'));have Il := zh (HST.O.below HB1);go_wp2_with fail;refine (Cg d i _ c _ Il.O.db.nodes hlt).mono ?_;rintro e w2 ⟨rfl, hb2⟩;have eX := zh (He d i);have HK : ∃ K, Hid (Ab d i = K) := ⟨_, rfl⟩;obtain ⟨K, HK⟩ := HK;rw [HK.O]
      have M0 : Hid (Mid wi (w2.alloc (.cells #[.int .i64 K, .string ⟨#[]⟩, .int .i64 0, .int .i64 0, .int .i64 0, .slice none 0 0, .slice none 0 0, .int .i64 0, .int .i64 0, .bool false] 87)) x A' c' w2.heap.size { Ai with kind := K } none 0 none 0) :=
        ⟨(SB.O.below hb2).below (zD _ _), AAA _ _, zB (zB HB1 hb2) (zD _ _), by have := (SB.O.below hb2).blt; omega⟩
      have HS2 := zh ((Il.O.below hb2).below (zD w2 (.cells #[.int .i64 K, .string ⟨#[]⟩, .int .i64 0, .int .i64 0, .int .i64 0, .slice none 0 0, .slice none 0 0, .int .i64 0, .int .i64 0, .bool false] 87)));clear hb2 c0 c1 c2 c3 c4 hz hdc hdl;have AEA : Hid (Db K = Db K) := rfl;obtain ⟨NB, Km⟩ : ∃ NB, Hid (Db K = NB) := ⟨_, rfl⟩
      go_upto_if 37 with fail
      refine (XZ _ _).mono ?_;rintro e w3 ⟨rfl, rfl⟩;rw [Km.O];generalize w2.alloc (.cells #[.int .i64 K, .string ⟨#[]⟩, .int .i64 0, .int .i64 0, .int .i64 0, .slice none 0 0, .slice none 0 0, .int .i64 0, .int .i64 0, .bool false] 87) = W0 at *;generalize w2.heap.size = b8 at *;obtain ⟨⟨⟨⟨n0, n1, n2, n3, n4⟩, hfz⟩, t0, t1, t2, t3, t4, t5, t6, t7, t8, t9⟩, _⟩ := MQ M0
      have FU := M0.O.blt
      go_upto_if 37 with fail
      go_cut [] (fun wx => Hid (Mid wi wx x A' c' b8 { Ai with kind := K, name := if Db K then M7 i else ⟨#[]⟩ } none 0 none 0))
      case first =>
        as_aux_lemma =>
        cases NB with
        | true =>
          obtain ⟨S, hS⟩ : ∃ S, Utf8.encode (65 + (i : Int)) = S := ⟨_, rfl⟩;have HS : Hid (S = M7 i) := by have := (O9 (n := i) (by omega)).2; rw [<- hS]; exact this
          have uO := zh (M0.O.iw S);go_wp2;go_meet;have := uO.O;rw [HS.O] at this;rw [Km.O, AAB rfl, HS.O];exact this
        | false =>
          go_wp2
          go_meet
          rw [Km.O];exact M0.O
      case rest =>
      have D7 := zh hcut.O;have Qe : Hid (i <= 20) := by show _ <= _; omega
      have nS := zh HR.O.a;have HXB := zh HR.O.b;have hpos : (0 : Int) < (d.length : Int) := by omega
      have hnz : ¬ ((d.length : Int) = 0) := by omega
      have hnil : ¬ (d = []) := fun e => by rw [e] at hn1; simp at hn1
      obtain ⟨ev, hev⟩ : ∃ ev : Int, ev = ((x.c % d.length : Nat) : Int) := ⟨_, rfl⟩;have hxc := HR.O.c;have AAx : (x.c : Int).tmod (d.length : Int) = ev := hev.symm;have AGn : (x.c : Int) % (d.length : Int) = ev := by rw [hev]; simp
      have AGm : (IntKind.i64.wrap (x.c : Int)).tmod (d.length : Int) = ev := by rw [IntWalk.i64_in _ (by omega)]; exact AAx
      have AGl : (wrap64 (x.c : Int)).tmod (d.length : Int) = ev := by rw [IntWalk.wrap64_in _ (by omega)]; exact AAx
      have Kz : Hid (0 <= ev /\ ev < (d.length : Int)) := by
        have := Nat.mod_lt x.c (show 0 < d.length by omega)
        show _ /\ _
        omega
      obtain ⟨mx, hmx⟩ : ∃ mx : Int, mx = ((x.a % 4 : Nat) : Int) := ⟨_, rfl⟩;have AGZ : (x.a : Int).tmod 4 = mx := hmx.symm;have AGY : (x.a : Int) % 4 = mx := by rw [hmx]; simp
      have AGX : IntKind.i64.wrap mx = mx := IntWalk.i64_in _ (by omega)
      have UH : Hid (0 <= mx /\ mx <= 3) := by show _ /\ _; omega
      have HMV := zh hmx;clear hev hmx hxc;have JW := zh HST.O.db.cell;clear hcut M0 Il HS2 n0 n1 n2 n3 n4 hfz t0 t1 t2 t3 t4 t5 t6 t7 t8 t9 FU SB HB1 AEA;obtain ⟨⟨⟨⟨⟨n0, n1, n2, n3, n4⟩, hfz⟩, t0, t1, t2, t3, t4, t5, t6, t7, t8, t9⟩, hdc⟩, _⟩ := Cc D7 JW;have FU := D7.O.blt;have Gj := D7.O.nb.blt
      go_upto_block 2 with fail
      clear n0 n1 n2 n3 n4 hfz t0 t1 t2 t3 t4 t5 t6 t7 t8 t9 FU Gj hdc
      go_cut [] (fun wx => Hid (xG wi d i x A' c' b8 wx))
      case first =>
        as_aux_lemma =>
        have hK : K = 1 \/ K = 2 \/ K = 3 \/ K = 4 \/ K = 5 \/ K = 6 \/ K = 7 \/ K = 8 \/ K = 9 := by have := eX.O; have := HK.O; omega
        rcases hK with rfl | rfl | rfl | rfl | rfl | rfl | rfl | rfl | rfl
        · have HM : Hid (Mid wi wc x A' c' b8 { Ai with kind := 1 } none 0 none 0) := zh (show Mid wi wc x A' c' b8 { Ai with kind := 1 } none 0 none 0 from D7.O)
          clear D7;obtain ⟨⟨⟨⟨⟨n0, n1, n2, n3, n4⟩, hfz⟩, t0, t1, t2, t3, t4, t5, t6, t7, t8, t9⟩, hdc⟩, _⟩ := Cc HM JW;have FU := HM.O.blt;have Gj := HM.O.nb.blt;have hdl := zL hdc;simp only at hdl;go_wp2;go_meet;exact ⟨_, none, 0, none, 0, HM.O, ⟨aI Qe HK, iA HK⟩, (fun u _ => EG (yK (show (0 : Nat) <= 100 by decide)) rfl rfl)⟩
        · have HM : Hid (Mid wi wc x A' c' b8 { Ai with kind := 2 } none 0 none 0) := zh (show Mid wi wc x A' c' b8 { Ai with kind := 2 } none 0 none 0 from D7.O)
          clear D7;obtain ⟨⟨⟨⟨⟨n0, n1, n2, n3, n4⟩, hfz⟩, t0, t1, t2, t3, t4, t5, t6, t7, t8, t9⟩, hdc⟩, _⟩ := Cc HM JW;have FU := HM.O.blt;have Gj := HM.O.nb.blt;have hdl := zL hdc;simp only at hdl;go_wp2_with fail
          refine wp_region_held_drew (S := (fun w' => ((((w'.cell? ⟨wi.heap.size, 0, none⟩ = some (.int .u8 x.kind) /\ w'.cell? ⟨wi.heap.size, 1, none⟩ = some (.int .u8 x.a) /\ w'.cell? ⟨wi.heap.size, 2, none⟩ = some (.int .u8 x.b) /\ w'.cell? ⟨wi.heap.size, 3, none⟩ = some (.int .u8 x.c) /\ w'.cell? ⟨wi.heap.size, 4, none⟩ = some (.slice A' x.parts.length c')) /\ (∀ j, w'.frozen? ⟨b8, j, none⟩ = false)) /\ (∀ j, j < 10 -> (w'.cell? ⟨b8, j, none⟩).isSome = true)) /\ w'.cell? ⟨w.heap.size, 0, none⟩ = some (.slice (some ⟨b, o, none⟩) d.length c)) /\ Hid (∃ t As cs Am cm, Mid wi w' x A' c' b8 t As cs Am cm))) (by kernel_rfl) ?_ (fun AQ => ?_)
          · (try dsimp only); exact CR (HM.O.below (zC (Pe _ _) 1)) JW
          have uN := zh (HM.O.below (zC (Pe wc.heap.size wc) 1));refine tL 0 ?_
          (try simp only [ps])
          refine tL 2 ?_
          (try simp only [ps])
          refine tR 1 (fun K hK => ?_)
          go_simp
          (refine (O6 x A' c' _ nS).mono ?_; rintro e w4 ⟨rfl, hbx⟩; have uM := zh (uN.O.below hbx))
          refine hK.out _ _ ?_ (fun AQ => ?_)
          · (try dsimp only); exact CR uM JW
          clear hK K
          (try simp only [ps])
          refine tL 4 ?_
          (try simp only [ps])
          refine tR 3 (fun K hK => ?_)
          go_simp
          (refine (VZ x A' c' _ nS).mono ?_; rintro e w5 ⟨rfl, hbx⟩; have HMc := zh (uM.O.below hbx))
          refine hK.out _ _ ?_ (fun AQ => ?_)
          · (try dsimp only); exact CR HMc JW
          clear hK K
          (try simp only [ps])
          refine tR 5 (fun K hK => ?_)
          (obtain ⟨z5, hz5⟩ := Option.isSome_iff_exists.1 (AQ.1.1.2 2 (by decide)); have hf5 := AQ.1.1.1.2 2; go_simp; have HMd := zh (HMc.O.o8 (F7 x)))
          refine hK.out _ _ ?_ (fun AQ => ?_)
          · (try dsimp only); exact CR HMd JW
          clear hK K
          (try simp only [ps])
          refine tL 6 ?_
          (try simp only [ps])
          refine tR 7 (fun K hK => ?_)
          (obtain ⟨z7, hz7⟩ := Option.isSome_iff_exists.1 (AQ.1.1.2 3 (by decide)); have hf7 := AQ.1.1.1.2 3; go_simp; have HMe := zh (HMd.O.iy (Fp x)))
          refine hK.out _ _ ?_ (fun AQ => ?_)
          · (try dsimp only); exact CR HMe JW
          clear hK K
          (try simp only [ps])
          refine wpAnyH_done (by kernel_rfl) ?_ _
          go_wp2
          go_meet
          exact ⟨_, none, 0, none, 0, HMe.O, ⟨gu Qe HK (kJ x) (qU x), oM HK⟩, (fun u _ => EG (yK (show (0 : Nat) <= 100 by decide)) rfl rfl)⟩
        · have HM : Hid (Mid wi wc x A' c' b8 { Ai with kind := 3 } none 0 none 0) := zh (show Mid wi wc x A' c' b8 { Ai with kind := 3 } none 0 none 0 from D7.O)
          clear D7;obtain ⟨⟨⟨⟨⟨n0, n1, n2, n3, n4⟩, hfz⟩, t0, t1, t2, t3, t4, t5, t6, t7, t8, t9⟩, hdc⟩, _⟩ := Cc HM JW;have FU := HM.O.blt;have Gj := HM.O.nb.blt;have hdl := zL hdc;simp only at hdl;go_wp2;go_meet
          exact ⟨_, none, 0, none, 0, HM.O.G6 _, ⟨gZ Qe HK UH, oJ HK UH HMV⟩, (fun u _ => EG (yK (show (0 : Nat) <= 100 by decide)) rfl rfl)⟩
        · have HM : Hid (Mid wi wc x A' c' b8 { Ai with kind := 4, name := M7 i } none 0 none 0) := zh (show Mid wi wc x A' c' b8 { Ai with kind := 4, name := M7 i } none 0 none 0 from D7.O)
          clear D7;obtain ⟨⟨⟨⟨⟨n0, n1, n2, n3, n4⟩, hfz⟩, t0, t1, t2, t3, t4, t5, t6, t7, t8, t9⟩, hdc⟩, _⟩ := Cc HM JW;have FU := HM.O.blt;have Gj := HM.O.nb.blt;have hdl := zL hdc;simp only at hdl;obtain ⟨E, hE⟩ : ∃ E, ((x.b : Int) % 2 == 1) = E := ⟨_, rfl⟩;have Qv := zh (HM.O.RG E);go_upto_region 19 with fail
          clear n0 n1 n2 n3 n4 hfz t0 t1 t2 t3 t4 t5 t6 t7 t8 t9 hdc FU Gj hdl hE;generalize wc.setCell ⟨b8, 9, none⟩ (.bool E) = W2 at *;obtain ⟨⟨⟨⟨⟨n0, n1, n2, n3, n4⟩, hfz⟩, t0, t1, t2, t3, t4, t5, t6, t7, t8, t9⟩, hdc⟩, _⟩ := Cc Qv JW;have FU := Qv.O.blt;have Gj := Qv.O.nb.blt;have hdl := zL hdc;simp only at hdl;go_wp2_with fail;refine (Pz x A' c' _ nS).mono ?_
          rintro e W5 ⟨v5, rfl, I6, hb5⟩;have OB := zh (Kb x);have Wn : Hid ((Di x).length <= 6) := by have := Kl (Di x) 0 6 OB.O.1 OB.O.2.1 (by omega); show _ <= _; omega
          obtain ⟨A5, c5, rfl, hi5⟩ := WB.ints I6 (by have := Wn.O; unfold EF; omega)
          have Mx := zh (Qv.O.below hb5);have HI5 := zh hi5;have JM : Hid (∀ g o, A5 = some ⟨g, o, none⟩ -> g ≠ b8 /\ g < W5.heap.size) := fun g o hg => by
            have := World.ownsRow.lt I6 g (by rw [hg]; rfl)
            have := Qv.O.blt;exact ⟨by omega, by omega⟩
          have zu : Hid ((Em x).length = (Di x).length) := by show _ = _; simp [Em]
          have PE : Hid (wi.heap.size <= W5.heap.size) := Mx.O.Cm.size;clear hi5 I6 hb5 n0 n1 n2 n3 n4 hfz t0 t1 t2 t3 t4 t5 t6 t7 t8 t9 hdc FU Gj hdl;go_wp2
          go_loopw [10] (fun s wr => ∃ (q : Nat) (B : zo) (dc : Nat) (L : List Bu), q <= (Di x).length /\ s = .int .i64 (q : Int) /\ Hid (L = (Em x).take q /\ Mid wi wr x A' c' b8 { Ai with kind := 4, name := M7 i, AX := L, open_ := E } B dc none 0 /\ AZ 92 2 Vq wr W5.heap.size (.slice B L.length dc) L /\ (∀ g, g ≠ b8 -> g < W5.heap.size -> wr.heap[g]? = W5.heap[g]?) /\ W5.heap.size <= wr.heap.size)) (fun s _ => (Di x).length - (intOf s).toNat)
          case atStart => exact ⟨0, none, 0, [], by omega, rfl, rfl, Mx.O, AZ.nil _ _, (fun _ _ _ => rfl), AAF _⟩
          case round =>
            obtain ⟨q, B, dc, L, hq, rfl, hh⟩ := hrel;obtain ⟨wo, rfl⟩ : ∃ wo : World, wo = wr := ⟨_, rfl⟩;have EP := zh hh.O.1;have fU := zh hh.O.2.1;have HOO := zh hh.O.2.2.1;have HKO := zh hh.O.2.2.2.1;have yj := zh hh.O.2.2.2.2;have HIO : Hid (JL wo A5 (Di x)) := ku HI5 fun g o' e => HKO.O g (JM.O g o' e).1 (JM.O g o' e).2
            have Lh : Hid (L.length <= 6) := by show _ <= _; rw [EP.O]; have := Wn.O; have := zu.O; simp; omega
            have AGd := Wn.O;have hs5 : wo.cell? ⟨b8, 5, none⟩ = some (.slice B L.length dc) := fU.O.tb.cell 5;clear hh
            by_cases tO : q < (Di x).length
            · obtain ⟨b3, o3, rfl, i3⟩ := HIO.O.fF tO
              have ABe : Hid ((Em x).take (q + 1) = L ++ [⟨(Di x)[q], Tz 115 ((Di x)[q]).toNat⟩]) := by
                show _ = _
                have ADC : q < (Em x).length := by rw [zu.O]; exact tO
                rw [ABq ADC, <- EP.O];simp [Em]
              have hzr := OB.O.2.1 _ (AAL tO);generalize (Di x)[q] = z at *;obtain ⟨zn, rfl⟩ := AAh (show 0 <= z by omega)
              have hlt3 := zL i3;simp only at hlt3;obtain ⟨ob, hob⟩ : ∃ ob, wo.heap[b3]? = some ob := ⟨_, Array.getElem?_eq_getElem hlt3⟩;have HOB := zh hob;have HCZ : Hid (∀ W : World, W.heap[b3]? = some ob -> W.cell? ⟨b3, o3 + q, none⟩ = some (.int .i64 (zn : Int))) := fun W hW => (World.cell?_of_block (w := wo) (w' := W) (a := ⟨b3, o3 + q, none⟩) (hW.trans HOB.O.symm)).trans i3
              have H3 := zh (JM.O b3 o3 rfl);obtain ⟨S, hS⟩ : ∃ S, Utf8.encode (97 + (zn : Int)) = S := ⟨_, rfl⟩;have hS2 : Utf8.encode (IntKind.i32.wrap (IntKind.i64.wrap (97 + (zn : Int)))) = S := by rw [IntWalk.i64_in _ (by omega), IntWalk.i32_in _ (by omega)]; exact hS
              have HS : Hid (S = ⟨#[UInt8.ofNat (97 + zn)]⟩) := by have := (O9 (n := zn) (by omega)).1; rw [<- hS]; exact this
              have hds : ¬ 9223372036854775807 < 1 + S.size := by have : S.size = 1 := by rw [HS.O]; rfl
                                                                  omega
              have PG : Hid ((Em x).take (q + 1) = L ++ [⟨(zn : Int), (⟨#[115]⟩ : ByteArray) ++ S⟩]) := by
                show _ = _
                rw [ABe.O, HS.O, QA]; rfl
              have hbb := fU.O.blt;have g1 : (0:Int) <= (q:Int) := by omega
              have g2 : (q : Int) < ((Di x).length : Int) := by omega
              have AGJ := hzr.2;clear hob ABe hzr;go_wp2_with fail
              refine yE (S := (fun w' => ((w'.cell? ⟨b8, 5, none⟩ = some (.slice B L.length dc) /\ w'.frozen? ⟨b8, 5, none⟩ = false) /\ w'.cell? ⟨b3, o3 + q, none⟩ = some (.int .i64 (zn : Int))) /\ Hid (Mid wi w' x A' c' b8 { Ai with kind := 4, name := M7 i, AX := L, open_ := E } B dc none 0 /\ w'.heap[b3]? = some ob))) 18 (by kernel_rfl) ?_ (fun AQ => ?_)
              · (try dsimp only); exact SS (fU.O.below (zC (Pe _ _) 1)) HOB HCZ
              refine tC 0 ?_
              (try simp only [ps])
              refine tB 1 ?_
              (try simp only [ps])
              refine tC 2 ?_
              (try simp only [ps])
              refine tC 3 ?_
              (try simp only [ps])
              refine tC 4 ?_
              (try simp only [ps])
              refine tB 5 ?_
              (try simp only [ps])
              refine tC 6 ?_
              (try simp only [ps])
              refine tC 7 ?_
              (try simp only [ps])
              refine tC 8 ?_
              (try simp only [ps])
              refine tB 9 ?_
              (try simp only [ps])
              refine tC 10 ?_
              (try simp only [ps])
              refine tC 11 ?_
              (try simp only [ps])
              refine tC 12 ?_
              (try simp only [ps])
              refine tC 13 ?_
              (try simp only [ps])
              refine tC 14 ?_
              (try simp only [ps])
              refine tS 15 (fun K hK => ?_)
              go_simp
              refine hK.out _ _ ?_ (fun AQ => ?_)
              · (try dsimp only); exact SS (AQ.2.O.1.below (zD _ _)) (FH AQ.2.O.2 _) HCZ
              clear hK K
              (try simp only [ps])
              refine tS 16 (fun K hK => ?_)
              (have Fa := zh (AZ.alloc (HOO.O.below (zC (Pe wo.heap.size wo) 1)) (.cells #[.int .i64 (zn : Int), .string ((⟨#[115]⟩ : ByteArray) ++ S)] 92)); have Tp := zh (zR (wo.drewN 1) [.int .i64 (zn : Int), .string ((⟨#[115]⟩ : ByteArray) ++ S)] 92); have HZ6 : Hid (W5.heap.size <= ((wo.drewN 1).alloc (.cells #[.int .i64 (zn : Int), .string ((⟨#[115]⟩ : ByteArray) ++ S)] 92)).heap.size) := (by have := fU.O.blt; show _ <= _; have := yj.O; simp; omega); have Gz := zh AQ.2.O.1; have BH := zh AQ.2.O.2; refine Qj lX (by rfl) (.tmp 76) (.tmp 90) (by rfl) W5.heap.size (.slice B L.length dc) L.length (L.flatMap Vq) (by rfl) Fa wo.heap.size 0 1 1 [.int .i64 (zn : Int), .string ((⟨#[115]⟩ : ByteArray) ++ S)] (by rfl) rfl Tp (lV ⟨(zn : Int), (⟨#[115]⟩ : ByteArray) ++ S⟩) (by have := Lh.O; omega) (by have := Lh.O; omega) HZ6 ?_; intro v8 w8 BB Aw Cv; have TV := AZ.snoc (enc := Vq) (x := (⟨(zn : Int), (⟨#[115]⟩ : ByteArray) ++ S⟩ : Bu)) BB; obtain ⟨B8, d8, rfl, _⟩ := AZ.reads TV; have nC := zh TV; have HKG : Hid (∀ g, g < W5.heap.size -> w8.heap[g]? = ((wo.drewN 1).alloc (.cells #[.int .i64 (zn : Int), .string ((⟨#[115]⟩ : ByteArray) ++ S)] 92)).heap[g]?) := zh (fun g hg => yA Aw (by have := HZ6.O; omega) (fun j hj e => by have := HOO.O.lt j hj; omega)); have eU : Hid (Mid wi w8 x A' c' b8 { Ai with kind := 4, name := M7 i, AX := L, open_ := E } B dc none 0) := zh (Gz.O.keep (Gz.O.Cm.grown Aw Gz.O.Cm.size (fun j hj => by have := HOO.O.lt j hj; have := PE.O; omega)) (fun g hg => HKG.O g (by rcases hg with rfl | rfl; (have := Mx.O.nb.blt; omega); (have := Mx.O.blt; omega)))); have BF : Hid (w8.heap[b3]? = some ob) := zh ((HKG.O b3 H3.O.2).trans BH); have HKF : Hid (∀ g, g ≠ b8 -> g < W5.heap.size -> w8.heap[g]? = W5.heap[g]?) := zh (fun g h1 h2 => ((HKG.O g h2).trans ((zD (wo.drewN 1) _).block g (by have := yj.O; show g < wo.heap.size; omega))).trans (HKO.O g h1 h2)); have ADv : Hid (W5.heap.size <= w8.heap.size) := Nat.le_trans HZ6 Aw.size; clear BB TV Aw Cv)
              refine hK.out _ _ ?_ (fun AQ => ?_)
              · (try dsimp only); exact SS eU BF HCZ
              clear hK K
              (try simp only [ps])
              refine tC 17 ?_
              (try simp only [ps])
              refine zV (rs := [18]) (by kernel_rfl) (by simp) ?_
              refine AB.last rfl (by kernel_rfl) (fun K hK => ?_) AB.nil
              (obtain ⟨⟨⟨hc5, hf5⟩, _⟩, hin⟩ := AQ; go_simp)
              refine hK.out _ _ ?_;clear hK K
              (try clear AQ)
              (try simp only [ps])
              refine wpAny_done (by kernel_rfl) ?_ _
              have HN := zh (eU.O.iq (L ++ [⟨(zn : Int), (⟨#[115]⟩ : ByteArray) ++ S⟩]) B8 d8)
              have HOW : Hid (AZ 92 2 Vq (w8.setCell ⟨b8, 5, none⟩ (.slice B8 (L ++ [(⟨(zn : Int), (⟨#[115]⟩ : ByteArray) ++ S⟩ : Bu)]).length d8)) W5.heap.size (.slice B8 (L ++ [(⟨(zn : Int), (⟨#[115]⟩ : ByteArray) ++ S⟩ : Bu)]).length d8) (L ++ [(⟨(zn : Int), (⟨#[115]⟩ : ByteArray) ++ S⟩ : Bu)])) := nC.O.keep fun g hg _ _ => AAE _ _ _ _ (by have := Mx.O.blt; simp only; omega)
              have HKN : Hid (∀ g, g ≠ b8 -> g < W5.heap.size -> (w8.setCell ⟨b8, 5, none⟩ (.slice B8 (L ++ [(⟨(zn : Int), (⟨#[115]⟩ : ByteArray) ++ S⟩ : Bu)]).length d8)).heap[g]? = W5.heap[g]?) := fun g h1 h2 => (AAE _ _ _ _ (by simpa using h1)).trans (HKF.O g h1 h2)
              clear hc5 hf5 hin;go_wp2;go_roundw
              case rel =>
                refine ⟨q + 1, B8, d8, L ++ [⟨(zn : Int), (⟨#[115]⟩ : ByteArray) ++ S⟩], by omega, by go_num, PG.O.symm, ?_⟩
                have h := And.intro HN.O (And.intro HOW.O (And.intro HKN.O (show W5.heap.size <= (w8.setCell ⟨b8, 5, none⟩ (.slice B8 (L ++ [(⟨(zn : Int), (⟨#[115]⟩ : ByteArray) ++ S⟩ : Bu)]).length d8)).heap.size by have := ADv.O; simpa using this)))
                simp only [ABF, AAI, List.length_nil, Nat.zero_add] at h ⊢;exact h
              case measure => simp [intOf]; omega
            · obtain rfl : L = Em x := by rw [EP.O]; exact List.take_of_length_le (by rw [zu.O]; omega)
              have xg := zh (vD HOO (by have := Lh.O; omega) (fun s hs => by obtain ⟨n, _, rfl⟩ := List.mem_map.1 (show s ∈ Em x from hs); exact yK (show (2 : Nat) <= 100 by decide)))
              go_wp2
              go_meet
              exact ⟨_, B, dc, none, 0, fU.O, ⟨aH Qe HK x E, gy HK E⟩, fun u hu => ⟨yK (show (1 : Nat) <= 100 by decide), (xg.O.mono fun g _ hg => by have := PE.O; omega) u hu, AY.nil _ _ _ _ _⟩⟩
        · have HM : Hid (Mid wi wc x A' c' b8 { Ai with kind := 5, name := M7 i } none 0 none 0) := zh (show Mid wi wc x A' c' b8 { Ai with kind := 5, name := M7 i } none 0 none 0 from D7.O)
          clear D7;obtain ⟨⟨⟨⟨⟨n0, n1, n2, n3, n4⟩, hfz⟩, t0, t1, t2, t3, t4, t5, t6, t7, t8, t9⟩, hdc⟩, _⟩ := Cc HM JW;have FU := HM.O.blt;have Gj := HM.O.nb.blt;have hdl := zL hdc;simp only at hdl;go_wp2_with fail;refine (RY d i true _ c _ ((HST.O.below HM.O.Cm).db.nodes) hlt).mono ?_;rintro e w5 ⟨v5, ms, rfl, hms, hb5⟩;obtain ⟨A5, c5, rfl, hoff⟩ := hms.AA
          have Mx := zh ((HM.O.below hb5).Ul ms A5 c5);have nA := zh hms.ok;have yY := zh hms.flat;have yL := zh hms.tJ;have WW : Hid (Off (· < wi.heap.size) (w5.setCell ⟨b8, 6, none⟩ (.slice A5 ms.length c5)) fun u => GI u A5 ms) := (hoff.set (a := ⟨b8, 6, none⟩) (.slice A5 ms.length c5) HM.O.blt).mono fun q _ hq => by have := HM.O.Cm.size; omega
          have hf6 := AAG _ _ 6 _ _ (HM.O.below hb5).tb;have hc6 : w5.cell? ⟨b8, 6, none⟩ = some (.slice none 0 0) := (HM.O.below hb5).tb.cell 6;have TW := (HM.O.below hb5).blt;clear hms hoff hb5 n0 n1 n2 n3 n4 hfz t0 t1 t2 t3 t4 t5 t6 t7 t8 t9 hdc FU Gj hdl;go_wp2;go_meet
          exact ⟨_, none, 0, A5, c5, Mx.O, ⟨UY Qe (by rw [HK.O]; rfl) nA yY, Yo (.inl HK.O) nA yL⟩, fun u hu => PY (yK (show (1 : Nat) <= 100 by decide)) rfl (WW.O u hu)⟩
        · have HM : Hid (Mid wi wc x A' c' b8 { Ai with kind := 6, name := M7 i } none 0 none 0) := zh (show Mid wi wc x A' c' b8 { Ai with kind := 6, name := M7 i } none 0 none 0 from D7.O)
          clear D7;obtain ⟨⟨⟨⟨⟨n0, n1, n2, n3, n4⟩, hfz⟩, t0, t1, t2, t3, t4, t5, t6, t7, t8, t9⟩, hdc⟩, _⟩ := Cc HM JW;have FU := HM.O.blt;have Gj := HM.O.nb.blt;have hdl := zL hdc;simp only at hdl;obtain ⟨E, hE⟩ : ∃ E, ((x.b : Int) % 2 == 1) = E := ⟨_, rfl⟩;have Qv := zh (HM.O.RG E);go_upto_region 28 with fail
          clear n0 n1 n2 n3 n4 hfz t0 t1 t2 t3 t4 t5 t6 t7 t8 t9 hdc FU Gj hdl hE;generalize wc.setCell ⟨b8, 9, none⟩ (.bool E) = W2 at *;obtain ⟨⟨⟨⟨⟨n0, n1, n2, n3, n4⟩, hfz⟩, t0, t1, t2, t3, t4, t5, t6, t7, t8, t9⟩, hdc⟩, _⟩ := Cc Qv JW;have FU := Qv.O.blt;have Gj := Qv.O.nb.blt;have hdl := zL hdc;simp only at hdl;go_wp2_with fail
          refine (RY d i false _ c _ ((HST.O.below Qv.O.Cm).db.nodes) hlt).mono ?_;rintro e w5 ⟨v5, ms, rfl, hms, hb5⟩;obtain ⟨A5, c5, rfl, hoff⟩ := hms.AA;have Mx := zh ((Qv.O.below hb5).Ul ms A5 c5);have nA := zh hms.ok;have yY := zh hms.flat;have yL := zh hms.tJ
          have WW : Hid (Off (· < wi.heap.size) (w5.setCell ⟨b8, 6, none⟩ (.slice A5 ms.length c5)) fun u => GI u A5 ms) := (hoff.set (a := ⟨b8, 6, none⟩) (.slice A5 ms.length c5) Qv.O.blt).mono fun q _ hq => by have := Qv.O.Cm.size; omega
          have hf6 := AAG _ _ 6 _ _ (Qv.O.below hb5).tb;have hc6 : w5.cell? ⟨b8, 6, none⟩ = some (.slice none 0 0) := (Qv.O.below hb5).tb.cell 6;have TW := (Qv.O.below hb5).blt;clear hms hoff hb5 n0 n1 n2 n3 n4 hfz t0 t1 t2 t3 t4 t5 t6 t7 t8 t9 hdc FU Gj hdl;go_upto_region 29 with fail
          clear hf6 hc6 TW;generalize w5.setCell ⟨b8, 6, none⟩ (.slice A5 ms.length c5) = W6 at *;have s1 : W6.cell? ⟨b8, 1, none⟩ = some (.string (M7 i)) := Mx.O.tb.cell 1;have s6 : W6.cell? ⟨b8, 6, none⟩ = some (.slice A5 ms.length c5) := Mx.O.tb.cell 6;have TW := Mx.O.blt
          by_cases hne : ms = []
          · have hel : ((ms.length : Int) == 0) = true := by rw [hne]; rfl
            have KC := zh (Rf Mx);have HMA := zh (Mx.O.all { Ai with kind := 5, name := M7 i })
            clear hne;go_wp2_with (refine wpList_store_mid rfl 87 (.tmp 8) (.tmp 116) rfl b8 0 #[.int .i64 5, .string (M7 i), .int .i64 0, .int .i64 0, .int .i64 0, .slice none 0 0, .slice none 0 0, .int .i64 0, .int .i64 0, .bool false] (by rfl) (by rfl) ?_ ?_ ?_ ?_; (exact KC.O); (exact Yn); (exact gY { Ai with kind := 5, name := M7 i } none 0 none 0))
            go_meet
            exact ⟨_, none, 0, none, 0, HMA.O, ⟨UY Qe (by rw [HK.O]; rfl) (EM.nil _ _ _) (fun _ h => by cases h), Yo (.inr HK.O) (EM.nil true _ _) (fun _ h => by cases h)⟩, fun u _ => EG (yK (show (1 : Nat) <= 100 by decide)) rfl rfl⟩
          · have hel : ((ms.length : Int) == 0) = false := by
              have : ms.length ≠ 0 := fun e => hne (AAn e)
              simp; omega
            have nW := zh hne;clear hne;go_wp2;go_meet;exact ⟨_, none, 0, A5, c5, Mx.O, ⟨Ww Qe (by rw [HK.O]; rfl) nA yY nW E, aJ HK nA yL nW E⟩, fun u hu => PY (yK (show (1 : Nat) <= 100 by decide)) rfl (WW.O u hu)⟩
        · have HM : Hid (Mid wi wc x A' c' b8 { Ai with kind := 7 } none 0 none 0) := zh (show Mid wi wc x A' c' b8 { Ai with kind := 7 } none 0 none 0 from D7.O)
          clear D7;obtain ⟨⟨⟨⟨⟨n0, n1, n2, n3, n4⟩, hfz⟩, t0, t1, t2, t3, t4, t5, t6, t7, t8, t9⟩, hdc⟩, _⟩ := Cc HM JW;have FU := HM.O.blt;have Gj := HM.O.nb.blt;have hdl := zL hdc;simp only at hdl;go_wp2_with fail
          refine wp_region_held_drew (S := (fun w' => ((((w'.cell? ⟨wi.heap.size, 0, none⟩ = some (.int .u8 x.kind) /\ w'.cell? ⟨wi.heap.size, 1, none⟩ = some (.int .u8 x.a) /\ w'.cell? ⟨wi.heap.size, 2, none⟩ = some (.int .u8 x.b) /\ w'.cell? ⟨wi.heap.size, 3, none⟩ = some (.int .u8 x.c) /\ w'.cell? ⟨wi.heap.size, 4, none⟩ = some (.slice A' x.parts.length c')) /\ (∀ j, w'.frozen? ⟨b8, j, none⟩ = false)) /\ (∀ j, j < 10 -> (w'.cell? ⟨b8, j, none⟩).isSome = true)) /\ w'.cell? ⟨w.heap.size, 0, none⟩ = some (.slice (some ⟨b, o, none⟩) d.length c)) /\ Hid (∃ t As cs Am cm, Mid wi w' x A' c' b8 t As cs Am cm))) (by kernel_rfl) ?_ (fun AQ => ?_)
          · (try dsimp only); exact CR (HM.O.below (zC (Pe _ _) 1)) JW
          have uN := zh (HM.O.below (zC (Pe wc.heap.size wc) 1));refine tL 0 ?_
          (try simp only [ps])
          refine tL 1 ?_
          (try simp only [ps])
          refine tL 2 ?_
          (try simp only [ps])
          refine tL 3 ?_
          (try simp only [ps])
          refine tL 4 ?_
          (try simp only [ps])
          refine tL 5 ?_
          (try simp only [ps])
          refine tL 6 ?_
          (try simp only [ps])
          refine tL 7 ?_
          (try simp only [ps])
          refine tL 8 ?_
          (try simp only [ps])
          refine tL 9 ?_
          (try simp only [ps])
          refine tR 10 (fun K hK => ?_)
          (obtain ⟨z10, AGP⟩ := Option.isSome_iff_exists.1 (AQ.1.1.2 4 (by decide)); have AGk := AQ.1.1.1.2 4; go_simp; skip)
          refine hK.out _ _ ?_ (fun AQ => ?_)
          · (try dsimp only); exact CR (uN.O.G6 _) JW
          clear hK K
          (try simp only [ps])
          refine tL 11 ?_
          (try simp only [ps])
          refine tR 12 (fun K hK => ?_)
          (obtain ⟨z12, AGO⟩ := Option.isSome_iff_exists.1 (AQ.1.1.2 8 (by decide)); have AGj := AQ.1.1.1.2 8; go_simp; skip)
          refine hK.out _ _ ?_ (fun AQ => ?_)
          · (try dsimp only); exact CR ((uN.O.G6 _).Jg _) JW
          clear hK K
          (try simp only [ps])
          refine wpAnyH_done (by kernel_rfl) ?_ _
          go_wp2
          go_meet
          exact ⟨_, none, 0, none, 0, (uN.O.G6 _).Jg _, ⟨RA Qe (by rw [HK.O]; rfl) UH Kz, UZ (.inl HK.O) UH⟩, (fun u _ => EG (yK (show (0 : Nat) <= 100 by decide)) rfl rfl)⟩
        · have HM : Hid (Mid wi wc x A' c' b8 { Ai with kind := 8 } none 0 none 0) := zh (show Mid wi wc x A' c' b8 { Ai with kind := 8 } none 0 none 0 from D7.O)
          clear D7;obtain ⟨⟨⟨⟨⟨n0, n1, n2, n3, n4⟩, hfz⟩, t0, t1, t2, t3, t4, t5, t6, t7, t8, t9⟩, hdc⟩, _⟩ := Cc HM JW;have FU := HM.O.blt;have Gj := HM.O.nb.blt;have hdl := zL hdc;simp only at hdl;have HKD := zh (@ZR d x.b);obtain ⟨ky, hky⟩ : ∃ ky, Hid (Ee d x.b = ky) := ⟨_, rfl⟩;rw [hky.O] at HKD;go_wp2_with fail
          refine wp_region_held_drew (S := (fun w' => ((((w'.cell? ⟨wi.heap.size, 0, none⟩ = some (.int .u8 x.kind) /\ w'.cell? ⟨wi.heap.size, 1, none⟩ = some (.int .u8 x.a) /\ w'.cell? ⟨wi.heap.size, 2, none⟩ = some (.int .u8 x.b) /\ w'.cell? ⟨wi.heap.size, 3, none⟩ = some (.int .u8 x.c) /\ w'.cell? ⟨wi.heap.size, 4, none⟩ = some (.slice A' x.parts.length c')) /\ (∀ j, w'.frozen? ⟨b8, j, none⟩ = false)) /\ (∀ j, j < 10 -> (w'.cell? ⟨b8, j, none⟩).isSome = true)) /\ w'.cell? ⟨w.heap.size, 0, none⟩ = some (.slice (some ⟨b, o, none⟩) d.length c)) /\ Hid (∃ t As cs Am cm, Mid wi w' x A' c' b8 t As cs Am cm))) (by kernel_rfl) ?_ (fun AQ => ?_)
          · (try dsimp only); exact CR (HM.O.below (zC (Pe _ _) 1)) JW
          have uN := zh (HM.O.below (zC (Pe wc.heap.size wc) 1));refine tL 0 ?_
          (try simp only [ps])
          refine tL 1 ?_
          (try simp only [ps])
          refine tL 2 ?_
          (try simp only [ps])
          refine tL 3 ?_
          (try simp only [ps])
          refine tL 4 ?_
          (try simp only [ps])
          refine tL 5 ?_
          (try simp only [ps])
          refine tL 6 ?_
          (try simp only [ps])
          refine tL 8 ?_
          (try simp only [ps])
          refine tL 9 ?_
          (try simp only [ps])
          refine tL 10 ?_
          (try simp only [ps])
          refine tL 11 ?_
          (try simp only [ps])
          refine tL 12 ?_
          (try simp only [ps])
          refine tL 13 ?_
          (try simp only [ps])
          refine tR 7 (fun K hK => ?_)
          go_simp
          (refine (TR d x.b _ c _ ((HST.O.below uN.O.Cm).db.nodes) HXB).mono ?_; rintro e w4 ⟨rfl, hbx⟩; rw [hky.O]; have uM := zh (uN.O.below hbx))
          refine hK.out _ _ ?_ (fun AQ => ?_)
          · (try dsimp only); exact CR uM JW
          clear hK K
          (try simp only [ps])
          refine tR 14 (fun K hK => ?_)
          (obtain ⟨z14, AGN⟩ := Option.isSome_iff_exists.1 (AQ.1.1.2 4 (by decide)); have AGi := AQ.1.1.1.2 4; go_simp; skip)
          refine hK.out _ _ ?_ (fun AQ => ?_)
          · (try dsimp only); exact CR (uM.O.G6 _) JW
          clear hK K
          (try simp only [ps])
          refine tL 15 ?_
          (try simp only [ps])
          refine tR 16 (fun K hK => ?_)
          (obtain ⟨z16, AGM⟩ := Option.isSome_iff_exists.1 (AQ.1.1.2 7 (by decide)); have AGh := AQ.1.1.1.2 7; go_simp; skip)
          refine hK.out _ _ ?_ (fun AQ => ?_)
          · (try dsimp only); exact CR ((uM.O.G6 _).Sb _) JW
          clear hK K
          (try simp only [ps])
          refine tL 17 ?_
          (try simp only [ps])
          refine tR 18 (fun K hK => ?_)
          (obtain ⟨z18, AGL⟩ := Option.isSome_iff_exists.1 (AQ.1.1.2 8 (by decide)); have AGg := AQ.1.1.1.2 8; go_simp; skip)
          refine hK.out _ _ ?_ (fun AQ => ?_)
          · (try dsimp only); exact CR (((uM.O.G6 _).Sb _).Jg _) JW
          clear hK K
          (try simp only [ps])
          refine wpAnyH_done (by kernel_rfl) ?_ _
          have x9 := zh (((uM.O.G6 mx).Sb ky).Jg ev);clear AQ;generalize ((w4.setCell ⟨b8, 4, none⟩ (.int .i64 mx)).setCell ⟨b8, 7, none⟩ (.int .i64 ky)).setCell ⟨b8, 8, none⟩ (.int .i64 ev) = W6 at *;have s4 : W6.cell? ⟨b8, 4, none⟩ = some (.int .i64 mx) := x9.O.tb.cell 4;have s7 : W6.cell? ⟨b8, 7, none⟩ = some (.int .i64 ky) := x9.O.tb.cell 7
          have s8 : W6.cell? ⟨b8, 8, none⟩ = some (.int .i64 ev) := x9.O.tb.cell 8;have TW := x9.O.blt;clear n0 n1 n2 n3 n4 hfz t0 t1 t2 t3 t4 t5 t6 t7 t8 t9 hdc FU Gj hdl
          by_cases hk0 : ky < 0
          · have HK0 : Hid (Ee d x.b < 0) := by show _ < _; rw [hky.O]; exact hk0
            have KC := zh (Rf x9);have HMA := zh (x9.O.all { Ai with kind := 7, max := mx, elem := ev })
            go_wp2_with (refine wpList_store_mid rfl 87 (.tmp 8) (.tmp 155) rfl b8 0 #[.int .i64 7, .string ⟨#[]⟩, .int .i64 0, .int .i64 0, .int .i64 mx, .slice none 0 0, .slice none 0 0, .int .i64 0, .int .i64 ev, .bool false] (by rfl) (by rfl) ?_ ?_ ?_ ?_; (exact KC.O); (exact Yn); (exact gY { Ai with kind := 7, max := mx, elem := ev } none 0 none 0))
            go_meet
            exact ⟨_, none, 0, none, 0, HMA.O, ⟨RA Qe (by rw [HK.O]; rfl) UH Kz, UZ (.inr ⟨HK.O, _, HK0.O⟩) UH⟩, (fun u _ => EG (yK (show (0 : Nat) <= 100 by decide)) rfl rfl)⟩
          · have HK0 : Hid (¬ Ee d x.b < 0) := by show ¬ _ < _; rw [hky.O]; exact hk0
            have hk1 : decide (ky < 0) = false := AAP (by omega)
            have nH := zh (HKD.O (by omega))
            clear hk0;go_wp2;go_meet;exact ⟨_, none, 0, none, 0, x9.O, ⟨gq Qe (by rw [HK.O]; rfl) UH Kz nH.O.1 nH.O.2, oL (q := x.b) HK (by have := HK0.O; omega) UH⟩, (fun u _ => EG (yK (show (0 : Nat) <= 100 by decide)) rfl rfl)⟩
        · have HM : Hid (Mid wi wc x A' c' b8 { Ai with kind := 9 } none 0 none 0) := zh (show Mid wi wc x A' c' b8 { Ai with kind := 9 } none 0 none 0 from D7.O)
          clear D7;obtain ⟨⟨⟨⟨⟨n0, n1, n2, n3, n4⟩, hfz⟩, t0, t1, t2, t3, t4, t5, t6, t7, t8, t9⟩, hdc⟩, _⟩ := Cc HM JW;have FU := HM.O.blt;have Gj := HM.O.nb.blt;have hdl := zL hdc;simp only at hdl;go_wp2;go_meet
          exact ⟨_, none, 0, none, 0, HM.O.Jg _, ⟨gm Qe (by rw [HK.O]; rfl) Kz, oK HK⟩, (fun u _ => EG (yK (show (0 : Nat) <= 100 by decide)) rfl rfl)⟩
      case rest =>
      obtain ⟨t, As, cs, Am, cm, HMx, HTx, HOx⟩ := hcut.O;have HMM := zh HMx;have HTO := zh HTx;have xg := zh HOx;have HSX := zh (HST.O.below HMx.Cm);clear hcut HMx HTx HOx D7;obtain ⟨_, t0, t1, t2, t3, t4, t5, t6, t7, t8, t9⟩ := (MQ HMM).1;have FU := HMM.O.blt;have s0 : wc.cell? ⟨w.heap.size + 1 + 1, 0, none⟩ = some v := by rw [AAC _ _ _ _ _ _ HSX.O.sb]; rfl
      have hls := zL s0;simp only at hls;obtain ⟨Av, cv, rfl, _, _, _⟩ := AZ.reads HSX.O.O.own;have OB : Hid (L.length <= 5) := by have := yP.O; show _ <= _; omega
      have HX : Hid (FC (w.heap.size + 1 + 1) (wc.alloc (.cells (⟨t, As, cs, Am, cm⟩ : Lu).cells.toArray 87)) (.slice Av L.length cv) L) := HSX.O.O.below (zD _ _);have Ov := zh (zR wc (⟨t, As, cs, Am, cm⟩ : Lu).cells 87);have M8 : Hid (w.heap.size + 1 + 1 + 1 <= (wc.alloc (.cells (⟨t, As, cs, Am, cm⟩ : Lu).cells.toArray 87)).heap.size) := by show _ <= _; simp; omega
      have Tt := zh (fun v9 w9 ho hg hv => QZ.next HSX HD0 (x := ⟨t, As, cs, Am, cm⟩) (xg.O.mono fun q _ hq => by
        have h1 := (zg.1 HST.O.sb).1
        show q < wi.heap.size
        rcases hq with h | h
        · omega
        · exact (World.ownsRow.lt HST.O.O.own q h).2) (v9 := v9) (w9 := w9) ho hg hv)
      go_wp2_with (at_builtin; refine Og rF _ rfl (.tmp 165) (.tmp 167) rfl (w.heap.size + 1 + 1 + 1) _ _ _ rfl HX.O.own wc.heap.size 0 1 1 (⟨t, As, cs, Am, cm⟩ : Lu).cells rfl rfl Ov (oN _) (by have := OB.O; omega) (by have := OB.O; omega) M8 ?_; intro v9 w9 TV hg9 Za; obtain ⟨A9, c9, rfl, _⟩ := AZ.reads (AZ.snoc (enc := Lu.cells) (x := (⟨t, As, cs, Am, cm⟩ : Lu)) TV); have HN9 := zh (Tt.O _ w9 TV hg9 Za); have hf9 := HN9.O.1; have hc9 := HN9.O.2.1; have hl9 := HN9.O.2.2.1; clear TV hg9 Za)
      go_roundw
      case rel =>
        refine ⟨i + 1, _, L ++ [⟨t, As, cs, Am, cm⟩], by omega, by go_num, (by have h := HN9.O.2.2.2; simp only [ABF, AAI, List.length_nil, Nat.zero_add] at h; exact h), (by rw [ABF, yP.O]; rfl), fun j hj => ?_⟩
        by_cases hji : j < L.length
        · rw [List.getElem_append_left hji]; exact PI.O j hji
        · have hje : j = i := by rw [ABF, yP.O] at hj; rw [yP.O] at hji; simp at hj; omega
          subst hje;rw [List.getElem_append_right (by rw [yP.O]; exact AAF _)]
          rw [Zt.O]
          simpa using HTO.O
      case measure => simp [intOf]; omega
    · have HDO : Hid (Kq d (L.map (·.t))) := by
        refine ⟨by rw [AAt, yP.O]; omega, fun j hj => ?_⟩
        rw [List.getElem_map];exact (PI.O j (by simpa using hj)).1
      have HOI : Hid (zf d (L.map (·.t))) := fun j hj => by
        rw [List.getElem_map];exact PI.O j (by simpa using hj)
      have s0 : wi.cell? ⟨w.heap.size + 1 + 1, 0, none⟩ = some v := by rw [AAC _ _ _ _ _ _ HST.O.sb]; rfl
      have r0 : wi.cell? ⟨w.heap.size + 1, 0, none⟩ = some (.slice none 0 0) := by rw [AAC _ _ _ _ _ _ HST.O.rb]; rfl
      have f0 := AAG _ _ 0 _ _ HST.O.rb;have hls := zL s0;simp only at hls;obtain ⟨Av, cv, rfl, _, _, _⟩ := AZ.reads HST.O.O.own;have JV : Hid (∀ x1, Off (· < w.heap.size) (wi.setCells (w.heap.size + 1) 0 [x1]) fun u => DC u Av (L.map (·.t))) := fun x1 => by
        rw [World.setCells, World.setCells];have h1 := HST.O.O.set (w' := wi.setCell ⟨w.heap.size + 1, 0, none⟩ x1) (by simp) (Nat.le_succ _) (fun q hq _ => AAE _ _ _ _ (by simpa using hq))
        refine fun u hu => ?_
        have h2 : FC (w.heap.size + 1 + 1) u (.slice Av L.length cv) L := ⟨h1.own.keep fun g k1 k2 _ => hu g (fun h => by have : g < w.heap.size := h; omega) k2, fun x hx => fun u2 hu2 => h1.off x hx u2 fun q hq hl => by
          have e := hu q (fun h => hq (.inl (by have : q < w.heap.size := h; omega))) hl
          have hlu : q < u.heap.size := (zg.1 (e.trans (Array.getElem?_eq_getElem hl))).1;exact (hu2 q hq hlu).trans e⟩
        obtain ⟨A', c', e, hr⟩ := h2.rows (by rw [yP.O]; omega)
        injection e with e1 _ _
        rw [e1]; exact hr
      have sN : Hid (∀ x1, Below w.heap.size w (wi.setCells (w.heap.size + 1) 0 [x1])) := fun x1 => by
        rw [World.setCells, World.setCells];exact HST.O.db.below.setCell (p := ⟨w.heap.size + 1, 0, none⟩) (by simp) _
      have WZ : Hid (∀ x1, (wi.setCells (w.heap.size + 1) 0 [x1]).cell? ⟨w.heap.size + 1, 0, none⟩ = some x1) := fun x1 => by
        rw [World.setCells, World.setCells];rw [AAC _ _ _ _ _ _ (AAK _ _ 0 _ _ x1 HST.O.rb)]; rfl
      have KC : Hid (wi.there (w.heap.size + 1) 0 1) := fun j hj => by
        obtain rfl : j = 0 := by omega
        exact ⟨by rw [r0]; rfl, f0⟩
      clear r0 f0;go_wp2_with (refine wpList_store_mid rfl 31 (.tmp 2) (.tmp 170) rfl (w.heap.size + 1) 0 #[.slice Av L.length cv] (by rfl) (by rfl) ?_ ?_ ?_ ?_; (exact KC.O); (exact jA); (simp [Value.oneCell']))
      have hc1 := WZ.O (.slice Av L.length cv);exact bodyPost_ret (v := .tuple #[.agg #[.slice Av L.length cv], .bool true]) (by simp [results, results11, go_sem, hc1]) rfl (vR HDO HOI hn1 lH (JV.O (.slice Av L.length cv)) (sN.O (.slice Av L.length cv)))
