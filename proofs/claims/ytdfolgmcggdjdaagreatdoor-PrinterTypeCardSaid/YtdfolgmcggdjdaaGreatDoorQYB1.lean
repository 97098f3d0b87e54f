/-
  The tidier in memory.
-/
import Derived.Test.YtdfolgmcggdjdaaGreatDoorQYA5
import Derived.Test.YtdfolgmcggdjdaaGreatDoorQPM
import Derived.Test.YtdfolgmcggdjdaaGreatDoorQCP2
namespace Go.Proofs.YtdfolgmcggdjdaaGreatDoor
open Go.RowKit
set_option maxHeartbeats 16000000
set_option maxRecDepth 100000
structure TyA where
 t:TyD
 As:Option Addr
 cs:Nat
 Am:Option Addr
 cm:Nat
def TyA.cells (x:TyA):List Value:=x.t.cs x.As x.cs x.Am x.cm
theorem tyA_one (x:TyA):∀u∈x.cells,u.oneCell'=true:=fun u hu=>by
 unfold TyA.cells at hu
 simp only[List.mem_cons,List.mem_nil_iff,or_false] at hu
 rcases hu with rfl|rfl|rfl|rfl|rfl|rfl|rfl|rfl|rfl|rfl <;> rfl
theorem run_append_o {T E:TypeId} {size bytes:Nat} (hE:Elem T E size bytes) (w:World) (base:Nat) (ty:TypeId) (v:Value) (n:Nat) (xs:List Value) (h:w.ownsRow base E size v n xs) (b o m c:Nat) (news:List Value) (hl:news.length=m * size)
  (hnews:w.rangeAt b o news) (h1:∀u∈news,u.oneCell'=true) (hlen:n+m≤9223372036854775807) (hby:(n+m) * bytes≤140737488355328) (hb:base≤w.heap.size) :
  ∃v' w',(Builtin.append_ #[T,T] ty #[v,.slice (some ⟨b,o,none⟩) m c]).run Tryz.prog w = .ok v' w'∧w'.ownsRow base E size v' (n+m) (xs++news)∧w.grownBy w' v.ownBlock∧(v'.ownBlock=v.ownBlock∨v'.ownBlock=some w.heap.size):=by
 obtain ⟨z,hinf,hzs⟩:=hE.info
 obtain ⟨i0,hi,hz0,hz1,hz2⟩:=info_parts hinf
 obtain ⟨v',w',hr,h2,h3,_,h5⟩:=run_append_own_at (P:=Tryz.prog) w base T ty E i0 z size bytes hE.under hi hz0 hz1 hz2 hzs hE.pos v n xs h ⟨b,o,none⟩ m c news hl (fun j u hj=>by rw[Addr.add_mid];exact hnews j u hj) h1 (by unfold maxLen;omega) hby hb
 exact ⟨v',w',hr,h2,h3,h5⟩
theorem step_append_o {T E:TypeId} {size bytes:Nat} (hE:Elem T E size bytes) {w:World} {ops:Array Oper} {op:Oper} {a:Act} {K:Act→World→Prop} {Q:Exit→Act→World→Prop} {El:Prop} (hgd:op.guard=none) (s x:Operand)
  (ho:op.op = .call { callee := .builtin .append,args:=#[s,x],argTypes:=#[T,T] }) (base:Nat) (v:Value) (n:Nat) (xs:List Value) (hs:a.eval s=v) (h:w.ownsRow base E size v n xs) (b o m c:Nat) (news:List Value) (hx:a.eval x = .slice (some ⟨b,o,none⟩) m c)
  (hl:news.length=m * size) (hnews:w.rangeAt b o news) (h1:∀u∈news,u.oneCell'=true) (hlen:n+m≤9223372036854775807) (hby:(n+m) * bytes≤140737488355328) (hb:base≤w.heap.size)
  (hk:∀v' w',w'.ownsRow base E size v' (n+m) (xs++news)→w.grownBy w' v.ownBlock→(v'.ownBlock=v.ownBlock∨v'.ownBlock=some w.heap.size)→K (a.put op.dst v') w'):if Region.wanted op (yielded ops a.tmps)=true then Oper.wp Tryz.prog op a w K Q else El:=by
 have hw:Region.wanted op (yielded ops a.tmps)=true:=by simp[Region.wanted,hgd]
 rw[if_pos hw]
 obtain ⟨v',w',hr,h2,h3,h5⟩:=run_append_o hE w base op.type v n xs h b o m c news hl hnews h1 hlen hby hb
 unfold Oper.wp execOp
 simp only[ho,resolve,invoke,builtin,Sem.run_bind,Sem.run_pure,Result.andThen_ok,List.map_toArray,List.map_cons,List.map_nil,hs,hx,hr]
 exact hk v' w' h2 h3 h5
theorem elem_ty:Elem 25 50 10 120:=⟨Tryz.underlying25,⟨.agg #[.int .i64 0,.string ⟨#[]⟩,.int .i64 0,.int .i64 0,.int .i64 0,.slice none 0 0,.slice none 0 0,.int .i64 0,.int .i64 0,.bool false],by kernel_rfl,rfl⟩,by omega⟩
theorem ty_info:(Tryz.prog.info? 50).map (·.size)=some 10:=by kernel_rfl
theorem ty_one (t:TyD) (As:Option Addr) (cs:Nat) (Am:Option Addr) (cm:Nat):((t.cs As cs Am cm).toArray).all (·.oneCell')=true :=
 all_oneCell_toArray fun u hu=>by
  simp only[List.mem_cons,List.mem_nil_iff,or_false] at hu
  rcases hu with rfl|rfl|rfl|rfl|rfl|rfl|rfl|rfl|rfl|rfl <;> rfl
theorem Off.more {S S':Nat→Prop} {w w1:World} {P:World→Prop} (h:Off S w P) (hs:∀q,q<w.heap.size→S' q→S q) (hk:∀q,q<w.heap.size→¬ S q→w1.heap[q]? = w.heap[q]?) (hz:w.heap.size≤w1.heap.size):Off S' w1 P :=
 fun w' hw=>h w' fun q hq hl=>(hw q (fun h'=>hq (hs q hl h')) (by omega)).trans (hk q hl hq)
structure Chg (p:Nat) (v v':Value) (W W':World):Prop where
 bel:Below p W W'
 oth:∀q,q≠p→q<W.heap.size→v.ownBlock≠some q→W'.heap[q]? = W.heap[q]?
 own:∀q,v'.ownBlock=some q→v.ownBlock=some q∨W.heap.size≤q
section
variable {p:Nat} {v v1 v2:Value} {W W1 W2:World}
theorem Chg.of (hb:Below W.heap.size W W1) (hp:p≤W.heap.size):Chg p v v W W1:=⟨hb.mono hp,fun q _ hq _=>hb.block q hq,fun _ h => .inl h⟩
theorem Chg.refl (p:Nat) (v:Value) (W:World):Chg p v v W W:=⟨Below.refl _ _,fun _ _ _ _=>rfl,fun _ h => .inl h⟩
theorem Chg.trans (h1:Chg p v v1 W W1) (h2:Chg p v1 v2 W1 W2):Chg p v v2 W W2 :=
 ⟨h1.bel.trans h2.bel,fun q hp hq hv=>(h2.oth q hp (Nat.lt_of_lt_of_le hq h1.bel.size) (fun e=>(h1.own q e).elim hv fun h=>by omega)).trans (h1.oth q hp hq hv),
  fun q hq=>(h2.own q hq).elim (h1.own q) fun h => .inr (Nat.le_trans h1.bel.size h)⟩
end
def tdO (A:Option Addr) (n c gi:Nat) (v:Value):Obj := .cells #[.slice A n c,.slice (some ⟨gi,0,none⟩) n n,v] 63 (0,0)
def ixO (ix:List Int):Obj := .cells (ix.map (Value.int .i64)).toArray 3 (0,0)
structure TdS (A:Option Addr) (n c p gi:Nat) (ix:List Int) (S:Nat→Prop) (W:World) (v:Value) (L:List TyA):Prop where
 blk:W.heap[p]? = some (tdO A n c gi v)
 ixb:W.heap[gi]? = some (ixO ix)
 lt:gi<p
 sp:S p
 len:ix.length=n
 own:OwnL 50 10 TyA.cells W (p+1) v L
 off:∀x∈L,Off (fun q=>S q∨v.ownBlock=some q) W fun u=>TyR u x.t x.As x.Am
section
variable {A:Option Addr} {n c p gi:Nat} {ix:List Int} {S S':Nat→Prop} {W W':World} {v:Value} {L:List TyA}
theorem TdS.plt (h:TdS A n c p gi ix S W v L):p<W.heap.size:=(zg.1 h.blk).1
theorem TdS.ownlt (h:TdS A n c p gi ix S W v L) {q:Nat} (hq:v.ownBlock=some q):p<q∧q<W.heap.size:=by
 have:=World.ownsRow.lt h.own q hq
 exact ⟨by omega,this.2⟩
theorem TdS.below (h:TdS A n c p gi ix S W v L) (hb:Below W.heap.size W W'):TdS A n c p gi ix S W' v L :=
 ⟨(hb.block _ h.plt).trans h.blk,(hb.block _ (Nat.lt_trans h.lt h.plt)).trans h.ixb,h.lt,h.sp,h.len,h.own.below hb,fun x hx=>(h.off x hx).low hb⟩
theorem TdS.sets (h:TdS A n c p gi ix S W v L) (hb:Below W.heap.size W W') (hs:∀q,q<W.heap.size→S' q→S q) (hp:S' p):TdS A n c p gi ix S' W' v L :=
 ⟨(hb.block _ h.plt).trans h.blk,(hb.block _ (Nat.lt_trans h.lt h.plt)).trans h.ixb,h.lt,hp,h.len,h.own.below hb,fun x hx=>(h.off x hx).more (fun q hq h'=>h'.imp (hs q hq) id) (fun q hq _=>hb.block q hq) hb.size⟩
theorem TdS.cells (h:TdS A n c p gi ix S W v L):(W.cell? ⟨p,0,none⟩=some (.slice A n c)∧W.cell? ⟨p,1,none⟩=some (.slice (some ⟨gi,0,none⟩) n n)∧W.cell? ⟨p,2,none⟩=some v)∧W.frozen? ⟨p,2,none⟩=false:=by
 have hb:=h.blk
 unfold tdO at hb
 refine ⟨⟨?_,?_,?_⟩,frozen_of_row _ _ _ _ _ hb⟩ <;> (rw[cell_of_row _ _ _ _ _ _ hb];rfl)
theorem TdS.ixc (h:TdS A n c p gi ix S W v L) {t:Nat} (ht:t<n):W.cell? ⟨gi,t,none⟩=some (.int .i64 (ixAt ix (t:Int)))∧W.frozen? ⟨gi,t,none⟩=false:=by
 have hb:=h.ixb
 have hl:=h.len
 unfold ixO at hb
 refine ⟨?_,frozen_of_row _ _ _ _ _ hb⟩
 rw[cell_of_row _ _ _ _ _ _ hb]
 unfold ixAt
 rw[Int.toNat_natCast,List.getD_eq_getElem?_getD,zl (by omega)]
 simp[show t<ix.length by omega]
theorem TdS.val (h:TdS A n c p gi ix S W v L):∃Av cv,v = .slice Av L.length cv:=by
 obtain ⟨Av,cv,e,_⟩:=h.own.reads
 exact ⟨Av,cv,e⟩
theorem TdS.next (h:TdS A n c p gi ix S W v L) {x:TyA} (hx:Off (fun q=>S q∨v.ownBlock=some q) W fun u=>TyR u x.t x.As x.Am) {w4:World} (hb4:Below W.heap.size W w4) {v8:Value} {w8:World}
  (ho:w8.ownsRow (p+1) 50 10 v8 (L.length+1) (L.flatMap TyA.cells++x.cells)) (hg:w4.grownBy w8 v.ownBlock) (hv:v8.ownBlock=v.ownBlock∨v8.ownBlock=some w4.heap.size) :
  TdS A n c p gi ix S (w8.setCell ⟨p,2,none⟩ v8) v8 (L++[x])∧Chg p v v8 W (w8.setCell ⟨p,2,none⟩ v8):=by
 have h4:=h.below hb4
 have hk:∀q,q<w4.heap.size→v.ownBlock≠some q→w8.heap[q]? = w4.heap[q]? := fun q hq hne=>grown_block hg hq fun k hk e=>hne (by rw[hk,e])
 have hp8:w8.heap[p]? = some (tdO A n c gi v):=(hk p h4.plt fun e=>by have:=h4.ownlt e;omega).trans h4.blk
 have hi8:w8.heap[gi]? = some (ixO ix):=(hk gi (Nat.lt_trans h4.lt h4.plt) fun e=>by have:=h4.ownlt e;have:=h4.lt;omega).trans h4.ixb
 have hlt:=h.lt
 have hoff:∀y∈L++[x],Off (fun q=>S q∨v8.ownBlock=some q) (w8.setCell ⟨p,2,none⟩ v8) fun u=>TyR u y.t y.As y.Am:=fun y hy=>by
  have hy':Off (fun q=>S q∨v.ownBlock=some q) w4 fun u=>TyR u y.t y.As y.Am:=by
   rcases List.mem_append.1 hy with k|k
   ·exact h4.off y k
   ·obtain rfl:y=x:=by simpa using k
    exact hx.low hb4
  refine hy'.more (fun q hq hs=>hs.imp id fun h2=>?_) (fun q hq hn=>?_) (by have:=hg.size;simp;omega)
  ·rcases hv with e|e
   ·exact e▸h2
   ·rw[e] at h2
    have:=Option.some.inj h2
    omega
  ·have hqp:q≠p:=fun e=>hn (.inl (e▸h.sp))
   exact (heap_setCell_other _ _ _ _ (by simpa using hqp)).trans (hk q hq fun e=>hn (.inr e))
 refine ⟨⟨?_,(heap_setCell_other _ _ _ _ (by simp only;omega)).trans hi8,hlt,h.sp,h.len,?_,hoff⟩,⟨?_,fun q hp hq hne=>?_,fun q hq=>?_⟩⟩
 ·have:=heap_setCell_same w8 p 2 _ _ v8 hp8
  rw[this];rfl
 ·have ho':OwnL 50 10 TyA.cells w8 (p+1) v8 (L++[x]):=OwnL.snoc ho
  exact ho'.keep fun g hg1 _ _=>heap_setCell_other _ _ _ _ (by simp only;omega)
 ·have hb8:Below p W w8:=(hb4.mono (Nat.le_of_lt h.plt)).grown hg (Nat.le_of_lt h4.plt) fun q hq=>by have:=h4.ownlt hq;omega
  exact hb8.setCell (p:=⟨p,2,none⟩) (Nat.le_refl _) v8
 ·exact ((heap_setCell_other _ _ _ _ (by simpa using hp)).trans (hk q (by have:=hb4.size;omega) hne)).trans (hb4.block q hq)
 ·rcases hv with e|e
  ·exact .inl (e▸hq)
  ·rw[e] at hq
   have:=Option.some.inj hq
   have:=hb4.size
   exact .inr (by omega)
theorem flatten_set {k:Nat} (hk:0<k) (css:List (List Value)) (h:∀cs∈css,cs.length=k) {i j:Nat} (hi:i<css.length) (hj:j<k) (v:Value):css.flatten.set (i * k+j) v=(css.set i ((css[i]).set j v)).flatten:=by
 have hc:=h _ (List.getElem_mem hi)
 have h':∀ds∈css.set i ((css[i]).set j v),ds.length=k:=fun ds hd=>by
  rcases List.mem_or_eq_of_mem_set hd with e|e
  ·exact h ds e
  ·rw[e,List.length_set];exact hc
 apply List.ext_getElem?
 intro m
 rw[flatten_get hk _ _ h']
 by_cases e:i * k+j=m
 ·subst e
  have hfit:i * k+j<css.flatten.length:=by
   rw[flatten_len css h]
   have:=Nat.mul_le_mul_right k (show i+1≤css.length from hi)
   rw[Nat.succ_mul] at this
   omega
  rw[List.getElem?_set_self hfit,Nat.mul_comm i k,Nat.mul_add_div hk,Nat.mul_add_mod,Nat.div_eq_of_lt hj,Nat.mod_eq_of_lt hj,Nat.add_zero,List.getElem?_set_self hi]
  simp only[Option.bind_some]
  rw[List.getElem?_set_self (by omega)]
 ·rw[List.getElem?_set_ne e,flatten_get hk _ _ h]
  by_cases e2:m / k=i
  ·rw[e2,List.getElem?_set_self hi,zl hi]
   simp only[Option.bind_some]
   rw[List.getElem?_set_ne]
   intro e3
   apply e
   have:=Nat.div_add_mod m k
   rw[e2,Nat.mul_comm] at this
   omega
  ·rw[List.getElem?_set_ne (fun h=>e2 h.symm)]
theorem flat_map (L:List TyA):L.flatMap TyA.cells=(L.map TyA.cells).flatten:=by rw[List.flatMap_def]
theorem cells_len (x:TyA):x.cells.length=10:=rfl
theorem cells_ten (L:List TyA):∀cs∈L.map TyA.cells,cs.length=10:=fun cs hc=>by
 obtain ⟨x,_,rfl⟩:=List.mem_map.1 hc
 rfl
theorem TdS.at_ (h:TdS A n c p gi ix S W v L) {i:Nat} (hi:i<L.length):∃g cv,v = .slice (some ⟨g,0,none⟩) L.length cv∧(p<g∧g<W.heap.size)∧W.rangeAt g (i * 10) (L[i]).cells∧W.there g (i * 10) 10:=by
 obtain ⟨Av,cv,e,_,_,hr⟩:=h.own.reads
 obtain ⟨g,rfl,hg,hrg⟩:=hr (fun e=>by rw[e] at hi;cases hi)
 have hlt:=h.ownlt (q:=g) (by rw[e];rfl)
 have h1:=range_flat (k:=10) cells_len hrg (zl hi)
 rw[Nat.zero_add] at h1
 refine ⟨g,cv,e,hlt,h1,fun j hj=>⟨?_,?_⟩⟩
 ·have:=h1 j _ (zl (by rw[cells_len];exact hj))
  rw[this];rfl
 ·have ho:=h.own
  rw[e] at ho
  exact World.ownsRow.frozenAt ho (i * 10+j)
theorem TdS.setT (h:TdS A n c p gi ix S W v L) {i:Nat} (hi:i<L.length) {g cv:Nat} (hv:v = .slice (some ⟨g,0,none⟩) L.length cv) {x:TyA} (hx:Off (fun q=>S q∨v.ownBlock=some q) W fun u=>TyR u x.t x.As x.Am) :
  TdS A n c p gi ix S (W.setCells g (i * 10) x.cells) v (L.set i x)∧Chg p v v W (W.setCells g (i * 10) x.cells):=by
 have hg:=h.ownlt (q:=g) (by rw[hv];rfl)
 have hlt:=h.lt
 have hne:∀q,q≠g→(W.setCells g (i * 10) x.cells).heap[q]? = W.heap[q]? := fun q hq=>heap_setCells_ne hq _ _ _
 have hsv:v.ownBlock=some g:=by rw[hv];rfl
 refine ⟨⟨(hne p (by omega)).trans h.blk,(hne gi (by omega)).trans h.ixb,hlt,h.sp,h.len,?_,fun y hy=>?_⟩,⟨below_setsg g (by omega) _ _ _ (Below.refl _ _),fun q _ _ hq=>hne q (fun e=>hq (e▸hsv)),fun _ hq => .inl hq⟩⟩
 ·have ho:=h.own
  subst hv
  unfold OwnL at ho ⊢
  rw[List.length_set,flat_map,List.map_set,←setL_flatten (by omega) (L.map TyA.cells) i x.cells (cells_ten L) (cells_len x) (by rw[List.length_map];exact hi)] 
  rw[flat_map] at ho
  exact ownsRow_setCells x.cells _ (i * 10) W ho
 ·have hy':Off (fun q=>S q∨v.ownBlock=some q) W fun u=>TyR u y.t y.As y.Am:=by
   rcases List.mem_or_eq_of_mem_set hy with k|k
   ·exact h.off y k
   ·rw[k];exact hx
  exact hy'.setCells (.inr hsv) _ _
theorem TdS.setC (h:TdS A n c p gi ix S W v L) {i:Nat} (hi:i<L.length) {g cv:Nat} (hv:v = .slice (some ⟨g,0,none⟩) L.length cv) {j:Nat} (hj:j<10) {u:Value} {x:TyA} (hc:x.cells=(L[i]).cells.set j u) (hx:Off (fun q=>S q∨v.ownBlock=some q) W fun u=>TyR u x.t x.As x.Am) :
  TdS A n c p gi ix S (W.setCell ⟨g,i * 10+j,none⟩ u) v (L.set i x)∧Chg p v v W (W.setCell ⟨g,i * 10+j,none⟩ u):=by
 have hg:=h.ownlt (q:=g) (by rw[hv];rfl)
 have hlt:=h.lt
 have hne:∀q,q≠g→(W.setCell ⟨g,i * 10+j,none⟩ u).heap[q]? = W.heap[q]? := fun q hq=>heap_setCell_other _ _ _ _ (by simpa using hq)
 have hsv:v.ownBlock=some g:=by rw[hv];rfl
 refine ⟨⟨(hne p (by omega)).trans h.blk,(hne gi (by omega)).trans h.ixb,hlt,h.sp,h.len,?_,fun y hy=>?_⟩,⟨(Below.refl _ _).setCell (p:=⟨g,i * 10+j,none⟩) (by simp only;omega) _,fun q _ _ hq=>hne q (fun e=>hq (e▸hsv)),fun _ hq => .inl hq⟩⟩
 ·have ho:=h.own
  subst hv
  unfold OwnL at ho ⊢
  have hic:i<(L.map TyA.cells).length:=by rw[List.length_map];exact hi
  rw[List.length_set,flat_map,List.map_set,hc,show (L[i]).cells=(L.map TyA.cells)[i] by rw[List.getElem_map],←flatten_set (by omega) (L.map TyA.cells) (cells_ten L) hic hj u]
  rw[flat_map] at ho
  exact (World.ownsRow.stored ho (i * 10+j) u).1
 ·have hy':Off (fun q=>S q∨v.ownBlock=some q) W fun u=>TyR u y.t y.As y.Am:=by
   rcases List.mem_or_eq_of_mem_set hy with k|k
   ·exact h.off y k
   ·rw[k];exact hx
  exact hy'.set u (.inr hsv)
end
end Go.Proofs.YtdfolgmcggdjdaaGreatDoor


