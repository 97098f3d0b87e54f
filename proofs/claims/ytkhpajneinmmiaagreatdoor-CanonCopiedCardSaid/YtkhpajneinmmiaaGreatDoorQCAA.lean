/-
  Walks: canon.Canon: the states.
-/
import Derived.Test.YtkhpajneinmmiaaGreatDoorQRN2
import Derived.Test.YtkhpajneinmmiaaGreatDoorQCL
import Derived.Test.YtkhpajneinmmiaaGreatDoorQUS
import Derived.Test.YtkhpajneinmmiaaGreatDoorQEXG
namespace Go.Proofs.YtkhpajneinmmiaaGreatDoor
open Go.RowKit
set_option maxHeartbeats 16000000
set_option maxRecDepth 100000
theorem hasK_updK {κ:Type} [DecidableEq κ] (l:List (κ×Value)) (k k':κ) (v:Value):hasK (updK l k v) k'=(decide (k'=k)||hasK l k'):=by
 have hg:∀m:List (κ×Value),hasK m k'=((fnd k' m 0).map (·.2)).isSome:=fun m=>by unfold hasK;cases fnd k' m 0 <;> rfl
 rw[hg,hg]
 unfold updK
 cases h:fnd k l 0 with
 | some x =>
  obtain ⟨i,u⟩:=x
  simp only
  rw[fnd_setV v l i 0 0 k k' u (by rw[h];simp)]
  by_cases e:k'=k <;> simp[e]
 | none =>
  simp only
  cases h2:fnd k' l 0 with
  | some x =>
   rw[fnd_append_some h2]
   simp
  | none =>
   rw[fnd_append_none h2,fnd,fnd]
   by_cases e:k'=k <;> simp[e]
def numV (o:List Int) (c:Int):Int:=if c∈o then idxI o c else 0
def NumAt (w:World) (b:Nat) (o:List Int):Prop:=∃l,MapAt (Value.int .i64) w b l∧∀k,getV l k (.int .i64 0) = .int .i64 (numV o k)∧hasK l k=memD k o
theorem NumAt.blt {w:World} {b:Nat} {o:List Int} (h:NumAt w b o):b<w.heap.size:=by
 obtain ⟨l,h,_⟩:=h
 exact (zg.1 h).1
theorem NumAt.keep {w w':World} {b:Nat} {o:List Int} (h:NumAt w b o) (hk:w'.heap[b]? = w.heap[b]?):NumAt w' b o:=by
 obtain ⟨l,h,h2⟩:=h
 exact ⟨l,hk.trans h,h2⟩
theorem NumAt.below {w w':World} {b:Nat} {o:List Int} (h:NumAt w b o) (hb:Below w.heap.size w w'):NumAt w' b o:=h.keep (hb.block b h.blt)
theorem NumAt.new (w:World):NumAt (w.alloc (.map #[] 0)) w.heap.size []:=⟨[],heap_alloc_new w _,fun k=>⟨by simp[getV,fnd,numV],by simp[hasK,fnd,memD]⟩⟩
theorem NumAt.look {w:World} {b:Nat} {o:List Int} (h:NumAt w b o) (k:Int) :
  (Instr.lookup 85 (.map (some b)) (.int .i64 k) true).run Tryz.prog w = .ok (.tuple #[.int .i64 (numV o k),.bool (memD k o)]) w:=by
 obtain ⟨l,h1,h2⟩:=h
 rw[lookup_run (P:=Tryz.prog) (KT:=3) (MT:=85) (ET:=3) keyOk_int Tryz.underlying85 zeroInt h1 k true,(h2 k).1,(h2 k).2];rfl
theorem NumAt.look1 {w:World} {b:Nat} {o:List Int} (h:NumAt w b o) (k:Int) :
  (Instr.lookup 85 (.map (some b)) (.int .i64 k) false).run Tryz.prog w = .ok (.int .i64 (numV o k)) w:=by
 obtain ⟨l,h1,h2⟩:=h
 rw[lookup_run (P:=Tryz.prog) (KT:=3) (MT:=85) (ET:=3) keyOk_int Tryz.underlying85 zeroInt h1 k false,(h2 k).1];rfl
theorem idxI_snoc {o:List Int} {k c:Int} (hk:k ∉ o):idxI (o++[k]) c=if c=k then (o.length:Int) else idxI o c:=by
 by_cases e:c=k
 ·subst e
  rw[if_pos rfl]
  refine idxI_at (k:=o.length) (by simp) (by simp) fun j hj hc=>?_
  rw[List.getElem_append_left hj] at hc
  exact hk (hc▸List.getElem_mem hj)
 ·rw[if_neg e]
  by_cases hc:c∈o
  ·obtain ⟨j,hj,h1,h2⟩:=idxI_mem hc
   rw[h1]
   have hjc:o[j]=c:=by rw[zl hj] at h2;exact Option.some.inj h2
   refine idxI_at (k:=j) (by simp;omega) (by rw[List.getElem_append_left hj];exact hjc) fun m hm hmc=>?_
   rw[List.getElem_append_left (by omega)] at hmc
   have:=idxOf_le o m (by omega) hmc
   have h3:idxI o c=((o.idxOf c:Nat):Int):=by unfold idxI;rw[if_pos hc]
   omega
  ·unfold idxI
   rw[if_neg hc,if_neg (by simp[hc,e])]
theorem NumAt.put {w:World} {b:Nat} {o:List Int} (h:NumAt w b o) {k:Int} (hk:k ∉ o) :
  ∃w',(Instr.mapUpdate 85 (.map (some b)) (.int .i64 k) (.int .i64 (o.length:Int))).run Tryz.prog w = .ok () w'∧NumAt w' b (o++[k])∧w.grownBy w' (some b)∧w'.heap.size=w.heap.size:=by
 obtain ⟨l,h1,h2⟩:=h
 obtain ⟨w',e1,e2,e3⟩:=mapUpdate_run (P:=Tryz.prog) (KT:=3) (MT:=85) (ET:=3) keyOk_int Tryz.underlying85 h1 k (.int .i64 (o.length:Int))
 refine ⟨w',e1,⟨_,e2,fun k'=>⟨?_,?_⟩⟩,e3⟩
 ·rw[getV_updK,(h2 k').1]
  unfold numV
  rw[idxI_snoc hk]
  by_cases e:k'=k
  ·simp[e]
  ·simp[e]
 ·rw[hasK_updK,(h2 k').2,memD_snoc]
  by_cases e:k'=k <;> simp[e]
theorem run_append_o {T E:TypeId} {size bytes:Nat} (hE:Elem T E size bytes) (w:World) (base:Nat) (ty:TypeId) (v:Value) (n:Nat) (xs:List Value) (h:w.ownsRow base E size v n xs) (b o m c:Nat) (news:List Value) (hl:news.length=m * size)
  (hnews:w.rangeAt b o news) (h1:∀u∈news,u.oneCell'=true) (hlen:n+m≤9223372036854775807) (hby:(n+m) * bytes≤140737488355328) (hb:base≤w.heap.size) :
  ∃v' w',(Builtin.append_ #[T,T] ty #[v,.slice (some ⟨b,o,none⟩) m c]).run Tryz.prog w = .ok v' w'∧w'.ownsRow base E size v' (n+m) (xs++news)∧w.grownBy w' v.ownBlock∧(v'.ownBlock=v.ownBlock∨v'.ownBlock=some w.heap.size):=by
 obtain ⟨z,hinf,hzs⟩:=hE.info
 obtain ⟨i0,hi,hz0,hz1,hz2⟩:=info_parts hinf
 obtain ⟨v',w',hr,h2,h3,_,h5⟩:=run_append_own_at (P:=Tryz.prog) w base T ty E i0 z size bytes hE.under hi hz0 hz1 hz2 hzs hE.pos v n xs h ⟨b,o,none⟩ m c news hl (fun j u hj=>by rw[Addr.add_mid];exact hnews j u hj) h1 (by unfold maxLen;omega) hby hb
 exact ⟨v',w',hr,h2,h3,h5⟩
theorem step_append_o {T E:TypeId} {size bytes:Nat} (hE:Elem T E size bytes) {w:World} {ops:Array Oper} {op:Oper} {a:Act} {K:Act→World→Prop} {Q:Exit→Act→World→Prop} {El:Prop} (hgd:op.guard=none) (s x:Operand)
  (ho:op.op = .call { callee := .builtin .append,args:=#[s,x],argTypes:=#[T,T] }) (base:Nat) (v:Value) (n:Nat) (xs:List Value) (hs:a.eval s=v) (h:w.ownsRow base E size v n xs) (b o m c:Nat) (news:List Value) (hx:a.eval x = .slice (some ⟨b,o,none⟩) m c)
  (hl:news.length=m * size) (hnews:w.rangeAt b o news) (h1:∀u∈news,u.oneCell'=true) (hlen:n+m≤9223372036854775807) (hby:(n+m) * bytes≤140737488355328) (hb:base≤w.heap.size)
  (hk:∀v' w',w'.ownsRow base E size v' (n+m) (xs++news)→w.grownBy w' v.ownBlock→(v'.ownBlock=v.ownBlock∨v'.ownBlock=some w.heap.size)→K (a.put op.dst v') w'):if Region.wanted op (yielded ops a.tmps)=true then Oper.wp Tryz.prog op a w K Q else El:=by
 have hw:Region.wanted op (yielded ops a.tmps)=true:=by simp[Region.wanted,hgd]
 rw[if_pos hw]
 obtain ⟨v',w',hr,h2,h3,h5⟩:=run_append_o hE w base op.type v n xs h b o m c news hl hnews h1 hlen hby hb
 unfold Oper.wp execOp
 simp only[ho,resolve,invoke,builtin,Sem.run_bind,Sem.run_pure,Result.andThen_ok,List.map_toArray,List.map_cons,List.map_nil,hs,hx,hr]
 exact hk v' w' h2 h3 h5
theorem elem_ty:Elem 28 70 10 120:=⟨Tryz.underlying28,⟨.agg #[.int .i64 0,.string ⟨#[]⟩,.int .i64 0,.int .i64 0,.int .i64 0,.slice none 0 0,.slice none 0 0,.int .i64 0,.int .i64 0,.bool false],by kernel_rfl,rfl⟩,by omega⟩
structure OutSt (po:Nat) (wr:World) (v:Value) (L:List TyA):Prop where
 own:OwnL 70 10 TyA.cells wr (po+1) v L
 off:∀x∈L,Off (fun q=>q≤po∨v.ownBlock=some q) wr fun u=>TyR u x.t x.As x.Am
theorem OutSt.below {po:Nat} {wr w':World} {v:Value} {L:List TyA} (h:OutSt po wr v L) (hb:Below wr.heap.size wr w'):OutSt po w' v L:=⟨h.own.below hb,fun x hx=>(h.off x hx).low hb⟩
theorem OutSt.nil (po:Nat) (wr:World):OutSt po wr (.slice none 0 0) []:=⟨OwnL.nil _ _,fun x hx=>by cases hx⟩
theorem OutSt.set {po:Nat} {wr w':World} {v:Value} {L:List TyA} (h:OutSt po wr v L) (hs:wr.heap.size≤w'.heap.size) {b:Nat} (hb:b≤po) (hk:∀q,q≠b→q<wr.heap.size→w'.heap[q]? = wr.heap[q]?):OutSt po w' v L :=
 ⟨h.own.keep fun g h1 h2 _=>hk g (by omega) h2,fun x hx=>(h.off x hx).step hs fun q hq hl=>hk q (fun e=>hq (.inl (e▸hb))) hl⟩
theorem OutSt.snoc {po:Nat} {wr w':World} {v v':Value} {L:List TyA} {x:TyA} (h:OutSt po wr v L) (hx:Off (fun q=>q≤po∨v.ownBlock=some q) wr fun u=>TyR u x.t x.As x.Am)
  (ho:w'.ownsRow (po+1) 70 10 v' (L.length+1) (L.flatMap TyA.cells++x.cells)) (hg:wr.grownBy w' v.ownBlock) (hv:v'.ownBlock=v.ownBlock∨v'.ownBlock=some wr.heap.size):OutSt po w' v' (L++[x]):=by
 refine ⟨OwnL.snoc ho,fun y hy=>?_⟩
 have hy':Off (fun q=>q≤po∨v.ownBlock=some q) wr fun u=>TyR u y.t y.As y.Am:=by
  rcases List.mem_append.1 hy with k|k
  ·exact h.off y k
  ·obtain rfl:y=x:=by simpa using k
   exact hx
 intro u hu
 refine hy' u fun q hq hl=>?_
 have hqw:w'.heap[q]? = wr.heap[q]? := zN hg hl fun k hk e=>hq (.inr (by rw[hk,e]))
 rw[←hqw]
 refine hu q (fun hs=>hs.elim (fun h1=>hq (.inl h1)) fun h2=>?_) (Nat.lt_of_lt_of_le hl hg.size)
 rcases hv with e|e
 ·exact hq (.inr (e▸h2))
 ·rw[e] at h2
  have:=Option.some.inj h2
  omega
theorem OutSt.rows {po:Nat} {wr:World} {v:Value} {L:List TyA} (h:OutSt po wr v L) (hl:L.length≤1000):∃A c,v = .slice A L.length c∧TysR wr A (L.map (·.t)):=by
 obtain ⟨A,c,hv,hr⟩:=OwnL.rows (bytes:=120) h.own (fun _=>rfl) (by unfold Lim;omega) (at_:=fun x cs=>TyD.At wr x.t cs) (fun x hx=>⟨x.As,x.cs,x.Am,x.cm,rfl,(h.off x hx).out⟩)
 refine ⟨A,c,hv,by unfold Lim;rw[List.length_map];omega,fun hn=>?_⟩
 obtain ⟨b,o,e,hi⟩:=hr.2 (fun e=>hn (by rw[e];rfl))
 refine ⟨b,o,e,fun i x hx=>?_⟩
 rw[List.getElem?_map] at hx
 obtain ⟨y,hy,rfl⟩:=Option.map_eq_some_iff.1 hx
 exact hi i y hy
theorem canon1_any (t p q pm:Nat) (Ac:Option Addr) (cc:Nat) (cls ord:List Int) (w:World) (hc:IntsR w Ac cls) (ht:t<cls.length) (hp:w.cell? ⟨p,0,none⟩=some (.map (some pm))) (hq:w.cell? ⟨q,0,none⟩=some (.slice Ac cls.length cc)) (hn:NumAt w pm ord) :
  Calls Tryz.prog 48 #[.int .i64 (t:Int),.pointer (some ⟨p,0,none⟩),.pointer (some ⟨q,0,none⟩)] w fun e w'=>e = .returned (.int .i64 (numV ord cls[t]))∧Below w.heap.size w w':=by
 have hlen:=hc.1
 unfold Lim at hlen
 obtain ⟨b,o,rfl,c0⟩:=hc.at1 ht
 have hlk:=fun k:Nat=>NumAt.look1 (w:=w.drewN k) (hn.keep rfl) cls[t]
 have hlk0:=NumAt.look1 hn cls[t]
 have h1:(0:Int)≤(t:Int):=by omega
 have h2:(t:Int)<(cls.length:Int):=by omega
 clear hc hn
 go_enter Tryz.func48,Tryz.ntmps48
 go_wp2
 go_quiet (fail)
 go_wp2
 go_ret
 exact ⟨rfl,zE (Below.refl _ _) _⟩
abbrev zboxR:Obj := .cells #[.slice none 0 0,.int .i64 0] 32
def CanonPost (s:List TyD) (t:Int) (w:World) (e:Ending) (w':World):Prop :=
 ∃A c l,e = .returned (.tuple #[rootV A l.length c 0,.int .i64 (zH s t)])∧TysR w' A l∧(zH s t=0→CanonIs s t l)∧(zH s t≠0→l=[])∧Below w.heap.size w w'
structure CnW (s:List TyD) (t:Int) (A:Option Addr) (c:Nat) (w:World) (p5:Nat) (cls:List Int) (Ac:Option Addr) (cc:Nat) (W0:World):Prop where
 bel:Below w.heap.size w W0
 box:W0.heap[w.heap.size]? = some (rootB A s.length c t)
 res:W0.heap[w.heap.size+1]? = some zboxR
 lt:w.heap.size+1<p5
 top:p5+1=W0.heap.size
 var:W0.heap[p5]? = some (.cells #[.slice Ac s.length cc] 43 (0,0))
 clen:cls.length=s.length
 ints:IntsR W0 Ac cls
structure CnSt (W0:World) (p5:Nat) (ord:List Int) (a:Value) (wr:World):Prop where
 bel:Below W0.heap.size W0 wr
 top:p5+1=W0.heap.size
 num:NumAt wr (p5+1) ord
 var:wr.heap[p5+2]? = some (.cells #[.map (some (p5+1))] 85 (0,0))
 own:OwnI wr (p5+3) a ord
section
variable {s:List TyD} {t:Int} {A:Option Addr} {c:Nat} {w:World} {p5:Nat} {cls:List Int} {Ac:Option Addr} {cc:Nat} {W0:World} {ord:List Int} {a:Value} {wr w':World}
theorem CnSt.below (h:CnSt W0 p5 ord a wr) (hb:Below wr.heap.size wr w'):CnSt W0 p5 ord a w' :=
 ⟨zA h.bel hb,h.top,h.num.below hb,(hb.block _ (zg.1 h.var).1).trans h.var,h.own.below hb⟩
theorem cn_cells (h:CnW s t A c w p5 cls Ac cc W0) (hb:Below W0.heap.size W0 wr):wr.cell? ⟨w.heap.size,0,none⟩=some (.slice A s.length c)∧wr.cell? ⟨w.heap.size,1,none⟩=some (.int .i64 t)∧wr.cell? ⟨p5,0,none⟩=some (.slice Ac s.length cc):=by
 have h5:=h.top
 have hl:=h.lt
 refine ⟨?_,?_,?_⟩
 ·rw[cell_of_row _ _ _ _ _ _ ((hb.block _ (by omega)).trans h.box)];rfl
 ·rw[cell_of_row _ _ _ _ _ _ ((hb.block _ (by omega)).trans h.box)];rfl
 ·rw[cell_of_row _ _ _ _ _ _ ((hb.block _ (by omega)).trans h.var)];rfl
theorem CnSt.vcell (h:CnSt W0 p5 ord a wr):wr.cell? ⟨p5+2,0,none⟩=some (.map (some (p5+1))):=by
 rw[cell_of_row _ _ _ _ _ _ h.var];rfl
theorem CnSt.put (h:CnSt W0 p5 ord a wr) {k:Int} (hk:k ∉ ord):∃w2,(Instr.mapUpdate 85 (.map (some (p5+1))) (.int .i64 k) (.int .i64 (ord.length:Int))).run Tryz.prog wr = .ok () w2∧w2.heap.size=wr.heap.size∧(∀q,q≠p5+1→q<wr.heap.size→w2.heap[q]? = wr.heap[q]?)∧Hid (NumAt w2 (p5+1) (ord++[k])∧Below W0.heap.size W0 w2 ∧
  w2.heap[p5+2]? = some (.cells #[.map (some (p5+1))] 85 (0,0))∧OwnI w2 (p5+3) a ord):=by
 obtain ⟨w2,h1,h2,h3,h4⟩:=h.num.put hk
 have ht:=h.top
 have hq:∀q,q≠p5+1→q<wr.heap.size→w2.heap[q]? = wr.heap[q]? := fun q hq hl=>zN h3 hl fun k hk e=>hq (by rw[e];exact (Option.some.inj hk).symm)
 exact ⟨w2,h1,h4,hq,h2,h.bel.grown h3 h.bel.size (fun k hk=>by have:=Option.some.inj hk;omega),(hq _ (by omega) (zg.1 h.var).1).trans h.var,h.own.keep fun g hg hl _=>hq g (by omega) hl⟩
theorem CnSt.app {w2 w3:World} {v:Value} {k:Int} (ht:p5+1=W0.heap.size) (hn:NumAt w2 (p5+1) (ord++[k])) (hb:Below W0.heap.size W0 w2) (hvar:w2.heap[p5+2]? = some (.cells #[.map (some (p5+1))] 85 (0,0))) (ho:OwnI w2 (p5+3) a ord)
  (hr:w3.ownsRow (p5+3) 3 1 v (ord.length+1) (ord.flatMap encI++[.int .i64 k])) (hg:w2.grownBy w3 a.ownBlock):CnSt W0 p5 (ord++[k]) v w3:=by
 refine ⟨hb.grown hg hb.size (fun q hq=>by have:=ho.lt q hq;omega),ht,hn.keep (zN hg hn.blt fun q hq e=>?_),zX hvar ho (by decide) hg,OwnL.snoc (x:=k) hr⟩
 have:=ho.lt q hq
 omega
theorem cn_start (h:CnW s t A c w p5 cls Ac cc W0) (k:Int):∃w4,(Instr.mapUpdate 85 (.map (some (p5+1))) (.int .i64 k) (.int .i64 0)).run Tryz.prog (W0.alloc (.map #[] 0)) = .ok () w4∧w4.heap.size=p5+2∧Hid (Below W0.heap.size W0 w4) ∧
  Hid (CnSt W0 p5 [k] (.slice (some ⟨p5+3,0,none⟩) 1 1) ((w4.alloc (.cells #[.map (some (p5+1))] 85)).alloc (.cells #[.int .i64 k] 3))):=by
 have ht:=h.top
 obtain ⟨w4,h1,h2,h3,h4⟩:=(NumAt.new W0).put (k:=k) (by simp)
 have hb:Below W0.heap.size W0 w4:=(zD W0 (.map #[] 0)).grown h3 (by simp) (fun q hq=>by have:=Option.some.inj hq;omega)
 have hz:w4.heap.size=p5+2:=by rw[h4];simp;omega
 rw[←ht] at h1 h2
 refine ⟨w4,h1,hz,hb,zA hb (zC _ _ _),ht,h2.below (zC _ _ _),?_,?_⟩
 ·have:=yS (heap_alloc_new w4 (.cells #[.map (some (p5+1))] 85)) (.cells #[.int .i64 k] 3)
  rwa [hz] at this
 ·refine ⟨rfl,.inr ⟨p5+3,1,#[.int .i64 k],rfl,Nat.le_refl _,?_,Nat.le_refl _,by simp[maxLen],rfl,rfl⟩⟩
  have:=heap_alloc_new (w4.alloc (.cells #[.map (some (p5+1))] 85)) (.cells #[.int .i64 k] 3)
  rwa [show (w4.alloc (.cells #[.map (some (p5+1))] 85)).heap.size=p5+3 by simp[hz]] at this
theorem fold_take {l o:List Int} {m:Nat} (hm:m<l.length):(l.take (m+1)).foldl addN o=addN ((l.take m).foldl addN o) l[m]:=by
 rw[List.take_succ_eq_append_getElem hm,List.foldl_append];rfl
end
def TyCells (w':World) (b o i:Nat) (x:TyD) (As:Option Addr) (cs:Nat) (Am:Option Addr) (cm:Nat):Prop:=(w'.cell? ⟨b,o+i * 10,none⟩=some (.int .i64 x.kind)∧w'.cell? ⟨b,o+i * 10+1,none⟩=some (.string x.name)∧w'.cell? ⟨b,o+i * 10+2,none⟩=some (.int .i64 x.low)∧w'.cell? ⟨b,o+i * 10+3,none⟩=some (.int .i64 x.high)∧w'.cell? ⟨b,o+i * 10+4,none⟩=some (.int .i64 x.max)∧w'.cell? ⟨b,o+i * 10+5,none⟩=some (.slice As x.syms.length cs)∧w'.cell? ⟨b,o+i * 10+6,none⟩=some (.slice Am x.mems.length cm)∧w'.cell? ⟨b,o+i * 10+7,none⟩=some (.int .i64 x.key)∧w'.cell? ⟨b,o+i * 10+8,none⟩=some (.int .i64 x.elem)∧w'.cell? ⟨b,o+i * 10+9,none⟩=some (.bool x.open_))
theorem TyCells.below {w w':World} {b o i:Nat} {x:TyD} {As:Option Addr} {cs:Nat} {Am:Option Addr} {cm:Nat} (h:TyCells w b o i x As cs Am cm) (hb:Below w.heap.size w w'):TyCells w' b o i x As cs Am cm:=by
 obtain ⟨h0,h1,h2,h3,h4,h5,h6,h7,h8,h9⟩:=h
 exact ⟨zB hb h0,zB hb h1,zB hb h2,zB hb h3,zB hb h4,zB hb h5,zB hb h6,zB hb h7,zB hb h8,zB hb h9⟩
theorem cn12 {wo w':World} {h0 b1 o1 k b o i:Nat} {A:Option Addr} {n c:Nat} {x:TyD} {As:Option Addr} {cs:Nat} {Am:Option Addr} {cm:Nat} {v:Value} (c1:wo.cell? ⟨h0,0,none⟩=some (.slice A n c)) (c2:wo.cell? ⟨b1,o1+k,none⟩=some v) (ht:TyCells wo b o i x As cs Am cm) (hb:Below wo.heap.size wo w') :
  ((w'.cell? ⟨h0,0,none⟩=some (.slice A n c)∧w'.cell? ⟨b1,o1+k,none⟩=some v)∧(w'.cell? ⟨b,o+i * 10,none⟩=some (.int .i64 x.kind)∧w'.cell? ⟨b,o+i * 10+1,none⟩=some (.string x.name)∧w'.cell? ⟨b,o+i * 10+2,none⟩=some (.int .i64 x.low)∧w'.cell? ⟨b,o+i * 10+3,none⟩=some (.int .i64 x.high)∧w'.cell? ⟨b,o+i * 10+4,none⟩=some (.int .i64 x.max)∧w'.cell? ⟨b,o+i * 10+5,none⟩=some (.slice As x.syms.length cs)∧w'.cell? ⟨b,o+i * 10+6,none⟩=some (.slice Am x.mems.length cm)∧w'.cell? ⟨b,o+i * 10+7,none⟩=some (.int .i64 x.key)∧w'.cell? ⟨b,o+i * 10+8,none⟩=some (.int .i64 x.elem)∧w'.cell? ⟨b,o+i * 10+9,none⟩=some (.bool x.open_)))∧Hid (Below wo.heap.size wo w') :=
 ⟨⟨⟨zB hb c1,zB hb c2⟩,ht.below hb⟩,hb⟩
theorem clsAt_get {cls:List Int} {n:Nat} (h:n<cls.length):clsAt cls (n:Int)=cls[n]:=by
 unfold clsAt
 rw[List.getD_eq_getElem?_getD,Int.toNat_natCast,zl h];rfl
theorem tyA_one (x:TyA):∀u∈x.cells,u.oneCell'=true:=fun u hu=>by
 unfold TyA.cells at hu
 simp only[List.mem_cons,List.mem_nil_iff,or_false] at hu
 rcases hu with rfl|rfl|rfl|rfl|rfl|rfl|rfl|rfl|rfl|rfl <;> rfl
theorem fold_len:∀ (l o:List Int),(l.foldl addN o).length≤o.length+l.length
 | [],o=>by simp
 | c::l,o=>by
  rw[List.foldl_cons,List.length_cons]
  have h1:=fold_len l (addN o c)
  have h2:(addN o c).length≤o.length+1:=by unfold addN;split <;> simp
  omega
structure CoSt (W3:World) (C:List TyD) (n:Nat) (wr:World):Prop where
 bel:Below W3.heap.size W3 wr
 out:∃L v,wr.heap[W3.heap.size]? = some (.cells #[v,.int .i64 0] 32 (0,0))∧OutSt W3.heap.size wr v L∧L.map (·.t)=C.take n
theorem cn25 {wo w':World} {h0 b o i:Nat} {A:Option Addr} {n c:Nat} {x:TyD} {As:Option Addr} {cs:Nat} {Am:Option Addr} {cm:Nat} {v:Value} (c1:wo.cell? ⟨h0,0,none⟩=some (.slice A n c)) (ht:TyCells wo b o i x As cs Am cm) (hb:Below wo.heap.size wo w') (hp:w'.heap[wo.heap.size]? = some (.cells #[v,.int .i64 0] 32 (0,0))) :
  (((w'.cell? ⟨wo.heap.size,0,none⟩=some v∧w'.frozen? ⟨wo.heap.size,0,none⟩=false)∧w'.cell? ⟨h0,0,none⟩=some (.slice A n c))∧(w'.cell? ⟨b,o+i * 10,none⟩=some (.int .i64 x.kind)∧w'.cell? ⟨b,o+i * 10+1,none⟩=some (.string x.name)∧w'.cell? ⟨b,o+i * 10+2,none⟩=some (.int .i64 x.low)∧w'.cell? ⟨b,o+i * 10+3,none⟩=some (.int .i64 x.high)∧w'.cell? ⟨b,o+i * 10+4,none⟩=some (.int .i64 x.max)∧w'.cell? ⟨b,o+i * 10+5,none⟩=some (.slice As x.syms.length cs)∧w'.cell? ⟨b,o+i * 10+6,none⟩=some (.slice Am x.mems.length cm)∧w'.cell? ⟨b,o+i * 10+7,none⟩=some (.int .i64 x.key)∧w'.cell? ⟨b,o+i * 10+8,none⟩=some (.int .i64 x.elem)∧w'.cell? ⟨b,o+i * 10+9,none⟩=some (.bool x.open_)))∧Hid (Below wo.heap.size wo w'∧w'.heap[wo.heap.size]? = some (.cells #[v,.int .i64 0] 32 (0,0))) :=
 ⟨⟨⟨⟨by rw[cell_of_row _ _ _ _ _ _ hp];rfl,frozen_of_row _ _ _ _ _ hp⟩,zB hb c1⟩,ht.below hb⟩,hb,hp⟩
theorem CoSt.start (W3:World) (C:List TyD):CoSt W3 C 0 (W3.alloc zboxR) :=
 ⟨zD _ _,[],_,heap_alloc_new _ _,OutSt.nil _ _,rfl⟩
theorem CoSt.next {W3:World} {C:List TyD} {n:Nat} {wr w8:World} {L:List TyA} {v:Value} {A8:Option Addr} {c8:Nat} {x:TyA} (hn:n<C.length) (hx:x.t=C[n]) (hL:L.map (·.t)=C.take n) (hb:Below W3.heap.size W3 w8) (hp:w8.heap[W3.heap.size]? = some (.cells #[v,.int .i64 0] 32 (0,0)))
  (hos:OutSt W3.heap.size wr v L) (hxo:Off (fun q=>q≤W3.heap.size∨v.ownBlock=some q) wr fun u=>TyR u x.t x.As x.Am) (ho:w8.ownsRow (W3.heap.size+1) 70 10 (.slice A8 (L++[x]).length c8) (L.length+1) (L.flatMap TyA.cells++x.cells)) (hg:wr.grownBy w8 v.ownBlock) (hv:(Value.slice A8 (L++[x]).length c8).ownBlock=v.ownBlock∨(Value.slice A8 (L++[x]).length c8).ownBlock=some wr.heap.size) :
  CoSt W3 C (n+1) (w8.setCell ⟨W3.heap.size,0,none⟩ (.slice A8 (L++[x]).length c8)):=by
 refine ⟨hb.setCell (p:=⟨W3.heap.size,0,none⟩) (Nat.le_refl _) _,L++[x],.slice A8 (L++[x]).length c8,?_,?_,?_⟩
 ·rw[heap_setCell_same _ _ 0 _ _ _ hp];rfl
 ·exact (OutSt.snoc hos hxo ho hg hv).set (by simp) (Nat.le_refl _) (fun q hq _=>heap_setCell_other _ _ _ _ (by simpa using hq))
 ·rw[List.map_append,hL,List.take_succ_eq_append_getElem hn];simp[hx]
theorem form_ids {t:TyD} (h:formD t=true):(∀s∈t.syms,In64 s.id)∧∀m∈t.mems,In64 m.id:=by
 have key:∀ (L:List (Int×ByteArray)) (b:Int) (K:List ByteArray),idsOk b K L=true→∀x∈L,In64 x.1:=by
  intro L
  induction L with
  | nil=>intro _ _ _ x hx;cases hx
  | cons y L ih =>
   intro b K h x hx
   rw[idsOk] at h
   simp only[Bool.and_eq_true,decide_eq_true_eq] at h
   obtain ⟨⟨⟨⟨⟨h1,h2⟩,h3⟩,h4⟩,h5⟩,h6⟩:=h
   rcases List.mem_cons.1 hx with e|e
   ·subst e;exact ⟨by omega,by omega⟩
   ·exact ih _ _ h6 x e
 unfold formD at h
 simp only[Bool.and_eq_true,decide_eq_true_eq] at h
 obtain ⟨⟨⟨⟨h1,h2⟩,h3⟩,h4⟩,h5⟩:=h
 have hs:t.kind≠4→t.syms=[]:=fun hk=>by
  rw[h3];unfold zT
  simp only[hk,if_false]
  repeat' split
  all_goals rfl
 have hm:t.kind≠5→t.kind≠6→t.mems=[]:=fun hk hk6=>by
  rw[h3];unfold zT
  simp only[hk,hk6,if_false]
  repeat' split
  all_goals rfl
 unfold caseD at h5
 constructor
 ·intro s hsm
  by_cases hk:t.kind=4
  ·simp only[hk] at h5
   have h6:symsD t.syms=true:=by simpa using h5
   unfold symsD idsD at h6
   simp only[Bool.and_eq_true] at h6
   exact key _ _ _ h6.1.1 (s.id,s.name) (List.mem_map.2 ⟨s,hsm,rfl⟩)
  ·rw[hs hk] at hsm;cases hsm
 ·intro m hmm
  have h6:∃r,memsD r t.mems=true:=by
   by_cases hk:t.kind=5
   ·simp only[hk] at h5
    exact ⟨true,by simpa using h5⟩
   ·by_cases hk6:t.kind=6
    ·simp only[hk6] at h5
     exact ⟨false,by simpa using h5⟩
    ·rw[hm hk hk6] at hmm;cases hmm
  obtain ⟨r,h6⟩:=h6
  unfold memsD idsD at h6
  simp only[Bool.and_eq_true] at h6
  exact key _ _ _ h6.1.2.1 (m.id,m.name) (List.mem_map.2 ⟨m,hmm,rfl⟩)
end Go.Proofs.YtkhpajneinmmiaaGreatDoor


