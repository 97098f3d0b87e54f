/-
  Walks: canon.relation (written by gen_rl2.py).
-/
import Derived.Test.YtkhpajneinmmiaaGreatDoorQRL1
import Derived.Test.YtkhpajneinmmiaaGreatDoorQPL
import Derived.Test.YtkhpajneinmmiaaGreatDoorQSC7
import Derived.Deep.LoopGhost
namespace Go.Proofs.YtkhpajneinmmiaaGreatDoor
open Go.RowKit
set_option maxHeartbeats 16000000
set_option maxRecDepth 100000
theorem mk_cells (t e:TypeId) (z:Value) (i:TypeInfo) (ht:Tryz.prog.underlying t=some (.slice e)) (hi:Tryz.prog.info? e=some i) (hz:i.zero=some z) (hzc:z.cells = #[z]) (hsz:i.size=1) (hby:i.bytes≤100) (n:Nat) (hn:n≤1000) (w:World) :
  (Instr.makeSlice t (.int .i64 (n:Int)) (.int .i64 (n:Int))).run Tryz.prog w = .ok (.slice (some ⟨w.heap.size,0,none⟩) n n) (w.alloc (.cells (List.replicate n z).toArray e)):=by
 have hb':(i.bytes:Int) * (n:Int)≤281474976710656:=by
  have:i.bytes * n≤100 * 1000:=Nat.mul_le_mul hby hn
  have h2:((i.bytes * n:Nat):Int)≤100000:=by omega
  rw[Int.natCast_mul] at h2
  omega
 have hr:=run_make (P:=Tryz.prog) w t e i z ht hi hz .i64 .i64 n n (by omega) (Int.le_refl _) hb' (by omega)
 simp only[Int.toNat_natCast,hsz,Nat.mul_one,hzc] at hr
 rw[hr]
 have:madeCells #[z] n=(List.replicate n z).toArray:=by
  apply Array.ext'
  rw[toList_madeCells_one]
 simp only[this]
theorem mk_rows (n:Nat) (hn:n≤1000) (w:World) :
  (Instr.makeSlice 61 (.int .i64 (n:Int)) (.int .i64 (n:Int))).run Tryz.prog w = .ok (.slice (some ⟨w.heap.size,0,none⟩) n n) (w.alloc (.cells (List.replicate n (.slice none 0 0)).toArray 60)):=by
 obtain ⟨i,hi,h1,h2,h3⟩:=info_parts (show (Tryz.prog.info? 60).map (fun i=>(i.zero,i.size,i.bytes))=some (some (.slice none 0 0),1,24) by kernel_rfl)
 exact mk_cells _ _ _ i Tryz.underlying61 hi h1 rfl h2 (by omega) n hn w
theorem mk_bits (n:Nat) (hn:n≤1000) (w:World) :
  (Instr.makeSlice 60 (.int .i64 (n:Int)) (.int .i64 (n:Int))).run Tryz.prog w = .ok (.slice (some ⟨w.heap.size,0,none⟩) n n) (w.alloc (.cells (List.replicate n (.bool false)).toArray 4)):=by
 obtain ⟨i,hi,h1,h2,h3⟩:=info_parts (show (Tryz.prog.info? 4).map (fun i=>(i.zero,i.size,i.bytes))=some (some (.bool false),1,1) by kernel_rfl)
 exact mk_cells _ _ _ i Tryz.underlying60 hi h1 rfl h2 (by omega) n hn w
theorem below_setg {B:Nat} {w w':World} (h:Below B w w') (g i:Nat) (hg:B≤g) (v:Value):Below B w (w'.setCell ⟨g,i,none⟩ v):=h.setCell hg v
def VarAt (w:World) (rb g n:Nat):Prop:=w.heap[rb]? = some (.cells #[.slice (some ⟨g,0,none⟩) n n] 61 (0,0))
theorem VarAt.cell {w:World} {rb g n:Nat} (h:VarAt w rb g n):w.cell? ⟨rb,0,none⟩=some (.slice (some ⟨g,0,none⟩) n n):=by
 rw[cell_of_row _ _ _ _ _ _ h];rfl
theorem VarAt.blt {w:World} {rb g n:Nat} (h:VarAt w rb g n):rb<w.heap.size:=(zg.1 h).1
structure R8 (w:World) (rb g n bx by_:Nat) (x y:TyD) (As:Option Addr) (cs:Nat) (Am:Option Addr) (cm:Nat) (Bs:Option Addr) (ds:Nat) (Bm:Option Addr) (dm:Nat):Prop where
 var:VarAt w rb g n
 tx:TBox w bx x As cs Am cm
 ty:TBox w by_ y Bs ds Bm dm
section
variable {w w':World} {rb g n bx by_:Nat} {x y:TyD} {As:Option Addr} {cs:Nat} {Am:Option Addr} {cm:Nat} {Bs:Option Addr} {ds:Nat} {Bm:Option Addr} {dm:Nat}
theorem R8.keep (h:R8 w rb g n bx by_ x y As cs Am cm Bs ds Bm dm) (hk:∀b,b=rb∨b=bx∨b=by_→w'.heap[b]? = w.heap[b]?):R8 w' rb g n bx by_ x y As cs Am cm Bs ds Bm dm :=
 ⟨(hk rb (.inl rfl)).trans h.var,(hk bx (.inr (.inl rfl))).trans h.tx,(hk by_ (.inr (.inr rfl))).trans h.ty⟩
theorem R8.below (h:R8 w rb g n bx by_ x y As cs Am cm Bs ds Bm dm) (hb:Below w.heap.size w w'):R8 w' rb g n bx by_ x y As cs Am cm Bs ds Bm dm :=
 h.keep fun b hbb=>by
  rcases hbb with rfl|rfl|rfl
  ·exact hb.block _ h.var.blt
  ·exact hb.block _ h.tx.blt
  ·exact hb.block _ h.ty.blt
theorem R8.grown (h:R8 w rb g n bx by_ x y As cs Am cm Bs ds Bm dm) {base:Nat} {v:Value} {l:List Bool} (ho:OwnB w base v l) (hg:w.grownBy w' v.ownBlock):R8 w' rb g n bx by_ x y As cs Am cm Bs ds Bm dm :=
 ⟨zX h.var ho (by decide) hg,zX h.tx ho (by decide) hg,zX h.ty ho (by decide) hg⟩
theorem R8.setg (h:R8 w rb g n bx by_ x y As cs Am cm Bs ds Bm dm) {rows:List Value} (ho:w.heap[g]? = some (.cells rows.toArray 60 (0,0))) (i:Nat) (v:Value):R8 (w.setCell ⟨g,i,none⟩ v) rb g n bx by_ x y As cs Am cm Bs ds Bm dm :=
 h.keep fun b hbb=>heap_setCell_other w ⟨g,i,none⟩ b v fun e=>by
  simp only at e
  subst e
  rcases hbb with rfl|rfl|rfl
  ·have:=h.var;unfold VarAt at this;rw[ho] at this;injection this with this;injection this with _ e2;exact absurd e2 (by decide)
  ·have:=h.tx;unfold TBox at this;rw[ho] at this;injection this with this;injection this with _ e2;exact absurd e2 (by decide)
  ·have:=h.ty;unfold TBox at this;rw[ho] at this;injection this with this;injection this with _ e2;exact absurd e2 (by decide)
theorem r8_cells (h:R8 w' rb g n bx by_ x y As cs Am cm Bs ds Bm dm):(w'.cell? ⟨rb,0,none⟩=some (.slice (some ⟨g,0,none⟩) n n)∧(w'.cell? ⟨bx,0,none⟩=some (.int .i64 x.kind)∧w'.cell? ⟨bx,1,none⟩=some (.string x.name)∧w'.cell? ⟨bx,2,none⟩=some (.int .i64 x.low)∧w'.cell? ⟨bx,3,none⟩=some (.int .i64 x.high)∧w'.cell? ⟨bx,4,none⟩=some (.int .i64 x.max)∧w'.cell? ⟨bx,5,none⟩=some (.slice As x.syms.length cs)∧w'.cell? ⟨bx,6,none⟩=some (.slice Am x.mems.length cm)∧w'.cell? ⟨bx,7,none⟩=some (.int .i64 x.key)∧w'.cell? ⟨bx,8,none⟩=some (.int .i64 x.elem)∧w'.cell? ⟨bx,9,none⟩=some (.bool x.open_))∧(w'.cell? ⟨by_,0,none⟩=some (.int .i64 y.kind)∧w'.cell? ⟨by_,1,none⟩=some (.string y.name)∧w'.cell? ⟨by_,2,none⟩=some (.int .i64 y.low)∧w'.cell? ⟨by_,3,none⟩=some (.int .i64 y.high)∧w'.cell? ⟨by_,4,none⟩=some (.int .i64 y.max)∧w'.cell? ⟨by_,5,none⟩=some (.slice Bs y.syms.length ds)∧w'.cell? ⟨by_,6,none⟩=some (.slice Bm y.mems.length dm)∧w'.cell? ⟨by_,7,none⟩=some (.int .i64 y.key)∧w'.cell? ⟨by_,8,none⟩=some (.int .i64 y.elem)∧w'.cell? ⟨by_,9,none⟩=some (.bool y.open_)))∧Hid (R8 w' rb g n bx by_ x y As cs Am cm Bs ds Bm dm) :=
 ⟨⟨h.var.cell,⟨h.tx.cell 0,h.tx.cell 1,h.tx.cell 2,h.tx.cell 3,h.tx.cell 4,h.tx.cell 5,h.tx.cell 6,h.tx.cell 7,h.tx.cell 8,h.tx.cell 9⟩,⟨h.ty.cell 0,h.ty.cell 1,h.ty.cell 2,h.ty.cell 3,h.ty.cell 4,h.ty.cell 5,h.ty.cell 6,h.ty.cell 7,h.ty.cell 8,h.ty.cell 9⟩⟩,h⟩
end
theorem out_grown {w w':World} {base g:Nat} {rows:List Value} {M:List (List Bool)} (h:TabAt w base g rows M) {i:Nat} {v:Value} (hv:rows[i]? = some v) (hg:w.grownBy w' v.ownBlock):w'.heap[g]? = some (.cells rows.toArray 60 (0,0)) :=
 zX h.out (h.own i v _ hv (zl (h.lenOf hv))) (by decide) hg
structure FillSt (al:Nat→Nat→Bool) (W0:World) (n m i k:Nat) (wr:World):Prop where
 var:VarAt wr (W0.heap.size+1) W0.heap.size n
 tab:∃rows,TabAt wr W0.heap.size W0.heap.size rows (fillM al n m i k)
 bel:Below W0.heap.size W0 wr
theorem FillSt.below {al:Nat→Nat→Bool} {W0:World} {n m i k:Nat} {wr w':World} (h:FillSt al W0 n m i k wr) (hb:Below wr.heap.size wr w'):FillSt al W0 n m i k w':=by
 obtain ⟨rows,ht⟩:=h.tab
 exact ⟨(hb.block _ h.var.blt).trans h.var,⟨rows,ht.below hb⟩,zA h.bel hb⟩
theorem tmp_row {α:Type} {E E2 size:Nat} {enc:α→List Value} {W w':World} {b base gi:Nat} {cur:Array Value} {fr:Nat×Nat} {v:Value} {l:List α} (h:W.heap[b]? = some (.cells cur E fr)) (h2:OwnL E2 size enc W base v l) (hE:E≠E2) (hv:v.ownBlock=some gi) (hg:W.grownBy w' (some gi)):w'.heap[b]? = some (.cells cur E fr) :=
 zX h h2 hE (by rw[hv];exact hg)
structure RelSt (names:Bool) (a b:List TyD) (W0:World) (M:List (List Bool)) (wr:World):Prop where
 var:VarAt wr (W0.heap.size+1) W0.heap.size a.length
 tab:∃rows,TabAt wr W0.heap.size W0.heap.size rows M
 inv:TabInv (alD names a b) (okD a b) a.length b.length M
 bel:Below W0.heap.size W0 wr
theorem RelSt.below {names:Bool} {a b:List TyD} {W0:World} {M:List (List Bool)} {wr w':World} (h:RelSt names a b W0 M wr) (hb:Below wr.heap.size wr w'):RelSt names a b W0 M w':=by
 obtain ⟨rows,ht⟩:=h.tab
 exact ⟨(hb.block _ h.var.blt).trans h.var,⟨rows,ht.below hb⟩,h.inv,zA h.bel hb⟩
theorem RelAt.bitAt {w:World} {base rb g:Nat} {rows:List Value} {M:List (List Bool)} {n m:Nat} (h:RelAt w base rb g rows M n m) {i k:Nat} (hi:i<n) (hk:k<m) {gi c:Nat} (hrow:rows[i]? = some (.slice (some ⟨gi,0,none⟩) m c)):w.cell? ⟨g,i,none⟩=some (.slice (some ⟨gi,0,none⟩) m c)∧w.cell? ⟨gi,k,none⟩=some (.bool (getB M i k)):=by
 obtain ⟨gi',c',h1,h2,_,h4,_⟩:=h.bit hi hk
 rw[hrow] at h4
 have e:=Option.some.inj h4
 injection e with e1 _ e2
 injection e1 with e1
 injection e1 with e1
 subst e1;subst e2
 exact ⟨h1,h2⟩
section
variable {w':World} {base rb g n m bx by_:Nat} {x y:TyD} {As:Option Addr} {cs:Nat} {Am:Option Addr} {cm:Nat} {Bs:Option Addr} {ds:Nat} {Bm:Option Addr} {dm:Nat} {rows:List Value} {M:List (List Bool)}
theorem c20_cells (h:R8 w' rb g n bx by_ x y As cs Am cm Bs ds Bm dm) (hr:RelAt w' base rb g rows M n m) {i k:Nat} (hi:i<n) (hk:k<m) {gi c:Nat} (hrow:rows[i]? = some (.slice (some ⟨gi,0,none⟩) m c)) {v:Bool} (hv:getB M i k=v) :
  ((w'.cell? ⟨g,i,none⟩=some (.slice (some ⟨gi,0,none⟩) m c)∧w'.cell? ⟨gi,k,none⟩=some (.bool v))∧(w'.cell? ⟨rb,0,none⟩=some (.slice (some ⟨g,0,none⟩) n n)∧(w'.cell? ⟨bx,0,none⟩=some (.int .i64 x.kind)∧w'.cell? ⟨bx,1,none⟩=some (.string x.name)∧w'.cell? ⟨bx,2,none⟩=some (.int .i64 x.low)∧w'.cell? ⟨bx,3,none⟩=some (.int .i64 x.high)∧w'.cell? ⟨bx,4,none⟩=some (.int .i64 x.max)∧w'.cell? ⟨bx,5,none⟩=some (.slice As x.syms.length cs)∧w'.cell? ⟨bx,6,none⟩=some (.slice Am x.mems.length cm)∧w'.cell? ⟨bx,7,none⟩=some (.int .i64 x.key)∧w'.cell? ⟨bx,8,none⟩=some (.int .i64 x.elem)∧w'.cell? ⟨bx,9,none⟩=some (.bool x.open_))∧(w'.cell? ⟨by_,0,none⟩=some (.int .i64 y.kind)∧w'.cell? ⟨by_,1,none⟩=some (.string y.name)∧w'.cell? ⟨by_,2,none⟩=some (.int .i64 y.low)∧w'.cell? ⟨by_,3,none⟩=some (.int .i64 y.high)∧w'.cell? ⟨by_,4,none⟩=some (.int .i64 y.max)∧w'.cell? ⟨by_,5,none⟩=some (.slice Bs y.syms.length ds)∧w'.cell? ⟨by_,6,none⟩=some (.slice Bm y.mems.length dm)∧w'.cell? ⟨by_,7,none⟩=some (.int .i64 y.key)∧w'.cell? ⟨by_,8,none⟩=some (.int .i64 y.elem)∧w'.cell? ⟨by_,9,none⟩=some (.bool y.open_))))∧Hid (R8 w' rb g n bx by_ x y As cs Am cm Bs ds Bm dm∧RelAt w' base rb g rows M n m) :=
 ⟨⟨hv▸hr.bitAt hi hk hrow,(r8_cells h).1⟩,h,hr⟩
end
theorem strike_no {ok:(Nat→Nat→Bool)→Nat→Nat→Bool} {s:List (List Bool)×Bool} {i k:Nat} (h:getB s.1 i k=false∨ok (getB s.1) i k=true):strike ok s i k=s:=by
 unfold strike
 rw[if_neg]
 rcases h with h|h <;> simp[h]
theorem strike_yes {ok:(Nat→Nat→Bool)→Nat→Nat→Bool} {s:List (List Bool)×Bool} {i k:Nat} (h:getB s.1 i k=true) (h2:ok (getB s.1) i k=false):strike ok s i k=(setF s.1 i k,true):=by
 unfold strike
 rw[if_pos]
 simp[h,h2]
theorem uses_len (t:TyD) (h:Lim 160 t.mems.length):Lim 16 (usesD t).length:=by
 have:=toD_len t h
 unfold toD at this
 rw[List.length_map] at this
 unfold Lim
 omega
theorem own_pairs {E:Nat} {w:World} {base:Nat} {v:Value} {l:List (Int×Int)} (h:OwnL E 2 encP w base v l) (hl:Lim 16 l.length):∃A c,v = .slice A l.length c∧PairsR w A l:=OwnL.rows h (fun _=>rfl) hl fun _ _=>rfl
def RelPost (names:Bool) (a b:List TyD) (w:World) (e:Ending) (w':World):Prop :=
 ∃g rows M,e = .returned (.slice (some ⟨g,0,none⟩) a.length a.length)∧TabAt w' w.heap.size g rows M∧M.length=a.length∧(∀r∈M,r.length=b.length)∧GreatestR (alD names a b) (okD a b) (getB M)∧Below w.heap.size w w'
theorem relation_any (names:Bool) (a b:List TyD) (la:a.length≤32) (lb:b.length≤32) (ua:InR a) (ub:InR b) (A:Option Addr) (c:Nat) (B:Option Addr) (d:Nat) (w:World) (ha:TysR w A a) (hb:TysR w B b) :
  Calls Tryz.prog 43 #[.agg #[.slice A a.length c],.agg #[.slice B b.length d],.bool names] w (RelPost names a b w):=by
 have hmk:=mk_rows a.length (by omega)
 have HA:=zh ha
 have HB:=zh hb
 have HUA:=zh ua
 have HUB:=zh ub
 clear ha hb ua ub
 go_enter Tryz.func43,Tryz.ntmps43
 go_wp2
 clear hmk
 have HB0:=zh (zC w (.cells #[.slice A a.length c] 30) (.cells #[.slice B b.length d] 30))
 have HA0:=zh (HA.out.below HB0.out)
 have HBB0:=zh (HB.out.below HB0.out)
 have HCA:Hid (((w.alloc (.cells #[.slice A a.length c] 30)).alloc (.cells #[.slice B b.length d] 30)).cell? ⟨w.heap.size,0,none⟩=some (.slice A a.length c)):=zB (zD _ _) (by rw[cell_of_row _ _ _ _ _ _ (heap_alloc_new w _)];rfl)
 have HCB:Hid (((w.alloc (.cells #[.slice A a.length c] 30)).alloc (.cells #[.slice B b.length d] 30)).cell? ⟨w.heap.size+1,0,none⟩=some (.slice B b.length d)):=zh (by
  have h:=cell_of_row _ _ 0 _ _ _ (heap_alloc_new (w.alloc (.cells #[.slice A a.length c] 30)) (.cells #[.slice B b.length d] 30))
  rw[show (w.alloc (.cells #[.slice A a.length c] 30)).heap.size=w.heap.size+1 by simp] at h
  exact h)
 have HS0:Hid (((w.alloc (.cells #[.slice A a.length c] 30)).alloc (.cells #[.slice B b.length d] 30)).heap.size=w.heap.size+1+1):=by show _=_;simp
 rw[show w.heap.size+1+1=((w.alloc (.cells #[.slice A a.length c] 30)).alloc (.cells #[.slice B b.length d] 30)).heap.size from HS0.out.symm]
 generalize (w.alloc (.cells #[.slice A a.length c] 30)).alloc (.cells #[.slice B b.length d] 30)=W0 at *
 have HF0:Hid (FillSt (alD names a b) W0 a.length b.length 0 0 ((W0.alloc (.cells (List.replicate a.length (.slice none 0 0)).toArray 60)).alloc (.cells #[.slice (some ⟨W0.heap.size,0,none⟩) a.length a.length] 61))):=by
  refine ⟨?_,⟨List.replicate a.length (.slice none 0 0),?_⟩,zC _ _ _⟩
  ·have:=heap_alloc_new (W0.alloc (.cells (List.replicate a.length (.slice none 0 0)).toArray 60)) (.cells #[.slice (some ⟨W0.heap.size,0,none⟩) a.length a.length] 61)
   unfold VarAt
   rw[show (W0.alloc (.cells (List.replicate a.length (.slice none 0 0)).toArray 60)).heap.size=W0.heap.size+1 by simp] at this
   exact this
  ·refine ⟨yG (heap_alloc_new W0 _) _,Nat.le_refl _,by rw[fillM_len];simp,fun i v l hv hl=>?_,fun i j v u k hij hv hu hk=>?_⟩
   ·rw[fillM_zero] at hl
    have e1:v = .slice none 0 0:=(List.mem_replicate.1 (List.mem_of_getElem? hv)).2
    have e2:l=[]:=(List.mem_replicate.1 (List.mem_of_getElem? hl)).2
    subst e1;subst e2
    exact OwnL.nil _ _
   ·have e1:v = .slice none 0 0:=(List.mem_replicate.1 (List.mem_of_getElem? hv)).2
    subst e1
    cases hk
 go_loopw [24] (fun s wr=>∃i:Nat,i≤a.length∧s = .int .i64 i∧Hid (FillSt (alD names a b) W0 a.length b.length i 0 wr)) (fun s _=>a.length - (intOf s).toNat)
 case atStart=>exact ⟨0,by omega,rfl,HF0.out⟩
 case round =>
  obtain ⟨i,hi,rfl,hh⟩:=hrel
  obtain ⟨wo,rfl⟩:∃wo:World,wo=wr:=⟨_,rfl⟩
  have cA:=zB hh.out.bel HCA.out
  have cB:=zB hh.out.bel HCB.out
  by_cases hlt:i<a.length
  ·obtain ⟨b1,o1,As,cs,Am,cm,rfl,hr1,a0,a1,a2,a3,a4,a5,a6,a7,a8,a9⟩:=HA0.out.at10 hlt
   have HTX:=zh hr1
   clear hr1
   replace a0:=zB hh.out.bel a0
   replace a1:=zB hh.out.bel a1
   replace a2:=zB hh.out.bel a2
   replace a3:=zB hh.out.bel a3
   replace a4:=zB hh.out.bel a4
   replace a5:=zB hh.out.bel a5
   replace a6:=zB hh.out.bel a6
   replace a7:=zB hh.out.bel a7
   replace a8:=zB hh.out.bel a8
   replace a9:=zB hh.out.bel a9
   have h1:(0:Int)≤(i:Int):=by omega
   have h2:(i:Int)<(a.length:Int):=by omega
   have hz1:=zF a0
   simp only at hz1
   have HAK:Hid (∀k (hk:k<b.length),alD names a b i k=zM names a[i] b[k]):=fun k hk=>alD_at hlt hk
   have hzw:w.heap.size+1<wo.heap.size:=by have:=hh.out.bel.size;have:=HS0.out;omega
   generalize a[i]=x at *
   have HXB:Hid (TBox (wo.alloc (x.box As cs Am cm)) wo.heap.size x As cs Am cm):=heap_alloc_new wo _
   have HFI:=zh (hh.out.below (zD wo (x.box As cs Am cm)))
   go_wp2
   generalize wo.alloc (x.box As cs Am cm)=w5 at *
   clear a0 a1 a2 a3 a4 a5 a6 a7 a8 a9 cA cB
   obtain ⟨bx,hbx⟩:∃bx,bx=wo.heap.size:=⟨_,rfl⟩
   rw[←hbx] at HXB ⊢
   clear hbx hz1
   go_loopw [32] (fun s wr=>∃k:Nat,k≤b.length∧s = .int .i64 k∧Hid (FillSt (alD names a b) W0 a.length b.length i k wr∧TBox wr bx x As cs Am cm)) (fun s _=>b.length - (intOf s).toNat)
   case atStart=>exact ⟨0,by omega,rfl,HFI.out,HXB.out⟩
   case round =>
    obtain ⟨k,hk,rfl,hq⟩:=hrel
    obtain ⟨wp,rfl⟩:∃wp:World,wp=wr:=⟨_,rfl⟩
    by_cases hlk:k<b.length
    ·obtain ⟨b2,o2,Bs,ds,Bm,dm,rfl,hr2,e0,e1,e2,e3,e4,e5,e6,e7,e8,e9⟩:=HBB0.out.at10 hlk
     have HTY:=zh hr2
     clear hr2
     replace e0:=zB hq.out.1.bel e0
     replace e1:=zB hq.out.1.bel e1
     replace e2:=zB hq.out.1.bel e2
     replace e3:=zB hq.out.1.bel e3
     replace e4:=zB hq.out.1.bel e4
     replace e5:=zB hq.out.1.bel e5
     replace e6:=zB hq.out.1.bel e6
     replace e7:=zB hq.out.1.bel e7
     replace e8:=zB hq.out.1.bel e8
     replace e9:=zB hq.out.1.bel e9
     have g1:(0:Int)≤(k:Int):=by omega
     have g2:(k:Int)<(b.length:Int):=by omega
     have hz2:=zF e0
     simp only at hz2
     have HAK2:=zh (HAK.out k hlk)
     generalize b[k]=y at *
     have HYB:Hid (TBox (wp.alloc (y.box Bs ds Bm dm)) wp.heap.size y Bs ds Bm dm):=heap_alloc_new wp _
     have HFK:=zh (hq.out.1.below (zD wp (y.box Bs ds Bm dm)))
     have HXK:=zh (hq.out.2.below (zD wp (y.box Bs ds Bm dm)))
     go_wp2
     generalize wp.alloc (y.box Bs ds Bm dm)=wc at *
     clear e0 e1 e2 e3 e4 e5 e6 e7 e8 e9
     obtain ⟨by_,hby⟩:∃by_,by_=wp.heap.size:=⟨_,rfl⟩
     rw[←hby] at HYB ⊢
     clear hby hz2
     obtain ⟨rows,hta⟩:=HFK.out.tab
     have HIL:Hid (i<(fillM (alD names a b) a.length b.length i k).length):=by show _<_;rw[fillM_len];exact hlt
     have HPU:=zh (fillM_push (alD names a b) (m:=b.length) (k:=k) hlt HIL.out)
     rw[HAK2.out] at HPU
     obtain ⟨vrow,hvr,how,_,_⟩:=hta.row HIL.out
     have HVR:=zh hvr
     have HLN:Hid (((fillM (alD names a b) a.length b.length i k)[i]'HIL.out).length+1≤1000000):=by show _≤_;rw[fillM_rowlen _ hlt];simp;omega
     have HTA:Hid (TabAt wc.drew W0.heap.size W0.heap.size rows (fillM (alD names a b) a.length b.length i k)):=hta.below (zE (Below.refl _ _) 1)
     have HOW:Hid (OwnB wc.drew W0.heap.size vrow _):=OwnL.below how (zE (Below.refl _ _) 1)
     have HR8:Hid (R8 wc.drew (W0.heap.size+1) W0.heap.size a.length bx by_ x y As cs Am cm Bs ds Bm dm):=⟨HFK.out.var,HXK.out,HYB.out⟩
     have HBD:Hid (Below W0.heap.size W0 wc.drew):=zE HFK.out.bel 1
     have HBP:Hid (Below W0.heap.size W0 wc.drew):=HBD.out
     have HZ0:Hid (W0.heap.size≤wc.drew.heap.size):=HBD.out.size
     have H5:Hid (wc.drew.cell? ⟨W0.heap.size,i,none⟩=some vrow):=by have:=HTA.out.out;show _=_;rw[cell_of_row _ _ _ _ _ _ this];simpa using hvr
     clear hta hvr how
     refine wp_region_held_drew (S:=(fun w'=>(w'.cell? ⟨W0.heap.size+1,0,none⟩=some (.slice (some ⟨W0.heap.size,0,none⟩) a.length a.length)∧(w'.cell? ⟨bx,0,none⟩=some (.int .i64 x.kind)∧w'.cell? ⟨bx,1,none⟩=some (.string x.name)∧w'.cell? ⟨bx,2,none⟩=some (.int .i64 x.low)∧w'.cell? ⟨bx,3,none⟩=some (.int .i64 x.high)∧w'.cell? ⟨bx,4,none⟩=some (.int .i64 x.max)∧w'.cell? ⟨bx,5,none⟩=some (.slice As x.syms.length cs)∧w'.cell? ⟨bx,6,none⟩=some (.slice Am x.mems.length cm)∧w'.cell? ⟨bx,7,none⟩=some (.int .i64 x.key)∧w'.cell? ⟨bx,8,none⟩=some (.int .i64 x.elem)∧w'.cell? ⟨bx,9,none⟩=some (.bool x.open_))∧(w'.cell? ⟨by_,0,none⟩=some (.int .i64 y.kind)∧w'.cell? ⟨by_,1,none⟩=some (.string y.name)∧w'.cell? ⟨by_,2,none⟩=some (.int .i64 y.low)∧w'.cell? ⟨by_,3,none⟩=some (.int .i64 y.high)∧w'.cell? ⟨by_,4,none⟩=some (.int .i64 y.max)∧w'.cell? ⟨by_,5,none⟩=some (.slice Bs y.syms.length ds)∧w'.cell? ⟨by_,6,none⟩=some (.slice Bm y.mems.length dm)∧w'.cell? ⟨by_,7,none⟩=some (.int .i64 y.key)∧w'.cell? ⟨by_,8,none⟩=some (.int .i64 y.elem)∧w'.cell? ⟨by_,9,none⟩=some (.bool y.open_)))∧Hid (R8 w' (W0.heap.size+1) W0.heap.size a.length bx by_ x y As cs Am cm Bs ds Bm dm))) (by kernel_rfl) ?_ (fun zH_=>?_)
     ·(try dsimp only);exact r8_cells HR8.out
     (have hc5:=H5.out;generalize wc.drew=wd at *)
     refine tL 0 _ zH_ ?_
     try simp only[ps]
     refine tL 1 _ zH_ ?_
     try simp only[ps]
     refine tL 2 _ zH_ ?_
     try simp only[ps]
     refine tL 3 _ zH_ ?_
     try simp only[ps]
     refine tL 4 _ zH_ ?_
     try simp only[ps]
     refine tL 6 _ zH_ ?_
     try simp only[ps]
     refine tL 7 _ zH_ ?_
     try simp only[ps]
     refine tL 8 _ zH_ ?_
     try simp only[ps]
     refine wpAnyH_ready (rs:=[5,9]) (by kernel_rfl) (by simp) ?_
     refine (AllReadyH.cons rfl (fun K hK=>?_) (AllReadyH.cons rfl (fun K hK=>?_) AllReadyH.nil))
     ·
      go_simp
      refine hK.out _ _ ?_ (fun zH_=>?_)
      ·(try dsimp only);exact zH_
      clear hK K
      try simp only[ps]
      refine tR 9 (fun K hK=>?_)
      go_simp
      (refine (alike_any names x y As cs Am cm Bs ds Bm dm _ (HTX.out.below (zA HBP.out (Below.refl _ _))) (HTY.out.below HBP.out)).mono ?_;rintro e w9 ⟨rfl,hb9⟩)
      refine hK.out _ _ ?_ (fun zH_=>?_)
      ·(try dsimp only);exact r8_cells (zH_.2.out.below hb9)
      clear hK K
      try simp only[ps]
      refine tR 10 (fun K hK=>?_)
      go_simp
      refine hK.out _ _ ?_ (fun zH_=>?_)
      ·(try dsimp only);exact r8_cells (zH_.2.out.below (zD _ _))
      clear hK K
      try simp only[ps]
      refine tR 11 (fun K hK=>?_)
      (refine step_append_b (by rfl) (.tmp 41) (.tmp 46) (by rfl) W0.heap.size vrow _ (by rfl) ((HOW.out.below hb9).alloc (.cells #[.bool (zM names x y)] 4)) w9.heap.size (zM names x y) (by rfl) (zL w9 [.bool (zM names x y)] 4) HLN.out (by have:=HZ0.out;have:=hb9.size;simp;omega) ?_;intro v11 w11 ho11 hg11 hv11)
      refine hK.out _ _ ?_ (fun zH_=>?_)
      ·(try dsimp only);exact r8_cells (zH_.2.out.grown ((HOW.out.below hb9).alloc (.cells #[.bool (zM names x y)] 4)) hg11)
      clear hK K
      try simp only[ps]
      refine tL 12 _ zH_ ?_
      try simp only[ps]
      refine tR 13 (fun K hK=>?_)
      (have hog:=out_grown ((HTA.out.below hb9).below (zD _ (.cells #[.bool (zM names x y)] 4))) HVR.out hg11;have hcg:w11.cell? ⟨W0.heap.size,i,none⟩=some vrow:=(by rw[cell_of_row _ _ _ _ _ _ hog];simpa using HVR.out);have hfg:w11.frozen? ⟨W0.heap.size,i,none⟩=false:=frozen_of_row _ _ _ _ _ hog;obtain ⟨A11,c11,e11,_,_,_⟩:=ho11.reads;rw[List.length_append,List.length_singleton] at e11;subst e11;go_simp)
      refine hK.out _ _ ?_ (fun zH_=>?_)
      ·(try dsimp only);exact r8_cells (zH_.2.out.setg hog i _)
      clear hK K
      try simp only[ps]
      refine wpAnyH_done (by kernel_rfl) ?_ _
      (have HE1:=zh (((HTA.out.below hb9).below (zD _ (.cells #[.bool (zM names x y)] 4))).push HIL.out HVR.out ho11 hg11 hv11);have HE2:=zh zH_.2.out;have HE3:=zh (fun v=>below_setg (((HBD.out.trans (hb9.mono HZ0.out)).alloc (by have:=HZ0.out;have:=hb9.size;omega) (.cells #[.bool (zM names x y)] 4)).grown hg11 (by have:=HZ0.out;have:=hb9.size;simp;omega) (HOW.out.lt)) W0.heap.size i (Nat.le_refl _) v);clear zH_;(go_wp2;go_roundw;(case rel=>exact ⟨k+1,by omega,by go_num,⟨⟨HE2.out.var,⟨_,(by rw[←HPU.out];exact HE1.out)⟩,HE3.out _⟩,HE2.out.tx⟩⟩);(case measure=>simp[intOf];omega)))
     ·
      go_simp
      (refine (alike_any names x y As cs Am cm Bs ds Bm dm _ (HTX.out.below (zA HBP.out (Below.refl _ _))) (HTY.out.below HBP.out)).mono ?_;rintro e w9 ⟨rfl,hb9⟩)
      refine hK.out _ _ ?_ (fun zH_=>?_)
      ·(try dsimp only);exact r8_cells (zH_.2.out.below hb9)
      clear hK K
      try simp only[ps]
      refine wpAnyH_ready (rs:=[5,10]) (by kernel_rfl) (by simp) ?_
      refine (AllReadyH.cons rfl (fun K hK=>?_) (AllReadyH.cons rfl (fun K hK=>?_) AllReadyH.nil))
      ·
       (have hc5':=zB hb9 H5.out;go_simp)
       refine hK.out _ _ ?_ (fun zH_=>?_)
       ·(try dsimp only);exact zH_
       clear hK K
       try simp only[ps]
       refine tR 10 (fun K hK=>?_)
       go_simp
       refine hK.out _ _ ?_ (fun zH_=>?_)
       ·(try dsimp only);exact r8_cells (zH_.2.out.below (zD _ _))
       clear hK K
       try simp only[ps]
       refine tR 11 (fun K hK=>?_)
       (refine step_append_b (by rfl) (.tmp 41) (.tmp 46) (by rfl) W0.heap.size vrow _ (by rfl) ((HOW.out.below hb9).alloc (.cells #[.bool (zM names x y)] 4)) w9.heap.size (zM names x y) (by rfl) (zL w9 [.bool (zM names x y)] 4) HLN.out (by have:=HZ0.out;have:=hb9.size;simp;omega) ?_;intro v11 w11 ho11 hg11 hv11)
       refine hK.out _ _ ?_ (fun zH_=>?_)
       ·(try dsimp only);exact r8_cells (zH_.2.out.grown ((HOW.out.below hb9).alloc (.cells #[.bool (zM names x y)] 4)) hg11)
       clear hK K
       try simp only[ps]
       refine tL 12 _ zH_ ?_
       try simp only[ps]
       refine tR 13 (fun K hK=>?_)
       (have hog:=out_grown ((HTA.out.below hb9).below (zD _ (.cells #[.bool (zM names x y)] 4))) HVR.out hg11;have hcg:w11.cell? ⟨W0.heap.size,i,none⟩=some vrow:=(by rw[cell_of_row _ _ _ _ _ _ hog];simpa using HVR.out);have hfg:w11.frozen? ⟨W0.heap.size,i,none⟩=false:=frozen_of_row _ _ _ _ _ hog;obtain ⟨A11,c11,e11,_,_,_⟩:=ho11.reads;rw[List.length_append,List.length_singleton] at e11;subst e11;go_simp)
       refine hK.out _ _ ?_ (fun zH_=>?_)
       ·(try dsimp only);exact r8_cells (zH_.2.out.setg hog i _)
       clear hK K
       try simp only[ps]
       refine wpAnyH_done (by kernel_rfl) ?_ _
       (have HE1:=zh (((HTA.out.below hb9).below (zD _ (.cells #[.bool (zM names x y)] 4))).push HIL.out HVR.out ho11 hg11 hv11);have HE2:=zh zH_.2.out;have HE3:=zh (fun v=>below_setg (((HBD.out.trans (hb9.mono HZ0.out)).alloc (by have:=HZ0.out;have:=hb9.size;omega) (.cells #[.bool (zM names x y)] 4)).grown hg11 (by have:=HZ0.out;have:=hb9.size;simp;omega) (HOW.out.lt)) W0.heap.size i (Nat.le_refl _) v);clear zH_;(go_wp2;go_roundw;(case rel=>exact ⟨k+1,by omega,by go_num,⟨⟨HE2.out.var,⟨_,(by rw[←HPU.out];exact HE1.out)⟩,HE3.out _⟩,HE2.out.tx⟩⟩);(case measure=>simp[intOf];omega)))
      ·
       go_simp
       refine hK.out _ _ ?_ (fun zH_=>?_)
       ·(try dsimp only);exact r8_cells (zH_.2.out.below (zD _ _))
       clear hK K
       try simp only[ps]
       refine tR 5 (fun K hK=>?_)
       (have hc5':=zB (zD w9 (.cells #[.bool (zM names x y)] 4)) (zB hb9 H5.out);go_simp)
       refine hK.out _ _ ?_ (fun zH_=>?_)
       ·(try dsimp only);exact zH_
       clear hK K
       try simp only[ps]
       refine tR 11 (fun K hK=>?_)
       (refine step_append_b (by rfl) (.tmp 41) (.tmp 46) (by rfl) W0.heap.size vrow _ (by rfl) ((HOW.out.below hb9).alloc (.cells #[.bool (zM names x y)] 4)) w9.heap.size (zM names x y) (by rfl) (zL w9 [.bool (zM names x y)] 4) HLN.out (by have:=HZ0.out;have:=hb9.size;simp;omega) ?_;intro v11 w11 ho11 hg11 hv11)
       refine hK.out _ _ ?_ (fun zH_=>?_)
       ·(try dsimp only);exact r8_cells (zH_.2.out.grown ((HOW.out.below hb9).alloc (.cells #[.bool (zM names x y)] 4)) hg11)
       clear hK K
       try simp only[ps]
       refine tL 12 _ zH_ ?_
       try simp only[ps]
       refine tR 13 (fun K hK=>?_)
       (have hog:=out_grown ((HTA.out.below hb9).below (zD _ (.cells #[.bool (zM names x y)] 4))) HVR.out hg11;have hcg:w11.cell? ⟨W0.heap.size,i,none⟩=some vrow:=(by rw[cell_of_row _ _ _ _ _ _ hog];simpa using HVR.out);have hfg:w11.frozen? ⟨W0.heap.size,i,none⟩=false:=frozen_of_row _ _ _ _ _ hog;obtain ⟨A11,c11,e11,_,_,_⟩:=ho11.reads;rw[List.length_append,List.length_singleton] at e11;subst e11;go_simp)
       refine hK.out _ _ ?_ (fun zH_=>?_)
       ·(try dsimp only);exact r8_cells (zH_.2.out.setg hog i _)
       clear hK K
       try simp only[ps]
       refine wpAnyH_done (by kernel_rfl) ?_ _
       (have HE1:=zh (((HTA.out.below hb9).below (zD _ (.cells #[.bool (zM names x y)] 4))).push HIL.out HVR.out ho11 hg11 hv11);have HE2:=zh zH_.2.out;have HE3:=zh (fun v=>below_setg (((HBD.out.trans (hb9.mono HZ0.out)).alloc (by have:=HZ0.out;have:=hb9.size;omega) (.cells #[.bool (zM names x y)] 4)).grown hg11 (by have:=HZ0.out;have:=hb9.size;simp;omega) (HOW.out.lt)) W0.heap.size i (Nat.le_refl _) v);clear zH_;(go_wp2;go_roundw;(case rel=>exact ⟨k+1,by omega,by go_num,⟨⟨HE2.out.var,⟨_,(by rw[←HPU.out];exact HE1.out)⟩,HE3.out _⟩,HE2.out.tx⟩⟩);(case measure=>simp[intOf];omega)))
    ·have HNX:Hid (FillSt (alD names a b) W0 a.length b.length (i+1) 0 wp):=by
      have:=hq.out.1
      rw[show k=b.length by omega] at this
      exact ⟨this.var,by obtain ⟨rows,h⟩:=this.tab;exact ⟨rows,by rw[←fillM_row];exact h⟩,this.bel⟩
     go_wp2
     go_roundw
     case rel=>exact ⟨i+1,by omega,by go_num,HNX.out⟩
     case measure=>simp[intOf];omega
  ·have HR0:Hid (RelSt names a b W0 (fillM (alD names a b) a.length b.length a.length 0) wo):=by
    have:=hh.out
    rw[show i=a.length by omega] at this
    exact ⟨this.var,this.tab,fillM_tab fun i k h=>alD_lt h,this.bel⟩
   go_wp2
   go_loopg [12] (cntM (fillM (alD names a b) a.length b.length a.length 0)+1) (fun gk s wr=>∃ (ch:Bool) (M:List (List Bool)),s = .bool ch∧Hid (RelSt names a b W0 M wr∧gk=cntM M+(if ch then 1 else 0)∧(ch=false→GreatestR (alD names a b) (okD a b) (getB M))))
   case atStart=>exact ⟨true,_,rfl,HR0.out,rfl,fun h=>by cases h⟩
   case round =>
    obtain ⟨ch,M,rfl,hg⟩:=hrel
    obtain ⟨wq,rfl⟩:∃wq:World,wq=wr:=⟨_,rfl⟩
    cases ch with
    | false =>
     have HGR:=zh (hg.out.2.2 rfl)
     have vc:=hg.out.1.var.cell
     go_wp2
     go_ret
     obtain ⟨rows,ht⟩:=hg.out.1.tab
     exact ⟨_,rows,M,rfl,⟨ht.out,Nat.le_trans HB0.out.size ht.gb,ht.len,fun i v l hv hl=>(ht.own i v l hv hl).base HB0.out.size,ht.dis⟩,hg.out.1.inv.rows,hg.out.1.inv.cols,HGR.out,zA HB0.out hg.out.1.bel⟩
    | true =>
     have cA2:=zB hg.out.1.bel HCA.out
     have HGK:=zh hg.out.2.1
     have HRQ:=zh hg.out.1
     clear cA cB hh hlt hg
     go_wp2
     go_loopw [55,12] (fun s s12 wr=>∃i:Nat,i≤a.length∧s = .int .i64 i∧Hid (RelSt names a b W0 (sweep (okD a b) (yA b.length i 0) (M,false)).1 wr)∧s12 = .bool (sweep (okD a b) (yA b.length i 0) (M,false)).2) (fun s _ _=>a.length - (intOf s).toNat)
     case atStart=>exact ⟨0,by omega,rfl,HRQ.out,rfl⟩
     case round =>
      obtain ⟨i,hi,rfl,hh,rfl⟩:=hrel
      obtain ⟨wo,rfl⟩:∃wo:World,wo=wr:=⟨_,rfl⟩
      by_cases hlt:i<a.length
      ·have cA:=zB hh.out.bel HCA.out
       have cB:=zB hh.out.bel HCB.out
       obtain ⟨b1,o1,As,cs,Am,cm,e1,hr1,a0,a1,a2,a3,a4,a5,a6,a7,a8,a9⟩:=HA0.out.at10 hlt
       subst e1
       have HTX:=zh hr1
       clear hr1
       replace a0:=zB hh.out.bel a0
       replace a1:=zB hh.out.bel a1
       replace a2:=zB hh.out.bel a2
       replace a3:=zB hh.out.bel a3
       replace a4:=zB hh.out.bel a4
       replace a5:=zB hh.out.bel a5
       replace a6:=zB hh.out.bel a6
       replace a7:=zB hh.out.bel a7
       replace a8:=zB hh.out.bel a8
       replace a9:=zB hh.out.bel a9
       have h1:(0:Int)≤(i:Int):=by omega
       have h2:(i:Int)<(a.length:Int):=by omega
       have hz1:=zF a0
       simp only at hz1
       have HOK:Hid (∀S k (hk:k<b.length),okD a b S i k=zR S (usesD a[i]) (usesD b[k])):=fun S k hk=>okD_at hlt hk
       have HUX:=zh (HUA.out _ (List.getElem_mem hlt))
       have hzw:w.heap.size+1<wo.heap.size:=by have:=hh.out.bel.size;have:=HS0.out;omega
       generalize a[i]=x at *
       have HXB:Hid (TBox (wo.alloc (x.box As cs Am cm)) wo.heap.size x As cs Am cm):=heap_alloc_new wo _
       have HFI:=zh (hh.out.below (zD wo (x.box As cs Am cm)))
       go_wp2
       generalize wo.alloc (x.box As cs Am cm)=w5 at *
       clear a0 a1 a2 a3 a4 a5 a6 a7 a8 a9 cA cB cA2
       obtain ⟨bx,hbx⟩:∃bx,bx=wo.heap.size:=⟨_,rfl⟩
       rw[←hbx] at HXB ⊢
       clear hbx hz1
       go_loopw [63,12] (fun s s12 wr=>∃k:Nat,k≤b.length∧s = .int .i64 k∧Hid (RelSt names a b W0 (sweep (okD a b) (yA b.length i k) (M,false)).1 wr∧TBox wr bx x As cs Am cm)∧s12 = .bool (sweep (okD a b) (yA b.length i k) (M,false)).2) (fun s _ _=>b.length - (intOf s).toNat)
       case atStart=>exact ⟨0,by omega,rfl,⟨HFI.out,HXB.out⟩,rfl⟩
       case round =>
        obtain ⟨k,hk,rfl,hq,rfl⟩:=hrel
        obtain ⟨wp,rfl⟩:∃wp:World,wp=wr:=⟨_,rfl⟩
        by_cases hlk:k<b.length
        ·obtain ⟨b2,o2,Bs,ds,Bm,dm,e2,hr2,e0,e1,e2',e3,e4,e5,e6,e7,e8,e9⟩:=HBB0.out.at10 hlk
         subst e2
         have HTY:=zh hr2
         clear hr2
         have HSW:Hid (sweep (okD a b) (yA b.length i (k+1)) (M,false)=strike (okD a b) (sweep (okD a b) (yA b.length i k) (M,false)) i k):=by show _=_;rw[pairsTo_next,sweep_snoc]
         have HTI:=zh (tab_strike (alD names a b) (okD a b) (okD_mono a b) hq.out.1.inv i k)
         obtain ⟨T,hT⟩:∃T,T=sweep (okD a b) (yA b.length i k) (M,false):=⟨_,rfl⟩
         have hq1:=hq.out.1
         rw[←hT] at HSW HTI hq1 ⊢
         have HQ1:=zh hq1
         have HQ2:=zh hq.out.2
         clear hT hq hq1
         replace e0:=zB HQ1.out.bel e0
         replace e1:=zB HQ1.out.bel e1
         replace e2':=zB HQ1.out.bel e2'
         replace e3:=zB HQ1.out.bel e3
         replace e4:=zB HQ1.out.bel e4
         replace e5:=zB HQ1.out.bel e5
         replace e6:=zB HQ1.out.bel e6
         replace e7:=zB HQ1.out.bel e7
         replace e8:=zB HQ1.out.bel e8
         replace e9:=zB HQ1.out.bel e9
         have g1:(0:Int)≤(k:Int):=by omega
         have g2:(k:Int)<(b.length:Int):=by omega
         have hz2:=zF e0
         simp only at hz2
         have HOK2:=zh (HOK.out (getB T.1) k hlk)
         have HUY:=zh (HUB.out _ (List.getElem_mem hlk))
         generalize b[k]=y at *
         have HYB:Hid (TBox (wp.alloc (y.box Bs ds Bm dm)) wp.heap.size y Bs ds Bm dm):=heap_alloc_new wp _
         have HFK:=zh (HQ1.out.below (zD wp (y.box Bs ds Bm dm)))
         have HXK:=zh (HQ2.out.below (zD wp (y.box Bs ds Bm dm)))
         go_wp2
         generalize wp.alloc (y.box Bs ds Bm dm)=wc at *
         clear e0 e1 e2' e3 e4 e5 e6 e7 e8 e9
         obtain ⟨by_,hby⟩:∃by_,by_=wp.heap.size:=⟨_,rfl⟩
         rw[←hby] at HYB ⊢
         clear hby hz2
         obtain ⟨rows,hta⟩:=HFK.out.tab
         have HRL:Hid (RelAt wc W0.heap.size (W0.heap.size+1) W0.heap.size rows T.1 a.length b.length):=⟨HFK.out.var,hta,HFK.out.inv.rows,HFK.out.inv.cols⟩
         obtain ⟨gi,cg,c1,c2,_,hrow,hgi⟩:=HRL.out.bit hlt hlk
         have HROW:=zh hrow
         have HGI:=zh hgi
         have vc:=HFK.out.var.cell
         have HR8:Hid (R8 wc (W0.heap.size+1) W0.heap.size a.length bx by_ x y As cs Am cm Bs ds Bm dm):=⟨HFK.out.var,HXK.out,HYB.out⟩
         clear hta hrow hgi
         have hmk2:b.length≤32:=lb
         cases hbit:getB T.1 i k with
         | false =>
          rw[hbit] at c2
          have HST:=zh (strike_no (ok:=okD a b) (s:=T) (i:=i) (k:=k) (.inl hbit))
          rw[HST.out] at HSW
          clear hbit
          go_quiet (fail)
          go_wp2
          go_roundw
          case rel=>exact ⟨k+1,by omega,by go_num,⟨(by rw[HSW.out];exact HFK.out.below (zE (Below.refl _ _) _)),HXK.out.below (zE (Below.refl _ _) _)⟩,(by rw[HSW.out])⟩
          case measure=>simp[intOf];omega
         | true =>
          have HBT:=zh hbit
          have HUXn:Hid (∀u∈usesD x,0≤u.2∧u.2<(a.length:Int)):=fun u hu=>by have:=HUX.out u hu;omega
          have HUYn:Hid (∀u∈usesD y,0≤u.2∧u.2<(b.length:Int)):=fun u hu=>by have:=HUY.out u hu;omega
          have HNM2:Hid (a.length≤1000∧b.length≤1000):=⟨by omega,by omega⟩
          have HBD0:Hid (Below W0.heap.size W0 wc.drew):=zE HFK.out.bel 1
          clear hbit c1 c2 vc
          cases hok:okD a b (getB T.1) i k with
          | true =>
           have HUO:Hid (zR (getB T.1) (usesD x) (usesD y)=true):=by rw[←HOK2.out];exact hok
           have HST:=zh (strike_no (ok:=okD a b) (s:=T) (i:=i) (k:=k) (.inr hok))
           rw[HST.out] at HSW
           clear hok
           refine wp_region_held_drew (S:=(fun w'=>((w'.cell? ⟨W0.heap.size,i,none⟩=some (.slice (some ⟨gi,0,none⟩) b.length cg)∧w'.cell? ⟨gi,k,none⟩=some (.bool true))∧(w'.cell? ⟨W0.heap.size+1,0,none⟩=some (.slice (some ⟨W0.heap.size,0,none⟩) a.length a.length)∧(w'.cell? ⟨bx,0,none⟩=some (.int .i64 x.kind)∧w'.cell? ⟨bx,1,none⟩=some (.string x.name)∧w'.cell? ⟨bx,2,none⟩=some (.int .i64 x.low)∧w'.cell? ⟨bx,3,none⟩=some (.int .i64 x.high)∧w'.cell? ⟨bx,4,none⟩=some (.int .i64 x.max)∧w'.cell? ⟨bx,5,none⟩=some (.slice As x.syms.length cs)∧w'.cell? ⟨bx,6,none⟩=some (.slice Am x.mems.length cm)∧w'.cell? ⟨bx,7,none⟩=some (.int .i64 x.key)∧w'.cell? ⟨bx,8,none⟩=some (.int .i64 x.elem)∧w'.cell? ⟨bx,9,none⟩=some (.bool x.open_))∧(w'.cell? ⟨by_,0,none⟩=some (.int .i64 y.kind)∧w'.cell? ⟨by_,1,none⟩=some (.string y.name)∧w'.cell? ⟨by_,2,none⟩=some (.int .i64 y.low)∧w'.cell? ⟨by_,3,none⟩=some (.int .i64 y.high)∧w'.cell? ⟨by_,4,none⟩=some (.int .i64 y.max)∧w'.cell? ⟨by_,5,none⟩=some (.slice Bs y.syms.length ds)∧w'.cell? ⟨by_,6,none⟩=some (.slice Bm y.mems.length dm)∧w'.cell? ⟨by_,7,none⟩=some (.int .i64 y.key)∧w'.cell? ⟨by_,8,none⟩=some (.int .i64 y.elem)∧w'.cell? ⟨by_,9,none⟩=some (.bool y.open_))))∧Hid (R8 w' (W0.heap.size+1) W0.heap.size a.length bx by_ x y As cs Am cm Bs ds Bm dm∧RelAt w' W0.heap.size (W0.heap.size+1) W0.heap.size rows T.1 a.length b.length))) (by kernel_rfl) ?_ (fun zH_=>?_)
           ·(try dsimp only);exact c20_cells (HR8.out.below (zE (Below.refl _ _) 1)) (HRL.out.below (zE (Below.refl _ _) 1)) hlt hlk HROW.out HBT.out
           generalize wc.drew=wd at *
           refine tL 0 _ zH_ ?_
           try simp only[ps]
           refine tL 1 _ zH_ ?_
           try simp only[ps]
           refine tL 2 _ zH_ ?_
           try simp only[ps]
           refine tL 3 _ zH_ ?_
           try simp only[ps]
           refine tL 4 _ zH_ ?_
           try simp only[ps]
           refine tL 5 _ zH_ ?_
           try simp only[ps]
           refine tL 6 _ zH_ ?_
           try simp only[ps]
           refine tL 7 _ zH_ ?_
           try simp only[ps]
           refine tL 8 _ zH_ ?_
           try simp only[ps]
           refine tL 10 _ zH_ ?_
           try simp only[ps]
           refine tL 12 _ zH_ ?_
           try simp only[ps]
           refine tR 9 (fun K hK=>?_)
           go_simp
           (refine (cnUses_any x As cs Am cm _ (HTX.out.below HBD0.out)).mono ?_;rintro e w9 ⟨v9,rfl,ho9,hbz⟩;obtain ⟨A9,c9,rfl,hp9⟩:=own_pairs ho9 (uses_len x HTX.out.mems.1);have HP9:=zh hp9;have HB9:=zh (zA HBD0.out hbz))
           refine hK.out _ _ ?_ (fun zH_=>?_)
           ·(try dsimp only);exact c20_cells (zH_.2.out.1.below hbz) (zH_.2.out.2.below hbz) hlt hlk HROW.out HBT.out
           clear hK K
           try simp only[ps]
           refine tR 11 (fun K hK=>?_)
           go_simp
           (refine (cnUses_any y Bs ds Bm dm _ (HTY.out.below HB9.out)).mono ?_;rintro e w11 ⟨v11,rfl,ho11,hbz⟩;obtain ⟨A11,c11,rfl,hp11⟩:=own_pairs ho11 (uses_len y HTY.out.mems.1);have HP11:=zh hp11;have HP9b:=zh (HP9.out.below hbz);have HB11:=zh (zA HB9.out hbz))
           refine hK.out _ _ ?_ (fun zH_=>?_)
           ·(try dsimp only);exact c20_cells (zH_.2.out.1.below hbz) (zH_.2.out.2.below hbz) hlt hlk HROW.out HBT.out
           clear hK K
           try simp only[ps]
           refine tR 13 (fun K hK=>?_)
           go_simp
           (refine (relEq_any W0.heap.size (W0.heap.size+1) W0.heap.size rows T.1 a.length b.length HNM2.out (usesD x) (usesD y) HUXn.out HUYn.out A9 A11 c9 c11 _ HP9b.out HP11.out zH_.2.out.2).mono ?_;rintro e w13 ⟨rfl,hbz⟩;rw[HUO.out])
           refine hK.out _ _ ?_ (fun zH_=>?_)
           ·(try dsimp only);exact c20_cells (zH_.2.out.1.below hbz) (zH_.2.out.2.below hbz) hlt hlk HROW.out HBT.out
           clear hK K
           try simp only[ps]
           refine tL 14 _ zH_ ?_
           try simp only[ps]
           refine tL 15 _ zH_ ?_
           try simp only[ps]
           refine wpAnyH_done (by kernel_rfl) ?_ _
           have HE8:=zh zH_.2.out.1
           have HER:=zh zH_.2.out.2
           have HB13:=zh (zA HB11.out hbz)
           clear zH_
           go_wp2
           go_roundw
           case rel=>exact ⟨k+1,by omega,by go_num,⟨(by rw[HSW.out];exact ⟨HER.out.var,⟨rows,HER.out.tab⟩,HFK.out.inv,HB13.out⟩),HE8.out.tx⟩,(by rw[HSW.out])⟩
           case measure=>simp[intOf];omega
          | false =>
           have HUO:Hid (zR (getB T.1) (usesD x) (usesD y)=false):=by rw[←HOK2.out];exact hok
           have HST:=zh (strike_yes (ok:=okD a b) (s:=T) (i:=i) (k:=k) HBT.out hok)
           rw[HST.out] at HSW
           clear hok
           refine wp_region_held_drew (S:=(fun w'=>((w'.cell? ⟨W0.heap.size,i,none⟩=some (.slice (some ⟨gi,0,none⟩) b.length cg)∧w'.cell? ⟨gi,k,none⟩=some (.bool true))∧(w'.cell? ⟨W0.heap.size+1,0,none⟩=some (.slice (some ⟨W0.heap.size,0,none⟩) a.length a.length)∧(w'.cell? ⟨bx,0,none⟩=some (.int .i64 x.kind)∧w'.cell? ⟨bx,1,none⟩=some (.string x.name)∧w'.cell? ⟨bx,2,none⟩=some (.int .i64 x.low)∧w'.cell? ⟨bx,3,none⟩=some (.int .i64 x.high)∧w'.cell? ⟨bx,4,none⟩=some (.int .i64 x.max)∧w'.cell? ⟨bx,5,none⟩=some (.slice As x.syms.length cs)∧w'.cell? ⟨bx,6,none⟩=some (.slice Am x.mems.length cm)∧w'.cell? ⟨bx,7,none⟩=some (.int .i64 x.key)∧w'.cell? ⟨bx,8,none⟩=some (.int .i64 x.elem)∧w'.cell? ⟨bx,9,none⟩=some (.bool x.open_))∧(w'.cell? ⟨by_,0,none⟩=some (.int .i64 y.kind)∧w'.cell? ⟨by_,1,none⟩=some (.string y.name)∧w'.cell? ⟨by_,2,none⟩=some (.int .i64 y.low)∧w'.cell? ⟨by_,3,none⟩=some (.int .i64 y.high)∧w'.cell? ⟨by_,4,none⟩=some (.int .i64 y.max)∧w'.cell? ⟨by_,5,none⟩=some (.slice Bs y.syms.length ds)∧w'.cell? ⟨by_,6,none⟩=some (.slice Bm y.mems.length dm)∧w'.cell? ⟨by_,7,none⟩=some (.int .i64 y.key)∧w'.cell? ⟨by_,8,none⟩=some (.int .i64 y.elem)∧w'.cell? ⟨by_,9,none⟩=some (.bool y.open_))))∧Hid (R8 w' (W0.heap.size+1) W0.heap.size a.length bx by_ x y As cs Am cm Bs ds Bm dm∧RelAt w' W0.heap.size (W0.heap.size+1) W0.heap.size rows T.1 a.length b.length))) (by kernel_rfl) ?_ (fun zH_=>?_)
           ·(try dsimp only);exact c20_cells (HR8.out.below (zE (Below.refl _ _) 1)) (HRL.out.below (zE (Below.refl _ _) 1)) hlt hlk HROW.out HBT.out
           generalize wc.drew=wd at *
           refine tL 0 _ zH_ ?_
           try simp only[ps]
           refine tL 1 _ zH_ ?_
           try simp only[ps]
           refine tL 2 _ zH_ ?_
           try simp only[ps]
           refine tL 3 _ zH_ ?_
           try simp only[ps]
           refine tL 4 _ zH_ ?_
           try simp only[ps]
           refine tL 5 _ zH_ ?_
           try simp only[ps]
           refine tL 6 _ zH_ ?_
           try simp only[ps]
           refine tL 7 _ zH_ ?_
           try simp only[ps]
           refine tL 8 _ zH_ ?_
           try simp only[ps]
           refine tL 10 _ zH_ ?_
           try simp only[ps]
           refine tL 12 _ zH_ ?_
           try simp only[ps]
           refine tR 9 (fun K hK=>?_)
           go_simp
           (refine (cnUses_any x As cs Am cm _ (HTX.out.below HBD0.out)).mono ?_;rintro e w9 ⟨v9,rfl,ho9,hbz⟩;obtain ⟨A9,c9,rfl,hp9⟩:=own_pairs ho9 (uses_len x HTX.out.mems.1);have HP9:=zh hp9;have HB9:=zh (zA HBD0.out hbz))
           refine hK.out _ _ ?_ (fun zH_=>?_)
           ·(try dsimp only);exact c20_cells (zH_.2.out.1.below hbz) (zH_.2.out.2.below hbz) hlt hlk HROW.out HBT.out
           clear hK K
           try simp only[ps]
           refine tR 11 (fun K hK=>?_)
           go_simp
           (refine (cnUses_any y Bs ds Bm dm _ (HTY.out.below HB9.out)).mono ?_;rintro e w11 ⟨v11,rfl,ho11,hbz⟩;obtain ⟨A11,c11,rfl,hp11⟩:=own_pairs ho11 (uses_len y HTY.out.mems.1);have HP11:=zh hp11;have HP9b:=zh (HP9.out.below hbz);have HB11:=zh (zA HB9.out hbz))
           refine hK.out _ _ ?_ (fun zH_=>?_)
           ·(try dsimp only);exact c20_cells (zH_.2.out.1.below hbz) (zH_.2.out.2.below hbz) hlt hlk HROW.out HBT.out
           clear hK K
           try simp only[ps]
           refine tR 13 (fun K hK=>?_)
           go_simp
           (refine (relEq_any W0.heap.size (W0.heap.size+1) W0.heap.size rows T.1 a.length b.length HNM2.out (usesD x) (usesD y) HUXn.out HUYn.out A9 A11 c9 c11 _ HP9b.out HP11.out zH_.2.out.2).mono ?_;rintro e w13 ⟨rfl,hbz⟩;rw[HUO.out])
           refine hK.out _ _ ?_ (fun zH_=>?_)
           ·(try dsimp only);exact c20_cells (zH_.2.out.1.below hbz) (zH_.2.out.2.below hbz) hlt hlk HROW.out HBT.out
           clear hK K
           try simp only[ps]
           refine tL 14 _ zH_ ?_
           try simp only[ps]
           refine tL 15 _ zH_ ?_
           try simp only[ps]
           refine wpAnyH_done (by kernel_rfl) ?_ _
           have HE8:=zh zH_.2.out.1
           have HER:=zh zH_.2.out.2
           have HB13:=zh (zA HB11.out hbz)
           clear zH_
           have vc:=HER.out.var
           have vc2:=(show VarAt w13 (W0.heap.size+1) W0.heap.size a.length from vc).cell
           obtain ⟨c1,c2⟩:=HER.out.bitAt hlt hlk HROW.out
           obtain ⟨gi2,cg2,c12,_,fz,hr2,_⟩:=HER.out.bit hlt hlk
           obtain ⟨e7,e8⟩:gi2=gi∧cg2=cg:=by
            have:=hr2.symm.trans HROW.out
            have e:=Option.some.inj this
            injection e with e1 _ e2
            injection e1 with e1
            injection e1 with e1
            exact ⟨e1,e2⟩
           subst e7;subst e8
           have hiM:i<T.1.length:=by rw[HER.out.rlen];exact hlt
           have HMl:Hid ((T.1[i]).length=b.length):=HER.out.clen _ (List.getElem_mem hiM)
           have HSTO:=zh (HER.out.tab.store hiM (gi:=gi2) (c:=cg2) (by rw[HMl.out];exact HROW.out) k)
           have HTI2:=zh HTI.out
           rw[HST.out] at HTI2
           have HVS:Hid (VarAt (w13.setCell ⟨gi2,k,none⟩ (.bool false)) (W0.heap.size+1) W0.heap.size a.length):=tmp_row HER.out.var (HER.out.tab.own i _ _ HROW.out (zl hiM)) (by decide) rfl HSTO.out.2
           have HXS:Hid (TBox (w13.setCell ⟨gi2,k,none⟩ (.bool false)) bx x As cs Am cm):=tmp_row HE8.out.tx (HER.out.tab.own i _ _ HROW.out (zl hiM)) (by decide) rfl HSTO.out.2
           clear vc c12 hr2
           go_wp2
           go_roundw
           case rel=>exact ⟨k+1,by omega,by go_num,⟨(by rw[HSW.out];exact ⟨HVS.out,⟨rows,HSTO.out.1⟩,HTI2.out,below_setg HB13.out gi2 k HGI.out _⟩),HXS.out⟩,(by rw[HSW.out])⟩
           case measure=>simp[intOf];omega
        ·have HNX:Hid (RelSt names a b W0 (sweep (okD a b) (yA b.length (i+1) 0) (M,false)).1 wp):=by
          have:=hq.out.1
          rw[show k=b.length by omega,pairsTo_row] at this
          exact this
         have HKE:Hid (k=b.length):=by show _=_;omega
         go_wp2
         go_roundw
         case rel=>exact ⟨i+1,by omega,by go_num,HNX.out,(by rw[HKE.out,pairsTo_row])⟩
         case measure=>simp[intOf];omega
      ·have HIE:Hid (i=a.length):=by show _=_;omega
       have HC1:Hid (cntM (sweep (okD a b) (yA b.length a.length 0) (M,false)).1≤cntM M):=(sweep_cnt (okD a b) (yA b.length a.length 0) (M,false)).1
       have HC2:Hid ((sweep (okD a b) (yA b.length a.length 0) (M,false)).2=true→cntM (sweep (okD a b) (yA b.length a.length 0) (M,false)).1<cntM M):=(sweep_cnt (okD a b) (yA b.length a.length 0) (M,false)).2 rfl
       have HDN:=zh (fun h=>tab_done (alD names a b) (okD a b) HRQ.out.inv h)
       have hh2:=hh.out
       rw[HIE.out] at hh2 ⊢
       have HH2:=zh hh2
       clear hh hh2
       generalize sweep (okD a b) (yA b.length a.length 0) (M,false)=T at *
       go_wp2
       go_roundg (cntM T.1+(if T.2 then 1 else 0))
       case measure =>
        rw[HGK.out]
        have h1:=HC1.out
        have h2:=HC2.out
        cases hT2:T.2 with
        | true=>have:=h2 hT2;simp;omega
        | false=>simp;omega
       case rel=>exact ⟨T.2,T.1,rfl,HH2.out,rfl,fun h=>by have:=HDN.out h;rw[this.2];exact this.1⟩
end Go.Proofs.YtkhpajneinmmiaaGreatDoor


