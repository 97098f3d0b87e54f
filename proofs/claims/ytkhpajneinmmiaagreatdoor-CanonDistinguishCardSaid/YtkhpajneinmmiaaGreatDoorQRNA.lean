/-
  Walks: canon.renamed: the states.
-/
import Derived.Test.YtkhpajneinmmiaaGreatDoorQCP2
import Derived.Test.YtkhpajneinmmiaaGreatDoorQPL
import Derived.Test.YtkhpajneinmmiaaGreatDoorShelf
import Derived.Lib.AppendIntMem
namespace Go.Proofs.YtkhpajneinmmiaaGreatDoor
open Go.RowKit
set_option maxHeartbeats 16000000
set_option maxRecDepth 100000
def Tab (w : World) : Prop := Lib.TabIs Tryz.prog w "internal/strconv.uint64pow10" .u64 Lib.pow10Tab
theorem Tab.below {w w':World} (h:Tab w) (hb:Below w.heap.size w w'):Tab w':=Lib.tabBelow_of_tabIs h w' hb
theorem itoa_any (n:Int) (hn:In64 n) (w:World) (ht:Tab w) :
  Calls Tryz.prog 51 #[.int .i64 n] w fun e w'=>e = .returned (.string (decB n))∧Below w.heap.size w w' :=
 (Tryz.strconv_Itoa n hn.1 hn.2 w ht).mono fun e w' ⟨he,k,os,hw⟩=>⟨he,by subst hw;exact Lib.below_grow _ _ (Nat.le_refl _) _ _⟩
def mapTo {α:Type} (f:α→α) (i:Nat) (l:List α):List α:=(l.take i).map f++l.drop i
section
variable {α:Type} {f:α→α}
theorem mapTo_zero (l:List α):mapTo f 0 l=l:=by simp[mapTo]
theorem mapTo_all {l:List α} {i:Nat} (h:l.length≤i):mapTo f i l=l.map f:=by
 unfold mapTo;rw[List.take_of_length_le h,List.drop_eq_nil_of_le h,List.append_nil]
theorem yM (i:Nat) (l:List α):(mapTo f i l).length=l.length:=by
 unfold mapTo;rw[List.length_append,List.length_map,List.length_take,List.length_drop];omega
theorem mapTo_at {l:List α} {i:Nat} (h:i<l.length) (h':i<(mapTo f i l).length):(mapTo f i l)[i]=l[i]:=by
 apply Option.some.inj
 rw[←zl h',←zl h]
 unfold mapTo
 rw[List.getElem?_append_right (by simp;omega)]
 simp[Nat.min_eq_left (Nat.le_of_lt h)]
theorem mapTo_set {l:List α} {i:Nat} (h:i<l.length):(mapTo f i l).set i (f l[i])=mapTo f (i+1) l:=by
 unfold mapTo
 have hl:((l.take i).map f).length=i:=by simp;omega
 rw[List.set_append_right _ _ (by omega),hl,Nat.sub_self,List.drop_eq_getElem_cons h,List.set_cons_zero,List.take_succ_eq_append_getElem h,List.map_append]
 simp
end
theorem set_flatten {k:Nat} (css:List (List Value)) (i j:Nat) (v:Value) (h:∀cs∈css,cs.length=k) (hj:j<k) (hi:i<css.length):css.flatten.set (i * k+j) v=(css.set i (css[i].set j v)).flatten:=by
 have hk:0<k:=by omega
 have h':∀ds∈css.set i (css[i].set j v),ds.length=k:=fun ds hd=>by
  rcases List.mem_or_eq_of_mem_set hd with e|e
  ·exact h ds e
  ·rw[e,List.length_set];exact h _ (List.getElem_mem hi)
 have hfit:i * k+j<css.flatten.length:=by
  rw[flatten_len css h]
  have:(i+1) * k≤css.length * k:=Nat.mul_le_mul_right k hi
  rw[Nat.succ_mul] at this;omega
 apply List.ext_getElem?
 intro m
 rw[flatten_get hk _ _ h']
 by_cases e:m=i * k+j
 ·subst e
  rw[List.getElem?_set_self hfit,Nat.mul_comm i k,Nat.mul_add_div hk,Nat.mul_add_mod,Nat.div_eq_of_lt hj,Nat.mod_eq_of_lt hj,Nat.add_zero,List.getElem?_set_self hi]
  have hcl:=h _ (List.getElem_mem hi)
  simp[hcl,hj]
 ·rw[List.getElem?_set_ne (fun h=>e h.symm),flatten_get hk _ _ h]
  by_cases e2:m / k=i
  ·rw[e2,List.getElem?_set_self hi,zl hi]
   have:j≠m % k:=fun e3=>e (by have:=Nat.div_add_mod m k;rw[e2,←e3,Nat.mul_comm] at this;exact this.symm)
   simp only[Option.bind_some]
   rw[List.getElem?_set_ne this]
  ·rw[List.getElem?_set_ne (fun h=>e2 h.symm)]
section
variable {E k:Nat} {base g n c:Nat} {css:List (List Value)}
theorem own_setCell {w:World} (h:OwnC E k w base (.slice (some ⟨g,0,none⟩) n c) css) (hn:css.length=n) (hl:∀cs∈css,cs.length=k) {i j:Nat} (hi:i<css.length) (hj:j<k) (v:Value):OwnC E k (w.setCell ⟨g,i * k+j,none⟩ v) base (.slice (some ⟨g,0,none⟩) n c) (css.set i (css[i].set j v)):=by
 unfold OwnC OwnL at h ⊢
 rw[yJ] at h ⊢
 rw[List.length_set,←set_flatten css i j v hl hj hi]
 rw[hn] at h ⊢
 exact (World.ownsRow.stored h (i * k+j) v).1
theorem own_setCells:∀ (vs:List Value) (j:Nat) (w:World) (css:List (List Value)),OwnC E k w base (.slice (some ⟨g,0,none⟩) n c) css→css.length=n→(∀cs∈css,cs.length=k)→∀ {i:Nat} (hi:i<css.length),j+vs.length≤k→OwnC E k (w.setCells g (i * k+j) vs) base (.slice (some ⟨g,0,none⟩) n c) (css.set i (setL css[i] j vs))
 | [],j,w,css,h,_,_,i,hi,_=>by
  rw[setL,List.set_getElem_self];exact h
 | v::vs,j,w,css,h,hn,hl,i,hi,hj=>by
  rw[List.length_cons] at hj
  have h1:=own_setCell h hn hl hi (show j<k by omega) v
  have h2:=own_setCells vs (j+1) (w.setCell ⟨g,i * k+j,none⟩ v) (css.set i (css[i].set j v)) h1 (by rw[List.length_set];exact hn) (fun ds hd=>by
   rcases List.mem_or_eq_of_mem_set hd with e|e
   ·exact hl ds e
   ·rw[e,List.length_set];exact hl _ (List.getElem_mem hi)) (i:=i) (by rw[List.length_set];exact hi) (by omega)
  rw[List.getElem_set_self,List.set_set] at h2
  exact h2
end
section
variable {α:Type} {E k:Nat} {at_:World→α→List Value→Prop} {wr:World} {base H3 H:Nat} {A:Option Addr} {c:Nat} {l:List α} {i:Nat}
theorem RowSt.write_by (h:RowSt E k at_ wr base H3 H A c l i) (hi:i<l.length) {g:Nat} (hA:A=some ⟨g,0,none⟩) (hH:H≤base) {w':World} (F:List Value→List Value) {x:α}
  (hw:∀css:List (List Value),OwnC E k wr base (.slice (some ⟨g,0,none⟩) l.length c) css→css.length=l.length→(∀cs∈css,cs.length=k)→∀hi:i<css.length,OwnC E k w' base (.slice (some ⟨g,0,none⟩) l.length c) (css.set i (F css[i])))
  (hF:∀cs:List Value,cs.length=k→(F cs).length=k) (hs:wr.heap.size≤w'.heap.size) (hk:∀q,q≠g→q<wr.heap.size→w'.heap[q]? = wr.heap[q]?)
  (hx:∀cs,at_ wr l[i] cs→Off (· < H3) w' fun u=>at_ u x (F cs)):RowSt E k at_ w' base H3 H A c (l.set i x) (i+1):=by
 subst hA
 have hlt:=h.lt (g:=g) rfl
 obtain ⟨css,h1,h2,h3,h4,h5⟩:=h
 have hic:i<css.length:=by omega
 refine ⟨css.set i (F css[i]),?_,by simp[h2],fun ds hd=>?_,by rw[List.length_set];exact h4,fun m y ds hy hd=>?_⟩
 ·rw[List.length_set];exact hw css h1 h2 h3 hic
 ·rcases List.mem_or_eq_of_mem_set hd with e|e
  ·exact h3 ds e
  ·rw[e];exact hF _ (h3 _ (List.getElem_mem hic))
 ·by_cases e:m=i
  ·subst e
   rw[List.getElem?_set_self hi] at hy
   rw[List.getElem?_set_self hic] at hd
   obtain rfl:=Option.some.inj hy
   obtain rfl:=Option.some.inj hd
   exact ⟨fun _=>hx _ ((h5 m _ _ (zl hi) (zl hic)).2 (Nat.le_refl _)).out,fun hm=>absurd hm (by omega)⟩
  ·rw[List.getElem?_set_ne (fun e2=>e e2.symm)] at hy hd
   have:=h5 m y ds hy hd
   exact ⟨fun hm=>(this.1 (by omega)).step hs fun q hq hl=>hk q (fun e=>hq (e▸hlt.2.2)) hl,fun hm=>(this.2 (by omega)).step hs fun q hq hl=>hk q (fun e=>hq (e▸Nat.le_trans hH hlt.1)) hl⟩
end
abbrev zboxT:Obj := .cells #[.int .i64 0,.string ⟨#[]⟩,.int .i64 0,.int .i64 0,.int .i64 0,.slice none 0 0,.slice none 0 0,.int .i64 0,.int .i64 0,.bool false] 70
abbrev SymAt (_:World) (x:SymD) (cs:List Value):Prop:=SymD.At x cs
abbrev MemAt (u:World) (x:MemD) (cs:List Value):Prop:=MemD.At u x cs
def renS (x:SymD):SymD:={ x with name:=nameN 115 x.id }
def renM (ix:Int→Int) (m:MemD):MemD:={ m with name:=nameN 102 m.id,type:=ix m.type }
theorem nameN_ok' {c:UInt8} {n:Int} (h:In64 n):SOk (nameN c n):=by
 unfold SOk nameN
 have h1:(decB n).size≤21:=Lib.itoa_length_le n h.1 h.2
 rw[ByteArray.size_append]
 have h2:(ByteArray.mk #[c]).size=1:=rfl
 omega
theorem SymD.at_one {x:SymD} {cs:List Value} (h:x.At cs):cs.length=2∧∀u∈cs,u.oneCell'=true:=by
 obtain ⟨_,rfl⟩:=h
 refine ⟨rfl,?_⟩
 intro u hu
 simp only[List.mem_cons,List.mem_nil_iff,or_false] at hu
 rcases hu with rfl|rfl <;> rfl
theorem MemD.at_one {w:World} {x:MemD} {cs:List Value} (h:x.At w cs):cs.length=13∧∀u∈cs,u.oneCell'=true:=by
 obtain ⟨A1,c1,A2,c2,A3,c3,rfl,_⟩:=h
 refine ⟨rfl,?_⟩
 intro u hu
 simp only[List.mem_cons,List.mem_nil_iff,or_false] at hu
 rcases hu with rfl|rfl|rfl|rfl|rfl|rfl|rfl|rfl|rfl|rfl|rfl|rfl|rfl <;> rfl
theorem cloneS {l:List SymD} {A:Option Addr} {c:Nat} {w0 w:World} (hl:SymsR w0 A l) (hb0:Below w0.heap.size w0 w) :
  Calls Tryz.prog 73 #[.slice A l.length c] w fun e w'=>∃B d,e = .returned (.slice B l.length d)∧Below w.heap.size w w'∧(∀g,(Value.slice B l.length d).ownBlock=some g→w.heap.size≤g∧g<w'.heap.size) ∧
   ∀H3,w'.heap.size≤H3→RowSt 75 2 SymAt w' w.heap.size H3 w0.heap.size B d l 0:=by
 obtain ⟨css,h1,h2,h3,h4⟩:=RowsR.cells (fun x cs h=>(SymD.at_one h).1) hl
 have hone:∀cs∈css,∀u∈cs,u.oneCell'=true:=fun cs hc=>by
  obtain ⟨i,hi,rfl⟩:=List.getElem_of_mem hc
  exact (SymD.at_one (h2 i l[i] _ (zl (by omega)) (zl hi))).2
 have:=cloneSymbol_any css h3 hone (by rw[h1];exact hl.1) A c w (fun hn=>by
  obtain ⟨b,o,e,hr⟩:=h4 (fun e=>hn (List.eq_nil_of_length_eq_zero (by rw[h1,e];rfl)))
  exact ⟨b,o,e,zY hb0 hr⟩)
 rw[h1] at this
 refine this.mono ?_
 rintro e w' ⟨v,rfl,ho,hb⟩
 obtain ⟨B,d,rfl,_⟩:=OwnL.reads ho
 rw[h1] at ho ⊢
 refine ⟨B,d,rfl,hb,fun g hg=>World.ownsRow.lt ho g hg,fun H3 hH3=>?_⟩
 exact RowSt.of_clone (w:=w0) ho h1 h3 (fun g hg=>Nat.lt_of_lt_of_le (World.ownsRow.lt ho g hg).2 hH3) (fun m x cs hx hc u hu=>h2 m x cs hx hc) (zA hb0 hb)
theorem cloneM {l:List MemD} {A:Option Addr} {c:Nat} {w0 w:World} (hl:MemsR w0 A l) (hb0:Below w0.heap.size w0 w) :
  Calls Tryz.prog 74 #[.slice A l.length c] w fun e w'=>∃B d,e = .returned (.slice B l.length d)∧Below w.heap.size w w'∧(∀g,(Value.slice B l.length d).ownBlock=some g→w.heap.size≤g∧g<w'.heap.size) ∧
   ∀H3,w'.heap.size≤H3→RowSt 83 13 MemAt w' w.heap.size H3 w0.heap.size B d l 0:=by
 obtain ⟨css,h1,h2,h3,h4⟩:=RowsR.cells (fun x cs h=>(MemD.at_one h).1) hl
 have hone:∀cs∈css,∀u∈cs,u.oneCell'=true:=fun cs hc=>by
  obtain ⟨i,hi,rfl⟩:=List.getElem_of_mem hc
  exact (MemD.at_one (h2 i l[i] _ (zl (by omega)) (zl hi))).2
 have:=cloneMember_any css h3 hone (by rw[h1];exact hl.1) A c w (fun hn=>by
  obtain ⟨b,o,e,hr⟩:=h4 (fun e=>hn (List.eq_nil_of_length_eq_zero (by rw[h1,e];rfl)))
  exact ⟨b,o,e,zY hb0 hr⟩)
 rw[h1] at this
 refine this.mono ?_
 rintro e w' ⟨v,rfl,ho,hb⟩
 obtain ⟨B,d,rfl,_⟩:=OwnL.reads ho
 rw[h1] at ho ⊢
 refine ⟨B,d,rfl,hb,fun g hg=>World.ownsRow.lt ho g hg,fun H3 hH3=>?_⟩
 exact RowSt.of_clone (w:=w0) ho h1 h3 (fun g hg=>Nat.lt_of_lt_of_le (World.ownsRow.lt ho g hg).2 hH3) (fun m x cs hx hc u hu=>MemD.at_low hu (h2 m x cs hx hc)) (zA hb0 hb)
abbrev named (t:TyD) (nm:ByteArray):TyD:={ t with name:=nm }
structure RnB (t:TyD) (nm:ByteArray) (w:World) (S3:Nat) (Bs:Option Addr) (cs:Nat) (Am:Option Addr) (cm:Nat) (i:Nat) (wr:World):Prop where
 box:wr.heap[w.heap.size]? = some ((named t nm).box Bs cs Am cm)
 res:wr.heap[w.heap.size+1]? = some zboxT
 bel:Below w.heap.size w wr
 lo:w.heap.size+2≤S3
 hi:S3≤wr.heap.size
 syms:RowSt 75 2 SymAt wr (w.heap.size+2) S3 w.heap.size Bs cs (mapTo renS i t.syms) i
structure RnC (t:TyD) (nm:ByteArray) (ix:Int→Int) (w:World) (S3 M3:Nat) (Bs:Option Addr) (cs:Nat) (Bm:Option Addr) (cm:Nat) (j:Nat) (wr:World):Prop where
 b:RnB t nm w S3 Bs cs Bm cm t.syms.length wr
 lo:S3≤M3
 hi:M3≤wr.heap.size
 mems:RowSt 83 13 MemAt wr (w.heap.size+2) M3 w.heap.size Bm cm (mapTo (renM ix) j t.mems) j
 apart:∀g,(Value.slice Bm (mapTo (renM ix) j t.mems).length cm).ownBlock=some g→S3≤g
section
variable {t:TyD} {nm:ByteArray} {ix:Int→Int} {w:World} {S3 M3:Nat} {Bs:Option Addr} {cs:Nat} {Am:Option Addr} {cm:Nat} {i j:Nat} {wr w':World}
theorem RnB.below (h:RnB t nm w S3 Bs cs Am cm i wr) (hb:Below wr.heap.size wr w'):RnB t nm w S3 Bs cs Am cm i w' :=
 ⟨(hb.block _ (zg.1 h.box).1).trans h.box,(hb.block _ (zg.1 h.res).1).trans h.res,zA h.bel hb,h.lo,Nat.le_trans h.hi hb.size,h.syms.below hb⟩
theorem RnC.below (h:RnC t nm ix w S3 M3 Bs cs Am cm j wr) (hb:Below wr.heap.size wr w'):RnC t nm ix w S3 M3 Bs cs Am cm j w' :=
 ⟨h.b.below hb,h.lo,Nat.le_trans h.hi hb.size,h.mems.below hb,h.apart⟩
theorem box10 {W:World} {b:Nat} {t:TyD} {As:Option Addr} {cs:Nat} {Am:Option Addr} {cm:Nat} (h:W.heap[b]? = some (t.box As cs Am cm)) :
  (W.cell? ⟨b,0,none⟩=some (.int .i64 t.kind)∧W.cell? ⟨b,1,none⟩=some (.string t.name)∧W.cell? ⟨b,2,none⟩=some (.int .i64 t.low)∧W.cell? ⟨b,3,none⟩=some (.int .i64 t.high)∧W.cell? ⟨b,4,none⟩=some (.int .i64 t.max)∧W.cell? ⟨b,5,none⟩=some (.slice As t.syms.length cs)∧W.cell? ⟨b,6,none⟩=some (.slice Am t.mems.length cm)∧W.cell? ⟨b,7,none⟩=some (.int .i64 t.key)∧W.cell? ⟨b,8,none⟩=some (.int .i64 t.elem)∧W.cell? ⟨b,9,none⟩=some (.bool t.open_))∧∀j,W.frozen? ⟨b,j,none⟩=false:=by
 refine ⟨⟨?_,?_,?_,?_,?_,?_,?_,?_,?_,?_⟩,fun j=>frozen_of_row _ _ _ _ _ h⟩ <;> (rw[cell_of_row _ _ _ _ _ _ h];rfl)
theorem rnB_start {w1 w2:World} {As:Option Addr} {c:Nat} {B:Option Addr} {d:Nat} (hbox:w1.heap[w.heap.size]? = some ((named t nm).box As c Am cm)) (hres:w1.heap[w.heap.size+1]? = some zboxT) (hb1:Below w.heap.size w w1) (hb2:Below w1.heap.size w1 w2)
  (hg:∀g,(Value.slice B t.syms.length d).ownBlock=some g→w1.heap.size≤g∧g<w2.heap.size) (hk:∀H3,w2.heap.size≤H3→RowSt 75 2 SymAt w2 w1.heap.size H3 w.heap.size B d t.syms 0) :
  RnB t nm w w2.heap.size B d Am cm 0 (w2.setCell ⟨w.heap.size,5,none⟩ (.slice B t.syms.length d)):=by
 have hs2:=hb2.size
 have hlt:=(zg.1 hres).1
 refine ⟨?_,?_,(zA hb1 hb2).setCell (p:=⟨w.heap.size,5,none⟩) (Nat.le_refl _) _,by omega,by simp,?_⟩
 ·rw[heap_setCell_same _ _ 5 _ _ _ ((hb2.block _ (by omega)).trans hbox)];rfl
 ·rw[heap_setCell_other _ _ _ _ (by simp),hb2.block _ (by omega)];exact hres
 ·rw[mapTo_zero]
  exact ((hk w2.heap.size (Nat.le_refl _)).base_le (by omega)).otherCell 5 _ (by omega) (Nat.le_refl _) (fun e=>by have:=hg _ e;omega)
theorem rnC_start {w2:World} {B:Option Addr} {d:Nat} (h:RnB t nm w S3 Bs cs Am cm t.syms.length wr) (hb2:Below wr.heap.size wr w2)
  (hg:∀g,(Value.slice B t.mems.length d).ownBlock=some g→wr.heap.size≤g∧g<w2.heap.size) (hk:∀H3,w2.heap.size≤H3→RowSt 83 13 MemAt w2 wr.heap.size H3 w.heap.size B d t.mems 0) :
  RnC t nm ix w S3 w2.heap.size Bs cs B d 0 (w2.setCell ⟨w.heap.size,6,none⟩ (.slice B t.mems.length d)):=by
 have hs2:=hb2.size
 have hlo:=h.lo
 have hhi:=h.hi
 refine ⟨⟨?_,?_,(zA h.bel hb2).setCell (p:=⟨w.heap.size,6,none⟩) (Nat.le_refl _) _,h.lo,by simp;omega,?_⟩,by omega,by simp,?_,?_⟩
 ·rw[heap_setCell_same _ _ 6 _ _ _ ((hb2.block _ (by omega)).trans h.box)];rfl
 ·rw[heap_setCell_other _ _ _ _ (by simp),hb2.block _ (by omega)];exact h.res
 ·exact (h.syms.below hb2).otherCell 6 _ (by omega) (Nat.le_refl _) (fun e=>by have:=(h.syms.lt e).1;omega)
 ·rw[mapTo_zero]
  exact ((hk w2.heap.size (Nat.le_refl _)).base_le (by omega)).otherCell 6 _ (by omega) (Nat.le_refl _) (fun e=>by have:=hg _ e;omega)
 ·rw[mapTo_zero]
  intro g e
  have:=hg g e
  omega
theorem rnB_hold {g:Nat} (h:RnB t nm w S3 (some ⟨g,0,none⟩) cs Am cm i wr) (hi:i<t.syms.length) :
  (wr.cell? ⟨w.heap.size,5,none⟩=some (.slice (some ⟨g,0,none⟩) t.syms.length cs)∧wr.cell? ⟨g,i * 2,none⟩=some (.int .i64 (t.syms[i]).id)∧(∃s,wr.cell? ⟨g,i * 2+1,none⟩=some s)∧wr.frozen? ⟨g,i * 2+1,none⟩=false)∧Hid (RnB t nm w S3 (some ⟨g,0,none⟩) cs Am cm i wr):=by
 have hi':i<(mapTo renS i t.syms).length:=by rw[yM];exact hi
 obtain ⟨g',ds,e,_,_,_,hoff,hrg,hth⟩:=h.syms.next hi'
 cases e
 obtain ⟨_,rfl⟩:=hoff.out
 rw[mapTo_at hi] at hrg
 exact ⟨⟨(box10 h.box).1.2.2.2.2.2.1,hrg 0 _ rfl,⟨_,hrg 1 _ rfl⟩,(hth 1 (by omega)).2⟩,h⟩
theorem RnB.sym (h:RnB t nm w S3 Bs cs Am cm i wr) (hi:i<t.syms.length) {g:Nat} (hA:Bs=some ⟨g,0,none⟩) (hid:In64 (t.syms[i]).id) :
  RnB t nm w S3 Bs cs Am cm (i+1) (wr.setCell ⟨g,i * 2+1,none⟩ (.string (nameN 115 (t.syms[i]).id))):=by
 have hi':i<(mapTo renS i t.syms).length:=by rw[yM];exact hi
 have hlt:=h.syms.lt (g:=g) (by rw[hA];rfl)
 have hlo:=h.lo
 refine ⟨?_,?_,h.bel.setCell (p:=⟨g,i * 2+1,none⟩) (by simp;omega) _,h.lo,by simp;exact h.hi,?_⟩
 ·rw[heap_setCell_other _ _ _ _ (by simp;omega)];exact h.box
 ·rw[heap_setCell_other _ _ _ _ (by simp;omega)];exact h.res
 ·rw[←mapTo_set hi]
  refine h.syms.write_by hi' hA (by omega) (fun ds=>ds.set 1 (.string (nameN 115 (t.syms[i]).id))) (fun css ho hl hk hic=>?_) (fun ds hd=>by simp[hd]) (by simp) (fun q hq _=>heap_setCell_other _ _ _ _ (by simpa using hq)) (fun ds hd=>?_)
  ·exact own_setCell ho hl hk hic (by omega) _
  ·rw[mapTo_at hi] at hd
   obtain ⟨_,rfl⟩:=hd
   exact fun u _=>⟨nameN_ok' hid,rfl⟩
theorem rnC_hold {g:Nat} (h:RnC t nm ix w S3 M3 Bs cs (some ⟨g,0,none⟩) cm j wr) (hj:j<t.mems.length) {E1:Option Addr} {e1:Nat} {E2:Option Addr} {e2:Nat} {E3:Option Addr} {e3:Nat} (hr:wr.rangeAt g (j * 13) ((t.mems[j]).cs E1 e1 E2 e2 E3 e3)) (hm:MemR wr t.mems[j] E1 E2 E3) :
  ((wr.cell? ⟨g,j * 13,none⟩=some (.int .i64 (t.mems[j]).id)∧wr.cell? ⟨g,j * 13+1,none⟩=some (.string (t.mems[j]).name)∧wr.cell? ⟨g,j * 13+2,none⟩=some (.int .i64 (t.mems[j]).type)∧wr.cell? ⟨g,j * 13+5,none⟩=some (.int .i64 (t.mems[j]).dflt.kind)∧wr.cell? ⟨g,j * 13+6,none⟩=some (.bool (t.mems[j]).dflt.bool)∧wr.cell? ⟨g,j * 13+7,none⟩=some (.int .i64 (t.mems[j]).dflt.int)∧wr.cell? ⟨g,j * 13+8,none⟩=some (.string (t.mems[j]).dflt.str)∧wr.cell? ⟨g,j * 13+9,none⟩=some (.int .i64 (t.mems[j]).dflt.id)∧wr.cell? ⟨g,j * 13+10,none⟩=some (.slice E1 (t.mems[j]).dflt.keys.length e1)∧wr.cell? ⟨g,j * 13+11,none⟩=some (.slice E2 (t.mems[j]).dflt.items.length e2)∧wr.cell? ⟨g,j * 13+12,none⟩=some (.slice E3 (t.mems[j]).dflt.rest.length e3))∧(wr.frozen? ⟨g,j * 13+1,none⟩=false∧wr.frozen? ⟨g,j * 13+2,none⟩=false))∧Hid (RnC t nm ix w S3 M3 Bs cs (some ⟨g,0,none⟩) cm j wr∧wr.rangeAt g (j * 13) ((t.mems[j]).cs E1 e1 E2 e2 E3 e3)∧MemR wr t.mems[j] E1 E2 E3):=by
 have hj':j<(mapTo (renM ix) j t.mems).length:=by rw[yM];exact hj
 have hth:=h.mems.there hj' rfl
 exact ⟨⟨⟨hr 0 _ rfl,hr 1 _ rfl,hr 2 _ rfl,hr 5 _ rfl,hr 6 _ rfl,hr 7 _ rfl,hr 8 _ rfl,hr 9 _ rfl,hr 10 _ rfl,hr 11 _ rfl,hr 12 _ rfl⟩,(hth 1 (by omega)).2,(hth 2 (by omega)).2⟩,h,hr,hm⟩
theorem RnC.next (h:RnC t nm ix w S3 M3 Bs cs Am cm j wr) (hj:j<t.mems.length):∃g E1 e1 E2 e2 E3 e3,Am=some ⟨g,0,none⟩∧wr.rangeAt g (j * 13) ((t.mems[j]).cs E1 e1 E2 e2 E3 e3)∧MemR wr t.mems[j] E1 E2 E3:=by
 have hj':j<(mapTo (renM ix) j t.mems).length:=by rw[yM];exact hj
 obtain ⟨g',ds,e,_,_,_,hoff,hrg,hth⟩:=h.mems.next hj'
 obtain ⟨E1,e1,E2,e2,E3,e3,rfl,hm⟩:=hoff.out
 rw[mapTo_at hj] at hrg hm
 exact ⟨g',E1,e1,E2,e2,E3,e3,e,hrg,hm⟩
theorem RnC.there8 {g:Nat} (h:RnC t nm ix w S3 M3 Bs cs (some ⟨g,0,none⟩) cm j wr) (hj:j<t.mems.length) (v u:Value):((wr.setCell ⟨g,j * 13+1,none⟩ v).setCell ⟨g,j * 13+2,none⟩ u).there g (j * 13+5) 8:=by
 have hj':j<(mapTo (renM ix) j t.mems).length:=by rw[yM];exact hj
 have hth:=h.mems.there hj' rfl
 have h8:wr.there g (j * 13+5) 8:=fun m hm=>by
  have:=hth (5+m) (by omega)
  rwa [←Nat.add_assoc] at this
 exact World.there_setCells (World.there_setCells h8 g (j * 13+1) [v]) g (j * 13+2) [u]
abbrev memSet (wr:World) (g j:Nat) (s:ByteArray) (ty:Int) (v:List Value):World:=((wr.setCell ⟨g,j * 13+1,none⟩ (.string s)).setCell ⟨g,j * 13+2,none⟩ (.int .i64 ty)).setCells g (j * 13+5) v
theorem RnC.mem (h:RnC t nm ix w S3 M3 Bs cs Am cm j wr) (hj:j<t.mems.length) {g:Nat} (hA:Am=some ⟨g,0,none⟩) (hid:In64 (t.mems[j]).id) {F1:Option Addr} {f1:Nat} {F2:Option Addr} {f2:Nat} {F3:Option Addr} {f3:Nat} {B:Nat} (hB:M3≤B) (ho:Off (· < B) wr fun u=>ValR u (t.mems[j]).dflt F1 F2 F3) :
  RnC t nm ix w S3 M3 Bs cs Am cm (j+1) (memSet wr g j (nameN 102 (t.mems[j]).id) (ix (t.mems[j]).type) ((t.mems[j]).dflt.cs F1 f1 F2 f2 F3 f3)):=by
 have hj':j<(mapTo (renM ix) j t.mems).length:=by rw[yM];exact hj
 have hown:(Value.slice Am (mapTo (renM ix) j t.mems).length cm).ownBlock=some g:=by rw[hA];rfl
 have hlt:=h.mems.lt hown
 have hlo:=h.b.lo
 have hap:=h.apart g hown
 have hsame:∀q,q≠g→(memSet wr g j (nameN 102 (t.mems[j]).id) (ix (t.mems[j]).type) ((t.mems[j]).dflt.cs F1 f1 F2 f2 F3 f3)).heap[q]? = wr.heap[q]? := fun q hq=>by
  rw[zI hq,heap_setCell_other _ _ _ _ (by simpa using hq),heap_setCell_other _ _ _ _ (by simpa using hq)]
 have hsz:(memSet wr g j (nameN 102 (t.mems[j]).id) (ix (t.mems[j]).type) ((t.mems[j]).dflt.cs F1 f1 F2 f2 F3 f3)).heap.size=wr.heap.size:=by rw[size_setCells];simp
 refine ⟨⟨?_,?_,?_,h.b.lo,by rw[hsz];exact h.b.hi,?_⟩,h.lo,by rw[hsz];exact h.hi,?_,?_⟩
 ·rw[hsame _ (by omega)];exact h.b.box
 ·rw[hsame _ (by omega)];exact h.b.res
 ·exact zV g (by omega) _ _ _ ((h.b.bel.setCell (p:=⟨g,j * 13+1,none⟩) (by simp;omega) _).setCell (p:=⟨g,j * 13+2,none⟩) (by simp;omega) _)
 ·have hs:=h.b.syms
  have hne:(Value.slice Bs (mapTo renS t.syms.length t.syms).length cs).ownBlock≠some g:=fun e=>by have:=(hs.lt e).2.2;omega
  obtain ⟨css,g1,g2,g3,g4,g5⟩:=hs
  refine ⟨css,g1.keep (fun q _ hq hv=>hsame q (fun e=>hne (e▸hv))),g2,g3,g4,fun m x ds hx hd=>⟨fun hm=>?_,fun hm=>?_⟩⟩
  ·exact fun u _=>((g5 m x ds hx hd).1 hm).out
  ·exact fun u _=>((g5 m x ds hx hd).2 hm).out
 ·rw[←mapTo_set hj]
  refine h.mems.write_by hj' hA (by omega) (fun ds=>setL ((ds.set 1 (.string (nameN 102 (t.mems[j]).id))).set 2 (.int .i64 (ix (t.mems[j]).type))) 5 ((t.mems[j]).dflt.cs F1 f1 F2 f2 F3 f3)) (fun css ho hl hk hic=>?_) (fun ds hd=>by rw[setL_length];simp[hd]) (by rw[hsz];exact Nat.le_refl _) (fun q hq _=>hsame q hq) (fun ds hd=>?_)
  ·have hk1:∀ (a:List Value),a.length=13→∀ds∈css.set j a,ds.length=13:=fun a ha ds hd=>by
    rcases List.mem_or_eq_of_mem_set hd with e|e
    ·exact hk ds e
    ·rw[e];exact ha
   have hcl:=hk _ (List.getElem_mem hic)
   have o1:=own_setCell ho hl hk hic (j:=1) (by omega) (.string (nameN 102 (t.mems[j]).id))
   have o2:=own_setCell o1 (by rw[List.length_set];exact hl) (hk1 _ (by simp[hcl])) (i:=j) (by rw[List.length_set];exact hic) (j:=2) (by omega) (.int .i64 (ix (t.mems[j]).type))
   rw[List.getElem_set_self,List.set_set] at o2
   have o3:=own_setCells ((t.mems[j]).dflt.cs F1 f1 F2 f2 F3 f3) 5 _ _ o2 (by rw[List.length_set];exact hl) (hk1 _ (by simp[hcl])) (i:=j) (by rw[List.length_set];exact hic) (by simp)
   rw[List.getElem_set_self,List.set_set] at o3
   exact o3
  ·rw[mapTo_at hj] at hd
   obtain ⟨E1,e1,E2,e2,E3,e3,rfl,hm⟩:=hd
   have ho':Off (· < M3) (memSet wr g j (nameN 102 (t.mems[j]).id) (ix (t.mems[j]).type) ((t.mems[j]).dflt.cs F1 f1 F2 f2 F3 f3)) fun u=>ValR u (t.mems[j]).dflt F1 F2 F3 :=
    (ho.mono fun q _ hq=>by omega).step (by rw[hsz];exact Nat.le_refl _) fun q hq _=>hsame q (fun e=>hq (e▸hlt.2.2))
   exact ho'.imp fun u hu=>⟨F1,f1,F2,f2,F3,f3,rfl,nameN_ok' hid,hu⟩
 ·intro q hq
  rw[yM] at hq
  exact h.apart q (by rw[yM];exact hq)
end
end Go.Proofs.YtkhpajneinmmiaaGreatDoor


