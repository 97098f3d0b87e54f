/-
  The states of sheaveref18.Canon: a type being written.
-/
import Derived.Test.YtkhpajneinmmiaaGreatDoorQCOA
import Derived.Test.YtkhpajneinmmiaaGreatDoorQPL
namespace Go.Proofs.YtkhpajneinmmiaaGreatDoor
open Go.RowKit
set_option maxHeartbeats 16000000
set_option maxRecDepth 100000
section
variable {α:Type} {E k:Nat} {atl:α→List Value→Prop} {wr w':World} {base:Nat} {A:Option Addr} {c:Nat} {l:List α}
theorem RowX.nil (wr:World) (base:Nat):RowX E k atl wr base none 0 ([]:List α):=⟨[],OwnL.nil _ _,rfl,(fun _ h=>by cases h),fun m x cs h=>by simp at h⟩
theorem RowX.more (h:RowX E k atl wr base A c l):∃css:List (List Value),wr.ownsRow base E k (.slice A l.length c) l.length css.flatten ∧
  ∀ (w':World) (v':Value) (cs:List Value) (x:α),w'.ownsRow base E k v' (l.length+1) (css.flatten++cs)→cs.length=k→atl x cs→∃A' c',v' = .slice A' (l++[x]).length c'∧RowX E k atl w' base A' c' (l++[x]):=by
 obtain ⟨css,h1,h2,h3,h4⟩:=h
 have h1':=h1
 unfold OwnC OwnL at h1'
 rw[yJ,h2] at h1'
 refine ⟨css,h1',fun w' v' cs x ho hc hx=>?_⟩
 have ho':OwnC E k w' base v' (css++[cs]):=OwnL.snoc (by rw[yJ,h2];exact ho)
 obtain ⟨A',c',e,_⟩:=ho'.reads
 have el:(css++[cs]).length=(l++[x]).length:=by simp[h2]
 rw[el] at e
 refine ⟨A',c',e,css++[cs],by rw[←e];exact ho',el,fun ds hd=>?_,fun m y ds hy hd=>?_⟩
 ·rcases List.mem_append.1 hd with a|a
  ·exact h3 ds a
  ·obtain rfl:ds=cs:=by simpa using a
   exact hc
 ·rcases get_snoc hy with a|⟨a1,a2⟩
  ·rcases get_snoc hd with b|⟨b1,_⟩
   ·exact h4 m y ds a b
   ·have:=(List.getElem?_eq_some_iff.1 a).1;omega
  ·rcases get_snoc hd with b|⟨_,b2⟩
   ·have:=(List.getElem?_eq_some_iff.1 b).1;omega
   ·rw[a2,b2];exact hx
end
section
variable {w wi W W':World} {b9 b10:Nat} {t:TyD} {As:Option Addr} {cs:Nat} {Am:Option Addr} {cm:Nat} {u:TyD} {B1:Option Addr} {d1:Nat} {B2:Option Addr} {d2:Nat}
theorem Cy.symA (h:Cy w wi W b9 b10 t As cs Am cm u B1 d1 B2 d2) {n:Nat} (hn:u.syms.length=n):∃css:List (List Value),W.ownsRow (b10+1) 75 2 (.slice B1 n d1) n css.flatten ∧
  ∀ (w8:World) (v8:Value) (x:SymD),SOk x.name→w8.ownsRow (b10+1) 75 2 v8 (n+1) (css.flatten++[.int .i64 x.id,.string x.name])→W.grownBy w8 (Value.slice B1 n d1).ownBlock →
   ∃A' c',v8 = .slice A' (n+1) c'∧(TBox w8 b9 t As cs Am cm∧TBox w8 b10 u B1 d1 B2 d2∧Below wi.heap.size wi w8)∧Cy w wi (w8.setCell ⟨b10,5,none⟩ v8) b9 b10 t As cs Am cm { u with syms:=u.syms++[x] } A' c' B2 d2:=by
 subst hn
 obtain ⟨css,ho,hm⟩:=h.rs.more
 have hl:=h.b10l
 have h9:=h.b9l
 have hz:=(zg.1 h.t10).1
 refine ⟨css,ho,fun w8 v8 x hx ho8 hg=>?_⟩
 obtain ⟨A',c',e,hr⟩:=hm w8 v8 _ x ho8 rfl ⟨hx,rfl⟩
 have hk:∀q,q<b10+1→w8.heap[q]? = W.heap[q]? := fun q hq=>zN hg (by omega) fun k hk e=>by have:=World.ownsRow.lt ho k hk;omega
 have hb8:Below wi.heap.size wi w8:=h.bel.grown hg h.bel.size (fun q hq=>by have:=World.ownsRow.lt ho q hq;omega)
 have h9':TBox w8 b9 t As cs Am cm:=(hk _ (by omega)).trans h.t9
 have h10':TBox w8 b10 u B1 d1 B2 d2:=(hk _ (by omega)).trans h.t10
 rw[List.length_append] at e
 refine ⟨A',c',e,⟨h9',h10',hb8⟩,(heap_setCell_other _ _ _ _ (by simp only;omega)).trans h9',?_,?_,?_,hb8.setCell (p:=⟨b10,5,none⟩) (by simp only;omega) _,h9,hl⟩
 ·have:=heap_setCell_same _ _ 5 _ _ v8 h10'
  unfold TBox
  rw[this,e];simp[List.length_append]
 ·exact hr.keep fun g hg _ _=>heap_setCell_other _ _ _ _ (by simp only;omega)
 ·refine (h.rm.keep (w':=w8) fun g hg1 hg2 hg3=>zN hg hg2 fun k hk e=>?_).keep fun g hg _ _=>heap_setCell_other _ _ _ _ (by simp only;omega)
  subst e
  exact h.apart hk hg3
theorem Cy.memA (h:Cy w wi W b9 b10 t As cs Am cm u B1 d1 B2 d2) {n:Nat} (hn:u.mems.length=n):∃css:List (List Value),W.ownsRow (b10+1) 83 13 (.slice B2 n d2) n css.flatten ∧
  ∀ (w8:World) (v8:Value) (x:MemD) (mc:List Value),MatL w x mc→w8.ownsRow (b10+1) 83 13 v8 (n+1) (css.flatten++mc)→W.grownBy w8 (Value.slice B2 n d2).ownBlock →
   ∃A' c',v8 = .slice A' (n+1) c'∧(TBox w8 b9 t As cs Am cm∧TBox w8 b10 u B1 d1 B2 d2∧Below wi.heap.size wi w8)∧Cy w wi (w8.setCell ⟨b10,6,none⟩ v8) b9 b10 t As cs Am cm { u with mems:=u.mems++[x] } B1 d1 A' c':=by
 subst hn
 obtain ⟨css,ho,hm⟩:=h.rm.more
 have hl:=h.b10l
 have h9:=h.b9l
 have hz:=(zg.1 h.t10).1
 refine ⟨css,ho,fun w8 v8 x mc hx ho8 hg=>?_⟩
 have hml:mc.length=13:=by obtain ⟨_,_,_,_,_,_,e,_⟩:=hx.parts;rw[e];rfl
 obtain ⟨A',c',e,hr⟩:=hm w8 v8 mc x ho8 hml hx
 have hk:∀q,q<b10+1→w8.heap[q]? = W.heap[q]? := fun q hq=>zN hg (by omega) fun k hk e=>by have:=World.ownsRow.lt ho k hk;omega
 have hb8:Below wi.heap.size wi w8:=h.bel.grown hg h.bel.size (fun q hq=>by have:=World.ownsRow.lt ho q hq;omega)
 have h9':TBox w8 b9 t As cs Am cm:=(hk _ (by omega)).trans h.t9
 have h10':TBox w8 b10 u B1 d1 B2 d2:=(hk _ (by omega)).trans h.t10
 rw[List.length_append] at e
 refine ⟨A',c',e,⟨h9',h10',hb8⟩,(heap_setCell_other _ _ _ _ (by simp only;omega)).trans h9',?_,?_,?_,hb8.setCell (p:=⟨b10,6,none⟩) (by simp only;omega) _,h9,hl⟩
 ·have:=heap_setCell_same _ _ 6 _ _ v8 h10'
  unfold TBox
  rw[this,e];simp[List.length_append]
 ·refine (h.rs.keep (w':=w8) fun g hg1 hg2 hg3=>zN hg hg2 fun k hk e=>?_).keep fun g hg _ _=>heap_setCell_other _ _ _ _ (by simp only;omega)
  subst e
  exact h.apart hg3 hk
 ·exact hr.keep fun g hg _ _=>heap_setCell_other _ _ _ _ (by simp only;omega)
end
abbrev uR (t:TyD) (nm:ByteArray) (sy:List SymD) (me:List MemD) (ky el:Int):TyD:=⟨t.kind,nm,t.low,t.high,t.max,sy,me,ky,el,t.open_⟩
theorem ry_sym {wi W:World} {b9 b10:Nat} {t:TyD} {As:Option Addr} {cs:Nat} {Am:Option Addr} {cm:Nat} {u:TyD} {B1:Option Addr} {d1:Nat} {B2:Option Addr} {d2:Nat} {b o q:Nat} {z:Int}
  (h9:TBox W b9 t As cs Am cm) (h10:TBox W b10 u B1 d1 B2 d2) (hb:Below wi.heap.size wi W) (hu:u.syms.length=q) (hc:wi.cell? ⟨b,o+q * 2,none⟩=some (.int .i64 z)) :
  ((W.cell? ⟨b10,5,none⟩=some (.slice B1 q d1)∧W.cell? ⟨b9,5,none⟩=some (.slice As t.syms.length cs))∧W.cell? ⟨b,o+q * 2,none⟩=some (.int .i64 z))∧Hid (TBox W b9 t As cs Am cm∧TBox W b10 u B1 d1 B2 d2∧Below wi.heap.size wi W) :=
 ⟨⟨⟨by have:=h10.cell 5;rw[hu] at this;exact this,h9.cell 5⟩,zB hb hc⟩,h9,h10,hb⟩
theorem Cy.hold {w wi W:World} {b9 b10:Nat} {t:TyD} {As:Option Addr} {cs:Nat} {Am:Option Addr} {cm:Nat} {u:TyD} {B1:Option Addr} {d1:Nat} {B2:Option Addr} {d2:Nat} {b o q:Nat} {z:Int}
  (h:Cy w wi W b9 b10 t As cs Am cm u B1 d1 B2 d2) (hu:u.syms.length=q) (hc:wi.cell? ⟨b,o+q * 2,none⟩=some (.int .i64 z)) :
  ((W.cell? ⟨b10,5,none⟩=some (.slice B1 q d1)∧W.cell? ⟨b9,5,none⟩=some (.slice As t.syms.length cs))∧W.cell? ⟨b,o+q * 2,none⟩=some (.int .i64 z))∧Hid (TBox W b9 t As cs Am cm∧TBox W b10 u B1 d1 B2 d2∧Below wi.heap.size wi W) :=
 ry_sym h.t9 h.t10 h.bel hu hc
theorem Cy.new {w wi W9:World} {b9:Nat} {t:TyD} {As:Option Addr} {cs:Nat} {Am:Option Addr} {cm:Nat} (h9:TBox W9 b9 t As cs Am cm) (hb:Below wi.heap.size wi W9) (hl:wi.heap.size≤b9) :
  Cy w wi (W9.alloc (.cells #[.int .i64 t.kind,.string ⟨#[]⟩,.int .i64 t.low,.int .i64 t.high,.int .i64 t.max,.slice none 0 0,.slice none 0 0,.int .i64 0,.int .i64 0,.bool t.open_] 70)) b9 W9.heap.size t As cs Am cm (uR t ⟨#[]⟩ [] [] 0 0) none 0 none 0 :=
 ⟨h9.below (zD _ _),heap_alloc_new _ _,RowX.nil _ _,RowX.nil _ _,zA hb (zD _ _),hl,h9.blt⟩
end Go.Proofs.YtkhpajneinmmiaaGreatDoor


