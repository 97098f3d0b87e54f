/-
  Walks: canon.copied.
-/
import Derived.Test.YtkhpajneinmmiaaGreatDoorQDM
import Derived.Deep.DeepCutAuto
namespace Go.Proofs.YtkhpajneinmmiaaGreatDoor
open Go.RowKit
set_option maxHeartbeats 16000000
set_option maxRecDepth 100000
abbrev zboxV:Obj := .cells #[.int .i64 0,.bool false,.int .i64 0,.string ⟨#[]⟩,.int .i64 0,.slice none 0 0,.slice none 0 0,.slice none 0 0] 81
theorem yS {W:World} {b:Nat} {o:Obj} (h:W.heap[b]? = some o) (o2:Obj):(W.alloc o2).heap[b]? = some o :=
 ((zD W o2).block b (zg.1 h).1).trans h
theorem Val.size_keys {x y:Val} (h:y∈x.keys):SizeOf.sizeOf y<SizeOf.sizeOf x:=by
 obtain ⟨k,b,i,s,d,ks,is,r⟩:=x
 have:=List.sizeOf_lt_of_mem h
 simp only[Val.keys] at this
 simp only[Val.mk.sizeOf_spec]
 omega
theorem Val.size_items {x y:Val} (h:y∈x.items):SizeOf.sizeOf y<SizeOf.sizeOf x:=by
 obtain ⟨k,b,i,s,d,ks,is,r⟩:=x
 have:=List.sizeOf_lt_of_mem h
 simp only[Val.items] at this
 simp only[Val.mk.sizeOf_spec]
 omega
theorem Val.at_one {w:World} {x:Val} {cs:List Value} (h:x.At w cs):cs.length=8∧∀u∈cs,u.oneCell'=true:=by
 obtain ⟨A1,c1,A2,c2,A3,c3,rfl,_⟩:=Val.at_iff.1 h
 refine ⟨rfl,?_⟩
 intro u hu
 simp only[List.mem_cons,List.mem_nil_iff,or_false] at hu
 rcases hu with rfl|rfl|rfl|rfl|rfl|rfl|rfl|rfl <;> rfl
theorem RawD.at_one {x:RawD} {cs:List Value} (h:x.At cs):cs.length=2∧∀u∈cs,u.oneCell'=true:=by
 obtain ⟨_,rfl⟩:=h
 refine ⟨rfl,?_⟩
 intro u hu
 simp only[List.mem_cons,List.mem_nil_iff,or_false] at hu
 rcases hu with rfl|rfl <;> rfl
theorem cloneV {l:List Val} {A:Option Addr} {c:Nat} {w0 w:World} (hl:ValsR w0 A l) (hb0:Below w0.heap.size w0 w) :
  Calls Tryz.prog 97 #[.slice A l.length c] w fun e w'=>∃B d,e = .returned (.slice B l.length d)∧Below w.heap.size w w'∧(∀g,(Value.slice B l.length d).ownBlock=some g→w.heap.size≤g∧g<w'.heap.size) ∧
   ∀H3,w'.heap.size≤H3→RowSt 81 8 (fun u x cs=>Val.At u x cs) w' w.heap.size H3 w0.heap.size B d l 0:=by
 obtain ⟨css,h1,h2,h3,h4⟩:=RowsR.cells (fun x cs h=>(Val.at_one h).1) hl
 have hone:∀cs∈css,∀u∈cs,u.oneCell'=true:=fun cs hc=>by
  obtain ⟨i,hi,rfl⟩:=List.getElem_of_mem hc
  exact (Val.at_one (h2 i l[i] _ (zl (by omega)) (zl hi))).2
 have:=cloneValue_any css h3 hone (by rw[h1];exact hl.1) A c w (fun hn=>by
  obtain ⟨b,o,e,hr⟩:=h4 (fun e=>hn (List.eq_nil_of_length_eq_zero (by rw[h1,e];rfl)))
  exact ⟨b,o,e,zY hb0 hr⟩)
 rw[h1] at this
 refine this.mono ?_
 rintro e w' ⟨v,rfl,ho,hb⟩
 obtain ⟨B,d,rfl,_⟩:=OwnL.reads ho
 rw[h1] at ho ⊢
 refine ⟨B,d,rfl,hb,fun g hg=>World.ownsRow.lt ho g hg,fun H3 hH3=>?_⟩
 exact RowSt.of_clone (w:=w0) ho h1 h3 (fun g hg=>Nat.lt_of_lt_of_le (World.ownsRow.lt ho g hg).2 hH3) (fun m x cs hx hc u hu=>Val.at_low hu _ _ (h2 m x cs hx hc)) (zA hb0 hb)
theorem cloneR {l:List RawD} {A:Option Addr} {c:Nat} {w0 w:World} (hl:RawsR w0 A l) (hb0:Below w0.heap.size w0 w) :
  Calls Tryz.prog 98 #[.slice A l.length c] w fun e w'=>∃B d,e = .returned (.slice B l.length d)∧Below w.heap.size w w'∧(∀g,(Value.slice B l.length d).ownBlock=some g→w.heap.size≤g∧g<w'.heap.size) ∧
   ∀H3,w'.heap.size≤H3→RowSt 151 2 (fun _ x cs=>RawD.At x cs) w' w.heap.size H3 w0.heap.size B d l l.length:=by
 obtain ⟨css,h1,h2,h3,h4⟩:=RowsR.cells (fun x cs h=>(RawD.at_one h).1) hl
 have hone:∀cs∈css,∀u∈cs,u.oneCell'=true:=fun cs hc=>by
  obtain ⟨i,hi,rfl⟩:=List.getElem_of_mem hc
  exact (RawD.at_one (h2 i l[i] _ (zl (by omega)) (zl hi))).2
 have:=cloneRaw_any css h3 hone (by rw[h1];exact hl.1) A c w (fun hn=>by
  obtain ⟨b,o,e,hr⟩:=h4 (fun e=>hn (List.eq_nil_of_length_eq_zero (by rw[h1,e];rfl)))
  exact ⟨b,o,e,zY hb0 hr⟩)
 rw[h1] at this
 refine this.mono ?_
 rintro e w' ⟨v,rfl,ho,hb⟩
 obtain ⟨B,d,rfl,_⟩:=OwnL.reads ho
 rw[h1] at ho ⊢
 refine ⟨B,d,rfl,hb,fun g hg=>World.ownsRow.lt ho g hg,fun H3 hH3=>?_⟩
 exact RowSt.all (RowSt.of_clone (w:=w0) ho h1 h3 (fun g hg=>Nat.lt_of_lt_of_le (World.ownsRow.lt ho g hg).2 hH3) (fun m x cs hx hc u hu=>h2 m x cs hx hc) (zA hb0 hb)) (fun _ _ _ _ h=>h) _
structure CpSt (x:Val) (w:World) (H3:Nat) (A1:Option Addr) (c1:Nat) (A2:Option Addr) (c2:Nat) (A3:Option Addr) (c3:Nat) (i j:Nat) (wr:World):Prop where
 box:wr.heap[w.heap.size]? = some (x.box A1 c1 A2 c2 A3 c3)
 res:wr.heap[w.heap.size+1]? = some zboxV
 bel:Below w.heap.size w wr
 hi:H3≤wr.heap.size
 lo:w.heap.size+2≤H3
 keys:RowSt 81 8 (fun u x cs=>Val.At u x cs) wr (w.heap.size+2) H3 w.heap.size A1 c1 x.keys i
 items:RowSt 81 8 (fun u x cs=>Val.At u x cs) wr (w.heap.size+2) H3 w.heap.size A2 c2 x.items j
 rest:RowSt 151 2 (fun _ x cs=>RawD.At x cs) wr (w.heap.size+2) H3 w.heap.size A3 c3 x.rest x.rest.length
 apart:∀g,(Value.slice A1 x.keys.length c1).ownBlock=some g→(Value.slice A2 x.items.length c2).ownBlock≠some g∧(Value.slice A3 x.rest.length c3).ownBlock≠some g
 apart2:∀g,(Value.slice A2 x.items.length c2).ownBlock=some g→(Value.slice A3 x.rest.length c3).ownBlock≠some g
theorem CpSt.below {x:Val} {w:World} {H3:Nat} {A1:Option Addr} {c1:Nat} {A2:Option Addr} {c2:Nat} {A3:Option Addr} {c3:Nat} {i j:Nat} {wr w':World} (h:CpSt x w H3 A1 c1 A2 c2 A3 c3 i j wr) (hb:Below wr.heap.size wr w'):CpSt x w H3 A1 c1 A2 c2 A3 c3 i j w' :=
 ⟨(hb.block _ (zg.1 h.box).1).trans h.box,(hb.block _ (zg.1 h.res).1).trans h.res,zA h.bel hb,Nat.le_trans h.hi hb.size,h.lo,h.keys.below hb,h.items.below hb,h.rest.below hb,h.apart,h.apart2⟩
def CopyPost (x:Val) (w:World) (e:Ending) (w':World):Prop :=
 ∃A1 c1 A2 c2 A3 c3,e = .returned (x.v A1 c1 A2 c2 A3 c3)∧(Off (· < w.heap.size) w' fun u=>ValR u x A1 A2 A3)∧Below w.heap.size w w'
theorem box3 {x:Val} {A1:Option Addr} {c1:Nat} {A2:Option Addr} {c2:Nat} {A3:Option Addr} {c3:Nat} {W:World} {b:Nat} (h:W.heap[b]? = some (x.box A1 c1 A2 c2 A3 c3)) :
  ((W.cell? ⟨b,5,none⟩=some (.slice A1 x.keys.length c1)∧W.cell? ⟨b,6,none⟩=some (.slice A2 x.items.length c2)∧W.cell? ⟨b,7,none⟩=some (.slice A3 x.rest.length c3))∧(W.frozen? ⟨b,5,none⟩=false∧W.frozen? ⟨b,6,none⟩=false∧W.frozen? ⟨b,7,none⟩=false))∧Hid (W.heap[b]? = some (x.box A1 c1 A2 c2 A3 c3)) :=
 ⟨⟨⟨by rw[cell_of_row _ _ _ _ _ _ h];rfl,by rw[cell_of_row _ _ _ _ _ _ h];rfl,by rw[cell_of_row _ _ _ _ _ _ h];rfl⟩,frozen_of_row _ _ _ _ _ h,frozen_of_row _ _ _ _ _ h,frozen_of_row _ _ _ _ _ h⟩,h⟩
theorem cp_start {x:Val} {w w2 w3 w4 w5:World} {A1:Option Addr} {c1:Nat} {A2:Option Addr} {c2:Nat} {A3:Option Addr} {c3:Nat} {B1:Option Addr} {d1:Nat} {B2:Option Addr} {d2:Nat} {B3:Option Addr} {d3:Nat}
  (hsz:w2.heap.size=w.heap.size+2) (hbox:w5.heap[w.heap.size]? = some (x.box A1 c1 A2 c2 A3 c3)) (hres:w2.heap[w.heap.size+1]? = some zboxV) (hb2:Below w.heap.size w w2) (hb3:Below w2.heap.size w2 w3) (hb4:Below w3.heap.size w3 w4) (hb5:Below w4.heap.size w4 w5)
  (hg1:∀g,(Value.slice B1 x.keys.length d1).ownBlock=some g→w2.heap.size≤g∧g<w3.heap.size) (hg2:∀g,(Value.slice B2 x.items.length d2).ownBlock=some g→w3.heap.size≤g∧g<w4.heap.size) (hg3:∀g,(Value.slice B3 x.rest.length d3).ownBlock=some g→w4.heap.size≤g∧g<w5.heap.size)
  (hk1:∀H3,w3.heap.size≤H3→RowSt 81 8 (fun u x cs=>Val.At u x cs) w3 w2.heap.size H3 w.heap.size B1 d1 x.keys 0)
  (hk2:∀H3,w4.heap.size≤H3→RowSt 81 8 (fun u x cs=>Val.At u x cs) w4 w3.heap.size H3 w.heap.size B2 d2 x.items 0)
  (hk3:∀H3,w5.heap.size≤H3→RowSt 151 2 (fun _ x cs=>RawD.At x cs) w5 w4.heap.size H3 w.heap.size B3 d3 x.rest x.rest.length) :
  CpSt x w w5.heap.size B1 d1 B2 d2 B3 d3 0 0 (((w5.setCell ⟨w.heap.size,5,none⟩ (.slice B1 x.keys.length d1)).setCell ⟨w.heap.size,6,none⟩ (.slice B2 x.items.length d2)).setCell ⟨w.heap.size,7,none⟩ (.slice B3 x.rest.length d3)):=by
 have s3:=hb3.size
 have s4:=hb4.size
 have s5:=hb5.size
 have hbel:=zA (zA (zA hb2 hb3) hb4) hb5
 have n1:∀g,(Value.slice B1 x.keys.length d1).ownBlock=some g→g≠w.heap.size:=fun g hg=>by have:=hg1 g hg;omega
 have n2:∀g,(Value.slice B2 x.items.length d2).ownBlock=some g→g≠w.heap.size:=fun g hg=>by have:=hg2 g hg;omega
 have n3:∀g,(Value.slice B3 x.rest.length d3).ownBlock=some g→g≠w.heap.size:=fun g hg=>by have:=hg3 g hg;omega
 refine ⟨?_,?_,?_,by simp,by omega,?_,?_,?_,fun g hg=>⟨fun h=>?_,fun h=>?_⟩,fun g hg h=>?_⟩
 ·rw[heap_setCell_same _ _ 7 _ _ _ (heap_setCell_same _ _ 6 _ _ _ (heap_setCell_same _ _ 5 _ _ _ hbox))]
  rfl
 ·rw[heap_setCell_other _ _ _ _ (by simp),heap_setCell_other _ _ _ _ (by simp),heap_setCell_other _ _ _ _ (by simp),hb5.block _ (by omega),hb4.block _ (by omega),hb3.block _ (by omega)]
  exact hres
 ·exact ((hbel.setCell (p:=⟨w.heap.size,5,none⟩) (Nat.le_refl _) _).setCell (p:=⟨w.heap.size,6,none⟩) (Nat.le_refl _) _).setCell (p:=⟨w.heap.size,7,none⟩) (Nat.le_refl _) _
 ·exact ((((((hk1 w5.heap.size (by omega)).below hb4).below hb5).base_le (by omega)).otherCell 5 _ (by omega) (Nat.le_refl _) (fun h=>n1 _ h rfl)).otherCell 6 _ (by omega) (Nat.le_refl _) (fun h=>n1 _ h rfl)).otherCell 7 _ (by omega) (Nat.le_refl _) (fun h=>n1 _ h rfl)
 ·exact (((((hk2 w5.heap.size (by omega)).below hb5).base_le (by omega)).otherCell 5 _ (by omega) (Nat.le_refl _) (fun h=>n2 _ h rfl)).otherCell 6 _ (by omega) (Nat.le_refl _) (fun h=>n2 _ h rfl)).otherCell 7 _ (by omega) (Nat.le_refl _) (fun h=>n2 _ h rfl)
 ·exact ((((hk3 w5.heap.size (Nat.le_refl _)).base_le (by omega)).otherCell 5 _ (by omega) (Nat.le_refl _) (fun h=>n3 _ h rfl)).otherCell 6 _ (by omega) (Nat.le_refl _) (fun h=>n3 _ h rfl)).otherCell 7 _ (by omega) (Nat.le_refl _) (fun h=>n3 _ h rfl)
 ·have a1:=hg1 g hg;have a2:=hg2 g h;omega
 ·have a1:=hg1 g hg;have a2:=hg3 g h;omega
 ·have a1:=hg2 g hg;have a2:=hg3 g h;omega
theorem CpSt.key {x:Val} {w:World} {H3:Nat} {A1:Option Addr} {c1:Nat} {A2:Option Addr} {c2:Nat} {A3:Option Addr} {c3:Nat} {i j:Nat} {wr:World} (h:CpSt x w H3 A1 c1 A2 c2 A3 c3 i j wr) (hi:i<x.keys.length) {g:Nat} (hA:A1=some ⟨g,0,none⟩) {F1:Option Addr} {f1:Nat} {F2:Option Addr} {f2:Nat} {F3:Option Addr} {f3:Nat} {B:Nat} (hB:H3≤B) (ho:Off (· < B) wr fun u=>ValR u x.keys[i] F1 F2 F3) :
  CpSt x w H3 A1 c1 A2 c2 A3 c3 (i+1) j (wr.setCells g (i * 8) ((x.keys[i]).cs F1 f1 F2 f2 F3 f3)):=by
 have hlt:=h.keys.lt (g:=g) (by rw[hA];rfl)
 have hown:(Value.slice A1 x.keys.length c1).ownBlock=some g:=by rw[hA];rfl
 have hlo:=h.lo
 refine ⟨?_,?_,zV g (by omega) _ _ _ h.bel,by rw[size_setCells];exact h.hi,h.lo,?_,?_,?_,h.apart,h.apart2⟩
 ·rw[zI (by omega)];exact h.box
 ·rw[zI (by omega)];exact h.res
 ·have:=h.keys.write hi hA (Nat.le_add_right _ _) (by omega) (x:=x.keys[i]) (cs:=(x.keys[i]).cs F1 f1 F2 f2 F3 f3) rfl ((ho.mono fun q _ hq=>by omega).imp fun u hu=>Val.at_iff.2 ⟨F1,f1,F2,f2,F3,f3,rfl,hu⟩)
  rwa [List.set_getElem_self] at this
 ·exact h.items.otherCells _ _ hlt.2.2 (by omega) (h.apart g hown).1
 ·exact h.rest.otherCells _ _ hlt.2.2 (by omega) (h.apart g hown).2
theorem CpSt.item {x:Val} {w:World} {H3:Nat} {A1:Option Addr} {c1:Nat} {A2:Option Addr} {c2:Nat} {A3:Option Addr} {c3:Nat} {i j:Nat} {wr:World} (h:CpSt x w H3 A1 c1 A2 c2 A3 c3 i j wr) (hi:j<x.items.length) {g:Nat} (hA:A2=some ⟨g,0,none⟩) {F1:Option Addr} {f1:Nat} {F2:Option Addr} {f2:Nat} {F3:Option Addr} {f3:Nat} {B:Nat} (hB:H3≤B) (ho:Off (· < B) wr fun u=>ValR u x.items[j] F1 F2 F3) :
  CpSt x w H3 A1 c1 A2 c2 A3 c3 i (j+1) (wr.setCells g (j * 8) ((x.items[j]).cs F1 f1 F2 f2 F3 f3)):=by
 have hlt:=h.items.lt (g:=g) (by rw[hA];rfl)
 have hown:(Value.slice A2 x.items.length c2).ownBlock=some g:=by rw[hA];rfl
 have hlo:=h.lo
 refine ⟨?_,?_,zV g (by omega) _ _ _ h.bel,by rw[size_setCells];exact h.hi,h.lo,?_,?_,?_,h.apart,h.apart2⟩
 ·rw[zI (by omega)];exact h.box
 ·rw[zI (by omega)];exact h.res
 ·exact h.keys.otherCells _ _ hlt.2.2 (by omega) (fun e=>(h.apart g e).1 hown)
 ·have:=h.items.write hi hA (Nat.le_add_right _ _) (by omega) (x:=x.items[j]) (cs:=(x.items[j]).cs F1 f1 F2 f2 F3 f3) rfl ((ho.mono fun q _ hq=>by omega).imp fun u hu=>Val.at_iff.2 ⟨F1,f1,F2,f2,F3,f3,rfl,hu⟩)
  rwa [List.set_getElem_self] at this
 ·exact h.rest.otherCells _ _ hlt.2.2 (by omega) (h.apart2 g hown)
theorem cp_hold {x:Val} {w:World} {H3:Nat} {A1:Option Addr} {c1:Nat} {A2:Option Addr} {c2:Nat} {A3:Option Addr} {c3:Nat} {i j:Nat} {wr:World} (h:CpSt x w H3 A1 c1 A2 c2 A3 c3 i j wr) {b:Nat} {y:Val} {E1:Option Addr} {e1:Nat} {E2:Option Addr} {e2:Nat} {E3:Option Addr} {e3:Nat} (hb:wr.heap[b]? = some (y.box E1 e1 E2 e2 E3 e3)) :
  ((wr.cell? ⟨w.heap.size,5,none⟩=some (.slice A1 x.keys.length c1)∧wr.cell? ⟨w.heap.size,6,none⟩=some (.slice A2 x.items.length c2))∧(wr.cell? ⟨b,0,none⟩=some (.int .i64 y.kind)∧wr.cell? ⟨b,1,none⟩=some (.bool y.bool)∧wr.cell? ⟨b,2,none⟩=some (.int .i64 y.int)∧wr.cell? ⟨b,3,none⟩=some (.string y.str)∧wr.cell? ⟨b,4,none⟩=some (.int .i64 y.id)∧wr.cell? ⟨b,5,none⟩=some (.slice E1 y.keys.length e1)∧wr.cell? ⟨b,6,none⟩=some (.slice E2 y.items.length e2)∧wr.cell? ⟨b,7,none⟩=some (.slice E3 y.rest.length e3)))∧Hid (CpSt x w H3 A1 c1 A2 c2 A3 c3 i j wr∧wr.heap[b]? = some (y.box E1 e1 E2 e2 E3 e3)):=by
 refine ⟨⟨⟨(box3 h.box).1.1.1,(box3 h.box).1.1.2.1⟩,?_⟩,h,hb⟩
 refine ⟨?_,?_,?_,?_,?_,?_,?_,?_⟩ <;> (rw[cell_of_row _ _ _ _ _ _ hb];rfl)
theorem range8 {w:World} {b o:Nat} {y:Val} {E1:Option Addr} {e1:Nat} {E2:Option Addr} {e2:Nat} {E3:Option Addr} {e3:Nat} (h:w.rangeAt b o (y.cs E1 e1 E2 e2 E3 e3)) :
  w.cell? ⟨b,o,none⟩=some (.int .i64 y.kind)∧w.cell? ⟨b,o+1,none⟩=some (.bool y.bool)∧w.cell? ⟨b,o+2,none⟩=some (.int .i64 y.int)∧w.cell? ⟨b,o+3,none⟩=some (.string y.str)∧w.cell? ⟨b,o+4,none⟩=some (.int .i64 y.id)∧w.cell? ⟨b,o+5,none⟩=some (.slice E1 y.keys.length e1)∧w.cell? ⟨b,o+6,none⟩=some (.slice E2 y.items.length e2)∧w.cell? ⟨b,o+7,none⟩=some (.slice E3 y.rest.length e3) :=
 ⟨h 0 _ rfl,h 1 _ rfl,h 2 _ rfl,h 3 _ rfl,h 4 _ rfl,h 5 _ rfl,h 6 _ rfl,h 7 _ rfl⟩
theorem val_one (y:Val) (E1:Option Addr) (e1:Nat) (E2:Option Addr) (e2:Nat) (E3:Option Addr) (e3:Nat):((y.cs E1 e1 E2 e2 E3 e3).toArray).all (·.oneCell')=true :=
 all_oneCell_toArray fun u hu=>by
  simp only[List.mem_cons,List.mem_nil_iff,or_false] at hu
  rcases hu with rfl|rfl|rfl|rfl|rfl|rfl|rfl|rfl <;> rfl
theorem there_box {w:World} {b:Nat} (h:w.heap[b]? = some zboxV):w.there b 0 8:=fun j hj=>by
 rw[Nat.zero_add]
 refine ⟨?_,frozen_of_row _ _ _ _ _ h⟩
 rw[cell_of_row _ _ _ _ _ _ h]
 match j,hj with
 | 0,_=>rfl
 | 1,_=>rfl
 | 2,_=>rfl
 | 3,_=>rfl
 | 4,_=>rfl
 | 5,_=>rfl
 | 6,_=>rfl
 | 7,_=>rfl
theorem val_info:(Tryz.prog.info? 81).map (·.size)=some 8:=by kernel_rfl
theorem cp_end {x:Val} {w:World} {H3:Nat} {A1:Option Addr} {c1:Nat} {A2:Option Addr} {c2:Nat} {A3:Option Addr} {c3:Nat} {wr:World} (h:CpSt x w H3 A1 c1 A2 c2 A3 c3 x.keys.length x.items.length wr) {B1 B2 B3:Option Addr} (hr:ValR w x B1 B2 B3) :
  let W:=wr.setCells (w.heap.size+1) 0 (x.cs A1 c1 A2 c2 A3 c3)
  (W.cell? ⟨w.heap.size+1,0,none⟩=some (.int .i64 x.kind)∧W.cell? ⟨w.heap.size+1,1,none⟩=some (.bool x.bool)∧W.cell? ⟨w.heap.size+1,2,none⟩=some (.int .i64 x.int)∧W.cell? ⟨w.heap.size+1,3,none⟩=some (.string x.str)∧W.cell? ⟨w.heap.size+1,4,none⟩=some (.int .i64 x.id)∧W.cell? ⟨w.heap.size+1,5,none⟩=some (.slice A1 x.keys.length c1)∧W.cell? ⟨w.heap.size+1,6,none⟩=some (.slice A2 x.items.length c2)∧W.cell? ⟨w.heap.size+1,7,none⟩=some (.slice A3 x.rest.length c3)) ∧
  (Off (· < w.heap.size) W fun u=>ValR u x A1 A2 A3)∧Below w.heap.size w W:=by
 intro W
 have h8:=range8 (World.rangeAt_setCells_same wr (w.heap.size+1) 0 (x.cs A1 c1 A2 c2 A3 c3) (there_box h.res))
 simp only[Nat.zero_add] at h8
 have hlo:=h.lo
 refine ⟨h8,?_,zV _ (by omega) _ _ _ h.bel⟩
 have k1:=(h.keys.otherCells 0 (x.cs A1 c1 A2 c2 A3 c3) (g:=w.heap.size+1) (by omega) (by omega) (fun e=>by have:=(h.keys.lt e).1;omega)).out (Nat.le_refl _) (by omega) (by omega) hr.keys.1
 have k2:=(h.items.otherCells 0 (x.cs A1 c1 A2 c2 A3 c3) (g:=w.heap.size+1) (by omega) (by omega) (fun e=>by have:=(h.items.lt e).1;omega)).out (Nat.le_refl _) (by omega) (by omega) hr.items.1
 have k3:=(h.rest.otherCells 0 (x.cs A1 c1 A2 c2 A3 c3) (g:=w.heap.size+1) (by omega) (by omega) (fun e=>by have:=(h.rest.lt e).1;omega)).out (Nat.le_refl _) (by omega) (by omega) hr.rest.1
 exact fun u hu=>⟨hr.str,k1 u hu,k2 u hu,k3 u hu⟩
theorem copied_n:∀ (n:Nat) (x:Val),SizeOf.sizeOf x≤n→∀ (A1:Option Addr) (c1:Nat) (A2:Option Addr) (c2:Nat) (A3:Option Addr) (c3:Nat) (w:World),ValR w x A1 A2 A3 →
  Calls Tryz.prog 75 #[x.v A1 c1 A2 c2 A3 c3] w (CopyPost x w):=by
 intro n
 induction n with
 | zero=>intro x hx;exact absurd hx (by obtain ⟨k,b,i,s,d,ks,is,r⟩:=x;simp[Val.mk.sizeOf_spec])
 | succ n ih =>
 intro x hx A1 c1 A2 c2 A3 c3 w hr
 have IH:=zh ih
 have HX:=zh hx
 have HR:=zh hr
 have HB0:=zh (zC w (x.box A1 c1 A2 c2 A3 c3) zboxV)
 have HBX:Hid (((w.alloc (x.box A1 c1 A2 c2 A3 c3)).alloc zboxV).heap[w.heap.size]? = some (x.box A1 c1 A2 c2 A3 c3)):=yS (heap_alloc_new w _) _
 have HRS:Hid (((w.alloc (x.box A1 c1 A2 c2 A3 c3)).alloc zboxV).heap[w.heap.size+1]? = some zboxV):=by
  have h:=heap_alloc_new (w.alloc (x.box A1 c1 A2 c2 A3 c3)) zboxV
  rw[show (w.alloc (x.box A1 c1 A2 c2 A3 c3)).heap.size=w.heap.size+1 by simp] at h
  exact h
 have HSZ:Hid (((w.alloc (x.box A1 c1 A2 c2 A3 c3)).alloc zboxV).heap.size=w.heap.size+2):=by show _=_;simp
 have hn1:x.keys.length≤1172812402961:=by have:=hr.keys.1;unfold Lim at this;omega
 have hn2:x.items.length≤1172812402961:=by have:=hr.items.1;unfold Lim at this;omega
 clear ih hx hr
 go_enter Tryz.func75,Tryz.ntmps75
 go_wp2
 generalize (w.alloc (x.box A1 c1 A2 c2 A3 c3)).alloc zboxV=wc at *
 refine yD (S:=(fun w'=>((w'.cell? ⟨w.heap.size,5,none⟩=some (.slice A1 x.keys.length c1)∧w'.cell? ⟨w.heap.size,6,none⟩=some (.slice A2 x.items.length c2)∧w'.cell? ⟨w.heap.size,7,none⟩=some (.slice A3 x.rest.length c3))∧(w'.frozen? ⟨w.heap.size,5,none⟩=false∧w'.frozen? ⟨w.heap.size,6,none⟩=false∧w'.frozen? ⟨w.heap.size,7,none⟩=false))∧Hid (w'.heap[w.heap.size]? = some (x.box A1 c1 A2 c2 A3 c3)))) 10 (by kernel_rfl) ?_ (fun zH_=>?_)
 ·(try dsimp only);exact box3 (W:=wc.drew) HBX.out
 (have HBD:=zh (zE HB0.out 1))
 refine tC 0 _ zH_ ?_
 try simp only[ps]
 refine tB 1 _ zH_ ?_
 try simp only[ps]
 refine tC 3 _ zH_ ?_
 try simp only[ps]
 refine tB 4 _ zH_ ?_
 try simp only[ps]
 refine tC 6 _ zH_ ?_
 try simp only[ps]
 refine tB 7 _ zH_ ?_
 try simp only[ps]
 refine tS 2 (fun K hK=>?_)
 go_simp
 (refine (cloneV HR.out.keys HBD.out).mono ?_;rintro e w3 ⟨B1,d1,rfl,hb1,hg1,hk1⟩;have HB3:=zh (zA HBD.out hb1);have HB1:=zh hb1;have HG1:=zh hg1;have HK1:=zh hk1;clear hb1 hg1 hk1)
 refine hK.out _ _ ?_ (fun zH_=>?_)
 ·(try dsimp only);exact box3 ((HB1.out.block _ (zg.1 zH_.2.out).1).trans zH_.2.out)
 clear hK K
 try simp only[ps]
 refine tC 9 _ zH_ ?_
 try simp only[ps]
 refine tS 5 (fun K hK=>?_)
 go_simp
 (refine (cloneV HR.out.items HB3.out).mono ?_;rintro e w4 ⟨B2,d2,rfl,hb2,hg2,hk2⟩;have HB4:=zh (zA HB3.out hb2);have HB2:=zh hb2;have HG2:=zh hg2;have HK2:=zh hk2;clear hb2 hg2 hk2)
 refine hK.out _ _ ?_ (fun zH_=>?_)
 ·(try dsimp only);exact box3 ((HB2.out.block _ (zg.1 zH_.2.out).1).trans zH_.2.out)
 clear hK K
 try simp only[ps]
 refine tS 8 (fun K hK=>?_)
 go_simp
 (refine (cloneR HR.out.rest HB4.out).mono ?_;rintro e w5 ⟨B3,d3,rfl,hb3,hg3,hk3⟩;have HB5:=zh (zA HB4.out hb3);have HB3':=zh hb3;have HG3:=zh hg3;have HK3:=zh hk3;clear hb3 hg3 hk3)
 refine hK.out _ _ ?_ (fun zH_=>?_)
 ·(try dsimp only);exact box3 ((HB3'.out.block _ (zg.1 zH_.2.out).1).trans zH_.2.out)
 clear hK K
 try simp only[ps]
 refine zZ (rs:=[10]) (by kernel_rfl) (by simp) ?_
 refine AllReadyB.last rfl (by kernel_rfl) (fun K hK=>?_) AllReadyB.nil
 (obtain ⟨⟨⟨hc5,hc6,hc7⟩,hf5,hf6,hf7⟩,hbx⟩:=zH_;go_simp)
 refine hK.out _ _ ?_
 clear hK K
 (try clear zH_)
 try simp only[ps]
 refine tkA 11 ?v7 rfl (by kernel_rfl) (.inl ⟨by rfl,?y7⟩) ?_
 case y7=>(intro w;go_simp;try with_reducible rfl)
 try simp only[ps]
 refine wpAny_ready (rs:=[12]) (by kernel_rfl) (by simp) ?_
 refine (AllReady.cons rfl (fun K hK=>?_) AllReady.nil)
 go_simp
 refine hK _ _ ?_
 clear hK K
 try simp only[ps]
 refine tkA 13 ?v8 rfl (by kernel_rfl) (.inl ⟨by rfl,?y8⟩) ?_
 case y8=>(intro w;go_simp;try with_reducible rfl)
 try simp only[ps]
 refine wpAny_ready (rs:=[14]) (by kernel_rfl) (by simp) ?_
 refine (AllReady.cons rfl (fun K hK=>?_) AllReady.nil)
 go_simp
 refine hK _ _ ?_
 clear hK K
 try simp only[ps]
 refine wpAny_done (by kernel_rfl) ?_ _
 have HST:=zh (cp_start (w2:=wc.drew) HSZ.out hbx.out HRS.out HBD.out HB1.out HB2.out HB3'.out HG1.out HG2.out HG3.out HK1.out HK2.out HK3.out)
 clear hc5 hc6 hc7 hf5 hf6 hf7 hbx HBX HRS HSZ HB0 HBD HB1 HB2 HB3 HB3' HB4 HB5 HG1 HG2 HG3 HK1 HK2 HK3
 generalize w5.heap.size=H3 at *
 generalize ((w5.setCell ⟨w.heap.size,5,none⟩ (.slice B1 x.keys.length d1)).setCell ⟨w.heap.size,6,none⟩ (.slice B2 x.items.length d2)).setCell ⟨w.heap.size,7,none⟩ (.slice B3 x.rest.length d3)=W1 at *
 have hc5:W1.cell? ⟨w.heap.size,5,none⟩=some (.slice B1 x.keys.length d1):=(box3 HST.out.box).1.1.1
 go_wp2
 clear hc5
 go_loopw [22] (fun s wr=>∃i:Nat,i≤x.keys.length∧s = .int .i64 i∧Hid (CpSt x w H3 B1 d1 B2 d2 B3 d3 i 0 wr)) (fun s _=>x.keys.length - (intOf s).toNat)
 case atStart=>exact ⟨0,by omega,rfl,HST.out⟩
 case round =>
  obtain ⟨i,hi,rfl,hh⟩:=hrel
  obtain ⟨wo,rfl⟩:∃wo:World,wo=wr:=⟨_,rfl⟩
  by_cases hlt:i<x.keys.length
  ·obtain ⟨g,cs,rfl,hg0,hg1,_,hoff,hrg,_⟩:=hh.out.keys.next hlt
   obtain ⟨E1,e1,E2,e2,E3,e3,rfl,hvr⟩:=Val.at_iff.1 hoff.out
   have HSZ:=zh (Nat.le_of_lt_succ (Nat.lt_of_lt_of_le (Val.size_keys (List.getElem_mem hlt)) HX.out))
   obtain ⟨a0,a1,a2,a3,a4,a5,a6,a7⟩:=range8 hrg
   have hz1:=zF a0
   simp only at hz1
   have h1:(0:Int)≤(i:Int):=by omega
   have h2:(i:Int)<(x.keys.length:Int):=by omega
   have HS4:=zh (hh.out.below (zD wo ((x.keys[i]).box E1 e1 E2 e2 E3 e3)))
   have HXB:=zh (heap_alloc_new wo ((x.keys[i]).box E1 e1 E2 e2 E3 e3))
   have HVR:=zh (hvr.below (zD wo ((x.keys[i]).box E1 e1 E2 e2 E3 e3)))
   clear hg0 hg1 hoff hvr hrg
   go_wp2_with fail
   generalize wo.alloc ((x.keys[i]).box E1 e1 E2 e2 E3 e3)=wc at *
   refine yD (S:=(fun w'=>((w'.cell? ⟨w.heap.size,5,none⟩=some (.slice (some ⟨g,0,none⟩) x.keys.length d1)∧w'.cell? ⟨w.heap.size,6,none⟩=some (.slice B2 x.items.length d2))∧(w'.cell? ⟨wo.heap.size,0,none⟩=some (.int .i64 (x.keys[i]).kind)∧w'.cell? ⟨wo.heap.size,1,none⟩=some (.bool (x.keys[i]).bool)∧w'.cell? ⟨wo.heap.size,2,none⟩=some (.int .i64 (x.keys[i]).int)∧w'.cell? ⟨wo.heap.size,3,none⟩=some (.string (x.keys[i]).str)∧w'.cell? ⟨wo.heap.size,4,none⟩=some (.int .i64 (x.keys[i]).id)∧w'.cell? ⟨wo.heap.size,5,none⟩=some (.slice E1 (x.keys[i]).keys.length e1)∧w'.cell? ⟨wo.heap.size,6,none⟩=some (.slice E2 (x.keys[i]).items.length e2)∧w'.cell? ⟨wo.heap.size,7,none⟩=some (.slice E3 (x.keys[i]).rest.length e3)))∧Hid (CpSt x w H3 (some ⟨g,0,none⟩) d1 B2 d2 B3 d3 i 0 w'∧w'.heap[wo.heap.size]? = some ((x.keys[i]).box E1 e1 E2 e2 E3 e3)))) 6 (by kernel_rfl) ?_ (fun zH_=>?_)
   ·(try dsimp only);exact cp_hold (HS4.out.below (zE (Below.refl _ _) 1)) HXB.out
   refine tC 0 _ zH_ ?_
   try simp only[ps]
   refine tB 1 _ zH_ ?_
   try simp only[ps]
   refine tC 2 _ zH_ ?_
   try simp only[ps]
   refine tB 3 _ zH_ ?_
   try simp only[ps]
   refine tS 4 (fun K hK=>?_)
   go_simp
   (refine (IH.out x.keys[i] HSZ.out E1 e1 E2 e2 E3 e3 _ (HVR.out.below (zE (Below.refl _ _) 1))).mono ?_;rintro e w6 ⟨F1,f1,F2,f2,F3,f3,rfl,hoff,hb6⟩;have HOF:=zh hoff;have HLE:=zh (zH_.2.out.1.hi);clear hoff)
   refine hK.out _ _ ?_ (fun zH_=>?_)
   ·(try dsimp only);exact cp_hold (zH_.2.out.1.below hb6) ((hb6.block _ (zg.1 zH_.2.out.2).1).trans zH_.2.out.2)
   clear hK K
   try simp only[ps]
   refine tC 5 _ zH_ ?_
   try simp only[ps]
   refine zZ (rs:=[6]) (by kernel_rfl) (by simp) ?_
   refine AllReadyB.last rfl (by kernel_rfl) (fun K hK=>?_) AllReadyB.nil
   (have HH6:=zh zH_.2.out.1;simp only[List.getElem_toArray,List.getElem_cons_zero,List.getElem_cons_succ];rw[if_pos (by rfl)];refine wp_store_mid 81 (.tmp 32) (.tmp 31) rfl (g) (i * 8) (#[.int .i64 (x.keys[i]).kind,.bool (x.keys[i]).bool,.int .i64 (x.keys[i]).int,.string (x.keys[i]).str,.int .i64 (x.keys[i]).id,.slice F1 (x.keys[i]).keys.length f1,.slice F2 (x.keys[i]).items.length f2,.slice F3 (x.keys[i]).rest.length f3]) (by rfl) (by rfl) ?_ ?_ ?_ ?_;(exact zH_.2.out.1.keys.there hlt rfl);(exact val_info);(exact val_one _ _ _ _ _ _ _))
   refine hK.out _ _ ?_
   clear hK K
   (try clear zH_)
   try simp only[ps]
   refine wpAny_done (by kernel_rfl) ?_ _
   have HN:=zh (HH6.out.key hlt rfl HLE.out HOF.out (f1:=f1) (f2:=f2) (f3:=f3))
   clear zH_
   go_wp2
   go_roundw
   case rel=>exact ⟨i+1,by omega,by go_num,HN.out⟩
   case measure=>simp[intOf];omega
  ·obtain rfl:i=x.keys.length:=by omega
   have HS2:=zh hh.out
   have hc6:wo.cell? ⟨w.heap.size,6,none⟩=some (.slice B2 x.items.length d2):=(box3 hh.out.box).1.1.2.1
   clear hh
   go_wp2
   clear hc6
   go_loopw [37] (fun s wr=>∃i:Nat,i≤x.items.length∧s = .int .i64 i∧Hid (CpSt x w H3 B1 d1 B2 d2 B3 d3 x.keys.length i wr)) (fun s _=>x.items.length - (intOf s).toNat)
   case atStart=>exact ⟨0,by omega,rfl,HS2.out⟩
   case round =>
    obtain ⟨i,hi,rfl,hh⟩:=hrel
    obtain ⟨wo,rfl⟩:∃wo:World,wo=wr:=⟨_,rfl⟩
    by_cases hlt:i<x.items.length
    ·obtain ⟨g,cs,rfl,hg0,hg1,_,hoff,hrg,_⟩:=hh.out.items.next hlt
     obtain ⟨E1,e1,E2,e2,E3,e3,rfl,hvr⟩:=Val.at_iff.1 hoff.out
     have HSZ:=zh (Nat.le_of_lt_succ (Nat.lt_of_lt_of_le (Val.size_items (List.getElem_mem hlt)) HX.out))
     obtain ⟨a0,a1,a2,a3,a4,a5,a6,a7⟩:=range8 hrg
     have hz1:=zF a0
     simp only at hz1
     have h1:(0:Int)≤(i:Int):=by omega
     have h2:(i:Int)<(x.items.length:Int):=by omega
     have HS4:=zh (hh.out.below (zD wo ((x.items[i]).box E1 e1 E2 e2 E3 e3)))
     have HXB:=zh (heap_alloc_new wo ((x.items[i]).box E1 e1 E2 e2 E3 e3))
     have HVR:=zh (hvr.below (zD wo ((x.items[i]).box E1 e1 E2 e2 E3 e3)))
     clear hg0 hg1 hoff hvr hrg
     go_wp2_with fail
     generalize wo.alloc ((x.items[i]).box E1 e1 E2 e2 E3 e3)=wc at *
     refine yD (S:=(fun w'=>((w'.cell? ⟨w.heap.size,5,none⟩=some (.slice B1 x.keys.length d1)∧w'.cell? ⟨w.heap.size,6,none⟩=some (.slice (some ⟨g,0,none⟩) x.items.length d2))∧(w'.cell? ⟨wo.heap.size,0,none⟩=some (.int .i64 (x.items[i]).kind)∧w'.cell? ⟨wo.heap.size,1,none⟩=some (.bool (x.items[i]).bool)∧w'.cell? ⟨wo.heap.size,2,none⟩=some (.int .i64 (x.items[i]).int)∧w'.cell? ⟨wo.heap.size,3,none⟩=some (.string (x.items[i]).str)∧w'.cell? ⟨wo.heap.size,4,none⟩=some (.int .i64 (x.items[i]).id)∧w'.cell? ⟨wo.heap.size,5,none⟩=some (.slice E1 (x.items[i]).keys.length e1)∧w'.cell? ⟨wo.heap.size,6,none⟩=some (.slice E2 (x.items[i]).items.length e2)∧w'.cell? ⟨wo.heap.size,7,none⟩=some (.slice E3 (x.items[i]).rest.length e3)))∧Hid (CpSt x w H3 B1 d1 (some ⟨g,0,none⟩) d2 B3 d3 x.keys.length i w'∧w'.heap[wo.heap.size]? = some ((x.items[i]).box E1 e1 E2 e2 E3 e3)))) 6 (by kernel_rfl) ?_ (fun zH_=>?_)
     ·(try dsimp only);exact cp_hold (HS4.out.below (zE (Below.refl _ _) 1)) HXB.out
     refine tC 0 _ zH_ ?_
     try simp only[ps]
     refine tB 1 _ zH_ ?_
     try simp only[ps]
     refine tC 2 _ zH_ ?_
     try simp only[ps]
     refine tB 3 _ zH_ ?_
     try simp only[ps]
     refine tS 4 (fun K hK=>?_)
     go_simp
     (refine (IH.out x.items[i] HSZ.out E1 e1 E2 e2 E3 e3 _ (HVR.out.below (zE (Below.refl _ _) 1))).mono ?_;rintro e w6 ⟨F1,f1,F2,f2,F3,f3,rfl,hoff,hb6⟩;have HOF:=zh hoff;have HLE:=zh (zH_.2.out.1.hi);clear hoff)
     refine hK.out _ _ ?_ (fun zH_=>?_)
     ·(try dsimp only);exact cp_hold (zH_.2.out.1.below hb6) ((hb6.block _ (zg.1 zH_.2.out.2).1).trans zH_.2.out.2)
     clear hK K
     try simp only[ps]
     refine tC 5 _ zH_ ?_
     try simp only[ps]
     refine zZ (rs:=[6]) (by kernel_rfl) (by simp) ?_
     refine AllReadyB.last rfl (by kernel_rfl) (fun K hK=>?_) AllReadyB.nil
     (have HH6:=zh zH_.2.out.1;simp only[List.getElem_toArray,List.getElem_cons_zero,List.getElem_cons_succ];rw[if_pos (by rfl)];refine wp_store_mid 81 (.tmp 47) (.tmp 46) rfl (g) (i * 8) (#[.int .i64 (x.items[i]).kind,.bool (x.items[i]).bool,.int .i64 (x.items[i]).int,.string (x.items[i]).str,.int .i64 (x.items[i]).id,.slice F1 (x.items[i]).keys.length f1,.slice F2 (x.items[i]).items.length f2,.slice F3 (x.items[i]).rest.length f3]) (by rfl) (by rfl) ?_ ?_ ?_ ?_;(exact zH_.2.out.1.items.there hlt rfl);(exact val_info);(exact val_one _ _ _ _ _ _ _))
     refine hK.out _ _ ?_
     clear hK K
     (try clear zH_)
     try simp only[ps]
     refine wpAny_done (by kernel_rfl) ?_ _
     have HN:=zh (HH6.out.item hlt rfl HLE.out HOF.out (f1:=f1) (f2:=f2) (f3:=f3))
     clear zH_
     go_wp2
     go_roundw
     case rel=>exact ⟨i+1,by omega,by go_num,HN.out⟩
     case measure=>simp[intOf];omega
    ·obtain rfl:i=x.items.length:=by omega
     have HS3:=zh hh.out
     obtain ⟨⟨_,b0,b1,b2,b3,b4,b5,b6,b7⟩,_⟩:=cp_hold hh.out hh.out.box
     have HTH:Hid (wo.there (w.heap.size+1) 0 8):=zh (there_box hh.out.res)
     clear hh
     go_wp2_with (refine wpList_store_mid rfl 81 (.tmp 2) (.tmp 49) rfl (w.heap.size+1) 0 #[.int .i64 x.kind,.bool x.bool,.int .i64 x.int,.string x.str,.int .i64 x.id,.slice B1 x.keys.length d1,.slice B2 x.items.length d2,.slice B3 x.rest.length d3] (by rfl) (by rfl) ?_ ?_ ?_ ?_;(exact HTH.out);(exact val_info);(exact val_one x _ _ _ _ _ _))
     obtain ⟨⟨k0,k1,k2,k3,k4,k5,k6,k7⟩,hfin⟩:=cp_end HS3.out HR.out
     have HF:=zh hfin
     clear hfin
     exact bodyPost_ret (v:=x.v B1 d1 B2 d2 B3 d3) (by simp[results,Tryz.results75,go_sem,k0,k1,k2,k3,k4,k5,k6,k7]) rfl ⟨B1,d1,B2,d2,B3,d3,rfl,HF.out.1,HF.out.2⟩
theorem copied_any (x:Val) (A1:Option Addr) (c1:Nat) (A2:Option Addr) (c2:Nat) (A3:Option Addr) (c3:Nat) (w:World) (h:ValR w x A1 A2 A3):Calls Tryz.prog 75 #[x.v A1 c1 A2 c2 A3 c3] w (CopyPost x w) :=
 copied_n _ x (Nat.le_refl _) A1 c1 A2 c2 A3 c3 w h
end Go.Proofs.YtkhpajneinmmiaaGreatDoor


