/-
  Walks: canon.copied.
-/
import Derived.Test.YtdfolgmcggdjdaaGreatDoorQDM
import Derived.Deep.DeepCutAuto
namespace Go.Proofs.YtdfolgmcggdjdaaGreatDoor
open Go.RowKit
set_option maxHeartbeats 16000000
set_option maxRecDepth 100000
abbrev zboxV:Obj := .cells #[.int .i64 0,.bool false,.int .i64 0,.string ⟨#[]⟩,.int .i64 0,.slice none 0 0,.slice none 0 0,.slice none 0 0] 69
theorem tmp_al {W:World} {b:Nat} {o:Obj} (h:W.heap[b]? = some o) (o2:Obj):(W.alloc o2).heap[b]? = some o :=
 ((zD W o2).block b (zg.1 h).1).trans h
theorem Val.size_keys {x y:Val} (h:y∈x.keys):SizeOf.sizeOf y<SizeOf.sizeOf x:=by
 obtain ⟨k,b,i,s,d,ks,is,r⟩:=x
 have:=List.sizeOf_lt_of_mem h
 simp only[Val.keys] at this
 simp only[Val.mk.sizeOf_spec]
 omega
theorem Val.size_items {x y:Val} (h:y∈x.items):SizeOf.sizeOf y<SizeOf.sizeOf x:=by
 obtain ⟨k,b,i,s,d,ks,is,r⟩:=x
 have:=List.sizeOf_lt_of_mem h
 simp only[Val.items] at this
 simp only[Val.mk.sizeOf_spec]
 omega
theorem Val.at_one {w:World} {x:Val} {cs:List Value} (h:x.At w cs):cs.length=8∧∀u∈cs,u.oneCell'=true:=by
 obtain ⟨A1,c1,A2,c2,A3,c3,rfl,_⟩:=Val.at_iff.1 h
 refine ⟨rfl,?_⟩
 intro u hu
 simp only[List.mem_cons,List.mem_nil_iff,or_false] at hu
 rcases hu with rfl|rfl|rfl|rfl|rfl|rfl|rfl|rfl <;> rfl
theorem RawD.at_one {x:RawD} {cs:List Value} (h:x.At cs):cs.length=2∧∀u∈cs,u.oneCell'=true:=by
 obtain ⟨_,rfl⟩:=h
 refine ⟨rfl,?_⟩
 intro u hu
 simp only[List.mem_cons,List.mem_nil_iff,or_false] at hu
 rcases hu with rfl|rfl <;> rfl
structure CpSt (x:Val) (w:World) (H3:Nat) (A1:Option Addr) (c1:Nat) (A2:Option Addr) (c2:Nat) (A3:Option Addr) (c3:Nat) (i j:Nat) (wr:World):Prop where
 box:wr.heap[w.heap.size]? = some (x.box A1 c1 A2 c2 A3 c3)
 res:wr.heap[w.heap.size+1]? = some zboxV
 bel:Below w.heap.size w wr
 hi:H3≤wr.heap.size
 lo:w.heap.size+2≤H3
 keys:RowSt 69 8 (fun u x cs=>Val.At u x cs) wr (w.heap.size+2) H3 w.heap.size A1 c1 x.keys i
 items:RowSt 69 8 (fun u x cs=>Val.At u x cs) wr (w.heap.size+2) H3 w.heap.size A2 c2 x.items j
 rest:RowSt 124 2 (fun _ x cs=>RawD.At x cs) wr (w.heap.size+2) H3 w.heap.size A3 c3 x.rest x.rest.length
 apart:∀g,(Value.slice A1 x.keys.length c1).ownBlock=some g→(Value.slice A2 x.items.length c2).ownBlock≠some g∧(Value.slice A3 x.rest.length c3).ownBlock≠some g
 apart2:∀g,(Value.slice A2 x.items.length c2).ownBlock=some g→(Value.slice A3 x.rest.length c3).ownBlock≠some g
theorem CpSt.below {x:Val} {w:World} {H3:Nat} {A1:Option Addr} {c1:Nat} {A2:Option Addr} {c2:Nat} {A3:Option Addr} {c3:Nat} {i j:Nat} {wr w':World} (h:CpSt x w H3 A1 c1 A2 c2 A3 c3 i j wr) (hb:Below wr.heap.size wr w'):CpSt x w H3 A1 c1 A2 c2 A3 c3 i j w' :=
 ⟨(hb.block _ (zg.1 h.box).1).trans h.box,(hb.block _ (zg.1 h.res).1).trans h.res,zA h.bel hb,Nat.le_trans h.hi hb.size,h.lo,h.keys.below hb,h.items.below hb,h.rest.below hb,h.apart,h.apart2⟩
theorem CpSt.key {x:Val} {w:World} {H3:Nat} {A1:Option Addr} {c1:Nat} {A2:Option Addr} {c2:Nat} {A3:Option Addr} {c3:Nat} {i j:Nat} {wr:World} (h:CpSt x w H3 A1 c1 A2 c2 A3 c3 i j wr) (hi:i<x.keys.length) {g:Nat} (hA:A1=some ⟨g,0,none⟩) {F1:Option Addr} {f1:Nat} {F2:Option Addr} {f2:Nat} {F3:Option Addr} {f3:Nat} {B:Nat} (hB:H3≤B) (ho:Off (· < B) wr fun u=>ValR u x.keys[i] F1 F2 F3) :
  CpSt x w H3 A1 c1 A2 c2 A3 c3 (i+1) j (wr.setCells g (i * 8) ((x.keys[i]).cs F1 f1 F2 f2 F3 f3)):=by
 have hlt:=h.keys.lt (g:=g) (by rw[hA];rfl)
 have hown:(Value.slice A1 x.keys.length c1).ownBlock=some g:=by rw[hA];rfl
 have hlo:=h.lo
 refine ⟨?_,?_,below_setsg g (by omega) _ _ _ h.bel,by rw[size_setCells];exact h.hi,h.lo,?_,?_,?_,h.apart,h.apart2⟩
 ·rw[heap_setCells_ne (by omega)];exact h.box
 ·rw[heap_setCells_ne (by omega)];exact h.res
 ·have:=h.keys.write hi hA (Nat.le_add_right _ _) (by omega) (x:=x.keys[i]) (cs:=(x.keys[i]).cs F1 f1 F2 f2 F3 f3) rfl ((ho.mono fun q _ hq=>by omega).imp fun u hu=>Val.at_iff.2 ⟨F1,f1,F2,f2,F3,f3,rfl,hu⟩)
  rwa [List.set_getElem_self] at this
 ·exact h.items.otherCells _ _ hlt.2.2 (by omega) (h.apart g hown).1
 ·exact h.rest.otherCells _ _ hlt.2.2 (by omega) (h.apart g hown).2
end Go.Proofs.YtdfolgmcggdjdaaGreatDoor


