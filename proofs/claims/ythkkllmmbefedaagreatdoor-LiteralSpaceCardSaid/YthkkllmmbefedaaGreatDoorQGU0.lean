/-
  Bytes that came in: opened.
-/
import Derived.Test.YthkkllmmbefedaaGreatDoorQSXLS
import Derived.Test.YthkkllmmbefedaaGreatDoorQGA10
import Derived.Test.YthkkllmmbefedaaGreatDoorQWD1
import Derived.Test.YthkkllmmbefedaaGreatDoorQGA4
import Derived.Test.YthkkllmmbefedaaGreatDoorQNRM
import Derived.Test.YthkkllmmbefedaaGreatDoorQST0
import Derived.Test.YthkkllmmbefedaaGreatDoorQGA11
namespace Go.Proofs.YthkkllmmbefedaaGreatDoor
open Go.RowKit
set_option maxHeartbeats 16000000
set_option maxRecDepth 100000
def BldL (w:World) (B H b:Nat) (s:ByteArray):Prop:=B≤b∧b<H∧∃p v,(p = .pointer none∨p = .pointer (some ⟨b,0,none⟩))∧w.heap[b]? = some (.cells #[p,v] 57 (0,0))∧w.ownsRowF B 5 1 v (Lib.byteCells s.data.toList).length (Lib.byteCells s.data.toList)∧v.ownBlock≠some b∧∀g,v.ownBlock=some g→g<H
theorem BldF.low {w:World} {B b:Nat} {s:ByteArray} (h:BldF w B b s):BldL w B w.heap.size b s:=by
 have h':Lib.IsBuilderF 57 5 B b (Lib.byteCells s.data.toList) w:=by rw[←Lib.strCells_eq];exact h
 rcases h' with ⟨hB,v,hb,ho,hn⟩|⟨hB,v,hb,ho,hn⟩
 ·exact ⟨hB,(zg.1 hb).1,_,v,.inl rfl,hb,ho,hn,fun g hg=>(ho.lt g hg).2⟩
 ·exact ⟨hB,(zg.1 hb).1,_,v,.inr rfl,hb,ho,hn,fun g hg=>(ho.lt g hg).2⟩
def U8R (w:World) (A:zo) (l:List Int):Prop:=RowsR 1 1 (fun z cs=>cs=[.int .u8 z]∧0≤z∧z≤255) w A l
theorem U8R.below {w w':World} {A:zo} {l:List Int} (h:U8R w A l) (hb:Below w.heap.size w w'):U8R w' A l:=RowsR.imp h (fun _ _ _ h=>h) hb
theorem U8R.at1 {w:World} {A:zo} {l:List Int} (h:U8R w A l) {i:Nat} (hi:i<l.length):∃b o,A=some ⟨b,o,none⟩∧(0≤l[i]∧l[i]≤255)∧w.cell? ⟨b,o+i,none⟩=some (.int .u8 l[i]):=by
 obtain ⟨b,o,cs,e,⟨rfl,h0⟩,h2⟩:=RowsR.at_ h hi;have:=h2 0 _ rfl;rw[Nat.mul_one] at this;exact ⟨b,o,e,h0,this⟩
def ksI (sp:List Int) (i:Nat):Nat:=if sp=[] then 0 else (sp.getD (i % sp.length) 0).toNat % 4
def spcB (k:Nat):ByteArray:=bA (spcT k)
theorem spcB_size (k:Nat):(spcB k).size≤6:=by
 show (spcT k).toArray.size≤6
 rw[List.size_toArray];unfold spcT
 repeat' split
 all_goals decide
structure SpS (W0:World) (b:Nat) (o:List TokD) (sp:List Int) (i:Nat) (ys:ByteArray) (wr:World):Prop where
 bld:BldF wr W0.heap.size b ys
 eq:ys.data.toList++spread (ksI sp) i (o.drop i)=spread (ksI sp) 0 o
 bel:Below W0.heap.size W0 wr
theorem SpS.step {W0:World} {b:Nat} {o:List TokD} {sp:List Int} {i:Nat} {ys:ByteArray} {wr w':World} (h:SpS W0 b o sp i ys wr) (hi:i<o.length) (hb:BldF w' W0.heap.size b (ys++wordT o[i]++spcB (ksI sp i))) (hl:Below W0.heap.size W0 w'):SpS W0 b o sp (i+1) (ys++wordT o[i]++spcB (ksI sp i)) w':=by
 refine ⟨hb,?_,hl⟩;rw[←h.eq,List.drop_eq_getElem_cons hi,spread,data_app2,data_app2,List.append_assoc,List.append_assoc]
 rfl
theorem SpS.size {W0:World} {b:Nat} {o:List TokD} {sp:List Int} {i:Nat} {ys:ByteArray} {wr:World} (h:SpS W0 b o sp i ys wr) {n:Nat} (hn:(spread (ksI sp) 0 o).length≤n):ys.size≤n:=by
 have:=congrArg List.length h.eq;rw[List.length_append] at this;have e:ys.data.toList.length=ys.size:=rfl
 omega
theorem SpS.sizeW {W0:World} {b:Nat} {o:List TokD} {sp:List Int} {i:Nat} {ys:ByteArray} {wr:World} (h:SpS W0 b o sp i ys wr) (hi:i<o.length) {n:Nat} (hn:(spread (ksI sp) 0 o).length≤n):ys.size+(wordT o[i]).size+(spcB (ksI sp i)).size≤n:=by
 have:=congrArg List.length h.eq;rw[List.drop_eq_getElem_cons hi,spread,List.length_append,List.length_append,List.length_append] at this;have e:ys.data.toList.length=ys.size:=rfl;have e2:(wordT o[i]).data.toList.length=(wordT o[i]).size:=rfl;have e3:(spcT (ksI sp i)).length=(spcB (ksI sp i)).size:=List.size_toArray.symm
 omega
theorem spread_le (ks:Nat→Nat) {x:ByteArray} {o:List TokD} (hx:x.size≤600) (hl:toksL 1 x.data.toList = .ok o):(spread ks 0 o).length≤4200:=by
 have h1:=spread_size ks o 0;have h2:=toks_size _ 1 _ o (Nat.le_refl _) hl;have h3:x.data.toList.length=x.size:=rfl
 omega
theorem word_ok {x:ByteArray} {o:List TokD} (hx:x.size≤600) (hl:toksL 1 x.data.toList = .ok o) {t:TokD} (ht:t∈o):(t.kind=2→In64 t.int)∧(t.kind=3→(quD t.str).size≤140737488355328):=by
 have h:=(toks_ok _ 1 _ o (Nat.le_refl _) hl t ht).2;have h2:=(toks_sz _ 1 _ o (Nat.le_refl _) hl t ht).2;have h3:x.data.toList.length=x.size:=rfl;refine ⟨fun hk=>?_,fun _=>?_⟩
 ·rcases h with ⟨e,_⟩|⟨_,h⟩|e|⟨e,_⟩
  ·omega
  ·exact ⟨by omega,by omega⟩
  ·omega
  ·omega
 ·have:=quD_le t.str
  omega
theorem SpS.law {W0:World} {b:Nat} {o:List TokD} {sp:List Int} {ys:ByteArray} {wr:World} (h:SpS W0 b o sp o.length ys wr) {s:List TyD} {x:ByteArray} (hx:x.size≤600) (hl:toksL 1 x.data.toList = .ok o) (t:Int):parseS false s t ys=parseS false s t x∧ys.size≤4200 :=
 space_law (ksI sp) hx hl (by have:=h.eq;rw[List.drop_length] at this;rw[←this];exact (List.append_nil _).symm) t
theorem BldL.below {w w':World} {B H b:Nat} {s:ByteArray} (h:BldL w B H b s) (hb:Below H w w'):BldL w' B H b s:=by
 obtain ⟨hB,hbH,p,v,hp,hbk,ho,hn,hl⟩:=h;refine ⟨hB,hbH,p,v,hp,(hb.block b hbH).trans hbk,⟨ho.1,?_⟩,hn,hl⟩
 rcases ho.2 with h0|⟨g,cap,cur,fz,hv,hg0,hg,r⟩
 ·exact .inl h0
 ·exact .inr ⟨g,cap,cur,fz,hv,hg0,(hb.block g (hl g (by rw[hv];rfl))).trans hg,r⟩
theorem freeze_ne {w:World} {p:Addr} {n q:Nat} (h:q≠p.block):(w.freeze p n).heap[q]? = w.heap[q]? := by
 unfold World.freeze
 split
 ·rfl
 ·simp only[Array.getElem?_modify]
  rw[if_neg (fun e=>h e.symm)]
theorem freeze_size {w:World} {p:Addr} {n:Nat}:(w.freeze p n).heap.size=w.heap.size:=by
 unfold World.freeze
 split
 ·rfl
 ·simp
def StrP (w:World) (B H b:Nat) (s:ByteArray) (e:Ending) (w':World):Prop:=e = .returned (.string s)∧w.heap.size≤w'.heap.size∧(∀q,H≤q→q<w.heap.size→w'.heap[q]? = w.heap[q]?)∧BldL w' B H b s∧Below B w w'
theorem strP_below {w w':World} {B H b:Nat} {s:ByteArray} (h:BldL w B H b s) (hB:B≤w.heap.size) (hH:H≤w.heap.size) (hb:Below w.heap.size w w'):StrP w B H b s (.returned (.string s)) w' :=
 ⟨rfl,hb.size,fun q _ hq=>hb.block q hq,h.below (hb.mono hH),hb.mono hB⟩
theorem BldL.strL {w:World} {B H b:Nat} {l:List UInt8} (h:BldL w B H b (bA l)) (hB:B≤w.heap.size) (hH:H≤w.heap.size) :
  Calls Tryz.prog 25 #[.pointer (some ⟨b,0,none⟩)] w (StrP w B H b (bA l)):=by
 have HL:=zh h;have HB:=zh hB;have HH:=zh hH;have hUS:=fun (W:World) (q:zo)=>(Lib.run_unsafeString_none W 113 3 9 q:(Builtin.unsafeString_ #[113,3] 9 #[.pointer q,.int .i64 0]).run Tryz.prog W = .ok (.string .empty) W)
 have mixed:Tryz.prog.follows Departure.mixedOrders=true:=by kernel_rfl
 obtain ⟨hB0,hbH,p,v,hp,hbk,ho,hn,hl⟩:=h;have hlt:=(zg.1 hbk).1;replace ho:w.ownsRowF B 5 1 v (Lib.byteCells l).length (Lib.byteCells l):=ho
 by_cases h0:l=[]
 ·subst h0
  rcases ho.2 with ⟨hv,_⟩|⟨g,cap,cur,fz,hv,hg0,hg,_⟩
  ·subst hv
   have c1:w.drew.cell? ⟨b,1,none⟩=some (.slice none 0 0):=by
    have:w.drew.heap[b]? = _:=hbk;rw[Lib.cell_of_heap this];rfl
   have hSD:(Builtin.unsafeSliceData_ #[40] 113 #[.slice none 0 0]).run Tryz.prog w.drew = .ok (.pointer none) w.drew:=rfl;clear hbk ho hn hl hp hlt hB hH
   go_enter Tryz.func25,Tryz.ntmps25
   go_wp2
   go_region_o
   all_goals (go_wp2;go_ret;exact strP_below HL.out HB.out HH.out (zC (Below.refl _ _) 1))
  ·subst hv
   by_cases hc:cap=0
   ·subst hc
    have hgl:=(zg.1 hg).1;have c1:w.drew.cell? ⟨b,1,none⟩=some (.slice (some ⟨g,0,none⟩) 0 0):=by
     have:w.drew.heap[b]? = _:=hbk;rw[Lib.cell_of_heap this];rfl
    have hSD:(Builtin.unsafeSliceData_ #[40] 113 #[.slice (some ⟨g,0,none⟩) 0 0]).run Tryz.prog w.drew = .ok (.pointer (some ⟨w.drew.heap.size,0,none⟩)) (w.drew.alloc (.view ⟨g,0,none⟩ 5)) :=
     Lib.run_unsafeSliceData_zero w.drew _ _ 5 Tryz.underlying113 ⟨g,0,none⟩ 0 (5,cur.size) (by have hg':w.drew.heap[g]? = _:=hg;simp[World.shape?,hg'])
    have c2:(w.drew.alloc (.view ⟨g,0,none⟩ 5)).cell? ⟨b,1,none⟩=some (.slice (some ⟨g,0,none⟩) 0 0):=by
     have:(w.drew.alloc (.view ⟨g,0,none⟩ 5)).heap[b]? = _:=(Lib.alloc_old w.drew _ b hlt).trans hbk;rw[Lib.cell_of_heap this];rfl
    have c3:(w.alloc (.view ⟨g,0,none⟩ 5)).drew.cell? ⟨b,1,none⟩=some (.slice (some ⟨g,0,none⟩) 0 0):=c2;clear hbk ho hn hl hp hlt hB hH hg hgl
    go_enter Tryz.func25,Tryz.ntmps25
    go_wp2
    go_region_o
    all_goals (go_wp2;go_ret;exact strP_below HL.out HB.out HH.out (zB (zC (Below.refl _ _) 1) (zD w.drew _)))
   ·have c1:w.drew.cell? ⟨b,1,none⟩=some (.slice (some ⟨g,0,none⟩) 0 cap):=by
     have:w.drew.heap[b]? = _:=hbk;rw[Lib.cell_of_heap this];rfl
    have hSD:(Builtin.unsafeSliceData_ #[40] 113 #[.slice (some ⟨g,0,none⟩) 0 cap]).run Tryz.prog w.drew = .ok (.pointer (some ⟨g,0,none⟩)) w.drew:=Lib.run_unsafeSliceData_row _ _ _ _ _ _ hc;clear hbk ho hn hl hp hlt hB hH hg hc
    go_enter Tryz.func25,Tryz.ntmps25
    go_wp2
    go_region_o
    all_goals (go_wp2;go_ret;exact strP_below HL.out HB.out HH.out (zC (Below.refl _ _) 1))
 ·rw[Lib.byteCells_length] at ho
  have hl0:l.length≠0:=by simpa using h0
  obtain ⟨g,cap,cur,fz,rfl,hbg,hg,hnc,hcm,hcs⟩:∃g cap cur fz,v = .slice (some ⟨g,0,none⟩) l.length cap∧B≤g∧w.heap[g]? = some (.cells cur 5 fz)∧l.length≤cap∧cap≤maxLen∧cur.size=cap * 1:=by
   rcases ho.2 with ⟨_,hz⟩|⟨g,cap,cur,fz,hv,r1,r2,_,r3,r4,r5,_⟩
   ·exact absurd hz hl0
   ·exact ⟨g,cap,cur,fz,hv,r1,r2,r3,r4,r5⟩
  have c1:w.drew.cell? ⟨b,1,none⟩=some (.slice (some ⟨g,0,none⟩) l.length cap):=by
   have:w.drew.heap[b]? = _:=hbk;rw[Lib.cell_of_heap this];rfl
  have hSD:(Builtin.unsafeSliceData_ #[40] 113 #[.slice (some ⟨g,0,none⟩) l.length cap]).run Tryz.prog w.drew = .ok (.pointer (some ⟨g,0,none⟩)) w.drew:=Lib.run_unsafeSliceData_row _ _ _ _ _ _ (by omega)
  have hSS:(Builtin.unsafeString_ #[113,3] 9 #[.pointer (some ⟨g,0,none⟩),.int .i64 l.length]).run Tryz.prog w.drew = .ok (.string (bA l)) (w.drew.freeze ⟨g,0,none⟩ l.length):=by
   refine Lib.run_unsafeString_row w.drew 113 3 9 5 Tryz.underlying113 (by kernel_rfl) g cur.size (by have hg':w.drew.heap[g]? = _:=hg;simp[World.shape?,hg']) l h0 (by omega) (by unfold maxLen at hcm;omega) ?_
   intro j x hx
   exact ho.cells (g:=g) rfl j (.int .u8 x.toNat) (by simp[Lib.byteCells,hx])
  have HK:Hid (BldL (w.drew.freeze ⟨g,0,none⟩ l.length) B H b (bA l)):=by
   have hA:Lib.BuilderAtF 57 5 B b p (Lib.byteCells l) w.drew:=⟨hB0,_,hbk,by rw[Lib.byteCells_length];exact ho,hn⟩
   have hF:=hA.froze (g:=g) (cap:=cap) (by rw[Lib.byteCells_length];exact c1)
   rw[Lib.byteCells_length] at hF;obtain ⟨k1,v',k2,k3,k4⟩:=hF;have e:v' = .slice (some ⟨g,0,none⟩) l.length cap:=by
    have k5:=(freeze_ne (w:=w.drew) (p:=⟨g,0,none⟩) (n:=l.length) (q:=b) (fun e=>hn (by rw[e];rfl))).symm.trans k2
    have k6:w.drew.heap[b]? = _:=hbk;rw[k6] at k5
    injection k5 with k5
    injection k5 with k5
    have:=congrArg (fun (a:Array Value)=>a[1]?) k5
    simpa using this.symm
   exact ⟨k1,hbH,p,v',hp,k2,k3,k4,fun q hq=>hl q (by rw[e] at hq;exact hq)⟩
  have HBF:Hid (Below B w (w.drew.freeze ⟨g,0,none⟩ l.length)):=Lib.below_freeze (Below.drew (Below.refl B w)) (p:=⟨g,0,none⟩) hbg _;have HNE:Hid (∀q,H≤q→q<w.heap.size→(w.drew.freeze ⟨g,0,none⟩ l.length).heap[q]? = w.heap[q]?):=fun q hq _=>by
   have:=hl g rfl;exact freeze_ne (w:=w.drew) (p:=⟨g,0,none⟩) (fun e=>by simp only at e;omega)
  have HSZ:Hid (w.heap.size≤(w.drew.freeze ⟨g,0,none⟩ l.length).heap.size):=by show _≤_;rw[freeze_size];exact Nat.le_refl _
  clear hbk ho hn hl hp h0 hlt hB hH hg hbg hnc hcm hcs hl0 hUS
  go_enter Tryz.func25,Tryz.ntmps25
  go_wp2
  go_region_o
  all_goals (go_wp2;go_ret;exact ⟨rfl,HSZ.out,HNE.out,HK.out,HBF.out⟩)
theorem BldL.str {w:World} {B H b:Nat} {s:ByteArray} (h:BldL w B H b s) (hB:B≤w.heap.size) (hH:H≤w.heap.size) :
  Calls Tryz.prog 25 #[.pointer (some ⟨b,0,none⟩)] w (StrP w B H b s):=BldL.strL (l:=s.data.toList) h hB hH
open Go.ChangeShapes Go.WideShapes Go.ChangeAt Go.RowKit Go.Deep
set_option maxRecDepth 100000
section
variable {H:Type} {enc:TypeId×Value→H} {W:World}
theorem open_u8sA {r:Reach} {b0:Nat} {v:Value} {d:DataW H} {p:List MemPlace} (hv:Value.okWide Tryz.prog W r b0 40 v) (h:DataW.Trod enc Tryz.prog W 0 (fun _=>true) true 40 v d p) (hz:Sz 40 d) :
  ∃ (A:zo) (c:Nat) (l:List Int),v = .slice A l.length c∧U8R W A l :=
 open_sliceA Tryz.underlying40 (by kernel_rfl) (by kernel_rfl) (by omega) (fun y cs hy=>by rw[hy.1];rfl) hv h hz fun d' n' cs' ps' ht _=>by
  obtain ⟨k,hk,e⟩:=open_u8 ht;exact ⟨(k:Int),e,by omega,by omega⟩
end
end Go.Proofs.YthkkllmmbefedaaGreatDoor


