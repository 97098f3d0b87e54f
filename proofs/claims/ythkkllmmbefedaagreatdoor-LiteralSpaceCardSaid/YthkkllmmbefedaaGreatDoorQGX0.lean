/-
  Walks: the members of a draft's node.
-/
import Derived.Test.YthkkllmmbefedaaGreatDoorQGA10
import Derived.Test.YthkkllmmbefedaaGreatDoorQGA6
namespace Go.Proofs.YthkkllmmbefedaaGreatDoor
open Go.RowKit
set_option maxHeartbeats 16000000
set_option maxRecDepth 100000
def InitPost (w:World) (e:Ending) (w':World):Prop:=∃x ok,e = .returned (.tuple #[x.v none 0 none 0 none 0,.bool ok])∧FlatV x∧(ok=false→x=zeroV)∧Below w.heap.size w w'
structure InSt (w W:World) (A:zo) (d:List NodeD) (c:Nat) (x:NodeD) (A':zo) (c':Nat):Prop where
 db:DBox w W A d c
 rb:W.heap[w.heap.size+1]? = some zboxV
 nb:NBox W (w.heap.size+1+1) x A' c'
theorem InSt.below {w W W':World} {A:zo} {d:List NodeD} {c:Nat} {x:NodeD} {A':zo} {c':Nat} (h:InSt w W A d c x A' c') (hb:Below W.heap.size W W'):InSt w W' A d c x A' c' :=
 ⟨h.db.step hb,(hb.block _ (zg.1 h.rb).1).trans h.rb,h.nb.below hb⟩
theorem InSt.new {w:World} {A:zo} {d:List NodeD} {c:Nat} (h:NodesR w A d) (x:NodeD) (A':zo) (c':Nat):InSt w (((w.alloc (.cells #[.slice A d.length c] 24)).alloc zboxV).alloc (x.box A' c')) A d c x A' c':=by
 have hz:(w.alloc (.cells #[.slice A d.length c] 24)).heap.size=w.heap.size+1:=by simp
 have hz2:((w.alloc (.cells #[.slice A d.length c] 24)).alloc zboxV).heap.size=w.heap.size+1+1:=by simp
 refine ⟨((DBox.new h).step (zD _ _)).step (zD _ _),tmp_al ?_ _,?_⟩
 ·have:=heap_alloc_new (w.alloc (.cells #[.slice A d.length c] 24)) zboxV
  rw[hz] at this;exact this
 ·have:=NBox.new ((w.alloc (.cells #[.slice A d.length c] 24)).alloc zboxV) x A' c'
  rw[hz2] at this;exact this
theorem init_end {w W:World} (k:Int) (b:Bool) (i:Int) (s:ByteArray) (n:Int) (hs:s.size≤1∧k≠5∧k≠6) (hth:W.there (w.heap.size+1) 0 8) (hb:Below w.heap.size w W) :
  let W':=W.setCells (w.heap.size+1) 0 [.int .i64 k,.bool b,.int .i64 i,.string s,.int .i64 n,.slice none 0 0,.slice none 0 0,.slice none 0 0]
  (W'.cell? ⟨w.heap.size+1,0,none⟩=some (.int .i64 k)∧W'.cell? ⟨w.heap.size+1,1,none⟩=some (.bool b)∧W'.cell? ⟨w.heap.size+1,2,none⟩=some (.int .i64 i)∧W'.cell? ⟨w.heap.size+1,3,none⟩=some (.string s)∧W'.cell? ⟨w.heap.size+1,4,none⟩=some (.int .i64 n)∧W'.cell? ⟨w.heap.size+1,5,none⟩=some (.slice none 0 0)∧W'.cell? ⟨w.heap.size+1,6,none⟩=some (.slice none 0 0)∧W'.cell? ⟨w.heap.size+1,7,none⟩=some (.slice none 0 0)) ∧
  Hid (FlatV (.mk k b i s n [] [] [])∧Below w.heap.size w W'):=by
 intro W'
 exact ⟨range8 (y := .mk k b i s n [] [] []) (World.rangeAt_setCells_same W (w.heap.size+1) 0 ((Val.mk k b i s n [] [] []).cs none 0 none 0 none 0) hth),⟨hs,rfl,rfl,rfl⟩,yC _ (by omega) _ _ _ hb⟩
theorem in_there {w W:World} {A:zo} {d:List NodeD} {c:Nat} {x:NodeD} {A':zo} {c':Nat} (h:InSt w W A d c x A' c') (o:Obj):(W.alloc o).there (w.heap.size+1) 0 8:=there_box (tmp_al h.rb o)
theorem in_below {w W:World} {A:zo} {d:List NodeD} {c:Nat} {x:NodeD} {A':zo} {c':Nat} (h:InSt w W A d c x A' c') (o:Obj):Below w.heap.size w (W.alloc o):=zB h.db.below (zD _ _)
theorem yK {s:ByteArray} (h:s.size≤100):SOk s:=by unfold SOk;omega
structure InVt (w W:World) (A:zo) (d:List NodeD) (c:Nat) (x:NodeD) (A':zo) (c' vb:Nat) (k:Int):Prop where
 st:InSt w W A d c x A' c'
 vbx:W.heap[vb]? = some (.cells #[.int .i64 k,.bool false,.int .i64 0,.string ⟨#[]⟩,.int .i64 0,.slice none 0 0,.slice none 0 0,.slice none 0 0] 28 (0,0))
 ne:w.heap.size+1<vb
theorem InVt.below {w W W':World} {A:zo} {d:List NodeD} {c:Nat} {x:NodeD} {A':zo} {c' vb:Nat} {k:Int} (h:InVt w W A d c x A' c' vb k) (hb:Below W.heap.size W W'):InVt w W' A d c x A' c' vb k :=
 ⟨h.st.below hb,(hb.block _ (zg.1 h.vbx).1).trans h.vbx,h.ne⟩
theorem InVt.new {w W:World} {A:zo} {d:List NodeD} {c:Nat} {x:NodeD} {A':zo} {c':Nat} (h:InSt w W A d c x A' c') (k:Int):InVt w (W.alloc (.cells #[.int .i64 k,.bool false,.int .i64 0,.string ⟨#[]⟩,.int .i64 0,.slice none 0 0,.slice none 0 0,.slice none 0 0] 28)) A d c x A' c' W.heap.size k :=
 ⟨h.below (zD _ _),heap_alloc_new _ _,by have:=(zg.1 h.rb).1;omega⟩
theorem InVt.there {w W:World} {A:zo} {d:List NodeD} {c:Nat} {x:NodeD} {A':zo} {c' vb:Nat} {k:Int} (h:InVt w W A d c x A' c' vb k) (j:Nat) (v:Value):(W.setCell ⟨vb,j,none⟩ v).there (w.heap.size+1) 0 8 :=
 there_box ((heap_setCell_other _ _ _ _ (by have:=h.ne;show w.heap.size+1≠vb;omega)).trans h.st.rb)
theorem InVt.bel {w W:World} {A:zo} {d:List NodeD} {c:Nat} {x:NodeD} {A':zo} {c' vb:Nat} {k:Int} (h:InVt w W A d c x A' c' vb k) (j:Nat) (v:Value):Below w.heap.size w (W.setCell ⟨vb,j,none⟩ v) :=
 h.st.db.below.setCell (p:=⟨vb,j,none⟩) (by have:=h.ne;show w.heap.size≤vb;omega) v
theorem inv_hold {w W:World} {A:zo} {d:List NodeD} {c:Nat} {x:NodeD} {A':zo} {c' vb:Nat} {k:Int} (h:InVt w W A d c x A' c' vb k) :
  ((W.cell? ⟨w.heap.size+1+1,0,none⟩=some (.int .u8 x.kind)∧W.cell? ⟨w.heap.size+1+1,1,none⟩=some (.int .u8 x.a)∧W.cell? ⟨w.heap.size+1+1,2,none⟩=some (.int .u8 x.b)∧W.cell? ⟨w.heap.size+1+1,3,none⟩=some (.int .u8 x.c)∧W.cell? ⟨w.heap.size+1+1,4,none⟩=some (.slice A' x.parts.length c'))∧(∀j,W.frozen? ⟨vb,j,none⟩=false)∧W.cell? ⟨vb,2,none⟩=some (.int .i64 0)∧W.cell? ⟨vb,4,none⟩=some (.int .i64 0))∧Hid (InVt w W A d c x A' c' vb k):=by
 refine ⟨⟨⟨h.st.nb.cell 0,h.st.nb.cell 1,h.st.nb.cell 2,h.st.nb.cell 3,h.st.nb.cell 4⟩,fun j=>frozen_of_row _ _ _ _ _ h.vbx,?_,?_⟩,h⟩ <;> (rw[cell_of_row _ _ _ _ _ _ h.vbx];rfl)
theorem inv_cells {w W:World} {A:zo} {d:List NodeD} {c:Nat} {x:NodeD} {A':zo} {c' vb:Nat} {k:Int} (h:InVt w W A d c x A' c' vb k) (j:Nat) (v:Value):∀q,(W.setCell ⟨vb,j,none⟩ v).cell? ⟨vb,q,none⟩=((#[.int .i64 k,.bool false,.int .i64 0,.string ⟨#[]⟩,.int .i64 0,.slice none 0 0,.slice none 0 0,.slice none 0 0]:Array Value).setIfInBounds j v)[q]? := fun q=>by
 rw[cell_of_row _ _ _ _ _ _ (heap_setCell_same _ _ _ _ _ _ h.vbx)]
theorem vb_cells {w W:World} {A:zo} {d:List NodeD} {c:Nat} {x:NodeD} {A':zo} {c' vb:Nat} {k:Int} (h:InVt w W A d c x A' c' vb k) :
  W.cell? ⟨vb,0,none⟩=some (.int .i64 k)∧W.cell? ⟨vb,1,none⟩=some (.bool false)∧W.cell? ⟨vb,2,none⟩=some (.int .i64 0)∧W.cell? ⟨vb,3,none⟩=some (.string ⟨#[]⟩)∧W.cell? ⟨vb,4,none⟩=some (.int .i64 0)∧W.cell? ⟨vb,5,none⟩=some (.slice none 0 0)∧W.cell? ⟨vb,6,none⟩=some (.slice none 0 0)∧W.cell? ⟨vb,7,none⟩=some (.slice none 0 0):=by
 refine ⟨?_,?_,?_,?_,?_,?_,?_,?_⟩ <;> (rw[cell_of_row _ _ _ _ _ _ h.vbx];rfl)
theorem vb_cells2 {w W:World} {A:zo} {d:List NodeD} {c:Nat} {x:NodeD} {A':zo} {c' vb:Nat} {k:Int} (h:InVt w W A d c x A' c' vb k) (z:Int) :
  (W.setCell ⟨vb,2,none⟩ (.int .i64 z)).cell? ⟨vb,0,none⟩=some (.int .i64 k)∧(W.setCell ⟨vb,2,none⟩ (.int .i64 z)).cell? ⟨vb,1,none⟩=some (.bool false)∧(W.setCell ⟨vb,2,none⟩ (.int .i64 z)).cell? ⟨vb,2,none⟩=some (.int .i64 z)∧(W.setCell ⟨vb,2,none⟩ (.int .i64 z)).cell? ⟨vb,3,none⟩=some (.string ⟨#[]⟩)∧(W.setCell ⟨vb,2,none⟩ (.int .i64 z)).cell? ⟨vb,4,none⟩=some (.int .i64 0)∧(W.setCell ⟨vb,2,none⟩ (.int .i64 z)).cell? ⟨vb,5,none⟩=some (.slice none 0 0)∧(W.setCell ⟨vb,2,none⟩ (.int .i64 z)).cell? ⟨vb,6,none⟩=some (.slice none 0 0)∧(W.setCell ⟨vb,2,none⟩ (.int .i64 z)).cell? ⟨vb,7,none⟩=some (.slice none 0 0):=by
 refine ⟨?_,?_,?_,?_,?_,?_,?_,?_⟩ <;> (rw[inv_cells h];rfl)
theorem vb_cells4 {w W:World} {A:zo} {d:List NodeD} {c:Nat} {x:NodeD} {A':zo} {c' vb:Nat} {k:Int} (h:InVt w W A d c x A' c' vb k) (z:Int) :
  (W.setCell ⟨vb,4,none⟩ (.int .i64 z)).cell? ⟨vb,0,none⟩=some (.int .i64 k)∧(W.setCell ⟨vb,4,none⟩ (.int .i64 z)).cell? ⟨vb,1,none⟩=some (.bool false)∧(W.setCell ⟨vb,4,none⟩ (.int .i64 z)).cell? ⟨vb,2,none⟩=some (.int .i64 0)∧(W.setCell ⟨vb,4,none⟩ (.int .i64 z)).cell? ⟨vb,3,none⟩=some (.string ⟨#[]⟩)∧(W.setCell ⟨vb,4,none⟩ (.int .i64 z)).cell? ⟨vb,4,none⟩=some (.int .i64 z)∧(W.setCell ⟨vb,4,none⟩ (.int .i64 z)).cell? ⟨vb,5,none⟩=some (.slice none 0 0)∧(W.setCell ⟨vb,4,none⟩ (.int .i64 z)).cell? ⟨vb,6,none⟩=some (.slice none 0 0)∧(W.setCell ⟨vb,4,none⟩ (.int .i64 z)).cell? ⟨vb,7,none⟩=some (.slice none 0 0):=by
 refine ⟨?_,?_,?_,?_,?_,?_,?_,?_⟩ <;> (rw[inv_cells h];rfl)
theorem high_low (x:NodeD):IntKind.i64.wrap (IntKind.i64.wrap (highN x - lowN x)+1)=(x.b:Int) % 6+1:=by
 have h1:highN x - lowN x=((x.b % 6:Nat):Int):=by unfold highN;omega
 rw[h1,IntWalk.i64_in (((x.b % 6:Nat):Int)) (by omega),IntWalk.i64_in _ (by omega)]
 simp
theorem initial_5 (d:List NodeD) (t code:Nat) (A:zo) (c:Nat) (w:World) (hd:NodesR w A d) (ht:t<d.length) (_:code<256) (hk:kindN d t=5) :
  Calls Tryz.prog 63 #[draftV A d.length c,.int .i64 t,.int .u8 code] w (InitPost w):=by
 have hn:=hd.1.lt (by omega)
 obtain ⟨b,o,A',c',rfl,hr,c0,c1,c2,c3,c4⟩:=hd.at5 ht;generalize d.getD t node0=x at *;have HI:=zh (InSt.new (c:=c) hd x A' c');have HR:=zh hr;have HK:=zh hk;have h1:(0:Int)≤(t:Int):=by omega
 have h2:(t:Int)<(d.length:Int):=by omega
 have hz:=zL c0;simp only at hz;clear hd hr hk
 go_enter Tryz.func63,Tryz.ntmps63
 go_wp2_with fail
 refine (kind_any d t _ c _ HI.out.db.nodes ht).mono ?_;rintro e w2 ⟨rfl,hb2⟩;rw[HK.out];replace HI:=zh (HI.out.below hb2);clear hb2 c0 c1 c2 c3 c4 hz
 go_wp2_with (refine wpList_store_mid rfl 28 (.tmp 6) (.tmp 79) rfl (w.heap.size+1) 0 #[.int .i64 (0),.bool (false),.int .i64 (0),.string (⟨#[]⟩),.int .i64 (0),.slice none 0 0,.slice none 0 0,.slice none 0 0] (by rfl) (by rfl) ?_ ?_ ?_ ?_;(exact in_there HI.out _);(exact zW);(exact val_one (Val.mk (0) (false) (0) (⟨#[]⟩) (0) [] [] []) none 0 none 0 none 0))
 obtain ⟨⟨k0,k1,k2,k3,k4,k5,k6,k7⟩,hfin⟩:=init_end (w:=w) (0) (false) (0) (⟨#[]⟩) (0) (by decide) (in_there HI.out _) (in_below HI.out _)
 have HF:=zh hfin.out;clear hfin;exact bodyPost_ret (v := .tuple #[.agg #[.int .i64 (0),.bool (false),.int .i64 (0),.string (⟨#[]⟩),.int .i64 (0),.slice none 0 0,.slice none 0 0,.slice none 0 0],.bool false]) (by simp[results,Tryz.results63,go_sem,k0,k1,k2,k3,k4,k5,k6,k7]) rfl ⟨Val.mk (0) (false) (0) (⟨#[]⟩) (0) [] [] [],false,rfl,HF.out.1,(fun _=>rfl),HF.out.2⟩
theorem initial_6 (d:List NodeD) (t code:Nat) (A:zo) (c:Nat) (w:World) (hd:NodesR w A d) (ht:t<d.length) (_:code<256) (hk:kindN d t=6) :
  Calls Tryz.prog 63 #[draftV A d.length c,.int .i64 t,.int .u8 code] w (InitPost w):=by
 have hn:=hd.1.lt (by omega)
 obtain ⟨b,o,A',c',rfl,hr,c0,c1,c2,c3,c4⟩:=hd.at5 ht;generalize d.getD t node0=x at *;have HI:=zh (InSt.new (c:=c) hd x A' c');have HR:=zh hr;have HK:=zh hk;have h1:(0:Int)≤(t:Int):=by omega
 have h2:(t:Int)<(d.length:Int):=by omega
 have hz:=zL c0;simp only at hz;clear hd hr hk
 go_enter Tryz.func63,Tryz.ntmps63
 go_wp2_with fail
 refine (kind_any d t _ c _ HI.out.db.nodes ht).mono ?_;rintro e w2 ⟨rfl,hb2⟩;rw[HK.out];replace HI:=zh (HI.out.below hb2);clear hb2 c0 c1 c2 c3 c4 hz
 go_wp2_with (refine wpList_store_mid rfl 28 (.tmp 6) (.tmp 79) rfl (w.heap.size+1) 0 #[.int .i64 (0),.bool (false),.int .i64 (0),.string (⟨#[]⟩),.int .i64 (0),.slice none 0 0,.slice none 0 0,.slice none 0 0] (by rfl) (by rfl) ?_ ?_ ?_ ?_;(exact in_there HI.out _);(exact zW);(exact val_one (Val.mk (0) (false) (0) (⟨#[]⟩) (0) [] [] []) none 0 none 0 none 0))
 obtain ⟨⟨k0,k1,k2,k3,k4,k5,k6,k7⟩,hfin⟩:=init_end (w:=w) (0) (false) (0) (⟨#[]⟩) (0) (by decide) (in_there HI.out _) (in_below HI.out _)
 have HF:=zh hfin.out;clear hfin;exact bodyPost_ret (v := .tuple #[.agg #[.int .i64 (0),.bool (false),.int .i64 (0),.string (⟨#[]⟩),.int .i64 (0),.slice none 0 0,.slice none 0 0,.slice none 0 0],.bool false]) (by simp[results,Tryz.results63,go_sem,k0,k1,k2,k3,k4,k5,k6,k7]) rfl ⟨Val.mk (0) (false) (0) (⟨#[]⟩) (0) [] [] [],false,rfl,HF.out.1,(fun _=>rfl),HF.out.2⟩
theorem initial_7 (d:List NodeD) (t code:Nat) (A:zo) (c:Nat) (w:World) (hd:NodesR w A d) (ht:t<d.length) (_:code<256) (hk:kindN d t=7) :
  Calls Tryz.prog 63 #[draftV A d.length c,.int .i64 t,.int .u8 code] w (InitPost w):=by
 have hn:=hd.1.lt (by omega)
 obtain ⟨b,o,A',c',rfl,hr,c0,c1,c2,c3,c4⟩:=hd.at5 ht;generalize d.getD t node0=x at *;have HI:=zh (InSt.new (c:=c) hd x A' c');have HR:=zh hr;have HK:=zh hk;have h1:(0:Int)≤(t:Int):=by omega
 have h2:(t:Int)<(d.length:Int):=by omega
 have hz:=zL c0;simp only at hz;clear hd hr hk
 go_enter Tryz.func63,Tryz.ntmps63
 go_wp2_with fail
 refine (kind_any d t _ c _ HI.out.db.nodes ht).mono ?_;rintro e w2 ⟨rfl,hb2⟩;rw[HK.out];replace HI:=zh (HI.out.below hb2);clear hb2 c0 c1 c2 c3 c4 hz
 go_wp2_with (refine wpList_store_mid rfl 28 (.tmp 6) (.tmp 80) rfl (w.heap.size+1) 0 #[.int .i64 (7),.bool (false),.int .i64 (0),.string (⟨#[]⟩),.int .i64 (0),.slice none 0 0,.slice none 0 0,.slice none 0 0] (by rfl) (by rfl) ?_ ?_ ?_ ?_;(exact in_there HI.out _);(exact zW);(exact val_one (Val.mk (7) (false) (0) (⟨#[]⟩) (0) [] [] []) none 0 none 0 none 0))
 obtain ⟨⟨k0,k1,k2,k3,k4,k5,k6,k7⟩,hfin⟩:=init_end (w:=w) (7) (false) (0) (⟨#[]⟩) (0) (by decide) (in_there HI.out _) (in_below HI.out _)
 have HF:=zh hfin.out;clear hfin;exact bodyPost_ret (v := .tuple #[.agg #[.int .i64 (7),.bool (false),.int .i64 (0),.string (⟨#[]⟩),.int .i64 (0),.slice none 0 0,.slice none 0 0,.slice none 0 0],.bool true]) (by simp[results,Tryz.results63,go_sem,k0,k1,k2,k3,k4,k5,k6,k7]) rfl ⟨Val.mk (7) (false) (0) (⟨#[]⟩) (0) [] [] [],true,rfl,HF.out.1,(fun h=>by cases h),HF.out.2⟩
theorem initial_9 (d:List NodeD) (t code:Nat) (A:zo) (c:Nat) (w:World) (hd:NodesR w A d) (ht:t<d.length) (_:code<256) (hk:kindN d t=9) :
  Calls Tryz.prog 63 #[draftV A d.length c,.int .i64 t,.int .u8 code] w (InitPost w):=by
 have hn:=hd.1.lt (by omega)
 obtain ⟨b,o,A',c',rfl,hr,c0,c1,c2,c3,c4⟩:=hd.at5 ht;generalize d.getD t node0=x at *;have HI:=zh (InSt.new (c:=c) hd x A' c');have HR:=zh hr;have HK:=zh hk;have h1:(0:Int)≤(t:Int):=by omega
 have h2:(t:Int)<(d.length:Int):=by omega
 have hz:=zL c0;simp only at hz;clear hd hr hk
 go_enter Tryz.func63,Tryz.ntmps63
 go_wp2_with fail
 refine (kind_any d t _ c _ HI.out.db.nodes ht).mono ?_;rintro e w2 ⟨rfl,hb2⟩;rw[HK.out];replace HI:=zh (HI.out.below hb2);clear hb2 c0 c1 c2 c3 c4 hz
 go_wp2_with (refine wpList_store_mid rfl 28 (.tmp 6) (.tmp 80) rfl (w.heap.size+1) 0 #[.int .i64 (9),.bool (false),.int .i64 (0),.string (⟨#[]⟩),.int .i64 (0),.slice none 0 0,.slice none 0 0,.slice none 0 0] (by rfl) (by rfl) ?_ ?_ ?_ ?_;(exact in_there HI.out _);(exact zW);(exact val_one (Val.mk (9) (false) (0) (⟨#[]⟩) (0) [] [] []) none 0 none 0 none 0))
 obtain ⟨⟨k0,k1,k2,k3,k4,k5,k6,k7⟩,hfin⟩:=init_end (w:=w) (9) (false) (0) (⟨#[]⟩) (0) (by decide) (in_there HI.out _) (in_below HI.out _)
 have HF:=zh hfin.out;clear hfin;exact bodyPost_ret (v := .tuple #[.agg #[.int .i64 (9),.bool (false),.int .i64 (0),.string (⟨#[]⟩),.int .i64 (0),.slice none 0 0,.slice none 0 0,.slice none 0 0],.bool true]) (by simp[results,Tryz.results63,go_sem,k0,k1,k2,k3,k4,k5,k6,k7]) rfl ⟨Val.mk (9) (false) (0) (⟨#[]⟩) (0) [] [] [],true,rfl,HF.out.1,(fun h=>by cases h),HF.out.2⟩
theorem initial_1 (d:List NodeD) (t code:Nat) (A:zo) (c:Nat) (w:World) (hd:NodesR w A d) (ht:t<d.length) (_:code<256) (hk:kindN d t=1) :
  Calls Tryz.prog 63 #[draftV A d.length c,.int .i64 t,.int .u8 code] w (InitPost w):=by
 have hn:=hd.1.lt (by omega)
 obtain ⟨b,o,A',c',rfl,hr,c0,c1,c2,c3,c4⟩:=hd.at5 ht;generalize d.getD t node0=x at *;have HI:=zh (InSt.new (c:=c) hd x A' c');have HR:=zh hr;have HK:=zh hk;have h1:(0:Int)≤(t:Int):=by omega
 have h2:(t:Int)<(d.length:Int):=by omega
 have hz:=zL c0;simp only at hz;clear hd hr hk
 go_enter Tryz.func63,Tryz.ntmps63
 go_wp2_with fail
 refine (kind_any d t _ c _ HI.out.db.nodes ht).mono ?_;rintro e w2 ⟨rfl,hb2⟩;rw[HK.out];replace HI:=zh (HI.out.below hb2);clear hb2 c0 c1 c2 c3 c4 hz;obtain ⟨E,hE⟩:∃E,((code:Int) % 2==1)=E:=⟨_,rfl⟩
 go_wp2_with (refine wpList_store_mid rfl 28 (.tmp 6) (.tmp 80) rfl (w.heap.size+1) 0 #[.int .i64 (1),.bool (E),.int .i64 (0),.string (⟨#[]⟩),.int .i64 (0),.slice none 0 0,.slice none 0 0,.slice none 0 0] (by rfl) (by rfl) ?_ ?_ ?_ ?_;(exact in_there HI.out _);(exact zW);(exact val_one (Val.mk (1) (E) (0) (⟨#[]⟩) (0) [] [] []) none 0 none 0 none 0))
 obtain ⟨⟨k0,k1,k2,k3,k4,k5,k6,k7⟩,hfin⟩:=init_end (w:=w) (1) (E) (0) (⟨#[]⟩) (0) (by decide) (in_there HI.out _) (in_below HI.out _)
 have HF:=zh hfin.out;clear hfin;exact bodyPost_ret (v := .tuple #[.agg #[.int .i64 (1),.bool (E),.int .i64 (0),.string (⟨#[]⟩),.int .i64 (0),.slice none 0 0,.slice none 0 0,.slice none 0 0],.bool true]) (by simp[results,Tryz.results63,go_sem,k0,k1,k2,k3,k4,k5,k6,k7]) rfl ⟨Val.mk (1) (E) (0) (⟨#[]⟩) (0) [] [] [],true,rfl,HF.out.1,(fun h=>by cases h),HF.out.2⟩
theorem initial_8n (d:List NodeD) (t code:Nat) (A:zo) (c:Nat) (w:World) (hd:NodesR w A d) (ht:t<d.length) (_:code<256) (hk:kindN d t=8) (hky:keyD d 0<0) :
  Calls Tryz.prog 63 #[draftV A d.length c,.int .i64 t,.int .u8 code] w (InitPost w):=by
 have hn:=hd.1.lt (by omega)
 obtain ⟨b,o,A',c',rfl,hr,c0,c1,c2,c3,c4⟩:=hd.at5 ht;generalize d.getD t node0=x at *;have HI:=zh (InSt.new (c:=c) hd x A' c');have HR:=zh hr;have HK:=zh hk;have h1:(0:Int)≤(t:Int):=by omega
 have h2:(t:Int)<(d.length:Int):=by omega
 have hz:=zL c0;simp only at hz;clear hd hr hk
 go_enter Tryz.func63,Tryz.ntmps63
 go_wp2_with fail
 refine (kind_any d t _ c _ HI.out.db.nodes ht).mono ?_;rintro e w2 ⟨rfl,hb2⟩;rw[HK.out];replace HI:=zh (HI.out.below hb2);clear hb2 c0 c1 c2 c3 c4 hz;have HKY:=zh hky;clear hky;have HV:=zh (InVt.new HI.out 8);have hsz:w.heap.size<w2.heap.size:=by have:=(zg.1 HI.out.rb).1;omega
 have HDC:=zh HI.out.db.cell;have hdc:=HDC.out;go_wp2_with fail;refine (key_any d 0 _ c _ HV.out.st.db.nodes (by omega)).mono ?_
 rintro e w3 ⟨rfl,hb3⟩;replace HV:=zh (HV.out.below hb3);obtain ⟨⟨_,hfz,_⟩,_⟩:=inv_hold HV.out;have hvc:=inv_cells HV.out 0 (.int .i64 7);obtain ⟨e0,e1,e2,e3,e4,e5,e6,e7⟩:=vb_cells HV.out;have hq:decide (keyD d 0<0)=true:=decide_eq_true (by have:=HKY.out;omega)
 clear hb3 hdc;go_wp2_with (refine wpList_store_mid rfl 28 (.tmp 6) (.tmp 80) rfl (w.heap.size+1) 0 #[.int .i64 (7),.bool (false),.int .i64 (0),.string (⟨#[]⟩),.int .i64 (0),.slice none 0 0,.slice none 0 0,.slice none 0 0] (by rfl) (by rfl) ?_ ?_ ?_ ?_;(exact HV.out.there 0 (.int .i64 7));(exact zW);(exact val_one (Val.mk (7) (false) (0) (⟨#[]⟩) (0) [] [] []) none 0 none 0 none 0))
 obtain ⟨⟨k0,k1,k2,k3,k4,k5,k6,k7⟩,hfin⟩:=init_end (w:=w) (7) (false) (0) (⟨#[]⟩) (0) (by decide) (HV.out.there 0 (.int .i64 7)) (HV.out.bel 0 (.int .i64 7))
 have HF:=zh hfin.out;clear hfin;exact bodyPost_ret (v := .tuple #[.agg #[.int .i64 (7),.bool (false),.int .i64 (0),.string (⟨#[]⟩),.int .i64 (0),.slice none 0 0,.slice none 0 0,.slice none 0 0],.bool true]) (by simp[results,Tryz.results63,go_sem,k0,k1,k2,k3,k4,k5,k6,k7]) rfl ⟨Val.mk (7) (false) (0) (⟨#[]⟩) (0) [] [] [],true,rfl,HF.out.1,(fun h=>by cases h),HF.out.2⟩
theorem initial_8y (d:List NodeD) (t code:Nat) (A:zo) (c:Nat) (w:World) (hd:NodesR w A d) (ht:t<d.length) (_:code<256) (hk:kindN d t=8) (hky:¬ keyD d 0<0) :
  Calls Tryz.prog 63 #[draftV A d.length c,.int .i64 t,.int .u8 code] w (InitPost w):=by
 have hn:=hd.1.lt (by omega)
 obtain ⟨b,o,A',c',rfl,hr,c0,c1,c2,c3,c4⟩:=hd.at5 ht;generalize d.getD t node0=x at *;have HI:=zh (InSt.new (c:=c) hd x A' c');have HR:=zh hr;have HK:=zh hk;have h1:(0:Int)≤(t:Int):=by omega
 have h2:(t:Int)<(d.length:Int):=by omega
 have hz:=zL c0;simp only at hz;clear hd hr hk
 go_enter Tryz.func63,Tryz.ntmps63
 go_wp2_with fail
 refine (kind_any d t _ c _ HI.out.db.nodes ht).mono ?_;rintro e w2 ⟨rfl,hb2⟩;rw[HK.out];replace HI:=zh (HI.out.below hb2);clear hb2 c0 c1 c2 c3 c4 hz;have HKY:=zh hky;clear hky;have HV:=zh (InVt.new HI.out 8);have hsz:w.heap.size<w2.heap.size:=by have:=(zg.1 HI.out.rb).1;omega
 have HDC:=zh HI.out.db.cell;have hdc:=HDC.out;go_wp2_with fail;refine (key_any d 0 _ c _ HV.out.st.db.nodes (by omega)).mono ?_
 rintro e w3 ⟨rfl,hb3⟩;replace HV:=zh (HV.out.below hb3);obtain ⟨⟨_,hfz,_⟩,_⟩:=inv_hold HV.out;have hvc:=inv_cells HV.out 0 (.int .i64 7);obtain ⟨e0,e1,e2,e3,e4,e5,e6,e7⟩:=vb_cells HV.out;have hq:decide (keyD d 0<0)=false:=decide_eq_false (by have:=HKY.out;omega)
 clear hb3 hdc;go_wp2_with (refine wpList_store_mid rfl 28 (.tmp 6) (.tmp 80) rfl (w.heap.size+1) 0 #[.int .i64 (8),.bool (false),.int .i64 (0),.string (⟨#[]⟩),.int .i64 (0),.slice none 0 0,.slice none 0 0,.slice none 0 0] (by rfl) (by rfl) ?_ ?_ ?_ ?_;(exact there_box HV.out.st.rb);(exact zW);(exact val_one (Val.mk (8) (false) (0) (⟨#[]⟩) (0) [] [] []) none 0 none 0 none 0))
 obtain ⟨⟨k0,k1,k2,k3,k4,k5,k6,k7⟩,hfin⟩:=init_end (w:=w) (8) (false) (0) (⟨#[]⟩) (0) (by decide) (there_box HV.out.st.rb) (HV.out.st.db.below)
 have HF:=zh hfin.out;clear hfin;exact bodyPost_ret (v := .tuple #[.agg #[.int .i64 (8),.bool (false),.int .i64 (0),.string (⟨#[]⟩),.int .i64 (0),.slice none 0 0,.slice none 0 0,.slice none 0 0],.bool true]) (by simp[results,Tryz.results63,go_sem,k0,k1,k2,k3,k4,k5,k6,k7]) rfl ⟨Val.mk (8) (false) (0) (⟨#[]⟩) (0) [] [] [],true,rfl,HF.out.1,(fun h=>by cases h),HF.out.2⟩
theorem initial_3 (d:List NodeD) (t code:Nat) (A:zo) (c:Nat) (w:World) (hd:NodesR w A d) (ht:t<d.length) (_:code<256) (hk:kindN d t=3) :
  Calls Tryz.prog 63 #[draftV A d.length c,.int .i64 t,.int .u8 code] w (InitPost w):=by
 have hn:=hd.1.lt (by omega)
 obtain ⟨b,o,A',c',rfl,hr,c0,c1,c2,c3,c4⟩:=hd.at5 ht;generalize d.getD t node0=x at *;have HI:=zh (InSt.new (c:=c) hd x A' c');have HR:=zh hr;have HK:=zh hk;have h1:(0:Int)≤(t:Int):=by omega
 have h2:(t:Int)<(d.length:Int):=by omega
 have hz:=zL c0;simp only at hz;clear hd hr hk
 go_enter Tryz.func63,Tryz.ntmps63
 go_wp2_with fail
 refine (kind_any d t _ c _ HI.out.db.nodes ht).mono ?_;rintro e w2 ⟨rfl,hb2⟩;rw[HK.out];replace HI:=zh (HI.out.below hb2);clear hb2 c0 c1 c2 c3 c4 hz;have hn1:w2.cell? ⟨w.heap.size+1+1,1,none⟩=some (.int .u8 x.a):=HI.out.nb.cell 1;have hzz:=HI.out.nb.blt;obtain ⟨E1,hE1⟩:∃E,decide ((0:Int)<((x.a:Int) % 4))=E:=⟨_,rfl⟩;obtain ⟨E2,hE2⟩:∃E,((code:Int) % 2==1)=E:=⟨_,rfl⟩
 cases E1 with
 | false =>
  go_wp2_with (refine wpList_store_mid rfl 28 (.tmp 6) (.tmp 80) rfl (w.heap.size+1) 0 #[.int .i64 (3),.bool (false),.int .i64 (0),.string (⟨#[]⟩),.int .i64 (0),.slice none 0 0,.slice none 0 0,.slice none 0 0] (by rfl) (by rfl) ?_ ?_ ?_ ?_;(exact in_there HI.out _);(exact zW);(exact val_one (Val.mk (3) (false) (0) (⟨#[]⟩) (0) [] [] []) none 0 none 0 none 0))
  obtain ⟨⟨k0,k1,k2,k3,k4,k5,k6,k7⟩,hfin⟩:=init_end (w:=w) (3) (false) (0) (⟨#[]⟩) (0) (by decide) (in_there HI.out _) (in_below HI.out _)
  have HF:=zh hfin.out;clear hfin;exact bodyPost_ret (v := .tuple #[.agg #[.int .i64 (3),.bool (false),.int .i64 (0),.string (⟨#[]⟩),.int .i64 (0),.slice none 0 0,.slice none 0 0,.slice none 0 0],.bool true]) (by simp[results,Tryz.results63,go_sem,k0,k1,k2,k3,k4,k5,k6,k7]) rfl ⟨Val.mk (3) (false) (0) (⟨#[]⟩) (0) [] [] [],true,rfl,HF.out.1,(fun h=>by cases h),HF.out.2⟩
 | true =>
  cases E2 with
  | false =>
   go_wp2_with (refine wpList_store_mid rfl 28 (.tmp 6) (.tmp 80) rfl (w.heap.size+1) 0 #[.int .i64 (3),.bool (false),.int .i64 (0),.string (⟨#[]⟩),.int .i64 (0),.slice none 0 0,.slice none 0 0,.slice none 0 0] (by rfl) (by rfl) ?_ ?_ ?_ ?_;(exact in_there HI.out _);(exact zW);(exact val_one (Val.mk (3) (false) (0) (⟨#[]⟩) (0) [] [] []) none 0 none 0 none 0))
   obtain ⟨⟨k0,k1,k2,k3,k4,k5,k6,k7⟩,hfin⟩:=init_end (w:=w) (3) (false) (0) (⟨#[]⟩) (0) (by decide) (in_there HI.out _) (in_below HI.out _)
   have HF:=zh hfin.out;clear hfin;exact bodyPost_ret (v := .tuple #[.agg #[.int .i64 (3),.bool (false),.int .i64 (0),.string (⟨#[]⟩),.int .i64 (0),.slice none 0 0,.slice none 0 0,.slice none 0 0],.bool true]) (by simp[results,Tryz.results63,go_sem,k0,k1,k2,k3,k4,k5,k6,k7]) rfl ⟨Val.mk (3) (false) (0) (⟨#[]⟩) (0) [] [] [],true,rfl,HF.out.1,(fun h=>by cases h),HF.out.2⟩
  | true =>
   go_wp2_with (refine wpList_store_mid rfl 28 (.tmp 6) (.tmp 80) rfl (w.heap.size+1) 0 #[.int .i64 (3),.bool (false),.int .i64 (0),.string (⟨#[97]⟩),.int .i64 (0),.slice none 0 0,.slice none 0 0,.slice none 0 0] (by rfl) (by rfl) ?_ ?_ ?_ ?_;(exact in_there HI.out _);(exact zW);(exact val_one (Val.mk (3) (false) (0) (⟨#[97]⟩) (0) [] [] []) none 0 none 0 none 0))
   obtain ⟨⟨k0,k1,k2,k3,k4,k5,k6,k7⟩,hfin⟩:=init_end (w:=w) (3) (false) (0) (⟨#[97]⟩) (0) (by decide) (in_there HI.out _) (in_below HI.out _)
   have HF:=zh hfin.out;clear hfin;exact bodyPost_ret (v := .tuple #[.agg #[.int .i64 (3),.bool (false),.int .i64 (0),.string (⟨#[97]⟩),.int .i64 (0),.slice none 0 0,.slice none 0 0,.slice none 0 0],.bool true]) (by simp[results,Tryz.results63,go_sem,k0,k1,k2,k3,k4,k5,k6,k7]) rfl ⟨Val.mk (3) (false) (0) (⟨#[97]⟩) (0) [] [] [],true,rfl,HF.out.1,(fun h=>by cases h),HF.out.2⟩
theorem initial_2 (d:List NodeD) (t code:Nat) (A:zo) (c:Nat) (w:World) (hd:NodesR w A d) (ht:t<d.length) (_:code<256) (hk:kindN d t=2) :
  Calls Tryz.prog 63 #[draftV A d.length c,.int .i64 t,.int .u8 code] w (InitPost w):=by
 have hn:=hd.1.lt (by omega)
 obtain ⟨b,o,A',c',rfl,hr,c0,c1,c2,c3,c4⟩:=hd.at5 ht;generalize d.getD t node0=x at *;have HI:=zh (InSt.new (c:=c) hd x A' c');have HR:=zh hr;have HK:=zh hk;have h1:(0:Int)≤(t:Int):=by omega
 have h2:(t:Int)<(d.length:Int):=by omega
 have hz:=zL c0;simp only at hz;clear hd hr hk
 go_enter Tryz.func63,Tryz.ntmps63
 go_wp2_with fail
 refine (kind_any d t _ c _ HI.out.db.nodes ht).mono ?_;rintro e w2 ⟨rfl,hb2⟩;rw[HK.out];replace HI:=zh (HI.out.below hb2);clear hb2 c0 c1 c2 c3 c4 hz;have HV:=zh (InVt.new HI.out 2);have HXA:=zh HR.out.a;go_wp2_with fail;generalize w2.alloc (.cells #[.int .i64 2,.bool false,.int .i64 0,.string ⟨#[]⟩,.int .i64 0,.slice none 0 0,.slice none 0 0,.slice none 0 0] 28)=W3 at *;have hhl:=high_low x
 have hnz:¬ ((x.b:Int) % 6+1=0):=by omega
 refine yE (S:=(fun w'=>((w'.cell? ⟨w.heap.size+1+1,0,none⟩=some (.int .u8 x.kind)∧w'.cell? ⟨w.heap.size+1+1,1,none⟩=some (.int .u8 x.a)∧w'.cell? ⟨w.heap.size+1+1,2,none⟩=some (.int .u8 x.b)∧w'.cell? ⟨w.heap.size+1+1,3,none⟩=some (.int .u8 x.c)∧w'.cell? ⟨w.heap.size+1+1,4,none⟩=some (.slice A' x.parts.length c'))∧(∀j,w'.frozen? ⟨w2.heap.size,j,none⟩=false)∧w'.cell? ⟨w2.heap.size,2,none⟩=some (.int .i64 0)∧w'.cell? ⟨w2.heap.size,4,none⟩=some (.int .i64 0))∧Hid (InVt w w' (some ⟨b,o,none⟩) d c x A' c' w2.heap.size 2))) 13 (by kernel_rfl) ?_ (fun zH_=>?_)
 ·(try dsimp only);exact inv_hold (HV.out.below (zC (Below.refl _ _) 1))
 refine tB 0 ?_;refine tC 2 ?_;refine tC 3 ?_;refine tB 4 ?_;refine tB 6 ?_;refine tS 1 (fun K hK=>?_)
 go_simp
 (refine (low_any x A' c' _ HXA.out).mono ?_;rintro e w3 ⟨rfl,hbx⟩)
 refine hK.out _ _ ?_ (fun zH_=>?_)
 ·(try dsimp only);exact inv_hold (zH_.2.out.below hbx)
 clear hK K;try simp only[ps]
 refine tS 5 (fun K hK=>?_)
 go_simp
 (refine (high_any x A' c' _ HXA.out).mono ?_;rintro e w4 ⟨rfl,hbx⟩)
 refine hK.out _ _ ?_ (fun zH_=>?_)
 ·(try dsimp only);exact inv_hold (zH_.2.out.below hbx)
 clear hK K;refine tS 7 (fun K hK=>?_)
 go_simp
 (refine (low_any x A' c' _ HXA.out).mono ?_;rintro e w5 ⟨rfl,hbx⟩)
 refine hK.out _ _ ?_ (fun zH_=>?_)
 ·(try dsimp only);exact inv_hold (zH_.2.out.below hbx)
 clear hK K;refine tC 8 ?_;refine tC 9 ?_;refine tC 10 ?_;refine tC 11 ?_;try simp only[ps]
 refine tC 12 ?_;refine zV (rs:=[13]) (by kernel_rfl) (by simp) ?_
 refine AllReadyB.last rfl (by kernel_rfl) (fun K hK=>?_) AllReadyB.nil
 (obtain ⟨⟨_,hfz,hcx,_⟩,hin⟩:=zH_;go_simp)
 refine hK.out _ _ ?_;clear hK K
 (try clear zH_)
 refine wpAny_done (by kernel_rfl) ?_ _
 generalize IntKind.i64.wrap (lowN x+(IntKind.i64.wrap (code:Int)).tmod ((x.b:Int) % 6+1))=z;have HTH:=zh (hin.out.there 2 (.int .i64 z));have HBL:=zh (hin.out.bel 2 (.int .i64 z));obtain ⟨e0,e1,e2,e3,e4,e5,e6,e7⟩:=vb_cells2 hin.out z;have hvb:=(zg.1 hin.out.vbx).1;replace hvb:w2.heap.size<(w5.setCell ⟨w2.heap.size,2,none⟩ (.int .i64 z)).heap.size:=by simpa using hvb
 clear hin hfz hcx;generalize w5.setCell ⟨w2.heap.size,2,none⟩ (.int .i64 z)=W7 at *
 go_wp2_with (refine wpList_store_mid rfl 28 (.tmp 6) (.tmp 80) rfl (w.heap.size+1) 0 #[.int .i64 (2),.bool (false),.int .i64 (z),.string (⟨#[]⟩),.int .i64 (0),.slice none 0 0,.slice none 0 0,.slice none 0 0] (by rfl) (by rfl) ?_ ?_ ?_ ?_;(exact HTH.out);(exact zW);(exact val_one (Val.mk (2) (false) (z) (⟨#[]⟩) (0) [] [] []) none 0 none 0 none 0))
 obtain ⟨⟨k0,k1,k2,k3,k4,k5,k6,k7⟩,hfin⟩:=init_end (w:=w) (2) (false) (z) (⟨#[]⟩) (0) (by decide) (HTH.out) (HBL.out)
 have HF:=zh hfin.out;clear hfin;exact bodyPost_ret (v := .tuple #[.agg #[.int .i64 (2),.bool (false),.int .i64 (z),.string (⟨#[]⟩),.int .i64 (0),.slice none 0 0,.slice none 0 0,.slice none 0 0],.bool true]) (by simp[results,Tryz.results63,go_sem,k0,k1,k2,k3,k4,k5,k6,k7]) rfl ⟨Val.mk (2) (false) (z) (⟨#[]⟩) (0) [] [] [],true,rfl,HF.out.1,(fun h=>by cases h),HF.out.2⟩
theorem initial_4 (d:List NodeD) (t code:Nat) (A:zo) (c:Nat) (w:World) (hd:NodesR w A d) (ht:t<d.length) (_:code<256) (hk:kindN d t=4) :
  Calls Tryz.prog 63 #[draftV A d.length c,.int .i64 t,.int .u8 code] w (InitPost w):=by
 have hn:=hd.1.lt (by omega)
 obtain ⟨b,o,A',c',rfl,hr,c0,c1,c2,c3,c4⟩:=hd.at5 ht;generalize d.getD t node0=x at *;have HI:=zh (InSt.new (c:=c) hd x A' c');have HR:=zh hr;have HK:=zh hk;have h1:(0:Int)≤(t:Int):=by omega
 have h2:(t:Int)<(d.length:Int):=by omega
 have hz:=zL c0;simp only at hz;clear hd hr hk
 go_enter Tryz.func63,Tryz.ntmps63
 go_wp2_with fail
 refine (kind_any d t _ c _ HI.out.db.nodes ht).mono ?_;rintro e w2 ⟨rfl,hb2⟩;rw[HK.out];replace HI:=zh (HI.out.below hb2);clear hb2 c0 c1 c2 c3 c4 hz;have HV:=zh (InVt.new HI.out 4);have HXA:=zh HR.out.a;go_wp2_with fail;generalize w2.alloc (.cells #[.int .i64 4,.bool false,.int .i64 0,.string ⟨#[]⟩,.int .i64 0,.slice none 0 0,.slice none 0 0,.slice none 0 0] 28)=W3 at *;have HLN:=zh (idsN_ok x)
 have HLE:Hid ((idsN x).length≤6):=by have:=asc_len (idsN x) 0 6 HLN.out.1 HLN.out.2.1 (by omega);show _≤_;omega
 have hpos:0<(idsN x).length:=List.length_pos_iff.2 HLN.out.2.2;have hnz:¬ (idsN x=[]):=HLN.out.2.2;obtain ⟨q,hq⟩:∃q:Nat,q=code % (idsN x).length:=⟨_,rfl⟩;have hql:q<(idsN x).length:=by rw[hq];exact Nat.mod_lt _ hpos
 have eq:(IntKind.i64.wrap (code:Int)).tmod ((idsN x).length:Int)=(q:Int):=by rw[IntWalk.i64_in _ (by omega),hq];rfl
 clear hq;have hq1:(0:Int)≤(q:Int):=by omega
 have hq2:(q:Int)<((idsN x).length:Int):=by omega
 refine yE (S:=(fun w'=>((w'.cell? ⟨w.heap.size+1+1,0,none⟩=some (.int .u8 x.kind)∧w'.cell? ⟨w.heap.size+1+1,1,none⟩=some (.int .u8 x.a)∧w'.cell? ⟨w.heap.size+1+1,2,none⟩=some (.int .u8 x.b)∧w'.cell? ⟨w.heap.size+1+1,3,none⟩=some (.int .u8 x.c)∧w'.cell? ⟨w.heap.size+1+1,4,none⟩=some (.slice A' x.parts.length c'))∧(∀j,w'.frozen? ⟨w2.heap.size,j,none⟩=false)∧w'.cell? ⟨w2.heap.size,2,none⟩=some (.int .i64 0)∧w'.cell? ⟨w2.heap.size,4,none⟩=some (.int .i64 0))∧Hid (InVt w w' (some ⟨b,o,none⟩) d c x A' c' w2.heap.size 4))) 11 (by kernel_rfl) ?_ (fun zH_=>?_)
 ·(try dsimp only);exact inv_hold (HV.out.below (zC (Below.refl _ _) 1))
 refine tB 0 ?_;refine tC 2 ?_;refine tC 3 ?_;refine tB 4 ?_;refine tS 1 (fun K hK=>?_)
 go_simp
 (refine (rIds_any x A' c' _ HXA.out).mono ?_;rintro e w3 ⟨v3,rfl,ho3,hbx⟩;obtain ⟨A3,c3,rfl,hi3⟩:=OwnI.ints ho3 (by have:=HLE.out;unfold Lim;omega);obtain ⟨b3,o3,rfl,i3⟩:=hi3.at1 hql;clear ho3 hi3)
 refine hK.out _ _ ?_ (fun zH_=>?_)
 ·(try dsimp only);exact inv_hold (zH_.2.out.below hbx)
 clear hK K;refine tS 5 (fun K hK=>?_)
 go_simp
 (refine (rIds_any x A' c' _ HXA.out).mono ?_;rintro e w5 ⟨v4,rfl,ho4,hbx⟩;obtain ⟨A4,c4,rfl,hi4⟩:=OwnI.ints ho4 (by have:=HLE.out;unfold Lim;omega);replace i3:=zA hbx i3;clear ho4 hi4)
 refine hK.out _ _ ?_ (fun zH_=>?_)
 ·(try dsimp only);exact inv_hold (zH_.2.out.below hbx)
 clear hK K;try simp only[ps]
 refine tC 6 ?_;refine tC 7 ?_;refine tC 8 ?_;refine tS 9 (fun K hK=>?_)
 go_simp
 refine hK.out _ _ ?_ (fun zH_=>?_)
 ·(try dsimp only);exact zH_
 clear hK K;refine tC 10 ?_;refine zV (rs:=[11]) (by kernel_rfl) (by simp) ?_
 refine AllReadyB.last rfl (by kernel_rfl) (fun K hK=>?_) AllReadyB.nil
 (obtain ⟨⟨_,hfz,_,hcx⟩,hin⟩:=zH_;go_simp)
 refine hK.out _ _ ?_;clear hK K
 (try clear zH_)
 try simp only[ps]
 refine wpAny_done (by kernel_rfl) ?_ _
 generalize (idsN x)[q]=z;have HTH:=zh (hin.out.there 4 (.int .i64 z));have HBL:=zh (hin.out.bel 4 (.int .i64 z));obtain ⟨e0,e1,e2,e3,e4,e5,e6,e7⟩:=vb_cells4 hin.out z;have hvb:=(zg.1 hin.out.vbx).1;replace hvb:w2.heap.size<(w5.setCell ⟨w2.heap.size,4,none⟩ (.int .i64 z)).heap.size:=by simpa using hvb
 clear hin hfz hcx;generalize w5.setCell ⟨w2.heap.size,4,none⟩ (.int .i64 z)=W7 at *
 go_wp2_with (refine wpList_store_mid rfl 28 (.tmp 6) (.tmp 80) rfl (w.heap.size+1) 0 #[.int .i64 (4),.bool (false),.int .i64 (0),.string (⟨#[]⟩),.int .i64 (z),.slice none 0 0,.slice none 0 0,.slice none 0 0] (by rfl) (by rfl) ?_ ?_ ?_ ?_;(exact HTH.out);(exact zW);(exact val_one (Val.mk (4) (false) (0) (⟨#[]⟩) (z) [] [] []) none 0 none 0 none 0))
 obtain ⟨⟨k0,k1,k2,k3,k4,k5,k6,k7⟩,hfin⟩:=init_end (w:=w) (4) (false) (0) (⟨#[]⟩) (z) (by decide) (HTH.out) (HBL.out)
 have HF:=zh hfin.out;clear hfin;exact bodyPost_ret (v := .tuple #[.agg #[.int .i64 (4),.bool (false),.int .i64 (0),.string (⟨#[]⟩),.int .i64 (z),.slice none 0 0,.slice none 0 0,.slice none 0 0],.bool true]) (by simp[results,Tryz.results63,go_sem,k0,k1,k2,k3,k4,k5,k6,k7]) rfl ⟨Val.mk (4) (false) (0) (⟨#[]⟩) (z) [] [] [],true,rfl,HF.out.1,(fun h=>by cases h),HF.out.2⟩
theorem initial_any (d:List NodeD) (t code:Nat) (A:zo) (c:Nat) (w:World) (hd:NodesR w A d) (ht:t<d.length) (hco:code<256) :
  Calls Tryz.prog 63 #[draftV A d.length c,.int .i64 t,.int .u8 code] w (InitPost w):=by
 have hr:=kindN_range d t;have h:kindN d t=1∨kindN d t=2∨kindN d t=3∨kindN d t=4∨kindN d t=5∨kindN d t=6∨kindN d t=7∨kindN d t=8∨kindN d t=9:=by omega
 rcases h with h|h|h|h|h|h|h|h|h
 ·exact initial_1 d t code A c w hd ht hco h
 ·exact initial_2 d t code A c w hd ht hco h
 ·exact initial_3 d t code A c w hd ht hco h
 ·exact initial_4 d t code A c w hd ht hco h
 ·exact initial_5 d t code A c w hd ht hco h
 ·exact initial_6 d t code A c w hd ht hco h
 ·exact initial_7 d t code A c w hd ht hco h
 ·by_cases hk:keyD d 0<0
  ·exact initial_8n d t code A c w hd ht hco h hk
  ·exact initial_8y d t code A c w hd ht hco h hk
 ·exact initial_9 d t code A c w hd ht hco h
def encM (m:MemD):List Value:=m.cs none 0 none 0 none 0
theorem encM_one (m:MemD):∀u∈encM m,u.oneCell'=true:=fun u hu=>by
 unfold encM at hu;simp only[List.mem_cons,List.mem_nil_iff,or_false] at hu
 rcases hu with rfl|rfl|rfl|rfl|rfl|rfl|rfl|rfl|rfl|rfl|rfl|rfl|rfl <;> rfl
theorem enc_low {n:Nat} (hn:n≤20):Utf8.encode (97+(n:Int))=⟨#[UInt8.ofNat (97+n)]⟩∧Utf8.encode (65+(n:Int))=⟨#[UInt8.ofNat (65+n)]⟩:=by
 have h:∀m:Fin 21,Utf8.encode (97+((m.1:Nat):Int))=⟨#[UInt8.ofNat (97+m.1)]⟩∧Utf8.encode (65+((m.1:Nat):Int))=⟨#[UInt8.ofNat (65+m.1)]⟩:=by decide +kernel
 exact h ⟨n,by omega⟩
theorem nm_app (c:UInt8) (n:Nat):(⟨#[c]⟩:ByteArray)++(⟨#[UInt8.ofNat (97+n)]⟩:ByteArray)=nmM c n:=by
 refine bytes_ext ?_;rw[app_list];rfl
abbrev OwnM:=OwnL 118 13 encM
structure PtSt (w W:World) (A:zo) (d:List NodeD) (c:Nat) (x:NodeD) (A':zo) (c':Nat):Prop where
 db:DBox w W A d c
 nb:NBox W (w.heap.size+1) x A' c'
 nr:NodeR W x A'
theorem PtSt.below {w W W':World} {A:zo} {d:List NodeD} {c:Nat} {x:NodeD} {A':zo} {c':Nat} (h:PtSt w W A d c x A' c') (hb:Below W.heap.size W W'):PtSt w W' A d c x A' c' :=
 ⟨h.db.step hb,h.nb.below hb,h.nr.below hb⟩
theorem PtSt.new {w:World} {A:zo} {d:List NodeD} {c:Nat} (h:NodesR w A d) {x:NodeD} {A':zo} (hx:NodeR w x A') (c':Nat):PtSt w ((w.alloc (.cells #[.slice A d.length c] 24)).alloc (x.box A' c')) A d c x A' c':=by
 have hz:(w.alloc (.cells #[.slice A d.length c] 24)).heap.size=w.heap.size+1:=by simp
 have:=NBox.new (w.alloc (.cells #[.slice A d.length c] 24)) x A' c';rw[hz] at this;exact ⟨(DBox.new h).step (zD _ _),this,hx.below (zI _ _ _)⟩
structure MsSt (rec:Bool) (n k base:Nat) (W:World) (v:Value) (ms:List MemD):Prop where
 own:OwnM W base v ms
 ok:MsOk rec n k ms
 flat:∀m∈ms,FlatV m.dflt
theorem MsSt.below {rec:Bool} {n k base:Nat} {W W':World} {v:Value} {ms:List MemD} (h:MsSt rec n k base W v ms) (hb:Below W.heap.size W W'):MsSt rec n k base W' v ms:=⟨h.own.below hb,h.ok,h.flat⟩
def setA (cs:Array Value) (o:Nat):List Value→Array Value
 | []=>cs
 | v::vs=>setA (cs.setIfInBounds o v) (o+1) vs
theorem heap_setCells_row {g:Nat} {T:TypeId}:∀ (vs:List Value) (o:Nat) (W:World) (cs:Array Value),W.heap[g]? = some (.cells cs T (0,0))→(W.setCells g o vs).heap[g]? = some (.cells (setA cs o vs) T (0,0))
 | [],_,_,_,h=>h
 | v::vs,o,W,cs,h=>heap_setCells_row vs (o+1) (W.setCell ⟨g,o,none⟩ v) (cs.setIfInBounds o v) (heap_setCell_same _ _ _ _ _ _ h)
theorem mb_row {W:World} {mb:Nat} {T:TypeId} {a0 a1 a2 a3 a4 a5 a6 a7 a8 a9 a10 a11 a12:Value} (h:W.heap[mb]? = some (.cells #[a0,a1,a2,a3,a4,a5,a6,a7,a8,a9,a10,a11,a12] T (0,0))) (b5 b6 b7 b8 b9 b10 b11 b12:Value) :
  (W.setCells mb 5 [b5,b6,b7,b8,b9,b10,b11,b12]).heap[mb]? = some (.cells #[a0,a1,a2,a3,a4,b5,b6,b7,b8,b9,b10,b11,b12] T (0,0)):=by
 rw[heap_setCells_row _ _ _ _ h];simp[setA]
theorem mb_there {W:World} {mb:Nat} {T:TypeId} {a0 a1 a2 a3 a4 a5 a6 a7 a8 a9 a10 a11 a12:Value} (h:W.heap[mb]? = some (.cells #[a0,a1,a2,a3,a4,a5,a6,a7,a8,a9,a10,a11,a12] T (0,0))):W.there mb 5 8:=fun j hj=>by
 refine ⟨?_,frozen_of_row _ _ _ _ _ h⟩;rw[cell_of_row _ _ _ _ _ _ h]
 match j,hj with
 | 0,_=>rfl
 | 1,_=>rfl
 | 2,_=>rfl
 | 3,_=>rfl
 | 4,_=>rfl
 | 5,_=>rfl
 | 6,_=>rfl
 | 7,_=>rfl
theorem mb_cells {W:World} {mb:Nat} {T:TypeId} {a0 a1 a2 a3 a4 a5 a6 a7 a8 a9 a10 a11 a12:Value} (h:W.heap[mb]? = some (.cells #[a0,a1,a2,a3,a4,a5,a6,a7,a8,a9,a10,a11,a12] T (0,0))) :
  W.cell? ⟨mb,0,none⟩=some a0∧W.cell? ⟨mb,1,none⟩=some a1∧W.cell? ⟨mb,2,none⟩=some a2∧W.cell? ⟨mb,3,none⟩=some a3∧W.cell? ⟨mb,4,none⟩=some a4∧W.cell? ⟨mb,5,none⟩=some a5∧W.cell? ⟨mb,6,none⟩=some a6∧W.cell? ⟨mb,7,none⟩=some a7∧W.cell? ⟨mb,8,none⟩=some a8∧W.cell? ⟨mb,9,none⟩=some a9∧W.cell? ⟨mb,10,none⟩=some a10∧W.cell? ⟨mb,11,none⟩=some a11∧W.cell? ⟨mb,12,none⟩=some a12:=by
 refine ⟨?_,?_,?_,?_,?_,?_,?_,?_,?_,?_,?_,?_,?_⟩ <;> (rw[cell_of_row _ _ _ _ _ _ h];rfl)
theorem PtSt.keep {w W W':World} {A:zo} {d:List NodeD} {c:Nat} {x:NodeD} {A':zo} {c':Nat} (h:PtSt w W A d c x A' c') (hd:NodesR w A d) (hx:NodeR w x A') (hb:Below w.heap.size w W') (hs:W.heap.size≤W'.heap.size) (hk:∀q,q<w.heap.size+2→W'.heap[q]? = W.heap[q]?):PtSt w W' A d c x A' c' :=
 ⟨⟨Nat.lt_of_lt_of_le h.db.lt hs,(World.cell?_of_block (w:=W) (w':=W') (a:=⟨w.heap.size,0,none⟩) (hk _ (by simp only;omega))).trans h.db.cell,hd.below hb,hb⟩,(hk _ (by omega)).trans h.nb,hx.below hb⟩
theorem PtSt.bel {w W:World} {A:zo} {d:List NodeD} {c:Nat} {x:NodeD} {A':zo} {c':Nat} (h:PtSt w W A d c x A' c'):Below w.heap.size w W:=h.db.below
theorem PtSt.sz {w W:World} {A:zo} {d:List NodeD} {c:Nat} {x:NodeD} {A':zo} {c':Nat} (h:PtSt w W A d c x A' c'):w.heap.size+2≤W.heap.size:=by have:=h.nb.blt;omega
theorem MsSt.snoc {rec:Bool} {n k base:Nat} {W W':World} {v v':Value} {ms:List MemD} (h:MsSt rec n k base W v ms) {m:MemD} (hi:m.id=(k:Int)+1) (hn:m.name=nmM 109 (k+1)) (ht:0≤m.type∧m.type<(n:Int)) (hm:memOk rec m=true) (hf:FlatV m.dflt) (ho:W'.ownsRow base 118 13 v' (ms.length+1) (ms.flatMap encM++encM m)):MsSt rec n (k+1) base W' v' (ms++[m]) :=
 ⟨OwnL.snoc ho,h.ok.snoc (by rw[hi];simp) hn ht hm,fun y hy=>by
  rcases List.mem_append.1 hy with a|a
  ·exact h.flat y a
  ·obtain rfl:y=m:=by simpa using a
   exact hf⟩
def PartsPost (rec:Bool) (n:Nat) (w:World) (e:Ending) (w':World):Prop:=∃v ms,e = .returned v∧MsSt rec n 12 w.heap.size w' v ms∧Below w.heap.size w w'
theorem parts_any (d : List NodeD) (i : Nat) (rec : Bool) (A : zo) (c : Nat) (w : World) (hd : NodesR w A d) (hi : i < d.length) :
    Calls Tryz.prog 39 #[draftV A d.length c, .int .i64 i, .bool rec] w (PartsPost rec d.length w) := by
  have hn := hd.1.lt (by omega)
  obtain ⟨b, o, A', c', rfl, hr, c0, c1, c2, c3, c4⟩ := hd.at5 hi;generalize d.getD i node0 = x at *;have HI := zh (PtSt.new (c := c) hd hr c');have HD0 := zh hd;have HR0 := zh hr;have h1 : (0:Int) ≤ (i:Int) := by omega
  have h2 : (i : Int) < (d.length : Int) := by omega
  have hz := zL c0;simp only at hz;clear hd hr
  go_enter Tryz.func39, Tryz.ntmps39
  go_wp2
  clear c0 c1 c2 c3 c4;generalize (w.alloc (.cells #[.slice (some ⟨b, o, none⟩) d.length c] 24)).alloc (x.box A' c') = wc at *
  go_loopw [8, 9] (fun v s wr => ∃ (k : Nat) (ms : List MemD), k ≤ 12 ∧ s = .int .i64 ((k : Int) + 1) ∧ Hid (MsSt rec d.length k (w.heap.size + 2) wr v ms ∧ PtSt w wr (some ⟨b, o, none⟩) d c x A' c')) (fun _ s _ => 13 - (intOf s).toNat)
  case atStart => exact ⟨0, [], by omega, rfl, ⟨OwnL.nil _ _, MsOk.nil _ _ _, fun _ h => by cases h⟩, HI.out⟩
  case round =>
    obtain ⟨k, ms, hk, rfl, hh⟩ := hrel;obtain ⟨wo, rfl⟩ : ∃ wo : World, wo = wr := ⟨_, rfl⟩;have HMS := zh hh.out.1;have HPT := zh hh.out.2;clear hh
    by_cases hlt : k < 12
    · have hkt : (k : Int) + 1 ≤ 12 := by omega
      have HLT := zh hlt;clear hlt;go_wp2
      go_loopw [8, 10] (fun v s wr => ∃ q : Nat, q ≤ x.parts.length ∧ s = .int .i64 (q : Int) ∧ Hid (MsSt rec d.length k (w.heap.size + 2) wr v ms ∧ PtSt w wr (some ⟨b, o, none⟩) d c x A' c')) (fun _ s _ => x.parts.length - (intOf s).toNat)
      case atStart => exact ⟨0, by omega, rfl, HMS.out, HPT.out⟩
      case round =>
        obtain ⟨q, hq, rfl, hh⟩ := hrel;obtain ⟨wi, rfl⟩ : ∃ wi : World, wi = wr := ⟨_, rfl⟩;have HMI := zh hh.out.1;have HPI := zh hh.out.2;have hpn : x.parts.length ≤ 140737488355328 := by have := hh.out.2.nr.parts.1; unfold Lim at this; omega
        have n4 : wi.cell? ⟨w.heap.size + 1, 4, none⟩ = some (.slice A' x.parts.length c') := hh.out.2.nb.cell 4;have hnl := hh.out.2.nb.blt;clear hh
        by_cases hql : q < x.parts.length
        · obtain ⟨pb, po, rfl, ⟨p1, p2, p3⟩, e0, e1, e2⟩ := HPI.out.nr.parts.at3 hql
          generalize x.parts[q] = pp at *;have hdc := HPI.out.db.cell;have hdl := HPI.out.db.lt;have hpe := zL e0;simp only at hpe;have g1 : (0:Int) ≤ (q:Int) := by omega
          have g2 : (q : Int) < (x.parts.length : Int) := by omega
          have HPB := zh (zD wi (.cells #[.int .u8 pp.id, .int .u8 pp.type, .int .u8 pp.flag] 121));have HPX := zh (heap_alloc_new wi (.cells #[.int .u8 pp.id, .int .u8 pp.type, .int .u8 pp.flag] 121));go_wp2_with fail;refine (target_any d i pp.type _ c _ (HPI.out.below HPB.out).db.nodes hi p2).mono ?_;rintro e w3 ⟨rfl, hb3⟩;have HTT := zh (@targetD_ok d i pp.type hi);generalize targetD d i pp.type = T at *
          have HP3 := zh ((HPI.out.below HPB.out).below hb3);have HM3 := zh ((HMI.out.below HPB.out).below hb3);have hpx := (hb3.block _ (zg.1 HPX.out).1).trans HPX.out;have f0 : w3.cell? ⟨wi.heap.size, 0, none⟩ = some (.int .u8 pp.id) := by rw [cell_of_row _ _ _ _ _ _ hpx]; rfl
          have f2 : w3.cell? ⟨wi.heap.size, 2, none⟩ = some (.int .u8 pp.flag) := by rw [cell_of_row _ _ _ _ _ _ hpx]; rfl
          have hf := zL f0;have hdc3 := HP3.out.db.cell;have hdl3 := HP3.out.db.lt;simp only at hf;clear hpx hb3 e0 e1 e2 hdc hdl hpe n4 hnl;obtain ⟨E1, hE1⟩ : ∃ E, (1 + (pp.id : Int) % 12 != (k : Int) + 1) = E := ⟨_, rfl⟩
          cases E1 with
          | true =>
            go_wp2
            go_roundw
            case rel => exact ⟨q + 1, by omega, by go_num, HM3.out, HP3.out⟩
            case measure => simp [intOf]; omega
          | false =>
            by_cases hT : T < 0
            · go_wp2
              go_roundw
              case rel => exact ⟨q + 1, by omega, by go_num, HM3.out, HP3.out⟩
              case measure => simp [intOf]; omega
            · have hTd : decide (T < 0) = false := decide_eq_false hT
              have HTN := zh (HTT.out hT);obtain ⟨tn, rfl⟩ := Int.eq_ofNat_of_zero_le HTN.out.1;clear hT HTT;obtain ⟨S, hS⟩ : ∃ S, Utf8.encode (97 + ((k : Int) + 1)) = S := ⟨_, rfl⟩;have HS : Hid (S = ⟨#[UInt8.ofNat (97 + (k + 1))]⟩) := by have := (enc_low (n := k + 1) (by omega)).1; rw [← hS]; exact this
              have hds : ¬ 9223372036854775807 < 1 + S.size := by have : S.size = 1 := by rw [HS.out]; rfl
                                                                  omega
              cases rec with
              | false =>
                go_upto_region 17 with fail
                have hx4 := heap_alloc_new w3 (.cells #[.int .i64 ((k : Int) + 1), .string ((⟨#[109]⟩ : ByteArray) ++ S), .int .i64 (tn : Int), .bool false, .bool false, .int .i64 0, .bool false, .int .i64 0, .string ⟨#[]⟩, .int .i64 0, .slice none 0 0, .slice none 0 0, .slice none 0 0] 118)
                have hp4 := HP3.out.below (zD w3 (.cells #[.int .i64 ((k : Int) + 1), .string ((⟨#[109]⟩ : ByteArray) ++ S), .int .i64 (tn : Int), .bool false, .bool false, .int .i64 0, .bool false, .int .i64 0, .string ⟨#[]⟩, .int .i64 0, .slice none 0 0, .slice none 0 0, .slice none 0 0] 118))
                have hm4 := HM3.out.below (zD w3 (.cells #[.int .i64 ((k : Int) + 1), .string ((⟨#[109]⟩ : ByteArray) ++ S), .int .i64 (tn : Int), .bool false, .bool false, .int .i64 0, .bool false, .int .i64 0, .string ⟨#[]⟩, .int .i64 0, .slice none 0 0, .slice none 0 0, .slice none 0 0] 118));have HX4 := zh hx4;have HP4 := zh hp4;have HM4 := zh hm4
                obtain ⟨m0, m1, m2, m3, m4, m5, m6, m7, m8, m9, m10, m11, m12⟩ := mb_cells hx4;have hmb := (zg.1 hx4).1;clear hx4 hp4 hm4;generalize w3.alloc (.cells #[.int .i64 ((k : Int) + 1), .string ((⟨#[109]⟩ : ByteArray) ++ S), .int .i64 (tn : Int), .bool false, .bool false, .int .i64 0, .bool false, .int .i64 0, .string ⟨#[]⟩, .int .i64 0, .slice none 0 0, .slice none 0 0, .slice none 0 0] 118) = W4 at *
                have HO1 := zh (OwnL.alloc HM4.out.own (.cells #[.int .i64 ((k : Int) + 1), .string ((⟨#[109]⟩ : ByteArray) ++ S), .int .i64 (tn : Int), .bool false, .bool false, .int .i64 0, .bool false, .int .i64 0, .string ⟨#[]⟩, .int .i64 0, .slice none 0 0, .slice none 0 0, .slice none 0 0] 118))
                have HRN : Hid ((W4.alloc (.cells #[.int .i64 ((k : Int) + 1), .string ((⟨#[109]⟩ : ByteArray) ++ S), .int .i64 (tn : Int), .bool false, .bool false, .int .i64 0, .bool false, .int .i64 0, .string ⟨#[]⟩, .int .i64 0, .slice none 0 0, .slice none 0 0, .slice none 0 0] 118)).rangeAt W4.heap.size 0 [.int .i64 ((k : Int) + 1), .string ((⟨#[109]⟩ : ByteArray) ++ S), .int .i64 (tn : Int), .bool false, .bool false, .int .i64 0, .bool false, .int .i64 0, .string ⟨#[]⟩, .int .i64 0, .slice none 0 0, .slice none 0 0, .slice none 0 0]) := zh (zR W4 [.int .i64 ((k : Int) + 1), .string ((⟨#[109]⟩ : ByteArray) ++ S), .int .i64 (tn : Int), .bool false, .bool false, .int .i64 0, .bool false, .int .i64 0, .string ⟨#[]⟩, .int .i64 0, .slice none 0 0, .slice none 0 0, .slice none 0 0] 118)
                have HZ7 : Hid (w.heap.size + 2 ≤ (W4.alloc (.cells #[.int .i64 ((k : Int) + 1), .string ((⟨#[109]⟩ : ByteArray) ++ S), .int .i64 (tn : Int), .bool false, .bool false, .int .i64 0, .bool false, .int .i64 0, .string ⟨#[]⟩, .int .i64 0, .slice none 0 0, .slice none 0 0, .slice none 0 0] 118)).heap.size) := by have := HP4.out.sz; show _ ≤ _; simp; omega
                have HML := zh (HM4.out.ok.mono (k' := 12) (by omega)).len
                go_wp2_with (at_builtin; refine yG elem_mem _ rfl (.tmp 85) (.tmp 87) rfl (w.heap.size + 2) _ _ _ rfl HO1.out W4.heap.size 0 1 1 [.int .i64 ((k : Int) + 1), .string ((⟨#[109]⟩ : ByteArray) ++ S), .int .i64 (tn : Int), .bool false, .bool false, .int .i64 0, .bool false, .int .i64 0, .string ⟨#[]⟩, .int .i64 0, .slice none 0 0, .slice none 0 0, .slice none 0 0] rfl rfl HRN.out (encM_one ⟨(k : Int) + 1, (⟨#[109]⟩ : ByteArray) ++ S, (tn : Int), false, false, zeroV⟩) (by have := HML.out; omega) (by have := HML.out; omega) HZ7.out ?_; intro v8 w8 ho8 hg8)
                go_roundw
                case rel =>
                  refine ⟨k + 1, ms ++ [⟨(k : Int) + 1, (⟨#[109]⟩ : ByteArray) ++ S, (tn : Int), false, false, zeroV⟩], by omega, by go_num, ?_⟩
                  have HG : Hid (Below w.heap.size w w8 ∧ W4.heap.size ≤ w8.heap.size ∧ ∀ q, q < w.heap.size + 2 → w8.heap[q]? = W4.heap[q]?) := by
                    have hnew := zD W4 (.cells #[.int .i64 ((k : Int) + 1), .string ((⟨#[109]⟩ : ByteArray) ++ S), .int .i64 (tn : Int), .bool false, .bool false, .int .i64 0, .bool false, .int .i64 0, .string ⟨#[]⟩, .int .i64 0, .slice none 0 0, .slice none 0 0, .slice none 0 0] 118)
                    refine ⟨(zB HP4.out.bel hnew).grown hg8 (zB HP4.out.bel hnew).size (fun q hq => by have := HO1.out.lt q hq; omega), Nat.le_trans hnew.size hg8.size, fun q hq => ?_⟩
                    exact (yA hg8 (by have := HZ7.out; omega) (fun j hj e => by have := HO1.out.lt j hj; omega)).trans (hnew.block q (by have := HP4.out.sz; omega))
                  exact ⟨MsSt.snoc (m := ⟨(k : Int) + 1, (⟨#[109]⟩ : ByteArray) ++ S, (tn : Int), false, false, zeroV⟩) HM4.out rfl (by rw [HS.out]; exact nm_app 109 (k + 1)) HTN.out rfl ⟨(by decide : (⟨#[]⟩ : ByteArray).size ≤ 1 ∧ (0 : Int) ≠ 5 ∧ (0 : Int) ≠ 6), rfl, rfl, rfl⟩ ho8, HP4.out.keep HD0.out HR0.out HG.out.1 HG.out.2.1 HG.out.2.2⟩
                case measure => simp [intOf]; omega
              | true =>
                obtain ⟨E3, hE3⟩ : ∃ E, ((pp.flag : Int) % 4 == 1) = E := ⟨_, rfl⟩;obtain ⟨E4, hE4⟩ : ∃ E, decide (2 ≤ (pp.flag : Int) % 4) = E := ⟨_, rfl⟩
                cases E3 with
                | true =>
                  have hE5 : E4 = false := by rw [← hE4]; simp at hE3; simp; omega
                  subst hE5;go_upto_region 17 with fail
                  have hx4 := heap_alloc_new w3 (.cells #[.int .i64 ((k : Int) + 1), .string ((⟨#[109]⟩ : ByteArray) ++ S), .int .i64 (tn : Int), .bool true, .bool false, .int .i64 0, .bool false, .int .i64 0, .string ⟨#[]⟩, .int .i64 0, .slice none 0 0, .slice none 0 0, .slice none 0 0] 118)
                  have hp4 := HP3.out.below (zD w3 (.cells #[.int .i64 ((k : Int) + 1), .string ((⟨#[109]⟩ : ByteArray) ++ S), .int .i64 (tn : Int), .bool true, .bool false, .int .i64 0, .bool false, .int .i64 0, .string ⟨#[]⟩, .int .i64 0, .slice none 0 0, .slice none 0 0, .slice none 0 0] 118))
                  have hm4 := HM3.out.below (zD w3 (.cells #[.int .i64 ((k : Int) + 1), .string ((⟨#[109]⟩ : ByteArray) ++ S), .int .i64 (tn : Int), .bool true, .bool false, .int .i64 0, .bool false, .int .i64 0, .string ⟨#[]⟩, .int .i64 0, .slice none 0 0, .slice none 0 0, .slice none 0 0] 118));have HX4 := zh hx4;have HP4 := zh hp4;have HM4 := zh hm4
                  obtain ⟨m0, m1, m2, m3, m4, m5, m6, m7, m8, m9, m10, m11, m12⟩ := mb_cells hx4;have hmb := (zg.1 hx4).1;clear hx4 hp4 hm4;generalize w3.alloc (.cells #[.int .i64 ((k : Int) + 1), .string ((⟨#[109]⟩ : ByteArray) ++ S), .int .i64 (tn : Int), .bool true, .bool false, .int .i64 0, .bool false, .int .i64 0, .string ⟨#[]⟩, .int .i64 0, .slice none 0 0, .slice none 0 0, .slice none 0 0] 118) = W4 at *
                  have HO1 := zh (OwnL.alloc HM4.out.own (.cells #[.int .i64 ((k : Int) + 1), .string ((⟨#[109]⟩ : ByteArray) ++ S), .int .i64 (tn : Int), .bool true, .bool false, .int .i64 0, .bool false, .int .i64 0, .string ⟨#[]⟩, .int .i64 0, .slice none 0 0, .slice none 0 0, .slice none 0 0] 118))
                  have HRN : Hid ((W4.alloc (.cells #[.int .i64 ((k : Int) + 1), .string ((⟨#[109]⟩ : ByteArray) ++ S), .int .i64 (tn : Int), .bool true, .bool false, .int .i64 0, .bool false, .int .i64 0, .string ⟨#[]⟩, .int .i64 0, .slice none 0 0, .slice none 0 0, .slice none 0 0] 118)).rangeAt W4.heap.size 0 [.int .i64 ((k : Int) + 1), .string ((⟨#[109]⟩ : ByteArray) ++ S), .int .i64 (tn : Int), .bool true, .bool false, .int .i64 0, .bool false, .int .i64 0, .string ⟨#[]⟩, .int .i64 0, .slice none 0 0, .slice none 0 0, .slice none 0 0]) := zh (zR W4 [.int .i64 ((k : Int) + 1), .string ((⟨#[109]⟩ : ByteArray) ++ S), .int .i64 (tn : Int), .bool true, .bool false, .int .i64 0, .bool false, .int .i64 0, .string ⟨#[]⟩, .int .i64 0, .slice none 0 0, .slice none 0 0, .slice none 0 0] 118)
                  have HZ7 : Hid (w.heap.size + 2 ≤ (W4.alloc (.cells #[.int .i64 ((k : Int) + 1), .string ((⟨#[109]⟩ : ByteArray) ++ S), .int .i64 (tn : Int), .bool true, .bool false, .int .i64 0, .bool false, .int .i64 0, .string ⟨#[]⟩, .int .i64 0, .slice none 0 0, .slice none 0 0, .slice none 0 0] 118)).heap.size) := by have := HP4.out.sz; show _ ≤ _; simp; omega
                  have HML := zh (HM4.out.ok.mono (k' := 12) (by omega)).len
                  go_wp2_with (at_builtin; refine yG elem_mem _ rfl (.tmp 85) (.tmp 87) rfl (w.heap.size + 2) _ _ _ rfl HO1.out W4.heap.size 0 1 1 [.int .i64 ((k : Int) + 1), .string ((⟨#[109]⟩ : ByteArray) ++ S), .int .i64 (tn : Int), .bool true, .bool false, .int .i64 0, .bool false, .int .i64 0, .string ⟨#[]⟩, .int .i64 0, .slice none 0 0, .slice none 0 0, .slice none 0 0] rfl rfl HRN.out (encM_one ⟨(k : Int) + 1, (⟨#[109]⟩ : ByteArray) ++ S, (tn : Int), true, false, zeroV⟩) (by have := HML.out; omega) (by have := HML.out; omega) HZ7.out ?_; intro v8 w8 ho8 hg8)
                  go_roundw
                  case rel =>
                    refine ⟨k + 1, ms ++ [⟨(k : Int) + 1, (⟨#[109]⟩ : ByteArray) ++ S, (tn : Int), true, false, zeroV⟩], by omega, by go_num, ?_⟩
                    have HG : Hid (Below w.heap.size w w8 ∧ W4.heap.size ≤ w8.heap.size ∧ ∀ q, q < w.heap.size + 2 → w8.heap[q]? = W4.heap[q]?) := by
                      have hnew := zD W4 (.cells #[.int .i64 ((k : Int) + 1), .string ((⟨#[109]⟩ : ByteArray) ++ S), .int .i64 (tn : Int), .bool true, .bool false, .int .i64 0, .bool false, .int .i64 0, .string ⟨#[]⟩, .int .i64 0, .slice none 0 0, .slice none 0 0, .slice none 0 0] 118)
                      refine ⟨(zB HP4.out.bel hnew).grown hg8 (zB HP4.out.bel hnew).size (fun q hq => by have := HO1.out.lt q hq; omega), Nat.le_trans hnew.size hg8.size, fun q hq => ?_⟩
                      exact (yA hg8 (by have := HZ7.out; omega) (fun j hj e => by have := HO1.out.lt j hj; omega)).trans (hnew.block q (by have := HP4.out.sz; omega))
                    exact ⟨MsSt.snoc (m := ⟨(k : Int) + 1, (⟨#[109]⟩ : ByteArray) ++ S, (tn : Int), true, false, zeroV⟩) HM4.out rfl (by rw [HS.out]; exact nm_app 109 (k + 1)) HTN.out rfl ⟨(by decide : (⟨#[]⟩ : ByteArray).size ≤ 1 ∧ (0 : Int) ≠ 5 ∧ (0 : Int) ≠ 6), rfl, rfl, rfl⟩ ho8, HP4.out.keep HD0.out HR0.out HG.out.1 HG.out.2.1 HG.out.2.2⟩
                  case measure => simp [intOf]; omega
                | false =>
                  cases E4 with
                  | false =>
                    go_upto_region 17 with fail
                    have hx4 := heap_alloc_new w3 (.cells #[.int .i64 ((k : Int) + 1), .string ((⟨#[109]⟩ : ByteArray) ++ S), .int .i64 (tn : Int), .bool false, .bool false, .int .i64 0, .bool false, .int .i64 0, .string ⟨#[]⟩, .int .i64 0, .slice none 0 0, .slice none 0 0, .slice none 0 0] 118)
                    have hp4 := HP3.out.below (zD w3 (.cells #[.int .i64 ((k : Int) + 1), .string ((⟨#[109]⟩ : ByteArray) ++ S), .int .i64 (tn : Int), .bool false, .bool false, .int .i64 0, .bool false, .int .i64 0, .string ⟨#[]⟩, .int .i64 0, .slice none 0 0, .slice none 0 0, .slice none 0 0] 118))
                    have hm4 := HM3.out.below (zD w3 (.cells #[.int .i64 ((k : Int) + 1), .string ((⟨#[109]⟩ : ByteArray) ++ S), .int .i64 (tn : Int), .bool false, .bool false, .int .i64 0, .bool false, .int .i64 0, .string ⟨#[]⟩, .int .i64 0, .slice none 0 0, .slice none 0 0, .slice none 0 0] 118));have HX4 := zh hx4;have HP4 := zh hp4;have HM4 := zh hm4
                    obtain ⟨m0, m1, m2, m3, m4, m5, m6, m7, m8, m9, m10, m11, m12⟩ := mb_cells hx4;have hmb := (zg.1 hx4).1;clear hx4 hp4 hm4;generalize w3.alloc (.cells #[.int .i64 ((k : Int) + 1), .string ((⟨#[109]⟩ : ByteArray) ++ S), .int .i64 (tn : Int), .bool false, .bool false, .int .i64 0, .bool false, .int .i64 0, .string ⟨#[]⟩, .int .i64 0, .slice none 0 0, .slice none 0 0, .slice none 0 0] 118) = W4 at *
                    have HO1 := zh (OwnL.alloc HM4.out.own (.cells #[.int .i64 ((k : Int) + 1), .string ((⟨#[109]⟩ : ByteArray) ++ S), .int .i64 (tn : Int), .bool false, .bool false, .int .i64 0, .bool false, .int .i64 0, .string ⟨#[]⟩, .int .i64 0, .slice none 0 0, .slice none 0 0, .slice none 0 0] 118))
                    have HRN : Hid ((W4.alloc (.cells #[.int .i64 ((k : Int) + 1), .string ((⟨#[109]⟩ : ByteArray) ++ S), .int .i64 (tn : Int), .bool false, .bool false, .int .i64 0, .bool false, .int .i64 0, .string ⟨#[]⟩, .int .i64 0, .slice none 0 0, .slice none 0 0, .slice none 0 0] 118)).rangeAt W4.heap.size 0 [.int .i64 ((k : Int) + 1), .string ((⟨#[109]⟩ : ByteArray) ++ S), .int .i64 (tn : Int), .bool false, .bool false, .int .i64 0, .bool false, .int .i64 0, .string ⟨#[]⟩, .int .i64 0, .slice none 0 0, .slice none 0 0, .slice none 0 0]) := zh (zR W4 [.int .i64 ((k : Int) + 1), .string ((⟨#[109]⟩ : ByteArray) ++ S), .int .i64 (tn : Int), .bool false, .bool false, .int .i64 0, .bool false, .int .i64 0, .string ⟨#[]⟩, .int .i64 0, .slice none 0 0, .slice none 0 0, .slice none 0 0] 118)
                    have HZ7 : Hid (w.heap.size + 2 ≤ (W4.alloc (.cells #[.int .i64 ((k : Int) + 1), .string ((⟨#[109]⟩ : ByteArray) ++ S), .int .i64 (tn : Int), .bool false, .bool false, .int .i64 0, .bool false, .int .i64 0, .string ⟨#[]⟩, .int .i64 0, .slice none 0 0, .slice none 0 0, .slice none 0 0] 118)).heap.size) := by have := HP4.out.sz; show _ ≤ _; simp; omega
                    have HML := zh (HM4.out.ok.mono (k' := 12) (by omega)).len
                    go_wp2_with (at_builtin; refine yG elem_mem _ rfl (.tmp 85) (.tmp 87) rfl (w.heap.size + 2) _ _ _ rfl HO1.out W4.heap.size 0 1 1 [.int .i64 ((k : Int) + 1), .string ((⟨#[109]⟩ : ByteArray) ++ S), .int .i64 (tn : Int), .bool false, .bool false, .int .i64 0, .bool false, .int .i64 0, .string ⟨#[]⟩, .int .i64 0, .slice none 0 0, .slice none 0 0, .slice none 0 0] rfl rfl HRN.out (encM_one ⟨(k : Int) + 1, (⟨#[109]⟩ : ByteArray) ++ S, (tn : Int), false, false, zeroV⟩) (by have := HML.out; omega) (by have := HML.out; omega) HZ7.out ?_; intro v8 w8 ho8 hg8)
                    go_roundw
                    case rel =>
                      refine ⟨k + 1, ms ++ [⟨(k : Int) + 1, (⟨#[109]⟩ : ByteArray) ++ S, (tn : Int), false, false, zeroV⟩], by omega, by go_num, ?_⟩
                      have HG : Hid (Below w.heap.size w w8 ∧ W4.heap.size ≤ w8.heap.size ∧ ∀ q, q < w.heap.size + 2 → w8.heap[q]? = W4.heap[q]?) := by
                        have hnew := zD W4 (.cells #[.int .i64 ((k : Int) + 1), .string ((⟨#[109]⟩ : ByteArray) ++ S), .int .i64 (tn : Int), .bool false, .bool false, .int .i64 0, .bool false, .int .i64 0, .string ⟨#[]⟩, .int .i64 0, .slice none 0 0, .slice none 0 0, .slice none 0 0] 118)
                        refine ⟨(zB HP4.out.bel hnew).grown hg8 (zB HP4.out.bel hnew).size (fun q hq => by have := HO1.out.lt q hq; omega), Nat.le_trans hnew.size hg8.size, fun q hq => ?_⟩
                        exact (yA hg8 (by have := HZ7.out; omega) (fun j hj e => by have := HO1.out.lt j hj; omega)).trans (hnew.block q (by have := HP4.out.sz; omega))
                      exact ⟨MsSt.snoc (m := ⟨(k : Int) + 1, (⟨#[109]⟩ : ByteArray) ++ S, (tn : Int), false, false, zeroV⟩) HM4.out rfl (by rw [HS.out]; exact nm_app 109 (k + 1)) HTN.out rfl ⟨(by decide : (⟨#[]⟩ : ByteArray).size ≤ 1 ∧ (0 : Int) ≠ 5 ∧ (0 : Int) ≠ 6), rfl, rfl, rfl⟩ ho8, HP4.out.keep HD0.out HR0.out HG.out.1 HG.out.2.1 HG.out.2.2⟩
                    case measure => simp [intOf]; omega
                  | true =>
                    obtain ⟨fq, hfq⟩ : ∃ fq : Nat, fq = pp.flag / 4 := ⟨_, rfl⟩;have efq : (pp.flag : Int) / 4 = (fq : Int) := by rw [hfq]; simp
                    have hfl : fq < 256 := by omega
                    clear hfq;go_wp2_with fail;have hx3 := heap_alloc_new w3 (.cells #[.int .i64 ((k : Int) + 1), .string ((⟨#[109]⟩ : ByteArray) ++ S), .int .i64 (tn : Int), .bool false, .bool false, .int .i64 0, .bool false, .int .i64 0, .string ⟨#[]⟩, .int .i64 0, .slice none 0 0, .slice none 0 0, .slice none 0 0] 118)
                    have hp3 := HP3.out.below (zD w3 (.cells #[.int .i64 ((k : Int) + 1), .string ((⟨#[109]⟩ : ByteArray) ++ S), .int .i64 (tn : Int), .bool false, .bool false, .int .i64 0, .bool false, .int .i64 0, .string ⟨#[]⟩, .int .i64 0, .slice none 0 0, .slice none 0 0, .slice none 0 0] 118))
                    have hm3 := HM3.out.below (zD w3 (.cells #[.int .i64 ((k : Int) + 1), .string ((⟨#[109]⟩ : ByteArray) ++ S), .int .i64 (tn : Int), .bool false, .bool false, .int .i64 0, .bool false, .int .i64 0, .string ⟨#[]⟩, .int .i64 0, .slice none 0 0, .slice none 0 0, .slice none 0 0] 118));refine (initial_any d tn fq _ c _ hp3.db.nodes (by have := HTN.out; omega) (by omega)).mono ?_
                    rintro e w5 ⟨x5, ok, rfl, hfl5, hz5, hb5⟩;obtain ⟨xk, xb, xi, xs, xn, ks, is, rs⟩ := x5;obtain ⟨hs5, hk5, hi5, hr5⟩ := hfl5;simp only [Val.keys, Val.items, Val.rest, Val.str] at hk5 hi5 hr5 hs5;subst hk5 hi5 hr5
                    dsimp only [Val.v, Val.kind, Val.bool, Val.int, Val.str, Val.id, Val.keys, Val.items, Val.rest, List.length_nil]
                    have HS5 := zh hs5;have HZ5 := zh hz5;have hx5 := (hb5.block _ (zg.1 hx3).1).trans hx3;have hp5 := hp3.below hb5;have hm5 := hm3.below hb5;have HTH := zh (mb_there hx5);have hmb := (zg.1 hx5).1;have h3z := HP3.out.sz;have hx6 := mb_row hx5 (.int .i64 xk) (.bool xb) (.int .i64 xi) (.string xs) (.int .i64 xn) (.slice none 0 0) (.slice none 0 0) (.slice none 0 0);have HX6 := zh hx6
                    have HP6 := zh (hp5.keep (W' := w5.setCells w3.heap.size 5 [.int .i64 xk, .bool xb, .int .i64 xi, .string xs, .int .i64 xn, .slice none 0 0, .slice none 0 0, .slice none 0 0]) HD0.out HR0.out (yC _ (by omega) _ _ _ hp5.bel) (by rw [size_setCells]; exact Nat.le_refl _) (fun q hq => zN (by omega) _ _ _))
                    have HM6 : Hid (MsSt true d.length k (w.heap.size + 2) (w5.setCells w3.heap.size 5 [.int .i64 xk, .bool xb, .int .i64 xi, .string xs, .int .i64 xn, .slice none 0 0, .slice none 0 0, .slice none 0 0]) u8 ms) := ⟨hm5.own.keep fun g _ _ hg => zN (fun e => by have := (World.ownsRow.lt HM3.out.own g hg).2; omega) _ _ _, hm5.ok, hm5.flat⟩
                    have f4 := frozen_of_row _ _ 4 _ _ hx6;have c4 := (mb_cells hx6).2.2.2.2.1;have hm6 := (zg.1 hx6).1;clear hx3 hp3 hm3 hb5 hs5 hz5 hx5 hp5 hm5 hmb h3z hx6
                    go_upto_region 17 with (refine wpList_store_mid rfl 28 (.tmp 83) (.tmp 81) rfl w3.heap.size 5 #[.int .i64 xk, .bool xb, .int .i64 xi, .string xs, .int .i64 xn, .slice none 0 0, .slice none 0 0, .slice none 0 0] (by rfl) (by rfl) ?_ ?_ ?_ ?_; (exact HTH.out); (exact zW); (exact val_one (Val.mk xk xb xi xs xn [] [] []) none 0 none 0 none 0); (generalize w5.setCells w3.heap.size 5 [.int .i64 xk, .bool xb, .int .i64 xi, .string xs, .int .i64 xn, .slice none 0 0, .slice none 0 0, .slice none 0 0] = W6 at *))
                    have h3z := HP3.out.sz
                    have hx4 : (W6.setCell ⟨w3.heap.size, 4, none⟩ (.bool ok)).heap[w3.heap.size]? = some (.cells #[.int .i64 ((k : Int) + 1), .string ((⟨#[109]⟩ : ByteArray) ++ S), .int .i64 (tn : Int), .bool false, .bool ok, .int .i64 xk, .bool xb, .int .i64 xi, .string xs, .int .i64 xn, .slice none 0 0, .slice none 0 0, .slice none 0 0] 118 (0, 0)) := by rw [heap_setCell_same _ _ 4 _ _ _ HX6.out]; simp
                    have hp4 := HP6.out.keep (W' := W6.setCell ⟨w3.heap.size, 4, none⟩ (.bool ok)) HD0.out HR0.out (HP6.out.bel.setCell (p := ⟨w3.heap.size, 4, none⟩) (by simp only; omega) _) (by simp) (fun q hq => heap_setCell_other _ _ _ _ (by simp only; omega))
                    have hm4 : MsSt true d.length k (w.heap.size + 2) (W6.setCell ⟨w3.heap.size, 4, none⟩ (.bool ok)) u8 ms := ⟨HM6.out.own.keep fun g _ _ hg => heap_setCell_other _ _ _ _ (fun e => by have := (World.ownsRow.lt HM3.out.own g hg).2; simp only at e; omega), HM6.out.ok, HM6.out.flat⟩
                    clear f4 c4 hm6 h3z HX6 HP6 HM6;have HX4 := zh hx4;have HP4 := zh hp4;have HM4 := zh hm4;obtain ⟨m0, m1, m2, m3, m4, m5, m6, m7, m8, m9, m10, m11, m12⟩ := mb_cells hx4;have hmb := (zg.1 hx4).1;clear hx4 hp4 hm4;generalize W6.setCell ⟨w3.heap.size, 4, none⟩ (.bool ok) = W4 at *
                    have HO1 := zh (OwnL.alloc HM4.out.own (.cells #[.int .i64 ((k : Int) + 1), .string ((⟨#[109]⟩ : ByteArray) ++ S), .int .i64 (tn : Int), .bool false, .bool ok, .int .i64 xk, .bool xb, .int .i64 xi, .string xs, .int .i64 xn, .slice none 0 0, .slice none 0 0, .slice none 0 0] 118))
                    have HRN : Hid ((W4.alloc (.cells #[.int .i64 ((k : Int) + 1), .string ((⟨#[109]⟩ : ByteArray) ++ S), .int .i64 (tn : Int), .bool false, .bool ok, .int .i64 xk, .bool xb, .int .i64 xi, .string xs, .int .i64 xn, .slice none 0 0, .slice none 0 0, .slice none 0 0] 118)).rangeAt W4.heap.size 0 [.int .i64 ((k : Int) + 1), .string ((⟨#[109]⟩ : ByteArray) ++ S), .int .i64 (tn : Int), .bool false, .bool ok, .int .i64 xk, .bool xb, .int .i64 xi, .string xs, .int .i64 xn, .slice none 0 0, .slice none 0 0, .slice none 0 0]) := zh (zR W4 [.int .i64 ((k : Int) + 1), .string ((⟨#[109]⟩ : ByteArray) ++ S), .int .i64 (tn : Int), .bool false, .bool ok, .int .i64 xk, .bool xb, .int .i64 xi, .string xs, .int .i64 xn, .slice none 0 0, .slice none 0 0, .slice none 0 0] 118)
                    have HZ7 : Hid (w.heap.size + 2 ≤ (W4.alloc (.cells #[.int .i64 ((k : Int) + 1), .string ((⟨#[109]⟩ : ByteArray) ++ S), .int .i64 (tn : Int), .bool false, .bool ok, .int .i64 xk, .bool xb, .int .i64 xi, .string xs, .int .i64 xn, .slice none 0 0, .slice none 0 0, .slice none 0 0] 118)).heap.size) := by have := HP4.out.sz; show _ ≤ _; simp; omega
                    have HML := zh (HM4.out.ok.mono (k' := 12) (by omega)).len
                    go_wp2_with (at_builtin; refine yG elem_mem _ rfl (.tmp 85) (.tmp 87) rfl (w.heap.size + 2) _ _ _ rfl HO1.out W4.heap.size 0 1 1 [.int .i64 ((k : Int) + 1), .string ((⟨#[109]⟩ : ByteArray) ++ S), .int .i64 (tn : Int), .bool false, .bool ok, .int .i64 xk, .bool xb, .int .i64 xi, .string xs, .int .i64 xn, .slice none 0 0, .slice none 0 0, .slice none 0 0] rfl rfl HRN.out (encM_one ⟨(k : Int) + 1, (⟨#[109]⟩ : ByteArray) ++ S, (tn : Int), false, ok, Val.mk xk xb xi xs xn [] [] []⟩) (by have := HML.out; omega) (by have := HML.out; omega) HZ7.out ?_; intro v8 w8 ho8 hg8)
                    go_roundw
                    case rel =>
                      refine ⟨k + 1, ms ++ [⟨(k : Int) + 1, (⟨#[109]⟩ : ByteArray) ++ S, (tn : Int), false, ok, Val.mk xk xb xi xs xn [] [] []⟩], by omega, by go_num, ?_⟩
                      have HG : Hid (Below w.heap.size w w8 ∧ W4.heap.size ≤ w8.heap.size ∧ ∀ q, q < w.heap.size + 2 → w8.heap[q]? = W4.heap[q]?) := by
                        have hnew := zD W4 (.cells #[.int .i64 ((k : Int) + 1), .string ((⟨#[109]⟩ : ByteArray) ++ S), .int .i64 (tn : Int), .bool false, .bool ok, .int .i64 xk, .bool xb, .int .i64 xi, .string xs, .int .i64 xn, .slice none 0 0, .slice none 0 0, .slice none 0 0] 118)
                        refine ⟨(zB HP4.out.bel hnew).grown hg8 (zB HP4.out.bel hnew).size (fun q hq => by have := HO1.out.lt q hq; omega), Nat.le_trans hnew.size hg8.size, fun q hq => ?_⟩
                        exact (yA hg8 (by have := HZ7.out; omega) (fun j hj e => by have := HO1.out.lt j hj; omega)).trans (hnew.block q (by have := HP4.out.sz; omega))
                      exact ⟨MsSt.snoc (m := ⟨(k : Int) + 1, (⟨#[109]⟩ : ByteArray) ++ S, (tn : Int), false, ok, Val.mk xk xb xi xs xn [] [] []⟩) HM4.out rfl (by rw [HS.out]; exact nm_app 109 (k + 1)) HTN.out (by cases ok with
                        | true => rfl
                        | false => (have := HZ5.out rfl; rw [this]; rfl)) ⟨HS5.out, rfl, rfl, rfl⟩ ho8, HP4.out.keep HD0.out HR0.out HG.out.1 HG.out.2.1 HG.out.2.2⟩
                    case measure => simp [intOf]; omega
        · go_wp2
          go_roundw
          case rel => exact ⟨k + 1, ms, by omega, by go_num, ⟨HMI.out.own, HMI.out.ok.mono (by omega), HMI.out.flat⟩, HPI.out⟩
          case measure => simp [intOf]; omega
    · have hkt : ¬ ((k : Int) + 1 ≤ 12) := by omega
      obtain rfl : k = 12 := by omega
      go_wp2
      go_ret
      exact ⟨_, ms, rfl, ⟨⟨HMS.out.own.1, HMS.out.own.2.imp id fun ⟨g, cap, cur, h1, h2, h3⟩ => ⟨g, cap, cur, h1, by omega, h3⟩⟩, HMS.out.ok, HMS.out.flat⟩, HPT.out.bel⟩
end Go.Proofs.YthkkllmmbefedaaGreatDoor


