/-
  Walks: default values of drafts.
-/
import Derived.Test.YthkkllmmbefedaaGreatDoorQGA10
import Derived.Test.YthkkllmmbefedaaGreatDoorQGA6
namespace Go.Proofs.YthkkllmmbefedaaGreatDoor
open Go.RowKit
set_option maxHeartbeats 16000000
set_option maxRecDepth 100000
def InitPost (w:World) (e:Ending) (w':World):Prop:=∃x ok,e = .returned (.tuple #[x.v none 0 none 0 none 0,.bool ok])∧FlatV x∧(ok=false→x=zeroV)∧Below w.heap.size w w'
structure InSt (w W:World) (A:zo) (d:List NodeD) (c:Nat) (x:NodeD) (A':zo) (c':Nat):Prop where
 db:DBox w W A d c
 rb:W.heap[w.heap.size+1]? = some zboxV
 nb:NBox W (w.heap.size+1+1) x A' c'
theorem InSt.below {w W W':World} {A:zo} {d:List NodeD} {c:Nat} {x:NodeD} {A':zo} {c':Nat} (h:InSt w W A d c x A' c') (hb:Below W.heap.size W W'):InSt w W' A d c x A' c' :=
 ⟨h.db.step hb,(hb.block _ (zg.1 h.rb).1).trans h.rb,h.nb.below hb⟩
theorem InSt.new {w:World} {A:zo} {d:List NodeD} {c:Nat} (h:NodesR w A d) (x:NodeD) (A':zo) (c':Nat):InSt w (((w.alloc (.cells #[.slice A d.length c] 24)).alloc zboxV).alloc (x.box A' c')) A d c x A' c':=by
 have hz:(w.alloc (.cells #[.slice A d.length c] 24)).heap.size=w.heap.size+1:=by simp
 have hz2:((w.alloc (.cells #[.slice A d.length c] 24)).alloc zboxV).heap.size=w.heap.size+1+1:=by simp
 refine ⟨((DBox.new h).step (zD _ _)).step (zD _ _),tmp_al ?_ _,?_⟩
 ·have:=heap_alloc_new (w.alloc (.cells #[.slice A d.length c] 24)) zboxV
  rw[hz] at this;exact this
 ·have:=NBox.new ((w.alloc (.cells #[.slice A d.length c] 24)).alloc zboxV) x A' c'
  rw[hz2] at this;exact this
theorem init_end {w W:World} (k:Int) (b:Bool) (i:Int) (s:ByteArray) (n:Int) (hs:s.size≤1∧k≠5∧k≠6) (hth:W.there (w.heap.size+1) 0 8) (hb:Below w.heap.size w W) :
  let W':=W.setCells (w.heap.size+1) 0 [.int .i64 k,.bool b,.int .i64 i,.string s,.int .i64 n,.slice none 0 0,.slice none 0 0,.slice none 0 0]
  (W'.cell? ⟨w.heap.size+1,0,none⟩=some (.int .i64 k)∧W'.cell? ⟨w.heap.size+1,1,none⟩=some (.bool b)∧W'.cell? ⟨w.heap.size+1,2,none⟩=some (.int .i64 i)∧W'.cell? ⟨w.heap.size+1,3,none⟩=some (.string s)∧W'.cell? ⟨w.heap.size+1,4,none⟩=some (.int .i64 n)∧W'.cell? ⟨w.heap.size+1,5,none⟩=some (.slice none 0 0)∧W'.cell? ⟨w.heap.size+1,6,none⟩=some (.slice none 0 0)∧W'.cell? ⟨w.heap.size+1,7,none⟩=some (.slice none 0 0)) ∧
  Hid (FlatV (.mk k b i s n [] [] [])∧Below w.heap.size w W'):=by
 intro W'
 exact ⟨range8 (y := .mk k b i s n [] [] []) (World.rangeAt_setCells_same W (w.heap.size+1) 0 ((Val.mk k b i s n [] [] []).cs none 0 none 0 none 0) hth),⟨hs,rfl,rfl,rfl⟩,yC _ (by omega) _ _ _ hb⟩
theorem in_there {w W:World} {A:zo} {d:List NodeD} {c:Nat} {x:NodeD} {A':zo} {c':Nat} (h:InSt w W A d c x A' c') (o:Obj):(W.alloc o).there (w.heap.size+1) 0 8:=there_box (tmp_al h.rb o)
theorem in_below {w W:World} {A:zo} {d:List NodeD} {c:Nat} {x:NodeD} {A':zo} {c':Nat} (h:InSt w W A d c x A' c') (o:Obj):Below w.heap.size w (W.alloc o):=zB h.db.below (zD _ _)
theorem yK {s:ByteArray} (h:s.size≤100):SOk s:=by unfold SOk;omega
structure InVt (w W:World) (A:zo) (d:List NodeD) (c:Nat) (x:NodeD) (A':zo) (c' vb:Nat) (k:Int):Prop where
 st:InSt w W A d c x A' c'
 vbx:W.heap[vb]? = some (.cells #[.int .i64 k,.bool false,.int .i64 0,.string ⟨#[]⟩,.int .i64 0,.slice none 0 0,.slice none 0 0,.slice none 0 0] 28 (0,0))
 ne:w.heap.size+1<vb
theorem InVt.below {w W W':World} {A:zo} {d:List NodeD} {c:Nat} {x:NodeD} {A':zo} {c' vb:Nat} {k:Int} (h:InVt w W A d c x A' c' vb k) (hb:Below W.heap.size W W'):InVt w W' A d c x A' c' vb k :=
 ⟨h.st.below hb,(hb.block _ (zg.1 h.vbx).1).trans h.vbx,h.ne⟩
theorem InVt.new {w W:World} {A:zo} {d:List NodeD} {c:Nat} {x:NodeD} {A':zo} {c':Nat} (h:InSt w W A d c x A' c') (k:Int):InVt w (W.alloc (.cells #[.int .i64 k,.bool false,.int .i64 0,.string ⟨#[]⟩,.int .i64 0,.slice none 0 0,.slice none 0 0,.slice none 0 0] 28)) A d c x A' c' W.heap.size k :=
 ⟨h.below (zD _ _),heap_alloc_new _ _,by have:=(zg.1 h.rb).1;omega⟩
theorem InVt.there {w W:World} {A:zo} {d:List NodeD} {c:Nat} {x:NodeD} {A':zo} {c' vb:Nat} {k:Int} (h:InVt w W A d c x A' c' vb k) (j:Nat) (v:Value):(W.setCell ⟨vb,j,none⟩ v).there (w.heap.size+1) 0 8 :=
 there_box ((heap_setCell_other _ _ _ _ (by have:=h.ne;show w.heap.size+1≠vb;omega)).trans h.st.rb)
theorem InVt.bel {w W:World} {A:zo} {d:List NodeD} {c:Nat} {x:NodeD} {A':zo} {c' vb:Nat} {k:Int} (h:InVt w W A d c x A' c' vb k) (j:Nat) (v:Value):Below w.heap.size w (W.setCell ⟨vb,j,none⟩ v) :=
 h.st.db.below.setCell (p:=⟨vb,j,none⟩) (by have:=h.ne;show w.heap.size≤vb;omega) v
theorem inv_hold {w W:World} {A:zo} {d:List NodeD} {c:Nat} {x:NodeD} {A':zo} {c' vb:Nat} {k:Int} (h:InVt w W A d c x A' c' vb k) :
  ((W.cell? ⟨w.heap.size+1+1,0,none⟩=some (.int .u8 x.kind)∧W.cell? ⟨w.heap.size+1+1,1,none⟩=some (.int .u8 x.a)∧W.cell? ⟨w.heap.size+1+1,2,none⟩=some (.int .u8 x.b)∧W.cell? ⟨w.heap.size+1+1,3,none⟩=some (.int .u8 x.c)∧W.cell? ⟨w.heap.size+1+1,4,none⟩=some (.slice A' x.parts.length c'))∧(∀j,W.frozen? ⟨vb,j,none⟩=false)∧W.cell? ⟨vb,2,none⟩=some (.int .i64 0)∧W.cell? ⟨vb,4,none⟩=some (.int .i64 0))∧Hid (InVt w W A d c x A' c' vb k):=by
 refine ⟨⟨⟨h.st.nb.cell 0,h.st.nb.cell 1,h.st.nb.cell 2,h.st.nb.cell 3,h.st.nb.cell 4⟩,fun j=>frozen_of_row _ _ _ _ _ h.vbx,?_,?_⟩,h⟩ <;> (rw[cell_of_row _ _ _ _ _ _ h.vbx];rfl)
theorem inv_cells {w W:World} {A:zo} {d:List NodeD} {c:Nat} {x:NodeD} {A':zo} {c' vb:Nat} {k:Int} (h:InVt w W A d c x A' c' vb k) (j:Nat) (v:Value):∀q,(W.setCell ⟨vb,j,none⟩ v).cell? ⟨vb,q,none⟩=((#[.int .i64 k,.bool false,.int .i64 0,.string ⟨#[]⟩,.int .i64 0,.slice none 0 0,.slice none 0 0,.slice none 0 0]:Array Value).setIfInBounds j v)[q]? := fun q=>by
 rw[cell_of_row _ _ _ _ _ _ (heap_setCell_same _ _ _ _ _ _ h.vbx)]
theorem vb_cells {w W:World} {A:zo} {d:List NodeD} {c:Nat} {x:NodeD} {A':zo} {c' vb:Nat} {k:Int} (h:InVt w W A d c x A' c' vb k) :
  W.cell? ⟨vb,0,none⟩=some (.int .i64 k)∧W.cell? ⟨vb,1,none⟩=some (.bool false)∧W.cell? ⟨vb,2,none⟩=some (.int .i64 0)∧W.cell? ⟨vb,3,none⟩=some (.string ⟨#[]⟩)∧W.cell? ⟨vb,4,none⟩=some (.int .i64 0)∧W.cell? ⟨vb,5,none⟩=some (.slice none 0 0)∧W.cell? ⟨vb,6,none⟩=some (.slice none 0 0)∧W.cell? ⟨vb,7,none⟩=some (.slice none 0 0):=by
 refine ⟨?_,?_,?_,?_,?_,?_,?_,?_⟩ <;> (rw[cell_of_row _ _ _ _ _ _ h.vbx];rfl)
theorem vb_cells2 {w W:World} {A:zo} {d:List NodeD} {c:Nat} {x:NodeD} {A':zo} {c' vb:Nat} {k:Int} (h:InVt w W A d c x A' c' vb k) (z:Int) :
  (W.setCell ⟨vb,2,none⟩ (.int .i64 z)).cell? ⟨vb,0,none⟩=some (.int .i64 k)∧(W.setCell ⟨vb,2,none⟩ (.int .i64 z)).cell? ⟨vb,1,none⟩=some (.bool false)∧(W.setCell ⟨vb,2,none⟩ (.int .i64 z)).cell? ⟨vb,2,none⟩=some (.int .i64 z)∧(W.setCell ⟨vb,2,none⟩ (.int .i64 z)).cell? ⟨vb,3,none⟩=some (.string ⟨#[]⟩)∧(W.setCell ⟨vb,2,none⟩ (.int .i64 z)).cell? ⟨vb,4,none⟩=some (.int .i64 0)∧(W.setCell ⟨vb,2,none⟩ (.int .i64 z)).cell? ⟨vb,5,none⟩=some (.slice none 0 0)∧(W.setCell ⟨vb,2,none⟩ (.int .i64 z)).cell? ⟨vb,6,none⟩=some (.slice none 0 0)∧(W.setCell ⟨vb,2,none⟩ (.int .i64 z)).cell? ⟨vb,7,none⟩=some (.slice none 0 0):=by
 refine ⟨?_,?_,?_,?_,?_,?_,?_,?_⟩ <;> (rw[inv_cells h];rfl)
theorem vb_cells4 {w W:World} {A:zo} {d:List NodeD} {c:Nat} {x:NodeD} {A':zo} {c' vb:Nat} {k:Int} (h:InVt w W A d c x A' c' vb k) (z:Int) :
  (W.setCell ⟨vb,4,none⟩ (.int .i64 z)).cell? ⟨vb,0,none⟩=some (.int .i64 k)∧(W.setCell ⟨vb,4,none⟩ (.int .i64 z)).cell? ⟨vb,1,none⟩=some (.bool false)∧(W.setCell ⟨vb,4,none⟩ (.int .i64 z)).cell? ⟨vb,2,none⟩=some (.int .i64 0)∧(W.setCell ⟨vb,4,none⟩ (.int .i64 z)).cell? ⟨vb,3,none⟩=some (.string ⟨#[]⟩)∧(W.setCell ⟨vb,4,none⟩ (.int .i64 z)).cell? ⟨vb,4,none⟩=some (.int .i64 z)∧(W.setCell ⟨vb,4,none⟩ (.int .i64 z)).cell? ⟨vb,5,none⟩=some (.slice none 0 0)∧(W.setCell ⟨vb,4,none⟩ (.int .i64 z)).cell? ⟨vb,6,none⟩=some (.slice none 0 0)∧(W.setCell ⟨vb,4,none⟩ (.int .i64 z)).cell? ⟨vb,7,none⟩=some (.slice none 0 0):=by
 refine ⟨?_,?_,?_,?_,?_,?_,?_,?_⟩ <;> (rw[inv_cells h];rfl)
theorem high_low (x:NodeD):IntKind.i64.wrap (IntKind.i64.wrap (highN x - lowN x)+1)=(x.b:Int) % 6+1:=by
 have h1:highN x - lowN x=((x.b % 6:Nat):Int):=by unfold highN;omega
 rw[h1,IntWalk.i64_in (((x.b % 6:Nat):Int)) (by omega),IntWalk.i64_in _ (by omega)]
 simp
theorem initial_5 (d:List NodeD) (t code:Nat) (A:zo) (c:Nat) (w:World) (hd:NodesR w A d) (ht:t<d.length) (_:code<256) (hk:kindN d t=5) :
  Calls Tryz.prog 63 #[draftV A d.length c,.int .i64 t,.int .u8 code] w (InitPost w):=by
 have hn:=hd.1.lt (by omega)
 obtain ⟨b,o,A',c',rfl,hr,c0,c1,c2,c3,c4⟩:=hd.at5 ht;generalize d.getD t node0=x at *;have HI:=zh (InSt.new (c:=c) hd x A' c');have HR:=zh hr;have HK:=zh hk;have h1:(0:Int)≤(t:Int):=by omega
 have h2:(t:Int)<(d.length:Int):=by omega
 have hz:=zL c0;simp only at hz;clear hd hr hk
 go_enter Tryz.func63,Tryz.ntmps63
 go_wp2_with fail
 refine (kind_any d t _ c _ HI.out.db.nodes ht).mono ?_;rintro e w2 ⟨rfl,hb2⟩;rw[HK.out];replace HI:=zh (HI.out.below hb2);clear hb2 c0 c1 c2 c3 c4 hz
 go_wp2_with (refine wpList_store_mid rfl 28 (.tmp 6) (.tmp 79) rfl (w.heap.size+1) 0 #[.int .i64 (0),.bool (false),.int .i64 (0),.string (⟨#[]⟩),.int .i64 (0),.slice none 0 0,.slice none 0 0,.slice none 0 0] (by rfl) (by rfl) ?_ ?_ ?_ ?_;(exact in_there HI.out _);(exact zW);(exact val_one (Val.mk (0) (false) (0) (⟨#[]⟩) (0) [] [] []) none 0 none 0 none 0))
 obtain ⟨⟨k0,k1,k2,k3,k4,k5,k6,k7⟩,hfin⟩:=init_end (w:=w) (0) (false) (0) (⟨#[]⟩) (0) (by decide) (in_there HI.out _) (in_below HI.out _)
 have HF:=zh hfin.out;clear hfin;exact bodyPost_ret (v := .tuple #[.agg #[.int .i64 (0),.bool (false),.int .i64 (0),.string (⟨#[]⟩),.int .i64 (0),.slice none 0 0,.slice none 0 0,.slice none 0 0],.bool false]) (by simp[results,Tryz.results63,go_sem,k0,k1,k2,k3,k4,k5,k6,k7]) rfl ⟨Val.mk (0) (false) (0) (⟨#[]⟩) (0) [] [] [],false,rfl,HF.out.1,(fun _=>rfl),HF.out.2⟩
theorem initial_6 (d:List NodeD) (t code:Nat) (A:zo) (c:Nat) (w:World) (hd:NodesR w A d) (ht:t<d.length) (_:code<256) (hk:kindN d t=6) :
  Calls Tryz.prog 63 #[draftV A d.length c,.int .i64 t,.int .u8 code] w (InitPost w):=by
 have hn:=hd.1.lt (by omega)
 obtain ⟨b,o,A',c',rfl,hr,c0,c1,c2,c3,c4⟩:=hd.at5 ht;generalize d.getD t node0=x at *;have HI:=zh (InSt.new (c:=c) hd x A' c');have HR:=zh hr;have HK:=zh hk;have h1:(0:Int)≤(t:Int):=by omega
 have h2:(t:Int)<(d.length:Int):=by omega
 have hz:=zL c0;simp only at hz;clear hd hr hk
 go_enter Tryz.func63,Tryz.ntmps63
 go_wp2_with fail
 refine (kind_any d t _ c _ HI.out.db.nodes ht).mono ?_;rintro e w2 ⟨rfl,hb2⟩;rw[HK.out];replace HI:=zh (HI.out.below hb2);clear hb2 c0 c1 c2 c3 c4 hz
 go_wp2_with (refine wpList_store_mid rfl 28 (.tmp 6) (.tmp 79) rfl (w.heap.size+1) 0 #[.int .i64 (0),.bool (false),.int .i64 (0),.string (⟨#[]⟩),.int .i64 (0),.slice none 0 0,.slice none 0 0,.slice none 0 0] (by rfl) (by rfl) ?_ ?_ ?_ ?_;(exact in_there HI.out _);(exact zW);(exact val_one (Val.mk (0) (false) (0) (⟨#[]⟩) (0) [] [] []) none 0 none 0 none 0))
 obtain ⟨⟨k0,k1,k2,k3,k4,k5,k6,k7⟩,hfin⟩:=init_end (w:=w) (0) (false) (0) (⟨#[]⟩) (0) (by decide) (in_there HI.out _) (in_below HI.out _)
 have HF:=zh hfin.out;clear hfin;exact bodyPost_ret (v := .tuple #[.agg #[.int .i64 (0),.bool (false),.int .i64 (0),.string (⟨#[]⟩),.int .i64 (0),.slice none 0 0,.slice none 0 0,.slice none 0 0],.bool false]) (by simp[results,Tryz.results63,go_sem,k0,k1,k2,k3,k4,k5,k6,k7]) rfl ⟨Val.mk (0) (false) (0) (⟨#[]⟩) (0) [] [] [],false,rfl,HF.out.1,(fun _=>rfl),HF.out.2⟩
theorem initial_7 (d:List NodeD) (t code:Nat) (A:zo) (c:Nat) (w:World) (hd:NodesR w A d) (ht:t<d.length) (_:code<256) (hk:kindN d t=7) :
  Calls Tryz.prog 63 #[draftV A d.length c,.int .i64 t,.int .u8 code] w (InitPost w):=by
 have hn:=hd.1.lt (by omega)
 obtain ⟨b,o,A',c',rfl,hr,c0,c1,c2,c3,c4⟩:=hd.at5 ht;generalize d.getD t node0=x at *;have HI:=zh (InSt.new (c:=c) hd x A' c');have HR:=zh hr;have HK:=zh hk;have h1:(0:Int)≤(t:Int):=by omega
 have h2:(t:Int)<(d.length:Int):=by omega
 have hz:=zL c0;simp only at hz;clear hd hr hk
 go_enter Tryz.func63,Tryz.ntmps63
 go_wp2_with fail
 refine (kind_any d t _ c _ HI.out.db.nodes ht).mono ?_;rintro e w2 ⟨rfl,hb2⟩;rw[HK.out];replace HI:=zh (HI.out.below hb2);clear hb2 c0 c1 c2 c3 c4 hz
 go_wp2_with (refine wpList_store_mid rfl 28 (.tmp 6) (.tmp 80) rfl (w.heap.size+1) 0 #[.int .i64 (7),.bool (false),.int .i64 (0),.string (⟨#[]⟩),.int .i64 (0),.slice none 0 0,.slice none 0 0,.slice none 0 0] (by rfl) (by rfl) ?_ ?_ ?_ ?_;(exact in_there HI.out _);(exact zW);(exact val_one (Val.mk (7) (false) (0) (⟨#[]⟩) (0) [] [] []) none 0 none 0 none 0))
 obtain ⟨⟨k0,k1,k2,k3,k4,k5,k6,k7⟩,hfin⟩:=init_end (w:=w) (7) (false) (0) (⟨#[]⟩) (0) (by decide) (in_there HI.out _) (in_below HI.out _)
 have HF:=zh hfin.out;clear hfin;exact bodyPost_ret (v := .tuple #[.agg #[.int .i64 (7),.bool (false),.int .i64 (0),.string (⟨#[]⟩),.int .i64 (0),.slice none 0 0,.slice none 0 0,.slice none 0 0],.bool true]) (by simp[results,Tryz.results63,go_sem,k0,k1,k2,k3,k4,k5,k6,k7]) rfl ⟨Val.mk (7) (false) (0) (⟨#[]⟩) (0) [] [] [],true,rfl,HF.out.1,(fun h=>by cases h),HF.out.2⟩
theorem initial_9 (d:List NodeD) (t code:Nat) (A:zo) (c:Nat) (w:World) (hd:NodesR w A d) (ht:t<d.length) (_:code<256) (hk:kindN d t=9) :
  Calls Tryz.prog 63 #[draftV A d.length c,.int .i64 t,.int .u8 code] w (InitPost w):=by
 have hn:=hd.1.lt (by omega)
 obtain ⟨b,o,A',c',rfl,hr,c0,c1,c2,c3,c4⟩:=hd.at5 ht;generalize d.getD t node0=x at *;have HI:=zh (InSt.new (c:=c) hd x A' c');have HR:=zh hr;have HK:=zh hk;have h1:(0:Int)≤(t:Int):=by omega
 have h2:(t:Int)<(d.length:Int):=by omega
 have hz:=zL c0;simp only at hz;clear hd hr hk
 go_enter Tryz.func63,Tryz.ntmps63
 go_wp2_with fail
 refine (kind_any d t _ c _ HI.out.db.nodes ht).mono ?_;rintro e w2 ⟨rfl,hb2⟩;rw[HK.out];replace HI:=zh (HI.out.below hb2);clear hb2 c0 c1 c2 c3 c4 hz
 go_wp2_with (refine wpList_store_mid rfl 28 (.tmp 6) (.tmp 80) rfl (w.heap.size+1) 0 #[.int .i64 (9),.bool (false),.int .i64 (0),.string (⟨#[]⟩),.int .i64 (0),.slice none 0 0,.slice none 0 0,.slice none 0 0] (by rfl) (by rfl) ?_ ?_ ?_ ?_;(exact in_there HI.out _);(exact zW);(exact val_one (Val.mk (9) (false) (0) (⟨#[]⟩) (0) [] [] []) none 0 none 0 none 0))
 obtain ⟨⟨k0,k1,k2,k3,k4,k5,k6,k7⟩,hfin⟩:=init_end (w:=w) (9) (false) (0) (⟨#[]⟩) (0) (by decide) (in_there HI.out _) (in_below HI.out _)
 have HF:=zh hfin.out;clear hfin;exact bodyPost_ret (v := .tuple #[.agg #[.int .i64 (9),.bool (false),.int .i64 (0),.string (⟨#[]⟩),.int .i64 (0),.slice none 0 0,.slice none 0 0,.slice none 0 0],.bool true]) (by simp[results,Tryz.results63,go_sem,k0,k1,k2,k3,k4,k5,k6,k7]) rfl ⟨Val.mk (9) (false) (0) (⟨#[]⟩) (0) [] [] [],true,rfl,HF.out.1,(fun h=>by cases h),HF.out.2⟩
theorem initial_1 (d:List NodeD) (t code:Nat) (A:zo) (c:Nat) (w:World) (hd:NodesR w A d) (ht:t<d.length) (_:code<256) (hk:kindN d t=1) :
  Calls Tryz.prog 63 #[draftV A d.length c,.int .i64 t,.int .u8 code] w (InitPost w):=by
 have hn:=hd.1.lt (by omega)
 obtain ⟨b,o,A',c',rfl,hr,c0,c1,c2,c3,c4⟩:=hd.at5 ht;generalize d.getD t node0=x at *;have HI:=zh (InSt.new (c:=c) hd x A' c');have HR:=zh hr;have HK:=zh hk;have h1:(0:Int)≤(t:Int):=by omega
 have h2:(t:Int)<(d.length:Int):=by omega
 have hz:=zL c0;simp only at hz;clear hd hr hk
 go_enter Tryz.func63,Tryz.ntmps63
 go_wp2_with fail
 refine (kind_any d t _ c _ HI.out.db.nodes ht).mono ?_;rintro e w2 ⟨rfl,hb2⟩;rw[HK.out];replace HI:=zh (HI.out.below hb2);clear hb2 c0 c1 c2 c3 c4 hz;obtain ⟨E,hE⟩:∃E,((code:Int) % 2==1)=E:=⟨_,rfl⟩
 go_wp2_with (refine wpList_store_mid rfl 28 (.tmp 6) (.tmp 80) rfl (w.heap.size+1) 0 #[.int .i64 (1),.bool (E),.int .i64 (0),.string (⟨#[]⟩),.int .i64 (0),.slice none 0 0,.slice none 0 0,.slice none 0 0] (by rfl) (by rfl) ?_ ?_ ?_ ?_;(exact in_there HI.out _);(exact zW);(exact val_one (Val.mk (1) (E) (0) (⟨#[]⟩) (0) [] [] []) none 0 none 0 none 0))
 obtain ⟨⟨k0,k1,k2,k3,k4,k5,k6,k7⟩,hfin⟩:=init_end (w:=w) (1) (E) (0) (⟨#[]⟩) (0) (by decide) (in_there HI.out _) (in_below HI.out _)
 have HF:=zh hfin.out;clear hfin;exact bodyPost_ret (v := .tuple #[.agg #[.int .i64 (1),.bool (E),.int .i64 (0),.string (⟨#[]⟩),.int .i64 (0),.slice none 0 0,.slice none 0 0,.slice none 0 0],.bool true]) (by simp[results,Tryz.results63,go_sem,k0,k1,k2,k3,k4,k5,k6,k7]) rfl ⟨Val.mk (1) (E) (0) (⟨#[]⟩) (0) [] [] [],true,rfl,HF.out.1,(fun h=>by cases h),HF.out.2⟩
theorem initial_8n (d:List NodeD) (t code:Nat) (A:zo) (c:Nat) (w:World) (hd:NodesR w A d) (ht:t<d.length) (_:code<256) (hk:kindN d t=8) (hky:keyD d 0<0) :
  Calls Tryz.prog 63 #[draftV A d.length c,.int .i64 t,.int .u8 code] w (InitPost w):=by
 have hn:=hd.1.lt (by omega)
 obtain ⟨b,o,A',c',rfl,hr,c0,c1,c2,c3,c4⟩:=hd.at5 ht;generalize d.getD t node0=x at *;have HI:=zh (InSt.new (c:=c) hd x A' c');have HR:=zh hr;have HK:=zh hk;have h1:(0:Int)≤(t:Int):=by omega
 have h2:(t:Int)<(d.length:Int):=by omega
 have hz:=zL c0;simp only at hz;clear hd hr hk
 go_enter Tryz.func63,Tryz.ntmps63
 go_wp2_with fail
 refine (kind_any d t _ c _ HI.out.db.nodes ht).mono ?_;rintro e w2 ⟨rfl,hb2⟩;rw[HK.out];replace HI:=zh (HI.out.below hb2);clear hb2 c0 c1 c2 c3 c4 hz;have HKY:=zh hky;clear hky;have HV:=zh (InVt.new HI.out 8);have hsz:w.heap.size<w2.heap.size:=by have:=(zg.1 HI.out.rb).1;omega
 have HDC:=zh HI.out.db.cell;have hdc:=HDC.out;go_wp2_with fail;refine (key_any d 0 _ c _ HV.out.st.db.nodes (by omega)).mono ?_
 rintro e w3 ⟨rfl,hb3⟩;replace HV:=zh (HV.out.below hb3);obtain ⟨⟨_,hfz,_⟩,_⟩:=inv_hold HV.out;have hvc:=inv_cells HV.out 0 (.int .i64 7);obtain ⟨e0,e1,e2,e3,e4,e5,e6,e7⟩:=vb_cells HV.out;have hq:decide (keyD d 0<0)=true:=decide_eq_true (by have:=HKY.out;omega)
 clear hb3 hdc;go_wp2_with (refine wpList_store_mid rfl 28 (.tmp 6) (.tmp 80) rfl (w.heap.size+1) 0 #[.int .i64 (7),.bool (false),.int .i64 (0),.string (⟨#[]⟩),.int .i64 (0),.slice none 0 0,.slice none 0 0,.slice none 0 0] (by rfl) (by rfl) ?_ ?_ ?_ ?_;(exact HV.out.there 0 (.int .i64 7));(exact zW);(exact val_one (Val.mk (7) (false) (0) (⟨#[]⟩) (0) [] [] []) none 0 none 0 none 0))
 obtain ⟨⟨k0,k1,k2,k3,k4,k5,k6,k7⟩,hfin⟩:=init_end (w:=w) (7) (false) (0) (⟨#[]⟩) (0) (by decide) (HV.out.there 0 (.int .i64 7)) (HV.out.bel 0 (.int .i64 7))
 have HF:=zh hfin.out;clear hfin;exact bodyPost_ret (v := .tuple #[.agg #[.int .i64 (7),.bool (false),.int .i64 (0),.string (⟨#[]⟩),.int .i64 (0),.slice none 0 0,.slice none 0 0,.slice none 0 0],.bool true]) (by simp[results,Tryz.results63,go_sem,k0,k1,k2,k3,k4,k5,k6,k7]) rfl ⟨Val.mk (7) (false) (0) (⟨#[]⟩) (0) [] [] [],true,rfl,HF.out.1,(fun h=>by cases h),HF.out.2⟩
theorem initial_8y (d:List NodeD) (t code:Nat) (A:zo) (c:Nat) (w:World) (hd:NodesR w A d) (ht:t<d.length) (_:code<256) (hk:kindN d t=8) (hky:¬ keyD d 0<0) :
  Calls Tryz.prog 63 #[draftV A d.length c,.int .i64 t,.int .u8 code] w (InitPost w):=by
 have hn:=hd.1.lt (by omega)
 obtain ⟨b,o,A',c',rfl,hr,c0,c1,c2,c3,c4⟩:=hd.at5 ht;generalize d.getD t node0=x at *;have HI:=zh (InSt.new (c:=c) hd x A' c');have HR:=zh hr;have HK:=zh hk;have h1:(0:Int)≤(t:Int):=by omega
 have h2:(t:Int)<(d.length:Int):=by omega
 have hz:=zL c0;simp only at hz;clear hd hr hk
 go_enter Tryz.func63,Tryz.ntmps63
 go_wp2_with fail
 refine (kind_any d t _ c _ HI.out.db.nodes ht).mono ?_;rintro e w2 ⟨rfl,hb2⟩;rw[HK.out];replace HI:=zh (HI.out.below hb2);clear hb2 c0 c1 c2 c3 c4 hz;have HKY:=zh hky;clear hky;have HV:=zh (InVt.new HI.out 8);have hsz:w.heap.size<w2.heap.size:=by have:=(zg.1 HI.out.rb).1;omega
 have HDC:=zh HI.out.db.cell;have hdc:=HDC.out;go_wp2_with fail;refine (key_any d 0 _ c _ HV.out.st.db.nodes (by omega)).mono ?_
 rintro e w3 ⟨rfl,hb3⟩;replace HV:=zh (HV.out.below hb3);obtain ⟨⟨_,hfz,_⟩,_⟩:=inv_hold HV.out;have hvc:=inv_cells HV.out 0 (.int .i64 7);obtain ⟨e0,e1,e2,e3,e4,e5,e6,e7⟩:=vb_cells HV.out;have hq:decide (keyD d 0<0)=false:=decide_eq_false (by have:=HKY.out;omega)
 clear hb3 hdc;go_wp2_with (refine wpList_store_mid rfl 28 (.tmp 6) (.tmp 80) rfl (w.heap.size+1) 0 #[.int .i64 (8),.bool (false),.int .i64 (0),.string (⟨#[]⟩),.int .i64 (0),.slice none 0 0,.slice none 0 0,.slice none 0 0] (by rfl) (by rfl) ?_ ?_ ?_ ?_;(exact there_box HV.out.st.rb);(exact zW);(exact val_one (Val.mk (8) (false) (0) (⟨#[]⟩) (0) [] [] []) none 0 none 0 none 0))
 obtain ⟨⟨k0,k1,k2,k3,k4,k5,k6,k7⟩,hfin⟩:=init_end (w:=w) (8) (false) (0) (⟨#[]⟩) (0) (by decide) (there_box HV.out.st.rb) (HV.out.st.db.below)
 have HF:=zh hfin.out;clear hfin;exact bodyPost_ret (v := .tuple #[.agg #[.int .i64 (8),.bool (false),.int .i64 (0),.string (⟨#[]⟩),.int .i64 (0),.slice none 0 0,.slice none 0 0,.slice none 0 0],.bool true]) (by simp[results,Tryz.results63,go_sem,k0,k1,k2,k3,k4,k5,k6,k7]) rfl ⟨Val.mk (8) (false) (0) (⟨#[]⟩) (0) [] [] [],true,rfl,HF.out.1,(fun h=>by cases h),HF.out.2⟩
theorem initial_3 (d:List NodeD) (t code:Nat) (A:zo) (c:Nat) (w:World) (hd:NodesR w A d) (ht:t<d.length) (_:code<256) (hk:kindN d t=3) :
  Calls Tryz.prog 63 #[draftV A d.length c,.int .i64 t,.int .u8 code] w (InitPost w):=by
 have hn:=hd.1.lt (by omega)
 obtain ⟨b,o,A',c',rfl,hr,c0,c1,c2,c3,c4⟩:=hd.at5 ht;generalize d.getD t node0=x at *;have HI:=zh (InSt.new (c:=c) hd x A' c');have HR:=zh hr;have HK:=zh hk;have h1:(0:Int)≤(t:Int):=by omega
 have h2:(t:Int)<(d.length:Int):=by omega
 have hz:=zL c0;simp only at hz;clear hd hr hk
 go_enter Tryz.func63,Tryz.ntmps63
 go_wp2_with fail
 refine (kind_any d t _ c _ HI.out.db.nodes ht).mono ?_;rintro e w2 ⟨rfl,hb2⟩;rw[HK.out];replace HI:=zh (HI.out.below hb2);clear hb2 c0 c1 c2 c3 c4 hz;have hn1:w2.cell? ⟨w.heap.size+1+1,1,none⟩=some (.int .u8 x.a):=HI.out.nb.cell 1;have hzz:=HI.out.nb.blt;obtain ⟨E1,hE1⟩:∃E,decide ((0:Int)<((x.a:Int) % 4))=E:=⟨_,rfl⟩;obtain ⟨E2,hE2⟩:∃E,((code:Int) % 2==1)=E:=⟨_,rfl⟩
 cases E1 with
 | false =>
  go_wp2_with (refine wpList_store_mid rfl 28 (.tmp 6) (.tmp 80) rfl (w.heap.size+1) 0 #[.int .i64 (3),.bool (false),.int .i64 (0),.string (⟨#[]⟩),.int .i64 (0),.slice none 0 0,.slice none 0 0,.slice none 0 0] (by rfl) (by rfl) ?_ ?_ ?_ ?_;(exact in_there HI.out _);(exact zW);(exact val_one (Val.mk (3) (false) (0) (⟨#[]⟩) (0) [] [] []) none 0 none 0 none 0))
  obtain ⟨⟨k0,k1,k2,k3,k4,k5,k6,k7⟩,hfin⟩:=init_end (w:=w) (3) (false) (0) (⟨#[]⟩) (0) (by decide) (in_there HI.out _) (in_below HI.out _)
  have HF:=zh hfin.out;clear hfin;exact bodyPost_ret (v := .tuple #[.agg #[.int .i64 (3),.bool (false),.int .i64 (0),.string (⟨#[]⟩),.int .i64 (0),.slice none 0 0,.slice none 0 0,.slice none 0 0],.bool true]) (by simp[results,Tryz.results63,go_sem,k0,k1,k2,k3,k4,k5,k6,k7]) rfl ⟨Val.mk (3) (false) (0) (⟨#[]⟩) (0) [] [] [],true,rfl,HF.out.1,(fun h=>by cases h),HF.out.2⟩
 | true =>
  cases E2 with
  | false =>
   go_wp2_with (refine wpList_store_mid rfl 28 (.tmp 6) (.tmp 80) rfl (w.heap.size+1) 0 #[.int .i64 (3),.bool (false),.int .i64 (0),.string (⟨#[]⟩),.int .i64 (0),.slice none 0 0,.slice none 0 0,.slice none 0 0] (by rfl) (by rfl) ?_ ?_ ?_ ?_;(exact in_there HI.out _);(exact zW);(exact val_one (Val.mk (3) (false) (0) (⟨#[]⟩) (0) [] [] []) none 0 none 0 none 0))
   obtain ⟨⟨k0,k1,k2,k3,k4,k5,k6,k7⟩,hfin⟩:=init_end (w:=w) (3) (false) (0) (⟨#[]⟩) (0) (by decide) (in_there HI.out _) (in_below HI.out _)
   have HF:=zh hfin.out;clear hfin;exact bodyPost_ret (v := .tuple #[.agg #[.int .i64 (3),.bool (false),.int .i64 (0),.string (⟨#[]⟩),.int .i64 (0),.slice none 0 0,.slice none 0 0,.slice none 0 0],.bool true]) (by simp[results,Tryz.results63,go_sem,k0,k1,k2,k3,k4,k5,k6,k7]) rfl ⟨Val.mk (3) (false) (0) (⟨#[]⟩) (0) [] [] [],true,rfl,HF.out.1,(fun h=>by cases h),HF.out.2⟩
  | true =>
   go_wp2_with (refine wpList_store_mid rfl 28 (.tmp 6) (.tmp 80) rfl (w.heap.size+1) 0 #[.int .i64 (3),.bool (false),.int .i64 (0),.string (⟨#[97]⟩),.int .i64 (0),.slice none 0 0,.slice none 0 0,.slice none 0 0] (by rfl) (by rfl) ?_ ?_ ?_ ?_;(exact in_there HI.out _);(exact zW);(exact val_one (Val.mk (3) (false) (0) (⟨#[97]⟩) (0) [] [] []) none 0 none 0 none 0))
   obtain ⟨⟨k0,k1,k2,k3,k4,k5,k6,k7⟩,hfin⟩:=init_end (w:=w) (3) (false) (0) (⟨#[97]⟩) (0) (by decide) (in_there HI.out _) (in_below HI.out _)
   have HF:=zh hfin.out;clear hfin;exact bodyPost_ret (v := .tuple #[.agg #[.int .i64 (3),.bool (false),.int .i64 (0),.string (⟨#[97]⟩),.int .i64 (0),.slice none 0 0,.slice none 0 0,.slice none 0 0],.bool true]) (by simp[results,Tryz.results63,go_sem,k0,k1,k2,k3,k4,k5,k6,k7]) rfl ⟨Val.mk (3) (false) (0) (⟨#[97]⟩) (0) [] [] [],true,rfl,HF.out.1,(fun h=>by cases h),HF.out.2⟩
theorem initial_2 (d:List NodeD) (t code:Nat) (A:zo) (c:Nat) (w:World) (hd:NodesR w A d) (ht:t<d.length) (_:code<256) (hk:kindN d t=2) :
  Calls Tryz.prog 63 #[draftV A d.length c,.int .i64 t,.int .u8 code] w (InitPost w):=by
 have hn:=hd.1.lt (by omega)
 obtain ⟨b,o,A',c',rfl,hr,c0,c1,c2,c3,c4⟩:=hd.at5 ht;generalize d.getD t node0=x at *;have HI:=zh (InSt.new (c:=c) hd x A' c');have HR:=zh hr;have HK:=zh hk;have h1:(0:Int)≤(t:Int):=by omega
 have h2:(t:Int)<(d.length:Int):=by omega
 have hz:=zL c0;simp only at hz;clear hd hr hk
 go_enter Tryz.func63,Tryz.ntmps63
 go_wp2_with fail
 refine (kind_any d t _ c _ HI.out.db.nodes ht).mono ?_;rintro e w2 ⟨rfl,hb2⟩;rw[HK.out];replace HI:=zh (HI.out.below hb2);clear hb2 c0 c1 c2 c3 c4 hz;have HV:=zh (InVt.new HI.out 2);have HXA:=zh HR.out.a;go_wp2_with fail;generalize w2.alloc (.cells #[.int .i64 2,.bool false,.int .i64 0,.string ⟨#[]⟩,.int .i64 0,.slice none 0 0,.slice none 0 0,.slice none 0 0] 28)=W3 at *;have hhl:=high_low x
 have hnz:¬ ((x.b:Int) % 6+1=0):=by omega
 refine yE (S:=(fun w'=>((w'.cell? ⟨w.heap.size+1+1,0,none⟩=some (.int .u8 x.kind)∧w'.cell? ⟨w.heap.size+1+1,1,none⟩=some (.int .u8 x.a)∧w'.cell? ⟨w.heap.size+1+1,2,none⟩=some (.int .u8 x.b)∧w'.cell? ⟨w.heap.size+1+1,3,none⟩=some (.int .u8 x.c)∧w'.cell? ⟨w.heap.size+1+1,4,none⟩=some (.slice A' x.parts.length c'))∧(∀j,w'.frozen? ⟨w2.heap.size,j,none⟩=false)∧w'.cell? ⟨w2.heap.size,2,none⟩=some (.int .i64 0)∧w'.cell? ⟨w2.heap.size,4,none⟩=some (.int .i64 0))∧Hid (InVt w w' (some ⟨b,o,none⟩) d c x A' c' w2.heap.size 2))) 13 (by kernel_rfl) ?_ (fun zH_=>?_)
 ·(try dsimp only);exact inv_hold (HV.out.below (zC (Below.refl _ _) 1))
 refine tB 0 ?_;refine tC 2 ?_;refine tC 3 ?_;refine tB 4 ?_;refine tB 6 ?_;refine tS 1 (fun K hK=>?_)
 go_simp
 (refine (low_any x A' c' _ HXA.out).mono ?_;rintro e w3 ⟨rfl,hbx⟩)
 refine hK.out _ _ ?_ (fun zH_=>?_)
 ·(try dsimp only);exact inv_hold (zH_.2.out.below hbx)
 clear hK K;try simp only[ps]
 refine tS 5 (fun K hK=>?_)
 go_simp
 (refine (high_any x A' c' _ HXA.out).mono ?_;rintro e w4 ⟨rfl,hbx⟩)
 refine hK.out _ _ ?_ (fun zH_=>?_)
 ·(try dsimp only);exact inv_hold (zH_.2.out.below hbx)
 clear hK K;refine tS 7 (fun K hK=>?_)
 go_simp
 (refine (low_any x A' c' _ HXA.out).mono ?_;rintro e w5 ⟨rfl,hbx⟩)
 refine hK.out _ _ ?_ (fun zH_=>?_)
 ·(try dsimp only);exact inv_hold (zH_.2.out.below hbx)
 clear hK K;refine tC 8 ?_;refine tC 9 ?_;refine tC 10 ?_;refine tC 11 ?_;try simp only[ps]
 refine tC 12 ?_;refine zV (rs:=[13]) (by kernel_rfl) (by simp) ?_
 refine AllReadyB.last rfl (by kernel_rfl) (fun K hK=>?_) AllReadyB.nil
 (obtain ⟨⟨_,hfz,hcx,_⟩,hin⟩:=zH_;go_simp)
 refine hK.out _ _ ?_;clear hK K
 (try clear zH_)
 refine wpAny_done (by kernel_rfl) ?_ _
 generalize IntKind.i64.wrap (lowN x+(IntKind.i64.wrap (code:Int)).tmod ((x.b:Int) % 6+1))=z;have HTH:=zh (hin.out.there 2 (.int .i64 z));have HBL:=zh (hin.out.bel 2 (.int .i64 z));obtain ⟨e0,e1,e2,e3,e4,e5,e6,e7⟩:=vb_cells2 hin.out z;have hvb:=(zg.1 hin.out.vbx).1;replace hvb:w2.heap.size<(w5.setCell ⟨w2.heap.size,2,none⟩ (.int .i64 z)).heap.size:=by simpa using hvb
 clear hin hfz hcx;generalize w5.setCell ⟨w2.heap.size,2,none⟩ (.int .i64 z)=W7 at *
 go_wp2_with (refine wpList_store_mid rfl 28 (.tmp 6) (.tmp 80) rfl (w.heap.size+1) 0 #[.int .i64 (2),.bool (false),.int .i64 (z),.string (⟨#[]⟩),.int .i64 (0),.slice none 0 0,.slice none 0 0,.slice none 0 0] (by rfl) (by rfl) ?_ ?_ ?_ ?_;(exact HTH.out);(exact zW);(exact val_one (Val.mk (2) (false) (z) (⟨#[]⟩) (0) [] [] []) none 0 none 0 none 0))
 obtain ⟨⟨k0,k1,k2,k3,k4,k5,k6,k7⟩,hfin⟩:=init_end (w:=w) (2) (false) (z) (⟨#[]⟩) (0) (by decide) (HTH.out) (HBL.out)
 have HF:=zh hfin.out;clear hfin;exact bodyPost_ret (v := .tuple #[.agg #[.int .i64 (2),.bool (false),.int .i64 (z),.string (⟨#[]⟩),.int .i64 (0),.slice none 0 0,.slice none 0 0,.slice none 0 0],.bool true]) (by simp[results,Tryz.results63,go_sem,k0,k1,k2,k3,k4,k5,k6,k7]) rfl ⟨Val.mk (2) (false) (z) (⟨#[]⟩) (0) [] [] [],true,rfl,HF.out.1,(fun h=>by cases h),HF.out.2⟩
theorem initial_4 (d:List NodeD) (t code:Nat) (A:zo) (c:Nat) (w:World) (hd:NodesR w A d) (ht:t<d.length) (_:code<256) (hk:kindN d t=4) :
  Calls Tryz.prog 63 #[draftV A d.length c,.int .i64 t,.int .u8 code] w (InitPost w):=by
 have hn:=hd.1.lt (by omega)
 obtain ⟨b,o,A',c',rfl,hr,c0,c1,c2,c3,c4⟩:=hd.at5 ht;generalize d.getD t node0=x at *;have HI:=zh (InSt.new (c:=c) hd x A' c');have HR:=zh hr;have HK:=zh hk;have h1:(0:Int)≤(t:Int):=by omega
 have h2:(t:Int)<(d.length:Int):=by omega
 have hz:=zL c0;simp only at hz;clear hd hr hk
 go_enter Tryz.func63,Tryz.ntmps63
 go_wp2_with fail
 refine (kind_any d t _ c _ HI.out.db.nodes ht).mono ?_;rintro e w2 ⟨rfl,hb2⟩;rw[HK.out];replace HI:=zh (HI.out.below hb2);clear hb2 c0 c1 c2 c3 c4 hz;have HV:=zh (InVt.new HI.out 4);have HXA:=zh HR.out.a;go_wp2_with fail;generalize w2.alloc (.cells #[.int .i64 4,.bool false,.int .i64 0,.string ⟨#[]⟩,.int .i64 0,.slice none 0 0,.slice none 0 0,.slice none 0 0] 28)=W3 at *;have HLN:=zh (idsN_ok x)
 have HLE:Hid ((idsN x).length≤6):=by have:=asc_len (idsN x) 0 6 HLN.out.1 HLN.out.2.1 (by omega);show _≤_;omega
 have hpos:0<(idsN x).length:=List.length_pos_iff.2 HLN.out.2.2;have hnz:¬ (idsN x=[]):=HLN.out.2.2;obtain ⟨q,hq⟩:∃q:Nat,q=code % (idsN x).length:=⟨_,rfl⟩;have hql:q<(idsN x).length:=by rw[hq];exact Nat.mod_lt _ hpos
 have eq:(IntKind.i64.wrap (code:Int)).tmod ((idsN x).length:Int)=(q:Int):=by rw[IntWalk.i64_in _ (by omega),hq];rfl
 clear hq;have hq1:(0:Int)≤(q:Int):=by omega
 have hq2:(q:Int)<((idsN x).length:Int):=by omega
 refine yE (S:=(fun w'=>((w'.cell? ⟨w.heap.size+1+1,0,none⟩=some (.int .u8 x.kind)∧w'.cell? ⟨w.heap.size+1+1,1,none⟩=some (.int .u8 x.a)∧w'.cell? ⟨w.heap.size+1+1,2,none⟩=some (.int .u8 x.b)∧w'.cell? ⟨w.heap.size+1+1,3,none⟩=some (.int .u8 x.c)∧w'.cell? ⟨w.heap.size+1+1,4,none⟩=some (.slice A' x.parts.length c'))∧(∀j,w'.frozen? ⟨w2.heap.size,j,none⟩=false)∧w'.cell? ⟨w2.heap.size,2,none⟩=some (.int .i64 0)∧w'.cell? ⟨w2.heap.size,4,none⟩=some (.int .i64 0))∧Hid (InVt w w' (some ⟨b,o,none⟩) d c x A' c' w2.heap.size 4))) 11 (by kernel_rfl) ?_ (fun zH_=>?_)
 ·(try dsimp only);exact inv_hold (HV.out.below (zC (Below.refl _ _) 1))
 refine tB 0 ?_;refine tC 2 ?_;refine tC 3 ?_;refine tB 4 ?_;refine tS 1 (fun K hK=>?_)
 go_simp
 (refine (rIds_any x A' c' _ HXA.out).mono ?_;rintro e w3 ⟨v3,rfl,ho3,hbx⟩;obtain ⟨A3,c3,rfl,hi3⟩:=OwnI.ints ho3 (by have:=HLE.out;unfold Lim;omega);obtain ⟨b3,o3,rfl,i3⟩:=hi3.at1 hql;clear ho3 hi3)
 refine hK.out _ _ ?_ (fun zH_=>?_)
 ·(try dsimp only);exact inv_hold (zH_.2.out.below hbx)
 clear hK K;refine tS 5 (fun K hK=>?_)
 go_simp
 (refine (rIds_any x A' c' _ HXA.out).mono ?_;rintro e w5 ⟨v4,rfl,ho4,hbx⟩;obtain ⟨A4,c4,rfl,hi4⟩:=OwnI.ints ho4 (by have:=HLE.out;unfold Lim;omega);replace i3:=zA hbx i3;clear ho4 hi4)
 refine hK.out _ _ ?_ (fun zH_=>?_)
 ·(try dsimp only);exact inv_hold (zH_.2.out.below hbx)
 clear hK K;try simp only[ps]
 refine tC 6 ?_;refine tC 7 ?_;refine tC 8 ?_;refine tS 9 (fun K hK=>?_)
 go_simp
 refine hK.out _ _ ?_ (fun zH_=>?_)
 ·(try dsimp only);exact zH_
 clear hK K;refine tC 10 ?_;refine zV (rs:=[11]) (by kernel_rfl) (by simp) ?_
 refine AllReadyB.last rfl (by kernel_rfl) (fun K hK=>?_) AllReadyB.nil
 (obtain ⟨⟨_,hfz,_,hcx⟩,hin⟩:=zH_;go_simp)
 refine hK.out _ _ ?_;clear hK K
 (try clear zH_)
 try simp only[ps]
 refine wpAny_done (by kernel_rfl) ?_ _
 generalize (idsN x)[q]=z;have HTH:=zh (hin.out.there 4 (.int .i64 z));have HBL:=zh (hin.out.bel 4 (.int .i64 z));obtain ⟨e0,e1,e2,e3,e4,e5,e6,e7⟩:=vb_cells4 hin.out z;have hvb:=(zg.1 hin.out.vbx).1;replace hvb:w2.heap.size<(w5.setCell ⟨w2.heap.size,4,none⟩ (.int .i64 z)).heap.size:=by simpa using hvb
 clear hin hfz hcx;generalize w5.setCell ⟨w2.heap.size,4,none⟩ (.int .i64 z)=W7 at *
 go_wp2_with (refine wpList_store_mid rfl 28 (.tmp 6) (.tmp 80) rfl (w.heap.size+1) 0 #[.int .i64 (4),.bool (false),.int .i64 (0),.string (⟨#[]⟩),.int .i64 (z),.slice none 0 0,.slice none 0 0,.slice none 0 0] (by rfl) (by rfl) ?_ ?_ ?_ ?_;(exact HTH.out);(exact zW);(exact val_one (Val.mk (4) (false) (0) (⟨#[]⟩) (z) [] [] []) none 0 none 0 none 0))
 obtain ⟨⟨k0,k1,k2,k3,k4,k5,k6,k7⟩,hfin⟩:=init_end (w:=w) (4) (false) (0) (⟨#[]⟩) (z) (by decide) (HTH.out) (HBL.out)
 have HF:=zh hfin.out;clear hfin;exact bodyPost_ret (v := .tuple #[.agg #[.int .i64 (4),.bool (false),.int .i64 (0),.string (⟨#[]⟩),.int .i64 (z),.slice none 0 0,.slice none 0 0,.slice none 0 0],.bool true]) (by simp[results,Tryz.results63,go_sem,k0,k1,k2,k3,k4,k5,k6,k7]) rfl ⟨Val.mk (4) (false) (0) (⟨#[]⟩) (z) [] [] [],true,rfl,HF.out.1,(fun h=>by cases h),HF.out.2⟩
theorem initial_any (d:List NodeD) (t code:Nat) (A:zo) (c:Nat) (w:World) (hd:NodesR w A d) (ht:t<d.length) (hco:code<256) :
  Calls Tryz.prog 63 #[draftV A d.length c,.int .i64 t,.int .u8 code] w (InitPost w):=by
 have hr:=kindN_range d t;have h:kindN d t=1∨kindN d t=2∨kindN d t=3∨kindN d t=4∨kindN d t=5∨kindN d t=6∨kindN d t=7∨kindN d t=8∨kindN d t=9:=by omega
 rcases h with h|h|h|h|h|h|h|h|h
 ·exact initial_1 d t code A c w hd ht hco h
 ·exact initial_2 d t code A c w hd ht hco h
 ·exact initial_3 d t code A c w hd ht hco h
 ·exact initial_4 d t code A c w hd ht hco h
 ·exact initial_5 d t code A c w hd ht hco h
 ·exact initial_6 d t code A c w hd ht hco h
 ·exact initial_7 d t code A c w hd ht hco h
 ·by_cases hk:keyD d 0<0
  ·exact initial_8n d t code A c w hd ht hco h hk
  ·exact initial_8y d t code A c w hd ht hco h hk
 ·exact initial_9 d t code A c w hd ht hco h
end Go.Proofs.YthkkllmmbefedaaGreatDoor


