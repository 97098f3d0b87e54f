/-
  Walks: the chapter's examples.
-/
import Derived.Test.YthkkllmmbefedaaGreatDoorQGA7
import Derived.Test.YthkkllmmbefedaaGreatDoorQPWL
import Derived.Test.YthkkllmmbefedaaGreatDoorQNRM
import Derived.Test.YthkkllmmbefedaaGreatDoorQLWL
import Derived.Test.YthkkllmmbefedaaGreatDoorQGA10
import Derived.Deep.CutBlock
namespace Go.Proofs.YthkkllmmbefedaaGreatDoor
open Go.RowKit
set_option maxHeartbeats 16000000
set_option maxRecDepth 100000
theorem RS {α:Type} {k bytes:Nat} {at_:α->List Value->Prop} (w:World) (T:TypeId) (x y:α) {cx cy:List Value} (hx:at_ x cx) (hy:at_ y cy) (lx:cx.length=k) (hl:D9 bytes 2) :
  Ae k bytes at_ (w.alloc (.cells (cx++cy).toArray T)) (some ⟨w.heap.size,0,none⟩) [x,y]:=by
 refine ⟨hl,fun _=>⟨_,_,rfl,fun i z hz=>?_⟩⟩
 have hr:=zR w (cx++cy) T
 match i,hz with
 | 0,hz =>
  obtain rfl:x=z:=by simpa using hz
  refine ⟨cx,hx,fun j u hj=>?_⟩
  have:=hr j u (by rw[AA8 (AAZ.1 hj).1];exact hj)
  simpa using this
 | 1,hz =>
  obtain rfl:y=z:=by simpa using hz
  refine ⟨cy,hy,fun j u hj=>?_⟩
  have:=hr (k+j) u (by rw[AAw (by omega),lx];rw[show k+j - k=j by omega];exact hj)
  simpa using this
 | n+2,hz=>simp at hz
theorem kF {α:Type} {k bytes:Nat} {at_:α->List Value->Prop} (w:World) (T:TypeId) (x:α) {cx:List Value} (hx:at_ x cx) (hl:D9 bytes 1) :
  Ae k bytes at_ (w.alloc (.cells cx.toArray T)) (some ⟨w.heap.size,0,none⟩) [x]:=by
 refine ⟨hl,fun _=>⟨_,_,rfl,fun i z hz=>?_⟩⟩
 have hr:=zR w cx T
 match i,hz with
 | 0,hz =>
  obtain rfl:x=z:=by simpa using hz
  exact ⟨cx,hx,by simpa using hr⟩
 | n+1,hz=>simp at hz
theorem NW (w:World) {m:AY} (h:Dc m.name) (e:m.dflt=zeroV):m.At w (m.cs none 0 none 0 none 0) :=
 ⟨none,0,none,0,none,0,rfl,h,by rw[e];exact Yk _⟩
theorem Ej (w:World):Calls Tryz.prog 41 #[] w (lX G5 w):=by
 obtain ⟨O0,hO0⟩:∃O0:Obj,O0 = .cells #[.slice (some ⟨w.heap.size+1+1,0,none⟩) 3 3] 31:=⟨_,rfl⟩
 have HT:Hid (DV (((w.alloc (.cells #[.slice (some ⟨w.heap.size+1+1,0,none⟩) 3 3] 31)).alloc (.cells (iH.cs none 0 none 0 none 0++iG.cs none 0 none 0 none 0).toArray 118)).alloc (.cells (([⟨ZF,none,0,some ⟨w.heap.size+1,0,none⟩,2⟩,⟨dH,none,0,none,0⟩,⟨dG,none,0,none,0⟩]:List LK).flatMap LK.cells).toArray 87)) (some ⟨w.heap.size+1+1,0,none⟩) G5):=by
  have HM:Fv ((w.alloc (.cells #[.slice (some ⟨w.heap.size+1+1,0,none⟩) 3 3] 31)).alloc (.cells (iH.cs none 0 none 0 none 0++iG.cs none 0 none 0 none 0).toArray 118)) (some ⟨w.heap.size+1,0,none⟩) [iH,iG]:=by
   have h:=RS (bytes:=160) (w.alloc (.cells #[.slice (some ⟨w.heap.size+1+1,0,none⟩) 3 3] 31)) 118 iH iG (at_:=fun x cs=>AY.At ((w.alloc (.cells #[.slice (some ⟨w.heap.size+1+1,0,none⟩) 3 3] 31)).alloc (.cells (iH.cs none 0 none 0 none 0++iG.cs none 0 none 0 none 0).toArray 118)) x cs) (k:=13) (NW _ (J9 (by decide)) rfl) (NW _ (J9 (by decide)) rfl) rfl (by unfold D9;decide)
   rwa [show (w.alloc (.cells #[.slice (some ⟨w.heap.size+1+1,0,none⟩) 3 3] 31)).heap.size=w.heap.size+1 by simp] at h
  have HT0:=iq ((w.alloc (.cells #[.slice (some ⟨w.heap.size+1+1,0,none⟩) 3 3] 31)).alloc (.cells (iH.cs none 0 none 0 none 0++iG.cs none 0 none 0 none 0).toArray 118)) ([⟨ZF,none,0,some ⟨w.heap.size+1,0,none⟩,2⟩,⟨dH,none,0,none,0⟩,⟨dG,none,0,none,0⟩]:List LK)
  have hz2:((w.alloc (.cells #[.slice (some ⟨w.heap.size+1+1,0,none⟩) 3 3] 31)).alloc (.cells (iH.cs none 0 none 0 none 0++iG.cs none 0 none 0 none 0).toArray 118)).heap.size=w.heap.size+1+1:=by simp
  rw[hz2] at HT0;refine HT0 (fun x hx=>?_) (by simp)
  simp only[AAf,List.mem_nil_iff,or_false] at hx
  rcases hx with rfl|rfl|rfl
  ·exact OW (J9 (show ZF.name.size<=100 by decide)) rfl HM
  ·exact Dw H8 rfl rfl
  ·exact Dw H8 rfl rfl
 have HB:=zh (zB (zB (zD w (.cells #[.slice (some ⟨w.heap.size+1+1,0,none⟩) 3 3] 31)) (zD _ (.cells (iH.cs none 0 none 0 none 0++iG.cs none 0 none 0 none 0).toArray 118))) (zD _ (.cells (([⟨ZF,none,0,some ⟨w.heap.size+1,0,none⟩,2⟩,⟨dH,none,0,none,0⟩,⟨dG,none,0,none,0⟩]:List LK).flatMap LK.cells).toArray 87)))
 have HC:Hid ((((w.alloc (.cells #[.slice (some ⟨w.heap.size+1+1,0,none⟩) 3 3] 31)).alloc (.cells (iH.cs none 0 none 0 none 0++iG.cs none 0 none 0 none 0).toArray 118)).alloc (.cells (([⟨ZF,none,0,some ⟨w.heap.size+1,0,none⟩,2⟩,⟨dH,none,0,none,0⟩,⟨dG,none,0,none,0⟩]:List LK).flatMap LK.cells).toArray 87)).cell? ⟨w.heap.size,0,none⟩=some (.slice (some ⟨w.heap.size+1+1,0,none⟩) 3 3)):=by
  show _=_
  rw[AAB _ _ _ _ _ _ (zE (zE (AAA w _) (zD _ _)) (zD _ _))];rfl
 clear hO0 O0
 go_enter Tryz.func41,Tryz.ntmps41
 go_wp2
 have hcf:=HC.out;exact bodyPost_ret (v := .agg #[.slice (some ⟨w.heap.size+1+1,0,none⟩) 3 3]) (by
  simp only[results,Tryz.results41];go_simp) rfl ⟨some ⟨w.heap.size+1+1,0,none⟩,3,rfl,HT.out,HB.out⟩
end Go.Proofs.YthkkllmmbefedaaGreatDoor



