/-
  Walks: the example of the document; lists of numbers compared.
-/
import Derived.Test.YtdfolgmcggdjdaaGreatDoorQYF1
import Derived.Test.YtdfolgmcggdjdaaGreatDoorQDM
namespace Go.Proofs.YtdfolgmcggdjdaaGreatDoor
open Go.RowKit
set_option maxHeartbeats 16000000
set_option maxRecDepth 100000
theorem equalInts_any (l m:List Int) (A B:Option Addr) (c d:Nat) (w:World) (hl:IntsR w A l) (hm:IntsR w B m) :
  Calls Tryz.prog 11 #[.slice A l.length c,.slice B m.length d] w (SamePost (decide (l=m)) w):=by
 have hn:=hl.1.lt (by omega)
 by_cases hlen:l.length=m.length
 ·rw[←hlen]
  have hb0:((l.length:Int) != (l.length:Int))=false:=by simp
  have HL:=zh hl
  have HM:=zh hm
  have HE:=zh hlen
  clear hl hm hlen
  go_enter Tryz.func11,Tryz.ntmps11
  go_wp2
  go_loopw [13] (fun i wr=>∃k:Nat,k≤l.length∧i = .int .i64 k∧Hid (l.take k=m.take k)∧Hid (Below w.heap.size w wr)) (fun i _=>l.length - (intOf i).toNat)
  case atStart=>exact ⟨0,by omega,rfl,rfl,Below.refl _ _⟩
  case round =>
   obtain ⟨k,hk,rfl,htk,hbw⟩:=hrel
   by_cases hlt:k<l.length
   ·have hlt':k<m.length:=by have:=HE.out;omega
    obtain ⟨b,o,rfl,c0⟩:=(HL.out.below hbw.out).at1 hlt
    obtain ⟨b',o',rfl,d0⟩:=(HM.out.below hbw.out).at1 hlt'
    have h1:(0:Int)≤(k:Int):=by omega
    have h2:(k:Int)<(l.length:Int):=by omega
    by_cases he:l[k]=m[k]
    ·have heq:(l[k] != m[k])=false:=by simp[he]
     have HQ:=zh (take_eq_of hlt hlt' htk.out he)
     clear he
     go_wp2
     go_quiet (fail)
     go_wp2
     go_roundw
     case rel=>exact ⟨k+1,by omega,by go_num,HQ.out,zE hbw.out _⟩
     case measure=>simp[intOf];omega
    ·have heq:(l[k] != m[k])=true:=by simp[he]
     have HQ:=zh (take_ne_of hlt hlt' he)
     clear he
     go_wp2
     go_quiet (fail)
     go_wp2
     go_ret
     exact ⟨by rw[HQ.out];rfl,zE hbw.out _⟩
   ·have HQ:=zh (take_all hlt HE.out htk.out)
    go_wp2
    go_ret
    exact ⟨by rw[HQ.out];rfl,hbw.out⟩
 ·have hb0:((l.length:Int) != (m.length:Int))=true:=bne_iff_ne.2 (by omega)
  have HQ:=zh (show decide (l=m)=false from decide_eq_false fun e=>hlen (by rw[e]))
  clear hlen
  go_enter Tryz.func11,Tryz.ntmps11
  go_wp2
  go_ret
  exact ⟨by rw[HQ.out];rfl,Below.refl _ _⟩
theorem sok_small {s:ByteArray} (h:s.size≤100):SOk s:=by unfold SOk;omega
theorem mems1_new (w:World) (m:MemD) (h:SOk m.name) (e:m.dflt=zeroV):MemsR (w.alloc (.cells (m.cs none 0 none 0 none 0).toArray 71)) (some ⟨w.heap.size,0,none⟩) [m]:=by
 refine ⟨by simp[Lim],fun _=>⟨_,_,rfl,fun i x hx=>?_⟩⟩
 have hr:=zS w (m.cs none 0 none 0 none 0) 71
 match i,hx with
 | 0,hx =>
  obtain rfl:m=x:=by simpa using hx
  exact ⟨m.cs none 0 none 0 none 0,⟨none,0,none,0,none,0,rfl,h,by rw[e];exact valR_zero _⟩,by simpa using hr⟩
 | n+1,hx=>simp at hx
theorem tys_new (w:World) (L:List TyA) (h:∀x∈L,TyR w x.t x.As x.Am) (hl:L.length≤1000):TysR (w.alloc (.cells (L.flatMap TyA.cells).toArray 50)) (some ⟨w.heap.size,0,none⟩) (L.map (·.t)):=by
 refine ⟨by unfold Lim;rw[List.length_map];omega,fun _=>⟨_,_,rfl,fun i x hx=>?_⟩⟩
 rw[List.getElem?_map] at hx
 cases hL:L[i]? with
 | none=>rw[hL] at hx;cases hx
 | some y =>
  rw[hL] at hx
  obtain rfl:y.t=x:=by simpa using hx
  refine ⟨y.cells,⟨y.As,y.cs,y.Am,y.cm,rfl,(h y (List.mem_of_getElem? hL)).below (zD _ _)⟩,?_⟩
  exact range_flat (enc:=TyA.cells) (k:=10) (fun _=>rfl) (zS w _ _) hL
def SchPost (l:List TyD) (w:World) (e:Ending) (w':World):Prop:=∃A c,e = .returned (.agg #[.slice A l.length c])∧TysR w' A l∧Below w.heap.size w w'
theorem tyR_mems {w:World} {t:TyD} {Am:Option Addr} (hn:SOk t.name) (hs:t.syms=[]) (hm:MemsR w Am t.mems):TyR w t none Am:=⟨hn,by rw[hs];exact RowsR.nil _ _ _ _ _,hm⟩
theorem tyR_none {w:World} {t:TyD} (hn:SOk t.name) (hs:t.syms=[]) (hm:t.mems=[]):TyR w t none none:=⟨hn,by rw[hs];exact RowsR.nil _ _ _ _ _,by rw[hm];exact RowsR.nil _ _ _ _ _⟩
theorem example_any (w:World):Calls Tryz.prog 28 #[] w (SchPost exS w):=by
 have HT:Hid (TysR (((w.alloc (.cells #[.slice (some ⟨w.heap.size+1+1,0,none⟩) 3 3] 27)).alloc (.cells (exM1.cs none 0 none 0 none 0).toArray 71)).alloc (.cells (([⟨{ zeroT with kind:=7,max:=3,elem:=1 },none,0,none,0⟩,⟨{ zeroT with kind:=5,name:=⟨#[80]⟩,mems:=[exM1] },none,0,some ⟨w.heap.size+1,0,none⟩,1⟩,⟨{ zeroT with kind:=2,high:=9 },none,0,none,0⟩]:List TyA).flatMap TyA.cells).toArray 50)) (some ⟨w.heap.size+1+1,0,none⟩) exS):=by
  have HM:=mems1_new (w.alloc (.cells #[.slice (some ⟨w.heap.size+1+1,0,none⟩) 3 3] 27)) exM1 (sok_small (by decide)) rfl
  have hz:(w.alloc (.cells #[.slice (some ⟨w.heap.size+1+1,0,none⟩) 3 3] 27)).heap.size=w.heap.size+1:=by simp
  rw[hz] at HM
  have HT0:=tys_new ((w.alloc (.cells #[.slice (some ⟨w.heap.size+1+1,0,none⟩) 3 3] 27)).alloc (.cells (exM1.cs none 0 none 0 none 0).toArray 71)) ([⟨{ zeroT with kind:=7,max:=3,elem:=1 },none,0,none,0⟩,⟨{ zeroT with kind:=5,name:=⟨#[80]⟩,mems:=[exM1] },none,0,some ⟨w.heap.size+1,0,none⟩,1⟩,⟨{ zeroT with kind:=2,high:=9 },none,0,none,0⟩]:List TyA)
  have hz2:((w.alloc (.cells #[.slice (some ⟨w.heap.size+1+1,0,none⟩) 3 3] 27)).alloc (.cells (exM1.cs none 0 none 0 none 0).toArray 71)).heap.size=w.heap.size+1+1:=by simp
  rw[hz2] at HT0
  refine HT0 (fun x hx=>?_) (by simp)
  simp only[List.mem_cons,List.mem_nil_iff,or_false] at hx
  rcases hx with rfl|rfl|rfl
  ·exact tyR_none sok_empty rfl rfl
  ·exact tyR_mems (sok_small (show (⟨#[80]⟩:ByteArray).size≤100 by decide)) rfl HM
  ·exact tyR_none sok_empty rfl rfl
 have HB:=zh (zA (zA (zD w (.cells #[.slice (some ⟨w.heap.size+1+1,0,none⟩) 3 3] 27)) (zD _ (.cells (exM1.cs none 0 none 0 none 0).toArray 71))) (zD _ (.cells (([⟨{ zeroT with kind:=7,max:=3,elem:=1 },none,0,none,0⟩,⟨{ zeroT with kind:=5,name:=⟨#[80]⟩,mems:=[exM1] },none,0,some ⟨w.heap.size+1,0,none⟩,1⟩,⟨{ zeroT with kind:=2,high:=9 },none,0,none,0⟩]:List TyA).flatMap TyA.cells).toArray 50)))
 have HC:Hid ((((w.alloc (.cells #[.slice (some ⟨w.heap.size+1+1,0,none⟩) 3 3] 27)).alloc (.cells (exM1.cs none 0 none 0 none 0).toArray 71)).alloc (.cells (([⟨{ zeroT with kind:=7,max:=3,elem:=1 },none,0,none,0⟩,⟨{ zeroT with kind:=5,name:=⟨#[80]⟩,mems:=[exM1] },none,0,some ⟨w.heap.size+1,0,none⟩,1⟩,⟨{ zeroT with kind:=2,high:=9 },none,0,none,0⟩]:List TyA).flatMap TyA.cells).toArray 50)).cell? ⟨w.heap.size,0,none⟩=some (.slice (some ⟨w.heap.size+1+1,0,none⟩) 3 3)):=by
  show _=_
  rw[cell_of_row _ _ _ _ _ _ (yE (yE (heap_alloc_new w _) (zD _ _)) (zD _ _))];rfl
 go_enter Tryz.func28,Tryz.ntmps28
 go_wp2
 have hcf:=HC.out
 exact bodyPost_ret (v := .agg #[.slice (some ⟨w.heap.size+1+1,0,none⟩) 3 3]) (by
  simp only[results,Tryz.results28];go_simp) rfl ⟨some ⟨w.heap.size+1+1,0,none⟩,3,rfl,HT.out,HB.out⟩
end Go.Proofs.YtdfolgmcggdjdaaGreatDoor


