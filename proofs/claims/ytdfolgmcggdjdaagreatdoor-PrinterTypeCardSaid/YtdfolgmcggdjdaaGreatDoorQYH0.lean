/-
  Walks: the law PrinterType.
-/
import Derived.Test.YtdfolgmcggdjdaaGreatDoorQYG0
namespace Go.Proofs.YtdfolgmcggdjdaaGreatDoor
open Go.RowKit
set_option maxHeartbeats 16000000
set_option maxRecDepth 100000
theorem lawType_any (s:List TyD) (t:Int) (A:Option Addr) (c:Nat) (w:World) (hs:TysR w A s) (hn:Num64 s) (htab:Tab w) :
  Calls Tryz.prog 5 #[.agg #[.slice A s.length c],.int .i64 t] w (SamePost true w):=by
 have HS:=zh hs
 have HN:=zh hn
 have HTB:=zh htab
 have HB0:=zh (zD w (.cells #[.slice A s.length c] 27))
 have HX0:=zh (heap_alloc_new w (.cells #[.slice A s.length c] 27))
 clear hs hn htab
 go_enter Tryz.func5,Tryz.ntmps5
 go_wp2_with fail
 generalize w.alloc (.cells #[.slice A s.length c] 27)=W1 at *
 refine (awake_any W1 (HTB.out.below HB0.out)).mono ?_
 rintro e w1 ⟨rfl,hb1⟩
 have HB1:=zh (zA HB0.out hb1)
 have HX1:=zh (yE HX0.out hb1)
 have x0:w1.cell? ⟨w.heap.size,0,none⟩=some (.slice A s.length c):=by rw[cell_of_row _ _ _ _ _ _ HX1.out];rfl
 clear hb1
 go_wp2_with fail
 refine (few07_any s A c w1 (HS.out.below HB1.out)).mono ?_
 rintro e w2 ⟨v2,rfl,hb2⟩
 have HB2:=zh (zA HB1.out hb2)
 have HX2:=zh (yE HX1.out hb2)
 clear hb2 x0
 cases v2 with
 | false =>
  go_wp2_with fail
  refine (awake_any w2 (HTB.out.below HB2.out)).mono ?_
  rintro e w3 ⟨rfl,hb3⟩
  have HB3:=zh (zA HB2.out hb3)
  clear hb3
  go_wp2
  go_ret
  exact ⟨rfl,HB3.out⟩
 | true =>
  have x0:w2.cell? ⟨w.heap.size,0,none⟩=some (.slice A s.length c):=by rw[cell_of_row _ _ _ _ _ _ HX2.out];rfl
  go_wp2_with fail
  refine (type_any s t A c HN.out w2 (HS.out.below HB2.out) (HTB.out.below HB2.out)).mono ?_
  rintro e w3 ⟨x3,e3,rfl,h3,hb3⟩
  have HB3:=zh (zA HB2.out hb3)
  have HX3:=zh (yE HX2.out hb3)
  have H3:=zh h3
  have x1:w3.cell? ⟨w.heap.size,0,none⟩=some (.slice A s.length c):=by rw[cell_of_row _ _ _ _ _ _ HX3.out];rfl
  clear hb3 x0 h3
  go_wp2_with fail
  refine (rType_any s t A c HN.out w3 (HS.out.below HB3.out)).mono ?_
  rintro e w4 ⟨x4,e4,rfl,h4,hb4⟩
  obtain ⟨rfl,rfl⟩:=H3.out.unique h4
  have HB4:=zh (zA HB3.out hb4)
  clear hb4 x1 h4 H3
  go_wp2
  go_ret
  exact ⟨rfl,HB4.out⟩
end Go.Proofs.YtdfolgmcggdjdaaGreatDoor


