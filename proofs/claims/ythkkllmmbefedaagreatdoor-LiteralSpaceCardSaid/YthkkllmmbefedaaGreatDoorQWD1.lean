/-
  Walks: sheaveref06.Word.
-/
import Derived.Test.YthkkllmmbefedaaGreatDoorQSXLS
import Derived.Test.YthkkllmmbefedaaGreatDoorQST0
import Derived.Test.YthkkllmmbefedaaGreatDoorQGA4
import Derived.Test.YthkkllmmbefedaaGreatDoorQGT0
import Derived.Test.YthkkllmmbefedaaGreatDoorQGL0
namespace Go.Proofs.YthkkllmmbefedaaGreatDoor
open Go.RowKit
set_option maxHeartbeats 16000000
set_option maxRecDepth 100000
theorem word_any (t:TokD) (hi:t.kind=2→In64 t.int) (hq:t.kind=3→(quD t.str).size≤140737488355328) (w:World) (hE:EnvL w) :
  Calls Tryz.prog 24 #[.agg #[.int .i64 t.kind,.string t.text,.int .i64 t.int,.string t.str,.int .i64 t.line]] w fun e w'=>e = .returned (.string (wordT t))∧Below w.heap.size w w':=by
 have HI:=zh hi;have HQ:=zh hq;have HW:Hid (wordT t=if t.kind=2 then bA (Lib.itoa t.int) else if t.kind=3 then quD t.str else t.text):=rfl
 have HX:=zh (heap_alloc_new w (tokO t.kind t.text t.int t.str t.line));have HB:=zh (zD w (tokO t.kind t.text t.int t.str t.line));have HE:=zh (hE.below HB.out);clear hi hq hE
 go_enter Tryz.func24,Tryz.ntmps24
 go_upto_region 1 with fail
 generalize w.alloc (tokO t.kind t.text t.int t.str t.line)=W0 at *;obtain ⟨c0,c1,c2,c3,c4,_⟩:=tokO_cells HX.out
 by_cases h2:t.kind=2
 ·have q1:(t.kind==2)=true:=by simp[h2]
  have HR:Hid (wordT t=bA (Lib.itoa t.int)):=by show _=_;rw[HW.out,if_pos h2]
  have HI2:=zh (HI.out h2);clear HI HQ HW h2;go_wp2_with fail;refine (fmtL_any t.int HI2.out _ HE.out).mono ?_;rintro e w2 ⟨rfl,hb2⟩;have HB2:=zh (zB HB.out hb2);clear hb2 c0 c1 c2 c3 c4;go_wp2;go_ret;exact ⟨by rw[HR.out];rfl,HB2.out⟩
 have q1:(t.kind==2)=false:=by simp[h2]
 by_cases h3:t.kind=3
 ·have q2:(t.kind==3)=true:=by simp[h3]
  have HR:Hid (wordT t=quD t.str):=by show _=_;rw[HW.out,if_neg h2,if_pos h3]
  have HQ2:=zh (HQ.out h3);clear HI HQ HW h2 h3;go_wp2_with fail;refine (rQuote_any t.str HQ2.out _).mono ?_;rintro e w2 ⟨rfl,hb2⟩;have HB2:=zh (zB HB.out hb2);clear hb2 c0 c1 c2 c3 c4;go_wp2;go_ret;exact ⟨by rw[HR.out];rfl,HB2.out⟩
 have q2:(t.kind==3)=false:=by simp[h3]
 have HR:Hid (wordT t=t.text):=by show _=_;rw[HW.out,if_neg h2,if_neg h3]
 clear HI HQ HW h2 h3;go_wp2;go_ret;exact ⟨by rw[HR.out];rfl,HB.out⟩
end Go.Proofs.YthkkllmmbefedaaGreatDoor


