/-
  Walks: sheaveref06.Same, where the tokens are the same but for their lines.
-/
import Derived.Test.YthkkllmmbefedaaGreatDoorQSXLS
import Derived.Test.YthkkllmmbefedaaGreatDoorQGA5
import Derived.Test.YthkkllmmbefedaaGreatDoorQGA6
import Derived.Test.YthkkllmmbefedaaGreatDoorQGA7
import Derived.Test.YthkkllmmbefedaaGreatDoorQGA4
namespace Go.Proofs.YthkkllmmbefedaaGreatDoor
open Go.RowKit
set_option maxHeartbeats 16000000
set_option maxRecDepth 100000
abbrev tokO (k:Int) (t:ByteArray) (n:Int) (s:ByteArray) (l:Int):Obj := .cells #[.int .i64 k,.string t,.int .i64 n,.string s,.int .i64 l] 59
theorem tokO_cells {w:World} {p:Nat} {k:Int} {t:ByteArray} {n:Int} {s:ByteArray} {l:Int} (h:w.heap[p]? = some (tokO k t n s l)):w.cell? ⟨p,0,none⟩=some (.int .i64 k)∧w.cell? ⟨p,1,none⟩=some (.string t)∧w.cell? ⟨p,2,none⟩=some (.int .i64 n)∧w.cell? ⟨p,3,none⟩=some (.string s)∧w.cell? ⟨p,4,none⟩=some (.int .i64 l)∧w.frozen? ⟨p,4,none⟩=false:=by
 refine ⟨?_,?_,?_,?_,?_,frozen_of_row _ _ _ _ _ h⟩ <;> (rw[cell_of_row _ _ _ _ _ _ h];rfl)
end Go.Proofs.YthkkllmmbefedaaGreatDoor


