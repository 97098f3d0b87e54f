/-
  Rows of symbols and members that are written in place; the decimal text of a number.
-/
import Derived.Test.YtdfolgmcggdjdaaGreatDoorQCP2
import Derived.Test.YtdfolgmcggdjdaaGreatDoorQPL
import Derived.Test.YtdfolgmcggdjdaaGreatDoorShelf
import Derived.Lib.AppendIntMem
namespace Go.Proofs.YtdfolgmcggdjdaaGreatDoor
open Go.RowKit
set_option maxHeartbeats 16000000
set_option maxRecDepth 100000
def Tab (w : World) : Prop := Lib.TabIs Tryz.prog w "internal/strconv.uint64pow10" .u64 Lib.pow10Tab
theorem Tab.below {w w':World} (h:Tab w) (hb:Below w.heap.size w w'):Tab w':=Lib.tabBelow_of_tabIs h w' hb
theorem itoa_any (n:Int) (hn:In64 n) (w:World) (ht:Tab w) :
  Calls Tryz.prog 45 #[.int .i64 n] w fun e w'=>e = .returned (.string (decB n))∧Below w.heap.size w w' :=
 (Tryz.strconv_Itoa n hn.1 hn.2 w ht).mono fun e w' ⟨he,k,os,hw⟩=>⟨he,by subst hw;exact Lib.below_grow _ _ (Nat.le_refl _) _ _⟩
section
variable {α:Type} {f:α→α}
end
section
variable {E k:Nat} {base g n c:Nat} {css:List (List Value)}
end
section
variable {α:Type} {E k:Nat} {at_:World→α→List Value→Prop} {wr:World} {base H3 H:Nat} {A:Option Addr} {c:Nat} {l:List α} {i:Nat}
end
theorem SymD.at_one {x:SymD} {cs:List Value} (h:x.At cs):cs.length=2∧∀u∈cs,u.oneCell'=true:=by
 obtain ⟨_,rfl⟩:=h
 refine ⟨rfl,?_⟩
 intro u hu
 simp only[List.mem_cons,List.mem_nil_iff,or_false] at hu
 rcases hu with rfl|rfl <;> rfl
theorem MemD.at_one {w:World} {x:MemD} {cs:List Value} (h:x.At w cs):cs.length=13∧∀u∈cs,u.oneCell'=true:=by
 obtain ⟨A1,c1,A2,c2,A3,c3,rfl,_⟩:=h
 refine ⟨rfl,?_⟩
 intro u hu
 simp only[List.mem_cons,List.mem_nil_iff,or_false] at hu
 rcases hu with rfl|rfl|rfl|rfl|rfl|rfl|rfl|rfl|rfl|rfl|rfl|rfl|rfl <;> rfl
end Go.Proofs.YtdfolgmcggdjdaaGreatDoor


