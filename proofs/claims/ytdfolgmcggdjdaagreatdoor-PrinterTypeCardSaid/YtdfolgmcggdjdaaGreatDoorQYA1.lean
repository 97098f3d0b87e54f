/-
  strings.Builder, strings.Join over this program.
-/
import Derived.Test.YtdfolgmcggdjdaaGreatDoorShelfB
import Derived.Test.YtdfolgmcggdjdaaGreatDoorQYW9
namespace Go.Proofs.YtdfolgmcggdjdaaGreatDoor
open Go.RowKit
set_option maxHeartbeats 16000000
set_option maxRecDepth 100000
theorem writeString_any (B b:Nat) (bs:List Value) (s:ByteArray) (w:World) (h:Lib.IsBuilder 84 5 B b bs w) (hlen:bs.length+s.size≤140737488355328) (hBw:B≤w.heap.size) :
  Calls Tryz.prog 38 #[.pointer (some ⟨b,0,none⟩),.string s] w fun e w'=>e = .returned (.tuple #[.int .i64 s.size,.nilIface])∧(Lib.IsBuilder 84 5 B b (bs++Lib.strCells s) w'∧Below B w w') :=
 (Any.Builder_WriteString { Tryz.lays156 with } Tryz.Builder_Extra_156 B b bs s w h hlen hBw).mono fun _ _ ⟨h1,h2,h3⟩=>⟨h1,.inr h2,h3⟩
theorem len_any (B b:Nat) (bs:List Value) (w:World) (h:Lib.IsBuilder 84 5 B b bs w) :
  Calls Tryz.prog 40 #[.pointer (some ⟨b,0,none⟩)] w fun e w'=>e = .returned (.int .i64 bs.length)∧w'=w:=Tryz.Builder_Len B b bs w h
theorem isBuilder_below {B b:Nat} {bs:List Value} {w w':World} (h:Lib.IsBuilder 84 5 B b bs w) (hb:Below w.heap.size w w'):Lib.IsBuilder 84 5 B b bs w':=by
 have hg:w.grownBy w' none:=⟨hb.os,hb.tape,hb.output,hb.size,fun k hk _=>hb.block k hk⟩
 have step:∀p,Lib.BuilderAt 84 5 B b p bs w→Lib.BuilderAt 84 5 B b p bs w':=fun p h=>by
  have hlt:=h.lt
  obtain ⟨hB,v,hbk,hown,hne⟩:=h
  refine ⟨hB,v,(hb.block b hlt).trans hbk,?_,hne⟩
  rcases hv:v.ownBlock with _|g
  ·exact hown.kept hg (Or.inl hv)
  ·exact hown.kept hg (Or.inr (by rw[hv];simp))
 exact h.imp (step _) (step _)
def BldAt (w:World) (B b:Nat) (s:ByteArray):Prop:=Lib.IsBuilder 84 5 B b (Lib.strCells s) w
section
variable {w w':World} {B b:Nat} {s:ByteArray}
theorem BldAt.below (h:BldAt w B b s) (hb:Below w.heap.size w w'):BldAt w' B b s:=isBuilder_below h hb
theorem BldAt.new (w:World) (hB:B≤w.heap.size):BldAt (w.alloc (.cells #[.pointer none,.slice none 0 0] 84)) B w.heap.size ⟨#[]⟩:=Or.inl ⟨hB,.slice none 0 0,heap_alloc_new w _,World.ownsRow_nil _ _ _ _,by simp[Value.ownBlock]⟩
theorem strCells_app (a b:ByteArray):Lib.strCells a++Lib.strCells b=Lib.strCells (a++b):=by
 unfold Lib.strCells
 rw[ByteArray.data_append,Array.toList_append,List.map_append]
theorem BldAt.write (h:BldAt w B b s) (x:ByteArray) (hl:s.size+x.size≤140737488355328) (hB:B≤w.heap.size) :
  Calls Tryz.prog 38 #[.pointer (some ⟨b,0,none⟩),.string x] w fun e w'=>e = .returned (.tuple #[.int .i64 x.size,.nilIface])∧BldAt w' B b (s++x)∧Below B w w' :=
 (writeString_any B b _ x w h (by rw[Lib.strCells_length];exact hl) hB).mono fun _ _ ⟨h1,h2,h3⟩=>⟨h1,by rw[strCells_app] at h2;exact h2,h3⟩
theorem BldAt.len (h:BldAt w B b s) :
  Calls Tryz.prog 40 #[.pointer (some ⟨b,0,none⟩)] w fun e w'=>e = .returned (.int .i64 s.size)∧w'=w :=
 (len_any B b _ w h).mono fun _ _ ⟨h1,h2⟩=>⟨by rw[Lib.strCells_length] at h1;exact h1,h2⟩
theorem BldAt.str (h:BldAt w B b s) (hB:B≤w.heap.size) :
  Calls Tryz.prog 41 #[.pointer (some ⟨b,0,none⟩)] w fun e w'=>e = .returned (.string s)∧Below B w w':=by
 have h':Lib.IsBuilder 84 5 B b (Lib.byteCells s.data.toList) w:=by rw[←Lib.strCells_eq];exact h
 refine (Tryz.Builder_String_any B b s.data.toList w h' hB).mono fun _ _ ⟨h1,h2⟩=>⟨?_,h2⟩
 rw[h1]
end
end Go.Proofs.YtdfolgmcggdjdaaGreatDoor


