/-
  strings.Builder, with the frame above its buffer.
-/
import Derived.Test.YtdfolgmcggdjdaaGreatDoorQYA1
import Derived.Shelf.Strings.BuilderK
namespace Go.Proofs.YtdfolgmcggdjdaaGreatDoor
open Go.RowKit
set_option maxHeartbeats 16000000
set_option maxRecDepth 100000
theorem isBuilderF_below {B b:Nat} {bs:List Value} {w w':World} (h:Lib.IsBuilderF 84 5 B b bs w) (hb:Below w.heap.size w w'):Lib.IsBuilderF 84 5 B b bs w':=by
 have hg:w.grownBy w' none:=⟨hb.os,hb.tape,hb.output,hb.size,fun k hk _=>hb.block k hk⟩
 have step:∀p,Lib.BuilderAtF 84 5 B b p bs w→Lib.BuilderAtF 84 5 B b p bs w':=fun p h=>by
  obtain ⟨hB,v,hbk,hown,hne⟩:=h
  have hlt:=(zg.1 hbk).1
  refine ⟨hB,v,(hb.block b hlt).trans hbk,?_,hne⟩
  rcases hv:v.ownBlock with _|g
  ·exact hown.kept hg (Or.inl hv)
  ·exact hown.kept hg (Or.inr (by rw[hv];simp))
 exact h.imp (step _) (step _)
def BldF (w:World) (B b:Nat) (s:ByteArray):Prop:=Lib.IsBuilderF 84 5 B b (Lib.strCells s) w
abbrev Oth (b:Nat) (w w':World):Prop:=Lib.OthersKept 5 (some b) w w'
section
variable {w w':World} {B b:Nat} {s:ByteArray}
theorem BldF.below (h:BldF w B b s) (hb:Below w.heap.size w w'):BldF w' B b s:=isBuilderF_below h hb
theorem BldF.new (w:World) (hB:B≤w.heap.size):BldF (w.alloc (.cells #[.pointer none,.slice none 0 0] 84)) B w.heap.size ⟨#[]⟩:=Lib.IsBuilderF.of (BldAt.new w hB)
theorem BldF.write (h:BldF w B b s) (x:ByteArray) (hl:s.size+x.size≤140737488355328) (hB:B≤w.heap.size) :
  Calls Tryz.prog 38 #[.pointer (some ⟨b,0,none⟩),.string x] w fun e w'=>e = .returned (.tuple #[.int .i64 x.size,.nilIface])∧BldF w' B b (s++x)∧Below B w w'∧Oth b w w' :=
 (Any.Builder_WriteString_k { Tryz.lays156 with } Tryz.Builder_Extra_156 B b (Lib.strCells s) x w h (by rw[Lib.strCells_length];exact hl) hB).mono fun _ _ ⟨h1,h2,h3,h4⟩=>⟨h1,by rw[strCells_app] at h2;exact Or.inr h2,h3,h4⟩
theorem BldF.str (h:BldF w B b s) (hB:B≤w.heap.size) :
  Calls Tryz.prog 41 #[.pointer (some ⟨b,0,none⟩)] w fun e w'=>e = .returned (.string s)∧Below B w w':=by
 have h':Lib.IsBuilderF 84 5 B b (Lib.byteCells s.data.toList) w:=by rw[←Lib.strCells_eq];exact h
 refine (Any.Builder_String_any_k Tryz.lays169 Tryz.Builder_Extra_169 B b s.data.toList w h' hB).mono fun _ _ ⟨h1,_,h3,_⟩=>⟨?_,h3⟩
 rw[h1]
end
theorem BldF.lt {w:World} {B b:Nat} {s:ByteArray} (h:BldF w B b s):b<w.heap.size:=by
 rcases h with ⟨_,_,h,_⟩|⟨_,_,h,_⟩ <;> exact (zg.1 h).1
theorem Oth.blk {b k:Nat} {w w':World} {cs:Array Value} {t:TypeId} {fz:Nat×Nat} (h:Oth b w w') (hk:w.heap[k]? = some (.cells cs t fz)) (hkb:k≠b) (ht:t≠5):w'.heap[k]? = some (.cells cs t fz) :=
 h k _ hk (fun e=>hkb (Option.some.inj e)) fun _ _ e=>by injection e with _ e2;exact ht e2
theorem OwnI.oth {w w':World} {base b:Nat} {v:Value} {l:List Int} (h:OwnI w base v l) (ho:Oth b w w') (hb:b<base):OwnI w' base v l :=
 OwnL.keep h fun g hg _ hv=>by
  obtain ⟨cur,fr,e⟩:=OwnL.block h hv
  rw[e]
  exact ho.blk e (by omega) (by decide)
end Go.Proofs.YtdfolgmcggdjdaaGreatDoor


