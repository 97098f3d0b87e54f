/-
  Small words of the literal's Read and of value.At.
-/
import Derived.Test.YthkkllmmbefedaaGreatDoorQGD0
import Derived.Test.YthkkllmmbefedaaGreatDoorQGB0
namespace Go.Proofs.YthkkllmmbefedaaGreatDoor
open Go.RowKit Go.Proofs.Tryz
set_option maxHeartbeats 16000000
set_option maxRecDepth 100000
theorem L6 (w:World):Ar w zeroV none none none:=⟨by unfold Cw zeroV;decide,AY.nil _ _ _ _ _,AY.nil _ _ _ _ _,AY.nil _ _ _ _ _⟩
theorem Bb {B:Nat} {w w':World} (h:Below B w w') {q:Nat} (hq:B<=q) (v0 v1 v2 v3 v4 v5 v6 v7:Value):Below B w (q8 w' q v0 v1 v2 v3 v4 v5 v6 v7) :=
 (((((((h.setCell (p:=⟨q,0,none⟩) hq v0).setCell (p:=⟨q,1,none⟩) hq v1).setCell (p:=⟨q,2,none⟩) hq v2).setCell (p:=⟨q,3,none⟩) hq v3).setCell (p:=⟨q,4,none⟩) hq v4).setCell (p:=⟨q,5,none⟩) hq v5).setCell (p:=⟨q,6,none⟩) hq v6).setCell (p:=⟨q,7,none⟩) hq v7
theorem Uv {C:Eh} {w:World} {r:List AJ} {k:Bool} {e:Int} (h:CJ C w r k e) {B:Nat} (hB:B≠C.b) (hz:C.w0.heap.size<=B) (v0 v1 v2 v3 v4 v5 v6 v7:Value):CJ C (q8 w B v0 v1 v2 v3 v4 v5 v6 v7) r k e :=
 (((((((h.FN hB hz 0 v0).FN hB hz 1 v1).FN hB hz 2 v2).FN hB hz 3 v3).FN hB hz 4 v4).FN hB hz 5 v5).FN hB hz 6 v6).FN hB hz 7 v7
theorem Vh {s:List Aa} (A:zo) (c:Nat) (hv:zQ s=0) (hn:DW s) (t:Int) (x:Aj) (w:World) (hs:DC w A s) (hr:Ar w x.v x.A1 x.A2 x.A3) :
  Calls prog 43 #[.agg #[.slice A s.length c],.int .i64 t,x.v.v x.A1 x.c1 x.A2 x.c2 x.A3 x.c3] w fun e w'=>e = .returned (.bool (BX s false t x.v))/\Below w.heap.size w w' :=
 Ja A c hv hn t x.v x.A1 x.c1 x.A2 x.c2 x.A3 x.c3 w hs hr
theorem SH:(0:Int)=zeroV.kind/\zeroV.bool=false/\0=zeroV.int/\(⟨#[]⟩:ByteArray)=zeroV.str/\0=zeroV.id/\0=zeroV.keys.length/\0=zeroV.items.length/\0=zeroV.rest.length:=⟨rfl,rfl,rfl,rfl,rfl,rfl,rfl,rfl⟩
