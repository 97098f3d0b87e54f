/-
  The literal's reader: lists; the value's end.
-/
import Derived.Test.YthkkllmmbefedaaGreatDoorQGC0
namespace Go.Proofs.YthkkllmmbefedaaGreatDoor
open Go.RowKit
set_option maxHeartbeats 16000000
set_option maxRecDepth 100000
def tY (kd:Int) (P:PR (List Val)):PR Val:=P.bind fun p => .ok (.mk kd false 0 ⟨#[]⟩ 0 [] p.1 [],p.2)
section
variable {C:FK} {V:Vx}
end
def VaP (C:FK) (W0:World) (p:Nat) (kd:Int) (r:List AQ) (P:PR Val) (W':World):Prop:=∃bo it st di vk vi vr K I R r' k' e',CX C W' r' k' e'/\Gx p W' kd bo it st di vk vi vr K I R/\Ay C.b W0 W'/\r'.length<=r.length/\(K.length<=2000000/\I.length<=2000000/\R.length<=2000000) /\
 match P with
 | .ok (v,r1,k1)=>v = .mk kd bo it st di (K.map (·.v)) (I.map (·.v)) R/\r'=r1/\k'=k1/\e'=0
 | .error e1=>e'=e1
variable {p:Nat}
theorem Oa.va {C:FK} {W0:World} {kd:Int} {r:List AQ} {P:PR Val} {W':World} (h:Oa C W0 p kd r P W'):VaP C W0 p kd r P W':=by
 obtain ⟨di,vk,vi,vr,K,I,R,r',k',e',h1,h2,h3,h4⟩:=h;exact ⟨false,0,⟨#[]⟩,di,vk,vi,vr,K,I,R,r',k',e',h1.rd,h1.vb,h1.fr,h2,h3,h4⟩
abbrev q8 (w:World) (p:Nat) (v0 v1 v2 v3 v4 v5 v6 v7:Value):World:=(((q5 w p v0 v1 v2 v3 v4).setCell ⟨p,5,none⟩ v5).setCell ⟨p,6,none⟩ v6).setCell ⟨p,7,none⟩ v7
variable {w:World}
theorem F6 {a0 a1 a2 a3 a4 a5 a6 a7:Value} {T:TypeId} (h:w.heap[p]? = some (.cells #[a0,a1,a2,a3,a4,a5,a6,a7] T)) (v0 v1 v2 v3 v4 v5 v6 v7:Value):(q8 w p v0 v1 v2 v3 v4 v5 v6 v7).heap[p]? = some (.cells #[v0,v1,v2,v3,v4,v5,v6,v7] T):=by
 have h0:=AAW _ _ 0 _ _ v0 h;simp only[ABA,List.set_cons_zero] at h0;have h1:=AAW _ _ 1 _ _ v1 h0;simp only[ABA,List.set_cons_zero,List.set_cons_succ] at h1;have h2:=AAW _ _ 2 _ _ v2 h1;simp only[ABA,List.set_cons_zero,List.set_cons_succ] at h2;have h3:=AAW _ _ 3 _ _ v3 h2
 simp only[ABA,List.set_cons_zero,List.set_cons_succ] at h3;have h4:=AAW _ _ 4 _ _ v4 h3;simp only[ABA,List.set_cons_zero,List.set_cons_succ] at h4;have h5:=AAW _ _ 5 _ _ v5 h4;simp only[ABA,List.set_cons_zero,List.set_cons_succ] at h5;have h6:=AAW _ _ 6 _ _ v6 h5
 simp only[ABA,List.set_cons_zero,List.set_cons_succ] at h6;have h7:=AAW _ _ 7 _ _ v7 h6;simp only[ABA,List.set_cons_zero,List.set_cons_succ] at h7;exact h7
variable {B:Nat}
theorem Ay.eight {b:Nat} {w':World} (h:Ay b w w') (v0 v1 v2 v3 v4 v5 v6 v7:Value) (hB:w.heap.size<=B) (hb:b<w.heap.size):Ay b w (q8 w' B v0 v1 v2 v3 v4 v5 v6 v7) :=
 (((h.five v0 v1 v2 v3 v4 hB hb).two 5 v5 hB hb).two 6 v6 hB hb).two 7 v7 hB hb
theorem CX.yS {C:FK} {r:List AQ} {k:Bool} {e:Int} (h:CX C w r k e) (hB:C.b<B) (v0 v1 v2 v3 v4 v5 v6 v7:Value):CX C (q8 w B v0 v1 v2 v3 v4 v5 v6 v7) r k e:=by
 have hz:C.w0.heap.size<=B:=by have:=h.ok.ge;omega
 exact (((h.Om hB v0 v1 v2 v3 v4).FN (by omega) hz 5 v5).FN (by omega) hz 6 v6).FN (by omega) hz 7 v7
theorem EA {S:Nat->Prop} {P:World->Prop} (h:Off S w P) (hB:S B) (v0 v1 v2 v3 v4 v5 v6 v7:Value):Off S (q8 w B v0 v1 v2 v3 v4 v5 v6 v7) P :=
 (((((((h.set v0 hB).set v1 hB).set v2 hB).set v3 hB).set v4 hB).set v5 hB).set v6 hB).set v7 hB
theorem zK {a0 a1 a2 a3 a4 a5 a6 a7:Value} {T:TypeId} (h:w.heap[p]? = some (.cells #[a0,a1,a2,a3,a4,a5,a6,a7] T)):(w.cell? ⟨p,0,none⟩=some a0/\w.cell? ⟨p,1,none⟩=some a1/\w.cell? ⟨p,2,none⟩=some a2/\w.cell? ⟨p,3,none⟩=some a3/\w.cell? ⟨p,4,none⟩=some a4/\w.cell? ⟨p,5,none⟩=some a5/\w.cell? ⟨p,6,none⟩=some a6/\w.cell? ⟨p,7,none⟩=some a7) /\
  (w.frozen? ⟨p,0,none⟩=false/\w.frozen? ⟨p,1,none⟩=false/\w.frozen? ⟨p,2,none⟩=false/\w.frozen? ⟨p,3,none⟩=false/\w.frozen? ⟨p,4,none⟩=false/\w.frozen? ⟨p,5,none⟩=false/\w.frozen? ⟨p,6,none⟩=false/\w.frozen? ⟨p,7,none⟩=false):=by
 refine ⟨⟨?_,?_,?_,?_,?_,?_,?_,?_⟩,AAL _ _ _ _ _ h,AAL _ _ _ _ _ h,AAL _ _ _ _ _ h,AAL _ _ _ _ _ h,AAL _ _ _ _ _ h,AAL _ _ _ _ _ h,AAL _ _ _ _ _ h,AAL _ _ _ _ _ h⟩ <;> (rw[AAE _ _ _ _ _ _ h];rfl)
end Go.Proofs.YthkkllmmbefedaaGreatDoor



