/-
  Walks: the reference's Compare.
-/
import Derived.Test.YthkkllmmbefedaaGreatDoorQGA10
namespace Go.Proofs.YthkkllmmbefedaaGreatDoor
open Go.RowKit
set_option maxHeartbeats 16000000
set_option maxRecDepth 100000
theorem rCompare_any (a b:Val) (hk:a.kind=b.kind) (h14:1≤a.kind∧a.kind≤4) (hi:a.kind=2→In64 a.int∧In64 b.int) (_hz:a.str.size≤9223372036854775807∧b.str.size≤9223372036854775807) (A1:zo) (c1:Nat) (A2:zo) (c2:Nat) (A3:zo) (c3:Nat) (B1:zo) (d1:Nat) (B2:zo) (d2:Nat) (B3:zo) (d3:Nat) (w:World) :
  Calls Tryz.prog 107 #[a.v A1 c1 A2 c2 A3 c3,b.v B1 d1 B2 d2 B3 d3] w fun e w'=>e = .returned (.int .i64 (cmpV a b))∧Below w.heap.size w w':=by
 have HB:=zh (zI w (a.box A1 c1 A2 c2 A3 c3) (b.box B1 d1 B2 d2 B3 d3));have HX:=zh (tmp_al (heap_alloc_new w (a.box A1 c1 A2 c2 A3 c3)) (b.box B1 d1 B2 d2 B3 d3));have HY:Hid (((w.alloc (a.box A1 c1 A2 c2 A3 c3)).alloc (b.box B1 d1 B2 d2 B3 d3)).heap[w.heap.size+1]? = some (b.box B1 d1 B2 d2 B3 d3)):=by
  have:=heap_alloc_new (w.alloc (a.box A1 c1 A2 c2 A3 c3)) (b.box B1 d1 B2 d2 B3 d3);rw[show (w.alloc (a.box A1 c1 A2 c2 A3 c3)).heap.size=w.heap.size+1 by simp] at this
  exact this
 have q0:(a.kind != b.kind)=false:=by simp[hk]
 have hk4:a.kind=1∨a.kind=2∨a.kind=3∨a.kind=4:=by omega
 have HK:=zh hk;have HI:=zh hi;clear hk h14 hi
 go_enter Tryz.func107,Tryz.ntmps107
 go_upto_region 1 with fail
 generalize (w.alloc (a.box A1 c1 A2 c2 A3 c3)).alloc (b.box B1 d1 B2 d2 B3 d3)=W1 at *;obtain ⟨u0,u1,u2,u3,u4,u5,u6,u7⟩:=zF HX.out;obtain ⟨v0,v1,v2,v3,v4,v5,v6,v7⟩:=zF HY.out
 rcases hk4 with e|e|e|e
 ·have q1:(a.kind==1)=true:=by simp[e]
  have HD:=zh (cmp_1 HK.out e);obtain ⟨X,hX⟩:∃X,(a.bool==b.bool)=X:=⟨_,rfl⟩;rw[hX] at HD;clear e;go_wp2_with fail;refine (rOrder_any b.bool X _).mono ?_;rintro e w2 ⟨rfl,rfl⟩;go_wp2;go_ret;exact ⟨by rw[HD.out];rfl,HB.out⟩
 ·have q1:(a.kind==1)=false:=by simp[e]
  have q2:(a.kind==2)=true:=by simp[e]
  have HD:=zh (cmp_2 HK.out e);have HI2:=zh (HI.out e);have HCC:Hid (∀w',Below W1.heap.size W1 w'→(w'.cell? ⟨w.heap.size,2,none⟩=some (.int .i64 a.int)∧w'.cell? ⟨w.heap.size+1,2,none⟩=some (.int .i64 b.int))):=fun w' hb=>⟨zA hb u2,zA hb v2⟩
  clear e;go_upto_region 7 with fail
  clear u0 u1 u2 u3 u4 u5 u6 u7 v0 v1 v2 v3 v4 v5 v6 v7;refine zr (Y:=fun w'=>Hid (Below W1.heap.size W1 w')) HCC.out (by kernel_rfl) ?_ (fun zH_=>?_)
  ·(try dsimp only);exact ⟨HCC.out _ (zC (Below.refl _ _) 1),zC (Below.refl _ _) 1⟩
  refine tL 0 ?_;refine tL 1 ?_;refine tL 3 ?_;refine tL 4 ?_;refine tL 7 ?_;refine tL 8 ?_;try simp only[ps]
  refine tL 9 ?_;refine tL 10 ?_;refine tL 11 ?_;refine tR 2 (fun K hK=>?_)
  go_simp
  (refine (rZig_any a.int HI2.out.1 _).mono ?_;rintro e w2 ⟨rfl,rfl⟩)
  refine hK.out _ _ ?_ (fun zH_=>?_)
  ·(try dsimp only);exact zH_
  clear hK K;refine tR 5 (fun K hK=>?_)
  go_simp
  (refine (rZig_any b.int HI2.out.2 _).mono ?_;rintro e w2 ⟨rfl,rfl⟩)
  refine hK.out _ _ ?_ (fun zH_=>?_)
  ·(try dsimp only);exact zH_
  clear hK K;refine tL 6 ?_;try simp only[ps]
  refine tR 12 (fun K hK=>?_)
  go_simp
  (refine (rOrder_any (decide (zzD a.int<zzD b.int)) (a.int==b.int) _).mono ?_;rintro e w2 ⟨rfl,rfl⟩)
  refine hK.out _ _ ?_ (fun zH_=>?_)
  ·(try dsimp only);exact zH_
  clear hK K;refine tL 13 ?_;refine wpAnyH_done (by kernel_rfl) ?_ _
  (have HBZ:=zh (zB HB.out zH_.2.out);clear zH_;go_wp2;go_ret;exact ⟨by rw[HD.out];rfl,HBZ.out⟩)
 ·have q1:(a.kind==1)=false:=by simp[e]
  have q2:(a.kind==2)=false:=by simp[e]
  have q3:(a.kind==3)=true:=by simp[e]
  by_cases hs:(a.str.size:Int)=b.str.size
  ·have HD:=zh (cmp_3b HK.out e hs)
   have z1:((a.str.size:Int) != (b.str.size:Int))=false:=by simp only[bne_eq_false_iff_eq];exact hs
   obtain ⟨Y,hY⟩:∃Y,Op.bytesLess a.str.toList b.str.toList=Y:=⟨_,rfl⟩;obtain ⟨X,hX⟩:∃X,(a.str.toList==b.str.toList)=X:=⟨_,rfl⟩;have HD2:Hid (cmpV a b=ord3 Y X):=by show _=_;rw[HD.out,←hY,←hX,bytes_beq];rfl
   clear e hs HD;go_wp2_with fail;refine (rOrder_any Y X _).mono ?_;rintro e w2 ⟨rfl,rfl⟩;go_wp2;go_ret;exact ⟨by rw[HD2.out];rfl,HB.out⟩
  ·have HD:=zh (cmp_3a HK.out e hs)
   have z1:((a.str.size:Int) != (b.str.size:Int))=true:=by simp only[bne_iff_ne];exact hs
   obtain ⟨Y,hY⟩:∃Y,decide ((a.str.size:Int)<(b.str.size:Int))=Y:=⟨_,rfl⟩;rw[hY] at HD;clear e hs
   cases Y with
   | true =>
    have z2:(a.str.size:Int)<(b.str.size:Int):=of_decide_eq_true hY;clear hY;go_wp2_with fail;refine (rOrder_any true false _).mono ?_;rintro e w2 ⟨rfl,rfl⟩;go_wp2;go_ret;exact ⟨by rw[HD.out];rfl,HB.out⟩
   | false =>
    have z2:¬ (a.str.size:Int)<(b.str.size:Int):=of_decide_eq_false hY;clear hY;go_wp2_with fail;refine (rOrder_any false false _).mono ?_;rintro e w2 ⟨rfl,rfl⟩;go_wp2;go_ret;exact ⟨by rw[HD.out];rfl,HB.out⟩
 ·have q1:(a.kind==1)=false:=by simp[e]
  have q2:(a.kind==2)=false:=by simp[e]
  have q3:(a.kind==3)=false:=by simp[e]
  have q4:(a.kind==4)=true:=by simp[e]
  have HD:=zh (cmp_4 HK.out e);clear e;go_wp2_with fail;refine (rOrder_any (decide (a.id<b.id)) (a.id==b.id) _).mono ?_;rintro e w2 ⟨rfl,rfl⟩;go_wp2;go_ret;exact ⟨by rw[HD.out];rfl,HB.out⟩
end Go.Proofs.YthkkllmmbefedaaGreatDoor


