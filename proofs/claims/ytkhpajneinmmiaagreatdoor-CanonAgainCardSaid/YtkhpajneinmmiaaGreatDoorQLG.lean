/-
  Walks: the law CanonAgain.
-/
import Derived.Test.YtkhpajneinmmiaaGreatDoorQROG
import Derived.Test.YtkhpajneinmmiaaGreatDoorQLAWG
import Derived.Test.YtkhpajneinmmiaaGreatDoorQCA3
import Derived.Test.YtkhpajneinmmiaaGreatDoorQEXG
namespace Go.Proofs.YtkhpajneinmmiaaGreatDoor
open Go.RowKit
set_option maxHeartbeats 16000000
set_option maxRecDepth 100000
structure LgS (w1 w2:World) (A1:Option Addr) (a:List TyD) (c1 i:Nat) (A2:Option Addr) (b:List TyD) (c2 k:Nat) (p6:Nat) (A3:Option Addr) (la:List TyD) (c3:Nat) (p8:Nat) (A4:Option Addr) (lb:List TyD) (c4:Nat) (p10:Nat) (A5:Option Addr) (c5:Nat) (w':World):Prop where
 q:LqS w1 w2 A1 a c1 i A2 b c2 k w'
 b6:w'.heap[p6]? = some (rootB A3 la.length c3 0)
 b8:w'.heap[p8]? = some (rootB A4 lb.length c4 0)
 b10:w'.heap[p10]? = some (rootB A5 la.length c5 0)
 ra:TysR w' A3 la
 rb:TysR w' A4 lb
 r2:TysR w' A5 la
section
variable {w1 w2:World} {A1:Option Addr} {a:List TyD} {c1 i:Nat} {A2:Option Addr} {b:List TyD} {c2 k:Nat} {p6:Nat} {A3:Option Addr} {la:List TyD} {c3:Nat} {p8:Nat} {A4:Option Addr} {lb:List TyD} {c4:Nat} {p10:Nat} {A5:Option Addr} {c5:Nat} {w' w'':World}
theorem LgS.step (h:LgS w1 w2 A1 a c1 i A2 b c2 k p6 A3 la c3 p8 A4 lb c4 p10 A5 c5 w') (hb:Below w'.heap.size w' w''):LgS w1 w2 A1 a c1 i A2 b c2 k p6 A3 la c3 p8 A4 lb c4 p10 A5 c5 w'' :=
 ⟨h.q.step hb,(hb.block _ (zg.1 h.b6).1).trans h.b6,(hb.block _ (zg.1 h.b8).1).trans h.b8,(hb.block _ (zg.1 h.b10).1).trans h.b10,h.ra.below hb,h.rb.below hb,h.r2.below hb⟩
theorem LgS.hold (h : LgS w1 w2 A1 a c1 i A2 b c2 k p6 A3 la c3 p8 A4 lb c4 p10 A5 c5 w') :
    ((w'.cell? ⟨w1.heap.size, 0, none⟩ = some (.slice A1 a.length c1) ∧ w'.cell? ⟨w1.heap.size, 1, none⟩ = some (.int .i64 (i : Int)) ∧ w'.cell? ⟨w1.heap.size + 1, 0, none⟩ = some (.slice A2 b.length c2) ∧ w'.cell? ⟨w1.heap.size + 1, 1, none⟩ = some (.int .i64 (k : Int))) ∧
      ((w'.cell? ⟨p6, 0, none⟩ = some (.slice A3 la.length c3) ∧ w'.cell? ⟨p6, 1, none⟩ = some (.int .i64 0)) ∧ (w'.cell? ⟨p8, 0, none⟩ = some (.slice A4 lb.length c4) ∧ w'.cell? ⟨p8, 1, none⟩ = some (.int .i64 0)) ∧ w'.cell? ⟨p10, 0, none⟩ = some (.slice A5 la.length c5) ∧ w'.cell? ⟨p10, 1, none⟩ = some (.int .i64 0))) ∧
    Hid (LgS w1 w2 A1 a c1 i A2 b c2 k p6 A3 la c3 p8 A4 lb c4 p10 A5 c5 w') := by
  refine ⟨⟨h.q.hold.1, ⟨?_, ?_⟩, ⟨?_, ?_⟩, ?_, ?_⟩, h⟩
  · rw [cell_of_row _ _ _ _ _ _ h.b6]; rfl
  · rw [cell_of_row _ _ _ _ _ _ h.b6]; rfl
  · rw [cell_of_row _ _ _ _ _ _ h.b8]; rfl
  · rw [cell_of_row _ _ _ _ _ _ h.b8]; rfl
  · rw [cell_of_row _ _ _ _ _ _ h.b10]; rfl
  · rw [cell_of_row _ _ _ _ _ _ h.b10]; rfl
end
theorem lawAgain_any (s:List NodeD) (l:List ChgD) (p q:Nat) (A:Option Addr) (c:Nat) (B:Option Addr) (d:Nat) (w:World) (hr:PairR w A s B l p q) (htab:Tab w) :
  Calls Tryz.prog 6 #[pchV A s.length c B l.length d p q] w (SamePost true w):=by
 have HD:=zh hr.1
 have HL:=zh hr.2.1
 have HPQ:=zh hr.2.2
 have HTB:=zh htab
 have HB0:=zh (zD w (pairB A s.length c B l.length d p q))
 clear hr htab
 go_enter Tryz.func6,Tryz.ntmps6
 go_wp2_with fail
 refine (roots_any s l p q A c B d _ (HD.out.below HB0.out) (HL.out.below HB0.out) HPQ.out.1 HPQ.out.2).mono ?_
 rintro e w1 ⟨A1,c1,a,i,A2,c2,b,k,ok,rfl,ha,hb,hok,hb1⟩
 have HOK:=zh hok
 have HB1:=zh (zA HB0.out (zA hb1 (zC w1 (rootB A1 a.length c1 i) (rootB A2 b.length c2 k))))
 have HA1:=zh (ha.below (zC w1 (rootB A1 a.length c1 i) (rootB A2 b.length c2 k)))
 have HA2:=zh (hb.below (zC w1 (rootB A1 a.length c1 i) (rootB A2 b.length c2 k)))
 have HT1:=zh (two_new w1 A1 a.length c1 i A2 b.length c2 k)
 clear ha hb hok hb1
 go_wp2_with fail
 generalize (w1.alloc (rootB A1 a.length c1 i)).alloc (rootB A2 b.length c2 k)=W1 at *
 refine (awake_any _ (HTB.out.below HB1.out)).mono ?_
 rintro e w2 ⟨rfl,hb2⟩
 have HB2:=zh (zA HB1.out hb2)
 have HQ:Hid (LqS w1 w2 A1 a c1 i A2 b c2 k w2):=⟨HT1.out.below hb2,HA1.out.below hb2,HA2.out.below hb2,Below.refl _ _⟩
 clear hb2 HT1 HA1 HA2
 cases ok with
 | false =>
  go_wp2_with fail
  refine (awake_any _ (HTB.out.below HB2.out)).mono ?_
  rintro e w3 ⟨rfl,hb3⟩
  have HB3:=zh (zA HB2.out hb3)
  clear hb3
  go_wp2
  go_ret
  exact ⟨rfl,HB3.out⟩
 | true =>
  have HRA:=zh (HOK.out rfl).1
  have HRB:=zh (HOK.out rfl).2
  have HTB2:=zh (HTB.out.below HB2.out)
  obtain ⟨⟨k0,k1,k2,k3⟩,_⟩:=HQ.out.hold
  go_wp2_with fail
  refine (canon_any a (i:Int) A1 c1 _ HQ.out.a HTB2.out).mono ?_
  rintro e w3 ⟨A3,c3,la,rfl,hla,hca,_,hb3⟩
  rw[rootOk_err HRA.out] at hca ⊢
  have HCA:=zh (hca rfl)
  have HQ3:=zh (HQ.out.step (zA hb3 (zD w3 (rootB A3 la.length c3 0))))
  have HLA:=zh (hla.below (zD w3 (rootB A3 la.length c3 0)))
  have HX3:=zh (heap_alloc_new w3 (rootB A3 la.length c3 0))
  clear k0 k1 k2 k3 hla hca hb3
  obtain ⟨⟨k0,k1,k2,k3⟩,_⟩:=HQ3.out.hold
  go_wp2_with fail
  clear k0 k1 k2 k3
  generalize w3.alloc (rootB A3 la.length c3 0)=W3 at *
  refine (canon_any b (k:Int) A2 c2 _ HQ3.out.b (HTB2.out.below HQ3.out.bel)).mono ?_
  rintro e w4 ⟨A4,c4,lb,rfl,hlb,hcb,_,hb4⟩
  rw[rootOk_err HRB.out] at hcb ⊢
  have HCB:=zh (hcb rfl)
  have HB4:=zh (zA hb4 (zD w4 (rootB A4 lb.length c4 0)))
  have HQ4:=zh (HQ3.out.step HB4.out)
  have HLB:=zh (hlb.below (zD w4 (rootB A4 lb.length c4 0)))
  have HLA4:=zh (HLA.out.below HB4.out)
  have HX4:=zh (heap_alloc_new w4 (rootB A4 lb.length c4 0))
  have HX34:=zh ((HB4.out.block _ (zg.1 HX3.out).1).trans HX3.out)
  have k0:(w4.alloc (rootB A4 lb.length c4 0)).cell? ⟨w3.heap.size,0,none⟩=some (.slice A3 la.length c3):=by rw[cell_of_row _ _ _ _ _ _ HX34.out];rfl
  have k1:(w4.alloc (rootB A4 lb.length c4 0)).cell? ⟨w3.heap.size,1,none⟩=some (.int .i64 0):=by rw[cell_of_row _ _ _ _ _ _ HX34.out];rfl
  clear hlb hcb hb4
  go_wp2_with fail
  clear k0 k1
  generalize w4.alloc (rootB A4 lb.length c4 0)=W4 at *
  have HRL:=zh (canon_root HRA.out.1 HRA.out.2.2.2.2 HCA.out)
  refine (canon_any la 0 A3 c3 _ HLA4.out (HTB2.out.below HQ4.out.bel)).mono ?_
  rintro e w5 ⟨A5,c5,l2,rfl,hl2,hc2,_,hb5⟩
  rw[show zH la 0=0 from yN (i:=0) HRL.out.1 HRL.out.2] at hc2 ⊢
  obtain rfl:l2=la:=canon_twice HRA.out.1 HRA.out.2.2.2.2 HCA.out (hc2 rfl)
  have HB5:=zh (zA hb5 (zD w5 (rootB A5 l2.length c5 0)))
  have HQ5:Hid (LgS w1 w2 A1 a c1 i A2 b c2 k w3.heap.size A3 l2 c3 w4.heap.size A4 lb c4 w5.heap.size A5 c5 (w5.alloc (rootB A5 l2.length c5 0))) :=
   ⟨HQ4.out.step HB5.out,(HB5.out.block _ (zg.1 HX34.out).1).trans HX34.out,(HB5.out.block _ (zg.1 HX4.out).1).trans HX4.out,heap_alloc_new _ _,HLA4.out.below HB5.out,HLB.out.below HB5.out,hl2.below (zD _ _)⟩
  clear hl2 hc2 hb5
  go_upto_region 7 with fail
  generalize w5.alloc (rootB A5 l2.length c5 0)=W5 at *
  refine wp_region_held_drew (S:=(fun w'=>((w'.cell? ⟨w1.heap.size,0,none⟩=some (.slice A1 a.length c1)∧w'.cell? ⟨w1.heap.size,1,none⟩=some (.int .i64 (i:Int))∧w'.cell? ⟨w1.heap.size+1,0,none⟩=some (.slice A2 b.length c2)∧w'.cell? ⟨w1.heap.size+1,1,none⟩=some (.int .i64 (k:Int)))∧((w'.cell? ⟨w3.heap.size,0,none⟩=some (.slice A3 l2.length c3)∧w'.cell? ⟨w3.heap.size,1,none⟩=some (.int .i64 0))∧(w'.cell? ⟨w4.heap.size,0,none⟩=some (.slice A4 lb.length c4)∧w'.cell? ⟨w4.heap.size,1,none⟩=some (.int .i64 0))∧w'.cell? ⟨w5.heap.size,0,none⟩=some (.slice A5 l2.length c5)∧w'.cell? ⟨w5.heap.size,1,none⟩=some (.int .i64 0)))∧Hid (LgS w1 w2 A1 a c1 i A2 b c2 k w3.heap.size A3 l2 c3 w4.heap.size A4 lb c4 w5.heap.size A5 c5 w'))) (by kernel_rfl) ?_ (fun zH_=>?_)
  ·(try dsimp only);exact (HQ5.out.step (zE (Below.refl _ _) 1)).hold
  refine tL 0 _ zH_ ?_
  try simp only[ps]
  refine tL 1 _ zH_ ?_
  try simp only[ps]
  refine tL 2 _ zH_ ?_
  try simp only[ps]
  refine tL 3 _ zH_ ?_
  try simp only[ps]
  refine tL 4 _ zH_ ?_
  try simp only[ps]
  refine tL 5 _ zH_ ?_
  try simp only[ps]
  refine tL 6 _ zH_ ?_
  try simp only[ps]
  refine tL 7 _ zH_ ?_
  try simp only[ps]
  refine tL 8 _ zH_ ?_
  try simp only[ps]
  refine tL 9 _ zH_ ?_
  try simp only[ps]
  refine tL 10 _ zH_ ?_
  try simp only[ps]
  refine tL 11 _ zH_ ?_
  try simp only[ps]
  refine tL 12 _ zH_ ?_
  try simp only[ps]
  refine tR 13 (fun K hK=>?_)
  go_simp
  (refine (wire_any a i l2 0 A1 c1 A3 c3 _ zH_.2.out.q.a zH_.2.out.ra).mono ?_;rintro e w6 ⟨v6,rfl,h6,hbz⟩;obtain rfl:=canon_wired HRA.out.1 HRA.out.2.2.2.2 HCA.out h6)
  refine hK.out _ _ ?_ (fun zH_=>?_)
  ·(try dsimp only);exact (zH_.2.out.step hbz).hold
  clear hK K
  try simp only[ps]
  refine tL 14 _ zH_ ?_
  try simp only[ps]
  refine tL 15 _ zH_ ?_
  try simp only[ps]
  refine tL 16 _ zH_ ?_
  try simp only[ps]
  refine tL 17 _ zH_ ?_
  try simp only[ps]
  refine tR 18 (fun K hK=>?_)
  go_simp
  (refine (rSameRoot_any l2 0 l2 0 A5 c5 A3 c3 _ zH_.2.out.r2 zH_.2.out.ra).mono ?_;rintro e w7 ⟨rfl,hbz⟩;rw[show (decide ((0:Int)=0)&&decide (l2=l2))=true by simp])
  refine hK.out _ _ ?_ (fun zH_=>?_)
  ·(try dsimp only);exact (zH_.2.out.step hbz).hold
  clear hK K
  try simp only[ps]
  refine tL 19 _ zH_ ?_
  try simp only[ps]
  refine tL 20 _ zH_ ?_
  try simp only[ps]
  refine tL 21 _ zH_ ?_
  try simp only[ps]
  refine tL 22 _ zH_ ?_
  try simp only[ps]
  refine tL 24 _ zH_ ?_
  try simp only[ps]
  refine tL 25 _ zH_ ?_
  try simp only[ps]
  refine tR 23 (fun K hK=>?_)
  go_simp
  (refine (wire_any a i b k A1 c1 A2 c2 _ zH_.2.out.q.a zH_.2.out.q.b).mono ?_;rintro e w8 ⟨v8,rfl,h8,hbz⟩;obtain rfl:=canon_same HRA.out.1 HRB.out.1 HRA.out.2.2.2.2 HRB.out.2.2.2.2 HCA.out HCB.out h8;obtain ⟨X,hX⟩:∃X,X=decide (l2=lb):=⟨_,rfl⟩;rw[←hX];have HX:=zh hX)
  refine hK.out _ _ ?_ (fun zH_=>?_)
  ·(try dsimp only);exact (zH_.2.out.step hbz).hold
  clear hK K
  try simp only[ps]
  refine tR 26 (fun K hK=>?_)
  go_simp
  (refine (rSameRoot_any l2 0 lb 0 A3 c3 A4 c4 _ zH_.2.out.ra zH_.2.out.rb).mono ?_;rintro e w9 ⟨rfl,hbz⟩;rw[show (decide ((0:Int)=0)&&decide (l2=lb))=X by rw[HX.out];simp])
  refine hK.out _ _ ?_ (fun zH_=>?_)
  ·(try dsimp only);exact (zH_.2.out.step hbz).hold
  clear hK K
  try simp only[ps]
  refine tL 27 _ zH_ ?_
  try simp only[ps]
  refine tL 28 _ zH_ ?_
  try simp only[ps]
  refine tL 29 _ zH_ ?_
  try simp only[ps]
  refine wpAnyH_done (by kernel_rfl) ?_ _
  have HE:=zh (zA HB2.out zH_.2.out.q.bel)
  clear zH_
  go_wp2
  go_ret
  exact ⟨by simp,HE.out⟩
end Go.Proofs.YtkhpajneinmmiaaGreatDoor


