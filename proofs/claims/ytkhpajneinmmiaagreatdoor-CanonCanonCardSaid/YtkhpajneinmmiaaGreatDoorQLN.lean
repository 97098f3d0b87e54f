/-
  Walks: the law CanonCanon.
-/
import Derived.Test.YtkhpajneinmmiaaGreatDoorQROG
import Derived.Test.YtkhpajneinmmiaaGreatDoorQLAWG
import Derived.Test.YtkhpajneinmmiaaGreatDoorQRQ1
import Derived.Test.YtkhpajneinmmiaaGreatDoorQDSA
namespace Go.Proofs.YtkhpajneinmmiaaGreatDoor
open Go.RowKit
set_option maxHeartbeats 16000000
set_option maxRecDepth 100000
theorem lawCanon_any (s:List NodeD) (l:List ChgD) (p q:Nat) (A:Option Addr) (c:Nat) (B:Option Addr) (d:Nat) (w:World) (hr:PairR w A s B l p q) (htab:Tab w) :
  Calls Tryz.prog 5 #[pchV A s.length c B l.length d p q] w (SamePost true w):=by
 have HD:=zh hr.1
 have HL:=zh hr.2.1
 have HPQ:=zh hr.2.2
 have HTB:=zh htab
 have HB0:=zh (zD w (pairB A s.length c B l.length d p q))
 clear hr htab
 go_enter Tryz.func5,Tryz.ntmps5
 go_wp2_with fail
 refine (roots_any s l p q A c B d _ (HD.out.below HB0.out) (HL.out.below HB0.out) HPQ.out.1 HPQ.out.2).mono ?_
 rintro e w1 ⟨A1,c1,a,i,A2,c2,b,k,ok,rfl,ha,hb,hok,hb1⟩
 have HOK:=zh hok
 have HB1:=zh (zA HB0.out (zA hb1 (zC w1 (rootB A1 a.length c1 i) (rootB A2 b.length c2 k))))
 have HA1:=zh (ha.below (zC w1 (rootB A1 a.length c1 i) (rootB A2 b.length c2 k)))
 have HA2:=zh (hb.below (zC w1 (rootB A1 a.length c1 i) (rootB A2 b.length c2 k)))
 have HT1:=zh (two_new w1 A1 a.length c1 i A2 b.length c2 k)
 clear ha hb hok hb1
 go_wp2_with fail
 generalize (w1.alloc (rootB A1 a.length c1 i)).alloc (rootB A2 b.length c2 k)=W1 at *
 refine (awake_any _ (HTB.out.below HB1.out)).mono ?_
 rintro e w2 ⟨rfl,hb2⟩
 have HB2:=zh (zA HB1.out hb2)
 have HQ:Hid (LqS w1 w2 A1 a c1 i A2 b c2 k w2):=⟨HT1.out.below hb2,HA1.out.below hb2,HA2.out.below hb2,Below.refl _ _⟩
 clear hb2 HT1 HA1 HA2
 cases ok with
 | false =>
  go_wp2_with fail
  refine (awake_any _ (HTB.out.below HB2.out)).mono ?_
  rintro e w3 ⟨rfl,hb3⟩
  have HB3:=zh (zA HB2.out hb3)
  clear hb3
  go_wp2
  go_ret
  exact ⟨rfl,HB3.out⟩
 | true =>
  have HRA:=zh (HOK.out rfl).1
  have HTB2:=zh (HTB.out.below HB2.out)
  obtain ⟨⟨k0,k1,_,_⟩,_⟩:=HQ.out.hold
  go_wp2_with fail
  refine (canon_any a (i:Int) A1 c1 _ HQ.out.a HTB2.out).mono ?_
  rintro e w3 ⟨A3,c3,la,rfl,hla,hca,_,hb3⟩
  rw[rootOk_err HRA.out] at hca ⊢
  have HCA:=zh (hca rfl)
  have HQ3:=zh (HQ.out.step (zA hb3 (zD w3 (rootB A3 la.length c3 0))))
  have HLA:=zh (hla.below (zD w3 (rootB A3 la.length c3 0)))
  have HX3:=zh (heap_alloc_new w3 (rootB A3 la.length c3 0))
  clear k0 k1 hla hca hb3
  obtain ⟨⟨k0,k1,_,_⟩,_⟩:=HQ3.out.hold
  go_wp2_with fail
  clear k0 k1
  generalize w3.alloc (rootB A3 la.length c3 0)=W3 at *
  refine (rCanon_any a (i:Int) A1 c1 _ HQ3.out.a (HTB2.out.below HQ3.out.bel)).mono ?_
  rintro e w4 ⟨A4,c4,lb,rfl,hlb,hcb,_,hb4⟩
  rw[rootOk_err HRA.out] at hcb ⊢
  obtain rfl:lb=la:=(hcb rfl).unique HCA.out
  have HB4:=zh (zA hb4 (zD w4 (rootB A4 lb.length c4 0)))
  have HQ4:=zh (HQ3.out.step HB4.out)
  have HLB:=zh (hlb.below (zD w4 (rootB A4 lb.length c4 0)))
  have HLA4:=zh (HLA.out.below HB4.out)
  have HX4:=zh (heap_alloc_new w4 (rootB A4 lb.length c4 0))
  have HX34:=zh ((HB4.out.block _ (zg.1 HX3.out).1).trans HX3.out)
  obtain ⟨⟨k0,k1,_,_⟩,_⟩:=HQ4.out.hold
  clear hlb hcb hb4
  go_wp2_with fail
  clear k0 k1
  generalize w4.alloc (rootB A4 lb.length c4 0)=W4 at *
  refine (size_any a (i:Int) A1 c1 _ HQ4.out.a (HTB2.out.below HQ4.out.bel)).mono ?_
  rintro e w5 ⟨l5,rfl,h5,_,hb5⟩
  rw[rootOk_err HRA.out] at h5 ⊢
  obtain rfl:l5=lb:=(h5 rfl).unique HCA.out
  have HX5:=zh ((hb5.block _ (zg.1 HX4.out).1).trans HX4.out)
  have HX35:=zh ((hb5.block _ (zg.1 HX34.out).1).trans HX34.out)
  have HL5:=zh (HLA4.out.below hb5)
  have HM5:=zh (HLB.out.below hb5)
  have HB5:=zh (zA HB2.out (HQ4.out.step hb5).bel)
  have k0:w5.cell? ⟨w3.heap.size,0,none⟩=some (.slice A3 l5.length c3):=by rw[cell_of_row _ _ _ _ _ _ HX35.out];rfl
  have k1:w5.cell? ⟨w3.heap.size,1,none⟩=some (.int .i64 0):=by rw[cell_of_row _ _ _ _ _ _ HX35.out];rfl
  have k2:w5.cell? ⟨w4.heap.size,0,none⟩=some (.slice A4 l5.length c4):=by rw[cell_of_row _ _ _ _ _ _ HX5.out];rfl
  have k3:w5.cell? ⟨w4.heap.size,1,none⟩=some (.int .i64 0):=by rw[cell_of_row _ _ _ _ _ _ HX5.out];rfl
  clear h5 hb5
  go_wp2_with fail
  refine (rSameRoot_any l5 0 l5 0 A3 c3 A4 c4 _ HL5.out HM5.out).mono ?_
  rintro e w6 ⟨rfl,hb6⟩
  rw[show (decide ((0:Int)=0)&&decide (l5=l5))=true by simp]
  have k2:w6.cell? ⟨w4.heap.size,0,none⟩=some (.slice A4 l5.length c4):=by rw[cell_of_row _ _ _ _ _ _ ((hb6.block _ (zg.1 HX5.out).1).trans HX5.out)];rfl
  have HB6:=zh (zA HB5.out hb6)
  clear hb6
  go_wp2
  go_ret
  exact ⟨by simp,HB6.out⟩
end Go.Proofs.YtkhpajneinmmiaaGreatDoor


