/-
  Walks: the law CanonEquivalent.
-/
import Derived.Test.YtkhpajneinmmiaaGreatDoorQROG
import Derived.Test.YtkhpajneinmmiaaGreatDoorQRCA
import Derived.Test.YtkhpajneinmmiaaGreatDoorQPL
import Derived.Test.YtkhpajneinmmiaaGreatDoorQLAWG
namespace Go.Proofs.YtkhpajneinmmiaaGreatDoor
open Go.RowKit
set_option maxHeartbeats 16000000
set_option maxRecDepth 100000
theorem lawEquiv_any (s:List NodeD) (l:List ChgD) (p q:Nat) (A:Option Addr) (c:Nat) (B:Option Addr) (d:Nat) (w:World) (hr:PairR w A s B l p q) (htab:Tab w) :
  Calls Tryz.prog 3 #[pchV A s.length c B l.length d p q] w (SamePost true w):=by
 have HD:=zh hr.1
 have HL:=zh hr.2.1
 have HPQ:=zh hr.2.2
 have HTB:=zh htab
 have HB0:=zh (zD w (pairB A s.length c B l.length d p q))
 clear hr htab
 go_enter Tryz.func3,Tryz.ntmps3
 go_wp2_with fail
 refine (roots_any s l p q A c B d _ (HD.out.below HB0.out) (HL.out.below HB0.out) HPQ.out.1 HPQ.out.2).mono ?_
 rintro e w1 ⟨A1,c1,a,i,A2,c2,b,k,ok,rfl,ha,hb,hok,hb1⟩
 have HOK:=zh hok
 have HB1:=zh (zA HB0.out (zA hb1 (zC w1 (rootB A1 a.length c1 i) (rootB A2 b.length c2 k))))
 have HA1:=zh (ha.below (zC w1 (rootB A1 a.length c1 i) (rootB A2 b.length c2 k)))
 have HA2:=zh (hb.below (zC w1 (rootB A1 a.length c1 i) (rootB A2 b.length c2 k)))
 have HT1:=zh (two_new w1 A1 a.length c1 i A2 b.length c2 k)
 clear ha hb hok hb1
 go_wp2_with fail
 generalize (w1.alloc (rootB A1 a.length c1 i)).alloc (rootB A2 b.length c2 k)=W1 at *
 refine (awake_any _ (HTB.out.below HB1.out)).mono ?_
 rintro e w2 ⟨rfl,hb2⟩
 have HB2:=zh (zA HB1.out hb2)
 have HQ:Hid (LqS w1 w2 A1 a c1 i A2 b c2 k w2):=⟨HT1.out.below hb2,HA1.out.below hb2,HA2.out.below hb2,Below.refl _ _⟩
 clear hb2 HT1 HA1 HA2
 cases ok with
 | false =>
  go_wp2_with fail
  refine (awake_any _ (HTB.out.below HB2.out)).mono ?_
  rintro e w3 ⟨rfl,hb3⟩
  have HB3:=zh (zA HB2.out hb3)
  clear hb3
  go_wp2
  go_ret
  exact ⟨rfl,HB3.out⟩
 | true =>
  have HRA:=zh (HOK.out rfl).1
  have HRB:=zh (HOK.out rfl).2
  go_wp2_with fail
  refine wp_region_held_drew (S:=(fun w'=>(w'.cell? ⟨w1.heap.size,0,none⟩=some (.slice A1 a.length c1)∧w'.cell? ⟨w1.heap.size,1,none⟩=some (.int .i64 (i:Int))∧w'.cell? ⟨w1.heap.size+1,0,none⟩=some (.slice A2 b.length c2)∧w'.cell? ⟨w1.heap.size+1,1,none⟩=some (.int .i64 (k:Int)))∧Hid (LqS w1 w2 A1 a c1 i A2 b c2 k w'))) (by kernel_rfl) ?_ (fun zH_=>?_)
  ·(try dsimp only);exact (HQ.out.step (zE (Below.refl _ _) 1)).hold
  refine tL 0 _ zH_ ?_
  try simp only[ps]
  refine tL 1 _ zH_ ?_
  try simp only[ps]
  refine tL 3 _ zH_ ?_
  try simp only[ps]
  refine tL 4 _ zH_ ?_
  try simp only[ps]
  refine tR 2 (fun K hK=>?_)
  go_simp
  (refine (equivalent_any a i b k A1 c1 A2 c2 _ zH_.2.out.a zH_.2.out.b).mono ?_;rintro e w5 ⟨n1,rfl,hn1,hbz⟩;have HN1:=zh hn1)
  refine hK.out _ _ ?_ (fun zH_=>?_)
  ·(try dsimp only);exact (zH_.2.out.step hbz).hold
  clear hK K
  try simp only[ps]
  refine tR 5 (fun K hK=>?_)
  go_simp
  (refine (wire_any a i b k A1 c1 A2 c2 _ zH_.2.out.a zH_.2.out.b).mono ?_;rintro e w6 ⟨x1,rfl,hx1,hbz⟩;have HX1:=zh hx1)
  refine hK.out _ _ ?_ (fun zH_=>?_)
  ·(try dsimp only);exact (zH_.2.out.step hbz).hold
  clear hK K
  try simp only[ps]
  refine tL 6 _ zH_ ?_
  try simp only[ps]
  refine tL 7 _ zH_ ?_
  try simp only[ps]
  refine wpAnyH_done (by kernel_rfl) ?_ _
  have HQ6:=zh zH_.2.out
  have HLS:=zh (eqv_less HN1.out HX1.out HRA.out.1 HRB.out.1 HRA.out.2.2.2.2 HRB.out.2.2.2.2)
  have hcase:n1=false∧x1=false∨n1=false∧x1=true∨n1=true∧x1=true:=by
   have:=HLS.out
   cases n1 <;> cases x1 <;> simp_all
  clear zH_ hn1 hx1 hbz
  rcases hcase with ⟨rfl,rfl⟩|⟨rfl,rfl⟩|⟨rfl,rfl⟩
  all_goals
   obtain ⟨⟨k0,k1,k2,k3⟩,_⟩:=HQ6.out.hold
   go_wp2_with fail
   refine (rEquiv_any true a i b k A1 c1 A2 c2 _ HQ6.out.a HQ6.out.b).mono ?_
   rintro e w7 ⟨v7,rfl,h7,hb7⟩
   obtain rfl:=EqvIs.unique HN1.out h7
   have HQ7:=zh (HQ6.out.step hb7)
   clear k0 k1 k2 k3 h7 hb7
   obtain ⟨⟨k0,k1,k2,k3⟩,_⟩:=HQ7.out.hold
   go_wp2_with fail
   refine (rWire_any a i b k A1 c1 A2 c2 _ HQ7.out.a HQ7.out.b).mono ?_
   rintro e w8 ⟨v8,rfl,h8,hb8⟩
   obtain rfl:=EqvIs.unique HX1.out h8
   have HQ8:=zh (HQ7.out.step hb8)
   clear k0 k1 k2 k3 h8 hb8
   obtain ⟨⟨k0,k1,k2,k3⟩,_⟩:=HQ8.out.hold
   go_wp2_with fail
   refine (equivalent_any a i a i A1 c1 A1 c1 _ HQ8.out.a HQ8.out.a).mono ?_
   rintro e w9 ⟨v9,rfl,h9,hb9⟩
   obtain rfl:=eqv_self h9 HRA.out.1 HRA.out.2.2.2.2
   have HQ9:=zh (HQ8.out.step hb9)
   clear k0 k1 k2 k3 h9 hb9
   obtain ⟨⟨k0,k1,k2,k3⟩,_⟩:=HQ9.out.hold
   go_wp2_with fail
   refine (wire_any b k a i A2 c2 A1 c1 _ HQ9.out.b HQ9.out.a).mono ?_
   rintro e w10 ⟨v10,rfl,h10,hb10⟩
   obtain rfl:=eqv_turn HX1.out h10 HRA.out.1 HRB.out.1 HRA.out.2.2.2.2 HRB.out.2.2.2.2
   have HB10:=zh (zA HB2.out (HQ9.out.step hb10).bel)
   clear k0 k1 k2 k3 h10 hb10
   go_wp2
   go_ret
   exact ⟨by simp,HB10.out⟩
end Go.Proofs.YtkhpajneinmmiaaGreatDoor


