/-
  Walks: the law CanonDistinguish.
-/
import Derived.Test.YtkhpajneinmmiaaGreatDoorQROG
import Derived.Test.YtkhpajneinmmiaaGreatDoorQLAWG
import Derived.Test.YtkhpajneinmmiaaGreatDoorQDX1
import Derived.Test.YtkhpajneinmmiaaGreatDoorQEXG
namespace Go.Proofs.YtkhpajneinmmiaaGreatDoor
open Go.RowKit
set_option maxHeartbeats 16000000
set_option maxRecDepth 100000
theorem dist_wire {a b:List TyD} {i k:Nat} {l:List Int} {e:Int} {v:Bool} (h:DistIs a (i:Int) b (k:Int) l e) (hv:EqvIs false a (i:Int) b (k:Int) v) (ha:RootOk a i) (hb:RootOk b k):(e==15)=v:=by
 have ea:=rootOk_err ha
 have eb:=rootOk_err hb
 obtain ⟨U,hU,e4⟩:=hv.1 ea eb
 have ha5:=ha.2.2.2.2
 have hb5:=hb.2.2.2.2
 have hw:=wire_iff ha.1 hb.1 (ta:=(i:Int)) (tb:=(k:Int)) ⟨⟨by omega,by omega⟩,by omega,by omega⟩ hU
 rw[←e4] at hw
 unfold DistIs at h
 rw[if_neg (by simp[ea]),if_neg (by simp[eb])] at h
 rcases h with ⟨rfl,⟨t,hw',hb'⟩,_⟩|⟨rfl,_,h3⟩
 ·cases v with
  | false=>rfl
  | true=>exact absurd hb' (hw.1 rfl _ _ hw')
 ·rw[hw.2 h3];rfl
theorem lawDist_any (s:List NodeD) (l:List ChgD) (p q:Nat) (A:Option Addr) (c:Nat) (B:Option Addr) (d:Nat) (w:World) (hr:PairR w A s B l p q) (htab:Tab w) :
  Calls Tryz.prog 8 #[pchV A s.length c B l.length d p q] w (SamePost true w):=by
 have HD:=zh hr.1
 have HL:=zh hr.2.1
 have HPQ:=zh hr.2.2
 have HTB:=zh htab
 have HB0:=zh (zD w (pairB A s.length c B l.length d p q))
 clear hr htab
 go_enter Tryz.func8,Tryz.ntmps8
 go_wp2_with fail
 refine (roots_any s l p q A c B d _ (HD.out.below HB0.out) (HL.out.below HB0.out) HPQ.out.1 HPQ.out.2).mono ?_
 rintro e w1 ⟨A1,c1,a,i,A2,c2,b,k,ok,rfl,ha,hb,hok,hb1⟩
 have HOK:=zh hok
 have HB1:=zh (zA HB0.out (zA hb1 (zC w1 (rootB A1 a.length c1 i) (rootB A2 b.length c2 k))))
 have HA1:=zh (ha.below (zC w1 (rootB A1 a.length c1 i) (rootB A2 b.length c2 k)))
 have HA2:=zh (hb.below (zC w1 (rootB A1 a.length c1 i) (rootB A2 b.length c2 k)))
 have HT1:=zh (two_new w1 A1 a.length c1 i A2 b.length c2 k)
 clear ha hb hok hb1
 go_wp2_with fail
 generalize (w1.alloc (rootB A1 a.length c1 i)).alloc (rootB A2 b.length c2 k)=W1 at *
 refine (awake_any _ (HTB.out.below HB1.out)).mono ?_
 rintro e w2 ⟨rfl,hb2⟩
 have HB2:=zh (zA HB1.out hb2)
 have HQ:Hid (LqS w1 w2 A1 a c1 i A2 b c2 k w2):=⟨HT1.out.below hb2,HA1.out.below hb2,HA2.out.below hb2,Below.refl _ _⟩
 clear hb2 HT1 HA1 HA2
 cases ok with
 | false =>
  go_wp2_with fail
  refine (awake_any _ (HTB.out.below HB2.out)).mono ?_
  rintro e w3 ⟨rfl,hb3⟩
  have HB3:=zh (zA HB2.out hb3)
  clear hb3
  go_wp2
  go_ret
  exact ⟨rfl,HB3.out⟩
 | true =>
  have HRA:=zh (HOK.out rfl).1
  have HRB:=zh (HOK.out rfl).2
  obtain ⟨⟨k0,k1,k2,k3⟩,_⟩:=HQ.out.hold
  go_wp2_with fail
  refine (distinguish_any a i b k A1 c1 A2 c2 _ HQ.out.a HQ.out.b).mono ?_
  rintro e w3 ⟨A3,c3,l3,e3,rfl,hl3,hd3,hb3⟩
  have HD3:=zh hd3
  have HL3:=zh hl3
  have HQ3:=zh (HQ.out.step hb3)
  clear k0 k1 k2 k3 hl3 hd3 hb3
  obtain ⟨⟨k0,k1,k2,k3⟩,_⟩:=HQ3.out.hold
  go_wp2_with fail
  refine (rDist_any a i b k A1 c1 A2 c2 _ HQ3.out.a HQ3.out.b).mono ?_
  rintro e w4 ⟨A4,c4,l4,e4,rfl,hl4,hd4,hb4⟩
  obtain ⟨rfl,rfl⟩:=hd4.unique HD3.out
  have HL4:=zh hl4
  have HL34:=zh (HL3.out.below hb4)
  have HQ4:=zh (HQ3.out.step hb4)
  have q1:(e4==e4)=true:=by simp
  clear k0 k1 k2 k3 hl4 hd4 hb4
  go_wp2_with fail
  refine (equalInts_any l4 l4 A3 A4 c3 c4 _ HL34.out HL4.out).mono ?_
  rintro e w5 ⟨rfl,hb5⟩
  rw[show decide (l4=l4)=true by simp]
  have HQ5:=zh (HQ4.out.step hb5)
  clear hb5
  obtain ⟨⟨k0,k1,k2,k3⟩,_⟩:=HQ5.out.hold
  go_wp2_with fail
  refine (wire_any a i b k A1 c1 A2 c2 _ HQ5.out.a HQ5.out.b).mono ?_
  rintro e w6 ⟨v6,rfl,h6,hb6⟩
  obtain rfl:=dist_wire HD3.out h6 HRA.out HRB.out
  have HB6:=zh (zA HB2.out (HQ5.out.step hb6).bel)
  clear k0 k1 k2 k3 h6 hb6
  go_wp2
  go_ret
  exact ⟨by simp,HB6.out⟩
end Go.Proofs.YtkhpajneinmmiaaGreatDoor


