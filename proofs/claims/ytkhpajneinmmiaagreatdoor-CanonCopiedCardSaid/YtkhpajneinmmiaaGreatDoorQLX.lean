/-
  Walks: the law CanonCopied.
-/
import Derived.Test.YtkhpajneinmmiaaGreatDoorQROG
import Derived.Test.YtkhpajneinmmiaaGreatDoorQLAWG
import Derived.Test.YtkhpajneinmmiaaGreatDoorQDX1
import Derived.Test.YtkhpajneinmmiaaGreatDoorQCO2
import Derived.Test.YtkhpajneinmmiaaGreatDoorQRCA
import Derived.Test.YtkhpajneinmmiaaGreatDoorQEXG
namespace Go.Proofs.YtkhpajneinmmiaaGreatDoor
open Go.RowKit
set_option maxHeartbeats 16000000
set_option maxRecDepth 100000
theorem there_root1 {w:World} {b:Nat} {A:Option Addr} {n c:Nat} {t:Int} (h:w.heap[b]? = some (rootB A n c t)):w.there b 0 1:=fun j hj=>by
 obtain rfl:j=0:=by omega
 refine ⟨?_,frozen_of_row _ _ _ _ _ h⟩
 rw[cell_of_row _ _ _ _ _ _ h]
 rfl
theorem schema_info:(Tryz.prog.info? 30).map (·.size)=some 1:=by kernel_rfl
theorem schema_one (A:Option Addr) (n c:Nat):(#[Value.slice A n c]).all (·.oneCell')=true:=by simp[Value.oneCell']
theorem root_schema {w:World} {b:Nat} {A:Option Addr} {n c:Nat} {t:Int} (h:w.heap[b]? = some (rootB A n c t)) (B:Option Addr) (m d:Nat):(w.setCells b 0 [.slice B m d]).heap[b]? = some (rootB B m d t):=by
 rw[World.setCells,World.setCells,heap_setCell_same _ _ 0 _ _ _ h]
 rfl
theorem lx_end {w1 W:World} {A1:Option Addr} {n1 c1:Nat} {ta:Int} {A2:Option Addr} {n2 c2:Nat} {tb:Int} (h:TwoB w1 W A1 n1 c1 ta A2 n2 c2 tb) {A3:Option Addr} {la:List TyD} {A4:Option Addr} {lb:List TyD} (ha:TysR W A3 la) (hb:TysR W A4 lb) (c3 c4:Nat) :
  TwoB w1 ((W.setCells w1.heap.size 0 [.slice A3 la.length c3]).setCells (w1.heap.size+1) 0 [.slice A4 lb.length c4]) A3 la.length c3 ta A4 lb.length c4 tb ∧
  TysR ((W.setCells w1.heap.size 0 [.slice A3 la.length c3]).setCells (w1.heap.size+1) 0 [.slice A4 lb.length c4]) A3 la ∧
  TysR ((W.setCells w1.heap.size 0 [.slice A3 la.length c3]).setCells (w1.heap.size+1) 0 [.slice A4 lb.length c4]) A4 lb:=by
 have k1:=root_schema h.a A3 la.length c3
 have k2:(W.setCells w1.heap.size 0 [.slice A3 la.length c3]).heap[w1.heap.size+1]? = _:=(zI (by omega) _ _ _).trans h.b
 have b1:Bes2 w1.heap.size W (W.setCells w1.heap.size 0 [.slice A3 la.length c3]):=⟨⟨_,_,_,_,_,_,h.a⟩,fun q hq _=>zI hq _ _ _⟩
 have ha2:=ha.bes2 b1
 have hb2:=hb.bes2 b1
 have hB:=zV w1.heap.size (Nat.le_refl _) [.slice A3 la.length c3] 0 _ h.bel
 generalize W.setCells w1.heap.size 0 [.slice A3 la.length c3]=W2 at *
 have b2:Bes2 (w1.heap.size+1) W2 (W2.setCells (w1.heap.size+1) 0 [.slice A4 lb.length c4]):=⟨⟨_,_,_,_,_,_,k2⟩,fun q hq _=>zI hq _ _ _⟩
 exact ⟨⟨(zI (by omega) _ _ _).trans k1,root_schema k2 A4 lb.length c4,zV _ (Nat.le_succ _) _ _ _ hB⟩,ha2.bes2 b2,hb2.bes2 b2⟩
theorem LqS.rest {w1 w2:World} {A1:Option Addr} {a:List TyD} {c1 i:Nat} {A2:Option Addr} {b:List TyD} {c2 k:Nat} {w':World} (h:LqS w1 w2 A1 a c1 i A2 b c2 k w'):LqS w1 w' A1 a c1 i A2 b c2 k w':=⟨h.two,h.a,h.b,Below.refl _ _⟩
theorem lx_hold {w1 w2:World} {A1:Option Addr} {a:List TyD} {c1 i:Nat} {A2:Option Addr} {b:List TyD} {c2 k:Nat} {w':World} (h:LqS w1 w2 A1 a c1 i A2 b c2 k w') :
  (w'.cell? ⟨w1.heap.size,0,none⟩=some (.slice A1 a.length c1)∧w'.cell? ⟨w1.heap.size+1,0,none⟩=some (.slice A2 b.length c2))∧Hid (LqS w1 w2 A1 a c1 i A2 b c2 k w') :=
 ⟨⟨h.hold.1.1,h.hold.1.2.2.1⟩,h⟩
theorem lawCopied_any (s:List NodeD) (l:List ChgD) (p q x y:Nat) (A:Option Addr) (c:Nat) (B:Option Addr) (d:Nat) (w:World) (hr:PairR w A s B l p q) (htab:Tab w) :
  Calls Tryz.prog 9 #[pchV A s.length c B l.length d p q,.int .u64 x,.int .u64 y] w (SamePost true w):=by
 have HD:=zh hr.1
 have HL:=zh hr.2.1
 have HPQ:=zh hr.2.2
 have HTB:=zh htab
 have HB0:=zh (zD w (pairB A s.length c B l.length d p q))
 clear hr htab
 go_enter Tryz.func9,Tryz.ntmps9
 go_wp2_with fail
 refine (roots_any s l p q A c B d _ (HD.out.below HB0.out) (HL.out.below HB0.out) HPQ.out.1 HPQ.out.2).mono ?_
 rintro e w1 ⟨A1,c1,a,i,A2,c2,b,k,ok,rfl,ha,hb,hok,hb1⟩
 have HOK:=zh hok
 have HBW1:=zh (zA HB0.out hb1)
 have HB1:=zh (zA HB0.out (zA hb1 (zC w1 (rootB A1 a.length c1 i) (rootB A2 b.length c2 k))))
 have HA1:=zh (ha.below (zC w1 (rootB A1 a.length c1 i) (rootB A2 b.length c2 k)))
 have HA2:=zh (hb.below (zC w1 (rootB A1 a.length c1 i) (rootB A2 b.length c2 k)))
 have HT1:=zh (two_new w1 A1 a.length c1 i A2 b.length c2 k)
 clear ha hb hok hb1
 go_wp2_with fail
 generalize (w1.alloc (rootB A1 a.length c1 i)).alloc (rootB A2 b.length c2 k)=W1 at *
 refine (awake_any _ (HTB.out.below HB1.out)).mono ?_
 rintro e w2 ⟨rfl,hb2⟩
 have HB2:=zh (zA HB1.out hb2)
 have HQ:Hid (LqS w1 w2 A1 a c1 i A2 b c2 k w2):=⟨HT1.out.below hb2,HA1.out.below hb2,HA2.out.below hb2,Below.refl _ _⟩
 clear hb2 HT1 HA1 HA2
 cases ok with
 | false =>
  go_wp2_with fail
  refine (awake_any _ (HTB.out.below HB2.out)).mono ?_
  rintro e w3 ⟨rfl,hb3⟩
  have HB3:=zh (zA HB2.out hb3)
  clear hb3
  go_wp2
  go_ret
  exact ⟨rfl,HB3.out⟩
 | true =>
  have HRA:=zh (HOK.out rfl).1
  have HRB:=zh (HOK.out rfl).2
  go_upto_region 4 with fail
  go_cut [] (fun wx=>∃ (la lb:List TyD) (A3:Option Addr) (c3:Nat) (A4:Option Addr) (c4:Nat),Hid (LqS w1 wx A3 la c3 i A4 lb c4 k wx))
  case first =>
   refine yD (S:=(fun w'=>(w'.cell? ⟨w1.heap.size,0,none⟩=some (.slice A1 a.length c1)∧w'.cell? ⟨w1.heap.size+1,0,none⟩=some (.slice A2 b.length c2))∧Hid (LqS w1 w2 A1 a c1 i A2 b c2 k w'))) 9 (by kernel_rfl) ?_ (fun zH_=>?_)
   ·(try dsimp only);exact lx_hold (HQ.out.step (zE (Below.refl _ _) 1))
   refine tC 0 _ zH_ ?_
   try simp only[ps]
   refine tB 1 _ zH_ ?_
   try simp only[ps]
   refine tC 2 _ zH_ ?_
   try simp only[ps]
   refine tC 4 _ zH_ ?_
   try simp only[ps]
   refine tC 6 _ zH_ ?_
   try simp only[ps]
   refine zZ (rs:=[3,5]) (by kernel_rfl) (by simp) ?_
   refine (AllReadyB.cons rfl (fun K hK=>?_) (AllReadyB.cons rfl (fun K hK=>?_) AllReadyB.nil))
   ·
    go_simp
    (refine (copied18_any a x A1 c1 _ zH_.2.out.a HRA.out.1 HRA.out.2.1 HRA.out.2.2.1 HRA.out.2.2.2.1).mono ?_;rintro e w5 ⟨A3,c3,la,rfl,hla,_,hb5⟩;have HQ5:=zh (zH_.2.out.step hb5);have HLA:=zh hla;clear hla hb5)
    refine hK.out _ _ ?_ (fun zH_=>?_)
    ·(try dsimp only);exact lx_hold HQ5.out
    clear hK K
    try simp only[ps]
    refine tC 8 _ zH_ ?_
    try simp only[ps]
    refine tS 5 (fun K hK=>?_)
    go_simp
    refine hK.out _ _ ?_ (fun zH_=>?_)
    ·(try dsimp only);exact zH_
    clear hK K
    try simp only[ps]
    refine tS 7 (fun K hK=>?_)
    go_simp
    (refine (copied18_any b y A2 c2 _ zH_.2.out.b HRB.out.1 HRB.out.2.1 HRB.out.2.2.1 HRB.out.2.2.2.1).mono ?_;rintro e w6 ⟨A4,c4,lb,rfl,hlb,_,hb6⟩;have HQ6:=zh (HQ5.out.step hb6);have HLB:=zh hlb;have HLA6:=zh (HLA.out.below hb6);clear hlb hb6)
    refine hK.out _ _ ?_ (fun zH_=>?_)
    ·(try dsimp only);exact lx_hold HQ6.out
    clear hK K
    try simp only[ps]
    refine zZ (rs:=[9]) (by kernel_rfl) (by simp) ?_
    refine AllReadyB.last rfl (by kernel_rfl) (fun K hK=>?_) AllReadyB.nil
    (simp only[List.getElem_toArray,List.getElem_cons_zero,List.getElem_cons_succ];rw[if_pos (by rfl)];refine wp_store_mid 30 (.tmp 35) (.tmp 30) rfl (w1.heap.size) (0) (#[.slice A3 la.length c3]) (by rfl) (by rfl) ?_ ?_ ?_ ?_;(exact there_root1 HQ6.out.two.a);(exact schema_info);(exact schema_one A3 la.length c3))
    refine hK.out _ _ ?_
    clear hK K
    (try clear zH_)
    try simp only[ps]
    refine tkA 10 ?v6 rfl (by kernel_rfl) (.inl ⟨by rfl,?y6⟩) ?_
    case y6=>(intro w;go_simp;try with_reducible rfl)
    try simp only[ps]
    refine wpAny_ready (rs:=[11]) (by kernel_rfl) (by simp) ?_
    refine (AllReady.cons rfl (fun K hK=>?_) AllReady.nil)
    (simp only[List.getElem_toArray,List.getElem_cons_zero,List.getElem_cons_succ];rw[if_pos (by rfl)];refine wp_store_mid 30 (.tmp 36) (.tmp 34) rfl (w1.heap.size+1) (0) (#[.slice A4 lb.length c4]) (by rfl) (by rfl) ?_ ?_ ?_ ?_;(exact there_root1 ((zI (by omega) _ _ _).trans HQ6.out.two.b));(exact schema_info);(exact schema_one A4 lb.length c4))
    refine hK _ _ ?_
    clear hK K
    try simp only[ps]
    refine wpAny_done (by kernel_rfl) ?_ _
    (have HE6:=zh (lx_end HQ6.out.two HLA6.out HLB.out c3 c4);go_wp2;go_meet;exact ⟨la,lb,A3,c3,A4,c4,HE6.out.1,HE6.out.2.1,HE6.out.2.2,Below.refl _ _⟩)
   ·
    go_simp
    refine hK.out _ _ ?_ (fun zH_=>?_)
    ·(try dsimp only);exact zH_
    clear hK K
    try simp only[ps]
    refine tS 3 (fun K hK=>?_)
    go_simp
    (refine (copied18_any a x A1 c1 _ zH_.2.out.a HRA.out.1 HRA.out.2.1 HRA.out.2.2.1 HRA.out.2.2.2.1).mono ?_;rintro e w5 ⟨A3,c3,la,rfl,hla,_,hb5⟩;have HQ5:=zh (zH_.2.out.step hb5);have HLA:=zh hla;clear hla hb5)
    refine hK.out _ _ ?_ (fun zH_=>?_)
    ·(try dsimp only);exact lx_hold HQ5.out
    clear hK K
    try simp only[ps]
    refine tC 8 _ zH_ ?_
    try simp only[ps]
    refine tS 7 (fun K hK=>?_)
    go_simp
    (refine (copied18_any b y A2 c2 _ zH_.2.out.b HRB.out.1 HRB.out.2.1 HRB.out.2.2.1 HRB.out.2.2.2.1).mono ?_;rintro e w6 ⟨A4,c4,lb,rfl,hlb,_,hb6⟩;have HQ6:=zh (HQ5.out.step hb6);have HLB:=zh hlb;have HLA6:=zh (HLA.out.below hb6);clear hlb hb6)
    refine hK.out _ _ ?_ (fun zH_=>?_)
    ·(try dsimp only);exact lx_hold HQ6.out
    clear hK K
    try simp only[ps]
    refine zZ (rs:=[9]) (by kernel_rfl) (by simp) ?_
    refine AllReadyB.last rfl (by kernel_rfl) (fun K hK=>?_) AllReadyB.nil
    (simp only[List.getElem_toArray,List.getElem_cons_zero,List.getElem_cons_succ];rw[if_pos (by rfl)];refine wp_store_mid 30 (.tmp 35) (.tmp 30) rfl (w1.heap.size) (0) (#[.slice A3 la.length c3]) (by rfl) (by rfl) ?_ ?_ ?_ ?_;(exact there_root1 HQ6.out.two.a);(exact schema_info);(exact schema_one A3 la.length c3))
    refine hK.out _ _ ?_
    clear hK K
    (try clear zH_)
    try simp only[ps]
    refine tkA 10 ?v8 rfl (by kernel_rfl) (.inl ⟨by rfl,?y8⟩) ?_
    case y8=>(intro w;go_simp;try with_reducible rfl)
    try simp only[ps]
    refine wpAny_ready (rs:=[11]) (by kernel_rfl) (by simp) ?_
    refine (AllReady.cons rfl (fun K hK=>?_) AllReady.nil)
    (simp only[List.getElem_toArray,List.getElem_cons_zero,List.getElem_cons_succ];rw[if_pos (by rfl)];refine wp_store_mid 30 (.tmp 36) (.tmp 34) rfl (w1.heap.size+1) (0) (#[.slice A4 lb.length c4]) (by rfl) (by rfl) ?_ ?_ ?_ ?_;(exact there_root1 ((zI (by omega) _ _ _).trans HQ6.out.two.b));(exact schema_info);(exact schema_one A4 lb.length c4))
    refine hK _ _ ?_
    clear hK K
    try simp only[ps]
    refine wpAny_done (by kernel_rfl) ?_ _
    (have HE6:=zh (lx_end HQ6.out.two HLA6.out HLB.out c3 c4);go_wp2;go_meet;exact ⟨la,lb,A3,c3,A4,c4,HE6.out.1,HE6.out.2.1,HE6.out.2.2,Below.refl _ _⟩)
  case rest =>
  obtain ⟨la,lb,A3,c3,A4,c4,hcc⟩:=hcut
  have HQ7:=zh hcc.out
  clear hcc HQ
  obtain ⟨⟨k0,k1,k2,k3⟩,_⟩:=HQ7.out.hold
  go_wp2_with fail
  refine (distinguish_any la i lb k A3 c3 A4 c4 _ HQ7.out.a HQ7.out.b).mono ?_
  rintro e w8 ⟨A5,c5,l3,e3,rfl,hl3,hd3,hb8⟩
  have HD3:=zh hd3
  have HL3:=zh hl3
  have HQ8:=zh (HQ7.out.step hb8)
  clear k0 k1 k2 k3 hl3 hd3 hb8
  obtain ⟨⟨k0,k1,k2,k3⟩,_⟩:=HQ8.out.hold
  go_wp2_with fail
  refine (rDist_any la i lb k A3 c3 A4 c4 _ HQ8.out.a HQ8.out.b).mono ?_
  rintro e w9 ⟨A6,c6,l4,e4,rfl,hl4,hd4,hb9⟩
  obtain ⟨rfl,rfl⟩:=hd4.unique HD3.out
  have HL4:=zh hl4
  have HL34:=zh (HL3.out.below hb9)
  have HQ9:=zh (HQ8.out.step hb9).rest
  have q1:(e4==e4)=true:=by simp
  clear k0 k1 k2 k3 hl4 hd4 hb9
  go_upto_region 7 with fail
  refine wp_region_held_drew (S:=(fun w'=>(w'.cell? ⟨w1.heap.size,0,none⟩=some (.slice A3 la.length c3)∧w'.cell? ⟨w1.heap.size,1,none⟩=some (.int .i64 (i:Int))∧w'.cell? ⟨w1.heap.size+1,0,none⟩=some (.slice A4 lb.length c4)∧w'.cell? ⟨w1.heap.size+1,1,none⟩=some (.int .i64 (k:Int)))∧Hid (LqS w1 w9 A3 la c3 i A4 lb c4 k w'))) (by kernel_rfl) ?_ (fun zH_=>?_)
  ·(try dsimp only);exact (HQ9.out.step (zE (Below.refl _ _) 1)).hold
  refine tL 0 _ zH_ ?_
  try simp only[ps]
  refine tL 1 _ zH_ ?_
  try simp only[ps]
  refine tL 2 _ zH_ ?_
  try simp only[ps]
  refine tL 3 _ zH_ ?_
  try simp only[ps]
  refine tL 4 _ zH_ ?_
  try simp only[ps]
  refine tL 5 _ zH_ ?_
  try simp only[ps]
  refine tR 6 (fun K hK=>?_)
  go_simp
  (refine (equalInts_any l4 l4 A5 A6 c5 c6 _ (HL34.out.below zH_.2.out.bel) (HL4.out.below zH_.2.out.bel)).mono ?_;rintro e w10 ⟨rfl,hbz⟩;rw[show decide (l4=l4)=true by simp])
  refine hK.out _ _ ?_ (fun zH_=>?_)
  ·(try dsimp only);exact (zH_.2.out.step hbz).hold
  clear hK K
  try simp only[ps]
  refine tL 7 _ zH_ ?_
  try simp only[ps]
  refine tL 8 _ zH_ ?_
  try simp only[ps]
  refine tL 9 _ zH_ ?_
  try simp only[ps]
  refine tL 10 _ zH_ ?_
  try simp only[ps]
  refine tL 12 _ zH_ ?_
  try simp only[ps]
  refine tL 13 _ zH_ ?_
  try simp only[ps]
  refine tR 11 (fun K hK=>?_)
  go_simp
  (refine (equivalent_any la i lb k A3 c3 A4 c4 _ zH_.2.out.a zH_.2.out.b).mono ?_;rintro e w11 ⟨v11,rfl,h11,hbz⟩;have HN:=zh h11)
  refine hK.out _ _ ?_ (fun zH_=>?_)
  ·(try dsimp only);exact (zH_.2.out.step hbz).hold
  clear hK K
  try simp only[ps]
  refine tR 14 (fun K hK=>?_)
  go_simp
  (refine (rEquiv_any true la i lb k A3 c3 A4 c4 _ zH_.2.out.a zH_.2.out.b).mono ?_;rintro e w12 ⟨v12,rfl,h12,hbz⟩;obtain rfl:=EqvIs.unique HN.out h12)
  refine hK.out _ _ ?_ (fun zH_=>?_)
  ·(try dsimp only);exact (zH_.2.out.step hbz).hold
  clear hK K
  try simp only[ps]
  refine tL 15 _ zH_ ?_
  try simp only[ps]
  refine tL 16 _ zH_ ?_
  try simp only[ps]
  refine tL 17 _ zH_ ?_
  try simp only[ps]
  refine wpAnyH_done (by kernel_rfl) ?_ _
  have HE:=zh (zA HBW1.out zH_.2.out.two.bel)
  clear zH_
  go_wp2
  go_ret
  exact ⟨by simp,HE.out⟩
end Go.Proofs.YtkhpajneinmmiaaGreatDoor


