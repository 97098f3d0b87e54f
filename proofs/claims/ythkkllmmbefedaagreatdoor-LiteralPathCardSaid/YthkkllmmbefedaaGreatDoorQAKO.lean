/-
  Walks: awake: the chapter's examples hold.
-/
import Derived.Test.YthkkllmmbefedaaGreatDoorQGF0
namespace Go.Proofs.YthkkllmmbefedaaGreatDoor
open Go.RowKit
set_option maxHeartbeats 16000000
set_option maxRecDepth 100000
theorem Iq (t:Int):(AB Gr t).kind=2\/(AB Gr t).kind=5\/(AB Gr t).kind=9\/(AB Gr t).kind=0:=by
 unfold AB
 match t.toNat with
 | 0=>exact .inr (.inl rfl)
 | 1=>exact .inl rfl
 | 2=>exact .inr (.inr (.inl rfl))
 | n+3=>exact .inr (.inr (.inr rfl))
theorem V5 (w:World) {x:Val} (hs:Db x.str) (hk:x.keys=[]) (hi:x.items=[]) (hr:x.rest=[]):x.At w (x.cs none 0 none 0 none 0) :=
 Val.EF.2 ⟨none,0,none,0,none,0,rfl,hs,by rw[hk];exact Aa.nil _ _ _ _ _,by rw[hi];exact Aa.nil _ _ _ _ _,by rw[hr];exact Aa.nil _ _ _ _ _⟩
theorem jN (w:World):Az ((w.alloc (.cells ((Mw 5).cs none 0 none 0 none 0++(pOpt []).cs none 0 none 0 none 0).toArray 28)).alloc (.cells ([.int .i64 2,.string ⟨#[1]⟩]:List Value).toArray 97)) mM none (some ⟨w.heap.size,0,none⟩) (some ⟨w.heap.size+1,0,none⟩):=by
 refine ⟨Gp,Aa.nil _ _ _ _ _,?_,?_⟩
 ·have h:=Qf (bytes:=120) (at_:=fun x cs=>Val.At (w.alloc (.cells ((Mw 5).cs none 0 none 0 none 0++(pOpt []).cs none 0 none 0 none 0).toArray 28)) x cs) w 28 (Mw 5) (pOpt []) (k:=8) (V5 _ Gp rfl rfl rfl) (V5 _ Gp rfl rfl rfl) rfl (by unfold DU;decide)
  exact Co.below (A:=some ⟨w.heap.size,0,none⟩) (l:=[Mw 5,pOpt []]) h (zD _ _)
 ·have h:=ja (bytes:=24) (k:=2) (at_:=fun x cs=>Ak.At x cs) (w.alloc (.cells ((Mw 5).cs none 0 none 0 none 0++(pOpt []).cs none 0 none 0 none 0).toArray 28)) 97 (⟨2,⟨#[1]⟩⟩:Ak) (cx:=[.int .i64 2,.string ⟨#[1]⟩]) ⟨JO (by decide),rfl⟩ (by unfold DU;decide)
  rwa [show (w.alloc (.cells ((Mw 5).cs none 0 none 0 none 0++(pOpt []).cs none 0 none 0 none 0).toArray 28)).heap.size=w.heap.size+1 by simp] at h
theorem L6 (w:World) (a b:Int):Bl (w.alloc (.cells #[.int .i64 a,.int .i64 b] 3)) (some ⟨w.heap.size,0,none⟩) [a,b] :=
 Qf (at_:=fun x cs=>cs=encI x) w 3 a b (cx:=[.int .i64 a]) (cy:=[.int .i64 b]) (k:=1) rfl rfl rfl (by unfold DU;decide)
theorem Uz {x:ByteArray} {e:Int} (h:Bd false Gr 0 x=(zeroV,e)) {w:World} {y:Ending} {w':World} (hp:pz Gr 0 x w y w'):(∃ (A1:zo) (c1:Nat) (A2:zo) (c2:Nat) (A3:zo) (c3:Nat),y = .returned (.tuple #[zeroV.v A1 c1 A2 c2 A3 c3,.int .i64 e]))/\Below w.heap.size w w':=by
 obtain ⟨⟨v,A1,c1,A2,c2,A3,c3⟩,rfl,h1,h2,h3⟩:=hp;rw[h] at h1 ⊢;simp only at h1;subst h1;exact ⟨⟨A1,c1,A2,c2,A3,c3,rfl⟩,h3⟩
theorem Y6 (w:World) (hE:Jj w) {SA:zo} {sc:Nat} (hS:J8 w SA sc):Calls Tryz.prog 12 #[] w (OJ true w):=by
 have HE:=zh hE;have Oz:=zh hS;have ML:Hid (eH w):=hE.tab;clear hE hS
 go_enter Tryz.func12,Tryz.ntmps12
 go_wp2_with fail
 refine (EU _).mono ?_;rintro e w1 ⟨A1,c1,rfl,hs1,hb1⟩;have KP:=zh hs1;have HB1:=zh hb1;clear hs1 hb1;go_wp2_with fail;refine (DY Iq Fg Jz A1 c1 0 nU (by decide +kernel) (by decide) w1 KP (HE.out.below HB1) (Oz.out.below HB1)).mono ?_
 rintro e w2 ⟨⟨v,F1,f1,F2,f2,F3,f3⟩,rfl,hv2,hr2,hb2⟩;rw[tQ] at hv2 ⊢;simp only at hv2 hr2;subst hv2;have BI:=zh (zD w2 (KJ.box F1 f1 F2 f2 F3 f3));have Gg:=zh (AAC w2 (KJ.box F1 f1 F2 f2 F3 f3));have HB2:=zh (zB (zB HB1 hb2) BI);have HR2:=zh (hr2.below BI);clear hb2 hr2;simp only;go_upto_region 2 with fail
 generalize w2.alloc (KJ.box F1 f1 F2 f2 F3 f3)=W2 at *;generalize w2.heap.size=q2 at *
 go_cut [3,4] (fun a b wx=>a = .string ⟨#[46,121,91,48,93]⟩/\b = .int .i64 0/\Hid (wx.heap[q2]? = some (KJ.box F1 f1 F2 f2 F3 f3)/\Below w.heap.size w wx))
 case first =>
  have qy:Hid (∀wx,Below W2.heap.size W2 wx->(wx.cell? ⟨q2,0,none⟩=some (.int .i64 KJ.kind)/\wx.cell? ⟨q2,1,none⟩=some (.bool KJ.bool)/\wx.cell? ⟨q2,2,none⟩=some (.int .i64 KJ.int)/\wx.cell? ⟨q2,3,none⟩=some (.string KJ.str)/\wx.cell? ⟨q2,4,none⟩=some (.int .i64 KJ.id)/\wx.cell? ⟨q2,5,none⟩=some (.slice F1 KJ.keys.length f1)/\wx.cell? ⟨q2,6,none⟩=some (.slice F2 KJ.items.length f2)/\wx.cell? ⟨q2,7,none⟩=some (.slice F3 KJ.rest.length f3))/\Hid (Below W2.heap.size W2 wx)):=fun wx hb=>⟨zF (zE Gg hb),hb⟩
  refine wp_region_held_drew (S:=(fun wx=>(wx.cell? ⟨q2,0,none⟩=some (.int .i64 KJ.kind)/\wx.cell? ⟨q2,1,none⟩=some (.bool KJ.bool)/\wx.cell? ⟨q2,2,none⟩=some (.int .i64 KJ.int)/\wx.cell? ⟨q2,3,none⟩=some (.string KJ.str)/\wx.cell? ⟨q2,4,none⟩=some (.int .i64 KJ.id)/\wx.cell? ⟨q2,5,none⟩=some (.slice F1 KJ.keys.length f1)/\wx.cell? ⟨q2,6,none⟩=some (.slice F2 KJ.items.length f2)/\wx.cell? ⟨q2,7,none⟩=some (.slice F3 KJ.rest.length f3))/\Hid (Below W2.heap.size W2 wx))) (by kernel_rfl) ?_ (fun AO=>?_)
  ·(try dsimp only);exact qy.out _ (zC (Pe _ _) 1)
  refine tL 1 ?_;refine wpAnyH_ready (rs:=[0,2]) (by kernel_rfl) (by simp) ?_
  refine (AllReadyH.cons rfl (fun K hK=>?_) (AllReadyH.cons rfl (fun K hK=>?_) AllReadyH.nil))
  ·
   go_simp
   (have HB0:=zh AO.2.out;refine (EU _).mono ?_;rintro e w3 ⟨A3,c3,rfl,hs3,hb3⟩;have OU:=zh hs3;have HB3:=zh (zB HB0 hb3);have sM:=zh hb3;clear hs3 hb3)
   refine hK.out _ _ ?_ (fun AO=>?_)
   ·(try dsimp only);exact qy.out _ HB3
   clear hK K;refine tR 2 (fun K hK=>?_)
   go_simp
   refine hK.out _ _ ?_ (fun AO=>?_)
   ·(try dsimp only);(have BA:=zh (zB AO.2.out (zD _ (.cells #[.int .i64 3,.int .i64 0] 3)));exact qy.out _ BA)
   clear hK K;refine tR 3 (fun K hK=>?_)
   go_simp
   (have MP:=zh AO.2.out;refine (JX A3 c3 Fg Jz 0 KJ F1 f1 F2 f2 F3 f3 [3,0] _ 2 (by decide) _ (OU.out.below (zD _ _)) (HR2.out.below MP) (L6 w3 3 0) (ML.out.below (zB HB2 MP))).mono ?_;rintro e w6 ⟨rfl,hb6⟩;rw[WX];have BN:=zh (zB MP hb6);clear hb6)
   refine hK.out _ _ ?_ (fun AO=>?_)
   ·(try dsimp only);exact qy.out _ BN
   clear hK K;refine tL 4 ?_;refine tL 5 ?_;refine tL 6 ?_;refine tL 7 ?_;try simp only[ps]
   refine tL 8 ?_;refine wpAnyH_done (by kernel_rfl) ?_ _
   (clear AO;go_wp2;go_meet;exact ⟨rfl,rfl,zE Gg BN,zB HB2 BN⟩)
  ·
   go_simp
   refine hK.out _ _ ?_ (fun AO=>?_)
   ·(try dsimp only);(have BA:=zh (zB AO.2.out (zD _ (.cells #[.int .i64 3,.int .i64 0] 3)));have HI4:=zh (L6 (W2.drewN 1) 3 0);exact qy.out _ BA)
   clear hK K;refine tR 0 (fun K hK=>?_)
   go_simp
   (have HB0:=zh AO.2.out;refine (EU _).mono ?_;rintro e w3 ⟨A3,c3,rfl,hs3,hb3⟩;have OU:=zh hs3;have HB3:=zh (zB HB0 hb3);have sM:=zh hb3;clear hs3 hb3)
   refine hK.out _ _ ?_ (fun AO=>?_)
   ·(try dsimp only);exact qy.out _ HB3
   clear hK K;refine tR 3 (fun K hK=>?_)
   go_simp
   (have MP:=zh AO.2.out;refine (JX A3 c3 Fg Jz 0 KJ F1 f1 F2 f2 F3 f3 [3,0] _ 2 (by decide) _ OU (HR2.out.below MP) ((Aa.imp (L6 (W2.drewN 1) 3 0) (fun _ _ _ h=>h) sM)) (ML.out.below (zB HB2 MP))).mono ?_;rintro e w6 ⟨rfl,hb6⟩;rw[WX];have BN:=zh (zB MP hb6);clear hb6)
   refine hK.out _ _ ?_ (fun AO=>?_)
   ·(try dsimp only);exact qy.out _ BN
   clear hK K;refine tL 4 ?_;refine tL 5 ?_;refine tL 6 ?_;refine tL 7 ?_;try simp only[ps]
   refine tL 8 ?_;refine wpAnyH_done (by kernel_rfl) ?_ _
   (clear AO;go_wp2;go_meet;exact ⟨rfl,rfl,zE Gg BN,zB HB2 BN⟩)
 case rest =>
 obtain ⟨rfl,rfl,cB⟩:=hcut;obtain ⟨W3,rfl⟩:∃W3:World,W3=wc:=⟨_,rfl⟩;have MJ:=zh cB.out.1;have HB3:=zh cB.out.2;clear cB Gg HB2 HR2 BI HB1 KP;go_wp2_with fail;refine (EU _).mono ?_;rintro e w4 ⟨A4,c4,rfl,hs4,hb4⟩
 have xW:Hid (Below w4.heap.size w4 ((w4.alloc (.cells ((Mw 5).cs none 0 none 0 none 0++(pOpt []).cs none 0 none 0 none 0).toArray 28)).alloc (.cells ([.int .i64 2,.string ⟨#[1]⟩]:List Value).toArray 97))):=zI _ _ _;have fE:=zh (hs4.below xW);have BA:=zh (zB HB3 (zB hb4 xW));have mg:=zh (zE (zE MJ hb4) xW);have ZJ:=zh (jN w4)
 have xq:Hid (Yp Gr 0 mM=yN/\(if BH Gr false 0 mM then (0:Int) else 1)=0):=by
  show _/\_
  unfold Yp;rw[ah.1];exact ⟨ah.2,rfl⟩
 clear hs4 hb4 xW;go_wp2_with fail;refine (VW Iq A4 c4 Fg Jz 0 mM (by rw[xq.out.1];decide) none 0 (some ⟨w4.heap.size,0,none⟩) 2 (some ⟨w4.heap.size+1,0,none⟩) 1 _ fE ZJ (ML.out.below BA)).mono ?_
 rintro e w5 ⟨rfl,hb5⟩;rw[xq.out.1,xq.out.2];have Ap:=zh (zB BA hb5);have Bg:=zh (zE mg hb5);have UU:Hid (Below w5.heap.size w5 w5):=Pe _ _;clear hb5 xq ZJ fE BA mg MJ HB3;go_wp2_with fail;refine (EU _).mono ?_;rintro e w6 ⟨A6,c6,rfl,hs6,hb6⟩;have xR:=zh hs6;have BN:=zh (zB Ap hb6);have fU:=zh (zB UU hb6);clear hs6 hb6;go_wp2_with fail
 refine (DY Iq Fg Jz A6 c6 0 nT (by decide +kernel) (by decide) w6 xR (HE.out.below BN) (Oz.out.below BN)).mono ?_
 rintro e v6 hp6;obtain ⟨⟨E1,e1,E2,e2,E3,e3,rfl⟩,pE⟩:=Uz tO hp6;have wO:=zh (zD v6 (zeroV.box E1 e1 E2 e2 E3 e3));have ABa:=zh (zB (zB BN pE) wO);have wR:=zh (zB (zB fU pE) wO);clear hp6 pE;go_upto_region 5 with fail
 generalize v6.alloc (zeroV.box E1 e1 E2 e2 E3 e3)=V6 at *;generalize v6.heap.size=z6 at *;go_wp2_with fail;refine (EU _).mono ?_;rintro e w7 ⟨A7,c7,rfl,hs7,FE⟩;have qP:=zh hs7;have CS:=zh (zB ABa FE);have ABX:=zh (zB wR FE);clear hs7 FE;go_wp2_with fail
 refine (DY Iq Fg Jz A7 c7 0 nS (by decide +kernel) (by decide) w7 qP (HE.out.below CS) (Oz.out.below CS)).mono ?_
 rintro e v7 uJ;obtain ⟨⟨E1,e1,E2,e2,E3,e3,rfl⟩,o9⟩:=Uz tN uJ;have wN:=zh (zD v7 (zeroV.box E1 e1 E2 e2 E3 e3));have ABZ:=zh (zB (zB CS o9) wN);have wQ:=zh (zB (zB ABX o9) wN);clear uJ o9;go_upto_region 6 with fail
 generalize v7.alloc (zeroV.box E1 e1 E2 e2 E3 e3)=V7 at *;generalize v7.heap.size=z7 at *;go_wp2_with fail;refine (EU _).mono ?_;rintro e w8 ⟨A8,c8,rfl,hs8,EJ⟩;have HS8:=zh hs8;have BK:=zh (zB ABZ EJ);have Cx:=zh (zB wQ EJ);clear hs8 EJ;go_wp2_with fail
 refine (DY Iq Fg Jz A8 c8 0 nR (by decide +kernel) (by decide) w8 HS8 (HE.out.below BK) (Oz.out.below BK)).mono ?_
 rintro e v8 Wz;obtain ⟨⟨E1,e1,E2,e2,E3,e3,rfl⟩,o8⟩:=Uz tK Wz;have wM:=zh (zD v8 (zeroV.box E1 e1 E2 e2 E3 e3));have ABY:=zh (zB (zB BK o8) wM);have wP:=zh (zB (zB Cx o8) wM);clear Wz o8;go_upto_region 7 with fail
 generalize v8.alloc (zeroV.box E1 e1 E2 e2 E3 e3)=V8 at *;generalize v8.heap.size=z8 at *;have gN:=zh (zE Bg wP);obtain ⟨k0,k1,k2,k3,k4,k5,k6,k7⟩:=zF gN;have hil:(KJ.items.length:Int)=2:=rfl;rw[show KJ.items.length=2 from rfl] at k6;go_wp2;go_ret;exact ⟨by simp,ABY.out⟩
end Go.Proofs.YthkkllmmbefedaaGreatDoor



