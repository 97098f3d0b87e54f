/-
  Walks: awake: the chapter's examples hold.
-/
import Derived.Test.YthkkllmmbefedaaGreatDoorQAKL
namespace Go.Proofs.YthkkllmmbefedaaGreatDoor
open Go.RowKit
set_option maxHeartbeats 16000000
set_option maxRecDepth 100000
theorem UM (t:Int):(AR G5 t).kind=2\/(AR G5 t).kind=5\/(AR G5 t).kind=9\/(AR G5 t).kind=0:=by
 unfold AR
 match t.toNat with
 | 0=>exact .inr (.inl rfl)
 | 1=>exact .inl rfl
 | 2=>exact .inr (.inr (.inl rfl))
 | n+3=>exact .inr (.inr (.inr rfl))
theorem dD (t:Int):(AR G5 t).kind≠6:=by have:=UM t;omega
theorem mh:YN G5 0 K4 [3,0]=0:=by decide +kernel
theorem Xd (w:World) {x:Val} (hs:Dc x.str) (hk:x.keys=[]) (hi:x.items=[]) (hr:x.rest=[]):x.At w (x.cs none 0 none 0 none 0) :=
 Val.Fh.2 ⟨none,0,none,0,none,0,rfl,hs,by rw[hk];exact Ae.nil _ _ _ _ _,by rw[hi];exact Ae.nil _ _ _ _ _,by rw[hr];exact Ae.nil _ _ _ _ _⟩
theorem jk (w:World):BO ((w.alloc (.cells ((Nt 5).cs none 0 none 0 none 0++(pOpt []).cs none 0 none 0 none 0).toArray 28)).alloc (.cells ([.int .i64 2,.string ⟨#[1]⟩]:List Value).toArray 97)) mg none (some ⟨w.heap.size,0,none⟩) (some ⟨w.heap.size+1,0,none⟩):=by
 refine ⟨H8,Ae.nil _ _ _ _ _,?_,?_⟩
 ·have h:=RS (bytes:=120) (at_:=fun x cs=>Val.At (w.alloc (.cells ((Nt 5).cs none 0 none 0 none 0++(pOpt []).cs none 0 none 0 none 0).toArray 28)) x cs) w 28 (Nt 5) (pOpt []) (k:=8) (Xd _ H8 rfl rfl rfl) (Xd _ H8 rfl rfl rfl) rfl (by unfold D9;decide)
  exact DJ.below (A:=some ⟨w.heap.size,0,none⟩) (l:=[Nt 5,pOpt []]) h (zD _ _)
 ·have h:=kF (bytes:=24) (k:=2) (at_:=fun x cs=>Ac.At x cs) (w.alloc (.cells ((Nt 5).cs none 0 none 0 none 0++(pOpt []).cs none 0 none 0 none 0).toArray 28)) 97 (⟨2,⟨#[1]⟩⟩:Ac) (cx:=[.int .i64 2,.string ⟨#[1]⟩]) ⟨J9 (by decide),rfl⟩ (by unfold D9;decide)
  rwa [show (w.alloc (.cells ((Nt 5).cs none 0 none 0 none 0++(pOpt []).cs none 0 none 0 none 0).toArray 28)).heap.size=w.heap.size+1 by simp] at h
theorem M9 (w:World) (a b:Int):JH (w.alloc (.cells #[.int .i64 a,.int .i64 b] 3)) (some ⟨w.heap.size,0,none⟩) [a,b] :=
 RS (at_:=fun x cs=>cs=encI x) w 3 a b (cx:=[.int .i64 a]) (cy:=[.int .i64 b]) (k:=1) rfl rfl rfl (by unfold D9;decide)
theorem WE {x:ByteArray} {e:Int} (h:Al false G5 0 x=(zeroV,e)) {w:World} {y:Ending} {w':World} (hp:nL G5 0 x w y w'):(∃ (A1:zo) (c1:Nat) (A2:zo) (c2:Nat) (A3:zo) (c3:Nat),y = .returned (.tuple #[zeroV.v A1 c1 A2 c2 A3 c3,.int .i64 e]))/\Below w.heap.size w w':=by
 obtain ⟨⟨v,A1,c1,A2,c2,A3,c3⟩,rfl,h1,h2,h3⟩:=hp;rw[h] at h1 ⊢;simp only at h1;subst h1;exact ⟨⟨A1,c1,A2,c2,A3,c3,rfl⟩,h3⟩
theorem Z6 (w:World) (hE:Gq w) {SA:zo} {sc:Nat} (hS:LA w SA sc):Calls Tryz.prog 12 #[] w (IW true w):=by
 have HE:=zh hE;have NM:=zh hS;have P7:Hid (iK w):=hE.tab;clear hE hS
 go_enter Tryz.func12,Tryz.ntmps12
 go_wp2_with fail
 refine (Ej _).mono ?_;rintro e w1 ⟨A1,c1,rfl,hs1,hb1⟩;have Kg:=zh hs1;have HB1:=zh hb1;clear hs1 hb1;go_wp2_with fail;refine (Cr GN K5 A1 c1 0 oF (by decide) w1 Kg (HE.out.below HB1) (NM.out.below HB1)).mono ?_
 rintro e w2 ⟨⟨v,F1,f1,F2,f2,F3,f3⟩,rfl,hv2,hr2,hb2⟩;rw[uG] at hv2 ⊢;simp only at hv2 hr2;subst hv2;have BI:=zh (zD w2 (K4.box F1 f1 F2 f2 F3 f3));have F6:=zh (AAA w2 (K4.box F1 f1 F2 f2 F3 f3));have HB2:=zh (zB (zB HB1 hb2) BI);have HR2:=zh (hr2.below BI);clear hb2 hr2;simp only;go_upto_region 2 with fail
 generalize w2.alloc (K4.box F1 f1 F2 f2 F3 f3)=W2 at *;generalize w2.heap.size=q2 at *
 go_cut [3,4] (fun a b wx=>a = .string ⟨#[46,121,91,48,93]⟩/\b = .int .i64 0/\Hid (wx.heap[q2]? = some (K4.box F1 f1 F2 f2 F3 f3)/\Below w.heap.size w wx))
 case first =>
  have rM:Hid (∀wx,Below W2.heap.size W2 wx->(wx.cell? ⟨q2,0,none⟩=some (.int .i64 K4.kind)/\wx.cell? ⟨q2,1,none⟩=some (.bool K4.bool)/\wx.cell? ⟨q2,2,none⟩=some (.int .i64 K4.int)/\wx.cell? ⟨q2,3,none⟩=some (.string K4.str)/\wx.cell? ⟨q2,4,none⟩=some (.int .i64 K4.id)/\wx.cell? ⟨q2,5,none⟩=some (.slice F1 K4.keys.length f1)/\wx.cell? ⟨q2,6,none⟩=some (.slice F2 K4.items.length f2)/\wx.cell? ⟨q2,7,none⟩=some (.slice F3 K4.rest.length f3))/\Hid (Below W2.heap.size W2 wx)):=fun wx hb=>⟨zF (zE F6 hb),hb⟩
  refine wp_region_held_drew (S:=(fun wx=>(wx.cell? ⟨q2,0,none⟩=some (.int .i64 K4.kind)/\wx.cell? ⟨q2,1,none⟩=some (.bool K4.bool)/\wx.cell? ⟨q2,2,none⟩=some (.int .i64 K4.int)/\wx.cell? ⟨q2,3,none⟩=some (.string K4.str)/\wx.cell? ⟨q2,4,none⟩=some (.int .i64 K4.id)/\wx.cell? ⟨q2,5,none⟩=some (.slice F1 K4.keys.length f1)/\wx.cell? ⟨q2,6,none⟩=some (.slice F2 K4.items.length f2)/\wx.cell? ⟨q2,7,none⟩=some (.slice F3 K4.rest.length f3))/\Hid (Below W2.heap.size W2 wx))) (by kernel_rfl) ?_ (fun AU=>?_)
  ·(try dsimp only);exact rM.out _ (zC (Pd _ _) 1)
  refine tL 1 ?_;refine wpAnyH_ready (rs:=[0,2]) (by kernel_rfl) (by simp) ?_
  refine (AllReadyH.cons rfl (fun K hK=>?_) (AllReadyH.cons rfl (fun K hK=>?_) AllReadyH.nil))
  ·
   go_simp
   (have HB0:=zh AU.2.out;refine (Ej _).mono ?_;rintro e w3 ⟨A3,c3,rfl,hs3,hb3⟩;have Ie:=zh hs3;have HB3:=zh (zB HB0 hb3);have HBP:=zh hb3;clear hs3 hb3)
   refine hK.out _ _ ?_ (fun AU=>?_)
   ·(try dsimp only);exact rM.out _ HB3
   clear hK K;refine tR 2 (fun K hK=>?_)
   go_simp
   refine hK.out _ _ ?_ (fun AU=>?_)
   ·(try dsimp only);(have BD:=zh (zB AU.2.out (zD _ (.cells #[.int .i64 3,.int .i64 0] 3)));exact rM.out _ BD)
   clear hK K;refine tR 3 (fun K hK=>?_)
   go_simp
   (have NQ:=zh AU.2.out;refine (Qn dD A3 c3 GN K5 0 K4 F1 f1 F2 f2 F3 f3 [3,0] mh _ 2 (by decide) _ (Ie.out.below (zD _ _)) (HR2.out.below NQ) (M9 w3 3 0) (P7.out.below (zB HB2 NQ))).mono ?_;rintro e w6 ⟨rfl,hb6⟩;rw[Xu];have BA:=zh (zB NQ hb6);clear hb6)
   refine hK.out _ _ ?_ (fun AU=>?_)
   ·(try dsimp only);exact rM.out _ BA
   clear hK K;refine tL 4 ?_;refine tL 5 ?_;refine tL 6 ?_;refine tL 7 ?_;try simp only[ps]
   refine tL 8 ?_;refine wpAnyH_done (by kernel_rfl) ?_ _
   (clear AU;go_wp2;go_meet;exact ⟨rfl,rfl,zE F6 BA,zB HB2 BA⟩)
  ·
   go_simp
   refine hK.out _ _ ?_ (fun AU=>?_)
   ·(try dsimp only);(have BD:=zh (zB AU.2.out (zD _ (.cells #[.int .i64 3,.int .i64 0] 3)));have HI4:=zh (M9 (W2.drewN 1) 3 0);exact rM.out _ BD)
   clear hK K;refine tR 0 (fun K hK=>?_)
   go_simp
   (have HB0:=zh AU.2.out;refine (Ej _).mono ?_;rintro e w3 ⟨A3,c3,rfl,hs3,hb3⟩;have Ie:=zh hs3;have HB3:=zh (zB HB0 hb3);have HBP:=zh hb3;clear hs3 hb3)
   refine hK.out _ _ ?_ (fun AU=>?_)
   ·(try dsimp only);exact rM.out _ HB3
   clear hK K;refine tR 3 (fun K hK=>?_)
   go_simp
   (have NQ:=zh AU.2.out;refine (Qn dD A3 c3 GN K5 0 K4 F1 f1 F2 f2 F3 f3 [3,0] mh _ 2 (by decide) _ Ie (HR2.out.below NQ) ((Ae.imp (M9 (W2.drewN 1) 3 0) (fun _ _ _ h=>h) HBP)) (P7.out.below (zB HB2 NQ))).mono ?_;rintro e w6 ⟨rfl,hb6⟩;rw[Xu];have BA:=zh (zB NQ hb6);clear hb6)
   refine hK.out _ _ ?_ (fun AU=>?_)
   ·(try dsimp only);exact rM.out _ BA
   clear hK K;refine tL 4 ?_;refine tL 5 ?_;refine tL 6 ?_;refine tL 7 ?_;try simp only[ps]
   refine tL 8 ?_;refine wpAnyH_done (by kernel_rfl) ?_ _
   (clear AU;go_wp2;go_meet;exact ⟨rfl,rfl,zE F6 BA,zB HB2 BA⟩)
 case rest =>
 obtain ⟨rfl,rfl,fA⟩:=hcut;obtain ⟨W3,rfl⟩:∃W3:World,W3=wc:=⟨_,rfl⟩;have JQ:=zh fA.out.1;have HB3:=zh fA.out.2;clear fA F6 HB2 HR2 BI HB1 Kg;go_wp2_with fail;refine (Ej _).mono ?_;rintro e w4 ⟨A4,c4,rfl,hs4,hb4⟩
 have xA:Hid (Below w4.heap.size w4 ((w4.alloc (.cells ((Nt 5).cs none 0 none 0 none 0++(pOpt []).cs none 0 none 0 none 0).toArray 28)).alloc (.cells ([.int .i64 2,.string ⟨#[1]⟩]:List Value).toArray 97))):=zI _ _ _;have IY:=zh (hs4.below xA);have BD:=zh (zB HB3 (zB hb4 xA));have RD:=zh (zE (zE JQ hb4) xA);have OT:=zh (jk w4)
 have xG:Hid (Zo G5 0 mg=xJ/\(if CQ G5 false 0 mg then (0:Int) else 1)=0):=by
  show _/\_
  unfold Zo;rw[dF.1];exact ⟨dF.2,rfl⟩
 clear hs4 hb4 xA;go_wp2_with fail;refine (Wm UM A4 c4 GN K5 0 mg (by rw[xG.out.1];decide) none 0 (some ⟨w4.heap.size,0,none⟩) 2 (some ⟨w4.heap.size+1,0,none⟩) 1 _ IY OT (P7.out.below BD)).mono ?_
 rintro e w5 ⟨rfl,hb5⟩;rw[xG.out.1,xG.out.2];have BB:=zh (zB BD hb5);have BK:=zh (zE RD hb5);have MW:Hid (Below w5.heap.size w5 w5):=Pd _ _;clear hb5 xG OT IY BD RD JQ HB3;go_wp2_with fail;refine (Ej _).mono ?_;rintro e w6 ⟨A6,c6,rfl,hs6,hb6⟩;have qm:=zh hs6;have BA:=zh (zB BB hb6);have sD:=zh (zB MW hb6);clear hs6 hb6;go_wp2_with fail
 refine (Cr GN K5 A6 c6 0 oD (by decide) w6 qm (HE.out.below BA) (NM.out.below BA)).mono ?_
 rintro e v6 hp6;obtain ⟨⟨E1,e1,E2,e2,E3,e3,rfl⟩,qB⟩:=WE uF hp6;have wG:=zh (zD v6 (zeroV.box E1 e1 E2 e2 E3 e3));have AA5:=zh (zB (zB BA qB) wG);have wK:=zh (zB (zB sD qB) wG);clear hp6 qB;go_upto_region 5 with fail
 generalize v6.alloc (zeroV.box E1 e1 E2 e2 E3 e3)=V6 at *;generalize v6.heap.size=z6 at *;go_wp2_with fail;refine (Ej _).mono ?_;rintro e w7 ⟨A7,c7,rfl,hs7,FK⟩;have Vd:=zh hs7;have CJ:=zh (zB AA5 FK);have AA1:=zh (zB wK FK);clear hs7 FK;go_wp2_with fail
 refine (Cr GN K5 A7 c7 0 oC (by decide) w7 Vd (HE.out.below CJ) (NM.out.below CJ)).mono ?_
 rintro e v7 hp7;obtain ⟨⟨E1,e1,E2,e2,E3,e3,rfl⟩,qA⟩:=WE uE hp7;have wF:=zh (zD v7 (zeroV.box E1 e1 E2 e2 E3 e3));have AA4:=zh (zB (zB CJ qA) wF);have wJ:=zh (zB (zB AA1 qA) wF);clear hp7 qA;go_upto_region 6 with fail
 generalize v7.alloc (zeroV.box E1 e1 E2 e2 E3 e3)=V7 at *;generalize v7.heap.size=z7 at *;go_wp2_with fail;refine (Ej _).mono ?_;rintro e w8 ⟨A8,c8,rfl,nA,IG⟩;have ql:=zh nA;have FY:=zh (zB AA4 IG);have AA0:=zh (zB wJ IG);clear nA IG;go_wp2_with fail
 refine (Cr GN K5 A8 c8 0 ny (by decide) w8 ql (HE.out.below FY) (NM.out.below FY)).mono ?_
 rintro e v8 eP;obtain ⟨⟨E1,e1,E2,e2,E3,e3,rfl⟩,pz⟩:=WE uD eP;have wE:=zh (zD v8 (zeroV.box E1 e1 E2 e2 E3 e3));have AA3:=zh (zB (zB FY pz) wE);have wI:=zh (zB (zB AA0 pz) wE);clear eP pz;go_upto_region 7 with fail
 generalize v8.alloc (zeroV.box E1 e1 E2 e2 E3 e3)=V8 at *;generalize v8.heap.size=z8 at *;have XI:=zh (zE BK wI);obtain ⟨k0,k1,k2,k3,k4,k5,k6,k7⟩:=zF XI;have hil:(K4.items.length:Int)=2:=rfl;rw[show K4.items.length=2 from rfl] at k6;go_wp2;go_ret;exact ⟨by simp,AA3.out⟩
end Go.Proofs.YthkkllmmbefedaaGreatDoor



