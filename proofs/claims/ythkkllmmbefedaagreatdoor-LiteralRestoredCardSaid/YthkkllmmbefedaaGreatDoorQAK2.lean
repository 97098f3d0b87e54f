/-
  Walks: awake: the chapter's examples hold.
-/
import Derived.Test.YthkkllmmbefedaaGreatDoorQGF0
namespace Go.Proofs.YthkkllmmbefedaaGreatDoor
open Go.RowKit
set_option maxHeartbeats 16000000
set_option maxRecDepth 100000
theorem XL (w:World) {x:Val} (hs:Dk x.str) (hk:x.keys=[]) (hi:x.items=[]) (hr:x.rest=[]):x.At w (x.cs none 0 none 0 none 0) :=
 Val.FZ.2 ⟨none,0,none,0,none,0,rfl,hs,by rw[hk];exact Ac.nil _ _ _ _ _,by rw[hi];exact Ac.nil _ _ _ _ _,by rw[hr];exact Ac.nil _ _ _ _ _⟩
theorem lq (w:World):Ao ((w.alloc (.cells ((OA 5).cs none 0 none 0 none 0++(pOpt []).cs none 0 none 0 none 0).toArray 28)).alloc (.cells ([.int .i64 2,.string ⟨#[1]⟩]:List Value).toArray 97)) o9 none (some ⟨w.heap.size,0,none⟩) (some ⟨w.heap.size+1,0,none⟩):=by
 refine ⟨G9,Ac.nil _ _ _ _ _,?_,?_⟩
 ·have h:=RX (bytes:=120) (at_:=fun x cs=>Val.At (w.alloc (.cells ((OA 5).cs none 0 none 0 none 0++(pOpt []).cs none 0 none 0 none 0).toArray 28)) x cs) w 28 (OA 5) (pOpt []) (k:=8) (XL _ G9 rfl rfl rfl) (XL _ G9 rfl rfl rfl) rfl (by unfold EK;decide)
  exact Ch.below (A:=some ⟨w.heap.size,0,none⟩) (l:=[OA 5,pOpt []]) h (zD _ _)
 ·have h:=mJ (bytes:=24) (k:=2) (at_:=fun x cs=>Af.At x cs) (w.alloc (.cells ((OA 5).cs none 0 none 0 none 0++(pOpt []).cs none 0 none 0 none 0).toArray 28)) 97 (⟨2,⟨#[1]⟩⟩:Af) (cx:=[.int .i64 2,.string ⟨#[1]⟩]) ⟨Jr (by decide),rfl⟩ (by unfold EK;decide)
  rwa [show (w.alloc (.cells ((OA 5).cs none 0 none 0 none 0++(pOpt []).cs none 0 none 0 none 0).toArray 28)).heap.size=w.heap.size+1 by simp] at h
theorem NA (w:World) (a b:Int):Io (w.alloc (.cells #[.int .i64 a,.int .i64 b] 3)) (some ⟨w.heap.size,0,none⟩) [a,b] :=
 RX (at_:=fun x cs=>cs=encI x) w 3 a b (cx:=[.int .i64 a]) (cy:=[.int .i64 b]) (k:=1) rfl rfl rfl (by unfold EK;decide)
theorem V3 {x:ByteArray} {e:Int} (h:BL false Ir 0 x=(zeroV,e)) {w:World} {y:Ending} {w':World} (hp:tH Ir 0 x w y w'):(∃ (A1:zo) (c1:Nat) (A2:zo) (c2:Nat) (A3:zo) (c3:Nat),y = .returned (.tuple #[zeroV.v A1 c1 A2 c2 A3 c3,.int .i64 e]))/\Below w.heap.size w w':=by
 obtain ⟨⟨v,A1,c1,A2,c2,A3,c3⟩,rfl,h1,h2,h3⟩:=hp;rw[h] at h1 ⊢;simp only at h1;subst h1;exact ⟨⟨A1,c1,A2,c2,A3,c3,rfl⟩,h3⟩
theorem Z8 (w:World) (hE:KZ w) {SA:zo} {sc:Nat} (hS:K6 w SA sc):Calls Tryz.prog 12 #[] w (Hy true w):=by
 have HE:=zh hE;have MV:=zh hS;have KJ:Hid (jf w):=hE.tab;clear hE hS
 go_enter Tryz.func12,Tryz.ntmps12
 go_wp2_with fail
 refine (Es _).mono ?_;rintro e w1 ⟨A1,c1,rfl,hs1,hb1⟩;have IA:=zh hs1;have HB1:=zh hb1;clear hs1 hb1;go_wp2_with fail;refine (Ce F9 Kv A1 c1 0 qZ (by decide) w1 IA (HE.out.below HB1) (MV.out.below HB1)).mono ?_
 rintro e w2 ⟨⟨v,F1,f1,F2,f2,F3,f3⟩,rfl,hv2,hr2,hb2⟩;rw[wK] at hv2 ⊢;simp only at hv2 hr2;subst hv2;have BS:=zh (zD w2 (LH.box F1 f1 F2 f2 F3 f3));have NK:=zh (AAL w2 (LH.box F1 f1 F2 f2 F3 f3));have HB2:=zh (zB (zB HB1 hb2) BS);have HR2:=zh (hr2.below BS);clear hb2 hr2;simp only;go_upto_region 2 with fail
 generalize w2.alloc (LH.box F1 f1 F2 f2 F3 f3)=W2 at *;generalize w2.heap.size=q2 at *
 go_cut [3,4] (fun a b wx=>a = .string ⟨#[46,121,91,48,93]⟩/\b = .int .i64 0/\Hid (wx.heap[q2]? = some (LH.box F1 f1 F2 f2 F3 f3)/\Below w.heap.size w wx))
 case first =>
  have uj:Hid (∀wx,Below W2.heap.size W2 wx->(wx.cell? ⟨q2,0,none⟩=some (.int .i64 LH.kind)/\wx.cell? ⟨q2,1,none⟩=some (.bool LH.bool)/\wx.cell? ⟨q2,2,none⟩=some (.int .i64 LH.int)/\wx.cell? ⟨q2,3,none⟩=some (.string LH.str)/\wx.cell? ⟨q2,4,none⟩=some (.int .i64 LH.id)/\wx.cell? ⟨q2,5,none⟩=some (.slice F1 LH.keys.length f1)/\wx.cell? ⟨q2,6,none⟩=some (.slice F2 LH.items.length f2)/\wx.cell? ⟨q2,7,none⟩=some (.slice F3 LH.rest.length f3))/\Hid (Below W2.heap.size W2 wx)):=fun wx hb=>⟨zF (zE NK hb),hb⟩
  refine wp_region_held_drew (S:=(fun wx=>(wx.cell? ⟨q2,0,none⟩=some (.int .i64 LH.kind)/\wx.cell? ⟨q2,1,none⟩=some (.bool LH.bool)/\wx.cell? ⟨q2,2,none⟩=some (.int .i64 LH.int)/\wx.cell? ⟨q2,3,none⟩=some (.string LH.str)/\wx.cell? ⟨q2,4,none⟩=some (.int .i64 LH.id)/\wx.cell? ⟨q2,5,none⟩=some (.slice F1 LH.keys.length f1)/\wx.cell? ⟨q2,6,none⟩=some (.slice F2 LH.items.length f2)/\wx.cell? ⟨q2,7,none⟩=some (.slice F3 LH.rest.length f3))/\Hid (Below W2.heap.size W2 wx))) (by kernel_rfl) ?_ (fun AQ=>?_)
  ·(try dsimp only);exact uj.out _ (zC (Pe _ _) 1)
  refine tL 1 ?_;try simp only[ps]
  refine wpAnyH_ready (rs:=[0,2]) (by kernel_rfl) (by simp) ?_
  refine (AllReadyH.cons rfl (fun K hK=>?_) (AllReadyH.cons rfl (fun K hK=>?_) AllReadyH.nil))
  ·
   go_simp
   (have HB0:=zh AQ.2.out;refine (Es _).mono ?_;rintro e w3 ⟨A3,c3,rfl,hs3,hb3⟩;have Gx:=zh hs3;have HB3:=zh (zB HB0 hb3);have HBP:=zh hb3;clear hs3 hb3)
   refine hK.out _ _ ?_ (fun AQ=>?_)
   ·(try dsimp only);exact uj.out _ HB3
   clear hK K;try simp only[ps]
   refine tR 2 (fun K hK=>?_)
   go_simp
   refine hK.out _ _ ?_ (fun AQ=>?_)
   ·(try dsimp only);(have Dl:=zh (zB AQ.2.out (zD _ (.cells #[.int .i64 3,.int .i64 0] 3)));exact uj.out _ Dl)
   clear hK K;refine tR 3 (fun K hK=>?_)
   go_simp
   (have VH:=zh AQ.2.out;refine (Qv A3 c3 F9 Kv 0 LH F1 f1 F2 f2 F3 f3 [3,0] _ 2 (by decide) _ (Gx.out.below (zD _ _)) (HR2.out.below VH) (NA w3 3 0) (KJ.out.below (zB HB2 VH))).mono ?_;rintro e w6 ⟨rfl,hb6⟩;rw[Xm];have BH:=zh (zB VH hb6);clear hb6)
   refine hK.out _ _ ?_ (fun AQ=>?_)
   ·(try dsimp only);exact uj.out _ BH
   clear hK K;refine tL 4 ?_;try simp only[ps]
   refine tL 5 ?_;try simp only[ps]
   refine tL 6 ?_;try simp only[ps]
   refine tL 7 ?_;try simp only[ps]
   refine tL 8 ?_;try simp only[ps]
   refine wpAnyH_done (by kernel_rfl) ?_ _
   (clear AQ;go_wp2;go_meet;exact ⟨rfl,rfl,zE NK BH,zB HB2 BH⟩)
  ·
   go_simp
   refine hK.out _ _ ?_ (fun AQ=>?_)
   ·(try dsimp only);(have Dl:=zh (zB AQ.2.out (zD _ (.cells #[.int .i64 3,.int .i64 0] 3)));have HI4:=zh (NA (W2.drewN 1) 3 0);exact uj.out _ Dl)
   clear hK K;refine tR 0 (fun K hK=>?_)
   go_simp
   (have HB0:=zh AQ.2.out;refine (Es _).mono ?_;rintro e w3 ⟨A3,c3,rfl,hs3,hb3⟩;have Gx:=zh hs3;have HB3:=zh (zB HB0 hb3);have HBP:=zh hb3;clear hs3 hb3)
   refine hK.out _ _ ?_ (fun AQ=>?_)
   ·(try dsimp only);exact uj.out _ HB3
   clear hK K;try simp only[ps]
   refine tR 3 (fun K hK=>?_)
   go_simp
   (have VH:=zh AQ.2.out;refine (Qv A3 c3 F9 Kv 0 LH F1 f1 F2 f2 F3 f3 [3,0] _ 2 (by decide) _ Gx (HR2.out.below VH) ((Ac.imp (NA (W2.drewN 1) 3 0) (fun _ _ _ h=>h) HBP)) (KJ.out.below (zB HB2 VH))).mono ?_;rintro e w6 ⟨rfl,hb6⟩;rw[Xm];have BH:=zh (zB VH hb6);clear hb6)
   refine hK.out _ _ ?_ (fun AQ=>?_)
   ·(try dsimp only);exact uj.out _ BH
   clear hK K;refine tL 4 ?_;try simp only[ps]
   refine tL 5 ?_;try simp only[ps]
   refine tL 6 ?_;try simp only[ps]
   refine tL 7 ?_;try simp only[ps]
   refine tL 8 ?_;try simp only[ps]
   refine wpAnyH_done (by kernel_rfl) ?_ _
   (clear AQ;go_wp2;go_meet;exact ⟨rfl,rfl,zE NK BH,zB HB2 BH⟩)
 case rest =>
 obtain ⟨rfl,rfl,iE⟩:=hcut;obtain ⟨W3,rfl⟩:∃W3:World,W3=wc:=⟨_,rfl⟩;have Iz:=zh iE.out.1;have HB3:=zh iE.out.2;clear iE NK HB2 HR2 BS HB1 IA;go_wp2_with fail;refine (Es _).mono ?_;rintro e w4 ⟨A4,c4,rfl,hs4,hb4⟩
 have HNF:Hid (Below w4.heap.size w4 ((w4.alloc (.cells ((OA 5).cs none 0 none 0 none 0++(pOpt []).cs none 0 none 0 none 0).toArray 28)).alloc (.cells ([.int .i64 2,.string ⟨#[1]⟩]:List Value).toArray 97))):=zI _ _ _;have Sr:=zh (hs4.below HNF);have Dl:=zh (zB HB3 (zB hb4 HNF));have av:=zh (zE (zE Iz hb4) HNF);have QD:=zh (lq w4)
 have qI:Hid (KQ Ir 0 o9=txF/\(if Bc Ir false 0 o9 then (0:Int) else 1)=0):=by
  show _/\_
  unfold KQ;rw[fE.1];exact ⟨fE.2,rfl⟩
 clear hs4 hb4 HNF;go_wp2_with fail;refine (PV A4 c4 F9 Kv 0 o9 (by rw[qI.out.1];decide) none 0 (some ⟨w4.heap.size,0,none⟩) 2 (some ⟨w4.heap.size+1,0,none⟩) 1 _ Sr QD (KJ.out.below Dl)).mono ?_
 rintro e w5 ⟨rfl,hb5⟩;rw[qI.out.1,qI.out.2];have Ap:=zh (zB Dl hb5);have CF:=zh (zE av hb5);have oh:Hid (Below w5.heap.size w5 w5):=Pe _ _;clear hb5 qI QD Sr Dl av Iz HB3;go_wp2_with fail;refine (Es _).mono ?_;rintro e w6 ⟨A6,c6,rfl,hs6,hb6⟩;have HS6:=zh hs6;have BH:=zh (zB Ap hb6);have vB:=zh (zB oh hb6);clear hs6 hb6;go_wp2_with fail
 refine (Ce F9 Kv A6 c6 0 qY (by decide) w6 HS6 (HE.out.below BH) (MV.out.below BH)).mono ?_
 rintro e v6 hp6;obtain ⟨⟨E1,e1,E2,e2,E3,e3,rfl⟩,sF⟩:=V3 wJ hp6;have AAC:=zh (zD v6 (zeroV.box E1 e1 E2 e2 E3 e3));have ACb:=zh (zB (zB BH sF) AAC);have AAF:=zh (zB (zB vB sF) AAC);clear hp6 sF;go_upto_region 5 with fail
 generalize v6.alloc (zeroV.box E1 e1 E2 e2 E3 e3)=V6 at *;generalize v6.heap.size=z6 at *;go_wp2_with fail;refine (Es _).mono ?_;rintro e w7 ⟨A7,c7,rfl,hs7,F4⟩;have uI:=zh hs7;have Ca:=zh (zB ACb F4);have ACX:=zh (zB AAF F4);clear hs7 F4;go_wp2_with fail
 refine (Ce F9 Kv A7 c7 0 qX (by decide) w7 uI (HE.out.below Ca) (MV.out.below Ca)).mono ?_
 rintro e v7 hp7;obtain ⟨⟨E1,e1,E2,e2,E3,e3,rfl⟩,sD⟩:=V3 wI hp7;have AAB:=zh (zD v7 (zeroV.box E1 e1 E2 e2 E3 e3));have ACa:=zh (zB (zB Ca sD) AAB);have AAE:=zh (zB (zB ACX sD) AAB);clear hp7 sD;go_upto_region 6 with fail
 generalize v7.alloc (zeroV.box E1 e1 E2 e2 E3 e3)=V7 at *;generalize v7.heap.size=z7 at *;go_wp2_with fail;refine (Es _).mono ?_;rintro e w8 ⟨A8,c8,rfl,pO,EM⟩;have yX:=zh pO;have BK:=zh (zB ACa EM);have DC:=zh (zB AAE EM);clear pO EM;go_wp2_with fail
 refine (Ce F9 Kv A8 c8 0 qW (by decide) w8 yX (HE.out.below BK) (MV.out.below BK)).mono ?_
 rintro e v8 gq;obtain ⟨⟨E1,e1,E2,e2,E3,e3,rfl⟩,r9⟩:=V3 wH gq;have AAA:=zh (zD v8 (zeroV.box E1 e1 E2 e2 E3 e3));have ACZ:=zh (zB (zB BK r9) AAA);have AAD:=zh (zB (zB DC r9) AAA);clear gq r9;go_upto_region 7 with fail
 generalize v8.alloc (zeroV.box E1 e1 E2 e2 E3 e3)=V8 at *;generalize v8.heap.size=z8 at *;have pu:=zh (zE CF AAD);obtain ⟨k0,k1,k2,k3,k4,k5,k6,k7⟩:=zF pu;have hil:(LH.items.length:Int)=2:=rfl;rw[show LH.items.length=2 from rfl] at k6;go_wp2;go_ret;exact ⟨by simp,ACZ.out⟩
end Go.Proofs.YthkkllmmbefedaaGreatDoor



