/-
  Walks: awake: the chapter's examples hold.
-/
import Derived.Test.YthkkllmmbefedaaGreatDoorQGF0
namespace Go.Proofs.YthkkllmmbefedaaGreatDoor
open Go.RowKit
set_option maxHeartbeats 16000000
set_option maxRecDepth 100000
theorem vv_zero (w:World) {x:Val} (hs:SOk x.str) (hk:x.keys=[]) (hi:x.items=[]) (hr:x.rest=[]):x.At w (x.cs none 0 none 0 none 0) :=
 Val.at_iff.2 ⟨none,0,none,0,none,0,rfl,hs,by rw[hk];exact RowsR.nil _ _ _ _ _,by rw[hi];exact RowsR.nil _ _ _ _ _,by rw[hr];exact RowsR.nil _ _ _ _ _⟩
theorem pvF_new (w:World):ValR ((w.alloc (.cells ((pInt 5).cs none 0 none 0 none 0++(pOpt []).cs none 0 none 0 none 0).toArray 28)).alloc (.cells ([.int .i64 2,.string ⟨#[1]⟩]:List Value).toArray 97)) pvF none (some ⟨w.heap.size,0,none⟩) (some ⟨w.heap.size+1,0,none⟩):=by
 refine ⟨sok_empty,RowsR.nil _ _ _ _ _,?_,?_⟩
 ·have h:=two_new (bytes:=120) (at_:=fun x cs=>Val.At (w.alloc (.cells ((pInt 5).cs none 0 none 0 none 0++(pOpt []).cs none 0 none 0 none 0).toArray 28)) x cs) w 28 (pInt 5) (pOpt []) (k:=8) (vv_zero _ sok_empty rfl rfl rfl) (vv_zero _ sok_empty rfl rfl rfl) rfl (by unfold Lim;decide)
  exact ValsR.below (A:=some ⟨w.heap.size,0,none⟩) (l:=[pInt 5,pOpt []]) h (zD _ _)
 ·have h:=one_new (bytes:=24) (k:=2) (at_:=fun x cs=>RawD.At x cs) (w.alloc (.cells ((pInt 5).cs none 0 none 0 none 0++(pOpt []).cs none 0 none 0 none 0).toArray 28)) 97 (⟨2,⟨#[1]⟩⟩:RawD) (cx:=[.int .i64 2,.string ⟨#[1]⟩]) ⟨sok_small (by decide),rfl⟩ (by unfold Lim;decide)
  rwa [show (w.alloc (.cells ((pInt 5).cs none 0 none 0 none 0++(pOpt []).cs none 0 none 0 none 0).toArray 28)).heap.size=w.heap.size+1 by simp] at h
theorem ints2_new (w:World) (a b:Int):IntsR (w.alloc (.cells #[.int .i64 a,.int .i64 b] 3)) (some ⟨w.heap.size,0,none⟩) [a,b] :=
 two_new (at_:=fun x cs=>cs=encI x) w 3 a b (cx:=[.int .i64 a]) (cy:=[.int .i64 b]) (k:=1) rfl rfl rfl (by unfold Lim;decide)
theorem ps_err {x:ByteArray} {e:Int} (h:parseS false ptS 0 x=(zeroV,e)) {w:World} {y:Ending} {w':World} (hp:PsP ptS 0 x w y w'):(∃ (A1:zo) (c1:Nat) (A2:zo) (c2:Nat) (A3:zo) (c3:Nat),y = .returned (.tuple #[zeroV.v A1 c1 A2 c2 A3 c3,.int .i64 e]))∧Below w.heap.size w w':=by
 obtain ⟨⟨v,A1,c1,A2,c2,A3,c3⟩,rfl,h1,h2,h3⟩:=hp;rw[h] at h1 ⊢;simp only at h1;subst h1;exact ⟨⟨A1,c1,A2,c2,A3,c3,rfl⟩,h3⟩
theorem awake_any (w:World) (hE:EnvL w) {SA:zo} {sc:Nat} (hS:SymE w SA sc):Calls Tryz.prog 12 #[] w (SamePost true w):=by
 have HE:=zh hE;have HSY:=zh hS;have HTB:Hid (Tab w):=hE.tab;clear hE hS
 go_enter Tryz.func12,Tryz.ntmps12
 go_wp2_with fail
 refine (point_any _).mono ?_;rintro e w1 ⟨A1,c1,rfl,hs1,hb1⟩;have HS1:=zh hs1;have HB1:=zh hb1;clear hs1 hb1;go_wp2_with fail;refine (literalParse_any pt_valid pt_num A1 c1 0 tx1 (by decide) w1 HS1.out (HE.out.below HB1.out) (HSY.out.below HB1.out)).mono ?_
 rintro e w2 ⟨⟨v,F1,f1,F2,f2,F3,f3⟩,rfl,hv2,hr2,hb2⟩;rw[pt_p1] at hv2 ⊢;simp only at hv2 hr2;subst hv2;have HBX:=zh (zD w2 (pv1.box F1 f1 F2 f2 F3 f3));have HX2:=zh (heap_alloc_new w2 (pv1.box F1 f1 F2 f2 F3 f3));have HB2:=zh (zB (zB HB1.out hb2) HBX.out);have HR2:=zh (hr2.below HBX.out);clear hb2 hr2;simp only;go_upto_region 2 with fail
 generalize w2.alloc (pv1.box F1 f1 F2 f2 F3 f3)=W2 at *;generalize w2.heap.size=q2 at *
 go_cut [3,4] (fun a b wx=>a = .string ⟨#[46,121,91,48,93]⟩∧b = .int .i64 0∧Hid (wx.heap[q2]? = some (pv1.box F1 f1 F2 f2 F3 f3)∧Below w.heap.size w wx))
 case first =>
  have HHL:Hid (∀wx,Below W2.heap.size W2 wx→(wx.cell? ⟨q2,0,none⟩=some (.int .i64 pv1.kind)∧wx.cell? ⟨q2,1,none⟩=some (.bool pv1.bool)∧wx.cell? ⟨q2,2,none⟩=some (.int .i64 pv1.int)∧wx.cell? ⟨q2,3,none⟩=some (.string pv1.str)∧wx.cell? ⟨q2,4,none⟩=some (.int .i64 pv1.id)∧wx.cell? ⟨q2,5,none⟩=some (.slice F1 pv1.keys.length f1)∧wx.cell? ⟨q2,6,none⟩=some (.slice F2 pv1.items.length f2)∧wx.cell? ⟨q2,7,none⟩=some (.slice F3 pv1.rest.length f3))∧Hid (Below W2.heap.size W2 wx)):=fun wx hb=>⟨zF (zE HX2.out hb),hb⟩
  refine wp_region_held_drew (S:=(fun wx=>(wx.cell? ⟨q2,0,none⟩=some (.int .i64 pv1.kind)∧wx.cell? ⟨q2,1,none⟩=some (.bool pv1.bool)∧wx.cell? ⟨q2,2,none⟩=some (.int .i64 pv1.int)∧wx.cell? ⟨q2,3,none⟩=some (.string pv1.str)∧wx.cell? ⟨q2,4,none⟩=some (.int .i64 pv1.id)∧wx.cell? ⟨q2,5,none⟩=some (.slice F1 pv1.keys.length f1)∧wx.cell? ⟨q2,6,none⟩=some (.slice F2 pv1.items.length f2)∧wx.cell? ⟨q2,7,none⟩=some (.slice F3 pv1.rest.length f3))∧Hid (Below W2.heap.size W2 wx))) (by kernel_rfl) ?_ (fun zH_=>?_)
  ·(try dsimp only);exact HHL.out _ (zC (Below.refl _ _) 1)
  refine tL 1 ?_;try simp only[ps]
  refine wpAnyH_ready (rs:=[0,2]) (by kernel_rfl) (by simp) ?_
  refine (AllReadyH.cons rfl (fun K hK=>?_) (AllReadyH.cons rfl (fun K hK=>?_) AllReadyH.nil))
  ·
   go_simp
   (have HB0:=zh zH_.2.out;refine (point_any _).mono ?_;rintro e w3 ⟨A3,c3,rfl,hs3,hb3⟩;have HS3:=zh hs3;have HB3:=zh (zB HB0.out hb3);have HBP:=zh hb3;clear hs3 hb3)
   refine hK.out _ _ ?_ (fun zH_=>?_)
   ·(try dsimp only);exact HHL.out _ HB3.out
   clear hK K;try simp only[ps]
   refine tR 2 (fun K hK=>?_)
   go_simp
   refine hK.out _ _ ?_ (fun zH_=>?_)
   ·(try dsimp only);(have HB4:=zh (zB zH_.2.out (zD _ (.cells #[.int .i64 3,.int .i64 0] 3)));exact HHL.out _ HB4.out)
   clear hK K;refine tR 3 (fun K hK=>?_)
   go_simp
   (have HBQ:=zh zH_.2.out;refine (lpath_any A3 c3 pt_valid pt_num 0 pv1 F1 f1 F2 f2 F3 f3 [3,0] _ 2 (by decide) _ (HS3.out.below (zD _ _)) (HR2.out.below HBQ.out) (ints2_new w3 3 0) (HTB.out.below (zB HB2.out HBQ.out))).mono ?_;rintro e w6 ⟨rfl,hb6⟩;rw[pt_path];have HB6:=zh (zB HBQ.out hb6);clear hb6)
   refine hK.out _ _ ?_ (fun zH_=>?_)
   ·(try dsimp only);exact HHL.out _ HB6.out
   clear hK K;refine tL 4 ?_;try simp only[ps]
   refine tL 5 ?_;try simp only[ps]
   refine tL 6 ?_;try simp only[ps]
   refine tL 7 ?_;try simp only[ps]
   refine tL 8 ?_;try simp only[ps]
   refine wpAnyH_done (by kernel_rfl) ?_ _
   (clear zH_;go_wp2;go_meet;exact ⟨rfl,rfl,zE HX2.out HB6.out,zB HB2.out HB6.out⟩)
  ·
   go_simp
   refine hK.out _ _ ?_ (fun zH_=>?_)
   ·(try dsimp only);(have HB4:=zh (zB zH_.2.out (zD _ (.cells #[.int .i64 3,.int .i64 0] 3)));have HI4:=zh (ints2_new (W2.drewN 1) 3 0);exact HHL.out _ HB4.out)
   clear hK K;refine tR 0 (fun K hK=>?_)
   go_simp
   (have HB0:=zh zH_.2.out;refine (point_any _).mono ?_;rintro e w3 ⟨A3,c3,rfl,hs3,hb3⟩;have HS3:=zh hs3;have HB3:=zh (zB HB0.out hb3);have HBP:=zh hb3;clear hs3 hb3)
   refine hK.out _ _ ?_ (fun zH_=>?_)
   ·(try dsimp only);exact HHL.out _ HB3.out
   clear hK K;try simp only[ps]
   refine tR 3 (fun K hK=>?_)
   go_simp
   (have HBQ:=zh zH_.2.out;refine (lpath_any A3 c3 pt_valid pt_num 0 pv1 F1 f1 F2 f2 F3 f3 [3,0] _ 2 (by decide) _ HS3.out (HR2.out.below HBQ.out) ((RowsR.imp (ints2_new (W2.drewN 1) 3 0) (fun _ _ _ h=>h) HBP.out)) (HTB.out.below (zB HB2.out HBQ.out))).mono ?_;rintro e w6 ⟨rfl,hb6⟩;rw[pt_path];have HB6:=zh (zB HBQ.out hb6);clear hb6)
   refine hK.out _ _ ?_ (fun zH_=>?_)
   ·(try dsimp only);exact HHL.out _ HB6.out
   clear hK K;refine tL 4 ?_;try simp only[ps]
   refine tL 5 ?_;try simp only[ps]
   refine tL 6 ?_;try simp only[ps]
   refine tL 7 ?_;try simp only[ps]
   refine tL 8 ?_;try simp only[ps]
   refine wpAnyH_done (by kernel_rfl) ?_ _
   (clear zH_;go_wp2;go_meet;exact ⟨rfl,rfl,zE HX2.out HB6.out,zB HB2.out HB6.out⟩)
 case rest =>
 obtain ⟨rfl,rfl,hcut3⟩:=hcut;obtain ⟨W3,rfl⟩:∃W3:World,W3=wc:=⟨_,rfl⟩;have HX3:=zh hcut3.out.1;have HB3:=zh hcut3.out.2;clear hcut3 HX2 HB2 HR2 HBX HB1 HS1;go_wp2_with fail;refine (point_any _).mono ?_;rintro e w4 ⟨A4,c4,rfl,hs4,hb4⟩
 have HNF:Hid (Below w4.heap.size w4 ((w4.alloc (.cells ((pInt 5).cs none 0 none 0 none 0++(pOpt []).cs none 0 none 0 none 0).toArray 28)).alloc (.cells ([.int .i64 2,.string ⟨#[1]⟩]:List Value).toArray 97))):=zI _ _ _;have HS4:=zh (hs4.below HNF.out);have HB4:=zh (zB HB3.out (zB hb4 HNF.out));have HX4:=zh (zE (zE HX3.out hb4) HNF.out);have HPV:=zh (pvF_new w4)
 have HFM:Hid (fmtT ptS 0 pvF=txF∧(if fitV ptS false 0 pvF then (0:Int) else 1)=0):=by
  show _∧_
  unfold fmtT;rw[pt_fmt.1];exact ⟨pt_fmt.2,rfl⟩
 clear hs4 hb4 HNF;go_wp2_with fail;refine (format_any A4 c4 pt_valid pt_num 0 pvF (by rw[HFM.out.1];decide) none 0 (some ⟨w4.heap.size,0,none⟩) 2 (some ⟨w4.heap.size+1,0,none⟩) 1 _ HS4.out HPV.out (HTB.out.below HB4.out)).mono ?_
 rintro e w5 ⟨rfl,hb5⟩;rw[HFM.out.1,HFM.out.2];have HB5:=zh (zB HB4.out hb5);have HX5:=zh (zE HX4.out hb5);have HBW5:Hid (Below w5.heap.size w5 w5):=Below.refl _ _;clear hb5 HFM HPV HS4 HB4 HX4 HX3 HB3;go_wp2_with fail;refine (point_any _).mono ?_;rintro e w6 ⟨A6,c6,rfl,hs6,hb6⟩;have HS6:=zh hs6;have HB6:=zh (zB HB5.out hb6);have HBW6:=zh (zB HBW5.out hb6);clear hs6 hb6;go_wp2_with fail
 refine (literalParse_any pt_valid pt_num A6 c6 0 tx2 (by decide) w6 HS6.out (HE.out.below HB6.out) (HSY.out.below HB6.out)).mono ?_
 rintro e v6 hp6;obtain ⟨⟨E1,e1,E2,e2,E3,e3,rfl⟩,hb6'⟩:=ps_err pt_p2 hp6;have HBX6:=zh (zD v6 (zeroV.box E1 e1 E2 e2 E3 e3));have HB6b:=zh (zB (zB HB6.out hb6') HBX6.out);have HBW6b:=zh (zB (zB HBW6.out hb6') HBX6.out);clear hp6 hb6';go_upto_region 5 with fail
 generalize v6.alloc (zeroV.box E1 e1 E2 e2 E3 e3)=V6 at *;generalize v6.heap.size=z6 at *;go_wp2_with fail;refine (point_any _).mono ?_;rintro e w7 ⟨A7,c7,rfl,hs7,hb7⟩;have HS7:=zh hs7;have HB7:=zh (zB HB6b.out hb7);have HBW7:=zh (zB HBW6b.out hb7);clear hs7 hb7;go_wp2_with fail
 refine (literalParse_any pt_valid pt_num A7 c7 0 tx3 (by decide) w7 HS7.out (HE.out.below HB7.out) (HSY.out.below HB7.out)).mono ?_
 rintro e v7 hp7;obtain ⟨⟨E1,e1,E2,e2,E3,e3,rfl⟩,hb7'⟩:=ps_err pt_p3 hp7;have HBX7:=zh (zD v7 (zeroV.box E1 e1 E2 e2 E3 e3));have HB7b:=zh (zB (zB HB7.out hb7') HBX7.out);have HBW7b:=zh (zB (zB HBW7.out hb7') HBX7.out);clear hp7 hb7';go_upto_region 6 with fail
 generalize v7.alloc (zeroV.box E1 e1 E2 e2 E3 e3)=V7 at *;generalize v7.heap.size=z7 at *;go_wp2_with fail;refine (point_any _).mono ?_;rintro e w8 ⟨A8,c8,rfl,hs8,hb8⟩;have HS8:=zh hs8;have HB8:=zh (zB HB7b.out hb8);have HBW8:=zh (zB HBW7b.out hb8);clear hs8 hb8;go_wp2_with fail
 refine (literalParse_any pt_valid pt_num A8 c8 0 tx4 (by decide) w8 HS8.out (HE.out.below HB8.out) (HSY.out.below HB8.out)).mono ?_
 rintro e v8 hp8;obtain ⟨⟨E1,e1,E2,e2,E3,e3,rfl⟩,hb8'⟩:=ps_err pt_p4 hp8;have HBX8:=zh (zD v8 (zeroV.box E1 e1 E2 e2 E3 e3));have HB8b:=zh (zB (zB HB8.out hb8') HBX8.out);have HBW8b:=zh (zB (zB HBW8.out hb8') HBX8.out);clear hp8 hb8';go_upto_region 7 with fail
 generalize v8.alloc (zeroV.box E1 e1 E2 e2 E3 e3)=V8 at *;generalize v8.heap.size=z8 at *;have HXV:=zh (zE HX5.out HBW8b.out);obtain ⟨k0,k1,k2,k3,k4,k5,k6,k7⟩:=zF HXV.out;have hil:(pv1.items.length:Int)=2:=rfl;rw[show pv1.items.length=2 from rfl] at k6;go_wp2;go_ret;exact ⟨by simp,HB8b.out⟩
end Go.Proofs.YthkkllmmbefedaaGreatDoor


