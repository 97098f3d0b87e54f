/-
  Walks: awake: the chapter's examples hold.
-/
import Derived.Test.YthkkllmmbefedaaGreatDoorQGF0
namespace Go.Proofs.YthkkllmmbefedaaGreatDoor
open Go.RowKit Go.Proofs.Tryz
set_option maxHeartbeats 16000000
set_option maxRecDepth 100000
theorem jV (t:Int):(AO Hq t).kind=2\/(AO Hq t).kind=5\/(AO Hq t).kind=9\/(AO Hq t).kind=0:=by
 unfold AO
 match t.toNat with
 | 0=>exact .inr (.inl rfl)
 | 1=>exact .inl rfl
 | 2=>exact .inr (.inr (.inl rfl))
 | n+3=>exact .inr (.inr (.inr rfl))
theorem jU (t:Int):(AO Hq t).kind≠6:=by have:=jV t;omega
theorem sZ:Zi Hq 0 LP [3,0]=0:=by decide +kernel
theorem Yf (w:World) {x:Val} (hs:Cw x.str) (hk:x.keys=[]) (hi:x.items=[]) (hr:x.rest=[]):x.At w (x.cs none 0 none 0 none 0) :=
 Val.Hu.2 ⟨none,0,none,0,none,0,rfl,hs,by rw[hk];exact AY.nil _ _ _ _ _,by rw[hi];exact AY.nil _ _ _ _ _,by rw[hr];exact AY.nil _ _ _ _ _⟩
theorem pR (w:World):Ar ((w.alloc (.cells ((Oo 5).cs none 0 none 0 none 0++(pOpt []).cs none 0 none 0 none 0).toArray 28)).alloc (.cells ([.int .i64 2,.string ⟨#[1]⟩]:List Value).toArray 97)) sW none (some ⟨w.heap.size,0,none⟩) (some ⟨w.heap.size+1,0,none⟩):=by
 refine ⟨IQ,AY.nil _ _ _ _ _,?_,?_⟩
 ·have h:=SK (bytes:=120) (at_:=fun x cs=>Val.At (w.alloc (.cells ((Oo 5).cs none 0 none 0 none 0++(pOpt []).cs none 0 none 0 none 0).toArray 28)) x cs) w 28 (Oo 5) (pOpt []) (k:=8) (Yf _ IQ rfl rfl rfl) (Yf _ IQ rfl rfl rfl) rfl (by unfold EF;decide)
  exact Cz.below (A:=some ⟨w.heap.size,0,none⟩) (l:=[Oo 5,pOpt []]) h (zD _ _)
 ·have h:=qB (bytes:=24) (k:=2) (at_:=fun x cs=>Af.At x cs) (w.alloc (.cells ((Oo 5).cs none 0 none 0 none 0++(pOpt []).cs none 0 none 0 none 0).toArray 28)) 97 (⟨2,⟨#[1]⟩⟩:Af) (cx:=[.int .i64 2,.string ⟨#[1]⟩]) ⟨KJ (by decide),rfl⟩ (by unfold EF;decide)
  rwa [show (w.alloc (.cells ((Oo 5).cs none 0 none 0 none 0++(pOpt []).cs none 0 none 0 none 0).toArray 28)).heap.size=w.heap.size+1 by simp] at h
theorem Nq (w:World) (a b:Int):JL (w.alloc (.cells #[.int .i64 a,.int .i64 b] 3)) (some ⟨w.heap.size,0,none⟩) [a,b] :=
 SK (at_:=fun x cs=>cs=encI x) w 3 a b (cx:=[.int .i64 a]) (cy:=[.int .i64 b]) (k:=1) rfl rfl rfl (by unfold EF;decide)
theorem Xc {x:ByteArray} {e:Int} (h:BP false Hq 0 x=(zeroV,e)) {w:World} {y:Ending} {w':World} (hp:xC Hq 0 x w y w'):(∃ (A1:zo) (c1:Nat) (A2:zo) (c2:Nat) (A3:zo) (c3:Nat),y = .returned (.tuple #[zeroV.v A1 c1 A2 c2 A3 c3,.int .i64 e]))/\Below w.heap.size w w':=by
 obtain ⟨⟨v,A1,c1,A2,c2,A3,c3⟩,rfl,h1,h2,h3⟩:=hp;rw[h] at h1 ⊢;simp only at h1;subst h1;exact ⟨⟨A1,c1,A2,c2,A3,c3,rfl⟩,h3⟩
theorem dU (w:World) (hE:IB w) {SA:zo} {sc:Nat} (hS:Lc w SA sc):Calls prog 12 #[] w (Ic true w):=by
 have HE:=zh hE;have Mv:=zh hS;have Kw:Hid (nQ w):=hE.tab;clear hE hS
 go_enter func12,ntmps12
 go_wp2_with fail
 refine (FL _).mono ?_;rintro e w1 ⟨A1,c1,rfl,hs1,hb1⟩;have Il:=zh hs1;have HB1:=zh hb1;clear hs1 hb1;go_wp2_with fail;refine (Dy Ga LQ A1 c1 0 uj (by decide +kernel) (by decide) w1 Il (HE.O.below HB1) (Mv.O.below HB1)).mono ?_
 rintro e w2 ⟨⟨v,F1,f1,F2,f2,F3,f3⟩,rfl,hv2,hr2,hb2⟩;rw[AAe] at hv2 ⊢;simp only at hv2 hr2;subst hv2;have BL:=zh (zD w2 (LP.box F1 f1 F2 f2 F3 f3));have N9:=zh (AAA w2 (LP.box F1 f1 F2 f2 F3 f3));have HB2:=zh (zB (zB HB1 hb2) BL);have HR2:=zh (hr2.below BL);clear hb2 hr2;simp only;go_upto_region 2 with fail
 generalize w2.alloc (LP.box F1 f1 F2 f2 F3 f3)=W2 at *;generalize w2.heap.size=q2 at *
 go_cut [3,4] (fun a b wx=>a = .string ⟨#[46,121,91,48,93]⟩/\b = .int .i64 0/\Hid (wx.heap[q2]? = some (LP.box F1 f1 F2 f2 F3 f3)/\Below w.heap.size w wx))
 case first =>
  have yT:Hid (∀wx,Below W2.heap.size W2 wx->(wx.cell? ⟨q2,0,none⟩=some (.int .i64 LP.kind)/\wx.cell? ⟨q2,1,none⟩=some (.bool LP.bool)/\wx.cell? ⟨q2,2,none⟩=some (.int .i64 LP.int)/\wx.cell? ⟨q2,3,none⟩=some (.string LP.str)/\wx.cell? ⟨q2,4,none⟩=some (.int .i64 LP.id)/\wx.cell? ⟨q2,5,none⟩=some (.slice F1 LP.keys.length f1)/\wx.cell? ⟨q2,6,none⟩=some (.slice F2 LP.items.length f2)/\wx.cell? ⟨q2,7,none⟩=some (.slice F3 LP.rest.length f3))/\Hid (Below W2.heap.size W2 wx)):=fun wx hb=>⟨zF (zE N9 hb),hb⟩
  refine wp_region_held_drew (S:=(fun wx=>(wx.cell? ⟨q2,0,none⟩=some (.int .i64 LP.kind)/\wx.cell? ⟨q2,1,none⟩=some (.bool LP.bool)/\wx.cell? ⟨q2,2,none⟩=some (.int .i64 LP.int)/\wx.cell? ⟨q2,3,none⟩=some (.string LP.str)/\wx.cell? ⟨q2,4,none⟩=some (.int .i64 LP.id)/\wx.cell? ⟨q2,5,none⟩=some (.slice F1 LP.keys.length f1)/\wx.cell? ⟨q2,6,none⟩=some (.slice F2 LP.items.length f2)/\wx.cell? ⟨q2,7,none⟩=some (.slice F3 LP.rest.length f3))/\Hid (Below W2.heap.size W2 wx))) (by kernel_rfl) ?_ (fun AQ=>?_)
  ·(try dsimp only);exact yT.O _ (zC (Pe _ _) 1)
  refine tL 1 ?_;refine wpAnyH_ready (rs:=[0,2]) (by kernel_rfl) (by simp) ?_
  refine (AllReadyH.cons rfl (fun K hK=>?_) (AllReadyH.cons rfl (fun K hK=>?_) AllReadyH.nil))
  ·
   go_simp
   (have HB0:=zh AQ.2.O;refine (FL _).mono ?_;rintro e w3 ⟨A3,c3,rfl,hs3,hb3⟩;have H9:=zh hs3;have HB3:=zh (zB HB0 hb3);have HBP:=zh hb3;clear hs3 hb3)
   refine hK.out _ _ ?_ (fun AQ=>?_)
   ·(try dsimp only);exact yT.O _ HB3
   clear hK K;refine tR 2 (fun K hK=>?_)
   go_simp
   refine hK.out _ _ ?_ (fun AQ=>?_)
   ·(try dsimp only);(have ED:=zh (zB AQ.2.O (zD _ (.cells #[.int .i64 3,.int .i64 0] 3)));exact yT.O _ ED)
   clear hK K;refine tR 3 (fun K hK=>?_)
   go_simp
   (have Wd:=zh AQ.2.O;refine (Rn jU A3 c3 Ga LQ 0 LP F1 f1 F2 f2 F3 f3 [3,0] sZ _ 2 (by decide) _ (H9.O.below (zD _ _)) (HR2.O.below Wd) (Nq w3 3 0) (Kw.O.below (zB HB2 Wd))).mono ?_;rintro e w6 ⟨rfl,hb6⟩;rw[Y7];have BH:=zh (zB Wd hb6);clear hb6)
   refine hK.out _ _ ?_ (fun AQ=>?_)
   ·(try dsimp only);exact yT.O _ BH
   clear hK K;refine tL 4 ?_;refine tL 5 ?_;refine tL 6 ?_;refine tL 7 ?_;try simp only[ps]
   refine tL 8 ?_;refine wpAnyH_done (by kernel_rfl) ?_ _
   (clear AQ;go_wp2;go_meet;exact ⟨rfl,rfl,zE N9 BH,zB HB2 BH⟩)
  ·
   go_simp
   refine hK.out _ _ ?_ (fun AQ=>?_)
   ·(try dsimp only);(have ED:=zh (zB AQ.2.O (zD _ (.cells #[.int .i64 3,.int .i64 0] 3)));have HI4:=zh (Nq (W2.drewN 1) 3 0);exact yT.O _ ED)
   clear hK K;refine tR 0 (fun K hK=>?_)
   go_simp
   (have HB0:=zh AQ.2.O;refine (FL _).mono ?_;rintro e w3 ⟨A3,c3,rfl,hs3,hb3⟩;have H9:=zh hs3;have HB3:=zh (zB HB0 hb3);have HBP:=zh hb3;clear hs3 hb3)
   refine hK.out _ _ ?_ (fun AQ=>?_)
   ·(try dsimp only);exact yT.O _ HB3
   clear hK K;refine tR 3 (fun K hK=>?_)
   go_simp
   (have Wd:=zh AQ.2.O;refine (Rn jU A3 c3 Ga LQ 0 LP F1 f1 F2 f2 F3 f3 [3,0] sZ _ 2 (by decide) _ H9 (HR2.O.below Wd) ((AY.imp (Nq (W2.drewN 1) 3 0) (fun _ _ _ h=>h) HBP)) (Kw.O.below (zB HB2 Wd))).mono ?_;rintro e w6 ⟨rfl,hb6⟩;rw[Y7];have BH:=zh (zB Wd hb6);clear hb6)
   refine hK.out _ _ ?_ (fun AQ=>?_)
   ·(try dsimp only);exact yT.O _ BH
   clear hK K;refine tL 4 ?_;refine tL 5 ?_;refine tL 6 ?_;refine tL 7 ?_;try simp only[ps]
   refine tL 8 ?_;refine wpAnyH_done (by kernel_rfl) ?_ _
   (clear AQ;go_wp2;go_meet;exact ⟨rfl,rfl,zE N9 BH,zB HB2 BH⟩)
 case rest =>
 obtain ⟨rfl,rfl,lM⟩:=hcut;obtain ⟨W3,rfl⟩:∃W3:World,W3=wc:=⟨_,rfl⟩;have JR:=zh lM.O.1;have HB3:=zh lM.O.2;clear lM N9 HB2 HR2 BL HB1 Il;go_wp2_with fail;refine (FL _).mono ?_;rintro e w4 ⟨A4,c4,rfl,hs4,hb4⟩
 have HNF:Hid (Below w4.heap.size w4 ((w4.alloc (.cells ((Oo 5).cs none 0 none 0 none 0++(pOpt []).cs none 0 none 0 none 0).toArray 28)).alloc (.cells ([.int .i64 2,.string ⟨#[1]⟩]:List Value).toArray 97))):=zI _ _ _;have UF:=zh (hs4.below HNF);have ED:=zh (zB HB3 (zB hb4 HNF));have fJ:=zh (zE (zE JR hb4) HNF);have Qu:=zh (pR w4)
 have sK:Hid (LZ Hq 0 sW=txF/\(if BX Hq false 0 sW then (0:Int) else 1)=0):=by
  show _/\_
  unfold LZ;rw[jW.1];exact ⟨jW.2,rfl⟩
 clear hs4 hb4 HNF;go_wp2_with fail;refine (QL A4 c4 Ga LQ 0 sW (by rw[sK.O.1];decide) none 0 (some ⟨w4.heap.size,0,none⟩) 2 (some ⟨w4.heap.size+1,0,none⟩) 1 _ UF Qu (Kw.O.below ED)).mono ?_
 rintro e w5 ⟨rfl,hb5⟩;rw[sK.O.1,sK.O.2];have Aq:=zh (zB ED hb5);have CO:=zh (zE fJ hb5);have M6:Hid (Below w5.heap.size w5 w5):=Pe _ _;clear hb5 sK Qu UF ED fJ JR HB3;go_wp2_with fail;refine (FL _).mono ?_;rintro e w6 ⟨A6,c6,rfl,hs6,hb6⟩;have HS6:=zh hs6;have BH:=zh (zB Aq hb6);have yh:=zh (zB M6 hb6);clear hs6 hb6;go_wp2_with fail
 refine (Dy Ga LQ A6 c6 0 uh (by decide +kernel) (by decide) w6 HS6 (HE.O.below BH) (Mv.O.below BH)).mono ?_
 rintro e v6 hp6;obtain ⟨⟨E1,e1,E2,e2,E3,e3,rfl⟩,wK⟩:=Xc AAd hp6;have AB4:=zh (zD v6 (zeroV.box E1 e1 E2 e2 E3 e3));have AEe:=zh (zB (zB BH wK) AB4);have AB8:=zh (zB (zB yh wK) AB4);clear hp6 wK;go_upto_region 5 with fail
 generalize v6.alloc (zeroV.box E1 e1 E2 e2 E3 e3)=V6 at *;generalize v6.heap.size=z6 at *;go_wp2_with fail;refine (FL _).mono ?_;rintro e w7 ⟨A7,c7,rfl,hs7,Gj⟩;have xV:=zh hs7;have Bv:=zh (zB AEe Gj);have AEa:=zh (zB AB8 Gj);clear hs7 Gj;go_wp2_with fail
 refine (Dy Ga LQ A7 c7 0 ug (by decide +kernel) (by decide) w7 xV (HE.O.below Bv) (Mv.O.below Bv)).mono ?_
 rintro e v7 hp7;obtain ⟨⟨E1,e1,E2,e2,E3,e3,rfl⟩,wJ⟩:=Xc AAc hp7;have AB3:=zh (zD v7 (zeroV.box E1 e1 E2 e2 E3 e3));have AEd:=zh (zB (zB Bv wJ) AB3);have AB7:=zh (zB (zB AEa wJ) AB3);clear hp7 wJ;go_upto_region 6 with fail
 generalize v7.alloc (zeroV.box E1 e1 E2 e2 E3 e3)=V7 at *;generalize v7.heap.size=z7 at *;go_wp2_with fail;refine (FL _).mono ?_;rintro e w8 ⟨A8,c8,rfl,tN,FU⟩;have HS8:=zh tN;have BF:=zh (zB AEd FU);have Df:=zh (zB AB7 FU);clear tN FU;go_wp2_with fail
 refine (Dy Ga LQ A8 c8 0 uf (by decide +kernel) (by decide) w8 HS8 (HE.O.below BF) (Mv.O.below BF)).mono ?_
 rintro e v8 lF;obtain ⟨⟨E1,e1,E2,e2,E3,e3,rfl⟩,wI⟩:=Xc AAb lF;have AB2:=zh (zD v8 (zeroV.box E1 e1 E2 e2 E3 e3));have AEc:=zh (zB (zB BF wI) AB2);have AB6:=zh (zB (zB Df wI) AB2);clear lF wI;go_upto_region 7 with fail
 generalize v8.alloc (zeroV.box E1 e1 E2 e2 E3 e3)=V8 at *;generalize v8.heap.size=z8 at *;have fI:=zh (zE CO AB6);obtain ⟨k0,k1,k2,k3,k4,k5,k6,k7⟩:=zF fI;have hil:(LP.items.length:Int)=2:=rfl;rw[show LP.items.length=2 from rfl] at k6;go_wp2;go_ret;exact ⟨by simp,AEc.O⟩
