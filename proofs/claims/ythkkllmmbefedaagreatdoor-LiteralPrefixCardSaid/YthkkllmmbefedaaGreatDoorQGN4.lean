/-
  Walks: the law LiteralPrefix.
-/
import Derived.Test.YthkkllmmbefedaaGreatDoorQGN6
import Derived.Test.YthkkllmmbefedaaGreatDoorQAKR
import Derived.Test.YthkkllmmbefedaaGreatDoorQGT1
namespace Go.Proofs.YthkkllmmbefedaaGreatDoor
open Go.RowKit Go.Proofs.Tryz
set_option maxHeartbeats 16000000
set_option maxRecDepth 100000
theorem rH (w:World) (o o2 o3:Obj):(((w.alloc o).alloc o2).alloc o3).heap[w.heap.size]? = some o/\(((w.alloc o).alloc o2).alloc o3).heap[w.heap.size+1]? = some o2/\(((w.alloc o).alloc o2).alloc o3).heap[w.heap.size+1+1]? = some o3/\Below w.heap.size w (((w.alloc o).alloc o2).alloc o3):=by
 have h1:=AAA w o;have h2:=AAA (w.alloc o) o2;have h3:=AAA ((w.alloc o).alloc o2) o3;rw[show (w.alloc o).heap.size=w.heap.size+1 by simp] at h2
 rw[show ((w.alloc o).alloc o2).heap.size=w.heap.size+1+1 by simp] at h3
 exact ⟨Au (Au h1 (zD _ _)) (zD _ _),Au h2 (zD _ _),h3,zB (zI _ _ _) (zD _ _)⟩
theorem Xt {s:List Aa} (ho:Mt s) {t:Int} (ht:0<=t/\t<(s.length:Int)) {v:Val} (hf:BN s t v=true) (hk:0<=Qh v 3000):BX s false t v=true/\(LZ s t v).size<=36000/\LZ s t v=LX s t v/\BP false s t (LZ s t v)=(v,0):=by
 have h:=Yz ho.v ho.n64;have hf':=fM hf;have h1:=gT h.nam (fun t=>(h.ty t).ids) h.kind _ t v hf'
 unfold WJ at h1;have h2:=ic hk;have e:LZ s t v=LX s t v:=by unfold LZ;rw[AAB hf']
 have hz:(LX s t v).size<=36000:=by show (Ae s (SizeOf.sizeOf v) t v).size<=_;omega
 rw[e];exact ⟨hf',hz,rfl,Sk h ht hf' (by omega)⟩
theorem TM {w2 w6:World} {q:Nat} {x:Aj} (hz:w6.heap[q]? = some DJ) (hq:w2.heap.size<=q) (hb:Below w2.heap.size w2 w6) (hr:Off (fun p=>p=q) w6 fun u=>Ar u x.v x.A1 x.A2 x.A3) :
  (w6.setCells q 0 x.cells).rangeAt q 0 x.cells/\Ar (w6.setCells q 0 x.cells) x.v x.A1 x.A2 x.A3/\Below w2.heap.size w2 (w6.setCells q 0 x.cells) :=
 ⟨World.rangeAt_setCells_same w6 q 0 x.cells (Cb hz),(hr.step (by rw[size_setCells];exact AAF _) fun p hp _=>zN hp _ _ _).O,yC _ hq _ _ _ hb⟩
variable {l:List AJ} {w:World}
theorem Pf {A:zo} (h:Ew w A l):l.length≠0->∃b o,A=some ⟨b,o,none⟩/\w.rangeAt b o (l.flatMap FW):=fun hn=>by
 obtain ⟨css,h1,h2,h3,h4⟩:=AY.cells (fun x cs (h:AJ.At x cs)=>by rw[h.2];rfl) h
 obtain rfl:css=l.map FW:=List.ext_getElem? fun i=>by
  by_cases hi:i<l.length
  ·rw[List.getElem?_map,zl hi,zl (by omega)]
   rw[(h2 i l[i] _ (zl hi) (zl (by omega))).2];rfl
  ·rw[List.getElem?_eq_none (by omega),List.getElem?_eq_none (by simp;omega)]
 rw[List.flatMap_def];exact h4 (fun e=>hn (by rw[e];rfl))
theorem KH {A:zo} (h:Ew w A l):∀t∈l,Cw t.text/\Cw t.str:=fun t ht=>by
 obtain ⟨i,hi,rfl⟩:=ABi ht;obtain ⟨_,_,_,_,h,_⟩:=AY.at_ h hi;exact h.1
theorem Pb (l:List AJ):∀u∈l.flatMap FW,u.oneCell'=true:=fun u hu=>by
 obtain ⟨t,_,h⟩:=List.mem_flatMap.1 hu;exact (QS t).2 u h
theorem SL (l:List AJ):(l.flatMap FW).length=l.length * 5:=by
 rw[List.length_flatMap,List.map_congr_left (g:=fun _=>5) (fun t _=>(QS t).1),List.map_const',List.sum_replicate_nat]
theorem SN {base n:Nat} {v:Value} {L:List AJ} (h:w.ownsRow base 59 5 v n (l.flatMap FW++L.flatMap FW)) (hn:n=l.length+L.length) (hz:n<=1000000) (h1:∀t∈l,Cw t.text/\Cw t.str) (h2:∀t∈L,Cw t.text/\Cw t.str):∃B c,v = .slice B (l.length+L.length) c/\Ew w B (l++L):=by
 have ho:N8 w base v (l++L):=by
  show w.ownsRow base 59 5 v (l++L).length ((l++L).flatMap FW)
  rw[List.flatMap_append,ABF,<-hn];exact h
 rw[<-ABF];exact N8.toks ho (by unfold EF;rw[ABF];omega) fun t ht=>by
  rcases ABY.1 ht with h|h
  ·exact h1 t h
  ·exact h2 t h
theorem Qr (d:List AR) (k:Nat) (l:List Int) (L:List AJ) (A:zo) (c:Nat) (B:zo) (b:Nat) (AL:zo) (cL:Nat) (w:World) (hh:k<256/\BG w A d/\V5 w B l/\l.length<=b) (hL:Ew w AL L) (hE:IB w) {SA:zo} {sc:Nat} (hS:Lc w SA sc) :
  Calls prog 10 #[.agg #[.slice A d.length c,.int .u8 (k:Int),.slice B l.length b],.slice AL L.length cL] w (Ic true w):=by
 have HH:=zh hh;have HL:=zh hL;have HE:=zh hE;have Mv:=zh hS;have HX0:=zh (AAA w (.cells #[.slice A d.length c,.int .u8 (k:Int),.slice B l.length b] 42));have HB0:=zh (zD w (.cells #[.slice A d.length c,.int .u8 (k:Int),.slice B l.length b] 42));clear hh hL hE hS
 go_enter func10,ntmps10
 go_upto_region 1 with fail
 generalize w.alloc (.cells #[.slice A d.length c,.int .u8 (k:Int),.slice B l.length b] 42)=W0 at *;have x0:W0.cell? ⟨w.heap.size,0,none⟩=some (.slice A d.length c):=(AAC _ _ _ _ _ _ HX0).trans rfl;have x1:W0.cell? ⟨w.heap.size,1,none⟩=some (.int .u8 (k:Int)):=by rw[AAC _ _ _ _ _ _ HX0.O];rfl
 have x2:W0.cell? ⟨w.heap.size,2,none⟩=some (.slice B l.length b):=by rw[AAC _ _ _ _ _ _ HX0.O];rfl
 go_wp2_with fail
 refine (qF (HH.O.2.1.below HB0) HH.O.1 (HH.O.2.2.1.below HB0) HH.O.2.2.2).mono ?_;rintro e w1 ⟨A1,c1,s,t,⟨x,a1,ac1,a2,ac2,a3,ac3⟩,⟨y,b1,bc1,b2,bc2,b3,bc3⟩,ok,rfl,hb1,hs,hx,hy,hok⟩;simp only at hx hy hok;have nX:=zh (rH w1 (.cells #[.slice A1 s.length c1] 31) (x.box a1 ac1 a2 ac2 a3 ac3) (y.box b1 bc1 b2 bc2 b3 bc3));have Il:=zh (hs.below nX.O.2.2.2)
 have WO:=zh (hx.below nX.O.2.2.2);have nR:=zh (hy.below nX.O.2.2.2);have PI:=zh hok;have HB1:=zh (zB (zB HB0 hb1) nX.O.2.2.2);have Ei:=zh nX.O.1;have HXB:=zh nX.O.2.1;have fG:=zh nX.O.2.2.1;clear hs hx hy hok hb1 x0 x1 x2 HX0 HB0 HH nX;go_upto_region 2 with fail
 generalize ((w1.alloc (.cells #[.slice A1 s.length c1] 31)).alloc (x.box a1 ac1 a2 ac2 a3 ac3)).alloc (y.box b1 bc1 b2 bc2 b3 bc3)=W1 at *;generalize w1.heap.size+1+1=q3 at *;generalize w1.heap.size+1=q2 at *;generalize w1.heap.size=q1 at *
 have uI:Hid (∀W2,Below W1.heap.size W1 W2->Calls prog 12 #[] W2 (Ic true W2)):=fun W2 hb=>dU _ (HE.O.below (zB HB1 hb)) (Mv.O.below (zB HB1 hb))
 have HPY:Hid (∀W2,Below W1.heap.size W1 W2->ok=true->Calls prog 13 #[y.v b1 bc1 b2 bc2 b3 bc3] W2 fun e w'=>e = .returned (.bool (decide (0<=Qh y 3000)))/\Below W2.heap.size W2 w'):=fun W2 hb ho=>aP y (fS (PI.O ho).2.2.2) _ _ _ _ _ _ W2 (nR.O.below hb)
 by_cases hgo:ok=true/\0<=Qh y 3000/\L.length<=20
 case neg =>
  have HGO:=zh hgo;clear hgo PI
  go_cut [41] (fun z wx=>z = .bool true/\Hid (Below W1.heap.size W1 wx))
  case first =>
   go_wp2_with fail
   refine (uI.O W1 (Pe _ _)).mono ?_;rintro e w2 ⟨rfl,hb2⟩;have HB2:=zh hb2;clear hb2
   cases ok with
   | false =>
    go_wp2
    go_meet
    exact ⟨rfl,HB2.O⟩
   | true =>
    obtain ⟨v0,v1,v2,v3,v4,v5,v6,v7⟩:=zF (zE fG HB2);go_wp2_with fail;refine (HPY.O w2 HB2 (by simp)).mono ?_
    rintro e w3 ⟨rfl,hb3⟩;have HB3:=zh (zB HB2 hb3);clear hb3 v0 v1 v2 v3 v4 v5 v6 v7
    by_cases hsy:0<=Qh y 3000
    ·have g1:(L.length:Int) > 20:=by
      have:¬ L.length<=20:=fun h=>HGO.O ⟨by simp,hsy,h⟩
      omega
     rw[AAJ hsy];clear hsy;go_wp2;go_meet;exact ⟨rfl,HB3.O⟩
    ·rw[AAP hsy]
     clear hsy;go_wp2;go_meet;exact ⟨rfl,HB3.O⟩
  case rest =>
  obtain ⟨rfl,Js⟩:=hcut;obtain ⟨W2,rfl⟩:∃W2:World,W2=wc:=⟨_,rfl⟩;have HB2:=zh Js.O;clear Js;go_wp2_with fail;refine (uI.O W2 HB2).mono ?_;rintro e w3 ⟨rfl,hb3⟩;have HB3:=zh (zB (zB HB1 HB2) hb3);clear hb3;go_wp2;go_ret;exact ⟨rfl,HB3.O⟩
 obtain ⟨rfl,hy3,AAu⟩:=hgo;obtain ⟨hmo,htr,_,hfy⟩:=PI.O (by simp)
 have fU:=zh hmo;have HZY:Hid (decide (0<=Qh y 3000)=true):=AAJ hy3;obtain ⟨hf,hz,hfe,_⟩:=Xt hmo htr hfy hy3;have htk:=QE (Yz hmo.v hmo.n64) hf 1;have hrs:=fun (l5:List AJ) (h:Ap 1 (LX s t y).data.toList = .ok l5)=>Xe (Yz hmo.v hmo.n64) htr hf h L
 rw[<-hfe] at htk hrs;obtain ⟨l5,hl5⟩:∃l5,(Qg s (SizeOf.sizeOf y) t y).map (tZ 1)=l5:=⟨_,rfl⟩;rw[hl5] at htk;have h5z:=(FE _ 1 _ l5 (AAF _) htk).2;have Ou:=zh (hrs l5 htk);have PG:=zh htk;have HZ:Hid ((LZ s t y).size<=36000):=hz;have Lh:Hid (l5.length<=36000/\L.length<=20):=⟨by have h2:(LZ s t y).data.toList.length=(LZ s t y).size:=rfl;omega,AAu⟩
 have g1:¬ (L.length:Int) > 20:=by omega
 have sK:=zh (fun W=>QL (s:=s) A1 c1 hmo.v hmo.n64 t y (by omega) b1 bc1 b2 bc2 b3 bc3 W)
 rw[hf] at sK;simp only[if_true] at sK;generalize LZ s t y=FT at *;clear hmo htr hfy hy3 AAu hf hz hfe htk hrs hl5 h5z PI;go_wp2_with fail;refine (uI.O W1 (Pe _ _)).mono ?_;rintro e w2 ⟨rfl,hb2⟩;have HB2:=zh hb2;clear hb2;obtain ⟨v0,v1,v2,v3,v4,v5,v6,v7⟩:=zF (zE fG HB2);go_wp2_with fail;refine (HPY.O w2 HB2 (by simp)).mono ?_
 rintro e w3 ⟨rfl,hb3⟩;have HB3:=zh (zB HB2 hb3);clear hb3 v0 v1 v2 v3 v4 v5 v6 v7;rw[HZY.O];go_upto_region 4 with fail
 obtain ⟨v0,v1,v2,v3,v4,v5,v6,v7⟩:=zF (zE fG HB3);have x0:=zb (zE Ei HB3);go_wp2_with fail;refine (sK.O _ (Il.O.below HB3) (nR.O.below HB3) (HE.O.below (zB HB1 HB3)).tab).mono ?_;rintro e w4 ⟨rfl,hb4⟩;have ED:=zh (zB HB3 hb4);clear hb4 v0 v1 v2 v3 v4 v5 v6 v7 x0 g1;go_wp2_with fail
 refine (aj FT (by have:=HZ.O;omega) _ (HE.O.below (zB HB1 ED))).mono ?_
 rintro e w5 ⟨A5,c5,n5,er5,o5,rfl,ht5,hl5,hb5,Wj⟩;rw[Pd (by have:=HZ.O;omega),PG.O] at Wj
 obtain ⟨rfl,rfl,rfl⟩:=Wj;have fO:=zh ht5;have Aq:=zh (zB ED hb5);have PE:=zh (zB HB1 Aq);have Ih:=zh (HL.O.below PE);have HSW:=zh (Il.O.below Aq);have Tw:Hid (w5.cell? ⟨q1,0,none⟩=some (.slice A1 s.length c1)):=by show _=_;rw[AAC _ _ _ _ _ _ (zE Ei Aq)];rfl
 have ADn:=zh (zE fG Aq);have ADl:=zh (nR.O.below Aq);clear ht5 hb5 hl5 HB2 HB3 ED uI HPY sK HXB WO;have Ej:Hid (∀ (D8:zo) (d8:Nat) (W:World),DC W A1 s->Ew W D8 (o5++L)->Calls prog 31 #[.agg #[.slice A1 s.length c1],.int .i64 t,.slice D8 (o5.length+L.length) d8] W (xB s t (o5++L) W)):=fun D8 d8 W h1 h2=>by
  rw[<-ABF];exact Ni fU.O.v fU.O.n64 A1 c1 t (o5++L) D8 d8 (by have:=Lh.O;rw[ABF];omega) W h1 h2
 go_upto_region 8 with fail
 go_cut [15,16,17] (fun p z n wx=>∃ (x:Aj) (q:Nat),p = .pointer (some ⟨q,0,none⟩)/\z = .int .i64 (Ea false s t (o5++L)).2.1/\n = .int .i64 (Ea false s t (o5++L)).2.2/\Hid (x.v=(Ea false s t (o5++L)).1/\wx.rangeAt q 0 x.cells/\Ar wx x.v x.A1 x.A2 x.A3/\Below w5.heap.size w5 wx))
 case first =>
  refine wp_region_held_drew (S:=(fun w'=>w'.cell? ⟨q1,0,none⟩=some (.slice A1 s.length c1)/\Hid (Below w5.heap.size w5 w'))) (by kernel_rfl) ?_ (fun AQ=>?_)
  ·(try dsimp only);exact ⟨zA (zC (Pe _ _) 1) Tw,zC (Pe _ _) 1⟩
  refine tL 0 ?_;refine tL 1 ?_;refine tL 2 ?_;refine tL 4 ?_;refine wpAnyH_ready (rs:=[3,11]) (by kernel_rfl) (by simp) ?_
  refine (AllReadyH.cons rfl (fun K hK=>?_) (AllReadyH.cons rfl (fun K hK=>?_) AllReadyH.nil))
  ·
   go_simp
   (have HZ3:=zh AQ.2.O.size;refine (Ze o5 A5 c5 _ (fO.O.below AQ.2.O)).mono ?_;rintro e w7 ⟨D,dd,rfl,tQ,Vd⟩;have WR:=zh tQ;have yj:=zh Vd.size;have Bv:=zh (zB AQ.2.O Vd);clear tQ Vd)
   refine hK.out _ _ ?_ (fun AQ=>?_)
   ·(try dsimp only);exact ⟨zA Bv Tw,Bv.O⟩
   clear hK K;refine wpAnyH_ready (rs:=[5,11]) (by kernel_rfl) (by simp) ?_
   refine (AllReadyH.cons rfl (fun K hK=>?_) (AllReadyH.cons rfl (fun K hK=>?_) AllReadyH.nil))
   ·
    (have uJ:=Pf (Ih.O.below (Bv.O));refine AU IZ (by rfl) (.tmp 72) (.tmp 73) (by rfl) _ _ o5.length (o5.flatMap FW) (by rfl) (WR.O) AL L.length cL (L.flatMap FW) (by rfl) (SL L) uJ (Pb L) (by have:=Lh.O;omega) (by have:=Lh.O;omega) (yj.O) ?_;intro v8 w8 BB Aw Cv;have BF:=zh (Below.grown (Bv.O) Aw (Bv.O.size) fun q hq=>Nat.le_trans HZ3 (World.ownsRow.lt WR q hq).1);obtain ⟨D8,d8,rfl,tK⟩:=SN BB rfl (by have:=Lh.O;omega) (KH fO) (KH Ih);have zq:=zh tK;clear BB Aw Cv tK uJ)
    refine hK.out _ _ ?_ (fun AQ=>?_)
    ·(try dsimp only);exact ⟨zA BF Tw,BF.O⟩
    clear hK K;try simp only[ps]
    refine wpAnyH_ready (rs:=[6,11]) (by kernel_rfl) (by simp) ?_
    refine (AllReadyH.cons rfl (fun K hK=>?_) (AllReadyH.cons rfl (fun K hK=>?_) AllReadyH.nil))
    ·
     go_simp
     (refine (Ej.O D8 d8 _ (HSW.O.below AQ.2.O) (zq.O)).mono ?_;rintro e w9 ⟨x,rfl,Za,TV,MX⟩;have fK:=zh Za;have nC:=zh TV;have Ij:=zh (zB AQ.2.O MX);clear Za TV MX)
     refine hK.out _ _ ?_ (fun AQ=>?_)
     ·(try dsimp only);exact ⟨zA Ij Tw,Ij.O⟩
     clear hK K;refine tL 7 ?_;refine tL 8 ?_;refine tL 9 ?_;refine tL 10 ?_;refine tR 11 (fun K hK=>?_)
     go_simp
     refine hK.out _ _ ?_ (fun AQ=>?_)
     ·(try dsimp only);exact ⟨zA (zB AQ.2.O (zD _ _)) Tw,zB AQ.2.O (zD _ _)⟩
     clear hK K;try simp only[ps]
     refine tR 12 (fun K hK=>?_)
     (have YO:=zh (TM (w2:=w5) (q:=w9.heap.size) (AAA w9 DJ) Ij.O.size (zB Ij (zD w9 DJ)) ((nC.O.mono (S':=fun p=>p=w9.heap.size) fun p hp e=>absurd e (Nat.ne_of_lt hp)).alloc DJ));simp only[List.getElem_toArray,List.getElem_cons_zero,List.getElem_cons_succ];rw[AAB (by rfl)];refine wp_store_mid 28 (.tmp 15) (.tmp 76) rfl (w9.heap.size) (0) (x.cells.toArray) (by rfl) (by rfl) ?_ ?_ ?_ ?_;(exact Cb (AAA w9 DJ));(exact Bw);(exact C8 x))
     refine hK.out _ _ ?_ (fun AQ=>?_)
     ·(try dsimp only);exact ⟨zA (YO.O.2.2) Tw,YO.O.2.2⟩
     clear hK K;refine tL 13 ?_;refine tL 14 ?_;refine wpAnyH_done (by kernel_rfl) ?_ _
     (go_wp2;go_meet;exact ⟨x,_,rfl,rfl,rfl,fK.O,YO.O⟩)
    ·
     go_simp
     refine hK.out _ _ ?_ (fun AQ=>?_)
     ·(try dsimp only);exact ⟨zA (zB AQ.2.O (zD _ _)) Tw,zB AQ.2.O (zD _ _)⟩
     clear hK K;refine tR 6 (fun K hK=>?_)
     go_simp
     (refine (Ej.O D8 d8 _ (HSW.O.below AQ.2.O) (zq.O.below (zD w8 DJ))).mono ?_;rintro e w9 ⟨x,rfl,Za,TV,MX⟩;have fK:=zh Za;have nC:=zh TV;have Ij:=zh (zB AQ.2.O MX);have R9:=zh (zE (AAA w8 DJ) MX);clear Za TV MX)
     refine hK.out _ _ ?_ (fun AQ=>?_)
     ·(try dsimp only);exact ⟨zA Ij Tw,Ij.O⟩
     clear hK K;refine tL 7 ?_;try simp only[ps]
     refine tL 8 ?_;refine tL 9 ?_;refine tL 10 ?_;refine tR 12 (fun K hK=>?_)
     (have YO:=zh (TM (w2:=w5) (q:=w8.heap.size) R9 BF.O.size Ij (nC.O.mono (S':=fun p=>p=w8.heap.size) fun p _ e=>by rw[e,World.size_alloc];exact AB1 _));simp only[List.getElem_toArray,List.getElem_cons_zero,List.getElem_cons_succ];rw[AAB (by rfl)];refine wp_store_mid 28 (.tmp 15) (.tmp 76) rfl (w8.heap.size) (0) (x.cells.toArray) (by rfl) (by rfl) ?_ ?_ ?_ ?_;(exact Cb R9);(exact Bw);(exact C8 x))
     refine hK.out _ _ ?_ (fun AQ=>?_)
     ·(try dsimp only);exact ⟨zA (YO.O.2.2) Tw,YO.O.2.2⟩
     clear hK K;refine tL 13 ?_;refine tL 14 ?_;try simp only[ps]
     refine wpAnyH_done (by kernel_rfl) ?_ _
     (go_wp2;go_meet;exact ⟨x,_,rfl,rfl,rfl,fK.O,YO.O⟩)
   ·
    go_simp
    refine hK.out _ _ ?_ (fun AQ=>?_)
    ·(try dsimp only);exact ⟨zA (zB AQ.2.O (zD _ _)) Tw,zB AQ.2.O (zD _ _)⟩
    clear hK K;refine tR 5 (fun K hK=>?_)
    (have uJ:=Pf (Ih.O.below (zB Bv (zD w7 DJ)));refine AU IZ (by rfl) (.tmp 72) (.tmp 73) (by rfl) _ _ o5.length (o5.flatMap FW) (by rfl) (AZ.alloc WR DJ) AL L.length cL (L.flatMap FW) (by rfl) (SL L) uJ (Pb L) (by have:=Lh.O;omega) (by have:=Lh.O;omega) (Nat.le_trans yj (by simp)) ?_;intro v8 w8 BB Aw Cv;have BF:=zh (Below.grown (zB Bv (zD w7 DJ)) Aw (Nat.le_trans Bv.O.size (by simp)) fun q hq=>Nat.le_trans HZ3 (World.ownsRow.lt WR q hq).1);obtain ⟨D8,d8,rfl,tK⟩:=SN BB rfl (by have:=Lh.O;omega) (KH fO) (KH Ih);have zq:=zh tK;have HX8:=zh ((Aw.block w7.heap.size (by simp) (fun e0=>absurd (World.ownsRow.lt WR _ e0.symm).2 (Nat.lt_irrefl _))).trans (AAA w7 DJ));clear BB Aw Cv tK uJ)
    refine hK.out _ _ ?_ (fun AQ=>?_)
    ·(try dsimp only);exact ⟨zA BF Tw,BF.O⟩
    clear hK K;refine tR 6 (fun K hK=>?_)
    go_simp
    (refine (Ej.O D8 d8 _ (HSW.O.below AQ.2.O) (zq.O)).mono ?_;rintro e w9 ⟨x,rfl,Za,TV,MX⟩;have fK:=zh Za;have nC:=zh TV;have Ij:=zh (zB AQ.2.O MX);have R9:=zh (zE HX8 MX);clear Za TV MX)
    refine hK.out _ _ ?_ (fun AQ=>?_)
    ·(try dsimp only);exact ⟨zA Ij Tw,Ij.O⟩
    clear hK K;refine tL 7 ?_;refine tL 8 ?_;refine tL 9 ?_;try simp only[ps]
    refine tL 10 ?_;refine tR 12 (fun K hK=>?_)
    (have YO:=zh (TM (w2:=w5) (q:=w7.heap.size) R9 Bv.O.size Ij (nC.O.mono (S':=fun p=>p=w7.heap.size) fun p _ e=>by rw[e];exact (zg.1 HX8).1));simp only[List.getElem_toArray,List.getElem_cons_zero,List.getElem_cons_succ];rw[AAB (by rfl)];refine wp_store_mid 28 (.tmp 15) (.tmp 76) rfl (w7.heap.size) (0) (x.cells.toArray) (by rfl) (by rfl) ?_ ?_ ?_ ?_;(exact Cb R9);(exact Bw);(exact C8 x))
    refine hK.out _ _ ?_ (fun AQ=>?_)
    ·(try dsimp only);exact ⟨zA (YO.O.2.2) Tw,YO.O.2.2⟩
    clear hK K;refine tL 13 ?_;refine tL 14 ?_;refine wpAnyH_done (by kernel_rfl) ?_ _
    (go_wp2;go_meet;exact ⟨x,_,rfl,rfl,rfl,fK.O,YO.O⟩)
  ·
   go_simp
   refine hK.out _ _ ?_ (fun AQ=>?_)
   ·(try dsimp only);exact ⟨zA (zB AQ.2.O (zD _ _)) Tw,zB AQ.2.O (zD _ _)⟩
   clear hK K;refine tR 3 (fun K hK=>?_)
   go_simp
   (have HZ3:=zh AQ.2.O.size;refine (Ze o5 A5 c5 _ (fO.O.below AQ.2.O)).mono ?_;rintro e w7 ⟨D,dd,rfl,tQ,Vd⟩;have WR:=zh tQ;have yj:=zh Vd.size;have Bv:=zh (zB AQ.2.O Vd);have xP:=zh (zE (w:=(w5.alloc DJ).drew) (AAA w5 DJ) Vd);clear tQ Vd)
   refine hK.out _ _ ?_ (fun AQ=>?_)
   ·(try dsimp only);exact ⟨zA Bv Tw,Bv.O⟩
   clear hK K;try simp only[ps]
   refine tR 5 (fun K hK=>?_)
   (have uJ:=Pf (Ih.O.below (Bv.O));refine AU IZ (by rfl) (.tmp 72) (.tmp 73) (by rfl) _ _ o5.length (o5.flatMap FW) (by rfl) (WR.O) AL L.length cL (L.flatMap FW) (by rfl) (SL L) uJ (Pb L) (by have:=Lh.O;omega) (by have:=Lh.O;omega) (yj.O) ?_;intro v8 w8 BB Aw Cv;have BF:=zh (Below.grown (Bv.O) Aw (Bv.O.size) fun q hq=>Nat.le_trans HZ3 (World.ownsRow.lt WR q hq).1);obtain ⟨D8,d8,rfl,tK⟩:=SN BB rfl (by have:=Lh.O;omega) (KH fO) (KH Ih);have zq:=zh tK;have HX8:=zh ((Aw.block w5.heap.size (zg.1 xP).1 (fun e0=>absurd (World.ownsRow.lt WR _ e0.symm).1 (by simp))).trans xP);clear BB Aw Cv tK uJ)
   refine hK.out _ _ ?_ (fun AQ=>?_)
   ·(try dsimp only);exact ⟨zA BF Tw,BF.O⟩
   clear hK K;refine tR 6 (fun K hK=>?_)
   go_simp
   (refine (Ej.O D8 d8 _ (HSW.O.below AQ.2.O) (zq.O)).mono ?_;rintro e w9 ⟨x,rfl,Za,TV,MX⟩;have fK:=zh Za;have nC:=zh TV;have Ij:=zh (zB AQ.2.O MX);have R9:=zh (zE HX8 MX);clear Za TV MX)
   refine hK.out _ _ ?_ (fun AQ=>?_)
   ·(try dsimp only);exact ⟨zA Ij Tw,Ij.O⟩
   clear hK K;refine tL 7 ?_;refine tL 8 ?_;refine tL 9 ?_;refine tL 10 ?_;try simp only[ps]
   refine tR 12 (fun K hK=>?_)
   (have YO:=zh (TM (w2:=w5) (q:=w5.heap.size) R9 (AAF _) Ij (nC.O.mono (S':=fun p=>p=w5.heap.size) fun p _ e=>by rw[e];exact (zg.1 HX8).1));simp only[List.getElem_toArray,List.getElem_cons_zero,List.getElem_cons_succ];rw[AAB (by rfl)];refine wp_store_mid 28 (.tmp 15) (.tmp 76) rfl (w5.heap.size) (0) (x.cells.toArray) (by rfl) (by rfl) ?_ ?_ ?_ ?_;(exact Cb R9);(exact Bw);(exact C8 x))
   refine hK.out _ _ ?_ (fun AQ=>?_)
   ·(try dsimp only);exact ⟨zA (YO.O.2.2) Tw,YO.O.2.2⟩
   clear hK K;refine tL 13 ?_;refine tL 14 ?_;refine wpAnyH_done (by kernel_rfl) ?_ _
   (go_wp2;go_meet;exact ⟨x,_,rfl,rfl,rfl,fK.O,YO.O⟩)
 case rest =>
 obtain ⟨x,q4,rfl,rfl,rfl,hcc⟩:=hcut;obtain ⟨W2,rfl⟩:∃W2:World,W2=wc:=⟨_,rfl⟩;have HRX:=zh hcc.O.2.1;have HR3:=zh hcc.O.2.2.1;have BH:=zh hcc.O.2.2.2;have ADm:=zh (zE ADn BH);have ADk:=zh (ADl.O.below BH);have HUV:Hid (decide (x.v=y)=true):=AAJ (hcc.O.1.trans (by rw[Ou.O]))
 rw[Ou.O];clear hcc Ou Tw HSW Ih fO;obtain ⟨v0,v1,v2,v3,v4,v5,v6,v7⟩:=Ji HRX;obtain ⟨u0,u1,u2,u3,u4,u5,u6,u7⟩:=Yg ADm;go_wp2_with fail;refine (Sv x.v y x.A1 x.c1 x.A2 x.c2 x.A3 x.c3 b1 bc1 b2 bc2 b3 bc3 W2 HR3 ADk).mono ?_;rintro e w7 ⟨rfl,Gj⟩;rw[HUV.O];have Bv:=zh (zB (zB PE BH) Gj);clear Gj v0 v1 v2 v3 v4 v5 v6 v7 u0 u1 u2 u3 u4 u5 u6 u7
 go_wp2
 go_ret
 exact ⟨rfl,Bv.O⟩
