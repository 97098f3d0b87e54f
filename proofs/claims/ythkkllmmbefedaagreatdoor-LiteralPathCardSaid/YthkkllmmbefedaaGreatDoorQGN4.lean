/-
  Walks: the law LiteralPath.
-/
import Derived.Test.YthkkllmmbefedaaGreatDoorQGN6
import Derived.Test.YthkkllmmbefedaaGreatDoorQAKO
import Derived.Test.YthkkllmmbefedaaGreatDoorQGU0
import Derived.Test.YthkkllmmbefedaaGreatDoorQGA2
import Derived.Test.YthkkllmmbefedaaGreatDoorQGP1
import Derived.Test.YthkkllmmbefedaaGreatDoorQGP0
import Derived.Test.YthkkllmmbefedaaGreatDoorQPTH
namespace Go.Proofs.YthkkllmmbefedaaGreatDoor
open Go.RowKit
set_option maxHeartbeats 16000000
set_option maxRecDepth 100000
theorem dJ (w:World) (o o2 o3:Obj):(((w.alloc o).alloc o2).alloc o3).heap[w.heap.size]? = some o/\(((w.alloc o).alloc o2).alloc o3).heap[w.heap.size+1]? = some o2/\(((w.alloc o).alloc o2).alloc o3).heap[w.heap.size+1+1]? = some o3/\Below w.heap.size w (((w.alloc o).alloc o2).alloc o3):=by
 have h1:=AAC w o;have h2:=AAC (w.alloc o) o2;have h3:=AAC ((w.alloc o).alloc o2) o3;rw[show (w.alloc o).heap.size=w.heap.size+1 by simp] at h2
 rw[show ((w.alloc o).alloc o2).heap.size=w.heap.size+1+1 by simp] at h3
 exact ⟨BR (BR h1 (zD _ _)) (zD _ _),BR h2 (zD _ _),h3,zB (zI _ _ _) (zD _ _)⟩
theorem kz {l:List Int} {A:zo} {c:Nat} {w:World} (hl:Bl w A l):Calls Tryz.prog 28 #[.slice A l.length c] w fun e w'=>∃B d,e = .returned (.slice B l.length d)/\Bl w' B l/\Below w.heap.size w w':=by
 have hlen:(l.map encI).length=l.length:=by simp
 have hfl:(l.map encI).flatten=l.flatMap encI:=by simp[List.flatMap]
 have:=RQ (l.map encI) (fun cs hc=>by obtain ⟨x,_,rfl⟩:=List.mem_map.1 hc;rfl) (fun cs hc u hu=>by obtain ⟨x,_,rfl⟩:=List.mem_map.1 hc;unfold encI at hu;rw[List.mem_singleton.1 hu];rfl) (by rw[hlen];exact hl.1) A c w (N9 hl)
 rw[hlen] at this;refine this.mono ?_;rintro e w' ⟨v,rfl,ho,hb⟩;have ho2:Jh w' w.heap.size v l:=by
  unfold Ra Ad at ho;unfold Jh Ad;rw[Cg,hlen,hfl] at ho;exact ho
 obtain ⟨B,d,rfl,hr⟩:=Jh.ints ho2 hl.1;exact ⟨B,d,rfl,hr,hb⟩
abbrev yt:ByteArray->Value:=Value.string
theorem iG {s:List Ae} (hs:QU s) (hM:eX s) {t:Int} {v:Val} {L:List M6} (hat:∀x∈L,(CO s t v x.p).isSome=true) (hnd:(L.map (·.p)).Nodup) {i:Nat} (hi:i<L.length) :
  IQ (BL s t (L[i]).p) ((L.take i).map fun x=>BL s t x.p)=false:=by
 cases h:IQ (BL s t (L[i]).p) ((L.take i).map fun x=>BL s t x.p) with
 | false=>rfl
 | true =>
  exfalso
  obtain ⟨x,hx,e⟩:=List.mem_map.1 (TM.1 h);obtain ⟨j,hj,uN⟩:=AAw hx;rw[List.length_take] at hj;rw[List.getElem_take] at uN;have h1:=Nr hs hM _ _ t v (hat x (by rw[<-uN];exact AAK _)) (hat _ (AAK hi)) e
  rw[<-uN] at h1;have h2:=(List.pairwise_iff_getElem.1 hnd) j i (by rw[AAZ];omega) (by rw[AAZ];exact hi) (by omega)
  rw[List.getElem_map,List.getElem_map] at h2;exact h2 h1
theorem X8 {s:List Ae} {t:Int} {v:Val} {p:List Int} (hf:BH s false t v=true) (ha:(CO s t v p).isSome=true):GJ s t v p=(BL s t p,0):=by
 unfold GJ;rw[Pd (by rw[hf];simp)]
 cases h:CO s t v p with
 | none=>rw[h] at ha;cases ha
 | some q=>rfl
theorem TU (d:List AX) (k:Nat) (l:List Int) (v:Val) (p:List Int) (A:zo) (c:Nat) (B:zo) (b:Nat) (G1:zo) (g1:Nat) (G2:zo) (g2:Nat) (G3:zo) (g3:Nat) (AP:zo) (cp:Nat) (w:World) (hh:k<256/\BM w A d/\UH w B l/\l.length<=b) (hr:Az w v G1 G2 G3) (hsb:GD v) (hi:Bl w AP p/\p.length<=cp) (hE:Jj w) {SA:zo} {sc:Nat} (hS:J8 w SA sc) :
  Calls Tryz.prog 8 #[.agg #[.slice A d.length c,.int .u8 (k:Int),.slice B l.length b],v.v G1 g1 G2 g2 G3 g3,.slice AP p.length cp] w (OJ true w):=by
 have HH:=zh hh;have fD:=zh hr;have qO:=zh hsb;have HI:=zh hi;have HE:=zh hE;have Oz:=zh hS;have HX0:=zh (EO w (.cells #[.slice A d.length c,.int .u8 (k:Int),.slice B l.length b] 42) (v.box G1 g1 G2 g2 G3 g3));have HB0:=zh (zI w (.cells #[.slice A d.length c,.int .u8 (k:Int),.slice B l.length b] 42) (v.box G1 g1 G2 g2 G3 g3));have hpl:=hi.1.1;unfold DU at hpl;clear hh hr hsb hi hE hS
 go_enter Tryz.func8,Tryz.ntmps8
 go_upto_region 1 with fail
 generalize (w.alloc (.cells #[.slice A d.length c,.int .u8 (k:Int),.slice B l.length b] 42)).alloc (v.box G1 g1 G2 g2 G3 g3)=W0 at *;have x0:W0.cell? ⟨w.heap.size,0,none⟩=some (.slice A d.length c):=(AAE _ _ _ _ _ _ HX0.out.1).trans rfl;have x1:W0.cell? ⟨w.heap.size,1,none⟩=some (.int .u8 (k:Int)):=by rw[AAE _ _ _ _ _ _ HX0.out.1];rfl
 have x2:W0.cell? ⟨w.heap.size,2,none⟩=some (.slice B l.length b):=by rw[AAE _ _ _ _ _ _ HX0.out.1];rfl
 have mh:=zh HX0.out.2.1;obtain ⟨q4,hq4⟩:∃q,w.heap.size+1=q:=⟨_,rfl⟩;rw[hq4] at mh ⊢;clear hq4;go_wp2_with fail;refine (je (HH.out.2.1.below HB0) HH.out.1 (HH.out.2.2.1.below HB0) HH.out.2.2.2).mono ?_;rintro e w1 ⟨A1,c1,s,t,⟨x,a1,ac1,a2,ac2,a3,ac3⟩,⟨y,b1,bc1,b2,bc2,b3,bc3⟩,ok,rfl,hb1,hs,hx,hy,hok⟩;simp only at hx hy hok
 have lX:=zh (dJ w1 (.cells #[.slice A1 s.length c1] 31) (x.box a1 ac1 a2 ac2 a3 ac3) (y.box b1 bc1 b2 bc2 b3 bc3));have KP:=zh (hs.below lX.out.2.2.2);have gM:=zh (hy.below lX.out.2.2.2);have KR:=zh hok;have HB1:=zh (zB (zB HB0 hb1) lX.out.2.2.2);have Ei:=zh lX.out.1;have mY:=zh lX.out.2.2.1;have HV1:=zh (zE (zE mh hb1) lX.out.2.2.2)
 clear hs hx hy hok hb1 x0 x1 x2 HX0 HB0 HH lX mh;go_upto_region 2 with fail
 generalize ((w1.alloc (.cells #[.slice A1 s.length c1] 31)).alloc (x.box a1 ac1 a2 ac2 a3 ac3)).alloc (y.box b1 bc1 b2 bc2 b3 bc3)=W1 at *;generalize w1.heap.size+1+1=q3 at *;generalize w1.heap.size+1=q2 at *;generalize w1.heap.size=q1 at *
 have fI:Hid (∀W2,Below W1.heap.size W1 W2->Calls Tryz.prog 12 #[] W2 (OJ true W2)):=fun W2 hb=>Y6 _ (HE.out.below (zB HB1 hb)) (Oz.out.below (zB HB1 hb))
 go_cut [54] (fun z wx=>(z = .bool true/\Hid (Below W1.heap.size W1 wx))\/(z = .bool false/\Hid (Below W1.heap.size W1 wx/\ok=true/\0<=PO y 3000/\p.length<=10)))
 case first =>
  go_wp2_with fail
  refine (fI.out W1 (Pe _ _)).mono ?_;rintro e w2 ⟨rfl,hb2⟩;have HB2:=zh hb2;clear hb2
  cases ok with
  | false =>
   go_wp2
   go_meet
   exact .inl ⟨rfl,HB2.out⟩
  | true =>
   have gT:=zh (KR.out (by simp)).2.2.2
   clear KR;obtain ⟨v0,v1,v2,v3,v4,v5,v6,v7⟩:=zF (zE HV1 HB2);go_wp2_with fail;refine (PY v qO G1 g1 G2 g2 G3 g3 w2 (fD.out.below (zB HB1 HB2))).mono ?_;rintro e w3 ⟨rfl,hb3⟩;have HB3:=zh (zB HB2 hb3);clear hb3 v0 v1 v2 v3 v4 v5 v6 v7
   by_cases hsv:0<=PO v 3000
   case neg =>
    rw[AAU hsv];clear hsv;go_wp2;go_meet;exact .inl ⟨rfl,HB3.out⟩
   rw[AAX hsv];clear hsv;obtain ⟨v0,v1,v2,v3,v4,v5,v6,v7⟩:=zF (zE mY HB3);go_wp2_with fail;refine (PY y (fS gT) b1 bc1 b2 bc2 b3 bc3 w3 (gM.out.below HB3)).mono ?_;rintro e w4 ⟨rfl,hb4⟩;have BA:=zh (zB HB3 hb4);clear hb4 v0 v1 v2 v3 v4 v5 v6 v7
   by_cases hsy:0<=PO y 3000
   case neg =>
    rw[AAU hsy];clear hsy;go_wp2;go_meet;exact .inl ⟨rfl,BA.out⟩
   have AAk:=zh hsy;rw[AAX hsy];clear hsy;obtain ⟨v0,v1,v2,v3,v4,v5,v6,v7⟩:=zF (zE mY BA);go_wp2_with fail;refine (Pz _ y (AAH _) b1 bc1 b2 bc2 b3 bc3 w4 (gM.out.below BA)).mono ?_;rintro e w5 ⟨n,rfl,hb5⟩;have Ap:=zh (zB BA hb5);clear hb5 v0 v1 v2 v3 v4 v5 v6 v7
   by_cases hn6:n > 60
   ·go_wp2
    go_meet
    exact .inl ⟨rfl,Ap.out⟩
   ·by_cases hp1:p.length<=10
    ·have g9:¬ (p.length:Int) > 10:=by omega
     have Og:=zh hp1;have HDD:Hid ((decide (60<n)||decide ((10:Int)<(p.length:Int)))=false):=by
      show _=_
      rw[Bool.or_eq_false_iff];exact ⟨AAU (by omega),AAU (by omega)⟩
     clear hp1;go_wp2;go_meet;exact .inr ⟨by rw[HDD.out],Ap.out,by simp,AAk.out,Og.out⟩
    ·have g9:(p.length:Int) > 10:=by omega
     clear hp1;go_wp2;go_meet;exact .inl ⟨rfl,Ap.out⟩
 case rest =>
 obtain ⟨W2,rfl⟩:∃W2:World,W2=wc:=⟨_,rfl⟩
 rcases hcut with ⟨rfl,GQ⟩|⟨rfl,GQ⟩
 ·have HB2:=zh GQ.out
  clear GQ;go_wp2_with fail;refine (fI.out W2 HB2).mono ?_;rintro e w3 ⟨rfl,hb3⟩;have HB3:=zh (zB (zB HB1 HB2) hb3);clear hb3;go_wp2;go_ret;exact ⟨rfl,HB3.out⟩
 obtain ⟨hb2,rfl,hsy,hp1⟩:=GQ.out;obtain ⟨hmo,htr,_,ZQ⟩:=KR.out (by simp)
 have QX:=zh hmo;have hf:=fM ZQ;have hkv:kV y<=3000:=aG hsy;have HF:=zh hf;have XT:=zh (Kn hmo.xE (SizeOf.sizeOf y) t y hf (AAH _));have UY:=zh hkv;have Og:=zh hp1;have HB2:=zh hb2;have HW2:=zh (zB HB1 hb2);have HS2:=zh (KP.out.below hb2);have vK:=zh (gM.out.below hb2);have vQ:=zh (fD.out.below HW2);have HI2:=zh (HI.out.1.below HW2)
 have Gg:=zh (zE Ei hb2);have vL:=zh (zE mY hb2);have HV2:=zh (zE HV1 hb2);have l8:=zh (HE.out.below HW2);clear GQ hb2 hsy hp1 hmo htr ZQ hf hkv KR fI HB1 HB2 KP gM fD Ei mY HV1 hpl
 have HLP:Hid (∀ (B8:zo) (d8:Nat) (W:World),Below W2.heap.size W2 W->Bl W B8 p->Calls Tryz.prog 27 #[.agg #[.slice A1 s.length c1],.int .i64 t,v.v G1 g1 G2 g2 G3 g3,.slice B8 p.length d8] W (eZ s t v p W)):=fun B8 d8 W hb h1=>JX A1 c1 QX.out.v QX.out.n64 t v G1 g1 G2 g2 G3 g3 p B8 d8 (by have:=Og.out;omega) W (HS2.out.below hb) (vQ.out.below hb) h1 (l8.out.below hb).tab
 have HRP:Hid (∀ (W:World),Below W2.heap.size W2 W->Calls Tryz.prog 29 #[.agg #[.slice A1 s.length c1],.int .i64 t,v.v G1 g1 G2 g2 G3 g3,.slice AP p.length cp] W (eZ s t v p W)):=fun W hb=>Xy A1 c1 QX.out.v QX.out.n64 t v G1 g1 G2 g2 G3 g3 p AP cp (by have:=Og.out;omega) HI.out.2 W (HS2.out.below hb) (vQ.out.below hb) (HI2.out.below hb) (l8.out.below hb).tab
 unfold eZ at HLP HRP;generalize (GJ s t v p).1=PT at *;generalize (GJ s t v p).2=PE at *
 have Oi:Hid (∀w',Below W2.heap.size W2 w'->w'.cell? ⟨q1,0,none⟩=some (.slice A1 s.length c1)/\(w'.cell? ⟨q4,0,none⟩=some (.int .i64 v.kind)/\w'.cell? ⟨q4,1,none⟩=some (.bool v.bool)/\w'.cell? ⟨q4,2,none⟩=some (.int .i64 v.int)/\w'.cell? ⟨q4,3,none⟩=some (.string v.str)/\w'.cell? ⟨q4,4,none⟩=some (.int .i64 v.id)/\w'.cell? ⟨q4,5,none⟩=some (.slice G1 v.keys.length g1)/\w'.cell? ⟨q4,6,none⟩=some (.slice G2 v.items.length g2)/\w'.cell? ⟨q4,7,none⟩=some (.slice G3 v.rest.length g3))/\Hid (Below W2.heap.size W2 w')):=fun w' hb=>⟨by rw[AAE _ _ _ _ _ _ (zE Gg hb)];rfl,zF (zE HV2 hb),hb⟩
 go_upto_region 4 with fail
 refine zs Oi (by kernel_rfl) ?_ (fun AO=>?_)
 ·(try dsimp only);exact Oi.out _ (zC (Pe _ _) 1)
 refine tL 0 ?_;refine tL 1 ?_;refine tL 2 ?_;refine tL 3 ?_;refine tR 4 (fun K hK=>?_)
 go_simp
 (refine (kz (HI2.out.below AO.2.2.out)).mono ?_;rintro e w3 ⟨B8,d8,rfl,hi3,hb3⟩;have HI3:=zh hi3;have HB3:=zh (zB AO.2.2.out hb3);clear hi3 hb3)
 refine hK.out _ _ ?_ (fun AO=>?_)
 ·(try dsimp only);exact Oi.out _ HB3
 clear hK K;refine tR 5 (fun K hK=>?_)
 go_simp
 (refine (HLP.out B8 d8 w3 HB3 HI3).mono ?_;rintro e w4 ⟨rfl,hb4⟩;have BA:=zh (zB HB3 hb4);clear hb4)
 refine hK.out _ _ ?_ (fun AO=>?_)
 ·(try dsimp only);exact Oi.out _ BA
 clear hK K;try simp only[ps]
 refine tL 6 ?_;refine tL 7 ?_;refine tL 8 ?_;refine tL 9 ?_;refine tL 10 ?_;refine wpAnyH_done (by kernel_rfl) ?_ _
 obtain ⟨x0,⟨v0,v1,v2,v3,v4,v5,v6,v7⟩,_⟩:=Oi.out _ BA;go_wp2_with fail;refine (HRP.out w4 BA).mono ?_;rintro e w5 ⟨rfl,hb5⟩;have Ap:=zh (zB BA hb5);have e1:(PT.toList != PT.toList)=false:=by simp
 have e2:(PE != PE)=false:=by simp
 clear hb5 x0 v0 v1 v2 v3 v4 v5 v6 v7 Oi HLP HRP HI3 HB3 BA;go_upto_region 8 with fail
 clear e1 e2;have FU:=zh (Dy.new (ek:=yt) w5);have HBM:=zh (zD w5 (.map #[] 0));have BN:=zh (zB Ap HBM);have hmm:=@run_makeMap Tryz.prog;go_upto_region 9 with fail
 clear hmm;generalize w5.alloc (.map #[] 0)=W6 at *;have XV:Hid (W2.heap.size<=w5.heap.size):=Ap.out.size;generalize w5.heap.size=mb at *;have x0:=zb (zE Gg BN);obtain ⟨v0,v1,v2,v3,v4,v5,v6,v7⟩:=zF (zE vL BN);go_wp2_with fail
 refine (Pp QX.out.xE _ t y (AAH _) (by have:=UY.out;omega) HF A1 c1 b1 bc1 b2 bc2 b3 bc3 W6 (HS2.out.below BN) (vK.out.below BN)).mono ?_
 rintro e w7 ⟨L,A8,c8,rfl,xC,uJ,FE⟩;have ZX:=zh uJ;have CS:=zh (zB BN FE);have Rm:=zh (FU.out.below FE);have HAG:Hid (fZ W6 w7 w7 (.slice (some ⟨mb,0,none⟩) 0 0)):=⟨fun q _ _=>rfl,fun k hk=>by
  have h3:=AAm hk;have h4:=FU.out.blt;simp only at h3;exact .inl (by omega),AAH _⟩
 have HAT:Hid (∀x∈L,(CO s t y x.p).isSome=true/\x.p.length<=3000):=fun x hx=>by
  have h3:x.p∈FC s (SizeOf.sizeOf y) t y:=by rw[<-xC];exact List.mem_map.2 ⟨x,hx,rfl⟩
  have h4:=XT.out.each _ h3;have h5:=UY.out;exact ⟨XT.out.at_ _ h3,by omega⟩
 have HND:Hid ((L.map (·.p)).Nodup):=by show List.Nodup _;rw[xC];exact XT.out.nd
 have Oh:Hid (L.length<=3000):=by
  have h3:=XT.out.len;rw[<-xC,AAZ] at h3;have h5:=UY.out
  show _<=_;omega
 have lS:Hid (QU s/\eX s):=⟨aM QX.out.v QX.out.n64,NH QX.out.v⟩;clear xC uJ FE x0 v0 v1 v2 v3 v4 v5 v6 v7 XT FU UY BN HBM Ap;go_wp2
 go_loopw [87] (fun i wr=>∃j:Nat,j<=L.length/\i = .int .i64 (j:Int)/\Hid (Below W2.heap.size W2 wr/\Dy yt wr mb ((L.take j).map fun x=>BL s t x.p)/\fZ W6 w7 wr (.slice (some ⟨mb,0,none⟩) 0 0))) (fun i _=>L.length - (intOf i).toNat)
 case atStart=>exact ⟨0,by omega,rfl,CS.out,Rm.out,HAG.out⟩
 case round =>
  obtain ⟨j,hj,rfl,hh⟩:=hrel;obtain ⟨wo,rfl⟩:∃wo:World,wo=wr:=⟨_,rfl⟩;have rM:=zh hh.out.1;have HMo:=zh hh.out.2.1;have HGo:=zh hh.out.2.2;clear hh;have hl3:=Oh.out
  by_cases hlt:j<L.length
  ·have ZV:Hid (RZ wo A8 L):=ZX.out wo fun q hq hl=>HGo.out.1 q (by have h3:¬ q<W6.heap.size:=hq;omega) hl
   obtain ⟨pb,po,hA8,uG,pc⟩:=ZV.out.UD hlt;have NS:Hid ((L.take (j+1)).map (fun x=>BL s t x.p)=(L.take j).map (fun x=>BL s t x.p)++[BL s t (L[j]).p]):=by
    show _=_
    rw[ABC hlt,List.map_append];rfl
   have HNW:=zh (iG lS.out.1 lS.out.2 (fun x hx=>(HAT.out x hx).1) HND hlt)
   have ZG:=zh (HAT.out _ (AAK hlt));generalize L[j]=z at *;subst hA8;have fA:=zh uG;have HSD:=zh (X8 HF ZG.out.1);have h1:(0:Int)<=(j:Int):=by omega
   have h2:(j:Int)<(L.length:Int):=by omega
   have x0:=zb (zE Gg rM);obtain ⟨v0,v1,v2,v3,v4,v5,v6,v7⟩:=zF (zE vL rM);clear uG ZV;go_wp2_with fail;refine (JX A1 c1 QX.out.v QX.out.n64 t y b1 bc1 b2 bc2 b3 bc3 z.p z.A z.c (by have:=ZG.out.2;omega) wo (HS2.out.below rM) (vK.out.below rM) fA (l8.out.below rM).tab).mono ?_
   rintro e w8 ⟨rfl,EJ⟩;rw[HSD.out];have BK:=zh (zB rM EJ);have QY:=zh (HMo.out.below EJ);have HG8:=zh (HGo.out.below EJ);generalize BL s t z.p=TX at *;have hlk:=QY.out.look (P:=Tryz.prog) (KT:=9) (MT:=72) (ET:=4) QD Tryz.underlying72 Zd TX;rw[HNW.out] at hlk;obtain ⟨w9,hr9,hs9,kJ,hz9⟩:=QY.out.put (P:=Tryz.prog) (KT:=9) (MT:=72) (ET:=4) QD Tryz.underlying72 TX
   have Vt:Hid (Dy yt w9 mb ((L.take (j+1)).map fun x=>BL s t x.p)):=by
    show Dy _ _ _ _
    rw[NS.out];exact hs9
   have KU:Hid (Below W2.heap.size W2 w9):=BK.out.grown kJ BK.out.size fun q hq=>by
    have h3:=AAm hq;have h4:=XV.out
    omega
   have HG9:Hid (fZ W6 w7 w9 (.slice (some ⟨mb,0,none⟩) 0 0)):=HG8.out.snoc kJ (.inl rfl);clear hs9 kJ hz9 EJ x0 v0 v1 v2 v3 v4 v5 v6 v7 pc;go_wp2;go_roundw
   case rel=>exact ⟨j+1,by omega,by go_num,KU.out,Vt.out,HG9.out⟩
   case measure=>simp[intOf];omega
  ·have h2:¬ (j:Int)<(L.length:Int):=by omega
   have Hy:=zh (zB HW2 rM);go_wp2;go_ret;exact ⟨rfl,Hy.out⟩
end Go.Proofs.YthkkllmmbefedaaGreatDoor



