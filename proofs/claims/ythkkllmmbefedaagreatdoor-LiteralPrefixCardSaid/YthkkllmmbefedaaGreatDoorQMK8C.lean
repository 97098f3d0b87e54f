/-
  The maker's value: kinds 6.
-/
import Derived.Test.YthkkllmmbefedaaGreatDoorQGN1
namespace Go.Proofs.YthkkllmmbefedaaGreatDoor
open Go.RowKit Go.Proofs.Tryz
set_option maxHeartbeats 16000000
set_option maxRecDepth 100000
theorem bL {C:WI} (ho:Mt C.s) {n:Nat} (ih:Lf C n) (t:Int) (W:World) (l:List Int) (hn:l.length * 7+Lp C.s t<n+1) (hr:0<=t/\t<(C.s.length:Int)) (h:Ik C W l) (X7:(AO C.s t).kind=6):Calls prog 74 #[.pointer (some ⟨C.b,0,none⟩),.int .i64 t] W (zi C t W l):=by
 obtain ⟨tn,rfl⟩:=AAh hr.1;have htn:tn<C.s.length:=by omega
 obtain ⟨bq,oq,As,cs,Am,cm,hA,htr,t0,t1,t2,t3,t4,t5,t6,t7,t8,t9⟩:=h.ty.J3 htn;have EY:Hid (AO C.s (tn:Int)=C.s[tn]):=zT htn;have eX:Hid (1<=(C.s[tn]).kind/\(C.s[tn]).kind<=9):=by have:=Fh ho.v hr;rw[zT htn] at this;exact this
 have nI:Hid ((C.s[tn]).kind=6):=by rw[zT htn] at X7;exact X7
 clear X7;have nZ:Hid (Ev (C.s[tn]).kind->0<=(C.s[tn]).elem/\(C.s[tn]).elem<(C.s.length:Int)):=by have:=Jz ho.v hr;rw[zT htn] at this;exact this
 have nR:Hid ((C.s[tn]).kind=8->0<=(C.s[tn]).key/\(C.s[tn]).key<(C.s.length:Int)):=fun hk=>by have:=(MR ho.v hr (by rw[zT htn];exact hk)).1;rw[zT htn] at this;exact this
 have hls:=ho.len;have HN:Hid (l.length * 7+Lp C.s (tn:Int)<=n):=by show _<=_;omega
 have HR:=zh hr;have HO:=zh ho;have Ed:=zh ih;have Ie:=zh htr;generalize C.s[tn]=x at *;have M0:=zh (DX.new cs cm h htr rfl rfl rfl);have HU:Hid (Below C.w0.heap.size C.w0 (W.alloc zO)):=h.up.trans ((zD W zO).mono h.up.size);obtain ⟨B,d,_,hbx⟩:=h.ex
 have c0:(W.alloc zO).cell? ⟨C.b,0,none⟩=some (.slice (some ⟨bq,oq,none⟩) C.s.length C.c):=by rw[AAC _ _ _ _ _ _ (Au hbx (zD _ _)),<-hA];rfl
 replace t0:=zA HU t0;replace t1:=zA HU t1;replace t2:=zA HU t2;replace t3:=zA HU t3;replace t4:=zA HU t4;replace t5:=zA HU t5;replace t6:=zA HU t6;replace t7:=zA HU t7;replace t8:=zA HU t8;replace t9:=zA HU t9;have i0:(0:Int)<=(tn:Int):=by omega
 have i1:(tn:Int)<(C.s.length:Int):=by omega
 have hz1:(W.alloc zO).heap.size=W.heap.size+1:=by simp
 clear h ih hn htr hr ho hA hbx hls
 go_enter func74,ntmps74
 go_upto_region 1 with fail
 unfold zO at M0 HU c0 t0 t1 t2 t3 t4 t5 t6 t7 t8 t9 hz1;generalize xQ:W.alloc (.cells #[.int .i64 0,.bool false,.int .i64 0,.string ⟨#[]⟩,.int .i64 0,.slice none 0 0,.slice none 0 0,.slice none 0 0] 28)=Wa at *;clear xQ;go_upto_region 3 with fail
 clear t0 t1 t2 t3 t4 t5 t6 t7 t8 t9 c0 i0 i1 hz1;unfold I8 at M0;generalize World.alloc (World.alloc Wa _) _=Wc at *;obtain ⟨q,hq⟩:∃q,W.heap.size=q:=⟨_,rfl⟩;obtain ⟨px,hpx⟩:∃px,q+1=px:=⟨_,rfl⟩;obtain ⟨p,hp⟩:∃p,px+1=p:=⟨_,rfl⟩;rw[hq,hpx,hp] at M0;rw[hq,hpx,hp];have D7:Hid (DX C W q px p x As cs Am cm Wc l false 0 ⟨#[]⟩ 0 AP AP AP [] [] []):=M0.O;clear M0 hq hpx hp HU
 obtain ⟨b0,b1,b2,b3,b4,b5,b6,b7,b8,b9⟩:=zG D7.O.cells
 go_upto_block 0 with fail
 clear b0 b1 b2 b3 b4 b5 b6 b7 b8 b9
 go_cut [] (fun wx=>Hid (MvE C W q px p x As cs Am cm (tn:Int) l wx))
 case first =>
  obtain ⟨b0,b1,b2,b3,b4,b5,b6,b7,b8,b9⟩:=zG D7.O.cells;have hk:=nI.O;clear nI
  ·have HK:=zh hk
   have q1:(x.kind==1)=false:=by simp[hk]
   have q2:(x.kind==2)=false:=by simp[hk]
   have q3:(x.kind==3)=false:=by simp[hk]
   have q4:(x.kind==4)=false:=by simp[hk]
   have q5:(x.kind==5)=false:=by simp[hk]
   have q6:(x.kind==6)=true:=by simp[hk]
   clear hk;have sF:Hid (Lp C.s (tn:Int)=tn+1):=by show _=_;unfold Lp;rw[EY.O,HK.O];rfl
   have HMT:=zh (HO.O.vZ (tn:Int) HR.O.1 HR.O.2 (by rw[EY.O];exact .inr HK.O))
   have Qv:=zh (HO.O.mem (tn:Int) (by rw[EY.O];exact HK.O))
   have UI:=zh (HO.O.mel (tn:Int));have Z4:=zh (HO.O.ids (tn:Int));have HAS:=zh (HO.O.asc (tn:Int));rw[EY.O] at HMT UI Z4 Qv;have HPO:Hid (0<x.AA.length):=List.length_pos_iff.2 Qv;go_upto_region 26 with fail
   go_cut [145] (fun c wx=>∃b:Bool,c = .bool b/\Hid (∃l4,DX C W q px p x As cs Am cm wx l4 false 0 ⟨#[]⟩ 0 AP AP AP [] [] []/\l4.length<=l.length/\(b=true->x.open_=true)))
   case first =>
    cases hop:x.open_ with
    | false =>
     rw[hop] at b9;go_wp2;go_meet;exact ⟨false,rfl,l,D7.O,AAF _,fun e=>by cases e⟩
    | true =>
     rw[hop] at b9;go_wp2_with fail;refine (Nc D7.O.ms).mono ?_;rintro e w4 ⟨o,l4,rfl,h4,hb4,hl4⟩;have GD:=zh (D7.O.BK hb4 h4);have Tv:=zh hl4;clear h4 hb4 hl4;go_wp2;go_meet;exact ⟨o,rfl,l4,GD.O,Tv.O,fun _=>by first|rfl|exact hop|trivial⟩
   case rest =>
   obtain ⟨b,rfl,hh⟩:=hcut;obtain ⟨l4,VY,hl4,hb4⟩:=hh.O;obtain ⟨wp,rfl⟩:∃wp:World,wp=wc:=⟨_,rfl⟩;have GD:=zh VY;have Tv:=zh hl4;have HOP:=zh hb4;clear hh VY hl4 hb4 D7 b0 b1 b2 b3 b4 b5 b6 b7 b8 b9;obtain ⟨b0,b1,b2,b3,b4,b5,b6,b7,b8,b9⟩:=zG GD.O.cells
   cases b with
   | true =>
    go_wp2_with fail
    refine (Ht GD.O.ms x _ cs Am cm Ie Z4).mono ?_;rintro e w5 ⟨un,l5,rfl,hu,hus,h5,hb5,hl5⟩;have Mx:=zh (GD.O.BK hb5 h5);have fZ:Hid (l5.length<=l.length):=Nat.le_trans hl5 Tv;have HUN:=zh hu;have HUS:=zh hus;clear h5 hb5 hl5 hu hus b0 b1 b2 b3 b4 b5 b6 b7 b8 b9;obtain ⟨⟨_,_,_,_,v4,_⟩,vf⟩:=Mx.O.vb.cells;have f4:=vf 4;clear vf;go_upto_region 28 with fail
    have Gz:=zh (Mx.O.NI (j:=4) (u := .int .i64 un) (l8:=false) (it':=0) (st':=⟨#[]⟩) (dL:=un) rfl Mx.O.vb.str);clear v4 f4;generalize w5.setCell ⟨p,4,none⟩ (.int .i64 un)=W6 at *;obtain ⟨⟨_,_,_,_,v4,_⟩,_⟩:=Gz.O.vb.cells;go_wp2_with fail;refine (Rc Gz.O.ms un).mono ?_;rintro e w7 ⟨S,l7,rfl,hs,h7,Gj,hl7⟩;have WU:=zh (Gz.O.BK Gj h7)
    have HL7:Hid (l7.length<=l.length):=Nat.le_trans hl7 fZ;have HSK:=zh (show Cw S by unfold Cw;omega)
    have eU:=zh (WU.O.qC (y:=⟨un,S⟩) HSK);have PL:Hid (BN C.s (tn:Int) (.mk x.kind false 0 ⟨#[]⟩ un (([]:List Aj).map (·.v)) (([]:List Aj).map (·.v)) [⟨un,S⟩])=true):=by
     show _=_
     rw[HK.O];exact bJ HR.O.1 HR.O.2 (by rw[EY.O];exact HK.O) (by rw[EY.O];exact HOP.O (by first|rfl|trivial)) HUN (by rw[EY.O];exact HUS.O) hs
    have yM:=zh (WU.O.below (zD w7 (.cells #[.int .i64 un,.string S] 97)));clear hs h7 Gj hl7 v4;obtain ⟨c7,f7⟩:=yM.O.c7;unfold encR at eU;go_upto_region 29 with fail
    clear c7 f7;generalize World.setCell (World.alloc w7 _) _ _=W8 at *;have HG2:=zh (eU.O.fin HL7 ⟨by simp,by simp,by simp⟩ PL)
    have Ky:=zh (Gx eU.O.bq (.int .i64 x.kind) (.bool false) (.int .i64 0) (.string ⟨#[]⟩) (.int .i64 un) AP AP (.slice (some ⟨w7.heap.size,0,none⟩) 1 1));obtain ⟨⟨x0,x1,x2,x3,x4,x5,x6,x7⟩,y0,y1,y2,y3,y4,y5,y6,y7⟩:=zK eU.O.bq;obtain ⟨⟨v0,v1,v2,v3,v4,v5,v6,v7⟩,_⟩:=eU.O.vb.cells;go_wp2;clear x0 x1 x2 x3 x4 x5 x6 x7 y0 y1 y2 y3 y4 y5 y6 y7 v0 v1 v2 v3 v4 v5 v6 v7
    unfold q8 Go.Proofs.YthkkllmmbefedaaGreatDoor.q5 at HG2 Ky;generalize World.setCell _ _ _=W9 at *;obtain ⟨⟨x0,x1,x2,x3,x4,x5,x6,x7⟩,_⟩:=zK Ky
    exact bodyPost_ret (v := .agg #[.int .i64 x.kind,.bool false,.int .i64 0,.string ⟨#[]⟩,.int .i64 un,AP,AP,.slice (some ⟨w7.heap.size,0,none⟩) 1 1]) (by simp[results,results74,go_sem,x0,x1,x2,x3,x4,x5,x6,x7]) rfl HG2
   | false =>
    have Ej:Hid (∀w',Ah C.b wp w'->w'.cell? ⟨px,6,none⟩=some (.slice Am x.AA.length cm)):=fun w' hb=>(GD.O.rd6 hb).1.2.1
    have GJ:=zh GD.O.ms.lt;clear b0 b1 b2 b3 b4 b5 b6 b7 b8 b9;have uF:Hid (p<wp.heap.size/\C.b<wp.heap.size/\C.b<p):=⟨GD.O.vb.lt,GD.O.ms.lt,GD.O.bp.2.2⟩;go_upto_region 30 with fail
    go_cut [8] (fun a wx=>∃qa:Nat,a = .pointer (some ⟨qa,0,none⟩)/\Hid (∃ (l5:List Int) (cn:Nat) (hcn:cn<x.AA.length) (M1:zo) (m1:Nat) (M2:zo) (m2:Nat) (M3:zo) (m3:Nat),DX C W q px p x As cs Am cm wx l5 false 0 ⟨#[]⟩ 0 AP AP AP [] [] []/\l5.length<=l.length/\wx.heap[qa]? = some (.cells ((x.AA[cn]).cs M1 m1 M2 m2 M3 m3).toArray 118)))
    case first =>
     refine yE (S:=(fun w'=>w'.cell? ⟨px,6,none⟩=some (.slice Am x.AA.length cm))) 10 (by kernel_rfl) ?_ (fun AQ=>?_)
     ·(try dsimp only);exact Ej.O _ (Ah.of (zC (Pe _ _) 1) (AAM GJ))
     refine tC 0 ?_;try simp only[ps]
     refine tB 1 ?_;try simp only[ps]
     refine tC 2 ?_;try simp only[ps]
     refine tC 3 ?_;try simp only[ps]
     refine tB 4 ?_;try simp only[ps]
     refine tC 5 ?_;try simp only[ps]
     refine zV (rs:=[6,9]) (by kernel_rfl) (by simp) ?_
     refine (AB.cons rfl (fun K hK=>?_) (AB.cons rfl (fun K hK=>?_) AB.nil))
     ·
      go_simp
      (have Wp:=zh (Ah.of (zC (Pe wp.heap.size wp) 1) (AAM GJ));have Qd:=zh (GD.O.below (zC (Pe _ _) 1));refine (BQ (x.AA.length:Int) (by have:=HPO.O;have:=UI.O;omega) Qd.O.ms).mono ?_;rintro e w2 ⟨c,l2,rfl,hc,h2,hb2,hl2,_⟩;have Fb:=zh (Qd.O.BK hb2 h2);have HB2:=zh (Wp.O.trans hb2);have HL2:=zh hl2;obtain ⟨cn,rfl⟩:=AAh hc.1;have hcn:cn<x.AA.length:=(by omega);obtain ⟨mb,mo,M1,m1,M2,m2,M3,m3,ql,_,d0,d1,d2,d3,d4,d5,d6,d7,d8,d9,UB,UA,T9⟩:=((Ie.O.AA).below Fb.O.ms.up).Mk hcn;subst ql;have YP:=zh (AAA w2 qO);have JX:=zh (zD w2 qO);have E5:Hid (p<w2.heap.size):=zh Fb.O.vb.lt;have i0:(0:Int)<=(cn:Int):=(by omega);have i1:(cn:Int)<(x.AA.length:Int):=(by omega);clear h2 hb2 hl2 hc)
      refine hK.out _ _ ?_ (fun AQ=>?_)
      ·(try dsimp only);exact Ej.O _ HB2
      clear hK K;try simp only[ps]
      refine tC 7 ?_;try simp only[ps]
      refine zV (rs:=[8,9]) (by kernel_rfl) (by simp) ?_
      refine (AB.cons rfl (fun K hK=>?_) (AB.cons rfl (fun K hK=>?_) AB.nil))
      ·
       go_simp
       refine hK.out _ _ ?_ (fun AQ=>?_)
       ·(try dsimp only);exact AQ
       clear hK K;try simp only[ps]
       refine tS 9 (fun K hK=>?_)
       (clear d0 d1 d2 d3 d4 d5 d6 d7 d8 d9 UB UA T9;go_simp)
       refine hK.out _ _ ?_ (fun AQ=>?_)
       ·(try dsimp only);exact Ej.O _ (HB2.O.below JX GJ)
       clear hK K;try simp only[ps]
       refine zV (rs:=[10]) (by kernel_rfl) (by simp) ?_
       refine AB.last rfl (by kernel_rfl) (fun K hK=>?_) AB.nil
       (simp only[List.getElem_toArray,List.getElem_cons_zero,List.getElem_cons_succ];rw[AAB (by rfl)];refine wp_store_mid 118 (.tmp 8) (.tmp 165) rfl (w2.heap.size) (0) (((x.AA[cn]).cs M1 m1 M2 m2 M3 m3).toArray) (by rfl) (by rfl) ?_ ?_ ?_ ?_;(exact Nf YP);(exact QD);(exact TL _ _ _ _ _ _ _))
       refine hK.out _ _ ?_;clear hK K
       (try clear AQ)
       try simp only[ps]
       refine wpAny_done (by kernel_rfl) ?_ _
       first|(have eT:=zh (Fb.O.below (yC (B:=w2.heap.size) (w:=w2) w2.heap.size (AAF _) ((x.AA[cn]).cs M1 m1 M2 m2 M3 m3) 0 _ JX));have R9:=zh (KV YP (x.AA[cn]) M1 m1 M2 m2 M3 m3);go_wp2;go_meet;exact ⟨_,rfl,l2,cn,hcn,M1,m1,M2,m2,M3,m3,eT.O,Nat.le_trans HL2 Tv,R9.O⟩)|(have eT:=zh (Fb.O.vW (yC (B:=p+1) (w:=w2) wp.heap.size uF.O.1 ((x.AA[cn]).cs M1 m1 M2 m2 M3 m3) 0 w2 (Pe _ _)));have R9:=zh (KV YP (x.AA[cn]) M1 m1 M2 m2 M3 m3);go_wp2;go_meet;exact ⟨_,rfl,l2,cn,hcn,M1,m1,M2,m2,M3,m3,eT.O,Nat.le_trans HL2 Tv,R9.O⟩)
      ·
       go_simp
       refine hK.out _ _ ?_ (fun AQ=>?_)
       ·(try dsimp only);exact Ej.O _ (HB2.O.below JX GJ)
       clear hK K;try simp only[ps]
       refine tS 8 (fun K hK=>?_)
       (replace d0:=zA JX d0;replace d1:=zA JX d1;replace d2:=zA JX d2;replace d3:=zA JX d3;replace d4:=zA JX d4;replace d5:=zA JX d5;replace d6:=zA JX d6;replace d7:=zA JX d7;replace d8:=zA JX d8;replace d9:=zA JX d9;replace UB:=zA JX UB;replace UA:=zA JX UA;replace T9:=zA JX T9;go_simp)
       refine hK.out _ _ ?_ (fun AQ=>?_)
       ·(try dsimp only);exact AQ
       clear hK K;try simp only[ps]
       refine zV (rs:=[10]) (by kernel_rfl) (by simp) ?_
       refine AB.last rfl (by kernel_rfl) (fun K hK=>?_) AB.nil
       (simp only[List.getElem_toArray,List.getElem_cons_zero,List.getElem_cons_succ];rw[AAB (by rfl)];refine wp_store_mid 118 (.tmp 8) (.tmp 165) rfl (w2.heap.size) (0) (((x.AA[cn]).cs M1 m1 M2 m2 M3 m3).toArray) (by rfl) (by rfl) ?_ ?_ ?_ ?_;(exact Nf YP);(exact QD);(exact TL _ _ _ _ _ _ _))
       refine hK.out _ _ ?_;clear hK K
       (try clear AQ)
       try simp only[ps]
       refine wpAny_done (by kernel_rfl) ?_ _
       first|(have eT:=zh (Fb.O.below (yC (B:=w2.heap.size) (w:=w2) w2.heap.size (AAF _) ((x.AA[cn]).cs M1 m1 M2 m2 M3 m3) 0 _ JX));have R9:=zh (KV YP (x.AA[cn]) M1 m1 M2 m2 M3 m3);go_wp2;go_meet;exact ⟨_,rfl,l2,cn,hcn,M1,m1,M2,m2,M3,m3,eT.O,Nat.le_trans HL2 Tv,R9.O⟩)|(have eT:=zh (Fb.O.vW (yC (B:=p+1) (w:=w2) wp.heap.size uF.O.1 ((x.AA[cn]).cs M1 m1 M2 m2 M3 m3) 0 w2 (Pe _ _)));have R9:=zh (KV YP (x.AA[cn]) M1 m1 M2 m2 M3 m3);go_wp2;go_meet;exact ⟨_,rfl,l2,cn,hcn,M1,m1,M2,m2,M3,m3,eT.O,Nat.le_trans HL2 Tv,R9.O⟩)
     ·
      go_simp
      refine hK.out _ _ ?_ (fun AQ=>?_)
      ·(try dsimp only);exact Ej.O _ (Ah.of (zB (zC (Pe _ _) 1) (zD (wp.drewN 1) qO)) (AAM GJ))
      clear hK K;try simp only[ps]
      refine tS 6 (fun K hK=>?_)
      go_simp
      (have Wp:=zh (Ah.of (zB (zC (Pe wp.heap.size wp) 1) (zD (wp.drewN 1) qO)) (AAM GJ));have Qd:=zh (GD.O.below (zB (zC (Pe _ _) 1) (zD (wp.drewN 1) qO)));refine (BQ (x.AA.length:Int) (by have:=HPO.O;have:=UI.O;omega) Qd.O.ms).mono ?_;rintro e w2 ⟨c,l2,rfl,hc,h2,hb2,hl2,_⟩;have Fb:=zh (Qd.O.BK hb2 h2);have HB2:=zh (Wp.O.trans hb2);have HL2:=zh hl2;obtain ⟨cn,rfl⟩:=AAh hc.1;have hcn:cn<x.AA.length:=(by omega);obtain ⟨mb,mo,M1,m1,M2,m2,M3,m3,ql,_,d0,d1,d2,d3,d4,d5,d6,d7,d8,d9,UB,UA,T9⟩:=((Ie.O.AA).below Fb.O.ms.up).Mk hcn;subst ql;have YP:Hid (w2.heap[wp.heap.size]? = some qO):=zh (OQ (AAA (wp.drewN 1) qO) hb2 (by have:=uF.O.2.1;show wp.heap.size≠_;omega));have i0:(0:Int)<=(cn:Int):=(by omega);have i1:(cn:Int)<(x.AA.length:Int):=(by omega);clear h2 hb2 hl2 hc)
      refine hK.out _ _ ?_ (fun AQ=>?_)
      ·(try dsimp only);exact Ej.O _ HB2
      clear hK K;try simp only[ps]
      refine tC 7 ?_;try simp only[ps]
      refine tS 8 (fun K hK=>?_)
      go_simp
      refine hK.out _ _ ?_ (fun AQ=>?_)
      ·(try dsimp only);exact AQ
      clear hK K;try simp only[ps]
      refine zV (rs:=[10]) (by kernel_rfl) (by simp) ?_
      refine AB.last rfl (by kernel_rfl) (fun K hK=>?_) AB.nil
      (simp only[List.getElem_toArray,List.getElem_cons_zero,List.getElem_cons_succ];rw[AAB (by rfl)];refine wp_store_mid 118 (.tmp 8) (.tmp 165) rfl (wp.heap.size) (0) (((x.AA[cn]).cs M1 m1 M2 m2 M3 m3).toArray) (by rfl) (by rfl) ?_ ?_ ?_ ?_;(exact Nf YP);(exact QD);(exact TL _ _ _ _ _ _ _))
      refine hK.out _ _ ?_;clear hK K
      (try clear AQ)
      try simp only[ps]
      refine wpAny_done (by kernel_rfl) ?_ _
      first|(have eT:=zh (Fb.O.below (yC (B:=w2.heap.size) (w:=w2) w2.heap.size (AAF _) ((x.AA[cn]).cs M1 m1 M2 m2 M3 m3) 0 _ JX));have R9:=zh (KV YP (x.AA[cn]) M1 m1 M2 m2 M3 m3);go_wp2;go_meet;exact ⟨_,rfl,l2,cn,hcn,M1,m1,M2,m2,M3,m3,eT.O,Nat.le_trans HL2 Tv,R9.O⟩)|(have eT:=zh (Fb.O.vW (yC (B:=p+1) (w:=w2) wp.heap.size uF.O.1 ((x.AA[cn]).cs M1 m1 M2 m2 M3 m3) 0 w2 (Pe _ _)));have R9:=zh (KV YP (x.AA[cn]) M1 m1 M2 m2 M3 m3);go_wp2;go_meet;exact ⟨_,rfl,l2,cn,hcn,M1,m1,M2,m2,M3,m3,eT.O,Nat.le_trans HL2 Tv,R9.O⟩)
    case rest =>
    obtain ⟨qa,rfl,hh⟩:=hcut;obtain ⟨l5,cn,hcn,M1,m1,M2,m2,M3,m3,Wj,hl5,hx5⟩:=hh.O;obtain ⟨wd,rfl⟩:∃wd:World,wd=wc:=⟨_,rfl⟩;have Mx:=zh Wj;have fZ:=zh hl5;have eP:=zh (HMT.O _ (AAL hcn));have HFU:Hid (∀y:Val,BN C.s (x.AA[cn]).type y=true->BN C.s (tn:Int) (.mk x.kind false 0 ⟨#[]⟩ (x.AA[cn]).id [] [y] [])=true):=fun y hy=>by
     have hc2:cn<(AO C.s (tn:Int)).AA.length:=by rw[EY.O];exact hcn
     have h2:=jo (y:=y) HAS HR.O.1 HR.O.2 (by rw[EY.O];exact HK.O) hc2
     simp only[EY.O] at h2;rw[HK.O];exact h2 hy
    generalize x.AA[cn]=m at *;have hqp:qa≠p:=Gr hx5 Wj.vb.blk (by decide)
    have hqb:qa≠C.b:=by obtain ⟨_,_,_,hbk⟩:=Wj.ms.ex;exact Gr hx5 hbk (by decide)
    have HQP:=zh hqp;have YT:=zh hqb;have CO:=zh hx5;have a0:wd.cell? ⟨qa,0,none⟩=some (.int .i64 m.id):=by rw[AAC _ _ _ _ _ _ hx5];rfl
    clear hh Wj hl5 hx5 hqp hqb;obtain ⟨⟨_,_,_,_,v4,_⟩,vf⟩:=Mx.O.vb.cells;have f4:=vf 4;clear vf;go_upto_region 32 with fail
    have Gz:=zh (Mx.O.NI (j:=4) (u := .int .i64 m.id) (l8:=false) (it':=0) (st':=⟨#[]⟩) (dL:=m.id) rfl Mx.O.vb.str);have JQ:=zh (show (wd.setCell ⟨p,4,none⟩ (.int .i64 m.id)).heap[qa]? = _ from (AAE _ _ _ _ HQP.O).trans CO);clear v4 f4 a0;generalize wd.setCell ⟨p,4,none⟩ (.int .i64 m.id)=W6 at *
    have a2:W6.cell? ⟨qa,2,none⟩=some (.int .i64 m.type):=by rw[AAC _ _ _ _ _ _ JQ.O];rfl
    have EP:Hid (l5.length * 7+Lp C.s m.type<n):=by
     have h2:=HN.O;have h4:=fZ.O;rw[sF.O] at h2;have h3:Lp C.s m.type<=tn:=by
      have h5:=eP.O.1;unfold Lp
      rcases eP.O.2 with h|h
      ·rw[AAB h];omega
      ·split <;> omega
     show _<_
     omega
    go_wp2_with fail
    refine (Ed.O m.type _ l5 EP eP.O.1 Gz.O.ms).mono ?_;rintro e w7 ⟨y,l7,rfl,g1,g2,g3,g4,g5⟩;have WU:=zh (Gz.O.BK g2 g3);have xP:=zh (Gz.O.hot g1);have HL7:Hid (l7.length<=l.length):=Nat.le_trans g4 fZ;have eU:=zh (WU.O.one xP);have HF:=zh (HFU.O y.v g5);have yM:=zh (WU.O.below (zD w7 (.cells y.cells.toArray 28)));clear g1 g2 g3 g4 g5 a2
    obtain ⟨⟨_,_,_,_,_,_,v6,_⟩,vf⟩:=yM.O.vb.cells;have f6:=vf 6;clear vf;unfold Aj.cells Val.cs at eU v6 f6;go_wp2;go_meet;exact ⟨_,_,_,_,_,_,_,[],[y],[],l7,eU.O,HL7.O,⟨by simp,by simp,by simp⟩,HF.O⟩
 case rest =>
 obtain ⟨bo,it,st,di,vk,vi,vr,K,I,R,l',hm,hl,hz,hf⟩:=hcut.O;obtain ⟨A1,c1,rfl,_⟩:=AZ.reads hm.vb.ok;obtain ⟨A2,c2,rfl,_⟩:=AZ.reads hm.vb.oi;obtain ⟨A3,c3,rfl,_⟩:=AZ.reads hm.vb.Sw;have HG2:=zh (hm.fin hl hz hf);have Ky:=zh (Gx hm.bq (.int .i64 x.kind) (.bool bo) (.int .i64 it) (.string st) (.int .i64 di) (.slice A1 K.length c1) (.slice A2 I.length c2) (.slice A3 R.length c3))
 obtain ⟨⟨x0,x1,x2,x3,x4,x5,x6,x7⟩,y0,y1,y2,y3,y4,y5,y6,y7⟩:=zK hm.bq;obtain ⟨⟨v0,v1,v2,v3,v4,v5,v6,v7⟩,_⟩:=hm.vb.cells;clear hcut hm hl hz hf;go_wp2;clear x0 x1 x2 x3 x4 x5 x6 x7 y0 y1 y2 y3 y4 y5 y6 y7 v0 v1 v2 v3 v4 v5 v6 v7;unfold q8 Go.Proofs.YthkkllmmbefedaaGreatDoor.q5 at HG2 Ky
 generalize World.setCell _ _ _=W9 at *;obtain ⟨⟨x0,x1,x2,x3,x4,x5,x6,x7⟩,_⟩:=zK Ky
 exact bodyPost_ret (v := .agg #[.int .i64 x.kind,.bool bo,.int .i64 it,.string st,.int .i64 di,.slice A1 K.length c1,.slice A2 I.length c2,.slice A3 R.length c3]) (by simp[results,results74,go_sem,x0,x1,x2,x3,x4,x5,x6,x7]) rfl HG2
