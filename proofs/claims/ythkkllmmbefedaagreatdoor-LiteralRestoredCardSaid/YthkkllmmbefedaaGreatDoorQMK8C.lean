/-
  The maker's value: kinds 6.
-/
import Derived.Test.YthkkllmmbefedaaGreatDoorQGN1
namespace Go.Proofs.YthkkllmmbefedaaGreatDoor
open Go.RowKit
set_option maxHeartbeats 16000000
set_option maxRecDepth 100000
theorem ZO {C:U1} (ho:MO C.s) {n:Nat} (ih:K9 C n) (t:Int) (W:World) (l:List Int) (hn:l.length * 7+LF C.s t<n+1) (hr:0<=t/\t<(C.s.length:Int)) (h:H9 C W l) (WY:(AO C.s t).kind=6):Calls Tryz.prog 74 #[.pointer (some ⟨C.b,0,none⟩),.int .i64 t] W (vH C t W l):=by
 obtain ⟨tn,rfl⟩:=AAY hr.1;have htn:tn<C.s.length:=by omega
 obtain ⟨bq,oq,As,cs,Am,cm,hA,htr,t0,t1,t2,t3,t4,t5,t6,t7,t8,t9⟩:=h.ty.JX htn;have Ed:Hid (AO C.s (tn:Int)=C.s[tn]):=zT htn;have aV:Hid (1<=(C.s[tn]).kind/\(C.s[tn]).kind<=9):=by have:=FI ho.v hr;rw[zT htn] at this;exact this
 have jU:Hid ((C.s[tn]).kind=6):=by rw[zT htn] at WY;exact WY
 clear WY;have kC:Hid (Eb (C.s[tn]).kind->0<=(C.s[tn]).elem/\(C.s[tn]).elem<(C.s.length:Int)):=by have:=JV ho.v hr;rw[zT htn] at this;exact this
 have jg:Hid ((C.s[tn]).kind=8->0<=(C.s[tn]).key/\(C.s[tn]).key<(C.s.length:Int)):=fun hk=>by have:=(Lr ho.v hr (by rw[zT htn];exact hk)).1;rw[zT htn] at this;exact this
 have hls:=ho.len;have HN:Hid (l.length * 7+LF C.s (tn:Int)<=n):=by show _<=_;omega
 have HR:=zh hr;have HO:=zh ho;have EI:=zh ih;have Hz:=zh htr;generalize C.s[tn]=x at *;have MQ:=zh (Cw.new cs cm h htr rfl rfl rfl);have HU:Hid (Below C.w0.heap.size C.w0 (W.alloc zO)):=h.up.trans ((zD W zO).mono h.up.size);obtain ⟨B,d,_,hbx⟩:=h.ex
 have c0:(W.alloc zO).cell? ⟨C.b,0,none⟩=some (.slice (some ⟨bq,oq,none⟩) C.s.length C.c):=by rw[AAN _ _ _ _ _ _ (Aw hbx (zD _ _)),<-hA];rfl
 replace t0:=zA HU t0;replace t1:=zA HU t1;replace t2:=zA HU t2;replace t3:=zA HU t3;replace t4:=zA HU t4;replace t5:=zA HU t5;replace t6:=zA HU t6;replace t7:=zA HU t7;replace t8:=zA HU t8;replace t9:=zA HU t9;have i0:(0:Int)<=(tn:Int):=by omega
 have i1:(tn:Int)<(C.s.length:Int):=by omega
 have hz1:(W.alloc zO).heap.size=W.heap.size+1:=by simp
 clear h ih hn htr hr ho hA hbx hls
 go_enter Tryz.func74,Tryz.ntmps74
 go_upto_region 1 with fail
 unfold zO at MQ HU c0 t0 t1 t2 t3 t4 t5 t6 t7 t8 t9 hz1;generalize tq:W.alloc (.cells #[.int .i64 0,.bool false,.int .i64 0,.string ⟨#[]⟩,.int .i64 0,.slice none 0 0,.slice none 0 0,.slice none 0 0] 28)=Wa at *;clear tq;go_upto_region 3 with fail
 clear t0 t1 t2 t3 t4 t5 t6 t7 t8 t9 c0 i0 i1 hz1;unfold IU at MQ;generalize World.alloc (World.alloc Wa _) _=Wc at *;obtain ⟨q,hq⟩:∃q,W.heap.size=q:=⟨_,rfl⟩;obtain ⟨px,hpx⟩:∃px,q+1=px:=⟨_,rfl⟩;obtain ⟨p,hp⟩:∃p,px+1=p:=⟨_,rfl⟩;rw[hq,hpx,hp] at MQ;rw[hq,hpx,hp];have Di:Hid (Cw C W q px p x As cs Am cm Wc l false 0 ⟨#[]⟩ 0 AP AP AP [] [] []):=MQ.out;clear MQ hq hpx hp HU
 obtain ⟨b0,b1,b2,b3,b4,b5,b6,b7,b8,b9⟩:=zG Di.out.cells
 go_upto_block 0 with fail
 clear b0 b1 b2 b3 b4 b5 b6 b7 b8 b9
 go_cut [] (fun wx=>Hid (MvE C W q px p x As cs Am cm (tn:Int) l wx))
 case first =>
  obtain ⟨b0,b1,b2,b3,b4,b5,b6,b7,b8,b9⟩:=zG Di.out.cells;have hk:=jU.out;clear jU
  ·have HK:=zh hk
   have q1:(x.kind==1)=false:=by simp[hk]
   have q2:(x.kind==2)=false:=by simp[hk]
   have q3:(x.kind==3)=false:=by simp[hk]
   have q4:(x.kind==4)=false:=by simp[hk]
   have q5:(x.kind==5)=false:=by simp[hk]
   have q6:(x.kind==6)=true:=by simp[hk]
   clear hk;have oQ:Hid (LF C.s (tn:Int)=tn+1):=by show _=_;unfold LF;rw[Ed.out,HK.out];rfl
   have yt:=zh (HO.out.rJ (tn:Int) HR.out.1 HR.out.2 (by rw[Ed.out];exact .inr HK.out))
   have QE:=zh (HO.out.mem (tn:Int) (by rw[Ed.out];exact HK.out))
   have Sy:=zh (HO.out.mel (tn:Int));have Ye:=zh (HO.out.ids (tn:Int));have HAS:=zh (HO.out.asc (tn:Int));rw[Ed.out] at yt Sy Ye QE;have vQ:Hid (0<x.AA.length):=List.length_pos_iff.2 QE;go_upto_region 26 with fail
   go_cut [145] (fun c wx=>∃b:Bool,c = .bool b/\Hid (∃l4,Cw C W q px p x As cs Am cm wx l4 false 0 ⟨#[]⟩ 0 AP AP AP [] [] []/\l4.length<=l.length/\(b=true->x.open_=true)))
   case first =>
    cases hop:x.open_ with
    | false =>
     rw[hop] at b9;go_wp2;go_meet;exact ⟨false,rfl,l,Di.out,AAP _,fun e=>by cases e⟩
    | true =>
     rw[hop] at b9;go_wp2_with fail;refine (Mx Di.out.ms).mono ?_;rintro e w4 ⟨o,l4,rfl,h4,hb4,hl4⟩;have Fb:=zh (Di.out.BJ hb4 h4);have Sj:=zh hl4;clear h4 hb4 hl4;go_wp2;go_meet;exact ⟨o,rfl,l4,Fb.out,Sj.out,fun _=>by first|rfl|exact hop|trivial⟩
   case rest =>
   obtain ⟨b,rfl,hh⟩:=hcut;obtain ⟨l4,UX,hl4,hb4⟩:=hh.out;obtain ⟨wp,rfl⟩:∃wp:World,wp=wc:=⟨_,rfl⟩;have Fb:=zh UX;have Sj:=zh hl4;have HOP:=zh hb4;clear hh UX hl4 hb4 Di b0 b1 b2 b3 b4 b5 b6 b7 b8 b9;obtain ⟨b0,b1,b2,b3,b4,b5,b6,b7,b8,b9⟩:=zG Fb.out.cells
   cases b with
   | true =>
    go_wp2_with fail
    refine (Gq Fb.out.ms x _ cs Am cm Hz Ye).mono ?_;rintro e w5 ⟨un,l5,rfl,hu,wU,h5,hb5,hl5⟩;have MP:=zh (Fb.out.BJ hb5 h5);have bD:Hid (l5.length<=l.length):=Nat.le_trans hl5 Sj;have yO:=zh hu;have yN:=zh wU;clear h5 hb5 hl5 hu wU b0 b1 b2 b3 b4 b5 b6 b7 b8 b9;obtain ⟨⟨_,_,_,_,v4,_⟩,vf⟩:=MP.out.vb.cells;have f4:=vf 4;clear vf;go_upto_region 28 with fail
    have Gb:=zh (MP.out.Mf (j:=4) (u := .int .i64 un) (iW:=false) (it':=0) (st':=⟨#[]⟩) (Zw:=un) rfl MP.out.vb.str);clear v4 f4;generalize w5.setCell ⟨p,4,none⟩ (.int .i64 un)=W6 at *;obtain ⟨⟨_,_,_,_,v4,_⟩,_⟩:=Gb.out.vb.cells;go_wp2_with fail;refine (Qo Gb.out.ms un).mono ?_;rintro e w7 ⟨S,l7,rfl,hs,h7,F4,wY⟩;have U8:=zh (Gb.out.BJ F4 h7)
    have HL7:Hid (l7.length<=l.length):=Nat.le_trans wY bD;have HSK:=zh (show Dk S by unfold Dk;omega)
    have aU:=zh (U8.out.mK (y:=⟨un,S⟩) HSK);have Oa:Hid (BM C.s (tn:Int) (.mk x.kind false 0 ⟨#[]⟩ un (([]:List Aj).map (·.v)) (([]:List Aj).map (·.v)) [⟨un,S⟩])=true):=by
     show _=_
     rw[HK.out];exact ZM HR.out.1 HR.out.2 (by rw[Ed.out];exact HK.out) (by rw[Ed.out];exact HOP.out (by first|rfl|trivial)) yO (by rw[Ed.out];exact yN.out) hs
    have uW:=zh (U8.out.below (zD w7 (.cells #[.int .i64 un,.string S] 97)));clear hs h7 F4 wY v4;obtain ⟨c7,f7⟩:=uW.out.c7;unfold encR at aU;go_upto_region 29 with fail
    clear c7 f7;generalize World.setCell (World.alloc w7 _) _ _=W8 at *;have HG2:=zh (aU.out.fin HL7 ⟨by simp,by simp,by simp⟩ Oa)
    have KW:=zh (Gr aU.out.bq (.int .i64 x.kind) (.bool false) (.int .i64 0) (.string ⟨#[]⟩) (.int .i64 un) AP AP (.slice (some ⟨w7.heap.size,0,none⟩) 1 1));obtain ⟨⟨x0,x1,x2,x3,x4,x5,x6,x7⟩,y0,y1,y2,y3,y4,y5,y6,y7⟩:=zK aU.out.bq;obtain ⟨⟨v0,v1,v2,v3,v4,v5,v6,v7⟩,_⟩:=aU.out.vb.cells;go_wp2;clear x0 x1 x2 x3 x4 x5 x6 x7 y0 y1 y2 y3 y4 y5 y6 y7 v0 v1 v2 v3 v4 v5 v6 v7
    unfold q8 Go.Proofs.YthkkllmmbefedaaGreatDoor.q5 at HG2 KW;generalize World.setCell _ _ _=W9 at *;obtain ⟨⟨x0,x1,x2,x3,x4,x5,x6,x7⟩,_⟩:=zK KW
    exact bodyPost_ret (v := .agg #[.int .i64 x.kind,.bool false,.int .i64 0,.string ⟨#[]⟩,.int .i64 un,AP,AP,.slice (some ⟨w7.heap.size,0,none⟩) 1 1]) (by simp[results,Tryz.results74,go_sem,x0,x1,x2,x3,x4,x5,x6,x7]) rfl HG2
   | false =>
    have E8:Hid (∀w',Ah C.b wp w'->w'.cell? ⟨px,6,none⟩=some (.slice Am x.AA.length cm)):=fun w' hb=>(Fb.out.rd6 hb).1.2.1
    have GX:=zh Fb.out.ms.lt;clear b0 b1 b2 b3 b4 b5 b6 b7 b8 b9;have qA:Hid (p<wp.heap.size/\C.b<wp.heap.size/\C.b<p):=⟨Fb.out.vb.lt,Fb.out.ms.lt,Fb.out.bp.2.2⟩;go_upto_region 30 with fail
    go_cut [8] (fun a wx=>∃qa:Nat,a = .pointer (some ⟨qa,0,none⟩)/\Hid (∃ (l5:List Int) (cn:Nat) (hcn:cn<x.AA.length) (M1:zo) (m1:Nat) (M2:zo) (m2:Nat) (M3:zo) (m3:Nat),Cw C W q px p x As cs Am cm wx l5 false 0 ⟨#[]⟩ 0 AP AP AP [] [] []/\l5.length<=l.length/\wx.heap[qa]? = some (.cells ((x.AA[cn]).cs M1 m1 M2 m2 M3 m3).toArray 118)))
    case first =>
     refine yE (S:=(fun w'=>w'.cell? ⟨px,6,none⟩=some (.slice Am x.AA.length cm))) 10 (by kernel_rfl) ?_ (fun AQ=>?_)
     ·(try dsimp only);exact E8.out _ (Ah.of (zC (Pe _ _) 1) (AAV GX))
     refine tC 0 ?_;try simp only[ps]
     refine tB 1 ?_;try simp only[ps]
     refine tC 2 ?_;try simp only[ps]
     refine tC 3 ?_;try simp only[ps]
     refine tB 4 ?_;try simp only[ps]
     refine tC 5 ?_;try simp only[ps]
     refine zV (rs:=[6,9]) (by kernel_rfl) (by simp) ?_
     refine (AB.cons rfl (fun K hK=>?_) (AB.cons rfl (fun K hK=>?_) AB.nil))
     ·
      go_simp
      (have VT:=zh (Ah.of (zC (Pe wp.heap.size wp) 1) (AAV GX));have Pq:=zh (Fb.out.below (zC (Pe _ _) 1));refine (BN (x.AA.length:Int) (by have:=vQ.out;have:=Sy.out;omega) Pq.out.ms).mono ?_;rintro e w2 ⟨c,l2,rfl,hc,h2,hb2,hl2,_⟩;have Fh:=zh (Pq.out.BJ hb2 h2);have HB2:=zh (VT.out.trans hb2);have HL2:=zh hl2;obtain ⟨cn,rfl⟩:=AAY hc.1;have hcn:cn<x.AA.length:=(by omega);obtain ⟨mb,mo,M1,m1,M2,m2,M3,m3,nR,_,d0,d1,d2,d3,d4,d5,d6,d7,d8,d9,RA,Q9,Q8⟩:=((Hz.out.AA).below Fh.out.ms.up).K5 hcn;subst nR;have Wz:=zh (AAL w2 mZ);have Km:=zh (zD w2 mZ);have Ee:Hid (p<w2.heap.size):=zh Fh.out.vb.lt;have i0:(0:Int)<=(cn:Int):=(by omega);have i1:(cn:Int)<(x.AA.length:Int):=(by omega);clear h2 hb2 hl2 hc)
      refine hK.out _ _ ?_ (fun AQ=>?_)
      ·(try dsimp only);exact E8.out _ HB2
      clear hK K;try simp only[ps]
      refine tC 7 ?_;try simp only[ps]
      refine zV (rs:=[8,9]) (by kernel_rfl) (by simp) ?_
      refine (AB.cons rfl (fun K hK=>?_) (AB.cons rfl (fun K hK=>?_) AB.nil))
      ·
       go_simp
       refine hK.out _ _ ?_ (fun AQ=>?_)
       ·(try dsimp only);exact AQ
       clear hK K;try simp only[ps]
       refine tS 9 (fun K hK=>?_)
       (clear d0 d1 d2 d3 d4 d5 d6 d7 d8 d9 RA Q9 Q8;go_simp)
       refine hK.out _ _ ?_ (fun AQ=>?_)
       ·(try dsimp only);exact E8.out _ (HB2.out.below Km GX)
       clear hK K;try simp only[ps]
       refine zV (rs:=[10]) (by kernel_rfl) (by simp) ?_
       refine AB.last rfl (by kernel_rfl) (fun K hK=>?_) AB.nil
       (simp only[List.getElem_toArray,List.getElem_cons_zero,List.getElem_cons_succ];rw[AAH (by rfl)];refine wp_store_mid 118 (.tmp 8) (.tmp 165) rfl (w2.heap.size) (0) (((x.AA[cn]).cs M1 m1 M2 m2 M3 m3).toArray) (by rfl) (by rfl) ?_ ?_ ?_ ?_;(exact M0 Wz);(exact PD);(exact R3 _ _ _ _ _ _ _))
       refine hK.out _ _ ?_;clear hK K
       (try clear AQ)
       try simp only[ps]
       refine wpAny_done (by kernel_rfl) ?_ _
       first|(have aT:=zh (Fh.out.below (yC (B:=w2.heap.size) (w:=w2) w2.heap.size (AAP _) ((x.AA[cn]).cs M1 m1 M2 m2 M3 m3) 0 _ Km));have jL:=zh (J3 Wz (x.AA[cn]) M1 m1 M2 m2 M3 m3);go_wp2;go_meet;exact ⟨_,rfl,l2,cn,hcn,M1,m1,M2,m2,M3,m3,aT.out,Nat.le_trans HL2 Sj,jL.out⟩)|(have aT:=zh (Fh.out.rF (yC (B:=p+1) (w:=w2) wp.heap.size qA.out.1 ((x.AA[cn]).cs M1 m1 M2 m2 M3 m3) 0 w2 (Pe _ _)));have jL:=zh (J3 Wz (x.AA[cn]) M1 m1 M2 m2 M3 m3);go_wp2;go_meet;exact ⟨_,rfl,l2,cn,hcn,M1,m1,M2,m2,M3,m3,aT.out,Nat.le_trans HL2 Sj,jL.out⟩)
      ·
       go_simp
       refine hK.out _ _ ?_ (fun AQ=>?_)
       ·(try dsimp only);exact E8.out _ (HB2.out.below Km GX)
       clear hK K;try simp only[ps]
       refine tS 8 (fun K hK=>?_)
       (replace d0:=zA Km d0;replace d1:=zA Km d1;replace d2:=zA Km d2;replace d3:=zA Km d3;replace d4:=zA Km d4;replace d5:=zA Km d5;replace d6:=zA Km d6;replace d7:=zA Km d7;replace d8:=zA Km d8;replace d9:=zA Km d9;replace RA:=zA Km RA;replace Q9:=zA Km Q9;replace Q8:=zA Km Q8;go_simp)
       refine hK.out _ _ ?_ (fun AQ=>?_)
       ·(try dsimp only);exact AQ
       clear hK K;try simp only[ps]
       refine zV (rs:=[10]) (by kernel_rfl) (by simp) ?_
       refine AB.last rfl (by kernel_rfl) (fun K hK=>?_) AB.nil
       (simp only[List.getElem_toArray,List.getElem_cons_zero,List.getElem_cons_succ];rw[AAH (by rfl)];refine wp_store_mid 118 (.tmp 8) (.tmp 165) rfl (w2.heap.size) (0) (((x.AA[cn]).cs M1 m1 M2 m2 M3 m3).toArray) (by rfl) (by rfl) ?_ ?_ ?_ ?_;(exact M0 Wz);(exact PD);(exact R3 _ _ _ _ _ _ _))
       refine hK.out _ _ ?_;clear hK K
       (try clear AQ)
       try simp only[ps]
       refine wpAny_done (by kernel_rfl) ?_ _
       first|(have aT:=zh (Fh.out.below (yC (B:=w2.heap.size) (w:=w2) w2.heap.size (AAP _) ((x.AA[cn]).cs M1 m1 M2 m2 M3 m3) 0 _ Km));have jL:=zh (J3 Wz (x.AA[cn]) M1 m1 M2 m2 M3 m3);go_wp2;go_meet;exact ⟨_,rfl,l2,cn,hcn,M1,m1,M2,m2,M3,m3,aT.out,Nat.le_trans HL2 Sj,jL.out⟩)|(have aT:=zh (Fh.out.rF (yC (B:=p+1) (w:=w2) wp.heap.size qA.out.1 ((x.AA[cn]).cs M1 m1 M2 m2 M3 m3) 0 w2 (Pe _ _)));have jL:=zh (J3 Wz (x.AA[cn]) M1 m1 M2 m2 M3 m3);go_wp2;go_meet;exact ⟨_,rfl,l2,cn,hcn,M1,m1,M2,m2,M3,m3,aT.out,Nat.le_trans HL2 Sj,jL.out⟩)
     ·
      go_simp
      refine hK.out _ _ ?_ (fun AQ=>?_)
      ·(try dsimp only);exact E8.out _ (Ah.of (zB (zC (Pe _ _) 1) (zD (wp.drewN 1) mZ)) (AAV GX))
      clear hK K;try simp only[ps]
      refine tS 6 (fun K hK=>?_)
      go_simp
      (have VT:=zh (Ah.of (zB (zC (Pe wp.heap.size wp) 1) (zD (wp.drewN 1) mZ)) (AAV GX));have Pq:=zh (Fb.out.below (zB (zC (Pe _ _) 1) (zD (wp.drewN 1) mZ)));refine (BN (x.AA.length:Int) (by have:=vQ.out;have:=Sy.out;omega) Pq.out.ms).mono ?_;rintro e w2 ⟨c,l2,rfl,hc,h2,hb2,hl2,_⟩;have Fh:=zh (Pq.out.BJ hb2 h2);have HB2:=zh (VT.out.trans hb2);have HL2:=zh hl2;obtain ⟨cn,rfl⟩:=AAY hc.1;have hcn:cn<x.AA.length:=(by omega);obtain ⟨mb,mo,M1,m1,M2,m2,M3,m3,nR,_,d0,d1,d2,d3,d4,d5,d6,d7,d8,d9,RA,Q9,Q8⟩:=((Hz.out.AA).below Fh.out.ms.up).K5 hcn;subst nR;have Wz:Hid (w2.heap[wp.heap.size]? = some mZ):=zh (Ni (AAL (wp.drewN 1) mZ) hb2 (by have:=qA.out.2.1;show wp.heap.size≠_;omega));have i0:(0:Int)<=(cn:Int):=(by omega);have i1:(cn:Int)<(x.AA.length:Int):=(by omega);clear h2 hb2 hl2 hc)
      refine hK.out _ _ ?_ (fun AQ=>?_)
      ·(try dsimp only);exact E8.out _ HB2
      clear hK K;try simp only[ps]
      refine tC 7 ?_;try simp only[ps]
      refine tS 8 (fun K hK=>?_)
      go_simp
      refine hK.out _ _ ?_ (fun AQ=>?_)
      ·(try dsimp only);exact AQ
      clear hK K;try simp only[ps]
      refine zV (rs:=[10]) (by kernel_rfl) (by simp) ?_
      refine AB.last rfl (by kernel_rfl) (fun K hK=>?_) AB.nil
      (simp only[List.getElem_toArray,List.getElem_cons_zero,List.getElem_cons_succ];rw[AAH (by rfl)];refine wp_store_mid 118 (.tmp 8) (.tmp 165) rfl (wp.heap.size) (0) (((x.AA[cn]).cs M1 m1 M2 m2 M3 m3).toArray) (by rfl) (by rfl) ?_ ?_ ?_ ?_;(exact M0 Wz);(exact PD);(exact R3 _ _ _ _ _ _ _))
      refine hK.out _ _ ?_;clear hK K
      (try clear AQ)
      try simp only[ps]
      refine wpAny_done (by kernel_rfl) ?_ _
      first|(have aT:=zh (Fh.out.below (yC (B:=w2.heap.size) (w:=w2) w2.heap.size (AAP _) ((x.AA[cn]).cs M1 m1 M2 m2 M3 m3) 0 _ Km));have jL:=zh (J3 Wz (x.AA[cn]) M1 m1 M2 m2 M3 m3);go_wp2;go_meet;exact ⟨_,rfl,l2,cn,hcn,M1,m1,M2,m2,M3,m3,aT.out,Nat.le_trans HL2 Sj,jL.out⟩)|(have aT:=zh (Fh.out.rF (yC (B:=p+1) (w:=w2) wp.heap.size qA.out.1 ((x.AA[cn]).cs M1 m1 M2 m2 M3 m3) 0 w2 (Pe _ _)));have jL:=zh (J3 Wz (x.AA[cn]) M1 m1 M2 m2 M3 m3);go_wp2;go_meet;exact ⟨_,rfl,l2,cn,hcn,M1,m1,M2,m2,M3,m3,aT.out,Nat.le_trans HL2 Sj,jL.out⟩)
    case rest =>
    obtain ⟨qa,rfl,hh⟩:=hcut;obtain ⟨l5,cn,hcn,M1,m1,M2,m2,M3,m3,Zk,hl5,hx5⟩:=hh.out;obtain ⟨wd,rfl⟩:∃wd:World,wd=wc:=⟨_,rfl⟩;have MP:=zh Zk;have bD:=zh hl5;have aS:=zh (yt.out _ (AAU hcn));have HFU:Hid (∀y:Val,BM C.s (x.AA[cn]).type y=true->BM C.s (tn:Int) (.mk x.kind false 0 ⟨#[]⟩ (x.AA[cn]).id [] [y] [])=true):=fun y hy=>by
     have hc2:cn<(AO C.s (tn:Int)).AA.length:=by rw[Ed.out];exact hcn
     have h2:=fQ (y:=y) HAS HR.out.1 HR.out.2 (by rw[Ed.out];exact HK.out) hc2
     simp only[Ed.out] at h2;rw[HK.out];exact h2 hy
    generalize x.AA[cn]=m at *;have hqp:qa≠p:=Gs hx5 Zk.vb.blk (by decide)
    have hqb:qa≠C.b:=by obtain ⟨_,_,_,hbk⟩:=Zk.ms.ex;exact Gs hx5 hbk (by decide)
    have HQP:=zh hqp;have uO:=zh hqb;have CF:=zh hx5;have a0:wd.cell? ⟨qa,0,none⟩=some (.int .i64 m.id):=by rw[AAN _ _ _ _ _ _ hx5];rfl
    clear hh Zk hl5 hx5 hqp hqb;obtain ⟨⟨_,_,_,_,v4,_⟩,vf⟩:=MP.out.vb.cells;have f4:=vf 4;clear vf;go_upto_region 32 with fail
    have Gb:=zh (MP.out.Mf (j:=4) (u := .int .i64 m.id) (iW:=false) (it':=0) (st':=⟨#[]⟩) (Zw:=m.id) rfl MP.out.vb.str);have Iy:=zh (show (wd.setCell ⟨p,4,none⟩ (.int .i64 m.id)).heap[qa]? = _ from (AAO _ _ _ _ HQP.out).trans CF);clear v4 f4 a0;generalize wd.setCell ⟨p,4,none⟩ (.int .i64 m.id)=W6 at *
    have a2:W6.cell? ⟨qa,2,none⟩=some (.int .i64 m.type):=by rw[AAN _ _ _ _ _ _ Iy.out];rfl
    have Dz:Hid (l5.length * 7+LF C.s m.type<n):=by
     have h2:=HN.out;have h4:=bD.out;rw[oQ.out] at h2;have h3:LF C.s m.type<=tn:=by
      have h5:=aS.out.1;unfold LF
      rcases aS.out.2 with h|h
      ·rw[AAH h];omega
      ·split <;> omega
     show _<_
     omega
    go_wp2_with fail
    refine (EI.out m.type _ l5 Dz aS.out.1 Gb.out.ms).mono ?_;rintro e w7 ⟨y,l7,rfl,g1,g2,g3,g4,g5⟩;have U8:=zh (Gb.out.BJ g2 g3);have HX7:=zh (Gb.out.hot g1);have HL7:Hid (l7.length<=l.length):=Nat.le_trans g4 bD;have aU:=zh (U8.out.one HX7);have HF:=zh (HFU.out y.v g5);have uW:=zh (U8.out.below (zD w7 (.cells y.cells.toArray 28)));clear g1 g2 g3 g4 g5 a2
    obtain ⟨⟨_,_,_,_,_,_,v6,_⟩,vf⟩:=uW.out.vb.cells;have f6:=vf 6;clear vf;unfold Aj.cells Val.cs at aU v6 f6;go_wp2;go_meet;exact ⟨_,_,_,_,_,_,_,[],[y],[],l7,aU.out,HL7.out,⟨by simp,by simp,by simp⟩,HF.out⟩
 case rest =>
 obtain ⟨bo,it,st,di,vk,vi,vr,K,I,R,l',hm,hl,hz,hf⟩:=hcut.out;obtain ⟨A1,c1,rfl,_⟩:=Ab.reads hm.vb.ok;obtain ⟨A2,c2,rfl,_⟩:=Ab.reads hm.vb.oi;obtain ⟨A3,c3,rfl,_⟩:=Ab.reads hm.vb.Rp;have HG2:=zh (hm.fin hl hz hf);have KW:=zh (Gr hm.bq (.int .i64 x.kind) (.bool bo) (.int .i64 it) (.string st) (.int .i64 di) (.slice A1 K.length c1) (.slice A2 I.length c2) (.slice A3 R.length c3))
 obtain ⟨⟨x0,x1,x2,x3,x4,x5,x6,x7⟩,y0,y1,y2,y3,y4,y5,y6,y7⟩:=zK hm.bq;obtain ⟨⟨v0,v1,v2,v3,v4,v5,v6,v7⟩,_⟩:=hm.vb.cells;clear hcut hm hl hz hf;go_wp2;clear x0 x1 x2 x3 x4 x5 x6 x7 y0 y1 y2 y3 y4 y5 y6 y7 v0 v1 v2 v3 v4 v5 v6 v7;unfold q8 Go.Proofs.YthkkllmmbefedaaGreatDoor.q5 at HG2 KW
 generalize World.setCell _ _ _=W9 at *;obtain ⟨⟨x0,x1,x2,x3,x4,x5,x6,x7⟩,_⟩:=zK KW
 exact bodyPost_ret (v := .agg #[.int .i64 x.kind,.bool bo,.int .i64 it,.string st,.int .i64 di,.slice A1 K.length c1,.slice A2 I.length c2,.slice A3 R.length c3]) (by simp[results,Tryz.results74,go_sem,x0,x1,x2,x3,x4,x5,x6,x7]) rfl HG2
end Go.Proofs.YthkkllmmbefedaaGreatDoor



