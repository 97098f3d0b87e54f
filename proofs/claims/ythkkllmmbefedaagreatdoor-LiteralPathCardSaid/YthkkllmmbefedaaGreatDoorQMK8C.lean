/-
  The maker's value: kinds 6.
-/
import Derived.Test.YthkkllmmbefedaaGreatDoorQGN1
namespace Go.Proofs.YthkkllmmbefedaaGreatDoor
open Go.RowKit
set_option maxHeartbeats 16000000
set_option maxRecDepth 100000
theorem YM {C:UK} (ho:MI C.s) {n:Nat} (ih:KD C n) (t:Int) (W:World) (l:List Int) (hn:l.length * 7+KI C.s t<n+1) (hr:0<=t/\t<(C.s.length:Int)) (h:G5 C W l) (VT:(AB C.s t).kind=6):Calls Tryz.prog 74 #[.pointer (some ⟨C.b,0,none⟩),.int .i64 t] W (rX C t W l):=by
 obtain ⟨tn,rfl⟩:=AAT hr.1;have htn:tn<C.s.length:=by omega
 obtain ⟨bq,oq,As,cs,Am,cm,hA,htr,t0,t1,t2,t3,t4,t5,t6,t7,t8,t9⟩:=h.ty.FQ htn;have Ez:Hid (AB C.s (tn:Int)=C.s[tn]):=zT htn;have ZL:Hid (1<=(C.s[tn]).kind/\(C.s[tn]).kind<=9):=by have:=Dh ho.v hr;rw[zT htn] at this;exact this
 have fQ:Hid ((C.s[tn]).kind=6):=by rw[zT htn] at VT;exact VT
 clear VT;have nL:Hid (Eu (C.s[tn]).kind->0<=(C.s[tn]).elem/\(C.s[tn]).elem<(C.s.length:Int)):=by have:=JC ho.v hr;rw[zT htn] at this;exact this
 have gM:Hid ((C.s[tn]).kind=8->0<=(C.s[tn]).key/\(C.s[tn]).key<(C.s.length:Int)):=fun hk=>by have:=(Kv ho.v hr (by rw[zT htn];exact hk)).1;rw[zT htn] at this;exact this
 have hls:=ho.len;have HN:Hid (l.length * 7+KI C.s (tn:Int)<=n):=by show _<=_;omega
 have HR:=zh hr;have HO:=zh ho;have E5:=zh ih;have Dv:=zh htr;generalize C.s[tn]=x at *;have LM:=zh (Cr.new cs cm h htr rfl rfl rfl);have HU:Hid (Below C.w0.heap.size C.w0 (W.alloc zO)):=h.up.trans ((zD W zO).mono h.up.size);obtain ⟨B,d,_,hbx⟩:=h.ex
 have c0:(W.alloc zO).cell? ⟨C.b,0,none⟩=some (.slice (some ⟨bq,oq,none⟩) C.s.length C.c):=by rw[AAE _ _ _ _ _ _ (BR hbx (zD _ _)),<-hA];rfl
 replace t0:=zA HU t0;replace t1:=zA HU t1;replace t2:=zA HU t2;replace t3:=zA HU t3;replace t4:=zA HU t4;replace t5:=zA HU t5;replace t6:=zA HU t6;replace t7:=zA HU t7;replace t8:=zA HU t8;replace t9:=zA HU t9;have i0:(0:Int)<=(tn:Int):=by omega
 have i1:(tn:Int)<(C.s.length:Int):=by omega
 have hz1:(W.alloc zO).heap.size=W.heap.size+1:=by simp
 clear h ih hn htr hr ho hA hbx hls
 go_enter Tryz.func74,Tryz.ntmps74
 go_upto_region 1 with fail
 unfold zO at LM HU c0 t0 t1 t2 t3 t4 t5 t6 t7 t8 t9 hz1;generalize qK:W.alloc (.cells #[.int .i64 0,.bool false,.int .i64 0,.string ⟨#[]⟩,.int .i64 0,.slice none 0 0,.slice none 0 0,.slice none 0 0] 28)=Wa at *;clear qK;go_upto_region 3 with fail
 clear t0 t1 t2 t3 t4 t5 t6 t7 t8 t9 c0 i0 i1 hz1;unfold Ht at LM;generalize World.alloc (World.alloc Wa _) _=Wc at *;obtain ⟨q,hq⟩:∃q,W.heap.size=q:=⟨_,rfl⟩;obtain ⟨px,hpx⟩:∃px,q+1=px:=⟨_,rfl⟩;obtain ⟨p,hp⟩:∃p,px+1=p:=⟨_,rfl⟩;rw[hq,hpx,hp] at LM;rw[hq,hpx,hp];have Dp:Hid (Cr C W q px p x As cs Am cm Wc l false 0 ⟨#[]⟩ 0 AR AR AR [] [] []):=LM.out;clear LM hq hpx hp HU
 obtain ⟨b0,b1,b2,b3,b4,b5,b6,b7,b8,b9⟩:=zG Dp.out.cells
 go_upto_block 0 with fail
 clear b0 b1 b2 b3 b4 b5 b6 b7 b8 b9
 go_cut [] (fun wx=>Hid (xH C W q px p x As cs Am cm (tn:Int) l wx))
 case first =>
  obtain ⟨b0,b1,b2,b3,b4,b5,b6,b7,b8,b9⟩:=zG Dp.out.cells;have hk:=fQ.out;clear fQ
  ·have HK:=zh hk
   have q1:(x.kind==1)=false:=by simp[hk]
   have q2:(x.kind==2)=false:=by simp[hk]
   have q3:(x.kind==3)=false:=by simp[hk]
   have q4:(x.kind==4)=false:=by simp[hk]
   have q5:(x.kind==5)=false:=by simp[hk]
   have q6:(x.kind==6)=true:=by simp[hk]
   clear hk;have lU:Hid (KI C.s (tn:Int)=tn+1):=by show _=_;unfold KI;rw[Ez.out,HK.out];rfl
   have sI:=zh (HO.out.oZ (tn:Int) HR.out.1 HR.out.2 (by rw[Ez.out];exact .inr HK.out))
   have Rl:=zh (HO.out.mem (tn:Int) (by rw[Ez.out];exact HK.out))
   have R3:=zh (HO.out.yc (tn:Int));have KG:=zh (HO.out.ids (tn:Int));have HAS:=zh (HO.out.xE (tn:Int));rw[Ez.out] at sI R3 KG Rl;have XT:Hid (0<x.AA.length):=List.length_pos_iff.2 Rl;go_upto_region 26 with fail
   go_cut [145] (fun c wx=>∃b:Bool,c = .bool b/\Hid (∃l4,Cr C W q px p x As cs Am cm wx l4 false 0 ⟨#[]⟩ 0 AR AR AR [] [] []/\l4.length<=l.length/\(b=true->x.open_=true)))
   case first =>
    cases hop:x.open_ with
    | false =>
     rw[hop] at b9;go_wp2;go_meet;exact ⟨false,rfl,l,Dp.out,AAH _,fun e=>by cases e⟩
    | true =>
     rw[hop] at b9;go_wp2_with fail;refine (Lp Dp.out.ms).mono ?_;rintro e w4 ⟨o,l4,rfl,h4,hb4,hl4⟩;have FI:=zh (Dp.out.Cn hb4 h4);have Rn:=zh hl4;clear h4 hb4 hl4;go_wp2;go_meet;exact ⟨o,rfl,l4,FI.out,Rn.out,fun _=>by first|rfl|exact hop|trivial⟩
   case rest =>
   obtain ⟨b,rfl,hh⟩:=hcut;obtain ⟨l4,Tc,hl4,hb4⟩:=hh.out;obtain ⟨wp,rfl⟩:∃wp:World,wp=wc:=⟨_,rfl⟩;have FI:=zh Tc;have Rn:=zh hl4;have HOP:=zh hb4;clear hh Tc hl4 hb4 Dp b0 b1 b2 b3 b4 b5 b6 b7 b8 b9;obtain ⟨b0,b1,b2,b3,b4,b5,b6,b7,b8,b9⟩:=zG FI.out.cells
   cases b with
   | true =>
    go_wp2_with fail
    refine (GY FI.out.ms x _ cs Am cm Dv KG).mono ?_;rintro e w5 ⟨un,l5,rfl,hu,uI,h5,hb5,hl5⟩;have LK:=zh (FI.out.Cn hb5 h5);have ZY:Hid (l5.length<=l.length):=Nat.le_trans hl5 Rn;have vV:=zh hu;have vU:=zh uI;clear h5 hb5 hl5 hu uI b0 b1 b2 b3 b4 b5 b6 b7 b8 b9;obtain ⟨⟨_,_,_,_,v4,_⟩,vf⟩:=LK.out.vb.cells;have f4:=vf 4;clear vf;go_upto_region 28 with fail
    have FU:=zh (LK.out.Ol (j:=4) (u := .int .i64 un) (dP:=false) (it':=0) (st':=⟨#[]⟩) (Yx:=un) rfl LK.out.vb.str);clear v4 f4;generalize w5.setCell ⟨p,4,none⟩ (.int .i64 un)=W6 at *;obtain ⟨⟨_,_,_,_,v4,_⟩,_⟩:=FU.out.vb.cells;go_wp2_with fail;refine (P6 FU.out.ms un).mono ?_;rintro e w7 ⟨S,l7,rfl,hs,h7,FE,uM⟩;have Rm:=zh (FU.out.Cn FE h7)
    have HL7:Hid (l7.length<=l.length):=Nat.le_trans uM ZY;have HSK:=zh (show Db S by unfold Db;omega)
    have QY:=zh (Rm.out.oL (y:=⟨un,S⟩) HSK);have UZ:Hid (BV C.s (tn:Int) (.mk x.kind false 0 ⟨#[]⟩ un (([]:List Au).map (·.v)) (([]:List Au).map (·.v)) [⟨un,S⟩])=true):=by
     show _=_
     rw[HK.out];exact YK HR.out.1 HR.out.2 (by rw[Ez.out];exact HK.out) (by rw[Ez.out];exact HOP.out (by first|rfl|trivial)) vV (by rw[Ez.out];exact vU.out) hs
    have ql:=zh (Rm.out.below (zD w7 (.cells #[.int .i64 un,.string S] 97)));clear hs h7 FE uM v4;obtain ⟨c7,f7⟩:=ql.out.c7;unfold encR at QY;go_upto_region 29 with fail
    clear c7 f7;generalize World.setCell (World.alloc w7 _) _ _=W8 at *;have HG2:=zh (QY.out.fin HL7 ⟨by simp,by simp,by simp⟩ UZ)
    have LP:=zh (F6 QY.out.bq (.int .i64 x.kind) (.bool false) (.int .i64 0) (.string ⟨#[]⟩) (.int .i64 un) AR AR (.slice (some ⟨w7.heap.size,0,none⟩) 1 1));obtain ⟨⟨x0,x1,x2,x3,x4,x5,x6,x7⟩,y0,y1,y2,y3,y4,y5,y6,y7⟩:=zK QY.out.bq;obtain ⟨⟨v0,v1,v2,v3,v4,v5,v6,v7⟩,_⟩:=QY.out.vb.cells;go_wp2;clear x0 x1 x2 x3 x4 x5 x6 x7 y0 y1 y2 y3 y4 y5 y6 y7 v0 v1 v2 v3 v4 v5 v6 v7
    unfold q8 Go.Proofs.YthkkllmmbefedaaGreatDoor.q5 at HG2 LP;generalize World.setCell _ _ _=W9 at *;obtain ⟨⟨x0,x1,x2,x3,x4,x5,x6,x7⟩,_⟩:=zK LP
    exact bodyPost_ret (v := .agg #[.int .i64 x.kind,.bool false,.int .i64 0,.string ⟨#[]⟩,.int .i64 un,AR,AR,.slice (some ⟨w7.heap.size,0,none⟩) 1 1]) (by simp[results,Tryz.results74,go_sem,x0,x1,x2,x3,x4,x5,x6,x7]) rfl HG2
   | false =>
    have GH:Hid (∀w',Ay C.b wp w'->w'.cell? ⟨px,6,none⟩=some (.slice Am x.AA.length cm)):=fun w' hb=>(FI.out.wY hb).1.2.1
    have IZ:=zh FI.out.ms.lt;clear b0 b1 b2 b3 b4 b5 b6 b7 b8 b9;have sF:Hid (p<wp.heap.size/\C.b<wp.heap.size/\C.b<p):=⟨FI.out.vb.lt,FI.out.ms.lt,FI.out.bp.2.2⟩;go_upto_region 30 with fail
    go_cut [8] (fun a wx=>∃qa:Nat,a = .pointer (some ⟨qa,0,none⟩)/\Hid (∃ (l5:List Int) (cn:Nat) (hcn:cn<x.AA.length) (M1:zo) (m1:Nat) (M2:zo) (m2:Nat) (M3:zo) (m3:Nat),Cr C W q px p x As cs Am cm wx l5 false 0 ⟨#[]⟩ 0 AR AR AR [] [] []/\l5.length<=l.length/\wx.heap[qa]? = some (.cells ((x.AA[cn]).cs M1 m1 M2 m2 M3 m3).toArray 118)))
    case first =>
     refine yE (S:=(fun w'=>w'.cell? ⟨px,6,none⟩=some (.slice Am x.AA.length cm))) 10 (by kernel_rfl) ?_ (fun AO=>?_)
     ·(try dsimp only);exact GH.out _ (Ay.of (zC (Pe _ _) 1) (AAe IZ))
     refine tC 0 ?_;try simp only[ps]
     refine tB 1 ?_;try simp only[ps]
     refine tC 2 ?_;try simp only[ps]
     refine tC 3 ?_;try simp only[ps]
     refine tB 4 ?_;try simp only[ps]
     refine tC 5 ?_;try simp only[ps]
     refine zV (rs:=[6,9]) (by kernel_rfl) (by simp) ?_
     refine (AJ.cons rfl (fun K hK=>?_) (AJ.cons rfl (fun K hK=>?_) AJ.nil))
     ·
      go_simp
      (have NY:=zh (Ay.of (zC (Pe wp.heap.size wp) 1) (AAe IZ));have OX:=zh (FI.out.below (zC (Pe _ _) 1));refine (Ba (x.AA.length:Int) (by have:=XT.out;have:=R3.out;omega) OX.out.ms).mono ?_;rintro e w2 ⟨c,l2,rfl,hc,h2,hb2,hl2,_⟩;have GU:=zh (OX.out.Cn hb2 h2);have HB2:=zh (NY.out.trans hb2);have HL2:=zh hl2;obtain ⟨cn,rfl⟩:=AAT hc.1;have hcn:cn<x.AA.length:=(by omega);obtain ⟨mb,mo,M1,m1,M2,m2,M3,m3,VU,_,d0,d1,d2,d3,d4,d5,d6,d7,d8,d9,Jr,Jq,Jp⟩:=((Dv.out.AA).below GU.out.ms.up).Gw hcn;subst VU;have Vl:=zh (AAC w2 jl);have GA:=zh (zD w2 jl);have FR:Hid (p<w2.heap.size):=zh GU.out.vb.lt;have i0:(0:Int)<=(cn:Int):=(by omega);have i1:(cn:Int)<(x.AA.length:Int):=(by omega);clear h2 hb2 hl2 hc)
      refine hK.out _ _ ?_ (fun AO=>?_)
      ·(try dsimp only);exact GH.out _ HB2
      clear hK K;try simp only[ps]
      refine tC 7 ?_;try simp only[ps]
      refine zV (rs:=[8,9]) (by kernel_rfl) (by simp) ?_
      refine (AJ.cons rfl (fun K hK=>?_) (AJ.cons rfl (fun K hK=>?_) AJ.nil))
      ·
       go_simp
       refine hK.out _ _ ?_ (fun AO=>?_)
       ·(try dsimp only);exact AO
       clear hK K;try simp only[ps]
       refine tS 9 (fun K hK=>?_)
       (clear d0 d1 d2 d3 d4 d5 d6 d7 d8 d9 Jr Jq Jp;go_simp)
       refine hK.out _ _ ?_ (fun AO=>?_)
       ·(try dsimp only);exact GH.out _ (HB2.out.below GA IZ)
       clear hK K;try simp only[ps]
       refine zV (rs:=[10]) (by kernel_rfl) (by simp) ?_
       refine AJ.last rfl (by kernel_rfl) (fun K hK=>?_) AJ.nil
       (simp only[List.getElem_toArray,List.getElem_cons_zero,List.getElem_cons_succ];rw[AAG (by rfl)];refine wp_store_mid 118 (.tmp 8) (.tmp 165) rfl (w2.heap.size) (0) (((x.AA[cn]).cs M1 m1 M2 m2 M3 m3).toArray) (by rfl) (by rfl) ?_ ?_ ?_ ?_;(exact Lr Vl);(exact Ny);(exact Q9 _ _ _ _ _ _ _))
       refine hK.out _ _ ?_;clear hK K
       (try clear AO)
       try simp only[ps]
       refine wpAny_done (by kernel_rfl) ?_ _
       first|(have Vt:=zh (GU.out.below (yC (B:=w2.heap.size) (w:=w2) w2.heap.size (AAH _) ((x.AA[cn]).cs M1 m1 M2 m2 M3 m3) 0 _ GA));have ZH:=zh (JW Vl (x.AA[cn]) M1 m1 M2 m2 M3 m3);go_wp2;go_meet;exact ⟨_,rfl,l2,cn,hcn,M1,m1,M2,m2,M3,m3,Vt.out,Nat.le_trans HL2 Rn,ZH.out⟩)|(have Vt:=zh (GU.out.oU (yC (B:=p+1) (w:=w2) wp.heap.size sF.out.1 ((x.AA[cn]).cs M1 m1 M2 m2 M3 m3) 0 w2 (Pe _ _)));have ZH:=zh (JW Vl (x.AA[cn]) M1 m1 M2 m2 M3 m3);go_wp2;go_meet;exact ⟨_,rfl,l2,cn,hcn,M1,m1,M2,m2,M3,m3,Vt.out,Nat.le_trans HL2 Rn,ZH.out⟩)
      ·
       go_simp
       refine hK.out _ _ ?_ (fun AO=>?_)
       ·(try dsimp only);exact GH.out _ (HB2.out.below GA IZ)
       clear hK K;try simp only[ps]
       refine tS 8 (fun K hK=>?_)
       (replace d0:=zA GA d0;replace d1:=zA GA d1;replace d2:=zA GA d2;replace d3:=zA GA d3;replace d4:=zA GA d4;replace d5:=zA GA d5;replace d6:=zA GA d6;replace d7:=zA GA d7;replace d8:=zA GA d8;replace d9:=zA GA d9;replace Jr:=zA GA Jr;replace Jq:=zA GA Jq;replace Jp:=zA GA Jp;go_simp)
       refine hK.out _ _ ?_ (fun AO=>?_)
       ·(try dsimp only);exact AO
       clear hK K;try simp only[ps]
       refine zV (rs:=[10]) (by kernel_rfl) (by simp) ?_
       refine AJ.last rfl (by kernel_rfl) (fun K hK=>?_) AJ.nil
       (simp only[List.getElem_toArray,List.getElem_cons_zero,List.getElem_cons_succ];rw[AAG (by rfl)];refine wp_store_mid 118 (.tmp 8) (.tmp 165) rfl (w2.heap.size) (0) (((x.AA[cn]).cs M1 m1 M2 m2 M3 m3).toArray) (by rfl) (by rfl) ?_ ?_ ?_ ?_;(exact Lr Vl);(exact Ny);(exact Q9 _ _ _ _ _ _ _))
       refine hK.out _ _ ?_;clear hK K
       (try clear AO)
       try simp only[ps]
       refine wpAny_done (by kernel_rfl) ?_ _
       first|(have Vt:=zh (GU.out.below (yC (B:=w2.heap.size) (w:=w2) w2.heap.size (AAH _) ((x.AA[cn]).cs M1 m1 M2 m2 M3 m3) 0 _ GA));have ZH:=zh (JW Vl (x.AA[cn]) M1 m1 M2 m2 M3 m3);go_wp2;go_meet;exact ⟨_,rfl,l2,cn,hcn,M1,m1,M2,m2,M3,m3,Vt.out,Nat.le_trans HL2 Rn,ZH.out⟩)|(have Vt:=zh (GU.out.oU (yC (B:=p+1) (w:=w2) wp.heap.size sF.out.1 ((x.AA[cn]).cs M1 m1 M2 m2 M3 m3) 0 w2 (Pe _ _)));have ZH:=zh (JW Vl (x.AA[cn]) M1 m1 M2 m2 M3 m3);go_wp2;go_meet;exact ⟨_,rfl,l2,cn,hcn,M1,m1,M2,m2,M3,m3,Vt.out,Nat.le_trans HL2 Rn,ZH.out⟩)
     ·
      go_simp
      refine hK.out _ _ ?_ (fun AO=>?_)
      ·(try dsimp only);exact GH.out _ (Ay.of (zB (zC (Pe _ _) 1) (zD (wp.drewN 1) jl)) (AAe IZ))
      clear hK K;try simp only[ps]
      refine tS 6 (fun K hK=>?_)
      go_simp
      (have NY:=zh (Ay.of (zB (zC (Pe wp.heap.size wp) 1) (zD (wp.drewN 1) jl)) (AAe IZ));have OX:=zh (FI.out.below (zB (zC (Pe _ _) 1) (zD (wp.drewN 1) jl)));refine (Ba (x.AA.length:Int) (by have:=XT.out;have:=R3.out;omega) OX.out.ms).mono ?_;rintro e w2 ⟨c,l2,rfl,hc,h2,hb2,hl2,_⟩;have GU:=zh (OX.out.Cn hb2 h2);have HB2:=zh (NY.out.trans hb2);have HL2:=zh hl2;obtain ⟨cn,rfl⟩:=AAT hc.1;have hcn:cn<x.AA.length:=(by omega);obtain ⟨mb,mo,M1,m1,M2,m2,M3,m3,VU,_,d0,d1,d2,d3,d4,d5,d6,d7,d8,d9,Jr,Jq,Jp⟩:=((Dv.out.AA).below GU.out.ms.up).Gw hcn;subst VU;have Vl:Hid (w2.heap[wp.heap.size]? = some jl):=zh (Ma (AAC (wp.drewN 1) jl) hb2 (by have:=sF.out.2.1;show wp.heap.size≠_;omega));have i0:(0:Int)<=(cn:Int):=(by omega);have i1:(cn:Int)<(x.AA.length:Int):=(by omega);clear h2 hb2 hl2 hc)
      refine hK.out _ _ ?_ (fun AO=>?_)
      ·(try dsimp only);exact GH.out _ HB2
      clear hK K;try simp only[ps]
      refine tC 7 ?_;try simp only[ps]
      refine tS 8 (fun K hK=>?_)
      go_simp
      refine hK.out _ _ ?_ (fun AO=>?_)
      ·(try dsimp only);exact AO
      clear hK K;try simp only[ps]
      refine zV (rs:=[10]) (by kernel_rfl) (by simp) ?_
      refine AJ.last rfl (by kernel_rfl) (fun K hK=>?_) AJ.nil
      (simp only[List.getElem_toArray,List.getElem_cons_zero,List.getElem_cons_succ];rw[AAG (by rfl)];refine wp_store_mid 118 (.tmp 8) (.tmp 165) rfl (wp.heap.size) (0) (((x.AA[cn]).cs M1 m1 M2 m2 M3 m3).toArray) (by rfl) (by rfl) ?_ ?_ ?_ ?_;(exact Lr Vl);(exact Ny);(exact Q9 _ _ _ _ _ _ _))
      refine hK.out _ _ ?_;clear hK K
      (try clear AO)
      try simp only[ps]
      refine wpAny_done (by kernel_rfl) ?_ _
      first|(have Vt:=zh (GU.out.below (yC (B:=w2.heap.size) (w:=w2) w2.heap.size (AAH _) ((x.AA[cn]).cs M1 m1 M2 m2 M3 m3) 0 _ GA));have ZH:=zh (JW Vl (x.AA[cn]) M1 m1 M2 m2 M3 m3);go_wp2;go_meet;exact ⟨_,rfl,l2,cn,hcn,M1,m1,M2,m2,M3,m3,Vt.out,Nat.le_trans HL2 Rn,ZH.out⟩)|(have Vt:=zh (GU.out.oU (yC (B:=p+1) (w:=w2) wp.heap.size sF.out.1 ((x.AA[cn]).cs M1 m1 M2 m2 M3 m3) 0 w2 (Pe _ _)));have ZH:=zh (JW Vl (x.AA[cn]) M1 m1 M2 m2 M3 m3);go_wp2;go_meet;exact ⟨_,rfl,l2,cn,hcn,M1,m1,M2,m2,M3,m3,Vt.out,Nat.le_trans HL2 Rn,ZH.out⟩)
    case rest =>
    obtain ⟨qa,rfl,hh⟩:=hcut;obtain ⟨l5,cn,hcn,M1,m1,M2,m2,M3,m3,Yj,hl5,hx5⟩:=hh.out;obtain ⟨wd,rfl⟩:∃wd:World,wd=wc:=⟨_,rfl⟩;have LK:=zh Yj;have ZY:=zh hl5;have Vs:=zh (sI.out _ (AAK hcn));have HFU:Hid (∀y:Val,BV C.s (x.AA[cn]).type y=true->BV C.s (tn:Int) (.mk x.kind false 0 ⟨#[]⟩ (x.AA[cn]).id [] [y] [])=true):=fun y hy=>by
     have hc2:cn<(AB C.s (tn:Int)).AA.length:=by rw[Ez.out];exact hcn
     have h2:=ax (y:=y) HAS HR.out.1 HR.out.2 (by rw[Ez.out];exact HK.out) hc2
     simp only[Ez.out] at h2;rw[HK.out];exact h2 hy
    generalize x.AA[cn]=m at *;have hqp:qa≠p:=GZ hx5 Yj.vb.blk (by decide)
    have hqb:qa≠C.b:=by obtain ⟨_,_,_,hbk⟩:=Yj.ms.ex;exact GZ hx5 hbk (by decide)
    have HQP:=zh hqp;have qX:=zh hqb;have Bg:=zh hx5;have a0:wd.cell? ⟨qa,0,none⟩=some (.int .i64 m.id):=by rw[AAE _ _ _ _ _ _ hx5];rfl
    clear hh Yj hl5 hx5 hqp hqb;obtain ⟨⟨_,_,_,_,v4,_⟩,vf⟩:=LK.out.vb.cells;have f4:=vf 4;clear vf;go_upto_region 32 with fail
    have FU:=zh (LK.out.Ol (j:=4) (u := .int .i64 m.id) (dP:=false) (it':=0) (st':=⟨#[]⟩) (Yx:=m.id) rfl LK.out.vb.str);have Ox:=zh (show (wd.setCell ⟨p,4,none⟩ (.int .i64 m.id)).heap[qa]? = _ from (AAF _ _ _ _ HQP.out).trans Bg);clear v4 f4 a0;generalize wd.setCell ⟨p,4,none⟩ (.int .i64 m.id)=W6 at *
    have a2:W6.cell? ⟨qa,2,none⟩=some (.int .i64 m.type):=by rw[AAE _ _ _ _ _ _ Ox.out];rfl
    have GV:Hid (l5.length * 7+KI C.s m.type<n):=by
     have h2:=HN.out;have h4:=ZY.out;rw[lU.out] at h2;have h3:KI C.s m.type<=tn:=by
      have h5:=Vs.out.1;unfold KI
      rcases Vs.out.2 with h|h
      ·rw[AAG h];omega
      ·split <;> omega
     show _<_
     omega
    go_wp2_with fail
    refine (E5.out m.type _ l5 GV Vs.out.1 FU.out.ms).mono ?_;rintro e w7 ⟨y,l7,rfl,g1,g2,g3,g4,g5⟩;have Rm:=zh (FU.out.Cn g2 g3);have Gd:=zh (FU.out.hot g1);have HL7:Hid (l7.length<=l.length):=Nat.le_trans g4 ZY;have QY:=zh (Rm.out.one Gd);have HF:=zh (HFU.out y.v g5);have ql:=zh (Rm.out.below (zD w7 (.cells y.cells.toArray 28)));clear g1 g2 g3 g4 g5 a2
    obtain ⟨⟨_,_,_,_,_,_,v6,_⟩,vf⟩:=ql.out.vb.cells;have f6:=vf 6;clear vf;unfold Au.cells Val.cs at QY v6 f6;go_wp2;go_meet;exact ⟨_,_,_,_,_,_,_,[],[y],[],l7,QY.out,HL7.out,⟨by simp,by simp,by simp⟩,HF.out⟩
 case rest =>
 obtain ⟨bo,it,st,di,vk,vi,vr,K,I,R,l',hm,hl,hz,hf⟩:=hcut.out;obtain ⟨A1,c1,rfl,_⟩:=Ad.reads hm.vb.ok;obtain ⟨A2,c2,rfl,_⟩:=Ad.reads hm.vb.oi;obtain ⟨A3,c3,rfl,_⟩:=Ad.reads hm.vb.Qy;have HG2:=zh (hm.fin hl hz hf);have LP:=zh (F6 hm.bq (.int .i64 x.kind) (.bool bo) (.int .i64 it) (.string st) (.int .i64 di) (.slice A1 K.length c1) (.slice A2 I.length c2) (.slice A3 R.length c3))
 obtain ⟨⟨x0,x1,x2,x3,x4,x5,x6,x7⟩,y0,y1,y2,y3,y4,y5,y6,y7⟩:=zK hm.bq;obtain ⟨⟨v0,v1,v2,v3,v4,v5,v6,v7⟩,_⟩:=hm.vb.cells;clear hcut hm hl hz hf;go_wp2;clear x0 x1 x2 x3 x4 x5 x6 x7 y0 y1 y2 y3 y4 y5 y6 y7 v0 v1 v2 v3 v4 v5 v6 v7;unfold q8 Go.Proofs.YthkkllmmbefedaaGreatDoor.q5 at HG2 LP
 generalize World.setCell _ _ _=W9 at *;obtain ⟨⟨x0,x1,x2,x3,x4,x5,x6,x7⟩,_⟩:=zK LP
 exact bodyPost_ret (v := .agg #[.int .i64 x.kind,.bool bo,.int .i64 it,.string st,.int .i64 di,.slice A1 K.length c1,.slice A2 I.length c2,.slice A3 R.length c3]) (by simp[results,Tryz.results74,go_sem,x0,x1,x2,x3,x4,x5,x6,x7]) rfl HG2
end Go.Proofs.YthkkllmmbefedaaGreatDoor



