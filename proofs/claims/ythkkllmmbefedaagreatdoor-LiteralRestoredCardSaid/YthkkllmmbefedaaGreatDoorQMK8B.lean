/-
  The maker's value: kinds 5.
-/
import Derived.Test.YthkkllmmbefedaaGreatDoorQGN1
namespace Go.Proofs.YthkkllmmbefedaaGreatDoor
open Go.RowKit
set_option maxHeartbeats 16000000
set_option maxRecDepth 100000
theorem ZP {C:U1} (ho:MO C.s) {n:Nat} (ih:K9 C n) (t:Int) (W:World) (l:List Int) (hn:l.length * 7+LF C.s t<n+1) (hr:0<=t/\t<(C.s.length:Int)) (h:H9 C W l) (WY:(AO C.s t).kind=5):Calls Tryz.prog 74 #[.pointer (some ⟨C.b,0,none⟩),.int .i64 t] W (vH C t W l):=by
 obtain ⟨tn,rfl⟩:=AAY hr.1;have htn:tn<C.s.length:=by omega
 obtain ⟨bq,oq,As,cs,Am,cm,hA,htr,t0,t1,t2,t3,t4,t5,t6,t7,t8,t9⟩:=h.ty.JX htn;have Ed:Hid (AO C.s (tn:Int)=C.s[tn]):=zT htn;have aV:Hid (1<=(C.s[tn]).kind/\(C.s[tn]).kind<=9):=by have:=FI ho.v hr;rw[zT htn] at this;exact this
 have jU:Hid ((C.s[tn]).kind=5):=by rw[zT htn] at WY;exact WY
 clear WY;have kC:Hid (Eb (C.s[tn]).kind->0<=(C.s[tn]).elem/\(C.s[tn]).elem<(C.s.length:Int)):=by have:=JV ho.v hr;rw[zT htn] at this;exact this
 have jg:Hid ((C.s[tn]).kind=8->0<=(C.s[tn]).key/\(C.s[tn]).key<(C.s.length:Int)):=fun hk=>by have:=(Lr ho.v hr (by rw[zT htn];exact hk)).1;rw[zT htn] at this;exact this
 have hls:=ho.len;have HN:Hid (l.length * 7+LF C.s (tn:Int)<=n):=by show _<=_;omega
 have HR:=zh hr;have HO:=zh ho;have EI:=zh ih;have Hz:=zh htr;generalize C.s[tn]=x at *;have MQ:=zh (Cw.new cs cm h htr rfl rfl rfl);have HU:Hid (Below C.w0.heap.size C.w0 (W.alloc zO)):=h.up.trans ((zD W zO).mono h.up.size);obtain ⟨B,d,_,hbx⟩:=h.ex
 have c0:(W.alloc zO).cell? ⟨C.b,0,none⟩=some (.slice (some ⟨bq,oq,none⟩) C.s.length C.c):=by rw[AAN _ _ _ _ _ _ (Aw hbx (zD _ _)),<-hA];rfl
 replace t0:=zA HU t0;replace t1:=zA HU t1;replace t2:=zA HU t2;replace t3:=zA HU t3;replace t4:=zA HU t4;replace t5:=zA HU t5;replace t6:=zA HU t6;replace t7:=zA HU t7;replace t8:=zA HU t8;replace t9:=zA HU t9;have i0:(0:Int)<=(tn:Int):=by omega
 have i1:(tn:Int)<(C.s.length:Int):=by omega
 have hz1:(W.alloc zO).heap.size=W.heap.size+1:=by simp
 clear h ih hn htr hr ho hA hbx hls
 go_enter Tryz.func74,Tryz.ntmps74
 go_upto_region 1 with fail
 unfold zO at MQ HU c0 t0 t1 t2 t3 t4 t5 t6 t7 t8 t9 hz1;generalize tq:W.alloc (.cells #[.int .i64 0,.bool false,.int .i64 0,.string ⟨#[]⟩,.int .i64 0,.slice none 0 0,.slice none 0 0,.slice none 0 0] 28)=Wa at *;clear tq;go_upto_region 3 with fail
 clear t0 t1 t2 t3 t4 t5 t6 t7 t8 t9 c0 i0 i1 hz1;unfold IU at MQ;generalize World.alloc (World.alloc Wa _) _=Wc at *;obtain ⟨q,hq⟩:∃q,W.heap.size=q:=⟨_,rfl⟩;obtain ⟨px,hpx⟩:∃px,q+1=px:=⟨_,rfl⟩;obtain ⟨p,hp⟩:∃p,px+1=p:=⟨_,rfl⟩;rw[hq,hpx,hp] at MQ;rw[hq,hpx,hp];have Di:Hid (Cw C W q px p x As cs Am cm Wc l false 0 ⟨#[]⟩ 0 AP AP AP [] [] []):=MQ.out;clear MQ hq hpx hp HU
 obtain ⟨b0,b1,b2,b3,b4,b5,b6,b7,b8,b9⟩:=zG Di.out.cells
 go_upto_block 0 with fail
 clear b0 b1 b2 b3 b4 b5 b6 b7 b8 b9
 go_cut [] (fun wx=>Hid (MvE C W q px p x As cs Am cm (tn:Int) l wx))
 case first =>
  obtain ⟨b0,b1,b2,b3,b4,b5,b6,b7,b8,b9⟩:=zG Di.out.cells;have hk:=jU.out;clear jU
  ·have HK:=zh hk
   have q1:(x.kind==1)=false:=by simp[hk]
   have q2:(x.kind==2)=false:=by simp[hk]
   have q3:(x.kind==3)=false:=by simp[hk]
   have q4:(x.kind==4)=false:=by simp[hk]
   have q5:(x.kind==5)=true:=by simp[hk]
   clear hk;have oQ:Hid (LF C.s (tn:Int)=tn+1):=by show _=_;unfold LF;rw[Ed.out,HK.out];rfl
   have yt:=zh (HO.out.rJ (tn:Int) HR.out.1 HR.out.2 (by rw[Ed.out];exact .inl HK.out))
   have Sy:=zh (HO.out.mel (tn:Int));have Ye:=zh (HO.out.ids (tn:Int));have qM:=zh (HO.out.dfl (tn:Int));rw[Ed.out] at yt Sy Ye qM;have hml:=Sy.out;clear b0 b1 b2 b3 b4 b5 b6 b7 b8 b9
   go_upto_block 1 with fail
   go_cut [] (fun wx=>Hid (∃vi I l3,Cw C W q px p x As cs Am cm wx l3 false 0 ⟨#[]⟩ 0 AP vi AP [] I []/\l3.length<=l.length/\I.length=x.AA.length/\∀j (h:j<x.AA.length) (h':j<I.length),BM C.s (x.AA[j]).type (I[j]).v=true))
   case first =>
    go_wp2_with fail
    go_loopw [7] (fun i wr=>∃ (k:Nat) (vi:Value) (I:List Aj) (l3:List Int),k<=x.AA.length/\i = .int .i64 (k:Int)/\Hid (Cw C W q px p x As cs Am cm wr l3 false 0 ⟨#[]⟩ 0 AP vi AP [] I []/\l3.length<=l.length/\I.length=k/\∀j (h:j<x.AA.length) (h':j<I.length),BM C.s (x.AA[j]).type (I[j]).v=true)) (fun i _=>x.AA.length - (intOf i).toNat)
    case atStart=>exact ⟨0,AP,[],l,by omega,rfl,Di.out,AAP _,rfl,fun j _ h=>by simp at h⟩
    case round =>
     obtain ⟨k,vi,I,l3,hkm,rfl,hh⟩:=hrel;obtain ⟨wo,rfl⟩:∃wo:World,wo=wr:=⟨_,rfl⟩;have HM:=zh hh.out.1;have HL:=zh hh.out.2.1;have XE:=zh hh.out.2.2.1;have Yh:=zh hh.out.2.2.2;clear hh Di;obtain ⟨b0,b1,b2,b3,b4,b5,b6,b7,b8,b9⟩:=zG HM.out.cells
     by_cases hlt:k<x.AA.length
     ·obtain ⟨mb,mo,M1,m1,M2,m2,M3,m3,rfl,_,d0,d1,d2,d3,d4,d5,d6,d7,d8,d9,RA,Q9,Q8⟩:=Hz.out.AA.K5 hlt
      have I7:Hid (∀u,Below C.w0.heap.size C.w0 u->(u.cell? ⟨mb,mo+k * 13+2,none⟩=some (.int .i64 (x.AA[k]).type)/\u.cell? ⟨mb,mo+k * 13+5,none⟩=some (.int .i64 (x.AA[k]).dflt.kind)/\u.cell? ⟨mb,mo+k * 13+6,none⟩=some (.bool (x.AA[k]).dflt.bool)/\u.cell? ⟨mb,mo+k * 13+7,none⟩=some (.int .i64 (x.AA[k]).dflt.int)/\u.cell? ⟨mb,mo+k * 13+8,none⟩=some (.string (x.AA[k]).dflt.str)/\u.cell? ⟨mb,mo+k * 13+9,none⟩=some (.int .i64 (x.AA[k]).dflt.id)/\u.cell? ⟨mb,mo+k * 13+10,none⟩=some (.slice M1 (x.AA[k]).dflt.keys.length m1)/\u.cell? ⟨mb,mo+k * 13+11,none⟩=some (.slice M2 (x.AA[k]).dflt.items.length m2)/\u.cell? ⟨mb,mo+k * 13+12,none⟩=some (.slice M3 (x.AA[k]).dflt.rest.length m3))):=fun u hb =>
       ⟨zA hb d2,zA hb d5,zA hb d6,zA hb d7,zA hb d8,zA hb d9,zA hb RA,zA hb Q9,zA hb Q8⟩
      have e4:=zA HM.out.ms.up d4;clear d0 d1 d2 d3 d4 d5 d6 d7 d8 d9 RA Q9 Q8;have aS:=zh (yt.out _ (AAU hlt));have HDK:=zh (qM.out _ (AAU hlt));have vW:Hid (∀y:Aj,BM C.s (x.AA[k]).type y.v=true->∀j (h:j<x.AA.length) (h':j<(I++[y]).length),BM C.s (x.AA[j]).type ((I++[y])[j]).v=true):=fun y hy j h h'=>by
       by_cases e:j<I.length
       ·rw[List.getElem_append_left e];exact Yh.out j h e
       ·have hj:j=k:=by rw[AAp] at h';simp at h';have:=XE.out;omega
        subst hj;rw[List.getElem_append_right (by omega)]
        simpa[XE.out] using hy
      generalize x.AA[k]=m at *;have h1:(0:Int)<=(k:Int):=by omega
      have h2:(k:Int)<(x.AA.length:Int):=by omega
      have hIl:I.length<=100:=by have:=XE.out;omega
      go_upto_region 20 with fail
      go_cut [104] (fun c wx=>∃b:Bool,c = .bool b/\Hid (∃l4,Cw C W q px p x As cs (some ⟨mb,mo,none⟩) cm wx l4 false 0 ⟨#[]⟩ 0 AP vi AP [] I []/\l4.length<=l.length/\(b=true->m.EY=true)))
      case first =>
       cases hdf:m.EY with
       | false =>
        rw[hdf] at e4;go_wp2;go_meet;exact ⟨false,rfl,l3,HM.out,HL.out,fun e=>by cases e⟩
       | true =>
        rw[hdf] at e4;go_wp2_with fail;refine (BN 3 (by omega) HM.out.ms).mono ?_
        rintro e w2 ⟨c,l2,rfl,_,h2',hb2,hl2,_⟩;have Fh:=zh (HM.out.BJ hb2 h2');have HL2:Hid (l2.length<=l.length):=Nat.le_trans hl2 HL;clear h2' hb2 hl2;go_wp2;go_meet;exact ⟨_,rfl,l2,Fh.out,HL2.out,fun _=>by first|rfl|exact hdf|trivial⟩
      case rest =>
      obtain ⟨b,rfl,hh⟩:=hcut;obtain ⟨l4,UX,hl4,hb4⟩:=hh.out;obtain ⟨wp,rfl⟩:∃wp:World,wp=wc:=⟨_,rfl⟩;have Fb:=zh UX;have Sj:=zh hl4;have AAI:=zh hb4;clear hh UX hl4 hb4 HM e4 b0 b1 b2 b3 b4 b5 b6 b7 b8 b9;obtain ⟨A2,c2,rfl,_⟩:=Ab.reads Fb.out.vb.oi;have GX:=zh Fb.out.ms.lt
      cases b with
      | true =>
       have Gb:Hid (Cw C W q px p x As cs (some ⟨mb,mo,none⟩) cm (wp.drewN 1) l4 false 0 ⟨#[]⟩ 0 AP (.slice A2 I.length c2) AP [] I []):=Fb.out.below (zC (Pe _ _) 1);have Yf:Hid (BM C.s m.type (⟨m.dflt,M1,m1,M2,m2,M3,m3⟩:Aj).v=true):=(HDK.out (AAI.out rfl)).1
       have Iy:Hid (Off (RH p AP (.slice A2 I.length c2) AP) (wp.drewN 1) fun u=>Ao u (⟨m.dflt,M1,m1,M2,m2,M3,m3⟩:Aj).v (⟨m.dflt,M1,m1,M2,m2,M3,m3⟩:Aj).A1 (⟨m.dflt,M1,m1,M2,m2,M3,m3⟩:Aj).A2 (⟨m.dflt,M1,m1,M2,m2,M3,m3⟩:Aj).A3):=by
        obtain ⟨_,k1,k2,k3,k4⟩:=HDK.out (AAI.out rfl)
        intro u _
        refine ⟨k4,?_,?_,?_⟩
        ·show Ch u M1 m.dflt.keys;rw[k1];exact Ac.nil _ _ _ _ _
        ·show Ch u M2 m.dflt.items;rw[k2];exact Ac.nil _ _ _ _ _
        ·show Eh u M3 m.dflt.rest;rw[k3];exact Ac.nil _ _ _ _ _
       have E8:Hid (∀w',Ah C.b wp w'->(w'.cell? ⟨p,6,none⟩=some (.slice A2 I.length c2)/\w'.cell? ⟨px,6,none⟩=some (.slice (some ⟨mb,mo,none⟩) x.AA.length cm)/\w'.cell? ⟨px,8,none⟩=some (.int .i64 x.elem))/\Hid (Ah C.b wp w')):=fun w' hb=>Fb.out.rd6 hb
       go_upto_region 21 with fail
       refine yE (S:=(fun w'=>w'.cell? ⟨p,6,none⟩=some (.slice A2 I.length c2)/\w'.cell? ⟨px,6,none⟩=some (.slice (some ⟨mb,mo,none⟩) x.AA.length cm)/\(w'.cell? ⟨mb,mo+k * 13+5,none⟩=some (.int .i64 m.dflt.kind)/\w'.cell? ⟨mb,mo+k * 13+6,none⟩=some (.bool m.dflt.bool)/\w'.cell? ⟨mb,mo+k * 13+7,none⟩=some (.int .i64 m.dflt.int)/\w'.cell? ⟨mb,mo+k * 13+8,none⟩=some (.string m.dflt.str)/\w'.cell? ⟨mb,mo+k * 13+9,none⟩=some (.int .i64 m.dflt.id)/\w'.cell? ⟨mb,mo+k * 13+10,none⟩=some (.slice M1 m.dflt.keys.length m1)/\w'.cell? ⟨mb,mo+k * 13+11,none⟩=some (.slice M2 m.dflt.items.length m2)/\w'.cell? ⟨mb,mo+k * 13+12,none⟩=some (.slice M3 m.dflt.rest.length m3)))) 11 (by kernel_rfl) ?_ (fun AQ=>?_)
       ·(try dsimp only);(have h1:=(E8.out _ (Ah.of (zC (Pe _ _) 1) (AAV GX))).1;have h2:=(I7.out _ (Fb.out.below (zC (Pe wp.heap.size wp) 1)).ms.up).2;exact ⟨h1.1,h1.2.1,h2⟩)
       refine tC 0 ?_;try simp only[ps]
       refine tB 1 ?_;try simp only[ps]
       refine tC 2 ?_;try simp only[ps]
       refine tB 3 ?_;try simp only[ps]
       refine tC 4 ?_;try simp only[ps]
       refine tC 5 ?_;try simp only[ps]
       refine tC 6 ?_;try simp only[ps]
       refine tB 7 ?_;try simp only[ps]
       refine tS 8 (fun K hK=>?_)
       go_simp
       refine hK.out _ _ ?_ (fun AQ=>?_)
       ·(try dsimp only);(have hb:=zB (zC (Pe wp.heap.size wp) 1) (zD (wp.drewN 1) (.cells (⟨m.dflt,M1,m1,M2,m2,M3,m3⟩:Aj).cells.toArray 28));have h1:=(E8.out _ (Ah.of hb (AAV GX))).1;have h2:=(I7.out _ (Fb.out.below hb).ms.up).2;exact ⟨h1.1,h1.2.1,h2⟩)
       clear hK K;try simp only[ps]
       refine tS 9 (fun K hK=>?_)
       (have U8:=zh (Gb.out.below (zD (wp.drewN 1) (.cells (⟨m.dflt,M1,m1,M2,m2,M3,m3⟩:Aj).cells.toArray 28)));refine yH AU (by rfl) (.tmp 106) (.tmp 113) (by rfl) (p+1) (.slice A2 I.length c2) I.length (I.flatMap Aj.cells) (by rfl) U8.out.vb.oi (wp.drewN 1).heap.size 0 1 1 (⟨m.dflt,M1,m1,M2,m2,M3,m3⟩:Aj).cells (by rfl) rfl (zR (wp.drewN 1) (⟨m.dflt,M1,m1,M2,m2,M3,m3⟩:Aj).cells 28) (Bh (⟨m.dflt,M1,m1,M2,m2,M3,m3⟩:Aj)) (by omega) (by omega) U8.out.vb.lt ?_;intro v8 w8 BI BB Ci;obtain ⟨g,c8,rfl,_⟩:=CV BI;have LB:=zh (Gb.out.item Iy (zD (wp.drewN 1) (.cells (⟨m.dflt,M1,m1,M2,m2,M3,m3⟩:Aj).cells.toArray 28)) BI BB Ci);obtain ⟨c6,f6⟩:=Gb.out.c6 (zD (wp.drewN 1) (.cells (⟨m.dflt,M1,m1,M2,m2,M3,m3⟩:Aj).cells.toArray 28)) BB;have uM:=zh (Gb.out.qm (zD (wp.drewN 1) (.cells (⟨m.dflt,M1,m1,M2,m2,M3,m3⟩:Aj).cells.toArray 28)) BB);have yP:=zh (Gb.out.up8 (zD (wp.drewN 1) (.cells (⟨m.dflt,M1,m1,M2,m2,M3,m3⟩:Aj).cells.toArray 28)) BB);clear BI BB Ci)
       refine hK.out _ _ ?_ (fun AQ=>?_)
       ·(try dsimp only);exact ⟨uM.out.1,uM.out.2.1,(I7.out _ yP).2⟩
       clear hK K;try simp only[ps]
       refine tC 10 ?_;try simp only[ps]
       refine zV (rs:=[11]) (by kernel_rfl) (by simp) ?_
       refine AB.last rfl (by kernel_rfl) (fun K hK=>?_) AB.nil
       go_simp
       refine hK.out _ _ ?_;clear hK K
       (try clear AQ)
       try simp only[ps]
       refine wpAny_done (by kernel_rfl) ?_ _
       go_wp2
       go_roundw
       case rel=>exact ⟨k+1,_,I++[(⟨m.dflt,M1,m1,M2,m2,M3,m3⟩:Aj)],l4,by omega,by go_num,LB.out,Sj.out,by rw[AAp,XE.out];rfl,vW.out (⟨m.dflt,M1,m1,M2,m2,M3,m3⟩:Aj) Yf⟩
       case measure=>simp[intOf];omega
      | false =>
       have Dz:Hid (l4.length * 7+LF C.s m.type<n):=by
        have h2:=HN.out;have h4:=Sj.out;rw[oQ.out] at h2;have h3:LF C.s m.type<=tn:=by
         have h5:=aS.out.1;unfold LF
         rcases aS.out.2 with h|h
         ·rw[AAH h];omega
         ·split <;> omega
        show _<_
        omega
       have E8:Hid (∀w',Ah C.b wp w'->(w'.cell? ⟨p,6,none⟩=some (.slice A2 I.length c2)/\w'.cell? ⟨px,6,none⟩=some (.slice (some ⟨mb,mo,none⟩) x.AA.length cm)/\w'.cell? ⟨px,8,none⟩=some (.int .i64 x.elem))/\Hid (Ah C.b wp w')):=fun w' hb=>Fb.out.rd6 hb
       go_upto_region 22 with fail
       refine yE (S:=(fun w'=>w'.cell? ⟨p,6,none⟩=some (.slice A2 I.length c2)/\w'.cell? ⟨px,6,none⟩=some (.slice (some ⟨mb,mo,none⟩) x.AA.length cm)/\w'.cell? ⟨mb,mo+k * 13+2,none⟩=some (.int .i64 m.type))) 13 (by kernel_rfl) ?_ (fun AQ=>?_)
       ·(try dsimp only);(have h1:=(E8.out _ (Ah.of (zC (Pe _ _) 1) (AAV GX))).1;have h2:=(I7.out _ (Fb.out.below (zC (Pe wp.heap.size wp) 1)).ms.up).1;exact ⟨h1.1,h1.2.1,h2⟩)
       refine tC 0 ?_;try simp only[ps]
       refine tB 1 ?_;try simp only[ps]
       refine tC 2 ?_;try simp only[ps]
       refine tC 3 ?_;try simp only[ps]
       refine tB 4 ?_;try simp only[ps]
       refine tC 5 ?_;try simp only[ps]
       refine tC 6 ?_;try simp only[ps]
       refine tC 7 ?_;try simp only[ps]
       refine tB 8 ?_;try simp only[ps]
       refine tS 9 (fun K hK=>?_)
       go_simp
       (have VT:=zh (Ah.of (zC (Pe wp.heap.size wp) 1) (AAV GX));have Pq:=zh (Fb.out.below (zC (Pe _ _) 1));refine (EI.out m.type _ l4 Dz aS.out.1 Pq.out.ms).mono ?_;rintro e w6 ⟨y,l6,rfl,g1,g2,g3,g4,g5⟩;have Gb:=zh (Pq.out.BJ g2 g3);have Iy:=zh (Pq.out.hot g1);have BH:=zh (VT.out.trans g2);have oW:=zh g4;have NS:=zh g5;clear g1 g2 g3 g4 g5)
       refine hK.out _ _ ?_ (fun AQ=>?_)
       ·(try dsimp only);(have h1:=(E8.out _ BH).1;exact ⟨h1.1,h1.2.1,(I7.out _ Gb.out.ms.up).1⟩)
       clear hK K;try simp only[ps]
       refine tS 10 (fun K hK=>?_)
       go_simp
       refine hK.out _ _ ?_ (fun AQ=>?_)
       ·(try dsimp only);(have h1:=(E8.out _ (BH.out.below (zD _ (.cells y.cells.toArray 28)) GX)).1;exact ⟨h1.1,h1.2.1,(I7.out _ (Gb.out.below (zD w6 (.cells y.cells.toArray 28))).ms.up).1⟩)
       clear hK K;try simp only[ps]
       refine tS 11 (fun K hK=>?_)
       (have U8:=zh (Gb.out.below (zD w6 (.cells y.cells.toArray 28)));refine yH AU (by rfl) (.tmp 117) (.tmp 126) (by rfl) (p+1) (.slice A2 I.length c2) I.length (I.flatMap Aj.cells) (by rfl) U8.out.vb.oi w6.heap.size 0 1 1 y.cells (by rfl) rfl (zR w6 y.cells 28) (Bh y) (by omega) (by omega) U8.out.vb.lt ?_;intro v8 w8 BI BB Ci;obtain ⟨g,c8,rfl,_⟩:=CV BI;have LB:=zh (Gb.out.item Iy (zD w6 (.cells y.cells.toArray 28)) BI BB Ci);obtain ⟨c6,f6⟩:=Gb.out.c6 (zD w6 (.cells y.cells.toArray 28)) BB;have uM:=zh (Gb.out.qm (zD w6 (.cells y.cells.toArray 28)) BB);have yP:=zh (Gb.out.up8 (zD w6 (.cells y.cells.toArray 28)) BB);clear BI BB Ci)
       refine hK.out _ _ ?_ (fun AQ=>?_)
       ·(try dsimp only);exact ⟨uM.out.1,uM.out.2.1,(I7.out _ yP).1⟩
       clear hK K;try simp only[ps]
       refine tC 12 ?_;try simp only[ps]
       refine zV (rs:=[13]) (by kernel_rfl) (by simp) ?_
       refine AB.last rfl (by kernel_rfl) (fun K hK=>?_) AB.nil
       go_simp
       refine hK.out _ _ ?_;clear hK K
       (try clear AQ)
       try simp only[ps]
       refine wpAny_done (by kernel_rfl) ?_ _
       go_wp2
       go_roundw
       case rel=>exact ⟨k+1,_,I++[y],l6,by omega,by go_num,LB.out,Nat.le_trans oW Sj,by rw[AAp,XE.out];rfl,vW.out y NS⟩
       case measure=>simp[intOf];omega
     ·have h2:¬ (k:Int)<(x.AA.length:Int):=by omega
      go_wp2
      go_meet
      exact ⟨vi,I,l3,HM.out,HL.out,by have:=XE.out;omega,Yh.out⟩
   case rest =>
   obtain ⟨vi,I,l3,hm,hl,hil,hfi⟩:=hcut.out;obtain ⟨wp,rfl⟩:∃wp:World,wp=wc:=⟨_,rfl⟩;have HM:=zh hm;have HL:=zh hl;have HF:Hid (∀rs,DT x rs=true->(∀r∈rs,r.data.size<=3)->BM C.s (tn:Int) (.mk x.kind false 0 ⟨#[]⟩ 0 [] (I.map (·.v)) rs)=true):=fun rs hrs hr3=>by
    rw[HK.out];exact rH HR.out.1 HR.out.2 (by rw[Ed.out];exact HK.out) (by rw[Ed.out,AAd];exact hil) (by rw[Ed.out];exact hrs) hr3 (by rw[Ed.out];intro i h h';rw[List.getElem_map];exact hfi i h (by rw[AAd] at h';exact h'))
   have uh:Hid (I.length<=2000000):=by show _<=_;omega
   clear hcut hm hl hil hfi Di;go_wp2_with fail;refine (Mx HM.out.ms).mono ?_;rintro e w4 ⟨o,l4,rfl,h4,hb4,hl4⟩;have Fb:=zh (HM.out.BJ hb4 h4);have Sj:Hid (l4.length<=l.length):=Nat.le_trans hl4 HL;clear h4 hb4 hl4
   cases o with
   | false =>
    go_wp2
    go_meet
    exact ⟨_,_,_,_,_,_,_,[],I,[],l4,Fb.out,Sj.out,⟨by simp,uh.out,by simp⟩,HF.out [] rfl (fun _ h=>by cases h)⟩
   | true =>
    obtain ⟨b0,b1,b2,b3,b4,b5,b6,b7,b8,b9⟩:=zG Fb.out.cells;go_wp2_with fail;refine (Gq Fb.out.ms x _ cs Am cm Hz Ye).mono ?_;rintro e w5 ⟨un,l5,rfl,hu,wU,h5,hb5,hl5⟩;have MP:=zh (Fb.out.BJ hb5 h5);have bD:Hid (l5.length<=l.length):=Nat.le_trans hl5 Sj;have yO:=zh hu;have yN:=zh wU;clear h5 hb5 hl5 hu wU b0 b1 b2 b3 b4 b5 b6 b7 b8 b9;go_wp2_with fail
    refine (Qo MP.out.ms un).mono ?_;rintro e w6 ⟨S,l6,rfl,hs,h6,hb6,SE⟩;have Gb:=zh (MP.out.BJ hb6 h6);have oW:Hid (l6.length<=l.length):=Nat.le_trans SE bD;have HSK:=zh (show Dk S by unfold Dk;omega)
    have U8:=zh (Gb.out.mK (y:=⟨un,S⟩) HSK);have Oa:=zh (HF.out [⟨un,S⟩] (eH yN yO) (fun r hr=>by rw[List.mem_singleton.1 hr];exact hs))
    have AB8:=zh (Gb.out.below (zD w6 (.cells #[.int .i64 un,.string S] 97)));clear hs h6 hb6 SE;obtain ⟨c7,f7⟩:=AB8.out.c7;unfold encR at U8;go_wp2;go_meet;exact ⟨_,_,_,_,_,_,_,[],I,[⟨un,S⟩],l6,U8.out,oW.out,⟨by simp,uh.out,by simp⟩,Oa.out⟩
 case rest =>
 obtain ⟨bo,it,st,di,vk,vi,vr,K,I,R,l',hm,hl,hz,hf⟩:=hcut.out;obtain ⟨A1,c1,rfl,_⟩:=Ab.reads hm.vb.ok;obtain ⟨A2,c2,rfl,_⟩:=Ab.reads hm.vb.oi;obtain ⟨A3,c3,rfl,_⟩:=Ab.reads hm.vb.Rp;have HG2:=zh (hm.fin hl hz hf);have KW:=zh (Gr hm.bq (.int .i64 x.kind) (.bool bo) (.int .i64 it) (.string st) (.int .i64 di) (.slice A1 K.length c1) (.slice A2 I.length c2) (.slice A3 R.length c3))
 obtain ⟨⟨x0,x1,x2,x3,x4,x5,x6,x7⟩,y0,y1,y2,y3,y4,y5,y6,y7⟩:=zK hm.bq;obtain ⟨⟨v0,v1,v2,v3,v4,v5,v6,v7⟩,_⟩:=hm.vb.cells;clear hcut hm hl hz hf;go_wp2;clear x0 x1 x2 x3 x4 x5 x6 x7 y0 y1 y2 y3 y4 y5 y6 y7 v0 v1 v2 v3 v4 v5 v6 v7;unfold q8 Go.Proofs.YthkkllmmbefedaaGreatDoor.q5 at HG2 KW
 generalize World.setCell _ _ _=W9 at *;obtain ⟨⟨x0,x1,x2,x3,x4,x5,x6,x7⟩,_⟩:=zK KW
 exact bodyPost_ret (v := .agg #[.int .i64 x.kind,.bool bo,.int .i64 it,.string st,.int .i64 di,.slice A1 K.length c1,.slice A2 I.length c2,.slice A3 R.length c3]) (by simp[results,Tryz.results74,go_sem,x0,x1,x2,x3,x4,x5,x6,x7]) rfl HG2
end Go.Proofs.YthkkllmmbefedaaGreatDoor



