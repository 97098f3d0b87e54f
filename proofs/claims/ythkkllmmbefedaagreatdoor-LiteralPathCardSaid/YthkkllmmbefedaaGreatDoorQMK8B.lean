/-
  The maker's value: kinds 5.
-/
import Derived.Test.YthkkllmmbefedaaGreatDoorQGN1
namespace Go.Proofs.YthkkllmmbefedaaGreatDoor
open Go.RowKit
set_option maxHeartbeats 16000000
set_option maxRecDepth 100000
theorem YN {C:UK} (ho:MI C.s) {n:Nat} (ih:KD C n) (t:Int) (W:World) (l:List Int) (hn:l.length * 7+KI C.s t<n+1) (hr:0<=t/\t<(C.s.length:Int)) (h:G5 C W l) (VT:(AB C.s t).kind=5):Calls Tryz.prog 74 #[.pointer (some ⟨C.b,0,none⟩),.int .i64 t] W (rX C t W l):=by
 obtain ⟨tn,rfl⟩:=AAT hr.1;have htn:tn<C.s.length:=by omega
 obtain ⟨bq,oq,As,cs,Am,cm,hA,htr,t0,t1,t2,t3,t4,t5,t6,t7,t8,t9⟩:=h.ty.FQ htn;have Ez:Hid (AB C.s (tn:Int)=C.s[tn]):=zT htn;have ZL:Hid (1<=(C.s[tn]).kind/\(C.s[tn]).kind<=9):=by have:=Dh ho.v hr;rw[zT htn] at this;exact this
 have fQ:Hid ((C.s[tn]).kind=5):=by rw[zT htn] at VT;exact VT
 clear VT;have nL:Hid (Eu (C.s[tn]).kind->0<=(C.s[tn]).elem/\(C.s[tn]).elem<(C.s.length:Int)):=by have:=JC ho.v hr;rw[zT htn] at this;exact this
 have gM:Hid ((C.s[tn]).kind=8->0<=(C.s[tn]).key/\(C.s[tn]).key<(C.s.length:Int)):=fun hk=>by have:=(Kv ho.v hr (by rw[zT htn];exact hk)).1;rw[zT htn] at this;exact this
 have hls:=ho.len;have HN:Hid (l.length * 7+KI C.s (tn:Int)<=n):=by show _<=_;omega
 have HR:=zh hr;have HO:=zh ho;have E5:=zh ih;have Dv:=zh htr;generalize C.s[tn]=x at *;have LM:=zh (Cr.new cs cm h htr rfl rfl rfl);have HU:Hid (Below C.w0.heap.size C.w0 (W.alloc zO)):=h.up.trans ((zD W zO).mono h.up.size);obtain ⟨B,d,_,hbx⟩:=h.ex
 have c0:(W.alloc zO).cell? ⟨C.b,0,none⟩=some (.slice (some ⟨bq,oq,none⟩) C.s.length C.c):=by rw[AAE _ _ _ _ _ _ (BR hbx (zD _ _)),<-hA];rfl
 replace t0:=zA HU t0;replace t1:=zA HU t1;replace t2:=zA HU t2;replace t3:=zA HU t3;replace t4:=zA HU t4;replace t5:=zA HU t5;replace t6:=zA HU t6;replace t7:=zA HU t7;replace t8:=zA HU t8;replace t9:=zA HU t9;have i0:(0:Int)<=(tn:Int):=by omega
 have i1:(tn:Int)<(C.s.length:Int):=by omega
 have hz1:(W.alloc zO).heap.size=W.heap.size+1:=by simp
 clear h ih hn htr hr ho hA hbx hls
 go_enter Tryz.func74,Tryz.ntmps74
 go_upto_region 1 with fail
 unfold zO at LM HU c0 t0 t1 t2 t3 t4 t5 t6 t7 t8 t9 hz1;generalize qK:W.alloc (.cells #[.int .i64 0,.bool false,.int .i64 0,.string ⟨#[]⟩,.int .i64 0,.slice none 0 0,.slice none 0 0,.slice none 0 0] 28)=Wa at *;clear qK;go_upto_region 3 with fail
 clear t0 t1 t2 t3 t4 t5 t6 t7 t8 t9 c0 i0 i1 hz1;unfold Ht at LM;generalize World.alloc (World.alloc Wa _) _=Wc at *;obtain ⟨q,hq⟩:∃q,W.heap.size=q:=⟨_,rfl⟩;obtain ⟨px,hpx⟩:∃px,q+1=px:=⟨_,rfl⟩;obtain ⟨p,hp⟩:∃p,px+1=p:=⟨_,rfl⟩;rw[hq,hpx,hp] at LM;rw[hq,hpx,hp];have Dp:Hid (Cr C W q px p x As cs Am cm Wc l false 0 ⟨#[]⟩ 0 AR AR AR [] [] []):=LM.out;clear LM hq hpx hp HU
 obtain ⟨b0,b1,b2,b3,b4,b5,b6,b7,b8,b9⟩:=zG Dp.out.cells
 go_upto_block 0 with fail
 clear b0 b1 b2 b3 b4 b5 b6 b7 b8 b9
 go_cut [] (fun wx=>Hid (xH C W q px p x As cs Am cm (tn:Int) l wx))
 case first =>
  obtain ⟨b0,b1,b2,b3,b4,b5,b6,b7,b8,b9⟩:=zG Dp.out.cells;have hk:=fQ.out;clear fQ
  ·have HK:=zh hk
   have q1:(x.kind==1)=false:=by simp[hk]
   have q2:(x.kind==2)=false:=by simp[hk]
   have q3:(x.kind==3)=false:=by simp[hk]
   have q4:(x.kind==4)=false:=by simp[hk]
   have q5:(x.kind==5)=true:=by simp[hk]
   clear hk;have lU:Hid (KI C.s (tn:Int)=tn+1):=by show _=_;unfold KI;rw[Ez.out,HK.out];rfl
   have sI:=zh (HO.out.oZ (tn:Int) HR.out.1 HR.out.2 (by rw[Ez.out];exact .inl HK.out))
   have R3:=zh (HO.out.yc (tn:Int));have KG:=zh (HO.out.ids (tn:Int));have nM:=zh (HO.out.dfl (tn:Int));rw[Ez.out] at sI R3 KG nM;have hml:=R3.out;clear b0 b1 b2 b3 b4 b5 b6 b7 b8 b9
   go_upto_block 1 with fail
   go_cut [] (fun wx=>Hid (∃vi I l3,Cr C W q px p x As cs Am cm wx l3 false 0 ⟨#[]⟩ 0 AR vi AR [] I []/\l3.length<=l.length/\I.length=x.AA.length/\∀j (h:j<x.AA.length) (h':j<I.length),BV C.s (x.AA[j]).type (I[j]).v=true))
   case first =>
    go_wp2_with fail
    go_loopw [7] (fun i wr=>∃ (k:Nat) (vi:Value) (I:List Au) (l3:List Int),k<=x.AA.length/\i = .int .i64 (k:Int)/\Hid (Cr C W q px p x As cs Am cm wr l3 false 0 ⟨#[]⟩ 0 AR vi AR [] I []/\l3.length<=l.length/\I.length=k/\∀j (h:j<x.AA.length) (h':j<I.length),BV C.s (x.AA[j]).type (I[j]).v=true)) (fun i _=>x.AA.length - (intOf i).toNat)
    case atStart=>exact ⟨0,AR,[],l,by omega,rfl,Dp.out,AAH _,rfl,fun j _ h=>by simp at h⟩
    case round =>
     obtain ⟨k,vi,I,l3,hkm,rfl,hh⟩:=hrel;obtain ⟨wo,rfl⟩:∃wo:World,wo=wr:=⟨_,rfl⟩;have HM:=zh hh.out.1;have HL:=zh hh.out.2.1;have Vv:=zh hh.out.2.2.1;have nK:=zh hh.out.2.2.2;clear hh Dp;obtain ⟨b0,b1,b2,b3,b4,b5,b6,b7,b8,b9⟩:=zG HM.out.cells
     by_cases hlt:k<x.AA.length
     ·obtain ⟨mb,mo,M1,m1,M2,m2,M3,m3,rfl,_,d0,d1,d2,d3,d4,d5,d6,d7,d8,d9,Jr,Jq,Jp⟩:=Dv.out.AA.Gw hlt
      have Ia:Hid (∀u,Below C.w0.heap.size C.w0 u->(u.cell? ⟨mb,mo+k * 13+2,none⟩=some (.int .i64 (x.AA[k]).type)/\u.cell? ⟨mb,mo+k * 13+5,none⟩=some (.int .i64 (x.AA[k]).dflt.kind)/\u.cell? ⟨mb,mo+k * 13+6,none⟩=some (.bool (x.AA[k]).dflt.bool)/\u.cell? ⟨mb,mo+k * 13+7,none⟩=some (.int .i64 (x.AA[k]).dflt.int)/\u.cell? ⟨mb,mo+k * 13+8,none⟩=some (.string (x.AA[k]).dflt.str)/\u.cell? ⟨mb,mo+k * 13+9,none⟩=some (.int .i64 (x.AA[k]).dflt.id)/\u.cell? ⟨mb,mo+k * 13+10,none⟩=some (.slice M1 (x.AA[k]).dflt.keys.length m1)/\u.cell? ⟨mb,mo+k * 13+11,none⟩=some (.slice M2 (x.AA[k]).dflt.items.length m2)/\u.cell? ⟨mb,mo+k * 13+12,none⟩=some (.slice M3 (x.AA[k]).dflt.rest.length m3))):=fun u hb =>
       ⟨zA hb d2,zA hb d5,zA hb d6,zA hb d7,zA hb d8,zA hb d9,zA hb Jr,zA hb Jq,zA hb Jp⟩
      have e4:=zA HM.out.ms.up d4;clear d0 d1 d2 d3 d4 d5 d6 d7 d8 d9 Jr Jq Jp;have Vs:=zh (sI.out _ (AAK hlt));have HDK:=zh (nM.out _ (AAK hlt));have sK:Hid (∀y:Au,BV C.s (x.AA[k]).type y.v=true->∀j (h:j<x.AA.length) (h':j<(I++[y]).length),BV C.s (x.AA[j]).type ((I++[y])[j]).v=true):=fun y hy j h h'=>by
       by_cases e:j<I.length
       ·rw[List.getElem_append_left e];exact nK.out j h e
       ·have hj:j=k:=by rw[AAt] at h';simp at h';have:=Vv.out;omega
        subst hj;rw[List.getElem_append_right (by omega)]
        simpa[Vv.out] using hy
      generalize x.AA[k]=m at *;have h1:(0:Int)<=(k:Int):=by omega
      have h2:(k:Int)<(x.AA.length:Int):=by omega
      have hIl:I.length<=100:=by have:=Vv.out;omega
      go_upto_region 20 with fail
      go_cut [104] (fun c wx=>∃b:Bool,c = .bool b/\Hid (∃l4,Cr C W q px p x As cs (some ⟨mb,mo,none⟩) cm wx l4 false 0 ⟨#[]⟩ 0 AR vi AR [] I []/\l4.length<=l.length/\(b=true->m.ED=true)))
      case first =>
       cases hdf:m.ED with
       | false =>
        rw[hdf] at e4;go_wp2;go_meet;exact ⟨false,rfl,l3,HM.out,HL.out,fun e=>by cases e⟩
       | true =>
        rw[hdf] at e4;go_wp2_with fail;refine (Ba 3 (by omega) HM.out.ms).mono ?_
        rintro e w2 ⟨c,l2,rfl,_,h2',hb2,hl2,_⟩;have GU:=zh (HM.out.Cn hb2 h2');have HL2:Hid (l2.length<=l.length):=Nat.le_trans hl2 HL;clear h2' hb2 hl2;go_wp2;go_meet;exact ⟨_,rfl,l2,GU.out,HL2.out,fun _=>by first|rfl|exact hdf|trivial⟩
      case rest =>
      obtain ⟨b,rfl,hh⟩:=hcut;obtain ⟨l4,Tc,hl4,hb4⟩:=hh.out;obtain ⟨wp,rfl⟩:∃wp:World,wp=wc:=⟨_,rfl⟩;have FI:=zh Tc;have Rn:=zh hl4;have wU:=zh hb4;clear hh Tc hl4 hb4 HM e4 b0 b1 b2 b3 b4 b5 b6 b7 b8 b9;obtain ⟨A2,c2,rfl,_⟩:=Ad.reads FI.out.vb.oi;have IZ:=zh FI.out.ms.lt
      cases b with
      | true =>
       have FU:Hid (Cr C W q px p x As cs (some ⟨mb,mo,none⟩) cm (wp.drewN 1) l4 false 0 ⟨#[]⟩ 0 AR (.slice A2 I.length c2) AR [] I []):=FI.out.below (zC (Pe _ _) 1);have gT:Hid (BV C.s m.type (⟨m.dflt,M1,m1,M2,m2,M3,m3⟩:Au).v=true):=(HDK.out (wU.out rfl)).1
       have Ox:Hid (Off (Rb p AR (.slice A2 I.length c2) AR) (wp.drewN 1) fun u=>Az u (⟨m.dflt,M1,m1,M2,m2,M3,m3⟩:Au).v (⟨m.dflt,M1,m1,M2,m2,M3,m3⟩:Au).A1 (⟨m.dflt,M1,m1,M2,m2,M3,m3⟩:Au).A2 (⟨m.dflt,M1,m1,M2,m2,M3,m3⟩:Au).A3):=by
        obtain ⟨_,k1,k2,k3,k4⟩:=HDK.out (wU.out rfl)
        intro u _
        refine ⟨k4,?_,?_,?_⟩
        ·show Co u M1 m.dflt.keys;rw[k1];exact Aa.nil _ _ _ _ _
        ·show Co u M2 m.dflt.items;rw[k2];exact Aa.nil _ _ _ _ _
        ·show EH u M3 m.dflt.rest;rw[k3];exact Aa.nil _ _ _ _ _
       have GH:Hid (∀w',Ay C.b wp w'->(w'.cell? ⟨p,6,none⟩=some (.slice A2 I.length c2)/\w'.cell? ⟨px,6,none⟩=some (.slice (some ⟨mb,mo,none⟩) x.AA.length cm)/\w'.cell? ⟨px,8,none⟩=some (.int .i64 x.elem))/\Hid (Ay C.b wp w')):=fun w' hb=>FI.out.wY hb
       go_upto_region 21 with fail
       refine yE (S:=(fun w'=>w'.cell? ⟨p,6,none⟩=some (.slice A2 I.length c2)/\w'.cell? ⟨px,6,none⟩=some (.slice (some ⟨mb,mo,none⟩) x.AA.length cm)/\(w'.cell? ⟨mb,mo+k * 13+5,none⟩=some (.int .i64 m.dflt.kind)/\w'.cell? ⟨mb,mo+k * 13+6,none⟩=some (.bool m.dflt.bool)/\w'.cell? ⟨mb,mo+k * 13+7,none⟩=some (.int .i64 m.dflt.int)/\w'.cell? ⟨mb,mo+k * 13+8,none⟩=some (.string m.dflt.str)/\w'.cell? ⟨mb,mo+k * 13+9,none⟩=some (.int .i64 m.dflt.id)/\w'.cell? ⟨mb,mo+k * 13+10,none⟩=some (.slice M1 m.dflt.keys.length m1)/\w'.cell? ⟨mb,mo+k * 13+11,none⟩=some (.slice M2 m.dflt.items.length m2)/\w'.cell? ⟨mb,mo+k * 13+12,none⟩=some (.slice M3 m.dflt.rest.length m3)))) 11 (by kernel_rfl) ?_ (fun AO=>?_)
       ·(try dsimp only);(have h1:=(GH.out _ (Ay.of (zC (Pe _ _) 1) (AAe IZ))).1;have h2:=(Ia.out _ (FI.out.below (zC (Pe wp.heap.size wp) 1)).ms.up).2;exact ⟨h1.1,h1.2.1,h2⟩)
       refine tC 0 ?_;try simp only[ps]
       refine tB 1 ?_;try simp only[ps]
       refine tC 2 ?_;try simp only[ps]
       refine tB 3 ?_;try simp only[ps]
       refine tC 4 ?_;try simp only[ps]
       refine tC 5 ?_;try simp only[ps]
       refine tC 6 ?_;try simp only[ps]
       refine tB 7 ?_;try simp only[ps]
       refine tS 8 (fun K hK=>?_)
       go_simp
       refine hK.out _ _ ?_ (fun AO=>?_)
       ·(try dsimp only);(have hb:=zB (zC (Pe wp.heap.size wp) 1) (zD (wp.drewN 1) (.cells (⟨m.dflt,M1,m1,M2,m2,M3,m3⟩:Au).cells.toArray 28));have h1:=(GH.out _ (Ay.of hb (AAe IZ))).1;have h2:=(Ia.out _ (FI.out.below hb).ms.up).2;exact ⟨h1.1,h1.2.1,h2⟩)
       clear hK K;try simp only[ps]
       refine tS 9 (fun K hK=>?_)
       (have Rm:=zh (FU.out.below (zD (wp.drewN 1) (.cells (⟨m.dflt,M1,m1,M2,m2,M3,m3⟩:Au).cells.toArray 28)));refine yH Af (by rfl) (.tmp 106) (.tmp 113) (by rfl) (p+1) (.slice A2 I.length c2) I.length (I.flatMap Au.cells) (by rfl) Rm.out.vb.oi (wp.drewN 1).heap.size 0 1 1 (⟨m.dflt,M1,m1,M2,m2,M3,m3⟩:Au).cells (by rfl) rfl (zR (wp.drewN 1) (⟨m.dflt,M1,m1,M2,m2,M3,m3⟩:Au).cells 28) (CG (⟨m.dflt,M1,m1,M2,m2,M3,m3⟩:Au)) (by omega) (by omega) Rm.out.vb.lt ?_;intro v8 w8 CW Bt Ey;obtain ⟨g,c8,rfl,_⟩:=Gj CW;have ZO:=zh (FU.out.item Ox (zD (wp.drewN 1) (.cells (⟨m.dflt,M1,m1,M2,m2,M3,m3⟩:Au).cells.toArray 28)) CW Bt Ey);obtain ⟨c6,f6⟩:=FU.out.c6 (zD (wp.drewN 1) (.cells (⟨m.dflt,M1,m1,M2,m2,M3,m3⟩:Au).cells.toArray 28)) Bt;have qW:=zh (FU.out.oH (zD (wp.drewN 1) (.cells (⟨m.dflt,M1,m1,M2,m2,M3,m3⟩:Au).cells.toArray 28)) Bt);have HU8:=zh (FU.out.up8 (zD (wp.drewN 1) (.cells (⟨m.dflt,M1,m1,M2,m2,M3,m3⟩:Au).cells.toArray 28)) Bt);clear CW Bt Ey)
       refine hK.out _ _ ?_ (fun AO=>?_)
       ·(try dsimp only);exact ⟨qW.out.1,qW.out.2.1,(Ia.out _ HU8).2⟩
       clear hK K;try simp only[ps]
       refine tC 10 ?_;try simp only[ps]
       refine zV (rs:=[11]) (by kernel_rfl) (by simp) ?_
       refine AJ.last rfl (by kernel_rfl) (fun K hK=>?_) AJ.nil
       go_simp
       refine hK.out _ _ ?_;clear hK K
       (try clear AO)
       try simp only[ps]
       refine wpAny_done (by kernel_rfl) ?_ _
       go_wp2
       go_roundw
       case rel=>exact ⟨k+1,_,I++[(⟨m.dflt,M1,m1,M2,m2,M3,m3⟩:Au)],l4,by omega,by go_num,ZO.out,Rn.out,by rw[AAt,Vv.out];rfl,sK.out (⟨m.dflt,M1,m1,M2,m2,M3,m3⟩:Au) gT⟩
       case measure=>simp[intOf];omega
      | false =>
       have GV:Hid (l4.length * 7+KI C.s m.type<n):=by
        have h2:=HN.out;have h4:=Rn.out;rw[lU.out] at h2;have h3:KI C.s m.type<=tn:=by
         have h5:=Vs.out.1;unfold KI
         rcases Vs.out.2 with h|h
         ·rw[AAG h];omega
         ·split <;> omega
        show _<_
        omega
       have GH:Hid (∀w',Ay C.b wp w'->(w'.cell? ⟨p,6,none⟩=some (.slice A2 I.length c2)/\w'.cell? ⟨px,6,none⟩=some (.slice (some ⟨mb,mo,none⟩) x.AA.length cm)/\w'.cell? ⟨px,8,none⟩=some (.int .i64 x.elem))/\Hid (Ay C.b wp w')):=fun w' hb=>FI.out.wY hb
       go_upto_region 22 with fail
       refine yE (S:=(fun w'=>w'.cell? ⟨p,6,none⟩=some (.slice A2 I.length c2)/\w'.cell? ⟨px,6,none⟩=some (.slice (some ⟨mb,mo,none⟩) x.AA.length cm)/\w'.cell? ⟨mb,mo+k * 13+2,none⟩=some (.int .i64 m.type))) 13 (by kernel_rfl) ?_ (fun AO=>?_)
       ·(try dsimp only);(have h1:=(GH.out _ (Ay.of (zC (Pe _ _) 1) (AAe IZ))).1;have h2:=(Ia.out _ (FI.out.below (zC (Pe wp.heap.size wp) 1)).ms.up).1;exact ⟨h1.1,h1.2.1,h2⟩)
       refine tC 0 ?_;try simp only[ps]
       refine tB 1 ?_;try simp only[ps]
       refine tC 2 ?_;try simp only[ps]
       refine tC 3 ?_;try simp only[ps]
       refine tB 4 ?_;try simp only[ps]
       refine tC 5 ?_;try simp only[ps]
       refine tC 6 ?_;try simp only[ps]
       refine tC 7 ?_;try simp only[ps]
       refine tB 8 ?_;try simp only[ps]
       refine tS 9 (fun K hK=>?_)
       go_simp
       (have NY:=zh (Ay.of (zC (Pe wp.heap.size wp) 1) (AAe IZ));have OX:=zh (FI.out.below (zC (Pe _ _) 1));refine (E5.out m.type _ l4 GV Vs.out.1 OX.out.ms).mono ?_;rintro e w6 ⟨y,l6,rfl,g1,g2,g3,g4,g5⟩;have FU:=zh (OX.out.Cn g2 g3);have Ox:=zh (OX.out.hot g1);have BN:=zh (NY.out.trans g2);have qw:=zh g4;have ZN:=zh g5;clear g1 g2 g3 g4 g5)
       refine hK.out _ _ ?_ (fun AO=>?_)
       ·(try dsimp only);(have h1:=(GH.out _ BN).1;exact ⟨h1.1,h1.2.1,(Ia.out _ FU.out.ms.up).1⟩)
       clear hK K;try simp only[ps]
       refine tS 10 (fun K hK=>?_)
       go_simp
       refine hK.out _ _ ?_ (fun AO=>?_)
       ·(try dsimp only);(have h1:=(GH.out _ (BN.out.below (zD _ (.cells y.cells.toArray 28)) IZ)).1;exact ⟨h1.1,h1.2.1,(Ia.out _ (FU.out.below (zD w6 (.cells y.cells.toArray 28))).ms.up).1⟩)
       clear hK K;try simp only[ps]
       refine tS 11 (fun K hK=>?_)
       (have Rm:=zh (FU.out.below (zD w6 (.cells y.cells.toArray 28)));refine yH Af (by rfl) (.tmp 117) (.tmp 126) (by rfl) (p+1) (.slice A2 I.length c2) I.length (I.flatMap Au.cells) (by rfl) Rm.out.vb.oi w6.heap.size 0 1 1 y.cells (by rfl) rfl (zR w6 y.cells 28) (CG y) (by omega) (by omega) Rm.out.vb.lt ?_;intro v8 w8 CW Bt Ey;obtain ⟨g,c8,rfl,_⟩:=Gj CW;have ZO:=zh (FU.out.item Ox (zD w6 (.cells y.cells.toArray 28)) CW Bt Ey);obtain ⟨c6,f6⟩:=FU.out.c6 (zD w6 (.cells y.cells.toArray 28)) Bt;have qW:=zh (FU.out.oH (zD w6 (.cells y.cells.toArray 28)) Bt);have HU8:=zh (FU.out.up8 (zD w6 (.cells y.cells.toArray 28)) Bt);clear CW Bt Ey)
       refine hK.out _ _ ?_ (fun AO=>?_)
       ·(try dsimp only);exact ⟨qW.out.1,qW.out.2.1,(Ia.out _ HU8).1⟩
       clear hK K;try simp only[ps]
       refine tC 12 ?_;try simp only[ps]
       refine zV (rs:=[13]) (by kernel_rfl) (by simp) ?_
       refine AJ.last rfl (by kernel_rfl) (fun K hK=>?_) AJ.nil
       go_simp
       refine hK.out _ _ ?_;clear hK K
       (try clear AO)
       try simp only[ps]
       refine wpAny_done (by kernel_rfl) ?_ _
       go_wp2
       go_roundw
       case rel=>exact ⟨k+1,_,I++[y],l6,by omega,by go_num,ZO.out,Nat.le_trans qw Rn,by rw[AAt,Vv.out];rfl,sK.out y ZN⟩
       case measure=>simp[intOf];omega
     ·have h2:¬ (k:Int)<(x.AA.length:Int):=by omega
      go_wp2
      go_meet
      exact ⟨vi,I,l3,HM.out,HL.out,by have:=Vv.out;omega,nK.out⟩
   case rest =>
   obtain ⟨vi,I,l3,hm,hl,hil,hfi⟩:=hcut.out;obtain ⟨wp,rfl⟩:∃wp:World,wp=wc:=⟨_,rfl⟩;have HM:=zh hm;have HL:=zh hl;have HF:Hid (∀rs,Ca x rs=true->(∀r∈rs,r.data.size<=3)->BV C.s (tn:Int) (.mk x.kind false 0 ⟨#[]⟩ 0 [] (I.map (·.v)) rs)=true):=fun rs hrs hr3=>by
    rw[HK.out];exact oW HR.out.1 HR.out.2 (by rw[Ez.out];exact HK.out) (by rw[Ez.out,AAZ];exact hil) (by rw[Ez.out];exact hrs) hr3 (by rw[Ez.out];intro i h h';rw[List.getElem_map];exact hfi i h (by rw[AAZ] at h';exact h'))
   have lm:Hid (I.length<=2000000):=by show _<=_;omega
   clear hcut hm hl hil hfi Dp;go_wp2_with fail;refine (Lp HM.out.ms).mono ?_;rintro e w4 ⟨o,l4,rfl,h4,hb4,hl4⟩;have FI:=zh (HM.out.Cn hb4 h4);have Rn:Hid (l4.length<=l.length):=Nat.le_trans hl4 HL;clear h4 hb4 hl4
   cases o with
   | false =>
    go_wp2
    go_meet
    exact ⟨_,_,_,_,_,_,_,[],I,[],l4,FI.out,Rn.out,⟨by simp,lm.out,by simp⟩,HF.out [] rfl (fun _ h=>by cases h)⟩
   | true =>
    obtain ⟨b0,b1,b2,b3,b4,b5,b6,b7,b8,b9⟩:=zG FI.out.cells;go_wp2_with fail;refine (GY FI.out.ms x _ cs Am cm Dv KG).mono ?_;rintro e w5 ⟨un,l5,rfl,hu,uI,h5,hb5,hl5⟩;have LK:=zh (FI.out.Cn hb5 h5);have ZY:Hid (l5.length<=l.length):=Nat.le_trans hl5 Rn;have vV:=zh hu;have vU:=zh uI;clear h5 hb5 hl5 hu uI b0 b1 b2 b3 b4 b5 b6 b7 b8 b9;go_wp2_with fail
    refine (P6 LK.out.ms un).mono ?_;rintro e w6 ⟨S,l6,rfl,hs,h6,hb6,XA⟩;have FU:=zh (LK.out.Cn hb6 h6);have qw:Hid (l6.length<=l.length):=Nat.le_trans XA ZY;have HSK:=zh (show Db S by unfold Db;omega)
    have Rm:=zh (FU.out.oL (y:=⟨un,S⟩) HSK);have UZ:=zh (HF.out [⟨un,S⟩] (aS vU vV) (fun r hr=>by rw[List.mem_singleton.1 hr];exact hs))
    have AA2:=zh (FU.out.below (zD w6 (.cells #[.int .i64 un,.string S] 97)));clear hs h6 hb6 XA;obtain ⟨c7,f7⟩:=AA2.out.c7;unfold encR at Rm;go_wp2;go_meet;exact ⟨_,_,_,_,_,_,_,[],I,[⟨un,S⟩],l6,Rm.out,qw.out,⟨by simp,lm.out,by simp⟩,UZ.out⟩
 case rest =>
 obtain ⟨bo,it,st,di,vk,vi,vr,K,I,R,l',hm,hl,hz,hf⟩:=hcut.out;obtain ⟨A1,c1,rfl,_⟩:=Ad.reads hm.vb.ok;obtain ⟨A2,c2,rfl,_⟩:=Ad.reads hm.vb.oi;obtain ⟨A3,c3,rfl,_⟩:=Ad.reads hm.vb.Qy;have HG2:=zh (hm.fin hl hz hf);have LP:=zh (F6 hm.bq (.int .i64 x.kind) (.bool bo) (.int .i64 it) (.string st) (.int .i64 di) (.slice A1 K.length c1) (.slice A2 I.length c2) (.slice A3 R.length c3))
 obtain ⟨⟨x0,x1,x2,x3,x4,x5,x6,x7⟩,y0,y1,y2,y3,y4,y5,y6,y7⟩:=zK hm.bq;obtain ⟨⟨v0,v1,v2,v3,v4,v5,v6,v7⟩,_⟩:=hm.vb.cells;clear hcut hm hl hz hf;go_wp2;clear x0 x1 x2 x3 x4 x5 x6 x7 y0 y1 y2 y3 y4 y5 y6 y7 v0 v1 v2 v3 v4 v5 v6 v7;unfold q8 Go.Proofs.YthkkllmmbefedaaGreatDoor.q5 at HG2 LP
 generalize World.setCell _ _ _=W9 at *;obtain ⟨⟨x0,x1,x2,x3,x4,x5,x6,x7⟩,_⟩:=zK LP
 exact bodyPost_ret (v := .agg #[.int .i64 x.kind,.bool bo,.int .i64 it,.string st,.int .i64 di,.slice A1 K.length c1,.slice A2 I.length c2,.slice A3 R.length c3]) (by simp[results,Tryz.results74,go_sem,x0,x1,x2,x3,x4,x5,x6,x7]) rfl HG2
end Go.Proofs.YthkkllmmbefedaaGreatDoor



