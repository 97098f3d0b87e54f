/-
  The maker's value: kinds 5.
-/
import Derived.Test.YthkkllmmbefedaaGreatDoorQGN1
namespace Go.Proofs.YthkkllmmbefedaaGreatDoor
open Go.RowKit Go.Proofs.Tryz
set_option maxHeartbeats 16000000
set_option maxRecDepth 100000
theorem bM {C:WI} (ho:Mt C.s) {n:Nat} (ih:Lf C n) (t:Int) (W:World) (l:List Int) (hn:l.length * 7+Lp C.s t<n+1) (hr:0<=t/\t<(C.s.length:Int)) (h:Ik C W l) (X7:(AO C.s t).kind=5):Calls prog 74 #[.pointer (some ⟨C.b,0,none⟩),.int .i64 t] W (zi C t W l):=by
 obtain ⟨tn,rfl⟩:=AAh hr.1;have htn:tn<C.s.length:=by omega
 obtain ⟨bq,oq,As,cs,Am,cm,hA,htr,t0,t1,t2,t3,t4,t5,t6,t7,t8,t9⟩:=h.ty.J3 htn;have EY:Hid (AO C.s (tn:Int)=C.s[tn]):=zT htn;have eX:Hid (1<=(C.s[tn]).kind/\(C.s[tn]).kind<=9):=by have:=Fh ho.v hr;rw[zT htn] at this;exact this
 have nI:Hid ((C.s[tn]).kind=5):=by rw[zT htn] at X7;exact X7
 clear X7;have nZ:Hid (Ev (C.s[tn]).kind->0<=(C.s[tn]).elem/\(C.s[tn]).elem<(C.s.length:Int)):=by have:=Jz ho.v hr;rw[zT htn] at this;exact this
 have nR:Hid ((C.s[tn]).kind=8->0<=(C.s[tn]).key/\(C.s[tn]).key<(C.s.length:Int)):=fun hk=>by have:=(MR ho.v hr (by rw[zT htn];exact hk)).1;rw[zT htn] at this;exact this
 have hls:=ho.len;have HN:Hid (l.length * 7+Lp C.s (tn:Int)<=n):=by show _<=_;omega
 have HR:=zh hr;have HO:=zh ho;have Ed:=zh ih;have Ie:=zh htr;generalize C.s[tn]=x at *;have M0:=zh (DX.new cs cm h htr rfl rfl rfl);have HU:Hid (Below C.w0.heap.size C.w0 (W.alloc zO)):=h.up.trans ((zD W zO).mono h.up.size);obtain ⟨B,d,_,hbx⟩:=h.ex
 have c0:(W.alloc zO).cell? ⟨C.b,0,none⟩=some (.slice (some ⟨bq,oq,none⟩) C.s.length C.c):=by rw[AAC _ _ _ _ _ _ (Au hbx (zD _ _)),<-hA];rfl
 replace t0:=zA HU t0;replace t1:=zA HU t1;replace t2:=zA HU t2;replace t3:=zA HU t3;replace t4:=zA HU t4;replace t5:=zA HU t5;replace t6:=zA HU t6;replace t7:=zA HU t7;replace t8:=zA HU t8;replace t9:=zA HU t9;have i0:(0:Int)<=(tn:Int):=by omega
 have i1:(tn:Int)<(C.s.length:Int):=by omega
 have hz1:(W.alloc zO).heap.size=W.heap.size+1:=by simp
 clear h ih hn htr hr ho hA hbx hls
 go_enter func74,ntmps74
 go_upto_region 1 with fail
 unfold zO at M0 HU c0 t0 t1 t2 t3 t4 t5 t6 t7 t8 t9 hz1;generalize xQ:W.alloc (.cells #[.int .i64 0,.bool false,.int .i64 0,.string ⟨#[]⟩,.int .i64 0,.slice none 0 0,.slice none 0 0,.slice none 0 0] 28)=Wa at *;clear xQ;go_upto_region 3 with fail
 clear t0 t1 t2 t3 t4 t5 t6 t7 t8 t9 c0 i0 i1 hz1;unfold I8 at M0;generalize World.alloc (World.alloc Wa _) _=Wc at *;obtain ⟨q,hq⟩:∃q,W.heap.size=q:=⟨_,rfl⟩;obtain ⟨px,hpx⟩:∃px,q+1=px:=⟨_,rfl⟩;obtain ⟨p,hp⟩:∃p,px+1=p:=⟨_,rfl⟩;rw[hq,hpx,hp] at M0;rw[hq,hpx,hp];have D7:Hid (DX C W q px p x As cs Am cm Wc l false 0 ⟨#[]⟩ 0 AP AP AP [] [] []):=M0.O;clear M0 hq hpx hp HU
 obtain ⟨b0,b1,b2,b3,b4,b5,b6,b7,b8,b9⟩:=zG D7.O.cells
 go_upto_block 0 with fail
 clear b0 b1 b2 b3 b4 b5 b6 b7 b8 b9
 go_cut [] (fun wx=>Hid (MvE C W q px p x As cs Am cm (tn:Int) l wx))
 case first =>
  obtain ⟨b0,b1,b2,b3,b4,b5,b6,b7,b8,b9⟩:=zG D7.O.cells;have hk:=nI.O;clear nI
  ·have HK:=zh hk
   have q1:(x.kind==1)=false:=by simp[hk]
   have q2:(x.kind==2)=false:=by simp[hk]
   have q3:(x.kind==3)=false:=by simp[hk]
   have q4:(x.kind==4)=false:=by simp[hk]
   have q5:(x.kind==5)=true:=by simp[hk]
   clear hk;have sF:Hid (Lp C.s (tn:Int)=tn+1):=by show _=_;unfold Lp;rw[EY.O,HK.O];rfl
   have HMT:=zh (HO.O.vZ (tn:Int) HR.O.1 HR.O.2 (by rw[EY.O];exact .inl HK.O))
   have UI:=zh (HO.O.mel (tn:Int));have Z4:=zh (HO.O.ids (tn:Int));have uS:=zh (HO.O.dfl (tn:Int));rw[EY.O] at HMT UI Z4 uS;have hml:=UI.O;clear b0 b1 b2 b3 b4 b5 b6 b7 b8 b9
   go_upto_block 1 with fail
   go_cut [] (fun wx=>Hid (∃vi I l3,DX C W q px p x As cs Am cm wx l3 false 0 ⟨#[]⟩ 0 AP vi AP [] I []/\l3.length<=l.length/\I.length=x.AA.length/\∀j (h:j<x.AA.length) (h':j<I.length),BN C.s (x.AA[j]).type (I[j]).v=true))
   case first =>
    go_wp2_with fail
    go_loopw [7] (fun i wr=>∃ (k:Nat) (vi:Value) (I:List Aj) (l3:List Int),k<=x.AA.length/\i = .int .i64 (k:Int)/\Hid (DX C W q px p x As cs Am cm wr l3 false 0 ⟨#[]⟩ 0 AP vi AP [] I []/\l3.length<=l.length/\I.length=k/\∀j (h:j<x.AA.length) (h':j<I.length),BN C.s (x.AA[j]).type (I[j]).v=true)) (fun i _=>x.AA.length - (intOf i).toNat)
    case atStart=>exact ⟨0,AP,[],l,by omega,rfl,D7.O,AAF _,rfl,fun j _ h=>by simp at h⟩
    case round =>
     obtain ⟨k,vi,I,l3,hkm,rfl,hh⟩:=hrel;obtain ⟨wo,rfl⟩:∃wo:World,wo=wr:=⟨_,rfl⟩;have HM:=zh hh.O.1;have HL:=zh hh.O.2.1;have YW:=zh hh.O.2.2.1;have Wo:=zh hh.O.2.2.2;clear hh D7;obtain ⟨b0,b1,b2,b3,b4,b5,b6,b7,b8,b9⟩:=zG HM.O.cells
     by_cases hlt:k<x.AA.length
     ·obtain ⟨mb,mo,M1,m1,M2,m2,M3,m3,rfl,_,d0,d1,d2,d3,d4,d5,d6,d7,d8,d9,UB,UA,T9⟩:=Ie.O.AA.Mk hlt
      have JW:Hid (∀u,Below C.w0.heap.size C.w0 u->(u.cell? ⟨mb,mo+k * 13+2,none⟩=some (.int .i64 (x.AA[k]).type)/\u.cell? ⟨mb,mo+k * 13+5,none⟩=some (.int .i64 (x.AA[k]).dflt.kind)/\u.cell? ⟨mb,mo+k * 13+6,none⟩=some (.bool (x.AA[k]).dflt.bool)/\u.cell? ⟨mb,mo+k * 13+7,none⟩=some (.int .i64 (x.AA[k]).dflt.int)/\u.cell? ⟨mb,mo+k * 13+8,none⟩=some (.string (x.AA[k]).dflt.str)/\u.cell? ⟨mb,mo+k * 13+9,none⟩=some (.int .i64 (x.AA[k]).dflt.id)/\u.cell? ⟨mb,mo+k * 13+10,none⟩=some (.slice M1 (x.AA[k]).dflt.keys.length m1)/\u.cell? ⟨mb,mo+k * 13+11,none⟩=some (.slice M2 (x.AA[k]).dflt.items.length m2)/\u.cell? ⟨mb,mo+k * 13+12,none⟩=some (.slice M3 (x.AA[k]).dflt.rest.length m3))):=fun u hb =>
       ⟨zA hb d2,zA hb d5,zA hb d6,zA hb d7,zA hb d8,zA hb d9,zA hb UB,zA hb UA,zA hb T9⟩
      have e4:=zA HM.O.ms.up d4;clear d0 d1 d2 d3 d4 d5 d6 d7 d8 d9 UB UA T9;have eP:=zh (HMT.O _ (AAL hlt));have HDK:=zh (uS.O _ (AAL hlt));have HFK:Hid (∀y:Aj,BN C.s (x.AA[k]).type y.v=true->∀j (h:j<x.AA.length) (h':j<(I++[y]).length),BN C.s (x.AA[j]).type ((I++[y])[j]).v=true):=fun y hy j h h'=>by
       by_cases e:j<I.length
       ·rw[List.getElem_append_left e];exact Wo.O j h e
       ·have hj:j=k:=by rw[ABF] at h';simp at h';have:=YW.O;omega
        subst hj;rw[List.getElem_append_right (by omega)]
        simpa[YW.O] using hy
      generalize x.AA[k]=m at *;have h1:(0:Int)<=(k:Int):=by omega
      have h2:(k:Int)<(x.AA.length:Int):=by omega
      have hIl:I.length<=100:=by have:=YW.O;omega
      go_upto_region 20 with fail
      go_cut [104] (fun c wx=>∃b:Bool,c = .bool b/\Hid (∃l4,DX C W q px p x As cs (some ⟨mb,mo,none⟩) cm wx l4 false 0 ⟨#[]⟩ 0 AP vi AP [] I []/\l4.length<=l.length/\(b=true->m.Et=true)))
      case first =>
       cases hdf:m.Et with
       | false =>
        rw[hdf] at e4;go_wp2;go_meet;exact ⟨false,rfl,l3,HM.O,HL.O,fun e=>by cases e⟩
       | true =>
        rw[hdf] at e4;go_wp2_with fail;refine (BQ 3 (by omega) HM.O.ms).mono ?_
        rintro e w2 ⟨c,l2,rfl,_,h2',hb2,hl2,_⟩;have Fb:=zh (HM.O.BK hb2 h2');have HL2:Hid (l2.length<=l.length):=Nat.le_trans hl2 HL;clear h2' hb2 hl2;go_wp2;go_meet;exact ⟨_,rfl,l2,Fb.O,HL2.O,fun _=>by first|rfl|exact hdf|trivial⟩
      case rest =>
      obtain ⟨b,rfl,hh⟩:=hcut;obtain ⟨l4,VY,hl4,hb4⟩:=hh.O;obtain ⟨wp,rfl⟩:∃wp:World,wp=wc:=⟨_,rfl⟩;have GD:=zh VY;have Tv:=zh hl4;have ACB:=zh hb4;clear hh VY hl4 hb4 HM e4 b0 b1 b2 b3 b4 b5 b6 b7 b8 b9;obtain ⟨A2,c2,rfl,_⟩:=AZ.reads GD.O.vb.oi;have GJ:=zh GD.O.ms.lt
      cases b with
      | true =>
       have Gz:Hid (DX C W q px p x As cs (some ⟨mb,mo,none⟩) cm (wp.drewN 1) l4 false 0 ⟨#[]⟩ 0 AP (.slice A2 I.length c2) AP [] I []):=GD.O.below (zC (Pe _ _) 1);have Z5:Hid (BN C.s m.type (⟨m.dflt,M1,m1,M2,m2,M3,m3⟩:Aj).v=true):=(HDK.O (ACB.O rfl)).1
       have JQ:Hid (Off (R8 p AP (.slice A2 I.length c2) AP) (wp.drewN 1) fun u=>Ar u (⟨m.dflt,M1,m1,M2,m2,M3,m3⟩:Aj).v (⟨m.dflt,M1,m1,M2,m2,M3,m3⟩:Aj).A1 (⟨m.dflt,M1,m1,M2,m2,M3,m3⟩:Aj).A2 (⟨m.dflt,M1,m1,M2,m2,M3,m3⟩:Aj).A3):=by
        obtain ⟨_,k1,k2,k3,k4⟩:=HDK.O (ACB.O rfl)
        intro u _
        refine ⟨k4,?_,?_,?_⟩
        ·show Cz u M1 m.dflt.keys;rw[k1];exact AY.nil _ _ _ _ _
        ·show Cz u M2 m.dflt.items;rw[k2];exact AY.nil _ _ _ _ _
        ·show FB u M3 m.dflt.rest;rw[k3];exact AY.nil _ _ _ _ _
       have Ej:Hid (∀w',Ah C.b wp w'->(w'.cell? ⟨p,6,none⟩=some (.slice A2 I.length c2)/\w'.cell? ⟨px,6,none⟩=some (.slice (some ⟨mb,mo,none⟩) x.AA.length cm)/\w'.cell? ⟨px,8,none⟩=some (.int .i64 x.elem))/\Hid (Ah C.b wp w')):=fun w' hb=>GD.O.rd6 hb
       go_upto_region 21 with fail
       refine yE (S:=(fun w'=>w'.cell? ⟨p,6,none⟩=some (.slice A2 I.length c2)/\w'.cell? ⟨px,6,none⟩=some (.slice (some ⟨mb,mo,none⟩) x.AA.length cm)/\(w'.cell? ⟨mb,mo+k * 13+5,none⟩=some (.int .i64 m.dflt.kind)/\w'.cell? ⟨mb,mo+k * 13+6,none⟩=some (.bool m.dflt.bool)/\w'.cell? ⟨mb,mo+k * 13+7,none⟩=some (.int .i64 m.dflt.int)/\w'.cell? ⟨mb,mo+k * 13+8,none⟩=some (.string m.dflt.str)/\w'.cell? ⟨mb,mo+k * 13+9,none⟩=some (.int .i64 m.dflt.id)/\w'.cell? ⟨mb,mo+k * 13+10,none⟩=some (.slice M1 m.dflt.keys.length m1)/\w'.cell? ⟨mb,mo+k * 13+11,none⟩=some (.slice M2 m.dflt.items.length m2)/\w'.cell? ⟨mb,mo+k * 13+12,none⟩=some (.slice M3 m.dflt.rest.length m3)))) 11 (by kernel_rfl) ?_ (fun AQ=>?_)
       ·(try dsimp only);(have h1:=(Ej.O _ (Ah.of (zC (Pe _ _) 1) (AAM GJ))).1;have h2:=(JW.O _ (GD.O.below (zC (Pe wp.heap.size wp) 1)).ms.up).2;exact ⟨h1.1,h1.2.1,h2⟩)
       refine tC 0 ?_;try simp only[ps]
       refine tB 1 ?_;try simp only[ps]
       refine tC 2 ?_;try simp only[ps]
       refine tB 3 ?_;try simp only[ps]
       refine tC 4 ?_;try simp only[ps]
       refine tC 5 ?_;try simp only[ps]
       refine tC 6 ?_;try simp only[ps]
       refine tB 7 ?_;try simp only[ps]
       refine tS 8 (fun K hK=>?_)
       go_simp
       refine hK.out _ _ ?_ (fun AQ=>?_)
       ·(try dsimp only);(have hb:=zB (zC (Pe wp.heap.size wp) 1) (zD (wp.drewN 1) (.cells (⟨m.dflt,M1,m1,M2,m2,M3,m3⟩:Aj).cells.toArray 28));have h1:=(Ej.O _ (Ah.of hb (AAM GJ))).1;have h2:=(JW.O _ (GD.O.below hb).ms.up).2;exact ⟨h1.1,h1.2.1,h2⟩)
       clear hK K;try simp only[ps]
       refine tS 9 (fun K hK=>?_)
       (have WU:=zh (Gz.O.below (zD (wp.drewN 1) (.cells (⟨m.dflt,M1,m1,M2,m2,M3,m3⟩:Aj).cells.toArray 28)));refine yH AV (by rfl) (.tmp 106) (.tmp 113) (by rfl) (p+1) (.slice A2 I.length c2) I.length (I.flatMap Aj.cells) (by rfl) WU.O.vb.oi (wp.drewN 1).heap.size 0 1 1 (⟨m.dflt,M1,m1,M2,m2,M3,m3⟩:Aj).cells (by rfl) rfl (zR (wp.drewN 1) (⟨m.dflt,M1,m1,M2,m2,M3,m3⟩:Aj).cells 28) (Bn (⟨m.dflt,M1,m1,M2,m2,M3,m3⟩:Aj)) (by omega) (by omega) WU.O.vb.lt ?_;intro v8 w8 BB Aw Cv;obtain ⟨g,c8,rfl,_⟩:=Ce BB;have Lj:=zh (Gz.O.item JQ (zD (wp.drewN 1) (.cells (⟨m.dflt,M1,m1,M2,m2,M3,m3⟩:Aj).cells.toArray 28)) BB Aw Cv);obtain ⟨c6,f6⟩:=Gz.O.c6 (zD (wp.drewN 1) (.cells (⟨m.dflt,M1,m1,M2,m2,M3,m3⟩:Aj).cells.toArray 28)) Aw;have xY:=zh (Gz.O.vK (zD (wp.drewN 1) (.cells (⟨m.dflt,M1,m1,M2,m2,M3,m3⟩:Aj).cells.toArray 28)) Aw);have HU8:=zh (Gz.O.up8 (zD (wp.drewN 1) (.cells (⟨m.dflt,M1,m1,M2,m2,M3,m3⟩:Aj).cells.toArray 28)) Aw);clear BB Aw Cv)
       refine hK.out _ _ ?_ (fun AQ=>?_)
       ·(try dsimp only);exact ⟨xY.O.1,xY.O.2.1,(JW.O _ HU8).2⟩
       clear hK K;try simp only[ps]
       refine tC 10 ?_;try simp only[ps]
       refine zV (rs:=[11]) (by kernel_rfl) (by simp) ?_
       refine AB.last rfl (by kernel_rfl) (fun K hK=>?_) AB.nil
       go_simp
       refine hK.out _ _ ?_;clear hK K
       (try clear AQ)
       try simp only[ps]
       refine wpAny_done (by kernel_rfl) ?_ _
       go_wp2
       go_roundw
       case rel=>exact ⟨k+1,_,I++[(⟨m.dflt,M1,m1,M2,m2,M3,m3⟩:Aj)],l4,by omega,by go_num,Lj.O,Tv.O,by rw[ABF,YW.O];rfl,HFK.O (⟨m.dflt,M1,m1,M2,m2,M3,m3⟩:Aj) Z5⟩
       case measure=>simp[intOf];omega
      | false =>
       have EP:Hid (l4.length * 7+Lp C.s m.type<n):=by
        have h2:=HN.O;have h4:=Tv.O;rw[sF.O] at h2;have h3:Lp C.s m.type<=tn:=by
         have h5:=eP.O.1;unfold Lp
         rcases eP.O.2 with h|h
         ·rw[AAB h];omega
         ·split <;> omega
        show _<_
        omega
       have Ej:Hid (∀w',Ah C.b wp w'->(w'.cell? ⟨p,6,none⟩=some (.slice A2 I.length c2)/\w'.cell? ⟨px,6,none⟩=some (.slice (some ⟨mb,mo,none⟩) x.AA.length cm)/\w'.cell? ⟨px,8,none⟩=some (.int .i64 x.elem))/\Hid (Ah C.b wp w')):=fun w' hb=>GD.O.rd6 hb
       go_upto_region 22 with fail
       refine yE (S:=(fun w'=>w'.cell? ⟨p,6,none⟩=some (.slice A2 I.length c2)/\w'.cell? ⟨px,6,none⟩=some (.slice (some ⟨mb,mo,none⟩) x.AA.length cm)/\w'.cell? ⟨mb,mo+k * 13+2,none⟩=some (.int .i64 m.type))) 13 (by kernel_rfl) ?_ (fun AQ=>?_)
       ·(try dsimp only);(have h1:=(Ej.O _ (Ah.of (zC (Pe _ _) 1) (AAM GJ))).1;have h2:=(JW.O _ (GD.O.below (zC (Pe wp.heap.size wp) 1)).ms.up).1;exact ⟨h1.1,h1.2.1,h2⟩)
       refine tC 0 ?_;try simp only[ps]
       refine tB 1 ?_;try simp only[ps]
       refine tC 2 ?_;try simp only[ps]
       refine tC 3 ?_;try simp only[ps]
       refine tB 4 ?_;try simp only[ps]
       refine tC 5 ?_;try simp only[ps]
       refine tC 6 ?_;try simp only[ps]
       refine tC 7 ?_;try simp only[ps]
       refine tB 8 ?_;try simp only[ps]
       refine tS 9 (fun K hK=>?_)
       go_simp
       (have Wp:=zh (Ah.of (zC (Pe wp.heap.size wp) 1) (AAM GJ));have Qd:=zh (GD.O.below (zC (Pe _ _) 1));refine (Ed.O m.type _ l4 EP eP.O.1 Qd.O.ms).mono ?_;rintro e w6 ⟨y,l6,rfl,g1,g2,g3,g4,g5⟩;have Gz:=zh (Qd.O.BK g2 g3);have JQ:=zh (Qd.O.hot g1);have BH:=zh (Wp.O.trans g2);have sH:=zh g4;have OD:=zh g5;clear g1 g2 g3 g4 g5)
       refine hK.out _ _ ?_ (fun AQ=>?_)
       ·(try dsimp only);(have h1:=(Ej.O _ BH).1;exact ⟨h1.1,h1.2.1,(JW.O _ Gz.O.ms.up).1⟩)
       clear hK K;try simp only[ps]
       refine tS 10 (fun K hK=>?_)
       go_simp
       refine hK.out _ _ ?_ (fun AQ=>?_)
       ·(try dsimp only);(have h1:=(Ej.O _ (BH.O.below (zD _ (.cells y.cells.toArray 28)) GJ)).1;exact ⟨h1.1,h1.2.1,(JW.O _ (Gz.O.below (zD w6 (.cells y.cells.toArray 28))).ms.up).1⟩)
       clear hK K;try simp only[ps]
       refine tS 11 (fun K hK=>?_)
       (have WU:=zh (Gz.O.below (zD w6 (.cells y.cells.toArray 28)));refine yH AV (by rfl) (.tmp 117) (.tmp 126) (by rfl) (p+1) (.slice A2 I.length c2) I.length (I.flatMap Aj.cells) (by rfl) WU.O.vb.oi w6.heap.size 0 1 1 y.cells (by rfl) rfl (zR w6 y.cells 28) (Bn y) (by omega) (by omega) WU.O.vb.lt ?_;intro v8 w8 BB Aw Cv;obtain ⟨g,c8,rfl,_⟩:=Ce BB;have Lj:=zh (Gz.O.item JQ (zD w6 (.cells y.cells.toArray 28)) BB Aw Cv);obtain ⟨c6,f6⟩:=Gz.O.c6 (zD w6 (.cells y.cells.toArray 28)) Aw;have xY:=zh (Gz.O.vK (zD w6 (.cells y.cells.toArray 28)) Aw);have HU8:=zh (Gz.O.up8 (zD w6 (.cells y.cells.toArray 28)) Aw);clear BB Aw Cv)
       refine hK.out _ _ ?_ (fun AQ=>?_)
       ·(try dsimp only);exact ⟨xY.O.1,xY.O.2.1,(JW.O _ HU8).1⟩
       clear hK K;try simp only[ps]
       refine tC 12 ?_;try simp only[ps]
       refine zV (rs:=[13]) (by kernel_rfl) (by simp) ?_
       refine AB.last rfl (by kernel_rfl) (fun K hK=>?_) AB.nil
       go_simp
       refine hK.out _ _ ?_;clear hK K
       (try clear AQ)
       try simp only[ps]
       refine wpAny_done (by kernel_rfl) ?_ _
       go_wp2
       go_roundw
       case rel=>exact ⟨k+1,_,I++[y],l6,by omega,by go_num,Lj.O,Nat.le_trans sH Tv,by rw[ABF,YW.O];rfl,HFK.O y OD⟩
       case measure=>simp[intOf];omega
     ·have h2:¬ (k:Int)<(x.AA.length:Int):=by omega
      go_wp2
      go_meet
      exact ⟨vi,I,l3,HM.O,HL.O,by have:=YW.O;omega,Wo.O⟩
   case rest =>
   obtain ⟨vi,I,l3,hm,hl,hil,hfi⟩:=hcut.O;obtain ⟨wp,rfl⟩:∃wp:World,wp=wc:=⟨_,rfl⟩;have HM:=zh hm;have HL:=zh hl;have HF:Hid (∀rs,Dk x rs=true->(∀r∈rs,r.data.size<=3)->BN C.s (tn:Int) (.mk x.kind false 0 ⟨#[]⟩ 0 [] (I.map (·.v)) rs)=true):=fun rs hrs hr3=>by
    rw[HK.O];exact vY HR.O.1 HR.O.2 (by rw[EY.O];exact HK.O) (by rw[EY.O,AAt];exact hil) (by rw[EY.O];exact hrs) hr3 (by rw[EY.O];intro i h h';rw[List.getElem_map];exact hfi i h (by rw[AAt] at h';exact h'))
   have yS:Hid (I.length<=2000000):=by show _<=_;omega
   clear hcut hm hl hil hfi D7;go_wp2_with fail;refine (Nc HM.O.ms).mono ?_;rintro e w4 ⟨o,l4,rfl,h4,hb4,hl4⟩;have GD:=zh (HM.O.BK hb4 h4);have Tv:Hid (l4.length<=l.length):=Nat.le_trans hl4 HL;clear h4 hb4 hl4
   cases o with
   | false =>
    go_wp2
    go_meet
    exact ⟨_,_,_,_,_,_,_,[],I,[],l4,GD.O,Tv.O,⟨by simp,yS.O,by simp⟩,HF.O [] rfl (fun _ h=>by cases h)⟩
   | true =>
    obtain ⟨b0,b1,b2,b3,b4,b5,b6,b7,b8,b9⟩:=zG GD.O.cells;go_wp2_with fail;refine (Ht GD.O.ms x _ cs Am cm Ie Z4).mono ?_;rintro e w5 ⟨un,l5,rfl,hu,hus,h5,hb5,hl5⟩;have Mx:=zh (GD.O.BK hb5 h5);have fZ:Hid (l5.length<=l.length):=Nat.le_trans hl5 Tv;have HUN:=zh hu;have HUS:=zh hus;clear h5 hb5 hl5 hu hus b0 b1 b2 b3 b4 b5 b6 b7 b8 b9;go_wp2_with fail
    refine (Rc Mx.O.ms un).mono ?_;rintro e w6 ⟨S,l6,rfl,hs,h6,hb6,TW⟩;have Gz:=zh (Mx.O.BK hb6 h6);have sH:Hid (l6.length<=l.length):=Nat.le_trans TW fZ;have HSK:=zh (show Cw S by unfold Cw;omega)
    have WU:=zh (Gz.O.qC (y:=⟨un,S⟩) HSK);have PL:=zh (HF.O [⟨un,S⟩] (jJ HUS HUN) (fun r hr=>by rw[List.mem_singleton.1 hr];exact hs))
    have AED:=zh (Gz.O.below (zD w6 (.cells #[.int .i64 un,.string S] 97)));clear hs h6 hb6 TW;obtain ⟨c7,f7⟩:=AED.O.c7;unfold encR at WU;go_wp2;go_meet;exact ⟨_,_,_,_,_,_,_,[],I,[⟨un,S⟩],l6,WU.O,sH.O,⟨by simp,yS.O,by simp⟩,PL.O⟩
 case rest =>
 obtain ⟨bo,it,st,di,vk,vi,vr,K,I,R,l',hm,hl,hz,hf⟩:=hcut.O;obtain ⟨A1,c1,rfl,_⟩:=AZ.reads hm.vb.ok;obtain ⟨A2,c2,rfl,_⟩:=AZ.reads hm.vb.oi;obtain ⟨A3,c3,rfl,_⟩:=AZ.reads hm.vb.Sw;have HG2:=zh (hm.fin hl hz hf);have Ky:=zh (Gx hm.bq (.int .i64 x.kind) (.bool bo) (.int .i64 it) (.string st) (.int .i64 di) (.slice A1 K.length c1) (.slice A2 I.length c2) (.slice A3 R.length c3))
 obtain ⟨⟨x0,x1,x2,x3,x4,x5,x6,x7⟩,y0,y1,y2,y3,y4,y5,y6,y7⟩:=zK hm.bq;obtain ⟨⟨v0,v1,v2,v3,v4,v5,v6,v7⟩,_⟩:=hm.vb.cells;clear hcut hm hl hz hf;go_wp2;clear x0 x1 x2 x3 x4 x5 x6 x7 y0 y1 y2 y3 y4 y5 y6 y7 v0 v1 v2 v3 v4 v5 v6 v7;unfold q8 Go.Proofs.YthkkllmmbefedaaGreatDoor.q5 at HG2 Ky
 generalize World.setCell _ _ _=W9 at *;obtain ⟨⟨x0,x1,x2,x3,x4,x5,x6,x7⟩,_⟩:=zK Ky
 exact bodyPost_ret (v := .agg #[.int .i64 x.kind,.bool bo,.int .i64 it,.string st,.int .i64 di,.slice A1 K.length c1,.slice A2 I.length c2,.slice A3 R.length c3]) (by simp[results,results74,go_sem,x0,x1,x2,x3,x4,x5,x6,x7]) rfl HG2
