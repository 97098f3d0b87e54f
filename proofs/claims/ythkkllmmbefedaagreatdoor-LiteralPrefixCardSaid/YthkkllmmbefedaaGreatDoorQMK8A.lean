/-
  The maker's value: kinds 1, 2, 3, 4, 7, 9.
-/
import Derived.Test.YthkkllmmbefedaaGreatDoorQGN1
namespace Go.Proofs.YthkkllmmbefedaaGreatDoor
open Go.RowKit Go.Proofs.Tryz
set_option maxHeartbeats 16000000
set_option maxRecDepth 100000
theorem bN {C:WI} (ho:Mt C.s) {n:Nat} (ih:Lf C n) (t:Int) (W:World) (l:List Int) (hn:l.length * 7+Lp C.s t<n+1) (hr:0<=t/\t<(C.s.length:Int)) (h:Ik C W l) (X7:(AO C.s t).kind=1\/(AO C.s t).kind=2\/(AO C.s t).kind=3\/(AO C.s t).kind=4\/(AO C.s t).kind=7\/(AO C.s t).kind=9):Calls prog 74 #[.pointer (some ⟨C.b,0,none⟩),.int .i64 t] W (zi C t W l):=by
 obtain ⟨tn,rfl⟩:=AAh hr.1;have htn:tn<C.s.length:=by omega
 obtain ⟨bq,oq,As,cs,Am,cm,hA,htr,t0,t1,t2,t3,t4,t5,t6,t7,t8,t9⟩:=h.ty.J3 htn;have EY:Hid (AO C.s (tn:Int)=C.s[tn]):=zT htn;have eX:Hid (1<=(C.s[tn]).kind/\(C.s[tn]).kind<=9):=by have:=Fh ho.v hr;rw[zT htn] at this;exact this
 have nI:Hid ((C.s[tn]).kind=1\/(C.s[tn]).kind=2\/(C.s[tn]).kind=3\/(C.s[tn]).kind=4\/(C.s[tn]).kind=7\/(C.s[tn]).kind=9):=by rw[zT htn] at X7;exact X7
 clear X7;have nZ:Hid (Ev (C.s[tn]).kind->0<=(C.s[tn]).elem/\(C.s[tn]).elem<(C.s.length:Int)):=by have:=Jz ho.v hr;rw[zT htn] at this;exact this
 have nR:Hid ((C.s[tn]).kind=8->0<=(C.s[tn]).key/\(C.s[tn]).key<(C.s.length:Int)):=fun hk=>by have:=(MR ho.v hr (by rw[zT htn];exact hk)).1;rw[zT htn] at this;exact this
 have hls:=ho.len;have HN:Hid (l.length * 7+Lp C.s (tn:Int)<=n):=by show _<=_;omega
 have HR:=zh hr;have HO:=zh ho;have Ed:=zh ih;have Ie:=zh htr;generalize C.s[tn]=x at *;have M0:=zh (DX.new cs cm h htr rfl rfl rfl);have HU:Hid (Below C.w0.heap.size C.w0 (W.alloc zO)):=h.up.trans ((zD W zO).mono h.up.size);obtain ⟨B,d,_,hbx⟩:=h.ex
 have c0:(W.alloc zO).cell? ⟨C.b,0,none⟩=some (.slice (some ⟨bq,oq,none⟩) C.s.length C.c):=by rw[AAC _ _ _ _ _ _ (Au hbx (zD _ _)),<-hA];rfl
 replace t0:=zA HU t0;replace t1:=zA HU t1;replace t2:=zA HU t2;replace t3:=zA HU t3;replace t4:=zA HU t4;replace t5:=zA HU t5;replace t6:=zA HU t6;replace t7:=zA HU t7;replace t8:=zA HU t8;replace t9:=zA HU t9;have i0:(0:Int)<=(tn:Int):=by omega
 have i1:(tn:Int)<(C.s.length:Int):=by omega
 have hz1:(W.alloc zO).heap.size=W.heap.size+1:=by simp
 clear h ih hn htr hr ho hA hbx hls
 go_enter func74,ntmps74
 go_upto_region 1 with fail
 unfold zO at M0 HU c0 t0 t1 t2 t3 t4 t5 t6 t7 t8 t9 hz1;generalize xQ:W.alloc (.cells #[.int .i64 0,.bool false,.int .i64 0,.string ⟨#[]⟩,.int .i64 0,.slice none 0 0,.slice none 0 0,.slice none 0 0] 28)=Wa at *;clear xQ;go_upto_region 3 with fail
 clear t0 t1 t2 t3 t4 t5 t6 t7 t8 t9 c0 i0 i1 hz1;unfold I8 at M0;generalize World.alloc (World.alloc Wa _) _=Wc at *;obtain ⟨q,hq⟩:∃q,W.heap.size=q:=⟨_,rfl⟩;obtain ⟨px,hpx⟩:∃px,q+1=px:=⟨_,rfl⟩;obtain ⟨p,hp⟩:∃p,px+1=p:=⟨_,rfl⟩;rw[hq,hpx,hp] at M0;rw[hq,hpx,hp];have D7:Hid (DX C W q px p x As cs Am cm Wc l false 0 ⟨#[]⟩ 0 AP AP AP [] [] []):=M0.O;clear M0 hq hpx hp HU
 obtain ⟨b0,b1,b2,b3,b4,b5,b6,b7,b8,b9⟩:=zG D7.O.cells
 go_upto_block 0 with fail
 clear b0 b1 b2 b3 b4 b5 b6 b7 b8 b9
 go_cut [] (fun wx=>Hid (MvE C W q px p x As cs Am cm (tn:Int) l wx))
 case first =>
  obtain ⟨b0,b1,b2,b3,b4,b5,b6,b7,b8,b9⟩:=zG D7.O.cells;have hkk:=nI.O;clear nI
  rcases hkk with hk|hk|hk|hk|hk|hk
  ·have HK:=zh hk
   have q1:(x.kind==1)=true:=by simp[hk]
   clear hk;go_wp2_with fail;refine (BQ 2 (by omega) D7.O.ms).mono ?_
   rintro e w2 ⟨c,l2,rfl,hc,h2,hb2,hl2,_⟩;have Fb:=zh (D7.O.BK hb2 h2);have HL2:=zh hl2;clear h2 hb2 hl2 hc b0 b1 b2 b3 b4 b5 b6 b7 b8 b9;obtain ⟨⟨_,v1,_⟩,vf⟩:=Fb.O.vb.cells;have f1:=vf 1;clear vf;have HF:Hid (∀b:Bool,BN C.s (tn:Int) (.mk x.kind b 0 ⟨#[]⟩ 0 [] [] [])=true):=fun b=>by rw[HK.O];exact ZK HR.O.1 HR.O.2 (by rw[EY.O];exact HK.O)
   go_wp2
   go_meet
   exact ⟨_,_,_,_,_,_,_,[],[],[],l2,Fb.O.NI (j:=1) rfl Fb.O.vb.str,HL2.O,⟨by simp,by simp,by simp⟩,HF.O _⟩
  ·have HK:=zh hk
   have q1:(x.kind==1)=false:=by simp[hk]
   have q2:(x.kind==2)=true:=by simp[hk]
   clear hk;have HIB:=zh (HO.O.int (tn:Int) (by rw[EY.O];exact HK.O))
   rw[EY.O] at HIB;have Ej:Hid (∀w',Ah C.b Wc w'->(w'.cell? ⟨px,2,none⟩=some (.int .i64 x.low)/\w'.cell? ⟨px,3,none⟩=some (.int .i64 x.high))/\Hid (Ah C.b Wc w')):=fun w' hb=>by
    obtain ⟨_,_,b2,b3,_⟩:=zG (OQ D7.O.bx hb (by have:=D7.O.bp;omega))
    exact ⟨⟨b2,b3⟩,hb⟩
   obtain ⟨D0,hD0⟩:∃D0,x.high - x.low=D0:=⟨_,rfl⟩;have hE1:IntKind.i64.wrap (x.high - x.low)=D0:=by rw[hD0];exact IntWalk.i64_in _ (by have:=HIB.O;omega)
   have hE2:IntKind.i64.wrap (D0+1)=D0+1:=IntWalk.i64_in _ (by have:=HIB.O;omega)
   have hE3:¬ D0+1=0:=by have:=HIB.O;omega
   have HD0:=zh hD0;clear hD0;have GJ:=zh D7.O.ms.lt;clear b0 b1 b2 b3 b4 b5 b6 b7 b8 b9;go_upto_region 9 with fail
   refine yE (S:=(fun w'=>(w'.cell? ⟨px,2,none⟩=some (.int .i64 x.low)/\w'.cell? ⟨px,3,none⟩=some (.int .i64 x.high))/\Hid (Ah C.b Wc w'))) 13 (by kernel_rfl) ?_ (fun AQ=>?_)
   ·(try dsimp only);exact Ej.O _ (Ah.of (zC (Pe _ _) 1) (AAM GJ))
   refine tC 0 ?_;try simp only[ps]
   refine tB 1 ?_;try simp only[ps]
   refine tC 2 ?_;try simp only[ps]
   refine tC 4 ?_;try simp only[ps]
   refine tB 5 ?_;try simp only[ps]
   refine tC 6 ?_;try simp only[ps]
   refine tB 7 ?_;try simp only[ps]
   refine tC 8 ?_;try simp only[ps]
   refine tC 9 ?_;try simp only[ps]
   refine tS 3 (fun K hK=>?_)
   go_simp
   (have Wp:=zh AQ.2.O;have Qd:=zh (D7.O.below (zC (Pe _ _) 1));refine (BQ 256 (by omega) Qd.O.ms).mono ?_;rintro e w2 ⟨c,l2,rfl,hc,h2,hb2,hl2,_⟩;have Fb:=zh (Qd.O.BK hb2 h2);have HB2:=zh (Wp.O.trans hb2);have HL2:=zh hl2;have Kn:=zh hc;clear h2 hb2 hl2 hc)
   refine hK.out _ _ ?_ (fun AQ=>?_)
   ·(try dsimp only);exact Ej.O _ HB2
   clear hK K;try simp only[ps]
   refine tC 10 ?_;try simp only[ps]
   refine tC 11 ?_;try simp only[ps]
   refine tC 12 ?_;try simp only[ps]
   refine zV (rs:=[13]) (by kernel_rfl) (by simp) ?_
   refine AB.last rfl (by kernel_rfl) (fun K hK=>?_) AB.nil
   (obtain ⟨⟨_,_,v2,_⟩,vf⟩:=Fb.O.vb.cells;have f2:=vf 2;clear vf;go_simp)
   refine hK.out _ _ ?_;clear hK K
   (try clear AQ)
   try simp only[ps]
   refine wpAny_done (by kernel_rfl) ?_ _
   have HV:=zh (vX HIB Kn HD0);generalize IntKind.i64.wrap (x.low+c.tmod (D0+1))=V at *;have HF:Hid (BN C.s (tn:Int) (.mk x.kind false V ⟨#[]⟩ 0 [] [] [])=true):=by
    show _=_
    rw[HK.O];exact jv HR.O.1 HR.O.2 (by rw[EY.O];exact HK.O) (by rw[EY.O];exact HV.O)
   clear hE1 hE2 hE3;go_wp2;go_meet;exact ⟨_,_,_,_,_,_,_,[],[],[],l2,Fb.O.NI (j:=2) rfl Fb.O.vb.str,HL2.O,⟨by simp,by simp,by simp⟩,HF.O⟩
  ·have HK:=zh hk
   have q1:(x.kind==1)=false:=by simp[hk]
   have q2:(x.kind==2)=false:=by simp[hk]
   have q3:(x.kind==3)=true:=by simp[hk]
   clear hk;have UH:=zh (HO.O.max (tn:Int));rw[EY.O] at UH;go_wp2_with fail;refine (Xq D7.O.ms ⟨UH.O.1,by have:=UH.O.2;omega⟩).mono ?_
   rintro e w2 ⟨S,l2,rfl,hs,h2,hb2,hl2⟩;have Fb:=zh (D7.O.BK hb2 h2);have HL2:=zh hl2;have Zv:=zh hs;clear h2 hb2 hl2 hs b0 b1 b2 b3 b4 b5 b6 b7 b8 b9;obtain ⟨⟨_,_,_,v3,_⟩,vf⟩:=Fb.O.vb.cells;have f3:=vf 3;clear vf;have HF:Hid (BN C.s (tn:Int) (.mk x.kind false 0 S 0 [] [] [])=true):=by
    show _=_
    rw[HK.O];exact jq HR.O.1 HR.O.2 (by rw[EY.O];exact HK.O) (by rw[EY.O];exact Zv.O.1) Zv.O.2
   go_wp2
   go_meet
   exact ⟨_,_,_,_,_,_,_,[],[],[],l2,Fb.O.NI (j:=3) rfl (by have:=Zv.O.2;unfold Cw;omega),HL2.O,⟨by simp,by simp,by simp⟩,HF.O⟩
  ·have HK:=zh hk
   have q1:(x.kind==1)=false:=by simp[hk]
   have q2:(x.kind==2)=false:=by simp[hk]
   have q3:(x.kind==3)=false:=by simp[hk]
   have q4:(x.kind==4)=true:=by simp[hk]
   clear hk;have Mv:=zh (HO.O.sym (tn:Int) (by rw[EY.O];exact HK.O))
   have zu:=zh (HO.O.syl (tn:Int));have Z4:=zh (HO.O.ids (tn:Int));rw[EY.O] at Mv zu Z4;have HPO:Hid (0<x.AX.length):=List.length_pos_iff.2 Mv;have Ej:Hid (∀w',Ah C.b Wc w'->(w'.cell? ⟨px,5,none⟩=some (.slice As x.AX.length cs))/\Hid (Ah C.b Wc w')):=fun w' hb=>by
    obtain ⟨_,_,_,_,_,b5,_⟩:=zG (OQ D7.O.bx hb (by have:=D7.O.bp;omega))
    exact ⟨b5,hb⟩
   have GJ:=zh D7.O.ms.lt;clear b0 b1 b2 b3 b4 b5 b6 b7 b8 b9;go_upto_region 13 with fail
   refine yE (S:=(fun w'=>(w'.cell? ⟨px,5,none⟩=some (.slice As x.AX.length cs))/\Hid (Ah C.b Wc w'))) 11 (by kernel_rfl) ?_ (fun AQ=>?_)
   ·(try dsimp only);exact Ej.O _ (Ah.of (zC (Pe _ _) 1) (AAM GJ))
   refine tC 0 ?_;try simp only[ps]
   refine tB 1 ?_;try simp only[ps]
   refine tC 2 ?_;try simp only[ps]
   refine tC 3 ?_;try simp only[ps]
   refine tB 4 ?_;try simp only[ps]
   refine tC 5 ?_;try simp only[ps]
   refine tS 6 (fun K hK=>?_)
   go_simp
   (have Wp:=zh AQ.2.O;have Qd:=zh (D7.O.below (zC (Pe _ _) 1));refine (BQ (x.AX.length:Int) (by have:=HPO.O;have:=zu.O;omega) Qd.O.ms).mono ?_;rintro e w2 ⟨c,l2,rfl,hc,h2,hb2,hl2,_⟩;have Fb:=zh (Qd.O.BK hb2 h2);have HB2:=zh (Wp.O.trans hb2);have HL2:=zh hl2;obtain ⟨cn,rfl⟩:=AAh hc.1;have hcn:cn<x.AX.length:=(by omega);obtain ⟨mb,mo,hAs,_,d0,d1⟩:=((Ie.O.AX).below Fb.O.ms.up).at2 hcn;subst hAs;have HCN:=zh hcn;have i0:(0:Int)<=(cn:Int):=(by omega);have i1:(cn:Int)<(x.AX.length:Int):=(by omega);clear h2 hb2 hl2 hc)
   refine hK.out _ _ ?_ (fun AQ=>?_)
   ·(try dsimp only);exact Ej.O _ HB2
   clear hK K;try simp only[ps]
   refine tC 7 ?_;try simp only[ps]
   refine tC 8 ?_;try simp only[ps]
   refine tS 9 (fun K hK=>?_)
   go_simp
   refine hK.out _ _ ?_ (fun AQ=>?_)
   ·(try dsimp only);exact AQ
   clear hK K;try simp only[ps]
   refine tC 10 ?_;try simp only[ps]
   refine zV (rs:=[11]) (by kernel_rfl) (by simp) ?_
   refine AB.last rfl (by kernel_rfl) (fun K hK=>?_) AB.nil
   (obtain ⟨⟨_,_,_,_,v4,_⟩,vf⟩:=Fb.O.vb.cells;have f4:=vf 4;clear vf;go_simp)
   refine hK.out _ _ ?_;clear hK K
   (try clear AQ)
   try simp only[ps]
   refine wpAny_done (by kernel_rfl) ?_ _
   have HF:Hid (∀i:Int,(∃y∈x.AX,y.id=i)\/(x.open_=true/\1<=i/\i<=14)->BN C.s (tn:Int) (.mk x.kind false 0 ⟨#[]⟩ i [] [] [])=true):=fun i hi=>by
    rw[HK.O];exact ZJ HR.O.1 HR.O.2 (by rw[EY.O];exact HK.O) (by rw[EY.O];exact hi)
   have Qw:=zh (Fb.O.NI (j:=4) (u := .int .i64 (x.AX[cn]).id) (l8:=false) (it':=0) (st':=⟨#[]⟩) rfl Fb.O.vb.str);have HIN:Hid (x.AX[cn]∈x.AX):=AAL hcn;generalize x.AX[cn]=sy at *;generalize w2.setCell ⟨p,4,none⟩ (.int .i64 sy.id)=W3 at *;clear d0 d1 i0 i1 hcn;obtain ⟨b0,b1,b2,b3,b4,b5,b6,b7,b8,b9⟩:=zG Qw.O.cells
   cases hop:x.open_ with
   | false =>
    rw[hop] at b9;clear hop;go_wp2;go_meet;exact ⟨_,_,_,_,_,_,_,[],[],[],l2,Qw.O,HL2.O,⟨by simp,by simp,by simp⟩,HF.O _ (.inl ⟨_,HIN.O,rfl⟩)⟩
   | true =>
    have HOP:=zh hop;rw[hop] at b9;clear hop;go_wp2_with fail;refine (Nc Qw.O.ms).mono ?_;rintro e w4 ⟨o,l4,rfl,h4,hb4,hl4⟩;have GD:=zh (Qw.O.BK hb4 h4);have Tv:Hid (l4.length<=l.length):=Nat.le_trans hl4 HL2;clear h4 hb4 hl4 b0 b1 b2 b3 b4 b5 b6 b7 b8 b9
    cases o with
    | false =>
     go_wp2
     go_meet
     exact ⟨_,_,_,_,_,_,_,[],[],[],l4,GD.O,Tv.O,⟨by simp,by simp,by simp⟩,HF.O _ (.inl ⟨_,HIN.O,rfl⟩)⟩
    | true =>
     obtain ⟨b0,b1,b2,b3,b4,b5,b6,b7,b8,b9⟩:=zG GD.O.cells;go_wp2_with fail;refine (Ht GD.O.ms x _ cs Am cm Ie Z4).mono ?_;rintro e w5 ⟨un,l5,rfl,hu,_,h5,hb5,hl5⟩;have Mx:=zh (GD.O.BK hb5 h5);have fZ:Hid (l5.length<=l.length):=Nat.le_trans hl5 Tv;have HUN:=zh hu;clear h5 hb5 hl5 hu b0 b1 b2 b3 b4 b5 b6 b7 b8 b9;obtain ⟨⟨_,_,_,_,v4,_⟩,vf⟩:=Mx.O.vb.cells
     have f4:=vf 4;clear vf;go_wp2;go_meet;exact ⟨_,_,_,_,_,_,_,[],[],[],l5,Mx.O.NI (j:=4) rfl Mx.O.vb.str,fZ.O,⟨by simp,by simp,by simp⟩,HF.O _ (.inr ⟨HOP.O,HUN.O⟩)⟩
  ·have HK:=zh hk
   have q1:(x.kind==1)=false:=by simp[hk]
   have q2:(x.kind==2)=false:=by simp[hk]
   have q3:(x.kind==3)=false:=by simp[hk]
   have q4:(x.kind==4)=false:=by simp[hk]
   have q5:(x.kind==5)=false:=by simp[hk]
   have q6:(x.kind==6)=false:=by simp[hk]
   have q7:(x.kind==7)=true:=by simp[hk]
   clear hk;have sF:Hid (Lp C.s (tn:Int)=0):=by show _=_;unfold Lp;rw[EY.O,HK.O];rfl
   have Kz:=zh (nZ.O (.inl HK.O));have UH:=zh (HO.O.max (tn:Int));rw[EY.O] at UH;have hmx:=UH.O;go_wp2_with fail;refine (BQ (min x.max 3+1) (by omega) D7.O.ms).mono ?_
   rintro e w2 ⟨c,l2,rfl,hc,h2,hb2,hl2,hd2⟩;have Fb:=zh (D7.O.BK hb2 h2);have HL2:Hid (l2.length<=l.length/\(0<c.toNat->l2.length<l.length)):=⟨hl2,fun h=>hd2 (by omega)⟩
   have fo:Hid ((c.toNat:Int)<=x.max/\c.toNat<=3):=by show _/\_;omega
   obtain ⟨N,rfl⟩:=AAh hc.1;rw[Int.toNat_natCast] at HL2 fo;clear h2 hb2 hl2 hd2 hc hmx b0 b1 b2 b3 b4 b5 b6 b7 b8 b9;go_wp2_with fail
   go_loopw [9] (fun i wr=>∃ (k:Nat) (vi:Value) (I:List Aj) (l3:List Int),I.length+k=N/\i = .int .i64 (k:Int)/\Hid (DX C W q px p x As cs Am cm wr l3 false 0 ⟨#[]⟩ 0 AP vi AP [] I []/\l3.length<=l2.length/\∀y∈I,BN C.s x.elem y.v=true)) (fun i _=>(intOf i).toNat)
   case atStart=>exact ⟨N,AP,[],l2,by simp,rfl,Fb.O,AAF _,fun _ h=>by cases h⟩
   case round =>
    obtain ⟨k,vi,I,l3,hI,rfl,hh⟩:=hrel;obtain ⟨wo,rfl⟩:∃wo:World,wo=wr:=⟨_,rfl⟩;have HM:=zh hh.O.1;have HL:=zh hh.O.2.1;have Wo:=zh hh.O.2.2;have YW:=zh hI;clear hh Fb D7
    cases k with
    | zero =>
     have HF:Hid (BN C.s (tn:Int) (.mk x.kind false 0 ⟨#[]⟩ 0 [] (I.map (·.v)) [])=true):=by
      show _=_
      rw[HK.O];exact TJ HR.O.1 HR.O.2 (by rw[EY.O];exact HK.O) (by rw[EY.O,AAt];have:=YW.O;have:=fo.O;omega) (fun z hz=>by obtain ⟨y,hy,rfl⟩:=List.mem_map.1 hz;rw[EY.O];exact Wo.O y hy)
     clear hI;go_wp2;go_meet;exact ⟨_,_,_,_,_,_,_,[],I,[],l3,HM.O,Nat.le_trans HL HL2.O.1,⟨by simp,by have:=YW.O;have:=fo.O;omega,by simp⟩,HF.O⟩
    | succ k =>
     have h1:((k+1:Nat):Int) > 0:=by omega
     have h2:((k+1:Nat):Int) - 1=(k:Int):=by omega
     have hkb:k<=10:=by have:=fo.O;omega
     have hIl:I.length<=10:=by have:=fo.O;omega
     obtain ⟨A2,c2,rfl,_⟩:=AZ.reads HM.O.vb.oi;have Ej:Hid (∀w',Ah C.b wo w'->(w'.cell? ⟨p,6,none⟩=some (.slice A2 I.length c2)/\w'.cell? ⟨px,6,none⟩=some (.slice Am x.AA.length cm)/\w'.cell? ⟨px,8,none⟩=some (.int .i64 x.elem))/\Hid (Ah C.b wo w')):=fun w' hb=>HM.O.rd6 hb
     have GJ:=zh HM.O.ms.lt;have EP:Hid (l3.length * 7+Lp C.s x.elem<n):=by
      have h1:=HL2.O.2 (by omega)
      have h2:=HN.O;have h3:=jE HO.O.len Kz.O.2;have h4:=HL.O;rw[sF.O] at h2
      show _<_
      omega
     clear hI;go_upto_region 37 with fail
     refine yE (S:=(fun w'=>w'.cell? ⟨p,6,none⟩=some (.slice A2 I.length c2)/\w'.cell? ⟨px,6,none⟩=some (.slice Am x.AA.length cm)/\w'.cell? ⟨px,8,none⟩=some (.int .i64 x.elem))) 9 (by kernel_rfl) ?_ (fun AQ=>?_)
     ·(try dsimp only);exact (Ej.O _ (Ah.of (zC (Pe _ _) 1) (AAM GJ))).1
     refine tC 0 ?_;try simp only[ps]
     refine tB 1 ?_;try simp only[ps]
     refine tC 2 ?_;try simp only[ps]
     refine tC 3 ?_;try simp only[ps]
     refine tB 4 ?_;try simp only[ps]
     refine tS 5 (fun K hK=>?_)
     go_simp
     (have Wp:=zh (Ah.of (zC (Pe wo.heap.size wo) 1) (AAM GJ));have Qd:=zh (HM.O.below (zC (Pe _ _) 1));refine (Ed.O x.elem _ l3 EP Kz Qd.O.ms).mono ?_;rintro e w6 ⟨y,l6,rfl,g1,g2,g3,g4,g5⟩;have Gz:=zh (Qd.O.BK g2 g3);have JQ:=zh (Qd.O.hot g1);have BH:=zh (Wp.O.trans g2);have sH:=zh g4;have OD:=zh g5;clear g1 g2 g3 g4 g5)
     refine hK.out _ _ ?_ (fun AQ=>?_)
     ·(try dsimp only);exact (Ej.O _ BH).1
     clear hK K;try simp only[ps]
     refine tS 6 (fun K hK=>?_)
     go_simp
     refine hK.out _ _ ?_ (fun AQ=>?_)
     ·(try dsimp only);exact (Ej.O _ (BH.O.below (zD _ (.cells y.cells.toArray 28)) GJ)).1
     clear hK K;try simp only[ps]
     refine tS 7 (fun K hK=>?_)
     (have WU:=zh (Gz.O.below (zD w6 (.cells y.cells.toArray 28)));refine yH AV (by rfl) (.tmp 188) (.tmp 193) (by rfl) (p+1) (.slice A2 I.length c2) I.length (I.flatMap Aj.cells) (by rfl) WU.O.vb.oi w6.heap.size 0 1 1 y.cells (by rfl) rfl (zR w6 y.cells 28) (Bn y) (by omega) (by omega) WU.O.vb.lt ?_;intro v8 w8 BB Aw Cv;obtain ⟨g,c8,rfl,_⟩:=Ce BB;have Lj:=zh (Gz.O.item JQ (zD w6 (.cells y.cells.toArray 28)) BB Aw Cv);have Bv:=zh ((BH.O.below (zD w6 (.cells y.cells.toArray 28)) GJ));obtain ⟨c6,f6⟩:=Gz.O.c6 (zD w6 (.cells y.cells.toArray 28)) Aw;have xY:=zh (Gz.O.vK (zD w6 (.cells y.cells.toArray 28)) Aw);clear BB Aw Cv)
     refine hK.out _ _ ?_ (fun AQ=>?_)
     ·(try dsimp only);exact xY.O
     clear hK K;try simp only[ps]
     refine tC 8 ?_;try simp only[ps]
     refine zV (rs:=[9]) (by kernel_rfl) (by simp) ?_
     refine AB.last rfl (by kernel_rfl) (fun K hK=>?_) AB.nil
     go_simp
     refine hK.out _ _ ?_;clear hK K
     (try clear AQ)
     try simp only[ps]
     refine wpAny_done (by kernel_rfl) ?_ _
     have yX:Hid (∀z∈I++[y],BN C.s x.elem z.v=true):=fun z hz=>by
      rcases ABY.1 hz with h|h
      ·exact Wo.O z h
      ·obtain rfl:z=y:=(by simpa using h)
       exact OD.O
     go_wp2
     go_roundw
     case rel=>exact ⟨k,_,I++[y],l6,by rw[ABF];have:=YW.O;simp;omega,by go_num,Lj.O,Nat.le_trans sH HL,yX.O⟩
     case measure=>simp[intOf]
  ·have HK:=zh hk
   have q1:(x.kind==1)=false:=by simp[hk]
   have q2:(x.kind==2)=false:=by simp[hk]
   have q3:(x.kind==3)=false:=by simp[hk]
   have q4:(x.kind==4)=false:=by simp[hk]
   have q5:(x.kind==5)=false:=by simp[hk]
   have q6:(x.kind==6)=false:=by simp[hk]
   have q7:(x.kind==7)=false:=by simp[hk]
   have q8:(x.kind==8)=false:=by simp[hk]
   clear hk;have sF:Hid (Lp C.s (tn:Int)=0):=by show _=_;unfold Lp;rw[EY.O,HK.O];rfl
   go_wp2_with fail
   refine (BQ 2 (by omega) D7.O.ms).mono ?_
   rintro e w2 ⟨c,l2,rfl,hc,h2,hb2,hl2,hd2⟩;have Fb:=zh (D7.O.BK hb2 h2);have HL2:=zh hl2;have HD2:=zh hd2;clear h2 hb2 hl2 hd2 b0 b1 b2 b3 b4 b5 b6 b7 b8 b9;obtain ⟨b0,b1,b2,b3,b4,b5,b6,b7,b8,b9⟩:=zG Fb.O.cells;have hcc:c=0\/c=1:=by omega
   clear hc
   rcases hcc with rfl|rfl
   ·have HF:Hid (BN C.s (tn:Int) (.mk x.kind false 0 ⟨#[]⟩ 0 [] [] [])=true):=by
     show _=_
     rw[HK.O];exact Xo HR.O.1 HR.O.2 (by rw[EY.O];exact HK.O) (by simp) (by simp)
    go_wp2
    go_meet
    exact ⟨_,_,_,_,_,_,_,[],[],[],l2,Fb.O,HL2.O,⟨by simp,by simp,by simp⟩,HF.O⟩
   ·have Kz:=zh (nZ.O (.inr (.inr HK.O)))
    have EP:Hid (l2.length * 7+Lp C.s x.elem<n):=by
     have h1:=HD2.O (by omega)
     have h2:=HN.O;have h3:=jE HO.O.len Kz.O.2;rw[sF.O] at h2
     show _<_
     omega
    go_wp2_with fail
    refine (Ed.O x.elem _ l2 EP Kz Fb.O.ms).mono ?_;rintro e w3 ⟨y,l3,rfl,g1,g2,g3,g4,g5⟩;have Qw:=zh (Fb.O.BK g2 g3);have JR:=zh (Fb.O.hot g1);have nY:Hid (l3.length<=l.length):=Nat.le_trans g4 HL2;have GD:=zh (Qw.O.one JR);have HF:Hid (BN C.s (tn:Int) (.mk x.kind false 0 ⟨#[]⟩ 0 [] [y.v] [])=true):=by
     show _=_
     rw[HK.O];exact Xo HR.O.1 HR.O.2 (by rw[EY.O];exact HK.O) (by simp) (fun z hz=>by rw[EY.O];obtain rfl:z=y.v:=(by simpa using hz);exact g5)
    have ABt:=zh (Qw.O.below (zD w3 (.cells y.cells.toArray 28)));clear g1 g2 g3 g4 g5 b0 b1 b2 b3 b4 b5 b6 b7 b8 b9;obtain ⟨⟨_,_,_,_,_,_,v6,_⟩,vf⟩:=ABt.O.vb.cells;have f6:=vf 6;clear vf;unfold Aj.cells Val.cs at GD v6 f6;go_wp2;go_meet;exact ⟨_,_,_,_,_,_,_,[],[y],[],l3,GD.O,nY.O,⟨by simp,by simp,by simp⟩,HF.O⟩
 case rest =>
 obtain ⟨bo,it,st,di,vk,vi,vr,K,I,R,l',hm,hl,hz,hf⟩:=hcut.O;obtain ⟨A1,c1,rfl,_⟩:=AZ.reads hm.vb.ok;obtain ⟨A2,c2,rfl,_⟩:=AZ.reads hm.vb.oi;obtain ⟨A3,c3,rfl,_⟩:=AZ.reads hm.vb.Sw;have HG2:=zh (hm.fin hl hz hf);have Ky:=zh (Gx hm.bq (.int .i64 x.kind) (.bool bo) (.int .i64 it) (.string st) (.int .i64 di) (.slice A1 K.length c1) (.slice A2 I.length c2) (.slice A3 R.length c3))
 obtain ⟨⟨x0,x1,x2,x3,x4,x5,x6,x7⟩,y0,y1,y2,y3,y4,y5,y6,y7⟩:=zK hm.bq;obtain ⟨⟨v0,v1,v2,v3,v4,v5,v6,v7⟩,_⟩:=hm.vb.cells;clear hcut hm hl hz hf;go_wp2;clear x0 x1 x2 x3 x4 x5 x6 x7 y0 y1 y2 y3 y4 y5 y6 y7 v0 v1 v2 v3 v4 v5 v6 v7;unfold Go.Proofs.YthkkllmmbefedaaGreatDoor.q8 Go.Proofs.YthkkllmmbefedaaGreatDoor.q5 at HG2 Ky
 generalize World.setCell _ _ _=W9 at *;obtain ⟨⟨x0,x1,x2,x3,x4,x5,x6,x7⟩,_⟩:=zK Ky
 exact bodyPost_ret (v := .agg #[.int .i64 x.kind,.bool bo,.int .i64 it,.string st,.int .i64 di,.slice A1 K.length c1,.slice A2 I.length c2,.slice A3 R.length c3]) (by simp[results,results74,go_sem,x0,x1,x2,x3,x4,x5,x6,x7]) rfl HG2
