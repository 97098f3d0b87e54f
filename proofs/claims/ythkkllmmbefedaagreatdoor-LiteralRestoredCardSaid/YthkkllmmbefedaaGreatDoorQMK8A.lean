/-
  The maker's value: kinds 1, 2, 3, 4, 7, 9.
-/
import Derived.Test.YthkkllmmbefedaaGreatDoorQGN1
namespace Go.Proofs.YthkkllmmbefedaaGreatDoor
open Go.RowKit
set_option maxHeartbeats 16000000
set_option maxRecDepth 100000
theorem ZQ {C:U1} (ho:MO C.s) {n:Nat} (ih:K9 C n) (t:Int) (W:World) (l:List Int) (hn:l.length * 7+LF C.s t<n+1) (hr:0<=t/\t<(C.s.length:Int)) (h:H9 C W l) (WY:(AO C.s t).kind=1\/(AO C.s t).kind=2\/(AO C.s t).kind=3\/(AO C.s t).kind=4\/(AO C.s t).kind=7\/(AO C.s t).kind=9):Calls Tryz.prog 74 #[.pointer (some ⟨C.b,0,none⟩),.int .i64 t] W (vH C t W l):=by
 obtain ⟨tn,rfl⟩:=AAY hr.1;have htn:tn<C.s.length:=by omega
 obtain ⟨bq,oq,As,cs,Am,cm,hA,htr,t0,t1,t2,t3,t4,t5,t6,t7,t8,t9⟩:=h.ty.JX htn;have Ed:Hid (AO C.s (tn:Int)=C.s[tn]):=zT htn;have aV:Hid (1<=(C.s[tn]).kind/\(C.s[tn]).kind<=9):=by have:=FI ho.v hr;rw[zT htn] at this;exact this
 have jU:Hid ((C.s[tn]).kind=1\/(C.s[tn]).kind=2\/(C.s[tn]).kind=3\/(C.s[tn]).kind=4\/(C.s[tn]).kind=7\/(C.s[tn]).kind=9):=by rw[zT htn] at WY;exact WY
 clear WY;have kC:Hid (Eb (C.s[tn]).kind->0<=(C.s[tn]).elem/\(C.s[tn]).elem<(C.s.length:Int)):=by have:=JV ho.v hr;rw[zT htn] at this;exact this
 have jg:Hid ((C.s[tn]).kind=8->0<=(C.s[tn]).key/\(C.s[tn]).key<(C.s.length:Int)):=fun hk=>by have:=(Lr ho.v hr (by rw[zT htn];exact hk)).1;rw[zT htn] at this;exact this
 have hls:=ho.len;have HN:Hid (l.length * 7+LF C.s (tn:Int)<=n):=by show _<=_;omega
 have HR:=zh hr;have HO:=zh ho;have EI:=zh ih;have Hz:=zh htr;generalize C.s[tn]=x at *;have MQ:=zh (Cw.new cs cm h htr rfl rfl rfl);have HU:Hid (Below C.w0.heap.size C.w0 (W.alloc zO)):=h.up.trans ((zD W zO).mono h.up.size);obtain ⟨B,d,_,hbx⟩:=h.ex
 have c0:(W.alloc zO).cell? ⟨C.b,0,none⟩=some (.slice (some ⟨bq,oq,none⟩) C.s.length C.c):=by rw[AAN _ _ _ _ _ _ (Aw hbx (zD _ _)),<-hA];rfl
 replace t0:=zA HU t0;replace t1:=zA HU t1;replace t2:=zA HU t2;replace t3:=zA HU t3;replace t4:=zA HU t4;replace t5:=zA HU t5;replace t6:=zA HU t6;replace t7:=zA HU t7;replace t8:=zA HU t8;replace t9:=zA HU t9;have i0:(0:Int)<=(tn:Int):=by omega
 have i1:(tn:Int)<(C.s.length:Int):=by omega
 have hz1:(W.alloc zO).heap.size=W.heap.size+1:=by simp
 clear h ih hn htr hr ho hA hbx hls
 go_enter Tryz.func74,Tryz.ntmps74
 go_upto_region 1 with fail
 unfold zO at MQ HU c0 t0 t1 t2 t3 t4 t5 t6 t7 t8 t9 hz1;generalize tq:W.alloc (.cells #[.int .i64 0,.bool false,.int .i64 0,.string ⟨#[]⟩,.int .i64 0,.slice none 0 0,.slice none 0 0,.slice none 0 0] 28)=Wa at *;clear tq;go_upto_region 3 with fail
 clear t0 t1 t2 t3 t4 t5 t6 t7 t8 t9 c0 i0 i1 hz1;unfold IU at MQ;generalize World.alloc (World.alloc Wa _) _=Wc at *;obtain ⟨q,hq⟩:∃q,W.heap.size=q:=⟨_,rfl⟩;obtain ⟨px,hpx⟩:∃px,q+1=px:=⟨_,rfl⟩;obtain ⟨p,hp⟩:∃p,px+1=p:=⟨_,rfl⟩;rw[hq,hpx,hp] at MQ;rw[hq,hpx,hp];have Di:Hid (Cw C W q px p x As cs Am cm Wc l false 0 ⟨#[]⟩ 0 AP AP AP [] [] []):=MQ.out;clear MQ hq hpx hp HU
 obtain ⟨b0,b1,b2,b3,b4,b5,b6,b7,b8,b9⟩:=zG Di.out.cells
 go_upto_block 0 with fail
 clear b0 b1 b2 b3 b4 b5 b6 b7 b8 b9
 go_cut [] (fun wx=>Hid (MvE C W q px p x As cs Am cm (tn:Int) l wx))
 case first =>
  obtain ⟨b0,b1,b2,b3,b4,b5,b6,b7,b8,b9⟩:=zG Di.out.cells;have hkk:=jU.out;clear jU
  rcases hkk with hk|hk|hk|hk|hk|hk
  ·have HK:=zh hk
   have q1:(x.kind==1)=true:=by simp[hk]
   clear hk;go_wp2_with fail;refine (BN 2 (by omega) Di.out.ms).mono ?_
   rintro e w2 ⟨c,l2,rfl,hc,h2,hb2,hl2,_⟩;have Fh:=zh (Di.out.BJ hb2 h2);have HL2:=zh hl2;clear h2 hb2 hl2 hc b0 b1 b2 b3 b4 b5 b6 b7 b8 b9;obtain ⟨⟨_,v1,_⟩,vf⟩:=Fh.out.vb.cells;have f1:=vf 1;clear vf;have HF:Hid (∀b:Bool,BM C.s (tn:Int) (.mk x.kind b 0 ⟨#[]⟩ 0 [] [] [])=true):=fun b=>by rw[HK.out];exact Xy HR.out.1 HR.out.2 (by rw[Ed.out];exact HK.out)
   go_wp2
   go_meet
   exact ⟨_,_,_,_,_,_,_,[],[],[],l2,Fh.out.Mf (j:=1) rfl Fh.out.vb.str,HL2.out,⟨by simp,by simp,by simp⟩,HF.out _⟩
  ·have HK:=zh hk
   have q1:(x.kind==1)=false:=by simp[hk]
   have q2:(x.kind==2)=true:=by simp[hk]
   clear hk;have zi:=zh (HO.out.int (tn:Int) (by rw[Ed.out];exact HK.out))
   rw[Ed.out] at zi;have E8:Hid (∀w',Ah C.b Wc w'->(w'.cell? ⟨px,2,none⟩=some (.int .i64 x.low)/\w'.cell? ⟨px,3,none⟩=some (.int .i64 x.high))/\Hid (Ah C.b Wc w')):=fun w' hb=>by
    obtain ⟨_,_,b2,b3,_⟩:=zG (Ni Di.out.bx hb (by have:=Di.out.bp;omega))
    exact ⟨⟨b2,b3⟩,hb⟩
   obtain ⟨D0,hD0⟩:∃D0,x.high - x.low=D0:=⟨_,rfl⟩;have hE1:IntKind.i64.wrap (x.high - x.low)=D0:=by rw[hD0];exact IntWalk.i64_in _ (by have:=zi.out;omega)
   have hE2:IntKind.i64.wrap (D0+1)=D0+1:=IntWalk.i64_in _ (by have:=zi.out;omega)
   have hE3:¬ D0+1=0:=by have:=zi.out;omega
   have HD0:=zh hD0;clear hD0;have GX:=zh Di.out.ms.lt;clear b0 b1 b2 b3 b4 b5 b6 b7 b8 b9;go_upto_region 9 with fail
   refine yE (S:=(fun w'=>(w'.cell? ⟨px,2,none⟩=some (.int .i64 x.low)/\w'.cell? ⟨px,3,none⟩=some (.int .i64 x.high))/\Hid (Ah C.b Wc w'))) 13 (by kernel_rfl) ?_ (fun AQ=>?_)
   ·(try dsimp only);exact E8.out _ (Ah.of (zC (Pe _ _) 1) (AAV GX))
   refine tC 0 ?_;try simp only[ps]
   refine tB 1 ?_;try simp only[ps]
   refine tC 2 ?_;try simp only[ps]
   refine tC 4 ?_;try simp only[ps]
   refine tB 5 ?_;try simp only[ps]
   refine tC 6 ?_;try simp only[ps]
   refine tB 7 ?_;try simp only[ps]
   refine tC 8 ?_;try simp only[ps]
   refine tC 9 ?_;try simp only[ps]
   refine tS 3 (fun K hK=>?_)
   go_simp
   (have VT:=zh AQ.2.out;have Pq:=zh (Di.out.below (zC (Pe _ _) 1));refine (BN 256 (by omega) Pq.out.ms).mono ?_;rintro e w2 ⟨c,l2,rfl,hc,h2,hb2,hl2,_⟩;have Fh:=zh (Pq.out.BJ hb2 h2);have HB2:=zh (VT.out.trans hb2);have HL2:=zh hl2;have Ip:=zh hc;clear h2 hb2 hl2 hc)
   refine hK.out _ _ ?_ (fun AQ=>?_)
   ·(try dsimp only);exact E8.out _ HB2
   clear hK K;try simp only[ps]
   refine tC 10 ?_;try simp only[ps]
   refine tC 11 ?_;try simp only[ps]
   refine tC 12 ?_;try simp only[ps]
   refine zV (rs:=[13]) (by kernel_rfl) (by simp) ?_
   refine AB.last rfl (by kernel_rfl) (fun K hK=>?_) AB.nil
   (obtain ⟨⟨_,_,v2,_⟩,vf⟩:=Fh.out.vb.cells;have f2:=vf 2;clear vf;go_simp)
   refine hK.out _ _ ?_;clear hK K
   (try clear AQ)
   try simp only[ps]
   refine wpAny_done (by kernel_rfl) ?_ _
   have HV:=zh (rG zi Ip HD0);generalize IntKind.i64.wrap (x.low+c.tmod (D0+1))=V at *;have HF:Hid (BM C.s (tn:Int) (.mk x.kind false V ⟨#[]⟩ 0 [] [] [])=true):=by
    show _=_
    rw[HK.out];exact fV HR.out.1 HR.out.2 (by rw[Ed.out];exact HK.out) (by rw[Ed.out];exact HV.out)
   clear hE1 hE2 hE3;go_wp2;go_meet;exact ⟨_,_,_,_,_,_,_,[],[],[],l2,Fh.out.Mf (j:=2) rfl Fh.out.vb.str,HL2.out,⟨by simp,by simp,by simp⟩,HF.out⟩
  ·have HK:=zh hk
   have q1:(x.kind==1)=false:=by simp[hk]
   have q2:(x.kind==2)=false:=by simp[hk]
   have q3:(x.kind==3)=true:=by simp[hk]
   clear hk;have Sw:=zh (HO.out.max (tn:Int));rw[Ed.out] at Sw;go_wp2_with fail;refine (WJ Di.out.ms ⟨Sw.out.1,by have:=Sw.out.2;omega⟩).mono ?_
   rintro e w2 ⟨S,l2,rfl,hs,h2,hb2,hl2⟩;have Fh:=zh (Di.out.BJ hb2 h2);have HL2:=zh hl2;have YX:=zh hs;clear h2 hb2 hl2 hs b0 b1 b2 b3 b4 b5 b6 b7 b8 b9;obtain ⟨⟨_,_,_,v3,_⟩,vf⟩:=Fh.out.vb.cells;have f3:=vf 3;clear vf;have HF:Hid (BM C.s (tn:Int) (.mk x.kind false 0 S 0 [] [] [])=true):=by
    show _=_
    rw[HK.out];exact fT HR.out.1 HR.out.2 (by rw[Ed.out];exact HK.out) (by rw[Ed.out];exact YX.out.1) YX.out.2
   go_wp2
   go_meet
   exact ⟨_,_,_,_,_,_,_,[],[],[],l2,Fh.out.Mf (j:=3) rfl (by have:=YX.out.2;unfold Dk;omega),HL2.out,⟨by simp,by simp,by simp⟩,HF.out⟩
  ·have HK:=zh hk
   have q1:(x.kind==1)=false:=by simp[hk]
   have q2:(x.kind==2)=false:=by simp[hk]
   have q3:(x.kind==3)=false:=by simp[hk]
   have q4:(x.kind==4)=true:=by simp[hk]
   clear hk;have MV:=zh (HO.out.sym (tn:Int) (by rw[Ed.out];exact HK.out))
   have vM:=zh (HO.out.syl (tn:Int));have Ye:=zh (HO.out.ids (tn:Int));rw[Ed.out] at MV vM Ye;have vQ:Hid (0<x.AV.length):=List.length_pos_iff.2 MV;have E8:Hid (∀w',Ah C.b Wc w'->(w'.cell? ⟨px,5,none⟩=some (.slice As x.AV.length cs))/\Hid (Ah C.b Wc w')):=fun w' hb=>by
    obtain ⟨_,_,_,_,_,b5,_⟩:=zG (Ni Di.out.bx hb (by have:=Di.out.bp;omega))
    exact ⟨b5,hb⟩
   have GX:=zh Di.out.ms.lt;clear b0 b1 b2 b3 b4 b5 b6 b7 b8 b9;go_upto_region 13 with fail
   refine yE (S:=(fun w'=>(w'.cell? ⟨px,5,none⟩=some (.slice As x.AV.length cs))/\Hid (Ah C.b Wc w'))) 11 (by kernel_rfl) ?_ (fun AQ=>?_)
   ·(try dsimp only);exact E8.out _ (Ah.of (zC (Pe _ _) 1) (AAV GX))
   refine tC 0 ?_;try simp only[ps]
   refine tB 1 ?_;try simp only[ps]
   refine tC 2 ?_;try simp only[ps]
   refine tC 3 ?_;try simp only[ps]
   refine tB 4 ?_;try simp only[ps]
   refine tC 5 ?_;try simp only[ps]
   refine tS 6 (fun K hK=>?_)
   go_simp
   (have VT:=zh AQ.2.out;have Pq:=zh (Di.out.below (zC (Pe _ _) 1));refine (BN (x.AV.length:Int) (by have:=vQ.out;have:=vM.out;omega) Pq.out.ms).mono ?_;rintro e w2 ⟨c,l2,rfl,hc,h2,hb2,hl2,_⟩;have Fh:=zh (Pq.out.BJ hb2 h2);have HB2:=zh (VT.out.trans hb2);have HL2:=zh hl2;obtain ⟨cn,rfl⟩:=AAY hc.1;have hcn:cn<x.AV.length:=(by omega);obtain ⟨mb,mo,hAs,_,d0,d1⟩:=((Hz.out.AV).below Fh.out.ms.up).at2 hcn;subst hAs;have HCN:=zh hcn;have i0:(0:Int)<=(cn:Int):=(by omega);have i1:(cn:Int)<(x.AV.length:Int):=(by omega);clear h2 hb2 hl2 hc)
   refine hK.out _ _ ?_ (fun AQ=>?_)
   ·(try dsimp only);exact E8.out _ HB2
   clear hK K;try simp only[ps]
   refine tC 7 ?_;try simp only[ps]
   refine tC 8 ?_;try simp only[ps]
   refine tS 9 (fun K hK=>?_)
   go_simp
   refine hK.out _ _ ?_ (fun AQ=>?_)
   ·(try dsimp only);exact AQ
   clear hK K;try simp only[ps]
   refine tC 10 ?_;try simp only[ps]
   refine zV (rs:=[11]) (by kernel_rfl) (by simp) ?_
   refine AB.last rfl (by kernel_rfl) (fun K hK=>?_) AB.nil
   (obtain ⟨⟨_,_,_,_,v4,_⟩,vf⟩:=Fh.out.vb.cells;have f4:=vf 4;clear vf;go_simp)
   refine hK.out _ _ ?_;clear hK K
   (try clear AQ)
   try simp only[ps]
   refine wpAny_done (by kernel_rfl) ?_ _
   have HF:Hid (∀i:Int,(∃y∈x.AV,y.id=i)\/(x.open_=true/\1<=i/\i<=14)->BM C.s (tn:Int) (.mk x.kind false 0 ⟨#[]⟩ i [] [] [])=true):=fun i hi=>by
    rw[HK.out];exact Xx HR.out.1 HR.out.2 (by rw[Ed.out];exact HK.out) (by rw[Ed.out];exact hi)
   have QF:=zh (Fh.out.Mf (j:=4) (u := .int .i64 (x.AV[cn]).id) (iW:=false) (it':=0) (st':=⟨#[]⟩) rfl Fh.out.vb.str);have HIN:Hid (x.AV[cn]∈x.AV):=AAU hcn;generalize x.AV[cn]=sy at *;generalize w2.setCell ⟨p,4,none⟩ (.int .i64 sy.id)=W3 at *;clear d0 d1 i0 i1 hcn;obtain ⟨b0,b1,b2,b3,b4,b5,b6,b7,b8,b9⟩:=zG QF.out.cells
   cases hop:x.open_ with
   | false =>
    rw[hop] at b9;clear hop;go_wp2;go_meet;exact ⟨_,_,_,_,_,_,_,[],[],[],l2,QF.out,HL2.out,⟨by simp,by simp,by simp⟩,HF.out _ (.inl ⟨_,HIN.out,rfl⟩)⟩
   | true =>
    have HOP:=zh hop;rw[hop] at b9;clear hop;go_wp2_with fail;refine (Mx QF.out.ms).mono ?_;rintro e w4 ⟨o,l4,rfl,h4,hb4,hl4⟩;have Fb:=zh (QF.out.BJ hb4 h4);have Sj:Hid (l4.length<=l.length):=Nat.le_trans hl4 HL2;clear h4 hb4 hl4 b0 b1 b2 b3 b4 b5 b6 b7 b8 b9
    cases o with
    | false =>
     go_wp2
     go_meet
     exact ⟨_,_,_,_,_,_,_,[],[],[],l4,Fb.out,Sj.out,⟨by simp,by simp,by simp⟩,HF.out _ (.inl ⟨_,HIN.out,rfl⟩)⟩
    | true =>
     obtain ⟨b0,b1,b2,b3,b4,b5,b6,b7,b8,b9⟩:=zG Fb.out.cells;go_wp2_with fail;refine (Gq Fb.out.ms x _ cs Am cm Hz Ye).mono ?_;rintro e w5 ⟨un,l5,rfl,hu,_,h5,hb5,hl5⟩;have MP:=zh (Fb.out.BJ hb5 h5);have bD:Hid (l5.length<=l.length):=Nat.le_trans hl5 Sj;have yO:=zh hu;clear h5 hb5 hl5 hu b0 b1 b2 b3 b4 b5 b6 b7 b8 b9;obtain ⟨⟨_,_,_,_,v4,_⟩,vf⟩:=MP.out.vb.cells
     have f4:=vf 4;clear vf;go_wp2;go_meet;exact ⟨_,_,_,_,_,_,_,[],[],[],l5,MP.out.Mf (j:=4) rfl MP.out.vb.str,bD.out,⟨by simp,by simp,by simp⟩,HF.out _ (.inr ⟨HOP.out,yO.out⟩)⟩
  ·have HK:=zh hk
   have q1:(x.kind==1)=false:=by simp[hk]
   have q2:(x.kind==2)=false:=by simp[hk]
   have q3:(x.kind==3)=false:=by simp[hk]
   have q4:(x.kind==4)=false:=by simp[hk]
   have q5:(x.kind==5)=false:=by simp[hk]
   have q6:(x.kind==6)=false:=by simp[hk]
   have q7:(x.kind==7)=true:=by simp[hk]
   clear hk;have oQ:Hid (LF C.s (tn:Int)=0):=by show _=_;unfold LF;rw[Ed.out,HK.out];rfl
   have KX:=zh (kC.out (.inl HK.out));have Sw:=zh (HO.out.max (tn:Int));rw[Ed.out] at Sw;have hmx:=Sw.out;go_wp2_with fail;refine (BN (min x.max 3+1) (by omega) Di.out.ms).mono ?_
   rintro e w2 ⟨c,l2,rfl,hc,h2,hb2,hl2,hd2⟩;have Fh:=zh (Di.out.BJ hb2 h2);have HL2:Hid (l2.length<=l.length/\(0<c.toNat->l2.length<l.length)):=⟨hl2,fun h=>hd2 (by omega)⟩
   have bF:Hid ((c.toNat:Int)<=x.max/\c.toNat<=3):=by show _/\_;omega
   obtain ⟨N,rfl⟩:=AAY hc.1;rw[Int.toNat_natCast] at HL2 bF;clear h2 hb2 hl2 hd2 hc hmx b0 b1 b2 b3 b4 b5 b6 b7 b8 b9;go_wp2_with fail
   go_loopw [9] (fun i wr=>∃ (k:Nat) (vi:Value) (I:List Aj) (l3:List Int),I.length+k=N/\i = .int .i64 (k:Int)/\Hid (Cw C W q px p x As cs Am cm wr l3 false 0 ⟨#[]⟩ 0 AP vi AP [] I []/\l3.length<=l2.length/\∀y∈I,BM C.s x.elem y.v=true)) (fun i _=>(intOf i).toNat)
   case atStart=>exact ⟨N,AP,[],l2,by simp,rfl,Fh.out,AAP _,fun _ h=>by cases h⟩
   case round =>
    obtain ⟨k,vi,I,l3,hI,rfl,hh⟩:=hrel;obtain ⟨wo,rfl⟩:∃wo:World,wo=wr:=⟨_,rfl⟩;have HM:=zh hh.out.1;have HL:=zh hh.out.2.1;have Yh:=zh hh.out.2.2;have XE:=zh hI;clear hh Fh Di
    cases k with
    | zero =>
     have HF:Hid (BM C.s (tn:Int) (.mk x.kind false 0 ⟨#[]⟩ 0 [] (I.map (·.v)) [])=true):=by
      show _=_
      rw[HK.out];exact Ry HR.out.1 HR.out.2 (by rw[Ed.out];exact HK.out) (by rw[Ed.out,AAd];have:=XE.out;have:=bF.out;omega) (fun z hz=>by obtain ⟨y,hy,rfl⟩:=List.mem_map.1 hz;rw[Ed.out];exact Yh.out y hy)
     clear hI;go_wp2;go_meet;exact ⟨_,_,_,_,_,_,_,[],I,[],l3,HM.out,Nat.le_trans HL HL2.out.1,⟨by simp,by have:=XE.out;have:=bF.out;omega,by simp⟩,HF.out⟩
    | succ k =>
     have h1:((k+1:Nat):Int) > 0:=by omega
     have h2:((k+1:Nat):Int) - 1=(k:Int):=by omega
     have hkb:k<=10:=by have:=bF.out;omega
     have hIl:I.length<=10:=by have:=bF.out;omega
     obtain ⟨A2,c2,rfl,_⟩:=Ab.reads HM.out.vb.oi;have E8:Hid (∀w',Ah C.b wo w'->(w'.cell? ⟨p,6,none⟩=some (.slice A2 I.length c2)/\w'.cell? ⟨px,6,none⟩=some (.slice Am x.AA.length cm)/\w'.cell? ⟨px,8,none⟩=some (.int .i64 x.elem))/\Hid (Ah C.b wo w')):=fun w' hb=>HM.out.rd6 hb
     have GX:=zh HM.out.ms.lt;have Dz:Hid (l3.length * 7+LF C.s x.elem<n):=by
      have h1:=HL2.out.2 (by omega)
      have h2:=HN.out;have h3:=dx HO.out.len KX.out.2;have h4:=HL.out;rw[oQ.out] at h2
      show _<_
      omega
     clear hI;go_upto_region 37 with fail
     refine yE (S:=(fun w'=>w'.cell? ⟨p,6,none⟩=some (.slice A2 I.length c2)/\w'.cell? ⟨px,6,none⟩=some (.slice Am x.AA.length cm)/\w'.cell? ⟨px,8,none⟩=some (.int .i64 x.elem))) 9 (by kernel_rfl) ?_ (fun AQ=>?_)
     ·(try dsimp only);exact (E8.out _ (Ah.of (zC (Pe _ _) 1) (AAV GX))).1
     refine tC 0 ?_;try simp only[ps]
     refine tB 1 ?_;try simp only[ps]
     refine tC 2 ?_;try simp only[ps]
     refine tC 3 ?_;try simp only[ps]
     refine tB 4 ?_;try simp only[ps]
     refine tS 5 (fun K hK=>?_)
     go_simp
     (have VT:=zh (Ah.of (zC (Pe wo.heap.size wo) 1) (AAV GX));have Pq:=zh (HM.out.below (zC (Pe _ _) 1));refine (EI.out x.elem _ l3 Dz KX Pq.out.ms).mono ?_;rintro e w6 ⟨y,l6,rfl,g1,g2,g3,g4,g5⟩;have Gb:=zh (Pq.out.BJ g2 g3);have Iy:=zh (Pq.out.hot g1);have BH:=zh (VT.out.trans g2);have oW:=zh g4;have NS:=zh g5;clear g1 g2 g3 g4 g5)
     refine hK.out _ _ ?_ (fun AQ=>?_)
     ·(try dsimp only);exact (E8.out _ BH).1
     clear hK K;try simp only[ps]
     refine tS 6 (fun K hK=>?_)
     go_simp
     refine hK.out _ _ ?_ (fun AQ=>?_)
     ·(try dsimp only);exact (E8.out _ (BH.out.below (zD _ (.cells y.cells.toArray 28)) GX)).1
     clear hK K;try simp only[ps]
     refine tS 7 (fun K hK=>?_)
     (have U8:=zh (Gb.out.below (zD w6 (.cells y.cells.toArray 28)));refine yH AU (by rfl) (.tmp 188) (.tmp 193) (by rfl) (p+1) (.slice A2 I.length c2) I.length (I.flatMap Aj.cells) (by rfl) U8.out.vb.oi w6.heap.size 0 1 1 y.cells (by rfl) rfl (zR w6 y.cells 28) (Bh y) (by omega) (by omega) U8.out.vb.lt ?_;intro v8 w8 BI BB Ci;obtain ⟨g,c8,rfl,_⟩:=CV BI;have LB:=zh (Gb.out.item Iy (zD w6 (.cells y.cells.toArray 28)) BI BB Ci);have Ca:=zh ((BH.out.below (zD w6 (.cells y.cells.toArray 28)) GX));obtain ⟨c6,f6⟩:=Gb.out.c6 (zD w6 (.cells y.cells.toArray 28)) BB;have uM:=zh (Gb.out.qm (zD w6 (.cells y.cells.toArray 28)) BB);clear BI BB Ci)
     refine hK.out _ _ ?_ (fun AQ=>?_)
     ·(try dsimp only);exact uM.out
     clear hK K;try simp only[ps]
     refine tC 8 ?_;try simp only[ps]
     refine zV (rs:=[9]) (by kernel_rfl) (by simp) ?_
     refine AB.last rfl (by kernel_rfl) (fun K hK=>?_) AB.nil
     go_simp
     refine hK.out _ _ ?_;clear hK K
     (try clear AQ)
     try simp only[ps]
     refine wpAny_done (by kernel_rfl) ?_ _
     have uo:Hid (∀z∈I++[y],BM C.s x.elem z.v=true):=fun z hz=>by
      rcases AAm.1 hz with h|h
      ·exact Yh.out z h
      ·obtain rfl:z=y:=(by simpa using h)
       exact NS.out
     go_wp2
     go_roundw
     case rel=>exact ⟨k,_,I++[y],l6,by rw[AAp];have:=XE.out;simp;omega,by go_num,LB.out,Nat.le_trans oW HL,uo.out⟩
     case measure=>simp[intOf]
  ·have HK:=zh hk
   have q1:(x.kind==1)=false:=by simp[hk]
   have q2:(x.kind==2)=false:=by simp[hk]
   have q3:(x.kind==3)=false:=by simp[hk]
   have q4:(x.kind==4)=false:=by simp[hk]
   have q5:(x.kind==5)=false:=by simp[hk]
   have q6:(x.kind==6)=false:=by simp[hk]
   have q7:(x.kind==7)=false:=by simp[hk]
   have q8:(x.kind==8)=false:=by simp[hk]
   clear hk;have oQ:Hid (LF C.s (tn:Int)=0):=by show _=_;unfold LF;rw[Ed.out,HK.out];rfl
   go_wp2_with fail
   refine (BN 2 (by omega) Di.out.ms).mono ?_
   rintro e w2 ⟨c,l2,rfl,hc,h2,hb2,hl2,hd2⟩;have Fh:=zh (Di.out.BJ hb2 h2);have HL2:=zh hl2;have HD2:=zh hd2;clear h2 hb2 hl2 hd2 b0 b1 b2 b3 b4 b5 b6 b7 b8 b9;obtain ⟨b0,b1,b2,b3,b4,b5,b6,b7,b8,b9⟩:=zG Fh.out.cells;have hcc:c=0\/c=1:=by omega
   clear hc
   rcases hcc with rfl|rfl
   ·have HF:Hid (BM C.s (tn:Int) (.mk x.kind false 0 ⟨#[]⟩ 0 [] [] [])=true):=by
     show _=_
     rw[HK.out];exact WH HR.out.1 HR.out.2 (by rw[Ed.out];exact HK.out) (by simp) (by simp)
    go_wp2
    go_meet
    exact ⟨_,_,_,_,_,_,_,[],[],[],l2,Fh.out,HL2.out,⟨by simp,by simp,by simp⟩,HF.out⟩
   ·have KX:=zh (kC.out (.inr (.inr HK.out)))
    have Dz:Hid (l2.length * 7+LF C.s x.elem<n):=by
     have h1:=HD2.out (by omega)
     have h2:=HN.out;have h3:=dx HO.out.len KX.out.2;rw[oQ.out] at h2
     show _<_
     omega
    go_wp2_with fail
    refine (EI.out x.elem _ l2 Dz KX Fh.out.ms).mono ?_;rintro e w3 ⟨y,l3,rfl,g1,g2,g3,g4,g5⟩;have QF:=zh (Fh.out.BJ g2 g3);have Iz:=zh (Fh.out.hot g1);have jy:Hid (l3.length<=l.length):=Nat.le_trans g4 HL2;have Fb:=zh (QF.out.one Iz);have HF:Hid (BM C.s (tn:Int) (.mk x.kind false 0 ⟨#[]⟩ 0 [] [y.v] [])=true):=by
     show _=_
     rw[HK.out];exact WH HR.out.1 HR.out.2 (by rw[Ed.out];exact HK.out) (by simp) (fun z hz=>by rw[Ed.out];obtain rfl:z=y.v:=(by simpa using hz);exact g5)
    have yx:=zh (QF.out.below (zD w3 (.cells y.cells.toArray 28)));clear g1 g2 g3 g4 g5 b0 b1 b2 b3 b4 b5 b6 b7 b8 b9;obtain ⟨⟨_,_,_,_,_,_,v6,_⟩,vf⟩:=yx.out.vb.cells;have f6:=vf 6;clear vf;unfold Aj.cells Val.cs at Fb v6 f6;go_wp2;go_meet;exact ⟨_,_,_,_,_,_,_,[],[y],[],l3,Fb.out,jy.out,⟨by simp,by simp,by simp⟩,HF.out⟩
 case rest =>
 obtain ⟨bo,it,st,di,vk,vi,vr,K,I,R,l',hm,hl,hz,hf⟩:=hcut.out;obtain ⟨A1,c1,rfl,_⟩:=Ab.reads hm.vb.ok;obtain ⟨A2,c2,rfl,_⟩:=Ab.reads hm.vb.oi;obtain ⟨A3,c3,rfl,_⟩:=Ab.reads hm.vb.Rp;have HG2:=zh (hm.fin hl hz hf);have KW:=zh (Gr hm.bq (.int .i64 x.kind) (.bool bo) (.int .i64 it) (.string st) (.int .i64 di) (.slice A1 K.length c1) (.slice A2 I.length c2) (.slice A3 R.length c3))
 obtain ⟨⟨x0,x1,x2,x3,x4,x5,x6,x7⟩,y0,y1,y2,y3,y4,y5,y6,y7⟩:=zK hm.bq;obtain ⟨⟨v0,v1,v2,v3,v4,v5,v6,v7⟩,_⟩:=hm.vb.cells;clear hcut hm hl hz hf;go_wp2;clear x0 x1 x2 x3 x4 x5 x6 x7 y0 y1 y2 y3 y4 y5 y6 y7 v0 v1 v2 v3 v4 v5 v6 v7;unfold Go.Proofs.YthkkllmmbefedaaGreatDoor.q8 Go.Proofs.YthkkllmmbefedaaGreatDoor.q5 at HG2 KW
 generalize World.setCell _ _ _=W9 at *;obtain ⟨⟨x0,x1,x2,x3,x4,x5,x6,x7⟩,_⟩:=zK KW
 exact bodyPost_ret (v := .agg #[.int .i64 x.kind,.bool bo,.int .i64 it,.string st,.int .i64 di,.slice A1 K.length c1,.slice A2 I.length c2,.slice A3 R.length c3]) (by simp[results,Tryz.results74,go_sem,x0,x1,x2,x3,x4,x5,x6,x7]) rfl HG2
end Go.Proofs.YthkkllmmbefedaaGreatDoor



