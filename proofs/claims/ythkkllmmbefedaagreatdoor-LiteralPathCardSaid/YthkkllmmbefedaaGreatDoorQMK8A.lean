/-
  The maker's value: kinds 1, 2, 3, 4, 7, 9.
-/
import Derived.Test.YthkkllmmbefedaaGreatDoorQGN1
namespace Go.Proofs.YthkkllmmbefedaaGreatDoor
open Go.RowKit
set_option maxHeartbeats 16000000
set_option maxRecDepth 100000
theorem YO {C:UK} (ho:MI C.s) {n:Nat} (ih:KD C n) (t:Int) (W:World) (l:List Int) (hn:l.length * 7+KI C.s t<n+1) (hr:0<=t/\t<(C.s.length:Int)) (h:G5 C W l) (VT:(AB C.s t).kind=1\/(AB C.s t).kind=2\/(AB C.s t).kind=3\/(AB C.s t).kind=4\/(AB C.s t).kind=7\/(AB C.s t).kind=9):Calls Tryz.prog 74 #[.pointer (some ⟨C.b,0,none⟩),.int .i64 t] W (rX C t W l):=by
 obtain ⟨tn,rfl⟩:=AAT hr.1;have htn:tn<C.s.length:=by omega
 obtain ⟨bq,oq,As,cs,Am,cm,hA,htr,t0,t1,t2,t3,t4,t5,t6,t7,t8,t9⟩:=h.ty.FQ htn;have Ez:Hid (AB C.s (tn:Int)=C.s[tn]):=zT htn;have ZL:Hid (1<=(C.s[tn]).kind/\(C.s[tn]).kind<=9):=by have:=Dh ho.v hr;rw[zT htn] at this;exact this
 have fQ:Hid ((C.s[tn]).kind=1\/(C.s[tn]).kind=2\/(C.s[tn]).kind=3\/(C.s[tn]).kind=4\/(C.s[tn]).kind=7\/(C.s[tn]).kind=9):=by rw[zT htn] at VT;exact VT
 clear VT;have nL:Hid (Eu (C.s[tn]).kind->0<=(C.s[tn]).elem/\(C.s[tn]).elem<(C.s.length:Int)):=by have:=JC ho.v hr;rw[zT htn] at this;exact this
 have gM:Hid ((C.s[tn]).kind=8->0<=(C.s[tn]).key/\(C.s[tn]).key<(C.s.length:Int)):=fun hk=>by have:=(Kv ho.v hr (by rw[zT htn];exact hk)).1;rw[zT htn] at this;exact this
 have hls:=ho.len;have HN:Hid (l.length * 7+KI C.s (tn:Int)<=n):=by show _<=_;omega
 have HR:=zh hr;have HO:=zh ho;have E5:=zh ih;have Dv:=zh htr;generalize C.s[tn]=x at *;have LM:=zh (Cr.new cs cm h htr rfl rfl rfl);have HU:Hid (Below C.w0.heap.size C.w0 (W.alloc zO)):=h.up.trans ((zD W zO).mono h.up.size);obtain ⟨B,d,_,hbx⟩:=h.ex
 have c0:(W.alloc zO).cell? ⟨C.b,0,none⟩=some (.slice (some ⟨bq,oq,none⟩) C.s.length C.c):=by rw[AAE _ _ _ _ _ _ (BR hbx (zD _ _)),<-hA];rfl
 replace t0:=zA HU t0;replace t1:=zA HU t1;replace t2:=zA HU t2;replace t3:=zA HU t3;replace t4:=zA HU t4;replace t5:=zA HU t5;replace t6:=zA HU t6;replace t7:=zA HU t7;replace t8:=zA HU t8;replace t9:=zA HU t9;have i0:(0:Int)<=(tn:Int):=by omega
 have i1:(tn:Int)<(C.s.length:Int):=by omega
 have hz1:(W.alloc zO).heap.size=W.heap.size+1:=by simp
 clear h ih hn htr hr ho hA hbx hls
 go_enter Tryz.func74,Tryz.ntmps74
 go_upto_region 1 with fail
 unfold zO at LM HU c0 t0 t1 t2 t3 t4 t5 t6 t7 t8 t9 hz1;generalize qK:W.alloc (.cells #[.int .i64 0,.bool false,.int .i64 0,.string ⟨#[]⟩,.int .i64 0,.slice none 0 0,.slice none 0 0,.slice none 0 0] 28)=Wa at *;clear qK;go_upto_region 3 with fail
 clear t0 t1 t2 t3 t4 t5 t6 t7 t8 t9 c0 i0 i1 hz1;unfold Ht at LM;generalize World.alloc (World.alloc Wa _) _=Wc at *;obtain ⟨q,hq⟩:∃q,W.heap.size=q:=⟨_,rfl⟩;obtain ⟨px,hpx⟩:∃px,q+1=px:=⟨_,rfl⟩;obtain ⟨p,hp⟩:∃p,px+1=p:=⟨_,rfl⟩;rw[hq,hpx,hp] at LM;rw[hq,hpx,hp];have Dp:Hid (Cr C W q px p x As cs Am cm Wc l false 0 ⟨#[]⟩ 0 AR AR AR [] [] []):=LM.out;clear LM hq hpx hp HU
 obtain ⟨b0,b1,b2,b3,b4,b5,b6,b7,b8,b9⟩:=zG Dp.out.cells
 go_upto_block 0 with fail
 clear b0 b1 b2 b3 b4 b5 b6 b7 b8 b9
 go_cut [] (fun wx=>Hid (xH C W q px p x As cs Am cm (tn:Int) l wx))
 case first =>
  obtain ⟨b0,b1,b2,b3,b4,b5,b6,b7,b8,b9⟩:=zG Dp.out.cells;have hkk:=fQ.out;clear fQ
  rcases hkk with hk|hk|hk|hk|hk|hk
  ·have HK:=zh hk
   have q1:(x.kind==1)=true:=by simp[hk]
   clear hk;go_wp2_with fail;refine (Ba 2 (by omega) Dp.out.ms).mono ?_
   rintro e w2 ⟨c,l2,rfl,hc,h2,hb2,hl2,_⟩;have GU:=zh (Dp.out.Cn hb2 h2);have HL2:=zh hl2;clear h2 hb2 hl2 hc b0 b1 b2 b3 b4 b5 b6 b7 b8 b9;obtain ⟨⟨_,v1,_⟩,vf⟩:=GU.out.vb.cells;have f1:=vf 1;clear vf;have HF:Hid (∀b:Bool,BV C.s (tn:Int) (.mk x.kind b 0 ⟨#[]⟩ 0 [] [] [])=true):=fun b=>by rw[HK.out];exact Wq HR.out.1 HR.out.2 (by rw[Ez.out];exact HK.out)
   go_wp2
   go_meet
   exact ⟨_,_,_,_,_,_,_,[],[],[],l2,GU.out.Ol (j:=1) rfl GU.out.vb.str,HL2.out,⟨by simp,by simp,by simp⟩,HF.out _⟩
  ·have HK:=zh hk
   have q1:(x.kind==1)=false:=by simp[hk]
   have q2:(x.kind==2)=true:=by simp[hk]
   clear hk;have wF:=zh (HO.out.int (tn:Int) (by rw[Ez.out];exact HK.out))
   rw[Ez.out] at wF;have GH:Hid (∀w',Ay C.b Wc w'->(w'.cell? ⟨px,2,none⟩=some (.int .i64 x.low)/\w'.cell? ⟨px,3,none⟩=some (.int .i64 x.high))/\Hid (Ay C.b Wc w')):=fun w' hb=>by
    obtain ⟨_,_,b2,b3,_⟩:=zG (Ma Dp.out.bx hb (by have:=Dp.out.bp;omega))
    exact ⟨⟨b2,b3⟩,hb⟩
   obtain ⟨D0,hD0⟩:∃D0,x.high - x.low=D0:=⟨_,rfl⟩;have hE1:IntKind.i64.wrap (x.high - x.low)=D0:=by rw[hD0];exact IntWalk.i64_in _ (by have:=wF.out;omega)
   have hE2:IntKind.i64.wrap (D0+1)=D0+1:=IntWalk.i64_in _ (by have:=wF.out;omega)
   have hE3:¬ D0+1=0:=by have:=wF.out;omega
   have HD0:=zh hD0;clear hD0;have IZ:=zh Dp.out.ms.lt;clear b0 b1 b2 b3 b4 b5 b6 b7 b8 b9;go_upto_region 9 with fail
   refine yE (S:=(fun w'=>(w'.cell? ⟨px,2,none⟩=some (.int .i64 x.low)/\w'.cell? ⟨px,3,none⟩=some (.int .i64 x.high))/\Hid (Ay C.b Wc w'))) 13 (by kernel_rfl) ?_ (fun AO=>?_)
   ·(try dsimp only);exact GH.out _ (Ay.of (zC (Pe _ _) 1) (AAe IZ))
   refine tC 0 ?_;try simp only[ps]
   refine tB 1 ?_;try simp only[ps]
   refine tC 2 ?_;try simp only[ps]
   refine tC 4 ?_;try simp only[ps]
   refine tB 5 ?_;try simp only[ps]
   refine tC 6 ?_;try simp only[ps]
   refine tB 7 ?_;try simp only[ps]
   refine tC 8 ?_;try simp only[ps]
   refine tC 9 ?_;try simp only[ps]
   refine tS 3 (fun K hK=>?_)
   go_simp
   (have NY:=zh AO.2.out;have OX:=zh (Dp.out.below (zC (Pe _ _) 1));refine (Ba 256 (by omega) OX.out.ms).mono ?_;rintro e w2 ⟨c,l2,rfl,hc,h2,hb2,hl2,_⟩;have GU:=zh (OX.out.Cn hb2 h2);have HB2:=zh (NY.out.trans hb2);have HL2:=zh hl2;have D7:=zh hc;clear h2 hb2 hl2 hc)
   refine hK.out _ _ ?_ (fun AO=>?_)
   ·(try dsimp only);exact GH.out _ HB2
   clear hK K;try simp only[ps]
   refine tC 10 ?_;try simp only[ps]
   refine tC 11 ?_;try simp only[ps]
   refine tC 12 ?_;try simp only[ps]
   refine zV (rs:=[13]) (by kernel_rfl) (by simp) ?_
   refine AJ.last rfl (by kernel_rfl) (fun K hK=>?_) AJ.nil
   (obtain ⟨⟨_,_,v2,_⟩,vf⟩:=GU.out.vb.cells;have f2:=vf 2;clear vf;go_simp)
   refine hK.out _ _ ?_;clear hK K
   (try clear AO)
   try simp only[ps]
   refine wpAny_done (by kernel_rfl) ?_ _
   have HV:=zh (oV wF D7 HD0);generalize IntKind.i64.wrap (x.low+c.tmod (D0+1))=V at *;have HF:Hid (BV C.s (tn:Int) (.mk x.kind false V ⟨#[]⟩ 0 [] [] [])=true):=by
    show _=_
    rw[HK.out];exact bD HR.out.1 HR.out.2 (by rw[Ez.out];exact HK.out) (by rw[Ez.out];exact HV.out)
   clear hE1 hE2 hE3;go_wp2;go_meet;exact ⟨_,_,_,_,_,_,_,[],[],[],l2,GU.out.Ol (j:=2) rfl GU.out.vb.str,HL2.out,⟨by simp,by simp,by simp⟩,HF.out⟩
  ·have HK:=zh hk
   have q1:(x.kind==1)=false:=by simp[hk]
   have q2:(x.kind==2)=false:=by simp[hk]
   have q3:(x.kind==3)=true:=by simp[hk]
   clear hk;have Rz:=zh (HO.out.max (tn:Int));rw[Ez.out] at Rz;go_wp2_with fail;refine (VD Dp.out.ms ⟨Rz.out.1,by have:=Rz.out.2;omega⟩).mono ?_
   rintro e w2 ⟨S,l2,rfl,hs,h2,hb2,hl2⟩;have GU:=zh (Dp.out.Cn hb2 h2);have HL2:=zh hl2;have M8:=zh hs;clear h2 hb2 hl2 hs b0 b1 b2 b3 b4 b5 b6 b7 b8 b9;obtain ⟨⟨_,_,_,v3,_⟩,vf⟩:=GU.out.vb.cells;have f3:=vf 3;clear vf;have HF:Hid (BV C.s (tn:Int) (.mk x.kind false 0 S 0 [] [] [])=true):=by
    show _=_
    rw[HK.out];exact bB HR.out.1 HR.out.2 (by rw[Ez.out];exact HK.out) (by rw[Ez.out];exact M8.out.1) M8.out.2
   go_wp2
   go_meet
   exact ⟨_,_,_,_,_,_,_,[],[],[],l2,GU.out.Ol (j:=3) rfl (by have:=M8.out.2;unfold Db;omega),HL2.out,⟨by simp,by simp,by simp⟩,HF.out⟩
  ·have HK:=zh hk
   have q1:(x.kind==1)=false:=by simp[hk]
   have q2:(x.kind==2)=false:=by simp[hk]
   have q3:(x.kind==3)=false:=by simp[hk]
   have q4:(x.kind==4)=true:=by simp[hk]
   clear hk;have Oz:=zh (HO.out.sym (tn:Int) (by rw[Ez.out];exact HK.out))
   have ru:=zh (HO.out.syl (tn:Int));have KG:=zh (HO.out.ids (tn:Int));rw[Ez.out] at Oz ru KG;have XT:Hid (0<x.Aj.length):=List.length_pos_iff.2 Oz;have GH:Hid (∀w',Ay C.b Wc w'->(w'.cell? ⟨px,5,none⟩=some (.slice As x.Aj.length cs))/\Hid (Ay C.b Wc w')):=fun w' hb=>by
    obtain ⟨_,_,_,_,_,b5,_⟩:=zG (Ma Dp.out.bx hb (by have:=Dp.out.bp;omega))
    exact ⟨b5,hb⟩
   have IZ:=zh Dp.out.ms.lt;clear b0 b1 b2 b3 b4 b5 b6 b7 b8 b9;go_upto_region 13 with fail
   refine yE (S:=(fun w'=>(w'.cell? ⟨px,5,none⟩=some (.slice As x.Aj.length cs))/\Hid (Ay C.b Wc w'))) 11 (by kernel_rfl) ?_ (fun AO=>?_)
   ·(try dsimp only);exact GH.out _ (Ay.of (zC (Pe _ _) 1) (AAe IZ))
   refine tC 0 ?_;try simp only[ps]
   refine tB 1 ?_;try simp only[ps]
   refine tC 2 ?_;try simp only[ps]
   refine tC 3 ?_;try simp only[ps]
   refine tB 4 ?_;try simp only[ps]
   refine tC 5 ?_;try simp only[ps]
   refine tS 6 (fun K hK=>?_)
   go_simp
   (have NY:=zh AO.2.out;have OX:=zh (Dp.out.below (zC (Pe _ _) 1));refine (Ba (x.Aj.length:Int) (by have:=XT.out;have:=ru.out;omega) OX.out.ms).mono ?_;rintro e w2 ⟨c,l2,rfl,hc,h2,hb2,hl2,_⟩;have GU:=zh (OX.out.Cn hb2 h2);have HB2:=zh (NY.out.trans hb2);have HL2:=zh hl2;obtain ⟨cn,rfl⟩:=AAT hc.1;have hcn:cn<x.Aj.length:=(by omega);obtain ⟨mb,mo,hAs,_,d0,d1⟩:=((Dv.out.Aj).below GU.out.ms.up).at2 hcn;subst hAs;have HCN:=zh hcn;have i0:(0:Int)<=(cn:Int):=(by omega);have i1:(cn:Int)<(x.Aj.length:Int):=(by omega);clear h2 hb2 hl2 hc)
   refine hK.out _ _ ?_ (fun AO=>?_)
   ·(try dsimp only);exact GH.out _ HB2
   clear hK K;try simp only[ps]
   refine tC 7 ?_;try simp only[ps]
   refine tC 8 ?_;try simp only[ps]
   refine tS 9 (fun K hK=>?_)
   go_simp
   refine hK.out _ _ ?_ (fun AO=>?_)
   ·(try dsimp only);exact AO
   clear hK K;try simp only[ps]
   refine tC 10 ?_;try simp only[ps]
   refine zV (rs:=[11]) (by kernel_rfl) (by simp) ?_
   refine AJ.last rfl (by kernel_rfl) (fun K hK=>?_) AJ.nil
   (obtain ⟨⟨_,_,_,_,v4,_⟩,vf⟩:=GU.out.vb.cells;have f4:=vf 4;clear vf;go_simp)
   refine hK.out _ _ ?_;clear hK K
   (try clear AO)
   try simp only[ps]
   refine wpAny_done (by kernel_rfl) ?_ _
   have HF:Hid (∀i:Int,(∃y∈x.Aj,y.id=i)\/(x.open_=true/\1<=i/\i<=14)->BV C.s (tn:Int) (.mk x.kind false 0 ⟨#[]⟩ i [] [] [])=true):=fun i hi=>by
    rw[HK.out];exact Wp HR.out.1 HR.out.2 (by rw[Ez.out];exact HK.out) (by rw[Ez.out];exact hi)
   have O1:=zh (GU.out.Ol (j:=4) (u := .int .i64 (x.Aj[cn]).id) (dP:=false) (it':=0) (st':=⟨#[]⟩) rfl GU.out.vb.str);have xg:Hid (x.Aj[cn]∈x.Aj):=AAK hcn;generalize x.Aj[cn]=sy at *;generalize w2.setCell ⟨p,4,none⟩ (.int .i64 sy.id)=W3 at *;clear d0 d1 i0 i1 hcn;obtain ⟨b0,b1,b2,b3,b4,b5,b6,b7,b8,b9⟩:=zG O1.out.cells
   cases hop:x.open_ with
   | false =>
    rw[hop] at b9;clear hop;go_wp2;go_meet;exact ⟨_,_,_,_,_,_,_,[],[],[],l2,O1.out,HL2.out,⟨by simp,by simp,by simp⟩,HF.out _ (.inl ⟨_,xg.out,rfl⟩)⟩
   | true =>
    have HOP:=zh hop;rw[hop] at b9;clear hop;go_wp2_with fail;refine (Lp O1.out.ms).mono ?_;rintro e w4 ⟨o,l4,rfl,h4,hb4,hl4⟩;have FI:=zh (O1.out.Cn hb4 h4);have Rn:Hid (l4.length<=l.length):=Nat.le_trans hl4 HL2;clear h4 hb4 hl4 b0 b1 b2 b3 b4 b5 b6 b7 b8 b9
    cases o with
    | false =>
     go_wp2
     go_meet
     exact ⟨_,_,_,_,_,_,_,[],[],[],l4,FI.out,Rn.out,⟨by simp,by simp,by simp⟩,HF.out _ (.inl ⟨_,xg.out,rfl⟩)⟩
    | true =>
     obtain ⟨b0,b1,b2,b3,b4,b5,b6,b7,b8,b9⟩:=zG FI.out.cells;go_wp2_with fail;refine (GY FI.out.ms x _ cs Am cm Dv KG).mono ?_;rintro e w5 ⟨un,l5,rfl,hu,_,h5,hb5,hl5⟩;have LK:=zh (FI.out.Cn hb5 h5);have ZY:Hid (l5.length<=l.length):=Nat.le_trans hl5 Rn;have vV:=zh hu;clear h5 hb5 hl5 hu b0 b1 b2 b3 b4 b5 b6 b7 b8 b9;obtain ⟨⟨_,_,_,_,v4,_⟩,vf⟩:=LK.out.vb.cells
     have f4:=vf 4;clear vf;go_wp2;go_meet;exact ⟨_,_,_,_,_,_,_,[],[],[],l5,LK.out.Ol (j:=4) rfl LK.out.vb.str,ZY.out,⟨by simp,by simp,by simp⟩,HF.out _ (.inr ⟨HOP.out,vV.out⟩)⟩
  ·have HK:=zh hk
   have q1:(x.kind==1)=false:=by simp[hk]
   have q2:(x.kind==2)=false:=by simp[hk]
   have q3:(x.kind==3)=false:=by simp[hk]
   have q4:(x.kind==4)=false:=by simp[hk]
   have q5:(x.kind==5)=false:=by simp[hk]
   have q6:(x.kind==6)=false:=by simp[hk]
   have q7:(x.kind==7)=true:=by simp[hk]
   clear hk;have lU:Hid (KI C.s (tn:Int)=0):=by show _=_;unfold KI;rw[Ez.out,HK.out];rfl
   have LQ:=zh (nL.out (.inl HK.out));have Rz:=zh (HO.out.max (tn:Int));rw[Ez.out] at Rz;have hmx:=Rz.out;go_wp2_with fail;refine (Ba (min x.max 3+1) (by omega) Dp.out.ms).mono ?_
   rintro e w2 ⟨c,l2,rfl,hc,h2,hb2,hl2,hd2⟩;have GU:=zh (Dp.out.Cn hb2 h2);have HL2:Hid (l2.length<=l.length/\(0<c.toNat->l2.length<l.length)):=⟨hl2,fun h=>hd2 (by omega)⟩
   have Za:Hid ((c.toNat:Int)<=x.max/\c.toNat<=3):=by show _/\_;omega
   obtain ⟨N,rfl⟩:=AAT hc.1;rw[Int.toNat_natCast] at HL2 Za;clear h2 hb2 hl2 hd2 hc hmx b0 b1 b2 b3 b4 b5 b6 b7 b8 b9;go_wp2_with fail
   go_loopw [9] (fun i wr=>∃ (k:Nat) (vi:Value) (I:List Au) (l3:List Int),I.length+k=N/\i = .int .i64 (k:Int)/\Hid (Cr C W q px p x As cs Am cm wr l3 false 0 ⟨#[]⟩ 0 AR vi AR [] I []/\l3.length<=l2.length/\∀y∈I,BV C.s x.elem y.v=true)) (fun i _=>(intOf i).toNat)
   case atStart=>exact ⟨N,AR,[],l2,by simp,rfl,GU.out,AAH _,fun _ h=>by cases h⟩
   case round =>
    obtain ⟨k,vi,I,l3,hI,rfl,hh⟩:=hrel;obtain ⟨wo,rfl⟩:∃wo:World,wo=wr:=⟨_,rfl⟩;have HM:=zh hh.out.1;have HL:=zh hh.out.2.1;have nK:=zh hh.out.2.2;have Vv:=zh hI;clear hh GU Dp
    cases k with
    | zero =>
     have HF:Hid (BV C.s (tn:Int) (.mk x.kind false 0 ⟨#[]⟩ 0 [] (I.map (·.v)) [])=true):=by
      show _=_
      rw[HK.out];exact Q7 HR.out.1 HR.out.2 (by rw[Ez.out];exact HK.out) (by rw[Ez.out,AAZ];have:=Vv.out;have:=Za.out;omega) (fun z hz=>by obtain ⟨y,hy,rfl⟩:=List.mem_map.1 hz;rw[Ez.out];exact nK.out y hy)
     clear hI;go_wp2;go_meet;exact ⟨_,_,_,_,_,_,_,[],I,[],l3,HM.out,Nat.le_trans HL HL2.out.1,⟨by simp,by have:=Vv.out;have:=Za.out;omega,by simp⟩,HF.out⟩
    | succ k =>
     have h1:((k+1:Nat):Int) > 0:=by omega
     have h2:((k+1:Nat):Int) - 1=(k:Int):=by omega
     have hkb:k<=10:=by have:=Za.out;omega
     have hIl:I.length<=10:=by have:=Za.out;omega
     obtain ⟨A2,c2,rfl,_⟩:=Ad.reads HM.out.vb.oi;have GH:Hid (∀w',Ay C.b wo w'->(w'.cell? ⟨p,6,none⟩=some (.slice A2 I.length c2)/\w'.cell? ⟨px,6,none⟩=some (.slice Am x.AA.length cm)/\w'.cell? ⟨px,8,none⟩=some (.int .i64 x.elem))/\Hid (Ay C.b wo w')):=fun w' hb=>HM.out.wY hb
     have IZ:=zh HM.out.ms.lt;have GV:Hid (l3.length * 7+KI C.s x.elem<n):=by
      have h1:=HL2.out.2 (by omega)
      have h2:=HN.out;have h3:=aP HO.out.len LQ.out.2;have h4:=HL.out;rw[lU.out] at h2
      show _<_
      omega
     clear hI;go_upto_region 37 with fail
     refine yE (S:=(fun w'=>w'.cell? ⟨p,6,none⟩=some (.slice A2 I.length c2)/\w'.cell? ⟨px,6,none⟩=some (.slice Am x.AA.length cm)/\w'.cell? ⟨px,8,none⟩=some (.int .i64 x.elem))) 9 (by kernel_rfl) ?_ (fun AO=>?_)
     ·(try dsimp only);exact (GH.out _ (Ay.of (zC (Pe _ _) 1) (AAe IZ))).1
     refine tC 0 ?_;try simp only[ps]
     refine tB 1 ?_;try simp only[ps]
     refine tC 2 ?_;try simp only[ps]
     refine tC 3 ?_;try simp only[ps]
     refine tB 4 ?_;try simp only[ps]
     refine tS 5 (fun K hK=>?_)
     go_simp
     (have NY:=zh (Ay.of (zC (Pe wo.heap.size wo) 1) (AAe IZ));have OX:=zh (HM.out.below (zC (Pe _ _) 1));refine (E5.out x.elem _ l3 GV LQ OX.out.ms).mono ?_;rintro e w6 ⟨y,l6,rfl,g1,g2,g3,g4,g5⟩;have FU:=zh (OX.out.Cn g2 g3);have Ox:=zh (OX.out.hot g1);have BN:=zh (NY.out.trans g2);have qw:=zh g4;have ZN:=zh g5;clear g1 g2 g3 g4 g5)
     refine hK.out _ _ ?_ (fun AO=>?_)
     ·(try dsimp only);exact (GH.out _ BN).1
     clear hK K;try simp only[ps]
     refine tS 6 (fun K hK=>?_)
     go_simp
     refine hK.out _ _ ?_ (fun AO=>?_)
     ·(try dsimp only);exact (GH.out _ (BN.out.below (zD _ (.cells y.cells.toArray 28)) IZ)).1
     clear hK K;try simp only[ps]
     refine tS 7 (fun K hK=>?_)
     (have Rm:=zh (FU.out.below (zD w6 (.cells y.cells.toArray 28)));refine yH Af (by rfl) (.tmp 188) (.tmp 193) (by rfl) (p+1) (.slice A2 I.length c2) I.length (I.flatMap Au.cells) (by rfl) Rm.out.vb.oi w6.heap.size 0 1 1 y.cells (by rfl) rfl (zR w6 y.cells 28) (CG y) (by omega) (by omega) Rm.out.vb.lt ?_;intro v8 w8 CW Bt Ey;obtain ⟨g,c8,rfl,_⟩:=Gj CW;have ZO:=zh (FU.out.item Ox (zD w6 (.cells y.cells.toArray 28)) CW Bt Ey);have CS:=zh ((BN.out.below (zD w6 (.cells y.cells.toArray 28)) IZ));obtain ⟨c6,f6⟩:=FU.out.c6 (zD w6 (.cells y.cells.toArray 28)) Bt;have qW:=zh (FU.out.oH (zD w6 (.cells y.cells.toArray 28)) Bt);clear CW Bt Ey)
     refine hK.out _ _ ?_ (fun AO=>?_)
     ·(try dsimp only);exact qW.out
     clear hK K;try simp only[ps]
     refine tC 8 ?_;try simp only[ps]
     refine zV (rs:=[9]) (by kernel_rfl) (by simp) ?_
     refine AJ.last rfl (by kernel_rfl) (fun K hK=>?_) AJ.nil
     go_simp
     refine hK.out _ _ ?_;clear hK K
     (try clear AO)
     try simp only[ps]
     refine wpAny_done (by kernel_rfl) ?_ _
     have rC:Hid (∀z∈I++[y],BV C.s x.elem z.v=true):=fun z hz=>by
      rcases AAo.1 hz with h|h
      ·exact nK.out z h
      ·obtain rfl:z=y:=(by simpa using h)
       exact ZN.out
     go_wp2
     go_roundw
     case rel=>exact ⟨k,_,I++[y],l6,by rw[AAt];have:=Vv.out;simp;omega,by go_num,ZO.out,Nat.le_trans qw HL,rC.out⟩
     case measure=>simp[intOf]
  ·have HK:=zh hk
   have q1:(x.kind==1)=false:=by simp[hk]
   have q2:(x.kind==2)=false:=by simp[hk]
   have q3:(x.kind==3)=false:=by simp[hk]
   have q4:(x.kind==4)=false:=by simp[hk]
   have q5:(x.kind==5)=false:=by simp[hk]
   have q6:(x.kind==6)=false:=by simp[hk]
   have q7:(x.kind==7)=false:=by simp[hk]
   have q8:(x.kind==8)=false:=by simp[hk]
   clear hk;have lU:Hid (KI C.s (tn:Int)=0):=by show _=_;unfold KI;rw[Ez.out,HK.out];rfl
   go_wp2_with fail
   refine (Ba 2 (by omega) Dp.out.ms).mono ?_
   rintro e w2 ⟨c,l2,rfl,hc,h2,hb2,hl2,hd2⟩;have GU:=zh (Dp.out.Cn hb2 h2);have HL2:=zh hl2;have HD2:=zh hd2;clear h2 hb2 hl2 hd2 b0 b1 b2 b3 b4 b5 b6 b7 b8 b9;obtain ⟨b0,b1,b2,b3,b4,b5,b6,b7,b8,b9⟩:=zG GU.out.cells;have hcc:c=0\/c=1:=by omega
   clear hc
   rcases hcc with rfl|rfl
   ·have HF:Hid (BV C.s (tn:Int) (.mk x.kind false 0 ⟨#[]⟩ 0 [] [] [])=true):=by
     show _=_
     rw[HK.out];exact VA HR.out.1 HR.out.2 (by rw[Ez.out];exact HK.out) (by simp) (by simp)
    go_wp2
    go_meet
    exact ⟨_,_,_,_,_,_,_,[],[],[],l2,GU.out,HL2.out,⟨by simp,by simp,by simp⟩,HF.out⟩
   ·have LQ:=zh (nL.out (.inr (.inr HK.out)))
    have GV:Hid (l2.length * 7+KI C.s x.elem<n):=by
     have h1:=HD2.out (by omega)
     have h2:=HN.out;have h3:=aP HO.out.len LQ.out.2;rw[lU.out] at h2
     show _<_
     omega
    go_wp2_with fail
    refine (E5.out x.elem _ l2 GV LQ GU.out.ms).mono ?_;rintro e w3 ⟨y,l3,rfl,g1,g2,g3,g4,g5⟩;have O1:=zh (GU.out.Cn g2 g3);have MJ:=zh (GU.out.hot g1);have lZ:Hid (l3.length<=l.length):=Nat.le_trans g4 HL2;have FI:=zh (O1.out.one MJ);have HF:Hid (BV C.s (tn:Int) (.mk x.kind false 0 ⟨#[]⟩ 0 [] [y.v] [])=true):=by
     show _=_
     rw[HK.out];exact VA HR.out.1 HR.out.2 (by rw[Ez.out];exact HK.out) (by simp) (fun z hz=>by rw[Ez.out];obtain rfl:z=y.v:=(by simpa using hz);exact g5)
    have vz:=zh (O1.out.below (zD w3 (.cells y.cells.toArray 28)));clear g1 g2 g3 g4 g5 b0 b1 b2 b3 b4 b5 b6 b7 b8 b9;obtain ⟨⟨_,_,_,_,_,_,v6,_⟩,vf⟩:=vz.out.vb.cells;have f6:=vf 6;clear vf;unfold Au.cells Val.cs at FI v6 f6;go_wp2;go_meet;exact ⟨_,_,_,_,_,_,_,[],[y],[],l3,FI.out,lZ.out,⟨by simp,by simp,by simp⟩,HF.out⟩
 case rest =>
 obtain ⟨bo,it,st,di,vk,vi,vr,K,I,R,l',hm,hl,hz,hf⟩:=hcut.out;obtain ⟨A1,c1,rfl,_⟩:=Ad.reads hm.vb.ok;obtain ⟨A2,c2,rfl,_⟩:=Ad.reads hm.vb.oi;obtain ⟨A3,c3,rfl,_⟩:=Ad.reads hm.vb.Qy;have HG2:=zh (hm.fin hl hz hf);have LP:=zh (F6 hm.bq (.int .i64 x.kind) (.bool bo) (.int .i64 it) (.string st) (.int .i64 di) (.slice A1 K.length c1) (.slice A2 I.length c2) (.slice A3 R.length c3))
 obtain ⟨⟨x0,x1,x2,x3,x4,x5,x6,x7⟩,y0,y1,y2,y3,y4,y5,y6,y7⟩:=zK hm.bq;obtain ⟨⟨v0,v1,v2,v3,v4,v5,v6,v7⟩,_⟩:=hm.vb.cells;clear hcut hm hl hz hf;go_wp2;clear x0 x1 x2 x3 x4 x5 x6 x7 y0 y1 y2 y3 y4 y5 y6 y7 v0 v1 v2 v3 v4 v5 v6 v7;unfold Go.Proofs.YthkkllmmbefedaaGreatDoor.q8 Go.Proofs.YthkkllmmbefedaaGreatDoor.q5 at HG2 LP
 generalize World.setCell _ _ _=W9 at *;obtain ⟨⟨x0,x1,x2,x3,x4,x5,x6,x7⟩,_⟩:=zK LP
 exact bodyPost_ret (v := .agg #[.int .i64 x.kind,.bool bo,.int .i64 it,.string st,.int .i64 di,.slice A1 K.length c1,.slice A2 I.length c2,.slice A3 R.length c3]) (by simp[results,Tryz.results74,go_sem,x0,x1,x2,x3,x4,x5,x6,x7]) rfl HG2
end Go.Proofs.YthkkllmmbefedaaGreatDoor



