/-
  The maker's value: kinds 8.
-/
import Derived.Test.YthkkllmmbefedaaGreatDoorQGN1
namespace Go.Proofs.YthkkllmmbefedaaGreatDoor
open Go.RowKit
set_option maxHeartbeats 16000000
set_option maxRecDepth 100000
theorem YL {C:UK} (ho:MI C.s) {n:Nat} (ih:KD C n) (t:Int) (W:World) (l:List Int) (hn:l.length * 7+KI C.s t<n+1) (hr:0<=t/\t<(C.s.length:Int)) (h:G5 C W l) (VT:(AB C.s t).kind=8):Calls Tryz.prog 74 #[.pointer (some ⟨C.b,0,none⟩),.int .i64 t] W (rX C t W l):=by
 obtain ⟨tn,rfl⟩:=AAT hr.1;have htn:tn<C.s.length:=by omega
 obtain ⟨bq,oq,As,cs,Am,cm,hA,htr,t0,t1,t2,t3,t4,t5,t6,t7,t8,t9⟩:=h.ty.FQ htn;have Ez:Hid (AB C.s (tn:Int)=C.s[tn]):=zT htn;have ZL:Hid (1<=(C.s[tn]).kind/\(C.s[tn]).kind<=9):=by have:=Dh ho.v hr;rw[zT htn] at this;exact this
 have fQ:Hid ((C.s[tn]).kind=8):=by rw[zT htn] at VT;exact VT
 clear VT;have nL:Hid (Eu (C.s[tn]).kind->0<=(C.s[tn]).elem/\(C.s[tn]).elem<(C.s.length:Int)):=by have:=JC ho.v hr;rw[zT htn] at this;exact this
 have gM:Hid ((C.s[tn]).kind=8->0<=(C.s[tn]).key/\(C.s[tn]).key<(C.s.length:Int)):=fun hk=>by have:=(Kv ho.v hr (by rw[zT htn];exact hk)).1;rw[zT htn] at this;exact this
 have hls:=ho.len;have HN:Hid (l.length * 7+KI C.s (tn:Int)<=n):=by show _<=_;omega
 have HR:=zh hr;have HO:=zh ho;have E5:=zh ih;have Dv:=zh htr;generalize C.s[tn]=x at *;have LM:=zh (Cr.new cs cm h htr rfl rfl rfl);have HU:Hid (Below C.w0.heap.size C.w0 (W.alloc zO)):=h.up.trans ((zD W zO).mono h.up.size);obtain ⟨B,d,_,hbx⟩:=h.ex
 have c0:(W.alloc zO).cell? ⟨C.b,0,none⟩=some (.slice (some ⟨bq,oq,none⟩) C.s.length C.c):=by rw[AAE _ _ _ _ _ _ (BR hbx (zD _ _)),<-hA];rfl
 replace t0:=zA HU t0;replace t1:=zA HU t1;replace t2:=zA HU t2;replace t3:=zA HU t3;replace t4:=zA HU t4;replace t5:=zA HU t5;replace t6:=zA HU t6;replace t7:=zA HU t7;replace t8:=zA HU t8;replace t9:=zA HU t9;have i0:(0:Int)<=(tn:Int):=by omega
 have i1:(tn:Int)<(C.s.length:Int):=by omega
 have hz1:(W.alloc zO).heap.size=W.heap.size+1:=by simp
 clear h ih hn htr hr ho hA hbx hls
 go_enter Tryz.func74,Tryz.ntmps74
 go_upto_region 1 with fail
 unfold zO at LM HU c0 t0 t1 t2 t3 t4 t5 t6 t7 t8 t9 hz1;generalize qK:W.alloc (.cells #[.int .i64 0,.bool false,.int .i64 0,.string ⟨#[]⟩,.int .i64 0,.slice none 0 0,.slice none 0 0,.slice none 0 0] 28)=Wa at *;clear qK;go_upto_region 3 with fail
 clear t0 t1 t2 t3 t4 t5 t6 t7 t8 t9 c0 i0 i1 hz1;unfold Ht at LM;generalize World.alloc (World.alloc Wa _) _=Wc at *;obtain ⟨q,hq⟩:∃q,W.heap.size=q:=⟨_,rfl⟩;obtain ⟨px,hpx⟩:∃px,q+1=px:=⟨_,rfl⟩;obtain ⟨p,hp⟩:∃p,px+1=p:=⟨_,rfl⟩;rw[hq,hpx,hp] at LM;rw[hq,hpx,hp];have Dp:Hid (Cr C W q px p x As cs Am cm Wc l false 0 ⟨#[]⟩ 0 AR AR AR [] [] []):=LM.out;clear LM hq hpx hp HU
 obtain ⟨b0,b1,b2,b3,b4,b5,b6,b7,b8,b9⟩:=zG Dp.out.cells
 go_upto_block 0 with fail
 clear b0 b1 b2 b3 b4 b5 b6 b7 b8 b9
 go_cut [] (fun wx=>Hid (xH C W q px p x As cs Am cm (tn:Int) l wx))
 case first =>
  obtain ⟨b0,b1,b2,b3,b4,b5,b6,b7,b8,b9⟩:=zG Dp.out.cells;have hk:=fQ.out;clear fQ
  ·have HK:=zh hk
   have q1:(x.kind==1)=false:=by simp[hk]
   have q2:(x.kind==2)=false:=by simp[hk]
   have q3:(x.kind==3)=false:=by simp[hk]
   have q4:(x.kind==4)=false:=by simp[hk]
   have q5:(x.kind==5)=false:=by simp[hk]
   have q6:(x.kind==6)=false:=by simp[hk]
   have q7:(x.kind==7)=false:=by simp[hk]
   have q8:(x.kind==8)=true:=by simp[hk]
   clear hk;have lU:Hid (KI C.s (tn:Int)=0):=by show _=_;unfold KI;rw[Ez.out,HK.out];rfl
   have LQ:=zh (nL.out (.inr (.inl HK.out)));have fP:=zh (gM.out HK);have Rz:=zh (HO.out.max (tn:Int));rw[Ez.out] at Rz;have hmx:=Rz.out;have sK:Hid (∀y:Val,BV C.s x.key y=true->(1<=y.kind/\y.kind<=4)/\y.kind=(AB C.s x.key).kind/\(y.kind=2->In64 y.int)):=fun y hy=>RI HO.out.v HO.out.n64 (x:=x) (by rw[<-Ez.out,zT htn];exact AAK htn) HK _ y (K3.1 hy).1
   go_wp2_with fail
   refine (Ba (min x.max 3+1) (by omega) Dp.out.ms).mono ?_
   rintro e w2 ⟨c,l2,rfl,hc,h2,hb2,hl2,hd2⟩;have GU:=zh (Dp.out.Cn hb2 h2);have HL2:Hid (l2.length<=l.length/\(0<c.toNat->l2.length<l.length)):=⟨hl2,fun h=>hd2 (by omega)⟩
   have Za:Hid ((c.toNat:Int)<=x.max/\c.toNat<=3):=by show _/\_;omega
   obtain ⟨N,rfl⟩:=AAT hc.1;rw[Int.toNat_natCast] at HL2 Za;clear h2 hb2 hl2 hd2 hc hmx b0 b1 b2 b3 b4 b5 b6 b7 b8 b9;go_wp2_with fail
   go_loopw [10] (fun i wr=>∃ (k:Nat) (vk vi:Value) (KL IL:List Au) (l3:List Int),KL.length+k<=N/\i = .int .i64 (k:Int)/\Hid (Cr C W q px p x As cs Am cm wr l3 false 0 ⟨#[]⟩ 0 vk vi AR KL IL []/\l3.length<=l2.length/\IL.length=KL.length/\F8 (KL.map (·.v))=true/\(∀y∈KL,BV C.s x.key y.v=true)/\(∀y∈IL,BV C.s x.elem y.v=true)/\(KL=[]->vk=AR/\vi=AR))) (fun i _=>(intOf i).toNat)
   case atStart=>exact ⟨N,AR,AR,[],[],l2,by simp,rfl,GU.out,AAH _,rfl,rfl,(fun _ h=>by cases h),(fun _ h=>by cases h),fun _=>⟨rfl,rfl⟩⟩
   case round =>
    obtain ⟨k,vk,vi,KL,IL,l3,hI,rfl,hh⟩:=hrel;obtain ⟨wo,rfl⟩:∃wo:World,wo=wr:=⟨_,rfl⟩;have HM:=zh hh.out.1;have HL:=zh hh.out.2.1;have lm:=zh hh.out.2.2.1;have Zb:=zh hh.out.2.2.2.1;have HFS:=zh hh.out.2.2.2.2.1;have nK:=zh hh.out.2.2.2.2.2.1;have sG:=zh hh.out.2.2.2.2.2.2;have Vv:=zh hI;clear hh GU Dp
    cases k with
    | zero =>
     have HF:Hid (BV C.s (tn:Int) (.mk x.kind false 0 ⟨#[]⟩ 0 (KL.map (·.v)) (IL.map (·.v)) [])=true):=by
      show _=_
      rw[HK.out];exact bC HR.out.1 HR.out.2 (by rw[Ez.out];exact HK.out) (by rw[Ez.out,AAZ];have:=Vv.out;have:=Za.out;omega) (by rw[AAZ,AAZ];exact lm.out) (fun z hz=>by obtain ⟨y,hy,rfl⟩:=List.mem_map.1 hz;rw[Ez.out];exact HFS.out y hy) Zb (fun z hz=>by obtain ⟨y,hy,rfl⟩:=List.mem_map.1 hz;rw[Ez.out];exact nK.out y hy)
     clear hI;go_wp2;go_meet;exact ⟨_,_,_,_,_,_,_,KL,IL,[],l3,HM.out,Nat.le_trans HL HL2.out.1,⟨by have:=Vv.out;have:=Za.out;omega,by have:=Vv.out;have:=Za.out;have:=lm.out;omega,by simp⟩,HF.out⟩
    | succ k =>
     have h1:((k+1:Nat):Int) > 0:=by omega
     have h2:((k+1:Nat):Int) - 1=(k:Int):=by omega
     have hkb:k<=10:=by have:=Za.out;omega
     have HKB:Hid (KL.length<=10):=by show _<=_;have:=Za.out;omega
     obtain ⟨b0,b1,b2,b3,b4,b5,b6,b7,b8,b9⟩:=zG HM.out.cells;have GV:Hid (∀ (l':List Int) (t:Int),l'.length<=l3.length->t<(C.s.length:Int)->l'.length * 7+KI C.s t<n):=fun l' t hl ht=>by
      have h1:=HL2.out.2 (by omega)
      have h2:=HN.out;have h3:=aP HO.out.len ht;have h4:=HL.out;rw[lU.out] at h2
      omega
     clear hI;go_wp2_with fail;refine (E5.out x.key _ l3 (GV.out l3 _ (AAH _) fP.out.2) fP HM.out.ms).mono ?_;rintro e w3 ⟨y,l5,rfl,g1,g2,g3,g4,g5⟩;have O1:=zh (HM.out.Cn g2 g3);have MJ:=zh (HM.out.hot g1);have ZY:=zh g4;have gT:=zh g5;have XV:=zh (O1.out.below (zD w3 (.cells y.cells.toArray 28)));have HXB:=zh (MJ.out.low (zD w3 (.cells y.cells.toArray 28)))
     have HKX:Hid ((w3.alloc (.cells y.cells.toArray 28)).heap[w3.heap.size]? = some (.cells y.cells.toArray 28)):=AAC w3 _;have HQK:Hid (p<w3.heap.size):=O1.out.vb.lt;clear g1 g2 g3 g4 g5 b0 b1 b2 b3 b4 b5 b6 b7 b8 b9;unfold Au.cells Val.cs at XV HXB HKX;go_upto_region 43 with fail
     generalize w3.alloc (.cells #[.int .i64 y.v.kind,.bool y.v.bool,.int .i64 y.v.int,.string y.v.str,.int .i64 y.v.id,.slice y.A1 y.v.keys.length y.c1,.slice y.A2 y.v.items.length y.c2,.slice y.A3 y.v.rest.length y.c3] 28)=W4 at *;generalize w3.heap.size=qk at *;obtain ⟨A1,c1,rfl,_⟩:=Ad.reads XV.out.vb.ok;obtain ⟨A2,c2,rfl,_⟩:=Ad.reads XV.out.vb.oi;have sM:=zh XV.out.bp
     have IZ:=zh XV.out.ms.lt
     have GH:Hid (∀w',Ay C.b W4 w'->(w'.cell? ⟨p,0,none⟩=some (.int .i64 x.kind)/\w'.cell? ⟨p,1,none⟩=some (.bool false)/\w'.cell? ⟨p,2,none⟩=some (.int .i64 0)/\w'.cell? ⟨p,3,none⟩=some (.string ⟨#[]⟩)/\w'.cell? ⟨p,4,none⟩=some (.int .i64 0)/\w'.cell? ⟨p,5,none⟩=some (.slice A1 KL.length c1)/\w'.cell? ⟨p,6,none⟩=some (.slice A2 IL.length c2)/\w'.cell? ⟨p,7,none⟩=some AR)/\(w'.cell? ⟨qk,0,none⟩=some (.int .i64 y.v.kind)/\w'.cell? ⟨qk,1,none⟩=some (.bool y.v.bool)/\w'.cell? ⟨qk,2,none⟩=some (.int .i64 y.v.int)/\w'.cell? ⟨qk,3,none⟩=some (.string y.v.str)/\w'.cell? ⟨qk,4,none⟩=some (.int .i64 y.v.id)/\w'.cell? ⟨qk,5,none⟩=some (.slice y.A1 y.v.keys.length y.c1)/\w'.cell? ⟨qk,6,none⟩=some (.slice y.A2 y.v.items.length y.c2)/\w'.cell? ⟨qk,7,none⟩=some (.slice y.A3 y.v.rest.length y.c3))/\w'.cell? ⟨px,8,none⟩=some (.int .i64 x.elem)):=fun w' hb=>by
      have hbp:=sM.out;obtain ⟨_,_,_,_,_,_,_,_,t8,_⟩:=zG (Ma XV.out.bx hb (by omega))
      exact ⟨(XV.out.vb.Cn hb hbp.2.2).cells.1,(zK (Ma HKX hb (by have:=HQK.out;omega))).1,t8⟩
     refine yE (S:=(fun w'=>(w'.cell? ⟨p,0,none⟩=some (.int .i64 x.kind)/\w'.cell? ⟨p,1,none⟩=some (.bool false)/\w'.cell? ⟨p,2,none⟩=some (.int .i64 0)/\w'.cell? ⟨p,3,none⟩=some (.string ⟨#[]⟩)/\w'.cell? ⟨p,4,none⟩=some (.int .i64 0)/\w'.cell? ⟨p,5,none⟩=some (.slice A1 KL.length c1)/\w'.cell? ⟨p,6,none⟩=some (.slice A2 IL.length c2)/\w'.cell? ⟨p,7,none⟩=some AR)/\(w'.cell? ⟨qk,0,none⟩=some (.int .i64 y.v.kind)/\w'.cell? ⟨qk,1,none⟩=some (.bool y.v.bool)/\w'.cell? ⟨qk,2,none⟩=some (.int .i64 y.v.int)/\w'.cell? ⟨qk,3,none⟩=some (.string y.v.str)/\w'.cell? ⟨qk,4,none⟩=some (.int .i64 y.v.id)/\w'.cell? ⟨qk,5,none⟩=some (.slice y.A1 y.v.keys.length y.c1)/\w'.cell? ⟨qk,6,none⟩=some (.slice y.A2 y.v.items.length y.c2)/\w'.cell? ⟨qk,7,none⟩=some (.slice y.A3 y.v.rest.length y.c3))/\w'.cell? ⟨px,8,none⟩=some (.int .i64 x.elem))) 7 (by kernel_rfl) ?_ (fun AO=>?_)
     ·(try dsimp only);exact GH.out _ (Ay.of (zC (Pe _ _) 1) (AAe IZ))
     refine tB 0 ?_;try simp only[ps]
     refine tB 1 ?_;try simp only[ps]
     refine tC 2 ?_;try simp only[ps]
     refine tC 3 ?_;try simp only[ps]
     refine tB 4 ?_;try simp only[ps]
     refine tS 5 (fun K hK=>?_)
     go_simp
     (have NY:=zh (Ay.of (zC (Pe W4.heap.size W4) 1) (AAe IZ));have OX:=zh (XV.out.below (zC (Pe _ _) 1));have HXD:=zh (HXB.out.low (zC (Pe W4.heap.size W4) 1));refine (E5.out x.elem _ l5 (GV.out l5 _ ZY LQ.out.2) LQ OX.out.ms).mono ?_;rintro e w6 ⟨z,l6,rfl,g1,g2,g3,g4,g5⟩;have FU:=zh (OX.out.Cn g2 g3);have Ox:=zh (OX.out.hot g1);have mZ:=zh (g2.off (.inl (AAe sM.out.2.2)) HXD);have BN:=zh (NY.out.trans g2);have qw:=zh g4;have ZN:=zh g5;clear g1 g2 g3 g4 g5)
     refine hK.out _ _ ?_ (fun AO=>?_)
     ·(try dsimp only);exact GH.out _ BN
     clear hK K;try simp only[ps]
     refine tS 6 (fun K hK=>?_)
     go_simp
     (have UY:Hid (∀v∈KL,v.v.kind=y.v.kind/\(1<=v.v.kind/\v.v.kind<=4)/\(v.v.kind=2->In64 v.v.int/\In64 y.v.int)/\(v.v.str.size<=9223372036854775807/\y.v.str.size<=9223372036854775807)):=bG sK HFS gT FU mZ;have hp:=aW FU.out.vb.ok FU.out.vb.oi lm (by have:=HKB.out;omega) sG y z UY;rw[show (8:Int)=x.kind from HK.out.symm] at hp;refine hp.mono ?_;clear hp;rintro e w8 hpp;obtain ⟨NA,Jv,K',I',rfl,EJ,xB,r1,r2,r3,r4,r5,r6⟩:=FU.out.yV HK mZ Ox lm (fun v hv=>⟨(UY.out v hv).1,(UY.out v hv).2.1⟩) Zb hpp;obtain ⟨A3,n3,c3,rfl⟩:=JV xB.vb.ok;obtain ⟨A4,n4,c4,rfl⟩:=JV xB.vb.oi;have Vt:=zh xB;have BK:=zh EJ;have Oy:=zh (Zk (FU.out.below EJ).vb);have HR1:=zh r1;have HR2:=zh r2;have HR3:=zh r3;have HR4:=zh r4;have vZ:=zh r5;have HR6:=zh r6;clear hpp EJ xB r1 r2 r3 r4 r5 r6)
     refine hK.out _ _ ?_ (fun AO=>?_)
     ·(try dsimp only);exact GH.out _ (BN.out.below BK IZ)
     clear hK K;try simp only[ps]
     refine zV (rs:=[7]) (by kernel_rfl) (by simp) ?_
     refine AJ.last rfl (by kernel_rfl) (fun K hK=>?_) AJ.nil
     (simp only[List.getElem_toArray,List.getElem_cons_zero,List.getElem_cons_succ];rw[AAG (by rfl)];refine wp_store_mid 28 (.tmp 6) (.tmp 218) rfl (p) (0) (#[.int .i64 x.kind,.bool false,.int .i64 0,.string ⟨#[]⟩,.int .i64 0,.slice A3 n3 c3,.slice A4 n4 c4,AR]) (by rfl) (by rfl) ?_ ?_ ?_ ?_;(exact Oy.out);(exact Gi);(exact jo _ _ _ _ _ _ _))
     refine hK.out _ _ ?_;clear hK K
     (try clear AO)
     try simp only[ps]
     refine wpAny_done (by kernel_rfl) ?_ _
     have ABK:Hid (∀v∈K',BV C.s x.key v.v=true):=fun v hv=>by
      rcases HR4.out v hv with h|rfl
      ·exact HFS.out v h
      ·exact gT.out
     have ABL:Hid (∀v∈I',BV C.s x.elem v.v=true):=fun v hv=>by
      rcases vZ.out v hv with h|rfl
      ·exact nK.out v h
      ·exact ZN.out
     have AAx:Hid (K'=[]->(.slice A3 n3 c3:Value)=AR/\(.slice A4 n4 c4:Value)=AR):=fun e=>by
      obtain ⟨e1,e2,e3⟩:=HR6.out e;rw[e1,e2];exact sG.out e3
     go_wp2
     go_roundw
     case rel=>exact ⟨k,_,_,K',I',l6,by have:=HR2.out;have:=Vv.out;omega,by go_num,Vt.out,Nat.le_trans qw (Nat.le_trans ZY HL),HR1.out,HR3.out,ABK.out,ABL.out,AAx.out⟩
     case measure=>simp[intOf]
 case rest =>
 obtain ⟨bo,it,st,di,vk,vi,vr,K,I,R,l',hm,hl,hz,hf⟩:=hcut.out;obtain ⟨A1,c1,rfl,_⟩:=Ad.reads hm.vb.ok;obtain ⟨A2,c2,rfl,_⟩:=Ad.reads hm.vb.oi;obtain ⟨A3,c3,rfl,_⟩:=Ad.reads hm.vb.Qy;have HG2:=zh (hm.fin hl hz hf);have LP:=zh (F6 hm.bq (.int .i64 x.kind) (.bool bo) (.int .i64 it) (.string st) (.int .i64 di) (.slice A1 K.length c1) (.slice A2 I.length c2) (.slice A3 R.length c3))
 obtain ⟨⟨x0,x1,x2,x3,x4,x5,x6,x7⟩,y0,y1,y2,y3,y4,y5,y6,y7⟩:=zK hm.bq;obtain ⟨⟨v0,v1,v2,v3,v4,v5,v6,v7⟩,_⟩:=hm.vb.cells;clear hcut hm hl hz hf;go_wp2;clear x0 x1 x2 x3 x4 x5 x6 x7 y0 y1 y2 y3 y4 y5 y6 y7 v0 v1 v2 v3 v4 v5 v6 v7;unfold Go.Proofs.YthkkllmmbefedaaGreatDoor.q8 Go.Proofs.YthkkllmmbefedaaGreatDoor.q5 at HG2 LP
 generalize World.setCell _ _ _=W9 at *;obtain ⟨⟨x0,x1,x2,x3,x4,x5,x6,x7⟩,_⟩:=zK LP
 exact bodyPost_ret (v := .agg #[.int .i64 x.kind,.bool bo,.int .i64 it,.string st,.int .i64 di,.slice A1 K.length c1,.slice A2 I.length c2,.slice A3 R.length c3]) (by simp[results,Tryz.results74,go_sem,x0,x1,x2,x3,x4,x5,x6,x7]) rfl HG2
end Go.Proofs.YthkkllmmbefedaaGreatDoor



