/-
  The maker's value: kinds 8.
-/
import Derived.Test.YthkkllmmbefedaaGreatDoorQGN1
namespace Go.Proofs.YthkkllmmbefedaaGreatDoor
open Go.RowKit Go.Proofs.Tryz
set_option maxHeartbeats 16000000
set_option maxRecDepth 100000
theorem bK {C:WI} (ho:Mt C.s) {n:Nat} (ih:Lf C n) (t:Int) (W:World) (l:List Int) (hn:l.length * 7+Lp C.s t<n+1) (hr:0<=t/\t<(C.s.length:Int)) (h:Ik C W l) (X7:(AO C.s t).kind=8):Calls prog 74 #[.pointer (some ⟨C.b,0,none⟩),.int .i64 t] W (zi C t W l):=by
 obtain ⟨tn,rfl⟩:=AAh hr.1;have htn:tn<C.s.length:=by omega
 obtain ⟨bq,oq,As,cs,Am,cm,hA,htr,t0,t1,t2,t3,t4,t5,t6,t7,t8,t9⟩:=h.ty.J3 htn;have EY:Hid (AO C.s (tn:Int)=C.s[tn]):=zT htn;have eX:Hid (1<=(C.s[tn]).kind/\(C.s[tn]).kind<=9):=by have:=Fh ho.v hr;rw[zT htn] at this;exact this
 have nI:Hid ((C.s[tn]).kind=8):=by rw[zT htn] at X7;exact X7
 clear X7;have nZ:Hid (Ev (C.s[tn]).kind->0<=(C.s[tn]).elem/\(C.s[tn]).elem<(C.s.length:Int)):=by have:=Jz ho.v hr;rw[zT htn] at this;exact this
 have nR:Hid ((C.s[tn]).kind=8->0<=(C.s[tn]).key/\(C.s[tn]).key<(C.s.length:Int)):=fun hk=>by have:=(MR ho.v hr (by rw[zT htn];exact hk)).1;rw[zT htn] at this;exact this
 have hls:=ho.len;have HN:Hid (l.length * 7+Lp C.s (tn:Int)<=n):=by show _<=_;omega
 have HR:=zh hr;have HO:=zh ho;have Ed:=zh ih;have Ie:=zh htr;generalize C.s[tn]=x at *;have M0:=zh (DX.new cs cm h htr rfl rfl rfl);have HU:Hid (Below C.w0.heap.size C.w0 (W.alloc zO)):=h.up.trans ((zD W zO).mono h.up.size);obtain ⟨B,d,_,hbx⟩:=h.ex
 have c0:(W.alloc zO).cell? ⟨C.b,0,none⟩=some (.slice (some ⟨bq,oq,none⟩) C.s.length C.c):=by rw[AAC _ _ _ _ _ _ (Au hbx (zD _ _)),<-hA];rfl
 replace t0:=zA HU t0;replace t1:=zA HU t1;replace t2:=zA HU t2;replace t3:=zA HU t3;replace t4:=zA HU t4;replace t5:=zA HU t5;replace t6:=zA HU t6;replace t7:=zA HU t7;replace t8:=zA HU t8;replace t9:=zA HU t9;have i0:(0:Int)<=(tn:Int):=by omega
 have i1:(tn:Int)<(C.s.length:Int):=by omega
 have hz1:(W.alloc zO).heap.size=W.heap.size+1:=by simp
 clear h ih hn htr hr ho hA hbx hls
 go_enter func74,ntmps74
 go_upto_region 1 with fail
 unfold zO at M0 HU c0 t0 t1 t2 t3 t4 t5 t6 t7 t8 t9 hz1;generalize xQ:W.alloc (.cells #[.int .i64 0,.bool false,.int .i64 0,.string ⟨#[]⟩,.int .i64 0,.slice none 0 0,.slice none 0 0,.slice none 0 0] 28)=Wa at *;clear xQ;go_upto_region 3 with fail
 clear t0 t1 t2 t3 t4 t5 t6 t7 t8 t9 c0 i0 i1 hz1;unfold I8 at M0;generalize World.alloc (World.alloc Wa _) _=Wc at *;obtain ⟨q,hq⟩:∃q,W.heap.size=q:=⟨_,rfl⟩;obtain ⟨px,hpx⟩:∃px,q+1=px:=⟨_,rfl⟩;obtain ⟨p,hp⟩:∃p,px+1=p:=⟨_,rfl⟩;rw[hq,hpx,hp] at M0;rw[hq,hpx,hp];have D7:Hid (DX C W q px p x As cs Am cm Wc l false 0 ⟨#[]⟩ 0 AP AP AP [] [] []):=M0.O;clear M0 hq hpx hp HU
 obtain ⟨b0,b1,b2,b3,b4,b5,b6,b7,b8,b9⟩:=zG D7.O.cells
 go_upto_block 0 with fail
 clear b0 b1 b2 b3 b4 b5 b6 b7 b8 b9
 go_cut [] (fun wx=>Hid (MvE C W q px p x As cs Am cm (tn:Int) l wx))
 case first =>
  obtain ⟨b0,b1,b2,b3,b4,b5,b6,b7,b8,b9⟩:=zG D7.O.cells;have hk:=nI.O;clear nI
  ·have HK:=zh hk
   have q1:(x.kind==1)=false:=by simp[hk]
   have q2:(x.kind==2)=false:=by simp[hk]
   have q3:(x.kind==3)=false:=by simp[hk]
   have q4:(x.kind==4)=false:=by simp[hk]
   have q5:(x.kind==5)=false:=by simp[hk]
   have q6:(x.kind==6)=false:=by simp[hk]
   have q7:(x.kind==7)=false:=by simp[hk]
   have q8:(x.kind==8)=true:=by simp[hk]
   clear hk;have sF:Hid (Lp C.s (tn:Int)=0):=by show _=_;unfold Lp;rw[EY.O,HK.O];rfl
   have Kz:=zh (nZ.O (.inr (.inl HK.O)));have nH:=zh (nR.O HK);have UH:=zh (HO.O.max (tn:Int));rw[EY.O] at UH;have hmx:=UH.O;have HFK:Hid (∀y:Val,BN C.s x.key y=true->(1<=y.kind/\y.kind<=4)/\y.kind=(AO C.s x.key).kind/\(y.kind=2->In64 y.int)):=fun y hy=>Zc HO.O.v HO.O.n64 (x:=x) (by rw[<-EY.O,zT htn];exact AAL htn) HK _ y (Ma.1 hy).1
   go_wp2_with fail
   refine (BQ (min x.max 3+1) (by omega) D7.O.ms).mono ?_
   rintro e w2 ⟨c,l2,rfl,hc,h2,hb2,hl2,hd2⟩;have Fb:=zh (D7.O.BK hb2 h2);have HL2:Hid (l2.length<=l.length/\(0<c.toNat->l2.length<l.length)):=⟨hl2,fun h=>hd2 (by omega)⟩
   have fo:Hid ((c.toNat:Int)<=x.max/\c.toNat<=3):=by show _/\_;omega
   obtain ⟨N,rfl⟩:=AAh hc.1;rw[Int.toNat_natCast] at HL2 fo;clear h2 hb2 hl2 hd2 hc hmx b0 b1 b2 b3 b4 b5 b6 b7 b8 b9;go_wp2_with fail
   go_loopw [10] (fun i wr=>∃ (k:Nat) (vk vi:Value) (KL IL:List Aj) (l3:List Int),KL.length+k<=N/\i = .int .i64 (k:Int)/\Hid (DX C W q px p x As cs Am cm wr l3 false 0 ⟨#[]⟩ 0 vk vi AP KL IL []/\l3.length<=l2.length/\IL.length=KL.length/\I9 (KL.map (·.v))=true/\(∀y∈KL,BN C.s x.key y.v=true)/\(∀y∈IL,BN C.s x.elem y.v=true)/\(KL=[]->vk=AP/\vi=AP))) (fun i _=>(intOf i).toNat)
   case atStart=>exact ⟨N,AP,AP,[],[],l2,by simp,rfl,Fb.O,AAF _,rfl,rfl,(fun _ h=>by cases h),(fun _ h=>by cases h),fun _=>⟨rfl,rfl⟩⟩
   case round =>
    obtain ⟨k,vk,vi,KL,IL,l3,hI,rfl,hh⟩:=hrel;obtain ⟨wo,rfl⟩:∃wo:World,wo=wr:=⟨_,rfl⟩;have HM:=zh hh.O.1;have HL:=zh hh.O.2.1;have yS:=zh hh.O.2.2.1;have HAC:=zh hh.O.2.2.2.1;have HFS:=zh hh.O.2.2.2.2.1;have Wo:=zh hh.O.2.2.2.2.2.1;have HNL:=zh hh.O.2.2.2.2.2.2;have YW:=zh hI;clear hh Fb D7
    cases k with
    | zero =>
     have HF:Hid (BN C.s (tn:Int) (.mk x.kind false 0 ⟨#[]⟩ 0 (KL.map (·.v)) (IL.map (·.v)) [])=true):=by
      show _=_
      rw[HK.O];exact jr HR.O.1 HR.O.2 (by rw[EY.O];exact HK.O) (by rw[EY.O,AAt];have:=YW.O;have:=fo.O;omega) (by rw[AAt,AAt];exact yS.O) (fun z hz=>by obtain ⟨y,hy,rfl⟩:=List.mem_map.1 hz;rw[EY.O];exact HFS.O y hy) HAC (fun z hz=>by obtain ⟨y,hy,rfl⟩:=List.mem_map.1 hz;rw[EY.O];exact Wo.O y hy)
     clear hI;go_wp2;go_meet;exact ⟨_,_,_,_,_,_,_,KL,IL,[],l3,HM.O,Nat.le_trans HL HL2.O.1,⟨by have:=YW.O;have:=fo.O;omega,by have:=YW.O;have:=fo.O;have:=yS.O;omega,by simp⟩,HF.O⟩
    | succ k =>
     have h1:((k+1:Nat):Int) > 0:=by omega
     have h2:((k+1:Nat):Int) - 1=(k:Int):=by omega
     have hkb:k<=10:=by have:=fo.O;omega
     have HKB:Hid (KL.length<=10):=by show _<=_;have:=fo.O;omega
     obtain ⟨b0,b1,b2,b3,b4,b5,b6,b7,b8,b9⟩:=zG HM.O.cells;have EP:Hid (∀ (l':List Int) (t:Int),l'.length<=l3.length->t<(C.s.length:Int)->l'.length * 7+Lp C.s t<n):=fun l' t hl ht=>by
      have h1:=HL2.O.2 (by omega)
      have h2:=HN.O;have h3:=jE HO.O.len ht;have h4:=HL.O;rw[sF.O] at h2
      omega
     clear hI;go_wp2_with fail;refine (Ed.O x.key _ l3 (EP.O l3 _ (AAF _) nH.O.2) nH HM.O.ms).mono ?_;rintro e w3 ⟨y,l5,rfl,g1,g2,g3,g4,g5⟩;have Qw:=zh (HM.O.BK g2 g3);have JR:=zh (HM.O.hot g1);have fZ:=zh g4;have Z5:=zh g5;have fV:=zh (Qw.O.below (zD w3 (.cells y.cells.toArray 28)));have HXB:=zh (JR.O.low (zD w3 (.cells y.cells.toArray 28)))
     have HKX:Hid ((w3.alloc (.cells y.cells.toArray 28)).heap[w3.heap.size]? = some (.cells y.cells.toArray 28)):=AAA w3 _;have HQK:Hid (p<w3.heap.size):=Qw.O.vb.lt;clear g1 g2 g3 g4 g5 b0 b1 b2 b3 b4 b5 b6 b7 b8 b9;unfold Aj.cells Val.cs at fV HXB HKX;go_upto_region 43 with fail
     generalize w3.alloc (.cells #[.int .i64 y.v.kind,.bool y.v.bool,.int .i64 y.v.int,.string y.v.str,.int .i64 y.v.id,.slice y.A1 y.v.keys.length y.c1,.slice y.A2 y.v.items.length y.c2,.slice y.A3 y.v.rest.length y.c3] 28)=W4 at *;generalize w3.heap.size=qk at *;obtain ⟨A1,c1,rfl,_⟩:=AZ.reads fV.O.vb.ok;obtain ⟨A2,c2,rfl,_⟩:=AZ.reads fV.O.vb.oi;have HBP:=zh fV.O.bp
     have GJ:=zh fV.O.ms.lt
     have Ej:Hid (∀w',Ah C.b W4 w'->(w'.cell? ⟨p,0,none⟩=some (.int .i64 x.kind)/\w'.cell? ⟨p,1,none⟩=some (.bool false)/\w'.cell? ⟨p,2,none⟩=some (.int .i64 0)/\w'.cell? ⟨p,3,none⟩=some (.string ⟨#[]⟩)/\w'.cell? ⟨p,4,none⟩=some (.int .i64 0)/\w'.cell? ⟨p,5,none⟩=some (.slice A1 KL.length c1)/\w'.cell? ⟨p,6,none⟩=some (.slice A2 IL.length c2)/\w'.cell? ⟨p,7,none⟩=some AP)/\(w'.cell? ⟨qk,0,none⟩=some (.int .i64 y.v.kind)/\w'.cell? ⟨qk,1,none⟩=some (.bool y.v.bool)/\w'.cell? ⟨qk,2,none⟩=some (.int .i64 y.v.int)/\w'.cell? ⟨qk,3,none⟩=some (.string y.v.str)/\w'.cell? ⟨qk,4,none⟩=some (.int .i64 y.v.id)/\w'.cell? ⟨qk,5,none⟩=some (.slice y.A1 y.v.keys.length y.c1)/\w'.cell? ⟨qk,6,none⟩=some (.slice y.A2 y.v.items.length y.c2)/\w'.cell? ⟨qk,7,none⟩=some (.slice y.A3 y.v.rest.length y.c3))/\w'.cell? ⟨px,8,none⟩=some (.int .i64 x.elem)):=fun w' hb=>by
      have hbp:=HBP.O;obtain ⟨_,_,_,_,_,_,_,_,t8,_⟩:=zG (OQ fV.O.bx hb (by omega))
      exact ⟨(fV.O.vb.BK hb hbp.2.2).cells.1,(zK (OQ HKX hb (by have:=HQK.O;omega))).1,t8⟩
     refine yE (S:=(fun w'=>(w'.cell? ⟨p,0,none⟩=some (.int .i64 x.kind)/\w'.cell? ⟨p,1,none⟩=some (.bool false)/\w'.cell? ⟨p,2,none⟩=some (.int .i64 0)/\w'.cell? ⟨p,3,none⟩=some (.string ⟨#[]⟩)/\w'.cell? ⟨p,4,none⟩=some (.int .i64 0)/\w'.cell? ⟨p,5,none⟩=some (.slice A1 KL.length c1)/\w'.cell? ⟨p,6,none⟩=some (.slice A2 IL.length c2)/\w'.cell? ⟨p,7,none⟩=some AP)/\(w'.cell? ⟨qk,0,none⟩=some (.int .i64 y.v.kind)/\w'.cell? ⟨qk,1,none⟩=some (.bool y.v.bool)/\w'.cell? ⟨qk,2,none⟩=some (.int .i64 y.v.int)/\w'.cell? ⟨qk,3,none⟩=some (.string y.v.str)/\w'.cell? ⟨qk,4,none⟩=some (.int .i64 y.v.id)/\w'.cell? ⟨qk,5,none⟩=some (.slice y.A1 y.v.keys.length y.c1)/\w'.cell? ⟨qk,6,none⟩=some (.slice y.A2 y.v.items.length y.c2)/\w'.cell? ⟨qk,7,none⟩=some (.slice y.A3 y.v.rest.length y.c3))/\w'.cell? ⟨px,8,none⟩=some (.int .i64 x.elem))) 7 (by kernel_rfl) ?_ (fun AQ=>?_)
     ·(try dsimp only);exact Ej.O _ (Ah.of (zC (Pe _ _) 1) (AAM GJ))
     refine tB 0 ?_;try simp only[ps]
     refine tB 1 ?_;try simp only[ps]
     refine tC 2 ?_;try simp only[ps]
     refine tC 3 ?_;try simp only[ps]
     refine tB 4 ?_;try simp only[ps]
     refine tS 5 (fun K hK=>?_)
     go_simp
     (have Wp:=zh (Ah.of (zC (Pe W4.heap.size W4) 1) (AAM GJ));have Qd:=zh (fV.O.below (zC (Pe _ _) 1));have HXD:=zh (HXB.O.low (zC (Pe W4.heap.size W4) 1));refine (Ed.O x.elem _ l5 (EP.O l5 _ fZ Kz.O.2) Kz Qd.O.ms).mono ?_;rintro e w6 ⟨z,l6,rfl,g1,g2,g3,g4,g5⟩;have Gz:=zh (Qd.O.BK g2 g3);have JQ:=zh (Qd.O.hot g1);have fH:=zh (g2.off (.inl (AAM HBP.O.2.2)) HXD);have BH:=zh (Wp.O.trans g2);have sH:=zh g4;have OD:=zh g5;clear g1 g2 g3 g4 g5)
     refine hK.out _ _ ?_ (fun AQ=>?_)
     ·(try dsimp only);exact Ej.O _ BH
     clear hK K;try simp only[ps]
     refine tS 6 (fun K hK=>?_)
     go_simp
     (have HKV:Hid (∀v∈KL,v.v.kind=y.v.kind/\(1<=v.v.kind/\v.v.kind<=4)/\(v.v.kind=2->In64 v.v.int/\In64 y.v.int)/\(v.v.str.size<=9223372036854775807/\y.v.str.size<=9223372036854775807)):=kE HFK HFS Z5 Gz fH;have hp:=jO Gz.O.vb.ok Gz.O.vb.oi yS (by have:=HKB.O;omega) HNL y z HKV;rw[show (8:Int)=x.kind from HK.O.symm] at hp;refine hp.mono ?_;clear hp;rintro e w8 hpp;obtain ⟨LF,G5,K',I',rfl,FU,hm9,r1,r2,r3,r4,r5,r6⟩:=Gz.O.ACw HK fH JQ yS (fun v hv=>⟨(HKV.O v hv).1,(HKV.O v hv).2.1⟩) HAC hpp;obtain ⟨A3,n3,c3,rfl⟩:=KR hm9.vb.ok;obtain ⟨A4,n4,c4,rfl⟩:=KR hm9.vb.oi;have eT:=zh hm9;have BF:=zh FU;have KC:=zh (gP (Gz.O.below FU).vb);have HR1:=zh r1;have HR2:=zh r2;have HR3:=zh r3;have HR4:=zh r4;have nU:=zh r5;have HR6:=zh r6;clear hpp FU hm9 r1 r2 r3 r4 r5 r6)
     refine hK.out _ _ ?_ (fun AQ=>?_)
     ·(try dsimp only);exact Ej.O _ (BH.O.below BF GJ)
     clear hK K;try simp only[ps]
     refine zV (rs:=[7]) (by kernel_rfl) (by simp) ?_
     refine AB.last rfl (by kernel_rfl) (fun K hK=>?_) AB.nil
     (simp only[List.getElem_toArray,List.getElem_cons_zero,List.getElem_cons_succ];rw[AAB (by rfl)];refine wp_store_mid 28 (.tmp 6) (.tmp 218) rfl (p) (0) (#[.int .i64 x.kind,.bool false,.int .i64 0,.string ⟨#[]⟩,.int .i64 0,.slice A3 n3 c3,.slice A4 n4 c4,AP]) (by rfl) (by rfl) ?_ ?_ ?_ ?_;(exact KC.O);(exact Bw);(exact qQ _ _ _ _ _ _ _))
     refine hK.out _ _ ?_;clear hK K
     (try clear AQ)
     try simp only[ps]
     refine wpAny_done (by kernel_rfl) ?_ _
     have AER:Hid (∀v∈K',BN C.s x.key v.v=true):=fun v hv=>by
      rcases HR4.O v hv with h|rfl
      ·exact HFS.O v h
      ·exact Z5.O
     have AES:Hid (∀v∈I',BN C.s x.elem v.v=true):=fun v hv=>by
      rcases nU.O v hv with h|rfl
      ·exact Wo.O v h
      ·exact OD.O
     have AD8:Hid (K'=[]->(.slice A3 n3 c3:Value)=AP/\(.slice A4 n4 c4:Value)=AP):=fun e=>by
      obtain ⟨e1,e2,e3⟩:=HR6.O e;rw[e1,e2];exact HNL.O e3
     go_wp2
     go_roundw
     case rel=>exact ⟨k,_,_,K',I',l6,by have:=HR2.O;have:=YW.O;omega,by go_num,eT.O,Nat.le_trans sH (Nat.le_trans fZ HL),HR1.O,HR3.O,AER.O,AES.O,AD8.O⟩
     case measure=>simp[intOf]
 case rest =>
 obtain ⟨bo,it,st,di,vk,vi,vr,K,I,R,l',hm,hl,hz,hf⟩:=hcut.O;obtain ⟨A1,c1,rfl,_⟩:=AZ.reads hm.vb.ok;obtain ⟨A2,c2,rfl,_⟩:=AZ.reads hm.vb.oi;obtain ⟨A3,c3,rfl,_⟩:=AZ.reads hm.vb.Sw;have HG2:=zh (hm.fin hl hz hf);have Ky:=zh (Gx hm.bq (.int .i64 x.kind) (.bool bo) (.int .i64 it) (.string st) (.int .i64 di) (.slice A1 K.length c1) (.slice A2 I.length c2) (.slice A3 R.length c3))
 obtain ⟨⟨x0,x1,x2,x3,x4,x5,x6,x7⟩,y0,y1,y2,y3,y4,y5,y6,y7⟩:=zK hm.bq;obtain ⟨⟨v0,v1,v2,v3,v4,v5,v6,v7⟩,_⟩:=hm.vb.cells;clear hcut hm hl hz hf;go_wp2;clear x0 x1 x2 x3 x4 x5 x6 x7 y0 y1 y2 y3 y4 y5 y6 y7 v0 v1 v2 v3 v4 v5 v6 v7;unfold Go.Proofs.YthkkllmmbefedaaGreatDoor.q8 Go.Proofs.YthkkllmmbefedaaGreatDoor.q5 at HG2 Ky
 generalize World.setCell _ _ _=W9 at *;obtain ⟨⟨x0,x1,x2,x3,x4,x5,x6,x7⟩,_⟩:=zK Ky
 exact bodyPost_ret (v := .agg #[.int .i64 x.kind,.bool bo,.int .i64 it,.string st,.int .i64 di,.slice A1 K.length c1,.slice A2 I.length c2,.slice A3 R.length c3]) (by simp[results,results74,go_sem,x0,x1,x2,x3,x4,x5,x6,x7]) rfl HG2
