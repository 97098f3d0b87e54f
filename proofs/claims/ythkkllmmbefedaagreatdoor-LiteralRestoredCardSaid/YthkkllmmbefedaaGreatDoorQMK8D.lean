/-
  The maker's value: kinds 8.
-/
import Derived.Test.YthkkllmmbefedaaGreatDoorQGN1
namespace Go.Proofs.YthkkllmmbefedaaGreatDoor
open Go.RowKit
set_option maxHeartbeats 16000000
set_option maxRecDepth 100000
theorem ZN {C:U1} (ho:MO C.s) {n:Nat} (ih:K9 C n) (t:Int) (W:World) (l:List Int) (hn:l.length * 7+LF C.s t<n+1) (hr:0<=t/\t<(C.s.length:Int)) (h:H9 C W l) (WY:(AO C.s t).kind=8):Calls Tryz.prog 74 #[.pointer (some ⟨C.b,0,none⟩),.int .i64 t] W (vH C t W l):=by
 obtain ⟨tn,rfl⟩:=AAY hr.1;have htn:tn<C.s.length:=by omega
 obtain ⟨bq,oq,As,cs,Am,cm,hA,htr,t0,t1,t2,t3,t4,t5,t6,t7,t8,t9⟩:=h.ty.JX htn;have Ed:Hid (AO C.s (tn:Int)=C.s[tn]):=zT htn;have aV:Hid (1<=(C.s[tn]).kind/\(C.s[tn]).kind<=9):=by have:=FI ho.v hr;rw[zT htn] at this;exact this
 have jU:Hid ((C.s[tn]).kind=8):=by rw[zT htn] at WY;exact WY
 clear WY;have kC:Hid (Eb (C.s[tn]).kind->0<=(C.s[tn]).elem/\(C.s[tn]).elem<(C.s.length:Int)):=by have:=JV ho.v hr;rw[zT htn] at this;exact this
 have jg:Hid ((C.s[tn]).kind=8->0<=(C.s[tn]).key/\(C.s[tn]).key<(C.s.length:Int)):=fun hk=>by have:=(Lr ho.v hr (by rw[zT htn];exact hk)).1;rw[zT htn] at this;exact this
 have hls:=ho.len;have HN:Hid (l.length * 7+LF C.s (tn:Int)<=n):=by show _<=_;omega
 have HR:=zh hr;have HO:=zh ho;have EI:=zh ih;have Hz:=zh htr;generalize C.s[tn]=x at *;have MQ:=zh (Cw.new cs cm h htr rfl rfl rfl);have HU:Hid (Below C.w0.heap.size C.w0 (W.alloc zO)):=h.up.trans ((zD W zO).mono h.up.size);obtain ⟨B,d,_,hbx⟩:=h.ex
 have c0:(W.alloc zO).cell? ⟨C.b,0,none⟩=some (.slice (some ⟨bq,oq,none⟩) C.s.length C.c):=by rw[AAN _ _ _ _ _ _ (Aw hbx (zD _ _)),<-hA];rfl
 replace t0:=zA HU t0;replace t1:=zA HU t1;replace t2:=zA HU t2;replace t3:=zA HU t3;replace t4:=zA HU t4;replace t5:=zA HU t5;replace t6:=zA HU t6;replace t7:=zA HU t7;replace t8:=zA HU t8;replace t9:=zA HU t9;have i0:(0:Int)<=(tn:Int):=by omega
 have i1:(tn:Int)<(C.s.length:Int):=by omega
 have hz1:(W.alloc zO).heap.size=W.heap.size+1:=by simp
 clear h ih hn htr hr ho hA hbx hls
 go_enter Tryz.func74,Tryz.ntmps74
 go_upto_region 1 with fail
 unfold zO at MQ HU c0 t0 t1 t2 t3 t4 t5 t6 t7 t8 t9 hz1;generalize tq:W.alloc (.cells #[.int .i64 0,.bool false,.int .i64 0,.string ⟨#[]⟩,.int .i64 0,.slice none 0 0,.slice none 0 0,.slice none 0 0] 28)=Wa at *;clear tq;go_upto_region 3 with fail
 clear t0 t1 t2 t3 t4 t5 t6 t7 t8 t9 c0 i0 i1 hz1;unfold IU at MQ;generalize World.alloc (World.alloc Wa _) _=Wc at *;obtain ⟨q,hq⟩:∃q,W.heap.size=q:=⟨_,rfl⟩;obtain ⟨px,hpx⟩:∃px,q+1=px:=⟨_,rfl⟩;obtain ⟨p,hp⟩:∃p,px+1=p:=⟨_,rfl⟩;rw[hq,hpx,hp] at MQ;rw[hq,hpx,hp];have Di:Hid (Cw C W q px p x As cs Am cm Wc l false 0 ⟨#[]⟩ 0 AP AP AP [] [] []):=MQ.out;clear MQ hq hpx hp HU
 obtain ⟨b0,b1,b2,b3,b4,b5,b6,b7,b8,b9⟩:=zG Di.out.cells
 go_upto_block 0 with fail
 clear b0 b1 b2 b3 b4 b5 b6 b7 b8 b9
 go_cut [] (fun wx=>Hid (MvE C W q px p x As cs Am cm (tn:Int) l wx))
 case first =>
  obtain ⟨b0,b1,b2,b3,b4,b5,b6,b7,b8,b9⟩:=zG Di.out.cells;have hk:=jU.out;clear jU
  ·have HK:=zh hk
   have q1:(x.kind==1)=false:=by simp[hk]
   have q2:(x.kind==2)=false:=by simp[hk]
   have q3:(x.kind==3)=false:=by simp[hk]
   have q4:(x.kind==4)=false:=by simp[hk]
   have q5:(x.kind==5)=false:=by simp[hk]
   have q6:(x.kind==6)=false:=by simp[hk]
   have q7:(x.kind==7)=false:=by simp[hk]
   have q8:(x.kind==8)=true:=by simp[hk]
   clear hk;have oQ:Hid (LF C.s (tn:Int)=0):=by show _=_;unfold LF;rw[Ed.out,HK.out];rfl
   have KX:=zh (kC.out (.inr (.inl HK.out)));have jT:=zh (jg.out HK);have Sw:=zh (HO.out.max (tn:Int));rw[Ed.out] at Sw;have hmx:=Sw.out;have vW:Hid (∀y:Val,BM C.s x.key y=true->(1<=y.kind/\y.kind<=4)/\y.kind=(AO C.s x.key).kind/\(y.kind=2->In64 y.int)):=fun y hy=>YF HO.out.v HO.out.n64 (x:=x) (by rw[<-Ed.out,zT htn];exact AAU htn) HK _ y (L6.1 hy).1
   go_wp2_with fail
   refine (BN (min x.max 3+1) (by omega) Di.out.ms).mono ?_
   rintro e w2 ⟨c,l2,rfl,hc,h2,hb2,hl2,hd2⟩;have Fh:=zh (Di.out.BJ hb2 h2);have HL2:Hid (l2.length<=l.length/\(0<c.toNat->l2.length<l.length)):=⟨hl2,fun h=>hd2 (by omega)⟩
   have bF:Hid ((c.toNat:Int)<=x.max/\c.toNat<=3):=by show _/\_;omega
   obtain ⟨N,rfl⟩:=AAY hc.1;rw[Int.toNat_natCast] at HL2 bF;clear h2 hb2 hl2 hd2 hc hmx b0 b1 b2 b3 b4 b5 b6 b7 b8 b9;go_wp2_with fail
   go_loopw [10] (fun i wr=>∃ (k:Nat) (vk vi:Value) (KL IL:List Aj) (l3:List Int),KL.length+k<=N/\i = .int .i64 (k:Int)/\Hid (Cw C W q px p x As cs Am cm wr l3 false 0 ⟨#[]⟩ 0 vk vi AP KL IL []/\l3.length<=l2.length/\IL.length=KL.length/\IV (KL.map (·.v))=true/\(∀y∈KL,BM C.s x.key y.v=true)/\(∀y∈IL,BM C.s x.elem y.v=true)/\(KL=[]->vk=AP/\vi=AP))) (fun i _=>(intOf i).toNat)
   case atStart=>exact ⟨N,AP,AP,[],[],l2,by simp,rfl,Fh.out,AAP _,rfl,rfl,(fun _ h=>by cases h),(fun _ h=>by cases h),fun _=>⟨rfl,rfl⟩⟩
   case round =>
    obtain ⟨k,vk,vi,KL,IL,l3,hI,rfl,hh⟩:=hrel;obtain ⟨wo,rfl⟩:∃wo:World,wo=wr:=⟨_,rfl⟩;have HM:=zh hh.out.1;have HL:=zh hh.out.2.1;have uh:=zh hh.out.2.2.1;have HAC:=zh hh.out.2.2.2.1;have HFS:=zh hh.out.2.2.2.2.1;have Yh:=zh hh.out.2.2.2.2.2.1;have vS:=zh hh.out.2.2.2.2.2.2;have XE:=zh hI;clear hh Fh Di
    cases k with
    | zero =>
     have HF:Hid (BM C.s (tn:Int) (.mk x.kind false 0 ⟨#[]⟩ 0 (KL.map (·.v)) (IL.map (·.v)) [])=true):=by
      show _=_
      rw[HK.out];exact fU HR.out.1 HR.out.2 (by rw[Ed.out];exact HK.out) (by rw[Ed.out,AAd];have:=XE.out;have:=bF.out;omega) (by rw[AAd,AAd];exact uh.out) (fun z hz=>by obtain ⟨y,hy,rfl⟩:=List.mem_map.1 hz;rw[Ed.out];exact HFS.out y hy) HAC (fun z hz=>by obtain ⟨y,hy,rfl⟩:=List.mem_map.1 hz;rw[Ed.out];exact Yh.out y hy)
     clear hI;go_wp2;go_meet;exact ⟨_,_,_,_,_,_,_,KL,IL,[],l3,HM.out,Nat.le_trans HL HL2.out.1,⟨by have:=XE.out;have:=bF.out;omega,by have:=XE.out;have:=bF.out;have:=uh.out;omega,by simp⟩,HF.out⟩
    | succ k =>
     have h1:((k+1:Nat):Int) > 0:=by omega
     have h2:((k+1:Nat):Int) - 1=(k:Int):=by omega
     have hkb:k<=10:=by have:=bF.out;omega
     have HKB:Hid (KL.length<=10):=by show _<=_;have:=bF.out;omega
     obtain ⟨b0,b1,b2,b3,b4,b5,b6,b7,b8,b9⟩:=zG HM.out.cells;have Dz:Hid (∀ (l':List Int) (t:Int),l'.length<=l3.length->t<(C.s.length:Int)->l'.length * 7+LF C.s t<n):=fun l' t hl ht=>by
      have h1:=HL2.out.2 (by omega)
      have h2:=HN.out;have h3:=dx HO.out.len ht;have h4:=HL.out;rw[oQ.out] at h2
      omega
     clear hI;go_wp2_with fail;refine (EI.out x.key _ l3 (Dz.out l3 _ (AAP _) jT.out.2) jT HM.out.ms).mono ?_;rintro e w3 ⟨y,l5,rfl,g1,g2,g3,g4,g5⟩;have QF:=zh (HM.out.BJ g2 g3);have Iz:=zh (HM.out.hot g1);have bD:=zh g4;have Yf:=zh g5;have bC:=zh (QF.out.below (zD w3 (.cells y.cells.toArray 28)));have HXB:=zh (Iz.out.low (zD w3 (.cells y.cells.toArray 28)))
     have HKX:Hid ((w3.alloc (.cells y.cells.toArray 28)).heap[w3.heap.size]? = some (.cells y.cells.toArray 28)):=AAL w3 _;have HQK:Hid (p<w3.heap.size):=QF.out.vb.lt;clear g1 g2 g3 g4 g5 b0 b1 b2 b3 b4 b5 b6 b7 b8 b9;unfold Aj.cells Val.cs at bC HXB HKX;go_upto_region 43 with fail
     generalize w3.alloc (.cells #[.int .i64 y.v.kind,.bool y.v.bool,.int .i64 y.v.int,.string y.v.str,.int .i64 y.v.id,.slice y.A1 y.v.keys.length y.c1,.slice y.A2 y.v.items.length y.c2,.slice y.A3 y.v.rest.length y.c3] 28)=W4 at *;generalize w3.heap.size=qk at *;obtain ⟨A1,c1,rfl,_⟩:=Ab.reads bC.out.vb.ok;obtain ⟨A2,c2,rfl,_⟩:=Ab.reads bC.out.vb.oi;have HBP:=zh bC.out.bp
     have GX:=zh bC.out.ms.lt
     have E8:Hid (∀w',Ah C.b W4 w'->(w'.cell? ⟨p,0,none⟩=some (.int .i64 x.kind)/\w'.cell? ⟨p,1,none⟩=some (.bool false)/\w'.cell? ⟨p,2,none⟩=some (.int .i64 0)/\w'.cell? ⟨p,3,none⟩=some (.string ⟨#[]⟩)/\w'.cell? ⟨p,4,none⟩=some (.int .i64 0)/\w'.cell? ⟨p,5,none⟩=some (.slice A1 KL.length c1)/\w'.cell? ⟨p,6,none⟩=some (.slice A2 IL.length c2)/\w'.cell? ⟨p,7,none⟩=some AP)/\(w'.cell? ⟨qk,0,none⟩=some (.int .i64 y.v.kind)/\w'.cell? ⟨qk,1,none⟩=some (.bool y.v.bool)/\w'.cell? ⟨qk,2,none⟩=some (.int .i64 y.v.int)/\w'.cell? ⟨qk,3,none⟩=some (.string y.v.str)/\w'.cell? ⟨qk,4,none⟩=some (.int .i64 y.v.id)/\w'.cell? ⟨qk,5,none⟩=some (.slice y.A1 y.v.keys.length y.c1)/\w'.cell? ⟨qk,6,none⟩=some (.slice y.A2 y.v.items.length y.c2)/\w'.cell? ⟨qk,7,none⟩=some (.slice y.A3 y.v.rest.length y.c3))/\w'.cell? ⟨px,8,none⟩=some (.int .i64 x.elem)):=fun w' hb=>by
      have hbp:=HBP.out;obtain ⟨_,_,_,_,_,_,_,_,t8,_⟩:=zG (Ni bC.out.bx hb (by omega))
      exact ⟨(bC.out.vb.BJ hb hbp.2.2).cells.1,(zK (Ni HKX hb (by have:=HQK.out;omega))).1,t8⟩
     refine yE (S:=(fun w'=>(w'.cell? ⟨p,0,none⟩=some (.int .i64 x.kind)/\w'.cell? ⟨p,1,none⟩=some (.bool false)/\w'.cell? ⟨p,2,none⟩=some (.int .i64 0)/\w'.cell? ⟨p,3,none⟩=some (.string ⟨#[]⟩)/\w'.cell? ⟨p,4,none⟩=some (.int .i64 0)/\w'.cell? ⟨p,5,none⟩=some (.slice A1 KL.length c1)/\w'.cell? ⟨p,6,none⟩=some (.slice A2 IL.length c2)/\w'.cell? ⟨p,7,none⟩=some AP)/\(w'.cell? ⟨qk,0,none⟩=some (.int .i64 y.v.kind)/\w'.cell? ⟨qk,1,none⟩=some (.bool y.v.bool)/\w'.cell? ⟨qk,2,none⟩=some (.int .i64 y.v.int)/\w'.cell? ⟨qk,3,none⟩=some (.string y.v.str)/\w'.cell? ⟨qk,4,none⟩=some (.int .i64 y.v.id)/\w'.cell? ⟨qk,5,none⟩=some (.slice y.A1 y.v.keys.length y.c1)/\w'.cell? ⟨qk,6,none⟩=some (.slice y.A2 y.v.items.length y.c2)/\w'.cell? ⟨qk,7,none⟩=some (.slice y.A3 y.v.rest.length y.c3))/\w'.cell? ⟨px,8,none⟩=some (.int .i64 x.elem))) 7 (by kernel_rfl) ?_ (fun AQ=>?_)
     ·(try dsimp only);exact E8.out _ (Ah.of (zC (Pe _ _) 1) (AAV GX))
     refine tB 0 ?_;try simp only[ps]
     refine tB 1 ?_;try simp only[ps]
     refine tC 2 ?_;try simp only[ps]
     refine tC 3 ?_;try simp only[ps]
     refine tB 4 ?_;try simp only[ps]
     refine tS 5 (fun K hK=>?_)
     go_simp
     (have VT:=zh (Ah.of (zC (Pe W4.heap.size W4) 1) (AAV GX));have Pq:=zh (bC.out.below (zC (Pe _ _) 1));have HXD:=zh (HXB.out.low (zC (Pe W4.heap.size W4) 1));refine (EI.out x.elem _ l5 (Dz.out l5 _ bD KX.out.2) KX Pq.out.ms).mono ?_;rintro e w6 ⟨z,l6,rfl,g1,g2,g3,g4,g5⟩;have Gb:=zh (Pq.out.BJ g2 g3);have Iy:=zh (Pq.out.hot g1);have au:=zh (g2.off (.inl (AAV HBP.out.2.2)) HXD);have BH:=zh (VT.out.trans g2);have oW:=zh g4;have NS:=zh g5;clear g1 g2 g3 g4 g5)
     refine hK.out _ _ ?_ (fun AQ=>?_)
     ·(try dsimp only);exact E8.out _ BH
     clear hK K;try simp only[ps]
     refine tS 6 (fun K hK=>?_)
     go_simp
     (have vT:Hid (∀v∈KL,v.v.kind=y.v.kind/\(1<=v.v.kind/\v.v.kind<=4)/\(v.v.kind=2->In64 v.v.int/\In64 y.v.int)/\(v.v.str.size<=9223372036854775807/\y.v.str.size<=9223372036854775807)):=fu vW HFS Yf Gb au;have hp:=eX Gb.out.vb.ok Gb.out.vb.oi uh (by have:=HKB.out;omega) vS y z vT;rw[show (8:Int)=x.kind from HK.out.symm] at hp;refine hp.mono ?_;clear hp;rintro e w8 hpp;obtain ⟨Kn,Gd,K',I',rfl,EM,hm9,r1,r2,r3,r4,r5,r6⟩:=Gb.out.AAz HK au Iy uh (fun v hv=>⟨(vT.out v hv).1,(vT.out v hv).2.1⟩) HAC hpp;obtain ⟨A3,n3,c3,rfl⟩:=Jz hm9.vb.ok;obtain ⟨A4,n4,c4,rfl⟩:=Jz hm9.vb.oi;have aT:=zh hm9;have BK:=zh EM;have Jf:=zh (bT (Gb.out.below EM).vb);have HR1:=zh r1;have HR2:=zh r2;have HR3:=zh r3;have HR4:=zh r4;have jO:=zh r5;have uN:=zh r6;clear hpp EM hm9 r1 r2 r3 r4 r5 r6)
     refine hK.out _ _ ?_ (fun AQ=>?_)
     ·(try dsimp only);exact E8.out _ (BH.out.below BK GX)
     clear hK K;try simp only[ps]
     refine zV (rs:=[7]) (by kernel_rfl) (by simp) ?_
     refine AB.last rfl (by kernel_rfl) (fun K hK=>?_) AB.nil
     (simp only[List.getElem_toArray,List.getElem_cons_zero,List.getElem_cons_succ];rw[AAH (by rfl)];refine wp_store_mid 28 (.tmp 6) (.tmp 218) rfl (p) (0) (#[.int .i64 x.kind,.bool false,.int .i64 0,.string ⟨#[]⟩,.int .i64 0,.slice A3 n3 c3,.slice A4 n4 c4,AP]) (by rfl) (by rfl) ?_ ?_ ?_ ?_;(exact Jf.out);(exact Cn);(exact mh _ _ _ _ _ _ _))
     refine hK.out _ _ ?_;clear hK K
     (try clear AQ)
     try simp only[ps]
     refine wpAny_done (by kernel_rfl) ?_ _
     have ACN:Hid (∀v∈K',BM C.s x.key v.v=true):=fun v hv=>by
      rcases HR4.out v hv with h|rfl
      ·exact HFS.out v h
      ·exact Yf.out
     have ACO:Hid (∀v∈I',BM C.s x.elem v.v=true):=fun v hv=>by
      rcases jO.out v hv with h|rfl
      ·exact Yh.out v h
      ·exact NS.out
     have AB4:Hid (K'=[]->(.slice A3 n3 c3:Value)=AP/\(.slice A4 n4 c4:Value)=AP):=fun e=>by
      obtain ⟨e1,e2,e3⟩:=uN.out e;rw[e1,e2];exact vS.out e3
     go_wp2
     go_roundw
     case rel=>exact ⟨k,_,_,K',I',l6,by have:=HR2.out;have:=XE.out;omega,by go_num,aT.out,Nat.le_trans oW (Nat.le_trans bD HL),HR1.out,HR3.out,ACN.out,ACO.out,AB4.out⟩
     case measure=>simp[intOf]
 case rest =>
 obtain ⟨bo,it,st,di,vk,vi,vr,K,I,R,l',hm,hl,hz,hf⟩:=hcut.out;obtain ⟨A1,c1,rfl,_⟩:=Ab.reads hm.vb.ok;obtain ⟨A2,c2,rfl,_⟩:=Ab.reads hm.vb.oi;obtain ⟨A3,c3,rfl,_⟩:=Ab.reads hm.vb.Rp;have HG2:=zh (hm.fin hl hz hf);have KW:=zh (Gr hm.bq (.int .i64 x.kind) (.bool bo) (.int .i64 it) (.string st) (.int .i64 di) (.slice A1 K.length c1) (.slice A2 I.length c2) (.slice A3 R.length c3))
 obtain ⟨⟨x0,x1,x2,x3,x4,x5,x6,x7⟩,y0,y1,y2,y3,y4,y5,y6,y7⟩:=zK hm.bq;obtain ⟨⟨v0,v1,v2,v3,v4,v5,v6,v7⟩,_⟩:=hm.vb.cells;clear hcut hm hl hz hf;go_wp2;clear x0 x1 x2 x3 x4 x5 x6 x7 y0 y1 y2 y3 y4 y5 y6 y7 v0 v1 v2 v3 v4 v5 v6 v7;unfold Go.Proofs.YthkkllmmbefedaaGreatDoor.q8 Go.Proofs.YthkkllmmbefedaaGreatDoor.q5 at HG2 KW
 generalize World.setCell _ _ _=W9 at *;obtain ⟨⟨x0,x1,x2,x3,x4,x5,x6,x7⟩,_⟩:=zK KW
 exact bodyPost_ret (v := .agg #[.int .i64 x.kind,.bool bo,.int .i64 it,.string st,.int .i64 di,.slice A1 K.length c1,.slice A2 I.length c2,.slice A3 R.length c3]) (by simp[results,Tryz.results74,go_sem,x0,x1,x2,x3,x4,x5,x6,x7]) rfl HG2
end Go.Proofs.YthkkllmmbefedaaGreatDoor



