/-
  Walks: literal.Parse: its tokens.
-/
import Derived.Test.YthkkllmmbefedaaGreatDoorQGD0
import Derived.Test.YthkkllmmbefedaaGreatDoorQGA8
import Derived.Test.YthkkllmmbefedaaGreatDoorQGE0
import Derived.Test.YthkkllmmbefedaaGreatDoorQGB0
namespace Go.Proofs.YthkkllmmbefedaaGreatDoor
open Go.RowKit
set_option maxHeartbeats 16000000
set_option maxRecDepth 100000
theorem Ue {f:Int->List AQ->Bool->PR Val} {x:Ae} {l:List AQ} {k:Bool} :
  (x.kind=1->FW false f x l k=(UC l k).bind fun p => .ok (.mk 1 p.1 0 ⟨#[]⟩ 0 [] [] [],p.2))/\(x.kind=2->FW false f x l k=(FY 2 l).bind fun p => .ok (.mk 2 false p.1.int ⟨#[]⟩ 0 [] [] [],p.2,k)) /\
  (x.kind=3->FW false f x l k=(FY 3 l).bind fun p => .ok (.mk 3 false 0 p.1.str 0 [] [] [],p.2,k))/\(x.kind=4->FW false f x l k=(Tt false x l k).bind fun p => .ok (.mk 4 false 0 ⟨#[]⟩ p.1 [] [] [],p.2)) /\
  (x.kind=5->FW false f x l k=Uu 5 (Kj false f x l k))/\(x.kind=6->FW false f x l k=yM 6 (SC false f x l k))/\(x.kind=7->FW false f x l k=tY 7 (MZ f x l k))/\(x.kind=8->FW false f x l k=yh 8 (TP f x l k))/\(x.kind=9->FW false f x l k=TD 9 (Iw f x l k)):=by
 unfold FW;refine ⟨fun h=>?_,fun h=>?_,fun h=>?_,fun h=>?_,fun h=>?_,fun h=>?_,fun h=>?_,fun h=>?_,fun h=>?_⟩ <;> (rw[h];rfl)
variable {e t:Int}
theorem O8 {C:FK} {W Wb:World} {p q:Nat} {kd:Int} {r:List AQ} {k:Bool} (hb0:Ay C.b W Wb) (hq:W.heap.size<=q/\q<p) (hlb:C.b<W.heap.size) {wx:World} {bo:Bool} {it:Int} {st:ByteArray} {di:Int} {vk vi vr:Value} {K I:List Au} {R:List Ak} {r':List AQ} {k':Bool} {e':Int} (hr:CX C wx r' k' e') (hv:Gx p wx kd bo it st di vk vi vr K I R) (hb:Ay C.b Wb wx) (hl:r'.length<=r.length) (hz:K.length<=2000000/\I.length<=2000000/\R.length<=2000000) (hs:Wb.heap[q]? = some zO) (h1:e≠0->e'=e) (h2:e=0->match CU false C.s t r k with
   | .ok (v,r1,k1)=>v = .mk kd bo it st di (K.map (·.v)) (I.map (·.v)) R/\r'=r1/\k'=k1/\e'=0
   | .error e1=>e'=e1):
  ∃A1 c1 A2 c2 A3 c3,vk = .slice A1 K.length c1/\vi = .slice A2 I.length c2/\vr = .slice A3 R.length c3/\wx.heap[q]? = some zO /\
   mR C t W r k e (.returned (.agg #[.int .i64 kd,.bool bo,.int .i64 it,.string st,.int .i64 di,.slice A1 K.length c1,.slice A2 I.length c2,.slice A3 R.length c3])) (Go.Proofs.YthkkllmmbefedaaGreatDoor.q8 wx q (.int .i64 kd) (.bool bo) (.int .i64 it) (.string st) (.int .i64 di) (.slice A1 K.length c1) (.slice A2 I.length c2) (.slice A3 R.length c3)):=by
 obtain ⟨A1,c1,A2,c2,A3,c3,e1,e2,e3,ho⟩:=hv.fin (by unfold DU;omega) (by unfold DU;omega) (by unfold DU;omega)
 refine ⟨A1,c1,A2,c2,A3,c3,e1,e2,e3,I5 hs hb (by omega),⟨.mk kd bo it st di (K.map (·.v)) (I.map (·.v)) R,A1,c1,A2,c2,A3,c3⟩,?_,?_,?_,r',k',e',hr.yS (by omega) _ _ _ _ _ _ _ _,hl,h1,fun h0=>?_⟩
 ·show Ending.returned (.agg #[.int .i64 kd,.bool bo,.int .i64 it,.string st,.int .i64 di,.slice A1 K.length c1,.slice A2 I.length c2,.slice A3 R.length c3]) = .returned (.agg #[.int .i64 kd,.bool bo,.int .i64 it,.string st,.int .i64 di,.slice A1 (K.map (·.v)).length c1,.slice A2 (I.map (·.v)).length c2,.slice A3 R.length c3])
  rw[AAZ,AAZ]
 ·exact (EA ho (B:=q) (AAe hq.2) _ _ _ _ _ _ _ _).mono fun s _ hs=>by have:=hq.1;omega
 ·exact (hb0.trans hb).eight _ _ _ _ _ _ _ _ hq.1 hlb
 ·have h3:=h2 h0
  cases hw:CU false C.s t r k with
  | error e1=>rw[hw] at h3;exact h3
  | ok z=>rw[hw] at h3;exact ⟨h3.1.symm,h3.2⟩
theorem Ud {C:FK} (hl:∀t,(AB C.s t).kind=2\/(AB C.s t).kind=5\/(AB C.s t).kind=9\/(AB C.s t).kind=0) (hv:zQ C.s=0) {n:Nat} (ih:JH C n):JH C (n+1):=by
 intro t W r k e hn hr h
 obtain ⟨tn,rfl⟩:=AAT hr.1;have htn:tn<C.s.length:=by omega
 obtain ⟨bq,oq,As,cs,Am,cm,hA,htr,t0,t1,t2,t3,t4,t5,t6,t7,t8,t9⟩:=h.ok.ty.FQ htn;have fD:Hid (CU false C.s (tn:Int) r k=FW false (CU false C.s) C.s[tn] r k):=by show _=_;rw[gX,zT htn]
 have ZL:Hid (1<=(C.s[tn]).kind/\(C.s[tn]).kind<=9):=by have:=Dh hv hr;rw[zT htn] at this;exact this
 have lZ:Hid ((C.s[tn]).kind=2\/(C.s[tn]).kind=5\/(C.s[tn]).kind=9):=by have h1:=hl (tn:Int);rw[zT htn] at h1;have h2:=ZL.out;show _\/_\/_;omega
 have nL:Hid (Eu (C.s[tn]).kind->0<=(C.s[tn]).elem/\(C.s[tn]).elem<(C.s.length:Int)):=by have:=JC hv hr;rw[zT htn] at this;exact this
 have gM:Hid ((C.s[tn]).kind=8->0<=(C.s[tn]).key/\(C.s[tn]).key<(C.s.length:Int)):=fun hk=>by have:=(Kv hv hr (by rw[zT htn];exact hk)).1;rw[zT htn] at this;exact this
 have HMR:Hid ((C.s[tn]).kind=5\/(C.s[tn]).kind=6->∀y∈(C.s[tn]).AA,0<=y.type/\y.type<(C.s.length:Int)):=fun hk y hy=>(jk hv (AAK htn) hy).2
 have hls:=LV hv;have Dv:=zh htr;have IJ:=zh h;have HN:Hid (r.length<=n):=by show _<=_;omega
 have E5:=zh ih;have NT:=zh h.lt;generalize C.s[tn]=x at *;have sN:=zh (zI W (Qr C) zO);have ZV:Hid (((W.alloc (Qr C)).alloc zO).heap[W.heap.size]? = some (Qr C)):=BR (AAC W (Qr C)) (zD _ _);have qQ:Hid (((W.alloc (Qr C)).alloc zO).heap[W.heap.size+1]? = some zO):=by
  show _=_
  have:=AAC (W.alloc (Qr C)) zO;rw[show (W.alloc (Qr C)).heap.size=W.heap.size+1 by simp] at this
  exact this
 have hza:((W.alloc (Qr C)).alloc zO).heap.size=W.heap.size+2:=by simp
 have HZA:=zh hza;clear h ih hn htr hv hr hl
 go_enter Tryz.func79,Tryz.ntmps79
 go_upto_region 1 with fail
 generalize (W.alloc (Qr C)).alloc zO=Wa at *;have HR1:=zh (IJ.out.below sN);obtain ⟨⟨c0,_,_,_,_⟩,_⟩:=HR1.out.cells;rw[hA] at c0;have rr:Wa.cell? ⟨W.heap.size,0,none⟩=some (.pointer (some ⟨C.b,0,none⟩)):=by rw[AAE _ _ _ _ _ _ ZV.out];rfl
 have i0:(0:Int)<=(tn:Int):=by omega
 have i1:(tn:Int)<(C.s.length:Int):=by omega
 have ADb:(C.s.length:Int)<=32:=by omega
 replace t0:=zA HR1.out.up t0;replace t1:=zA HR1.out.up t1;replace t2:=zA HR1.out.up t2;replace t3:=zA HR1.out.up t3;replace t4:=zA HR1.out.up t4;replace t5:=zA HR1.out.up t5;replace t6:=zA HR1.out.up t6;replace t7:=zA HR1.out.up t7;replace t8:=zA HR1.out.up t8;replace t9:=zA HR1.out.up t9;clear hA hza;go_upto_region 3 with fail
 clear t0 t1 t2 t3 t4 t5 t6 t7 t8 t9 c0 rr i0 i1;have GX:=zh (zD Wa (x.box As cs Am cm));have hzb:(Wa.alloc (x.box As cs Am cm)).heap.size=Wa.heap.size+1:=by simp
 have Ua:Hid (MQ C (Wa.alloc (x.box As cs Am cm)) (Wa.heap.size+1) x.kind ((Wa.alloc (x.box As cs Am cm)).alloc (Ht x.kind false 0 ⟨#[]⟩ 0 AR AR AR)) r k e 0 AR AR AR [] [] []):=by
  have h1:=Gx.new (Wa.alloc (x.box As cs Am cm)) x.kind;rw[hzb] at h1;have h2:=HR1.out.below GX;exact ⟨h2.below (zD _ _),h1,Ay.of (zD _ _) (AAe h2.lt),Nat.le_of_eq hzb,h2.lt⟩
 have BI:Hid (((Wa.alloc (x.box As cs Am cm)).alloc (Ht x.kind false 0 ⟨#[]⟩ 0 AR AR AR)).heap[Wa.heap.size]? = some (x.box As cs Am cm)):=BR (AAC Wa _) (zD _ _);have vg:Hid (((Wa.alloc (x.box As cs Am cm)).alloc (Ht x.kind false 0 ⟨#[]⟩ 0 AR AR AR)).heap[W.heap.size]? = some (Qr C)):=BR (BR ZV GX) (zD _ _);have vY:=zh (BR qQ GX)
 have HB0:=zh (Ay.of (zB sN GX) (AAe NT));have AEj:=zh (BR ZV GX);unfold Ht at Ua BI vg;generalize Wa.alloc (x.box As cs Am cm)=Wb at *;generalize Wb.alloc _=Wc at *;obtain ⟨px,hpx⟩:∃px,Wa.heap.size=px:=⟨_,rfl⟩;obtain ⟨p,hp⟩:∃p,px+1=p:=⟨_,rfl⟩;have HLO:Hid (W.heap.size+2=px/\px+1=p):=⟨by rw[<-hpx,HZA.out],hp⟩
 rw[hpx,hp] at Ua;rw[hpx] at BI;rw[hpx,hp];clear hpx hp hzb GX sN ZV qQ HR1 IJ HZA;have rr:Wc.cell? ⟨W.heap.size,0,none⟩=some (.pointer (some ⟨C.b,0,none⟩)):=by rw[AAE _ _ _ _ _ _ vg.out];rfl
 have rz:=Ua.out.rd.zero
 by_cases he:e=0
 case neg =>
  have q1:(e != 0)=true:=by simp[he]
  obtain ⟨A1,c1,A2,c2,A3,c3,e1,e2,e3,g1,g2⟩:=O8 (t:=(tn:Int)) HB0 (q:=W.heap.size+1) (by have:=HLO.out;omega) NT Ua.out.rd Ua.out.vb Ua.out.fr (AAH _) z3 vY (fun _=>rfl) (fun h=>absurd h he)
  injection e1 with e1 e4 e5
  injection e2 with e2 e6 e7
  injection e3 with e3 e8 e9
  subst e1 e2 e3 e5 e7 e9;have HG2:=zh g2;have LP:=zh (F6 g1 (.int .i64 x.kind) (.bool false) (.int .i64 0) (.string ⟨#[]⟩) (.int .i64 0) AR AR AR);obtain ⟨⟨x0,x1,x2,x3,x4,x5,x6,x7⟩,y0,y1,y2,y3,y4,y5,y6,y7⟩:=zK g1;obtain ⟨⟨v0,v1,v2,v3,v4,v5,v6,v7⟩,_⟩:=Ua.out.vb.cells;clear e4 e6 e8;go_wp2;clear x0 x1 x2 x3 x4 x5 x6 x7 y0 y1 y2 y3 y4 y5 y6 y7 v0 v1 v2 v3 v4 v5 v6 v7
  unfold Go.Proofs.YthkkllmmbefedaaGreatDoor.q8 Go.Proofs.YthkkllmmbefedaaGreatDoor.q5 at HG2 LP;generalize World.setCell _ _ _=W9 at *;obtain ⟨⟨x0,x1,x2,x3,x4,x5,x6,x7⟩,_⟩:=zK LP
  refine bodyPost_ret (v := .agg #[.int .i64 x.kind,.bool false,.int .i64 0,.string ⟨#[]⟩,.int .i64 0,AR,AR,AR]) (by simp[results,Tryz.results79,go_sem,x0,x1,x2,x3,x4,x5,x6,x7]) rfl HG2
 subst he;obtain ⟨b0,b1,b2,b3,b4,b5,b6,b7,b8,b9⟩:=zG (show BX Wc px x As cs Am cm from BI.out)
 go_upto_block 0 with fail
 clear b0 b1 b2 b3 b4 b5 b6 b7 b8 b9
 go_cut [] (fun wx=>Hid (VaP C Wb p x.kind r (FW false (CU false C.s) x r k) wx))
 case first =>
  have hkk:x.kind=2\/x.kind=5\/x.kind=9:=lZ.out
  rcases hkk with hk|hk|hk
  ·as_aux_lemma =>
   have q1:(x.kind==1)=false:=by simp[hk]
   have q2:(x.kind==2)=true:=by simp[hk]
   have HB:=zh ((Ue (f:=CU false C.s) (x:=x) (l:=r) (k:=k)).2.1 hk);have HK:=zh hk;clear hk;go_wp2_with fail;refine (Fp 2 Ua.out.rd).mono ?_
   intro y w4 h4
   obtain ⟨t0,r1,e1,rfl,g1,g2,g3⟩:=Nc h4;have rE:=zh (Ua.out.Cn g1 g2);have mr:=zh g3;have fd2:=Tm;have fd3:=Tk;obtain ⟨⟨_,_,c2,_,_,_,_,_⟩,cf⟩:=rE.out.vb.cells;have fz:=cf 2;clear h4 g1 g2 g3 cf
   have HG:Hid (Gx p (w4.setCell ⟨p,2,none⟩ (.int .i64 t0.int)) x.kind false t0.int ⟨#[]⟩ 0 AR AR AR [] [] []/\CX C (w4.setCell ⟨p,2,none⟩ (.int .i64 t0.int)) r1 k e1/\Ay C.b Wb (w4.setCell ⟨p,2,none⟩ (.int .i64 t0.int))):=by
    have h:=rE.out;exact ⟨h.vb.Ol (j:=2) rfl (rE.out.vb.str),h.rd.FN (by have:=h.bp;omega) (by have:=h.bp;have:=h.rd.ok.ge;omega) 2 _,⟨h.fr.Bb.setCell (p:=⟨p,2,none⟩) (AAe h.bp) _,fun q hq hl=>(AAF _ _ _ _ (by have:=h.lo;simp only;omega)).trans (h.fr.FN q hq hl)⟩⟩
   have HP:Hid (match FW false (CU false C.s) x r k with
    | .ok (v,r1',k1)=>v = .mk x.kind false t0.int ⟨#[]⟩ 0 [] [] []/\r1=r1'/\k=k1/\e1=0
    | .error e=>e1=e):=by
    show match FW false (CU false C.s) x r k with
    | .ok (v,r1',k1)=>v = .mk x.kind false t0.int ⟨#[]⟩ 0 [] [] []/\r1=r1'/\k=k1/\e1=0
    | .error e=>e1=e
    have ht:=mr.out.tk;rw[HB.out,HK.out]
    cases hk1:FY 2 r with
    | error e=>rw[hk1] at ht;exact ht.1
    | ok q=>rw[hk1] at ht;rw[zM,<-ht.1,<-ht.2.1];exact ⟨rfl,rfl,rfl,ht.2.2.1⟩
   go_wp2
   go_meet
   exact ⟨false,t0.int,⟨#[]⟩,0,_,_,_,[],[],[],r1,k,e1,HG.out.2.1,HG.out.1,HG.out.2.2,mr.out.1.1,z3,HP.out⟩
  ·as_aux_lemma =>
   have q1:(x.kind==1)=false:=by simp[hk]
   have q2:(x.kind==2)=false:=by simp[hk]
   have q3:(x.kind==3)=false:=by simp[hk]
   have q4:(x.kind==4)=false:=by simp[hk]
   have q5:(x.kind==5)=true:=by simp[hk]
   have HB:=zh ((Ue (f:=CU false C.s) (x:=x) (l:=r) (k:=k)).2.2.2.2.1 hk);have HK:=zh hk;clear hk;obtain ⟨b0,b1,b2,b3,b4,b5,b6,b7,b8,b9⟩:=zG (show BX Wc px x As cs Am cm from BI.out);go_wp2_with fail;refine (Ut E5 Dv Ua HN (HMR.out (.inl HK.out))).mono ?_;rintro y w4 ⟨rfl,g1⟩;have HF:=zh g1.va;clear g1 b0 b1 b2 b3 b4 b5 b6 b7 b8 b9;go_wp2;go_meet;rw[HB.out]
   have:=HF.out;rw[HK.out] at this ⊢;exact this
  ·as_aux_lemma =>
   have q1:(x.kind==1)=false:=by simp[hk]
   have q2:(x.kind==2)=false:=by simp[hk]
   have q3:(x.kind==3)=false:=by simp[hk]
   have q4:(x.kind==4)=false:=by simp[hk]
   have q5:(x.kind==5)=false:=by simp[hk]
   have q6:(x.kind==6)=false:=by simp[hk]
   have q7:(x.kind==7)=false:=by simp[hk]
   have q8:(x.kind==8)=false:=by simp[hk]
   have q9:(x.kind==9)=true:=by simp[hk]
   have HB:=zh ((Ue (f:=CU false C.s) (x:=x) (l:=r) (k:=k)).2.2.2.2.2.2.2.2 hk);have HK:=zh hk;clear hk;obtain ⟨b0,b1,b2,b3,b4,b5,b6,b7,b8,b9⟩:=zG (show BX Wc px x As cs Am cm from BI.out);go_wp2_with fail;refine (Qz E5 Ua HN (nL.out (by unfold Eu;rw[HK.out];decide))).mono ?_
   rintro y w4 ⟨rfl,g1⟩;have HF:=zh g1.va;clear g1 b0 b1 b2 b3 b4 b5 b6 b7 b8 b9;go_wp2;go_meet;rw[HB.out];have:=HF.out;rw[HK.out] at this ⊢;exact this
 case rest =>
 obtain ⟨W5,rfl⟩:∃W:World,W=wc:=⟨_,rfl⟩;obtain ⟨bo,it,st,di,vk,vi,vr,K,I,R,r',k',e',j1,j2,j3,j4,j5,j6⟩:=hcut.out;rw[<-fD.out] at j6;obtain ⟨A1,c1,A2,c2,A3,c3,rfl,rfl,rfl,g1,g2⟩:=O8 (t:=(tn:Int)) (e:=0) HB0 (q:=W.heap.size+1) (by have:=HLO.out;omega) NT j1 j2 j3 j4 j5 vY (fun h=>absurd rfl h) (fun _=>j6)
 have HG2:=zh g2;have LP:=zh (F6 g1 (.int .i64 x.kind) (.bool bo) (.int .i64 it) (.string st) (.int .i64 di) (.slice A1 K.length c1) (.slice A2 I.length c2) (.slice A3 R.length c3));obtain ⟨⟨x0,x1,x2,x3,x4,x5,x6,x7⟩,y0,y1,y2,y3,y4,y5,y6,y7⟩:=zK g1;obtain ⟨⟨v0,v1,v2,v3,v4,v5,v6,v7⟩,_⟩:=j2.cells;clear g1 g2 hcut j1 j2 j3 j4 j5 j6;go_wp2
 clear x0 x1 x2 x3 x4 x5 x6 x7 y0 y1 y2 y3 y4 y5 y6 y7 v0 v1 v2 v3 v4 v5 v6 v7;unfold Go.Proofs.YthkkllmmbefedaaGreatDoor.q8 Go.Proofs.YthkkllmmbefedaaGreatDoor.q5 at HG2 LP;generalize World.setCell _ _ _=W9 at *;obtain ⟨⟨x0,x1,x2,x3,x4,x5,x6,x7⟩,_⟩:=zK LP
 refine bodyPost_ret (v := .agg #[.int .i64 x.kind,.bool bo,.int .i64 it,.string st,.int .i64 di,.slice A1 K.length c1,.slice A2 I.length c2,.slice A3 R.length c3]) (by simp[results,Tryz.results79,go_sem,x0,x1,x2,x3,x4,x5,x6,x7]) rfl HG2
theorem Sj {C:FK} (hl:∀t,(AB C.s t).kind=2\/(AB C.s t).kind=5\/(AB C.s t).kind=9\/(AB C.s t).kind=0) (hv:zQ C.s=0):∀n,JH C n
 | 0=>fun _ _ _ _ _ h=>absurd h (Nat.not_lt_zero _)
 | n+1=>Ud hl hv (Sj hl hv n)
def LrP (s:List Ae) (A:zo) (c:Nat) (l:List AQ) (AL:zo) (cL:Nat) (t:Int) (w:World) (y:Ending) (w':World):Prop :=
 ∃ (x:Au) (b:Nat),y = .returned (.tuple #[x.v.v x.A1 x.c1 x.A2 x.c2 x.A3 x.c3,.pointer (some ⟨b,0,none⟩)])/\Off (fun q=>q<w.heap.size) w' (fun u=>Az u x.v x.A1 x.A2 x.A3)/\Below w.heap.size w w'/\∃r' k' e',CX ⟨w,s,A,c,l,AL,cL,b⟩ w' r' k' e' /\
  (if t<0\/(s.length:Int)<=t then e'=4 else match Fa false s t l with
   | .ok (v,r,k)=>x.v=v/\r'=r/\k'=k/\e'=0
   | .error e1=>e'=e1)
variable {s:List Ae}
theorem YR (h3:∀t,(AB s t).kind=2\/(AB s t).kind=5\/(AB s t).kind=9\/(AB s t).kind=0) (hv:zQ s=0) (A:zo) (c:Nat) (t:Int) (l:List AQ) (AL:zo) (cL:Nat) (hl:l.length<=1000000) (w:World) (hs:CQ w A s) (ht:JE w AL l):
  Calls Tryz.prog 50 #[.agg #[.slice A s.length c],.int .i64 t,.slice AL l.length cL] w (LrP s A c l AL cL t w):=by
 have HS:=zh hs;have HT:=zh ht;have HL:=zh hl;have HV:=zh hv;have H3:=zh h3;have hls:=LV hv;have HB2:=zh (zI w (.cells #[.slice A s.length c] 31) zO);have UO:=zh (zw w (.cells #[.slice A s.length c] 31) zO);have fA:Hid (((w.alloc (.cells #[.slice A s.length c] 31)).alloc zO).heap[w.heap.size+1]? = some zO):=by
  show _=_
  have:=AAC (w.alloc (.cells #[.slice A s.length c] 31)) zO;rw[show (w.alloc (.cells #[.slice A s.length c] 31)).heap.size=w.heap.size+1 by simp] at this
  exact this
 have hz2:((w.alloc (.cells #[.slice A s.length c] 31)).alloc zO).heap.size=w.heap.size+2:=by simp
 have HZ2:=zh hz2;clear hs ht hl hv hz2 h3
 go_enter Tryz.func50,Tryz.ntmps50
 go_upto_region 1 with fail
 generalize (w.alloc (.cells #[.slice A s.length c] 31)).alloc zO=W2 at *;have x0:=zb UO;go_upto_region 2 with fail
 have GH:Hid (CX ⟨w,s,A,c,l,AL,cL,W2.heap.size⟩ (W2.alloc (FK.o ⟨w,s,A,c,l,AL,cL,W2.heap.size⟩ 0 false 0)) l false 0):=by
  refine ⟨⟨HS.out,HT.out,by show w.heap.size<=W2.heap.size;rw[HZ2.out];omega,HL.out⟩,?_,List.suffix_refl _,HB2.out.trans ((zD W2 _).mono HB2.out.size)⟩
  show _=some (FK.o _ (l.length - l.length) false 0)
  rw[Nat.sub_self];exact AAC W2 _
 have Ej:=zh (zD W2 (FK.o ⟨w,s,A,c,l,AL,cL,W2.heap.size⟩ 0 false 0));unfold FK.o at GH Ej;simp only at GH Ej;generalize W2.alloc _=W3 at *;have ZE:=zh (BR UO Ej);have ZF:=zh (BR fA Ej);have HB3:=zh (HB2.out.trans (Ej.out.mono HB2.out.size));clear x0;have x0:=zb ZE;obtain ⟨b,hb⟩:∃b,W2.heap.size=b:=⟨_,rfl⟩
 have GX:Hid (b=w.heap.size+2):=by show _=_;rw[<-hb];exact HZ2.out
 rw[hb] at GH;rw[hb];clear hb Ej UO fA HB2 HZ2
 by_cases hr:t<0\/(s.length:Int)<=t
 ·have HR:=zh hr
  have HC:Hid (decide (t<0)=true\/(decide (t<0)=false/\(t >= (s.length:Int)))):=by
   rcases Int.lt_or_le t 0 with h|h
   ·exact .inl (AAX h)
   ·exact .inr ⟨AAU (by omega),hr.resolve_left (by omega)⟩
  have Hy:Hid (∀w5,CX ⟨w,s,A,c,l,AL,cL,b⟩ w5 l false (gH 0 4)->Ay b W3 w5->w5.heap[w.heap.size+1]? = some zO/\LrP s A c l AL cL t w (.returned (.tuple #[zeroV.v none 0 none 0 none 0,.pointer (some ⟨b,0,none⟩)])) (Go.Proofs.YthkkllmmbefedaaGreatDoor.q8 w5 (w.heap.size+1) (.int .i64 0) (.bool false) (.int .i64 0) (.string ⟨#[]⟩) (.int .i64 0) AR AR AR)):=fun w5 h1 h2=>by
   refine ⟨I5 ZF h2 (by have:=GX.out;omega),⟨zeroV,none,0,none,0,none,0⟩,b,rfl,(fun u _=>M9 u),?_,l,false,_,Sk h1 (B:=w.heap.size+1) (by have:=GX.out;show _≠b;omega) (by show w.heap.size<=_;omega) _ _ _ _ _ _ _ _,?_⟩
   ·exact BZ (HB3.out.trans (h2.Bb.mono (by have:=GX.out;omega))) (q:=w.heap.size+1) (by omega) _ _ _ _ _ _ _ _
   ·rw[AAG HR.out];rfl
  have hcc:=HC.out;clear hr
  rcases hcc with g1|⟨g1,g2⟩
  ·go_wp2_with fail
   refine (Ce 4 GH).mono ?_;rintro y w5 ⟨rfl,j1,j2⟩;obtain ⟨k1,k2⟩:=Hy.out _ j1 j2;have Ro:=zh (F6 k1 (.int .i64 0) (.bool false) (.int .i64 0) (.string ⟨#[]⟩) (.int .i64 0) AR AR AR);have NW:=zh k2;obtain ⟨⟨z0,z1,z2,z3,z4,z5,z6,z7⟩,y0,y1,y2,y3,y4,y5,y6,y7⟩:=zK k1;clear j1 j2 k1 k2;go_wp2;clear z0 z1 z2 z3 z4 z5 z6 z7 y0 y1 y2 y3 y4 y5 y6 y7;unfold Go.Proofs.YthkkllmmbefedaaGreatDoor.q8 Go.Proofs.YthkkllmmbefedaaGreatDoor.q5 at Ro NW
   generalize World.setCell _ _ _=W9 at *;obtain ⟨⟨z0,z1,z2,z3,z4,z5,z6,z7⟩,_⟩:=zK Ro
   exact bodyPost_ret (v := .tuple #[zeroV.v none 0 none 0 none 0,.pointer (some ⟨b,0,none⟩)]) (by simp[results,Tryz.results50,go_sem,z0,z1,z2,z3,z4,z5,z6,z7];exact ⟨rfl,rfl,rfl,rfl,rfl,rfl,rfl,rfl⟩) rfl NW
  ·go_wp2_with fail
   refine (Ce 4 GH).mono ?_;rintro y w5 ⟨rfl,j1,j2⟩;obtain ⟨k1,k2⟩:=Hy.out _ j1 j2;have Ro:=zh (F6 k1 (.int .i64 0) (.bool false) (.int .i64 0) (.string ⟨#[]⟩) (.int .i64 0) AR AR AR);have NW:=zh k2;obtain ⟨⟨z0,z1,z2,z3,z4,z5,z6,z7⟩,y0,y1,y2,y3,y4,y5,y6,y7⟩:=zK k1;clear j1 j2 k1 k2;go_wp2;clear z0 z1 z2 z3 z4 z5 z6 z7 y0 y1 y2 y3 y4 y5 y6 y7;unfold Go.Proofs.YthkkllmmbefedaaGreatDoor.q8 Go.Proofs.YthkkllmmbefedaaGreatDoor.q5 at Ro NW
   generalize World.setCell _ _ _=W9 at *;obtain ⟨⟨z0,z1,z2,z3,z4,z5,z6,z7⟩,_⟩:=zK Ro
   exact bodyPost_ret (v := .tuple #[zeroV.v none 0 none 0 none 0,.pointer (some ⟨b,0,none⟩)]) (by simp[results,Tryz.results50,go_sem,z0,z1,z2,z3,z4,z5,z6,z7];exact ⟨rfl,rfl,rfl,rfl,rfl,rfl,rfl,rfl⟩) rfl NW
 ·have HR:=zh hr
  have g1:¬ t<0:=fun h=>hr (.inl h)
  have g2:¬ (s.length:Int)<=t:=fun h=>hr (.inr h)
  clear hr;go_wp2_with fail;refine (Sj (C:=⟨w,s,A,c,l,AL,cL,b⟩) H3 HV (l.length+1) t _ l false 0 (Nat.lt_succ_self _) ⟨by omega,by show t<(s.length:Int);omega⟩ GH).mono ?_
  rintro y w5 ⟨x,rfl,j1,j2,r5,k5,e5,j3,j4,j5,j6⟩;have Bg:=zh (I5 ZF j2 (by have:=GX.out;show _≠b;omega))
  have LP:=zh (F6 Bg (.int .i64 x.v.kind) (.bool x.v.bool) (.int .i64 x.v.int) (.string x.v.str) (.int .i64 x.v.id) (.slice x.A1 x.v.keys.length x.c1) (.slice x.A2 x.v.items.length x.c2) (.slice x.A3 x.v.rest.length x.c3))
  have xM:=zh ((EA j1 (B:=w.heap.size+1) (by show _<_;exact (zg.1 ZF).1) (.int .i64 x.v.kind) (.bool x.v.bool) (.int .i64 x.v.int) (.string x.v.str) (.int .i64 x.v.id) (.slice x.A1 x.v.keys.length x.c1) (.slice x.A2 x.v.items.length x.c2) (.slice x.A3 x.v.rest.length x.c3)).mono fun s _ (hs:s<w.heap.size)=>by have:=(zg.1 ZF).1;omega)
  have HR9:=zh (Sk j3 (B:=w.heap.size+1) (by have:=GX.out;show _≠b;omega) (by show w.heap.size<=_;omega) (.int .i64 x.v.kind) (.bool x.v.bool) (.int .i64 x.v.int) (.string x.v.str) (.int .i64 x.v.id) (.slice x.A1 x.v.keys.length x.c1) (.slice x.A2 x.v.items.length x.c2) (.slice x.A3 x.v.rest.length x.c3))
  have KU:=zh (BZ (HB3.out.trans (j2.Bb.mono (by have:=GX.out;show _<=b;omega))) (q:=w.heap.size+1) (by omega) (.int .i64 x.v.kind) (.bool x.v.bool) (.int .i64 x.v.int) (.string x.v.str) (.int .i64 x.v.id) (.slice x.A1 x.v.keys.length x.c1) (.slice x.A2 x.v.items.length x.c2) (.slice x.A3 x.v.rest.length x.c3))
  have HJ6:=zh (j6 rfl);obtain ⟨⟨z0,z1,z2,z3,z4,z5,z6,z7⟩,y0,y1,y2,y3,y4,y5,y6,y7⟩:=zK Bg;clear j1 j2 j3 j4 j5 j6;go_wp2;clear z0 z1 z2 z3 z4 z5 z6 z7 y0 y1 y2 y3 y4 y5 y6 y7;unfold Go.Proofs.YthkkllmmbefedaaGreatDoor.q8 Go.Proofs.YthkkllmmbefedaaGreatDoor.q5 at LP xM HR9 KU;generalize World.setCell _ _ _=W9 at *
  obtain ⟨⟨z0,z1,z2,z3,z4,z5,z6,z7⟩,_⟩:=zK LP;refine bodyPost_ret (v := .tuple #[x.v.v x.A1 x.c1 x.A2 x.c2 x.A3 x.c3,.pointer (some ⟨b,0,none⟩)]) (by simp[results,Tryz.results50,go_sem,z0,z1,z2,z3,z4,z5,z6,z7]) rfl ?_
  refine ⟨x,b,rfl,xM.out,KU.out,r5,k5,e5,HR9.out,?_⟩;rw[Pd HR.out];exact HJ6.out
theorem TS (x:ByteArray) (Yn:∀c∈x.data.toList,c.toNat≠34) (hx:x.size<=140737488355328) (w:World) (hE:Jj w) {A:zo} {c:Nat} (hS:J8 w A c):Calls Tryz.prog 49 #[.string x] w (LtP x w):=by
 by_cases hz:65536<x.size
 ·refine (SG x hx hz w).mono ?_
  rintro e w' ⟨rfl,rfl⟩;exact ⟨none,0,0,3,[],rfl,Aa.nil _ _ _ _ _,by simp,Pe _ _,by rw[AAG hz]⟩
 ·refine (SH x (by omega) Yn w hE hS).mono ?_
  rintro e w' ⟨v,n,er,rfl,h,hb⟩
  cases ht:BB 1 x.data.toList with
  | error l =>
   rw[ht] at h;obtain ⟨rfl,rfl,rfl⟩:=h;exact ⟨none,0,_,2,[],rfl,Aa.nil _ _ _ _ _,by simp,hb,by rw[Pd hz,ht]⟩
  | ok o =>
   rw[ht] at h;obtain ⟨ho,rfl,rfl⟩:=h;have hsz:=(Gl _ 1 _ o (AAH _) ht).2;have hxl:x.data.toList.length=x.size:=rfl;have htx:=KZ _ 1 _ o (AAH _) ht;obtain ⟨A',c',rfl,hr⟩:=Y9.toks ho (by unfold DU;omega) fun t hm=>by
    have:=htx t hm;exact ⟨by unfold Db;omega,by unfold Db;omega⟩
   exact ⟨A',c',0,0,o,rfl,hr,by omega,hb,by rw[Pd hz,ht];exact ⟨rfl,rfl,rfl⟩⟩
def pz (s:List Ae) (t:Int) (x:ByteArray) (w:World) (y:Ending) (w':World):Prop :=
 ∃v:Au,y = .returned (.tuple #[v.v.v v.A1 v.c1 v.A2 v.c2 v.A3 v.c3,.int .i64 (Bd false s t x).2])/\v.v=(Bd false s t x).1/\Az w' v.v v.A1 v.A2 v.A3/\Below w.heap.size w w'
variable {x:ByteArray} {w:World}
theorem ak {w':World} {v:Au} (h:(v.v,e)=Bd false s t x) (hr:Az w' v.v v.A1 v.A2 v.A3) (hb:Below w.heap.size w w'):pz s t x w (.returned (.tuple #[v.v.v v.A1 v.c1 v.A2 v.c2 v.A3 v.c3,.int .i64 e])) w':=by
 refine ⟨v,?_,by rw[<-h],hr,hb⟩
 rw[<-h]
theorem pz.low {W W':World} {y:Ending} (h:pz s t x w y W) (hb:Below W.heap.size W W'):pz s t x w y W':=by
 obtain ⟨v,h1,h2,h3,h4⟩:=h;exact ⟨v,h1,h2,h3.below hb,h4.trans (hb.mono h4.size)⟩
theorem JU {W5:World} {q:Nat} (hz:W5.heap[q]? = some zO) (hb:Below w.heap.size w W5) (hq:w.heap.size<=q) (h:Bd false s t x=(zeroV,e)):
  (Go.Proofs.YthkkllmmbefedaaGreatDoor.q8 W5 q (.int .i64 0) (.bool false) (.int .i64 0) (.string ⟨#[]⟩) (.int .i64 0) AR AR AR).heap[q]? = some zO/\pz s t x w (.returned (.tuple #[zeroV.v none 0 none 0 none 0,.int .i64 e])) (Go.Proofs.YthkkllmmbefedaaGreatDoor.q8 W5 q (.int .i64 0) (.bool false) (.int .i64 0) (.string ⟨#[]⟩) (.int .i64 0) AR AR AR) :=
 ⟨F6 hz _ _ _ _ _ _ _ _,ak (v:=⟨zeroV,none,0,none,0,none,0⟩) h.symm (M9 _) (BZ hb hq _ _ _ _ _ _ _ _)⟩
theorem DY (h3:∀t,(AB s t).kind=2\/(AB s t).kind=5\/(AB s t).kind=9\/(AB s t).kind=0) (hv:zQ s=0) (hn:Bq s) (A:zo) (c:Nat) (t:Int) (x:ByteArray) (Yn:∀c∈x.data.toList,c.toNat≠34) (hx:x.size<=140737488355328) (w:World) (hs:CQ w A s) (hE:Jj w) {SA:zo} {sc:Nat} (hS:J8 w SA sc):
  Calls Tryz.prog 17 #[.agg #[.slice A s.length c],.int .i64 t,.string x] w (pz s t x w):=by
 have HS:=zh hs;have HE:=zh hE;have Oz:=zh hS;have HXZ:=zh hx;have HV:=zh hv;have H34:=zh Yn;have H3:=zh h3;have HN:=zh hn;have hls:=LV hv;have HB2:=zh (zI w (.cells #[.slice A s.length c] 31) zO);have UO:=zh (zw w (.cells #[.slice A s.length c] 31) zO);have fA:Hid (((w.alloc (.cells #[.slice A s.length c] 31)).alloc zO).heap[w.heap.size+1]? = some zO):=by
  show _=_
  have:=AAC (w.alloc (.cells #[.slice A s.length c] 31)) zO;rw[show (w.alloc (.cells #[.slice A s.length c] 31)).heap.size=w.heap.size+1 by simp] at this
  exact this
 clear hs hE hS hx hv Yn h3 hn
 go_enter Tryz.func17,Tryz.ntmps17
 go_upto_region 1 with fail
 generalize (w.alloc (.cells #[.slice A s.length c] 31)).alloc zO=W2 at *;have x0:=zb UO;obtain ⟨rb,hrb⟩:∃rb:Bool,decide (t<0\/(s.length:Int)<=t)=rb:=⟨_,rfl⟩;have ZU:=zh hrb;clear hrb
 go_cut [21] (fun q wx=>q = .bool rb/\wx=W2)
 case first =>
  rcases Int.lt_or_le t 0 with g|g
  ·have gQ:Hid (rb=true):=by show _=_;rw[<-ZU.out];exact AAX (.inl g)
   go_wp2
   go_meet
   exact ⟨by rw[gQ.out],rfl⟩
  ·have g1:¬ t<0:=by omega
   by_cases g2:(s.length:Int)<=t
   ·have gQ:Hid (rb=true):=by show _=_;rw[<-ZU.out];exact AAX (.inr g2)
    go_wp2
    go_meet
    exact ⟨by rw[gQ.out],rfl⟩
   ·have gQ:Hid (rb=false):=by show _=_;rw[<-ZU.out];exact AAU (by omega)
    go_wp2
    go_meet
    exact ⟨by rw[gQ.out],rfl⟩
 case rest =>
 obtain ⟨rfl,hw⟩:=hcut;obtain rfl:W2=wc:=hw.symm
 cases rb with
 | true =>
  have QW:Hid (Bd false s t x=(zeroV,4)):=by show _=_;unfold Bd;rw[AAG (AAu ZU)]
  obtain ⟨⟨z0,z1,z2,z3,z4,z5,z6,z7⟩,y0,y1,y2,y3,y4,y5,y6,y7⟩:=zK fA;go_wp2;have HK:=zh (JU fA HB2 (q:=w.heap.size+1) (by omega) QW)
  clear z0 z1 z2 z3 z4 z5 z6 z7 y0 y1 y2 y3 y4 y5 y6 y7;unfold Go.Proofs.YthkkllmmbefedaaGreatDoor.q8 Go.Proofs.YthkkllmmbefedaaGreatDoor.q5 at HK;generalize World.setCell _ _ _=W9 at *;obtain ⟨⟨z0,z1,z2,z3,z4,z5,z6,z7⟩,_⟩:=zK HK.out.1
  refine bodyPost_ret (v := .tuple #[zeroV.v none 0 none 0 none 0,.int .i64 4]) (by simp[results,Tryz.results17,go_sem,z0,z1,z2,z3,z4,z5,z6,z7];exact KV) rfl ?_
  exact HK.out.2
 | false =>
  have gQ:Hid (¬ (t<0\/(s.length:Int)<=t)):=of_decide_eq_false ZU;clear ZU;go_wp2_with fail;refine (TS x H34 HXZ _ (HE.out.below HB2) (Oz.out.below HB2)).mono ?_;rintro y w2 ⟨TA,tc,nn,er,l,rfl,g1,g2,g3,g4⟩;have HT2:=zh g1;have HL2:=zh g2;have rQ:=zh (zB HB2 g3);have Rc:=zh (BR UO g3);have KE:=zh (BR fA g3);have HT4:=zh g4
  have AA6:Hid (w.heap.size+1<w2.heap.size):=(zg.1 KE).1;have lS:Hid (er=0->(¬ 65536<x.size)/\BB 1 x.data.toList = .ok l):=fun he=>by
   have h:=HT4.out
   by_cases hz:65536<x.size
   ·rw[AAG hz] at h;omega
   ·rw[Pd hz] at h
    cases ht:BB 1 x.data.toList with
    | error e=>rw[ht] at h;simp only at h;omega
    | ok o=>rw[ht] at h;exact ⟨hz,by rw[h.1]⟩
  have ZT:Hid (er≠0->Bd false s t x=(zeroV,er)):=fun he=>by
   have h:=HT4.out;unfold Bd;rw[Pd gQ.out]
   by_cases hz:65536<x.size
   ·rw[AAG hz] at h ⊢;rw[h]
   ·rw[Pd hz] at h ⊢
    cases ht:BB 1 x.data.toList with
    | error e=>rw[ht] at h;simp only at h ⊢;rw[h]
    | ok o=>rw[ht] at h;exact absurd h.2.1 he
  clear x0 g1 g2 g3 g4 UO fA HB2 HT4
  by_cases he:er=0
  case neg =>
   have q1:(er != 0)=true:=by simp[he]
   have QW:Hid (Bd false s t x=(zeroV,er)):=ZT.out he;clear he;obtain ⟨⟨z0,z1,z2,z3,z4,z5,z6,z7⟩,y0,y1,y2,y3,y4,y5,y6,y7⟩:=zK KE;go_wp2;have HK:=zh (JU KE rQ (q:=w.heap.size+1) (by omega) QW)
   clear z0 z1 z2 z3 z4 z5 z6 z7 y0 y1 y2 y3 y4 y5 y6 y7;unfold Go.Proofs.YthkkllmmbefedaaGreatDoor.q8 Go.Proofs.YthkkllmmbefedaaGreatDoor.q5 at HK;generalize World.setCell _ _ _=W9 at *;obtain ⟨⟨z0,z1,z2,z3,z4,z5,z6,z7⟩,_⟩:=zK HK.out.1
   refine bodyPost_ret (v := .tuple #[zeroV.v none 0 none 0 none 0,.int .i64 er]) (by simp[results,Tryz.results17,go_sem,z0,z1,z2,z3,z4,z5,z6,z7];exact KV) rfl ?_
   exact HK.out.2
  have NS:=zh (lS.out he);have q1:(er != 0)=false:=by simp[he]
  clear he lS ZT;have x0:=zb Rc;go_wp2_with fail;refine (YR H3 HV A c t l TA tc (by have:=HL2.out;omega) w2 (HS.out.below rQ) HT2).mono ?_
  rintro y w3 ⟨v,b,rfl,h1,h2,r3,k3,e3,h3,h4⟩;have HO3:=zh h1;have HR3:=zh h3;have HJ:=zh h4;have HB3:=zh (zB rQ h2);have ZE:=zh (BR Rc h2);have ZF:=zh (BR KE h2);clear x0 h1 h2 h3 h4 Rc KE q1;go_upto_region 7 with fail
  have BI:=zh (zD w3 (.cells v.cells.toArray 28));have gN:Hid ((w3.alloc (.cells v.cells.toArray 28)).heap[w3.heap.size]? = some (.cells v.cells.toArray 28)):=AAC w3 _;have HR4:=zh (HR3.out.below BI);have HO4:=zh (HO3.out.low BI);have BA:=zh (zB HB3 BI);have UN:=zh (BR ZE BI);have Rf:=zh (BR ZF BI)
  unfold Au.cells at BI gN HR4 HO4 BA UN Rf;generalize w3.alloc _=W4 at *;generalize w3.heap.size=q at *;have HW2:Hid (∀W5,Below W4.heap.size W4 W5->W5.heap[w.heap.size+1]? = some zO/\Below w.heap.size w W5):=fun W5 hb=>⟨BR Rf hb,zB BA hb⟩
  have hbq:b≠w.heap.size+1:=GZ HR4.out.blk Rf (by decide)
  have ADp:¬ w.heap.size+1=b:=fun e=>hbq e.symm
  by_cases he:e3=0
  case neg =>
   have q1:(e3 != 0)=true:=by simp[he]
   have QW:Hid (Bd false s t x=(zeroV,e3)):=by
    show _=_
    have hj:=HJ.out;unfold Bd;rw[Pd gQ.out] at hj ⊢;rw[Pd NS.out.1,NS.out.2];simp only
    cases hp:Fa false s t l with
    | error e=>rw[hp] at hj;rw[hj]
    | ok p=>rw[hp] at hj;exact absurd hj.2.2.2 he
   obtain ⟨⟨c0,c1,c2,c3,c4⟩,_⟩:=HR4.out.cells;clear he;go_upto_region 8 with fail
   obtain ⟨⟨z0,z1,z2,z3,z4,z5,z6,z7⟩,y0,y1,y2,y3,y4,y5,y6,y7⟩:=zK Rf
   go_region
   have HK:=zh (JU Rf BA (q:=w.heap.size+1) (by omega) QW)
   clear z0 z1 z2 z3 z4 z5 z6 z7 y0 y1 y2 y3 y4 y5 y6 y7;unfold Go.Proofs.YthkkllmmbefedaaGreatDoor.q8 Go.Proofs.YthkkllmmbefedaaGreatDoor.q5 at HK;generalize World.setCell _ _ _=W9 at *;obtain ⟨⟨z0,z1,z2,z3,z4,z5,z6,z7⟩,_⟩:=zK HK.out.1;go_wp2
   refine bodyPost_ret (v := .tuple #[zeroV.v none 0 none 0 none 0,.int .i64 e3]) (by simp[results,Tryz.results17,go_sem,z0,z1,z2,z3,z4,z5,z6,z7];exact KV) rfl ?_
   exact HK.out.2.low (zC (Pe _ _) 1)
  subst he;have ZV:Hid (Fa false s t l = .ok (v.v,r3,k3)):=by
   show _=_
   have hj:=HJ.out;rw[Pd gQ.out] at hj
   cases hp:Fa false s t l with
   | error e=>rw[hp] at hj;exact absurd (hj▸hp) (Qc false s t l false)
   | ok p =>
    obtain ⟨v',r,k⟩:=p;rw[hp] at hj;obtain ⟨j1,j2,j3,_⟩:=hj;rw[j1,j2,j3]
  have qQ:Hid (Bd false s t x=if r3≠[] then (zeroV,2) else if k3=true\/BH s false t v.v=false then (zeroV,1) else (v.v,0)):=by
   show _=_
   unfold Bd;rw[Pd gQ.out,Pd NS.out.1,NS.out.2];simp only;rw[ZV.out]
  have XA:=HL2.out;have hsx:=HR4.out.WN.length_le;obtain ⟨⟨c0,c1,c2,c3,c4⟩,_⟩:=HR4.out.cells;simp only at hsx c2
  by_cases hr:r3=[]
  case neg =>
   have QW:Hid (Bd false s t x=(zeroV,2)):=by show _=_;rw[qQ.out,AAG hr]
   have q2:((l.length - r3.length:Nat):Int)<(l.length:Int):=by have:=List.length_pos_iff.2 hr;omega
   clear hr hsx XA;obtain ⟨⟨z0,z1,z2,z3,z4,z5,z6,z7⟩,y0,y1,y2,y3,y4,y5,y6,y7⟩:=zK Rf;go_wp2;have HK:=zh (JU Rf BA (q:=w.heap.size+1) (by omega) QW)
   clear z0 z1 z2 z3 z4 z5 z6 z7 y0 y1 y2 y3 y4 y5 y6 y7;unfold Go.Proofs.YthkkllmmbefedaaGreatDoor.q8 Go.Proofs.YthkkllmmbefedaaGreatDoor.q5 at HK;generalize World.setCell _ _ _=W9 at *;obtain ⟨⟨z0,z1,z2,z3,z4,z5,z6,z7⟩,_⟩:=zK HK.out.1
   refine bodyPost_ret (v := .tuple #[zeroV.v none 0 none 0 none 0,.int .i64 2]) (by simp[results,Tryz.results17,go_sem,z0,z1,z2,z3,z4,z5,z6,z7];exact KV) rfl ?_
   exact HK.out.2
  have q2:¬ ((l.length - r3.length:Nat):Int)<(l.length:Int):=by rw[hr];simp
  have Rj:=zh hr;clear hr hsx XA
  cases k3 with
  | true =>
   have QW:Hid (Bd false s t x=(zeroV,1)):=by show _=_;rw[qQ.out,Pd (by simp[Rj.out]),AAG (.inl rfl)]
   obtain ⟨⟨z0,z1,z2,z3,z4,z5,z6,z7⟩,y0,y1,y2,y3,y4,y5,y6,y7⟩:=zK Rf;go_wp2;have HK:=zh (JU Rf BA (q:=w.heap.size+1) (by omega) QW)
   clear z0 z1 z2 z3 z4 z5 z6 z7 y0 y1 y2 y3 y4 y5 y6 y7;unfold Go.Proofs.YthkkllmmbefedaaGreatDoor.q8 Go.Proofs.YthkkllmmbefedaaGreatDoor.q5 at HK;generalize World.setCell _ _ _=W9 at *;obtain ⟨⟨z0,z1,z2,z3,z4,z5,z6,z7⟩,_⟩:=zK HK.out.1
   refine bodyPost_ret (v := .tuple #[zeroV.v none 0 none 0 none 0,.int .i64 1]) (by simp[results,Tryz.results17,go_sem,z0,z1,z2,z3,z4,z5,z6,z7];exact KV) rfl ?_
   exact HK.out.2
  | false =>
   have s0:=zb UN;obtain ⟨⟨v0,v1,v2,v3,v4,v5,v6,v7⟩,_⟩:=zK gN;go_wp2_with fail;refine (cu A c HV HN t v _ (HS.out.below BA) HO4.out.out).mono ?_;rintro y w5 ⟨rfl,hb5⟩;have fC:=zh (HW2.out _ hb5);have HV5:=zh (BR gN hb5);have KF:=zh (HO4.out.low hb5)
   cases hf:BH s false t v.v with
   | false =>
    have QW:Hid (Bd false s t x=(zeroV,1)):=by show _=_;rw[qQ.out,Pd (by simp[Rj.out]),AAG (.inr hf)]
    clear hf hb5;obtain ⟨⟨z0,z1,z2,z3,z4,z5,z6,z7⟩,y0,y1,y2,y3,y4,y5,y6,y7⟩:=zK fC.out.1;go_wp2;have HK:=zh (JU fC.out.1 fC.out.2 (q:=w.heap.size+1) (by omega) QW)
    clear z0 z1 z2 z3 z4 z5 z6 z7 y0 y1 y2 y3 y4 y5 y6 y7;unfold Go.Proofs.YthkkllmmbefedaaGreatDoor.q8 Go.Proofs.YthkkllmmbefedaaGreatDoor.q5 at HK;generalize World.setCell _ _ _=W9 at *;obtain ⟨⟨z0,z1,z2,z3,z4,z5,z6,z7⟩,_⟩:=zK HK.out.1
    refine bodyPost_ret (v := .tuple #[zeroV.v none 0 none 0 none 0,.int .i64 1]) (by simp[results,Tryz.results17,go_sem,z0,z1,z2,z3,z4,z5,z6,z7];exact KV) rfl ?_
    exact HK.out.2
   | true =>
    have QW:Hid ((v.v,(0:Int))=Bd false s t x):=by show _=_;rw[qQ.out,Pd (by simp[Rj.out]),Pd (by rw[hf];simp)]
    clear hf hb5 v0 v1 v2 v3 v4 v5 v6 v7 c0 c1 c2 c3 c4 s0;obtain ⟨⟨v0,v1,v2,v3,v4,v5,v6,v7⟩,_⟩:=zK HV5;obtain ⟨⟨z0,z1,z2,z3,z4,z5,z6,z7⟩,y0,y1,y2,y3,y4,y5,y6,y7⟩:=zK fC.out.1;go_wp2
    have HK:=zh (F6 fC.out.1 (.int .i64 v.v.kind) (.bool v.v.bool) (.int .i64 v.v.int) (.string v.v.str) (.int .i64 v.v.id) (.slice v.A1 v.v.keys.length v.c1) (.slice v.A2 v.v.items.length v.c2) (.slice v.A3 v.v.rest.length v.c3))
    have NW:=zh (ak QW (EA KF (B:=w.heap.size+1) AA6 (.int .i64 v.v.kind) (.bool v.v.bool) (.int .i64 v.v.int) (.string v.v.str) (.int .i64 v.v.id) (.slice v.A1 v.v.keys.length v.c1) (.slice v.A2 v.v.items.length v.c2) (.slice v.A3 v.v.rest.length v.c3)).out (BZ fC.out.2 (q:=w.heap.size+1) (by omega) (.int .i64 v.v.kind) (.bool v.v.bool) (.int .i64 v.v.int) (.string v.v.str) (.int .i64 v.v.id) (.slice v.A1 v.v.keys.length v.c1) (.slice v.A2 v.v.items.length v.c2) (.slice v.A3 v.v.rest.length v.c3)))
    clear z0 z1 z2 z3 z4 z5 z6 z7 y0 y1 y2 y3 y4 y5 y6 y7;unfold Go.Proofs.YthkkllmmbefedaaGreatDoor.q8 Go.Proofs.YthkkllmmbefedaaGreatDoor.q5 at HK NW;generalize World.setCell _ _ _=W9 at *;obtain ⟨⟨z0,z1,z2,z3,z4,z5,z6,z7⟩,_⟩:=zK HK
    refine bodyPost_ret (v := .tuple #[v.v.v v.A1 v.c1 v.A2 v.c2 v.A3 v.c3,.int .i64 0]) (by simp[results,Tryz.results17,go_sem,z0,z1,z2,z3,z4,z5,z6,z7]) rfl ?_
    exact NW.out
end Go.Proofs.YthkkllmmbefedaaGreatDoor



