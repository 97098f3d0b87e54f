/-
  Walks: the reference's reader: the members of a record.
-/
import Derived.Test.YthkkllmmbefedaaGreatDoorQGQ2
namespace Go.Proofs.YthkkllmmbefedaaGreatDoor
open Go.RowKit
set_option maxHeartbeats 16000000
set_option maxRecDepth 100000
def xM (C:CZ) (w:World):Nat:=2 * iF C w+match w.cell? ⟨C.b,3,none⟩ with
 | some (.int _ e)=>if e=0 then 1 else 0
 | _=>0
variable {e:Int} {r:List AB} {C:CZ}
theorem DW.mq {w:World} (h:DW C w r e):xM C w=2 * r.length+if e=0 then 1 else 0:=by
 unfold xM;rw[h.meas,h.cells.1.2.2.2]
def sK (a b:ByteArray) (e:Int):Int:=if a=b then e else JE e 4
def zm (C:CZ) (W:World) (px p q:Nat) (x:AZ) (As:zo) (cs:Nat) (Am:zo) (cm:Nat) (r:List AB) (e:Int) (wx:World) (r1:List AB) (e1:Int) (vi:Value) (I:List BX):Prop :=
 DX C W px p q x As cs Am cm wx r1 e1 0 AJ vi AJ [] I []/\I.length<=1000001/\r1.length<=r.length/\(e≠0->e1=e)/\(e=0->e1≠0->BM (AP true C.s) true x.AA r false = .error e1)/\(e=0->e1=0->I.length=x.AA.length/\BM (AP true C.s) true x.AA r false = .ok (I.map (·.v),r1,false))
def zk (C:CZ) (W:World) (px p q:Nat) (x:AZ) (As:zo) (cs:Nat) (Am:zo) (cm:Nat) (r:List AB) (e:Int) (wx:World) (r1:List AB) (e1:Int) (vi:Value) (I:List BX):Prop :=
 DX C W px p q x As cs Am cm wx r1 e1 0 AJ vi AJ [] I []/\I.length<=1000001/\r1.length<=r.length/\(e≠0->e1=e)/\(e=0->e1≠0->BM (AP true C.s) true x.AA r false = .error e1)/\(e1=0->I.length+r1.length<=C.l.length/\Q9 (AP true C.s) (BM (AP true C.s) true x.AA r false) (I.map (·.v)) (x.AA.drop I.length) (decide (I.length=0)) r1)
theorem ZT {s:List AZ} (O5:KF s) {Rt:PR (List Val)} {acc:List Val} {y:AY} {ms:List AY} {first:Bool} {r1 r4 r6:List AB} (h:Q9 (AP true s) Rt acc (y::ms) first r1) (hm:Oz first y r1 = .ok r4) {v:Val} {e6:Int} (hv:match AP true s y.type r4 false with
   | .ok (z,r',_)=>v=z/\r6=r'/\e6=0
   | .error e'=>e6=e'):(e6≠0->Rt = .error e6)/\(e6=0->Q9 (AP true s) Rt (acc++[v]) ms false r6/\r6.length<r4.length):=by
 cases hw:AP true s y.type r4 false with
 | error e' =>
  rw[hw] at hv;simp only at hv;subst hv;exact ⟨fun _=>h.yx hm hw,fun hz=>absurd (hz▸hw) (Cm true s _ _ _)⟩
 | ok z =>
  obtain ⟨v',r',k'⟩:=z;have hk:=O5 _ _ _ _ _ hw;subst hk;rw[hw] at hv;obtain ⟨rfl,rfl,rfl⟩:=hv;exact ⟨fun h=>absurd rfl h,fun _=>⟨h.next hm hw,(Dv true s _ _ _ _ _ _ hw).2⟩⟩
theorem DX.up8 {W0 W w8:World} {px p q:Nat} {x:AZ} {As:zo} {cs:Nat} {Am:zo} {cm:Nat} {di:Int} {vk vi vr:Value} {K I:List BX} {R:List Ac} (h:DX C W0 px p q x As cs Am cm W r e di vk vi vr K I R) {row:Option Nat} (hg:W.grownBy w8 row) (hr:row=vk.ownBlock\/row=vi.ownBlock\/row=vr.ownBlock):Below C.w0.heap.size C.w0 w8:=by
 obtain ⟨l1,l2,l3⟩:=h.own;have hlo:=h.lo;have hge:=h.rd.ok.ge;have hlb:=h.lb;refine h.rd.up.grown hg (by have:=h.rd.lt;omega) fun k hk=>?_
 rcases hr with e2|e2|e2
 ·have:=(l1 k (e2▸hk)).1;omega
 ·have:=(l2 k (e2▸hk)).1;omega
 ·have:=(l3 k (e2▸hk)).1;omega
theorem UL {x:AZ} {As:zo} {cs:Nat} {Am:zo} {cm:Nat} {n:Nat} (O5:KF C.s) (ih:Nh C n) {W:World} (h:DW C W r e) (ht:Ic C.w0 x As Am) (hn:e=0->r.length<n) (he:∀y∈x.AA,0<=y.type/\y.type<(C.s.length:Int)):
  Calls Tryz.prog 135 #[.pointer (some ⟨C.b,0,none⟩),x.v As cs Am cm,ng x.kind] W (QP C W r (OL e (Mr x.kind (Tv (AP true C.s) x r false)))):=by
 have IZ:=zh (DX.new (cs:=cs) (cm:=cm) h ht);have Df:=zh ih;have MU:=zh he;have HN:=zh hn;have VW:=zh O5;have OP:=zh ht;have aJ:=zh h.ok.len;have sW:=zh h.LH.length_le;have hln:=ht.AA.1;unfold D9 at hln;have kW:(x.AA.length:Int)<=1000000000000000:=by omega
 clear h ih he hn ht O5 hln
 go_enter Tryz.func135,Tryz.ntmps135
 go_upto_region 1 with fail
 unfold NH zO at IZ;generalize World.alloc (World.alloc (World.alloc W _) _) _=W1 at *;obtain ⟨px,hpx⟩:∃n,W.heap.size=n:=⟨_,rfl⟩;obtain ⟨p,hp⟩:∃n,px+1=n:=⟨_,rfl⟩;obtain ⟨q,hq⟩:∃n,px+2=n:=⟨_,rfl⟩;rw[hpx,hq,hp] at IZ;rw[show W.heap.size+1+1=q by rw[hpx];exact hq,hpx,hp]
 have Ki:=zh (show DX C W px p q x As cs Am cm W1 r e 0 AJ AJ AJ [] [] [] from IZ.out);clear IZ hpx hp hq;have rU:Hid (∀e',(e≠0->e'=e)->(e=0->BM (AP true C.s) true x.AA r false = .error e')->∀ (v:Val) (r':List AB),match OL e (Mr x.kind (Tv (AP true C.s) x r false)) with
   | .ok (z,r1,_)=>v=z/\r'=r1/\e'=0
   | .error e1=>e'=e1):=fun e' j1 j2 v r'=>by
  by_cases hz:e=0
  ·rw[OL,AAC hz]
   unfold Tv;rw[j2 hz]
   rfl
  ·rw[OL,Pe hz]
   exact j1 hz
 go_wp2
 go_loopw [7] (fun a wr=>∃r1 e1 vi I,a = .int .i64 (List.length (α:=BX) I:Int)/\I.length<=x.AA.length/\Hid (zk C W px p q x As cs Am cm r e wr r1 e1 vi I)) (fun a _=>x.AA.length - (intOf a).toNat)
 case atStart =>
  refine ⟨r,e,AJ,[],rfl,Nat.zero_le _,Ki.out,by simp,AAQ _,fun _=>rfl,fun h1 h2=>absurd h1 h2,fun _=>⟨by have:=sW.out;simpa using this,Q9.start _ _ _⟩⟩
 case round =>
  obtain ⟨r1,e1,vi,I,rfl,hi,hI⟩:=hrel;have HF:=zh hI.out.1;have HS:=zh hI.out.2;clear hI;have p6:=(HF.out.reads (Ah.refl _ _)).2.2.1
  by_cases hlt:I.length<x.AA.length
  case neg =>
   have i2:¬ (I.length:Int)<(x.AA.length:Int):=by omega
   have VR:Hid (zm C W px p q x As cs Am cm r e wr r1 e1 vi I):=by
    obtain ⟨g1,g2,g3,g4,g5⟩:=HS.out;refine ⟨HF.out,g1,g2,g3,g4,fun _ hz=>⟨by omega,?_⟩⟩
    have h:=(g5 hz).2;rw[AAp (by omega)] at h
    exact h.fin
   clear HS HF;obtain ⟨A2,c2,rfl,_⟩:=VR.out.1.vb.oi.reads;obtain ⟨Rw,yR⟩:∃R,Cx true x.AA.isEmpty r1=R:=⟨_,rfl⟩;have LC:Hid (e=0->e1=0->VF Rw [] (decide (I.length+([]:List Ac).length=0)) r1):=fun hz h1=>by
    have hI:=(VR.out.2.2.2.2.2 hz h1).1;have hd:decide (I.length+([]:List Ac).length=0)=x.AA.isEmpty:=by
     rw[hI]
     cases x.AA <;> simp
    rw[hd,<-yR];exact VF.start _ _
   have HRW:=zh yR;clear yR;have nX:Hid (∀ (R:List Ac) r2 e2 r3 e3,(e1≠0->e2=e1)->(e=0->e1=0->(e2≠0/\Rw = .error e2)\/(e2=0/\Rw = .ok (R,r2)))->Jy ⟨#[125]⟩ r2 e2 r3 e3->match OL e (Mr x.kind (Tv (AP true C.s) x r false)) with
     | .ok (v,r',_) => .mk x.kind false 0 ⟨#[]⟩ 0 [] (I.map (·.v)) R=v/\r3=r'/\e3=0
     | .error e'=>e3=e'):=fun R r2 e2 r3 e3 j0 j1 j2=>by
    by_cases hz:e=0
    ·by_cases h1:e1=0
     ·rw[OL,AAC hz]
      unfold Tv;rw[(VR.out.2.2.2.2.2 hz h1).2,zM];simp only;rw[HRW.out]
      rcases j1 hz h1 with ⟨g1,g2⟩|⟨rfl,g2⟩
      ·rw[g2,Aj]
       exact (E9 j2 g1).1
      ·rw[g2,zM]
       have hs:=Bl j2;simp only
       cases hsy:BG ⟨#[125]⟩ r2 with
       | error e9=>rw[hsy] at hs;exact hs.1
       | ok l4=>rw[hsy] at hs;exact ⟨rfl,hs.1,hs.2⟩
     ·have h2:=j0 h1
      have h3:=(E9 j2 (by omega)).1
      exact rU.out e3 (fun h=>absurd hz h) (fun _=>by rw[h3,h2];exact VR.out.2.2.2.2.1 hz h1) _ _
    ·have h1:=VR.out.2.2.2.1 hz
     have h2:=j0 (by omega)
     have h3:=(E9 j2 (by omega)).1
     exact rU.out e3 (fun _=>by omega) (fun h=>absurd h hz) _ _
   have QB:=zh VR.out.2.2.1;have hIb:=VR.out.2.1;have AAL:Hid (r1.length<=C.l.length):=by have:=VR.out.2.2.1;have:=sW.out;show _<=_;omega
   go_wp2
   go_loopw [] (fun wr2=>∃r2 e2 vr R,Hid (DX C W px p q x As cs Am cm wr2 r2 e2 0 AJ (.slice A2 I.length c2) vr [] I R/\(e2=0->List.length (α:=Ac) R+r2.length<=C.l.length)/\R.length<=1000001/\r2.length<=r1.length/\(e1≠0->e2=e1)/\(e=0->e1=0->e2=0->VF Rw R (decide (I.length+R.length=0)) r2)/\(e=0->e1=0->e2≠0->Rw = .error e2))) (fun wr2=>xM C wr2)
   case atStart=>exact ⟨r1,e1,AJ,[],VR.out.1,(fun _=>by have:=AAL.out;simpa using this),by simp,AAQ _,fun _=>rfl,fun hz h1 _=>LC.out hz h1,fun _ h1 h2=>absurd h1 h2⟩
   case round =>
    obtain ⟨r2,e2,vr,R,hR⟩:=hrel;have HG:=zh hR.out.1;have HR1:=zh hR.out.2.1;have hRb:=hR.out.2.2.1;have HR3:=zh hR.out.2.2.2.1;have HR4:=zh hR.out.2.2.2.2;clear hR;have xL:=HG.out.rd.zero;obtain ⟨A3,c3,rfl,_⟩:=HG.out.vb.Pp.reads
    by_cases hz:e2=0
    case neg =>
     have q1:(e2==0)=false:=by simp[hz]
     have HZ:=zh hz;clear hz;go_wp2_with fail;refine (Ay ⟨#[125]⟩ HG.out.rd).mono ?_;rintro yy w8 ⟨rfl,g1,r7,e7,g2,g3⟩;have EL:=zh (HG.out.BF g1 g2);have JO:=zh (nX.out R r2 e2 r7 e7 HR4.out.1 (fun h h1 => .inl ⟨HZ.out,HR4.out.2.2 h h1 HZ⟩) g3)
     have Ez:Hid (r7.length<=r.length):=by have:=g3.1;have:=HR3.out;have:=QB.out;show _<=_;omega
     clear g1 g2 g3 xL;have HG2:=zh (FI EL Ez ⟨by simp,by omega,by omega⟩ JO)
     have Br:=zh (Cw EL.out.bq (.int .i64 x.kind) (.bool false) (.int .i64 0) (.string ⟨#[]⟩) (.int .i64 0) AJ (.slice A2 I.length c2) (.slice A3 R.length c3));obtain ⟨⟨x0,x1,x2,x3,x4,x5,x6,x7⟩,y0,y1,y2,y3,y4,y5,y6,y7⟩:=zK EL.out.bq;obtain ⟨⟨v0,v1,v2,v3,v4,v5,v6,v7⟩,_⟩:=EL.out.vb.cells;go_wp2;clear x0 x1 x2 x3 x4 x5 x6 x7 y0 y1 y2 y3 y4 y5 y6 y7 v0 v1 v2 v3 v4 v5 v6 v7
     unfold q8 q5 at HG2 Br;generalize World.setCell _ _ _=W9 at *;obtain ⟨⟨x0,x1,x2,x3,x4,x5,x6,x7⟩,_⟩:=zK Br
     refine bodyPost_ret (v := .agg #[.int .i64 x.kind,.bool false,.int .i64 0,.string ⟨#[]⟩,.int .i64 0,AJ,(.slice A2 I.length c2),(.slice A3 R.length c3)]) (by simp[results,Tryz.results135,go_sem,x0,x1,x2,x3,x4,x5,x6,x7]) rfl HG2
    subst hz;have HRL:=zh (HR1.out rfl)
    cases hi2:OO ⟨#[125]⟩ r2 0 with
    | true =>
     have HI2:=zh hi2;have YZ:=zh (IU hi2).2;clear hi2;go_wp2_with fail;refine (Bt ⟨#[125]⟩ HG.out.rd).mono ?_;rintro yy w7 ⟨rfl,FK⟩;rw[HI2.out];have rP:=zh (HG.out.below FK);clear FK;go_wp2_with fail;refine (Ay ⟨#[125]⟩ rP.out.rd).mono ?_;rintro yy w8 ⟨rfl,g1,r7,e7,g2,g3⟩;have EL:=zh (rP.out.BF g1 g2)
     have JO:=zh (nX.out R r2 0 r7 e7 HR4.out.1 (fun h h1 => .inr ⟨rfl,(HR4.out.2.1 h h1 (by first|rfl|trivial)).fin YZ⟩) g3)
     have Ez:Hid (r7.length<=r.length):=by have:=g3.1;have:=HR3.out;have:=QB.out;show _<=_;omega
     clear g1 g2 g3 xL;have HG2:=zh (FI EL Ez ⟨by simp,by omega,by omega⟩ JO)
     have Br:=zh (Cw EL.out.bq (.int .i64 x.kind) (.bool false) (.int .i64 0) (.string ⟨#[]⟩) (.int .i64 0) AJ (.slice A2 I.length c2) (.slice A3 R.length c3));obtain ⟨⟨x0,x1,x2,x3,x4,x5,x6,x7⟩,y0,y1,y2,y3,y4,y5,y6,y7⟩:=zK EL.out.bq;obtain ⟨⟨v0,v1,v2,v3,v4,v5,v6,v7⟩,_⟩:=EL.out.vb.cells;go_wp2;clear x0 x1 x2 x3 x4 x5 x6 x7 y0 y1 y2 y3 y4 y5 y6 y7 v0 v1 v2 v3 v4 v5 v6 v7
     unfold q8 q5 at HG2 Br;generalize World.setCell _ _ _=W9 at *;obtain ⟨⟨x0,x1,x2,x3,x4,x5,x6,x7⟩,_⟩:=zK Br
     refine bodyPost_ret (v := .agg #[.int .i64 x.kind,.bool false,.int .i64 0,.string ⟨#[]⟩,.int .i64 0,AJ,(.slice A2 I.length c2),(.slice A3 R.length c3)]) (by simp[results,Tryz.results135,go_sem,x0,x1,x2,x3,x4,x5,x6,x7]) rfl HG2
    | false =>
     have HI2:=zh hi2;have YZ:Hid (Ba ⟨#[125]⟩ r2=false):=by
      unfold OO at hi2;rw[AAM rfl,Bool.true_and] at hi2;exact hi2
     have AAg:=zh HG.out.rd.mq;clear hi2;go_wp2_with fail;refine (Bt ⟨#[125]⟩ HG.out.rd).mono ?_;rintro yy w7 ⟨rfl,FK⟩;rw[HI2.out];have rP:=zh (HG.out.below FK);clear FK;obtain ⟨⟨_,p6,p7⟩,_⟩:=(rP.out.reads (Ah.refl _ _)).1
     go_upto_if 70 with fail
     go_cut [] (fun wx=>∃r3 e3,Hid (DX C W px p q x As cs Am cm wx r3 e3 0 AJ (.slice A2 I.length c2) (.slice A3 R.length c3) [] I R/\XY (decide (I.length+R.length=0)) r2 0 r3 e3))
     case first =>
      cases hd:decide (I.length+R.length=0) with
      | true =>
       have hs0:I.length+R.length=0:=AAm hd;have hI0:I.length=0:=by omega
       have hR0:R.length=0:=by omega
       have hnI:I=[]:=List.length_eq_zero_iff.1 hI0;have hnR:R=[]:=List.length_eq_zero_iff.1 hR0;have z1:decide ((I.length:Int)+(R.length:Int) > 0)=false:=by rw[hI0,hR0];rfl
       clear hd;go_wp2;go_meet;exact ⟨r2,0,rP.out,.inl ⟨AAM hs0,rfl,rfl⟩⟩
      | false =>
       have hs0:¬ I.length+R.length=0:=of_decide_eq_false hd;have z1:decide ((I.length:Int)+(R.length:Int) > 0)=true:=AAM (by omega)
       have z2:(0:Int)<(I.length:Int)+(R.length:Int):=by omega
       clear hd;go_wp2_with (go_at_call 134;refine (Ay ⟨#[44]⟩ rP.out.rd).mono ?_;rintro yy w8 ⟨rfl,g1,r3,e3,g2,g3⟩;have FY:=zh g1;have qw:=zh g2;have ql:=zh g3;clear g1 g2 g3);go_meet;exact ⟨r3,e3,rP.out.BF FY qw,.inr ⟨AAE hs0,ql.out⟩⟩
     case rest =>
     obtain ⟨W2,rfl⟩:∃W:World,W=wc:=⟨_,rfl⟩;obtain ⟨r3,e3,h3⟩:=hcut;have Br:=zh h3.out.1;have ru:=zh h3.out.2;clear h3 p6 p7 xL;go_wp2_with fail;refine (Ow Br.out.rd).mono ?_;rintro yy w4 ⟨t0,r4,e4,rfl,g1,g2,g3⟩;have Gm:=zh (Br.out.BF g1 g2);have KU:=zh g3;clear g1 g2 g3;obtain ⟨Ka,O7⟩:∃z,GH true t0.int=z:=⟨_,rfl⟩;have Ph:=zh O7;rw[O7];clear O7;go_wp2_with fail
     refine (Ay ⟨#[58]⟩ Gm.out.rd).mono ?_;rintro yy w5 ⟨rfl,g1,r5,e5,g2,g3⟩;have Hq:=zh (Gm.out.BF g1 g2);have YW:=zh g3;clear g1 g2 g3;go_upto_region 17 with fail
     have JI:Hid (C.b<w5.heap.size):=Hq.out.rd.lt;have Fp:=zh (fun (w':World) (hb:Ah C.b w5 w')=>(Hq.out.reads hb).1.1.2.2)
     have sO:=FL;refine yE (S:=(fun w'=>w'.cell? ⟨p,7,none⟩=some (.slice A3 R.length c3)/\Hid True)) 10 (by kernel_rfl) ?_ (fun AU=>?_)
     ·(try dsimp only);exact ⟨Fp.out _ (Ah.of (zC (Pd _ _) 1) (AAT JI)),trivial⟩
     refine tC 0 ?_;refine tB 1 ?_;refine tC 2 ?_;refine tC 3 ?_;refine tS 4 (fun K hK=>?_)
     go_simp
     (refine (Cz 3 (Hq.out.below (zC (Pd w5.heap.size w5) 1)).rd).mono ?_;rintro yy w6 ⟨t1,r6,e6,rfl,g1,g2,g3⟩;have BA:=zh ((Ah.of (zC (Pd w5.heap.size w5) 1) (AAT JI)).trans g1);have Ma:=zh (Hq.out.BF BA g2);have XO:=zh g3;clear g1 g2 g3)
     refine hK.out _ _ ?_ (fun AU=>?_)
     ·(try dsimp only);exact ⟨Fp.out _ BA,trivial⟩
     clear hK K;refine tC 5 ?_;try simp only[ps]
     refine tC 6 ?_;refine tS 7 (fun K hK=>?_)
     go_simp
     refine hK.out _ _ ?_ (fun AU=>?_)
     ·(try dsimp only);exact ⟨Fp.out _ (BA.out.below (zD w6 (Tn ⟨Ka,t1.str⟩)) JI),trivial⟩
     clear hK K;refine tS 8 (fun K hK=>?_)
     (have DL:=zh (Ma.out.below (zD w6 (Tn ⟨Ka,t1.str⟩)));have hll:=HRL.out;have Ny:=aJ.out;refine yH O9 (by rfl) (.tmp 78) (.tmp 84) (by rfl) (p+1) (.slice A3 R.length c3) R.length (R.flatMap encR) (by rfl) DL.out.vb.Pp w6.heap.size 0 1 1 (encR ⟨Ka,t1.str⟩) (by rfl) rfl (zR w6 (encR ⟨Ka,t1.str⟩) 97) (U0 _) (by omega) (by omega) DL.out.vb.lt ?_;intro v8 w8 Bq Bp FW;obtain ⟨g,c8,rfl,hgg⟩:=QI Bq;have JU:=zh (DL.out.UA (xr:=⟨Ka,t1.str⟩) (X5 XO) (Pd _ _) Bq Bp FW);have I5:=zh (DL.out.after Bp (.inr (.inr rfl)));obtain ⟨⟨⟨_,_,c7⟩,_,_,f7⟩,_⟩:=I5.out;clear hll Ny Bq FW hgg)
     refine hK.out _ _ ?_ (fun AU=>?_)
     ·(try dsimp only);exact ⟨I5.out.1.1.2.2,trivial⟩
     clear hK K;refine tC 9 ?_;refine zV (rs:=[10]) (by kernel_rfl) (by simp) ?_
     refine AO.last rfl (by kernel_rfl) (fun K hK=>?_) AO.nil
     go_simp
     refine hK.out _ _ ?_;clear hK K
     (try clear AU)
     refine wpAny_done (by kernel_rfl) ?_ _
     skip
     have su:=zh JU.out.rd.mq;have HRQ:=zh (xO ru KU YW XO);have l5:Hid ((⟨GH true t0.int,t1.str⟩:Ac)=⟨Ka,t1.str⟩):=by show _=_;rw[Ph.out]
     have PX:Hid (r6.length<=r2.length):=by have:=ME ru;have:=OG KU;have:=YW.out.1;have:=OG XO;show _<=_;omega
     have HLS:Hid (e6=0->r6.length<r2.length):=fun hz=>by
      have hm:=HRQ.out
      cases hh:rawH (decide (I.length+R.length=0)) r2 with
      | ok p=>rw[hh] at hm;exact hm.2.2.2
      | error e9=>rw[hh] at hm;exact absurd hz hm.2
     have KV:Hid (e=0->e1=0->(e6=0->VF Rw (R++[⟨Ka,t1.str⟩]) (decide (I.length+(R++[(⟨Ka,t1.str⟩:Ac)]).length=0)) r6)/\(e6≠0->Rw = .error e6)):=fun hz h1=>by
      have hI:=HR4.out.2.1 hz h1 (by first|rfl|trivial)
      have hm:=HRQ.out
      cases hh:rawH (decide (I.length+R.length=0)) r2 with
      | ok p =>
       rw[hh] at hm;refine ⟨fun _=>?_,fun h=>absurd hm.2.2.1 h⟩
       have hd:decide (I.length+(R++[(⟨Ka,t1.str⟩:Ac)]).length=0)=false:=AAE (by simp)
       rw[hd,<-l5.out,hm.1,hm.2.1];exact hI.next YZ hh
      | error e9 =>
       rw[hh] at hm;exact ⟨fun h=>absurd h hm.2,fun _=>by rw[hm.1];exact hI.bad YZ hh⟩
     go_wp2
     go_roundw
     case rel=>exact ⟨r6,e6,_,R++[⟨Ka,t1.str⟩],JU.out,(fun h=>by have:=HLS.out h;have:=HRL.out;simp;omega),by have:=HRL.out;have:=aJ.out;simp;omega,by have:=PX.out;have:=HR3.out;omega,fun h=>absurd (HR4.out.1 h).symm h,fun hz h1=>(KV.out hz h1).1,fun hz h1=>(KV.out hz h1).2⟩
     case measure =>
      rw[su.out,AAg.out]
      by_cases h:e6=0
      ·have:=HLS.out h
       simp only[h,if_true];omega
      ·have:=PX.out
       simp only[h,if_true,if_false];omega
  obtain ⟨y,mb,mo,hA,hym,hdr,m0,m1,m2⟩:=SC (OP.out.AA.below HF.out.rd.up) hlt;have HA:=zh hA;have HYT:=zh (MU.out _ hym);have HDR:=zh hdr;have i1:(I.length:Int)<(x.AA.length:Int):=by omega
  have i0:(0:Int)<=(I.length:Int):=by omega
  have z0:decide ((I.length:Int) > 0) = !(decide (I.length=0)):=by
   by_cases h:I.length=0
   ·rw[h];rfl
   ·rw[AAE h,AAM (by omega)];rfl
  rw[hA] at p6;have Dm:=zh hlt;clear hA hym hdr m0 hlt hi
  go_upto_if 17 with fail
  go_cut [] (fun wx=>∃r2 e2,Hid (DX C W px p q x As cs Am cm wx r2 e2 0 AJ vi AJ [] I []/\XY (decide (I.length=0)) r1 e1 r2 e2))
  case first =>
   cases hd:decide (I.length=0) with
   | true =>
    have hI0:I.length=0:=AAm hd;have z1:decide ((I.length:Int) > 0)=false:=by rw[hI0];rfl
    have hnil:I=[]:=List.length_eq_zero_iff.1 hI0;clear z0 hd i1 i0;go_wp2;go_meet;exact ⟨r1,e1,HF.out,.inl ⟨AAM hI0,rfl,rfl⟩⟩
   | false =>
    have hI0:¬ I.length=0:=of_decide_eq_false hd;have z1:decide ((I.length:Int) > 0)=true:=AAM (by omega)
    have z2:(0:Int)<(I.length:Int):=by omega
    have hnil:¬ I=[]:=fun h=>hI0 (by rw[h];rfl)
    clear z0 hd;go_wp2_with (go_at_call 134;refine (Ay ⟨#[44]⟩ HF.out.rd).mono ?_;rintro yy w7 ⟨rfl,g1,r2,e2,g2,g3⟩;have CJ:=zh g1;have HR7:=zh g2;have Vd:=zh g3;clear g1 g2 g3);go_meet;exact ⟨r2,e2,HF.out.BF CJ HR7,.inr ⟨AAE hI0,Vd.out⟩⟩
  case rest =>
  obtain ⟨W2,rfl⟩:∃W:World,W=wc:=⟨_,rfl⟩;obtain ⟨r2,e2,h2⟩:=hcut;have Ht:=zh h2.out.1;have tJ:=zh h2.out.2;clear h2 m1 m2 p6 z0;go_upto_region 6 with fail
  go_cut [29] (fun s wx=>∃t0 r3 e3 b0,s = .bool b0/\Hid (DX C W px p q x As cs Am cm wx r3 e3 0 AJ vi AJ [] I []/\XG 1 r2 e2 t0 r3 e3/\b0 = !decide (t0.text=y.name)))
  case first =>
   have JI:Hid (C.b<W2.heap.size):=Ht.out.rd.lt;have Fp:=zh (fun (w':World) (hb:Ah C.b W2 w')=>(Ht.out.reads hb).2.2.1)
   have HRM:Hid (∀ (w':World),Ah C.b W2 w'->w'.cell? ⟨mb,mo+I.length * 13+1,none⟩=some (.string y.name)):=fun w' hb=>by
    have hup:Below C.w0.heap.size C.w0 w':=Ht.out.rd.up.trans (hb.Ch.mono Ht.out.rd.ok.ge);obtain ⟨y',mb',mo',hA',_,hdr',_,g1,_⟩:=SC (OP.out.AA.below hup) Dm;rw[HA.out] at hA'
    injection hA' with hA'
    injection hA' with j1 j2
    subst j1 j2;rw[HDR.out] at hdr'
    injection hdr' with hdr' _
    rw[hdr'];exact g1
   have fd1:=Lv;refine wp_region_held_drew (S:=(fun w'=>(w'.cell? ⟨px,6,none⟩=some (.slice (some ⟨mb,mo,none⟩) x.AA.length cm)/\w'.cell? ⟨mb,mo+I.length * 13+1,none⟩=some (.string y.name))/\Hid True)) (by kernel_rfl) ?_ (fun AU=>?_)
   ·(try dsimp only);(have hk:=Ah.of (zC (Pd W2.heap.size W2) 1) (AAT JI);exact ⟨⟨(Fp.out _ hk).trans (by rw[HA.out]),HRM.out _ hk⟩,trivial⟩)
   refine tL 0 ?_;try simp only[ps]
   refine tL 3 ?_;refine tL 4 ?_;refine tL 5 ?_;refine tL 6 ?_;refine tL 7 ?_;refine tL 8 ?_;try simp only[ps]
   refine tR 1 (fun K hK=>?_)
   go_simp
   (refine (Cz 1 (Ht.out.below (zC (Pd _ _) 1)).rd).mono ?_;rintro yy w7 ⟨t0,r3,e3,rfl,g1,g2,g3⟩;have CJ:=zh ((Ah.of (zC (Pd W2.heap.size W2) 1) (AAT JI)).trans g1);have Gj:=zh (Ht.out.BF CJ g2);have gX:=zh g3;clear g1 g2 g3)
   refine hK.out _ _ ?_ (fun AU=>?_)
   ·(try dsimp only);exact ⟨⟨(Fp.out _ CJ).trans (by rw[HA.out]),HRM.out _ CJ⟩,trivial⟩
   clear hK K;refine tL 2 ?_;refine tL 9 ?_;refine wpAnyH_done (by kernel_rfl) ?_ _
   (go_wp2;go_meet;exact ⟨t0,r3,e3,_,rfl,Gj.out,gX.out,by rw[<-bytes_beq]⟩)
  case rest =>
  obtain ⟨W3,rfl⟩:∃W:World,W=wc:=⟨_,rfl⟩;obtain ⟨t0,r3,e3,b0,rfl,h3⟩:=hcut;have GJ:=zh h3.out.1;have EJ:=zh h3.out.2.1;have HB3:=zh h3.out.2.2;clear h3
  go_upto_if 29 with fail
  go_cut [] (fun wx=>Hid (DX C W px p q x As cs Am cm wx r3 (sK t0.text y.name e3) 0 AJ vi AJ [] I []))
  case first =>
   cases b0 with
   | false =>
    have HE:Hid (sK t0.text y.name e3=e3):=AAC (by
     by_cases h:t0.text=y.name
     ·exact h
     ·have:=HB3.out;rw[AAE h] at this;cases this)
    go_wp2
    go_meet
    show DX C W px p q x As cs Am cm W3 r3 (sK t0.text y.name e3) 0 AJ vi AJ [] I []
    rw[HE.out];exact GJ.out
   | true =>
    have HE:Hid (sK t0.text y.name e3=JE e3 4):=Pe (fun h=>by
     have:=HB3.out;rw[AAM h] at this;cases this)
    go_wp2_with (go_at_call 163;refine (Di 4 GJ.out.rd).mono ?_;rintro yy w7 ⟨rfl,g1,g2⟩;have CJ:=zh g2;have HR7:=zh g1;clear g1 g2)
    go_meet
    show DX C W px p q x As cs Am cm w7 r3 (sK t0.text y.name e3) 0 AJ vi AJ [] I []
    rw[HE.out];exact GJ.out.BF CJ HR7
  case rest =>
  obtain ⟨W4,rfl⟩:∃W:World,W=wc:=⟨_,rfl⟩;have GI:=zh hcut.out;go_wp2_with fail;refine (Ay ⟨#[58]⟩ GI.out.rd).mono ?_;rintro yy w5 ⟨rfl,g1,r4,e4,g2,g3⟩;have Gn:=zh (GI.out.BF g1 g2);have vY:=zh (xS (y:=y) tJ EJ (e3':=sK t0.text y.name e3) rfl g3);have HL4:Hid (r4.length<=r1.length):=by have:=g3.1;have:=OG EJ;have:=ME tJ;show _<=_;omega
  clear g1 g2 g3;have rz:=Gn.out.rd.zero
  by_cases wS:e4=0
  case neg =>
   have q1:(e4 != 0)=true:=by simp[wS]
   have JO:=zh (rU.out e4 (fun h=>by
     have h1:=HS.out.2.2.1 h;have h2:=vY.out.1 (by omega)
     omega) (fun h=>by
     by_cases h1:e1=0
     ·have hm:=vY.out.2 h1
      have hI:=(HS.out.2.2.2.2 h1).2;rw[HDR.out] at hI
      cases hh:Oz (decide (I.length=0)) y r1 with
      | ok l=>rw[hh] at hm;exact absurd hm.2.1 wS
      | error e9=>rw[hh] at hm;rw[hm.1];exact hI.bad hh
     ·rw[vY.out.1 h1];exact HS.out.2.2.2.1 h h1) (.mk x.kind false 0 ⟨#[]⟩ 0 [] (I.map (·.v)) []) r4)
   have Ez:Hid (r4.length<=r.length):=by have:=HL4.out;have:=HS.out.2.1;show _<=_;omega
   have P9:Hid (I.length<=2000000):=by have:=HS.out.1;show _<=_;omega
   obtain ⟨A2,c2,rfl,_⟩:=Gn.out.vb.oi.reads;clear wS;have HG2:=zh (FI Gn Ez ⟨by simp,P9.out,by simp⟩ JO)
   have Br:=zh (Cw Gn.out.bq (.int .i64 x.kind) (.bool false) (.int .i64 0) (.string ⟨#[]⟩) (.int .i64 0) AJ (.slice A2 I.length c2) AJ);obtain ⟨⟨x0,x1,x2,x3,x4,x5,x6,x7⟩,y0,y1,y2,y3,y4,y5,y6,y7⟩:=zK Gn.out.bq;obtain ⟨⟨v0,v1,v2,v3,v4,v5,v6,v7⟩,_⟩:=Gn.out.vb.cells;go_wp2;clear x0 x1 x2 x3 x4 x5 x6 x7 y0 y1 y2 y3 y4 y5 y6 y7 v0 v1 v2 v3 v4 v5 v6 v7
   unfold q8 q5 at HG2 Br;generalize World.setCell _ _ _=W9 at *;obtain ⟨⟨x0,x1,x2,x3,x4,x5,x6,x7⟩,_⟩:=zK Br
   refine bodyPost_ret (v := .agg #[.int .i64 x.kind,.bool false,.int .i64 0,.string ⟨#[]⟩,.int .i64 0,AJ,(.slice A2 I.length c2),AJ]) (by simp[results,Tryz.results135,go_sem,x0,x1,x2,x3,x4,x5,x6,x7]) rfl HG2
  subst wS;have q1:((0:Int) != 0)=false:=rfl;have Mc:Hid (e1=0):=by
   show _=_
   by_cases h:e1=0
   ·exact h
   ·exact (vY.out.1 h).symm
  have HMH:Hid (Oz (decide (I.length=0)) y r1 = .ok r4/\r4.length<r1.length):=by
   have hm:=vY.out.2 Mc
   cases hh:Oz (decide (I.length=0)) y r1 with
   | ok l=>rw[hh] at hm;exact ⟨by rw[hm.1],hm.2.2⟩
   | error e9=>rw[hh] at hm;exact absurd rfl hm.2
  have Yc:=zh (HS.out.2.2.2.2 Mc).1;have gU:=zh (HS.out.2.2.2.2 Mc).2;rw[HDR.out] at gU;obtain ⟨A2,c2,rfl,_⟩:=Gn.out.vb.oi.reads;have MX:Hid (∀ (w':World),Below C.w0.heap.size C.w0 w'->w'.cell? ⟨mb,mo+I.length * 13+2,none⟩=some (.int .i64 y.type)):=fun w' hup=>by
   obtain ⟨y',mb',mo',hA',_,hdr',_,_,g1⟩:=SC (OP.out.AA.below hup) Dm;rw[HA.out] at hA'
   injection hA' with hA'
   injection hA' with j1 j2
   subst j1 j2;rw[HDR.out] at hdr'
   injection hdr' with hdr' _
   rw[hdr'];exact g1
  clear rz;have rz:=Gn.out.rd.zero;go_upto_region 11 with fail
  have JI:Hid (C.b<w5.heap.size):=Gn.out.rd.lt;have HUP:Hid (∀ (w':World),Ah C.b w5 w'->Below C.w0.heap.size C.w0 w'):=fun w' hb=>Gn.out.rd.up.trans (hb.Ch.mono Gn.out.rd.ok.ge)
  have Fp:=zh (fun (w':World) (hb:Ah C.b w5 w')=>And.intro (Gn.out.reads hb).1.1.2.1 (And.intro ((Gn.out.reads hb).2.2.1.trans (by rw[HA.out]:_=some (.slice (some ⟨mb,mo,none⟩) x.AA.length cm))) (MX.out _ (HUP.out _ hb))))
  clear rz;refine yE (S:=(fun w'=>(w'.cell? ⟨p,6,none⟩=some (.slice A2 I.length c2)/\w'.cell? ⟨px,6,none⟩=some (.slice (some ⟨mb,mo,none⟩) x.AA.length cm)/\w'.cell? ⟨mb,mo+I.length * 13+2,none⟩=some (.int .i64 y.type))/\Hid True)) 13 (by kernel_rfl) ?_ (fun AU=>?_)
  ·(try dsimp only);exact ⟨Fp.out _ (Ah.of (zC (Pd _ _) 1) (AAT JI)),trivial⟩
  refine tC 0 ?_;refine tB 1 ?_;refine tC 2 ?_;try simp only[ps]
  refine tC 3 ?_;refine tB 4 ?_;refine tC 5 ?_;refine tC 6 ?_;refine tC 7 ?_;refine tB 8 ?_;try simp only[ps]
  refine tS 9 (fun K hK=>?_)
  go_simp
  (refine (Df.out y.type _ r4 (by have:=HS.out.2.1;have:=HN.out (by by_cases h:e=0;exact h;exact absurd ((HS.out.2.2.1 h).symm.trans Mc) h);have:=HL4.out;omega) HYT (Gn.out.below (zC (Pd w5.heap.size w5) 1)).rd).mono ?_;rintro yy w6 ⟨xa,rfl,g1,g2,r6,e6,g3,g4,g5⟩;have BA:=zh ((Ah.of (zC (Pd w5.heap.size w5) 1) (AAT JI)).trans g2);have IX:=zh (Gn.out.hot g1);have Dn:=zh (Gn.out.BF BA g3);have Gm:=zh g4;have Hq:=zh g5;clear g1 g2 g3 g4 g5)
  refine hK.out _ _ ?_ (fun AU=>?_)
  ·(try dsimp only);exact ⟨Fp.out _ BA,trivial⟩
  clear hK K;refine tS 10 (fun K hK=>?_)
  go_simp
  refine hK.out _ _ ?_ (fun AU=>?_)
  ·(try dsimp only);exact ⟨Fp.out _ (BA.out.below (zD w6 (.cells xa.cells.toArray 28)) JI),trivial⟩
  clear hK K;refine tS 11 (fun K hK=>?_)
  (have DL:=zh (Dn.out.below (zD w6 (.cells xa.cells.toArray 28)));have hll:=Yc.out;have Ny:=aJ.out;refine yH Bz (by rfl) (.tmp 41) (.tmp 50) (by rfl) (p+1) (.slice A2 I.length c2) I.length (I.flatMap BX.cells) (by rfl) DL.out.vb.oi w6.heap.size 0 1 1 xa.cells (by rfl) rfl (zR w6 xa.cells 28) (Gr xa) (by omega) (by omega) DL.out.vb.lt ?_;intro v8 w8 Bq Bp FW;obtain ⟨g,c8,rfl,hgg⟩:=CR Bq;have JU:=zh (Dn.out.item IX (zD w6 (.cells xa.cells.toArray 28)) Bq Bp FW);have I5:=zh (DL.out.after Bp (.inr (.inl rfl)));have HU8:=zh (MX.out _ (DL.out.up8 Bp (.inr (.inl rfl))));obtain ⟨⟨⟨_,c6,_⟩,_,f6,_⟩,_⟩:=I5.out;clear hll Ny Bq FW hgg)
  refine hK.out _ _ ?_ (fun AU=>?_)
  ·(try dsimp only);exact ⟨⟨I5.out.1.1.2.1,I5.out.2.2.1.trans (by rw[HA.out]),HU8.out⟩,trivial⟩
  clear hK K;refine tC 12 ?_;refine zV (rs:=[13]) (by kernel_rfl) (by simp) ?_
  refine AO.last rfl (by kernel_rfl) (fun K hK=>?_) AO.nil
  go_simp
  refine hK.out _ _ ?_;clear hK K
  (try clear AU)
  refine wpAny_done (by kernel_rfl) ?_ _
  skip
  have AAr:=zh JU.out;have sw:=zh Gm.out;have Ya:=zh Hq.out;have HST:=zh (ZT VW gU HMH.out.1 (v:=xa.v) (r6:=r6) (e6:=e6) Ya);have xE:Hid ((I++[xa]).length=I.length+1/\(I++[xa]).map (·.v)=I.map (·.v)++[xa.v]):=⟨by simp,by simp⟩
  generalize I++[xa]=J at *;have hjl:=xE.out.1;have hlt:=Dm.out;go_wp2;go_roundw
  case rel =>
   refine ⟨r6,e6,_,J,by rw[hjl];rfl,by omega,AAr.out,by have:=Yc.out;have:=aJ.out;omega,by have:=sw.out;have:=HL4.out;have:=HS.out.2.1;omega,fun h=>absurd ((HS.out.2.2.1 h).symm.trans Mc) h,fun _ h=>HST.out.1 h,fun h=>?_⟩
   obtain ⟨g1,g2⟩:=HST.out.2 h;refine ⟨by have:=Yc.out;have:=HMH.out.2;omega,?_⟩
   rw[xE.out.2,hjl];exact g1
  case measure=>simp[intOf];omega
end Go.Proofs.YthkkllmmbefedaaGreatDoor



