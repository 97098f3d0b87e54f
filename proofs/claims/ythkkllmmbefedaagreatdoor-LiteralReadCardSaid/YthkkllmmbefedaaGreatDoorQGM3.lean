/-
  Walks: the reference's fit, kinds 5.
-/
import Derived.Test.YthkkllmmbefedaaGreatDoorQGM2
namespace Go.Proofs.YthkkllmmbefedaaGreatDoor
open Go.RowKit
set_option maxHeartbeats 16000000
set_option maxRecDepth 100000
theorem Rk {s:List AZ} {A:zo} {c n:Nat} (_hv:zQ s=0) (_hn:Ca s) (_ih:Ew s A c false n):MN s A c false n 4:=by
 intro tn htn v A1 c1 A2 c2 A3 c3 w hsz hs hr hkx hvk hp hrest
 have hln:=hs.1.lt (by omega)
 obtain ⟨HB0,H5,H7⟩:=zy w (.cells #[.slice A s.length c] 31) (v.box A1 c1 A2 c2 A3 c3);have Df:=zh _ih;have HV:=zh _hv;have HN:=zh _hn;have HS:=zh hs;have HR:=zh hr;have ED:Hid (∀y,y∈v.keys\/y∈v.items->SizeOf.sizeOf y<=n):=hsz;have HP:=zh hp;have gQ:=zh (AAW htn);obtain ⟨b,o,As,cs,Am,cm,hA,htr,t0,t1,t2,t3,t4,t5,t6,t7,t8,t9⟩:=(hs.below HB0).JM htn;clear hs hr hp _ih _hv _hn
 subst hA;generalize s[tn]=x at *;have F7:=zh htr;have HK:=zh hkx;have LM:=zh (hvk.trans hkx);have q0:(v.kind != x.kind)=false:=by simp[hvk]
 have Pg:=zh hrest;clear htr hkx hvk hrest;have r1:¬ ((tn:Int)<0):=by omega
 have r2:¬ ((s.length:Int)<=(tn:Int)):=by omega
 have h1:(0:Int)<=(tn:Int):=by omega
 have h2:(tn:Int)<(s.length:Int):=by omega
 go_enter Tryz.func71,Tryz.ntmps71
 go_upto_region 1 with fail
 generalize (w.alloc (.cells #[.slice (some ⟨b,o,none⟩) s.length c] 31)).alloc (v.box A1 c1 A2 c2 A3 c3)=W2 at *;have x0:=zb H5;go_upto_region 4 with fail
 clear t0 t1 t2 t3 t4 t5 t6 t7 t8 t9 x0 r1 r2;have BI:=zh (zD W2 (x.box As cs Am cm));have Hg:Hid (Bf (W2.alloc (x.box As cs Am cm)) W2.heap.size x As cs Am cm):=AAA W2 _;have BK:=zh (zE H5 BI);have Gz:=zh (zE H7 BI);have HB3:=zh (zB HB0 BI);have Ec:=zh (F7.out.below BI);generalize W2.alloc (x.box As cs Am cm)=W3 at *
 generalize W2.heap.size=p9 at *;clear H5 H7 F7 BI HB0;obtain ⟨v0,v1,v2,v3,v4,v5,v6,v7⟩:=zF Gz;obtain ⟨b0,b1,b2,b3,b4,b5,b6,b7,b8,b9⟩:=zG Hg;go_wp2_with fail;refine (yJ v (by rw[LM.out];omega) A1 c1 A2 c2 A3 c3 W3).mono ?_
 rintro e w4 ⟨rfl,hb4⟩;rw[HP.out];have BD:=zh (zB HB3 hb4);have Ed:=zh (Hg.out.below hb4);have Hl:=zh (zE BK hb4);have Gi:=zh (zE Gz hb4);have VP:=zh (HS.out.below BD);have HRR:=zh (HR.out.below BD);have Ey:=zh (Ec.out.below hb4);clear hb4 v0 v1 v2 v3 v4 v5 v6 v7 b0 b1 b2 b3 b4 b5 b6 b7 b8 b9 HB3 Hg BK Gz q0 Ec;obtain ⟨v0,v1,v2,v3,v4,v5,v6,v7⟩:=zF Gi
 obtain ⟨b0,b1,b2,b3,b4,b5,b6,b7,b8,b9⟩:=zG Ed;have x0:=zb Hl;go_upto_region 6 with fail
 obtain ⟨q1,q2,q3,q4⟩:=zk4 HK;have HD0:=zh (fb4 (f:=AQ s false n) (plain:=false) (v:=v) HK);obtain ⟨an,han⟩:∃an,(x.Ab.any fun y=>decide (y.id=v.id))=an:=⟨_,rfl⟩
 have hcall:=UC v.id x As cs Am cm w4 Ey;rw[han] at hcall HD0;have NP:=zh hcall;clear hcall han;go_wp2_with fail;refine NP.out.mono ?_;rintro e w5 ⟨r,rfl,_,hb5⟩;have BB:=zh (zB BD hb5);have YU:=zh (Ed.out.below hb5);have nY:=zh (zE Hl hb5);have mQ:=zh (zE Gi hb5);clear hb5 NP;clear v0 v1 v2 v3 v4 v5 v6 v7 b0 b1 b2 b3 b4 b5 b6 b7 b8 b9 x0
 obtain ⟨v0,v1,v2,v3,v4,v5,v6,v7⟩:=zF mQ;obtain ⟨b0,b1,b2,b3,b4,b5,b6,b7,b8,b9⟩:=zG YU;have x0:=zb nY
 cases an with
 | true =>
  have HD:Hid (AX (AQ s false n) false x v=true):=by show _=_;rw[HD0.out];rfl
  go_wp2
  go_ret
  exact ⟨by rw[HD.out];rfl,BB.out⟩
 | false =>
  cases ho:x.open_ with
  | false =>
   have HD:Hid (AX (AQ s false n) false x v=false):=by show _=_;rw[HD0.out,ho];rfl
   go_wp2
   go_ret
   exact ⟨by rw[HD.out];rfl,BB.out⟩
  | true =>
   have HD:Hid (AX (AQ s false n) false x v=Aq v.id):=by show _=_;rw[HD0.out,ho];rfl
   go_wp2_with fail
   refine (FH v.id false _).mono ?_;rintro e w6 ⟨rfl,rfl⟩;obtain ⟨X,hX⟩:∃X,Aq v.id=X:=⟨_,rfl⟩;rw[hX];have HD2:Hid (AX (AQ s false n) false x v=X):=HD.out.trans hX;clear hX;go_wp2;go_ret;exact ⟨by rw[HD2.out];rfl,BB.out⟩
theorem oZ (pl:Bool) {s:List AZ} {A:zo} {c n:Nat} (_hv:zQ s=0) (_hn:Ca s) (_ih:Ew s A c pl n):MN s A c pl n 5:=by
 intro tn htn v A1 c1 A2 c2 A3 c3 w hsz hs hr hkx hvk hp hrest
 have hln:=hs.1.lt (by omega)
 obtain ⟨HB0,H5,H7⟩:=zy w (.cells #[.slice A s.length c] 31) (v.box A1 c1 A2 c2 A3 c3);have Df:=zh _ih;have HV:=zh _hv;have HN:=zh _hn;have HS:=zh hs;have HR:=zh hr;have ED:Hid (∀y,y∈v.keys\/y∈v.items->SizeOf.sizeOf y<=n):=hsz;have HP:=zh hp;have gQ:=zh (AAW htn);obtain ⟨b,o,As,cs,Am,cm,hA,htr,t0,t1,t2,t3,t4,t5,t6,t7,t8,t9⟩:=(hs.below HB0).JM htn;clear hs hr hp _ih _hv _hn
 subst hA;generalize s[tn]=x at *;have F7:=zh htr;have HK:=zh hkx;have LM:=zh (hvk.trans hkx);have q0:(v.kind != x.kind)=false:=by simp[hvk]
 have Pg:=zh hrest;clear htr hkx hvk hrest;have r1:¬ ((tn:Int)<0):=by omega
 have r2:¬ ((s.length:Int)<=(tn:Int)):=by omega
 have h1:(0:Int)<=(tn:Int):=by omega
 have h2:(tn:Int)<(s.length:Int):=by omega
 go_enter Tryz.func71,Tryz.ntmps71
 go_upto_region 1 with fail
 generalize (w.alloc (.cells #[.slice (some ⟨b,o,none⟩) s.length c] 31)).alloc (v.box A1 c1 A2 c2 A3 c3)=W2 at *;have x0:=zb H5;go_upto_region 4 with fail
 clear t0 t1 t2 t3 t4 t5 t6 t7 t8 t9 x0 r1 r2;have BI:=zh (zD W2 (x.box As cs Am cm));have Hg:Hid (Bf (W2.alloc (x.box As cs Am cm)) W2.heap.size x As cs Am cm):=AAA W2 _;have BK:=zh (zE H5 BI);have Gz:=zh (zE H7 BI);have HB3:=zh (zB HB0 BI);have Ec:=zh (F7.out.below BI);generalize W2.alloc (x.box As cs Am cm)=W3 at *
 generalize W2.heap.size=p9 at *;clear H5 H7 F7 BI HB0;obtain ⟨v0,v1,v2,v3,v4,v5,v6,v7⟩:=zF Gz;obtain ⟨b0,b1,b2,b3,b4,b5,b6,b7,b8,b9⟩:=zG Hg
 go_cut [48] (fun Y0 wx=>Y0 = .bool false/\Hid (Below W3.heap.size W3 wx))
 case first =>
  cases pl with
  | true =>
   have z0:¬ (0:Int)<(v.rest.length:Int):=by have:=Pg.out rfl;omega
   go_wp2_with fail
   refine (yJ v (by rw[LM.out];omega) A1 c1 A2 c2 A3 c3 W3).mono ?_
   rintro e w4 ⟨rfl,hb4⟩;rw[HP.out];have BD:=zh hb4;have v7:=zA hb4 v7;clear hb4;go_wp2;go_meet;exact ⟨by first|rfl|exact congrArg Value.bool (AAE (by omega)),BD.out⟩
  | false =>
   go_wp2_with fail
   refine (yJ v (by rw[LM.out];omega) A1 c1 A2 c2 A3 c3 W3).mono ?_
   rintro e w4 ⟨rfl,hb4⟩;rw[HP.out];have BD:=zh hb4;have v7:=zA hb4 v7;clear hb4;go_wp2;go_meet;exact ⟨by first|rfl|exact congrArg Value.bool (AAE (by omega)),BD.out⟩
 case rest =>
 obtain ⟨rfl,hcut⟩:=hcut;obtain ⟨w4,rfl⟩:∃W:World,W=wc:=⟨_,rfl⟩;have hb4:=hcut.out;clear hcut;have BD:=zh (zB HB3 hb4);have Ed:=zh (Hg.out.below hb4);have Hl:=zh (zE BK hb4);have Gi:=zh (zE Gz hb4);have VP:=zh (HS.out.below BD);have HRR:=zh (HR.out.below BD);have Ey:=zh (Ec.out.below hb4)
 clear hb4 v0 v1 v2 v3 v4 v5 v6 v7 b0 b1 b2 b3 b4 b5 b6 b7 b8 b9 HB3 Hg BK Gz q0 Ec;obtain ⟨v0,v1,v2,v3,v4,v5,v6,v7⟩:=zF Gi;obtain ⟨b0,b1,b2,b3,b4,b5,b6,b7,b8,b9⟩:=zG Ed;have x0:=zb Hl;go_upto_region 6 with fail
 obtain ⟨q1,q2,q3,q4,q5⟩:=zk5 HK;have HD0:=zh (fb5 (f:=AQ s pl n) (plain:=pl) (v:=v) HK Pg);have iI:=HRR.out.items.1.lt (by omega)
 have hlm:=Ey.out.AA.1.lt (by omega)
 by_cases hl1:v.items.length=x.AA.length
 case neg =>
  have HD:Hid (AX (AQ s pl n) pl x v=false):=by show _=_;rw[HD0.out];simp[hl1]
  have q1:((v.items.length:Int) != (x.AA.length:Int))=true:=bne_iff_ne.2 (by omega)
  clear hl1;go_wp2;go_ret;exact ⟨by rw[HD.out];rfl,BD.out⟩
 have q1:((v.items.length:Int) != (x.AA.length:Int))=false:=by simp[hl1]
 have HL:=zh hl1;have HD1:Hid (AX (AQ s pl n) pl x v=(Dh x v.rest&&((x.AA.zip v.items).all fun p=>AQ s pl n p.1.type p.2))):=by show _=_;rw[HD0.out,AAM hl1];rfl
 clear hl1;go_wp2_with fail;refine (Y8 x As cs Am cm v.rest A3 c3 w4 Ey HRR.out.rest).mono ?_;rintro e w5 ⟨rfl,hb5⟩;have BB:=zh (zB BD hb5);have YU:=zh (Ed.out.below hb5);have nY:=zh (zE Hl hb5);have mQ:=zh (zE Gi hb5);have XM:=zh (HRR.out.below hb5);have P6:=zh (Ey.out.below hb5);have PU:=zh (VP.out.below hb5);clear hb5
 clear v0 v1 v2 v3 v4 v5 v6 v7 b0 b1 b2 b3 b4 b5 b6 b7 b8 b9 x0;obtain ⟨v0,v1,v2,v3,v4,v5,v6,v7⟩:=zF mQ;obtain ⟨b0,b1,b2,b3,b4,b5,b6,b7,b8,b9⟩:=zG YU;have x0:=zb nY
 cases hra:Dh x v.rest with
 | false =>
  have HD:Hid (AX (AQ s pl n) pl x v=false):=by show _=_;rw[HD1.out,hra];rfl
  clear hra;go_wp2;go_ret;exact ⟨by rw[HD.out];rfl,BB.out⟩
 | true =>
  have HD2:Hid (AX (AQ s pl n) pl x v=(x.AA.zip v.items).all fun p=>AQ s pl n p.1.type p.2):=by show _=_;rw[HD1.out,hra];rfl
  clear hra HD1 HD0 q1;obtain ⟨X,hX⟩:∃X,AX (AQ s pl n) pl x v=X:=⟨_,rfl⟩;have l5:=zh hX;replace HD2:=zh (hX.symm.trans HD2);clear hX;go_wp2_with fail
  go_loopw [12] (fun i wr=>∃j:Nat,j<=v.items.length/\i = .int .i64 (j:Int)/\Hid ((∀q (h:q<x.AA.length) (h':q<v.items.length),q<j->AQ s pl n (x.AA[q]).type v.items[q]=true)/\Below w5.heap.size w5 wr)) (fun i _=>v.items.length - (intOf i).toNat)
  case atStart=>exact ⟨0,by omega,rfl,(fun j _ _ h=>absurd h (by omega)),Pd _ _⟩
  case round =>
   obtain ⟨j,hj,rfl,hh⟩:=hrel;obtain ⟨WB,rfl⟩:∃w':World,w'=wr:=⟨_,rfl⟩;have XT:=zh hh.out.1;have NQ:=zh hh.out.2;clear hh v0 v1 v2 v3 v4 v5 v6 v7 b0 b1 b2 b3 b4 b5 b6 b7 b8 b9 x0;have HTq:=zh (YU.out.below NQ);have H5q:=zh (zE nY NQ);have H7q:=zh (zE mQ NQ);obtain ⟨v0,v1,v2,v3,v4,v5,v6,v7⟩:=zF H7q;obtain ⟨b0,b1,b2,b3,b4,b5,b6,b7,b8,b9⟩:=zG HTq;have x0:=zb H5q
   by_cases hji:j<v.items.length
   ·have hjt:j<x.AA.length:=by have:=HL.out;omega
    obtain ⟨mb,mo,M1,m1,M2,m2,M3,m3,Wj,_,d0,d1,d2,d3,d4,d5,d6,d7,d8,d9,aQ,aP,aO⟩:=(P6.out.AA.below NQ).MH hjt;obtain ⟨ib,io,E1,e1,E2,e2,E3,e3,I,hI,a0,a1,a2,a3,a4,a5,a6,a7⟩:=(XM.out.items.below NQ).at8 hji;have iA:=zh hI;have vz:=zh (And.intro a0 (And.intro a1 (And.intro a2 (And.intro a3 (And.intro a4 (And.intro a5 (And.intro a6 a7)))))));clear hI a0 a1 a2 a3 a4 a5 a6 a7
    have hz:=ED.out _ (.inr (AAW hji));have Ho:Hid (AQ s pl n (x.AA[j]).type v.items[j]=false->X=false):=fun h=>HD2.out.trans (LV _ _ _ j hjt hji h)
    have HST:Hid (AQ s pl n (x.AA[j]).type v.items[j]=true->∀q (h:q<x.AA.length) (h':q<v.items.length),q<j+1->AQ s pl n (x.AA[q]).type v.items[q]=true):=fun hx q h h' hq=>by
     by_cases ej:q=j
     ·subst ej;exact hx
     ·exact XT.out q h h' (by omega)
    have HMT:=zh d2;generalize x.AA[j]=m at *;generalize v.items[j]=y at *;have HZ:=zh hz;rw[Wj] at b6;rw[I] at v6;have h1:(0:Int)<=(j:Int):=by omega
    have h2:(j:Int)<(x.AA.length:Int):=by omega
    have h3:(j:Int)<(v.items.length:Int):=by omega
    have FD:Hid (∀w',Below WB.heap.size WB w'->(w'.cell? ⟨w.heap.size,0,none⟩=some (.slice (some ⟨b,o,none⟩) s.length c)/\w'.cell? ⟨p9,6,none⟩=some (.slice (some ⟨mb,mo,none⟩) x.AA.length cm)/\w'.cell? ⟨mb,mo+j * 13+2,none⟩=some (.int .i64 m.type)/\w'.cell? ⟨w.heap.size+1,6,none⟩=some (.slice (some ⟨ib,io,none⟩) v.items.length c2)/\w'.cell? ⟨ib,io+j * 8,none⟩=some (.int .i64 y.kind)/\w'.cell? ⟨ib,io+j * 8+1,none⟩=some (.bool y.bool)/\w'.cell? ⟨ib,io+j * 8+2,none⟩=some (.int .i64 y.int)/\w'.cell? ⟨ib,io+j * 8+3,none⟩=some (.string y.str)/\w'.cell? ⟨ib,io+j * 8+4,none⟩=some (.int .i64 y.id)/\w'.cell? ⟨ib,io+j * 8+5,none⟩=some (.slice E1 y.keys.length e1)/\w'.cell? ⟨ib,io+j * 8+6,none⟩=some (.slice E2 y.items.length e2)/\w'.cell? ⟨ib,io+j * 8+7,none⟩=some (.slice E3 y.rest.length e3))):=fun w' hb=>by
     obtain ⟨a0,a1,a2,a3,a4,a5,a6,a7⟩:=vz.out;exact ⟨zA hb x0,zA hb b6,zA hb d2,zA hb v6,zA hb a0,zA hb a1,zA hb a2,zA hb a3,zA hb a4,zA hb a5,zA hb a6,zA hb a7⟩
    clear hz d0 d1 d2 d3 d4 d5 d6 d7 d8 d9 aQ aP aO Wj I;go_upto_region 22 with fail
    clear v0 v1 v2 v3 v4 v5 v6 v7 b0 b1 b2 b3 b4 b5 b6 b7 b8 b9 x0;refine zr (Y:=fun w'=>Hid (Below WB.heap.size WB w')) FD (by kernel_rfl) ?_ (fun AU=>?_)
    ·(try dsimp only);exact ⟨FD.out _ (zC (Pd _ _) 1),(zC (Pd _ _) 1)⟩
    refine tL 0 ?_;refine tL 1 ?_;refine tL 2 ?_;refine tL 3 ?_;refine tL 4 ?_;refine tL 5 ?_;try simp only[ps]
    refine tL 6 ?_;refine tL 7 ?_;refine tL 8 ?_;refine tL 9 ?_;refine tL 10 ?_;refine tL 11 ?_;try simp only[ps]
    refine tL 12 ?_;refine tR 13 (fun K hK=>?_)
    go_simp
    (refine (Df.out m.type y E1 e1 E2 e2 E3 e3 _ HZ (PU.out.below (zB NQ AU.2.out)) (iA.out.below AU.2.out)).mono ?_;rintro e w6 ⟨rfl,hb6⟩;have BA:=zh (zB AU.2.out hb6);clear hb6)
    refine hK.out _ _ ?_ (fun AU=>?_)
    ·(try dsimp only);exact ⟨FD.out _ BA,BA.out⟩
    clear hK K;refine tL 14 ?_;refine wpAnyH_done (by kernel_rfl) ?_ _
    clear AU
    cases kX:AQ s pl n m.type y with
    | false =>
     have F6:=zh (Ho.out kX);clear kX;go_wp2;go_ret;exact ⟨by rw[l5.out,F6.out];rfl,zB BB (zB NQ BA)⟩
    | true =>
     have F6:=zh (HST.out kX);clear kX;go_wp2;go_roundw
     case rel=>exact ⟨j+1,by omega,by go_num,F6.out,zB NQ BA⟩
     case measure=>simp[intOf];omega
   ·have F6:Hid (X=true):=by show _=_;rw[HD2.out];exact LW _ _ _ fun q h h'=>XT.out q h h' (by omega)
    go_wp2
    go_ret
    exact ⟨by rw[l5.out,F6.out];rfl,zB BB NQ⟩
end Go.Proofs.YthkkllmmbefedaaGreatDoor



