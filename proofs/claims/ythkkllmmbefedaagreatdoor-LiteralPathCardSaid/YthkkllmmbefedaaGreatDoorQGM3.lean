/-
  Walks: the reference's fit, kinds 5.
-/
import Derived.Test.YthkkllmmbefedaaGreatDoorQGM2
namespace Go.Proofs.YthkkllmmbefedaaGreatDoor
open Go.RowKit
set_option maxHeartbeats 16000000
set_option maxRecDepth 100000
theorem Qt {s:List Ae} {A:zo} {c n:Nat} (_hv:zQ s=0) (_hn:Bq s) (_ih:Ed s A c false n):LH s A c false n 4:=by
 intro tn htn v A1 c1 A2 c2 A3 c3 w hsz hs hr hkx hvk hp hrest
 have hln:=hs.1.lt (by omega)
 obtain ⟨HB0,H5,H7⟩:=zy w (.cells #[.slice A s.length c] 31) (v.box A1 c1 A2 c2 A3 c3);have E5:=zh _ih;have HV:=zh _hv;have HN:=zh _hn;have HS:=zh hs;have HR:=zh hr;have FR:Hid (∀y,y∈v.keys\/y∈v.items->SizeOf.sizeOf y<=n):=hsz;have HP:=zh hp;have fB:=zh (AAK htn);obtain ⟨b,o,As,cs,Am,cm,hA,htr,t0,t1,t2,t3,t4,t5,t6,t7,t8,t9⟩:=(hs.below HB0).FQ htn;clear hs hr hp _ih _hv _hn
 subst hA;generalize s[tn]=x at *;have Dv:=zh htr;have HK:=zh hkx;have KO:=zh (hvk.trans hkx);have q0:(v.kind != x.kind)=false:=by simp[hvk]
 have Od:=zh hrest;clear htr hkx hvk hrest;have r1:¬ ((tn:Int)<0):=by omega
 have r2:¬ ((s.length:Int)<=(tn:Int)):=by omega
 have h1:(0:Int)<=(tn:Int):=by omega
 have h2:(tn:Int)<(s.length:Int):=by omega
 go_enter Tryz.func71,Tryz.ntmps71
 go_upto_region 1 with fail
 generalize (w.alloc (.cells #[.slice (some ⟨b,o,none⟩) s.length c] 31)).alloc (v.box A1 c1 A2 c2 A3 c3)=W2 at *;have x0:=zb H5;go_upto_region 4 with fail
 clear t0 t1 t2 t3 t4 t5 t6 t7 t8 t9 x0 r1 r2;have BI:=zh (zD W2 (x.box As cs Am cm));have Gy:Hid (BX (W2.alloc (x.box As cs Am cm)) W2.heap.size x As cs Am cm):=AAC W2 _;have Bg:=zh (zE H5 BI);have Gd:=zh (zE H7 BI);have HB3:=zh (zB HB0 BI);have EI:=zh (Dv.out.below BI);generalize W2.alloc (x.box As cs Am cm)=W3 at *
 generalize W2.heap.size=p9 at *;clear H5 H7 Dv BI HB0;obtain ⟨v0,v1,v2,v3,v4,v5,v6,v7⟩:=zF Gd;obtain ⟨b0,b1,b2,b3,b4,b5,b6,b7,b8,b9⟩:=zG Gy;go_wp2_with fail;refine (yJ v (by rw[KO.out];omega) A1 c1 A2 c2 A3 c3 W3).mono ?_
 rintro e w4 ⟨rfl,hb4⟩;rw[HP.out];have BA:=zh (zB HB3 hb4);have EL:=zh (Gy.out.below hb4);have Gf:=zh (zE Bg hb4);have F9:=zh (zE Gd hb4);have M8:=zh (HS.out.below BA);have HRR:=zh (HR.out.below BA);have Ct:=zh (EI.out.below hb4);clear hb4 v0 v1 v2 v3 v4 v5 v6 v7 b0 b1 b2 b3 b4 b5 b6 b7 b8 b9 HB3 Gy Bg Gd q0 EI;obtain ⟨v0,v1,v2,v3,v4,v5,v6,v7⟩:=zF F9
 obtain ⟨b0,b1,b2,b3,b4,b5,b6,b7,b8,b9⟩:=zG EL;have x0:=zb Gf;go_upto_region 6 with fail
 obtain ⟨q1,q2,q3,q4⟩:=zk4 HK;have HD0:=zh (fb4 (f:=AU s false n) (plain:=false) (v:=v) HK);obtain ⟨an,han⟩:∃an,(x.Aj.any fun y=>decide (y.id=v.id))=an:=⟨_,rfl⟩
 have hcall:=Sq v.id x As cs Am cm w4 Ct;rw[han] at hcall HD0;have Gh:=zh hcall;clear hcall han;go_wp2_with fail;refine Gh.out.mono ?_;rintro e w5 ⟨r,rfl,_,hb5⟩;have Ap:=zh (zB BA hb5);have mq:=zh (EL.out.below hb5);have nN:=zh (zE Gf hb5);have mE:=zh (zE F9 hb5);clear hb5 Gh;clear v0 v1 v2 v3 v4 v5 v6 v7 b0 b1 b2 b3 b4 b5 b6 b7 b8 b9 x0
 obtain ⟨v0,v1,v2,v3,v4,v5,v6,v7⟩:=zF mE;obtain ⟨b0,b1,b2,b3,b4,b5,b6,b7,b8,b9⟩:=zG mq;have x0:=zb nN
 cases an with
 | true =>
  have HD:Hid (AY (AU s false n) false x v=true):=by show _=_;rw[HD0.out];rfl
  go_wp2
  go_ret
  exact ⟨by rw[HD.out];rfl,Ap.out⟩
 | false =>
  cases ho:x.open_ with
  | false =>
   have HD:Hid (AY (AU s false n) false x v=false):=by show _=_;rw[HD0.out,ho];rfl
   go_wp2
   go_ret
   exact ⟨by rw[HD.out];rfl,Ap.out⟩
  | true =>
   have HD:Hid (AY (AU s false n) false x v=Aw v.id):=by show _=_;rw[HD0.out,ho];rfl
   go_wp2_with fail
   refine (En v.id false _).mono ?_;rintro e w6 ⟨rfl,rfl⟩;obtain ⟨X,hX⟩:∃X,Aw v.id=X:=⟨_,rfl⟩;rw[hX];have HD2:Hid (AY (AU s false n) false x v=X):=HD.out.trans hX;clear hX;go_wp2;go_ret;exact ⟨by rw[HD2.out];rfl,Ap.out⟩
theorem ny (pl:Bool) {s:List Ae} {A:zo} {c n:Nat} (_hv:zQ s=0) (_hn:Bq s) (_ih:Ed s A c pl n):LH s A c pl n 5:=by
 intro tn htn v A1 c1 A2 c2 A3 c3 w hsz hs hr hkx hvk hp hrest
 have hln:=hs.1.lt (by omega)
 obtain ⟨HB0,H5,H7⟩:=zy w (.cells #[.slice A s.length c] 31) (v.box A1 c1 A2 c2 A3 c3);have E5:=zh _ih;have HV:=zh _hv;have HN:=zh _hn;have HS:=zh hs;have HR:=zh hr;have FR:Hid (∀y,y∈v.keys\/y∈v.items->SizeOf.sizeOf y<=n):=hsz;have HP:=zh hp;have fB:=zh (AAK htn);obtain ⟨b,o,As,cs,Am,cm,hA,htr,t0,t1,t2,t3,t4,t5,t6,t7,t8,t9⟩:=(hs.below HB0).FQ htn;clear hs hr hp _ih _hv _hn
 subst hA;generalize s[tn]=x at *;have Dv:=zh htr;have HK:=zh hkx;have KO:=zh (hvk.trans hkx);have q0:(v.kind != x.kind)=false:=by simp[hvk]
 have Od:=zh hrest;clear htr hkx hvk hrest;have r1:¬ ((tn:Int)<0):=by omega
 have r2:¬ ((s.length:Int)<=(tn:Int)):=by omega
 have h1:(0:Int)<=(tn:Int):=by omega
 have h2:(tn:Int)<(s.length:Int):=by omega
 go_enter Tryz.func71,Tryz.ntmps71
 go_upto_region 1 with fail
 generalize (w.alloc (.cells #[.slice (some ⟨b,o,none⟩) s.length c] 31)).alloc (v.box A1 c1 A2 c2 A3 c3)=W2 at *;have x0:=zb H5;go_upto_region 4 with fail
 clear t0 t1 t2 t3 t4 t5 t6 t7 t8 t9 x0 r1 r2;have BI:=zh (zD W2 (x.box As cs Am cm));have Gy:Hid (BX (W2.alloc (x.box As cs Am cm)) W2.heap.size x As cs Am cm):=AAC W2 _;have Bg:=zh (zE H5 BI);have Gd:=zh (zE H7 BI);have HB3:=zh (zB HB0 BI);have EI:=zh (Dv.out.below BI);generalize W2.alloc (x.box As cs Am cm)=W3 at *
 generalize W2.heap.size=p9 at *;clear H5 H7 Dv BI HB0;obtain ⟨v0,v1,v2,v3,v4,v5,v6,v7⟩:=zF Gd;obtain ⟨b0,b1,b2,b3,b4,b5,b6,b7,b8,b9⟩:=zG Gy
 go_cut [48] (fun Xv wx=>Xv = .bool false/\Hid (Below W3.heap.size W3 wx))
 case first =>
  cases pl with
  | true =>
   have z0:¬ (0:Int)<(v.rest.length:Int):=by have:=Od.out rfl;omega
   go_wp2_with fail
   refine (yJ v (by rw[KO.out];omega) A1 c1 A2 c2 A3 c3 W3).mono ?_
   rintro e w4 ⟨rfl,hb4⟩;rw[HP.out];have BA:=zh hb4;have v7:=zA hb4 v7;clear hb4;go_wp2;go_meet;exact ⟨by first|rfl|exact congrArg Value.bool (AAU (by omega)),BA.out⟩
  | false =>
   go_wp2_with fail
   refine (yJ v (by rw[KO.out];omega) A1 c1 A2 c2 A3 c3 W3).mono ?_
   rintro e w4 ⟨rfl,hb4⟩;rw[HP.out];have BA:=zh hb4;have v7:=zA hb4 v7;clear hb4;go_wp2;go_meet;exact ⟨by first|rfl|exact congrArg Value.bool (AAU (by omega)),BA.out⟩
 case rest =>
 obtain ⟨rfl,hcut⟩:=hcut;obtain ⟨w4,rfl⟩:∃W:World,W=wc:=⟨_,rfl⟩;have hb4:=hcut.out;clear hcut;have BA:=zh (zB HB3 hb4);have EL:=zh (Gy.out.below hb4);have Gf:=zh (zE Bg hb4);have F9:=zh (zE Gd hb4);have M8:=zh (HS.out.below BA);have HRR:=zh (HR.out.below BA);have Ct:=zh (EI.out.below hb4)
 clear hb4 v0 v1 v2 v3 v4 v5 v6 v7 b0 b1 b2 b3 b4 b5 b6 b7 b8 b9 HB3 Gy Bg Gd q0 EI;obtain ⟨v0,v1,v2,v3,v4,v5,v6,v7⟩:=zF F9;obtain ⟨b0,b1,b2,b3,b4,b5,b6,b7,b8,b9⟩:=zG EL;have x0:=zb Gf;go_upto_region 6 with fail
 obtain ⟨q1,q2,q3,q4,q5⟩:=zk5 HK;have HD0:=zh (fb5 (f:=AU s pl n) (plain:=pl) (v:=v) HK Od);have gG:=HRR.out.items.1.lt (by omega)
 have hlm:=Ct.out.AA.1.lt (by omega)
 by_cases hl1:v.items.length=x.AA.length
 case neg =>
  have HD:Hid (AY (AU s pl n) pl x v=false):=by show _=_;rw[HD0.out];simp[hl1]
  have q1:((v.items.length:Int) != (x.AA.length:Int))=true:=bne_iff_ne.2 (by omega)
  clear hl1;go_wp2;go_ret;exact ⟨by rw[HD.out];rfl,BA.out⟩
 have q1:((v.items.length:Int) != (x.AA.length:Int))=false:=by simp[hl1]
 have HL:=zh hl1;have HD1:Hid (AY (AU s pl n) pl x v=(Ca x v.rest&&((x.AA.zip v.items).all fun p=>AU s pl n p.1.type p.2))):=by show _=_;rw[HD0.out,AAX hl1];rfl
 clear hl1;go_wp2_with fail;refine (X5 x As cs Am cm v.rest A3 c3 w4 Ct HRR.out.rest).mono ?_;rintro e w5 ⟨rfl,hb5⟩;have Ap:=zh (zB BA hb5);have mq:=zh (EL.out.below hb5);have nN:=zh (zE Gf hb5);have mE:=zh (zE F9 hb5);have Vp:=zh (HRR.out.below hb5);have IX:=zh (Ct.out.below hb5);have OT:=zh (M8.out.below hb5);clear hb5
 clear v0 v1 v2 v3 v4 v5 v6 v7 b0 b1 b2 b3 b4 b5 b6 b7 b8 b9 x0;obtain ⟨v0,v1,v2,v3,v4,v5,v6,v7⟩:=zF mE;obtain ⟨b0,b1,b2,b3,b4,b5,b6,b7,b8,b9⟩:=zG mq;have x0:=zb nN
 cases hra:Ca x v.rest with
 | false =>
  have HD:Hid (AY (AU s pl n) pl x v=false):=by show _=_;rw[HD1.out,hra];rfl
  clear hra;go_wp2;go_ret;exact ⟨by rw[HD.out];rfl,Ap.out⟩
 | true =>
  have HD2:Hid (AY (AU s pl n) pl x v=(x.AA.zip v.items).all fun p=>AU s pl n p.1.type p.2):=by show _=_;rw[HD1.out,hra];rfl
  clear hra HD1 HD0 q1;obtain ⟨X,hX⟩:∃X,AY (AU s pl n) pl x v=X:=⟨_,rfl⟩;have ZR:=zh hX;replace HD2:=zh (hX.symm.trans HD2);clear hX;go_wp2_with fail
  go_loopw [12] (fun i wr=>∃j:Nat,j<=v.items.length/\i = .int .i64 (j:Int)/\Hid ((∀q (h:q<x.AA.length) (h':q<v.items.length),q<j->AU s pl n (x.AA[q]).type v.items[q]=true)/\Below w5.heap.size w5 wr)) (fun i _=>v.items.length - (intOf i).toNat)
  case atStart=>exact ⟨0,by omega,rfl,(fun j _ _ h=>absurd h (by omega)),Pe _ _⟩
  case round =>
   obtain ⟨j,hj,rfl,hh⟩:=hrel;obtain ⟨WB,rfl⟩:∃w':World,w'=wr:=⟨_,rfl⟩;have Vw:=zh hh.out.1;have MP:=zh hh.out.2;clear hh v0 v1 v2 v3 v4 v5 v6 v7 b0 b1 b2 b3 b4 b5 b6 b7 b8 b9 x0;have HTq:=zh (mq.out.below MP);have H5q:=zh (zE nN MP);have H7q:=zh (zE mE MP);obtain ⟨v0,v1,v2,v3,v4,v5,v6,v7⟩:=zF H7q;obtain ⟨b0,b1,b2,b3,b4,b5,b6,b7,b8,b9⟩:=zG HTq;have x0:=zb H5q
   by_cases hji:j<v.items.length
   ·have hjt:j<x.AA.length:=by have:=HL.out;omega
    obtain ⟨mb,mo,M1,m1,M2,m2,M3,m3,VU,_,d0,d1,d2,d3,d4,d5,d6,d7,d8,d9,Jr,Jq,Jp⟩:=(IX.out.AA.below MP).Gw hjt;obtain ⟨ib,io,E1,e1,E2,e2,E3,e3,I,hI,a0,a1,a2,a3,a4,a5,a6,a7⟩:=(Vp.out.items.below MP).at8 hji;have R5:=zh hI;have wG:=zh (And.intro a0 (And.intro a1 (And.intro a2 (And.intro a3 (And.intro a4 (And.intro a5 (And.intro a6 a7)))))));clear hI a0 a1 a2 a3 a4 a5 a6 a7
    have hz:=FR.out _ (.inr (AAK hji));have Mi:Hid (AU s pl n (x.AA[j]).type v.items[j]=false->X=false):=fun h=>HD2.out.trans (KW _ _ _ j hjt hji h)
    have HST:Hid (AU s pl n (x.AA[j]).type v.items[j]=true->∀q (h:q<x.AA.length) (h':q<v.items.length),q<j+1->AU s pl n (x.AA[q]).type v.items[q]=true):=fun hx q h h' hq=>by
     by_cases ej:q=j
     ·subst ej;exact hx
     ·exact Vw.out q h h' (by omega)
    have sI:=zh d2;generalize x.AA[j]=m at *;generalize v.items[j]=y at *;have HZ:=zh hz;rw[VU] at b6;rw[I] at v6;have h1:(0:Int)<=(j:Int):=by omega
    have h2:(j:Int)<(x.AA.length:Int):=by omega
    have h3:(j:Int)<(v.items.length:Int):=by omega
    have D7:Hid (∀w',Below WB.heap.size WB w'->(w'.cell? ⟨w.heap.size,0,none⟩=some (.slice (some ⟨b,o,none⟩) s.length c)/\w'.cell? ⟨p9,6,none⟩=some (.slice (some ⟨mb,mo,none⟩) x.AA.length cm)/\w'.cell? ⟨mb,mo+j * 13+2,none⟩=some (.int .i64 m.type)/\w'.cell? ⟨w.heap.size+1,6,none⟩=some (.slice (some ⟨ib,io,none⟩) v.items.length c2)/\w'.cell? ⟨ib,io+j * 8,none⟩=some (.int .i64 y.kind)/\w'.cell? ⟨ib,io+j * 8+1,none⟩=some (.bool y.bool)/\w'.cell? ⟨ib,io+j * 8+2,none⟩=some (.int .i64 y.int)/\w'.cell? ⟨ib,io+j * 8+3,none⟩=some (.string y.str)/\w'.cell? ⟨ib,io+j * 8+4,none⟩=some (.int .i64 y.id)/\w'.cell? ⟨ib,io+j * 8+5,none⟩=some (.slice E1 y.keys.length e1)/\w'.cell? ⟨ib,io+j * 8+6,none⟩=some (.slice E2 y.items.length e2)/\w'.cell? ⟨ib,io+j * 8+7,none⟩=some (.slice E3 y.rest.length e3))):=fun w' hb=>by
     obtain ⟨a0,a1,a2,a3,a4,a5,a6,a7⟩:=wG.out;exact ⟨zA hb x0,zA hb b6,zA hb d2,zA hb v6,zA hb a0,zA hb a1,zA hb a2,zA hb a3,zA hb a4,zA hb a5,zA hb a6,zA hb a7⟩
    clear hz d0 d1 d2 d3 d4 d5 d6 d7 d8 d9 Jr Jq Jp VU I;go_upto_region 22 with fail
    clear v0 v1 v2 v3 v4 v5 v6 v7 b0 b1 b2 b3 b4 b5 b6 b7 b8 b9 x0;refine zr (Y:=fun w'=>Hid (Below WB.heap.size WB w')) D7 (by kernel_rfl) ?_ (fun AO=>?_)
    ·(try dsimp only);exact ⟨D7.out _ (zC (Pe _ _) 1),(zC (Pe _ _) 1)⟩
    refine tL 0 ?_;refine tL 1 ?_;refine tL 2 ?_;refine tL 3 ?_;refine tL 4 ?_;refine tL 5 ?_;try simp only[ps]
    refine tL 6 ?_;refine tL 7 ?_;refine tL 8 ?_;refine tL 9 ?_;refine tL 10 ?_;refine tL 11 ?_;try simp only[ps]
    refine tL 12 ?_;refine tR 13 (fun K hK=>?_)
    go_simp
    (refine (E5.out m.type y E1 e1 E2 e2 E3 e3 _ HZ (OT.out.below (zB MP AO.2.out)) (R5.out.below AO.2.out)).mono ?_;rintro e w6 ⟨rfl,hb6⟩;have BN:=zh (zB AO.2.out hb6);clear hb6)
    refine hK.out _ _ ?_ (fun AO=>?_)
    ·(try dsimp only);exact ⟨D7.out _ BN,BN.out⟩
    clear hK K;refine tL 14 ?_;refine wpAnyH_done (by kernel_rfl) ?_ _
    clear AO
    cases ZQ:AU s pl n m.type y with
    | false =>
     have Gg:=zh (Mi.out ZQ);clear ZQ;go_wp2;go_ret;exact ⟨by rw[ZR.out,Gg.out];rfl,zB Ap (zB MP BN)⟩
    | true =>
     have Gg:=zh (HST.out ZQ);clear ZQ;go_wp2;go_roundw
     case rel=>exact ⟨j+1,by omega,by go_num,Gg.out,zB MP BN⟩
     case measure=>simp[intOf];omega
   ·have Gg:Hid (X=true):=by show _=_;rw[HD2.out];exact KX _ _ _ fun q h h'=>Vw.out q h h' (by omega)
    go_wp2
    go_ret
    exact ⟨by rw[ZR.out,Gg.out];rfl,zB Ap MP⟩
end Go.Proofs.YthkkllmmbefedaaGreatDoor



