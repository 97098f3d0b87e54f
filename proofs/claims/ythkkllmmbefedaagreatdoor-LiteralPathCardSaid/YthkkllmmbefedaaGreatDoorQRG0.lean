/-
  Walks: the reference's fit, kinds 6.
-/
import Derived.Test.YthkkllmmbefedaaGreatDoorQGM2
namespace Go.Proofs.YthkkllmmbefedaaGreatDoor
open Go.RowKit
set_option maxHeartbeats 16000000
set_option maxRecDepth 100000
theorem Qs {s:List Ae} {A:zo} {c n:Nat} (_hv:zQ s=0) (_hn:Bq s) (_ih:Ed s A c false n):LH s A c false n 6:=by
 intro tn htn v A1 c1 A2 c2 A3 c3 w hsz hs hr hkx hvk hp hrest
 have hln:=hs.1.lt (by omega)
 obtain ⟨HB0,H5,H7⟩:=zy w (.cells #[.slice A s.length c] 31) (v.box A1 c1 A2 c2 A3 c3);have E5:=zh _ih;have HV:=zh _hv;have HN:=zh _hn;have HS:=zh hs;have HR:=zh hr;have FR:Hid (∀y,y∈v.keys\/y∈v.items->SizeOf.sizeOf y<=n):=hsz;have HP:=zh hp;have fB:=zh (AAK htn);obtain ⟨b,o,As,cs,Am,cm,hA,htr,t0,t1,t2,t3,t4,t5,t6,t7,t8,t9⟩:=(hs.below HB0).FQ htn;clear hs hr hp _ih _hv _hn
 subst hA;generalize s[tn]=x at *;have Dv:=zh htr;have HK:=zh hkx;have KO:=zh (hvk.trans hkx);have q0:(v.kind != x.kind)=false:=by simp[hvk]
 have Od:=zh hrest;clear htr hkx hvk hrest;have r1:¬ ((tn:Int)<0):=by omega
 have r2:¬ ((s.length:Int)<=(tn:Int)):=by omega
 have h1:(0:Int)<=(tn:Int):=by omega
 have h2:(tn:Int)<(s.length:Int):=by omega
 go_enter Tryz.func71,Tryz.ntmps71
 go_upto_region 1 with fail
 generalize (w.alloc (.cells #[.slice (some ⟨b,o,none⟩) s.length c] 31)).alloc (v.box A1 c1 A2 c2 A3 c3)=W2 at *;have x0:=zb H5;go_upto_region 4 with fail
 clear t0 t1 t2 t3 t4 t5 t6 t7 t8 t9 x0 r1 r2;have BI:=zh (zD W2 (x.box As cs Am cm));have Gy:Hid (BX (W2.alloc (x.box As cs Am cm)) W2.heap.size x As cs Am cm):=AAC W2 _;have Bg:=zh (zE H5 BI);have Gd:=zh (zE H7 BI);have HB3:=zh (zB HB0 BI);have EI:=zh (Dv.out.below BI);generalize W2.alloc (x.box As cs Am cm)=W3 at *
 generalize W2.heap.size=p9 at *;clear H5 H7 Dv BI HB0;obtain ⟨v0,v1,v2,v3,v4,v5,v6,v7⟩:=zF Gd;obtain ⟨b0,b1,b2,b3,b4,b5,b6,b7,b8,b9⟩:=zG Gy;go_wp2_with fail;refine (yJ v (by rw[KO.out];omega) A1 c1 A2 c2 A3 c3 W3).mono ?_
 rintro e w4 ⟨rfl,hb4⟩;rw[HP.out];have BA:=zh (zB HB3 hb4);have EL:=zh (Gy.out.below hb4);have Gf:=zh (zE Bg hb4);have F9:=zh (zE Gd hb4);have M8:=zh (HS.out.below BA);have HRR:=zh (HR.out.below BA);have Ct:=zh (EI.out.below hb4);clear hb4 v0 v1 v2 v3 v4 v5 v6 v7 b0 b1 b2 b3 b4 b5 b6 b7 b8 b9 HB3 Gy Bg Gd q0 EI;obtain ⟨v0,v1,v2,v3,v4,v5,v6,v7⟩:=zF F9
 obtain ⟨b0,b1,b2,b3,b4,b5,b6,b7,b8,b9⟩:=zG EL;have x0:=zb Gf;go_upto_region 6 with fail
 obtain ⟨q1,q2,q3,q4,q5,q6⟩:=zk6 HK;obtain ⟨an,han⟩:∃an,(x.AA.any fun y=>decide (y.id=v.id))=an:=⟨_,rfl⟩
 have hcall:=Fe v.id x As cs Am cm w4 Ct;rw[han] at hcall;have Gh:=zh hcall;have Rp:=zh han;clear hcall han;have gG:=HRR.out.items.1.lt (by omega)
 have hlr:=HRR.out.rest.1.lt (by omega)
 have hlm:=Ct.out.AA.1.lt (by omega)
 go_wp2_with fail
 refine Gh.out.mono ?_;rintro e w5 ⟨r,rfl,mP,hb5⟩;have vZ:=zh mP;obtain ⟨WB,hWB⟩:∃W,W=w5:=⟨_,rfl⟩;have Ap:=zh (zB BA hb5);have mq:=zh (EL.out.below hb5);have nN:=zh (zE Gf hb5);have mE:=zh (zE F9 hb5);have Vp:=zh (HRR.out.below hb5);have IX:=zh (Ct.out.below hb5);have OT:=zh (M8.out.below hb5);clear hb5 Gh mP hWB
 clear v0 v1 v2 v3 v4 v5 v6 v7 b0 b1 b2 b3 b4 b5 b6 b7 b8 b9 x0;obtain ⟨v0,v1,v2,v3,v4,v5,v6,v7⟩:=zF mE;obtain ⟨b0,b1,b2,b3,b4,b5,b6,b7,b8,b9⟩:=zG mq;have x0:=zb nN
 cases an with
 | true =>
  obtain ⟨k,hk,e1,e2⟩:=K4 x.AA Rp;obtain rfl:r=(k:Int):=(vZ.out rfl).trans e1;have HD0:Hid (AY (AU s false n) false x v=(decide (v.items.length=1)&&decide (v.rest.length=0)&&(v.items.all fun y=>AU s false n (x.AA[k]).type y))):=AAO HK e2
  clear e1 e2
  by_cases g1:v.items.length=1
  case neg =>
   have HD:Hid (AY (AU s false n) false x v=false):=by show _=_;rw[HD0.out];simp[g1]
   have z1:((v.items.length:Int)==1)=false:=by simp only[AAc];omega
   clear g1;have D7:Hid (∀w',Below w5.heap.size w5 w'->(w'.cell? ⟨w.heap.size+1,6,none⟩=some (.slice A2 v.items.length c2))):=fun w' hb=>zA hb v6
   go_upto_region 28 with fail
   clear v0 v1 v2 v3 v4 v5 v6 v7 b0 b1 b2 b3 b4 b5 b6 b7 b8 b9 x0;refine zr (Y:=fun w'=>Hid (Below w5.heap.size w5 w')) D7 (by kernel_rfl) ?_ (fun AO=>?_)
   ·(try dsimp only);exact ⟨D7.out _ (zC (Pe _ _) 1),(zC (Pe _ _) 1)⟩
   refine tL 0 ?_;refine tL 1 ?_;try simp only[ps]
   refine tL 2 ?_;refine tL 3 ?_;try simp only[ps]
   refine tL 4 ?_;refine tU 5 ?_;try simp only[ps]
   refine tU 6 ?_;refine tU 7 ?_;try simp only[ps]
   refine tU 8 ?_;refine tL 9 ?_;refine tL 10 ?_;refine tU 11 ?_;try simp only[ps]
   refine tU 12 ?_;refine tU 13 ?_;try simp only[ps]
   refine tU 14 ?_;refine tU 15 ?_;try simp only[ps]
   refine tU 16 ?_;refine tU 17 ?_;try simp only[ps]
   refine tU 18 ?_;refine tU 19 ?_;refine tU 20 ?_;refine tU 21 ?_;try simp only[ps]
   refine tU 22 ?_;refine tU 23 ?_;try simp only[ps]
   refine tL 24 ?_;refine tL 25 ?_;try simp only[ps]
   refine wpAnyH_done (by kernel_rfl) ?_ _
   have GA:=zh (zB Ap AO.2.out);clear AO;go_wp2;go_ret;exact ⟨by rw[HD.out];rfl,GA.out⟩
  have z1:((v.items.length:Int)==1)=true:=by simp[g1]
  by_cases g2:v.rest.length=0
  case neg =>
   have HD:Hid (AY (AU s false n) false x v=false):=by show _=_;rw[HD0.out];simp[g1,g2]
   have z2:((v.rest.length:Int)==0)=false:=by simp only[AAc];omega
   clear g1 g2;have D7:Hid (∀w',Below w5.heap.size w5 w'->(w'.cell? ⟨w.heap.size+1,6,none⟩=some (.slice A2 v.items.length c2)/\w'.cell? ⟨w.heap.size+1,7,none⟩=some (.slice A3 v.rest.length c3))):=fun w' hb=>⟨zA hb v6,zA hb v7⟩
   go_upto_region 28 with fail
   clear v0 v1 v2 v3 v4 v5 v6 v7 b0 b1 b2 b3 b4 b5 b6 b7 b8 b9 x0;refine zr (Y:=fun w'=>Hid (Below w5.heap.size w5 w')) D7 (by kernel_rfl) ?_ (fun AO=>?_)
   ·(try dsimp only);exact ⟨D7.out _ (zC (Pe _ _) 1),(zC (Pe _ _) 1)⟩
   refine tL 0 ?_;refine tL 1 ?_;try simp only[ps]
   refine tL 2 ?_;refine tL 3 ?_;refine tL 4 ?_;refine tL 5 ?_;try simp only[ps]
   refine tL 6 ?_;refine tL 7 ?_;try simp only[ps]
   refine tL 8 ?_;refine tL 9 ?_;try simp only[ps]
   refine tL 10 ?_;refine tU 11 ?_;try simp only[ps]
   refine tU 12 ?_;refine tU 13 ?_;refine tU 14 ?_;refine tU 15 ?_;try simp only[ps]
   refine tU 16 ?_;refine tU 17 ?_;try simp only[ps]
   refine tU 18 ?_;refine tU 19 ?_;try simp only[ps]
   refine tU 20 ?_;refine tU 21 ?_;try simp only[ps]
   refine tU 22 ?_;refine tU 23 ?_;refine tL 24 ?_;refine tL 25 ?_;try simp only[ps]
   refine wpAnyH_done (by kernel_rfl) ?_ _
   have GA:=zh (zB Ap AO.2.out);clear AO;go_wp2;go_ret;exact ⟨by rw[HD.out];rfl,GA.out⟩
  have z2:((v.rest.length:Int)==0)=true:=by simp[g2]
  have hlt:0<v.items.length:=by omega
  have HD:Hid (AY (AU s false n) false x v=AU s false n (x.AA[k]).type v.items[0]):=by
   show _=_
   obtain ⟨y,hy⟩:=List.length_eq_one_iff.1 g1;rw[HD0.out];simp[g2,hy]
  obtain ⟨mb,mo,M1,m1,M2,m2,M3,m3,VU,_,d0,d1,d2,d3,d4,d5,d6,d7,d8,d9,Jr,Jq,Jp⟩:=IX.out.AA.Gw hk;obtain ⟨ib,io,E1,e1,E2,e2,E3,e3,I,hI,a0,a1,a2,a3,a4,a5,a6,a7⟩:=Vp.out.items.at8 hlt;have R5:=zh hI;have wG:=zh (And.intro a0 (And.intro a1 (And.intro a2 (And.intro a3 (And.intro a4 (And.intro a5 (And.intro a6 a7)))))));clear hI a0 a1 a2 a3 a4 a5 a6 a7
  have hz:=FR.out _ (.inr (AAK hlt));obtain ⟨X,hX⟩:∃X,AY (AU s false n) false x v=X:=⟨_,rfl⟩;have ZR:=zh hX;have HD2:=zh (hX.symm.trans HD);clear hX HD HD0;generalize x.AA[k]=m at *;generalize v.items[0]=y at *;have HZ:=zh hz;rw[VU] at b6;rw[I] at v6;have h1:(0:Int)<=(k:Int):=by omega
  have h2:(k:Int)<(x.AA.length:Int):=by omega
  have h3:(0:Int)<(v.items.length:Int):=by omega
  have D7:Hid (∀w',Below w5.heap.size w5 w'->(w'.cell? ⟨w.heap.size,0,none⟩=some (.slice (some ⟨b,o,none⟩) s.length c)/\w'.cell? ⟨p9,6,none⟩=some (.slice (some ⟨mb,mo,none⟩) x.AA.length cm)/\w'.cell? ⟨mb,mo+k * 13+2,none⟩=some (.int .i64 m.type)/\w'.cell? ⟨w.heap.size+1,6,none⟩=some (.slice (some ⟨ib,io,none⟩) v.items.length c2)/\w'.cell? ⟨w.heap.size+1,7,none⟩=some (.slice A3 v.rest.length c3)/\w'.cell? ⟨ib,io,none⟩=some (.int .i64 y.kind)/\w'.cell? ⟨ib,io+1,none⟩=some (.bool y.bool)/\w'.cell? ⟨ib,io+2,none⟩=some (.int .i64 y.int)/\w'.cell? ⟨ib,io+3,none⟩=some (.string y.str)/\w'.cell? ⟨ib,io+4,none⟩=some (.int .i64 y.id)/\w'.cell? ⟨ib,io+5,none⟩=some (.slice E1 y.keys.length e1)/\w'.cell? ⟨ib,io+6,none⟩=some (.slice E2 y.items.length e2)/\w'.cell? ⟨ib,io+7,none⟩=some (.slice E3 y.rest.length e3))):=fun w' hb=>by
   obtain ⟨a0,a1,a2,a3,a4,a5,a6,a7⟩:=wG.out;exact ⟨zA hb x0,zA hb b6,zA hb d2,zA hb v6,zA hb v7,zA hb (by simpa using a0),zA hb (by simpa using a1),zA hb (by simpa using a2),zA hb (by simpa using a3),zA hb (by simpa using a4),zA hb (by simpa using a5),zA hb (by simpa using a6),zA hb (by simpa using a7)⟩
  clear hz d0 d1 d2 d3 d4 d5 d6 d7 d8 d9 Jr Jq Jp VU I g1 g2;go_upto_region 28 with fail
  clear v0 v1 v2 v3 v4 v5 v6 v7 b0 b1 b2 b3 b4 b5 b6 b7 b8 b9 x0;refine zr (Y:=fun w'=>Hid (Below w5.heap.size w5 w')) D7 (by kernel_rfl) ?_ (fun AO=>?_)
  ·(try dsimp only);exact ⟨D7.out _ (zC (Pe _ _) 1),(zC (Pe _ _) 1)⟩
  refine tL 0 ?_;refine tL 1 ?_;try simp only[ps]
  refine tL 2 ?_;refine tL 3 ?_;try simp only[ps]
  refine tL 4 ?_;refine tL 5 ?_;try simp only[ps]
  refine tL 6 ?_;refine tL 7 ?_;refine tL 8 ?_;refine tL 9 ?_;try simp only[ps]
  refine tL 10 ?_;refine tL 11 ?_;try simp only[ps]
  refine tL 12 ?_;refine tL 13 ?_;try simp only[ps]
  refine tL 14 ?_;refine tL 15 ?_;try simp only[ps]
  refine tL 16 ?_;refine tL 17 ?_;refine tL 18 ?_;refine tL 19 ?_;try simp only[ps]
  refine tL 20 ?_;refine tL 21 ?_;try simp only[ps]
  refine tL 22 ?_;refine tR 23 (fun K hK=>?_)
  go_simp
  (refine (E5.out m.type y E1 e1 E2 e2 E3 e3 _ HZ (OT.out.below AO.2.out) (R5.out.below AO.2.out)).mono ?_;rintro e w6 ⟨rfl,hb6⟩;have BN:=zh (zB AO.2.out hb6);clear hb6;rw[<-HD2.out])
  refine hK.out _ _ ?_ (fun AO=>?_)
  ·(try dsimp only);exact ⟨D7.out _ BN,BN.out⟩
  clear hK K;try simp only[ps]
  refine tL 24 ?_;refine tL 25 ?_;try simp only[ps]
  refine wpAnyH_done (by kernel_rfl) ?_ _
  clear AO;go_wp2;go_ret;exact ⟨by rw[ZR.out];rfl,zB Ap BN⟩
 | false =>
  have HD0:Hid (AY (AU s false n) false x v=(x.open_ && !false&&Aw v.id&&decide (v.items.length=0)&&decide (v.rest.length=1)&&(v.rest.all fun r=>decide (r.id=v.id)))):=AAP HK (RJ x.AA Rp)
  cases ho:x.open_ with
  | false =>
   have HD:Hid (AY (AU s false n) false x v=false):=by show _=_;rw[HD0.out,ho];rfl
   rw[ho] at b9;clear ho;have D7:Hid (∀w',Below w5.heap.size w5 w'->(w'.cell? ⟨p9,9,none⟩=some (.bool false)/\w'.cell? ⟨w.heap.size+1,4,none⟩=some (.int .i64 v.id)/\w'.cell? ⟨w.heap.size+1,6,none⟩=some (.slice A2 v.items.length c2)/\w'.cell? ⟨w.heap.size+1,7,none⟩=some (.slice A3 v.rest.length c3))):=fun w' hb=>⟨zA hb b9,zA hb v4,zA hb v6,zA hb v7⟩
   go_upto_region 29 with fail
   clear v0 v1 v2 v3 v4 v5 v6 v7 b0 b1 b2 b3 b4 b5 b6 b7 b8 b9 x0;refine zr (Y:=fun w'=>Hid (Below w5.heap.size w5 w')) D7 (by kernel_rfl) ?_ (fun AO=>?_)
   ·(try dsimp only);exact ⟨D7.out _ (zC (Pe _ _) 1),(zC (Pe _ _) 1)⟩
   refine tL 0 ?_;refine tL 1 ?_;refine tL 2 ?_;refine tU 3 ?_;try simp only[ps]
   refine tU 4 ?_;refine tL 5 ?_;try simp only[ps]
   refine tL 6 ?_;refine tU 7 ?_;try simp only[ps]
   refine tU 8 ?_;refine tU 9 ?_;try simp only[ps]
   refine tU 10 ?_;refine tL 11 ?_;refine tL 12 ?_;refine tU 13 ?_;try simp only[ps]
   refine tU 14 ?_;refine tU 15 ?_;try simp only[ps]
   refine tU 16 ?_;refine tL 17 ?_;try simp only[ps]
   refine tL 18 ?_;refine tU 19 ?_;try simp only[ps]
   refine tU 20 ?_;refine tU 21 ?_;refine tU 22 ?_;refine tL 23 ?_;try simp only[ps]
   refine tL 24 ?_;refine tU 25 ?_;try simp only[ps]
   refine tU 26 ?_;refine tU 27 ?_;try simp only[ps]
   refine tU 28 ?_;refine tU 29 ?_;try simp only[ps]
   refine tU 30 ?_;refine tU 31 ?_;refine tU 32 ?_;refine tL 33 ?_;try simp only[ps]
   refine tL 34 ?_;refine wpAnyH_done (by kernel_rfl) ?_ _
   have GA:=zh (zB Ap AO.2.out);clear AO;go_wp2;go_ret;exact ⟨by rw[HD.out];rfl,GA.out⟩
  | true =>
   rw[ho] at b9;have HD1:Hid (AY (AU s false n) false x v=(Aw v.id&&decide (v.items.length=0)&&decide (v.rest.length=1)&&(v.rest.all fun r=>decide (r.id=v.id)))):=by show _=_;rw[HD0.out,ho];rfl
   clear ho HD0
   cases hf:Aw v.id with
   | false =>
    have KG:Hid ((!false&&Aw v.id)=false):=by show _=_;rw[hf];rfl
    have HD:Hid (AY (AU s false n) false x v=false):=by show _=_;rw[HD1.out,hf];rfl
    clear hf;have D7:Hid (∀w',Below w5.heap.size w5 w'->(w'.cell? ⟨p9,9,none⟩=some (.bool true)/\w'.cell? ⟨w.heap.size+1,4,none⟩=some (.int .i64 v.id)/\w'.cell? ⟨w.heap.size+1,6,none⟩=some (.slice A2 v.items.length c2)/\w'.cell? ⟨w.heap.size+1,7,none⟩=some (.slice A3 v.rest.length c3))):=fun w' hb=>⟨zA hb b9,zA hb v4,zA hb v6,zA hb v7⟩
    go_upto_region 29 with fail
    clear v0 v1 v2 v3 v4 v5 v6 v7 b0 b1 b2 b3 b4 b5 b6 b7 b8 b9 x0;refine zr (Y:=fun w'=>Hid (Below w5.heap.size w5 w')) D7 (by kernel_rfl) ?_ (fun AO=>?_)
    ·(try dsimp only);exact ⟨D7.out _ (zC (Pe _ _) 1),(zC (Pe _ _) 1)⟩
    refine tL 0 ?_;try simp only[ps]
    refine tL 1 ?_;refine tL 2 ?_;try simp only[ps]
    refine tL 3 ?_;refine tL 4 ?_;try simp only[ps]
    refine tL 5 ?_;refine tL 6 ?_;refine tL 7 ?_;refine tL 8 ?_;try simp only[ps]
    refine tL 9 ?_;refine tR 10 (fun K hK=>?_)
    go_simp
    (refine (En v.id false _).mono ?_;rintro e w6 ⟨rfl,rfl⟩;rw[KG.out])
    refine hK.out _ _ ?_ (fun AO=>?_)
    ·(try dsimp only);exact AO
    clear hK K;try simp only[ps]
    refine tL 11 ?_;refine tL 12 ?_;try simp only[ps]
    refine tU 13 ?_;refine tU 14 ?_;try simp only[ps]
    refine tU 15 ?_;refine tU 16 ?_;refine tL 17 ?_;refine tL 18 ?_;try simp only[ps]
    refine tU 19 ?_;refine tU 20 ?_;try simp only[ps]
    refine tU 21 ?_;refine tU 22 ?_;try simp only[ps]
    refine tL 23 ?_;refine tL 24 ?_;try simp only[ps]
    refine tU 25 ?_;refine tU 26 ?_;refine tU 27 ?_;refine tU 28 ?_;try simp only[ps]
    refine tU 29 ?_;refine tU 30 ?_;try simp only[ps]
    refine tU 31 ?_;refine tU 32 ?_;try simp only[ps]
    refine tL 33 ?_;refine tL 34 ?_;try simp only[ps]
    refine wpAnyH_done (by kernel_rfl) ?_ _
    have GA:=zh (zB Ap AO.2.out);clear AO;go_wp2;go_ret;exact ⟨by rw[HD.out];rfl,GA.out⟩
   | true =>
    have KG:Hid ((!false&&Aw v.id)=true):=by show _=_;rw[hf];rfl
    have HD2:Hid (AY (AU s false n) false x v=(decide (v.items.length=0)&&decide (v.rest.length=1)&&(v.rest.all fun r=>decide (r.id=v.id)))):=by show _=_;rw[HD1.out,hf];rfl
    clear hf HD1
    by_cases g1:v.items.length=0
    case neg =>
     have HD:Hid (AY (AU s false n) false x v=false):=by show _=_;rw[HD2.out];simp[g1]
     have z1:((v.items.length:Int)==0)=false:=by simp only[AAc];omega
     clear g1;have D7:Hid (∀w',Below w5.heap.size w5 w'->(w'.cell? ⟨p9,9,none⟩=some (.bool true)/\w'.cell? ⟨w.heap.size+1,4,none⟩=some (.int .i64 v.id)/\w'.cell? ⟨w.heap.size+1,6,none⟩=some (.slice A2 v.items.length c2)/\w'.cell? ⟨w.heap.size+1,7,none⟩=some (.slice A3 v.rest.length c3))):=fun w' hb=>⟨zA hb b9,zA hb v4,zA hb v6,zA hb v7⟩
     go_upto_region 29 with fail
     clear v0 v1 v2 v3 v4 v5 v6 v7 b0 b1 b2 b3 b4 b5 b6 b7 b8 b9 x0;refine zr (Y:=fun w'=>Hid (Below w5.heap.size w5 w')) D7 (by kernel_rfl) ?_ (fun AO=>?_)
     ·(try dsimp only);exact ⟨D7.out _ (zC (Pe _ _) 1),(zC (Pe _ _) 1)⟩
     refine tL 0 ?_;refine tL 1 ?_;refine tL 2 ?_;refine tL 3 ?_;try simp only[ps]
     refine tL 4 ?_;refine tL 5 ?_;try simp only[ps]
     refine tL 6 ?_;refine tL 7 ?_;try simp only[ps]
     refine tL 8 ?_;refine tL 9 ?_;try simp only[ps]
     refine tR 10 (fun K hK=>?_)
     go_simp
     (refine (En v.id false _).mono ?_;rintro e w6 ⟨rfl,rfl⟩;rw[KG.out])
     refine hK.out _ _ ?_ (fun AO=>?_)
     ·(try dsimp only);exact AO
     clear hK K;refine tL 11 ?_;refine tL 12 ?_;refine tL 13 ?_;try simp only[ps]
     refine tL 14 ?_;refine tL 15 ?_;try simp only[ps]
     refine tL 16 ?_;refine tL 17 ?_;try simp only[ps]
     refine tL 18 ?_;refine tU 19 ?_;try simp only[ps]
     refine tU 20 ?_;refine tU 21 ?_;refine tU 22 ?_;refine tL 23 ?_;try simp only[ps]
     refine tL 24 ?_;refine tU 25 ?_;try simp only[ps]
     refine tU 26 ?_;refine tU 27 ?_;try simp only[ps]
     refine tU 28 ?_;refine tU 29 ?_;try simp only[ps]
     refine tU 30 ?_;refine tU 31 ?_;refine tU 32 ?_;refine tL 33 ?_;try simp only[ps]
     refine tL 34 ?_;refine wpAnyH_done (by kernel_rfl) ?_ _
     have GA:=zh (zB Ap AO.2.out);clear AO;go_wp2;go_ret;exact ⟨by rw[HD.out];rfl,GA.out⟩
    have z1:((v.items.length:Int)==0)=true:=by simp[g1]
    by_cases g2:v.rest.length=1
    case neg =>
     have HD:Hid (AY (AU s false n) false x v=false):=by show _=_;rw[HD2.out];simp[g2]
     have z2:((v.rest.length:Int)==1)=false:=by simp only[AAc];omega
     clear g1 g2;have D7:Hid (∀w',Below w5.heap.size w5 w'->(w'.cell? ⟨p9,9,none⟩=some (.bool true)/\w'.cell? ⟨w.heap.size+1,4,none⟩=some (.int .i64 v.id)/\w'.cell? ⟨w.heap.size+1,6,none⟩=some (.slice A2 v.items.length c2)/\w'.cell? ⟨w.heap.size+1,7,none⟩=some (.slice A3 v.rest.length c3))):=fun w' hb=>⟨zA hb b9,zA hb v4,zA hb v6,zA hb v7⟩
     go_upto_region 29 with fail
     clear v0 v1 v2 v3 v4 v5 v6 v7 b0 b1 b2 b3 b4 b5 b6 b7 b8 b9 x0;refine zr (Y:=fun w'=>Hid (Below w5.heap.size w5 w')) D7 (by kernel_rfl) ?_ (fun AO=>?_)
     ·(try dsimp only);exact ⟨D7.out _ (zC (Pe _ _) 1),(zC (Pe _ _) 1)⟩
     refine tL 0 ?_;try simp only[ps]
     refine tL 1 ?_;refine tL 2 ?_;try simp only[ps]
     refine tL 3 ?_;refine tL 4 ?_;try simp only[ps]
     refine tL 5 ?_;refine tL 6 ?_;refine tL 7 ?_;refine tL 8 ?_;try simp only[ps]
     refine tL 9 ?_;refine tR 10 (fun K hK=>?_)
     go_simp
     (refine (En v.id false _).mono ?_;rintro e w6 ⟨rfl,rfl⟩;rw[KG.out])
     refine hK.out _ _ ?_ (fun AO=>?_)
     ·(try dsimp only);exact AO
     clear hK K;try simp only[ps]
     refine tL 11 ?_;refine tL 12 ?_;try simp only[ps]
     refine tL 13 ?_;refine tL 14 ?_;try simp only[ps]
     refine tL 15 ?_;refine tL 16 ?_;refine tL 17 ?_;refine tL 18 ?_;try simp only[ps]
     refine tL 19 ?_;refine tL 20 ?_;try simp only[ps]
     refine tL 21 ?_;refine tL 22 ?_;try simp only[ps]
     refine tL 23 ?_;refine tL 24 ?_;try simp only[ps]
     refine tU 25 ?_;refine tU 26 ?_;refine tU 27 ?_;refine tU 28 ?_;try simp only[ps]
     refine tU 29 ?_;refine tU 30 ?_;try simp only[ps]
     refine tU 31 ?_;refine tU 32 ?_;try simp only[ps]
     refine tL 33 ?_;refine tL 34 ?_;try simp only[ps]
     refine wpAnyH_done (by kernel_rfl) ?_ _
     have GA:=zh (zB Ap AO.2.out);clear AO;go_wp2;go_ret;exact ⟨by rw[HD.out];rfl,GA.out⟩
    have z2:((v.rest.length:Int)==1)=true:=by simp[g2]
    have hlt:0<v.rest.length:=by omega
    have HD3:Hid (AY (AU s false n) false x v=((v.rest[0]).id==v.id)):=by
     show _=_
     obtain ⟨y,hy⟩:=List.length_eq_one_iff.1 g2;rw[HD2.out];simp[g1,hy,Bool.beq_eq_decide_eq]
    obtain ⟨rb,ro,hA3,_,e0,e1⟩:=Vp.out.rest.at2 hlt;rw[hA3] at v7;generalize v.rest[0]=r0 at *;obtain ⟨X,hX⟩:∃X,(r0.id==v.id)=X:=⟨_,rfl⟩;have HD:Hid (AY (AU s false n) false x v=X):=HD3.out.trans hX;have h3:(0:Int)<(v.rest.length:Int):=by omega
    clear g1 g2 hA3 HD3 HD2
    have D7:Hid (∀w',Below w5.heap.size w5 w'->(w'.cell? ⟨p9,9,none⟩=some (.bool true)/\w'.cell? ⟨w.heap.size+1,4,none⟩=some (.int .i64 v.id)/\w'.cell? ⟨w.heap.size+1,6,none⟩=some (.slice A2 v.items.length c2)/\w'.cell? ⟨w.heap.size+1,7,none⟩=some (.slice (some ⟨rb,ro,none⟩) v.rest.length c3)/\w'.cell? ⟨rb,ro,none⟩=some (.int .i64 r0.id))):=fun w' hb=>⟨zA hb b9,zA hb v4,zA hb v6,zA hb v7,zA hb (by simpa using e0)⟩
    clear e0 e1;go_upto_region 29 with fail
    clear v0 v1 v2 v3 v4 v5 v6 v7 b0 b1 b2 b3 b4 b5 b6 b7 b8 b9 x0;refine zr (Y:=fun w'=>Hid (Below w5.heap.size w5 w')) D7 (by kernel_rfl) ?_ (fun AO=>?_)
    ·(try dsimp only);exact ⟨D7.out _ (zC (Pe _ _) 1),(zC (Pe _ _) 1)⟩
    refine tL 0 ?_;refine tL 1 ?_;refine tL 2 ?_;refine tL 3 ?_;try simp only[ps]
    refine tL 4 ?_;refine tL 5 ?_;try simp only[ps]
    refine tL 6 ?_;refine tL 7 ?_;try simp only[ps]
    refine tL 8 ?_;refine tL 9 ?_;try simp only[ps]
    refine tR 10 (fun K hK=>?_)
    go_simp
    (refine (En v.id false _).mono ?_;rintro e w6 ⟨rfl,rfl⟩;rw[KG.out])
    refine hK.out _ _ ?_ (fun AO=>?_)
    ·(try dsimp only);exact AO
    clear hK K;refine tL 11 ?_;refine tL 12 ?_;refine tL 13 ?_;try simp only[ps]
    refine tL 14 ?_;refine tL 15 ?_;try simp only[ps]
    refine tL 16 ?_;refine tL 17 ?_;try simp only[ps]
    refine tL 18 ?_;refine tL 19 ?_;try simp only[ps]
    refine tL 20 ?_;refine tL 21 ?_;refine tL 22 ?_;refine tL 23 ?_;try simp only[ps]
    refine tL 24 ?_;refine tL 25 ?_;try simp only[ps]
    refine tL 26 ?_;refine tL 27 ?_;try simp only[ps]
    refine tL 28 ?_;refine tL 29 ?_;try simp only[ps]
    refine tL 30 ?_;refine tL 31 ?_;refine tL 32 ?_;refine tL 33 ?_;try simp only[ps]
    refine tL 34 ?_;refine wpAnyH_done (by kernel_rfl) ?_ _
    have GA:=zh (zB Ap AO.2.out);clear AO;go_wp2;go_ret;exact ⟨by rw[HD.out];rfl,GA.out⟩
end Go.Proofs.YthkkllmmbefedaaGreatDoor



