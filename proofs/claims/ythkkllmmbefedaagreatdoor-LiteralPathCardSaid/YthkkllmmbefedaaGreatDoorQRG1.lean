/-
  Walks: the reference's fit, kinds 8.
-/
import Derived.Test.YthkkllmmbefedaaGreatDoorQGM2
import Derived.Test.YthkkllmmbefedaaGreatDoorQGA9
namespace Go.Proofs.YthkkllmmbefedaaGreatDoor
open Go.RowKit
set_option maxHeartbeats 16000000
set_option maxRecDepth 100000
theorem nk (pl:Bool) {s:List Ae} {A:zo} {c n:Nat} (_hv:zQ s=0) (_hn:Bq s) (_ih:Ed s A c pl n):LH s A c pl n 8:=by
 intro tn htn v A1 c1 A2 c2 A3 c3 w hsz hs hr hkx hvk hp hrest
 have hln:=hs.1.lt (by omega)
 obtain ⟨HB0,H5,H7⟩:=zy w (.cells #[.slice A s.length c] 31) (v.box A1 c1 A2 c2 A3 c3);have E5:=zh _ih;have HV:=zh _hv;have HN:=zh _hn;have HS:=zh hs;have HR:=zh hr;have FR:Hid (∀y,y∈v.keys\/y∈v.items->SizeOf.sizeOf y<=n):=hsz;have HP:=zh hp;have fB:=zh (AAK htn);obtain ⟨b,o,As,cs,Am,cm,hA,htr,t0,t1,t2,t3,t4,t5,t6,t7,t8,t9⟩:=(hs.below HB0).FQ htn;clear hs hr hp _ih _hv _hn
 subst hA;generalize s[tn]=x at *;have Dv:=zh htr;have HK:=zh hkx;have KO:=zh (hvk.trans hkx);have q0:(v.kind != x.kind)=false:=by simp[hvk]
 have Od:=zh hrest;clear htr hkx hvk hrest;have r1:¬ ((tn:Int)<0):=by omega
 have r2:¬ ((s.length:Int)<=(tn:Int)):=by omega
 have h1:(0:Int)<=(tn:Int):=by omega
 have h2:(tn:Int)<(s.length:Int):=by omega
 go_enter Tryz.func71,Tryz.ntmps71
 go_upto_region 1 with fail
 generalize (w.alloc (.cells #[.slice (some ⟨b,o,none⟩) s.length c] 31)).alloc (v.box A1 c1 A2 c2 A3 c3)=W2 at *;have x0:=zb H5;go_upto_region 4 with fail
 clear t0 t1 t2 t3 t4 t5 t6 t7 t8 t9 x0 r1 r2;have BI:=zh (zD W2 (x.box As cs Am cm));have Gy:Hid (BX (W2.alloc (x.box As cs Am cm)) W2.heap.size x As cs Am cm):=AAC W2 _;have Bg:=zh (zE H5 BI);have Gd:=zh (zE H7 BI);have HB3:=zh (zB HB0 BI);have EI:=zh (Dv.out.below BI);generalize W2.alloc (x.box As cs Am cm)=W3 at *
 generalize W2.heap.size=p9 at *;clear H5 H7 Dv BI HB0;obtain ⟨v0,v1,v2,v3,v4,v5,v6,v7⟩:=zF Gd;obtain ⟨b0,b1,b2,b3,b4,b5,b6,b7,b8,b9⟩:=zG Gy
 go_cut [48] (fun Xv wx=>Xv = .bool false/\Hid (Below W3.heap.size W3 wx))
 case first =>
  cases pl with
  | true =>
   have z0:¬ (0:Int)<(v.rest.length:Int):=by have:=Od.out rfl;omega
   go_wp2_with fail
   refine (yJ v (by rw[KO.out];omega) A1 c1 A2 c2 A3 c3 W3).mono ?_
   rintro e w4 ⟨rfl,hb4⟩;rw[HP.out];have BA:=zh hb4;have v7:=zA hb4 v7;clear hb4;go_wp2;go_meet;exact ⟨by first|rfl|exact congrArg Value.bool (AAU (by omega)),BA.out⟩
  | false =>
   go_wp2_with fail
   refine (yJ v (by rw[KO.out];omega) A1 c1 A2 c2 A3 c3 W3).mono ?_
   rintro e w4 ⟨rfl,hb4⟩;rw[HP.out];have BA:=zh hb4;have v7:=zA hb4 v7;clear hb4;go_wp2;go_meet;exact ⟨by first|rfl|exact congrArg Value.bool (AAU (by omega)),BA.out⟩
 case rest =>
 obtain ⟨rfl,hcut⟩:=hcut;obtain ⟨w4,rfl⟩:∃W:World,W=wc:=⟨_,rfl⟩;have hb4:=hcut.out;clear hcut;have BA:=zh (zB HB3 hb4);have EL:=zh (Gy.out.below hb4);have Gf:=zh (zE Bg hb4);have F9:=zh (zE Gd hb4);have M8:=zh (HS.out.below BA);have HRR:=zh (HR.out.below BA);have Ct:=zh (EI.out.below hb4)
 clear hb4 v0 v1 v2 v3 v4 v5 v6 v7 b0 b1 b2 b3 b4 b5 b6 b7 b8 b9 HB3 Gy Bg Gd q0 EI;obtain ⟨v0,v1,v2,v3,v4,v5,v6,v7⟩:=zF F9;obtain ⟨b0,b1,b2,b3,b4,b5,b6,b7,b8,b9⟩:=zG EL;have x0:=zb Gf;go_upto_region 6 with fail
 obtain ⟨q1,q2,q3,q4,q5,q6,q7,q8⟩:=zk8 HK;have HD0:=zh (fb8 (f:=AU s pl n) (plain:=pl) (v:=v) HK);have hlk:=HRR.out.keys.1.lt (by omega)
 have gG:=HRR.out.items.1.lt (by omega)
 by_cases g1:(v.keys.length:Int)<=x.max
 case neg =>
  have HD:Hid (AY (AU s pl n) pl x v=false):=by show _=_;rw[HD0.out];simp[g1]
  have z1:x.max<(v.keys.length:Int):=by omega
  clear g1;go_wp2;go_ret;exact ⟨by rw[HD.out];rfl,BA.out⟩
 have z1:¬ x.max<(v.keys.length:Int):=by omega
 by_cases g2:v.items.length=v.keys.length
 case neg =>
  have HD:Hid (AY (AU s pl n) pl x v=false):=by show _=_;rw[HD0.out];simp[g2]
  have z2:((v.items.length:Int) != (v.keys.length:Int))=true:=bne_iff_ne.2 (by omega)
  clear g1 g2;go_wp2;go_ret;exact ⟨by rw[HD.out];rfl,BA.out⟩
 have z2:((v.items.length:Int) != (v.keys.length:Int))=false:=by simp[g2]
 have HD1:Hid (AY (AU s pl n) pl x v=((v.keys.all fun y=>AU s pl n x.key y)&&F8 v.keys&&(v.items.all fun y=>AU s pl n x.elem y))):=by show _=_;rw[HD0.out,AAX g1,AAX g2];rfl
 clear g1 g2 HD0;go_wp2_with fail;refine (Km E5 x.key v.keys A1 c1 _ (fun y hy=>FR.out y (.inl hy)) (HS.out.below BA) (HR.out.below BA).keys).mono ?_
 rintro e w5 ⟨rfl,hb5⟩;have Ap:=zh (zB BA hb5);have mq:=zh (EL.out.below hb5);have nN:=zh (zE Gf hb5);have mE:=zh (zE F9 hb5);clear hb5;clear v0 v1 v2 v3 v4 v5 v6 v7 b0 b1 b2 b3 b4 b5 b6 b7 b8 b9 x0;obtain ⟨v0,v1,v2,v3,v4,v5,v6,v7⟩:=zF mE;obtain ⟨b0,b1,b2,b3,b4,b5,b6,b7,b8,b9⟩:=zG mq;have x0:=zb nN
 cases hall:(v.keys.all fun y=>AU s pl n x.key y) with
 | false =>
  have HD:Hid (AY (AU s pl n) pl x v=false):=by show _=_;rw[HD1.out,hall];rfl
  clear hall;go_wp2;go_ret;exact ⟨by rw[HD.out];rfl,Ap.out⟩
 | true =>
  have HKEY:=zh (fun y (hy:y∈v.keys)=>RI HV HN fB HK n y (AA3.1 hall y hy))
  have HD2:Hid (AY (AU s pl n) pl x v=(F8 v.keys&&(v.items.all fun y=>AU s pl n x.elem y))):=by show _=_;rw[HD1.out,hall];rfl
  clear hall HD1;go_wp2_with fail;refine (Km E5 x.elem v.items A2 c2 _ (fun y hy=>FR.out y (.inr hy)) (HS.out.below Ap) (HR.out.below Ap).items).mono ?_
  rintro e w6 ⟨rfl,hb6⟩;have BN:=zh (zB Ap hb6);have H76:=zh (zE mE hb6);clear hb6;clear v0 v1 v2 v3 v4 v5 v6 v7 b0 b1 b2 b3 b4 b5 b6 b7 b8 b9 x0
  cases XC:(v.items.all fun y=>AU s pl n x.elem y) with
  | false =>
   have HD:Hid (AY (AU s pl n) pl x v=false):=by show _=_;rw[HD2.out,XC,Bool.and_false]
   clear XC;go_wp2;go_ret;exact ⟨by rw[HD.out];rfl,BN.out⟩
  | true =>
   obtain ⟨X,hX⟩:∃X,AY (AU s pl n) pl x v=X:=⟨_,rfl⟩;have ZR:=zh hX;have HD3:Hid (X=F8 v.keys):=by show _=_;rw[<-hX,HD2.out,XC,Bool.and_true]
   clear hX XC HD2;have UY:=zh (HR.out.below BN).keys;go_wp2_with fail
   go_loopw [15] (fun i wr=>∃m:Nat,i = .int .i64 ((m:Int)+1)/\Hid ((m+1<=v.keys.length\/m=0)/\(∀j (h:j+1<v.keys.length),j<m->BS v.keys[j] v.keys[j+1]<0)/\Below w6.heap.size w6 wr)) (fun i _=>v.keys.length+1 - (intOf i).toNat)
   case atStart=>exact ⟨0,by rfl,.inr rfl,(fun j _ h=>absurd h (by omega)),Pe _ _⟩
   case round =>
    obtain ⟨m,rfl,hh⟩:=hrel;obtain ⟨WB,rfl⟩:∃w':World,w'=wr:=⟨_,rfl⟩;have HM:=zh hh.out.1;have HAS:=zh hh.out.2.1;have Ej:=zh hh.out.2.2;clear hh;obtain ⟨-,-,-,-,-,v5,-,-⟩:=zF (zE H76 Ej)
    by_cases hlt:m+1<v.keys.length
    ·have hm0:m<v.keys.length:=by omega
     obtain ⟨kb,ko,E1,e1,E2,e2,E3,e3,I,hI,a0,a1,a2,a3,a4,a5,a6,a7⟩:=(UY.out.below Ej).at8 hm0;have R5:=zh hI;have wG:=zh (And.intro a0 (And.intro a1 (And.intro a2 (And.intro a3 (And.intro a4 (And.intro a5 (And.intro a6 a7)))))));clear hI a0 a1 a2 a3 a4 a5 a6 a7;obtain ⟨kb',ko',G1,g1,G2,g2,G3,g3,J,hJ,d0,d1,d2,d3,d4,d5,d6,d7⟩:=(UY.out.below Ej).at8 hlt;have HJR:=zh hJ
     have HJA:=zh (And.intro d0 (And.intro d1 (And.intro d2 (And.intro d3 (And.intro d4 (And.intro d5 (And.intro d6 d7)))))));clear hJ d0 d1 d2 d3 d4 d5 d6 d7;rw[I] at J
     injection J with J
     injection J with J1 J2
     subst J1;subst J2;rw[I] at v5;have Ro:=zh (HKEY.out _ (AAK hm0));have NW:=zh (HKEY.out _ (AAK hlt));have Ic:Hid (BS v.keys[m] v.keys[m+1]<0->∀j (h:j+1<v.keys.length),j<m+1->BS v.keys[j] v.keys[j+1]<0):=fun hx j h hj=>by
      by_cases ej:j=m
      ·subst ej;exact hx
      ·exact HAS.out j h (by omega)
     have Mi:Hid (¬ BS v.keys[m] v.keys[m+1]<0->X=false):=fun hx=>by rw[HD3.out,RX _ m hlt hx]
     generalize v.keys[m]=y at *;generalize v.keys[m+1]=z at *;have rH:=zh (fun w=>Hf y z (Ro.out.2.1.trans NW.out.2.1.symm) Ro.out.1 (fun h2=>⟨Ro.out.2.2 h2,NW.out.2.2 (by rw[NW.out.2.1,<-Ro.out.2.1];exact h2)⟩) (by have:=R5.out.str;have:=HJR.out.str;unfold Db at *;omega) E1 e1 E2 e2 E3 e3 G1 g1 G2 g2 G3 g3 w)
     have j1:(0:Int)<=(m:Int):=by omega
     have j2:(m:Int)+1<(v.keys.length:Int):=by omega
     have j3:(m:Int)<(v.keys.length:Int):=by omega
     have j4:(0:Int)<=(m:Int)+1:=by omega
     have jw:IntKind.i64.wrap (m:Int)=(m:Int):=by rw[IntKind.wrap_i64];omega
     have D7:Hid (∀w',Below WB.heap.size WB w'->(w'.cell? ⟨w.heap.size+1,5,none⟩=some (.slice (some ⟨kb,ko,none⟩) v.keys.length c1)/\w'.cell? ⟨kb,ko+m * 8,none⟩=some (.int .i64 y.kind)/\w'.cell? ⟨kb,ko+m * 8+1,none⟩=some (.bool y.bool)/\w'.cell? ⟨kb,ko+m * 8+2,none⟩=some (.int .i64 y.int)/\w'.cell? ⟨kb,ko+m * 8+3,none⟩=some (.string y.str)/\w'.cell? ⟨kb,ko+m * 8+4,none⟩=some (.int .i64 y.id)/\w'.cell? ⟨kb,ko+m * 8+5,none⟩=some (.slice E1 y.keys.length e1)/\w'.cell? ⟨kb,ko+m * 8+6,none⟩=some (.slice E2 y.items.length e2)/\w'.cell? ⟨kb,ko+m * 8+7,none⟩=some (.slice E3 y.rest.length e3)/\w'.cell? ⟨kb,ko+(m+1) * 8,none⟩=some (.int .i64 z.kind)/\w'.cell? ⟨kb,ko+(m+1) * 8+1,none⟩=some (.bool z.bool)/\w'.cell? ⟨kb,ko+(m+1) * 8+2,none⟩=some (.int .i64 z.int)/\w'.cell? ⟨kb,ko+(m+1) * 8+3,none⟩=some (.string z.str)/\w'.cell? ⟨kb,ko+(m+1) * 8+4,none⟩=some (.int .i64 z.id)/\w'.cell? ⟨kb,ko+(m+1) * 8+5,none⟩=some (.slice G1 z.keys.length g1)/\w'.cell? ⟨kb,ko+(m+1) * 8+6,none⟩=some (.slice G2 z.items.length g2)/\w'.cell? ⟨kb,ko+(m+1) * 8+7,none⟩=some (.slice G3 z.rest.length g3))):=fun w' hb=>by
      obtain ⟨a0,a1,a2,a3,a4,a5,a6,a7⟩:=wG.out;obtain ⟨d0,d1,d2,d3,d4,d5,d6,d7⟩:=HJA.out;exact ⟨zA hb v5,zA hb a0,zA hb a1,zA hb a2,zA hb a3,zA hb a4,zA hb a5,zA hb a6,zA hb a7,zA hb d0,zA hb d1,zA hb d2,zA hb d3,zA hb d4,zA hb d5,zA hb d6,zA hb d7⟩
     clear I;go_upto_region 38 with fail
     clear v5;refine zr (Y:=fun w'=>Hid (Below WB.heap.size WB w')) D7 (by kernel_rfl) ?_ (fun AO=>?_)
     ·(try dsimp only);exact ⟨D7.out _ (zC (Pe _ _) 1),(zC (Pe _ _) 1)⟩
     refine tL 0 ?_;refine tL 1 ?_;refine tL 2 ?_;refine tL 3 ?_;refine tL 4 ?_;refine tL 5 ?_;try simp only[ps]
     refine tL 6 ?_;refine tL 7 ?_;refine tL 8 ?_;refine tL 9 ?_;refine tL 10 ?_;refine tR 11 (fun K hK=>?_)
     go_simp
     (refine (rH.out _).mono ?_;rintro e w7 ⟨rfl,FE⟩;have CS:=zh (zB AO.2.out FE);clear FE)
     refine hK.out _ _ ?_ (fun AO=>?_)
     ·(try dsimp only);exact ⟨D7.out _ CS,CS.out⟩
     clear hK K;try simp only[ps]
     refine tL 12 ?_;refine wpAnyH_done (by kernel_rfl) ?_ _
     clear AO;have BK:=zh (zB Ej CS)
     by_cases hge:BS y z<0
     ·have Gg:=zh (Ic.out hge)
      have q1:¬ 0<=BS y z:=by omega
      clear hge;go_wp2;go_roundw
      case rel=>exact ⟨m+1,by go_num,.inl (by omega),Gg.out,BK.out⟩
      case measure=>simp[intOf];omega
     ·have Gg:=zh (Mi.out hge)
      have q1:0<=BS y z:=by omega
      clear hge;go_wp2;go_ret;exact ⟨by rw[ZR.out,Gg.out];rfl,zB BN BK⟩
    ·have Gg:Hid (X=true):=by show _=_;rw[HD3.out];exact NP _ fun j h=>HAS.out j h (by omega)
     have q1:¬ (m:Int)+1<(v.keys.length:Int):=by omega
     go_wp2
     go_ret
     exact ⟨by rw[ZR.out,Gg.out];rfl,zB BN Ej⟩
end Go.Proofs.YthkkllmmbefedaaGreatDoor



