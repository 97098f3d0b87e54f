/-
  Walks: fits.
-/
import Derived.Test.YthkkllmmbefedaaGreatDoorQGA9
import Derived.Test.YthkkllmmbefedaaGreatDoorQGA7
import Derived.Test.YthkkllmmbefedaaGreatDoorQGA8
namespace Go.Proofs.YthkkllmmbefedaaGreatDoor
open Go.RowKit
set_option maxHeartbeats 16000000
set_option maxRecDepth 100000
theorem Yq {s:List Ae} {A:zo} {c:Nat} {plain:Bool} {n:Nat} (hv:zQ s=0) (kG:Bq s) (ih:OZ s A c plain n):OZ s A c plain (n+1):=by
 intro t v A1 c1 A2 c2 A3 c3 w hsz hs hr
 have hln:=hs.1.lt (by omega)
 have E5:=zh ih;have HV:=zh hv;have HN:=zh kG;have FR:Hid (∀y,y∈v.keys\/y∈v.items->SizeOf.sizeOf y<=n):=fun y hy=>by have:=KY v y hy;omega
 obtain ⟨HB0,UO,gN⟩:=zy w (.cells #[.slice A s.length c] 31) (v.box A1 c1 A2 c2 A3 c3);have HS:=zh hs;have HR:=zh hr;clear ih hv kG hs hr
 by_cases hr0:t<0
 ·have HF:Hid (AU s plain (n+1) t v=false):=by show _=_;unfold AU;rw[AAG (.inl hr0)]
  go_enter Tryz.func65,Tryz.ntmps65
  go_wp2
  go_ret
  exact ⟨by rw[HF.out];rfl,HB0.out⟩
 by_cases hr1:(s.length:Int)<=t
 ·have HF:Hid (AU s plain (n+1) t v=false):=by show _=_;unfold AU;rw[AAG (.inr hr1)]
  go_enter Tryz.func65,Tryz.ntmps65
  go_wp2
  go_ret
  exact ⟨by rw[HF.out];rfl,HB0.out⟩
 obtain ⟨tn,rfl⟩:=AAT (show 0<=t by omega)
 have htn:tn<s.length:=by omega
 obtain ⟨b,o,As,cs,Am,cm,rfl,htr,t0,t1,t2,t3,t4,t5,t6,t7,t8,t9⟩:=(HS.out.below HB0).FQ htn;have ZL:=zh (Dh (t:=(tn:Int)) HV (by omega))
 have fB:=zh (AAK htn);rw[zT htn] at ZL;have Vw:Hid (AU s plain (n+1) (tn:Int) v=if v.kind≠(s[tn]).kind\/zJ v=false then false else AY (AU s plain n) plain s[tn] v):=by
  show _=_
  rw[AU,Pd (by omega),zT htn]
 generalize s[tn]=x at *;have h1:(0:Int)<=(tn:Int):=by omega
 have h2:(tn:Int)<(s.length:Int):=by omega
 have Dv:=zh htr;clear htr
 go_enter Tryz.func65,Tryz.ntmps65
 go_upto_region 3 with fail
 have wS:Hid (Below w.heap.size w ((w.alloc (.cells #[.slice (some ⟨b,o,none⟩) s.length c] 31)).alloc (v.box A1 c1 A2 c2 A3 c3))):=HB0.out;clear HB0;generalize (w.alloc (.cells #[.slice (some ⟨b,o,none⟩) s.length c] 31)).alloc (v.box A1 c1 A2 c2 A3 c3)=W2 at *;have HB3:=zh (zB wS (zD W2 (x.box As cs Am cm)))
 have Gy:Hid (BX (W2.alloc (x.box As cs Am cm)) W2.heap.size x As cs Am cm):=AAC W2 _;have qH:=zh (zE gN (zD W2 (x.box As cs Am cm)));have ZE:=zh (zE UO (zD W2 (x.box As cs Am cm)));have EI:=zh (Dv.out.below (zD W2 (x.box As cs Am cm)));have x0:=zb UO;have l0:=zL x0;simp only at l0;go_upto_region 4 with fail
 clear t0 t1 t2 t3 t4 t5 t6 t7 t8 t9 x0 l0 gN UO wS;generalize W2.alloc (x.box As cs Am cm)=W3 at *;generalize W2.heap.size=bt at *;obtain ⟨b0,b1,b2,b3,b4,b5,b6,b7,b8,b9⟩:=zG Gy;obtain ⟨v0,v1,v2,v3,v4,v5,v6,v7⟩:=zF qH
 by_cases hk:v.kind=x.kind
 case neg =>
  have HF:Hid (AU s plain (n+1) (tn:Int) v=false):=by show _=_;rw[Vw.out,AAG (.inl hk)]
  have q1:(v.kind != x.kind)=true:=by simp[hk]
  clear hk;go_wp2;go_ret;exact ⟨by rw[HF.out];rfl,HB3.out⟩
 have q1:(v.kind != x.kind)=false:=by simp[hk]
 have HK:=zh hk;clear hk;go_wp2_with fail;refine (U0 v (by rw[HK.out];exact ZL.out) A1 c1 A2 c2 A3 c3 W3).mono ?_
 rintro e w4 ⟨rfl,hb4⟩;have BA:=zh (zB HB3 hb4);have EL:=zh (Gy.out.below hb4);have ZB:=zh (zE qH hb4);have UN:=zh (zE ZE hb4);have Ct:=zh (EI.out.below hb4);clear hb4 b0 b1 b2 b3 b4 b5 b6 b7 b8 b9 v0 v1 v2 v3 v4 v5 v6 v7 HB3 Gy qH ZE EI q1;obtain ⟨b0,b1,b2,b3,b4,b5,b6,b7,b8,b9⟩:=zG EL;obtain ⟨v0,v1,v2,v3,v4,v5,v6,v7⟩:=zF ZB;have x0:=zb UN
 cases hp:zJ v with
 | false =>
  have HF:Hid (AU s plain (n+1) (tn:Int) v=false):=by show _=_;rw[Vw.out,AAG (.inr hp)]
  clear hp;go_wp2;go_ret;exact ⟨by rw[HF.out];rfl,BA.out⟩
 | true =>
  have Gz:Hid (AU s plain (n+1) (tn:Int) v=AY (AU s plain n) plain x v):=by show _=_;rw[Vw.out,Pd (by rw[hp];simp[HK.out])]
  have hkx:x.kind=1\/x.kind=2\/x.kind=3\/x.kind=4\/x.kind=5\/x.kind=6\/x.kind=7\/x.kind=8\/x.kind=9:=by have:=ZL.out;omega
  clear hp Vw;have M8:=zh (HS.out.below BA);have HRR:=zh (HR.out.below BA);go_upto_region 7 with fail
  rcases hkx with e|e|e|e|e|e|e|e|e
  ·as_aux_lemma =>
   have HD:Hid (AY (AU s plain n) plain x v=true):=by show _=_;unfold AY;simp[e]
   go_wp2
   go_ret
   exact ⟨by rw[Gz.out,HD.out];rfl,BA.out⟩
  ·as_aux_lemma =>
   have HD:Hid (AY (AU s plain n) plain x v=(decide (x.low<=v.int)&&decide (v.int<=x.high))):=by show _=_;unfold AY;rw[AAG e]
   by_cases hl:x.low<=v.int
   ·have HD2:Hid (AY (AU s plain n) plain x v=decide (v.int<=x.high)):=by show _=_;rw[HD.out];simp[hl]
    have q1:x.low<=v.int:=hl;clear hl;go_wp2;go_ret;exact ⟨by rw[Gz.out,HD2.out];rfl,BA.out⟩
   ·have HD2:Hid (AY (AU s plain n) plain x v=false):=by show _=_;rw[HD.out];simp[hl]
    have q1:¬ x.low<=v.int:=hl;clear hl;go_wp2;go_ret;exact ⟨by rw[Gz.out,HD2.out];rfl,BA.out⟩
  ·as_aux_lemma =>
   have HD:Hid (AY (AU s plain n) plain x v=decide ((v.str.size:Int)<=x.max)):=by show _=_;unfold AY;rw[Pd (by omega),AAG e]
   go_wp2
   go_ret
   exact ⟨by rw[Gz.out,HD.out];rfl,BA.out⟩
  ·as_aux_lemma =>
   have HD:Hid (AY (AU s plain n) plain x v=((x.Aj.any fun y=>decide (y.id=v.id))||(x.open_ && !plain&&Aw v.id))):=by show _=_;unfold AY;rw[Pd (by omega),Pd (by omega),AAG e]
   obtain ⟨an,han⟩:∃an,(x.Aj.any fun y=>decide (y.id=v.id))=an:=⟨_,rfl⟩
   have hcall:=Uq v.id x As cs Am cm w4 Ct;rw[han] at hcall HD;have Gh:=zh hcall;have p2:(x.kind==2)=false:=by simp[e]
   have p3:(x.kind==3)=false:=by simp[e]
   have p4:(x.kind==4)=true:=by simp[e]
   clear hcall han e;go_wp2_with fail;refine Gh.out.mono ?_;rintro e' w5 ⟨r,rfl,hb5⟩;have Ap:=zh (zB BA hb5);have ZC:=zh (EL.out.below hb5);have ZA:=zh (zE ZB hb5);clear hb5 b0 b1 b2 b3 b4 b5 b6 b7 b8 b9 v0 v1 v2 v3 v4 v5 v6 v7 x0;obtain ⟨b0,b1,b2,b3,b4,b5,b6,b7,b8,b9⟩:=zG ZC;obtain ⟨v0,v1,v2,v3,v4,v5,v6,v7⟩:=zF ZA
   cases an with
   | true =>
    have HD2:Hid (AY (AU s plain n) plain x v=true):=by show _=_;rw[HD.out];rfl
    go_wp2
    go_ret
    exact ⟨by rw[Gz.out,HD2.out];rfl,Ap.out⟩
   | false =>
    cases ho:x.open_ with
    | false =>
     have HD2:Hid (AY (AU s plain n) plain x v=false):=by show _=_;rw[HD.out,ho];rfl
     go_wp2
     go_ret
     exact ⟨by rw[Gz.out,HD2.out];rfl,Ap.out⟩
    | true =>
     cases hpl:plain with
     | true =>
      have HD2:Hid (AY (AU s plain n) plain x v=false):=by show _=_;rw[HD.out,ho,hpl];rfl
      clear HD E5;go_wp2;go_ret;exact ⟨by rw[Gz.out,HD2.out];rfl,Ap.out⟩
     | false =>
      have HD2:Hid (AY (AU s plain n) plain x v=Aw v.id):=by show _=_;rw[HD.out,ho,hpl];rfl
      clear HD E5;go_wp2_with fail;refine (JA v.id _).mono ?_;rintro e' w6 ⟨rfl,rfl⟩;go_wp2;go_ret;exact ⟨by rw[Gz.out,HD2.out];rfl,Ap.out⟩
  ·as_aux_lemma =>
   have HD:Hid (AY (AU s plain n) plain x v=(decide (v.items.length=x.AA.length) && !(plain&&decide (0<v.rest.length))&&Ca x v.rest&&((x.AA.zip v.items).all fun p=>AU s plain n p.1.type p.2))):=by show _=_;unfold AY;rw[Pd (by omega),Pd (by omega),Pd (by omega),AAG e]
   have p2:(x.kind==2)=false:=by simp[e]
   have p3:(x.kind==3)=false:=by simp[e]
   have p4:(x.kind==4)=false:=by simp[e]
   have p5:(x.kind==5)=true:=by simp[e]
   clear e;have gG:=HRR.out.items.1.lt (by omega)
   have hlr:=HRR.out.rest.1.lt (by omega)
   by_cases hl1:v.items.length=x.AA.length
   case neg =>
    have HD2:Hid (AY (AU s plain n) plain x v=false):=by show _=_;rw[HD.out];simp[hl1]
    have q1:((v.items.length:Int) != (x.AA.length:Int))=true:=bne_iff_ne.2 (by omega)
    clear hl1 HD;go_wp2;go_ret;exact ⟨by rw[Gz.out,HD2.out];rfl,BA.out⟩
   have q1:((v.items.length:Int) != (x.AA.length:Int))=false:=by simp[hl1]
   have HL:=zh hl1;have HC:(plain=true/\0<v.rest.length)\/(plain=true/\v.rest.length=0)\/plain=false:=by
    cases plain
    ·exact .inr (.inr rfl)
    ·rcases Nat.eq_zero_or_pos v.rest.length with h|h
     ·exact .inr (.inl ⟨rfl,h⟩)
     ·exact .inl ⟨rfl,h⟩
   rcases HC with ⟨rfl,hr⟩|⟨rfl,hr⟩|rfl
   ·have HD2:Hid (AY (AU s true n) true x v=false):=by show _=_;rw[HD.out];simp[hr]
    have q2:(0:Int)<(v.rest.length:Int):=by omega
    clear hl1 HD hr;go_wp2;go_ret;exact ⟨by rw[Gz.out,HD2.out];rfl,BA.out⟩
   ·have HD1:Hid (AY (AU s true n) true x v=(Ca x v.rest&&((x.AA.zip v.items).all fun p=>AU s true n p.1.type p.2))):=by
     show _=_
     rw[HD.out,AAX hl1]
     first|rfl|(rw[AAU (p:=0<v.rest.length) (by omega)];rfl)
    have q2:true=true->¬ (0:Int)<(v.rest.length:Int):=fun h=>by first|exact absurd h (by decide)|omega
    replace q2:=q2
    first|replace q2:=q2 rfl|clear q2
    have IJ:=zh hr;clear hl1 HD hr;go_wp2_with fail
    first|clear q2|skip
    go_loopw [113] (fun i wr=>∃k:Nat,k<=v.rest.length/\i = .int .i64 (k:Int)/\Hid ((∀j (h:j<v.rest.length),j<k->Fb x v.rest[j]=true)/\(∀j (h:j+1<v.rest.length),j+1<k->(v.rest[j]).id<(v.rest[j+1]).id)/\Below w4.heap.size w4 wr)) (fun i _=>v.rest.length - (intOf i).toNat)
    case atStart=>exact ⟨0,by omega,rfl,(fun j _ h=>absurd h (by omega)),(fun j _ h=>absurd h (by omega)),Pe _ _⟩
    case round =>
     obtain ⟨k,hk,rfl,hh⟩:=hrel;have KR:=zh hh.out.1;have HAS:=zh hh.out.2.1;have Ej:=zh hh.out.2.2;clear hh b0 b1 b2 b3 b4 b5 b6 b7 b8 b9 v0 v1 v2 v3 v4 v5 v6 v7 x0;have UM:=zh (EL.out.below Ej);have Vn:=zh (zE ZB Ej);have lN:=zh (zE UN Ej);have ZI:=zh (Ct.out.below Ej);have fF:=zh (HRR.out.below Ej)
     by_cases hlt:k<v.rest.length
     ·exact absurd hlt (by have:=IJ.out;omega)
     ·have HD2:Hid (AY (AU s true n) true x v=(x.AA.zip v.items).all fun p=>AU s true n p.1.type p.2):=by
       show _=_
       rw[HD1.out,Kl x _ (fun j h=>KR.out j h (by omega)) (fun j h=>HAS.out j h (by omega))];rfl
      have Ap:=zh (zB BA Ej);have OT:=zh (M8.out.below Ej);obtain ⟨b0,b1,b2,b3,b4,b5,b6,b7,b8,b9⟩:=zG UM;obtain ⟨v0,v1,v2,v3,v4,v5,v6,v7⟩:=zF Vn;have hlm:=ZI.out.AA.1.lt (by omega)
      go_wp2_with fail
      obtain ⟨wk,rfl⟩:∃wk:World,wk=wr:=⟨_,rfl⟩
      go_loopw [152] (fun i wr=>∃j:Nat,j<=x.AA.length/\i = .int .i64 (j:Int)/\Hid ((∀q (h:q<x.AA.length) (h':q<v.items.length),q<j->AU s true n (x.AA[q]).type v.items[q]=true)/\Below wk.heap.size wk wr)) (fun i _=>x.AA.length - (intOf i).toNat)
      case atStart=>exact ⟨0,by omega,rfl,(fun j _ _ h=>absurd h (by omega)),Pe _ _⟩
      case round =>
       obtain ⟨j,hj,rfl,hh⟩:=hrel;obtain ⟨wq,rfl⟩:∃w':World,w'=wr:=⟨_,rfl⟩;have Vw:=zh hh.out.1;have MP:=zh hh.out.2;clear hh b0 b1 b2 b3 b4 b5 b6 b7 b8 b9 v0 v1 v2 v3 v4 v5 v6 v7
       by_cases hjt:j<x.AA.length
       ·have hji:j<v.items.length:=by rw[HL.out];exact hjt
        obtain ⟨mb,mo,M1,m1,M2,m2,M3,m3,VU,_,a0,a1,a2,a3,a4,a5,a6,a7,a8,a9,eD,eB,a12⟩:=(ZI.out.AA.below MP).Gw hjt;subst VU;have h1:(0:Int)<=(j:Int):=by omega
        have h2:(j:Int)<(x.AA.length:Int):=by omega
        have h3:(j:Int)<(v.items.length:Int):=by omega
        obtain ⟨b0,b1,b2,b3,b4,b5,b6,b7,b8,b9⟩:=zG (UM.out.below MP);have OW:=zh (zD wq (AZ.box x.AA[j] M1 m1 M2 m2 M3 m3));have XV:Hid ((wq.alloc (AZ.box x.AA[j] M1 m1 M2 m2 M3 m3)).heap[wq.heap.size]? = some (AZ.box x.AA[j] M1 m1 M2 m2 M3 m3)):=AAC wq _;have GA:=zh (zB MP OW);have qF:=zh (zE Vn GA);have qI:=zh (zE lN GA)
        have qM:=zh (OT.out.below GA);have qR:=zh (fF.out.below GA);clear hk;go_upto_region 27 with fail
        clear b0 b1 b2 b3 b4 b5 b6 b7 b8 b9 a0 a1 a2 a3 a4 a5 a6 a7 a8 a9 eD eB a12 OW;generalize wq.alloc (AZ.box x.AA[j] M1 m1 M2 m2 M3 m3)=wz at *;generalize wq.heap.size=yg at *;obtain ⟨ib,io,I1,i1,I2,i2,I3,i3,uT,HI,c0,c1',c2',c3',c4,c5,c6,c7⟩:=qR.out.items.at8 hji;subst uT;have wE:=zh HI;clear HI
        have Vy:Hid (∀w',Below wz.heap.size wz w'->(w'.cell? ⟨w.heap.size,0,none⟩=some (.slice (some ⟨b,o,none⟩) s.length c)/\w'.cell? ⟨yg,2,none⟩=some (.int .i64 (x.AA[j]).type)/\w'.cell? ⟨w.heap.size+1,6,none⟩=some (.slice (some ⟨ib,io,none⟩) v.items.length c2)/\w'.cell? ⟨ib,io+j * 8,none⟩=some (.int .i64 (v.items[j]).kind)/\w'.cell? ⟨ib,io+j * 8+1,none⟩=some (.bool (v.items[j]).bool)/\w'.cell? ⟨ib,io+j * 8+2,none⟩=some (.int .i64 (v.items[j]).int)/\w'.cell? ⟨ib,io+j * 8+3,none⟩=some (.string (v.items[j]).str)/\w'.cell? ⟨ib,io+j * 8+4,none⟩=some (.int .i64 (v.items[j]).id)/\w'.cell? ⟨ib,io+j * 8+5,none⟩=some (.slice I1 (v.items[j]).keys.length i1)/\w'.cell? ⟨ib,io+j * 8+6,none⟩=some (.slice I2 (v.items[j]).items.length i2)/\w'.cell? ⟨ib,io+j * 8+7,none⟩=some (.slice I3 (v.items[j]).rest.length i3))):=fun w' hb =>
         ⟨zA hb (by rw[AAE _ _ _ _ _ _ qI.out];rfl),zA hb (by rw[AAE _ _ _ _ _ _ XV.out];rfl),zA hb (zF qF).2.2.2.2.2.2.1,zA hb c0,zA hb c1',zA hb c2',zA hb c3',zA hb c4,zA hb c5,zA hb c6,zA hb c7⟩
        clear c0 c1' c2' c3' c4 c5 c6 c7;refine zr (Y:=fun w'=>Hid (Below wz.heap.size wz w')) Vy (by kernel_rfl) ?_ (fun AO=>?_)
        ·(try dsimp only);exact ⟨Vy.out _ (zC (Pe _ _) 1),zC (Pe _ _) 1⟩
        refine tL 0 ?_;refine tL 1 ?_;try simp only[ps]
        refine tL 2 ?_;refine tL 3 ?_;try simp only[ps]
        refine tL 4 ?_;refine tL 5 ?_;try simp only[ps]
        refine tL 6 ?_;refine tL 7 ?_;try simp only[ps]
        refine tL 8 ?_;refine tR 9 (fun K hK=>?_)
        go_simp
        (refine (E5.out _ v.items[j] I1 i1 I2 i2 I3 i3 _ (FR.out _ (.inr (AAK hji))) (qM.out.below AO.2.out) (wE.out.below AO.2.out)).mono ?_;rintro e' w7 ⟨rfl,FE⟩;have CS:=zh (zB AO.2.out FE);clear FE)
        refine hK.out _ _ ?_ (fun AO=>?_)
        ·(try dsimp only);exact ⟨Vy.out _ CS,CS.out⟩
        clear hK K;try simp only[ps]
        refine tL 10 ?_;refine wpAnyH_done (by kernel_rfl) ?_ _
        clear AO;have BK:=zh (zB GA CS)
        cases hf:AU s true n (x.AA[j]).type v.items[j] with
        | false =>
         have Mi:Hid (AU s true (n+1) (tn:Int) v=false):=by
          show _=_
          rw[Gz.out,HD2.out,KW _ _ _ j hjt hji hf]
         have KU:=zh (zB Ap BK);clear hf;go_wp2;go_ret;exact ⟨by rw[Mi.out];rfl,KU.out⟩
        | true =>
         have rA:Hid (∀q (h:q<x.AA.length) (h':q<v.items.length),q<j+1->AU s true n (x.AA[q]).type v.items[q]=true):=fun q h h' hq=>by
          by_cases ej:q=j
          ·subst ej;exact hf
          ·exact Vw.out q h h' (by omega)
         clear hf;go_wp2;go_roundw
         case rel=>exact ⟨j+1,by omega,by go_num,rA.out,BK.out⟩
         case measure=>simp[intOf];omega
       ·have Mi:Hid (AU s true (n+1) (tn:Int) v=true):=by
         show _=_
         rw[Gz.out,HD2.out,KX _ _ _ fun q h h'=>Vw.out q h h' (by omega)]
        have KU:=zh (zB Ap MP);go_wp2;go_ret;exact ⟨by rw[Mi.out];rfl,KU.out⟩
   ·have HD1:Hid (AY (AU s false n) false x v=(Ca x v.rest&&((x.AA.zip v.items).all fun p=>AU s false n p.1.type p.2))):=by
     show _=_
     rw[HD.out,AAX hl1]
     first|rfl|(rw[AAU (p:=0<v.rest.length) (by omega)];rfl)
    have q2:false=true->¬ (0:Int)<(v.rest.length:Int):=fun h=>by first|exact absurd h (by decide)|omega
    replace q2:=q2
    first|replace q2:=q2 rfl|clear q2
    clear hl1 HD;go_wp2_with fail
    first|clear q2|skip
    go_loopw [113] (fun i wr=>∃k:Nat,k<=v.rest.length/\i = .int .i64 (k:Int)/\Hid ((∀j (h:j<v.rest.length),j<k->Fb x v.rest[j]=true)/\(∀j (h:j+1<v.rest.length),j+1<k->(v.rest[j]).id<(v.rest[j+1]).id)/\Below w4.heap.size w4 wr)) (fun i _=>v.rest.length - (intOf i).toNat)
    case atStart=>exact ⟨0,by omega,rfl,(fun j _ h=>absurd h (by omega)),(fun j _ h=>absurd h (by omega)),Pe _ _⟩
    case round =>
     obtain ⟨k,hk,rfl,hh⟩:=hrel;have KR:=zh hh.out.1;have HAS:=zh hh.out.2.1;have Ej:=zh hh.out.2.2;clear hh b0 b1 b2 b3 b4 b5 b6 b7 b8 b9 v0 v1 v2 v3 v4 v5 v6 v7 x0;have UM:=zh (EL.out.below Ej);have Vn:=zh (zE ZB Ej);have lN:=zh (zE UN Ej);have ZI:=zh (Ct.out.below Ej);have fF:=zh (HRR.out.below Ej)
     by_cases hlt:k<v.rest.length
     ·obtain ⟨rb,ro,hA3,_,a0,a1⟩:=fF.out.rest.at2 hlt
      subst hA3;have h1:(0:Int)<=(k:Int):=by omega
      have h2:(k:Int)<(v.rest.length:Int):=by omega
      have HA:=zh a0;obtain ⟨b0,b1,b2,b3,b4,b5,b6,b7,b8,b9⟩:=zG UM;obtain ⟨v0,v1,v2,v3,v4,v5,v6,v7⟩:=zF Vn;have OW:=zh (zD wr (Ak.box v.rest[k]));have ZU:Hid ((wr.alloc (Ak.box v.rest[k])).heap[wr.heap.size]? = some (Ak.box v.rest[k])):=AAC wr _;obtain ⟨an,han⟩:∃an,(x.AA.any fun y=>decide (y.id=(v.rest[k]).id))=an:=⟨_,rfl⟩
      have hcall:=Nj (v.rest[k]).id x As cs Am cm (wr.alloc (Ak.box v.rest[k])) (ZI.out.below OW);rw[han] at hcall;have Gh:=zh hcall;have Rp:=zh han;have AAY:=zh (UM.out.below OW);clear hcall han;go_upto_region 20 with fail
      clear b0 b1 b2 b3 b4 b5 b6 b7 b8 b9 v0 v1 v2 v3 v4 v5 v6 v7;generalize wr.alloc (Ak.box v.rest[k])=wz at *;obtain ⟨b0,b1,b2,b3,b4,b5,b6,b7,b8,b9⟩:=zG AAY;have r0:wz.cell? ⟨wr.heap.size,0,none⟩=some (.int .i64 (v.rest[k]).id):=by rw[AAE _ _ _ _ _ _ ZU.out];rfl
      go_wp2_with fail
      refine Gh.out.mono ?_;rintro e' w6 ⟨r,rfl,_,hb6⟩;have BN:=zh (zB (zB Ej OW) hb6);have vN:=zh ((UM.out.below OW).below hb6);have qG:=zh (zE (zE Vn OW) hb6);have vO:=zh (zE (zE lN OW) hb6);have AAp:=zh (zE ZU hb6);have AAn:=zh ((fF.out.below OW).below hb6);generalize wr.heap.size=wZ at *
      clear hb6 b0 b1 b2 b3 b4 b5 b6 b7 b8 b9 r0 a0 a1 Gh;have v7:w6.cell? ⟨w.heap.size+1,7,none⟩=some (.slice (some ⟨rb,ro,none⟩) v.rest.length c3):=(zF qG).2.2.2.2.2.2.2;have r0:w6.cell? ⟨wZ,0,none⟩=some (.int .i64 (v.rest[k]).id):=by rw[AAE _ _ _ _ _ _ AAp.out];rfl
      have UR:Hid (∀w',Below w6.heap.size w6 w'->w'.cell? ⟨wZ,0,none⟩=some (.int .i64 (v.rest[k]).id)):=fun w' hb=>zA hb r0
      cases an with
      | true =>
       have Mi:Hid (AU s false (n+1) (tn:Int) v=false):=by
        show _=_
        rw[Gz.out,HD1.out,Kk x _ k hlt (by unfold Fb;rw[Rp.out];rfl)];rfl
       clear r0 v7;go_upto_region 21 with fail
       refine zr (Y:=fun w'=>Hid (Below w6.heap.size w6 w')) UR (by kernel_rfl) ?_ (fun AO=>?_)
       ·(try dsimp only);exact ⟨UR.out _ (zC (Pe _ _) 1),zC (Pe _ _) 1⟩
       refine tL 0 ?_;try simp only[ps]
       refine tL 1 ?_;refine tU 2 ?_;try simp only[ps]
       refine tU 3 ?_;refine tU 4 ?_;try simp only[ps]
       refine tU 5 ?_;refine tL 6 ?_;try simp only[ps]
       refine tL 7 ?_;refine tU 8 ?_;try simp only[ps]
       refine tU 9 ?_;refine tU 10 ?_;try simp only[ps]
       refine tU 11 ?_;refine tU 12 ?_;try simp only[ps]
       refine tU 13 ?_;refine tU 14 ?_;try simp only[ps]
       refine tU 15 ?_;refine tU 16 ?_;try simp only[ps]
       refine tU 17 ?_;refine tU 18 ?_;try simp only[ps]
       refine tU 19 ?_;refine tU 20 ?_;try simp only[ps]
       refine tU 21 ?_;refine tL 22 ?_;try simp only[ps]
       refine wpAnyH_done (by kernel_rfl) ?_ _
       have CS:=zh (zC (zB BA BN) 1);go_wp2;go_ret;exact ⟨by rw[Mi.out];rfl,CS.out⟩
      | false =>
       cases hfr:Aw (v.rest[k]).id with
       | false =>
        have Mi:Hid (AU s false (n+1) (tn:Int) v=false):=by
         show _=_
         rw[Gz.out,HD1.out,Kk x _ k hlt (by unfold Fb;rw[hfr,Bool.and_false])];rfl
        have UZ:=zh hfr;clear r0 v7 hfr;go_upto_region 21 with fail
        refine zr (Y:=fun w'=>Hid (Below w6.heap.size w6 w')) UR (by kernel_rfl) ?_ (fun AO=>?_)
        ·(try dsimp only);exact ⟨UR.out _ (zC (Pe _ _) 1),zC (Pe _ _) 1⟩
        refine tL 0 ?_;refine tL 1 ?_;try simp only[ps]
        refine tL 2 ?_;refine tL 3 ?_;try simp only[ps]
        refine tR 4 (fun K hK=>?_)
        go_simp
        (refine (JA _ _).mono ?_;rintro e' w7 ⟨rfl,hw7⟩;have CS:Hid (Below w6.heap.size w6 w7):=(by rw[hw7];exact AO.2.out);clear hw7;rw[UZ.out])
        refine hK.out _ _ ?_ (fun AO=>?_)
        ·(try dsimp only);exact ⟨UR.out _ CS,CS.out⟩
        clear hK K;refine tL 5 ?_;try simp only[ps]
        refine tL 6 ?_;refine tL 7 ?_;try simp only[ps]
        refine tU 8 ?_;refine tU 9 ?_;try simp only[ps]
        refine tU 10 ?_;refine tU 11 ?_;try simp only[ps]
        refine tU 12 ?_;refine tU 13 ?_;try simp only[ps]
        refine tU 14 ?_;refine tU 15 ?_;try simp only[ps]
        refine tU 16 ?_;refine tU 17 ?_;try simp only[ps]
        refine tU 18 ?_;refine tU 19 ?_;try simp only[ps]
        refine tU 20 ?_;refine tU 21 ?_;try simp only[ps]
        refine tL 22 ?_;refine wpAnyH_done (by kernel_rfl) ?_ _
        have BK:=zh (zB (zB BA BN) CS);go_wp2;go_ret;exact ⟨by rw[Mi.out];rfl,BK.out⟩
       | true =>
        have fK:Hid (∀j (h:j<v.rest.length),j<k+1->Fb x v.rest[j]=true):=fun j h hj=>by
         by_cases ej:j=k
         ·subst ej;unfold Fb;rw[Rp.out,hfr];rfl
         ·exact KR.out j h (by omega)
        have UZ:=zh hfr;clear hfr
        by_cases hk0:k=0
        ·subst hk0
         clear r0 v7;go_upto_region 21 with fail
         refine wp_region_held_drew (S:=(fun w'=>w'.cell? ⟨wZ,0,none⟩=some (.int .i64 (v.rest[0]).id)/\Hid (Below w6.heap.size w6 w'))) (by kernel_rfl) ?_ (fun AO=>?_)
         ·(try dsimp only);exact ⟨UR.out _ (zC (Pe _ _) 1),zC (Pe _ _) 1⟩
         refine tL 0 ?_;try simp only[ps]
         refine tL 1 ?_;refine tL 2 ?_;try simp only[ps]
         refine tL 3 ?_;refine tR 4 (fun K hK=>?_)
         go_simp
         (refine (JA _ _).mono ?_;rintro e' w7 ⟨rfl,hw7⟩;have CS:Hid (Below w6.heap.size w6 w7):=(by rw[hw7];exact AO.2.out);clear hw7;rw[UZ.out])
         refine hK.out _ _ ?_ (fun AO=>?_)
         ·(try dsimp only);exact ⟨UR.out _ CS,CS.out⟩
         clear hK K;try simp only[ps]
         refine tL 5 ?_;refine tL 6 ?_;try simp only[ps]
         refine tL 7 ?_;refine tL 8 ?_;try simp only[ps]
         refine tL 9 ?_;refine tL 10 ?_;try simp only[ps]
         refine tU 11 ?_;refine tU 12 ?_;try simp only[ps]
         refine tU 13 ?_;refine tU 14 ?_;try simp only[ps]
         refine tU 15 ?_;refine tU 16 ?_;try simp only[ps]
         refine tU 17 ?_;refine tU 18 ?_;try simp only[ps]
         refine tU 19 ?_;refine tU 20 ?_;try simp only[ps]
         refine tL 21 ?_;refine tL 22 ?_;try simp only[ps]
         refine wpAnyH_done (by kernel_rfl) ?_ _
         have BK:=zh (zB BN CS);go_wp2;go_roundw
         case rel=>exact ⟨1,by omega,by go_num,fK.out,(fun j _ h=>absurd h (by omega)),BK.out⟩
         case measure=>simp[intOf];omega
        ·obtain ⟨m,rfl⟩:∃m,k=m+1:=⟨k - 1,by omega⟩
         have hm:m<v.rest.length:=by omega
         obtain ⟨rb',ro',hE,_,d0,d1⟩:=AAn.out.rest.at2 hm
         injection hE with hE
         injection hE with hE1 hE2
         subst hE1;subst hE2;have HC2:Hid (∀w',Below w6.heap.size w6 w'->(w'.cell? ⟨wZ,0,none⟩=some (.int .i64 (v.rest[m+1]).id)/\w'.cell? ⟨w.heap.size+1,7,none⟩=some (.slice (some ⟨rb,ro,none⟩) v.rest.length c3)/\w'.cell? ⟨rb,ro+m * 2,none⟩=some (.int .i64 (v.rest[m]).id))):=fun w' hb=>⟨zA hb r0,zA hb v7,zA hb d0⟩
         have j1:(0:Int)<=(m:Int):=by omega
         have j2:(m:Int)+1<(v.rest.length:Int):=by omega
         have j3:(m:Int)<(v.rest.length:Int):=by omega
         have j4:(0:Int)<=(m:Int)+1:=by omega
         have j5:(0:Int)<(m:Int)+1:=by omega
         have jw:IntKind.i64.wrap (m:Int)=(m:Int):=by rw[IntKind.wrap_i64];omega
         clear r0 v7 d0 d1;go_upto_region 21 with fail
         refine zr (Y:=fun w'=>Hid (Below w6.heap.size w6 w')) HC2 (by kernel_rfl) ?_ (fun AO=>?_)
         ·(try dsimp only);exact ⟨HC2.out _ (zC (Pe _ _) 1),zC (Pe _ _) 1⟩
         refine tL 0 ?_;refine tL 1 ?_;try simp only[ps]
         refine tL 2 ?_;refine tL 3 ?_;try simp only[ps]
         refine tR 4 (fun K hK=>?_)
         go_simp
         (refine (JA _ _).mono ?_;rintro e' w7 ⟨rfl,hw7⟩;have CS:Hid (Below w6.heap.size w6 w7):=(by rw[hw7];exact AO.2.out);clear hw7;rw[UZ.out])
         refine hK.out _ _ ?_ (fun AO=>?_)
         ·(try dsimp only);exact ⟨HC2.out _ CS,CS.out⟩
         clear hK K;refine tL 5 ?_;try simp only[ps]
         refine tL 6 ?_;refine tL 7 ?_;try simp only[ps]
         refine tL 8 ?_;refine tL 9 ?_;try simp only[ps]
         refine tL 10 ?_;refine tL 11 ?_;try simp only[ps]
         refine tL 12 ?_;refine tL 13 ?_;try simp only[ps]
         refine tL 14 ?_;refine tL 15 ?_;try simp only[ps]
         refine tL 16 ?_;refine tL 17 ?_;try simp only[ps]
         refine tL 18 ?_;refine tL 19 ?_;try simp only[ps]
         refine tL 20 ?_;refine tL 21 ?_;try simp only[ps]
         refine tL 22 ?_;refine wpAnyH_done (by kernel_rfl) ?_ _
         clear AO;have BK:=zh (zB BN CS)
         by_cases hge:(v.rest[m+1]).id<=(v.rest[m]).id
         ·have Mi:Hid (AU s false (n+1) (tn:Int) v=false):=by
           show _=_
           rw[Gz.out,HD1.out,Ld x _ m hlt (by omega)];rfl
          have KU:=zh (zB BA BK);go_wp2;go_ret;exact ⟨by rw[Mi.out];rfl,KU.out⟩
         ·have rR:Hid (∀j (h:j+1<v.rest.length),j+1<m+1+1->(v.rest[j]).id<(v.rest[j+1]).id):=fun j h hj=>by
           by_cases ej:j=m
           ·subst ej;omega
           ·exact HAS.out j h (by omega)
          go_wp2
          go_roundw
          case rel=>exact ⟨m+1+1,by omega,by go_num,fK.out,rR.out,BK.out⟩
          case measure=>simp[intOf];omega
     ·have HD2:Hid (AY (AU s false n) false x v=(x.AA.zip v.items).all fun p=>AU s false n p.1.type p.2):=by
       show _=_
       rw[HD1.out,Kl x _ (fun j h=>KR.out j h (by omega)) (fun j h=>HAS.out j h (by omega))];rfl
      have Ap:=zh (zB BA Ej);have OT:=zh (M8.out.below Ej);obtain ⟨b0,b1,b2,b3,b4,b5,b6,b7,b8,b9⟩:=zG UM;obtain ⟨v0,v1,v2,v3,v4,v5,v6,v7⟩:=zF Vn;have hlm:=ZI.out.AA.1.lt (by omega)
      go_wp2_with fail
      obtain ⟨wk,rfl⟩:∃wk:World,wk=wr:=⟨_,rfl⟩
      go_loopw [152] (fun i wr=>∃j:Nat,j<=x.AA.length/\i = .int .i64 (j:Int)/\Hid ((∀q (h:q<x.AA.length) (h':q<v.items.length),q<j->AU s false n (x.AA[q]).type v.items[q]=true)/\Below wk.heap.size wk wr)) (fun i _=>x.AA.length - (intOf i).toNat)
      case atStart=>exact ⟨0,by omega,rfl,(fun j _ _ h=>absurd h (by omega)),Pe _ _⟩
      case round =>
       obtain ⟨j,hj,rfl,hh⟩:=hrel;obtain ⟨wq,rfl⟩:∃w':World,w'=wr:=⟨_,rfl⟩;have Vw:=zh hh.out.1;have MP:=zh hh.out.2;clear hh b0 b1 b2 b3 b4 b5 b6 b7 b8 b9 v0 v1 v2 v3 v4 v5 v6 v7
       by_cases hjt:j<x.AA.length
       ·have hji:j<v.items.length:=by rw[HL.out];exact hjt
        obtain ⟨mb,mo,M1,m1,M2,m2,M3,m3,VU,_,a0,a1,a2,a3,a4,a5,a6,a7,a8,a9,eD,eB,a12⟩:=(ZI.out.AA.below MP).Gw hjt;subst VU;have h1:(0:Int)<=(j:Int):=by omega
        have h2:(j:Int)<(x.AA.length:Int):=by omega
        have h3:(j:Int)<(v.items.length:Int):=by omega
        obtain ⟨b0,b1,b2,b3,b4,b5,b6,b7,b8,b9⟩:=zG (UM.out.below MP);have OW:=zh (zD wq (AZ.box x.AA[j] M1 m1 M2 m2 M3 m3));have XV:Hid ((wq.alloc (AZ.box x.AA[j] M1 m1 M2 m2 M3 m3)).heap[wq.heap.size]? = some (AZ.box x.AA[j] M1 m1 M2 m2 M3 m3)):=AAC wq _;have GA:=zh (zB MP OW);have qF:=zh (zE Vn GA);have qI:=zh (zE lN GA)
        have qM:=zh (OT.out.below GA);have qR:=zh (fF.out.below GA);clear hk;go_upto_region 27 with fail
        clear b0 b1 b2 b3 b4 b5 b6 b7 b8 b9 a0 a1 a2 a3 a4 a5 a6 a7 a8 a9 eD eB a12 OW;generalize wq.alloc (AZ.box x.AA[j] M1 m1 M2 m2 M3 m3)=wz at *;generalize wq.heap.size=yg at *;obtain ⟨ib,io,I1,i1,I2,i2,I3,i3,uT,HI,c0,c1',c2',c3',c4,c5,c6,c7⟩:=qR.out.items.at8 hji;subst uT;have wE:=zh HI;clear HI
        have Vy:Hid (∀w',Below wz.heap.size wz w'->(w'.cell? ⟨w.heap.size,0,none⟩=some (.slice (some ⟨b,o,none⟩) s.length c)/\w'.cell? ⟨yg,2,none⟩=some (.int .i64 (x.AA[j]).type)/\w'.cell? ⟨w.heap.size+1,6,none⟩=some (.slice (some ⟨ib,io,none⟩) v.items.length c2)/\w'.cell? ⟨ib,io+j * 8,none⟩=some (.int .i64 (v.items[j]).kind)/\w'.cell? ⟨ib,io+j * 8+1,none⟩=some (.bool (v.items[j]).bool)/\w'.cell? ⟨ib,io+j * 8+2,none⟩=some (.int .i64 (v.items[j]).int)/\w'.cell? ⟨ib,io+j * 8+3,none⟩=some (.string (v.items[j]).str)/\w'.cell? ⟨ib,io+j * 8+4,none⟩=some (.int .i64 (v.items[j]).id)/\w'.cell? ⟨ib,io+j * 8+5,none⟩=some (.slice I1 (v.items[j]).keys.length i1)/\w'.cell? ⟨ib,io+j * 8+6,none⟩=some (.slice I2 (v.items[j]).items.length i2)/\w'.cell? ⟨ib,io+j * 8+7,none⟩=some (.slice I3 (v.items[j]).rest.length i3))):=fun w' hb =>
         ⟨zA hb (by rw[AAE _ _ _ _ _ _ qI.out];rfl),zA hb (by rw[AAE _ _ _ _ _ _ XV.out];rfl),zA hb (zF qF).2.2.2.2.2.2.1,zA hb c0,zA hb c1',zA hb c2',zA hb c3',zA hb c4,zA hb c5,zA hb c6,zA hb c7⟩
        clear c0 c1' c2' c3' c4 c5 c6 c7;refine zr (Y:=fun w'=>Hid (Below wz.heap.size wz w')) Vy (by kernel_rfl) ?_ (fun AO=>?_)
        ·(try dsimp only);exact ⟨Vy.out _ (zC (Pe _ _) 1),zC (Pe _ _) 1⟩
        refine tL 0 ?_;try simp only[ps]
        refine tL 1 ?_;refine tL 2 ?_;try simp only[ps]
        refine tL 3 ?_;refine tL 4 ?_;try simp only[ps]
        refine tL 5 ?_;refine tL 6 ?_;try simp only[ps]
        refine tL 7 ?_;refine tL 8 ?_;try simp only[ps]
        refine tR 9 (fun K hK=>?_)
        go_simp
        (refine (E5.out _ v.items[j] I1 i1 I2 i2 I3 i3 _ (FR.out _ (.inr (AAK hji))) (qM.out.below AO.2.out) (wE.out.below AO.2.out)).mono ?_;rintro e' w7 ⟨rfl,FE⟩;have CS:=zh (zB AO.2.out FE);clear FE)
        refine hK.out _ _ ?_ (fun AO=>?_)
        ·(try dsimp only);exact ⟨Vy.out _ CS,CS.out⟩
        clear hK K;refine tL 10 ?_;try simp only[ps]
        refine wpAnyH_done (by kernel_rfl) ?_ _
        clear AO;have BK:=zh (zB GA CS)
        cases hf:AU s false n (x.AA[j]).type v.items[j] with
        | false =>
         have Mi:Hid (AU s false (n+1) (tn:Int) v=false):=by
          show _=_
          rw[Gz.out,HD2.out,KW _ _ _ j hjt hji hf]
         have KU:=zh (zB Ap BK);clear hf;go_wp2;go_ret;exact ⟨by rw[Mi.out];rfl,KU.out⟩
        | true =>
         have rA:Hid (∀q (h:q<x.AA.length) (h':q<v.items.length),q<j+1->AU s false n (x.AA[q]).type v.items[q]=true):=fun q h h' hq=>by
          by_cases ej:q=j
          ·subst ej;exact hf
          ·exact Vw.out q h h' (by omega)
         clear hf;go_wp2;go_roundw
         case rel=>exact ⟨j+1,by omega,by go_num,rA.out,BK.out⟩
         case measure=>simp[intOf];omega
       ·have Mi:Hid (AU s false (n+1) (tn:Int) v=true):=by
         show _=_
         rw[Gz.out,HD2.out,KX _ _ _ fun q h h'=>Vw.out q h h' (by omega)]
        have KU:=zh (zB Ap MP);go_wp2;go_ret;exact ⟨by rw[Mi.out];rfl,KU.out⟩
  ·as_aux_lemma =>
   have HD:Hid (AY (AU s plain n) plain x v=(match x.AA.find? fun m=>decide (m.id=v.id) with
    | some m=>decide (v.items.length=1)&&decide (v.rest.length=0)&&(v.items.all fun y=>AU s plain n m.type y)
    | none=>x.open_ && !plain&&Aw v.id&&decide (v.items.length=0)&&decide (v.rest.length=1)&&(v.rest.all fun r=>decide (r.id=v.id)))):=by show _=_;unfold AY;rw[Pd (by omega),Pd (by omega),Pd (by omega),Pd (by omega),AAG e];rfl
   have p2:(x.kind==2)=false:=by simp[e]
   have p3:(x.kind==3)=false:=by simp[e]
   have p4:(x.kind==4)=false:=by simp[e]
   have p5:(x.kind==5)=false:=by simp[e]
   have p6:(x.kind==6)=true:=by simp[e]
   clear e;have gG:=HRR.out.items.1.lt (by omega)
   have hlr:=HRR.out.rest.1.lt (by omega)
   obtain ⟨an,han⟩:∃an,(x.AA.any fun y=>decide (y.id=v.id))=an:=⟨_,rfl⟩
   have hcall:=Nj v.id x As cs Am cm w4 Ct;rw[han] at hcall;have Gh:=zh hcall;have Rp:=zh han;clear hcall han;go_wp2_with fail;refine Gh.out.mono ?_;rintro e' w5 ⟨r,rfl,hr,hb5⟩;have HRX:=zh hr;have Ap:=zh (zB BA hb5);have ZC:=zh (EL.out.below hb5);have ZA:=zh (zE ZB hb5);have qJ:=zh (zE UN hb5);have IX:=zh (Ct.out.below hb5)
   have OT:=zh (M8.out.below hb5);have Vp:=zh (HRR.out.below hb5);clear hb5 hr b0 b1 b2 b3 b4 b5 b6 b7 b8 b9 v0 v1 v2 v3 v4 v5 v6 v7 x0 Gh;obtain ⟨b0,b1,b2,b3,b4,b5,b6,b7,b8,b9⟩:=zG ZC;obtain ⟨v0,v1,v2,v3,v4,v5,v6,v7⟩:=zF ZA;have x0:=zb qJ
   cases an with
   | true =>
    obtain ⟨k,hk,hi,hfi⟩:=K4 x.AA Rp;obtain rfl:r=(k:Int):=(HRX.out rfl).trans hi;have HD1:Hid (AY (AU s plain n) plain x v=(decide (v.items.length=1)&&decide (v.rest.length=0)&&(v.items.all fun y=>AU s plain n (x.AA[k]).type y))):=by show _=_;rw[HD.out,hfi]
    clear hi hfi HRX HD;have hlm:=IX.out.AA.1.lt (by omega)
    obtain ⟨mb,mo,M1,m1,M2,m2,M3,m3,VU,_,a0,a1,a2,a3,a4,a5,a6,a7,a8,a9,eD,eB,a12⟩:=IX.out.AA.Gw hk;subst VU;have HCM:Hid (w5.cell? ⟨mb,mo+k * 13+2,none⟩=some (.int .i64 (x.AA[k]).type)):=a2;have h1:(0:Int)<=(k:Int):=by omega
    have h2:(k:Int)<(x.AA.length:Int):=by omega
    clear a0 a1 a2 a3 a4 a5 a6 a7 a8 a9 eD eB a12
    by_cases hl1:v.items.length=1
    case neg =>
     have HD2:Hid (AY (AU s plain n) plain x v=false):=by show _=_;rw[HD1.out];simp[hl1]
     have q1:((v.items.length:Int)==1)=false:=AAc.2 (by omega)
     have UQ:Hid (∀w',Below w5.heap.size w5 w'->w'.cell? ⟨w.heap.size+1,6,none⟩=some (.slice A2 v.items.length c2)):=fun w' hb=>zA hb v6
     clear hl1 HD1;go_upto_region 33 with fail
     clear b0 b1 b2 b3 b4 b5 b6 b7 b8 b9 v0 v1 v2 v3 v4 v5 v6 v7 x0;refine zr (Y:=fun w'=>Hid (Below w5.heap.size w5 w')) UQ (by kernel_rfl) ?_ (fun AO=>?_)
     ·(try dsimp only);exact ⟨UQ.out _ (zC (Pe _ _) 1),zC (Pe _ _) 1⟩
     refine tL 0 ?_;refine tL 1 ?_;try simp only[ps]
     refine tL 2 ?_;refine tL 3 ?_;try simp only[ps]
     refine tL 4 ?_;refine tU 5 ?_;try simp only[ps]
     refine tU 6 ?_;refine tU 7 ?_;try simp only[ps]
     refine tU 8 ?_;refine tL 9 ?_;try simp only[ps]
     refine tL 10 ?_;refine tU 11 ?_;try simp only[ps]
     refine tU 12 ?_;refine tU 13 ?_;try simp only[ps]
     refine tU 14 ?_;refine tU 15 ?_;try simp only[ps]
     refine tU 16 ?_;refine tU 17 ?_;try simp only[ps]
     refine tU 18 ?_;refine tU 19 ?_;try simp only[ps]
     refine tU 20 ?_;refine tU 21 ?_;try simp only[ps]
     refine tU 22 ?_;refine tU 23 ?_;try simp only[ps]
     refine tL 24 ?_;refine tL 25 ?_;try simp only[ps]
     refine wpAnyH_done (by kernel_rfl) ?_ _
     have BN:=zh (zC Ap 1);go_wp2;go_ret;exact ⟨by rw[Gz.out,HD2.out];rfl,BN.out⟩
    have q1:((v.items.length:Int)==1)=true:=by simp[hl1]
    by_cases hl2:v.rest.length=0
    case neg =>
     have HD2:Hid (AY (AU s plain n) plain x v=false):=by show _=_;rw[HD1.out];simp[hl1,hl2]
     have q2:((v.rest.length:Int)==0)=false:=AAc.2 (by omega)
     have UQ:Hid (∀w',Below w5.heap.size w5 w'->w'.cell? ⟨w.heap.size+1,6,none⟩=some (.slice A2 v.items.length c2)/\w'.cell? ⟨w.heap.size+1,7,none⟩=some (.slice A3 v.rest.length c3)):=fun w' hb=>⟨zA hb v6,zA hb v7⟩
     clear hl1 hl2 HD1;go_upto_region 33 with fail
     clear b0 b1 b2 b3 b4 b5 b6 b7 b8 b9 v0 v1 v2 v3 v4 v5 v6 v7 x0;refine wp_region_held_drew (S:=(fun w'=>(w'.cell? ⟨w.heap.size+1,6,none⟩=some (.slice A2 v.items.length c2)/\w'.cell? ⟨w.heap.size+1,7,none⟩=some (.slice A3 v.rest.length c3))/\Hid (Below w5.heap.size w5 w'))) (by kernel_rfl) ?_ (fun AO=>?_)
     ·(try dsimp only);exact ⟨UQ.out _ (zC (Pe _ _) 1),zC (Pe _ _) 1⟩
     refine tL 0 ?_;refine tL 1 ?_;try simp only[ps]
     refine tL 2 ?_;refine tL 3 ?_;try simp only[ps]
     refine tL 4 ?_;refine tL 5 ?_;try simp only[ps]
     refine tL 6 ?_;refine tL 7 ?_;try simp only[ps]
     refine tL 8 ?_;refine tL 9 ?_;try simp only[ps]
     refine tL 10 ?_;refine tU 11 ?_;try simp only[ps]
     refine tU 12 ?_;refine tU 13 ?_;try simp only[ps]
     refine tU 14 ?_;refine tU 15 ?_;try simp only[ps]
     refine tU 16 ?_;refine tU 17 ?_;try simp only[ps]
     refine tU 18 ?_;refine tU 19 ?_;try simp only[ps]
     refine tU 20 ?_;refine tU 21 ?_;try simp only[ps]
     refine tU 22 ?_;refine tU 23 ?_;try simp only[ps]
     refine tL 24 ?_;refine tL 25 ?_;try simp only[ps]
     refine wpAnyH_done (by kernel_rfl) ?_ _
     have BN:=zh (zC Ap 1);go_wp2;go_ret;exact ⟨by rw[Gz.out,HD2.out];rfl,BN.out⟩
    have q2:((v.rest.length:Int)==0)=true:=by simp[hl2]
    have hi0:0<v.items.length:=by omega
    have HD2:Hid (AY (AU s plain n) plain x v=AU s plain n (x.AA[k]).type v.items[0]):=by
     show _=_
     rw[HD1.out];obtain ⟨y,hy⟩:=List.length_eq_one_iff.1 hl1;simp[hl2,hy]
    obtain ⟨ib,io,I1,i1,I2,i2,I3,i3,uT,HI,e0,e1,e2,e3,e4,e5,e6,e7⟩:=Vp.out.items.at8 hi0;subst uT;have wE:=zh HI;have HSI:=zh (FR.out _ (.inr (AAK hi0)));have q3:(0:Int)<(v.items.length:Int):=by omega
    have UQ:Hid (∀w',Below w5.heap.size w5 w'->(w'.cell? ⟨w.heap.size,0,none⟩=some (.slice (some ⟨b,o,none⟩) s.length c)/\w'.cell? ⟨bt,6,none⟩=some (.slice (some ⟨mb,mo,none⟩) x.AA.length cm)/\w'.cell? ⟨mb,mo+k * 13+2,none⟩=some (.int .i64 (x.AA[k]).type)/\w'.cell? ⟨w.heap.size+1,6,none⟩=some (.slice (some ⟨ib,io,none⟩) v.items.length c2)/\w'.cell? ⟨w.heap.size+1,7,none⟩=some (.slice A3 v.rest.length c3)/\w'.cell? ⟨ib,io,none⟩=some (.int .i64 (v.items[0]).kind)/\w'.cell? ⟨ib,io+1,none⟩=some (.bool (v.items[0]).bool)/\w'.cell? ⟨ib,io+2,none⟩=some (.int .i64 (v.items[0]).int)/\w'.cell? ⟨ib,io+3,none⟩=some (.string (v.items[0]).str)/\w'.cell? ⟨ib,io+4,none⟩=some (.int .i64 (v.items[0]).id)/\w'.cell? ⟨ib,io+5,none⟩=some (.slice I1 (v.items[0]).keys.length i1)/\w'.cell? ⟨ib,io+6,none⟩=some (.slice I2 (v.items[0]).items.length i2)/\w'.cell? ⟨ib,io+7,none⟩=some (.slice I3 (v.items[0]).rest.length i3))):=fun w' hb =>
     ⟨zA hb x0,zA hb b6,zA hb HCM,zA hb v6,zA hb v7,zA hb (by simpa using e0),zA hb (by simpa using e1),zA hb (by simpa using e2),zA hb (by simpa using e3),zA hb (by simpa using e4),zA hb (by simpa using e5),zA hb (by simpa using e6),zA hb (by simpa using e7)⟩
    clear hl1 hl2 HD1 HI e0 e1 e2 e3 e4 e5 e6 e7;go_upto_region 33 with fail
    clear b0 b1 b2 b3 b4 b5 b6 b7 b8 b9 v0 v1 v2 v3 v4 v5 v6 v7 x0;refine zr (Y:=fun w'=>Hid (Below w5.heap.size w5 w')) UQ (by kernel_rfl) ?_ (fun AO=>?_)
    ·(try dsimp only);exact ⟨UQ.out _ (zC (Pe _ _) 1),zC (Pe _ _) 1⟩
    refine tL 0 ?_;refine tL 1 ?_;try simp only[ps]
    refine tL 2 ?_;refine tL 3 ?_;try simp only[ps]
    refine tL 4 ?_;refine tL 5 ?_;try simp only[ps]
    refine tL 6 ?_;refine tL 7 ?_;try simp only[ps]
    refine tL 8 ?_;refine tL 9 ?_;try simp only[ps]
    refine tL 10 ?_;refine tL 11 ?_;try simp only[ps]
    refine tL 12 ?_;refine tL 13 ?_;try simp only[ps]
    refine tL 14 ?_;refine tL 15 ?_;try simp only[ps]
    refine tL 16 ?_;refine tL 17 ?_;try simp only[ps]
    refine tL 18 ?_;refine tL 19 ?_;try simp only[ps]
    refine tL 20 ?_;refine tL 21 ?_;try simp only[ps]
    refine tL 22 ?_;refine tR 23 (fun K hK=>?_)
    go_simp
    (refine (E5.out _ v.items[0] I1 i1 I2 i2 I3 i3 _ HSI (OT.out.below AO.2.out) (wE.out.below AO.2.out)).mono ?_;rintro e' w7 ⟨rfl,FE⟩;have CS:=zh (zB AO.2.out FE);clear FE)
    refine hK.out _ _ ?_ (fun AO=>?_)
    ·(try dsimp only);exact ⟨UQ.out _ CS,CS.out⟩
    clear hK K;try simp only[ps]
    refine tL 24 ?_;refine tL 25 ?_;try simp only[ps]
    refine wpAnyH_done (by kernel_rfl) ?_ _
    have BN:=zh (zB Ap CS);clear AO;go_wp2;go_ret;exact ⟨by rw[Gz.out,HD2.out];rfl,BN.out⟩
   | false =>
    have HD1:Hid (AY (AU s plain n) plain x v=(x.open_ && !plain&&Aw v.id&&decide (v.items.length=0)&&decide (v.rest.length=1)&&(v.rest.all fun r=>decide (r.id=v.id)))):=by show _=_;rw[HD.out,RJ _ Rp.out]
    have O5:Hid (∀w',Below w5.heap.size w5 w'->(w'.cell? ⟨bt,9,none⟩=some (.bool x.open_)/\w'.cell? ⟨w.heap.size+1,4,none⟩=some (.int .i64 v.id)/\w'.cell? ⟨w.heap.size+1,6,none⟩=some (.slice A2 v.items.length c2)/\w'.cell? ⟨w.heap.size+1,7,none⟩=some (.slice A3 v.rest.length c3))):=fun w' hb=>⟨zA hb b9,zA hb v4,zA hb v6,zA hb v7⟩
    clear HRX HD;have rG:(x.open_=false)\/(x.open_=true/\plain=true)\/(x.open_=true/\plain=false/\Aw v.id=false)\/(x.open_=true/\plain=false/\Aw v.id=true/\v.items.length≠0)\/(x.open_=true/\plain=false/\Aw v.id=true/\v.items.length=0/\v.rest.length≠1)\/(x.open_=true/\plain=false/\Aw v.id=true/\v.items.length=0/\v.rest.length=1):=by
     cases x.open_ with
     | false=>exact .inl rfl
     | true =>
      cases plain with
      | true=>exact .inr (.inl ⟨rfl,rfl⟩)
      | false =>
       cases Aw v.id with
       | false=>exact .inr (.inr (.inl ⟨rfl,rfl,rfl⟩))
       | true =>
        by_cases h1:v.items.length=0
        ·by_cases h2:v.rest.length=1
         ·exact .inr (.inr (.inr (.inr (.inr ⟨rfl,rfl,rfl,h1,h2⟩))))
         ·exact .inr (.inr (.inr (.inr (.inl ⟨rfl,rfl,rfl,h1,h2⟩))))
        ·exact .inr (.inr (.inr (.inl ⟨rfl,rfl,rfl,h1⟩)))
    have XW:=zh (fun w:World=>JA v.id w)
    rcases rG with ho|⟨ho,rfl⟩|⟨ho,rfl,hf⟩|⟨ho,rfl,hf,hl1⟩|⟨ho,rfl,hf,hl1,hl2⟩|⟨ho,rfl,hf,hl1,hl2⟩
    ·have HD2:Hid (AY (AU s plain n) plain x v=false):=by show _=_;rw[HD1.out];simp[ho]
     skip
     have HC:Hid (∀w',Below w5.heap.size w5 w'->(w'.cell? ⟨bt,9,none⟩=some (.bool false)/\w'.cell? ⟨w.heap.size+1,4,none⟩=some (.int .i64 v.id)/\w'.cell? ⟨w.heap.size+1,6,none⟩=some (.slice A2 v.items.length c2)/\w'.cell? ⟨w.heap.size+1,7,none⟩=some (.slice A3 v.rest.length c3))):=fun w' hb=>by have h:=O5.out w' hb;rw[ho] at h;exact h
     clear ho O5;go_upto_region 34 with fail
     clear b0 b1 b2 b3 b4 b5 b6 b7 b8 b9 v0 v1 v2 v3 v4 v5 v6 v7 x0 HD1;refine zr (Y:=fun w'=>Hid (Below w5.heap.size w5 w')) HC (by kernel_rfl) ?_ (fun AO=>?_)
     ·(try dsimp only);exact ⟨HC.out _ (zC (Pe _ _) 1),zC (Pe _ _) 1⟩
     refine tL 0 ?_;refine tL 1 ?_;try simp only[ps]
     refine tL 2 ?_;refine tU 3 ?_;try simp only[ps]
     refine tU 4 ?_;refine tL 5 ?_;try simp only[ps]
     refine tL 6 ?_;refine tU 7 ?_;try simp only[ps]
     refine tU 8 ?_;refine tU 9 ?_;try simp only[ps]
     refine tL 10 ?_;refine tL 11 ?_;try simp only[ps]
     refine tU 12 ?_;refine tU 13 ?_;try simp only[ps]
     refine tU 14 ?_;refine tU 15 ?_;try simp only[ps]
     refine tL 16 ?_;refine tL 17 ?_;try simp only[ps]
     refine tU 18 ?_;refine tU 19 ?_;try simp only[ps]
     refine tU 20 ?_;refine tU 21 ?_;try simp only[ps]
     refine tL 22 ?_;refine tL 23 ?_;try simp only[ps]
     refine tU 24 ?_;refine tU 25 ?_;try simp only[ps]
     refine tU 26 ?_;refine tU 27 ?_;try simp only[ps]
     refine tU 28 ?_;refine tU 29 ?_;try simp only[ps]
     refine tU 30 ?_;refine tU 31 ?_;try simp only[ps]
     refine tL 32 ?_;refine tL 33 ?_;try simp only[ps]
     refine wpAnyH_done (by kernel_rfl) ?_ _
     have BK:=zh (zB Ap (zC (Pe w5.heap.size w5) 1));go_wp2;go_ret;exact ⟨by rw[Gz.out,HD2.out];rfl,BK.out⟩
    ·have HD2:Hid (AY (AU s true n) true x v=false):=by show _=_;rw[HD1.out];simp[ho]
     skip
     have HC:Hid (∀w',Below w5.heap.size w5 w'->(w'.cell? ⟨bt,9,none⟩=some (.bool true)/\w'.cell? ⟨w.heap.size+1,4,none⟩=some (.int .i64 v.id)/\w'.cell? ⟨w.heap.size+1,6,none⟩=some (.slice A2 v.items.length c2)/\w'.cell? ⟨w.heap.size+1,7,none⟩=some (.slice A3 v.rest.length c3))):=fun w' hb=>by have h:=O5.out w' hb;rw[ho] at h;exact h
     clear ho O5;go_upto_region 34 with fail
     clear b0 b1 b2 b3 b4 b5 b6 b7 b8 b9 v0 v1 v2 v3 v4 v5 v6 v7 x0 HD1;refine zr (Y:=fun w'=>Hid (Below w5.heap.size w5 w')) HC (by kernel_rfl) ?_ (fun AO=>?_)
     ·(try dsimp only);exact ⟨HC.out _ (zC (Pe _ _) 1),zC (Pe _ _) 1⟩
     refine tL 0 ?_;refine tL 1 ?_;try simp only[ps]
     refine tL 2 ?_;refine tL 3 ?_;try simp only[ps]
     refine tL 4 ?_;refine tL 5 ?_;try simp only[ps]
     refine tL 6 ?_;refine tU 7 ?_;try simp only[ps]
     refine tU 8 ?_;refine tU 9 ?_;try simp only[ps]
     refine tL 10 ?_;refine tL 11 ?_;try simp only[ps]
     refine tU 12 ?_;refine tU 13 ?_;try simp only[ps]
     refine tU 14 ?_;refine tU 15 ?_;try simp only[ps]
     refine tL 16 ?_;refine tL 17 ?_;try simp only[ps]
     refine tU 18 ?_;refine tU 19 ?_;try simp only[ps]
     refine tU 20 ?_;refine tU 21 ?_;try simp only[ps]
     refine tL 22 ?_;refine tL 23 ?_;try simp only[ps]
     refine tU 24 ?_;refine tU 25 ?_;try simp only[ps]
     refine tU 26 ?_;refine tU 27 ?_;try simp only[ps]
     refine tU 28 ?_;refine tU 29 ?_;try simp only[ps]
     refine tU 30 ?_;refine tU 31 ?_;try simp only[ps]
     refine tL 32 ?_;refine tL 33 ?_;try simp only[ps]
     refine wpAnyH_done (by kernel_rfl) ?_ _
     have BK:=zh (zB Ap (zC (Pe w5.heap.size w5) 1));go_wp2;go_ret;exact ⟨by rw[Gz.out,HD2.out];rfl,BK.out⟩
    ·have HD2:Hid (AY (AU s false n) false x v=false):=by show _=_;rw[HD1.out];simp[ho,hf]
     (have HF:=zh hf;clear hf)
     have HC:Hid (∀w',Below w5.heap.size w5 w'->(w'.cell? ⟨bt,9,none⟩=some (.bool true)/\w'.cell? ⟨w.heap.size+1,4,none⟩=some (.int .i64 v.id)/\w'.cell? ⟨w.heap.size+1,6,none⟩=some (.slice A2 v.items.length c2)/\w'.cell? ⟨w.heap.size+1,7,none⟩=some (.slice A3 v.rest.length c3))):=fun w' hb=>by have h:=O5.out w' hb;rw[ho] at h;exact h
     clear ho O5;go_upto_region 34 with fail
     clear b0 b1 b2 b3 b4 b5 b6 b7 b8 b9 v0 v1 v2 v3 v4 v5 v6 v7 x0 HD1;refine zr (Y:=fun w'=>Hid (Below w5.heap.size w5 w')) HC (by kernel_rfl) ?_ (fun AO=>?_)
     ·(try dsimp only);exact ⟨HC.out _ (zC (Pe _ _) 1),zC (Pe _ _) 1⟩
     refine tL 0 ?_;refine tL 1 ?_;try simp only[ps]
     refine tL 2 ?_;refine tL 3 ?_;try simp only[ps]
     refine tL 4 ?_;refine tL 5 ?_;try simp only[ps]
     refine tL 6 ?_;refine tL 7 ?_;try simp only[ps]
     refine tL 8 ?_;refine tR 9 (fun K hK=>?_)
     go_simp
     (refine (XW.out _).mono ?_;rintro e' w7 ⟨rfl,hw7⟩;have CS:Hid (Below w5.heap.size w5 w7):=(by rw[hw7];exact AO.2.out);clear hw7;rw[HF.out])
     refine hK.out _ _ ?_ (fun AO=>?_)
     ·(try dsimp only);exact ⟨HC.out _ CS,CS.out⟩
     clear hK K;try simp only[ps]
     refine tL 10 ?_;refine tL 11 ?_;try simp only[ps]
     refine tU 12 ?_;refine tU 13 ?_;try simp only[ps]
     refine tU 14 ?_;refine tU 15 ?_;try simp only[ps]
     refine tL 16 ?_;refine tL 17 ?_;try simp only[ps]
     refine tU 18 ?_;refine tU 19 ?_;try simp only[ps]
     refine tU 20 ?_;refine tU 21 ?_;try simp only[ps]
     refine tL 22 ?_;refine tL 23 ?_;try simp only[ps]
     refine tU 24 ?_;refine tU 25 ?_;try simp only[ps]
     refine tU 26 ?_;refine tU 27 ?_;try simp only[ps]
     refine tU 28 ?_;refine tU 29 ?_;try simp only[ps]
     refine tU 30 ?_;refine tU 31 ?_;try simp only[ps]
     refine tL 32 ?_;refine tL 33 ?_;try simp only[ps]
     refine wpAnyH_done (by kernel_rfl) ?_ _
     have BK:=zh (zB Ap CS);go_wp2;go_ret;exact ⟨by rw[Gz.out,HD2.out];rfl,BK.out⟩
    ·have HD2:Hid (AY (AU s false n) false x v=false):=by show _=_;rw[HD1.out];simp[ho,hf,hl1]
     (have HF:=zh hf;have q1:((v.items.length:Int)==0)=false:=AAc.2 (by omega);clear hf hl1)
     have HC:Hid (∀w',Below w5.heap.size w5 w'->(w'.cell? ⟨bt,9,none⟩=some (.bool true)/\w'.cell? ⟨w.heap.size+1,4,none⟩=some (.int .i64 v.id)/\w'.cell? ⟨w.heap.size+1,6,none⟩=some (.slice A2 v.items.length c2)/\w'.cell? ⟨w.heap.size+1,7,none⟩=some (.slice A3 v.rest.length c3))):=fun w' hb=>by have h:=O5.out w' hb;rw[ho] at h;exact h
     clear ho O5;go_upto_region 34 with fail
     clear b0 b1 b2 b3 b4 b5 b6 b7 b8 b9 v0 v1 v2 v3 v4 v5 v6 v7 x0 HD1;refine zr (Y:=fun w'=>Hid (Below w5.heap.size w5 w')) HC (by kernel_rfl) ?_ (fun AO=>?_)
     ·(try dsimp only);exact ⟨HC.out _ (zC (Pe _ _) 1),zC (Pe _ _) 1⟩
     refine tL 0 ?_;refine tL 1 ?_;try simp only[ps]
     refine tL 2 ?_;refine tL 3 ?_;try simp only[ps]
     refine tL 4 ?_;refine tL 5 ?_;try simp only[ps]
     refine tL 6 ?_;refine tL 7 ?_;try simp only[ps]
     refine tL 8 ?_;refine tR 9 (fun K hK=>?_)
     go_simp
     (refine (XW.out _).mono ?_;rintro e' w7 ⟨rfl,hw7⟩;have CS:Hid (Below w5.heap.size w5 w7):=(by rw[hw7];exact AO.2.out);clear hw7;rw[HF.out])
     refine hK.out _ _ ?_ (fun AO=>?_)
     ·(try dsimp only);exact ⟨HC.out _ CS,CS.out⟩
     clear hK K;try simp only[ps]
     refine tL 10 ?_;refine tL 11 ?_;try simp only[ps]
     refine tL 12 ?_;refine tL 13 ?_;try simp only[ps]
     refine tL 14 ?_;refine tL 15 ?_;try simp only[ps]
     refine tL 16 ?_;refine tL 17 ?_;try simp only[ps]
     refine tU 18 ?_;refine tU 19 ?_;try simp only[ps]
     refine tU 20 ?_;refine tU 21 ?_;try simp only[ps]
     refine tL 22 ?_;refine tL 23 ?_;try simp only[ps]
     refine tU 24 ?_;refine tU 25 ?_;try simp only[ps]
     refine tU 26 ?_;refine tU 27 ?_;try simp only[ps]
     refine tU 28 ?_;refine tU 29 ?_;try simp only[ps]
     refine tU 30 ?_;refine tU 31 ?_;try simp only[ps]
     refine tL 32 ?_;refine tL 33 ?_;try simp only[ps]
     refine wpAnyH_done (by kernel_rfl) ?_ _
     have BK:=zh (zB Ap CS);go_wp2;go_ret;exact ⟨by rw[Gz.out,HD2.out];rfl,BK.out⟩
    ·have HD2:Hid (AY (AU s false n) false x v=false):=by show _=_;rw[HD1.out];simp[ho,hf,hl1,hl2]
     (have HF:=zh hf;have q1:((v.items.length:Int)==0)=true:=ABP.2 (by omega);have q2:((v.rest.length:Int)==1)=false:=AAc.2 (by omega);clear hf hl1 hl2)
     have HC:Hid (∀w',Below w5.heap.size w5 w'->(w'.cell? ⟨bt,9,none⟩=some (.bool true)/\w'.cell? ⟨w.heap.size+1,4,none⟩=some (.int .i64 v.id)/\w'.cell? ⟨w.heap.size+1,6,none⟩=some (.slice A2 v.items.length c2)/\w'.cell? ⟨w.heap.size+1,7,none⟩=some (.slice A3 v.rest.length c3))):=fun w' hb=>by have h:=O5.out w' hb;rw[ho] at h;exact h
     clear ho O5;go_upto_region 34 with fail
     clear b0 b1 b2 b3 b4 b5 b6 b7 b8 b9 v0 v1 v2 v3 v4 v5 v6 v7 x0 HD1;refine zr (Y:=fun w'=>Hid (Below w5.heap.size w5 w')) HC (by kernel_rfl) ?_ (fun AO=>?_)
     ·(try dsimp only);exact ⟨HC.out _ (zC (Pe _ _) 1),zC (Pe _ _) 1⟩
     refine tL 0 ?_;refine tL 1 ?_;try simp only[ps]
     refine tL 2 ?_;refine tL 3 ?_;try simp only[ps]
     refine tL 4 ?_;refine tL 5 ?_;try simp only[ps]
     refine tL 6 ?_;refine tL 7 ?_;try simp only[ps]
     refine tL 8 ?_;refine tR 9 (fun K hK=>?_)
     go_simp
     (refine (XW.out _).mono ?_;rintro e' w7 ⟨rfl,hw7⟩;have CS:Hid (Below w5.heap.size w5 w7):=(by rw[hw7];exact AO.2.out);clear hw7;rw[HF.out])
     refine hK.out _ _ ?_ (fun AO=>?_)
     ·(try dsimp only);exact ⟨HC.out _ CS,CS.out⟩
     clear hK K;try simp only[ps]
     refine tL 10 ?_;refine tL 11 ?_;try simp only[ps]
     refine tL 12 ?_;refine tL 13 ?_;try simp only[ps]
     refine tL 14 ?_;refine tL 15 ?_;try simp only[ps]
     refine tL 16 ?_;refine tL 17 ?_;try simp only[ps]
     refine tL 18 ?_;refine tL 19 ?_;try simp only[ps]
     refine tL 20 ?_;refine tL 21 ?_;try simp only[ps]
     refine tL 22 ?_;refine tL 23 ?_;try simp only[ps]
     refine tU 24 ?_;refine tU 25 ?_;try simp only[ps]
     refine tU 26 ?_;refine tU 27 ?_;try simp only[ps]
     refine tU 28 ?_;refine tU 29 ?_;try simp only[ps]
     refine tU 30 ?_;refine tU 31 ?_;try simp only[ps]
     refine tL 32 ?_;refine tL 33 ?_;try simp only[ps]
     refine wpAnyH_done (by kernel_rfl) ?_ _
     have BK:=zh (zB Ap CS);go_wp2;go_ret;exact ⟨by rw[Gz.out,HD2.out];rfl,BK.out⟩
    ·have hr0:0<v.rest.length:=by omega
     have HD2:Hid (AY (AU s false n) false x v=decide ((v.rest[0]).id=v.id)):=by
      show _=_
      rw[HD1.out];obtain ⟨y,hy⟩:=List.length_eq_one_iff.1 hl2;simp[ho,hf,hl1,hy]
     obtain ⟨rb,ro,hA3,_,a0,a1⟩:=Vp.out.rest.at2 hr0;subst hA3
     have HC:Hid (∀w',Below w5.heap.size w5 w'->(w'.cell? ⟨bt,9,none⟩=some (.bool true)/\w'.cell? ⟨w.heap.size+1,4,none⟩=some (.int .i64 v.id)/\w'.cell? ⟨w.heap.size+1,6,none⟩=some (.slice A2 v.items.length c2)/\w'.cell? ⟨w.heap.size+1,7,none⟩=some (.slice (some ⟨rb,ro,none⟩) v.rest.length c3)/\w'.cell? ⟨rb,ro,none⟩=some (.int .i64 (v.rest[0]).id))):=fun w' hb=>⟨zA hb (by rw[b9,ho]),zA hb v4,zA hb v6,zA hb v7,zA hb (by simpa using a0)⟩
     have HF:=zh hf;have q1:((v.items.length:Int)==0)=true:=ABP.2 (by omega)
     have q2:((v.rest.length:Int)==1)=true:=ABP.2 (by omega)
     have q3:(0:Int)<(v.rest.length:Int):=by omega
     clear hf hl1 hl2 ho a0 a1;go_upto_region 34 with fail
     clear b0 b1 b2 b3 b4 b5 b6 b7 b8 b9 v0 v1 v2 v3 v4 v5 v6 v7 x0 HD1;refine zr (Y:=fun w'=>Hid (Below w5.heap.size w5 w')) HC (by kernel_rfl) ?_ (fun AO=>?_)
     ·(try dsimp only);exact ⟨HC.out _ (zC (Pe _ _) 1),zC (Pe _ _) 1⟩
     refine tL 0 ?_;refine tL 1 ?_;try simp only[ps]
     refine tL 2 ?_;refine tL 3 ?_;try simp only[ps]
     refine tL 4 ?_;refine tL 5 ?_;try simp only[ps]
     refine tL 6 ?_;refine tL 7 ?_;try simp only[ps]
     refine tL 8 ?_;refine tR 9 (fun K hK=>?_)
     go_simp
     (refine (XW.out _).mono ?_;rintro e' w7 ⟨rfl,hw7⟩;have CS:Hid (Below w5.heap.size w5 w7):=(by rw[hw7];exact AO.2.out);clear hw7;rw[HF.out])
     refine hK.out _ _ ?_ (fun AO=>?_)
     ·(try dsimp only);exact ⟨HC.out _ CS,CS.out⟩
     clear hK K;try simp only[ps]
     refine tL 10 ?_;refine tL 11 ?_;try simp only[ps]
     refine tL 12 ?_;refine tL 13 ?_;try simp only[ps]
     refine tL 14 ?_;refine tL 15 ?_;try simp only[ps]
     refine tL 16 ?_;refine tL 17 ?_;try simp only[ps]
     refine tL 18 ?_;refine tL 19 ?_;try simp only[ps]
     refine tL 20 ?_;refine tL 21 ?_;try simp only[ps]
     refine tL 22 ?_;refine tL 23 ?_;try simp only[ps]
     refine tL 24 ?_;refine tL 25 ?_;try simp only[ps]
     refine tL 26 ?_;refine tL 27 ?_;try simp only[ps]
     refine tL 28 ?_;refine tL 29 ?_;try simp only[ps]
     refine tL 30 ?_;refine tL 31 ?_;try simp only[ps]
     refine tL 32 ?_;refine tL 33 ?_;try simp only[ps]
     refine wpAnyH_done (by kernel_rfl) ?_ _
     have BK:=zh (zB Ap CS);clear AO;go_wp2;go_ret;exact ⟨by rw[Gz.out,HD2.out];rfl,BK.out⟩
  ·as_aux_lemma =>
   have HD:Hid (AY (AU s plain n) plain x v=(decide ((v.items.length:Int)<=x.max)&&(v.items.all fun y=>AU s plain n x.elem y))):=by show _=_;unfold AY;rw[Pd (by omega),Pd (by omega),Pd (by omega),Pd (by omega),Pd (by omega),AAG e]
   by_cases hl:(v.items.length:Int)<=x.max
   ·have HD2:Hid (AY (AU s plain n) plain x v=v.items.all fun y=>AU s plain n x.elem y):=by show _=_;rw[HD.out];simp[hl]
    have q1:(v.items.length:Int)<=x.max:=by omega
    clear hl HD;go_wp2_with fail;refine (Jd E5 x.elem v.items A2 c2 w4 (fun y hy=>FR.out y (.inr hy)) M8 HRR.out.items).mono ?_
    rintro e' w5 ⟨rfl,hb5⟩;have Ap:=zh (zB BA hb5);clear hb5;go_wp2;go_ret;exact ⟨by rw[Gz.out,HD2.out];rfl,Ap.out⟩
   ·have HD2:Hid (AY (AU s plain n) plain x v=false):=by show _=_;rw[HD.out];simp[hl]
    have q1:¬ (v.items.length:Int)<=x.max:=by omega
    clear hl HD;go_wp2;go_ret;exact ⟨by rw[Gz.out,HD2.out];rfl,BA.out⟩
  ·as_aux_lemma =>
   have HD:Hid (AY (AU s plain n) plain x v=(decide ((v.keys.length:Int)<=x.max)&&decide (v.items.length=v.keys.length)&&(v.keys.all fun y=>AU s plain n x.key y)&&F8 v.keys&&(v.items.all fun y=>AU s plain n x.elem y))):=by show _=_;unfold AY;rw[Pd (by omega),Pd (by omega),Pd (by omega),Pd (by omega),Pd (by omega),Pd (by omega),AAG e]
   by_cases hl1:(v.keys.length:Int)<=x.max
   case neg =>
    have HD2:Hid (AY (AU s plain n) plain x v=false):=by show _=_;rw[HD.out];simp[hl1]
    have p1:x.max<(v.keys.length:Int):=by omega
    clear hl1 HD;go_wp2;go_ret;exact ⟨by rw[Gz.out,HD2.out];rfl,BA.out⟩
   have p1:¬ x.max<(v.keys.length:Int):=by omega
   by_cases hl2:v.items.length=v.keys.length
   case neg =>
    have HD2:Hid (AY (AU s plain n) plain x v=false):=by show _=_;rw[HD.out];simp[hl2]
    have p2:((v.items.length:Int) != (v.keys.length:Int))=true:=bne_iff_ne.2 (by omega)
    clear hl1 hl2 HD;go_wp2;go_ret;exact ⟨by rw[Gz.out,HD2.out];rfl,BA.out⟩
   have p2:((v.items.length:Int) != (v.keys.length:Int))=false:=by simp[hl2]
   have HL2:=zh hl2;have HD1:Hid (AY (AU s plain n) plain x v=((v.keys.all fun y=>AU s plain n x.key y)&&F8 v.keys&&(v.items.all fun y=>AU s plain n x.elem y))):=by show _=_;rw[HD.out];simp[hl1,hl2]
   have Gh:=zh (Jd E5 x.key v.keys A1 c1 w4 (fun y hy=>FR.out y (.inl hy)) M8 HRR.out.keys)
   clear hl1 hl2 HD;go_wp2_with fail;refine Gh.out.mono ?_;rintro e' w5 ⟨rfl,hb5⟩;have Ap:=zh (zB BA hb5);have ZC:=zh (EL.out.below hb5);have ZA:=zh (zE ZB hb5);have qJ:=zh (zE UN hb5);clear hb5 b0 b1 b2 b3 b4 b5 b6 b7 b8 b9 v0 v1 v2 v3 v4 v5 v6 v7 x0 Gh;obtain ⟨b0,b1,b2,b3,b4,b5,b6,b7,b8,b9⟩:=zG ZC;obtain ⟨v0,v1,v2,v3,v4,v5,v6,v7⟩:=zF ZA
   cases hall:(v.keys.all fun y=>AU s plain n x.key y) with
   | false =>
    have HD2:Hid (AY (AU s plain n) plain x v=false):=by show _=_;rw[HD1.out,hall];rfl
    clear hall HD1;go_wp2;go_ret;exact ⟨by rw[Gz.out,HD2.out];rfl,Ap.out⟩
   | true =>
    have HKEY:=zh (fun y (hy:y∈v.keys)=>RI HV HN fB e n y (AA3.1 hall y hy))
    have HD2:Hid (AY (AU s plain n) plain x v=(F8 v.keys&&(v.items.all fun y=>AU s plain n x.elem y))):=by show _=_;rw[HD1.out,hall];rfl
    have UY:=zh (HR.out.below Ap).keys;have OT:=zh (HS.out.below Ap);have qV:=zh (HR.out.below Ap).items;have hkl:=HR.out.keys.1.lt (by omega)
    clear hall HD1 b0 b1 b2 b3 b4 b5 b6 b7 b8 b9 v0 v1 v2 v3 v4 v6 v7;go_wp2_with fail
    go_loopw [20] (fun i wr=>∃m:Nat,i = .int .i64 ((m:Int)+1)/\Hid ((m+1<=v.keys.length\/m=0)/\(∀j (h:j+1<v.keys.length),j<m->BS v.keys[j] v.keys[j+1]<0)/\Below w5.heap.size w5 wr)) (fun i _=>v.keys.length+1 - (intOf i).toNat)
    case atStart=>exact ⟨0,by rfl,.inr rfl,(fun j _ h=>absurd h (by omega)),Pe _ _⟩
    case round =>
     obtain ⟨m,rfl,hh⟩:=hrel;have HM:=zh hh.out.1;have HAS:=zh hh.out.2.1;have Ej:=zh hh.out.2.2;replace v5:=zA Ej v5;clear hh
     by_cases hlt:m+1<v.keys.length
     ·have hm0:m<v.keys.length:=by omega
      obtain ⟨kb,ko,E1,e1,E2,e2,E3,e3,hkA,hr1,a0,a1,a2,a3,a4,a5,a6,a7⟩:=(UY.out.below Ej).at8 hm0;obtain ⟨kb',ko',G1,g1,G2,g2,G3,g3,hkB,hr2,d0,d1,d2,d3,d4,d5,d6,d7⟩:=(UY.out.below Ej).at8 hlt;rw[hkA] at hkB
      injection hkB with hkB
      injection hkB with zu zq
      subst zu;subst zq;rw[hkA] at v5;have Ro:=zh (HKEY.out _ (AAK hm0));have NW:=zh (HKEY.out _ (AAK hlt))
      have rJ:Hid (∀w',Below wr.heap.size wr w'->(w'.cell? ⟨w.heap.size+1,5,none⟩=some (.slice (some ⟨kb,ko,none⟩) v.keys.length c1)/\w'.cell? ⟨kb,ko+m * 8,none⟩=some (.int .i64 (v.keys[m]).kind)/\w'.cell? ⟨kb,ko+m * 8+1,none⟩=some (.bool (v.keys[m]).bool)/\w'.cell? ⟨kb,ko+m * 8+2,none⟩=some (.int .i64 (v.keys[m]).int)/\w'.cell? ⟨kb,ko+m * 8+3,none⟩=some (.string (v.keys[m]).str)/\w'.cell? ⟨kb,ko+m * 8+4,none⟩=some (.int .i64 (v.keys[m]).id)/\w'.cell? ⟨kb,ko+m * 8+5,none⟩=some (.slice E1 (v.keys[m]).keys.length e1)/\w'.cell? ⟨kb,ko+m * 8+6,none⟩=some (.slice E2 (v.keys[m]).items.length e2)/\w'.cell? ⟨kb,ko+m * 8+7,none⟩=some (.slice E3 (v.keys[m]).rest.length e3)/\w'.cell? ⟨kb,ko+(m+1) * 8,none⟩=some (.int .i64 (v.keys[m+1]).kind)/\w'.cell? ⟨kb,ko+(m+1) * 8+1,none⟩=some (.bool (v.keys[m+1]).bool)/\w'.cell? ⟨kb,ko+(m+1) * 8+2,none⟩=some (.int .i64 (v.keys[m+1]).int)/\w'.cell? ⟨kb,ko+(m+1) * 8+3,none⟩=some (.string (v.keys[m+1]).str)/\w'.cell? ⟨kb,ko+(m+1) * 8+4,none⟩=some (.int .i64 (v.keys[m+1]).id)/\w'.cell? ⟨kb,ko+(m+1) * 8+5,none⟩=some (.slice G1 (v.keys[m+1]).keys.length g1)/\w'.cell? ⟨kb,ko+(m+1) * 8+6,none⟩=some (.slice G2 (v.keys[m+1]).items.length g2)/\w'.cell? ⟨kb,ko+(m+1) * 8+7,none⟩=some (.slice G3 (v.keys[m+1]).rest.length g3))):=fun w' hb=>by
       have h:(wr.cell? ⟨w.heap.size+1,5,none⟩=some (.slice (some ⟨kb,ko,none⟩) v.keys.length c1)/\wr.cell? ⟨kb,ko+m * 8,none⟩=some (.int .i64 (v.keys[m]).kind)/\wr.cell? ⟨kb,ko+m * 8+1,none⟩=some (.bool (v.keys[m]).bool)/\wr.cell? ⟨kb,ko+m * 8+2,none⟩=some (.int .i64 (v.keys[m]).int)/\wr.cell? ⟨kb,ko+m * 8+3,none⟩=some (.string (v.keys[m]).str)/\wr.cell? ⟨kb,ko+m * 8+4,none⟩=some (.int .i64 (v.keys[m]).id)/\wr.cell? ⟨kb,ko+m * 8+5,none⟩=some (.slice E1 (v.keys[m]).keys.length e1)/\wr.cell? ⟨kb,ko+m * 8+6,none⟩=some (.slice E2 (v.keys[m]).items.length e2)/\wr.cell? ⟨kb,ko+m * 8+7,none⟩=some (.slice E3 (v.keys[m]).rest.length e3)/\wr.cell? ⟨kb,ko+(m+1) * 8,none⟩=some (.int .i64 (v.keys[m+1]).kind)/\wr.cell? ⟨kb,ko+(m+1) * 8+1,none⟩=some (.bool (v.keys[m+1]).bool)/\wr.cell? ⟨kb,ko+(m+1) * 8+2,none⟩=some (.int .i64 (v.keys[m+1]).int)/\wr.cell? ⟨kb,ko+(m+1) * 8+3,none⟩=some (.string (v.keys[m+1]).str)/\wr.cell? ⟨kb,ko+(m+1) * 8+4,none⟩=some (.int .i64 (v.keys[m+1]).id)/\wr.cell? ⟨kb,ko+(m+1) * 8+5,none⟩=some (.slice G1 (v.keys[m+1]).keys.length g1)/\wr.cell? ⟨kb,ko+(m+1) * 8+6,none⟩=some (.slice G2 (v.keys[m+1]).items.length g2)/\wr.cell? ⟨kb,ko+(m+1) * 8+7,none⟩=some (.slice G3 (v.keys[m+1]).rest.length g3)):=⟨v5,a0,a1,a2,a3,a4,a5,a6,a7,d0,d1,d2,d3,d4,d5,d6,d7⟩
       exact ⟨zA hb h.1,zA hb h.2.1,zA hb h.2.2.1,zA hb h.2.2.2.1,zA hb h.2.2.2.2.1,zA hb h.2.2.2.2.2.1,zA hb h.2.2.2.2.2.2.1,zA hb h.2.2.2.2.2.2.2.1,zA hb h.2.2.2.2.2.2.2.2.1,zA hb h.2.2.2.2.2.2.2.2.2.1,zA hb h.2.2.2.2.2.2.2.2.2.2.1,zA hb h.2.2.2.2.2.2.2.2.2.2.2.1,zA hb h.2.2.2.2.2.2.2.2.2.2.2.2.1,zA hb h.2.2.2.2.2.2.2.2.2.2.2.2.2.1,zA hb h.2.2.2.2.2.2.2.2.2.2.2.2.2.2.1,zA hb h.2.2.2.2.2.2.2.2.2.2.2.2.2.2.2.1,zA hb h.2.2.2.2.2.2.2.2.2.2.2.2.2.2.2.2⟩
      have rH:=zh (fun w=>RP v.keys[m] v.keys[m+1] (Ro.out.2.1.trans NW.out.2.1.symm) Ro.out.1 (fun h2=>⟨Ro.out.2.2 h2,NW.out.2.2 (by rw[NW.out.2.1,<-Ro.out.2.1];exact h2)⟩) (by have:=hr1.str;have:=hr2.str;unfold Db at *;omega) E1 e1 E2 e2 E3 e3 G1 g1 G2 g2 G3 g3 w)
      have j1:(0:Int)<=(m:Int):=by omega
      have j2:(m:Int)+1<(v.keys.length:Int):=by omega
      have j3:(m:Int)<(v.keys.length:Int):=by omega
      have j4:(0:Int)<=(m:Int)+1:=by omega
      have jw:IntKind.i64.wrap (m:Int)=(m:Int):=by rw[IntKind.wrap_i64];omega
      clear a0 a1 a2 a3 a4 a5 a6 a7 d0 d1 d2 d3 d4 d5 d6 d7 hr1 hr2;go_upto_region 43 with fail
      clear v5;refine zr (Y:=fun w'=>Hid (Below wr.heap.size wr w')) rJ (by kernel_rfl) ?_ (fun AO=>?_)
      ·(try dsimp only);exact ⟨rJ.out _ (zC (Pe _ _) 1),zC (Pe _ _) 1⟩
      refine tL 0 ?_;refine tL 1 ?_;try simp only[ps]
      refine tL 2 ?_;refine tL 3 ?_;try simp only[ps]
      refine tL 4 ?_;refine tL 5 ?_;try simp only[ps]
      refine tL 6 ?_;refine tL 7 ?_;try simp only[ps]
      refine tL 8 ?_;refine tL 9 ?_;try simp only[ps]
      refine tL 10 ?_;refine tR 11 (fun K hK=>?_)
      go_simp
      (refine (rH.out _).mono ?_;rintro e' w6 ⟨rfl,hb6⟩;have BN:=zh (zB AO.2.out hb6);clear hb6)
      refine hK.out _ _ ?_ (fun AO=>?_)
      ·(try dsimp only);exact ⟨rJ.out _ BN,BN.out⟩
      clear hK K;try simp only[ps]
      refine tL 12 ?_;refine wpAnyH_done (by kernel_rfl) ?_ _
      clear AO;have CS:=zh (zB Ej BN)
      by_cases hge:BS v.keys[m] v.keys[m+1]<0
      ·have qh:Hid (∀j (h:j+1<v.keys.length),j<m+1->BS v.keys[j] v.keys[j+1]<0):=fun j h hj=>by
        by_cases ej:j=m
        ·subst ej;exact hge
        ·exact HAS.out j h (by omega)
       have q1:¬ 0<=BS v.keys[m] v.keys[m+1]:=by omega
       clear hge;go_wp2;go_roundw
       case rel=>exact ⟨m+1,by go_num,.inl (by omega),qh.out,CS.out⟩
       case measure=>simp[intOf];omega
      ·have HD3:Hid (AY (AU s plain n) plain x v=false):=by show _=_;rw[HD2.out,RX _ m hlt hge];rfl
       have q1:0<=BS v.keys[m] v.keys[m+1]:=by omega
       clear hge;go_wp2;go_ret;exact ⟨by rw[Gz.out,HD3.out];rfl,zB Ap CS⟩
     ·have HD3:Hid (AY (AU s plain n) plain x v=v.items.all fun y=>AU s plain n x.elem y):=by show _=_;rw[HD2.out,NP _ fun j h=>HAS.out j h (by omega)];rfl
      have Cy:=zh (zB Ap Ej);have vN:=zh (ZC.out.below Ej);have qG:=zh (zE ZA Ej);have vO:=zh (zE qJ Ej);have Gh:=zh (Jd E5 x.elem v.items A2 c2 wr (fun y hy=>FR.out y (.inr hy)) (OT.out.below Ej) (qV.out.below Ej))
      obtain ⟨b0,b1,b2,b3,b4,b5,b6,b7,b8,b9⟩:=zG vN;obtain ⟨u0,u1,u2,u3,u4,u5,u6,u7⟩:=zF qG;have x0:=zb vO;have q1:¬ (m:Int)+1<(v.keys.length:Int):=by omega
      clear v5;go_wp2_with fail;refine Gh.out.mono ?_;rintro e' w6 ⟨rfl,hb6⟩;have BN:=zh (zB Cy hb6);clear hb6;go_wp2;go_ret;exact ⟨by rw[Gz.out,HD3.out];rfl,BN.out⟩
  ·as_aux_lemma =>
   have HD:Hid (AY (AU s plain n) plain x v=(decide (v.items.length<=1)&&(v.items.all fun y=>AU s plain n x.elem y))):=by show _=_;unfold AY;rw[Pd (by omega),Pd (by omega),Pd (by omega),Pd (by omega),Pd (by omega),Pd (by omega),Pd (by omega),AAG e]
   by_cases hl:v.items.length<=1
   ·have HD2:Hid (AY (AU s plain n) plain x v=v.items.all fun y=>AU s plain n x.elem y):=by show _=_;rw[HD.out];simp[hl]
    have q1:(v.items.length:Int)<=1:=by omega
    clear hl HD;go_wp2_with fail;refine (Jd E5 x.elem v.items A2 c2 w4 (fun y hy=>FR.out y (.inr hy)) M8 HRR.out.items).mono ?_
    rintro e' w5 ⟨rfl,hb5⟩;have Ap:=zh (zB BA hb5);clear hb5;go_wp2;go_ret;exact ⟨by rw[Gz.out,HD2.out];rfl,Ap.out⟩
   ·have HD2:Hid (AY (AU s plain n) plain x v=false):=by show _=_;rw[HD.out];simp[hl]
    have q1:¬ (v.items.length:Int)<=1:=by omega
    clear hl HD;go_wp2;go_ret;exact ⟨by rw[Gz.out,HD2.out];rfl,BA.out⟩
end Go.Proofs.YthkkllmmbefedaaGreatDoor



