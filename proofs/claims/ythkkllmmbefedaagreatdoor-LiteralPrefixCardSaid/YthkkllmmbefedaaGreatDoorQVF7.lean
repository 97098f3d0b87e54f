/-
  Walks: fits.
-/
import Derived.Test.YthkkllmmbefedaaGreatDoorQGA9
namespace Go.Proofs.YthkkllmmbefedaaGreatDoor
open Go.RowKit Tryz
set_option maxHeartbeats 16000000
set_option maxRecDepth 100000
theorem dD {s:List Aa} {A:zo} {c:Nat} {plain:Bool} {n:Nat} (hv:zQ s=0) (qg:DW s) (ih:Qf s A c plain n):Qf s A c plain (n+1):=by
 intro t v A1 c1 A2 c2 A3 c3 w hsz hs hr
 have hln:=hs.1.lt (by omega)
 have Ed:=zh ih;have HV:=zh hv;have HN:=zh qg;have E5:Hid (∀y,y∈v.keys\/y∈v.items->SizeOf.sizeOf y<=n):=fun y hy=>by have:=PX v y hy;omega
 obtain ⟨HB0,UE,fI⟩:=zy w (.cells #[.slice A s.length c] 31) (v.box A1 c1 A2 c2 A3 c3);have HS:=zh hs;have HR:=zh hr;clear ih hv qg hs hr
 by_cases hr0:t<0
 ·have HF:Hid (Ad s plain (n+1) t v=false):=by show _=_;unfold Ad;rw[AAB (.inl hr0)]
  go_enter func65,ntmps65
  go_wp2
  go_ret
  exact ⟨by rw[HF.O];rfl,HB0.O⟩
 by_cases hr1:(s.length:Int)<=t
 ·have HF:Hid (Ad s plain (n+1) t v=false):=by show _=_;unfold Ad;rw[AAB (.inr hr1)]
  go_enter func65,ntmps65
  go_wp2
  go_ret
  exact ⟨by rw[HF.O];rfl,HB0.O⟩
 obtain ⟨tn,rfl⟩:=AAh (show 0<=t by omega)
 have htn:tn<s.length:=by omega
 obtain ⟨b,o,As,cs,Am,cm,rfl,htr,t0,t1,t2,t3,t4,t5,t6,t7,t8,t9⟩:=(HS.O.below HB0).J3 htn;have eX:=zh (Fh (t:=(tn:Int)) HV (by omega))
 have HXM:=zh (AAL htn);rw[zT htn] at eX;have fe:Hid (Ad s plain (n+1) (tn:Int) v=if v.kind≠(s[tn]).kind\/zJ v=false then false else Ak (Ad s plain n) plain s[tn] v):=by
  show _=_
  rw[Ad,Pd (by omega),zT htn]
 generalize s[tn]=x at *;have h1:(0:Int)<=(tn:Int):=by omega
 have h2:(tn:Int)<(s.length:Int):=by omega
 have Ie:=zh htr;clear htr
 go_enter func65,ntmps65
 go_upto_region 3 with fail
 have AB9:Hid (Below w.heap.size w ((w.alloc (.cells #[.slice (some ⟨b,o,none⟩) s.length c] 31)).alloc (v.box A1 c1 A2 c2 A3 c3))):=HB0.O;clear HB0;generalize (w.alloc (.cells #[.slice (some ⟨b,o,none⟩) s.length c] 31)).alloc (v.box A1 c1 A2 c2 A3 c3)=W2 at *;have HB3:=zh (zB AB9 (zD W2 (x.box As cs Am cm)))
 have HXT:Hid (Ca (W2.alloc (x.box As cs Am cm)) W2.heap.size x As cs Am cm):=AAA W2 _;have xK:=zh (zE fI (zD W2 (x.box As cs Am cm)));have WL:=zh (zE UE (zD W2 (x.box As cs Am cm)));have ABd:=zh (Ie.O.below (zD W2 (x.box As cs Am cm)));have x0:=zb UE;have l0:=zL x0;simp only at l0;go_upto_region 4 with fail
 clear t0 t1 t2 t3 t4 t5 t6 t7 t8 t9 x0 l0 fI UE AB9;generalize W2.alloc (x.box As cs Am cm)=W3 at *;generalize W2.heap.size=bt at *;obtain ⟨b0,b1,b2,b3,b4,b5,b6,b7,b8,b9⟩:=zG HXT;obtain ⟨v0,v1,v2,v3,v4,v5,v6,v7⟩:=zF xK
 by_cases hk:v.kind=x.kind
 case neg =>
  have HF:Hid (Ad s plain (n+1) (tn:Int) v=false):=by show _=_;rw[fe.O,AAB (.inl hk)]
  have q1:(v.kind != x.kind)=true:=by simp[hk]
  clear hk;go_wp2;go_ret;exact ⟨by rw[HF.O];rfl,HB3.O⟩
 have q1:(v.kind != x.kind)=false:=by simp[hk]
 have HK:=zh hk;clear hk;go_wp2_with fail;refine (Xd v (by rw[HK.O];exact eX.O) A1 c1 A2 c2 A3 c3 W3).mono ?_
 rintro e w4 ⟨rfl,hb4⟩;have ED:=zh (zB HB3 hb4);have dz:=zh (HXT.O.below hb4);have dw:=zh (zE xK hb4);have Qa:=zh (zE WL hb4);have Qb:=zh (ABd.O.below hb4);clear hb4 b0 b1 b2 b3 b4 b5 b6 b7 b8 b9 v0 v1 v2 v3 v4 v5 v6 v7 HB3 HXT xK WL ABd q1;obtain ⟨b0,b1,b2,b3,b4,b5,b6,b7,b8,b9⟩:=zG dz;obtain ⟨v0,v1,v2,v3,v4,v5,v6,v7⟩:=zF dw;have x0:=zb Qa
 cases hp:zJ v with
 | false =>
  have HF:Hid (Ad s plain (n+1) (tn:Int) v=false):=by show _=_;rw[fe.O,AAB (.inr hp)]
  clear hp;go_wp2;go_ret;exact ⟨by rw[HF.O];rfl,ED.O⟩
 | true =>
  have GH:Hid (Ad s plain (n+1) (tn:Int) v=Ak (Ad s plain n) plain x v):=by show _=_;rw[fe.O,Pd (by rw[hp];simp[HK.O])]
  have hkx:x.kind=1\/x.kind=2\/x.kind=3\/x.kind=4\/x.kind=5\/x.kind=6\/x.kind=7\/x.kind=8\/x.kind=9:=by have:=eX.O;omega
  clear hp fe;have Zv:=zh (HS.O.below ED);have HRR:=zh (HR.O.below ED);go_upto_region 7 with fail
  rcases hkx with e|e|e|e|e|e|e|e|e
  ·as_aux_lemma =>
   have HD:Hid (Ak (Ad s plain n) plain x v=true):=by show _=_;unfold Ak;simp[e]
   go_wp2
   go_ret
   exact ⟨by rw[GH.O,HD.O];rfl,ED.O⟩
  ·as_aux_lemma =>
   have HD:Hid (Ak (Ad s plain n) plain x v=(decide (x.low<=v.int)&&decide (v.int<=x.high))):=by show _=_;unfold Ak;rw[AAB e]
   by_cases hl:x.low<=v.int
   ·have HD2:Hid (Ak (Ad s plain n) plain x v=decide (v.int<=x.high)):=by show _=_;rw[HD.O];simp[hl]
    have q1:x.low<=v.int:=hl;clear hl;go_wp2;go_ret;exact ⟨by rw[GH.O,HD2.O];rfl,ED.O⟩
   ·have HD2:Hid (Ak (Ad s plain n) plain x v=false):=by show _=_;rw[HD.O];simp[hl]
    have q1:¬ x.low<=v.int:=hl;clear hl;go_wp2;go_ret;exact ⟨by rw[GH.O,HD2.O];rfl,ED.O⟩
  ·as_aux_lemma =>
   have HD:Hid (Ak (Ad s plain n) plain x v=decide ((v.str.size:Int)<=x.max)):=by show _=_;unfold Ak;rw[Pd (by omega),AAB e]
   go_wp2
   go_ret
   exact ⟨by rw[GH.O,HD.O];rfl,ED.O⟩
  ·as_aux_lemma =>
   have HD:Hid (Ak (Ad s plain n) plain x v=((x.AX.any fun y=>decide (y.id=v.id))||(x.open_ && !plain&&BD v.id))):=by show _=_;unfold Ak;rw[Pd (by omega),Pd (by omega),AAB e]
   obtain ⟨an,han⟩:∃an,(x.AX.any fun y=>decide (y.id=v.id))=an:=⟨_,rfl⟩
   have hcall:=XL v.id x As cs Am cm w4 Qb;rw[han] at hcall HD;have PU:=zh hcall;have p2:(x.kind==2)=false:=by simp[e]
   have p3:(x.kind==3)=false:=by simp[e]
   have p4:(x.kind==4)=true:=by simp[e]
   clear hcall han e;go_wp2_with fail;refine PU.O.mono ?_;rintro e' w5 ⟨r,rfl,hb5⟩;have Aq:=zh (zB ED hb5);have dx:=zh (dz.O.below hb5);have dm:=zh (zE dw hb5);clear hb5 b0 b1 b2 b3 b4 b5 b6 b7 b8 b9 v0 v1 v2 v3 v4 v5 v6 v7 x0;obtain ⟨b0,b1,b2,b3,b4,b5,b6,b7,b8,b9⟩:=zG dx;obtain ⟨v0,v1,v2,v3,v4,v5,v6,v7⟩:=zF dm
   cases an with
   | true =>
    have HD2:Hid (Ak (Ad s plain n) plain x v=true):=by show _=_;rw[HD.O];rfl
    go_wp2
    go_ret
    exact ⟨by rw[GH.O,HD2.O];rfl,Aq.O⟩
   | false =>
    cases ho:x.open_ with
    | false =>
     have HD2:Hid (Ak (Ad s plain n) plain x v=false):=by show _=_;rw[HD.O,ho];rfl
     go_wp2
     go_ret
     exact ⟨by rw[GH.O,HD2.O];rfl,Aq.O⟩
    | true =>
     cases hpl:plain with
     | true =>
      have HD2:Hid (Ak (Ad s plain n) plain x v=false):=by show _=_;rw[HD.O,ho,hpl];rfl
      clear HD Ed;go_wp2;go_ret;exact ⟨by rw[GH.O,HD2.O];rfl,Aq.O⟩
     | false =>
      have HD2:Hid (Ak (Ad s plain n) plain x v=BD v.id):=by show _=_;rw[HD.O,ho,hpl];rfl
      clear HD Ed;go_wp2_with fail;refine (Ju v.id _).mono ?_;rintro e' w6 ⟨rfl,rfl⟩;go_wp2;go_ret;exact ⟨by rw[GH.O,HD2.O];rfl,Aq.O⟩
  ·as_aux_lemma =>
   have HD:Hid (Ak (Ad s plain n) plain x v=(decide (v.items.length=x.AA.length) && !(plain&&decide (0<v.rest.length))&&Dk x v.rest&&((x.AA.zip v.items).all fun p=>Ad s plain n p.1.type p.2))):=by show _=_;unfold Ak;rw[Pd (by omega),Pd (by omega),Pd (by omega),AAB e]
   have p2:(x.kind==2)=false:=by simp[e]
   have p3:(x.kind==3)=false:=by simp[e]
   have p4:(x.kind==4)=false:=by simp[e]
   have p5:(x.kind==5)=true:=by simp[e]
   clear e;have wF:=HRR.O.items.1.lt (by omega)
   have hlr:=HRR.O.rest.1.lt (by omega)
   by_cases hl1:v.items.length=x.AA.length
   case neg =>
    have HD2:Hid (Ak (Ad s plain n) plain x v=false):=by show _=_;rw[HD.O];simp[hl1]
    have q1:((v.items.length:Int) != (x.AA.length:Int))=true:=bne_iff_ne.2 (by omega)
    clear hl1 HD;go_wp2;go_ret;exact ⟨by rw[GH.O,HD2.O];rfl,ED.O⟩
   have q1:((v.items.length:Int) != (x.AA.length:Int))=false:=by simp[hl1]
   have HL:=zh hl1;have HC:(plain=true/\0<v.rest.length)\/(plain=true/\v.rest.length=0)\/plain=false:=by
    cases plain
    ·exact .inr (.inr rfl)
    ·rcases Nat.eq_zero_or_pos v.rest.length with h|h
     ·exact .inr (.inl ⟨rfl,h⟩)
     ·exact .inl ⟨rfl,h⟩
   rcases HC with ⟨rfl,hr⟩|⟨rfl,hr⟩|rfl
   ·have HD2:Hid (Ak (Ad s true n) true x v=false):=by show _=_;rw[HD.O];simp[hr]
    have q2:(0:Int)<(v.rest.length:Int):=by omega
    clear hl1 HD hr;go_wp2;go_ret;exact ⟨by rw[GH.O,HD2.O];rfl,ED.O⟩
   ·have HD1:Hid (Ak (Ad s true n) true x v=(Dk x v.rest&&((x.AA.zip v.items).all fun p=>Ad s true n p.1.type p.2))):=by
     show _=_
     rw[HD.O,AAJ hl1]
     first|rfl|(rw[AAP (p:=0<v.rest.length) (by omega)];rfl)
    have q2:true=true->¬ (0:Int)<(v.rest.length:Int):=fun h=>by first|exact absurd h (by decide)|omega
    replace q2:=q2
    first|replace q2:=q2 rfl|clear q2
    have Ob:=zh hr;clear hl1 HD hr;go_wp2_with fail
    first|clear q2|skip
    go_loopw [113] (fun i wr=>∃k:Nat,k<=v.rest.length/\i = .int .i64 (k:Int)/\Hid ((∀j (h:j<v.rest.length),j<k->K7 x v.rest[j]=true)/\(∀j (h:j+1<v.rest.length),j+1<k->(v.rest[j]).id<(v.rest[j+1]).id)/\Below w4.heap.size w4 wr)) (fun i _=>v.rest.length - (intOf i).toNat)
    case atStart=>exact ⟨0,by omega,rfl,(fun j _ h=>absurd h (by omega)),(fun j _ h=>absurd h (by omega)),Pe _ _⟩
    case round =>
     obtain ⟨k,hk,rfl,hh⟩:=hrel;have PI:=zh hh.O.1;have HAS:=zh hh.O.2.1;have Ko:=zh hh.O.2.2;clear hh b0 b1 b2 b3 b4 b5 b6 b7 b8 b9 v0 v1 v2 v3 v4 v5 v6 v7 x0;have WK:=zh (dz.O.below Ko);have YR:=zh (zE dw Ko);have rX:=zh (zE Qa Ko);have eF:=zh (Qb.O.below Ko);have mq:=zh (HRR.O.below Ko)
     by_cases hlt:k<v.rest.length
     ·exact absurd hlt (by have:=Ob.O;omega)
     ·have HD2:Hid (Ak (Ad s true n) true x v=(x.AA.zip v.items).all fun p=>Ad s true n p.1.type p.2):=by
       show _=_
       rw[HD1.O,Pw x _ (fun j h=>PI.O j h (by omega)) (fun j h=>HAS.O j h (by omega))];rfl
      have Aq:=zh (zB ED Ko);have YS:=zh (Zv.O.below Ko);obtain ⟨b0,b1,b2,b3,b4,b5,b6,b7,b8,b9⟩:=zG WK;obtain ⟨v0,v1,v2,v3,v4,v5,v6,v7⟩:=zF YR;have hlm:=eF.O.AA.1.lt (by omega)
      go_wp2_with fail
      obtain ⟨wk,rfl⟩:∃wk:World,wk=wr:=⟨_,rfl⟩
      go_loopw [152] (fun i wr=>∃j:Nat,j<=x.AA.length/\i = .int .i64 (j:Int)/\Hid ((∀q (h:q<x.AA.length) (h':q<v.items.length),q<j->Ad s true n (x.AA[q]).type v.items[q]=true)/\Below wk.heap.size wk wr)) (fun i _=>x.AA.length - (intOf i).toNat)
      case atStart=>exact ⟨0,by omega,rfl,(fun j _ _ h=>absurd h (by omega)),Pe _ _⟩
      case round =>
       obtain ⟨j,hj,rfl,hh⟩:=hrel;obtain ⟨wq,rfl⟩:∃w':World,w'=wr:=⟨_,rfl⟩;have fe:=zh hh.O.1;have Wd:=zh hh.O.2;clear hh b0 b1 b2 b3 b4 b5 b6 b7 b8 b9 v0 v1 v2 v3 v4 v5 v6 v7
       by_cases hjt:j<x.AA.length
       ·have hji:j<v.items.length:=by rw[HL.O];exact hjt
        obtain ⟨mb,mo,M1,m1,M2,m2,M3,m3,ql,_,a0,a1,a2,a3,a4,a5,a6,a7,a8,a9,dY,dX,a12⟩:=(eF.O.AA.below Wd).Mk hjt;subst ql;have h1:(0:Int)<=(j:Int):=by omega
        have h2:(j:Int)<(x.AA.length:Int):=by omega
        have h3:(j:Int)<(v.items.length:Int):=by omega
        obtain ⟨b0,b1,b2,b3,b4,b5,b6,b7,b8,b9⟩:=zG (WK.O.below Wd);have Km:=zh (zD wq (Ac.box x.AA[j] M1 m1 M2 m2 M3 m3));have fV:Hid ((wq.alloc (Ac.box x.AA[j] M1 m1 M2 m2 M3 m3)).heap[wq.heap.size]? = some (Ac.box x.AA[j] M1 m1 M2 m2 M3 m3)):=AAA wq _;have JX:=zh (zB Wd Km);have xI:=zh (zE YR JX);have xL:=zh (zE rX JX)
        have xU:=zh (YS.O.below JX);have xW:=zh (mq.O.below JX);clear hk;go_upto_region 27 with fail
        clear b0 b1 b2 b3 b4 b5 b6 b7 b8 b9 a0 a1 a2 a3 a4 a5 a6 a7 a8 a9 dY dX a12 Km;generalize wq.alloc (Ac.box x.AA[j] M1 m1 M2 m2 M3 m3)=wz at *;generalize wq.heap.size=mbx at *;obtain ⟨ib,io,I1,i1,I2,i2,I3,i3,hAi,HI,c0,c1',c2',c3',c4,c5,c6,c7⟩:=xW.O.items.at8 hji;subst hAi;have HIz:=zh HI;clear HI
        have YX:Hid (∀w',Below wz.heap.size wz w'->(w'.cell? ⟨w.heap.size,0,none⟩=some (.slice (some ⟨b,o,none⟩) s.length c)/\w'.cell? ⟨mbx,2,none⟩=some (.int .i64 (x.AA[j]).type)/\w'.cell? ⟨w.heap.size+1,6,none⟩=some (.slice (some ⟨ib,io,none⟩) v.items.length c2)/\w'.cell? ⟨ib,io+j * 8,none⟩=some (.int .i64 (v.items[j]).kind)/\w'.cell? ⟨ib,io+j * 8+1,none⟩=some (.bool (v.items[j]).bool)/\w'.cell? ⟨ib,io+j * 8+2,none⟩=some (.int .i64 (v.items[j]).int)/\w'.cell? ⟨ib,io+j * 8+3,none⟩=some (.string (v.items[j]).str)/\w'.cell? ⟨ib,io+j * 8+4,none⟩=some (.int .i64 (v.items[j]).id)/\w'.cell? ⟨ib,io+j * 8+5,none⟩=some (.slice I1 (v.items[j]).keys.length i1)/\w'.cell? ⟨ib,io+j * 8+6,none⟩=some (.slice I2 (v.items[j]).items.length i2)/\w'.cell? ⟨ib,io+j * 8+7,none⟩=some (.slice I3 (v.items[j]).rest.length i3))):=fun w' hb =>
         ⟨zA hb (by rw[AAC _ _ _ _ _ _ xL.O];rfl),zA hb (by rw[AAC _ _ _ _ _ _ fV.O];rfl),zA hb (zF xI).2.2.2.2.2.2.1,zA hb c0,zA hb c1',zA hb c2',zA hb c3',zA hb c4,zA hb c5,zA hb c6,zA hb c7⟩
        clear c0 c1' c2' c3' c4 c5 c6 c7;refine zr (Y:=fun w'=>Hid (Below wz.heap.size wz w')) YX (by kernel_rfl) ?_ (fun AQ=>?_)
        ·(try dsimp only);exact ⟨YX.O _ (zC (Pe _ _) 1),zC (Pe _ _) 1⟩
        refine tL 0 ?_;refine tL 1 ?_;try simp only[ps]
        refine tL 2 ?_;refine tL 3 ?_;try simp only[ps]
        refine tL 4 ?_;refine tL 5 ?_;try simp only[ps]
        refine tL 6 ?_;refine tL 7 ?_;try simp only[ps]
        refine tL 8 ?_;refine tR 9 (fun K hK=>?_)
        go_simp
        (refine (Ed.O _ v.items[j] I1 i1 I2 i2 I3 i3 _ (E5.O _ (.inr (AAL hji))) (xU.O.below AQ.2.O) (HIz.O.below AQ.2.O)).mono ?_;rintro e' w7 ⟨rfl,Gj⟩;have Bv:=zh (zB AQ.2.O Gj);clear Gj)
        refine hK.out _ _ ?_ (fun AQ=>?_)
        ·(try dsimp only);exact ⟨YX.O _ Bv,Bv.O⟩
        clear hK K;try simp only[ps]
        refine tL 10 ?_;refine wpAnyH_done (by kernel_rfl) ?_ _
        clear AQ;have BF:=zh (zB JX Bv)
        cases hf:Ad s true n (x.AA[j]).type v.items[j] with
        | false =>
         have PK:Hid (Ad s true (n+1) (tn:Int) v=false):=by
          show _=_
          rw[GH.O,HD2.O,PV _ _ _ j hjt hji hf]
         have Ij:=zh (zB Aq BF);clear hf;go_wp2;go_ret;exact ⟨by rw[PK.O];rfl,Ij.O⟩
        | true =>
         have yV:Hid (∀q (h:q<x.AA.length) (h':q<v.items.length),q<j+1->Ad s true n (x.AA[q]).type v.items[q]=true):=fun q h h' hq=>by
          by_cases ej:q=j
          ·subst ej;exact hf
          ·exact fe.O q h h' (by omega)
         clear hf;go_wp2;go_roundw
         case rel=>exact ⟨j+1,by omega,by go_num,yV.O,BF.O⟩
         case measure=>simp[intOf];omega
       ·have PK:Hid (Ad s true (n+1) (tn:Int) v=true):=by
         show _=_
         rw[GH.O,HD2.O,PW _ _ _ fun q h h'=>fe.O q h h' (by omega)]
        have Ij:=zh (zB Aq Wd);go_wp2;go_ret;exact ⟨by rw[PK.O];rfl,Ij.O⟩
   ·have HD1:Hid (Ak (Ad s false n) false x v=(Dk x v.rest&&((x.AA.zip v.items).all fun p=>Ad s false n p.1.type p.2))):=by
     show _=_
     rw[HD.O,AAJ hl1]
     first|rfl|(rw[AAP (p:=0<v.rest.length) (by omega)];rfl)
    have q2:false=true->¬ (0:Int)<(v.rest.length:Int):=fun h=>by first|exact absurd h (by decide)|omega
    replace q2:=q2
    first|replace q2:=q2 rfl|clear q2
    clear hl1 HD;go_wp2_with fail
    first|clear q2|skip
    go_loopw [113] (fun i wr=>∃k:Nat,k<=v.rest.length/\i = .int .i64 (k:Int)/\Hid ((∀j (h:j<v.rest.length),j<k->K7 x v.rest[j]=true)/\(∀j (h:j+1<v.rest.length),j+1<k->(v.rest[j]).id<(v.rest[j+1]).id)/\Below w4.heap.size w4 wr)) (fun i _=>v.rest.length - (intOf i).toNat)
    case atStart=>exact ⟨0,by omega,rfl,(fun j _ h=>absurd h (by omega)),(fun j _ h=>absurd h (by omega)),Pe _ _⟩
    case round =>
     obtain ⟨k,hk,rfl,hh⟩:=hrel;have PI:=zh hh.O.1;have HAS:=zh hh.O.2.1;have Ko:=zh hh.O.2.2;clear hh b0 b1 b2 b3 b4 b5 b6 b7 b8 b9 v0 v1 v2 v3 v4 v5 v6 v7 x0;have WK:=zh (dz.O.below Ko);have YR:=zh (zE dw Ko);have rX:=zh (zE Qa Ko);have eF:=zh (Qb.O.below Ko);have mq:=zh (HRR.O.below Ko)
     by_cases hlt:k<v.rest.length
     ·obtain ⟨rb,ro,hA3,_,a0,a1⟩:=mq.O.rest.at2 hlt
      subst hA3;have h1:(0:Int)<=(k:Int):=by omega
      have h2:(k:Int)<(v.rest.length:Int):=by omega
      have HA:=zh a0;obtain ⟨b0,b1,b2,b3,b4,b5,b6,b7,b8,b9⟩:=zG WK;obtain ⟨v0,v1,v2,v3,v4,v5,v6,v7⟩:=zF YR;have Km:=zh (zD wr (Af.box v.rest[k]));have fQ:Hid ((wr.alloc (Af.box v.rest[k])).heap[wr.heap.size]? = some (Af.box v.rest[k])):=AAA wr _;obtain ⟨an,han⟩:∃an,(x.AA.any fun y=>decide (y.id=(v.rest[k]).id))=an:=⟨_,rfl⟩
      have hcall:=LH (v.rest[k]).id x As cs Am cm (wr.alloc (Af.box v.rest[k])) (eF.O.below Km);rw[han] at hcall;have PU:=zh hcall;have SE:=zh han;have ADo:=zh (WK.O.below Km);clear hcall han;go_upto_region 20 with fail
      clear b0 b1 b2 b3 b4 b5 b6 b7 b8 b9 v0 v1 v2 v3 v4 v5 v6 v7;generalize wr.alloc (Af.box v.rest[k])=wz at *;obtain ⟨b0,b1,b2,b3,b4,b5,b6,b7,b8,b9⟩:=zG ADo;have r0:wz.cell? ⟨wr.heap.size,0,none⟩=some (.int .i64 (v.rest[k]).id):=by rw[AAC _ _ _ _ _ _ fQ.O];rfl
      go_wp2_with fail
      refine PU.O.mono ?_;rintro e' w6 ⟨r,rfl,_,hb6⟩;have BH:=zh (zB (zB Ko Km) hb6);have ABS:=zh ((WK.O.below Km).below hb6);have xJ:=zh (zE (zE YR Km) hb6);have ABU:=zh (zE (zE rX Km) hb6);have ADy:=zh (zE fQ hb6);have ADx:=zh ((mq.O.below Km).below hb6);generalize wr.heap.size=rbx at *
      clear hb6 b0 b1 b2 b3 b4 b5 b6 b7 b8 b9 r0 a0 a1 PU;have v7:w6.cell? ⟨w.heap.size+1,7,none⟩=some (.slice (some ⟨rb,ro,none⟩) v.rest.length c3):=(zF xJ).2.2.2.2.2.2.2;have r0:w6.cell? ⟨rbx,0,none⟩=some (.int .i64 (v.rest[k]).id):=by rw[AAC _ _ _ _ _ _ ADy.O];rfl
      have WZ:Hid (∀w',Below w6.heap.size w6 w'->w'.cell? ⟨rbx,0,none⟩=some (.int .i64 (v.rest[k]).id)):=fun w' hb=>zA hb r0
      cases an with
      | true =>
       have PK:Hid (Ad s false (n+1) (tn:Int) v=false):=by
        show _=_
        rw[GH.O,HD1.O,Pv x _ k hlt (by unfold K7;rw[SE.O];rfl)];rfl
       clear r0 v7;go_upto_region 21 with fail
       refine zr (Y:=fun w'=>Hid (Below w6.heap.size w6 w')) WZ (by kernel_rfl) ?_ (fun AQ=>?_)
       ·(try dsimp only);exact ⟨WZ.O _ (zC (Pe _ _) 1),zC (Pe _ _) 1⟩
       refine tL 0 ?_;try simp only[ps]
       refine tL 1 ?_;refine tU 2 ?_;try simp only[ps]
       refine tU 3 ?_;refine tU 4 ?_;try simp only[ps]
       refine tU 5 ?_;refine tL 6 ?_;try simp only[ps]
       refine tL 7 ?_;refine tU 8 ?_;try simp only[ps]
       refine tU 9 ?_;refine tU 10 ?_;try simp only[ps]
       refine tU 11 ?_;refine tU 12 ?_;try simp only[ps]
       refine tU 13 ?_;refine tU 14 ?_;try simp only[ps]
       refine tU 15 ?_;refine tU 16 ?_;try simp only[ps]
       refine tU 17 ?_;refine tU 18 ?_;try simp only[ps]
       refine tU 19 ?_;refine tU 20 ?_;try simp only[ps]
       refine tU 21 ?_;refine tL 22 ?_;try simp only[ps]
       refine wpAnyH_done (by kernel_rfl) ?_ _
       have Bv:=zh (zC (zB ED BH) 1);go_wp2;go_ret;exact ⟨by rw[PK.O];rfl,Bv.O⟩
      | false =>
       cases hfr:BD (v.rest[k]).id with
       | false =>
        have PK:Hid (Ad s false (n+1) (tn:Int) v=false):=by
         show _=_
         rw[GH.O,HD1.O,Pv x _ k hlt (by unfold K7;rw[hfr,Bool.and_false])];rfl
        have PL:=zh hfr;clear r0 v7 hfr;go_upto_region 21 with fail
        refine zr (Y:=fun w'=>Hid (Below w6.heap.size w6 w')) WZ (by kernel_rfl) ?_ (fun AQ=>?_)
        ·(try dsimp only);exact ⟨WZ.O _ (zC (Pe _ _) 1),zC (Pe _ _) 1⟩
        refine tL 0 ?_;refine tL 1 ?_;try simp only[ps]
        refine tL 2 ?_;refine tL 3 ?_;try simp only[ps]
        refine tR 4 (fun K hK=>?_)
        go_simp
        (refine (Ju _ _).mono ?_;rintro e' w7 ⟨rfl,hw7⟩;have Bv:Hid (Below w6.heap.size w6 w7):=(by rw[hw7];exact AQ.2.O);clear hw7;rw[PL.O])
        refine hK.out _ _ ?_ (fun AQ=>?_)
        ·(try dsimp only);exact ⟨WZ.O _ Bv,Bv.O⟩
        clear hK K;refine tL 5 ?_;try simp only[ps]
        refine tL 6 ?_;refine tL 7 ?_;try simp only[ps]
        refine tU 8 ?_;refine tU 9 ?_;try simp only[ps]
        refine tU 10 ?_;refine tU 11 ?_;try simp only[ps]
        refine tU 12 ?_;refine tU 13 ?_;try simp only[ps]
        refine tU 14 ?_;refine tU 15 ?_;try simp only[ps]
        refine tU 16 ?_;refine tU 17 ?_;try simp only[ps]
        refine tU 18 ?_;refine tU 19 ?_;try simp only[ps]
        refine tU 20 ?_;refine tU 21 ?_;try simp only[ps]
        refine tL 22 ?_;refine wpAnyH_done (by kernel_rfl) ?_ _
        have BF:=zh (zB (zB ED BH) Bv);go_wp2;go_ret;exact ⟨by rw[PK.O];rfl,BF.O⟩
       | true =>
        have ABn:Hid (∀j (h:j<v.rest.length),j<k+1->K7 x v.rest[j]=true):=fun j h hj=>by
         by_cases ej:j=k
         ·subst ej;unfold K7;rw[SE.O,hfr];rfl
         ·exact PI.O j h (by omega)
        have PL:=zh hfr;clear hfr
        by_cases hk0:k=0
        ·subst hk0
         clear r0 v7;go_upto_region 21 with fail
         refine wp_region_held_drew (S:=(fun w'=>w'.cell? ⟨rbx,0,none⟩=some (.int .i64 (v.rest[0]).id)/\Hid (Below w6.heap.size w6 w'))) (by kernel_rfl) ?_ (fun AQ=>?_)
         ·(try dsimp only);exact ⟨WZ.O _ (zC (Pe _ _) 1),zC (Pe _ _) 1⟩
         refine tL 0 ?_;try simp only[ps]
         refine tL 1 ?_;refine tL 2 ?_;try simp only[ps]
         refine tL 3 ?_;refine tR 4 (fun K hK=>?_)
         go_simp
         (refine (Ju _ _).mono ?_;rintro e' w7 ⟨rfl,hw7⟩;have Bv:Hid (Below w6.heap.size w6 w7):=(by rw[hw7];exact AQ.2.O);clear hw7;rw[PL.O])
         refine hK.out _ _ ?_ (fun AQ=>?_)
         ·(try dsimp only);exact ⟨WZ.O _ Bv,Bv.O⟩
         clear hK K;try simp only[ps]
         refine tL 5 ?_;refine tL 6 ?_;try simp only[ps]
         refine tL 7 ?_;refine tL 8 ?_;try simp only[ps]
         refine tL 9 ?_;refine tL 10 ?_;try simp only[ps]
         refine tU 11 ?_;refine tU 12 ?_;try simp only[ps]
         refine tU 13 ?_;refine tU 14 ?_;try simp only[ps]
         refine tU 15 ?_;refine tU 16 ?_;try simp only[ps]
         refine tU 17 ?_;refine tU 18 ?_;try simp only[ps]
         refine tU 19 ?_;refine tU 20 ?_;try simp only[ps]
         refine tL 21 ?_;refine tL 22 ?_;try simp only[ps]
         refine wpAnyH_done (by kernel_rfl) ?_ _
         have BF:=zh (zB BH Bv);go_wp2;go_roundw
         case rel=>exact ⟨1,by omega,by go_num,ABn.O,(fun j _ h=>absurd h (by omega)),BF.O⟩
         case measure=>simp[intOf];omega
        ·obtain ⟨m,rfl⟩:∃m,k=m+1:=⟨k - 1,by omega⟩
         have hm:m<v.rest.length:=by omega
         obtain ⟨rb',ro',hE,_,d0,d1⟩:=ADx.O.rest.at2 hm
         injection hE with hE
         injection hE with hE1 hE2
         subst hE1;subst hE2;have HC2:Hid (∀w',Below w6.heap.size w6 w'->(w'.cell? ⟨rbx,0,none⟩=some (.int .i64 (v.rest[m+1]).id)/\w'.cell? ⟨w.heap.size+1,7,none⟩=some (.slice (some ⟨rb,ro,none⟩) v.rest.length c3)/\w'.cell? ⟨rb,ro+m * 2,none⟩=some (.int .i64 (v.rest[m]).id))):=fun w' hb=>⟨zA hb r0,zA hb v7,zA hb d0⟩
         have j1:(0:Int)<=(m:Int):=by omega
         have j2:(m:Int)+1<(v.rest.length:Int):=by omega
         have j3:(m:Int)<(v.rest.length:Int):=by omega
         have j4:(0:Int)<=(m:Int)+1:=by omega
         have j5:(0:Int)<(m:Int)+1:=by omega
         have jw:IntKind.i64.wrap (m:Int)=(m:Int):=by rw[IntKind.wrap_i64];omega
         clear r0 v7 d0 d1;go_upto_region 21 with fail
         refine zr (Y:=fun w'=>Hid (Below w6.heap.size w6 w')) HC2 (by kernel_rfl) ?_ (fun AQ=>?_)
         ·(try dsimp only);exact ⟨HC2.O _ (zC (Pe _ _) 1),zC (Pe _ _) 1⟩
         refine tL 0 ?_;refine tL 1 ?_;try simp only[ps]
         refine tL 2 ?_;refine tL 3 ?_;try simp only[ps]
         refine tR 4 (fun K hK=>?_)
         go_simp
         (refine (Ju _ _).mono ?_;rintro e' w7 ⟨rfl,hw7⟩;have Bv:Hid (Below w6.heap.size w6 w7):=(by rw[hw7];exact AQ.2.O);clear hw7;rw[PL.O])
         refine hK.out _ _ ?_ (fun AQ=>?_)
         ·(try dsimp only);exact ⟨HC2.O _ Bv,Bv.O⟩
         clear hK K;refine tL 5 ?_;try simp only[ps]
         refine tL 6 ?_;refine tL 7 ?_;try simp only[ps]
         refine tL 8 ?_;refine tL 9 ?_;try simp only[ps]
         refine tL 10 ?_;refine tL 11 ?_;try simp only[ps]
         refine tL 12 ?_;refine tL 13 ?_;try simp only[ps]
         refine tL 14 ?_;refine tL 15 ?_;try simp only[ps]
         refine tL 16 ?_;refine tL 17 ?_;try simp only[ps]
         refine tL 18 ?_;refine tL 19 ?_;try simp only[ps]
         refine tL 20 ?_;refine tL 21 ?_;try simp only[ps]
         refine tL 22 ?_;refine wpAnyH_done (by kernel_rfl) ?_ _
         clear AQ;have BF:=zh (zB BH Bv)
         by_cases hge:(v.rest[m+1]).id<=(v.rest[m]).id
         ·have PK:Hid (Ad s false (n+1) (tn:Int) v=false):=by
           show _=_
           rw[GH.O,HD1.O,RO x _ m hlt (by omega)];rfl
          have Ij:=zh (zB ED BF);go_wp2;go_ret;exact ⟨by rw[PK.O];rfl,Ij.O⟩
         ·have AEf:Hid (∀j (h:j+1<v.rest.length),j+1<m+1+1->(v.rest[j]).id<(v.rest[j+1]).id):=fun j h hj=>by
           by_cases ej:j=m
           ·subst ej;omega
           ·exact HAS.O j h (by omega)
          go_wp2
          go_roundw
          case rel=>exact ⟨m+1+1,by omega,by go_num,ABn.O,AEf.O,BF.O⟩
          case measure=>simp[intOf];omega
     ·have HD2:Hid (Ak (Ad s false n) false x v=(x.AA.zip v.items).all fun p=>Ad s false n p.1.type p.2):=by
       show _=_
       rw[HD1.O,Pw x _ (fun j h=>PI.O j h (by omega)) (fun j h=>HAS.O j h (by omega))];rfl
      have Aq:=zh (zB ED Ko);have YS:=zh (Zv.O.below Ko);obtain ⟨b0,b1,b2,b3,b4,b5,b6,b7,b8,b9⟩:=zG WK;obtain ⟨v0,v1,v2,v3,v4,v5,v6,v7⟩:=zF YR;have hlm:=eF.O.AA.1.lt (by omega)
      go_wp2_with fail
      obtain ⟨wk,rfl⟩:∃wk:World,wk=wr:=⟨_,rfl⟩
      go_loopw [152] (fun i wr=>∃j:Nat,j<=x.AA.length/\i = .int .i64 (j:Int)/\Hid ((∀q (h:q<x.AA.length) (h':q<v.items.length),q<j->Ad s false n (x.AA[q]).type v.items[q]=true)/\Below wk.heap.size wk wr)) (fun i _=>x.AA.length - (intOf i).toNat)
      case atStart=>exact ⟨0,by omega,rfl,(fun j _ _ h=>absurd h (by omega)),Pe _ _⟩
      case round =>
       obtain ⟨j,hj,rfl,hh⟩:=hrel;obtain ⟨wq,rfl⟩:∃w':World,w'=wr:=⟨_,rfl⟩;have fe:=zh hh.O.1;have Wd:=zh hh.O.2;clear hh b0 b1 b2 b3 b4 b5 b6 b7 b8 b9 v0 v1 v2 v3 v4 v5 v6 v7
       by_cases hjt:j<x.AA.length
       ·have hji:j<v.items.length:=by rw[HL.O];exact hjt
        obtain ⟨mb,mo,M1,m1,M2,m2,M3,m3,ql,_,a0,a1,a2,a3,a4,a5,a6,a7,a8,a9,dY,dX,a12⟩:=(eF.O.AA.below Wd).Mk hjt;subst ql;have h1:(0:Int)<=(j:Int):=by omega
        have h2:(j:Int)<(x.AA.length:Int):=by omega
        have h3:(j:Int)<(v.items.length:Int):=by omega
        obtain ⟨b0,b1,b2,b3,b4,b5,b6,b7,b8,b9⟩:=zG (WK.O.below Wd);have Km:=zh (zD wq (Ac.box x.AA[j] M1 m1 M2 m2 M3 m3));have fV:Hid ((wq.alloc (Ac.box x.AA[j] M1 m1 M2 m2 M3 m3)).heap[wq.heap.size]? = some (Ac.box x.AA[j] M1 m1 M2 m2 M3 m3)):=AAA wq _;have JX:=zh (zB Wd Km);have xI:=zh (zE YR JX);have xL:=zh (zE rX JX)
        have xU:=zh (YS.O.below JX);have xW:=zh (mq.O.below JX);clear hk;go_upto_region 27 with fail
        clear b0 b1 b2 b3 b4 b5 b6 b7 b8 b9 a0 a1 a2 a3 a4 a5 a6 a7 a8 a9 dY dX a12 Km;generalize wq.alloc (Ac.box x.AA[j] M1 m1 M2 m2 M3 m3)=wz at *;generalize wq.heap.size=mbx at *;obtain ⟨ib,io,I1,i1,I2,i2,I3,i3,hAi,HI,c0,c1',c2',c3',c4,c5,c6,c7⟩:=xW.O.items.at8 hji;subst hAi;have HIz:=zh HI;clear HI
        have YX:Hid (∀w',Below wz.heap.size wz w'->(w'.cell? ⟨w.heap.size,0,none⟩=some (.slice (some ⟨b,o,none⟩) s.length c)/\w'.cell? ⟨mbx,2,none⟩=some (.int .i64 (x.AA[j]).type)/\w'.cell? ⟨w.heap.size+1,6,none⟩=some (.slice (some ⟨ib,io,none⟩) v.items.length c2)/\w'.cell? ⟨ib,io+j * 8,none⟩=some (.int .i64 (v.items[j]).kind)/\w'.cell? ⟨ib,io+j * 8+1,none⟩=some (.bool (v.items[j]).bool)/\w'.cell? ⟨ib,io+j * 8+2,none⟩=some (.int .i64 (v.items[j]).int)/\w'.cell? ⟨ib,io+j * 8+3,none⟩=some (.string (v.items[j]).str)/\w'.cell? ⟨ib,io+j * 8+4,none⟩=some (.int .i64 (v.items[j]).id)/\w'.cell? ⟨ib,io+j * 8+5,none⟩=some (.slice I1 (v.items[j]).keys.length i1)/\w'.cell? ⟨ib,io+j * 8+6,none⟩=some (.slice I2 (v.items[j]).items.length i2)/\w'.cell? ⟨ib,io+j * 8+7,none⟩=some (.slice I3 (v.items[j]).rest.length i3))):=fun w' hb =>
         ⟨zA hb (by rw[AAC _ _ _ _ _ _ xL.O];rfl),zA hb (by rw[AAC _ _ _ _ _ _ fV.O];rfl),zA hb (zF xI).2.2.2.2.2.2.1,zA hb c0,zA hb c1',zA hb c2',zA hb c3',zA hb c4,zA hb c5,zA hb c6,zA hb c7⟩
        clear c0 c1' c2' c3' c4 c5 c6 c7;refine zr (Y:=fun w'=>Hid (Below wz.heap.size wz w')) YX (by kernel_rfl) ?_ (fun AQ=>?_)
        ·(try dsimp only);exact ⟨YX.O _ (zC (Pe _ _) 1),zC (Pe _ _) 1⟩
        refine tL 0 ?_;try simp only[ps]
        refine tL 1 ?_;refine tL 2 ?_;try simp only[ps]
        refine tL 3 ?_;refine tL 4 ?_;try simp only[ps]
        refine tL 5 ?_;refine tL 6 ?_;try simp only[ps]
        refine tL 7 ?_;refine tL 8 ?_;try simp only[ps]
        refine tR 9 (fun K hK=>?_)
        go_simp
        (refine (Ed.O _ v.items[j] I1 i1 I2 i2 I3 i3 _ (E5.O _ (.inr (AAL hji))) (xU.O.below AQ.2.O) (HIz.O.below AQ.2.O)).mono ?_;rintro e' w7 ⟨rfl,Gj⟩;have Bv:=zh (zB AQ.2.O Gj);clear Gj)
        refine hK.out _ _ ?_ (fun AQ=>?_)
        ·(try dsimp only);exact ⟨YX.O _ Bv,Bv.O⟩
        clear hK K;refine tL 10 ?_;try simp only[ps]
        refine wpAnyH_done (by kernel_rfl) ?_ _
        clear AQ;have BF:=zh (zB JX Bv)
        cases hf:Ad s false n (x.AA[j]).type v.items[j] with
        | false =>
         have PK:Hid (Ad s false (n+1) (tn:Int) v=false):=by
          show _=_
          rw[GH.O,HD2.O,PV _ _ _ j hjt hji hf]
         have Ij:=zh (zB Aq BF);clear hf;go_wp2;go_ret;exact ⟨by rw[PK.O];rfl,Ij.O⟩
        | true =>
         have yV:Hid (∀q (h:q<x.AA.length) (h':q<v.items.length),q<j+1->Ad s false n (x.AA[q]).type v.items[q]=true):=fun q h h' hq=>by
          by_cases ej:q=j
          ·subst ej;exact hf
          ·exact fe.O q h h' (by omega)
         clear hf;go_wp2;go_roundw
         case rel=>exact ⟨j+1,by omega,by go_num,yV.O,BF.O⟩
         case measure=>simp[intOf];omega
       ·have PK:Hid (Ad s false (n+1) (tn:Int) v=true):=by
         show _=_
         rw[GH.O,HD2.O,PW _ _ _ fun q h h'=>fe.O q h h' (by omega)]
        have Ij:=zh (zB Aq Wd);go_wp2;go_ret;exact ⟨by rw[PK.O];rfl,Ij.O⟩
  ·as_aux_lemma =>
   have HD:Hid (Ak (Ad s plain n) plain x v=(match x.AA.find? fun m=>decide (m.id=v.id) with
    | some m=>decide (v.items.length=1)&&decide (v.rest.length=0)&&(v.items.all fun y=>Ad s plain n m.type y)
    | none=>x.open_ && !plain&&BD v.id&&decide (v.items.length=0)&&decide (v.rest.length=1)&&(v.rest.all fun r=>decide (r.id=v.id)))):=by show _=_;unfold Ak;rw[Pd (by omega),Pd (by omega),Pd (by omega),Pd (by omega),AAB e];rfl
   have p2:(x.kind==2)=false:=by simp[e]
   have p3:(x.kind==3)=false:=by simp[e]
   have p4:(x.kind==4)=false:=by simp[e]
   have p5:(x.kind==5)=false:=by simp[e]
   have p6:(x.kind==6)=true:=by simp[e]
   clear e;have wF:=HRR.O.items.1.lt (by omega)
   have hlr:=HRR.O.rest.1.lt (by omega)
   obtain ⟨an,han⟩:∃an,(x.AA.any fun y=>decide (y.id=v.id))=an:=⟨_,rfl⟩
   have hcall:=LH v.id x As cs Am cm w4 Qb;rw[han] at hcall;have PU:=zh hcall;have SE:=zh han;clear hcall han;go_wp2_with fail;refine PU.O.mono ?_;rintro e' w5 ⟨r,rfl,hr,hb5⟩;have HRX:=zh hr;have Aq:=zh (zB ED hb5);have dx:=zh (dz.O.below hb5);have dm:=zh (zE dw hb5);have xM:=zh (zE Qa hb5);have eG:=zh (Qb.O.below hb5)
   have YS:=zh (Zv.O.below hb5);have ABl:=zh (HRR.O.below hb5);clear hb5 hr b0 b1 b2 b3 b4 b5 b6 b7 b8 b9 v0 v1 v2 v3 v4 v5 v6 v7 x0 PU;obtain ⟨b0,b1,b2,b3,b4,b5,b6,b7,b8,b9⟩:=zG dx;obtain ⟨v0,v1,v2,v3,v4,v5,v6,v7⟩:=zF dm;have x0:=zb xM
   cases an with
   | true =>
    obtain ⟨k,hk,hi,hfi⟩:=Jw x.AA SE;obtain rfl:r=(k:Int):=(HRX.O rfl).trans hi;have HD1:Hid (Ak (Ad s plain n) plain x v=(decide (v.items.length=1)&&decide (v.rest.length=0)&&(v.items.all fun y=>Ad s plain n (x.AA[k]).type y))):=by show _=_;rw[HD.O,hfi]
    clear hi hfi HRX HD;have hlm:=eG.O.AA.1.lt (by omega)
    obtain ⟨mb,mo,M1,m1,M2,m2,M3,m3,ql,_,a0,a1,a2,a3,a4,a5,a6,a7,a8,a9,dY,dX,a12⟩:=eG.O.AA.Mk hk;subst ql;have HCM:Hid (w5.cell? ⟨mb,mo+k * 13+2,none⟩=some (.int .i64 (x.AA[k]).type)):=a2;have h1:(0:Int)<=(k:Int):=by omega
    have h2:(k:Int)<(x.AA.length:Int):=by omega
    clear a0 a1 a2 a3 a4 a5 a6 a7 a8 a9 dY dX a12
    by_cases hl1:v.items.length=1
    case neg =>
     have HD2:Hid (Ak (Ad s plain n) plain x v=false):=by show _=_;rw[HD1.O];simp[hl1]
     have q1:((v.items.length:Int)==1)=false:=ABs.2 (by omega)
     have WY:Hid (∀w',Below w5.heap.size w5 w'->w'.cell? ⟨w.heap.size+1,6,none⟩=some (.slice A2 v.items.length c2)):=fun w' hb=>zA hb v6
     clear hl1 HD1;go_upto_region 33 with fail
     clear b0 b1 b2 b3 b4 b5 b6 b7 b8 b9 v0 v1 v2 v3 v4 v5 v6 v7 x0;refine zr (Y:=fun w'=>Hid (Below w5.heap.size w5 w')) WY (by kernel_rfl) ?_ (fun AQ=>?_)
     ·(try dsimp only);exact ⟨WY.O _ (zC (Pe _ _) 1),zC (Pe _ _) 1⟩
     refine tL 0 ?_;refine tL 1 ?_;try simp only[ps]
     refine tL 2 ?_;refine tL 3 ?_;try simp only[ps]
     refine tL 4 ?_;refine tU 5 ?_;try simp only[ps]
     refine tU 6 ?_;refine tU 7 ?_;try simp only[ps]
     refine tU 8 ?_;refine tL 9 ?_;try simp only[ps]
     refine tL 10 ?_;refine tU 11 ?_;try simp only[ps]
     refine tU 12 ?_;refine tU 13 ?_;try simp only[ps]
     refine tU 14 ?_;refine tU 15 ?_;try simp only[ps]
     refine tU 16 ?_;refine tU 17 ?_;try simp only[ps]
     refine tU 18 ?_;refine tU 19 ?_;try simp only[ps]
     refine tU 20 ?_;refine tU 21 ?_;try simp only[ps]
     refine tU 22 ?_;refine tU 23 ?_;try simp only[ps]
     refine tL 24 ?_;refine tL 25 ?_;try simp only[ps]
     refine wpAnyH_done (by kernel_rfl) ?_ _
     have BH:=zh (zC Aq 1);go_wp2;go_ret;exact ⟨by rw[GH.O,HD2.O];rfl,BH.O⟩
    have q1:((v.items.length:Int)==1)=true:=by simp[hl1]
    by_cases hl2:v.rest.length=0
    case neg =>
     have HD2:Hid (Ak (Ad s plain n) plain x v=false):=by show _=_;rw[HD1.O];simp[hl1,hl2]
     have q2:((v.rest.length:Int)==0)=false:=ABs.2 (by omega)
     have WY:Hid (∀w',Below w5.heap.size w5 w'->w'.cell? ⟨w.heap.size+1,6,none⟩=some (.slice A2 v.items.length c2)/\w'.cell? ⟨w.heap.size+1,7,none⟩=some (.slice A3 v.rest.length c3)):=fun w' hb=>⟨zA hb v6,zA hb v7⟩
     clear hl1 hl2 HD1;go_upto_region 33 with fail
     clear b0 b1 b2 b3 b4 b5 b6 b7 b8 b9 v0 v1 v2 v3 v4 v5 v6 v7 x0;refine wp_region_held_drew (S:=(fun w'=>(w'.cell? ⟨w.heap.size+1,6,none⟩=some (.slice A2 v.items.length c2)/\w'.cell? ⟨w.heap.size+1,7,none⟩=some (.slice A3 v.rest.length c3))/\Hid (Below w5.heap.size w5 w'))) (by kernel_rfl) ?_ (fun AQ=>?_)
     ·(try dsimp only);exact ⟨WY.O _ (zC (Pe _ _) 1),zC (Pe _ _) 1⟩
     refine tL 0 ?_;refine tL 1 ?_;try simp only[ps]
     refine tL 2 ?_;refine tL 3 ?_;try simp only[ps]
     refine tL 4 ?_;refine tL 5 ?_;try simp only[ps]
     refine tL 6 ?_;refine tL 7 ?_;try simp only[ps]
     refine tL 8 ?_;refine tL 9 ?_;try simp only[ps]
     refine tL 10 ?_;refine tU 11 ?_;try simp only[ps]
     refine tU 12 ?_;refine tU 13 ?_;try simp only[ps]
     refine tU 14 ?_;refine tU 15 ?_;try simp only[ps]
     refine tU 16 ?_;refine tU 17 ?_;try simp only[ps]
     refine tU 18 ?_;refine tU 19 ?_;try simp only[ps]
     refine tU 20 ?_;refine tU 21 ?_;try simp only[ps]
     refine tU 22 ?_;refine tU 23 ?_;try simp only[ps]
     refine tL 24 ?_;refine tL 25 ?_;try simp only[ps]
     refine wpAnyH_done (by kernel_rfl) ?_ _
     have BH:=zh (zC Aq 1);go_wp2;go_ret;exact ⟨by rw[GH.O,HD2.O];rfl,BH.O⟩
    have q2:((v.rest.length:Int)==0)=true:=by simp[hl2]
    have hi0:0<v.items.length:=by omega
    have HD2:Hid (Ak (Ad s plain n) plain x v=Ad s plain n (x.AA[k]).type v.items[0]):=by
     show _=_
     rw[HD1.O];obtain ⟨y,hy⟩:=List.length_eq_one_iff.1 hl1;simp[hl2,hy]
    obtain ⟨ib,io,I1,i1,I2,i2,I3,i3,hAi,HI,e0,e1,e2,e3,e4,e5,e6,e7⟩:=ABl.O.items.at8 hi0;subst hAi;have HIz:=zh HI;have HSI:=zh (E5.O _ (.inr (AAL hi0)));have q3:(0:Int)<(v.items.length:Int):=by omega
    have WY:Hid (∀w',Below w5.heap.size w5 w'->(w'.cell? ⟨w.heap.size,0,none⟩=some (.slice (some ⟨b,o,none⟩) s.length c)/\w'.cell? ⟨bt,6,none⟩=some (.slice (some ⟨mb,mo,none⟩) x.AA.length cm)/\w'.cell? ⟨mb,mo+k * 13+2,none⟩=some (.int .i64 (x.AA[k]).type)/\w'.cell? ⟨w.heap.size+1,6,none⟩=some (.slice (some ⟨ib,io,none⟩) v.items.length c2)/\w'.cell? ⟨w.heap.size+1,7,none⟩=some (.slice A3 v.rest.length c3)/\w'.cell? ⟨ib,io,none⟩=some (.int .i64 (v.items[0]).kind)/\w'.cell? ⟨ib,io+1,none⟩=some (.bool (v.items[0]).bool)/\w'.cell? ⟨ib,io+2,none⟩=some (.int .i64 (v.items[0]).int)/\w'.cell? ⟨ib,io+3,none⟩=some (.string (v.items[0]).str)/\w'.cell? ⟨ib,io+4,none⟩=some (.int .i64 (v.items[0]).id)/\w'.cell? ⟨ib,io+5,none⟩=some (.slice I1 (v.items[0]).keys.length i1)/\w'.cell? ⟨ib,io+6,none⟩=some (.slice I2 (v.items[0]).items.length i2)/\w'.cell? ⟨ib,io+7,none⟩=some (.slice I3 (v.items[0]).rest.length i3))):=fun w' hb =>
     ⟨zA hb x0,zA hb b6,zA hb HCM,zA hb v6,zA hb v7,zA hb (by simpa using e0),zA hb (by simpa using e1),zA hb (by simpa using e2),zA hb (by simpa using e3),zA hb (by simpa using e4),zA hb (by simpa using e5),zA hb (by simpa using e6),zA hb (by simpa using e7)⟩
    clear hl1 hl2 HD1 HI e0 e1 e2 e3 e4 e5 e6 e7;go_upto_region 33 with fail
    clear b0 b1 b2 b3 b4 b5 b6 b7 b8 b9 v0 v1 v2 v3 v4 v5 v6 v7 x0;refine zr (Y:=fun w'=>Hid (Below w5.heap.size w5 w')) WY (by kernel_rfl) ?_ (fun AQ=>?_)
    ·(try dsimp only);exact ⟨WY.O _ (zC (Pe _ _) 1),zC (Pe _ _) 1⟩
    refine tL 0 ?_;refine tL 1 ?_;try simp only[ps]
    refine tL 2 ?_;refine tL 3 ?_;try simp only[ps]
    refine tL 4 ?_;refine tL 5 ?_;try simp only[ps]
    refine tL 6 ?_;refine tL 7 ?_;try simp only[ps]
    refine tL 8 ?_;refine tL 9 ?_;try simp only[ps]
    refine tL 10 ?_;refine tL 11 ?_;try simp only[ps]
    refine tL 12 ?_;refine tL 13 ?_;try simp only[ps]
    refine tL 14 ?_;refine tL 15 ?_;try simp only[ps]
    refine tL 16 ?_;refine tL 17 ?_;try simp only[ps]
    refine tL 18 ?_;refine tL 19 ?_;try simp only[ps]
    refine tL 20 ?_;refine tL 21 ?_;try simp only[ps]
    refine tL 22 ?_;refine tR 23 (fun K hK=>?_)
    go_simp
    (refine (Ed.O _ v.items[0] I1 i1 I2 i2 I3 i3 _ HSI (YS.O.below AQ.2.O) (HIz.O.below AQ.2.O)).mono ?_;rintro e' w7 ⟨rfl,Gj⟩;have Bv:=zh (zB AQ.2.O Gj);clear Gj)
    refine hK.out _ _ ?_ (fun AQ=>?_)
    ·(try dsimp only);exact ⟨WY.O _ Bv,Bv.O⟩
    clear hK K;try simp only[ps]
    refine tL 24 ?_;refine tL 25 ?_;try simp only[ps]
    refine wpAnyH_done (by kernel_rfl) ?_ _
    have BH:=zh (zB Aq Bv);clear AQ;go_wp2;go_ret;exact ⟨by rw[GH.O,HD2.O];rfl,BH.O⟩
   | false =>
    have HD1:Hid (Ak (Ad s plain n) plain x v=(x.open_ && !plain&&BD v.id&&decide (v.items.length=0)&&decide (v.rest.length=1)&&(v.rest.all fun r=>decide (r.id=v.id)))):=by show _=_;rw[HD.O,O8 _ SE.O]
    have M5:Hid (∀w',Below w5.heap.size w5 w'->(w'.cell? ⟨bt,9,none⟩=some (.bool x.open_)/\w'.cell? ⟨w.heap.size+1,4,none⟩=some (.int .i64 v.id)/\w'.cell? ⟨w.heap.size+1,6,none⟩=some (.slice A2 v.items.length c2)/\w'.cell? ⟨w.heap.size+1,7,none⟩=some (.slice A3 v.rest.length c3))):=fun w' hb=>⟨zA hb b9,zA hb v4,zA hb v6,zA hb v7⟩
    clear HRX HD;have eu:(x.open_=false)\/(x.open_=true/\plain=true)\/(x.open_=true/\plain=false/\BD v.id=false)\/(x.open_=true/\plain=false/\BD v.id=true/\v.items.length≠0)\/(x.open_=true/\plain=false/\BD v.id=true/\v.items.length=0/\v.rest.length≠1)\/(x.open_=true/\plain=false/\BD v.id=true/\v.items.length=0/\v.rest.length=1):=by
     cases x.open_ with
     | false=>exact .inl rfl
     | true =>
      cases plain with
      | true=>exact .inr (.inl ⟨rfl,rfl⟩)
      | false =>
       cases BD v.id with
       | false=>exact .inr (.inr (.inl ⟨rfl,rfl,rfl⟩))
       | true =>
        by_cases h1:v.items.length=0
        ·by_cases h2:v.rest.length=1
         ·exact .inr (.inr (.inr (.inr (.inr ⟨rfl,rfl,rfl,h1,h2⟩))))
         ·exact .inr (.inr (.inr (.inr (.inl ⟨rfl,rfl,rfl,h1,h2⟩))))
        ·exact .inr (.inr (.inr (.inl ⟨rfl,rfl,rfl,h1⟩)))
    have Z6:=zh (fun w:World=>Ju v.id w)
    rcases eu with ho|⟨ho,rfl⟩|⟨ho,rfl,hf⟩|⟨ho,rfl,hf,hl1⟩|⟨ho,rfl,hf,hl1,hl2⟩|⟨ho,rfl,hf,hl1,hl2⟩
    ·have HD2:Hid (Ak (Ad s plain n) plain x v=false):=by show _=_;rw[HD1.O];simp[ho]
     skip
     have HC:Hid (∀w',Below w5.heap.size w5 w'->(w'.cell? ⟨bt,9,none⟩=some (.bool false)/\w'.cell? ⟨w.heap.size+1,4,none⟩=some (.int .i64 v.id)/\w'.cell? ⟨w.heap.size+1,6,none⟩=some (.slice A2 v.items.length c2)/\w'.cell? ⟨w.heap.size+1,7,none⟩=some (.slice A3 v.rest.length c3))):=fun w' hb=>by have h:=M5.O w' hb;rw[ho] at h;exact h
     clear ho M5;go_upto_region 34 with fail
     clear b0 b1 b2 b3 b4 b5 b6 b7 b8 b9 v0 v1 v2 v3 v4 v5 v6 v7 x0 HD1;refine zr (Y:=fun w'=>Hid (Below w5.heap.size w5 w')) HC (by kernel_rfl) ?_ (fun AQ=>?_)
     ·(try dsimp only);exact ⟨HC.O _ (zC (Pe _ _) 1),zC (Pe _ _) 1⟩
     refine tL 0 ?_;refine tL 1 ?_;try simp only[ps]
     refine tL 2 ?_;refine tU 3 ?_;try simp only[ps]
     refine tU 4 ?_;refine tL 5 ?_;try simp only[ps]
     refine tL 6 ?_;refine tU 7 ?_;try simp only[ps]
     refine tU 8 ?_;refine tU 9 ?_;try simp only[ps]
     refine tL 10 ?_;refine tL 11 ?_;try simp only[ps]
     refine tU 12 ?_;refine tU 13 ?_;try simp only[ps]
     refine tU 14 ?_;refine tU 15 ?_;try simp only[ps]
     refine tL 16 ?_;refine tL 17 ?_;try simp only[ps]
     refine tU 18 ?_;refine tU 19 ?_;try simp only[ps]
     refine tU 20 ?_;refine tU 21 ?_;try simp only[ps]
     refine tL 22 ?_;refine tL 23 ?_;try simp only[ps]
     refine tU 24 ?_;refine tU 25 ?_;try simp only[ps]
     refine tU 26 ?_;refine tU 27 ?_;try simp only[ps]
     refine tU 28 ?_;refine tU 29 ?_;try simp only[ps]
     refine tU 30 ?_;refine tU 31 ?_;try simp only[ps]
     refine tL 32 ?_;refine tL 33 ?_;try simp only[ps]
     refine wpAnyH_done (by kernel_rfl) ?_ _
     have BF:=zh (zB Aq (zC (Pe w5.heap.size w5) 1));go_wp2;go_ret;exact ⟨by rw[GH.O,HD2.O];rfl,BF.O⟩
    ·have HD2:Hid (Ak (Ad s true n) true x v=false):=by show _=_;rw[HD1.O];simp[ho]
     skip
     have HC:Hid (∀w',Below w5.heap.size w5 w'->(w'.cell? ⟨bt,9,none⟩=some (.bool true)/\w'.cell? ⟨w.heap.size+1,4,none⟩=some (.int .i64 v.id)/\w'.cell? ⟨w.heap.size+1,6,none⟩=some (.slice A2 v.items.length c2)/\w'.cell? ⟨w.heap.size+1,7,none⟩=some (.slice A3 v.rest.length c3))):=fun w' hb=>by have h:=M5.O w' hb;rw[ho] at h;exact h
     clear ho M5;go_upto_region 34 with fail
     clear b0 b1 b2 b3 b4 b5 b6 b7 b8 b9 v0 v1 v2 v3 v4 v5 v6 v7 x0 HD1;refine zr (Y:=fun w'=>Hid (Below w5.heap.size w5 w')) HC (by kernel_rfl) ?_ (fun AQ=>?_)
     ·(try dsimp only);exact ⟨HC.O _ (zC (Pe _ _) 1),zC (Pe _ _) 1⟩
     refine tL 0 ?_;refine tL 1 ?_;try simp only[ps]
     refine tL 2 ?_;refine tL 3 ?_;try simp only[ps]
     refine tL 4 ?_;refine tL 5 ?_;try simp only[ps]
     refine tL 6 ?_;refine tU 7 ?_;try simp only[ps]
     refine tU 8 ?_;refine tU 9 ?_;try simp only[ps]
     refine tL 10 ?_;refine tL 11 ?_;try simp only[ps]
     refine tU 12 ?_;refine tU 13 ?_;try simp only[ps]
     refine tU 14 ?_;refine tU 15 ?_;try simp only[ps]
     refine tL 16 ?_;refine tL 17 ?_;try simp only[ps]
     refine tU 18 ?_;refine tU 19 ?_;try simp only[ps]
     refine tU 20 ?_;refine tU 21 ?_;try simp only[ps]
     refine tL 22 ?_;refine tL 23 ?_;try simp only[ps]
     refine tU 24 ?_;refine tU 25 ?_;try simp only[ps]
     refine tU 26 ?_;refine tU 27 ?_;try simp only[ps]
     refine tU 28 ?_;refine tU 29 ?_;try simp only[ps]
     refine tU 30 ?_;refine tU 31 ?_;try simp only[ps]
     refine tL 32 ?_;refine tL 33 ?_;try simp only[ps]
     refine wpAnyH_done (by kernel_rfl) ?_ _
     have BF:=zh (zB Aq (zC (Pe w5.heap.size w5) 1));go_wp2;go_ret;exact ⟨by rw[GH.O,HD2.O];rfl,BF.O⟩
    ·have HD2:Hid (Ak (Ad s false n) false x v=false):=by show _=_;rw[HD1.O];simp[ho,hf]
     (have HF:=zh hf;clear hf)
     have HC:Hid (∀w',Below w5.heap.size w5 w'->(w'.cell? ⟨bt,9,none⟩=some (.bool true)/\w'.cell? ⟨w.heap.size+1,4,none⟩=some (.int .i64 v.id)/\w'.cell? ⟨w.heap.size+1,6,none⟩=some (.slice A2 v.items.length c2)/\w'.cell? ⟨w.heap.size+1,7,none⟩=some (.slice A3 v.rest.length c3))):=fun w' hb=>by have h:=M5.O w' hb;rw[ho] at h;exact h
     clear ho M5;go_upto_region 34 with fail
     clear b0 b1 b2 b3 b4 b5 b6 b7 b8 b9 v0 v1 v2 v3 v4 v5 v6 v7 x0 HD1;refine zr (Y:=fun w'=>Hid (Below w5.heap.size w5 w')) HC (by kernel_rfl) ?_ (fun AQ=>?_)
     ·(try dsimp only);exact ⟨HC.O _ (zC (Pe _ _) 1),zC (Pe _ _) 1⟩
     refine tL 0 ?_;refine tL 1 ?_;try simp only[ps]
     refine tL 2 ?_;refine tL 3 ?_;try simp only[ps]
     refine tL 4 ?_;refine tL 5 ?_;try simp only[ps]
     refine tL 6 ?_;refine tL 7 ?_;try simp only[ps]
     refine tL 8 ?_;refine tR 9 (fun K hK=>?_)
     go_simp
     (refine (Z6.O _).mono ?_;rintro e' w7 ⟨rfl,hw7⟩;have Bv:Hid (Below w5.heap.size w5 w7):=(by rw[hw7];exact AQ.2.O);clear hw7;rw[HF.O])
     refine hK.out _ _ ?_ (fun AQ=>?_)
     ·(try dsimp only);exact ⟨HC.O _ Bv,Bv.O⟩
     clear hK K;try simp only[ps]
     refine tL 10 ?_;refine tL 11 ?_;try simp only[ps]
     refine tU 12 ?_;refine tU 13 ?_;try simp only[ps]
     refine tU 14 ?_;refine tU 15 ?_;try simp only[ps]
     refine tL 16 ?_;refine tL 17 ?_;try simp only[ps]
     refine tU 18 ?_;refine tU 19 ?_;try simp only[ps]
     refine tU 20 ?_;refine tU 21 ?_;try simp only[ps]
     refine tL 22 ?_;refine tL 23 ?_;try simp only[ps]
     refine tU 24 ?_;refine tU 25 ?_;try simp only[ps]
     refine tU 26 ?_;refine tU 27 ?_;try simp only[ps]
     refine tU 28 ?_;refine tU 29 ?_;try simp only[ps]
     refine tU 30 ?_;refine tU 31 ?_;try simp only[ps]
     refine tL 32 ?_;refine tL 33 ?_;try simp only[ps]
     refine wpAnyH_done (by kernel_rfl) ?_ _
     have BF:=zh (zB Aq Bv);go_wp2;go_ret;exact ⟨by rw[GH.O,HD2.O];rfl,BF.O⟩
    ·have HD2:Hid (Ak (Ad s false n) false x v=false):=by show _=_;rw[HD1.O];simp[ho,hf,hl1]
     (have HF:=zh hf;have q1:((v.items.length:Int)==0)=false:=ABs.2 (by omega);clear hf hl1)
     have HC:Hid (∀w',Below w5.heap.size w5 w'->(w'.cell? ⟨bt,9,none⟩=some (.bool true)/\w'.cell? ⟨w.heap.size+1,4,none⟩=some (.int .i64 v.id)/\w'.cell? ⟨w.heap.size+1,6,none⟩=some (.slice A2 v.items.length c2)/\w'.cell? ⟨w.heap.size+1,7,none⟩=some (.slice A3 v.rest.length c3))):=fun w' hb=>by have h:=M5.O w' hb;rw[ho] at h;exact h
     clear ho M5;go_upto_region 34 with fail
     clear b0 b1 b2 b3 b4 b5 b6 b7 b8 b9 v0 v1 v2 v3 v4 v5 v6 v7 x0 HD1;refine zr (Y:=fun w'=>Hid (Below w5.heap.size w5 w')) HC (by kernel_rfl) ?_ (fun AQ=>?_)
     ·(try dsimp only);exact ⟨HC.O _ (zC (Pe _ _) 1),zC (Pe _ _) 1⟩
     refine tL 0 ?_;refine tL 1 ?_;try simp only[ps]
     refine tL 2 ?_;refine tL 3 ?_;try simp only[ps]
     refine tL 4 ?_;refine tL 5 ?_;try simp only[ps]
     refine tL 6 ?_;refine tL 7 ?_;try simp only[ps]
     refine tL 8 ?_;refine tR 9 (fun K hK=>?_)
     go_simp
     (refine (Z6.O _).mono ?_;rintro e' w7 ⟨rfl,hw7⟩;have Bv:Hid (Below w5.heap.size w5 w7):=(by rw[hw7];exact AQ.2.O);clear hw7;rw[HF.O])
     refine hK.out _ _ ?_ (fun AQ=>?_)
     ·(try dsimp only);exact ⟨HC.O _ Bv,Bv.O⟩
     clear hK K;try simp only[ps]
     refine tL 10 ?_;refine tL 11 ?_;try simp only[ps]
     refine tL 12 ?_;refine tL 13 ?_;try simp only[ps]
     refine tL 14 ?_;refine tL 15 ?_;try simp only[ps]
     refine tL 16 ?_;refine tL 17 ?_;try simp only[ps]
     refine tU 18 ?_;refine tU 19 ?_;try simp only[ps]
     refine tU 20 ?_;refine tU 21 ?_;try simp only[ps]
     refine tL 22 ?_;refine tL 23 ?_;try simp only[ps]
     refine tU 24 ?_;refine tU 25 ?_;try simp only[ps]
     refine tU 26 ?_;refine tU 27 ?_;try simp only[ps]
     refine tU 28 ?_;refine tU 29 ?_;try simp only[ps]
     refine tU 30 ?_;refine tU 31 ?_;try simp only[ps]
     refine tL 32 ?_;refine tL 33 ?_;try simp only[ps]
     refine wpAnyH_done (by kernel_rfl) ?_ _
     have BF:=zh (zB Aq Bv);go_wp2;go_ret;exact ⟨by rw[GH.O,HD2.O];rfl,BF.O⟩
    ·have HD2:Hid (Ak (Ad s false n) false x v=false):=by show _=_;rw[HD1.O];simp[ho,hf,hl1,hl2]
     (have HF:=zh hf;have q1:((v.items.length:Int)==0)=true:=ABz.2 (by omega);have q2:((v.rest.length:Int)==1)=false:=ABs.2 (by omega);clear hf hl1 hl2)
     have HC:Hid (∀w',Below w5.heap.size w5 w'->(w'.cell? ⟨bt,9,none⟩=some (.bool true)/\w'.cell? ⟨w.heap.size+1,4,none⟩=some (.int .i64 v.id)/\w'.cell? ⟨w.heap.size+1,6,none⟩=some (.slice A2 v.items.length c2)/\w'.cell? ⟨w.heap.size+1,7,none⟩=some (.slice A3 v.rest.length c3))):=fun w' hb=>by have h:=M5.O w' hb;rw[ho] at h;exact h
     clear ho M5;go_upto_region 34 with fail
     clear b0 b1 b2 b3 b4 b5 b6 b7 b8 b9 v0 v1 v2 v3 v4 v5 v6 v7 x0 HD1;refine zr (Y:=fun w'=>Hid (Below w5.heap.size w5 w')) HC (by kernel_rfl) ?_ (fun AQ=>?_)
     ·(try dsimp only);exact ⟨HC.O _ (zC (Pe _ _) 1),zC (Pe _ _) 1⟩
     refine tL 0 ?_;refine tL 1 ?_;try simp only[ps]
     refine tL 2 ?_;refine tL 3 ?_;try simp only[ps]
     refine tL 4 ?_;refine tL 5 ?_;try simp only[ps]
     refine tL 6 ?_;refine tL 7 ?_;try simp only[ps]
     refine tL 8 ?_;refine tR 9 (fun K hK=>?_)
     go_simp
     (refine (Z6.O _).mono ?_;rintro e' w7 ⟨rfl,hw7⟩;have Bv:Hid (Below w5.heap.size w5 w7):=(by rw[hw7];exact AQ.2.O);clear hw7;rw[HF.O])
     refine hK.out _ _ ?_ (fun AQ=>?_)
     ·(try dsimp only);exact ⟨HC.O _ Bv,Bv.O⟩
     clear hK K;try simp only[ps]
     refine tL 10 ?_;refine tL 11 ?_;try simp only[ps]
     refine tL 12 ?_;refine tL 13 ?_;try simp only[ps]
     refine tL 14 ?_;refine tL 15 ?_;try simp only[ps]
     refine tL 16 ?_;refine tL 17 ?_;try simp only[ps]
     refine tL 18 ?_;refine tL 19 ?_;try simp only[ps]
     refine tL 20 ?_;refine tL 21 ?_;try simp only[ps]
     refine tL 22 ?_;refine tL 23 ?_;try simp only[ps]
     refine tU 24 ?_;refine tU 25 ?_;try simp only[ps]
     refine tU 26 ?_;refine tU 27 ?_;try simp only[ps]
     refine tU 28 ?_;refine tU 29 ?_;try simp only[ps]
     refine tU 30 ?_;refine tU 31 ?_;try simp only[ps]
     refine tL 32 ?_;refine tL 33 ?_;try simp only[ps]
     refine wpAnyH_done (by kernel_rfl) ?_ _
     have BF:=zh (zB Aq Bv);go_wp2;go_ret;exact ⟨by rw[GH.O,HD2.O];rfl,BF.O⟩
    ·have hr0:0<v.rest.length:=by omega
     have HD2:Hid (Ak (Ad s false n) false x v=decide ((v.rest[0]).id=v.id)):=by
      show _=_
      rw[HD1.O];obtain ⟨y,hy⟩:=List.length_eq_one_iff.1 hl2;simp[ho,hf,hl1,hy]
     obtain ⟨rb,ro,hA3,_,a0,a1⟩:=ABl.O.rest.at2 hr0;subst hA3
     have HC:Hid (∀w',Below w5.heap.size w5 w'->(w'.cell? ⟨bt,9,none⟩=some (.bool true)/\w'.cell? ⟨w.heap.size+1,4,none⟩=some (.int .i64 v.id)/\w'.cell? ⟨w.heap.size+1,6,none⟩=some (.slice A2 v.items.length c2)/\w'.cell? ⟨w.heap.size+1,7,none⟩=some (.slice (some ⟨rb,ro,none⟩) v.rest.length c3)/\w'.cell? ⟨rb,ro,none⟩=some (.int .i64 (v.rest[0]).id))):=fun w' hb=>⟨zA hb (by rw[b9,ho]),zA hb v4,zA hb v6,zA hb v7,zA hb (by simpa using a0)⟩
     have HF:=zh hf;have q1:((v.items.length:Int)==0)=true:=ABz.2 (by omega)
     have q2:((v.rest.length:Int)==1)=true:=ABz.2 (by omega)
     have q3:(0:Int)<(v.rest.length:Int):=by omega
     clear hf hl1 hl2 ho a0 a1;go_upto_region 34 with fail
     clear b0 b1 b2 b3 b4 b5 b6 b7 b8 b9 v0 v1 v2 v3 v4 v5 v6 v7 x0 HD1;refine zr (Y:=fun w'=>Hid (Below w5.heap.size w5 w')) HC (by kernel_rfl) ?_ (fun AQ=>?_)
     ·(try dsimp only);exact ⟨HC.O _ (zC (Pe _ _) 1),zC (Pe _ _) 1⟩
     refine tL 0 ?_;refine tL 1 ?_;try simp only[ps]
     refine tL 2 ?_;refine tL 3 ?_;try simp only[ps]
     refine tL 4 ?_;refine tL 5 ?_;try simp only[ps]
     refine tL 6 ?_;refine tL 7 ?_;try simp only[ps]
     refine tL 8 ?_;refine tR 9 (fun K hK=>?_)
     go_simp
     (refine (Z6.O _).mono ?_;rintro e' w7 ⟨rfl,hw7⟩;have Bv:Hid (Below w5.heap.size w5 w7):=(by rw[hw7];exact AQ.2.O);clear hw7;rw[HF.O])
     refine hK.out _ _ ?_ (fun AQ=>?_)
     ·(try dsimp only);exact ⟨HC.O _ Bv,Bv.O⟩
     clear hK K;try simp only[ps]
     refine tL 10 ?_;refine tL 11 ?_;try simp only[ps]
     refine tL 12 ?_;refine tL 13 ?_;try simp only[ps]
     refine tL 14 ?_;refine tL 15 ?_;try simp only[ps]
     refine tL 16 ?_;refine tL 17 ?_;try simp only[ps]
     refine tL 18 ?_;refine tL 19 ?_;try simp only[ps]
     refine tL 20 ?_;refine tL 21 ?_;try simp only[ps]
     refine tL 22 ?_;refine tL 23 ?_;try simp only[ps]
     refine tL 24 ?_;refine tL 25 ?_;try simp only[ps]
     refine tL 26 ?_;refine tL 27 ?_;try simp only[ps]
     refine tL 28 ?_;refine tL 29 ?_;try simp only[ps]
     refine tL 30 ?_;refine tL 31 ?_;try simp only[ps]
     refine tL 32 ?_;refine tL 33 ?_;try simp only[ps]
     refine wpAnyH_done (by kernel_rfl) ?_ _
     have BF:=zh (zB Aq Bv);clear AQ;go_wp2;go_ret;exact ⟨by rw[GH.O,HD2.O];rfl,BF.O⟩
  ·as_aux_lemma =>
   have HD:Hid (Ak (Ad s plain n) plain x v=(decide ((v.items.length:Int)<=x.max)&&(v.items.all fun y=>Ad s plain n x.elem y))):=by show _=_;unfold Ak;rw[Pd (by omega),Pd (by omega),Pd (by omega),Pd (by omega),Pd (by omega),AAB e]
   by_cases hl:(v.items.length:Int)<=x.max
   ·have HD2:Hid (Ak (Ad s plain n) plain x v=v.items.all fun y=>Ad s plain n x.elem y):=by show _=_;rw[HD.O];simp[hl]
    have q1:(v.items.length:Int)<=x.max:=by omega
    clear hl HD;go_wp2_with fail;refine (Kh Ed x.elem v.items A2 c2 w4 (fun y hy=>E5.O y (.inr hy)) Zv HRR.O.items).mono ?_
    rintro e' w5 ⟨rfl,hb5⟩;have Aq:=zh (zB ED hb5);clear hb5;go_wp2;go_ret;exact ⟨by rw[GH.O,HD2.O];rfl,Aq.O⟩
   ·have HD2:Hid (Ak (Ad s plain n) plain x v=false):=by show _=_;rw[HD.O];simp[hl]
    have q1:¬ (v.items.length:Int)<=x.max:=by omega
    clear hl HD;go_wp2;go_ret;exact ⟨by rw[GH.O,HD2.O];rfl,ED.O⟩
  ·as_aux_lemma =>
   have HD:Hid (Ak (Ad s plain n) plain x v=(decide ((v.keys.length:Int)<=x.max)&&decide (v.items.length=v.keys.length)&&(v.keys.all fun y=>Ad s plain n x.key y)&&I9 v.keys&&(v.items.all fun y=>Ad s plain n x.elem y))):=by show _=_;unfold Ak;rw[Pd (by omega),Pd (by omega),Pd (by omega),Pd (by omega),Pd (by omega),Pd (by omega),AAB e]
   by_cases hl1:(v.keys.length:Int)<=x.max
   case neg =>
    have HD2:Hid (Ak (Ad s plain n) plain x v=false):=by show _=_;rw[HD.O];simp[hl1]
    have p1:x.max<(v.keys.length:Int):=by omega
    clear hl1 HD;go_wp2;go_ret;exact ⟨by rw[GH.O,HD2.O];rfl,ED.O⟩
   have p1:¬ x.max<(v.keys.length:Int):=by omega
   by_cases hl2:v.items.length=v.keys.length
   case neg =>
    have HD2:Hid (Ak (Ad s plain n) plain x v=false):=by show _=_;rw[HD.O];simp[hl2]
    have p2:((v.items.length:Int) != (v.keys.length:Int))=true:=bne_iff_ne.2 (by omega)
    clear hl1 hl2 HD;go_wp2;go_ret;exact ⟨by rw[GH.O,HD2.O];rfl,ED.O⟩
   have p2:((v.items.length:Int) != (v.keys.length:Int))=false:=by simp[hl2]
   have HL2:=zh hl2;have HD1:Hid (Ak (Ad s plain n) plain x v=((v.keys.all fun y=>Ad s plain n x.key y)&&I9 v.keys&&(v.items.all fun y=>Ad s plain n x.elem y))):=by show _=_;rw[HD.O];simp[hl1,hl2]
   have PU:=zh (Kh Ed x.key v.keys A1 c1 w4 (fun y hy=>E5.O y (.inl hy)) Zv HRR.O.keys)
   clear hl1 hl2 HD;go_wp2_with fail;refine PU.O.mono ?_;rintro e' w5 ⟨rfl,hb5⟩;have Aq:=zh (zB ED hb5);have dx:=zh (dz.O.below hb5);have dm:=zh (zE dw hb5);have xM:=zh (zE Qa hb5);clear hb5 b0 b1 b2 b3 b4 b5 b6 b7 b8 b9 v0 v1 v2 v3 v4 v5 v6 v7 x0 PU;obtain ⟨b0,b1,b2,b3,b4,b5,b6,b7,b8,b9⟩:=zG dx;obtain ⟨v0,v1,v2,v3,v4,v5,v6,v7⟩:=zF dm
   cases hall:(v.keys.all fun y=>Ad s plain n x.key y) with
   | false =>
    have HD2:Hid (Ak (Ad s plain n) plain x v=false):=by show _=_;rw[HD1.O,hall];rfl
    clear hall HD1;go_wp2;go_ret;exact ⟨by rw[GH.O,HD2.O];rfl,Aq.O⟩
   | true =>
    have HKEY:=zh (fun y (hy:y∈v.keys)=>Zc HV HN HXM e n y (ABQ.1 hall y hy))
    have HD2:Hid (Ak (Ad s plain n) plain x v=(I9 v.keys&&(v.items.all fun y=>Ad s plain n x.elem y))):=by show _=_;rw[HD1.O,hall];rfl
    have HKV:=zh (HR.O.below Aq).keys;have YS:=zh (HS.O.below Aq);have xX:=zh (HR.O.below Aq).items;have hkl:=HR.O.keys.1.lt (by omega)
    clear hall HD1 b0 b1 b2 b3 b4 b5 b6 b7 b8 b9 v0 v1 v2 v3 v4 v6 v7;go_wp2_with fail
    go_loopw [20] (fun i wr=>∃m:Nat,i = .int .i64 ((m:Int)+1)/\Hid ((m+1<=v.keys.length\/m=0)/\(∀j (h:j+1<v.keys.length),j<m->BZ v.keys[j] v.keys[j+1]<0)/\Below w5.heap.size w5 wr)) (fun i _=>v.keys.length+1 - (intOf i).toNat)
    case atStart=>exact ⟨0,by rfl,.inr rfl,(fun j _ h=>absurd h (by omega)),Pe _ _⟩
    case round =>
     obtain ⟨m,rfl,hh⟩:=hrel;have HM:=zh hh.O.1;have HAS:=zh hh.O.2.1;have Ko:=zh hh.O.2.2;replace v5:=zA Ko v5;clear hh
     by_cases hlt:m+1<v.keys.length
     ·have hm0:m<v.keys.length:=by omega
      obtain ⟨kb,ko,E1,e1,E2,e2,E3,e3,hkA,hr1,a0,a1,a2,a3,a4,a5,a6,a7⟩:=(HKV.O.below Ko).at8 hm0;obtain ⟨kb',ko',G1,g1,G2,g2,G3,g3,hkB,hr2,d0,d1,d2,d3,d4,d5,d6,d7⟩:=(HKV.O.below Ko).at8 hlt;rw[hkA] at hkB
      injection hkB with hkB
      injection hkB with ADL ADK
      subst ADL;subst ADK;rw[hkA] at v5;have Z0:=zh (HKEY.O _ (AAL hm0));have Oc:=zh (HKEY.O _ (AAL hlt))
      have yg:Hid (∀w',Below wr.heap.size wr w'->(w'.cell? ⟨w.heap.size+1,5,none⟩=some (.slice (some ⟨kb,ko,none⟩) v.keys.length c1)/\w'.cell? ⟨kb,ko+m * 8,none⟩=some (.int .i64 (v.keys[m]).kind)/\w'.cell? ⟨kb,ko+m * 8+1,none⟩=some (.bool (v.keys[m]).bool)/\w'.cell? ⟨kb,ko+m * 8+2,none⟩=some (.int .i64 (v.keys[m]).int)/\w'.cell? ⟨kb,ko+m * 8+3,none⟩=some (.string (v.keys[m]).str)/\w'.cell? ⟨kb,ko+m * 8+4,none⟩=some (.int .i64 (v.keys[m]).id)/\w'.cell? ⟨kb,ko+m * 8+5,none⟩=some (.slice E1 (v.keys[m]).keys.length e1)/\w'.cell? ⟨kb,ko+m * 8+6,none⟩=some (.slice E2 (v.keys[m]).items.length e2)/\w'.cell? ⟨kb,ko+m * 8+7,none⟩=some (.slice E3 (v.keys[m]).rest.length e3)/\w'.cell? ⟨kb,ko+(m+1) * 8,none⟩=some (.int .i64 (v.keys[m+1]).kind)/\w'.cell? ⟨kb,ko+(m+1) * 8+1,none⟩=some (.bool (v.keys[m+1]).bool)/\w'.cell? ⟨kb,ko+(m+1) * 8+2,none⟩=some (.int .i64 (v.keys[m+1]).int)/\w'.cell? ⟨kb,ko+(m+1) * 8+3,none⟩=some (.string (v.keys[m+1]).str)/\w'.cell? ⟨kb,ko+(m+1) * 8+4,none⟩=some (.int .i64 (v.keys[m+1]).id)/\w'.cell? ⟨kb,ko+(m+1) * 8+5,none⟩=some (.slice G1 (v.keys[m+1]).keys.length g1)/\w'.cell? ⟨kb,ko+(m+1) * 8+6,none⟩=some (.slice G2 (v.keys[m+1]).items.length g2)/\w'.cell? ⟨kb,ko+(m+1) * 8+7,none⟩=some (.slice G3 (v.keys[m+1]).rest.length g3))):=fun w' hb=>by
       have h:(wr.cell? ⟨w.heap.size+1,5,none⟩=some (.slice (some ⟨kb,ko,none⟩) v.keys.length c1)/\wr.cell? ⟨kb,ko+m * 8,none⟩=some (.int .i64 (v.keys[m]).kind)/\wr.cell? ⟨kb,ko+m * 8+1,none⟩=some (.bool (v.keys[m]).bool)/\wr.cell? ⟨kb,ko+m * 8+2,none⟩=some (.int .i64 (v.keys[m]).int)/\wr.cell? ⟨kb,ko+m * 8+3,none⟩=some (.string (v.keys[m]).str)/\wr.cell? ⟨kb,ko+m * 8+4,none⟩=some (.int .i64 (v.keys[m]).id)/\wr.cell? ⟨kb,ko+m * 8+5,none⟩=some (.slice E1 (v.keys[m]).keys.length e1)/\wr.cell? ⟨kb,ko+m * 8+6,none⟩=some (.slice E2 (v.keys[m]).items.length e2)/\wr.cell? ⟨kb,ko+m * 8+7,none⟩=some (.slice E3 (v.keys[m]).rest.length e3)/\wr.cell? ⟨kb,ko+(m+1) * 8,none⟩=some (.int .i64 (v.keys[m+1]).kind)/\wr.cell? ⟨kb,ko+(m+1) * 8+1,none⟩=some (.bool (v.keys[m+1]).bool)/\wr.cell? ⟨kb,ko+(m+1) * 8+2,none⟩=some (.int .i64 (v.keys[m+1]).int)/\wr.cell? ⟨kb,ko+(m+1) * 8+3,none⟩=some (.string (v.keys[m+1]).str)/\wr.cell? ⟨kb,ko+(m+1) * 8+4,none⟩=some (.int .i64 (v.keys[m+1]).id)/\wr.cell? ⟨kb,ko+(m+1) * 8+5,none⟩=some (.slice G1 (v.keys[m+1]).keys.length g1)/\wr.cell? ⟨kb,ko+(m+1) * 8+6,none⟩=some (.slice G2 (v.keys[m+1]).items.length g2)/\wr.cell? ⟨kb,ko+(m+1) * 8+7,none⟩=some (.slice G3 (v.keys[m+1]).rest.length g3)):=⟨v5,a0,a1,a2,a3,a4,a5,a6,a7,d0,d1,d2,d3,d4,d5,d6,d7⟩
       exact ⟨zA hb h.1,zA hb h.2.1,zA hb h.2.2.1,zA hb h.2.2.2.1,zA hb h.2.2.2.2.1,zA hb h.2.2.2.2.2.1,zA hb h.2.2.2.2.2.2.1,zA hb h.2.2.2.2.2.2.2.1,zA hb h.2.2.2.2.2.2.2.2.1,zA hb h.2.2.2.2.2.2.2.2.2.1,zA hb h.2.2.2.2.2.2.2.2.2.2.1,zA hb h.2.2.2.2.2.2.2.2.2.2.2.1,zA hb h.2.2.2.2.2.2.2.2.2.2.2.2.1,zA hb h.2.2.2.2.2.2.2.2.2.2.2.2.2.1,zA hb h.2.2.2.2.2.2.2.2.2.2.2.2.2.2.1,zA hb h.2.2.2.2.2.2.2.2.2.2.2.2.2.2.2.1,zA hb h.2.2.2.2.2.2.2.2.2.2.2.2.2.2.2.2⟩
      have AEY:=zh (fun w=>Tg v.keys[m] v.keys[m+1] (Z0.O.2.1.trans Oc.O.2.1.symm) Z0.O.1 (fun h2=>⟨Z0.O.2.2 h2,Oc.O.2.2 (by rw[Oc.O.2.1,<-Z0.O.2.1];exact h2)⟩) (by have:=hr1.str;have:=hr2.str;unfold Cw at *;omega) E1 e1 E2 e2 E3 e3 G1 g1 G2 g2 G3 g3 w)
      have j1:(0:Int)<=(m:Int):=by omega
      have j2:(m:Int)+1<(v.keys.length:Int):=by omega
      have j3:(m:Int)<(v.keys.length:Int):=by omega
      have j4:(0:Int)<=(m:Int)+1:=by omega
      have jw:IntKind.i64.wrap (m:Int)=(m:Int):=by rw[IntKind.wrap_i64];omega
      clear a0 a1 a2 a3 a4 a5 a6 a7 d0 d1 d2 d3 d4 d5 d6 d7 hr1 hr2;go_upto_region 43 with fail
      clear v5;refine zr (Y:=fun w'=>Hid (Below wr.heap.size wr w')) yg (by kernel_rfl) ?_ (fun AQ=>?_)
      ·(try dsimp only);exact ⟨yg.O _ (zC (Pe _ _) 1),zC (Pe _ _) 1⟩
      refine tL 0 ?_;refine tL 1 ?_;try simp only[ps]
      refine tL 2 ?_;refine tL 3 ?_;try simp only[ps]
      refine tL 4 ?_;refine tL 5 ?_;try simp only[ps]
      refine tL 6 ?_;refine tL 7 ?_;try simp only[ps]
      refine tL 8 ?_;refine tL 9 ?_;try simp only[ps]
      refine tL 10 ?_;refine tR 11 (fun K hK=>?_)
      go_simp
      (refine (AEY.O _).mono ?_;rintro e' w6 ⟨rfl,hb6⟩;have BH:=zh (zB AQ.2.O hb6);clear hb6)
      refine hK.out _ _ ?_ (fun AQ=>?_)
      ·(try dsimp only);exact ⟨yg.O _ BH,BH.O⟩
      clear hK K;try simp only[ps]
      refine tL 12 ?_;refine wpAnyH_done (by kernel_rfl) ?_ _
      clear AQ;have Bv:=zh (zB Ko BH)
      by_cases hge:BZ v.keys[m] v.keys[m+1]<0
      ·have SB:Hid (∀j (h:j+1<v.keys.length),j<m+1->BZ v.keys[j] v.keys[j+1]<0):=fun j h hj=>by
        by_cases ej:j=m
        ·subst ej;exact hge
        ·exact HAS.O j h (by omega)
       have q1:¬ 0<=BZ v.keys[m] v.keys[m+1]:=by omega
       clear hge;go_wp2;go_roundw
       case rel=>exact ⟨m+1,by go_num,.inl (by omega),SB.O,Bv.O⟩
       case measure=>simp[intOf];omega
      ·have HD3:Hid (Ak (Ad s plain n) plain x v=false):=by show _=_;rw[HD2.O,Zj _ m hlt hge];rfl
       have q1:0<=BZ v.keys[m] v.keys[m+1]:=by omega
       clear hge;go_wp2;go_ret;exact ⟨by rw[GH.O,HD3.O];rfl,zB Aq Bv⟩
     ·have HD3:Hid (Ak (Ad s plain n) plain x v=v.items.all fun y=>Ad s plain n x.elem y):=by show _=_;rw[HD2.O,Tk _ fun j h=>HAS.O j h (by omega)];rfl
      have Bf:=zh (zB Aq Ko);have ABS:=zh (dx.O.below Ko);have xJ:=zh (zE dm Ko);have ABU:=zh (zE xM Ko);have PU:=zh (Kh Ed x.elem v.items A2 c2 wr (fun y hy=>E5.O y (.inr hy)) (YS.O.below Ko) (xX.O.below Ko))
      obtain ⟨b0,b1,b2,b3,b4,b5,b6,b7,b8,b9⟩:=zG ABS;obtain ⟨u0,u1,u2,u3,u4,u5,u6,u7⟩:=zF xJ;have x0:=zb ABU;have q1:¬ (m:Int)+1<(v.keys.length:Int):=by omega
      clear v5;go_wp2_with fail;refine PU.O.mono ?_;rintro e' w6 ⟨rfl,hb6⟩;have BH:=zh (zB Bf hb6);clear hb6;go_wp2;go_ret;exact ⟨by rw[GH.O,HD3.O];rfl,BH.O⟩
  ·as_aux_lemma =>
   have HD:Hid (Ak (Ad s plain n) plain x v=(decide (v.items.length<=1)&&(v.items.all fun y=>Ad s plain n x.elem y))):=by show _=_;unfold Ak;rw[Pd (by omega),Pd (by omega),Pd (by omega),Pd (by omega),Pd (by omega),Pd (by omega),Pd (by omega),AAB e]
   by_cases hl:v.items.length<=1
   ·have HD2:Hid (Ak (Ad s plain n) plain x v=v.items.all fun y=>Ad s plain n x.elem y):=by show _=_;rw[HD.O];simp[hl]
    have q1:(v.items.length:Int)<=1:=by omega
    clear hl HD;go_wp2_with fail;refine (Kh Ed x.elem v.items A2 c2 w4 (fun y hy=>E5.O y (.inr hy)) Zv HRR.O.items).mono ?_
    rintro e' w5 ⟨rfl,hb5⟩;have Aq:=zh (zB ED hb5);clear hb5;go_wp2;go_ret;exact ⟨by rw[GH.O,HD2.O];rfl,Aq.O⟩
   ·have HD2:Hid (Ak (Ad s plain n) plain x v=false):=by show _=_;rw[HD.O];simp[hl]
    have q1:¬ (v.items.length:Int)<=1:=by omega
    clear hl HD;go_wp2;go_ret;exact ⟨by rw[GH.O,HD2.O];rfl,ED.O⟩
