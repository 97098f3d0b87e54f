/-
  Walks: the reference's fit, kinds 1, 2, 3, 7, 9.
-/
import Derived.Test.YthkkllmmbefedaaGreatDoorQGM1
namespace Go.Proofs.YthkkllmmbefedaaGreatDoor
open Go.RowKit
set_option maxHeartbeats 16000000
set_option maxRecDepth 100000
def Ew (s:List AZ) (A:zo) (c:Nat) (plain:Bool) (n:Nat):Prop:=∀ (t:Int) (v:Val) (A1:zo) (c1:Nat) (A2:zo) (c2:Nat) (A3:zo) (c3:Nat) (w:World),SizeOf.sizeOf v<=n->DV w A s->BO w v A1 A2 A3 ->
 Calls Tryz.prog 71 #[.agg #[.slice A s.length c],.int .i64 t,v.v A1 c1 A2 c2 A3 c3,.bool plain] w fun e w'=>e = .returned (.bool (AQ s plain n t v))/\Below w.heap.size w w'
theorem qQ {α:Type} {l:List α} {p:α->Bool} {j:Nat} (hj:j<l.length) (h:p l[j]=false):l.all p=false:=by
 rw[List.all_eq_false];exact ⟨_,AAW hj,by simp[h]⟩
theorem lV {α:Type} {l:List α} {p:α->Bool} (h:∀j (h:j<l.length),p l[j]=true):l.all p=true:=by
 rw[AAq]
 intro x hx
 obtain ⟨j,hj,rfl⟩:=AAs hx;exact h j hj
variable {s:List AZ} {c n:Nat} {A:zo}
theorem Lh {plain:Bool} (hf:Ew s A c plain n) (t:Int) (l:List Val) (B:zo) (d:Nat) (w:World) (hv:∀y∈l,SizeOf.sizeOf y<=n) (hs:DV w A s) (hl:DJ w B l):
  Calls Tryz.prog 106 #[.agg #[.slice A s.length c],.int .i64 t,.slice B l.length d,.bool plain] w fun e w'=>e = .returned (.bool (l.all fun y=>AQ s plain n t y))/\Below w.heap.size w w':=by
 have hln:=hl.1.lt (by omega)
 have HF:=zh hf;have HV:=zh hv;have HB:=zh (zD w (.cells #[.slice A s.length c] 31));have HX:=zh (AAA w (.cells #[.slice A s.length c] 31));have HS:=zh (hs.below HB);have HL:=zh (hl.below HB);obtain ⟨X,hX⟩:∃X,(l.all fun y=>AQ s plain n t y)=X:=⟨_,rfl⟩
 rw[hX];have HE:=zh hX;clear hf hv hs hl hX
 go_enter Tryz.func106,Tryz.ntmps106
 go_upto_region 1 with fail
 generalize w.alloc (.cells #[.slice A s.length c] 31)=W1 at *;go_wp2_with fail
 go_loopw [9] (fun i wr=>∃k:Nat,k<=l.length/\i = .int .i64 (k:Int)/\Hid ((∀j (h:j<l.length),j<k->AQ s plain n t l[j]=true)/\Below W1.heap.size W1 wr)) (fun i _=>l.length - (intOf i).toNat)
 case atStart=>exact ⟨0,by omega,rfl,(fun j _ h=>absurd h (by omega)),Pd _ _⟩
 case round =>
  obtain ⟨k,hk,rfl,hh⟩:=hrel;have TK:=zh hh.out.1;have EO:=zh hh.out.2;have F8:=zh (zB HB EO);clear hh;obtain ⟨wk,rfl⟩:∃wk:World,wk=wr:=⟨_,rfl⟩
  by_cases hlt:k<l.length
  ·obtain ⟨ib,io,E1,e1,E2,e2,E3,e3,hI,hir,a0,a1,a2,a3,a4,a5,a6,a7⟩:=(HL.out.below EO).at8 hlt
   subst hI;have iA:=zh hir;have HXk:=zh (zE HX EO);have h1:(0:Int)<=(k:Int):=by omega
   have h2:(k:Int)<(l.length:Int):=by omega
   have hz:=HV.out _ (AAW hlt);have Ho:Hid (AQ s plain n t l[k]=false->X=false):=fun h=>by rw[<-HE.out];exact qQ hlt h
   have HST:Hid (AQ s plain n t l[k]=true->∀j (h:j<l.length),j<k+1->AQ s plain n t l[j]=true):=fun hx j h hj=>by
    by_cases ej:j=k
    ·subst ej;exact hx
    ·exact TK.out j h (by omega)
   generalize l[k]=y at *;have HZ:=zh hz
   have FD:Hid (∀w',Below wk.heap.size wk w'->(w'.cell? ⟨w.heap.size,0,none⟩=some (.slice A s.length c)/\w'.cell? ⟨ib,io+k * 8,none⟩=some (.int .i64 y.kind)/\w'.cell? ⟨ib,io+k * 8+1,none⟩=some (.bool y.bool)/\w'.cell? ⟨ib,io+k * 8+2,none⟩=some (.int .i64 y.int)/\w'.cell? ⟨ib,io+k * 8+3,none⟩=some (.string y.str)/\w'.cell? ⟨ib,io+k * 8+4,none⟩=some (.int .i64 y.id)/\w'.cell? ⟨ib,io+k * 8+5,none⟩=some (.slice E1 y.keys.length e1)/\w'.cell? ⟨ib,io+k * 8+6,none⟩=some (.slice E2 y.items.length e2)/\w'.cell? ⟨ib,io+k * 8+7,none⟩=some (.slice E3 y.rest.length e3))):=fun w' hb=>⟨zA hb (by rw[AAB _ _ _ _ _ _ HXk.out];rfl),zA hb a0,zA hb a1,zA hb a2,zA hb a3,zA hb a4,zA hb a5,zA hb a6,zA hb a7⟩
   clear hz hir a0 a1 a2 a3 a4 a5 a6 a7;go_upto_region 4 with fail
   refine zr (Y:=fun w'=>Hid (Below wk.heap.size wk w')) FD (by kernel_rfl) ?_ (fun AU=>?_)
   ·(try dsimp only);exact ⟨FD.out _ (zC (Pd _ _) 1),zC (Pd _ _) 1⟩
   refine tL 0 ?_;refine tL 1 ?_;refine tL 2 ?_;refine tL 3 ?_;refine tL 4 ?_;refine tL 5 ?_;try simp only[ps]
   refine tL 6 ?_;refine tR 7 (fun K hK=>?_)
   go_simp
   (refine (HF.out t y E1 e1 E2 e2 E3 e3 _ HZ (HS.out.below (zB EO AU.2.out)) (iA.out.below AU.2.out)).mono ?_;rintro e' w6 ⟨rfl,hb6⟩;have BA:=zh (zB AU.2.out hb6);clear hb6)
   refine hK.out _ _ ?_ (fun AU=>?_)
   ·(try dsimp only);exact ⟨FD.out _ BA,BA.out⟩
   clear hK K;refine tL 8 ?_;refine wpAnyH_done (by kernel_rfl) ?_ _
   clear AU
   cases kX:AQ s plain n t y with
   | false =>
    have F6:=zh (Ho.out kX);clear kX;go_wp2;go_ret;exact ⟨by rw[F6.out];rfl,zB F8 BA⟩
   | true =>
    have F6:=zh (HST.out kX);clear kX;go_wp2;go_roundw
    case rel=>exact ⟨k+1,by omega,by go_num,F6.out,zB EO BA⟩
    case measure=>simp[intOf];omega
  ·have F6:Hid (X=true):=by show _=_;rw[<-HE.out];exact lV fun j h=>TK.out j h (by omega)
   go_wp2
   go_ret
   exact ⟨by rw[F6.out];rfl,F8.out⟩
theorem fE {f:Int->Val->Bool} {x:AZ} {v:Val} (hp:zJ v=true) (hk:v.kind=x.kind) (hr:0<v.rest.length):AX f true x v=false:=by
 rw[FB] at hp;simp only[AAG,AAY] at hp;have h7:=hp.2
 by_cases h5:x.kind=5
 ·unfold AX
  rw[Pe (by omega),Pe (by omega),Pe (by omega),AAC h5]
  simp[hr]
 ·by_cases h6:x.kind=6
  ·unfold AX
   rw[Pe (by omega),Pe (by omega),Pe (by omega),Pe (by omega),AAC h6]
   cases x.AA.find? fun m=>decide (m.id=v.id) with
   | none=>simp
   | some m=>simp only[AAE (show ¬ v.rest.length=0 by omega),Bool.and_false,Bool.false_and]
  ·rw[Pe (by omega)] at h7
   rw[h7] at hr;exact absurd hr (by simp)
section
variable {f:Int->Val->Bool} {plain:Bool} {x:AZ} {v:Val}
theorem fb1 (e:x.kind=1):AX f plain x v=true:=by unfold AX;rw[Pe (by omega),Pe (by omega),Pe (by omega),Pe (by omega),Pe (by omega),Pe (by omega),Pe (by omega),Pe (by omega)]
theorem fb2 (e:x.kind=2):AX f plain x v=(decide (x.low<=v.int)&&decide (v.int<=x.high)):=by unfold AX;rw[AAC e]
theorem fb3 (e:x.kind=3):AX f plain x v=decide ((v.str.size:Int)<=x.max):=by unfold AX;rw[Pe (by omega),AAC e]
theorem fb4 (e:x.kind=4):AX f plain x v=((x.Ab.any fun y=>decide (y.id=v.id))||(x.open_ && !plain&&Aq v.id)):=by unfold AX;rw[Pe (by omega),Pe (by omega),AAC e]
theorem fb5 (e:x.kind=5) (h:plain=true->v.rest.length=0):AX f plain x v=(decide (v.items.length=x.AA.length)&&Dh x v.rest&&((x.AA.zip v.items).all fun p=>f p.1.type p.2)):=by
 unfold AX;rw[Pe (by omega),Pe (by omega),Pe (by omega),AAC e]
 have h1:(plain&&decide (0<v.rest.length))=false:=by
  cases plain with
  | false=>rfl
  | true=>rw[h rfl];rfl
 rw[h1];simp only[Bool.not_false,Bool.and_true]
theorem yZ (e:x.kind=6) {m:AY} (hf:x.AA.find? (fun y=>decide (y.id=v.id))=some m):AX f plain x v=(decide (v.items.length=1)&&decide (v.rest.length=0)&&(v.items.all fun y=>f m.type y)):=by
 unfold AX;rw[Pe (by omega),Pe (by omega),Pe (by omega),Pe (by omega),AAC e,hf]
theorem yc (e:x.kind=6) (hf:x.AA.find? (fun y=>decide (y.id=v.id))=none):AX f plain x v=(x.open_ && !plain&&Aq v.id&&decide (v.items.length=0)&&decide (v.rest.length=1)&&(v.rest.all fun r=>decide (r.id=v.id))):=by
 unfold AX;rw[Pe (by omega),Pe (by omega),Pe (by omega),Pe (by omega),AAC e,hf]
theorem fb7 (e:x.kind=7):AX f plain x v=(decide ((v.items.length:Int)<=x.max)&&(v.items.all fun y=>f x.elem y)):=by unfold AX;rw[Pe (by omega),Pe (by omega),Pe (by omega),Pe (by omega),Pe (by omega),AAC e]
theorem fb8 (e:x.kind=8):AX f plain x v=(decide ((v.keys.length:Int)<=x.max)&&decide (v.items.length=v.keys.length)&&(v.keys.all fun y=>f x.key y)&&MJ v.keys&&(v.items.all fun y=>f x.elem y)):=by unfold AX;rw[Pe (by omega),Pe (by omega),Pe (by omega),Pe (by omega),Pe (by omega),Pe (by omega),AAC e]
theorem fb9 (e:x.kind=9):AX f plain x v=(decide (v.items.length<=1)&&(v.items.all fun y=>f x.elem y)):=by unfold AX;rw[Pe (by omega),Pe (by omega),Pe (by omega),Pe (by omega),Pe (by omega),Pe (by omega),Pe (by omega),AAC e]
end
open Go.RowKit
def MN (s:List AZ) (A:zo) (c:Nat) (plain:Bool) (n:Nat) (k:Int):Prop:=∀ (tn:Nat) (htn:tn<s.length) (v:Val) (A1:zo) (c1:Nat) (A2:zo) (c2:Nat) (A3:zo) (c3:Nat) (w:World),(∀y,y∈v.keys\/y∈v.items->SizeOf.sizeOf y<=n)->DV w A s->BO w v A1 A2 A3 ->
 (s[tn]).kind=k->v.kind=(s[tn]).kind->zJ v=true->(plain=true->v.rest.length=0) ->
 Calls Tryz.prog 71 #[.agg #[.slice A s.length c],.int .i64 (tn:Int),v.v A1 c1 A2 c2 A3 c3,.bool plain] w fun e w'=>e = .returned (.bool (AX (AQ s plain n) plain s[tn] v))/\Below w.heap.size w w'
theorem om (pl:Bool) (_hv:zQ s=0) (_hn:Ca s) (_ih:Ew s A c pl n):MN s A c pl n 1:=by
 intro tn htn v A1 c1 A2 c2 A3 c3 w hsz hs hr hkx hvk hp hrest
 have hln:=hs.1.lt (by omega)
 obtain ⟨HB0,H5,H7⟩:=zy w (.cells #[.slice A s.length c] 31) (v.box A1 c1 A2 c2 A3 c3);have Df:=zh _ih;have HV:=zh _hv;have HN:=zh _hn;have HS:=zh hs;have HR:=zh hr;have ED:Hid (∀y,y∈v.keys\/y∈v.items->SizeOf.sizeOf y<=n):=hsz;have HP:=zh hp;have gQ:=zh (AAW htn);obtain ⟨b,o,As,cs,Am,cm,hA,htr,t0,t1,t2,t3,t4,t5,t6,t7,t8,t9⟩:=(hs.below HB0).JM htn;clear hs hr hp _ih _hv _hn
 subst hA;generalize s[tn]=x at *;have F7:=zh htr;have HK:=zh hkx;have LM:=zh (hvk.trans hkx);have q0:(v.kind != x.kind)=false:=by simp[hvk]
 have Pg:=zh hrest;clear htr hkx hvk hrest;have r1:¬ ((tn:Int)<0):=by omega
 have r2:¬ ((s.length:Int)<=(tn:Int)):=by omega
 have h1:(0:Int)<=(tn:Int):=by omega
 have h2:(tn:Int)<(s.length:Int):=by omega
 go_enter Tryz.func71,Tryz.ntmps71
 go_upto_region 1 with fail
 generalize (w.alloc (.cells #[.slice (some ⟨b,o,none⟩) s.length c] 31)).alloc (v.box A1 c1 A2 c2 A3 c3)=W2 at *;have x0:=zb H5;go_upto_region 4 with fail
 clear t0 t1 t2 t3 t4 t5 t6 t7 t8 t9 x0 r1 r2;have BI:=zh (zD W2 (x.box As cs Am cm));have Hg:Hid (Bf (W2.alloc (x.box As cs Am cm)) W2.heap.size x As cs Am cm):=AAA W2 _;have BK:=zh (zE H5 BI);have Gz:=zh (zE H7 BI);have HB3:=zh (zB HB0 BI);have Ec:=zh (F7.out.below BI);generalize W2.alloc (x.box As cs Am cm)=W3 at *
 generalize W2.heap.size=p9 at *;clear H5 H7 F7 BI HB0;obtain ⟨v0,v1,v2,v3,v4,v5,v6,v7⟩:=zF Gz;obtain ⟨b0,b1,b2,b3,b4,b5,b6,b7,b8,b9⟩:=zG Hg
 go_cut [48] (fun Y0 wx=>Y0 = .bool false/\Hid (Below W3.heap.size W3 wx))
 case first =>
  cases pl with
  | true =>
   have z0:¬ (0:Int)<(v.rest.length:Int):=by have:=Pg.out rfl;omega
   go_wp2_with fail
   refine (yJ v (by rw[LM.out];omega) A1 c1 A2 c2 A3 c3 W3).mono ?_
   rintro e w4 ⟨rfl,hb4⟩;rw[HP.out];have BD:=zh hb4;have v7:=zA hb4 v7;clear hb4;go_wp2;go_meet;exact ⟨by first|rfl|exact congrArg Value.bool (AAE (by omega)),BD.out⟩
  | false =>
   go_wp2_with fail
   refine (yJ v (by rw[LM.out];omega) A1 c1 A2 c2 A3 c3 W3).mono ?_
   rintro e w4 ⟨rfl,hb4⟩;rw[HP.out];have BD:=zh hb4;have v7:=zA hb4 v7;clear hb4;go_wp2;go_meet;exact ⟨by first|rfl|exact congrArg Value.bool (AAE (by omega)),BD.out⟩
 case rest =>
 obtain ⟨rfl,hcut⟩:=hcut;obtain ⟨w4,rfl⟩:∃W:World,W=wc:=⟨_,rfl⟩;have hb4:=hcut.out;clear hcut;have BD:=zh (zB HB3 hb4);have Ed:=zh (Hg.out.below hb4);have Hl:=zh (zE BK hb4);have Gi:=zh (zE Gz hb4);have VP:=zh (HS.out.below BD);have HRR:=zh (HR.out.below BD);have Ey:=zh (Ec.out.below hb4)
 clear hb4 v0 v1 v2 v3 v4 v5 v6 v7 b0 b1 b2 b3 b4 b5 b6 b7 b8 b9 HB3 Hg BK Gz q0 Ec;obtain ⟨v0,v1,v2,v3,v4,v5,v6,v7⟩:=zF Gi;obtain ⟨b0,b1,b2,b3,b4,b5,b6,b7,b8,b9⟩:=zG Ed;have x0:=zb Hl;go_upto_region 6 with fail
 have q1:=zk1 HK;have HD:=zh (fb1 (f:=AQ s pl n) (plain:=pl) (v:=v) HK);go_wp2;go_ret;exact ⟨by rw[HD.out];rfl,BD.out⟩
theorem oh (pl:Bool) (_hv:zQ s=0) (_hn:Ca s) (_ih:Ew s A c pl n):MN s A c pl n 2:=by
 intro tn htn v A1 c1 A2 c2 A3 c3 w hsz hs hr hkx hvk hp hrest
 have hln:=hs.1.lt (by omega)
 obtain ⟨HB0,H5,H7⟩:=zy w (.cells #[.slice A s.length c] 31) (v.box A1 c1 A2 c2 A3 c3);have Df:=zh _ih;have HV:=zh _hv;have HN:=zh _hn;have HS:=zh hs;have HR:=zh hr;have ED:Hid (∀y,y∈v.keys\/y∈v.items->SizeOf.sizeOf y<=n):=hsz;have HP:=zh hp;have gQ:=zh (AAW htn);obtain ⟨b,o,As,cs,Am,cm,hA,htr,t0,t1,t2,t3,t4,t5,t6,t7,t8,t9⟩:=(hs.below HB0).JM htn;clear hs hr hp _ih _hv _hn
 subst hA;generalize s[tn]=x at *;have F7:=zh htr;have HK:=zh hkx;have LM:=zh (hvk.trans hkx);have q0:(v.kind != x.kind)=false:=by simp[hvk]
 have Pg:=zh hrest;clear htr hkx hvk hrest;have r1:¬ ((tn:Int)<0):=by omega
 have r2:¬ ((s.length:Int)<=(tn:Int)):=by omega
 have h1:(0:Int)<=(tn:Int):=by omega
 have h2:(tn:Int)<(s.length:Int):=by omega
 go_enter Tryz.func71,Tryz.ntmps71
 go_upto_region 1 with fail
 generalize (w.alloc (.cells #[.slice (some ⟨b,o,none⟩) s.length c] 31)).alloc (v.box A1 c1 A2 c2 A3 c3)=W2 at *;have x0:=zb H5;go_upto_region 4 with fail
 clear t0 t1 t2 t3 t4 t5 t6 t7 t8 t9 x0 r1 r2;have BI:=zh (zD W2 (x.box As cs Am cm));have Hg:Hid (Bf (W2.alloc (x.box As cs Am cm)) W2.heap.size x As cs Am cm):=AAA W2 _;have BK:=zh (zE H5 BI);have Gz:=zh (zE H7 BI);have HB3:=zh (zB HB0 BI);have Ec:=zh (F7.out.below BI);generalize W2.alloc (x.box As cs Am cm)=W3 at *
 generalize W2.heap.size=p9 at *;clear H5 H7 F7 BI HB0;obtain ⟨v0,v1,v2,v3,v4,v5,v6,v7⟩:=zF Gz;obtain ⟨b0,b1,b2,b3,b4,b5,b6,b7,b8,b9⟩:=zG Hg
 go_cut [48] (fun Y0 wx=>Y0 = .bool false/\Hid (Below W3.heap.size W3 wx))
 case first =>
  cases pl with
  | true =>
   have z0:¬ (0:Int)<(v.rest.length:Int):=by have:=Pg.out rfl;omega
   go_wp2_with fail
   refine (yJ v (by rw[LM.out];omega) A1 c1 A2 c2 A3 c3 W3).mono ?_
   rintro e w4 ⟨rfl,hb4⟩;rw[HP.out];have BD:=zh hb4;have v7:=zA hb4 v7;clear hb4;go_wp2;go_meet;exact ⟨by first|rfl|exact congrArg Value.bool (AAE (by omega)),BD.out⟩
  | false =>
   go_wp2_with fail
   refine (yJ v (by rw[LM.out];omega) A1 c1 A2 c2 A3 c3 W3).mono ?_
   rintro e w4 ⟨rfl,hb4⟩;rw[HP.out];have BD:=zh hb4;have v7:=zA hb4 v7;clear hb4;go_wp2;go_meet;exact ⟨by first|rfl|exact congrArg Value.bool (AAE (by omega)),BD.out⟩
 case rest =>
 obtain ⟨rfl,hcut⟩:=hcut;obtain ⟨w4,rfl⟩:∃W:World,W=wc:=⟨_,rfl⟩;have hb4:=hcut.out;clear hcut;have BD:=zh (zB HB3 hb4);have Ed:=zh (Hg.out.below hb4);have Hl:=zh (zE BK hb4);have Gi:=zh (zE Gz hb4);have VP:=zh (HS.out.below BD);have HRR:=zh (HR.out.below BD);have Ey:=zh (Ec.out.below hb4)
 clear hb4 v0 v1 v2 v3 v4 v5 v6 v7 b0 b1 b2 b3 b4 b5 b6 b7 b8 b9 HB3 Hg BK Gz q0 Ec;obtain ⟨v0,v1,v2,v3,v4,v5,v6,v7⟩:=zF Gi;obtain ⟨b0,b1,b2,b3,b4,b5,b6,b7,b8,b9⟩:=zG Ed;have x0:=zb Hl;go_upto_region 6 with fail
 obtain ⟨q1,q2⟩:=zk2 HK;have HD0:=zh (fb2 (f:=AQ s pl n) (plain:=pl) (v:=v) HK)
 by_cases g1:x.low<=v.int
 ·by_cases g2:v.int<=x.high
  ·have HD:Hid (AX (AQ s pl n) pl x v=true):=by show _=_;rw[HD0.out];simp[g1,g2]
   go_wp2
   go_ret
   exact ⟨by rw[HD.out];rfl,BD.out⟩
  ·have HD:Hid (AX (AQ s pl n) pl x v=false):=by show _=_;rw[HD0.out];simp[g2]
   go_wp2
   go_ret
   exact ⟨by rw[HD.out];rfl,BD.out⟩
 ·have HD:Hid (AX (AQ s pl n) pl x v=false):=by show _=_;rw[HD0.out];simp[g1]
  go_wp2
  go_ret
  exact ⟨by rw[HD.out];rfl,BD.out⟩
theorem og (pl:Bool) (_hv:zQ s=0) (_hn:Ca s) (_ih:Ew s A c pl n):MN s A c pl n 3:=by
 intro tn htn v A1 c1 A2 c2 A3 c3 w hsz hs hr hkx hvk hp hrest
 have hln:=hs.1.lt (by omega)
 obtain ⟨HB0,H5,H7⟩:=zy w (.cells #[.slice A s.length c] 31) (v.box A1 c1 A2 c2 A3 c3);have Df:=zh _ih;have HV:=zh _hv;have HN:=zh _hn;have HS:=zh hs;have HR:=zh hr;have ED:Hid (∀y,y∈v.keys\/y∈v.items->SizeOf.sizeOf y<=n):=hsz;have HP:=zh hp;have gQ:=zh (AAW htn);obtain ⟨b,o,As,cs,Am,cm,hA,htr,t0,t1,t2,t3,t4,t5,t6,t7,t8,t9⟩:=(hs.below HB0).JM htn;clear hs hr hp _ih _hv _hn
 subst hA;generalize s[tn]=x at *;have F7:=zh htr;have HK:=zh hkx;have LM:=zh (hvk.trans hkx);have q0:(v.kind != x.kind)=false:=by simp[hvk]
 have Pg:=zh hrest;clear htr hkx hvk hrest;have r1:¬ ((tn:Int)<0):=by omega
 have r2:¬ ((s.length:Int)<=(tn:Int)):=by omega
 have h1:(0:Int)<=(tn:Int):=by omega
 have h2:(tn:Int)<(s.length:Int):=by omega
 go_enter Tryz.func71,Tryz.ntmps71
 go_upto_region 1 with fail
 generalize (w.alloc (.cells #[.slice (some ⟨b,o,none⟩) s.length c] 31)).alloc (v.box A1 c1 A2 c2 A3 c3)=W2 at *;have x0:=zb H5;go_upto_region 4 with fail
 clear t0 t1 t2 t3 t4 t5 t6 t7 t8 t9 x0 r1 r2;have BI:=zh (zD W2 (x.box As cs Am cm));have Hg:Hid (Bf (W2.alloc (x.box As cs Am cm)) W2.heap.size x As cs Am cm):=AAA W2 _;have BK:=zh (zE H5 BI);have Gz:=zh (zE H7 BI);have HB3:=zh (zB HB0 BI);have Ec:=zh (F7.out.below BI);generalize W2.alloc (x.box As cs Am cm)=W3 at *
 generalize W2.heap.size=p9 at *;clear H5 H7 F7 BI HB0;obtain ⟨v0,v1,v2,v3,v4,v5,v6,v7⟩:=zF Gz;obtain ⟨b0,b1,b2,b3,b4,b5,b6,b7,b8,b9⟩:=zG Hg
 go_cut [48] (fun Y0 wx=>Y0 = .bool false/\Hid (Below W3.heap.size W3 wx))
 case first =>
  cases pl with
  | true =>
   have z0:¬ (0:Int)<(v.rest.length:Int):=by have:=Pg.out rfl;omega
   go_wp2_with fail
   refine (yJ v (by rw[LM.out];omega) A1 c1 A2 c2 A3 c3 W3).mono ?_
   rintro e w4 ⟨rfl,hb4⟩;rw[HP.out];have BD:=zh hb4;have v7:=zA hb4 v7;clear hb4;go_wp2;go_meet;exact ⟨by first|rfl|exact congrArg Value.bool (AAE (by omega)),BD.out⟩
  | false =>
   go_wp2_with fail
   refine (yJ v (by rw[LM.out];omega) A1 c1 A2 c2 A3 c3 W3).mono ?_
   rintro e w4 ⟨rfl,hb4⟩;rw[HP.out];have BD:=zh hb4;have v7:=zA hb4 v7;clear hb4;go_wp2;go_meet;exact ⟨by first|rfl|exact congrArg Value.bool (AAE (by omega)),BD.out⟩
 case rest =>
 obtain ⟨rfl,hcut⟩:=hcut;obtain ⟨w4,rfl⟩:∃W:World,W=wc:=⟨_,rfl⟩;have hb4:=hcut.out;clear hcut;have BD:=zh (zB HB3 hb4);have Ed:=zh (Hg.out.below hb4);have Hl:=zh (zE BK hb4);have Gi:=zh (zE Gz hb4);have VP:=zh (HS.out.below BD);have HRR:=zh (HR.out.below BD);have Ey:=zh (Ec.out.below hb4)
 clear hb4 v0 v1 v2 v3 v4 v5 v6 v7 b0 b1 b2 b3 b4 b5 b6 b7 b8 b9 HB3 Hg BK Gz q0 Ec;obtain ⟨v0,v1,v2,v3,v4,v5,v6,v7⟩:=zF Gi;obtain ⟨b0,b1,b2,b3,b4,b5,b6,b7,b8,b9⟩:=zG Ed;have x0:=zb Hl;go_upto_region 6 with fail
 obtain ⟨q1,q2,q3⟩:=zk3 HK;have HD0:=zh (fb3 (f:=AQ s pl n) (plain:=pl) (v:=v) HK)
 by_cases g1:(v.str.size:Int)<=x.max
 ·have HD:Hid (AX (AQ s pl n) pl x v=true):=by show _=_;rw[HD0.out];simp[g1]
  go_wp2
  go_ret
  exact ⟨by rw[HD.out];rfl,BD.out⟩
 ·have HD:Hid (AX (AQ s pl n) pl x v=false):=by show _=_;rw[HD0.out];simp[g1]
  go_wp2
  go_ret
  exact ⟨by rw[HD.out];rfl,BD.out⟩
theorem oW (pl:Bool) (_hv:zQ s=0) (_hn:Ca s) (_ih:Ew s A c pl n):MN s A c pl n 7:=by
 intro tn htn v A1 c1 A2 c2 A3 c3 w hsz hs hr hkx hvk hp hrest
 have hln:=hs.1.lt (by omega)
 obtain ⟨HB0,H5,H7⟩:=zy w (.cells #[.slice A s.length c] 31) (v.box A1 c1 A2 c2 A3 c3);have Df:=zh _ih;have HV:=zh _hv;have HN:=zh _hn;have HS:=zh hs;have HR:=zh hr;have ED:Hid (∀y,y∈v.keys\/y∈v.items->SizeOf.sizeOf y<=n):=hsz;have HP:=zh hp;have gQ:=zh (AAW htn);obtain ⟨b,o,As,cs,Am,cm,hA,htr,t0,t1,t2,t3,t4,t5,t6,t7,t8,t9⟩:=(hs.below HB0).JM htn;clear hs hr hp _ih _hv _hn
 subst hA;generalize s[tn]=x at *;have F7:=zh htr;have HK:=zh hkx;have LM:=zh (hvk.trans hkx);have q0:(v.kind != x.kind)=false:=by simp[hvk]
 have Pg:=zh hrest;clear htr hkx hvk hrest;have r1:¬ ((tn:Int)<0):=by omega
 have r2:¬ ((s.length:Int)<=(tn:Int)):=by omega
 have h1:(0:Int)<=(tn:Int):=by omega
 have h2:(tn:Int)<(s.length:Int):=by omega
 go_enter Tryz.func71,Tryz.ntmps71
 go_upto_region 1 with fail
 generalize (w.alloc (.cells #[.slice (some ⟨b,o,none⟩) s.length c] 31)).alloc (v.box A1 c1 A2 c2 A3 c3)=W2 at *;have x0:=zb H5;go_upto_region 4 with fail
 clear t0 t1 t2 t3 t4 t5 t6 t7 t8 t9 x0 r1 r2;have BI:=zh (zD W2 (x.box As cs Am cm));have Hg:Hid (Bf (W2.alloc (x.box As cs Am cm)) W2.heap.size x As cs Am cm):=AAA W2 _;have BK:=zh (zE H5 BI);have Gz:=zh (zE H7 BI);have HB3:=zh (zB HB0 BI);have Ec:=zh (F7.out.below BI);generalize W2.alloc (x.box As cs Am cm)=W3 at *
 generalize W2.heap.size=p9 at *;clear H5 H7 F7 BI HB0;obtain ⟨v0,v1,v2,v3,v4,v5,v6,v7⟩:=zF Gz;obtain ⟨b0,b1,b2,b3,b4,b5,b6,b7,b8,b9⟩:=zG Hg
 go_cut [48] (fun Y0 wx=>Y0 = .bool false/\Hid (Below W3.heap.size W3 wx))
 case first =>
  cases pl with
  | true =>
   have z0:¬ (0:Int)<(v.rest.length:Int):=by have:=Pg.out rfl;omega
   go_wp2_with fail
   refine (yJ v (by rw[LM.out];omega) A1 c1 A2 c2 A3 c3 W3).mono ?_
   rintro e w4 ⟨rfl,hb4⟩;rw[HP.out];have BD:=zh hb4;have v7:=zA hb4 v7;clear hb4;go_wp2;go_meet;exact ⟨by first|rfl|exact congrArg Value.bool (AAE (by omega)),BD.out⟩
  | false =>
   go_wp2_with fail
   refine (yJ v (by rw[LM.out];omega) A1 c1 A2 c2 A3 c3 W3).mono ?_
   rintro e w4 ⟨rfl,hb4⟩;rw[HP.out];have BD:=zh hb4;have v7:=zA hb4 v7;clear hb4;go_wp2;go_meet;exact ⟨by first|rfl|exact congrArg Value.bool (AAE (by omega)),BD.out⟩
 case rest =>
 obtain ⟨rfl,hcut⟩:=hcut;obtain ⟨w4,rfl⟩:∃W:World,W=wc:=⟨_,rfl⟩;have hb4:=hcut.out;clear hcut;have BD:=zh (zB HB3 hb4);have Ed:=zh (Hg.out.below hb4);have Hl:=zh (zE BK hb4);have Gi:=zh (zE Gz hb4);have VP:=zh (HS.out.below BD);have HRR:=zh (HR.out.below BD);have Ey:=zh (Ec.out.below hb4)
 clear hb4 v0 v1 v2 v3 v4 v5 v6 v7 b0 b1 b2 b3 b4 b5 b6 b7 b8 b9 HB3 Hg BK Gz q0 Ec;obtain ⟨v0,v1,v2,v3,v4,v5,v6,v7⟩:=zF Gi;obtain ⟨b0,b1,b2,b3,b4,b5,b6,b7,b8,b9⟩:=zG Ed;have x0:=zb Hl;go_upto_region 6 with fail
 obtain ⟨q1,q2,q3,q4,q5,q6,q7⟩:=zk7 HK;have HD0:=zh (fb7 (f:=AQ s pl n) (plain:=pl) (v:=v) HK);have iI:=HRR.out.items.1.lt (by omega)
 by_cases g1:(v.items.length:Int)<=x.max
 ·have HD:Hid (AX (AQ s pl n) pl x v=v.items.all fun y=>AQ s pl n x.elem y):=by show _=_;rw[HD0.out];simp[g1]
  go_wp2_with fail
  refine (Lh Df x.elem v.items A2 c2 _ (fun y hy=>ED.out y (.inr hy)) (HS.out.below BD) (HR.out.below BD).items).mono ?_
  rintro e w5 ⟨rfl,hb5⟩;have BB:=zh (zB BD hb5);clear hb5;clear g1 v0 v1 v2 v3 v4 v5 v6 v7 b0 b1 b2 b3 b4 b5 b6 b7 b8 b9 x0;obtain ⟨X,hX⟩:∃X,(v.items.all fun y=>AQ s pl n x.elem y)=X:=⟨_,rfl⟩
  rw[hX];have HD2:Hid (AX (AQ s pl n) pl x v=X):=HD.out.trans hX;clear hX;go_wp2;go_ret;exact ⟨by rw[HD2.out];rfl,BB.out⟩
 ·have HD:Hid (AX (AQ s pl n) pl x v=false):=by show _=_;rw[HD0.out];simp[g1]
  go_wp2
  go_ret
  exact ⟨by rw[HD.out];rfl,BD.out⟩
theorem oU (pl:Bool) (_hv:zQ s=0) (_hn:Ca s) (_ih:Ew s A c pl n):MN s A c pl n 9:=by
 intro tn htn v A1 c1 A2 c2 A3 c3 w hsz hs hr hkx hvk hp hrest
 have hln:=hs.1.lt (by omega)
 obtain ⟨HB0,H5,H7⟩:=zy w (.cells #[.slice A s.length c] 31) (v.box A1 c1 A2 c2 A3 c3);have Df:=zh _ih;have HV:=zh _hv;have HN:=zh _hn;have HS:=zh hs;have HR:=zh hr;have ED:Hid (∀y,y∈v.keys\/y∈v.items->SizeOf.sizeOf y<=n):=hsz;have HP:=zh hp;have gQ:=zh (AAW htn);obtain ⟨b,o,As,cs,Am,cm,hA,htr,t0,t1,t2,t3,t4,t5,t6,t7,t8,t9⟩:=(hs.below HB0).JM htn;clear hs hr hp _ih _hv _hn
 subst hA;generalize s[tn]=x at *;have F7:=zh htr;have HK:=zh hkx;have LM:=zh (hvk.trans hkx);have q0:(v.kind != x.kind)=false:=by simp[hvk]
 have Pg:=zh hrest;clear htr hkx hvk hrest;have r1:¬ ((tn:Int)<0):=by omega
 have r2:¬ ((s.length:Int)<=(tn:Int)):=by omega
 have h1:(0:Int)<=(tn:Int):=by omega
 have h2:(tn:Int)<(s.length:Int):=by omega
 go_enter Tryz.func71,Tryz.ntmps71
 go_upto_region 1 with fail
 generalize (w.alloc (.cells #[.slice (some ⟨b,o,none⟩) s.length c] 31)).alloc (v.box A1 c1 A2 c2 A3 c3)=W2 at *;have x0:=zb H5;go_upto_region 4 with fail
 clear t0 t1 t2 t3 t4 t5 t6 t7 t8 t9 x0 r1 r2;have BI:=zh (zD W2 (x.box As cs Am cm));have Hg:Hid (Bf (W2.alloc (x.box As cs Am cm)) W2.heap.size x As cs Am cm):=AAA W2 _;have BK:=zh (zE H5 BI);have Gz:=zh (zE H7 BI);have HB3:=zh (zB HB0 BI);have Ec:=zh (F7.out.below BI);generalize W2.alloc (x.box As cs Am cm)=W3 at *
 generalize W2.heap.size=p9 at *;clear H5 H7 F7 BI HB0;obtain ⟨v0,v1,v2,v3,v4,v5,v6,v7⟩:=zF Gz;obtain ⟨b0,b1,b2,b3,b4,b5,b6,b7,b8,b9⟩:=zG Hg
 go_cut [48] (fun Y0 wx=>Y0 = .bool false/\Hid (Below W3.heap.size W3 wx))
 case first =>
  cases pl with
  | true =>
   have z0:¬ (0:Int)<(v.rest.length:Int):=by have:=Pg.out rfl;omega
   go_wp2_with fail
   refine (yJ v (by rw[LM.out];omega) A1 c1 A2 c2 A3 c3 W3).mono ?_
   rintro e w4 ⟨rfl,hb4⟩;rw[HP.out];have BD:=zh hb4;have v7:=zA hb4 v7;clear hb4;go_wp2;go_meet;exact ⟨by first|rfl|exact congrArg Value.bool (AAE (by omega)),BD.out⟩
  | false =>
   go_wp2_with fail
   refine (yJ v (by rw[LM.out];omega) A1 c1 A2 c2 A3 c3 W3).mono ?_
   rintro e w4 ⟨rfl,hb4⟩;rw[HP.out];have BD:=zh hb4;have v7:=zA hb4 v7;clear hb4;go_wp2;go_meet;exact ⟨by first|rfl|exact congrArg Value.bool (AAE (by omega)),BD.out⟩
 case rest =>
 obtain ⟨rfl,hcut⟩:=hcut;obtain ⟨w4,rfl⟩:∃W:World,W=wc:=⟨_,rfl⟩;have hb4:=hcut.out;clear hcut;have BD:=zh (zB HB3 hb4);have Ed:=zh (Hg.out.below hb4);have Hl:=zh (zE BK hb4);have Gi:=zh (zE Gz hb4);have VP:=zh (HS.out.below BD);have HRR:=zh (HR.out.below BD);have Ey:=zh (Ec.out.below hb4)
 clear hb4 v0 v1 v2 v3 v4 v5 v6 v7 b0 b1 b2 b3 b4 b5 b6 b7 b8 b9 HB3 Hg BK Gz q0 Ec;obtain ⟨v0,v1,v2,v3,v4,v5,v6,v7⟩:=zF Gi;obtain ⟨b0,b1,b2,b3,b4,b5,b6,b7,b8,b9⟩:=zG Ed;have x0:=zb Hl;go_upto_region 6 with fail
 obtain ⟨q1,q2,q3,q4,q5,q6,q7,q8⟩:=zk9 HK;have HD0:=zh (fb9 (f:=AQ s pl n) (plain:=pl) (v:=v) HK);have iI:=HRR.out.items.1.lt (by omega)
 by_cases g1:v.items.length<=1
 ·have HD:Hid (AX (AQ s pl n) pl x v=v.items.all fun y=>AQ s pl n x.elem y):=by show _=_;rw[HD0.out];simp[g1]
  have g2:((v.items.length:Int)<=1)=(v.items.length<=1):=by simp only[eq_iff_iff];omega
  go_wp2_with fail
  refine (Lh Df x.elem v.items A2 c2 _ (fun y hy=>ED.out y (.inr hy)) (HS.out.below BD) (HR.out.below BD).items).mono ?_
  rintro e w5 ⟨rfl,hb5⟩;have BB:=zh (zB BD hb5);clear hb5;clear g1 v0 v1 v2 v3 v4 v5 v6 v7 b0 b1 b2 b3 b4 b5 b6 b7 b8 b9 x0;obtain ⟨X,hX⟩:∃X,(v.items.all fun y=>AQ s pl n x.elem y)=X:=⟨_,rfl⟩
  rw[hX];have HD2:Hid (AX (AQ s pl n) pl x v=X):=HD.out.trans hX;clear hX;go_wp2;go_ret;exact ⟨by rw[HD2.out];rfl,BB.out⟩
 ·have HD:Hid (AX (AQ s pl n) pl x v=false):=by show _=_;rw[HD0.out];simp[g1]
  have g2:((v.items.length:Int)<=1)=(v.items.length<=1):=by simp only[eq_iff_iff];omega
  go_wp2
  go_ret
  exact ⟨by rw[HD.out];rfl,BD.out⟩
end Go.Proofs.YthkkllmmbefedaaGreatDoor



