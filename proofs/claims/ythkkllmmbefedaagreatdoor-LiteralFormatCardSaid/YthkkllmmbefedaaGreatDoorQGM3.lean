/-
  Walks: the reference's fit, kinds 5.
-/
import Derived.Test.YthkkllmmbefedaaGreatDoorQGM2
namespace Go.Proofs.YthkkllmmbefedaaGreatDoor
open Go.RowKit
set_option maxHeartbeats 16000000
set_option maxRecDepth 100000
theorem rfit_4_false {s:List TyD} {A:zo} {c n:Nat} (_hv:zQ s=0) (_hn:Num64 s) (_ih:RFitAt s A c false n):RFitK s A c false n 4:=by
 intro tn htn v A1 c1 A2 c2 A3 c3 w hsz hs hr hkx hvk hp hrest
 have hln:=hs.1.lt (by omega)
 obtain ⟨HB0,H5,H7⟩:=zy w (.cells #[.slice A s.length c] 31) (v.box A1 c1 A2 c2 A3 c3);have HIH:=zh _ih;have HV:=zh _hv;have HN:=zh _hn;have HS:=zh hs;have HR:=zh hr;have HSZ:Hid (∀y,y∈v.keys∨y∈v.items→SizeOf.sizeOf y≤n):=hsz;have HP:=zh hp;have HXM:=zh (List.getElem_mem htn);obtain ⟨b,o,As,cs,Am,cm,hA,htr,t0,t1,t2,t3,t4,t5,t6,t7,t8,t9⟩:=(hs.below HB0.out).at10 htn;clear hs hr hp _ih _hv _hn
 subst hA;generalize s[tn]=x at *;have HTR:=zh htr;have HK:=zh hkx;have HVK:=zh (hvk.trans hkx);have q0:(v.kind != x.kind)=false:=by simp[hvk]
 have HRE:=zh hrest;clear htr hkx hvk hrest;have r1:¬ ((tn:Int)<0):=by omega
 have r2:¬ ((s.length:Int)≤(tn:Int)):=by omega
 have h1:(0:Int)≤(tn:Int):=by omega
 have h2:(tn:Int)<(s.length:Int):=by omega
 go_enter Tryz.func71,Tryz.ntmps71
 go_upto_region 1 with fail
 generalize (w.alloc (.cells #[.slice (some ⟨b,o,none⟩) s.length c] 31)).alloc (v.box A1 c1 A2 c2 A3 c3)=W2 at *;have x0:=zb H5.out;go_upto_region 4 with fail
 clear t0 t1 t2 t3 t4 t5 t6 t7 t8 t9 x0 r1 r2;have HBX:=zh (zD W2 (x.box As cs Am cm));have HXT:Hid (TBox (W2.alloc (x.box As cs Am cm)) W2.heap.size x As cs Am cm):=heap_alloc_new W2 _;have HX5:=zh (zE H5.out HBX.out);have HX7:=zh (zE H7.out HBX.out);have HB3:=zh (zB HB0.out HBX.out);have HTR3:=zh (HTR.out.below HBX.out);generalize W2.alloc (x.box As cs Am cm)=W3 at *
 generalize W2.heap.size=p9 at *;clear H5 H7 HTR HBX HB0;obtain ⟨v0,v1,v2,v3,v4,v5,v6,v7⟩:=zF HX7.out;obtain ⟨b0,b1,b2,b3,b4,b5,b6,b7,b8,b9⟩:=zG HXT.out;go_wp2_with fail;refine (yJ v (by rw[HVK.out];omega) A1 c1 A2 c2 A3 c3 W3).mono ?_
 rintro e w4 ⟨rfl,hb4⟩;rw[HP.out];have HB4:=zh (zB HB3.out hb4);have HXT4:=zh (HXT.out.below hb4);have HX5a:=zh (zE HX5.out hb4);have HX7a:=zh (zE HX7.out hb4);have HSS:=zh (HS.out.below HB4.out);have HRR:=zh (HR.out.below HB4.out);have HTR4:=zh (HTR3.out.below hb4);clear hb4 v0 v1 v2 v3 v4 v5 v6 v7 b0 b1 b2 b3 b4 b5 b6 b7 b8 b9 HB3 HXT HX5 HX7 q0 HTR3;obtain ⟨v0,v1,v2,v3,v4,v5,v6,v7⟩:=zF HX7a.out
 obtain ⟨b0,b1,b2,b3,b4,b5,b6,b7,b8,b9⟩:=zG HXT4.out;have x0:=zb HX5a.out;go_upto_region 6 with fail
 obtain ⟨q1,q2,q3,q4⟩:=zk4 HK.out;have HD0:=zh (fb4 (f:=fitF s false n) (plain:=false) (v:=v) HK.out);obtain ⟨an,han⟩:∃an,(x.syms.any fun y=>decide (y.id=v.id))=an:=⟨_,rfl⟩
 have hcall:=rSym_any v.id x As cs Am cm w4 HTR4.out;rw[han] at hcall HD0;have HCL:=zh hcall;clear hcall han;go_wp2_with fail;refine HCL.out.mono ?_;rintro e w5 ⟨r,rfl,_,hb5⟩;have HB5:=zh (zB HB4.out hb5);have HT5:=zh (HXT4.out.below hb5);have H55:=zh (zE HX5a.out hb5);have H75:=zh (zE HX7a.out hb5);clear hb5 HCL;clear v0 v1 v2 v3 v4 v5 v6 v7 b0 b1 b2 b3 b4 b5 b6 b7 b8 b9 x0
 obtain ⟨v0,v1,v2,v3,v4,v5,v6,v7⟩:=zF H75.out;obtain ⟨b0,b1,b2,b3,b4,b5,b6,b7,b8,b9⟩:=zG HT5.out;have x0:=zb H55.out
 cases an with
 | true =>
  have HD:Hid (fitB (fitF s false n) false x v=true):=by show _=_;rw[HD0.out];rfl
  go_wp2
  go_ret
  exact ⟨by rw[HD.out];rfl,HB5.out⟩
 | false =>
  cases ho:x.open_ with
  | false =>
   have HD:Hid (fitB (fitF s false n) false x v=false):=by show _=_;rw[HD0.out,ho];rfl
   go_wp2
   go_ret
   exact ⟨by rw[HD.out];rfl,HB5.out⟩
  | true =>
   have HD:Hid (fitB (fitF s false n) false x v=freeD v.id):=by show _=_;rw[HD0.out,ho];rfl
   go_wp2_with fail
   refine (rIdF_any v.id false _).mono ?_;rintro e w6 ⟨rfl,rfl⟩;obtain ⟨X,hX⟩:∃X,freeD v.id=X:=⟨_,rfl⟩;rw[hX];have HD2:Hid (fitB (fitF s false n) false x v=X):=HD.out.trans hX;clear hX;go_wp2;go_ret;exact ⟨by rw[HD2.out];rfl,HB5.out⟩
theorem rfit_5 (pl:Bool) {s:List TyD} {A:zo} {c n:Nat} (_hv:zQ s=0) (_hn:Num64 s) (_ih:RFitAt s A c pl n):RFitK s A c pl n 5:=by
 intro tn htn v A1 c1 A2 c2 A3 c3 w hsz hs hr hkx hvk hp hrest
 have hln:=hs.1.lt (by omega)
 obtain ⟨HB0,H5,H7⟩:=zy w (.cells #[.slice A s.length c] 31) (v.box A1 c1 A2 c2 A3 c3);have HIH:=zh _ih;have HV:=zh _hv;have HN:=zh _hn;have HS:=zh hs;have HR:=zh hr;have HSZ:Hid (∀y,y∈v.keys∨y∈v.items→SizeOf.sizeOf y≤n):=hsz;have HP:=zh hp;have HXM:=zh (List.getElem_mem htn);obtain ⟨b,o,As,cs,Am,cm,hA,htr,t0,t1,t2,t3,t4,t5,t6,t7,t8,t9⟩:=(hs.below HB0.out).at10 htn;clear hs hr hp _ih _hv _hn
 subst hA;generalize s[tn]=x at *;have HTR:=zh htr;have HK:=zh hkx;have HVK:=zh (hvk.trans hkx);have q0:(v.kind != x.kind)=false:=by simp[hvk]
 have HRE:=zh hrest;clear htr hkx hvk hrest;have r1:¬ ((tn:Int)<0):=by omega
 have r2:¬ ((s.length:Int)≤(tn:Int)):=by omega
 have h1:(0:Int)≤(tn:Int):=by omega
 have h2:(tn:Int)<(s.length:Int):=by omega
 go_enter Tryz.func71,Tryz.ntmps71
 go_upto_region 1 with fail
 generalize (w.alloc (.cells #[.slice (some ⟨b,o,none⟩) s.length c] 31)).alloc (v.box A1 c1 A2 c2 A3 c3)=W2 at *;have x0:=zb H5.out;go_upto_region 4 with fail
 clear t0 t1 t2 t3 t4 t5 t6 t7 t8 t9 x0 r1 r2;have HBX:=zh (zD W2 (x.box As cs Am cm));have HXT:Hid (TBox (W2.alloc (x.box As cs Am cm)) W2.heap.size x As cs Am cm):=heap_alloc_new W2 _;have HX5:=zh (zE H5.out HBX.out);have HX7:=zh (zE H7.out HBX.out);have HB3:=zh (zB HB0.out HBX.out);have HTR3:=zh (HTR.out.below HBX.out);generalize W2.alloc (x.box As cs Am cm)=W3 at *
 generalize W2.heap.size=p9 at *;clear H5 H7 HTR HBX HB0;obtain ⟨v0,v1,v2,v3,v4,v5,v6,v7⟩:=zF HX7.out;obtain ⟨b0,b1,b2,b3,b4,b5,b6,b7,b8,b9⟩:=zG HXT.out
 go_cut [48] (fun s48 wx=>s48 = .bool false∧Hid (Below W3.heap.size W3 wx))
 case first =>
  cases pl with
  | true =>
   have z0:¬ (0:Int)<(v.rest.length:Int):=by have:=HRE.out rfl;omega
   go_wp2_with fail
   refine (yJ v (by rw[HVK.out];omega) A1 c1 A2 c2 A3 c3 W3).mono ?_
   rintro e w4 ⟨rfl,hb4⟩;rw[HP.out];have HB4:=zh hb4;have v7:=zA hb4 v7;clear hb4;go_wp2;go_meet;exact ⟨by first|rfl|exact congrArg Value.bool (decide_eq_false (by omega)),HB4.out⟩
  | false =>
   go_wp2_with fail
   refine (yJ v (by rw[HVK.out];omega) A1 c1 A2 c2 A3 c3 W3).mono ?_
   rintro e w4 ⟨rfl,hb4⟩;rw[HP.out];have HB4:=zh hb4;have v7:=zA hb4 v7;clear hb4;go_wp2;go_meet;exact ⟨by first|rfl|exact congrArg Value.bool (decide_eq_false (by omega)),HB4.out⟩
 case rest =>
 obtain ⟨rfl,hcut⟩:=hcut;obtain ⟨w4,rfl⟩:∃W:World,W=wc:=⟨_,rfl⟩;have hb4:=hcut.out;clear hcut;have HB4:=zh (zB HB3.out hb4);have HXT4:=zh (HXT.out.below hb4);have HX5a:=zh (zE HX5.out hb4);have HX7a:=zh (zE HX7.out hb4);have HSS:=zh (HS.out.below HB4.out);have HRR:=zh (HR.out.below HB4.out);have HTR4:=zh (HTR3.out.below hb4)
 clear hb4 v0 v1 v2 v3 v4 v5 v6 v7 b0 b1 b2 b3 b4 b5 b6 b7 b8 b9 HB3 HXT HX5 HX7 q0 HTR3;obtain ⟨v0,v1,v2,v3,v4,v5,v6,v7⟩:=zF HX7a.out;obtain ⟨b0,b1,b2,b3,b4,b5,b6,b7,b8,b9⟩:=zG HXT4.out;have x0:=zb HX5a.out;go_upto_region 6 with fail
 obtain ⟨q1,q2,q3,q4,q5⟩:=zk5 HK.out;have HD0:=zh (fb5 (f:=fitF s pl n) (plain:=pl) (v:=v) HK.out HRE.out);have hli:=HRR.out.items.1.lt (by omega)
 have hlm:=HTR4.out.mems.1.lt (by omega)
 by_cases hl1:v.items.length=x.mems.length
 case neg =>
  have HD:Hid (fitB (fitF s pl n) pl x v=false):=by show _=_;rw[HD0.out];simp[hl1]
  have q1:((v.items.length:Int) != (x.mems.length:Int))=true:=bne_iff_ne.2 (by omega)
  clear hl1;go_wp2;go_ret;exact ⟨by rw[HD.out];rfl,HB4.out⟩
 have q1:((v.items.length:Int) != (x.mems.length:Int))=false:=by simp[hl1]
 have HL:=zh hl1;have HD1:Hid (fitB (fitF s pl n) pl x v=(rawsD x v.rest&&((x.mems.zip v.items).all fun p=>fitF s pl n p.1.type p.2))):=by show _=_;rw[HD0.out,decide_eq_true hl1];rfl
 clear hl1;go_wp2_with fail;refine (rRest_any x As cs Am cm v.rest A3 c3 w4 HTR4.out HRR.out.rest).mono ?_;rintro e w5 ⟨rfl,hb5⟩;have HB5:=zh (zB HB4.out hb5);have HT5:=zh (HXT4.out.below hb5);have H55:=zh (zE HX5a.out hb5);have H75:=zh (zE HX7a.out hb5);have HRR5:=zh (HRR.out.below hb5);have HTR5:=zh (HTR4.out.below hb5);have HSS5:=zh (HSS.out.below hb5);clear hb5
 clear v0 v1 v2 v3 v4 v5 v6 v7 b0 b1 b2 b3 b4 b5 b6 b7 b8 b9 x0;obtain ⟨v0,v1,v2,v3,v4,v5,v6,v7⟩:=zF H75.out;obtain ⟨b0,b1,b2,b3,b4,b5,b6,b7,b8,b9⟩:=zG HT5.out;have x0:=zb H55.out
 cases hra:rawsD x v.rest with
 | false =>
  have HD:Hid (fitB (fitF s pl n) pl x v=false):=by show _=_;rw[HD1.out,hra];rfl
  clear hra;go_wp2;go_ret;exact ⟨by rw[HD.out];rfl,HB5.out⟩
 | true =>
  have HD2:Hid (fitB (fitF s pl n) pl x v=(x.mems.zip v.items).all fun p=>fitF s pl n p.1.type p.2):=by show _=_;rw[HD1.out,hra];rfl
  clear hra HD1 HD0 q1;obtain ⟨X,hX⟩:∃X,fitB (fitF s pl n) pl x v=X:=⟨_,rfl⟩;have HXE:=zh hX;replace HD2:=zh (hX.symm.trans HD2.out);clear hX;go_wp2_with fail
  go_loopw [12] (fun i wr=>∃j:Nat,j≤v.items.length∧i = .int .i64 (j:Int)∧Hid ((∀q (h:q<x.mems.length) (h':q<v.items.length),q<j→fitF s pl n (x.mems[q]).type v.items[q]=true)∧Below w5.heap.size w5 wr)) (fun i _=>v.items.length - (intOf i).toNat)
  case atStart=>exact ⟨0,by omega,rfl,(fun j _ _ h=>absurd h (by omega)),Below.refl _ _⟩
  case round =>
   obtain ⟨j,hj,rfl,hh⟩:=hrel;obtain ⟨WB,rfl⟩:∃w':World,w'=wr:=⟨_,rfl⟩;have HFT:=zh hh.out.1;have HBQ:=zh hh.out.2;clear hh v0 v1 v2 v3 v4 v5 v6 v7 b0 b1 b2 b3 b4 b5 b6 b7 b8 b9 x0;have HTq:=zh (HT5.out.below HBQ.out);have H5q:=zh (zE H55.out HBQ.out);have H7q:=zh (zE H75.out HBQ.out);obtain ⟨v0,v1,v2,v3,v4,v5,v6,v7⟩:=zF H7q.out;obtain ⟨b0,b1,b2,b3,b4,b5,b6,b7,b8,b9⟩:=zG HTq.out;have x0:=zb H5q.out
   by_cases hji:j<v.items.length
   ·have hjt:j<x.mems.length:=by have:=HL.out;omega
    obtain ⟨mb,mo,M1,m1,M2,m2,M3,m3,hAm,_,d0,d1,d2,d3,d4,d5,d6,d7,d8,d9,d10,d11,d12⟩:=(HTR5.out.mems.below HBQ.out).at13 hjt;obtain ⟨ib,io,E1,e1,E2,e2,E3,e3,I,hI,a0,a1,a2,a3,a4,a5,a6,a7⟩:=(HRR5.out.items.below HBQ.out).at8 hji;have HIR:=zh hI;have HIA:=zh (And.intro a0 (And.intro a1 (And.intro a2 (And.intro a3 (And.intro a4 (And.intro a5 (And.intro a6 a7)))))));clear hI a0 a1 a2 a3 a4 a5 a6 a7
    have hz:=HSZ.out _ (.inr (List.getElem_mem hji));have HNO:Hid (fitF s pl n (x.mems[j]).type v.items[j]=false→X=false):=fun h=>HD2.out.trans (zips_not _ _ _ j hjt hji h)
    have HST:Hid (fitF s pl n (x.mems[j]).type v.items[j]=true→∀q (h:q<x.mems.length) (h':q<v.items.length),q<j+1→fitF s pl n (x.mems[q]).type v.items[q]=true):=fun hx q h h' hq=>by
     by_cases ej:q=j
     ·subst ej;exact hx
     ·exact HFT.out q h h' (by omega)
    have HMT:=zh d2;generalize x.mems[j]=m at *;generalize v.items[j]=y at *;have HZ:=zh hz;rw[hAm] at b6;rw[I] at v6;have h1:(0:Int)≤(j:Int):=by omega
    have h2:(j:Int)<(x.mems.length:Int):=by omega
    have h3:(j:Int)<(v.items.length:Int):=by omega
    have HCC:Hid (∀w',Below WB.heap.size WB w'→(w'.cell? ⟨w.heap.size,0,none⟩=some (.slice (some ⟨b,o,none⟩) s.length c)∧w'.cell? ⟨p9,6,none⟩=some (.slice (some ⟨mb,mo,none⟩) x.mems.length cm)∧w'.cell? ⟨mb,mo+j * 13+2,none⟩=some (.int .i64 m.type)∧w'.cell? ⟨w.heap.size+1,6,none⟩=some (.slice (some ⟨ib,io,none⟩) v.items.length c2)∧w'.cell? ⟨ib,io+j * 8,none⟩=some (.int .i64 y.kind)∧w'.cell? ⟨ib,io+j * 8+1,none⟩=some (.bool y.bool)∧w'.cell? ⟨ib,io+j * 8+2,none⟩=some (.int .i64 y.int)∧w'.cell? ⟨ib,io+j * 8+3,none⟩=some (.string y.str)∧w'.cell? ⟨ib,io+j * 8+4,none⟩=some (.int .i64 y.id)∧w'.cell? ⟨ib,io+j * 8+5,none⟩=some (.slice E1 y.keys.length e1)∧w'.cell? ⟨ib,io+j * 8+6,none⟩=some (.slice E2 y.items.length e2)∧w'.cell? ⟨ib,io+j * 8+7,none⟩=some (.slice E3 y.rest.length e3))):=fun w' hb=>by
     obtain ⟨a0,a1,a2,a3,a4,a5,a6,a7⟩:=HIA.out;exact ⟨zA hb x0,zA hb b6,zA hb d2,zA hb v6,zA hb a0,zA hb a1,zA hb a2,zA hb a3,zA hb a4,zA hb a5,zA hb a6,zA hb a7⟩
    clear hz d0 d1 d2 d3 d4 d5 d6 d7 d8 d9 d10 d11 d12 hAm I;go_upto_region 22 with fail
    clear v0 v1 v2 v3 v4 v5 v6 v7 b0 b1 b2 b3 b4 b5 b6 b7 b8 b9 x0;refine zr (Y:=fun w'=>Hid (Below WB.heap.size WB w')) HCC.out (by kernel_rfl) ?_ (fun zH_=>?_)
    ·(try dsimp only);exact ⟨HCC.out _ (zC (Below.refl _ _) 1),(zC (Below.refl _ _) 1)⟩
    refine tL 0 ?_;refine tL 1 ?_;refine tL 2 ?_;refine tL 3 ?_;refine tL 4 ?_;refine tL 5 ?_;try simp only[ps]
    refine tL 6 ?_;refine tL 7 ?_;refine tL 8 ?_;refine tL 9 ?_;refine tL 10 ?_;refine tL 11 ?_;try simp only[ps]
    refine tL 12 ?_;refine tR 13 (fun K hK=>?_)
    go_simp
    (refine (HIH.out m.type y E1 e1 E2 e2 E3 e3 _ HZ.out (HSS5.out.below (zB HBQ.out zH_.2.out)) (HIR.out.below zH_.2.out)).mono ?_;rintro e w6 ⟨rfl,hb6⟩;have HB6:=zh (zB zH_.2.out hb6);clear hb6)
    refine hK.out _ _ ?_ (fun zH_=>?_)
    ·(try dsimp only);exact ⟨HCC.out _ HB6.out,HB6.out⟩
    clear hK K;refine tL 14 ?_;refine wpAnyH_done (by kernel_rfl) ?_ _
    clear zH_
    cases hfy:fitF s pl n m.type y with
    | false =>
     have HX2:=zh (HNO.out hfy);clear hfy;go_wp2;go_ret;exact ⟨by rw[HXE.out,HX2.out];rfl,zB HB5.out (zB HBQ.out HB6.out)⟩
    | true =>
     have HX2:=zh (HST.out hfy);clear hfy;go_wp2;go_roundw
     case rel=>exact ⟨j+1,by omega,by go_num,HX2.out,zB HBQ.out HB6.out⟩
     case measure=>simp[intOf];omega
   ·have HX2:Hid (X=true):=by show _=_;rw[HD2.out];exact zips_all _ _ _ fun q h h'=>HFT.out q h h' (by omega)
    go_wp2
    go_ret
    exact ⟨by rw[HXE.out,HX2.out];rfl,zB HB5.out HBQ.out⟩
end Go.Proofs.YthkkllmmbefedaaGreatDoor


