/-
  Walks: the law LiteralTokens.
-/
import Derived.Test.YthkkllmmbefedaaGreatDoorQSXLT
import Derived.Test.YthkkllmmbefedaaGreatDoorQAK2
import Derived.Test.YthkkllmmbefedaaGreatDoorQGD0
import Derived.Test.YthkkllmmbefedaaGreatDoorQNRM
import Derived.Test.YthkkllmmbefedaaGreatDoorQGN1
import Derived.Test.YthkkllmmbefedaaGreatDoorQGK0
import Derived.Test.YthkkllmmbefedaaGreatDoorQST0
import Derived.Test.YthkkllmmbefedaaGreatDoorQGB0
import Derived.Test.YthkkllmmbefedaaGreatDoorQDR4
namespace Go.Proofs.YthkkllmmbefedaaGreatDoor
open Go.RowKit
set_option maxHeartbeats 16000000
set_option maxRecDepth 100000
theorem parse_zero {s:List TyD} {t:Int} {x:ByteArray} (h:(parseS false s t x).2≠0):(parseS false s t x).1=zeroV:=by
 unfold parseS at h ⊢
 by_cases h1:t<0∨(s.length:Int)≤t
 ·rw[if_pos h1]
 rw[if_neg h1] at h ⊢
 by_cases h2:65536<x.size
 ·rw[if_pos h2]
 rw[if_neg h2] at h ⊢
 cases h3:toksL 1 x.data.toList with
 | error e=>rfl
 | ok l =>
  rw[h3] at h;simp only at h ⊢
  cases h4:readP false s t l with
  | error e=>rfl
  | ok p =>
   obtain ⟨v,r,k⟩:=p;rw[h4] at h;simp only at h ⊢
   by_cases h5:r≠[]
   ·rw[if_pos h5]
   rw[if_neg h5] at h ⊢
   by_cases h6:k=true∨fitV s false t v=false
   ·rw[if_pos h6]
   ·rw[if_neg h6] at h;exact absurd rfl h
theorem tl_facts {s:List TyD} (hv:zQ s=0) (hn:Num64 s) {t:Int} {x:ByteArray} {v:Val} (hv1:v=(parseS false s t x).1) (h:(parseS false s t x).2=0) (hx:x.size≤600) :
  fitV s false t v=true∧(fmtT s t v).size≤1800∧∃a b,toksL 1 x.data.toList = .ok a∧toksL 1 (fmtT s t v).data.toList = .ok b∧a.map stripT=b.map stripT:=by
 obtain ⟨hf,hz,a,b,h1,h2,h3⟩:=tokens_law (schOk hv hn) (show parseS false s t x=(v,0) by rw[hv1,←h])
 have e:fmtT s t v=litV s t v:=by unfold fmtT;rw[if_pos hf]
 rw[e];exact ⟨hf,by omega,a,b,h1,h2,h3⟩
theorem lawTokens_any (d:List NodeD) (t:Int) (x:ByteArray) (A:zo) (c:Nat) (w:World) (hd:NodesR w A d) (_hx:x.size≤140737488355328) (hE:EnvL w) {SA:zo} {sc:Nat} (hS:SymE w SA sc) :
  Calls Tryz.prog 6 #[draftV A d.length c,.int .i64 t,.string x] w (SamePost true w):=by
 have HD:=zh hd;have HE:=zh hE;have HSY:=zh hS;have HX0:=zh (heap_alloc_new w (.cells #[.slice A d.length c] 24));have HB0:=zh (zD w (.cells #[.slice A d.length c] 24));clear hd hE hS
 go_enter Tryz.func6,Tryz.ntmps6
 go_upto_region 1 with fail
 generalize w.alloc (.cells #[.slice A d.length c] 24)=W0 at *;have x0:=zb HX0.out;go_wp2_with fail;refine (of_any d A c _ (HD.out.below HB0.out)).mono ?_;rintro e w1 ⟨B,b,s,ok,rfl,hs,hok,hno,hb1⟩;have HBX:=zh (zD w1 (.cells #[.slice B s.length b] 31));have HS1:=zh (hs.below HBX.out);have HOK:=zh hok;have HB1:=zh (zB (zB HB0.out hb1) HBX.out)
 have HX1:=zh (heap_alloc_new w1 (.cells #[.slice B s.length b] 31));clear hs hok hno hb1 x0 HX0 HB0;go_upto_region 2 with fail
 generalize w1.alloc (.cells #[.slice B s.length b] 31)=W1 at *;generalize w1.heap.size=q1 at *;have HPB:Hid (∀W2,Below W1.heap.size W1 W2→Calls Tryz.prog 12 #[] W2 (SamePost true W2)):=fun W2 hb=>awake_any _ (HE.out.below (zB HB1.out hb)) (HSY.out.below (zB HB1.out hb))
 by_cases hgo:ok=true∧x.size≤600
 case neg =>
  have HGO:=zh hgo;clear hgo HOK
  go_cut [34] (fun z wx=>z = .bool true∧Hid (Below W1.heap.size W1 wx))
  case first =>
   go_wp2_with fail
   refine (HPB.out W1 (Below.refl _ _)).mono ?_;rintro e w2 ⟨rfl,hb2⟩;have HB2:=zh hb2;clear hb2
   cases ok with
   | false =>
    go_wp2
    go_meet
    exact ⟨rfl,HB2.out⟩
   | true =>
    have g1:(x.size:Int) > 600:=by
     have:¬ x.size≤600:=fun h=>HGO.out ⟨rfl,h⟩
     omega
    go_wp2
    go_meet
    exact ⟨rfl,HB2.out⟩
  case rest =>
  obtain ⟨rfl,hcut2⟩:=hcut;obtain ⟨W2,rfl⟩:∃W2:World,W2=wc:=⟨_,rfl⟩;have HB2:=zh hcut2.out;clear hcut2;go_wp2_with fail;refine (HPB.out W2 HB2.out).mono ?_;rintro e w3 ⟨rfl,hb3⟩;have HB3:=zh (zB (zB HB1.out HB2.out) hb3);clear hb3;go_wp2;go_ret;exact ⟨rfl,HB3.out⟩
 obtain ⟨rfl,hx6⟩:=hgo;have HV:=zh (HOK.out rfl).1;have HN:Hid (Num64 s):=(HOK.out rfl).2.2.2.2.2.1;have HXZ:Hid (x.size≤140737488355328):=by show _≤_;omega
 have g1:¬ (x.size:Int) > 600:=by omega
 clear HOK;go_wp2_with fail;refine (HPB.out W1 (Below.refl _ _)).mono ?_;rintro e w2 ⟨rfl,hb2⟩;have HB2:=zh (zB HB1.out hb2);have HS2:=zh (HS1.out.below hb2);have HX2:=zh (zE HX1.out hb2);clear hb2 HBX HS1 HX1 HB1 HPB;have x0:=zb HX2.out;go_wp2_with fail;refine (literalParse_any HV.out HN.out B b t x HXZ.out w2 HS2.out (HE.out.below HB2.out) (HSY.out.below HB2.out)).mono ?_
 rintro e w3 ⟨⟨v,F1,f1,F2,f2,F3,f3⟩,rfl,hv3,hr3,hb3⟩;simp only at hv3 hr3;have HBY:=zh (zD w3 (v.box F1 f1 F2 f2 F3 f3));have HXV:=zh (heap_alloc_new w3 (v.box F1 f1 F2 f2 F3 f3));have HB3:=zh (zB (zB HB2.out hb3) HBY.out);have HS3:=zh (HS2.out.below (zB hb3 HBY.out));have HX3:=zh (zE (zE HX2.out hb3) HBY.out);have HR3:=zh (hr3.below HBY.out);have HV3:=zh hv3;clear hb3 hv3 hr3 x0;simp only
 by_cases he:(parseS false s t x).2=0
 case neg =>
  have HZ:Hid (decide (v=zeroV)=true):=decide_eq_true (HV3.out.trans (parse_zero he));have q0:((parseS false s t x).2 != 0)=true:=by simp[he]
  clear he;generalize (parseS false s t x).2=er at *;go_upto_region 5 with fail
  generalize w3.alloc (v.box F1 f1 F2 f2 F3 f3)=W3 at *;generalize w3.heap.size=q3 at *;obtain ⟨v0,v1,v2,v3,v4,v5,v6,v7⟩:=vbox8 HXV.out;go_wp2_with fail;refine (r08Equal_any v zeroV F1 f1 F2 f2 F3 f3 none 0 none 0 none 0 W3 HR3.out (zero_ok _)).mono ?_;rintro e w5 ⟨rfl,hb5⟩;rw[HZ.out];have HB5:=zh (zB HB3.out hb5);clear hb5 v0 v1 v2 v3 v4 v5 v6 v7;go_wp2;go_ret;exact ⟨rfl,HB5.out⟩
 obtain ⟨hf,hz,a,b',h1,h2,h3⟩:=tl_facts HV.out HN.out HV3.out he (by omega)
 have HFM:=zh (fun W=>format_any (s:=s) B b HV.out HN.out t v (by omega) F1 f1 F2 f2 F3 f3 W)
 rw[hf] at HFM;simp only[if_true] at HFM;have HT1:=zh h1;have HT2:=zh h2;have HT3:=zh h3;have HZ:=zh hz;generalize fmtT s t v=FT at *;rw[he];clear hf hz h1 h2 h3 he;go_upto_region 7 with fail
 generalize w3.alloc (v.box F1 f1 F2 f2 F3 f3)=W3 at *;generalize w3.heap.size=q3 at *;obtain ⟨v0,v1,v2,v3,v4,v5,v6,v7⟩:=vbox8 HXV.out;have x0:=zb HX3.out;go_wp2_with fail;refine (HFM.out _ HS3.out HR3.out (HE.out.below HB3.out).tab).mono ?_;rintro e w4 ⟨rfl,hb4⟩;have HB4:=zh (zB HB3.out hb4);clear hb4 v0 v1 v2 v3 v4 v5 v6 v7 x0;go_wp2_with fail
 refine (rToks_any x HXZ.out _ (HE.out.below HB4.out)).mono ?_;rintro e w5 ⟨A5,c5,n5,er5,o5,rfl,ht5,hl5,hb5,hm5⟩;rw[if_neg (by omega),HT1.out] at hm5
 obtain ⟨rfl,rfl,rfl⟩:=hm5;have HT5:=zh ht5;have HB5:=zh (zB HB4.out hb5);clear ht5 hb5 hl5;go_wp2_with fail;refine (rToks_any FT (by have:=HZ.out;omega) _ (HE.out.below HB5.out)).mono ?_
 rintro e w6 ⟨A6,c6,n6,er6,o6,rfl,ht6,hl6,hb6,hm6⟩;rw[if_neg (by have:=HZ.out;omega),HT2.out] at hm6
 obtain ⟨rfl,rfl,rfl⟩:=hm6;have HT6:=zh ht6;have HT56:=zh (HT5.out.below hb6);have HB6:=zh (zB HB5.out hb6);clear ht6 hb6 hl6;go_wp2_with fail;refine (words_any _ A5 c5 _ HT56.out).mono ?_;rintro e w7 ⟨A7,c7,L7,rfl,ht7,hs7,hb7⟩;have HT7:=zh ht7;have HS7:=zh hs7;have HT67:=zh (HT6.out.below hb7);have HB7:=zh (zB HB6.out hb7);clear ht7 hs7 hb7;go_wp2_with fail
 refine (words_any _ A6 c6 _ HT67.out).mono ?_;rintro e w8 ⟨A8,c8,L8,rfl,ht8,hs8,hb8⟩;have HT8:=zh ht8;have HS8:=zh hs8;have HT78:=zh (HT7.out.below hb8);have HB8:=zh (zB HB7.out hb8);clear ht8 hs8 hb8;go_wp2_with fail;refine (r06Same_any L7 L8 A7 A8 c7 c8 _ HT78.out HT8.out (HS7.out.trans (HT3.out.trans HS8.out.symm))).mono ?_;rintro e w9 ⟨rfl,hb9⟩;have HB9:=zh (zB HB8.out hb9);clear hb9;go_wp2
 go_ret
 exact ⟨rfl,HB9.out⟩
end Go.Proofs.YthkkllmmbefedaaGreatDoor


