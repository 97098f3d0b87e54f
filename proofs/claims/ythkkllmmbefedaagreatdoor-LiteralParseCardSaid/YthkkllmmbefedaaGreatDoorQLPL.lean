/-
  Walks: the law LiteralParse.
-/
import Derived.Test.YthkkllmmbefedaaGreatDoorQAKM
import Derived.Test.YthkkllmmbefedaaGreatDoorQGD0
import Derived.Test.YthkkllmmbefedaaGreatDoorQNQG
import Derived.Test.YthkkllmmbefedaaGreatDoorQDR4
namespace Go.Proofs.YthkkllmmbefedaaGreatDoor
open Go.RowKit
set_option maxHeartbeats 16000000
set_option maxRecDepth 100000
theorem SG (d:List Aa) (t:Int) (x:ByteArray) (A:zo) (c:Nat) (w:World) (hd:BR w A d) (_hx:x.size<=140737488355328) (hE:Gq w) {SA:zo} {sc:Nat} (hS:LA w SA sc) :
  Calls Tryz.prog 5 #[DU A d.length c,.int .i64 t,.string x] w (IW true w):=by
 have HD:=zh hd;have HE:=zh hE;have NM:=zh hS;have HX0:=zh (AAA w (.cells #[.slice A d.length c] 24));have HB0:=zh (zD w (.cells #[.slice A d.length c] 24));clear hd hE hS
 go_enter Tryz.func5,Tryz.ntmps5
 go_upto_region 1 with fail
 generalize w.alloc (.cells #[.slice A d.length c] 24)=W0 at *;have x0:=zb HX0;go_wp2_with fail;refine (pJ d A c _ (HD.out.below HB0)).mono ?_;rintro e w1 ⟨B,b,s,ok,rfl,hs,hok,hno,hb1⟩;have BI:=zh (zD w1 (.cells #[.slice B s.length b] 31));have Kg:=zh (hs.below BI);have TK:=zh hok;have HB1:=zh (zB (zB HB0 hb1) BI)
 have EM:=zh (AAA w1 (.cells #[.slice B s.length b] 31));clear hs hok hno hb1 x0 HX0 HB0;go_upto_region 2 with fail
 generalize w1.alloc (.cells #[.slice B s.length b] 31)=W1 at *;generalize w1.heap.size=q1 at *;have YZ:Hid (∀W2,Below W1.heap.size W1 W2->Calls Tryz.prog 12 #[] W2 (IW true W2)):=fun W2 hb=>Z6 _ (HE.out.below (zB HB1 hb)) (NM.out.below (zB HB1 hb))
 by_cases hgo:ok=true/\x.size<=600
 case neg =>
  have HGO:=zh hgo;clear hgo TK
  go_cut [28] (fun z wx=>z = .bool true/\Hid (Below W1.heap.size W1 wx))
  case first =>
   go_wp2_with fail
   refine (YZ.out W1 (Pd _ _)).mono ?_;rintro e w2 ⟨rfl,hb2⟩;have HB2:=zh hb2;clear hb2
   cases ok with
   | false =>
    go_wp2
    go_meet
    exact ⟨rfl,HB2.out⟩
   | true =>
    have g1:(x.size:Int) > 600:=by
     have:¬ x.size<=600:=fun h=>HGO.out ⟨rfl,h⟩
     omega
    go_wp2
    go_meet
    exact ⟨rfl,HB2.out⟩
  case rest =>
  obtain ⟨rfl,nE⟩:=hcut;obtain ⟨W2,rfl⟩:∃W2:World,W2=wc:=⟨_,rfl⟩;have HB2:=zh nE.out;clear nE;go_wp2_with fail;refine (YZ.out W2 HB2).mono ?_;rintro e w3 ⟨rfl,hb3⟩;have HB3:=zh (zB (zB HB1 HB2) hb3);clear hb3;go_wp2;go_ret;exact ⟨rfl,HB3.out⟩
 obtain ⟨rfl,hx6⟩:=hgo;have HV:=zh (TK.out rfl).1;have HN:Hid (Ca s):=(TK.out rfl).2.2.2.2.2.1;have sU:Hid (x.size<=140737488355328):=by show _<=_;omega
 have g1:¬ (x.size:Int) > 600:=by omega
 clear TK;go_wp2_with fail;refine (YZ.out W1 (Pd _ _)).mono ?_;rintro e w2 ⟨rfl,hb2⟩;have HB2:=zh (zB HB1 hb2);have HS2:=zh (Kg.out.below hb2);have F6:=zh (zE EM hb2);clear hb2 BI Kg EM HB1 YZ;have x0:=zb F6;go_wp2_with fail;refine (Cr HV HN B b t x sU w2 HS2 (HE.out.below HB2) (NM.out.below HB2)).mono ?_
 rintro e w3 ⟨⟨v,F1,f1,F2,f2,F3,f3⟩,rfl,hv3,hr3,hb3⟩;simp only at hv3 hr3;have r9:=zh (zD w3 (v.box F1 f1 F2 f2 F3 f3));have XI:=zh (AAA w3 (v.box F1 f1 F2 f2 F3 f3));have HB3:=zh (zB (zB HB2 hb3) r9);have Ie:=zh (HS2.out.below (zB hb3 r9));have JQ:=zh (zE (zE F6 hb3) r9);have HR3:=zh (hr3.below r9);have FX:=zh hv3;clear hb3 hv3 hr3 x0;simp only
 go_upto_region 5 with fail
 generalize w3.alloc (v.box F1 f1 F2 f2 F3 f3)=W3 at *;generalize w3.heap.size=q3 at *;have x0:=zb JQ;go_wp2_with fail;refine (Rx HV HN B b t x sU W3 Ie (HE.out.below HB3)).mono ?_;rintro e w4 ⟨⟨u,G1,g1',G2,g2',G3,g3'⟩,rfl,hv4,hr4,hb4⟩;simp only at hv4 hr4;have JV:=zh (zD w4 (u.box G1 g1' G2 g2' G3 g3'))
 have HXU:=zh (AAA w4 (u.box G1 g1' G2 g2' G3 g3'));have VK:=zh (zE (zE XI hb4) JV);have BD:=zh (zB (zB HB3 hb4) JV);have HR4:=zh (hr4.below JV);have AAR:=zh (HR3.out.below (zB hb4 JV));have HUV:Hid (decide (v=u)=true):=AAM (FX.out.trans hv4.symm);clear hb4 hv4 hr4 x0 XI HR3 JQ Ie;simp only;generalize (Al false s t x).2=er at *
 go_upto_region 6 with fail
 generalize w4.alloc (u.box G1 g1' G2 g2' G3 g3')=W4 at *;generalize w4.heap.size=q4 at *;obtain ⟨v0,v1,v2,v3,v4,v5,v6,v7⟩:=TQ VK;obtain ⟨u0,u1,u2,u3,u4,u5,u6,u7⟩:=TQ HXU;go_wp2_with fail;refine (Rz v u F1 f1 F2 f2 F3 f3 G1 g1' G2 g2' G3 g3' W4 AAR HR4).mono ?_;rintro e w5 ⟨rfl,hb5⟩;rw[HUV.out];have BB:=zh (zB BD hb5);have q5:(er==er)=true:=by simp
 clear hb5 v0 v1 v2 v3 v4 v5 v6 v7 u0 u1 u2 u3 u4 u5 u6 u7;go_wp2;go_ret;exact ⟨rfl,BB.out⟩
end Go.Proofs.YthkkllmmbefedaaGreatDoor



