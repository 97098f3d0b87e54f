/-
  Walks: the law LiteralRead.
-/
import Derived.Test.YthkkllmmbefedaaGreatDoorQSXRL
import Derived.Test.YthkkllmmbefedaaGreatDoorQAKM
import Derived.Test.YthkkllmmbefedaaGreatDoorQGD0
import Derived.Test.YthkkllmmbefedaaGreatDoorQGQ3
import Derived.Test.YthkkllmmbefedaaGreatDoorQGE0
import Derived.Test.YthkkllmmbefedaaGreatDoorQGK0
import Derived.Test.YthkkllmmbefedaaGreatDoorQDR4
namespace Go.Proofs.YthkkllmmbefedaaGreatDoor
open Go.RowKit
set_option maxHeartbeats 16000000
set_option maxRecDepth 100000
theorem ABS {w2 w6:World} {q:Nat} {x:BX} (hz:w6.heap[q]? = some I6) (hq:w2.heap.size<=q) (hb:Below w2.heap.size w2 w6) (hr:Off (fun p=>p=q) w6 fun u=>BO u x.v x.A1 x.A2 x.A3) :
  (w6.setCells q 0 x.cells).rangeAt q 0 x.cells/\BO (w6.setCells q 0 x.cells) x.v x.A1 x.A2 x.A3/\Below w2.heap.size w2 (w6.setCells q 0 x.cells) :=
 ⟨World.rangeAt_setCells_same w6 q 0 x.cells (GD hz),(hr.step (by rw[size_setCells];exact AAQ _) fun p hp _=>zN hp _ _ _).out,yC _ hq _ _ _ hb⟩
theorem ABQ (d:List Aa) (t:Int) (l:List AB) (A:zo) (c:Nat) (AL:zo) (cL:Nat) (w:World) (hd:BR w A d) (ht:JF w AL l) (hE:Gq w) {SA:zo} {sc:Nat} (hS:LA w SA sc) :
  Calls Tryz.prog 9 #[DU A d.length c,.int .i64 t,.slice AL l.length cL] w (IW true w):=by
 have HD:=zh hd;have HT:=zh ht;have HE:=zh hE;have NM:=zh hS;have HX0:=zh (AAA w (.cells #[.slice A d.length c] 24));have HB0:=zh (zD w (.cells #[.slice A d.length c] 24));clear hd ht hE hS
 go_enter Tryz.func9,Tryz.ntmps9
 go_upto_region 1 with fail
 generalize w.alloc (.cells #[.slice A d.length c] 24)=W0 at *;have x0:=zb HX0;go_wp2_with fail;refine (pJ d A c _ (HD.out.below HB0)).mono ?_;rintro e w1 ⟨B,b,s,ok,rfl,hs,hok,hno,hb1⟩;have BI:=zh (zD w1 (.cells #[.slice B s.length b] 31));have Kg:=zh (hs.below BI);have TK:=zh hok;have HB1:=zh (zB (zB HB0 hb1) BI)
 have EM:=zh (AAA w1 (.cells #[.slice B s.length b] 31));clear hs hok hno hb1 x0 HX0 HB0;go_upto_region 2 with fail
 generalize w1.alloc (.cells #[.slice B s.length b] 31)=W1 at *;generalize w1.heap.size=q1 at *;have YZ:Hid (∀W2,Below W1.heap.size W1 W2->Calls Tryz.prog 12 #[] W2 (IW true W2)):=fun W2 hb=>Z6 _ (HE.out.below (zB HB1 hb)) (NM.out.below (zB HB1 hb))
 by_cases hgo:ok=true/\l.length<=120
 case neg =>
  have HGO:=zh hgo;clear hgo TK
  go_cut [30] (fun z wx=>z = .bool true/\Hid (Below W1.heap.size W1 wx))
  case first =>
   go_wp2_with fail
   refine (YZ.out W1 (Pd _ _)).mono ?_;rintro e w2 ⟨rfl,hb2⟩;have HB2:=zh hb2;clear hb2
   cases ok with
   | false =>
    go_wp2
    go_meet
    exact ⟨rfl,HB2.out⟩
   | true =>
    have g1:(l.length:Int) > 120:=by
     have:¬ l.length<=120:=fun h=>HGO.out ⟨rfl,h⟩
     omega
    go_wp2
    go_meet
    exact ⟨rfl,HB2.out⟩
  case rest =>
  obtain ⟨rfl,nE⟩:=hcut;obtain ⟨W2,rfl⟩:∃W2:World,W2=wc:=⟨_,rfl⟩;have HB2:=zh nE.out;clear nE;go_wp2_with fail;refine (YZ.out W2 HB2).mono ?_;rintro e w3 ⟨rfl,hb3⟩;have HB3:=zh (zB (zB HB1 HB2) hb3);clear hb3;go_wp2;go_ret;exact ⟨rfl,HB3.out⟩
 obtain ⟨rfl,hl12⟩:=hgo;have HV:=zh (TK.out rfl).1;have HN:Hid (Ca s):=(TK.out rfl).2.2.2.2.2.1;have HL:Hid (l.length<=1000000):=by show _<=_;omega
 have g1:¬ (l.length:Int) > 120:=by omega
 clear TK;go_wp2_with fail;refine (YZ.out W1 (Pd _ _)).mono ?_;rintro e w2 ⟨rfl,hb2⟩;have HB2:=zh (zB HB1 hb2);have HS2:=zh (Kg.out.below hb2);have F6:=zh (zE EM hb2);have HT2:=zh (HT.out.below HB2);have tJ:Hid (w2.cell? ⟨q1,0,none⟩=some (.slice B s.length b)):=by show _=_;rw[AAB _ _ _ _ _ _ F6.out];rfl
 clear hb2 BI Kg EM HB1 YZ HT F6;go_upto_region 4 with fail
 go_cut [9,10,11] (fun p z n wx=>∃ (x:BX) (q:Nat),p = .pointer (some ⟨q,0,none⟩)/\z = .int .i64 (bf false s t l).2.1/\n = .int .i64 (bf false s t l).2.2/\Hid (x.v=(bf false s t l).1/\wx.rangeAt q 0 x.cells/\BO wx x.v x.A1 x.A2 x.A3/\Below w2.heap.size w2 wx))
 case first =>
  refine wp_region_held_drew (S:=(fun w'=>w'.cell? ⟨q1,0,none⟩=some (.slice B s.length b)/\Hid (Below w2.heap.size w2 w'))) (by kernel_rfl) ?_ (fun AU=>?_)
  ·(try dsimp only);exact ⟨zA (zC (Pd _ _) 1) tJ,zC (Pd _ _) 1⟩
  refine tL 0 ?_;refine tL 1 ?_;refine tL 2 ?_;refine wpAnyH_ready (rs:=[3,9]) (by kernel_rfl) (by simp) ?_
  refine (AllReadyH.cons rfl (fun K hK=>?_) (AllReadyH.cons rfl (fun K hK=>?_) AllReadyH.nil))
  ·
   go_simp
   (refine (ABZ l AL cL _ (HT2.out.below AU.2.out)).mono ?_;rintro e w5 ⟨D,dd,rfl,ht5,hb5⟩;have YU:=zh ht5;have BB:=zh (zB AU.2.out hb5);clear ht5 hb5)
   refine hK.out _ _ ?_ (fun AU=>?_)
   ·(try dsimp only);exact ⟨zA BB tJ,BB.out⟩
   clear hK K;refine wpAnyH_ready (rs:=[4,9]) (by kernel_rfl) (by simp) ?_
   refine (AllReadyH.cons rfl (fun K hK=>?_) (AllReadyH.cons rfl (fun K hK=>?_) AllReadyH.nil))
   ·
    go_simp
    (refine (ABK HV HN B b t l D dd HL _ (HS2.out.below AU.2.out) YU).mono ?_;rintro e w6 ⟨x,rfl,hv6,ho6,hb6⟩;have DN:=zh hv6;have HO6:=zh ho6;have BA:=zh (zB AU.2.out hb6);clear hv6 ho6 hb6)
    refine hK.out _ _ ?_ (fun AU=>?_)
    ·(try dsimp only);exact ⟨zA BA tJ,BA.out⟩
    clear hK K;refine tL 5 ?_;try simp only[ps]
    refine tL 6 ?_;refine tL 7 ?_;refine tL 8 ?_;refine tR 9 (fun K hK=>?_)
    go_simp
    refine hK.out _ _ ?_ (fun AU=>?_)
    ·(try dsimp only);exact ⟨zA (zB AU.2.out (zD _ _)) tJ,zB AU.2.out (zD _ _)⟩
    clear hK K;refine tR 10 (fun K hK=>?_)
    (have HZE:=zh (ABS (w2:=w2) (q:=w6.heap.size) (AAA w6 I6) BA.out.size (zB BA (zD w6 I6)) ((HO6.out.mono (S':=fun p=>p=w6.heap.size) fun p hp e=>absurd e (Nat.ne_of_lt hp)).alloc I6));simp only[List.getElem_toArray,List.getElem_cons_zero,List.getElem_cons_succ];rw[AAC (by rfl)];refine wp_store_mid 28 (.tmp 9) (.tmp 38) rfl (w6.heap.size) (0) (x.cells.toArray) (by rfl) (by rfl) ?_ ?_ ?_ ?_;(exact GD (AAA w6 I6));(exact zW);(exact E8 x))
    refine hK.out _ _ ?_ (fun AU=>?_)
    ·(try dsimp only);exact ⟨zA (HZE.out.2.2) tJ,HZE.out.2.2⟩
    clear hK K;refine tL 11 ?_;try simp only[ps]
    refine tL 12 ?_;refine wpAnyH_done (by kernel_rfl) ?_ _
    (go_wp2;go_meet;exact ⟨x,_,rfl,rfl,rfl,DN.out,HZE.out⟩)
   ·
    go_simp
    refine hK.out _ _ ?_ (fun AU=>?_)
    ·(try dsimp only);exact ⟨zA (zB AU.2.out (zD _ _)) tJ,zB AU.2.out (zD _ _)⟩
    clear hK K;refine tR 4 (fun K hK=>?_)
    go_simp
    (refine (ABK HV HN B b t l D dd HL _ (HS2.out.below AU.2.out) (YU.out.below (zD w5 I6))).mono ?_;rintro e w6 ⟨x,rfl,hv6,ho6,hb6⟩;have DN:=zh hv6;have HO6:=zh ho6;have BA:=zh (zB AU.2.out hb6);have zu:=zh (zE (AAA w5 I6) hb6);have XO:=zh BB.out.size;clear hv6 ho6 hb6)
    refine hK.out _ _ ?_ (fun AU=>?_)
    ·(try dsimp only);exact ⟨zA BA tJ,BA.out⟩
    clear hK K;refine tL 5 ?_;refine tL 6 ?_;refine tL 7 ?_;try simp only[ps]
    refine tL 8 ?_;refine tR 10 (fun K hK=>?_)
    (have HZE:=zh (ABS (w2:=w2) (q:=w5.heap.size) zu XO BA (HO6.out.mono (S':=fun p=>p=w5.heap.size) fun p _ e=>by rw[e,World.size_alloc];exact Nat.lt_succ_self _));simp only[List.getElem_toArray,List.getElem_cons_zero,List.getElem_cons_succ];rw[AAC (by rfl)];refine wp_store_mid 28 (.tmp 9) (.tmp 38) rfl (w5.heap.size) (0) (x.cells.toArray) (by rfl) (by rfl) ?_ ?_ ?_ ?_;(exact GD zu);(exact zW);(exact E8 x))
    refine hK.out _ _ ?_ (fun AU=>?_)
    ·(try dsimp only);exact ⟨zA (HZE.out.2.2) tJ,HZE.out.2.2⟩
    clear hK K;refine tL 11 ?_;refine tL 12 ?_;refine wpAnyH_done (by kernel_rfl) ?_ _
    (go_wp2;go_meet;exact ⟨x,_,rfl,rfl,rfl,DN.out,HZE.out⟩)
  ·
   go_simp
   refine hK.out _ _ ?_ (fun AU=>?_)
   ·(try dsimp only);exact ⟨zA (zB AU.2.out (zD _ _)) tJ,zB AU.2.out (zD _ _)⟩
   clear hK K;refine tR 3 (fun K hK=>?_)
   go_simp
   (refine (ABZ l AL cL _ (HT2.out.below AU.2.out)).mono ?_;rintro e w5 ⟨D,dd,rfl,ht5,hb5⟩;have YU:=zh ht5;have BB:=zh (zB AU.2.out hb5);have HZ5:=zh (zE (w:=(w2.alloc I6).drew) (AAA w2 I6) hb5);have HL5:=zh ((zg.1 HZ5).1);clear ht5 hb5)
   refine hK.out _ _ ?_ (fun AU=>?_)
   ·(try dsimp only);exact ⟨zA BB tJ,BB.out⟩
   clear hK K;try simp only[ps]
   refine tR 4 (fun K hK=>?_)
   go_simp
   (refine (ABK HV HN B b t l D dd HL _ (HS2.out.below AU.2.out) YU).mono ?_;rintro e w6 ⟨x,rfl,hv6,ho6,hb6⟩;have DN:=zh hv6;have HO6:=zh ho6;have BA:=zh (zB AU.2.out hb6);have zu:=zh (zE HZ5 hb6);clear hv6 ho6 hb6)
   refine hK.out _ _ ?_ (fun AU=>?_)
   ·(try dsimp only);exact ⟨zA BA tJ,BA.out⟩
   clear hK K;refine tL 5 ?_;refine tL 6 ?_;refine tL 7 ?_;refine tL 8 ?_;refine tR 10 (fun K hK=>?_)
   (have HZE:=zh (ABS (w2:=w2) (q:=w2.heap.size) zu (AAQ _) BA (HO6.out.mono (S':=fun p=>p=w2.heap.size) fun p _ e=>by rw[e];exact HL5.out));simp only[List.getElem_toArray,List.getElem_cons_zero,List.getElem_cons_succ];rw[AAC (by rfl)];refine wp_store_mid 28 (.tmp 9) (.tmp 38) rfl (w2.heap.size) (0) (x.cells.toArray) (by rfl) (by rfl) ?_ ?_ ?_ ?_;(exact GD zu);(exact zW);(exact E8 x))
   refine hK.out _ _ ?_ (fun AU=>?_)
   ·(try dsimp only);exact ⟨zA (HZE.out.2.2) tJ,HZE.out.2.2⟩
   clear hK K;try simp only[ps]
   refine tL 11 ?_;refine tL 12 ?_;refine wpAnyH_done (by kernel_rfl) ?_ _
   (go_wp2;go_meet;exact ⟨x,_,rfl,rfl,rfl,DN.out,HZE.out⟩)
 case rest =>
 obtain ⟨x,q2,rfl,rfl,rfl,hcc⟩:=hcut;obtain ⟨W2,rfl⟩:∃W2:World,W2=wc:=⟨_,rfl⟩;have F6:=zh hcc.out;have Ie:=zh (HS2.out.below hcc.out.2.2.2);have HT3:=zh (HT2.out.below hcc.out.2.2.2);have HB3:=zh (zB HB2 hcc.out.2.2.2);have x0:W2.cell? ⟨q1,0,none⟩=some (.slice B s.length b):=zA hcc.out.2.2.2 tJ;clear hcc HS2 HT2 HB2 tJ;go_wp2_with fail
 refine (ABO HV HN B b t l AL cL HL W2 Ie HT3).mono ?_;rintro e w4 ⟨u,rfl,hv4,hr4,hb4⟩;have JV:=zh (zD w4 (u.v.box u.A1 u.c1 u.A2 u.c2 u.A3 u.c3));have HXU:=zh (AAA w4 (u.v.box u.A1 u.c1 u.A2 u.c2 u.A3 u.c3));have HRX:=zh (EG (zB hb4 JV) F6.out.2.1);have HR3:=zh (F6.out.2.2.1.below (zB hb4 JV));have BD:=zh (zB (zB HB3 hb4) JV)
 have HR4:=zh (hr4.below JV);have HUV:Hid (decide (x.v=u.v)=true):=AAM (F6.out.1.trans hv4.symm);clear hb4 hv4 hr4 x0 F6 Ie HT3 HB3;generalize (bf false s t l).2.1=en at *;generalize (bf false s t l).2.2=er at *;go_upto_region 6 with fail
 generalize w4.alloc (u.v.box u.A1 u.c1 u.A2 u.c2 u.A3 u.c3)=W4 at *;generalize w4.heap.size=q4 at *;obtain ⟨v0,v1,v2,v3,v4,v5,v6,v7⟩:=Ro HRX;obtain ⟨u0,u1,u2,u3,u4,u5,u6,u7⟩:=TQ HXU;go_wp2_with fail;refine (Rz x.v u.v x.A1 x.c1 x.A2 x.c2 x.A3 x.c3 u.A1 u.c1 u.A2 u.c2 u.A3 u.c3 W4 HR3 HR4).mono ?_;rintro e w5 ⟨rfl,hb5⟩;rw[HUV.out];have BB:=zh (zB BD hb5)
 have q5:(er==er)=true:=by simp
 have q6:(en==en)=true:=by simp
 clear hb5 v0 v1 v2 v3 v4 v5 v6 v7 u0 u1 u2 u3 u4 u5 u6 u7;go_wp2;go_ret;exact ⟨rfl,BB.out⟩
end Go.Proofs.YthkkllmmbefedaaGreatDoor



