/-
  Walks: the law PrinterErrors.
-/
import Derived.Test.YtdfolgmcggdjdaaGreatDoorQRT9
import Derived.Test.YtdfolgmcggdjdaaGreatDoorQGI1
namespace Go.Proofs.YtdfolgmcggdjdaaGreatDoor
open Go.RowKit
set_option maxHeartbeats 16000000
set_option maxRecDepth 100000
def TPost (T:List TyD) (I:List Int) (E:Int) (w:World) (e:Ending) (w':World):Prop :=
 ∃A' c' B c2,e = .returned (.tuple #[.agg #[.slice A' T.length c'],.slice B I.length c2,.int .i64 E])∧TysR w' A' T∧IntsR w' B I∧Below w.heap.size w w'
theorem lawErrs_any (s:List TyD) (A:zo) (c:Nat) (w:World) (hs:TysR w A s) (hn:Num64 s) (htab:Tab w) (hz:zJ s=0→∀t∈s,∀m∈t.mems,(dfT s m).size≤1073741824) :
  Calls Tryz.prog 4 #[.agg #[.slice A s.length c]] w (SamePost true w):=by
 have HS:=zh hs;have HTB:=zh htab;have HDS:=zh (defSaid (s:=s) A c hn);have HDF:Hid (zJ s=0→∀t∈s,∀m∈t.mems,DfOk s A c (dfT s) m):=fun hv t ht m hm=>dfOk A c hv hn m (hz hv t ht m hm)
 have HRF:Hid (zJ s=0→defErr s=0→∀t∈s,∀m∈t.mems,RDfOk s A c (dfT s) m):=fun hv _ t ht m hm=>rDfOk A c hv hn m (hz hv t ht m hm)
 have HCK:Hid (CkSaid s A c (defErr s)):=fun W hsW htW=>(rCheck_any s A c hn (dfT s) HRF.out W hsW htW).mono fun e w' h=>⟨checkT s (dfT s),h.1.trans (by rw[check_same]),h.2⟩
 obtain ⟨P,hP⟩:∃P,printD s (defErr s) (dfT s)=P:=⟨_,rfl⟩;obtain ⟨Q,hQ⟩:∃Q,decide (tidyE s (defErr s)=0∧tidyT s (defErr s)=s)=Q:=⟨_,rfl⟩;obtain ⟨T,hT⟩:∃T,tidyT s (defErr s)=T:=⟨_,rfl⟩;obtain ⟨I,hI⟩:∃I,tidyI s (defErr s)=I:=⟨_,rfl⟩;obtain ⟨E,hE⟩:∃E,tidyE s (defErr s)=E:=⟨_,rfl⟩;obtain ⟨O,hO⟩:∃O,outE s=O:=⟨_,rfl⟩
 have HPP:Hid (∀W,TysR W A s→Tab W→Calls Tryz.prog 12 #[.agg #[.slice A s.length c]] W fun e w'=>e = .returned (.tuple #[.string P.1,.int .i64 P.2])∧Below W.heap.size W w'):=fun W h1 h2=>by
  rw[←hP];exact print_any s (defErr s) (dfT s) A c HDS.out hn (fun hc=>HDF.out (check_parts hc).1) W h1 h2
 have HRP:Hid (∀W,TysR W A s→Tab W→Calls Tryz.prog 16 #[.agg #[.slice A s.length c]] W fun e w'=>e = .returned (.tuple #[.string P.1,.int .i64 P.2])∧Below W.heap.size W w'):=fun W h1 h2=>by
  rw[←hP];exact rPrint_any s A c hn (dfT s) HRF.out W h1 h2
 have HTI:Hid (∀W,TysR W A s→Calls Tryz.prog 8 #[.agg #[.slice A s.length c]] W (TPost T I E W)):=fun W h1=>by
  rw[←hT,←hI,←hE];exact tidy_any s (defErr s) A c HDS.out W h1
 have HRT:Hid (∀W,TysR W A s→Tab W→Calls Tryz.prog 9 #[.agg #[.slice A s.length c]] W (TPost T I E W)):=fun W h1 h2=>by
  rw[←hT,←hI,←hE];exact rTidy_any s (defErr s) A c HCK.out W h1 h2
 have HIT:Hid (∀W,TysR W A s→Calls Tryz.prog 13 #[.agg #[.slice A s.length c]] W (SamePost Q W)):=fun W h1=>by
  rw[←hQ];exact isTidy_any s (defErr s) A c HDS.out W h1
 have HRI:Hid (∀W,TysR W A s→Tab W→Calls Tryz.prog 14 #[.agg #[.slice A s.length c]] W (SamePost Q W)):=fun W h1 h2=>by
  rw[←hQ];exact rIsTidy_any s (defErr s) A c HCK.out W h1 h2
 have HOO:Hid (∀W,TysR W A s→Tab W→Calls Tryz.prog 17 #[.agg #[.slice A s.length c]] W fun e w'=>e = .returned (.tuple #[.string O.1,.int .i64 O.2])∧Below W.heap.size W w'):=fun W h1 h2=>by
  rw[←hO];exact outline_any s A c W h1 h2
 have HRO:Hid (∀W,TysR W A s→Tab W→Calls Tryz.prog 18 #[.agg #[.slice A s.length c]] W fun e w'=>e = .returned (.tuple #[.string O.1,.int .i64 O.2])∧Below W.heap.size W w'):=fun W h1 h2=>by
  rw[←hO];exact rOutline_any s A c W h1 h2
 have HB0:=zh (zD w (.cells #[.slice A s.length c] 27));have HX0:=zh (heap_alloc_new w (.cells #[.slice A s.length c] 27));obtain ⟨P1,P2⟩:=P;obtain ⟨O1,O2⟩:=O;clear hs hn htab hz hP hQ hT hI hE hO HDS HDF HRF HCK
 go_enter Tryz.func4,Tryz.ntmps4
 go_wp2_with fail
 generalize w.alloc (.cells #[.slice A s.length c] 27)=W1 at *;refine (awake_any W1 (HTB.out.below HB0.out)).mono ?_;rintro e w1 ⟨rfl,hb1⟩;have HB1:=zh (zB HB0.out hb1);have HX1:=zh (zF HX0.out hb1);have x0:=zb HX1.out;clear hb1;go_wp2_with fail;refine (few07_any s A c w1 (HS.out.below HB1.out)).mono ?_;rintro e w2 ⟨v2,rfl,hb2⟩;have HB2:=zh (zB HB1.out hb2);have HX2:=zh (zF HX1.out hb2)
 clear hb2 x0
 cases v2 with
 | false =>
  go_wp2_with fail
  refine (awake_any w2 (HTB.out.below HB2.out)).mono ?_;rintro e w3 ⟨rfl,hb3⟩;have HB3:=zh (zB HB2.out hb3);clear hb3;go_wp2;go_ret;exact ⟨rfl,HB3.out⟩
 | true =>
  have x0:=zb HX2.out;go_wp2_with fail;refine (HPP.out w2 (HS.out.below HB2.out) (HTB.out.below HB2.out)).mono ?_;rintro e w3 ⟨rfl,hb3⟩;have HB3:=zh (zB HB2.out hb3);have HX3:=zh (zF HX2.out hb3);clear hb3 x0;have x0:=zb HX3.out;go_wp2_with fail;refine (HRP.out w3 (HS.out.below HB3.out) (HTB.out.below HB3.out)).mono ?_;rintro e w4 ⟨rfl,hb4⟩;have HB4:=zh (zB HB3.out hb4);have HX4:=zh (zF HX3.out hb4)
  clear hb4 x0 HPP HRP;have x0:=zb HX4.out;go_wp2_with fail;refine (HTI.out w4 (HS.out.below HB4.out)).mono ?_;rintro e w5 ⟨A5,c5,B5,d5,rfl,ht5,hi5,hb5⟩;have HBN5:=zh (zD w5 (.cells #[.slice A5 T.length c5] 27));have HT5:=zh (ht5.below HBN5.out);have HI5:=zh (hi5.below HBN5.out);have HY5:=zh (heap_alloc_new w5 (.cells #[.slice A5 T.length c5] 27));have HB5:=zh (zB HB4.out (zB hb5 HBN5.out))
  have HX5:=zh (zF HX4.out (zB hb5 HBN5.out));clear ht5 hi5 hb5 x0 HTI HBN5;go_upto_region 6 with fail
  generalize w5.alloc (.cells #[.slice A5 T.length c5] 27)=W5 at *;generalize w5.heap.size=q5 at *;have x0:=zb HX5.out;go_wp2_with fail;refine (HRT.out W5 (HS.out.below HB5.out) (HTB.out.below HB5.out)).mono ?_;rintro e w6 ⟨A6,c6,B6,d6,rfl,ht6,hi6,hb6⟩;have HBN6:=zh (zD w6 (.cells #[.slice A6 T.length c6] 27));have HT6:=zh (ht6.below HBN6.out);have HI6:=zh (hi6.below HBN6.out)
  have HY6:=zh (heap_alloc_new w6 (.cells #[.slice A6 T.length c6] 27));have HBW6:=zh (zB hb6 HBN6.out);have HB6:=zh (zB HB5.out HBW6.out);have HX6:=zh (zF HX5.out HBW6.out);have HT56:=zh (HT5.out.below HBW6.out);have HI56:=zh (HI5.out.below HBW6.out);have HY56:=zh (zF HY5.out HBW6.out);clear ht6 hi6 hb6 x0 HRT HBN6;go_upto_region 7 with fail
  generalize w6.alloc (.cells #[.slice A6 T.length c6] 27)=W6 at *;generalize w6.heap.size=q6 at *;have x0:=zb HX6.out;go_wp2_with fail;refine (HOO.out W6 (HS.out.below HB6.out) (HTB.out.below HB6.out)).mono ?_;rintro e w7 ⟨rfl,hb7⟩;have HB7:=zh (zB HB6.out hb7);have HX7:=zh (zF HX6.out hb7);have HBW7:=zh hb7;clear hb7 x0 HOO;have x0:=zb HX7.out;go_wp2_with fail
  refine (HRO.out w7 (HS.out.below HB7.out) (HTB.out.below HB7.out)).mono ?_;rintro e w8 ⟨rfl,hb8⟩;have HB8:=zh (zB HB7.out hb8);have HX8:=zh (zF HX7.out hb8);have HBW8:=zh (zB HBW7.out hb8);clear hb8 x0 HRO
  have HCC:Hid (∀w',Below w8.heap.size w8 w'→(w'.cell? ⟨w.heap.size,0,none⟩=some (.slice A s.length c)∧w'.cell? ⟨q5,0,none⟩=some (.slice A5 T.length c5)∧w'.cell? ⟨q6,0,none⟩=some (.slice A6 T.length c6))∧Hid (Below w8.heap.size w8 w')):=fun w' hb =>
   ⟨⟨by rw[cell_of_row _ _ _ _ _ _ (zF HX8.out hb)];rfl,by rw[cell_of_row _ _ _ _ _ _ (zF HY56.out (zB HBW8.out hb))];rfl,by rw[cell_of_row _ _ _ _ _ _ (zF HY6.out (zB HBW8.out hb))];rfl⟩,hb⟩
  go_upto_region 9 with fail
  refine zs HCC.out (by kernel_rfl) ?_ (fun zH_=>?_)
  ·(try dsimp only);exact HCC.out _ (zC (Below.refl _ _) 1)
  refine tL 0 ?_;refine tL 1 ?_;refine tL 2 ?_;refine tL 3 ?_;refine tL 4 ?_;refine tL 5 ?_;try simp only[ps]
  refine tL 6 ?_;refine tL 7 ?_;refine tL 8 ?_;refine tL 9 ?_;refine tL 10 ?_;refine tL 11 ?_;try simp only[ps]
  refine tL 12 ?_;refine tL 13 ?_;refine tL 14 ?_;refine tL 15 ?_;refine tR 16 (fun K hK=>?_)
  go_simp
  (refine (sEqual_any T T A5 c5 A6 c6 _ (HT56.out.below (zB HBW8.out zH_.2.out)) (HT6.out.below (zB HBW8.out zH_.2.out))).mono ?_;rintro e w9 ⟨rfl,hb9⟩;rw[show decide (T=T)=true from decide_eq_true rfl];have HB9:=zh (zB zH_.2.out hb9);clear hb9)
  refine hK.out _ _ ?_ (fun zH_=>?_)
  ·(try dsimp only);exact HCC.out _ HB9.out
  clear hK K;refine tL 17 ?_;try simp only[ps]
  refine tL 18 ?_;refine tL 19 ?_;refine tL 20 ?_;refine tR 21 (fun K hK=>?_)
  go_simp
  (refine (equalInts_any I I B5 B6 d5 d6 _ (HI56.out.below (zB HBW8.out zH_.2.out)) (HI6.out.below (zB HBW8.out zH_.2.out))).mono ?_;rintro e w10 ⟨rfl,hb10⟩;rw[show decide (I=I)=true from decide_eq_true rfl];have HB10:=zh (zB zH_.2.out hb10);clear hb10)
  refine hK.out _ _ ?_ (fun zH_=>?_)
  ·(try dsimp only);exact HCC.out _ HB10.out
  clear hK K;refine tL 22 ?_;refine tL 23 ?_;try simp only[ps]
  refine tL 24 ?_;refine tL 25 ?_;refine tL 26 ?_;refine tL 27 ?_;refine tL 28 ?_;refine tL 29 ?_;try simp only[ps]
  refine tL 30 ?_;refine tL 31 ?_;refine tL 32 ?_;refine tL 33 ?_;refine tL 34 ?_;refine tL 36 ?_;try simp only[ps]
  refine tR 35 (fun K hK=>?_)
  go_simp
  (refine (HIT.out _ (HS.out.below (zB HB8.out zH_.2.out))).mono ?_;rintro e w11 ⟨rfl,hb11⟩;have HB11:=zh (zB zH_.2.out hb11);clear hb11)
  refine hK.out _ _ ?_ (fun zH_=>?_)
  ·(try dsimp only);exact HCC.out _ HB11.out
  clear hK K;refine tR 37 (fun K hK=>?_)
  go_simp
  (refine (HRI.out _ (HS.out.below (zB HB8.out zH_.2.out)) (HTB.out.below (zB HB8.out zH_.2.out))).mono ?_;rintro e w12 ⟨rfl,hb12⟩;have HB12:=zh (zB zH_.2.out hb12);clear hb12)
  refine hK.out _ _ ?_ (fun zH_=>?_)
  ·(try dsimp only);exact HCC.out _ HB12.out
  clear hK K;refine tL 38 ?_;refine tL 39 ?_;refine tL 40 ?_;try simp only[ps]
  refine wpAnyH_done (by kernel_rfl) ?_ _
  clear zH_;go_wp2;go_ret;exact ⟨by simp,zB HB8.out HB12.out⟩
end Go.Proofs.YtdfolgmcggdjdaaGreatDoor


