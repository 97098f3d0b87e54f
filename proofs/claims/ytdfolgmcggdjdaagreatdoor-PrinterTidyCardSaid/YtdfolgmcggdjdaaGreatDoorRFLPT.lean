/-
  Walks: the law PrinterTidy.
-/
import Derived.Test.YtdfolgmcggdjdaaGreatDoorRGH0
import Derived.Test.YtdfolgmcggdjdaaGreatDoorRGK0
import Derived.Test.YtdfolgmcggdjdaaGreatDoorRFT9
import Derived.Test.YtdfolgmcggdjdaaGreatDoorRGI0
import Derived.Test.YtdfolgmcggdjdaaGreatDoorRGG0
import Derived.Test.YtdfolgmcggdjdaaGreatDoorRGL0
import Derived.Test.YtdfolgmcggdjdaaGreatDoorRDR4
namespace Go.Proofs.YtdfolgmcggdjdaaGreatDoor
open Go.RowKit
set_option maxHeartbeats 16000000
set_option maxRecDepth 100000
def TPost (T:List TyD) (I:List Int) (E:Int) (w:World) (e:Ending) (w':World):Prop :=
 ∃A' c' B c2,e = .returned (.tuple #[.agg #[.slice A' T.length c'],.slice B I.length c2,.int .i64 E])∧TysR w' A' T∧IntsR w' B I∧Below w.heap.size w w'
theorem tidy_flat {s:List TyD} {d:Int} (hc:yN s d=0) (h:∀t∈s,∀m∈t.mems,FlatV m.dflt):∀t∈tidyL s,∀m∈t.mems,m.hasDef=true→FlatV m.dflt:=fun t ht m' hm' _=>by
 obtain ⟨t0,h0,_,hms⟩:=(tidyS hc).mem ht;obtain ⟨m,hm,e,_⟩:=hms m' hm';rw[e];exact h _ (tyAt_mem h0) m hm
theorem tidy_facts {s:List TyD} (hfl:∀t∈s,∀m∈t.mems,FlatV m.dflt) (hn:Num64 s) (h5:s.length≤5) (hf:zJ s=0→∀t∈s,∀m∈t.mems,(dfT s m).size≤40) (hE:tidyE s (defErr s)=0) :
  printD s (defErr s) (dfT s)=(printT s (dfT s) s,0)∧∃T,tidyT s (defErr s)=T∧Num64 T∧printD T (defErr T) (dfT T)=(printT s (dfT s) s,0)∧decide (tidyE T (defErr T)=0∧tidyT T (defErr T)=T)=true∧zJ T=0∧(∀t∈T,∀m∈t.mems,(dfT T m).size≤1073741824)∧∀t∈T,∀m∈t.mems,m.hasDef=true→FlatV m.dflt:=by
 have hc:yN s (defErr s)=0:=by
  refine Classical.byContradiction fun h=>?_
  unfold tidyE at hE;rw[if_pos h] at hE;exact h hE
 have hl:(tidyL s).length≤32:=by
  refine Classical.byContradiction fun h=>?_
  unfold tidyE at hE;rw[if_neg (by simp[hc]),if_pos (by omega)] at hE
  cases hE
 obtain ⟨hv,_,_,_⟩:=check_parts hc;have hs:=draft_text hn h5 hc (hf hv);obtain ⟨g1,g2,g3,g4,g5,g6⟩:=tidy_good hc hl hn;have eT:tidyT s (defErr s)=tidyL s:=by unfold tidyT;rw[if_pos hE]
 have z1:printD s (defErr s) (dfT s)=(printT s (dfT s) s,0):=by
  unfold printD;rw[if_neg (by simp[hc]),if_neg (by omega)]
 refine ⟨z1,tidyL s,eT,g3,?_,?_,g1,fun t ht m hm=>Nat.le_trans (g6 40 (hf hv) t ht m hm) (by decide),tidy_flat hc hfl⟩
 ·unfold printD
  rw[if_neg (by simp[g2]),g4,if_neg (by omega)]
 ·have e2:tidyE (tidyL s) (defErr (tidyL s))=0:=by
   unfold tidyE;rw[if_neg (by simp[g2]),g5,if_neg (by omega)]
  refine decide_eq_true ⟨e2,?_⟩;unfold tidyT;rw[if_pos e2,g5]
theorem lawTidy_any (d:List NodeD) (A:zo) (c:Nat) (w:World) (hd:NodesR w A d) (htab:Tab w) :
  Calls Tryz.prog 3 #[draftV A d.length c] w (SamePost true w):=by
 have HD:=zh hd;have HTB:=zh htab;have HB0:=zh (zD w (.cells #[.slice A d.length c] 24));clear hd htab
 go_enter Tryz.func3,Tryz.ntmps3
 go_wp2_with fail
 refine (of_any d A c _ (HD.out.below HB0.out)).mono ?_;rintro e w1 ⟨A1,c1,s,ok,rfl,hs,hok,hno,hb1⟩;have HS1:=zh (hs.below (zD w1 (.cells #[.slice A1 s.length c1] 27)));have HOK:=zh hok;have HB1:=zh (zB HB0.out (zB hb1 (zD w1 (.cells #[.slice A1 s.length c1] 27))));have HX1:=zh (heap_alloc_new w1 (.cells #[.slice A1 s.length c1] 27));clear hs hok hno hb1;go_wp2_with fail
 generalize w1.alloc (.cells #[.slice A1 s.length c1] 27)=W1 at *;refine (awake_any _ (HTB.out.below HB1.out)).mono ?_;rintro e w2 ⟨rfl,hb2⟩;have HB2:=zh (zB HB1.out hb2);have HS2:=zh (HS1.out.below hb2);have HX2:=zh (zF HX1.out hb2);clear hb2
 cases ok with
 | false =>
  go_wp2_with fail
  refine (awake_any _ (HTB.out.below HB2.out)).mono ?_;rintro e w3 ⟨rfl,hb3⟩;have HB3:=zh (zB HB2.out hb3);clear hb3;go_wp2;go_ret;exact ⟨rfl,HB3.out⟩
 | true =>
  obtain ⟨hv,hsh,hsl,hd1,hd5,hn,hfl⟩:=HOK.out rfl;have hs5:s.length≤5:=by omega
  have hdf:∀t∈s,∀m∈t.mems,(dfT s m).size≤40:=fun t ht m hm=>df_flat hv hn (hfl t ht m hm)
  have hz:zJ s=0→∀t∈s,∀m∈t.mems,(dfT s m).size≤1073741824:=fun _ t ht m hm=>Nat.le_trans (hdf t ht m hm) (by decide)
  have HFA:=zh (tidy_facts hfl hn hs5 fun _=>hdf)
  have hf2:∀t∈s,∀m∈t.mems,m.hasDef=true→FlatV m.dflt:=fun t ht m hm _=>hfl t ht m hm
  have HDS:=zh (defSaid (s:=s) A1 c1 hn hf2);have HDF:Hid (zJ s=0→∀t∈s,∀m∈t.mems,DfOk s A1 c1 (dfT s) m):=fun hv t ht m hm=>dfOk A1 c1 hv hn m (hf2 t ht m hm) (hz hv t ht m hm)
  have HRF:Hid (zJ s=0→defErr s=0→∀t∈s,∀m∈t.mems,RDfOk s A1 c1 (dfT s) m):=fun hv _ t ht m hm=>rDfOk A1 c1 hv hn m (hf2 t ht m hm) (hz hv t ht m hm)
  have HCK:Hid (CkSaid s A1 c1 (defErr s)):=fun W hsW htW=>(rCheck_any s A1 c1 hn hf2 (dfT s) HRF.out W hsW htW).mono fun e w' h=>⟨checkT s (dfT s),h.1.trans (by rw[check_same]),h.2⟩
  obtain ⟨Q,hQ⟩:∃Q,decide (tidyE s (defErr s)=0∧tidyT s (defErr s)=s)=Q:=⟨_,rfl⟩;obtain ⟨T,hT⟩:∃T,tidyT s (defErr s)=T:=⟨_,rfl⟩;obtain ⟨I,hI⟩:∃I,tidyI s (defErr s)=I:=⟨_,rfl⟩;obtain ⟨E,hE⟩:∃E,tidyE s (defErr s)=E:=⟨_,rfl⟩;obtain ⟨X,hX⟩:∃X,printT s (dfT s) s=X:=⟨_,rfl⟩;have HTI:Hid (∀W,TysR W A1 s→Calls Tryz.prog 8 #[.agg #[.slice A1 s.length c1]] W (TPost T I E W)):=fun W h1=>by
   rw[←hT,←hI,←hE];exact tidy_any s (defErr s) A1 c1 HDS.out W h1
  have HRT:Hid (∀W,TysR W A1 s→Tab W→Calls Tryz.prog 9 #[.agg #[.slice A1 s.length c1]] W (TPost T I E W)):=fun W h1 h2=>by
   rw[←hT,←hI,←hE];exact rTidy_any s (defErr s) A1 c1 HCK.out W h1 h2
  have HIT:Hid (∀W,TysR W A1 s→Calls Tryz.prog 13 #[.agg #[.slice A1 s.length c1]] W (SamePost Q W)):=fun W h1=>by
   rw[←hQ];exact isTidy_any s (defErr s) A1 c1 HDS.out W h1
  have HRI:Hid (∀W,TysR W A1 s→Tab W→Calls Tryz.prog 14 #[.agg #[.slice A1 s.length c1]] W (SamePost Q W)):=fun W h1 h2=>by
   rw[←hQ];exact rIsTidy_any s (defErr s) A1 c1 HCK.out W h1 h2
  have HPP:Hid (E=0→∀W,TysR W A1 s→Tab W→Calls Tryz.prog 12 #[.agg #[.slice A1 s.length c1]] W fun e w'=>e = .returned (.tuple #[.string X,.int .i64 0])∧Below W.heap.size W w'):=fun h0 W h1 h2=>by
   have h:=print_any s (defErr s) (dfT s) A1 c1 HDS.out hn (fun hc=>HDF.out (check_parts hc).1) W h1 h2
   rw[(HFA.out (hE.trans h0)).1,hX] at h;exact h
  have HPT:Hid (E=0→∀A c W,TysR W A T→Tab W→Calls Tryz.prog 12 #[.agg #[.slice A T.length c]] W fun e w'=>e = .returned (.tuple #[.string X,.int .i64 0])∧Below W.heap.size W w'):=fun h0 A c W h1 h2=>by
   obtain ⟨_,T',e,g1,g2,g3,g4,g5,g6⟩:=HFA.out (hE.trans h0);obtain rfl:T=T':=hT.symm.trans e;have h:=print_any T (defErr T) (dfT T) A c (defSaid A c g1 g6) g1 (fun _ t ht m hm=>dfOk A c g4 g1 m (g6 t ht m hm) (g5 t ht m hm)) W h1 h2
   rw[g2,hX] at h;exact h
  have HI2:Hid (E=0→∀A c W,TysR W A T→Calls Tryz.prog 13 #[.agg #[.slice A T.length c]] W (SamePost true W)):=fun h0 A c W h1=>by
   obtain ⟨_,T',e,g1,g2,g3,g4,g5,g6⟩:=HFA.out (hE.trans h0);obtain rfl:T=T':=hT.symm.trans e;rw[←g3];exact isTidy_any T (defErr T) A c (defSaid A c g1 g6) W h1
  clear hv hsh hsl hd1 hd5 hn hfl hf2 hs5 hdf hz hQ hT hI hE hX HDS HDF HRF HCK HFA HOK;have x0:=zb HX2.out;go_wp2_with fail;refine (HTI.out w2 HS2.out).mono ?_;rintro e w5 ⟨A5,c5,B5,d5,rfl,ht5,hi5,hb5⟩;have HBN5:=zh (zD w5 (.cells #[.slice A5 T.length c5] 27));have HT5:=zh (ht5.below HBN5.out);have HI5:=zh (hi5.below HBN5.out);have HY5:=zh (heap_alloc_new w5 (.cells #[.slice A5 T.length c5] 27))
  have HBW5:=zh (zB hb5 HBN5.out);have HB5:=zh (zB HB2.out HBW5.out);have HS5:=zh (HS2.out.below HBW5.out);have HX5:=zh (zF HX2.out HBW5.out);clear ht5 hi5 hb5 x0 HTI HBN5 HBW5;go_upto_region 5 with fail
  generalize w5.alloc (.cells #[.slice A5 T.length c5] 27)=W5 at *;generalize w5.heap.size=q5 at *;have x0:=zb HX5.out;go_wp2_with fail;refine (HRT.out W5 HS5.out (HTB.out.below HB5.out)).mono ?_;rintro e w6 ⟨A6,c6,B6,d6,rfl,ht6,hi6,hb6⟩;have HBN6:=zh (zD w6 (.cells #[.slice A6 T.length c6] 27));have HT6:=zh (ht6.below HBN6.out);have HI6:=zh (hi6.below HBN6.out)
  have HY6:=zh (heap_alloc_new w6 (.cells #[.slice A6 T.length c6] 27));have HBW6:=zh (zB hb6 HBN6.out);have HB6:=zh (zB HB5.out HBW6.out);have HS6:=zh (HS5.out.below HBW6.out);have HX6:=zh (zF HX5.out HBW6.out);have HT56:=zh (HT5.out.below HBW6.out);have HI56:=zh (HI5.out.below HBW6.out);have HY56:=zh (zF HY5.out HBW6.out);clear ht6 hi6 hb6 x0 HRT HBN6 HBW6;go_upto_region 6 with fail
  generalize w6.alloc (.cells #[.slice A6 T.length c6] 27)=W6 at *;generalize w6.heap.size=q6 at *;have q1:(E != E)=false:=by simp
  have y5:=zb HY56.out;have y6:=zb HY6.out
  by_cases hE:E=0
  case neg =>
   have q2:(E==0)=false:=by simp[hE]
   have q3:(E != 0)=true:=by simp[hE]
   have q4:(E==E)=true:=by simp
   clear hE HPP HPT HI2 HIT HRI;go_wp2_with fail;refine (sEqual_any T T A5 c5 A6 c6 _ HT56.out HT6.out).mono ?_;rintro e w9 ⟨rfl,hb9⟩;rw[show decide (T=T)=true from decide_eq_true rfl];have HB9:=zh (zB HB6.out hb9);have HBW9:=zh hb9;clear hb9 y5 y6;go_wp2_with fail;refine (equalInts_any I I B5 B6 d5 d6 _ (HI56.out.below HBW9.out) (HI6.out.below HBW9.out)).mono ?_;rintro e w10 ⟨rfl,hb10⟩
   rw[show decide (I=I)=true from decide_eq_true rfl];have HB10:=zh (zB HB9.out hb10);have HBW10:=zh (zB HBW9.out hb10);clear hb10;have y5:=zb (zF HY56.out HBW10.out);have y6:=zb (zF HY6.out HBW10.out);go_wp2_with fail;refine (sEqual_any T T A5 c5 A6 c6 _ (HT56.out.below HBW10.out) (HT6.out.below HBW10.out)).mono ?_;rintro e w11 ⟨rfl,hb11⟩;rw[show decide (T=T)=true from decide_eq_true rfl]
   have HB11:=zh (zB HB10.out hb11);have HBW11:=zh (zB HBW10.out hb11);clear hb11 y5 y6;go_wp2_with fail;refine (equalInts_any I I B5 B6 d5 d6 _ (HI56.out.below HBW11.out) (HI6.out.below HBW11.out)).mono ?_;rintro e w12 ⟨rfl,hb12⟩;rw[show decide (I=I)=true from decide_eq_true rfl];have HB12:=zh (zB HB11.out hb12);clear hb12;go_wp2;go_ret;exact ⟨by simp,HB12.out⟩
  replace HPP:=zh (HPP.out hE);replace HPT:=zh (HPT.out hE);replace HI2:=zh (HI2.out hE);subst hE;go_wp2_with fail;refine (sEqual_any T T A5 c5 A6 c6 _ HT56.out HT6.out).mono ?_;rintro e w9 ⟨rfl,hb9⟩;rw[show decide (T=T)=true from decide_eq_true rfl];have HB9:=zh (zB HB6.out hb9);have HBW9:=zh hb9;clear hb9 y5 y6;go_wp2_with fail
  refine (equalInts_any I I B5 B6 d5 d6 _ (HI56.out.below HBW9.out) (HI6.out.below HBW9.out)).mono ?_;rintro e w10 ⟨rfl,hb10⟩;rw[show decide (I=I)=true from decide_eq_true rfl];have HB10:=zh (zB HB9.out hb10);have HBW10:=zh (zB HBW9.out hb10);clear hb10 HI5 HI6 HI56 HBW9 HB9;have x0:=zb (zF HX6.out HBW10.out);go_wp2_with fail
  refine (HPP.out w10 (HS6.out.below HBW10.out) (HTB.out.below HB10.out)).mono ?_;rintro e w11 ⟨rfl,hb11⟩;have HB11:=zh (zB HB10.out hb11);have HBW11:=zh (zB HBW10.out hb11);clear hb11 x0 HPP;have y5:=zb (zF HY56.out HBW11.out);go_wp2_with fail;refine (HPT.out A5 c5 w11 (HT56.out.below HBW11.out) (HTB.out.below HB11.out)).mono ?_;rintro e w12 ⟨rfl,hb12⟩;have HB12:=zh (zB HB11.out hb12)
  have HBW12:=zh (zB HBW11.out hb12);clear hb12 y5 HPT;have HCC:Hid (∀w',Below w12.heap.size w12 w'→(w'.cell? ⟨w1.heap.size,0,none⟩=some (.slice A1 s.length c1)∧w'.cell? ⟨q5,0,none⟩=some (.slice A5 T.length c5))∧Hid (Below w12.heap.size w12 w')):=fun w' hb =>
   ⟨⟨by rw[cell_of_row _ _ _ _ _ _ (zF HX6.out (zB HBW12.out hb))];rfl,by rw[cell_of_row _ _ _ _ _ _ (zF HY56.out (zB HBW12.out hb))];rfl⟩,hb⟩
  go_upto_region 10 with fail
  refine zs HCC.out (by kernel_rfl) ?_ (fun zH_=>?_)
  ·(try dsimp only);exact HCC.out _ (zC (Below.refl _ _) 1)
  refine tL 0 ?_;refine tL 1 ?_;refine tL 2 ?_;refine tL 3 ?_;refine tL 4 ?_;refine tL 5 ?_;try simp only[ps]
  refine tL 6 ?_;refine tL 7 ?_;refine tL 8 ?_;refine tL 9 ?_;refine tL 10 ?_;refine tL 11 ?_;try simp only[ps]
  refine tL 12 ?_;refine tR 13 (fun K hK=>?_)
  go_simp
  (refine (HI2.out A5 c5 _ (HT56.out.below (zB HBW12.out zH_.2.out))).mono ?_;rintro e w13 ⟨rfl,hb13⟩;have HB13:=zh (zB zH_.2.out hb13);clear hb13)
  refine hK.out _ _ ?_ (fun zH_=>?_)
  ·(try dsimp only);exact HCC.out _ HB13.out
  clear hK K;refine tL 14 ?_;refine tL 15 ?_;refine tL 16 ?_;refine tL 18 ?_;try simp only[ps]
  refine tR 17 (fun K hK=>?_)
  go_simp
  (refine (HIT.out _ (HS6.out.below (zB HBW12.out zH_.2.out))).mono ?_;rintro e w14 ⟨rfl,hb14⟩;have HB14:=zh (zB zH_.2.out hb14);clear hb14)
  refine hK.out _ _ ?_ (fun zH_=>?_)
  ·(try dsimp only);exact HCC.out _ HB14.out
  clear hK K;refine tR 19 (fun K hK=>?_)
  go_simp
  (refine (HRI.out _ (HS6.out.below (zB HBW12.out zH_.2.out)) (HTB.out.below (zB HB12.out zH_.2.out))).mono ?_;rintro e w15 ⟨rfl,hb15⟩;have HB15:=zh (zB zH_.2.out hb15);clear hb15)
  refine hK.out _ _ ?_ (fun zH_=>?_)
  ·(try dsimp only);exact HCC.out _ HB15.out
  clear hK K;refine tL 20 ?_;refine tL 21 ?_;refine tL 22 ?_;try simp only[ps]
  refine wpAnyH_done (by kernel_rfl) ?_ _
  clear zH_;go_wp2;go_ret;exact ⟨by simp,zB HB12.out HB15.out⟩
end Go.Proofs.YtdfolgmcggdjdaaGreatDoor


