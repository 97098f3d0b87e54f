/-
  Walks: printer.text.
-/
import Derived.Test.YtdfolgmcggdjdaaGreatDoorQYW3
import Derived.Test.YtdfolgmcggdjdaaGreatDoorQPM
import Derived.Test.YtdfolgmcggdjdaaGreatDoorQRN0
namespace Go.Proofs.YtdfolgmcggdjdaaGreatDoor
open Go.RowKit
set_option maxHeartbeats 16000000
set_option maxRecDepth 100000
theorem fmt_any (n:Int) (hn:In64 n) (w:World) (ht:Tab w) :
  Calls Tryz.prog 84 #[.int .i64 n,.int .i64 10] w fun e w'=>e = .returned (.string (decB n))∧Below w.heap.size w w' :=
 (Tryz.strconv_FormatInt_10 n hn.1 hn.2 w ht).mono fun e w' ⟨he,k,os,hw⟩=>⟨he,by subst hw;exact Lib.below_grow _ _ (Nat.le_refl _) _ _⟩
theorem app_lim (x:TyD) (a:ByteArray):a++⟨#[44,32]⟩++decB x.max++⟨#[41]⟩=a++limT x:=by
 unfold limT
 apply ByteArray.ext
 simp only[ByteArray.data_append,Array.append_assoc]
theorem box_cells {w:World} {b:Nat} {x:TyD} {As:Option Addr} {cs:Nat} {Am:Option Addr} {cm:Nat} (h:w.heap[b]? = some (x.box As cs Am cm)) :
  w.cell? ⟨b,0,none⟩=some (.int .i64 x.kind)∧w.cell? ⟨b,1,none⟩=some (.string x.name)∧w.cell? ⟨b,2,none⟩=some (.int .i64 x.low)∧w.cell? ⟨b,3,none⟩=some (.int .i64 x.high)∧w.cell? ⟨b,4,none⟩=some (.int .i64 x.max)∧w.cell? ⟨b,7,none⟩=some (.int .i64 x.key)∧w.cell? ⟨b,8,none⟩=some (.int .i64 x.elem):=by
 refine ⟨?_,?_,?_,?_,?_,?_,?_⟩ <;> (rw[cell_of_row _ _ _ _ _ _ h];rfl)
theorem text_any (s:List TyD) (A:Option Addr) (c:Nat) (hv:zG s=0) (hn:Num64 s):∀ (f:Nat) (t:Int) (w:World),(0≤t∧t<(s.length:Int))→finD s f t→f≤33→TysR w A s→Tab w →
  Calls Tryz.prog 53 #[.agg #[.slice A s.length c],.int .i64 t] w fun e w'=>e = .returned (.string (textD s f t))∧Below w.heap.size w w':=by
 intro f
 induction f with
 | zero=>intro t w _ h;exact h.elim
 | succ f ih =>
 intro t w hr hf hf33 hs htab
 obtain ⟨tn,rfl⟩:=Int.eq_ofNat_of_zero_le hr.1
 have htn:tn<s.length:=by omega
 have HTA:=zh (tyAt_nat htn)
 have HB0:=zh (zD w (.cells #[.slice A s.length c] 27))
 have HX0:=zh (heap_alloc_new w (.cells #[.slice A s.length c] 27))
 have HS:=zh hs
 have HTB:=zh htab
 have HV:=zh hv
 have HN:=zh hn
 have HR:=zh hr
 have HF:=zh hf
 have HIH:=zh ih
 have HMX:=zh (max_in hv hr)
 have HK:=zh (kind_rng hv hr)
 have hls:=yD hv
 obtain ⟨b,o,As,cs,Am,cm,rfl,htr,t0,t1,t2,t3,t4,t5,t6,t7,t8,t9⟩:=(hs.below HB0.out).at10 htn
 have h1:(0:Int)≤(tn:Int):=by omega
 have h2:(tn:Int)<(s.length:Int):=by omega
 have HL1:=zh (limT_le hv hr)
 clear htr hs htab hf ih hr hv hn
 rw[HTA.out] at HMX HK HL1
 have HNM:=zh (HN.out _ (List.getElem_mem htn))
 generalize hx:s[tn]=x at *
 have HTX:Hid (tyAt s (tn:Int)=x):=HTA.out
 clear HTA hx
 go_enter Tryz.func53,Tryz.ntmps53
 go_wp2_with fail
 have HB1:=zh (zA HB0.out (zD (w.alloc (.cells #[.slice (some ⟨b,o,none⟩) s.length c] 27)) (x.box As cs Am cm)))
 refine (itoa_any x.max HMX.out _ (HTB.out.below HB1.out)).mono ?_
 rintro e w1 ⟨rfl,hb1⟩
 have HX1:=zh ((hb1.block _ (by simp)).trans (show ((w.alloc (.cells #[.slice (some ⟨b,o,none⟩) s.length c] 27)).alloc (x.box As cs Am cm)).heap[w.heap.size+1]? = some (x.box As cs Am cm) by
  have:=heap_alloc_new (w.alloc (.cells #[.slice (some ⟨b,o,none⟩) s.length c] 27)) (x.box As cs Am cm)
  rw[show (w.alloc (.cells #[.slice (some ⟨b,o,none⟩) s.length c] 27)).heap.size=w.heap.size+1 by simp] at this
  exact this))
 have HX2:=zh ((hb1.block _ (by simp;omega)).trans (((zD _ (x.box As cs Am cm)).block w.heap.size (by simp)).trans HX0.out))
 have HB:=zh (zA HB1.out hb1)
 have HZM:Hid ((decB x.max).size≤21):=decB_le HMX.out
 obtain ⟨b0,b1,b2,b3,b4,b7,b8⟩:=box_cells HX1.out
 have hb0':w1.cell? ⟨w.heap.size,0,none⟩=some (.slice (some ⟨b,o,none⟩) s.length c):=by rw[cell_of_row _ _ _ _ _ _ HX2.out];rfl
 have HCL:=zh (And.intro hb0' (And.intro b2 (And.intro b3 (And.intro b7 b8))))
 clear t0 t1 t2 t3 t4 t5 t6 t7 t8 t9 hb1 HX0 HB0 HB1
 by_cases k1:x.kind=1
 ·have HT:Hid (textD s (f+1) (tn:Int)=⟨#[98,111,111,108]⟩):=by
   show _=_
   unfold textD
   rw[HTX.out,if_pos k1]
  have q1:(x.kind==1)=true:=by simp[k1]
  clear k1
  go_wp2
  go_ret
  exact ⟨by rw[HT.out];rfl,HB.out⟩
 have q1:(x.kind==1)=false:=by simp[k1]
 by_cases k2:x.kind=2
 ·have HT:Hid (textD s (f+1) (tn:Int)=intT x):=by
   show _=_
   unfold textD
   rw[HTX.out,if_neg k1,if_pos k2]
  have q2:(x.kind==2)=true:=by simp[k2]
  have d1:=decB_le HNM.out.1
  have d2:=decB_le HNM.out.2
  have n1:¬ 9223372036854775807<4+(decB x.low).size:=by omega
  have n2:¬ 9223372036854775807<4+(decB x.low).size+2:=by omega
  have n3:¬ 9223372036854775807<4+(decB x.low).size+2+(decB x.high).size:=by omega
  have n4:¬ 9223372036854775807<4+(decB x.low).size+2+(decB x.high).size+1:=by omega
  clear k1 k2 d1 d2
  go_upto_region 7 with fail
  refine wp_region_held_drew (S:=(fun w'=>(w'.cell? ⟨w.heap.size+1,2,none⟩=some (.int .i64 x.low)∧w'.cell? ⟨w.heap.size+1,3,none⟩=some (.int .i64 x.high))∧Hid (Below w1.heap.size w1 w'))) (by kernel_rfl) ?_ (fun zH_=>?_)
  ·(try dsimp only);exact ⟨⟨HCL.out.2.1,HCL.out.2.2.1⟩,zE (Below.refl _ _) 1⟩
  refine tL 0 _ zH_ ?_
  try simp only[ps]
  refine tL 1 _ zH_ ?_
  try simp only[ps]
  refine tL 5 _ zH_ ?_
  try simp only[ps]
  refine tL 6 _ zH_ ?_
  try simp only[ps]
  refine tR 2 (fun K hK=>?_)
  go_simp
  (refine (fmt_any x.low HNM.out.1 _ (HTB.out.below (zA HB.out zH_.2.out))).mono ?_;rintro e w2 ⟨rfl,hb2⟩;have HB2:=zh (zA zH_.2.out hb2);clear hb2)
  refine hK.out _ _ ?_ (fun zH_=>?_)
  ·(try dsimp only);exact ⟨⟨zB HB2.out HCL.out.2.1,zB HB2.out HCL.out.2.2.1⟩,HB2.out⟩
  clear hK K
  try simp only[ps]
  refine tL 3 _ zH_ ?_
  try simp only[ps]
  refine tL 4 _ zH_ ?_
  try simp only[ps]
  refine tR 7 (fun K hK=>?_)
  go_simp
  (refine (fmt_any x.high HNM.out.2 _ (HTB.out.below (zA HB.out zH_.2.out))).mono ?_;rintro e w3 ⟨rfl,hb3⟩;have HB3:=zh (zA zH_.2.out hb3);clear hb3)
  refine hK.out _ _ ?_ (fun zH_=>?_)
  ·(try dsimp only);exact ⟨⟨zB HB3.out HCL.out.2.1,zB HB3.out HCL.out.2.2.1⟩,HB3.out⟩
  clear hK K
  try simp only[ps]
  refine tL 8 _ zH_ ?_
  try simp only[ps]
  refine tL 9 _ zH_ ?_
  try simp only[ps]
  refine tL 10 _ zH_ ?_
  try simp only[ps]
  refine wpAnyH_done (by kernel_rfl) ?_ _
  clear zH_
  go_wp2
  go_ret
  exact ⟨by rw[HT.out];rfl,zA HB.out HB3.out⟩
 have q2:(x.kind==2)=false:=by simp[k2]
 by_cases k3:x.kind=3
 ·have HT:Hid (textD s (f+1) (tn:Int)=strT x):=by
   show _=_
   unfold textD
   rw[HTX.out,if_neg k1,if_neg k2,if_pos k3]
  have q3:(x.kind==3)=true:=by simp[k3]
  have d1:=HZM.out
  have n1:¬ 9223372036854775807<7+(decB x.max).size:=by omega
  have n2:¬ 9223372036854775807<7+(decB x.max).size+1:=by omega
  clear k1 k2 k3 d1
  go_wp2
  go_ret
  exact ⟨by rw[HT.out];rfl,HB.out⟩
 have q3:(x.kind==3)=false:=by simp[k3]
 by_cases k7:x.kind=7
 ·have HC:Hid (compK (tyAt s (tn:Int)).kind):=by show compK _;rw[HTX.out];exact .inl k7
  have HER:Hid (0≤x.elem∧x.elem<(s.length:Int)):=by
   have:=yB HV.out HR.out HC.out
   rw[HTX.out] at this;exact this
  have HFE:Hid (finD s f x.elem):=by
   have:=HF.out HC.out
   rw[HTX.out] at this;exact this
  have HT:Hid (textD s (f+1) (tn:Int)=⟨#[108,105,115,116,40]⟩++textD s f x.elem++limT x):=by
   show _=_
   rw[textD,HTX.out,if_neg k1,if_neg k2,if_neg k3,if_pos k7]
  have q7:(x.kind==7)=true:=by simp[k7]
  have d1:=HZM.out
  have d2:=text_le HV.out HN.out f _ HER.out HFE.out
  have HAS:=zh (app_lim x)
  obtain ⟨T,hT⟩:∃T,T=textD s f x.elem:=⟨_,rfl⟩
  rw[←hT] at HT d2
  have HTE:=zh hT
  have n1:¬ 9223372036854775807<5+T.size:=by omega
  have n2:¬ 9223372036854775807<5+T.size+2:=by omega
  have n3:¬ 9223372036854775807<5+T.size+2+(decB x.max).size:=by omega
  have n4:¬ 9223372036854775807<5+T.size+2+(decB x.max).size+1:=by omega
  clear k1 k2 k3 k7 d1 d2 hT
  go_wp2_with fail
  refine (HIH.out x.elem _ HER.out HFE.out (by omega) (HS.out.below HB.out) (HTB.out.below HB.out)).mono ?_
  rintro e w2 ⟨rfl,hb2⟩
  rw[←HTE.out]
  have HB2:=zh (zA HB.out hb2)
  clear hb2
  go_wp2
  go_ret
  exact ⟨by rw[HT.out,←HAS.out];rfl,HB2.out⟩
 have q7:(x.kind==7)=false:=by simp[k7]
 by_cases k8:x.kind=8
 ·have HC:Hid (compK (tyAt s (tn:Int)).kind):=by show compK _;rw[HTX.out];exact .inr (.inl k8)
  have HER:Hid (0≤x.elem∧x.elem<(s.length:Int)):=by
   have:=yB HV.out HR.out HC.out
   rw[HTX.out] at this;exact this
  have HKR:Hid ((0≤x.key∧x.key<(s.length:Int))∧1≤(tyAt s x.key).kind∧(tyAt s x.key).kind≤4):=by
   have:=key_rng HV.out HR.out (by rw[HTX.out];exact k8)
   rw[HTX.out] at this;exact this
  have HFE:Hid (finD s f x.elem):=by
   have:=HF.out HC.out
   rw[HTX.out] at this;exact this
  have HFK:Hid (finD s f x.key):=by
   have h:=HFE.out
   show finD s f x.key
   cases f with
   | zero=>exact h.elim
   | succ g=>exact fun hc=>absurd hc (not_comp4 HKR.out.2)
  have HT:Hid (textD s (f+1) (tn:Int)=⟨#[109,97,112,40]⟩++textD s f x.key++⟨#[44,32]⟩++textD s f x.elem++limT x):=by
   show _=_
   rw[textD,HTX.out,if_neg k1,if_neg k2,if_neg k3,if_neg k7,if_pos k8]
  have q8:(x.kind==8)=true:=by simp[k8]
  have d1:=HZM.out
  have d2:=text_le HV.out HN.out f _ HER.out HFE.out
  have d3:=text_le HV.out HN.out f _ HKR.out.1 HFK.out
  have HAS:=zh (app_lim x)
  obtain ⟨T,hT⟩:∃T,T=textD s f x.elem:=⟨_,rfl⟩
  rw[←hT] at HT d2
  have HTE:=zh hT
  obtain ⟨U,hU⟩:∃U,U=textD s f x.key:=⟨_,rfl⟩
  rw[←hU] at HT d3
  have HTU:=zh hU
  have n1:¬ 9223372036854775807<4+U.size:=by omega
  have n2:¬ 9223372036854775807<4+U.size+2:=by omega
  have n3:¬ 9223372036854775807<4+U.size+2+T.size:=by omega
  have n4:¬ 9223372036854775807<4+U.size+2+T.size+2:=by omega
  have n5:¬ 9223372036854775807<4+U.size+2+T.size+2+(decB x.max).size:=by omega
  have n6:¬ 9223372036854775807<4+U.size+2+T.size+2+(decB x.max).size+1:=by omega
  clear k1 k2 k3 k7 k8 d1 d2 d3 hT hU
  go_upto_region 13 with fail
  refine wp_region_held_drew (S:=(fun w'=>(w'.cell? ⟨w.heap.size,0,none⟩=some (.slice (some ⟨b,o,none⟩) s.length c)∧w'.cell? ⟨w.heap.size+1,7,none⟩=some (.int .i64 x.key)∧w'.cell? ⟨w.heap.size+1,8,none⟩=some (.int .i64 x.elem))∧Hid (Below w1.heap.size w1 w'))) (by kernel_rfl) ?_ (fun zH_=>?_)
  ·(try dsimp only);exact ⟨⟨HCL.out.1,HCL.out.2.2.2.1,HCL.out.2.2.2.2⟩,zE (Below.refl _ _) 1⟩
  refine tL 0 _ zH_ ?_
  try simp only[ps]
  refine tL 1 _ zH_ ?_
  try simp only[ps]
  refine tL 2 _ zH_ ?_
  try simp only[ps]
  refine tL 6 _ zH_ ?_
  try simp only[ps]
  refine tL 7 _ zH_ ?_
  try simp only[ps]
  refine tL 8 _ zH_ ?_
  try simp only[ps]
  refine tL 12 _ zH_ ?_
  try simp only[ps]
  refine tR 3 (fun K hK=>?_)
  go_simp
  (refine (HIH.out x.key _ HKR.out.1 HFK.out (by omega) (HS.out.below (zA HB.out zH_.2.out)) (HTB.out.below (zA HB.out zH_.2.out))).mono ?_;rintro e w2 ⟨rfl,hb2⟩;rw[←HTU.out];have HB2:=zh (zA zH_.2.out hb2);clear hb2)
  refine hK.out _ _ ?_ (fun zH_=>?_)
  ·(try dsimp only);exact ⟨⟨zB HB2.out HCL.out.1,zB HB2.out HCL.out.2.2.2.1,zB HB2.out HCL.out.2.2.2.2⟩,HB2.out⟩
  clear hK K
  try simp only[ps]
  refine tL 4 _ zH_ ?_
  try simp only[ps]
  refine tL 5 _ zH_ ?_
  try simp only[ps]
  refine tR 9 (fun K hK=>?_)
  go_simp
  (refine (HIH.out x.elem _ HER.out HFE.out (by omega) (HS.out.below (zA HB.out zH_.2.out)) (HTB.out.below (zA HB.out zH_.2.out))).mono ?_;rintro e w3 ⟨rfl,hb3⟩;rw[←HTE.out];have HB3:=zh (zA zH_.2.out hb3);clear hb3)
  refine hK.out _ _ ?_ (fun zH_=>?_)
  ·(try dsimp only);exact ⟨⟨zB HB3.out HCL.out.1,zB HB3.out HCL.out.2.2.2.1,zB HB3.out HCL.out.2.2.2.2⟩,HB3.out⟩
  clear hK K
  try simp only[ps]
  refine tL 10 _ zH_ ?_
  try simp only[ps]
  refine tL 11 _ zH_ ?_
  try simp only[ps]
  refine tL 13 _ zH_ ?_
  try simp only[ps]
  refine tL 14 _ zH_ ?_
  try simp only[ps]
  refine tL 15 _ zH_ ?_
  try simp only[ps]
  refine wpAnyH_done (by kernel_rfl) ?_ _
  clear zH_
  go_wp2
  go_ret
  exact ⟨by rw[HT.out,←HAS.out];rfl,zA HB.out HB3.out⟩
 have q8:(x.kind==8)=false:=by simp[k8]
 by_cases k9:x.kind=9
 ·have HC:Hid (compK (tyAt s (tn:Int)).kind):=by show compK _;rw[HTX.out];exact .inr (.inr k9)
  have HER:Hid (0≤x.elem∧x.elem<(s.length:Int)):=by
   have:=yB HV.out HR.out HC.out
   rw[HTX.out] at this;exact this
  have HFE:Hid (finD s f x.elem):=by
   have:=HF.out HC.out
   rw[HTX.out] at this;exact this
  have HT:Hid (textD s (f+1) (tn:Int)=⟨#[111,112,116,105,111,110,97,108,40]⟩++textD s f x.elem++⟨#[41]⟩):=by
   show _=_
   rw[textD,HTX.out,if_neg k1,if_neg k2,if_neg k3,if_neg k7,if_neg k8,if_pos k9]
  have q9:(x.kind==9)=true:=by simp[k9]
  have d2:=text_le HV.out HN.out f _ HER.out HFE.out
  obtain ⟨T,hT⟩:∃T,T=textD s f x.elem:=⟨_,rfl⟩
  rw[←hT] at HT d2
  have HTE:=zh hT
  have n1:¬ 9223372036854775807<9+T.size:=by omega
  have n2:¬ 9223372036854775807<9+T.size+1:=by omega
  clear k1 k2 k3 k7 k8 k9 d2 hT
  go_wp2_with fail
  refine (HIH.out x.elem _ HER.out HFE.out (by omega) (HS.out.below HB.out) (HTB.out.below HB.out)).mono ?_
  rintro e w2 ⟨rfl,hb2⟩
  rw[←HTE.out]
  have HB2:=zh (zA HB.out hb2)
  clear hb2
  go_wp2
  go_ret
  exact ⟨by rw[HT.out];rfl,HB2.out⟩
 ·have q9:(x.kind==9)=false:=by simp[k9]
  have HT:Hid (textD s (f+1) (tn:Int)=x.name):=by
   show _=_
   rw[textD,HTX.out,if_neg k1,if_neg k2,if_neg k3,if_neg k7,if_neg k8,if_neg k9]
  clear k1 k2 k3 k7 k8 k9
  go_wp2
  go_ret
  exact ⟨by rw[HT.out];rfl,HB.out⟩
end Go.Proofs.YtdfolgmcggdjdaaGreatDoor


