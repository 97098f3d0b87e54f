/-
  Roots that came in, opened.
-/
import Derived.Test.YtdfolgmcggdjdaaGreatDoorQGA3
import Derived.Test.YtdfolgmcggdjdaaGreatDoorQGA4
import Derived.Test.YtdfolgmcggdjdaaGreatDoorShelfB
import Derived.Test.YtdfolgmcggdjdaaGreatDoorQGA2
import Derived.Lib.Join
import Derived.Laws.CopyOwn
import Derived.OpenShut
import Derived.Carry
import Derived.Deep.Slices
import Derived.Deep.Fields
namespace Go.Proofs.YtdfolgmcggdjdaaGreatDoor
open Go.RowKit
set_option maxHeartbeats 16000000
set_option maxRecDepth 100000
theorem fmt_any (n:Int) (hn:In64 n) (w:World) (ht:Tab w) :
  Calls Tryz.prog 84 #[.int .i64 n,.int .i64 10] w fun e w'=>e = .returned (.string (decB n))∧Below w.heap.size w w' :=
 (Tryz.strconv_FormatInt_10 n hn.1 hn.2 w ht).mono fun e w' ⟨he,k,os,hw⟩=>⟨he,by subst hw;exact Lib.below_grow _ _ (Nat.le_refl _) _ _⟩
theorem app_lim (x:TyD) (a:ByteArray):a++⟨#[44,32]⟩++decB x.max++⟨#[41]⟩=a++limT x:=by
 unfold limT
 apply ByteArray.ext
 simp only[ByteArray.data_append,Array.append_assoc]
theorem box_cells {w:World} {b:Nat} {x:TyD} {As:zo} {cs:Nat} {Am:zo} {cm:Nat} (h:w.heap[b]? = some (x.box As cs Am cm)) :
  w.cell? ⟨b,0,none⟩=some (.int .i64 x.kind)∧w.cell? ⟨b,1,none⟩=some (.string x.name)∧w.cell? ⟨b,2,none⟩=some (.int .i64 x.low)∧w.cell? ⟨b,3,none⟩=some (.int .i64 x.high)∧w.cell? ⟨b,4,none⟩=some (.int .i64 x.max)∧w.cell? ⟨b,7,none⟩=some (.int .i64 x.key)∧w.cell? ⟨b,8,none⟩=some (.int .i64 x.elem):=by
 refine ⟨?_,?_,?_,?_,?_,?_,?_⟩ <;> (rw[cell_of_row _ _ _ _ _ _ h];rfl)
theorem text_any (s:List TyD) (A:zo) (c:Nat) (hv:zJ s=0) (hn:Num64 s):∀ (f:Nat) (t:Int) (w:World),(0≤t∧t<(s.length:Int))→finD s f t→f≤33→TysR w A s→Tab w →
  Calls Tryz.prog 53 #[.agg #[.slice A s.length c],.int .i64 t] w fun e w'=>e = .returned (.string (textD s f t))∧Below w.heap.size w w':=by
 intro f
 induction f with
 | zero=>intro t w _ h;exact h.elim
 | succ f ih =>
 intro t w hr hf hf33 hs htab
 obtain ⟨tn,rfl⟩:=Int.eq_ofNat_of_zero_le hr.1;have htn:tn<s.length:=by omega
 have HTA:=zh (zP htn);have HB0:=zh (zD w (.cells #[.slice A s.length c] 27));have HX0:=zh (heap_alloc_new w (.cells #[.slice A s.length c] 27));have HS:=zh hs;have HTB:=zh htab;have HV:=zh hv;have HN:=zh hn;have HR:=zh hr;have HF:=zh hf;have HIH:=zh ih;have HMX:=zh (max_in hv hr);have HK:=zh (yT hv hr);have hls:=zZ hv
 obtain ⟨b,o,As,cs,Am,cm,rfl,htr,t0,t1,t2,t3,t4,t5,t6,t7,t8,t9⟩:=(hs.below HB0.out).at10 htn;have h1:(0:Int)≤(tn:Int):=by omega
 have h2:(tn:Int)<(s.length:Int):=by omega
 have HL1:=zh (limT_le hv hr);clear htr hs htab hf ih hr hv hn;rw[HTA.out] at HMX HK HL1;have HNM:=zh (HN.out _ (List.getElem_mem htn));generalize hx:s[tn]=x at *;have HTX:Hid (tyAt s (tn:Int)=x):=HTA.out;clear HTA hx
 go_enter Tryz.func53,Tryz.ntmps53
 go_wp2_with fail
 have HB1:=zh (zB HB0.out (zD (w.alloc (.cells #[.slice (some ⟨b,o,none⟩) s.length c] 27)) (x.box As cs Am cm)));refine (itoa_any x.max HMX.out _ (HTB.out.below HB1.out)).mono ?_;rintro e w1 ⟨rfl,hb1⟩;have HX1:=zh ((hb1.block _ (by simp)).trans (show ((w.alloc (.cells #[.slice (some ⟨b,o,none⟩) s.length c] 27)).alloc (x.box As cs Am cm)).heap[w.heap.size+1]? = some (x.box As cs Am cm) by
  have:=heap_alloc_new (w.alloc (.cells #[.slice (some ⟨b,o,none⟩) s.length c] 27)) (x.box As cs Am cm);rw[show (w.alloc (.cells #[.slice (some ⟨b,o,none⟩) s.length c] 27)).heap.size=w.heap.size+1 by simp] at this
  exact this))
 have HX2:=zh ((hb1.block _ (by simp;omega)).trans (((zD _ (x.box As cs Am cm)).block w.heap.size (by simp)).trans HX0.out))
 have HB:=zh (zB HB1.out hb1);have HZM:Hid ((decB x.max).size≤21):=yE HMX.out;obtain ⟨b0,b1,b2,b3,b4,b7,b8⟩:=box_cells HX1.out;have hb0':w1.cell? ⟨w.heap.size,0,none⟩=some (.slice (some ⟨b,o,none⟩) s.length c):=by rw[cell_of_row _ _ _ _ _ _ HX2.out];rfl
 have HCL:=zh (And.intro hb0' (And.intro b2 (And.intro b3 (And.intro b7 b8))));clear t0 t1 t2 t3 t4 t5 t6 t7 t8 t9 hb1 HX0 HB0 HB1
 by_cases k1:x.kind=1
 ·have HT:Hid (textD s (f+1) (tn:Int)=⟨#[98,111,111,108]⟩):=by
   show _=_
   unfold textD;rw[HTX.out,if_pos k1]
  have q1:(x.kind==1)=true:=by simp[k1]
  clear k1;go_wp2;go_ret;exact ⟨by rw[HT.out];rfl,HB.out⟩
 have q1:(x.kind==1)=false:=by simp[k1]
 by_cases k2:x.kind=2
 ·have HT:Hid (textD s (f+1) (tn:Int)=intT x):=by
   show _=_
   unfold textD;rw[HTX.out,if_neg k1,if_pos k2]
  have q2:(x.kind==2)=true:=by simp[k2]
  have d1:=yE HNM.out.1;have d2:=yE HNM.out.2;have n1:¬ 9223372036854775807<4+(decB x.low).size:=by omega
  have n2:¬ 9223372036854775807<4+(decB x.low).size+2:=by omega
  have n3:¬ 9223372036854775807<4+(decB x.low).size+2+(decB x.high).size:=by omega
  have n4:¬ 9223372036854775807<4+(decB x.low).size+2+(decB x.high).size+1:=by omega
  clear k1 k2 d1 d2;go_upto_region 7 with fail
  refine wp_region_held_drew (S:=(fun w'=>(w'.cell? ⟨w.heap.size+1,2,none⟩=some (.int .i64 x.low)∧w'.cell? ⟨w.heap.size+1,3,none⟩=some (.int .i64 x.high))∧Hid (Below w1.heap.size w1 w'))) (by kernel_rfl) ?_ (fun zH_=>?_)
  ·(try dsimp only);exact ⟨⟨HCL.out.2.1,HCL.out.2.2.1⟩,zC (Below.refl _ _) 1⟩
  refine tL 0 ?_;refine tL 1 ?_;refine tL 5 ?_;refine tL 6 ?_;refine tR 2 (fun K hK=>?_)
  go_simp
  (refine (fmt_any x.low HNM.out.1 _ (HTB.out.below (zB HB.out zH_.2.out))).mono ?_;rintro e w2 ⟨rfl,hb2⟩;have HB2:=zh (zB zH_.2.out hb2);clear hb2)
  refine hK.out _ _ ?_ (fun zH_=>?_)
  ·(try dsimp only);exact ⟨⟨zA HB2.out HCL.out.2.1,zA HB2.out HCL.out.2.2.1⟩,HB2.out⟩
  clear hK K;refine tL 3 ?_;try simp only[ps]
  refine tL 4 ?_;refine tR 7 (fun K hK=>?_)
  go_simp
  (refine (fmt_any x.high HNM.out.2 _ (HTB.out.below (zB HB.out zH_.2.out))).mono ?_;rintro e w3 ⟨rfl,hb3⟩;have HB3:=zh (zB zH_.2.out hb3);clear hb3)
  refine hK.out _ _ ?_ (fun zH_=>?_)
  ·(try dsimp only);exact ⟨⟨zA HB3.out HCL.out.2.1,zA HB3.out HCL.out.2.2.1⟩,HB3.out⟩
  clear hK K;refine tL 8 ?_;refine tL 9 ?_;refine tL 10 ?_;refine wpAnyH_done (by kernel_rfl) ?_ _
  clear zH_;go_wp2;go_ret;exact ⟨by rw[HT.out];rfl,zB HB.out HB3.out⟩
 have q2:(x.kind==2)=false:=by simp[k2]
 by_cases k3:x.kind=3
 ·have HT:Hid (textD s (f+1) (tn:Int)=strT x):=by
   show _=_
   unfold textD;rw[HTX.out,if_neg k1,if_neg k2,if_pos k3]
  have q3:(x.kind==3)=true:=by simp[k3]
  have d1:=HZM.out;have n1:¬ 9223372036854775807<7+(decB x.max).size:=by omega
  have n2:¬ 9223372036854775807<7+(decB x.max).size+1:=by omega
  clear k1 k2 k3 d1;go_wp2;go_ret;exact ⟨by rw[HT.out];rfl,HB.out⟩
 have q3:(x.kind==3)=false:=by simp[k3]
 by_cases k7:x.kind=7
 ·have HC:Hid (compK (tyAt s (tn:Int)).kind):=by show compK _;rw[HTX.out];exact .inl k7
  have HER:Hid (0≤x.elem∧x.elem<(s.length:Int)):=by
   have:=yP HV.out HR.out HC.out;rw[HTX.out] at this;exact this
  have HFE:Hid (finD s f x.elem):=by
   have:=HF.out HC.out;rw[HTX.out] at this;exact this
  have HT:Hid (textD s (f+1) (tn:Int)=⟨#[108,105,115,116,40]⟩++textD s f x.elem++limT x):=by
   show _=_
   rw[textD,HTX.out,if_neg k1,if_neg k2,if_neg k3,if_pos k7]
  have q7:(x.kind==7)=true:=by simp[k7]
  have d1:=HZM.out;have d2:=text_le HV.out HN.out f _ HER.out HFE.out;have HAS:=zh (app_lim x);obtain ⟨T,hT⟩:∃T,T=textD s f x.elem:=⟨_,rfl⟩;rw[←hT] at HT d2;have HTE:=zh hT;have n1:¬ 9223372036854775807<5+T.size:=by omega
  have n2:¬ 9223372036854775807<5+T.size+2:=by omega
  have n3:¬ 9223372036854775807<5+T.size+2+(decB x.max).size:=by omega
  have n4:¬ 9223372036854775807<5+T.size+2+(decB x.max).size+1:=by omega
  clear k1 k2 k3 k7 d1 d2 hT;go_wp2_with fail;refine (HIH.out x.elem _ HER.out HFE.out (by omega) (HS.out.below HB.out) (HTB.out.below HB.out)).mono ?_
  rintro e w2 ⟨rfl,hb2⟩;rw[←HTE.out];have HB2:=zh (zB HB.out hb2);clear hb2;go_wp2;go_ret;exact ⟨by rw[HT.out,←HAS.out];rfl,HB2.out⟩
 have q7:(x.kind==7)=false:=by simp[k7]
 by_cases k8:x.kind=8
 ·have HC:Hid (compK (tyAt s (tn:Int)).kind):=by show compK _;rw[HTX.out];exact .inr (.inl k8)
  have HER:Hid (0≤x.elem∧x.elem<(s.length:Int)):=by
   have:=yP HV.out HR.out HC.out;rw[HTX.out] at this;exact this
  have HKR:Hid ((0≤x.key∧x.key<(s.length:Int))∧1≤(tyAt s x.key).kind∧(tyAt s x.key).kind≤4):=by
   have:=key_rng HV.out HR.out (by rw[HTX.out];exact k8)
   rw[HTX.out] at this;exact this
  have HFE:Hid (finD s f x.elem):=by
   have:=HF.out HC.out;rw[HTX.out] at this;exact this
  have HFK:Hid (finD s f x.key):=by
   have h:=HFE.out
   show finD s f x.key
   cases f with
   | zero=>exact h.elim
   | succ g=>exact fun hc=>absurd hc (not_comp4 HKR.out.2)
  have HT:Hid (textD s (f+1) (tn:Int)=⟨#[109,97,112,40]⟩++textD s f x.key++⟨#[44,32]⟩++textD s f x.elem++limT x):=by
   show _=_
   rw[textD,HTX.out,if_neg k1,if_neg k2,if_neg k3,if_neg k7,if_pos k8]
  have q8:(x.kind==8)=true:=by simp[k8]
  have d1:=HZM.out;have d2:=text_le HV.out HN.out f _ HER.out HFE.out;have d3:=text_le HV.out HN.out f _ HKR.out.1 HFK.out;have HAS:=zh (app_lim x);obtain ⟨T,hT⟩:∃T,T=textD s f x.elem:=⟨_,rfl⟩;rw[←hT] at HT d2;have HTE:=zh hT;obtain ⟨U,hU⟩:∃U,U=textD s f x.key:=⟨_,rfl⟩;rw[←hU] at HT d3;have HTU:=zh hU;have n1:¬ 9223372036854775807<4+U.size:=by omega
  have n2:¬ 9223372036854775807<4+U.size+2:=by omega
  have n3:¬ 9223372036854775807<4+U.size+2+T.size:=by omega
  have n4:¬ 9223372036854775807<4+U.size+2+T.size+2:=by omega
  have n5:¬ 9223372036854775807<4+U.size+2+T.size+2+(decB x.max).size:=by omega
  have n6:¬ 9223372036854775807<4+U.size+2+T.size+2+(decB x.max).size+1:=by omega
  clear k1 k2 k3 k7 k8 d1 d2 d3 hT hU;go_upto_region 13 with fail
  refine wp_region_held_drew (S:=(fun w'=>(w'.cell? ⟨w.heap.size,0,none⟩=some (.slice (some ⟨b,o,none⟩) s.length c)∧w'.cell? ⟨w.heap.size+1,7,none⟩=some (.int .i64 x.key)∧w'.cell? ⟨w.heap.size+1,8,none⟩=some (.int .i64 x.elem))∧Hid (Below w1.heap.size w1 w'))) (by kernel_rfl) ?_ (fun zH_=>?_)
  ·(try dsimp only);exact ⟨⟨HCL.out.1,HCL.out.2.2.2.1,HCL.out.2.2.2.2⟩,zC (Below.refl _ _) 1⟩
  refine tL 0 ?_;try simp only[ps]
  refine tL 1 ?_;refine tL 2 ?_;refine tL 6 ?_;refine tL 7 ?_;refine tL 8 ?_;refine tL 12 ?_;try simp only[ps]
  refine tR 3 (fun K hK=>?_)
  go_simp
  (refine (HIH.out x.key _ HKR.out.1 HFK.out (by omega) (HS.out.below (zB HB.out zH_.2.out)) (HTB.out.below (zB HB.out zH_.2.out))).mono ?_;rintro e w2 ⟨rfl,hb2⟩;rw[←HTU.out];have HB2:=zh (zB zH_.2.out hb2);clear hb2)
  refine hK.out _ _ ?_ (fun zH_=>?_)
  ·(try dsimp only);exact ⟨⟨zA HB2.out HCL.out.1,zA HB2.out HCL.out.2.2.2.1,zA HB2.out HCL.out.2.2.2.2⟩,HB2.out⟩
  clear hK K;refine tL 4 ?_;refine tL 5 ?_;refine tR 9 (fun K hK=>?_)
  go_simp
  (refine (HIH.out x.elem _ HER.out HFE.out (by omega) (HS.out.below (zB HB.out zH_.2.out)) (HTB.out.below (zB HB.out zH_.2.out))).mono ?_;rintro e w3 ⟨rfl,hb3⟩;rw[←HTE.out];have HB3:=zh (zB zH_.2.out hb3);clear hb3)
  refine hK.out _ _ ?_ (fun zH_=>?_)
  ·(try dsimp only);exact ⟨⟨zA HB3.out HCL.out.1,zA HB3.out HCL.out.2.2.2.1,zA HB3.out HCL.out.2.2.2.2⟩,HB3.out⟩
  clear hK K;refine tL 10 ?_;refine tL 11 ?_;try simp only[ps]
  refine tL 13 ?_;refine tL 14 ?_;refine tL 15 ?_;refine wpAnyH_done (by kernel_rfl) ?_ _
  clear zH_;go_wp2;go_ret;exact ⟨by rw[HT.out,←HAS.out];rfl,zB HB.out HB3.out⟩
 have q8:(x.kind==8)=false:=by simp[k8]
 by_cases k9:x.kind=9
 ·have HC:Hid (compK (tyAt s (tn:Int)).kind):=by show compK _;rw[HTX.out];exact .inr (.inr k9)
  have HER:Hid (0≤x.elem∧x.elem<(s.length:Int)):=by
   have:=yP HV.out HR.out HC.out;rw[HTX.out] at this;exact this
  have HFE:Hid (finD s f x.elem):=by
   have:=HF.out HC.out;rw[HTX.out] at this;exact this
  have HT:Hid (textD s (f+1) (tn:Int)=⟨#[111,112,116,105,111,110,97,108,40]⟩++textD s f x.elem++⟨#[41]⟩):=by
   show _=_
   rw[textD,HTX.out,if_neg k1,if_neg k2,if_neg k3,if_neg k7,if_neg k8,if_pos k9]
  have q9:(x.kind==9)=true:=by simp[k9]
  have d2:=text_le HV.out HN.out f _ HER.out HFE.out;obtain ⟨T,hT⟩:∃T,T=textD s f x.elem:=⟨_,rfl⟩;rw[←hT] at HT d2;have HTE:=zh hT;have n1:¬ 9223372036854775807<9+T.size:=by omega
  have n2:¬ 9223372036854775807<9+T.size+1:=by omega
  clear k1 k2 k3 k7 k8 k9 d2 hT;go_wp2_with fail;refine (HIH.out x.elem _ HER.out HFE.out (by omega) (HS.out.below HB.out) (HTB.out.below HB.out)).mono ?_
  rintro e w2 ⟨rfl,hb2⟩;rw[←HTE.out];have HB2:=zh (zB HB.out hb2);clear hb2;go_wp2;go_ret;exact ⟨by rw[HT.out];rfl,HB2.out⟩
 ·have q9:(x.kind==9)=false:=by simp[k9]
  have HT:Hid (textD s (f+1) (tn:Int)=x.name):=by
   show _=_
   rw[textD,HTX.out,if_neg k1,if_neg k2,if_neg k3,if_neg k7,if_neg k8,if_neg k9]
  clear k1 k2 k3 k7 k8 k9;go_wp2;go_ret;exact ⟨by rw[HT.out];rfl,HB.out⟩
theorem nil_app (a:ByteArray):⟨#[]⟩++a=a:=by apply ByteArray.ext;simp[ByteArray.data_append]
theorem app_assoc (a b c:ByteArray):a++b++c=a++(b++c):=by apply ByteArray.ext;simp[ByteArray.data_append,Array.append_assoc]
def sp1:ByteArray:=⟨#[32]⟩
def memT (s:List TyD) (df:MemD→ByteArray) (m:MemD):ByteArray :=
 decB m.id++(if m.critical then ⟨#[33]⟩ else ⟨#[]⟩)++(⟨#[32]⟩++m.name++⟨#[58,32]⟩++textD s (s.length+1) m.type)++(if m.hasDef then ⟨#[32,61,32]⟩++df m else ⟨#[]⟩)++⟨#[59]⟩
def symT (y:SymD):ByteArray:=decB y.id++⟨#[32]⟩++y.name++⟨#[59]⟩
def kindW (k:Int):ByteArray:=if k=4 then ⟨#[101,110,117,109]⟩ else if k=5 then ⟨#[114,101,99,111,114,100]⟩ else if k=6 then ⟨#[117,110,105,111,110]⟩ else ⟨#[]⟩
def wordsT (s:List TyD) (df:MemD→ByteArray) (x:TyD):List ByteArray :=
 [kindW x.kind,x.name]++(if x.open_ then [⟨#[111,112,101,110]⟩] else [])++[⟨#[123]⟩]++x.syms.map symT++x.mems.map (memT s df)++[⟨#[125,59]⟩]
def joinB (l:List ByteArray) (sep:ByteArray):ByteArray:=⟨(Lib.join (l.map (·.data.toList)) sep.data.toList).toArray⟩
def declT (s:List TyD) (df:MemD→ByteArray) (x:TyD):ByteArray:=joinB (wordsT s df x) sp1++⟨#[10]⟩
def printT (s:List TyD) (df:MemD→ByteArray) (l:List TyD):ByteArray:=l.foldl (fun b x=>if zL x.kind then b++declT s df x else b) ⟨#[]⟩
theorem lens_le (n:Nat):∀ (l:List ByteArray),(∀y∈l,y.size≤n)→Lib.lens (l.map (·.data.toList))≤l.length * n
 | [],_=>by show 0≤_;omega
 | y::r,h=>by
  have h1:=h y List.mem_cons_self;have h2:=lens_le n r fun z hz=>h z (List.mem_cons_of_mem _ hz)
  rw[List.length_cons,Nat.succ_mul,List.map_cons];unfold Lib.lens at h2 ⊢;rw[List.map_cons,List.sum_cons,Array.length_toList];have:y.data.size=y.size:=rfl
  omega
theorem join_len_le (l:List ByteArray) (n:Nat) (h:∀x∈l,x.size≤n):(Lib.join (l.map (·.data.toList)) sp1.data.toList).length≤l.length * (n+1):=by
 cases l with
 | nil=>show 0≤_;omega
 | cons x l =>
  have h1:=lens_le n (x::l) h;rw[List.map_cons] at h1;rw[List.map_cons,Lib.join_length,List.length_map]
  show 1 * l.length+_≤_
  rw[List.length_cons] at *;rw[Nat.mul_add]
  omega
theorem joinB_le (l:List ByteArray) (n:Nat) (h:∀x∈l,x.size≤n):(joinB l sp1).size≤l.length * (n+1):=by
 have:=join_len_le l n h;unfold joinB
 show Array.size _≤_
 rw[List.size_toArray];exact this
section
variable {s:List TyD} {df:MemD→ByteArray}
theorem memT_le {m:MemD} {n:Nat} (hi:In64 m.id) (hn:m.name.size≤24) (hd:(df m).size≤n) (ht:(textD s (s.length+1) m.type).size≤3300):(memT s df m).size≤3400+n:=by
 have k1:=yE hi;unfold memT;simp only[zG];have k2:(if m.critical then (⟨#[33]⟩:ByteArray) else ⟨#[]⟩).size≤1:=by split <;> decide
 have k3:(if m.hasDef then (⟨#[32,61,32]⟩:ByteArray)++df m else ⟨#[]⟩).size≤3+n:=by
  split
  ·rw[zG];show 3+_≤_;omega
  ·show 0≤_;omega
 show _+_+(1+_+2+_)+_+1≤_
 omega
theorem symT_le {y:SymD} (hi:In64 y.id) (hn:y.name.size≤24):(symT y).size≤47:=by
 have k1:=yE hi;unfold symT;simp only[zG]
 show _+1+_+1≤_
 omega
theorem kindW_le (k:Int):(kindW k).size≤6:=by unfold kindW;(repeat' split) <;> decide
end
theorem ids_rng:∀ (L:List (Int×ByteArray)) (b:Int) (K:List ByteArray),idsOk b K L=true→∀x∈L,(1≤x.1∧x.1≤1000)∧x.2.size≤24
 | [],_,_,_,x,hx=>by cases hx
 | y::L,b,K,h,x,hx=>by
  rw[idsOk] at h;simp only[Bool.and_eq_true,decide_eq_true_eq] at h;obtain ⟨⟨⟨⟨⟨h1,h2⟩,_⟩,_⟩,h5⟩,h6⟩:=h
  rcases List.mem_cons.1 hx with e|e
  ·subst e
   unfold nameB at h5;simp only[Bool.and_eq_true,decide_eq_true_eq] at h5;exact ⟨⟨h1,h2⟩,h5.1.1.2⟩
  ·exact ids_rng L _ _ h6 x e
section
variable {s:List TyD} {t:TyD}
theorem mem_rng (hv:zJ s=0) (ht:t∈s) {m:MemD} (hm:m∈t.mems):((1≤m.id∧m.id≤1000)∧m.name.size≤24)∧(0≤m.type∧m.type<(s.length:Int)):=by
 have h:=(valid_tys hv ht).1;unfold formD at h;simp only[Bool.and_eq_true,decide_eq_true_eq] at h;obtain ⟨⟨⟨⟨h1,h2⟩,h3⟩,h4⟩,h5⟩:=h;have key:∀b,memsD b t.mems=true→((1≤m.id∧m.id≤1000)∧m.name.size≤24):=fun b hb=>by
  unfold memsD idsD at hb;simp only[Bool.and_eq_true] at hb;exact ids_rng _ _ _ hb.1.2.1 _ (List.mem_map.2 ⟨m,hm,rfl⟩)
 refine ⟨?_,(valid_tys hv ht).2 _ (List.mem_map.2 ⟨(m.id,m.type),?_,rfl⟩)⟩
 ·by_cases k5:t.kind=5
  ·unfold caseD at h5
   rw[if_neg (by omega),if_neg (by omega),if_neg (by omega),if_pos k5] at h5
   exact key _ h5
  by_cases k6:t.kind=6
  ·unfold caseD at h5
   rw[if_neg (by omega),if_neg (by omega),if_neg (by omega),if_neg (by omega),if_pos k6] at h5
   exact key _ h5
  ·exfalso
   have:t.mems=[]:=by
    rw[h3];unfold zV
    (repeat' split) <;> first|rfl|(exfalso;omega)
   rw[this] at hm
   cases hm
 ·unfold usesD
  simp only[List.mem_append,List.mem_map];exact .inl ⟨m,hm,rfl⟩
theorem sym_rng (hv:zJ s=0) (ht:t∈s) {y:SymD} (hy:y∈t.syms):((1≤y.id∧y.id≤1000)∧y.name.size≤24)∧t.syms.length≤16:=by
 have h:=(valid_tys hv ht).1;unfold formD at h;simp only[Bool.and_eq_true,decide_eq_true_eq] at h;obtain ⟨⟨⟨⟨h1,h2⟩,h3⟩,h4⟩,h5⟩:=h
 by_cases k4:t.kind=4
 ·unfold caseD at h5
  rw[if_neg (by omega),if_neg (by omega),if_pos k4] at h5
  unfold symsD idsD at h5;simp only[Bool.and_eq_true,decide_eq_true_eq,List.length_map] at h5;exact ⟨ids_rng _ _ _ h5.1.1 _ (List.mem_map.2 ⟨y,hy,rfl⟩),h5.1.2⟩
 ·exfalso
  have:t.syms=[]:=by
   rw[h3];unfold zV
   (repeat' split) <;> first|rfl|(exfalso;omega)
  rw[this] at hy
  cases hy
end
def ixAt (ix:List Int) (t:Int):Int:=ix.getD t.toNat 0
def TyD.ke (x:TyD) (k e:Int):TyD:={ x with key:=k,elem:=e }
def zY (s:List TyD) (ix:List Int):Nat→Int→List TyD→Int×List TyD
 | 0,_,out=>(0,out)
 | f+1,t,out =>
  if 0≤ixAt ix t then (ixAt ix t,out)
  else
   let x:=tyAt s t
   let r1:=if x.kind=8 then zY s ix f x.key (out++[x]) else (x.key,out++[x])
   let r2:=if compK x.kind then zY s ix f x.elem r1.2 else (x.elem,r1.2)
   ((out.length:Int),r2.2.set out.length (x.ke r1.1 r2.1))
def yB (s:List TyD) (ix:List Int) (ms:List MemD) (out:List TyD):List MemD×List TyD :=
 ms.foldl (fun a m=>(a.1++[{ m with type:=(zY s ix (s.length+1) m.type a.2).1 }],(zY s ix (s.length+1) m.type a.2).2)) ([],out)
def t1D (s:List TyD) (k:Nat):List Int×List TyD :=
 (List.range k).foldl (fun a (t:Nat)=>if zL (tyAt s t).kind then (a.1.set t (a.2.length:Int),a.2++[tyAt s t]) else a) (List.replicate s.length (-1),[])
def t2D (s:List TyD) (ix:List Int) (out:List TyD) (m:Nat):List TyD :=
 (List.range m).foldl (fun out i=>(yB s ix (out.getD i zeroT).mems out).2.set i { out.getD i zeroT with mems:=(yB s ix (out.getD i zeroT).mems out).1 }) out
def tidyL (s:List TyD):List TyD:=t2D s (t1D s s.length).1 (t1D s s.length).2 (t1D s s.length).2.length
section
variable {s:List TyD} {ix:List Int}
theorem placeD_ge:∀ (f:Nat) (t:Int) (out:List TyD),out.length≤(zY s ix f t out).2.length
 | 0,_,out=>Nat.le_refl _
 | f+1,t,out=>by
  unfold zY
  split
  ·exact Nat.le_refl _
  simp only[List.length_set];have h1:(out++[tyAt s t]).length≤(if (tyAt s t).kind=8 then zY s ix f (tyAt s t).key (out++[tyAt s t]) else ((tyAt s t).key,out++[tyAt s t])).2.length:=by
   split
   ·exact placeD_ge f _ _
   ·exact Nat.le_refl _
  rw[List.length_append] at h1;simp only[List.length_singleton] at h1
  split
  ·have:=placeD_ge f (tyAt s t).elem (if (tyAt s t).kind=8 then zY s ix f (tyAt s t).key (out++[tyAt s t]) else ((tyAt s t).key,out++[tyAt s t])).2
   omega
  ·simp only;omega
theorem placeD_le (hv:zJ s=0):∀ (f:Nat) (t:Int) (out:List TyD),(0≤t∧t<(s.length:Int))→(zY s ix f t out).2.length≤out.length+2 * f∧(¬ compK (tyAt s t).kind→(zY s ix f t out).2.length≤out.length+1)
 | 0,_,out,_=>⟨Nat.le_refl _,fun _=>Nat.le_succ _⟩
 | f+1,t,out,hr=>by
  unfold zY
  split
  ·exact ⟨by simp only;omega,fun _=>by simp only;omega⟩
  simp only[List.length_set]
  by_cases h8:(tyAt s t).kind=8
  ·obtain ⟨k1,k2⟩:=key_rng hv hr h8
   have hc:compK (tyAt s t).kind := .inr (.inl h8);rw[if_pos h8,if_pos hc];have h1:=(placeD_le hv f (tyAt s t).key (out++[tyAt s t]) k1).2 (not_comp4 k2);have h2:=(placeD_le hv f (tyAt s t).elem (zY s ix f (tyAt s t).key (out++[tyAt s t])).2 (yP hv hr hc)).1;rw[List.length_append,List.length_singleton] at h1;refine ⟨?_,fun h=>absurd hc h⟩
   cases f with
   | zero =>
    show (out++[tyAt s t]).length≤_
    rw[List.length_append,List.length_singleton];omega
   | succ f=>omega
  ·rw[if_neg h8]
   by_cases hc:compK (tyAt s t).kind
   ·rw[if_pos hc]
    have h2:=(placeD_le hv f (tyAt s t).elem (out++[tyAt s t]) (yP hv hr hc)).1;rw[List.length_append,List.length_singleton] at h2;exact ⟨by simp only;omega,fun h=>absurd hc h⟩
   ·rw[if_neg hc]
    simp only[List.length_append,List.length_singleton];exact ⟨by omega,fun _=>Nat.le_refl _⟩
end
theorem mk_ints (n:Nat) (hn:n≤1000) (w:World) :
  (Instr.makeSlice 31 (.int .i64 (n:Int)) (.int .i64 (n:Int))).run Tryz.prog w = .ok (.slice (some ⟨w.heap.size,0,none⟩) n n) (w.alloc (.cells (List.replicate n (.int .i64 0)).toArray 3)):=by
 obtain ⟨i,hi,hz,hsz,hb⟩:=info_parts (show (Tryz.prog.info? 3).map (fun i=>(i.zero,i.size,i.bytes))=some (some (.int .i64 0),1,8) by kernel_rfl)
 have hb':(i.bytes:Int) * (n:Int)≤281474976710656:=by rw[hb];omega
 have hr:=run_make (P:=Tryz.prog) w 31 3 i (.int .i64 0) Tryz.underlying31 hi hz .i64 .i64 n n (by omega) (Int.le_refl _) hb' (by omega)
 simp only[Int.toNat_natCast,hsz,Nat.mul_one,show (Value.int .i64 0).cells = #[.int .i64 0] from rfl] at hr;rw[hr];have:madeCells #[.int .i64 0] n=(List.replicate n (.int .i64 0)).toArray:=by
  apply Array.ext'
  rw[toList_madeCells_one]
 simp only[this]
def RK (n k:Nat):List Value:=List.replicate k (Value.int .i64 (-1))++List.replicate (n - k) (Value.int .i64 0)
theorem rk_splice {n j m:Nat} (h:j+m≤n):splice (RK n j) j (List.replicate m (Value.int .i64 (-1)))=RK n (j+m):=by
 unfold splice RK;rw[List.take_left' (by simp),List.length_replicate,List.drop_append,List.length_replicate,List.drop_eq_nil_of_le (by simp),List.drop_replicate,List.nil_append,←List.append_assoc,List.replicate_append_replicate]
 congr 2
 omega
theorem rk_len {n j:Nat} (h:j≤n):(RK n j).length=n:=by unfold RK;simp;omega
theorem rk_get {n j k:Nat} (h:k<j):(RK n j)[k]? = some (.int .i64 (-1)):=by
 unfold RK;rw[List.getElem?_append_left (by simp;exact h),List.getElem?_replicate,if_pos h]
theorem rk_cell {w:World} {g n j k:Nat} (h:w.heap[g]? = some (.cells (RK n j).toArray 3 (0,0))) (hk:k<j):w.cell? ((⟨g,0,none⟩:Addr).add k)=some (.int .i64 (-1)):=by
 rw[Addr.add_mid,Nat.zero_add,cell_of_row _ _ _ _ _ _ h,List.getElem?_toArray];exact rk_get hk
theorem repeat_any (n:Nat) (hn:n≤1000) (b:Nat) (w:World) (hx:w.cell? ⟨b,0,none⟩=some (.int .i64 (-1))) :
  Calls Tryz.prog 30 #[.slice (some ⟨b,0,none⟩) 1 1,.int .i64 n] w fun e w'=>e = .returned (.slice (some ⟨w.heap.size,0,none⟩) n n)∧w'.heap[w.heap.size]? = some (.cells (RK n n).toArray 3 (0,0))∧Below w.heap.size w w':=by
 have hmk:=mk_ints n hn;have HX:=zh hx;have n0:¬ (n:Int)<0:=by omega
 have hmu:(n:Int) % 18446744073709551616=n:=Int.emod_eq_of_lt (by omega) (by omega)
 clear hx
 go_enter Tryz.func30,Tryz.ntmps30
 have hz1:1 * n / 18446744073709551616=0:=by omega
 have hz2:1 * n % 18446744073709551616=n:=by omega
 have n1:¬ (n:Int) > 9223372036854775807:=by omega
 have n2:¬ (9223372036854775807:Int)<(n:Int):=by omega
 go_wp2_with fail
 refine (Tryz.bits_Mul 1 n (by omega) (by omega) _).mono ?_
 rintro e w ⟨rfl,rfl⟩;rw[hz1,hz2];have HB2:=zh (zD w (.cells (Array.replicate n (.int .i64 0)) 3));have HC2:Hid ((w.alloc (.cells (Array.replicate n (.int .i64 0)) 3)).heap[w.heap.size]? = some (.cells (RK n 0).toArray 3 (0,0))):=(heap_alloc_new w _).trans (by simp[RK])
 have HX2:=zh (zA HB2.out HX.out);obtain ⟨cs0,hcs0⟩:∃cs0,cs0=List.replicate (Nat.min 1 n) (Value.int .i64 (-1)):=⟨_,rfl⟩;have HCS:=zh hcs0;have HL0:Hid (cs0.length=Nat.min 1 n):=by show _=_;rw[hcs0,List.length_replicate]
 have HR0:Hid (splice (RK n 0) 0 cs0=RK n (Nat.min 1 n)):=by show _=_;rw[hcs0,rk_splice (by rw[Nat.zero_add];exact Nat.min_le_right _ _),Nat.zero_add]
 have HO0:Hid (∀v∈cs0,v.oneCell'=true):=by intro v hv;rw[hcs0] at hv;rw[List.eq_of_mem_replicate hv];rfl
 have HG0:Hid (∀j v,cs0[j]? = some v→j=0∧v = .int .i64 (-1)):=by
  intro j v hj
  rw[hcs0] at hj;obtain ⟨h1,h2⟩:=List.getElem?_eq_some_iff.1 hj;simp at h1 h2;have:Nat.min 1 n≤1:=Nat.min_le_left 1 n;exact ⟨by omega,h2.symm⟩
 clear hcs0
 go_wp2_with (refine wpList_copy_splice rfl (.tmp 31) (.tmp 32) 31 31 rfl 3 Tryz.underlying31 (by kernel_rfl) (some ⟨w.heap.size,0,none⟩) (some ⟨b,0,none⟩) n n 1 1 rfl rfl w.heap.size 0 (RK n 0) 3 ?_ cs0 ?_ ?_ ?_ ?_ w.heap.size w ?_ ?_ ?_;(exact HC2.out);(exact HL0.out);(intro _;exact ⟨rfl,⟨b,0,none⟩,rfl,fun j v hj=>by obtain ⟨rfl,rfl⟩:=HG0.out j v hj;exact HX2.out⟩);(rw[HL0.out,rk_len (Nat.zero_le _),Nat.zero_add];exact Nat.min_le_right _ _);(exact HO0.out);(exact HB2.out);(exact Nat.le_refl _);intro w3 hg3 hb3)
 rw[HR0.out] at hg3;rw[HL0.out];have HM1:Hid (Nat.min 1 n≤n∧(0<n→0<Nat.min 1 n)):=⟨Nat.min_le_right _ _,fun h=>by have:Nat.min 1 n=1:=Nat.min_eq_left h;omega⟩
 clear HL0 HR0 HO0 HG0 HCS HX2 HC2 HB2 hz1 hz2;generalize Nat.min 1 n=m1 at *;clear cs0
 go_loopw [8] (fun k wr=>∃j:Nat,k = .int .i64 (j:Int)∧Hid ((j≤n∧(0<n→0<j))∧wr.heap[w.heap.size]? = some (.cells (RK n j).toArray 3 (0,0))∧Below w.heap.size w wr)) (fun k _=>n - (intOf k).toNat)
 case atStart=>exact ⟨m1,rfl,HM1.out,hg3.out,hb3⟩
 case round =>
  obtain ⟨j,rfl,hh⟩:=hrel;have HJ:=zh hh.out.1;have HR:=zh hh.out.2.1;have HB:=zh hh.out.2.2;clear hh hg3 hb3
  by_cases hlt:j<n
  ·have q1:(j:Int)<(n:Int):=by omega
   have q2:(0:Int)≤(j:Int):=by omega
   have q3:(j:Int)≤(n:Int):=by omega
   have hj0:0<j:=HJ.out.2 (by omega)
   obtain ⟨m,hm⟩:∃m,m=Nat.min j (n - j):=⟨_,rfl⟩;have hm1:m≤j:=hm▸Nat.min_le_left _ _;have hm2:m≤n - j:=hm▸Nat.min_le_right _ _;have hm0:0<m:=by rw[hm];exact Nat.lt_min.2 ⟨hj0,by omega⟩
   have HS:=zh (rk_splice (n:=n) (j:=j) (m:=m) (by omega))
   have HM:=zh hm;clear hm;have HGI:Hid (goInt ((List.replicate m (Value.int .i64 (-1))).length:Int) = .int .i64 (m:Int)):=by show _=_;rw[List.length_replicate];rfl
   have HWR:Hid (IntKind.i64.wrap ((j:Int)+(m:Int))=(j:Int)+(m:Int)):=by show _=_;rw[IntKind.wrap_i64];omega
   go_wp2_with fail
   refine wp_region_any (by kernel_rfl) ?_
   (try (change wpAny _ _ _ _ _ _ _ (World.drew _)))
   refine tkA 0 ?v0 rfl (by kernel_rfl) (.inl ⟨by rfl,?y0⟩) ?_
   case y0=>(intro w;go_simp;try with_reducible rfl)
   try simp only[ps]
   refine tkA 1 ?v1 rfl (by kernel_rfl) (.inl ⟨by rfl,?y1⟩) ?_
   case y1=>(intro w;go_simp;try with_reducible rfl)
   try simp only[ps]
   refine tkA 2 ?v2 rfl (by kernel_rfl) (.inl ⟨by rfl,?y2⟩) ?_
   case y2=>(intro w;go_simp;try with_reducible rfl)
   try simp only[ps]
   refine tkA 3 ?v3 rfl (by kernel_rfl) (.inl ⟨by rfl,?y3⟩) ?_
   case y3=>(intro w;go_simp;try with_reducible rfl)
   try simp only[ps]
   refine tkA 4 ?v4 rfl (by kernel_rfl) (.inl ⟨by rfl,?y4⟩) ?_
   case y4=>(intro w;go_simp;try with_reducible rfl)
   try simp only[ps]
   refine tkA 5 ?v5 rfl (by kernel_rfl) (.inl ⟨by rfl,?y5⟩) ?_
   case y5=>(intro w;go_simp;try with_reducible rfl)
   try simp only[ps]
   refine tkA 6 ?v6 rfl (by kernel_rfl) (.inl ⟨by rfl,?y6⟩) ?_
   case y6=>(intro w;go_simp;try with_reducible rfl)
   try simp only[ps]
   refine wpAny_ready (rs:=[7]) (by kernel_rfl) (by simp) ?_
   refine (AllReady.cons rfl (fun K hK=>?_) AllReady.nil)
   (refine step_copy_splice rfl (.tmp 41) (.tmp 44) 31 31 rfl 3 Tryz.underlying31 (by kernel_rfl) (some ⟨w.heap.size,j,none⟩) (some ⟨w.heap.size,0,none⟩) (n - j) (n - j) j n (by show Value.slice (if n=j then _ else _) _ _=_;rw[if_neg (by omega)]) (by rfl) w.heap.size j (RK n j) 3 ?_ (List.replicate m (.int .i64 (-1))) ?_ ?_ ?_ ?_ w.heap.size w ?_ ?_ ?_;(exact HR.out);(rw[List.length_replicate];exact HM.out);(intro _;exact ⟨rfl,⟨w.heap.size,0,none⟩,rfl,fun k v hk=>by obtain ⟨hk1,hk2⟩:=List.getElem?_eq_some_iff.1 hk;rw[List.length_replicate] at hk1;rw[List.getElem_replicate] at hk2;subst hk2;exact rk_cell HR.out (by omega)⟩);(rw[List.length_replicate,rk_len HJ.out.1];omega);(exact fun v hv=>by rw[List.eq_of_mem_replicate hv];rfl);(exact zC HB.out 1);(exact Nat.le_refl _);intro w4 hg4 hb4;rw[HGI.out])
   refine hK _ _ ?_;clear hK K;try simp only[ps]
   refine tkA 8 ?v7 rfl (by kernel_rfl) (.inl ⟨by rfl,?y7⟩) ?_
   case y7=>(intro w;go_simp;try with_reducible rfl)
   try simp only[ps]
   refine tkA 9 ?v8 rfl (by kernel_rfl) (.inl ⟨by rfl,?y8⟩) ?_
   case y8=>(intro w;go_simp;try with_reducible rfl)
   try simp only[ps]
   refine wpAny_done (by kernel_rfl) ?_ _
   rw[HS.out] at hg4;rw[HWR.out];go_wp2;go_roundw
   case rel=>exact ⟨j+m,by go_num,⟨by omega,fun _=>by omega⟩,hg4.out,hb4⟩
   case measure=>simp[intOf];omega
  ·have HK:=zh (show j=n by have:=HJ.out.1;omega)
   have q1:¬ (j:Int)<(n:Int):=by omega
   go_wp2
   go_ret
   exact ⟨rfl,by have:=HR.out;rw[HK.out] at this;exact this,HB.out⟩
def bareD (v:Val):Val :=
 .mk v.kind (if v.kind=1 then v.bool else false) (if v.kind=2 then v.int else 0) (if v.kind=3 then v.str else ⟨#[]⟩) (if v.kind=4∨v.kind=6 then v.id else 0)
  (if v.kind=8 then v.keys else []) (if 5≤v.kind∧v.kind≤9 then v.items else []) (if v.kind=5∨v.kind=6 then v.rest else [])
def zK (v:Val):Bool :=
 decide (v.bool=(bareD v).bool)&&decide (v.int=(bareD v).int)&&decide (v.str=(bareD v).str)&&decide (v.id=(bareD v).id)&&decide (v.keys.length=(bareD v).keys.length)&&decide (v.items.length=(bareD v).items.length)&&decide (v.rest.length=(bareD v).rest.length)
def freeD (n:Int):Bool:=decide (1≤n)&&decide (n≤1000)
def cmpI (a b:Int):Int:=if a<b then -1 else if a=b then 0 else 1
def zzD (n:Int):Int:=if 0≤n then 2 * n else -2 * n - 1
def ltS (a b:ByteArray):Bool:=Go.Op.bytesLess a.toList b.toList
def cmpS (a b:ByteArray):Int:=if ltS a b then -1 else if a=b then 0 else 1
def cmpV (a b:Val):Int :=
 if a.kind≠b.kind then 0
 else if a.kind=1 then (if a.bool=b.bool then 0 else if b.bool then -1 else 1)
 else if a.kind=2 then cmpI (zzD a.int) (zzD b.int)
 else if a.kind=3 then (if cmpI a.str.size b.str.size≠0 then cmpI a.str.size b.str.size else cmpS a.str b.str)
 else if a.kind=4 then cmpI a.id b.id
 else 0
def ascV:List Val→Bool
 | a::b::r=>decide (cmpV a b<0)&&ascV (b::r)
 | _=>true
def rawsD (x:TyD):List RawD→Bool
 | []=>true
 | a::r=>(x.mems.all fun m=>decide (m.id≠a.id))&&freeD a.id&&(match r with|b::_=>decide (a.id<b.id) | []=>true)&&rawsD x r
def fitB (f:Int→Val→Bool) (plain:Bool) (x:TyD) (v:Val):Bool :=
 if x.kind=2 then decide (x.low≤v.int)&&decide (v.int≤x.high)
 else if x.kind=3 then decide ((v.str.size:Int)≤x.max)
 else if x.kind=4 then (x.syms.any fun y=>decide (y.id=v.id))||(x.open_ && !plain&&freeD v.id)
 else if x.kind=5 then decide (v.items.length=x.mems.length) && !(plain&&decide (0<v.rest.length))&&rawsD x v.rest&&((x.mems.zip v.items).all fun p=>f p.1.type p.2)
 else if x.kind=6 then (match x.mems.find? fun m=>decide (m.id=v.id) with
  | some m=>decide (v.items.length=1)&&decide (v.rest.length=0)&&(v.items.all fun y=>f m.type y)
  | none=>x.open_ && !plain&&freeD v.id&&decide (v.items.length=0)&&decide (v.rest.length=1)&&(v.rest.all fun r=>decide (r.id=v.id)))
 else if x.kind=7 then decide ((v.items.length:Int)≤x.max)&&(v.items.all fun y=>f x.elem y)
 else if x.kind=8 then decide ((v.keys.length:Int)≤x.max)&&decide (v.items.length=v.keys.length)&&(v.keys.all fun y=>f x.key y)&&ascV v.keys&&(v.items.all fun y=>f x.elem y)
 else if x.kind=9 then decide (v.items.length≤1)&&(v.items.all fun y=>f x.elem y)
 else true
def fitF (s:List TyD) (plain:Bool):Nat→Int→Val→Bool
 | 0,_,_=>false
 | n+1,t,v=>if t<0∨(s.length:Int)≤t then false else if v.kind≠(tyAt s t).kind∨zK v=false then false else fitB (fitF s plain n) plain (tyAt s t) v
noncomputable def fitV (s:List TyD) (plain:Bool) (t:Int) (v:Val):Bool:=fitF s plain (SizeOf.sizeOf v) t v
noncomputable def defErr (s:List TyD):Int:=if zJ s≠0 then zJ s else if (s.any fun t=>t.mems.any fun m=>m.hasDef && !fitV s true m.type m.dflt) then 1 else 0
def hexB (n:Nat):UInt8:=if n<10 then UInt8.ofNat (48+n) else UInt8.ofNat (87+n)
def quB (c:UInt8):ByteArray :=
 if c.toNat=34∨c.toNat=92 then ⟨#[92,c]⟩
 else if c.toNat=10 then ⟨#[92,110]⟩
 else if c.toNat<32∨126<c.toNat then ⟨#[92,120,hexB (c.toNat / 16),hexB (c.toNat % 16)]⟩
 else ⟨#[c]⟩
def quK (s:ByteArray):Nat→ByteArray
 | 0=>⟨#[34]⟩
 | k+1=>quK s k++quB (s.data.getD k 0)
def quD (s:ByteArray):ByteArray:=quK s s.size++⟨#[34]⟩
theorem quB_le (c:UInt8):(quB c).size≤4:=by
 unfold quB
 split
 ·show 2≤4;omega
 ·split
  ·show 2≤4;omega
  ·split
   ·exact Nat.le_refl _
   ·show 1≤4;omega
theorem quK_le (s:ByteArray):∀k,(quK s k).size≤4 * k+1
 | 0=>Nat.le_refl _
 | k+1=>by
  have h:=quK_le s k;have:=quB_le (s.data.getD k 0);unfold quK;rw[ByteArray.size_append]
  omega
theorem quK_mono (s:ByteArray) {k m:Nat} (h:k≤m):(quK s k).size≤(quK s m).size:=by
 induction m with
 | zero=>rw[Nat.le_zero.1 h];exact Nat.le_refl _
 | succ m ih =>
  rcases Nat.lt_or_ge k (m+1) with h1|h1
  ·have:=ih (by omega)
   rw[quK,ByteArray.size_append]
   omega
  ·rw[Nat.le_antisymm h h1];exact Nat.le_refl _
theorem quD_le (s:ByteArray):(quD s).size≤4 * s.size+2:=by
 have:=quK_le s s.size;unfold quD;rw[ByteArray.size_append]
 show _+1≤_
 omega
def catK (f:Nat→ByteArray):Nat→ByteArray
 | 0=>⟨#[]⟩
 | k+1=>catK f k++(if k=0 then ⟨#[]⟩ else ⟨#[44,32]⟩)++f k
def catL (l:List ByteArray):ByteArray:=catK (fun i=>l.getD i ⟨#[]⟩) l.length
theorem catK_mono (f:Nat→ByteArray) {k m:Nat} (h:k≤m):(catK f k).size≤(catK f m).size:=by
 induction m with
 | zero=>rw[Nat.le_zero.1 h];exact Nat.le_refl _
 | succ m ih =>
  rcases Nat.lt_or_ge k (m+1) with h1|h1
  ·have:=ih (by omega)
   rw[catK,ByteArray.size_append,ByteArray.size_append]
   omega
  ·rw[Nat.le_antisymm h h1];exact Nat.le_refl _
theorem catK_part (f:Nat→ByteArray) {k m:Nat} (h:k<m):(catK f k).size+(if k=0 then (⟨#[]⟩:ByteArray) else ⟨#[44,32]⟩).size+(f k).size≤(catK f m).size:=by
 have:=catK_mono f (show k+1≤m by omega)
 rw[catK,ByteArray.size_append,ByteArray.size_append] at this;exact this
def memP (f:Int→Val→ByteArray) (p:MemD×Val):ByteArray:=p.1.name++⟨#[58,32]⟩++f p.1.type p.2
def rawP (r:RawD):ByteArray:=decB r.id++⟨#[58,32]⟩++quD r.data
def entP (f g:Val→ByteArray) (p:Val×Val):ByteArray:=f p.1++⟨#[32,45,62,32]⟩++g p.2
def litB (f:Int→Val→ByteArray) (x:TyD) (v:Val):ByteArray :=
 if x.kind=1 then (if v.bool then ⟨#[116,114,117,101]⟩ else ⟨#[102,97,108,115,101]⟩)
 else if x.kind=2 then decB v.int
 else if x.kind=3 then quD v.str
 else if x.kind=4 then (match x.syms.find? fun y=>decide (y.id=v.id) with
  | some y=>y.name
  | none=>⟨#[64]⟩++decB v.id)
 else if x.kind=5 then ⟨#[123]⟩++catL ((x.mems.zip v.items).map (memP f)++v.rest.map rawP)++⟨#[125]⟩
 else if x.kind=6 then (match x.mems.find? fun m=>decide (m.id=v.id) with
  | some m=>m.name++⟨#[40]⟩++(match v.items with|y::_=>f m.type y | []=>⟨#[]⟩)
  | none=>⟨#[64]⟩++decB v.id++⟨#[40]⟩++(match v.rest with|r::_=>quD r.data | []=>⟨#[]⟩))++⟨#[41]⟩
 else if x.kind=7 then ⟨#[91]⟩++catL (v.items.map (f x.elem))++⟨#[93]⟩
 else if x.kind=8 then ⟨#[91]⟩++(if v.keys.length=0 then ⟨#[45,62]⟩ else ⟨#[]⟩)++catL ((v.keys.zip v.items).map (entP (f x.key) (f x.elem)))++⟨#[93]⟩
 else (match v.items with
  | []=>⟨#[110,111,110,101]⟩
  | y::_=>⟨#[115,111,109,101,40]⟩++f x.elem y++⟨#[41]⟩)
def litF (s:List TyD):Nat→Int→Val→ByteArray
 | 0,_,_=>⟨#[]⟩
 | n+1,t,v=>litB (litF s n) (tyAt s t) v
noncomputable def litV (s:List TyD) (t:Int) (v:Val):ByteArray:=litF s (SizeOf.sizeOf v) t v
noncomputable def dfT (s:List TyD) (m:MemD):ByteArray:=if fitV s false m.type m.dflt then litV s m.type m.dflt else ⟨#[]⟩
theorem asc_all:∀ (l:List Val),(∀j (h:j+1<l.length),cmpV l[j] l[j+1]<0)→ascV l=true
 | [],_=>rfl
 | [_],_=>rfl
 | a::b::r,h=>by
  unfold ascV;rw[asc_all (b::r) fun j hj=>h (j+1) (by simpa using hj),Bool.and_true]
  exact decide_eq_true (h 0 (by simp))
theorem asc_not:∀ (l:List Val) (j:Nat) (h:j+1<l.length),¬ cmpV l[j] l[j+1]<0→ascV l=false
 | [],_,h,_=>by cases h
 | [_],j,h,_=>by simp at h
 | a::b::r,0,_,hn=>by
  unfold ascV;have hn':¬ cmpV a b<0:=hn;rw[decide_eq_false hn',Bool.false_and]
 | a::b::r,j+1,h,hn=>by
  unfold ascV;rw[asc_not (b::r) j (by simpa using h) hn,Bool.and_false]
theorem fit_key {s:List TyD} {plain:Bool} (hv:zJ s=0) (hn64:Num64 s) {x:TyD} (hx:x∈s) (hk:x.kind=8):∀ (n:Nat) (y:Val),fitF s plain n x.key y=true→(1≤y.kind∧y.kind≤4)∧y.kind=(tyAt s x.key).kind∧(y.kind=2→In64 y.int)
 | 0,_,h=>by simp[fitF] at h
 | n+1,y,h=>by
  have hkk:=valid_key hv hx hk;unfold fitF at h
  split at h
  ·cases h
  ·rename_i h1
   split at h
   ·cases h
   ·rename_i h2
    have hkd:y.kind=(tyAt s x.key).kind:=Decidable.not_not.1 fun h3=>h2 (.inl h3)
    have hmem:tyAt s x.key∈s:=tyAt_mem ⟨by omega,by omega⟩
    unfold keyKind at hkk;simp only[Bool.and_eq_true,decide_eq_true_eq] at hkk;refine ⟨by rw[hkd];exact hkk,hkd,fun h3=>?_⟩
    unfold fitB at h;rw[if_pos (hkd▸h3)] at h;simp only[Bool.and_eq_true,decide_eq_true_eq] at h;obtain ⟨⟨l1,_⟩,⟨_,l2⟩⟩:=hn64 _ hmem;unfold In64
    omega
open Go.ChangeShapes Go.WideShapes Go.ChangeAt Go.RowKit Go.Deep
set_option maxRecDepth 100000
section
variable {H:Type} {enc:TypeId×Value→H} {W:World}
def Sz (t:TypeId) (d:DataW H):Prop:=∀w∈d.weights Tryz.prog t,w≤reachBytes
theorem sz_all {e:TypeId}:∀ {l:List (DataW H)},(∀w∈DataW.weightsAll Tryz.prog e l,w≤reachBytes)→∀d∈l,Sz e d
 | [],_,_,h=>by cases h
 | x::l,hw,d,hd=>by
  rw[DataW.weightsAll] at hw
  rcases List.mem_cons.1 hd with e|e
  ·subst e;exact fun w h=>hw w (List.mem_append_left _ h)
  ·exact sz_all (fun w h=>hw w (List.mem_append_right _ h)) d e
theorem spot_none {a:Addr} {v:Value} (h:W.cell? a=some v):a.spot=none:=by
 cases hs:a.spot with
 | none=>rfl
 | some x =>
  unfold World.cell? at h;rw[hs] at h;simp at h
  split at h <;> cases h
theorem open_rows {α:Type} [Inhabited α] {T E:TypeId} {k bytes:Nat} (hu:Tryz.prog.underlying T=some (.slice E)) (hk:Tryz.prog.cellsOf E=k) (hby:Tryz.prog.bytesOf E=bytes) (hk0:0<k) {at_:α→List Value→Prop} (hlen:∀y cs,at_ y cs→cs.length=k)
  {n:Nat} {cs:List Value} {d:DataW H} {ps:List MemPlace} (h:DataW.trod enc Tryz.prog W 0 (fun _=>true) true n T cs=some (d,ps)) (hz:Sz T d)
  (hel:∀d':DataW H,SizeOf.sizeOf d'<SizeOf.sizeOf d→∀n' cs' ps',DataW.trod enc Tryz.prog W 0 (fun _=>true) true n' E cs'=some (d',ps')→Sz E d'→∃y,at_ y cs') :
  ∃ (A:zo) (c:Nat) (l:List α),cs=[.slice A l.length c]∧RowsR k bytes at_ W A l:=by
 rcases open_slice hu h with ⟨hcs,_⟩|⟨a,len,cap,m,n',D,Pl,hcs,_,hlc,hcm,hm,hx,hi⟩
 ·exact ⟨none,0,[],hcs,RowsR.nil _ _ _ _ _⟩
 ·have hd:d = .slice ((List.range len).map D) ((List.range (m - len)).map fun j=>D (len+j)):=by
   have:=congrArg Prod.fst hx;exact this
  rw[hk] at hi;have hlm:len≤m:=by rw[hm];simp only[if_true];omega
  have hw:∀w∈(((List.range len).map D).length+((List.range (m - len)).map fun j=>D (len+j)).length) * bytes::(DataW.weightsAll Tryz.prog E ((List.range len).map D)++DataW.weightsAll Tryz.prog E ((List.range (m - len)).map fun j=>D (len+j))),w≤reachBytes:=by
   intro w hw
   refine hz w ?_;rw[hd,DataW.weights,hu];rw[←hby] at hw;exact hw
  have hbig:=hw _ List.mem_cons_self;have hall:=sz_all (fun w h=>hw w (List.mem_cons_of_mem _ (List.mem_append_left _ h)))
  have hLim:Lim bytes len:=by
   unfold Lim;have h1:len * bytes≤(((List.range len).map D).length+((List.range (m - len)).map fun j=>D (len+j)).length) * bytes:=Nat.mul_le_mul_right _ (by simp)
   have h2:reachBytes≤140737488355328:=by decide
   omega
  have each:∀i,∃y:α,i<len→∃cs',at_ y cs'∧∀j,j<k→W.cell? ((a.add (i * k)).add j)=cs'[j]? := fun i=>by
   by_cases hl:i<len
   ·obtain ⟨cs',hcell,ht⟩:=hi i (by omega)
    have hmem:D i∈(List.range len).map D:=List.mem_map.2 ⟨i,List.mem_range.2 hl,rfl⟩;obtain ⟨y,hy⟩:=hel (D i) (by rw[hd];have:=List.sizeOf_lt_of_mem hmem;simp only[DataW.slice.sizeOf_spec];omega) n' cs' (Pl i) ht (hall _ hmem)
    exact ⟨y,fun _=>⟨cs',hy,(World.cells?_some hcell).2.2⟩⟩
   ·exact ⟨default,fun h=>absurd h hl⟩
  obtain ⟨f,hf⟩:=Classical.skolem.1 each;have hlenr:((List.range len).map f).length=len:=by simp
  refine ⟨some a,cap,(List.range len).map f,by rw[hlenr];exact hcs,by rw[hlenr];exact hLim,fun hne=>?_⟩
  have hpos:0<len:=by
   rcases Nat.eq_zero_or_pos len with e|e
   ·subst e;exact absurd rfl hne
   ·exact e
  have hsp:a.spot=none:=by
   obtain ⟨cs0,h0,h1⟩:=hf 0 hpos;have h2:=h1 0 hk0;have hl:=hlen _ _ h0;rw[zl (by omega)] at h2
   have ea:(a.add (0 * k)).add 0=a:=by simp[Addr.add]
   rw[ea] at h2;exact spot_none h2
  obtain ⟨b,o,s⟩:=a;simp only at hsp;subst hsp;refine ⟨b,o,rfl,fun i y hy=>?_⟩
  have hi':i<len:=by
   have:=(List.getElem?_eq_some_iff.1 hy).1
   rwa [hlenr] at this
  have hyf:y=f i:=by
   rw[List.getElem?_map,List.getElem?_range hi'] at hy;exact (Option.some.inj hy).symm
  subst hyf;obtain ⟨cs',h1,h2⟩:=hf i hi';refine ⟨cs',h1,fun j u hj=>?_⟩
  have hjk:j<k:=by rw[←hlen _ _ h1];exact (List.getElem?_eq_some_iff.1 hj).1
  have:=h2 j hjk;rw[Addr.add_mid,Addr.add_mid] at this;rw[this,hj]
theorem sok_of {s:ByteArray} (h:s.size≤maxLen):SOk s:=by unfold maxLen at h;unfold SOk;omega
theorem open_sym {n:Nat} {cs:List Value} {d:DataW H} {ps:List MemPlace} (h:DataW.trod enc Tryz.prog W 0 (fun _=>true) true n 55 cs=some (d,ps)):∃r:SymD,r.At cs:=by
 obtain ⟨xs,m,_,_,hlen,hxl,hf⟩:=DataW.trod_struct Tryz.underlying55 h;have hc:Tryz.prog.cellsOf 55=2:=by kernel_rfl
 have hci:Tryz.prog.cellsOf 3=1:=by kernel_rfl
 have hcs:Tryz.prog.cellsOf 9=1:=by kernel_rfl
 rw[hc] at hlen;simp only[List.size_toArray,List.length_cons,List.length_nil] at hxl
 match cs,hlen,xs,hxl with
 | [c0,c1],_,[x0,x1],_ =>
  have h0:DataW.trod enc Tryz.prog W 0 (fun _=>true) true m 3 (([c0,c1].drop 0).take (Tryz.prog.cellsOf 3))=some x0:=hf 0 _ rfl
  rw[hci] at h0;have h1:DataW.trod enc Tryz.prog W 0 (fun _=>true) true m 9 (([c0,c1].drop 1).take (Tryz.prog.cellsOf 9))=some x1:=hf 1 _ rfl
  rw[hcs] at h1;obtain ⟨z,hz,_,_⟩:=DataW.trod_int Tryz.underlying3 h0;obtain ⟨s,hs,_,hsz⟩:=DataW.trod_string Tryz.underlying9 h1
  injection (show [c0]=[Value.int .i64 z] from hz) with gz _
  injection (show [c1]=[Value.string s] from hs) with gs _
  subst gz;subst gs;exact ⟨⟨z,s⟩,sok_of hsz,rfl⟩
instance:Inhabited RawD:=⟨⟨0,⟨#[]⟩⟩⟩
instance:Inhabited SymD:=⟨⟨0,⟨#[]⟩⟩⟩
instance:Inhabited Val:=⟨.mk 0 false 0 ⟨#[]⟩ 0 [] [] []⟩
instance:Inhabited MemD:=⟨⟨0,⟨#[]⟩,0,false,false,default⟩⟩
instance:Inhabited TyD:=⟨⟨0,⟨#[]⟩,0,0,0,[],[],0,0,false⟩⟩
theorem sz_parts {t:TypeId} {fs:Array Field} {l:List (DataW H)} (hu:Tryz.prog.underlying t=some (.struct fs)) (hz:Sz t (.agg l)):∀w∈DataW.weightsEach Tryz.prog (fs.toList.map (·.type)) l,w≤reachBytes:=by
 intro w hw
 refine hz w ?_;rw[DataW.weights,hu];exact hw
theorem sz_each:∀ {ts:List TypeId} {l:List (DataW H)},(∀w∈DataW.weightsEach Tryz.prog ts l,w≤reachBytes)→∀ (i:Nat) t d,ts[i]? = some t→l[i]? = some d→Sz t d
 | [],_,_,_,_,_,h,_=>by simp at h
 | _::_,[],_,_,_,_,_,h=>by simp at h
 | t0::ts,d0::l,hw,i,t,d,ht,hd=>by
  rw[DataW.weightsEach] at hw
  cases i with
  | zero =>
   obtain rfl:t0=t:=by simpa using ht
   obtain rfl:d0=d:=by simpa using hd
   exact fun w h=>hw w (List.mem_append_left _ h)
  | succ i=>exact sz_each (fun w h=>hw w (List.mem_append_right _ h)) i t d (by simpa using ht) (by simpa using hd)
theorem agg_lt {l:List (DataW H)} {d:DataW H} (h:d∈l):SizeOf.sizeOf d<SizeOf.sizeOf (DataW.agg l):=by
 have:=List.sizeOf_lt_of_mem h;simp only[DataW.agg.sizeOf_spec];omega
end
end Go.Proofs.YtdfolgmcggdjdaaGreatDoor


