/-
  Walks: the example of the document; lists of numbers compared.
-/
import Derived.Test.YtdfolgmcggdjdaaGreatDoorQGG1
import Derived.Test.YtdfolgmcggdjdaaGreatDoorQGA2
namespace Go.Proofs.YtdfolgmcggdjdaaGreatDoor
open Go.RowKit
set_option maxHeartbeats 16000000
set_option maxRecDepth 100000
theorem rOutline_any (s:List TyD) (A:zo) (c:Nat) (w:World) (hs:TysR w A s) (_htab:Tab w) :
  Calls Tryz.prog 18 #[.agg #[.slice A s.length c]] w fun e w'=>e = .returned (.tuple #[.string (outE s).1,.int .i64 (outE s).2])∧Below w.heap.size w w':=by
 have hln:=hs.1.lt (by omega)
 have HS:=zh hs;have HB0:=zh (zD w (.cells #[.slice A s.length c] 27));have HX0:=zh (heap_alloc_new w (.cells #[.slice A s.length c] 27));clear hs _htab
 go_enter Tryz.func18,Tryz.ntmps18
 go_wp2_with fail
 generalize w.alloc (.cells #[.slice A s.length c] 27)=W1 at *;refine (rValid_any s A c W1 (HS.out.below HB0.out)).mono ?_;rintro e w1 ⟨rfl,hb1⟩;have HB1:=zh (zB HB0.out hb1);have HX1:=zh (zF HX0.out hb1);clear hb1
 by_cases hv:zJ s=0
 case neg =>
  have q1:(zJ s != 0)=true:=by simp[hv]
  have HT:Hid (outE s=(⟨#[]⟩,zJ s)):=by show _=_;unfold outE;rw[if_neg hv]
  clear hv;go_wp2;go_ret2;exact ⟨by rw[HT.out];rfl,HB1.out⟩
 have hls:=zZ hv;have HV:=zh hv;have HOE:Hid (outE s=(outB s s.length,0)):=by show _=_;unfold outE;rw[if_pos hv]
 have HO0:Hid (outB s 0=⟨#[]⟩):=rfl;rw[hv];clear hv;have y0:=zb HX1.out;go_wp2_with fail
 go_loopw [5,6] (fun v i wr=>∃k:Nat,k≤s.length∧i = .int .i64 (k:Int)∧v = .string (outB s k)∧Hid (Below w1.heap.size w1 wr)) (fun _ i _=>s.length - (intOf i).toNat)
 case atStart=>exact ⟨0,by omega,rfl,by rw[HO0.out],Below.refl _ _⟩
 case round =>
  obtain ⟨k,hk,rfl,rfl,hh⟩:=hrel;obtain ⟨wk,rfl⟩:∃wk:World,wk=wr:=⟨_,rfl⟩;have HBK:=zh hh.out;have HBK0:=zh (zB HB1.out HBK.out);have hpz:=outB_le HV.out k hk;have HXK:=zh (zF HX1.out HBK.out);clear hh y0;have y0:=zb HXK.out
  by_cases hlt:k<s.length
  ·obtain ⟨b,o,As,cs,Am,cm,rfl,htr,t0,t1,t2,t3,t4,t5,t6,t7,t8,t9⟩:=(HS.out.below HBK0.out).at10 hlt
   obtain ⟨x,hx⟩:∃x,s[k]=x:=⟨_,rfl⟩;have HXE2:Hid (s[k]=x):=hx;have HTA:Hid (tyAt s (k:Int)=x):=(zP hlt).trans hx;rw[hx] at htr t0 t1 t2 t3 t4 t5 t6 t7 t8 t9;have h1:(0:Int)≤(k:Int):=by omega
   have h2:(k:Int)<(s.length:Int):=by omega
   have HMH:Hid (x∈s):=hx▸List.getElem_mem hlt;have HNX:Hid (outB s (k+1)=lineA (outB s k) k x):=by show _=_;rw[outB_succ,HTA.out]
   have HKR:Hid (1≤x.kind∧x.kind≤9):=by have:=yT (t:=(k:Int)) HV.out (by omega);rwa [HTA.out] at this
   have hnl:x.name.size≤24:=by have:=name_all (t:=(k:Int)) HV.out (by omega);rwa [HTA.out] at this
   have HUI:=zh (uses_in HV.out HMH.out);have HT01:=zh (And.intro t0 t1);generalize outB s k=T at *;have HLA:Hid (lineA T k x=(useS (if x.name=⟨#[]⟩ then T++(decB (k:Int)++⟨#[58,32]⟩++wordK x.kind) else T++(decB (k:Int)++⟨#[58,32]⟩++wordK x.kind)++(⟨#[32]⟩++x.name)) (onceL (toD x))).1++⟨#[10]⟩):=rfl
   clear htr hx;have HIK:Hid (In64 (k:Int)):=by show In64 _;unfold In64;omega
   have hzk:=yE HIK.out;have hzw:=wordK_le HKR.out;obtain ⟨D,hD⟩:∃D,decB (k:Int)=D:=⟨_,rfl⟩;obtain ⟨K,hK⟩:∃K,wordK x.kind=K:=⟨_,rfl⟩;have HDE:=zh hD;have HKE:=zh hK;rw[hD,hK] at HLA;rw[hD] at hzk;rw[hK] at hzw;clear hD hK;have m0:¬ 9223372036854775807<(T:ByteArray).size+(D:ByteArray).size:=by have:=And.intro hpz (And.intro hzk hzw);show ¬ _<_+_;omega
   have m1:¬ 9223372036854775807<T.size+D.size:=by have:=And.intro hpz (And.intro hzk hzw);omega
   have m2:¬ 9223372036854775807<(T++D:ByteArray).size+(⟨#[58,32]⟩:ByteArray).size:=by have:=And.intro hpz (And.intro hzk hzw);simp only[zG];show ¬ _<_+_+2;omega
   have m3:¬ 9223372036854775807<T.size+D.size+2:=by have:=And.intro hpz (And.intro hzk hzw);omega
   have m4:¬ 9223372036854775807<(T++D++⟨#[58,32]⟩:ByteArray).size+(K:ByteArray).size:=by have:=And.intro hpz (And.intro hzk hzw);simp only[zG];show ¬ _<_+_+2+_;omega
   have m5:¬ 9223372036854775807<T.size+D.size+2+K.size:=by have:=And.intro hpz (And.intro hzk hzw);omega
   have HCC:Hid (∀w',Below wk.heap.size wk w'→(w'.cell? ⟨w.heap.size,0,none⟩=some (.slice (some ⟨b,o,none⟩) s.length c)∧w'.cell? ⟨b,o+k * 10,none⟩=some (.int .i64 x.kind))∧Hid (Below wk.heap.size wk w')):=fun w' hb=>⟨⟨zA hb y0,zA hb HT01.out.1⟩,hb⟩
   clear t0 t1 t2 t3 t4 t5 t6 t7 t8 t9;go_wp2_with fail;clear y0;refine zs HCC.out (by kernel_rfl) ?_ (fun zH_=>?_)
   ·(try dsimp only);exact HCC.out _ (zC (Below.refl _ _) 1)
   refine tL 0 ?_;refine tL 1 ?_;refine tL 5 ?_;refine tL 6 ?_;refine tL 7 ?_;refine tL 8 ?_;try simp only[ps]
   refine tL 9 ?_;refine tL 10 ?_;refine tR 2 (fun K hK=>?_)
   go_simp
   (refine (digits_any (k:Int) HIK.out _).mono ?_;rintro e w5 ⟨rfl,rfl⟩;rw[HDE.out])
   refine hK.out _ _ ?_ (fun zH_=>?_)
   ·(try dsimp only);exact zH_
   clear hK K;refine tL 3 ?_;refine tL 4 ?_;refine tR 11 (fun K hK=>?_)
   go_simp
   (refine (rKindW_any x.kind HKR.out _).mono ?_;rintro e w6 ⟨rfl,hb6⟩;rw[HKE.out];have HB6:=zh (zB zH_.2.out hb6);clear hb6)
   refine hK.out _ _ ?_ (fun zH_=>?_)
   ·(try dsimp only);exact HCC.out _ HB6.out
   clear hK K;try simp only[ps]
   refine tL 12 ?_;refine tL 13 ?_;refine wpAnyH_done (by kernel_rfl) ?_ _
   clear zH_ m0 m1 m2 m3 m4 m5;have y0:w6.cell? ⟨w.heap.size,0,none⟩=some (.slice (some ⟨b,o,none⟩) s.length c):=(HCC.out _ HB6.out).1.1;have y1:w6.cell? ⟨b,o+k * 10+1,none⟩=some (.string x.name):=zA HB6.out HT01.out.2;have HBW6:=zh (zB HBK.out HB6.out);have HE1:Hid (T++(D++⟨#[58,32]⟩++K)=T++D++⟨#[58,32]⟩++K):=by show _=_;simp only[app_assoc]
   obtain ⟨T1,hT1⟩:∃T1,T++D++⟨#[58,32]⟩++K=T1:=⟨_,rfl⟩;have hz1:T1.size≤T.size+31:=by rw[←hT1];simp only[zG];show _+_+2+_≤_;omega
   rw[hT1] at HE1 ⊢;rw[HE1.out] at HLA;clear hT1 HE1;obtain ⟨NE,hNE⟩:∃NE,x.name.toList.isEmpty=NE:=⟨_,rfl⟩;have HNE:=zh hNE;have m0:¬ 9223372036854775807<(T1:ByteArray).size+(⟨#[32]⟩:ByteArray).size:=by have:=And.intro hpz (And.intro hz1 hnl);show ¬ _<_+1;omega
   have m1:¬ 9223372036854775807<T1.size+1:=by have:=And.intro hpz (And.intro hz1 hnl);omega
   have m2:¬ 9223372036854775807<(T1++⟨#[32]⟩:ByteArray).size+(x.name:ByteArray).size:=by have:=And.intro hpz (And.intro hz1 hnl);simp only[zG];show ¬ _<_+1+_;omega
   have m3:¬ 9223372036854775807<T1.size+1+x.name.size:=by have:=And.intro hpz (And.intro hz1 hnl);omega
   obtain ⟨T2,hT2⟩:∃T2,(if x.name=⟨#[]⟩ then T1 else T1++(⟨#[32]⟩++x.name))=T2:=⟨_,rfl⟩
   have HT2:=zh hT2;have hz2:T2.size≤T.size+56:=by
    rw[←hT2]
    split
    ·omega
    ·rw[zG,zG];show _+(1+_)≤_;omega
   rw[hT2] at HLA;clear hT2
   go_upto_if 41 with fail
   clear hNE
   go_cut [5] (fun s5 wx=>s5 = .string T2∧wx=w6)
   case first =>
    cases NE with
    | true =>
     have hne:=(isEmpty_iff x.name).1 HNE.out;have HT3:Hid (T1=T2):=(if_pos hne).symm.trans HT2.out;clear hne HNE;go_wp2;go_meet;exact ⟨by rw[HT3.out],rfl⟩
    | false =>
     have hne:¬ x.name=⟨#[]⟩:=fun h=>by have:=(isEmpty_iff x.name).2 h;rw[HNE.out] at this;cases this
     have HT3:Hid (T1++⟨#[32]⟩++x.name=T2):=(app_assoc _ _ _).trans ((if_neg hne).symm.trans HT2.out);clear hne;go_wp2;go_meet;exact ⟨by rw[HT3.out],rfl⟩
   case rest =>
   obtain ⟨rfl,hwx⟩:=hcut;have hwx:=hwx.symm;subst hwx;clear m0 m1 m2 m3;clear y1;go_wp2_with fail;refine (rUsesO_any s k (some ⟨b,o,none⟩) c HV.out hlt x HXE2.out _ (HS.out.below (zB HB1.out HBW6.out))).mono ?_;rintro e w11 ⟨v11,base,rfl,ho11,hbs,hb11⟩;have HB11:=zh (zB HBW6.out hb11);have HO11:=zh ho11;have HUI2:=zh HUI.out.2;have HUA:=zh (use_arr T2 (onceL (toD x)))
   obtain ⟨L,hL⟩:∃L,L=onceL (toD x):=⟨_,rfl⟩;rw[←hL] at HO11 HUI2 HLA HUA;rw[←hL] at HUI;obtain ⟨Av,cv,rfl,hi11⟩:=OwnI.ints HO11.out (by have:=HUI2.out;unfold Lim;omega)
   have HI11:=zh hi11;clear ho11 hb11 hbs hL y0 hi11;have n0:¬ 9223372036854775807<T2.size+(⟨#[32,45,62]⟩:ByteArray).size:=by show ¬ _<_+3;omega
   have n1:¬ 9223372036854775807<T2.size+3:=n0;obtain ⟨T3,hT3⟩:∃T3,(if L.length=0 then T2 else T2++⟨#[32,45,62]⟩)=T3:=⟨_,rfl⟩
   have hz3:T3.size≤T.size+59:=by
    rw[←hT3]
    split
    ·omega
    ·rw[zG];show _+3≤_;omega
   have HUF:Hid ((useS T2 L).1=arrR T3 L):=by
    show _=_
    rw[HUA.out,←hT3]
    by_cases hl0:L.length=0
    ·rw[if_pos hl0,if_pos hl0,List.eq_nil_of_length_eq_zero hl0];rfl
    ·rw[if_neg hl0,if_neg hl0]
   have HT3:=zh hT3;clear hT3
   go_upto_if 59 with fail
   go_cut [5] (fun s5 wx=>s5 = .string T3∧wx=w11)
   case first =>
    by_cases hl0:L.length=0
    ·have HT4:Hid (T2=T3):=(if_pos hl0).symm.trans HT3.out
     have q0:¬ (0:Int)<(L.length:Int):=by omega
     clear hl0;go_wp2;go_meet;exact ⟨by rw[HT4.out],rfl⟩
    ·have HT4:Hid (T2++⟨#[32,45,62]⟩=T3):=(if_neg hl0).symm.trans HT3.out
     have q0:(0:Int)<(L.length:Int):=by omega
     clear hl0;go_wp2;go_meet;exact ⟨by rw[HT4.out],rfl⟩
   case rest =>
   obtain ⟨rfl,hwx⟩:=hcut;have hwx:=hwx.symm;subst hwx;clear n0 n1;have HUL:=zh (fun j (hj:j≤L.length)=>arrR_le (b:=T3) HUI.out.1 j hj)
   have HA0:Hid (arrR T3 (L.take 0)=T3):=rfl;go_wp2_with fail
   go_loopw [5,9] (fun v i wr=>∃j:Nat,j≤L.length∧i = .int .i64 (j:Int)∧v = .string (arrR T3 (L.take j))∧wr=w11) (fun _ i _=>L.length - (intOf i).toNat)
   case atStart=>exact ⟨0,Nat.zero_le _,rfl,by rw[HA0.out],rfl⟩
   case round =>
    obtain ⟨j,hj,rfl,rfl,rfl⟩:=hrel;have huz:=HUL.out j hj;have hl18:=HUI2.out
    by_cases hlj:j<L.length
    ·obtain ⟨b4,o4,rfl,i4⟩:=HI11.out.at1 hlj
     have HAS:=zh (arrR_snoc T3 hlj);have HIN:=zh (HUI.out.1 _ (List.getElem_mem hlj));generalize L[j]=u at *;generalize arrR T3 (L.take j)=Y at *;have hzu:=yE HIN.out;obtain ⟨Du,hDu⟩:∃Du,decB u=Du:=⟨_,rfl⟩;have HDu:=zh hDu;rw[hDu] at hzu HAS;clear hDu;have j1:(0:Int)≤(j:Int):=by omega
     have j2:(j:Int)<(L.length:Int):=by omega
     have m0:¬ 9223372036854775807<(Y:ByteArray).size+(⟨#[32]⟩:ByteArray).size:=by have:=And.intro hpz (And.intro huz (And.intro hzu (And.intro hz3 hl18)));show ¬ _<_+1;omega
     have m1:¬ 9223372036854775807<Y.size+1:=by have:=And.intro hpz (And.intro huz (And.intro hzu (And.intro hz3 hl18)));omega
     have m2:¬ 9223372036854775807<(Y++⟨#[32]⟩:ByteArray).size+(Du:ByteArray).size:=by have:=And.intro hpz (And.intro huz (And.intro hzu (And.intro hz3 hl18)));simp only[zG];show ¬ _<_+1+_;omega
     have m3:¬ 9223372036854775807<Y.size+1+Du.size:=by have:=And.intro hpz (And.intro huz (And.intro hzu (And.intro hz3 hl18)));omega
     go_wp2_with fail
     refine (digits_any u HIN.out _).mono ?_;rintro e w13 ⟨rfl,rfl⟩;rw[HDu.out];go_wp2;go_roundw
     case rel=>exact ⟨j+1,by omega,by go_num,by rw[HAS.out],by first|rfl|trivial⟩
     case measure=>simp[intOf];omega
    ·obtain rfl:j=L.length:=by omega
     have HFN:Hid (arrR T3 (L.take L.length)=arrR T3 L):=by show _=_;rw[List.take_length]
     rw[HFN.out] at huz ⊢;rw[HUF.out] at HLA;generalize arrR T3 L=Y at *;have n0:¬ 9223372036854775807<Y.size+(⟨#[10]⟩:ByteArray).size:=by show ¬ _<_+1;omega
     have n1:¬ 9223372036854775807<Y.size+1:=n0;go_wp2;go_roundw
     case rel=>exact ⟨k+1,by omega,by go_num,by rw[HNX.out,HLA.out],HB11.out⟩
     case measure=>simp[intOf];omega
  ·obtain rfl:k=s.length:=by omega
   go_wp2
   go_ret2
   exact ⟨by rw[HOE.out];rfl,HBK0.out⟩
def exM1:MemD:=⟨1,⟨#[120]⟩,0,false,false,zeroV⟩
def exS:List TyD:=[{ zeroT with kind:=7,max:=3,elem:=1 },{ zeroT with kind:=5,name:=⟨#[80]⟩,mems:=[exM1] },{ zeroT with kind:=2,high:=9 }]
def exU:List TyD:=[{ zeroT with kind:=5,name:=⟨#[80]⟩,mems:=[{ exM1 with type:=1 }] },{ zeroT with kind:=7,max:=3,elem:=0 }]
theorem ex_valid:zJ exS=0:=by decide +kernel
theorem ex_validU:zJ exU=0:=by decide +kernel
theorem ex_check:yN exS 0=0:=by decide +kernel
theorem ex_checkU:yN exU 0=0:=by decide +kernel
theorem ex_tidyL:tidyL exS=exU:=by decide +kernel
theorem ex_tidyU:tidyL exU=exU:=by decide +kernel
theorem ex_ix:(t1D exS exS.length).1=[-1,0,-1]:=by decide +kernel
theorem ex_tidyE:tidyE exS 0=0:=by unfold tidyE;rw[if_neg (by rw[ex_check];simp),ex_tidyL];rfl
theorem ex_tidyEU:tidyE exU 0=0:=by unfold tidyE;rw[if_neg (by rw[ex_checkU];simp),ex_tidyU];rfl
theorem ex_tidyT:tidyT exS 0=exU:=by unfold tidyT;rw[if_pos ex_tidyE,ex_tidyL]
theorem ex_tidyTU:tidyT exU 0=exU:=by unfold tidyT;rw[if_pos ex_tidyEU,ex_tidyU]
theorem ex_tidyI:tidyI exS 0=[-1,0,-1]:=by unfold tidyI;rw[if_pos ex_tidyE,ex_ix]
theorem ex_ne:¬ exU=exS:=by decide +kernel
abbrev exText:ByteArray:=⟨#[114,101,99,111,114,100,32,80,32,123,32,49,32,120,58,32,108,105,115,116,40,80,44,32,51,41,59,32,125,59,10]⟩
theorem ex_print:printD exS 0 (fun _=>⟨#[]⟩)=(exText,0):=by decide +kernel
theorem ex_out:outE exS=(⟨#[48,58,32,108,105,115,116,32,45,62,32,49,10,49,58,32,114,101,99,111,114,100,32,80,32,45,62,32,48,10,50,58,32,105,110,116,10]⟩,0):=by decide +kernel
theorem equalInts_any (l m:List Int) (A B:zo) (c d:Nat) (w:World) (hl:IntsR w A l) (hm:IntsR w B m) :
  Calls Tryz.prog 11 #[.slice A l.length c,.slice B m.length d] w (SamePost (decide (l=m)) w):=by
 have hn:=hl.1.lt (by omega)
 by_cases hlen:l.length=m.length
 ·rw[←hlen]
  have hb0:((l.length:Int) != (l.length:Int))=false:=by simp
  have HL:=zh hl;have HM:=zh hm;have HE:=zh hlen;clear hl hm hlen
  go_enter Tryz.func11,Tryz.ntmps11
  go_wp2
  go_loopw [13] (fun i wr=>∃k:Nat,k≤l.length∧i = .int .i64 k∧Hid (l.take k=m.take k)∧Hid (Below w.heap.size w wr)) (fun i _=>l.length - (intOf i).toNat)
  case atStart=>exact ⟨0,by omega,rfl,rfl,Below.refl _ _⟩
  case round =>
   obtain ⟨k,hk,rfl,htk,hbw⟩:=hrel
   by_cases hlt:k<l.length
   ·have hlt':k<m.length:=by have:=HE.out;omega
    obtain ⟨b,o,rfl,c0⟩:=(HL.out.below hbw.out).at1 hlt;obtain ⟨b',o',rfl,d0⟩:=(HM.out.below hbw.out).at1 hlt';have h1:(0:Int)≤(k:Int):=by omega
    have h2:(k:Int)<(l.length:Int):=by omega
    by_cases he:l[k]=m[k]
    ·have heq:(l[k] != m[k])=false:=by simp[he]
     have HQ:=zh (take_eq_of hlt hlt' htk.out he);clear he;go_wp2
     go_quiet (fail)
     go_wp2
     go_roundw
     case rel=>exact ⟨k+1,by omega,by go_num,HQ.out,zC hbw.out _⟩
     case measure=>simp[intOf];omega
    ·have heq:(l[k] != m[k])=true:=by simp[he]
     have HQ:=zh (take_ne_of hlt hlt' he);clear he;go_wp2
     go_quiet (fail)
     go_wp2
     go_ret
     exact ⟨by rw[HQ.out];rfl,zC hbw.out _⟩
   ·have HQ:=zh (take_all hlt HE.out htk.out)
    go_wp2
    go_ret
    exact ⟨by rw[HQ.out];rfl,hbw.out⟩
 ·have hb0:((l.length:Int) != (m.length:Int))=true:=bne_iff_ne.2 (by omega)
  have HQ:=zh (show decide (l=m)=false from decide_eq_false fun e=>hlen (by rw[e]))
  clear hlen
  go_enter Tryz.func11,Tryz.ntmps11
  go_wp2
  go_ret
  exact ⟨by rw[HQ.out];rfl,Below.refl _ _⟩
theorem sok_small {s:ByteArray} (h:s.size≤100):SOk s:=by unfold SOk;omega
theorem mems1_new (w:World) (m:MemD) (h:SOk m.name) (e:m.dflt=zeroV):MemsR (w.alloc (.cells (m.cs none 0 none 0 none 0).toArray 71)) (some ⟨w.heap.size,0,none⟩) [m]:=by
 refine ⟨by simp[Lim],fun _=>⟨_,_,rfl,fun i x hx=>?_⟩⟩
 have hr:=zT w (m.cs none 0 none 0 none 0) 71
 match i,hx with
 | 0,hx =>
  obtain rfl:m=x:=by simpa using hx
  exact ⟨m.cs none 0 none 0 none 0,⟨none,0,none,0,none,0,rfl,h,by rw[e];exact valR_zero _⟩,by simpa using hr⟩
 | n+1,hx=>simp at hx
theorem tys_new (w:World) (L:List TyA) (h:∀x∈L,TyR w x.t x.As x.Am) (hl:L.length≤1000):TysR (w.alloc (.cells (L.flatMap TyA.cells).toArray 50)) (some ⟨w.heap.size,0,none⟩) (L.map (·.t)):=by
 refine ⟨by unfold Lim;rw[List.length_map];omega,fun _=>⟨_,_,rfl,fun i x hx=>?_⟩⟩
 rw[List.getElem?_map] at hx
 cases hL:L[i]? with
 | none=>rw[hL] at hx;cases hx
 | some y =>
  rw[hL] at hx;obtain rfl:y.t=x:=by simpa using hx
  refine ⟨y.cells,⟨y.As,y.cs,y.Am,y.cm,rfl,(h y (List.mem_of_getElem? hL)).below (zD _ _)⟩,?_⟩;exact range_flat (enc:=TyA.cells) (k:=10) (fun _=>rfl) (zT w _ _) hL
def SchPost (l:List TyD) (w:World) (e:Ending) (w':World):Prop:=∃A c,e = .returned (.agg #[.slice A l.length c])∧TysR w' A l∧Below w.heap.size w w'
theorem tyR_mems {w:World} {t:TyD} {Am:zo} (hn:SOk t.name) (hs:t.syms=[]) (hm:MemsR w Am t.mems):TyR w t none Am:=⟨hn,by rw[hs];exact RowsR.nil _ _ _ _ _,hm⟩
theorem tyR_none {w:World} {t:TyD} (hn:SOk t.name) (hs:t.syms=[]) (hm:t.mems=[]):TyR w t none none:=⟨hn,by rw[hs];exact RowsR.nil _ _ _ _ _,by rw[hm];exact RowsR.nil _ _ _ _ _⟩
theorem example_any (w:World):Calls Tryz.prog 28 #[] w (SchPost exS w):=by
 have HT:Hid (TysR (((w.alloc (.cells #[.slice (some ⟨w.heap.size+1+1,0,none⟩) 3 3] 27)).alloc (.cells (exM1.cs none 0 none 0 none 0).toArray 71)).alloc (.cells (([⟨{ zeroT with kind:=7,max:=3,elem:=1 },none,0,none,0⟩,⟨{ zeroT with kind:=5,name:=⟨#[80]⟩,mems:=[exM1] },none,0,some ⟨w.heap.size+1,0,none⟩,1⟩,⟨{ zeroT with kind:=2,high:=9 },none,0,none,0⟩]:List TyA).flatMap TyA.cells).toArray 50)) (some ⟨w.heap.size+1+1,0,none⟩) exS):=by
  have HM:=mems1_new (w.alloc (.cells #[.slice (some ⟨w.heap.size+1+1,0,none⟩) 3 3] 27)) exM1 (sok_small (by decide)) rfl
  have hz:(w.alloc (.cells #[.slice (some ⟨w.heap.size+1+1,0,none⟩) 3 3] 27)).heap.size=w.heap.size+1:=by simp
  rw[hz] at HM;have HT0:=tys_new ((w.alloc (.cells #[.slice (some ⟨w.heap.size+1+1,0,none⟩) 3 3] 27)).alloc (.cells (exM1.cs none 0 none 0 none 0).toArray 71)) ([⟨{ zeroT with kind:=7,max:=3,elem:=1 },none,0,none,0⟩,⟨{ zeroT with kind:=5,name:=⟨#[80]⟩,mems:=[exM1] },none,0,some ⟨w.heap.size+1,0,none⟩,1⟩,⟨{ zeroT with kind:=2,high:=9 },none,0,none,0⟩]:List TyA)
  have hz2:((w.alloc (.cells #[.slice (some ⟨w.heap.size+1+1,0,none⟩) 3 3] 27)).alloc (.cells (exM1.cs none 0 none 0 none 0).toArray 71)).heap.size=w.heap.size+1+1:=by simp
  rw[hz2] at HT0;refine HT0 (fun x hx=>?_) (by simp)
  simp only[List.mem_cons,List.mem_nil_iff,or_false] at hx
  rcases hx with rfl|rfl|rfl
  ·exact tyR_none sok_empty rfl rfl
  ·exact tyR_mems (sok_small (show (⟨#[80]⟩:ByteArray).size≤100 by decide)) rfl HM
  ·exact tyR_none sok_empty rfl rfl
 have HB:=zh (zB (zB (zD w (.cells #[.slice (some ⟨w.heap.size+1+1,0,none⟩) 3 3] 27)) (zD _ (.cells (exM1.cs none 0 none 0 none 0).toArray 71))) (zD _ (.cells (([⟨{ zeroT with kind:=7,max:=3,elem:=1 },none,0,none,0⟩,⟨{ zeroT with kind:=5,name:=⟨#[80]⟩,mems:=[exM1] },none,0,some ⟨w.heap.size+1,0,none⟩,1⟩,⟨{ zeroT with kind:=2,high:=9 },none,0,none,0⟩]:List TyA).flatMap TyA.cells).toArray 50)))
 have HC:Hid ((((w.alloc (.cells #[.slice (some ⟨w.heap.size+1+1,0,none⟩) 3 3] 27)).alloc (.cells (exM1.cs none 0 none 0 none 0).toArray 71)).alloc (.cells (([⟨{ zeroT with kind:=7,max:=3,elem:=1 },none,0,none,0⟩,⟨{ zeroT with kind:=5,name:=⟨#[80]⟩,mems:=[exM1] },none,0,some ⟨w.heap.size+1,0,none⟩,1⟩,⟨{ zeroT with kind:=2,high:=9 },none,0,none,0⟩]:List TyA).flatMap TyA.cells).toArray 50)).cell? ⟨w.heap.size,0,none⟩=some (.slice (some ⟨w.heap.size+1+1,0,none⟩) 3 3)):=by
  show _=_
  rw[cell_of_row _ _ _ _ _ _ (zF (zF (heap_alloc_new w _) (zD _ _)) (zD _ _))];rfl
 go_enter Tryz.func28,Tryz.ntmps28
 go_wp2
 have hcf:=HC.out;exact bodyPost_ret (v := .agg #[.slice (some ⟨w.heap.size+1+1,0,none⟩) 3 3]) (by
  simp only[results,Tryz.results28];go_simp) rfl ⟨some ⟨w.heap.size+1+1,0,none⟩,3,rfl,HT.out,HB.out⟩
end Go.Proofs.YtdfolgmcggdjdaaGreatDoor


