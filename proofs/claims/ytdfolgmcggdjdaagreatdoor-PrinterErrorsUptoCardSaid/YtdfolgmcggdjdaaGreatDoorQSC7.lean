/-
  Walks: when a schema is valid, in package schema.
-/
import Derived.Test.YtdfolgmcggdjdaaGreatDoorQSC6
import Derived.Test.YtdfolgmcggdjdaaGreatDoorQGA4
namespace Go.Proofs.YtdfolgmcggdjdaaGreatDoor
open Go.RowKit
set_option maxHeartbeats 16000000
set_option maxRecDepth 100000
theorem form_any (t:TyD) (As:zo) (cs:Nat) (Am:zo) (cm:Nat) (w:World) (ht:TyR w t As Am) :
  Calls Tryz.prog 73 #[t.v As cs Am cm] w (SamePost (formD t) w):=by
 by_cases h1:t.kind=1
 ·exact form1_any t h1 As cs Am cm w ht
 by_cases h2:t.kind=2
 ·exact form2_any t h2 As cs Am cm w ht
 by_cases h3:t.kind=3
 ·exact form3_any t h3 As cs Am cm w ht
 by_cases h4:t.kind=4
 ·exact form4_any t h4 As cs Am cm w ht
 by_cases h5:t.kind=5
 ·exact form5_any t h5 As cs Am cm w ht
 by_cases h6:t.kind=6
 ·exact form6_any t h6 As cs Am cm w ht
 by_cases h7:t.kind=7
 ·exact form7_any t h7 As cs Am cm w ht
 by_cases h8:t.kind=8
 ·exact form8_any t h8 As cs Am cm w ht
 by_cases h9:t.kind=9
 ·exact form9_any t h9 As cs Am cm w ht
 have HD:=zh (form_out (t:=t) (by omega))
 have e1:(t.kind==1)=false:=by simpa using h1
 have e2:(t.kind==2)=false:=by simpa using h2
 have e3:(t.kind==3)=false:=by simpa using h3
 have e4:(t.kind==4)=false:=by simpa using h4
 have e5:(t.kind==5)=false:=by simpa using h5
 have e6:(t.kind==6)=false:=by simpa using h6
 have e7:(t.kind==7)=false:=by simpa using h7
 have e8:(t.kind==8)=false:=by simpa using h8
 have e9:(t.kind==9)=false:=by simpa using h9
 clear h1 h2 h3 h4 h5 h6 h7 h8 h9 ht
 go_enter Tryz.func73,Tryz.ntmps73
 go_wp2
 go_ret
 exact ⟨by rw[HD.out];rfl,zE _ _ _⟩
def TBox (W:World) (b:Nat) (t:TyD) (As:zo) (cs:Nat) (Am:zo) (cm:Nat):Prop:=W.heap[b]? = some (.cells #[.int .i64 t.kind,.string t.name,.int .i64 t.low,.int .i64 t.high,.int .i64 t.max,.slice As t.syms.length cs,.slice Am t.mems.length cm,.int .i64 t.key,.int .i64 t.elem,.bool t.open_] 50 (0,0))
theorem TBox.cell {W:World} {b:Nat} {t:TyD} {As:zo} {cs:Nat} {Am:zo} {cm:Nat} (h:TBox W b t As cs Am cm) (j:Nat):W.cell? ⟨b,j,none⟩=(#[.int .i64 t.kind,.string t.name,.int .i64 t.low,.int .i64 t.high,.int .i64 t.max,.slice As t.syms.length cs,.slice Am t.mems.length cm,.int .i64 t.key,.int .i64 t.elem,.bool t.open_]:Array Value)[j]? := cell_of_row _ _ _ _ _ _ h
theorem TBox.blt {W:World} {b:Nat} {t:TyD} {As:zo} {cs:Nat} {Am:zo} {cm:Nat} (h:TBox W b t As cs Am cm):b<W.heap.size:=(zg.1 h).1
theorem TBox.below {W w':World} {b:Nat} {t:TyD} {As:zo} {cs:Nat} {Am:zo} {cm:Nat} (h:TBox W b t As cs Am cm) (hb:Below W.heap.size W w'):TBox w' b t As cs Am cm:=(hb.block b h.blt).trans h
theorem TBox.map {W w':World} {b m:Nat} {t:TyD} {As:zo} {cs:Nat} {Am:zo} {cm:Nat} {K:List ByteArray} (h:TBox W b t As cs Am cm) (hs:SetAt kS W m K) (hg:W.grownBy w' (some m)):TBox w' b t As cs Am cm :=
 (grown_block hg h.blt fun k hk e=>by
  injection hk with hk
  subst hk;subst e;obtain ⟨l,h1,_⟩:=hs;unfold MapAt at h1;rw[show W.heap[b]? = _ from h] at h1
  cases h1).trans h
def IntPost (n:Int) (w:World) (e:Ending) (w':World):Prop:=e = .returned (.int .i64 n)∧Below w.heap.size w w'
def errAt (s:List TyD) (k:Nat):Int:=tysErr s ((s.take k).map (·.name)) (s.drop k)
theorem errAt_stop {s:List TyD} {k:Nat} (hk:k<s.length) (h:tyErr s ((s.take k).map (·.name)) s[k]≠0):errAt s k=tyErr s ((s.take k).map (·.name)) s[k]:=by
 unfold errAt;rw[List.drop_eq_getElem_cons hk,tysErr,if_neg h]
theorem errAt_next {s:List TyD} {k:Nat} (hk:k<s.length) (h:tyErr s ((s.take k).map (·.name)) s[k]=0):errAt s k=errAt s (k+1):=by
 unfold errAt;rw[List.drop_eq_getElem_cons hk,tysErr,if_pos h,List.take_succ_eq_append_getElem hk,List.map_append];rfl
theorem errAt_end {s:List TyD} {k:Nat} (hk:¬ k<s.length):errAt s k=0:=by
 unfold errAt;rw[List.drop_eq_nil_of_le (by omega),tysErr]
theorem tyErr_form {s:List TyD} {K:List ByteArray} {t:TyD} (h:formD t=false):tyErr s K t=1:=by unfold tyErr;rw[h];simp
theorem tyErr_name {s:List TyD} {K:List ByteArray} {t:TyD} (h:t.name≠⟨#[]⟩) (hm:memD t.name K=true):tyErr s K t=1:=by unfold tyErr;rw[hm];simp[h]
theorem tyErr_use {s:List TyD} {K:List ByteArray} {t:TyD} (hf:formD t=true) (hn:t.name=⟨#[]⟩∨memD t.name K=false) {j:Nat} (hj:j<(toD t).length) (hu:(toD t)[j]<0∨(s.length:Int)≤(toD t)[j]):tyErr s K t=4:=by
 unfold tyErr;have h1:(!formD t||(decide (t.name≠⟨#[]⟩)&&memD t.name K))=false:=by rcases hn with h|h <;> simp[hf,h]
 have h2:(toD t).any (fun u=>decide (u<0)||decide ((s.length:Int)≤u))=true:=List.any_eq_true.2 ⟨_,List.getElem_mem hj,by simpa using hu⟩
 rw[h1,h2];simp
theorem tyErr_rest {s:List TyD} {K:List ByteArray} {t:TyD} (hf:formD t=true) (hn:t.name=⟨#[]⟩∨memD t.name K=false) (hu:∀j (hj:j<(toD t).length),0≤(toD t)[j]∧(toD t)[j]<(s.length:Int)):tyErr s K t=if decide (t.kind=8) && !keyKind ((s.getD t.key.toNat zeroT).kind) then 1 else 0:=by
 unfold tyErr;have h1:(!formD t||(decide (t.name≠⟨#[]⟩)&&memD t.name K))=false:=by rcases hn with h|h <;> simp[hf,h]
 have h2:(toD t).any (fun u=>decide (u<0)||decide ((s.length:Int)≤u))=false:=by
  rw[List.any_eq_false]
  intro u hu2
  obtain ⟨j,hj,rfl⟩:=List.getElem_of_mem hu2;have:=hu j hj;simp;omega
 rw[h1,h2];rfl
theorem form_le {t:TyD} (h:formD t=true):t.kind≤9:=by
 unfold formD at h;simp only[Bool.and_eq_true,decide_eq_true_eq] at h;exact h.1.1.1.2
theorem key_mem {t:TyD} (h:t.kind=8):t.key∈toD t:=by rw[toD_tail8 h];simp
theorem toD_len (t:TyD) (h:Lim 160 t.mems.length):(toD t).length≤879609302222:=by
 unfold Lim at h;unfold toD usesD;rw[List.length_map,List.length_append,List.length_map]
 split
 ·simp;omega
 ·split
  ·simp;omega
  ·simp;omega
structure VdSt (s:List TyD) (W1:World) (mb:Nat) (k:Nat) (wr:World):Prop where
 eq:zJ s=errAt s k
 set:SetAt kS wr mb ((s.take k).map (·.name))
 bel:Below W1.heap.size W1 wr
theorem valid_any (s:List TyD) (A:zo) (c:Nat) (w:World) (hs:TysR w A s) :
  Calls Tryz.prog 44 #[.agg #[.slice A s.length c]] w (IntPost (zJ s) w):=by
 have hn:=hs.1.lt (by omega)
 have HS:=zh hs;clear hs;have hmm:=@run_makeMap Tryz.prog
 by_cases hbig:32<s.length
 ·have HD:=zh (show zJ s=3 by unfold zJ;rw[if_pos hbig])
  go_enter Tryz.func44,Tryz.ntmps44
  go_wp2
  go_ret
  exact ⟨by rw[HD.out];rfl,zD _ _⟩
 have HE0:=zh (show zJ s=errAt s 0 by unfold zJ;rw[if_neg hbig];rfl)
 have hle:s.length≤32:=by omega
 go_enter Tryz.func44,Tryz.ntmps44
 go_wp2
 clear hmm hbig;have HS1:=zh (HS.out.below (zD w (.cells #[.slice A s.length c] 27)));have HB1:=zh (zD w (.cells #[.slice A s.length c] 27));have HC1:Hid ((w.alloc (.cells #[.slice A s.length c] 27)).cell? ⟨w.heap.size,0,none⟩=some (.slice A s.length c)):=by show _=_;rw[cell_of_row _ _ _ _ _ _ (heap_alloc_new w _)];rfl
 have HM1:Hid (SetAt kS ((w.alloc (.cells #[.slice A s.length c] 27)).alloc (.map #[] 0)) (w.heap.size+1) []):=zh (by have:=SetAt.new (ek:=kS) (w.alloc (.cells #[.slice A s.length c] 27));simpa using this)
 have HZ1:Hid ((w.alloc (.cells #[.slice A s.length c] 27)).heap.size=w.heap.size+1):=by show _=_;simp
 generalize w.alloc (.cells #[.slice A s.length c] 27)=W1 at *
 go_loopw [16] (fun i wr=>∃k:Nat,k≤s.length∧i = .int .i64 k∧Hid (VdSt s W1 (w.heap.size+1) k wr)) (fun i _=>s.length - (intOf i).toNat)
 case atStart=>exact ⟨0,by omega,rfl,HE0.out,HM1.out,zD _ _⟩
 case round =>
  obtain ⟨k,hk,rfl,hh⟩:=hrel;obtain ⟨wo,rfl⟩:∃wo:World,wo=wr:=⟨_,rfl⟩
  by_cases hlt:k<s.length
  ·obtain ⟨b,o,As,cs,Am,cm,rfl,hr1,a0,a1,a2,a3,a4,a5,a6,a7,a8,a9⟩:=HS1.out.at10 hlt
   have HRT:=zh hr1;clear hr1;replace a0:=zA hh.out.bel a0;replace a1:=zA hh.out.bel a1;replace a2:=zA hh.out.bel a2;replace a3:=zA hh.out.bel a3;replace a4:=zA hh.out.bel a4;replace a5:=zA hh.out.bel a5;replace a6:=zA hh.out.bel a6;replace a7:=zA hh.out.bel a7;replace a8:=zA hh.out.bel a8;replace a9:=zA hh.out.bel a9;have h1:(0:Int)≤(k:Int):=by omega
   have h2:(k:Int)<(s.length:Int):=by omega
   have hz1:=zN a0;simp only at hz1;have HST:=zh (fun h=>hh.out.eq.trans (errAt_stop hlt h))
   have HNX:=zh (fun h=>hh.out.eq.trans (errAt_next hlt h))
   have HNM:Hid ((s.take (k+1)).map (·.name)=(s.take k).map (·.name)++[(s[k]).name]):=by
    show _=_;rw[List.take_succ_eq_append_getElem hlt,List.map_append];rfl
   generalize s[k]=t at *;have HTB:Hid (TBox (wo.alloc (t.box As cs Am cm)) wo.heap.size t As cs Am cm):=heap_alloc_new wo (t.box As cs Am cm);have HBA:=zh (hh.out.bel.alloc hh.out.bel.size (t.box As cs Am cm));have HSA:Hid (SetAt kS (wo.alloc (t.box As cs Am cm)) (w.heap.size+1) ((s.take k).map (·.name))):=hh.out.set.below (zD _ _);generalize hK:(s.take k).map (·.name)=K at *;clear hK
   cases hf:formD t with
   | false =>
    have HF:=zh hf;have HD:=zh (HST.out (by rw[tyErr_form hf];decide))
    rw[tyErr_form hf] at HD;clear hf HST HNX;go_wp2_with fail;refine (form_any t As cs Am cm _ (HRT.out.below HBA.out)).mono ?_;rintro e w2 ⟨rfl,hb2⟩;rw[HF.out];go_wp2;go_ret;exact ⟨by rw[HD.out];rfl,zB HB1.out (zB HBA.out hb2)⟩
   | true =>
    have HF:=zh hf;have hk9:=form_le hf;clear hf
    by_cases hdup:t.name≠⟨#[]⟩∧memD t.name K=true
    ·obtain ⟨hne,hmem⟩:=hdup
     have HD:=zh (HST.out (by rw[tyErr_name hne hmem];decide))
     rw[tyErr_name hne hmem] at HD;have n1:¬ t.name.toList=[]:=by rw[Lib.toList_data];intro e;exact hne (Go.WideShapes.bytes_inj e)
     have n2:t.name.toList.isEmpty=false:=by simpa using n1
     have HMM:=zh hmem;clear HST HNX hne hmem;go_wp2_with fail;refine (form_any t As cs Am cm _ (HRT.out.below HBA.out)).mono ?_;rintro e w2 ⟨rfl,hb2⟩;rw[HF.out];have hlk:=(HSA.out.below hb2).look (P:=Tryz.prog) (KT:=9) (MT:=125) (ET:=4) keyOk_str Tryz.underlying125 zeroBool t.name;rw[HMM.out] at hlk;have m1:=(HTB.out.below hb2).cell 1
     simp only[List.getElem?_toArray,List.getElem?_cons_succ,List.getElem?_cons_zero] at m1;go_wp2;go_ret;exact ⟨by rw[HD.out];rfl,zB HB1.out (zB HBA.out hb2)⟩
    ·have HN0:Hid (t.name=⟨#[]⟩∨memD t.name K=false):=by
      show _∨_
      by_cases e:t.name=⟨#[]⟩
      ·exact .inl e
      ·right
       cases hm:memD t.name K with
       | false=>rfl
       | true=>exact absurd ⟨e,hm⟩ hdup
     have hcase:(t.name.toList=[])∨(¬ t.name.toList=[]∧memD t.name K=false):=by
      rcases HN0.out with e|e
      ·left;rw[Lib.toList_data,e]
      ·by_cases e2:t.name.toList=[]
       ·exact .inl e2
       ·exact .inr ⟨e2,e⟩
     have HUS:=zh (fun (j:Nat) (hj:j<(toD t).length) (hu:(toD t)[j]<0∨(s.length:Int)≤(toD t)[j])=>tyErr_use (s:=s) (K:=K) HF.out HN0.out hj hu)
     have HRS:=zh (fun hu=>tyErr_rest (s:=s) (K:=K) HF.out HN0.out hu)
     clear hdup;go_wp2_with fail;refine (form_any t As cs Am cm _ (HRT.out.below HBA.out)).mono ?_;rintro e w2 ⟨rfl,hb2⟩;rw[HF.out];have HTB2:=zh (HTB.out.below hb2);have HSA2:=zh (HSA.out.below hb2);have HB2:=zh (zB HBA.out hb2);clear hb2;obtain ⟨w3,hr3,hs3,hg3,hz3⟩:=HSA2.out.put (P:=Tryz.prog) (KT:=9) (MT:=125) (ET:=4) keyOk_str Tryz.underlying125 t.name;have m1:=HTB2.out.cell 1
     simp only[List.getElem?_toArray,List.getElem?_cons_succ,List.getElem?_cons_zero] at m1;have HTB3:=zh (HTB2.out.map HSA2.out hg3);have HB3:Hid (Below W1.heap.size W1 w3):=HB2.out.grown hg3 HB2.out.size (fun q hq=>by have:=Option.some.inj hq;have:=HZ1.out;omega)
     have HS3:=zh hs3;have p0:=HTB3.out.cell 0;have p1:=HTB3.out.cell 1;have p2:=HTB3.out.cell 2;have p3:=HTB3.out.cell 3;have p4:=HTB3.out.cell 4;have p5:=HTB3.out.cell 5;have p6:=HTB3.out.cell 6;have p7:=HTB3.out.cell 7;have p8:=HTB3.out.cell 8;have p9:=HTB3.out.cell 9;simp only[List.getElem?_toArray,List.getElem?_cons_succ,List.getElem?_cons_zero] at p0 p1 p2 p3 p4 p5 p6 p7 p8 p9;clear hs3 hg3 hz3
     have hlk:=HSA2.out.look (P:=Tryz.prog) (KT:=9) (MT:=125) (ET:=4) keyOk_str Tryz.underlying125 zeroBool t.name
     rcases hcase with n1|⟨n1,n3⟩
     ·have n2:t.name.toList.isEmpty=true:=by simpa using n1
      clear hlk;go_wp2_with fail;refine (scUses_any t hk9 As cs Am cm _ (HRT.out.below HB3.out)).mono ?_;rintro e w4 ⟨v4,rfl,ho4,hb4⟩;have HB4:=zh (zB HB3.out hb4);have HTB4:=zh (HTB3.out.below hb4);have HS4:=zh (HS3.out.below hb4);have hul:=toD_len t HRT.out.mems.1;obtain ⟨A4,c4,rfl,hr4⟩:=OwnI.ints ho4 (by unfold Lim;omega)
      have HR4:=zh hr4;have r0:=HTB4.out.cell 0;have r7:=HTB4.out.cell 7;simp only[List.getElem?_toArray,List.getElem?_cons_succ,List.getElem?_cons_zero] at r0 r7;have sc:=zA HB4.out HC1.out;clear hb4 ho4 hr4 p0 p1 p2 p3 p4 p5 p6 p7 p8 p9 m1 a0 a1 a2 a3 a4 a5 a6 a7 a8 a9 hr3;go_wp2
      go_loop [40] (fun i=>∃j:Nat,j≤(toD t).length∧i = .int .i64 j∧Hid (∀q (hq:q<(toD t).length),q<j→0≤(toD t)[q]∧(toD t)[q]<(s.length:Int))) (fun i=>(toD t).length - (intOf i).toNat)
      case atStart=>exact ⟨0,by omega,rfl,fun q _ h=>absurd h (by omega)⟩
      case round =>
       obtain ⟨j,hj,rfl,hin⟩:=hrel
       by_cases hjl:j<(toD t).length
       ·obtain ⟨b5,o5,rfl,u0⟩:=HR4.out.at1 hjl
        have g1:(0:Int)≤(j:Int):=by omega
        have g2:(j:Int)<((toD t).length:Int):=by omega
        have HUJ:=zh (HUS.out j hjl);have HIN:Hid (0≤(toD t)[j]∧(toD t)[j]<(s.length:Int)→∀q (hq:q<(toD t).length),q<j+1→0≤(toD t)[q]∧(toD t)[q]<(s.length:Int)):=fun h q hq hqj=>by
         by_cases e:q=j
         ·subst e;exact h
         ·exact hin.out q hq (by omega)
        generalize (toD t)[j]=u at *
        by_cases hneg:u<0
        ·have HD:=zh (HST.out (by rw[HUJ.out (.inl hneg)];decide))
         rw[HUJ.out (.inl hneg)] at HD;go_wp2;go_ret;exact ⟨by rw[HD.out];rfl,zB HB1.out HB4.out⟩
        by_cases hge:(s.length:Int)≤u
        ·have HD:=zh (HST.out (by rw[HUJ.out (.inr hge)];decide))
         rw[HUJ.out (.inr hge)] at HD;go_wp2;go_ret;exact ⟨by rw[HD.out];rfl,zB HB1.out HB4.out⟩
        have hge':decide ((s.length:Int)≤u)=false:=by simpa using hge
        go_wp2
        go_round
        case rel=>exact ⟨j+1,by omega,by go_num,HIN.out ⟨by omega,by omega⟩⟩
        case measure=>simp[intOf];omega
       ·have HAL:Hid (∀q (hq:q<(toD t).length),0≤(toD t)[q]∧(toD t)[q]<(s.length:Int)):=fun q hq=>hin.out q hq (by omega)
        have HTE:=zh (HRS.out HAL.out)
        by_cases e8:t.kind=8
        ·have q8:(t.kind==8)=true:=by simp[e8]
         obtain ⟨kk,hkk,hkl⟩:∃kk:Nat,t.key=(kk:Int)∧kk<s.length:=by
          obtain ⟨q,hq,hqe⟩:=List.getElem_of_mem (key_mem e8);have:=HAL.out q hq;rw[hqe] at this;exact ⟨t.key.toNat,by omega,by omega⟩
         obtain ⟨b6,o6,As6,cs6,Am6,cm6,e6,_,d0,_⟩:=(HS1.out.below HB4.out).at10 hkl
         injection e6 with e6
         injection e6 with e61 e62
         subst e61;subst e62;have HTK:=zh HTE.out;rw[e8,hkk,Int.toNat_natCast,show (s.getD kk zeroT).kind=(s[kk]).kind by rw[List.getD_eq_getElem?_getD,zl hkl];rfl] at HTK
         rw[hkk] at r7;generalize (s[kk]).kind=kd at *;have g3:(0:Int)≤(kk:Int):=by omega
         have g4:(kk:Int)<(s.length:Int):=by omega
         clear e8 hkk HTE
         by_cases c1:kd<1
         ·have HD:=zh (HST.out (by rw[HTK.out];simp[keyKind];omega))
          rw[HTK.out,if_pos (by simp[keyKind];omega)] at HD
          go_wp2
          go_ret
          exact ⟨by rw[HD.out];rfl,zB HB1.out HB4.out⟩
         by_cases c2:4<kd
         ·have HD:=zh (HST.out (by rw[HTK.out];simp[keyKind];omega))
          rw[HTK.out,if_pos (by simp[keyKind];omega)] at HD
          go_wp2
          go_ret
          exact ⟨by rw[HD.out];rfl,zB HB1.out HB4.out⟩
         have HD:=zh (HNX.out (by rw[HTK.out];simp[keyKind];omega))
         go_wp2
         go_roundw
         case rel=>exact ⟨k+1,by omega,by go_num,HD.out,(by rw[HNM.out];exact HS4.out),HB4.out⟩
         case measure=>simp[intOf];omega
        ·have q8:(t.kind==8)=false:=by simp[e8]
         have HD:=zh (HNX.out (by rw[HTE.out];simp[e8]))
         clear e8;go_wp2;go_roundw
         case rel=>exact ⟨k+1,by omega,by go_num,HD.out,(by rw[HNM.out];exact HS4.out),HB4.out⟩
         case measure=>simp[intOf];omega
     ·have n2:t.name.toList.isEmpty=false:=by simpa using n1
      rw[n3] at hlk;clear n3;go_wp2_with fail;refine (scUses_any t hk9 As cs Am cm _ (HRT.out.below HB3.out)).mono ?_;rintro e w4 ⟨v4,rfl,ho4,hb4⟩;have HB4:=zh (zB HB3.out hb4);have HTB4:=zh (HTB3.out.below hb4);have HS4:=zh (HS3.out.below hb4);have hul:=toD_len t HRT.out.mems.1;obtain ⟨A4,c4,rfl,hr4⟩:=OwnI.ints ho4 (by unfold Lim;omega)
      have HR4:=zh hr4;have r0:=HTB4.out.cell 0;have r7:=HTB4.out.cell 7;simp only[List.getElem?_toArray,List.getElem?_cons_succ,List.getElem?_cons_zero] at r0 r7;have sc:=zA HB4.out HC1.out;clear hb4 ho4 hr4 p0 p1 p2 p3 p4 p5 p6 p7 p8 p9 m1 a0 a1 a2 a3 a4 a5 a6 a7 a8 a9 hr3;go_wp2
      go_loop [40] (fun i=>∃j:Nat,j≤(toD t).length∧i = .int .i64 j∧Hid (∀q (hq:q<(toD t).length),q<j→0≤(toD t)[q]∧(toD t)[q]<(s.length:Int))) (fun i=>(toD t).length - (intOf i).toNat)
      case atStart=>exact ⟨0,by omega,rfl,fun q _ h=>absurd h (by omega)⟩
      case round =>
       obtain ⟨j,hj,rfl,hin⟩:=hrel
       by_cases hjl:j<(toD t).length
       ·obtain ⟨b5,o5,rfl,u0⟩:=HR4.out.at1 hjl
        have g1:(0:Int)≤(j:Int):=by omega
        have g2:(j:Int)<((toD t).length:Int):=by omega
        have HUJ:=zh (HUS.out j hjl);have HIN:Hid (0≤(toD t)[j]∧(toD t)[j]<(s.length:Int)→∀q (hq:q<(toD t).length),q<j+1→0≤(toD t)[q]∧(toD t)[q]<(s.length:Int)):=fun h q hq hqj=>by
         by_cases e:q=j
         ·subst e;exact h
         ·exact hin.out q hq (by omega)
        generalize (toD t)[j]=u at *
        by_cases hneg:u<0
        ·have HD:=zh (HST.out (by rw[HUJ.out (.inl hneg)];decide))
         rw[HUJ.out (.inl hneg)] at HD;go_wp2;go_ret;exact ⟨by rw[HD.out];rfl,zB HB1.out HB4.out⟩
        by_cases hge:(s.length:Int)≤u
        ·have HD:=zh (HST.out (by rw[HUJ.out (.inr hge)];decide))
         rw[HUJ.out (.inr hge)] at HD;go_wp2;go_ret;exact ⟨by rw[HD.out];rfl,zB HB1.out HB4.out⟩
        have hge':decide ((s.length:Int)≤u)=false:=by simpa using hge
        go_wp2
        go_round
        case rel=>exact ⟨j+1,by omega,by go_num,HIN.out ⟨by omega,by omega⟩⟩
        case measure=>simp[intOf];omega
       ·have HAL:Hid (∀q (hq:q<(toD t).length),0≤(toD t)[q]∧(toD t)[q]<(s.length:Int)):=fun q hq=>hin.out q hq (by omega)
        have HTE:=zh (HRS.out HAL.out)
        by_cases e8:t.kind=8
        ·have q8:(t.kind==8)=true:=by simp[e8]
         obtain ⟨kk,hkk,hkl⟩:∃kk:Nat,t.key=(kk:Int)∧kk<s.length:=by
          obtain ⟨q,hq,hqe⟩:=List.getElem_of_mem (key_mem e8);have:=HAL.out q hq;rw[hqe] at this;exact ⟨t.key.toNat,by omega,by omega⟩
         obtain ⟨b6,o6,As6,cs6,Am6,cm6,e6,_,d0,_⟩:=(HS1.out.below HB4.out).at10 hkl
         injection e6 with e6
         injection e6 with e61 e62
         subst e61;subst e62;have HTK:=zh HTE.out;rw[e8,hkk,Int.toNat_natCast,show (s.getD kk zeroT).kind=(s[kk]).kind by rw[List.getD_eq_getElem?_getD,zl hkl];rfl] at HTK
         rw[hkk] at r7;generalize (s[kk]).kind=kd at *;have g3:(0:Int)≤(kk:Int):=by omega
         have g4:(kk:Int)<(s.length:Int):=by omega
         clear e8 hkk HTE
         by_cases c1:kd<1
         ·have HD:=zh (HST.out (by rw[HTK.out];simp[keyKind];omega))
          rw[HTK.out,if_pos (by simp[keyKind];omega)] at HD
          go_wp2
          go_ret
          exact ⟨by rw[HD.out];rfl,zB HB1.out HB4.out⟩
         by_cases c2:4<kd
         ·have HD:=zh (HST.out (by rw[HTK.out];simp[keyKind];omega))
          rw[HTK.out,if_pos (by simp[keyKind];omega)] at HD
          go_wp2
          go_ret
          exact ⟨by rw[HD.out];rfl,zB HB1.out HB4.out⟩
         have HD:=zh (HNX.out (by rw[HTK.out];simp[keyKind];omega))
         go_wp2
         go_roundw
         case rel=>exact ⟨k+1,by omega,by go_num,HD.out,(by rw[HNM.out];exact HS4.out),HB4.out⟩
         case measure=>simp[intOf];omega
        ·have q8:(t.kind==8)=false:=by simp[e8]
         have HD:=zh (HNX.out (by rw[HTE.out];simp[e8]))
         clear e8;go_wp2;go_roundw
         case rel=>exact ⟨k+1,by omega,by go_num,HD.out,(by rw[HNM.out];exact HS4.out),HB4.out⟩
         case measure=>simp[intOf];omega
  ·have HD:=zh (hh.out.eq.trans (errAt_end hlt))
   go_wp2
   go_ret
   exact ⟨by rw[HD.out];rfl,zB HB1.out hh.out.bel⟩
end Go.Proofs.YtdfolgmcggdjdaaGreatDoor


