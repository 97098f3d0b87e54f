/-
  Walks: the forms of types, in package schema (written by gen_sc6.py).
-/
import Derived.Test.YtdfolgmcggdjdaaGreatDoorQSC5
import Derived.Test.YtdfolgmcggdjdaaGreatDoorQEQ5
namespace Go.Proofs.YtdfolgmcggdjdaaGreatDoor
open Go.RowKit
set_option maxHeartbeats 16000000
set_option maxRecDepth 100000
theorem sok_empty:SOk ⟨#[]⟩:=by unfold SOk;exact Nat.zero_le _
theorem tyR_zero (w:World):TyR w zeroT none none:=⟨sok_empty,RowsR.nil _ _ _ _ _,RowsR.nil _ _ _ _ _⟩
def okK (t:TyD):Bool:=(!zL t.kind||nameB t.name)&&caseD t
theorem form_eq {t:TyD} (h1:1≤t.kind) (h9:t.kind≤9):formD t=(okK t&&decide (restD t=zeroT)):=by
 have:decide (t=zV t)=decide (restD t=zeroT):=decide_eq_decide.2 (restD_iff t).symm;unfold formD okK;rw[this];simp only[h1,h9,decide_true,Bool.true_and]
 cases decide (restD t=zeroT) <;> simp
theorem form_no {t:TyD} (h:okK t=false):formD t=false:=by
 unfold formD;unfold okK at h
 cases h1:(!zL t.kind||nameB t.name) with
 | false=>simp
 | true=>rw[h1,Bool.true_and] at h;rw[h];simp
theorem form_out {t:TyD} (h:t.kind<1∨9<t.kind):formD t=false:=by
 unfold formD
 rcases h with h|h
 ·rw[decide_eq_false (by omega)];simp
 ·rw[decide_eq_false (show ¬ t.kind≤9 by omega)];simp
theorem form1_any (t:TyD) (hkind:t.kind=1) (As:zo) (cs:Nat) (Am:zo) (cm:Nat) (w:World) (ht:TyR w t As Am) :
  Calls Tryz.prog 73 #[t.v As cs Am cm] w (SamePost (formD t) w):=by
 have HX:=zh ht;have HV:Hid (t.v As cs Am cm = .agg #[.int .i64 1,.string t.name,.int .i64 t.low,.int .i64 t.high,.int .i64 t.max,.slice As t.syms.length cs,.slice Am t.mems.length cm,.int .i64 t.key,.int .i64 t.elem,.bool t.open_]):=by show _=_;rw[←hkind]
 rw[HV.out];clear ht HV;have HOK:okK t=true:=by simp[okK,zL,caseD,hkind]
 have HD:=zh (show formD t=decide ({ t with kind:=0 }=zeroT) by rw[form_eq (by omega) (by omega),HOK];simp[restD,hkind])
 clear hkind HOK
 go_enter Tryz.func73,Tryz.ntmps73
 go_wp2_with fail
 refine (equal_any { t with kind:=0 } zeroT As cs Am cm none 0 none 0 _ ⟨HX.out.name,HX.out.syms.below (zE w _ _),HX.out.mems.below (zE w _ _)⟩ (tyR_zero _)).mono ?_
 rintro e w9 ⟨rfl,hb9⟩;go_wp2;go_ret;exact ⟨by rw[HD.out];rfl,zB (zE w _ _) hb9⟩
theorem form2_any (t:TyD) (hkind:t.kind=2) (As:zo) (cs:Nat) (Am:zo) (cm:Nat) (w:World) (ht:TyR w t As Am) :
  Calls Tryz.prog 73 #[t.v As cs Am cm] w (SamePost (formD t) w):=by
 have HX:=zh ht;have HV:Hid (t.v As cs Am cm = .agg #[.int .i64 2,.string t.name,.int .i64 t.low,.int .i64 t.high,.int .i64 t.max,.slice As t.syms.length cs,.slice Am t.mems.length cm,.int .i64 t.key,.int .i64 t.elem,.bool t.open_]):=by show _=_;rw[←hkind]
 rw[HV.out];clear ht HV
 by_cases hc:t.low≤t.high
 ·have HOK:okK t=true:=by simp[okK,zL,caseD,hkind,hc]
  have HD:=zh (show formD t=decide ({ t with kind:=0,low:=0,high:=0 }=zeroT) by rw[form_eq (by omega) (by omega),HOK];simp[restD,hkind])
  clear hkind HOK
  go_enter Tryz.func73,Tryz.ntmps73
  go_wp2_with fail
  refine (equal_any { t with kind:=0,low:=0,high:=0 } zeroT As cs Am cm none 0 none 0 _ ⟨HX.out.name,HX.out.syms.below (zE w _ _),HX.out.mems.below (zE w _ _)⟩ (tyR_zero _)).mono ?_
  rintro e w9 ⟨rfl,hb9⟩;go_wp2;go_ret;exact ⟨by rw[HD.out];rfl,zB (zE w _ _) hb9⟩
 ·have HD:=zh (form_no (t:=t) (by simp[okK,zL,caseD,hkind,hc]))
  clear hkind 
  go_enter Tryz.func73,Tryz.ntmps73
  go_wp2
  go_ret
  exact ⟨by rw[HD.out];rfl,zE _ _ _⟩
theorem form3_any (t:TyD) (hkind:t.kind=3) (As:zo) (cs:Nat) (Am:zo) (cm:Nat) (w:World) (ht:TyR w t As Am) :
  Calls Tryz.prog 73 #[t.v As cs Am cm] w (SamePost (formD t) w):=by
 have HX:=zh ht;have HV:Hid (t.v As cs Am cm = .agg #[.int .i64 3,.string t.name,.int .i64 t.low,.int .i64 t.high,.int .i64 t.max,.slice As t.syms.length cs,.slice Am t.mems.length cm,.int .i64 t.key,.int .i64 t.elem,.bool t.open_]):=by show _=_;rw[←hkind]
 rw[HV.out];clear ht HV
 by_cases hc:0≤t.max
 ·by_cases hc2:t.max≤200
  ·have HOK:okK t=true:=by simp[okK,zL,caseD,hkind,hc,hc2]
   have HD:=zh (show formD t=decide ({ t with kind:=0,max:=0 }=zeroT) by rw[form_eq (by omega) (by omega),HOK];simp[restD,hkind])
   clear hkind HOK
   go_enter Tryz.func73,Tryz.ntmps73
   go_wp2_with fail
   refine (equal_any { t with kind:=0,max:=0 } zeroT As cs Am cm none 0 none 0 _ ⟨HX.out.name,HX.out.syms.below (zE w _ _),HX.out.mems.below (zE w _ _)⟩ (tyR_zero _)).mono ?_
   rintro e w9 ⟨rfl,hb9⟩;go_wp2;go_ret;exact ⟨by rw[HD.out];rfl,zB (zE w _ _) hb9⟩
  ·have HD:=zh (form_no (t:=t) (by simp[okK,zL,caseD,hkind,hc,hc2]))
   clear hkind 
   go_enter Tryz.func73,Tryz.ntmps73
   go_wp2
   go_ret
   exact ⟨by rw[HD.out];rfl,zE _ _ _⟩
 ·have HD:=zh (form_no (t:=t) (by simp[okK,zL,caseD,hkind,hc]))
  clear hkind 
  go_enter Tryz.func73,Tryz.ntmps73
  go_wp2
  go_ret
  exact ⟨by rw[HD.out];rfl,zE _ _ _⟩
theorem form4_any (t:TyD) (hkind:t.kind=4) (As:zo) (cs:Nat) (Am:zo) (cm:Nat) (w:World) (ht:TyR w t As Am) :
  Calls Tryz.prog 73 #[t.v As cs Am cm] w (SamePost (formD t) w):=by
 have HX:=zh ht;have HV:Hid (t.v As cs Am cm = .agg #[.int .i64 4,.string t.name,.int .i64 t.low,.int .i64 t.high,.int .i64 t.max,.slice As t.syms.length cs,.slice Am t.mems.length cm,.int .i64 t.key,.int .i64 t.elem,.bool t.open_]):=by show _=_;rw[←hkind]
 rw[HV.out];clear ht HV
 cases hn:nameB t.name with
 | false =>
  have HD:=zh (form_no (t:=t) (by simp[okK,zL,hkind,hn]))
  have HN:=zh hn;clear hkind hn
  go_enter Tryz.func73,Tryz.ntmps73
  go_wp2_with (go_at_call 103;refine (yC t.name HX.out.name _).mono ?_;rintro e w2 ⟨rfl,rfl⟩;rw[HN.out])
  go_ret
  exact ⟨by rw[HD.out];rfl,zE _ _ _⟩
 | true =>
  have HN:=zh hn
  cases hs:symsD t.syms with
  | false =>
   have HD:=zh (form_no (t:=t) (by simp[okK,caseD,hkind,hs]))
   have HS:=zh hs;clear hkind hn hs
   go_enter Tryz.func73,Tryz.ntmps73
   go_wp2_with (first|(go_at_call 103;refine (yC t.name HX.out.name _).mono ?_;rintro e w2 ⟨rfl,rfl⟩;rw[HN.out])|fail)
   refine (syms_any t.syms As cs _ (HX.out.syms.below (zE _ _ _))).mono ?_;rintro e w2 ⟨rfl,hb2⟩;rw[HS.out];have hc2:=bcell hb2;have hf2:=bfroz hb2;have hz0:=hb2.size;simp at hz0;have hz1:w.heap.size<w2.heap.size:=by omega
   have hz2:w.heap.size+1<w2.heap.size:=by omega
   have HB2:=zh (zO hb2);clear hz0 hb2;go_wp2;go_ret;exact ⟨by rw[HD.out];rfl,(((HB2.out.setCell (by simp) _).setCell (by simp) _).setCell (by simp) _)⟩
  | true =>
   have HOK:okK t=true:=by simp[okK,caseD,zL,hkind,hn,hs]
   have HS:=zh hs;have HD:=zh (show formD t=decide ({ t with kind:=0,name:=⟨#[]⟩,syms:=[],open_:=false }=zeroT) by rw[form_eq (by omega) (by omega),HOK];simp[restD,hkind])
   clear hkind hn hs HOK
   go_enter Tryz.func73,Tryz.ntmps73
   go_wp2_with (first|(go_at_call 103;refine (yC t.name HX.out.name _).mono ?_;rintro e w2 ⟨rfl,rfl⟩;rw[HN.out])|fail)
   refine (syms_any t.syms As cs _ (HX.out.syms.below (zE _ _ _))).mono ?_;rintro e w2 ⟨rfl,hb2⟩;rw[HS.out];have hc2:=bcell hb2;have hf2:=bfroz hb2;have hz0:=hb2.size;simp at hz0;have hz1:w.heap.size<w2.heap.size:=by omega
   have hz2:w.heap.size+1<w2.heap.size:=by omega
   have HB2:=zh (zO hb2);clear hz0 hb2;go_wp2_with fail;refine (equal_any { t with kind:=0,name:=⟨#[]⟩,syms:=[],open_:=false } zeroT none 0 Am cm none 0 none 0 _ ⟨sok_empty,RowsR.nil _ _ _ _ _,HX.out.mems.below (((HB2.out.setCell (by simp) _).setCell (by simp) _).setCell (by simp) _)⟩ (tyR_zero _)).mono ?_
   rintro e w9 ⟨rfl,hb9⟩;go_wp2;go_ret;exact ⟨by rw[HD.out];rfl,zB (((HB2.out.setCell (by simp) _).setCell (by simp) _).setCell (by simp) _) hb9⟩
theorem form5_any (t:TyD) (hkind:t.kind=5) (As:zo) (cs:Nat) (Am:zo) (cm:Nat) (w:World) (ht:TyR w t As Am) :
  Calls Tryz.prog 73 #[t.v As cs Am cm] w (SamePost (formD t) w):=by
 have HX:=zh ht;have HV:Hid (t.v As cs Am cm = .agg #[.int .i64 5,.string t.name,.int .i64 t.low,.int .i64 t.high,.int .i64 t.max,.slice As t.syms.length cs,.slice Am t.mems.length cm,.int .i64 t.key,.int .i64 t.elem,.bool t.open_]):=by show _=_;rw[←hkind]
 rw[HV.out];clear ht HV
 cases hn:nameB t.name with
 | false =>
  have HD:=zh (form_no (t:=t) (by simp[okK,zL,hkind,hn]))
  have HN:=zh hn;have hob:t.open_=true∨t.open_=false:=by cases t.open_ <;> simp
  clear hkind hn;generalize t.open_=op at *
  rcases hob with rfl|rfl
  ·go_enter Tryz.func73,Tryz.ntmps73
   go_wp2_with (go_at_call 103;refine (yC t.name HX.out.name _).mono ?_;rintro e w2 ⟨rfl,rfl⟩;rw[HN.out])
   go_ret
   exact ⟨by rw[HD.out];rfl,zE _ _ _⟩
  ·go_enter Tryz.func73,Tryz.ntmps73
   go_wp2_with (go_at_call 103;refine (yC t.name HX.out.name _).mono ?_;rintro e w2 ⟨rfl,rfl⟩;rw[HN.out])
   go_ret
   exact ⟨by rw[HD.out];rfl,zE _ _ _⟩
 | true =>
  have HN:=zh hn
  cases hs:memsD true t.mems with
  | false =>
   have HD:=zh (form_no (t:=t) (by simp[okK,caseD,hkind,hs]))
   have HS:=zh hs;clear hkind hn hs
   cases hop:t.open_ with
   | false =>
    clear hop
    go_enter Tryz.func73,Tryz.ntmps73
    go_wp2_with (first|(go_at_call 103;refine (yC t.name HX.out.name _).mono ?_;rintro e w2 ⟨rfl,rfl⟩;rw[HN.out])|fail)
    refine (mems5_any { t with kind:=5,open_:=false } rfl As cs Am cm _ ⟨HX.out.name,HX.out.syms.below (zE _ _ _),HX.out.mems.below (zE _ _ _)⟩).mono ?_
    rintro e w2 ⟨rfl,hb2⟩;rw[HS.out];have hc2:=bcell hb2;have hf2:=bfroz hb2;have hz0:=hb2.size;simp at hz0;have hz1:w.heap.size<w2.heap.size:=by omega
    have hz2:w.heap.size+1<w2.heap.size:=by omega
    have HB2:=zh (zO hb2);clear hz0 hb2;go_wp2;go_ret;exact ⟨by rw[HD.out];rfl,(((HB2.out.setCell (by simp) _).setCell (by simp) _).setCell (by simp) _)⟩
   | true =>
    clear hop
    go_enter Tryz.func73,Tryz.ntmps73
    go_wp2_with (first|(go_at_call 103;refine (yC t.name HX.out.name _).mono ?_;rintro e w2 ⟨rfl,rfl⟩;rw[HN.out])|fail)
    refine (mems5_any { t with kind:=5,open_:=true } rfl As cs Am cm _ ⟨HX.out.name,HX.out.syms.below (zE _ _ _),HX.out.mems.below (zE _ _ _)⟩).mono ?_
    rintro e w2 ⟨rfl,hb2⟩;rw[HS.out];have hc2:=bcell hb2;have hf2:=bfroz hb2;have hz0:=hb2.size;simp at hz0;have hz1:w.heap.size<w2.heap.size:=by omega
    have hz2:w.heap.size+1<w2.heap.size:=by omega
    have HB2:=zh (zO hb2);clear hz0 hb2;go_wp2;go_ret;exact ⟨by rw[HD.out];rfl,(((HB2.out.setCell (by simp) _).setCell (by simp) _).setCell (by simp) _)⟩
  | true =>
   have HOK:okK t=true:=by simp[okK,caseD,zL,hkind,hn,hs]
   have HS:=zh hs
   cases hop:t.open_ with
   | false =>
    have HD:=zh (show formD t=decide ({ t with kind:=0,name:=⟨#[]⟩,mems:=[],open_:=false }=zeroT) by rw[form_eq (by omega) (by omega),HOK];simp[restD,hkind,hop])
    clear hkind hn hs HOK hop
    go_enter Tryz.func73,Tryz.ntmps73
    go_wp2_with (first|(go_at_call 103;refine (yC t.name HX.out.name _).mono ?_;rintro e w2 ⟨rfl,rfl⟩;rw[HN.out])|fail)
    refine (mems5_any { t with kind:=5,open_:=false } rfl As cs Am cm _ ⟨HX.out.name,HX.out.syms.below (zE _ _ _),HX.out.mems.below (zE _ _ _)⟩).mono ?_
    rintro e w2 ⟨rfl,hb2⟩;rw[HS.out];have hc2:=bcell hb2;have hf2:=bfroz hb2;have hz0:=hb2.size;simp at hz0;have hz1:w.heap.size<w2.heap.size:=by omega
    have hz2:w.heap.size+1<w2.heap.size:=by omega
    have HB2:=zh (zO hb2);clear hz0 hb2;go_wp2_with fail;refine (equal_any { t with kind:=0,name:=⟨#[]⟩,mems:=[],open_:=false } zeroT As cs none 0 none 0 none 0 _ ⟨sok_empty,HX.out.syms.below (((HB2.out.setCell (by simp) _).setCell (by simp) _).setCell (by simp) _),RowsR.nil _ _ _ _ _⟩ (tyR_zero _)).mono ?_
    rintro e w9 ⟨rfl,hb9⟩;go_wp2;go_ret;exact ⟨by rw[HD.out];rfl,zB (((HB2.out.setCell (by simp) _).setCell (by simp) _).setCell (by simp) _) hb9⟩
   | true =>
    have HD:=zh (show formD t=decide ({ t with kind:=0,name:=⟨#[]⟩,mems:=[],open_:=true }=zeroT) by rw[form_eq (by omega) (by omega),HOK];simp[restD,hkind,hop])
    clear hkind hn hs HOK hop
    go_enter Tryz.func73,Tryz.ntmps73
    go_wp2_with (first|(go_at_call 103;refine (yC t.name HX.out.name _).mono ?_;rintro e w2 ⟨rfl,rfl⟩;rw[HN.out])|fail)
    refine (mems5_any { t with kind:=5,open_:=true } rfl As cs Am cm _ ⟨HX.out.name,HX.out.syms.below (zE _ _ _),HX.out.mems.below (zE _ _ _)⟩).mono ?_
    rintro e w2 ⟨rfl,hb2⟩;rw[HS.out];have hc2:=bcell hb2;have hf2:=bfroz hb2;have hz0:=hb2.size;simp at hz0;have hz1:w.heap.size<w2.heap.size:=by omega
    have hz2:w.heap.size+1<w2.heap.size:=by omega
    have HB2:=zh (zO hb2);clear hz0 hb2;go_wp2_with fail;refine (equal_any { t with kind:=0,name:=⟨#[]⟩,mems:=[],open_:=true } zeroT As cs none 0 none 0 none 0 _ ⟨sok_empty,HX.out.syms.below (((HB2.out.setCell (by simp) _).setCell (by simp) _).setCell (by simp) _),RowsR.nil _ _ _ _ _⟩ (tyR_zero _)).mono ?_
    rintro e w9 ⟨rfl,hb9⟩;go_wp2;go_ret;exact ⟨by rw[HD.out];rfl,zB (((HB2.out.setCell (by simp) _).setCell (by simp) _).setCell (by simp) _) hb9⟩
theorem form6_any (t:TyD) (hkind:t.kind=6) (As:zo) (cs:Nat) (Am:zo) (cm:Nat) (w:World) (ht:TyR w t As Am) :
  Calls Tryz.prog 73 #[t.v As cs Am cm] w (SamePost (formD t) w):=by
 have HX:=zh ht;have HV:Hid (t.v As cs Am cm = .agg #[.int .i64 6,.string t.name,.int .i64 t.low,.int .i64 t.high,.int .i64 t.max,.slice As t.syms.length cs,.slice Am t.mems.length cm,.int .i64 t.key,.int .i64 t.elem,.bool t.open_]):=by show _=_;rw[←hkind]
 rw[HV.out];clear ht HV
 cases hn:nameB t.name with
 | false =>
  have HD:=zh (form_no (t:=t) (by simp[okK,zL,hkind,hn]))
  have HN:=zh hn;have hob:t.open_=true∨t.open_=false:=by cases t.open_ <;> simp
  clear hkind hn;generalize t.open_=op at *
  rcases hob with rfl|rfl
  ·go_enter Tryz.func73,Tryz.ntmps73
   go_wp2_with (go_at_call 103;refine (yC t.name HX.out.name _).mono ?_;rintro e w2 ⟨rfl,rfl⟩;rw[HN.out])
   go_ret
   exact ⟨by rw[HD.out];rfl,zE _ _ _⟩
  ·go_enter Tryz.func73,Tryz.ntmps73
   go_wp2_with (go_at_call 103;refine (yC t.name HX.out.name _).mono ?_;rintro e w2 ⟨rfl,rfl⟩;rw[HN.out])
   go_ret
   exact ⟨by rw[HD.out];rfl,zE _ _ _⟩
 | true =>
  have HN:=zh hn
  cases hs:memsD false t.mems with
  | false =>
   have HD:=zh (form_no (t:=t) (by simp[okK,caseD,hkind,hs]))
   have HS:=zh hs;clear hkind hn hs
   cases hop:t.open_ with
   | false =>
    clear hop
    go_enter Tryz.func73,Tryz.ntmps73
    go_wp2_with (first|(go_at_call 103;refine (yC t.name HX.out.name _).mono ?_;rintro e w2 ⟨rfl,rfl⟩;rw[HN.out])|fail)
    refine (mems6_any { t with kind:=6,open_:=false } rfl As cs Am cm _ ⟨HX.out.name,HX.out.syms.below (zE _ _ _),HX.out.mems.below (zE _ _ _)⟩).mono ?_
    rintro e w2 ⟨rfl,hb2⟩;rw[HS.out];have hc2:=bcell hb2;have hf2:=bfroz hb2;have hz0:=hb2.size;simp at hz0;have hz1:w.heap.size<w2.heap.size:=by omega
    have hz2:w.heap.size+1<w2.heap.size:=by omega
    have HB2:=zh (zO hb2);clear hz0 hb2;go_wp2;go_ret;exact ⟨by rw[HD.out];rfl,(((HB2.out.setCell (by simp) _).setCell (by simp) _).setCell (by simp) _)⟩
   | true =>
    clear hop
    go_enter Tryz.func73,Tryz.ntmps73
    go_wp2_with (first|(go_at_call 103;refine (yC t.name HX.out.name _).mono ?_;rintro e w2 ⟨rfl,rfl⟩;rw[HN.out])|fail)
    refine (mems6_any { t with kind:=6,open_:=true } rfl As cs Am cm _ ⟨HX.out.name,HX.out.syms.below (zE _ _ _),HX.out.mems.below (zE _ _ _)⟩).mono ?_
    rintro e w2 ⟨rfl,hb2⟩;rw[HS.out];have hc2:=bcell hb2;have hf2:=bfroz hb2;have hz0:=hb2.size;simp at hz0;have hz1:w.heap.size<w2.heap.size:=by omega
    have hz2:w.heap.size+1<w2.heap.size:=by omega
    have HB2:=zh (zO hb2);clear hz0 hb2;go_wp2;go_ret;exact ⟨by rw[HD.out];rfl,(((HB2.out.setCell (by simp) _).setCell (by simp) _).setCell (by simp) _)⟩
  | true =>
   have HOK:okK t=true:=by simp[okK,caseD,zL,hkind,hn,hs]
   have HS:=zh hs
   cases hop:t.open_ with
   | false =>
    have HD:=zh (show formD t=decide ({ t with kind:=0,name:=⟨#[]⟩,mems:=[],open_:=false }=zeroT) by rw[form_eq (by omega) (by omega),HOK];simp[restD,hkind])
    clear hkind hn hs HOK hop
    go_enter Tryz.func73,Tryz.ntmps73
    go_wp2_with (first|(go_at_call 103;refine (yC t.name HX.out.name _).mono ?_;rintro e w2 ⟨rfl,rfl⟩;rw[HN.out])|fail)
    refine (mems6_any { t with kind:=6,open_:=false } rfl As cs Am cm _ ⟨HX.out.name,HX.out.syms.below (zE _ _ _),HX.out.mems.below (zE _ _ _)⟩).mono ?_
    rintro e w2 ⟨rfl,hb2⟩;rw[HS.out];have hc2:=bcell hb2;have hf2:=bfroz hb2;have hz0:=hb2.size;simp at hz0;have hz1:w.heap.size<w2.heap.size:=by omega
    have hz2:w.heap.size+1<w2.heap.size:=by omega
    have HB2:=zh (zO hb2);clear hz0 hb2;go_wp2_with fail;refine (equal_any { t with kind:=0,name:=⟨#[]⟩,mems:=[],open_:=false } zeroT As cs none 0 none 0 none 0 _ ⟨sok_empty,HX.out.syms.below (((HB2.out.setCell (by simp) _).setCell (by simp) _).setCell (by simp) _),RowsR.nil _ _ _ _ _⟩ (tyR_zero _)).mono ?_
    rintro e w9 ⟨rfl,hb9⟩;go_wp2;go_ret;exact ⟨by rw[HD.out];rfl,zB (((HB2.out.setCell (by simp) _).setCell (by simp) _).setCell (by simp) _) hb9⟩
   | true =>
    have HD:=zh (show formD t=decide ({ t with kind:=0,name:=⟨#[]⟩,mems:=[],open_:=false }=zeroT) by rw[form_eq (by omega) (by omega),HOK];simp[restD,hkind])
    clear hkind hn hs HOK hop
    go_enter Tryz.func73,Tryz.ntmps73
    go_wp2_with (first|(go_at_call 103;refine (yC t.name HX.out.name _).mono ?_;rintro e w2 ⟨rfl,rfl⟩;rw[HN.out])|fail)
    refine (mems6_any { t with kind:=6,open_:=true } rfl As cs Am cm _ ⟨HX.out.name,HX.out.syms.below (zE _ _ _),HX.out.mems.below (zE _ _ _)⟩).mono ?_
    rintro e w2 ⟨rfl,hb2⟩;rw[HS.out];have hc2:=bcell hb2;have hf2:=bfroz hb2;have hz0:=hb2.size;simp at hz0;have hz1:w.heap.size<w2.heap.size:=by omega
    have hz2:w.heap.size+1<w2.heap.size:=by omega
    have HB2:=zh (zO hb2);clear hz0 hb2;go_wp2_with fail;refine (equal_any { t with kind:=0,name:=⟨#[]⟩,mems:=[],open_:=false } zeroT As cs none 0 none 0 none 0 _ ⟨sok_empty,HX.out.syms.below (((HB2.out.setCell (by simp) _).setCell (by simp) _).setCell (by simp) _),RowsR.nil _ _ _ _ _⟩ (tyR_zero _)).mono ?_
    rintro e w9 ⟨rfl,hb9⟩;go_wp2;go_ret;exact ⟨by rw[HD.out];rfl,zB (((HB2.out.setCell (by simp) _).setCell (by simp) _).setCell (by simp) _) hb9⟩
theorem form7_any (t:TyD) (hkind:t.kind=7) (As:zo) (cs:Nat) (Am:zo) (cm:Nat) (w:World) (ht:TyR w t As Am) :
  Calls Tryz.prog 73 #[t.v As cs Am cm] w (SamePost (formD t) w):=by
 have HX:=zh ht;have HV:Hid (t.v As cs Am cm = .agg #[.int .i64 7,.string t.name,.int .i64 t.low,.int .i64 t.high,.int .i64 t.max,.slice As t.syms.length cs,.slice Am t.mems.length cm,.int .i64 t.key,.int .i64 t.elem,.bool t.open_]):=by show _=_;rw[←hkind]
 rw[HV.out];clear ht HV
 by_cases hc:0≤t.max
 ·by_cases hc2:t.max≤50
  ·have HOK:okK t=true:=by simp[okK,zL,caseD,hkind,hc,hc2]
   have HD:=zh (show formD t=decide ({ t with kind:=0,max:=0,elem:=0 }=zeroT) by rw[form_eq (by omega) (by omega),HOK];simp[restD,hkind])
   clear hkind HOK
   go_enter Tryz.func73,Tryz.ntmps73
   go_wp2_with fail
   refine (equal_any { t with kind:=0,max:=0,elem:=0 } zeroT As cs Am cm none 0 none 0 _ ⟨HX.out.name,HX.out.syms.below (zE w _ _),HX.out.mems.below (zE w _ _)⟩ (tyR_zero _)).mono ?_
   rintro e w9 ⟨rfl,hb9⟩;go_wp2;go_ret;exact ⟨by rw[HD.out];rfl,zB (zE w _ _) hb9⟩
  ·have HD:=zh (form_no (t:=t) (by simp[okK,zL,caseD,hkind,hc,hc2]))
   clear hkind 
   go_enter Tryz.func73,Tryz.ntmps73
   go_wp2
   go_ret
   exact ⟨by rw[HD.out];rfl,zE _ _ _⟩
 ·have HD:=zh (form_no (t:=t) (by simp[okK,zL,caseD,hkind,hc]))
  clear hkind 
  go_enter Tryz.func73,Tryz.ntmps73
  go_wp2
  go_ret
  exact ⟨by rw[HD.out];rfl,zE _ _ _⟩
theorem form8_any (t:TyD) (hkind:t.kind=8) (As:zo) (cs:Nat) (Am:zo) (cm:Nat) (w:World) (ht:TyR w t As Am) :
  Calls Tryz.prog 73 #[t.v As cs Am cm] w (SamePost (formD t) w):=by
 have HX:=zh ht;have HV:Hid (t.v As cs Am cm = .agg #[.int .i64 8,.string t.name,.int .i64 t.low,.int .i64 t.high,.int .i64 t.max,.slice As t.syms.length cs,.slice Am t.mems.length cm,.int .i64 t.key,.int .i64 t.elem,.bool t.open_]):=by show _=_;rw[←hkind]
 rw[HV.out];clear ht HV
 by_cases hc:0≤t.max
 ·by_cases hc2:t.max≤50
  ·have HOK:okK t=true:=by simp[okK,zL,caseD,hkind,hc,hc2]
   have HD:=zh (show formD t=decide ({ t with kind:=0,max:=0,key:=0,elem:=0 }=zeroT) by rw[form_eq (by omega) (by omega),HOK];simp[restD,hkind])
   clear hkind HOK
   go_enter Tryz.func73,Tryz.ntmps73
   go_wp2_with fail
   refine (equal_any { t with kind:=0,max:=0,key:=0,elem:=0 } zeroT As cs Am cm none 0 none 0 _ ⟨HX.out.name,HX.out.syms.below (zE w _ _),HX.out.mems.below (zE w _ _)⟩ (tyR_zero _)).mono ?_
   rintro e w9 ⟨rfl,hb9⟩;go_wp2;go_ret;exact ⟨by rw[HD.out];rfl,zB (zE w _ _) hb9⟩
  ·have HD:=zh (form_no (t:=t) (by simp[okK,zL,caseD,hkind,hc,hc2]))
   clear hkind 
   go_enter Tryz.func73,Tryz.ntmps73
   go_wp2
   go_ret
   exact ⟨by rw[HD.out];rfl,zE _ _ _⟩
 ·have HD:=zh (form_no (t:=t) (by simp[okK,zL,caseD,hkind,hc]))
  clear hkind 
  go_enter Tryz.func73,Tryz.ntmps73
  go_wp2
  go_ret
  exact ⟨by rw[HD.out];rfl,zE _ _ _⟩
theorem form9_any (t:TyD) (hkind:t.kind=9) (As:zo) (cs:Nat) (Am:zo) (cm:Nat) (w:World) (ht:TyR w t As Am) :
  Calls Tryz.prog 73 #[t.v As cs Am cm] w (SamePost (formD t) w):=by
 have HX:=zh ht;have HV:Hid (t.v As cs Am cm = .agg #[.int .i64 9,.string t.name,.int .i64 t.low,.int .i64 t.high,.int .i64 t.max,.slice As t.syms.length cs,.slice Am t.mems.length cm,.int .i64 t.key,.int .i64 t.elem,.bool t.open_]):=by show _=_;rw[←hkind]
 rw[HV.out];clear ht HV;have HOK:okK t=true:=by simp[okK,zL,caseD,hkind]
 have HD:=zh (show formD t=decide ({ t with kind:=0,elem:=0 }=zeroT) by rw[form_eq (by omega) (by omega),HOK];simp[restD,hkind])
 clear hkind HOK
 go_enter Tryz.func73,Tryz.ntmps73
 go_wp2_with fail
 refine (equal_any { t with kind:=0,elem:=0 } zeroT As cs Am cm none 0 none 0 _ ⟨HX.out.name,HX.out.syms.below (zE w _ _),HX.out.mems.below (zE w _ _)⟩ (tyR_zero _)).mono ?_
 rintro e w9 ⟨rfl,hb9⟩;go_wp2;go_ret;exact ⟨by rw[HD.out];rfl,zB (zE w _ _) hb9⟩
end Go.Proofs.YtdfolgmcggdjdaaGreatDoor


