/-
  Walks: whether a type is right, in the reference (written by gen_rv4.py).
-/
import Derived.Test.YtdfolgmcggdjdaaGreatDoorQRV3
import Derived.Test.YtdfolgmcggdjdaaGreatDoorQSC7
import Derived.Test.YtdfolgmcggdjdaaGreatDoorQEQ6
namespace Go.Proofs.YtdfolgmcggdjdaaGreatDoor
open Go.RowKit
set_option maxHeartbeats 16000000
set_option maxRecDepth 100000
theorem tb_cells {w w':World} {t:TyD} {As:zo} {cs:Nat} {Am:zo} {cm:Nat} (h:TBox w' w.heap.size t As cs Am cm) (hb:Below w.heap.size w w'):(w'.cell? ⟨w.heap.size,0,none⟩=some (.int .i64 t.kind)∧w'.cell? ⟨w.heap.size,1,none⟩=some (.string t.name)∧w'.cell? ⟨w.heap.size,2,none⟩=some (.int .i64 t.low)∧w'.cell? ⟨w.heap.size,3,none⟩=some (.int .i64 t.high)∧w'.cell? ⟨w.heap.size,4,none⟩=some (.int .i64 t.max)∧w'.cell? ⟨w.heap.size,5,none⟩=some (.slice As t.syms.length cs)∧w'.cell? ⟨w.heap.size,6,none⟩=some (.slice Am t.mems.length cm)∧w'.cell? ⟨w.heap.size,7,none⟩=some (.int .i64 t.key)∧w'.cell? ⟨w.heap.size,8,none⟩=some (.int .i64 t.elem)∧w'.cell? ⟨w.heap.size,9,none⟩=some (.bool t.open_))∧Hid (TBox w' w.heap.size t As cs Am cm∧Below w.heap.size w w') :=
 ⟨⟨h.cell 0,h.cell 1,h.cell 2,h.cell 3,h.cell 4,h.cell 5,h.cell 6,h.cell 7,h.cell 8,h.cell 9⟩,h,hb⟩
theorem tb_more {w wc w3:World} {t:TyD} {As:zo} {cs:Nat} {Am:zo} {cm:Nat} (h:TBox wc w.heap.size t As cs Am cm∧Below w.heap.size w wc) (hb:Below wc.heap.size wc w3):TBox w3 w.heap.size t As cs Am cm∧Below w.heap.size w w3:=⟨h.1.below hb,zB h.2 hb⟩
def badD (t:TyD):Bool:=!decide (t=zV t)||(zL t.kind && !nameB t.name)
theorem form_bad {t:TyD} (h:badD t=true):formD t=false:=by
 unfold badD at h;unfold formD
 cases h1:decide (t=zV t) with
 | false=>simp
 | true =>
  rw[h1] at h;simp only[Bool.not_true,Bool.false_or,Bool.and_eq_true,Bool.not_eq_true'] at h;rw[h.1,h.2];simp
theorem form_good {t:TyD} (h1:1≤t.kind) (h9:t.kind≤9) (h:badD t=false):formD t=caseD t:=by
 unfold badD at h;unfold formD;simp only[Bool.or_eq_false_iff,Bool.not_eq_false'] at h;rw[h.1];have:(!zL t.kind||nameB t.name)=true:=by
  rcases Bool.and_eq_false_iff.1 h.2 with e|e
  ·rw[e];rfl
  ·simp only[Bool.not_eq_false'] at e;rw[e];simp
 rw[this];simp[h1,h9]
theorem own_any (t:TyD) (As:zo) (cs:Nat) (Am:zo) (cm:Nat) (w:World) (ht:TyR w t As Am) :
  Calls Tryz.prog 78 #[t.v As cs Am cm] w (SamePost (formD t) w):=by
 have HX:=zh ht;clear ht;have HTB:Hid (TBox (w.alloc (t.box As cs Am cm)) w.heap.size t As cs Am cm):=heap_alloc_new w (t.box As cs Am cm);have HB0:=zh (zD w (t.box As cs Am cm))
 by_cases hlo:t.kind<1
 ·have HD:=zh (form_out (t:=t) (.inl hlo))
  have d1:decide (t.kind<1)=true:=by simpa using hlo
  clear hlo
  go_enter Tryz.func78,Tryz.ntmps78
  go_wp2
  go_quiet (fail)
  go_wp2
  go_ret
  exact ⟨by rw[HD.out];rfl,zC (zD _ _) _⟩
 by_cases hhi:9<t.kind
 ·have HD:=zh (form_out (t:=t) (.inr hhi))
  have d1:decide (t.kind<1)=false:=by simpa using hlo
  have d2:decide (9<t.kind)=true:=by simpa using hhi
  clear hlo hhi
  go_enter Tryz.func78,Tryz.ntmps78
  go_wp2
  go_quiet (fail)
  go_wp2
  go_ret
  exact ⟨by rw[HD.out];rfl,zC (zD _ _) _⟩
 have d1:decide (t.kind<1)=false:=by simpa using hlo
 have d2:decide (9<t.kind)=false:=by simpa using hhi
 have h1:1≤t.kind:=by omega
 have h9:t.kind≤9:=by omega
 clear hlo hhi
 go_enter Tryz.func78,Tryz.ntmps78
 go_upto_region 1 with fail
 go_cut [28] (fun s28 wx=>s28 = .bool (badD t)∧Hid (TBox wx w.heap.size t As cs Am cm∧Below w.heap.size w wx))
 case first =>
  generalize w.alloc (t.box As cs Am cm)=wc at *;have HC0:=zh (tb_cells HTB.out HB0.out)
  cases hsame:decide (t=zV t) with
  | false =>
   have HSM:=zh hsame;have HBD:=zh (show badD t=true by unfold badD;rw[hsame];rfl)
   clear hsame
   refine wp_region_held_drew (S:=(fun w'=>(w'.cell? ⟨w.heap.size,0,none⟩=some (.int .i64 t.kind)∧w'.cell? ⟨w.heap.size,1,none⟩=some (.string t.name)∧w'.cell? ⟨w.heap.size,2,none⟩=some (.int .i64 t.low)∧w'.cell? ⟨w.heap.size,3,none⟩=some (.int .i64 t.high)∧w'.cell? ⟨w.heap.size,4,none⟩=some (.int .i64 t.max)∧w'.cell? ⟨w.heap.size,5,none⟩=some (.slice As t.syms.length cs)∧w'.cell? ⟨w.heap.size,6,none⟩=some (.slice Am t.mems.length cm)∧w'.cell? ⟨w.heap.size,7,none⟩=some (.int .i64 t.key)∧w'.cell? ⟨w.heap.size,8,none⟩=some (.int .i64 t.elem)∧w'.cell? ⟨w.heap.size,9,none⟩=some (.bool t.open_))∧Hid (TBox w' w.heap.size t As cs Am cm∧Below w.heap.size w w'))) (by kernel_rfl) ?_ (fun zH_=>?_)
   ·(try dsimp only);exact tb_cells (w':=wc.drew) HTB.out (zC HB0.out 1)
   refine tL 0 ?_;refine tL 1 ?_;refine tL 2 ?_;refine tL 3 ?_;refine tL 4 ?_;refine tL 5 ?_;try simp only[ps]
   refine tL 6 ?_;refine tL 7 ?_;refine tL 8 ?_;refine tL 9 ?_;refine tL 10 ?_;refine tR 11 (fun K hK=>?_)
   go_simp
   (refine (plain_any t h1 h9 As cs Am cm _).mono ?_;rintro e w3 ⟨Bs,ds,Bm,dm,rfl,hpl,hbx⟩)
   refine hK.out _ _ ?_ (fun zH_=>?_)
   ·(try dsimp only);exact tb_cells (tb_more zH_.2.out hbx).1 (tb_more zH_.2.out hbx).2
   clear hK K;try simp only[ps]
   refine tR 12 (fun K hK=>?_)
   go_simp
   (refine (sameType_any t (zV t) As cs Am cm Bs ds Bm dm _ (HX.out.below (zB zH_.2.out.2 (Below.refl _ _))) (plain_tyR (HX.out.below zH_.2.out.2) hpl)).mono ?_;rintro e w4 ⟨rfl,hbx⟩;rw[HSM.out])
   refine hK.out _ _ ?_ (fun zH_=>?_)
   ·(try dsimp only);exact tb_cells (tb_more zH_.2.out hbx).1 (tb_more zH_.2.out hbx).2
   clear hK K;refine tL 13 ?_;refine tL 14 ?_;refine tL 15 ?_;refine tU 16 ?_;refine tU 17 ?_;try simp only[ps]
   refine tU 18 ?_;refine tU 19 ?_;refine tU 20 ?_;refine tU 21 ?_;refine tU 22 ?_;refine tU 23 ?_;try simp only[ps]
   refine tU 24 ?_;refine tL 25 ?_;refine wpAnyH_done (by kernel_rfl) ?_ _
   have HEX:=zh zH_.2.out;clear zH_;go_wp2_with fail;go_meet;exact ⟨by rw[HBD.out];try rfl,HEX.out⟩
  | true =>
   have HSM:=zh hsame
   cases hnm:zL t.kind with
   | false =>
    have HNA:=zh hnm;have HBD:=zh (show badD t=false by unfold badD;rw[hsame,hnm];rfl)
    clear hsame hnm
    refine wp_region_held_drew (S:=(fun w'=>(w'.cell? ⟨w.heap.size,0,none⟩=some (.int .i64 t.kind)∧w'.cell? ⟨w.heap.size,1,none⟩=some (.string t.name)∧w'.cell? ⟨w.heap.size,2,none⟩=some (.int .i64 t.low)∧w'.cell? ⟨w.heap.size,3,none⟩=some (.int .i64 t.high)∧w'.cell? ⟨w.heap.size,4,none⟩=some (.int .i64 t.max)∧w'.cell? ⟨w.heap.size,5,none⟩=some (.slice As t.syms.length cs)∧w'.cell? ⟨w.heap.size,6,none⟩=some (.slice Am t.mems.length cm)∧w'.cell? ⟨w.heap.size,7,none⟩=some (.int .i64 t.key)∧w'.cell? ⟨w.heap.size,8,none⟩=some (.int .i64 t.elem)∧w'.cell? ⟨w.heap.size,9,none⟩=some (.bool t.open_))∧Hid (TBox w' w.heap.size t As cs Am cm∧Below w.heap.size w w'))) (by kernel_rfl) ?_ (fun zH_=>?_)
    ·(try dsimp only);exact tb_cells (w':=wc.drew) HTB.out (zC HB0.out 1)
    refine tL 0 ?_;refine tL 1 ?_;refine tL 2 ?_;refine tL 3 ?_;try simp only[ps]
    refine tL 4 ?_;refine tL 5 ?_;refine tL 6 ?_;refine tL 7 ?_;refine tL 8 ?_;refine tL 9 ?_;try simp only[ps]
    refine tL 10 ?_;refine tR 11 (fun K hK=>?_)
    go_simp
    (refine (plain_any t h1 h9 As cs Am cm _).mono ?_;rintro e w3 ⟨Bs,ds,Bm,dm,rfl,hpl,hbx⟩)
    refine hK.out _ _ ?_ (fun zH_=>?_)
    ·(try dsimp only);exact tb_cells (tb_more zH_.2.out hbx).1 (tb_more zH_.2.out hbx).2
    clear hK K;refine tR 12 (fun K hK=>?_)
    go_simp
    (refine (sameType_any t (zV t) As cs Am cm Bs ds Bm dm _ (HX.out.below (zB zH_.2.out.2 (Below.refl _ _))) (plain_tyR (HX.out.below zH_.2.out.2) hpl)).mono ?_;rintro e w4 ⟨rfl,hbx⟩;rw[HSM.out])
    refine hK.out _ _ ?_ (fun zH_=>?_)
    ·(try dsimp only);exact tb_cells (tb_more zH_.2.out hbx).1 (tb_more zH_.2.out hbx).2
    clear hK K;refine tL 13 ?_;refine tL 14 ?_;refine tL 15 ?_;try simp only[ps]
    refine tL 16 ?_;refine tL 17 ?_;refine tR 18 (fun K hK=>?_)
    go_simp
    (refine (rNamed_any _ _).mono ?_;rintro e w5 ⟨rfl,rfl⟩;rw[HNA.out])
    refine hK.out _ _ ?_ (fun zH_=>?_)
    ·(try dsimp only);exact zH_
    clear hK K;refine tL 19 ?_;refine tU 20 ?_;refine tU 21 ?_;try simp only[ps]
    refine tU 22 ?_;refine tU 23 ?_;refine tL 24 ?_;refine tL 25 ?_;refine wpAnyH_done (by kernel_rfl) ?_ _
    have HEX:=zh zH_.2.out;clear zH_;go_wp2_with fail;go_meet;exact ⟨by rw[HBD.out];try rfl,HEX.out⟩
   | true =>
    have HNA:=zh hnm;have HBD:=zh (show badD t = !nameB t.name by unfold badD;rw[hsame,hnm];simp)
    clear hsame hnm
    cases hn:nameB t.name with
    | false =>
     have HNM:=zh hn;rw[hn] at HBD;clear hn
     refine wp_region_held_drew (S:=(fun w'=>(w'.cell? ⟨w.heap.size,0,none⟩=some (.int .i64 t.kind)∧w'.cell? ⟨w.heap.size,1,none⟩=some (.string t.name)∧w'.cell? ⟨w.heap.size,2,none⟩=some (.int .i64 t.low)∧w'.cell? ⟨w.heap.size,3,none⟩=some (.int .i64 t.high)∧w'.cell? ⟨w.heap.size,4,none⟩=some (.int .i64 t.max)∧w'.cell? ⟨w.heap.size,5,none⟩=some (.slice As t.syms.length cs)∧w'.cell? ⟨w.heap.size,6,none⟩=some (.slice Am t.mems.length cm)∧w'.cell? ⟨w.heap.size,7,none⟩=some (.int .i64 t.key)∧w'.cell? ⟨w.heap.size,8,none⟩=some (.int .i64 t.elem)∧w'.cell? ⟨w.heap.size,9,none⟩=some (.bool t.open_))∧Hid (TBox w' w.heap.size t As cs Am cm∧Below w.heap.size w w'))) (by kernel_rfl) ?_ (fun zH_=>?_)
     ·(try dsimp only);exact tb_cells (w':=wc.drew) HTB.out (zC HB0.out 1)
     refine tL 0 ?_;refine tL 1 ?_;try simp only[ps]
     refine tL 2 ?_;refine tL 3 ?_;refine tL 4 ?_;refine tL 5 ?_;refine tL 6 ?_;refine tL 7 ?_;try simp only[ps]
     refine tL 8 ?_;refine tL 9 ?_;refine tL 10 ?_;refine tR 11 (fun K hK=>?_)
     go_simp
     (refine (plain_any t h1 h9 As cs Am cm _).mono ?_;rintro e w3 ⟨Bs,ds,Bm,dm,rfl,hpl,hbx⟩)
     refine hK.out _ _ ?_ (fun zH_=>?_)
     ·(try dsimp only);exact tb_cells (tb_more zH_.2.out hbx).1 (tb_more zH_.2.out hbx).2
     clear hK K;refine tR 12 (fun K hK=>?_)
     go_simp
     (refine (sameType_any t (zV t) As cs Am cm Bs ds Bm dm _ (HX.out.below (zB zH_.2.out.2 (Below.refl _ _))) (plain_tyR (HX.out.below zH_.2.out.2) hpl)).mono ?_;rintro e w4 ⟨rfl,hbx⟩;rw[HSM.out])
     refine hK.out _ _ ?_ (fun zH_=>?_)
     ·(try dsimp only);exact tb_cells (tb_more zH_.2.out hbx).1 (tb_more zH_.2.out hbx).2
     clear hK K;refine tL 13 ?_;try simp only[ps]
     refine tL 14 ?_;refine tL 15 ?_;refine tL 16 ?_;refine tL 17 ?_;refine tR 18 (fun K hK=>?_)
     go_simp
     (refine (rNamed_any _ _).mono ?_;rintro e w5 ⟨rfl,rfl⟩;rw[HNA.out])
     refine hK.out _ _ ?_ (fun zH_=>?_)
     ·(try dsimp only);exact zH_
     clear hK K;refine tL 19 ?_;try simp only[ps]
     refine tL 20 ?_;refine tL 21 ?_;refine tR 22 (fun K hK=>?_)
     go_simp
     (refine (zW _ HX.out.name _).mono ?_;rintro e w6 ⟨rfl,rfl⟩;rw[HNM.out])
     refine hK.out _ _ ?_ (fun zH_=>?_)
     ·(try dsimp only);exact zH_
     clear hK K;refine tL 23 ?_;refine tL 24 ?_;refine tL 25 ?_;try simp only[ps]
     refine wpAnyH_done (by kernel_rfl) ?_ _
     have HEX:=zh zH_.2.out;clear zH_;go_wp2_with fail;go_meet;exact ⟨by rw[HBD.out];try rfl,HEX.out⟩
    | true =>
     have HNM:=zh hn;rw[hn] at HBD;clear hn
     refine wp_region_held_drew (S:=(fun w'=>(w'.cell? ⟨w.heap.size,0,none⟩=some (.int .i64 t.kind)∧w'.cell? ⟨w.heap.size,1,none⟩=some (.string t.name)∧w'.cell? ⟨w.heap.size,2,none⟩=some (.int .i64 t.low)∧w'.cell? ⟨w.heap.size,3,none⟩=some (.int .i64 t.high)∧w'.cell? ⟨w.heap.size,4,none⟩=some (.int .i64 t.max)∧w'.cell? ⟨w.heap.size,5,none⟩=some (.slice As t.syms.length cs)∧w'.cell? ⟨w.heap.size,6,none⟩=some (.slice Am t.mems.length cm)∧w'.cell? ⟨w.heap.size,7,none⟩=some (.int .i64 t.key)∧w'.cell? ⟨w.heap.size,8,none⟩=some (.int .i64 t.elem)∧w'.cell? ⟨w.heap.size,9,none⟩=some (.bool t.open_))∧Hid (TBox w' w.heap.size t As cs Am cm∧Below w.heap.size w w'))) (by kernel_rfl) ?_ (fun zH_=>?_)
     ·(try dsimp only);exact tb_cells (w':=wc.drew) HTB.out (zC HB0.out 1)
     refine tL 0 ?_;refine tL 1 ?_;refine tL 2 ?_;refine tL 3 ?_;refine tL 4 ?_;refine tL 5 ?_;try simp only[ps]
     refine tL 6 ?_;refine tL 7 ?_;refine tL 8 ?_;refine tL 9 ?_;refine tL 10 ?_;refine tR 11 (fun K hK=>?_)
     go_simp
     (refine (plain_any t h1 h9 As cs Am cm _).mono ?_;rintro e w3 ⟨Bs,ds,Bm,dm,rfl,hpl,hbx⟩)
     refine hK.out _ _ ?_ (fun zH_=>?_)
     ·(try dsimp only);exact tb_cells (tb_more zH_.2.out hbx).1 (tb_more zH_.2.out hbx).2
     clear hK K;try simp only[ps]
     refine tR 12 (fun K hK=>?_)
     go_simp
     (refine (sameType_any t (zV t) As cs Am cm Bs ds Bm dm _ (HX.out.below (zB zH_.2.out.2 (Below.refl _ _))) (plain_tyR (HX.out.below zH_.2.out.2) hpl)).mono ?_;rintro e w4 ⟨rfl,hbx⟩;rw[HSM.out])
     refine hK.out _ _ ?_ (fun zH_=>?_)
     ·(try dsimp only);exact tb_cells (tb_more zH_.2.out hbx).1 (tb_more zH_.2.out hbx).2
     clear hK K;refine tL 13 ?_;refine tL 14 ?_;refine tL 15 ?_;refine tL 16 ?_;refine tL 17 ?_;try simp only[ps]
     refine tR 18 (fun K hK=>?_)
     go_simp
     (refine (rNamed_any _ _).mono ?_;rintro e w5 ⟨rfl,rfl⟩;rw[HNA.out])
     refine hK.out _ _ ?_ (fun zH_=>?_)
     ·(try dsimp only);exact zH_
     clear hK K;refine tL 19 ?_;refine tL 20 ?_;refine tL 21 ?_;refine tR 22 (fun K hK=>?_)
     go_simp
     (refine (zW _ HX.out.name _).mono ?_;rintro e w6 ⟨rfl,rfl⟩;rw[HNM.out])
     refine hK.out _ _ ?_ (fun zH_=>?_)
     ·(try dsimp only);exact zH_
     clear hK K;refine tL 23 ?_;try simp only[ps]
     refine tL 24 ?_;refine tL 25 ?_;refine wpAnyH_done (by kernel_rfl) ?_ _
     have HEX:=zh zH_.2.out;clear zH_;go_wp2_with fail;go_meet;exact ⟨by rw[HBD.out];try rfl,HEX.out⟩
 case rest =>
  obtain ⟨rfl,hx⟩:=hcut;have HEX:=zh hx.out;clear hx;have p0:=HEX.out.1.cell 0;have p2:=HEX.out.1.cell 2;have p3:=HEX.out.1.cell 3;have p4:=HEX.out.1.cell 4;have p5:=HEX.out.1.cell 5;have p6:=HEX.out.1.cell 6;simp only[List.getElem?_toArray,List.getElem?_cons_succ,List.getElem?_cons_zero] at p0 p2 p3 p4 p5 p6
  cases hbad:badD t with
  | true =>
   have HD:=zh (form_bad hbad);clear hbad;go_wp2;go_ret;exact ⟨by rw[HD.out];rfl,HEX.out.2⟩
  | false =>
   have HF:=zh (form_good h1 h9 hbad);clear hbad
   by_cases hk:t.kind=1
   ·have HD:=zh (show formD t=true by rw[HF.out];simp[caseD,hk])
    have q2:(t.kind==2)=false:=by simp[hk]
    have q3:(t.kind==3)=false:=by simp[hk]
    have q4:(t.kind==4)=false:=by simp[hk]
    have q5:(t.kind==5)=false:=by simp[hk]
    have q6:(t.kind==6)=false:=by simp[hk]
    have q7:(t.kind==7)=false:=by simp[hk]
    have q8:(t.kind==8)=false:=by simp[hk]
    clear hk;go_wp2;go_ret;exact ⟨by rw[HD.out];rfl,HEX.out.2⟩
   by_cases hk:t.kind=2
   ·have HD:=zh (show formD t=decide (t.low≤t.high) by rw[HF.out];simp[caseD,hk])
    have q2:(t.kind==2)=true:=by simp[hk]
    have q3:(t.kind==3)=false:=by simp[hk]
    have q4:(t.kind==4)=false:=by simp[hk]
    have q5:(t.kind==5)=false:=by simp[hk]
    have q6:(t.kind==6)=false:=by simp[hk]
    have q7:(t.kind==7)=false:=by simp[hk]
    have q8:(t.kind==8)=false:=by simp[hk]
    clear hk;go_wp2;go_ret;exact ⟨by rw[HD.out];rfl,HEX.out.2⟩
   by_cases hk:t.kind=3
   ·have HD:=zh (show formD t=(decide (0≤t.max)&&decide (t.max≤200)) by rw[HF.out];simp[caseD,hk])
    have q2:(t.kind==2)=false:=by simp[hk]
    have q3:(t.kind==3)=true:=by simp[hk]
    have q4:(t.kind==4)=false:=by simp[hk]
    have q5:(t.kind==5)=false:=by simp[hk]
    have q6:(t.kind==6)=false:=by simp[hk]
    have q7:(t.kind==7)=false:=by simp[hk]
    have q8:(t.kind==8)=false:=by simp[hk]
    clear hk
    by_cases g1:0≤t.max
    ·by_cases g2:t.max≤200
     ·go_wp2
      go_ret
      exact ⟨by rw[HD.out];simp[g1,g2],HEX.out.2⟩
     ·go_wp2
      go_ret
      exact ⟨by rw[HD.out];simp[g1,g2],HEX.out.2⟩
    ·go_wp2
     go_ret
     exact ⟨by rw[HD.out];simp;omega,HEX.out.2⟩
   by_cases hk:t.kind=4
   ·have HD:=zh (show formD t=symsD t.syms by rw[HF.out];simp[caseD,hk])
    have q2:(t.kind==2)=false:=by simp[hk]
    have q3:(t.kind==3)=false:=by simp[hk]
    have q4:(t.kind==4)=true:=by simp[hk]
    have q5:(t.kind==5)=false:=by simp[hk]
    have q6:(t.kind==6)=false:=by simp[hk]
    have q7:(t.kind==7)=false:=by simp[hk]
    have q8:(t.kind==8)=false:=by simp[hk]
    clear hk;go_wp2_with fail;refine (rSyms_any t.syms As cs _ (HX.out.syms.below HEX.out.2)).mono ?_;rintro e w9 ⟨rfl,hb9⟩;go_wp2;go_ret;exact ⟨by rw[HD.out];rfl,zB HEX.out.2 hb9⟩
   by_cases hk:t.kind=5
   ·have HD:=zh (show formD t=memsD true t.mems by rw[HF.out];simp[caseD,hk])
    have q2:(t.kind==2)=false:=by simp[hk]
    have q3:(t.kind==3)=false:=by simp[hk]
    have q4:(t.kind==4)=false:=by simp[hk]
    have q5:(t.kind==5)=true:=by simp[hk]
    have q6:(t.kind==6)=false:=by simp[hk]
    have q7:(t.kind==7)=false:=by simp[hk]
    have q8:(t.kind==8)=false:=by simp[hk]
    clear hk;go_wp2_with fail;refine (rMems_true t.mems Am cm _ (HX.out.mems.below HEX.out.2)).mono ?_;rintro e w9 ⟨rfl,hb9⟩;go_wp2;go_ret;exact ⟨by rw[HD.out];rfl,zB HEX.out.2 hb9⟩
   by_cases hk:t.kind=6
   ·have HD:=zh (show formD t=memsD false t.mems by rw[HF.out];simp[caseD,hk])
    have q2:(t.kind==2)=false:=by simp[hk]
    have q3:(t.kind==3)=false:=by simp[hk]
    have q4:(t.kind==4)=false:=by simp[hk]
    have q5:(t.kind==5)=false:=by simp[hk]
    have q6:(t.kind==6)=true:=by simp[hk]
    have q7:(t.kind==7)=false:=by simp[hk]
    have q8:(t.kind==8)=false:=by simp[hk]
    clear hk;go_wp2_with fail;refine (rMems_false t.mems Am cm _ (HX.out.mems.below HEX.out.2)).mono ?_;rintro e w9 ⟨rfl,hb9⟩;go_wp2;go_ret;exact ⟨by rw[HD.out];rfl,zB HEX.out.2 hb9⟩
   by_cases hk:t.kind=7
   ·have HD:=zh (show formD t=(decide (0≤t.max)&&decide (t.max≤50)) by rw[HF.out];simp[caseD,hk])
    have q2:(t.kind==2)=false:=by simp[hk]
    have q3:(t.kind==3)=false:=by simp[hk]
    have q4:(t.kind==4)=false:=by simp[hk]
    have q5:(t.kind==5)=false:=by simp[hk]
    have q6:(t.kind==6)=false:=by simp[hk]
    have q7:(t.kind==7)=true:=by simp[hk]
    have q8:(t.kind==8)=false:=by simp[hk]
    clear hk
    by_cases g1:0≤t.max
    ·by_cases g2:t.max≤50
     ·go_wp2
      go_ret
      exact ⟨by rw[HD.out];simp[g1,g2],HEX.out.2⟩
     ·go_wp2
      go_ret
      exact ⟨by rw[HD.out];simp[g1,g2],HEX.out.2⟩
    ·go_wp2
     go_ret
     exact ⟨by rw[HD.out];simp;omega,HEX.out.2⟩
   by_cases hk:t.kind=8
   ·have HD:=zh (show formD t=(decide (0≤t.max)&&decide (t.max≤50)) by rw[HF.out];simp[caseD,hk])
    have q2:(t.kind==2)=false:=by simp[hk]
    have q3:(t.kind==3)=false:=by simp[hk]
    have q4:(t.kind==4)=false:=by simp[hk]
    have q5:(t.kind==5)=false:=by simp[hk]
    have q6:(t.kind==6)=false:=by simp[hk]
    have q7:(t.kind==7)=false:=by simp[hk]
    have q8:(t.kind==8)=true:=by simp[hk]
    clear hk
    by_cases g1:0≤t.max
    ·by_cases g2:t.max≤50
     ·go_wp2
      go_ret
      exact ⟨by rw[HD.out];simp[g1,g2],HEX.out.2⟩
     ·go_wp2
      go_ret
      exact ⟨by rw[HD.out];simp[g1,g2],HEX.out.2⟩
    ·go_wp2
     go_ret
     exact ⟨by rw[HD.out];simp;omega,HEX.out.2⟩
   by_cases hk:t.kind=9
   ·have HD:=zh (show formD t=true by rw[HF.out];simp[caseD,hk])
    have q2:(t.kind==2)=false:=by simp[hk]
    have q3:(t.kind==3)=false:=by simp[hk]
    have q4:(t.kind==4)=false:=by simp[hk]
    have q5:(t.kind==5)=false:=by simp[hk]
    have q6:(t.kind==6)=false:=by simp[hk]
    have q7:(t.kind==7)=false:=by simp[hk]
    have q8:(t.kind==8)=false:=by simp[hk]
    clear hk;go_wp2;go_ret;exact ⟨by rw[HD.out];rfl,HEX.out.2⟩
   exfalso;omega
end Go.Proofs.YtdfolgmcggdjdaaGreatDoor


