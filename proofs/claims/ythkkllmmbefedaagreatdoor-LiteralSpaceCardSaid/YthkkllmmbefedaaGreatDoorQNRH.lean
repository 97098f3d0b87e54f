/-
  Walks: the literal's reader: union, by name.
-/
import Derived.Test.YthkkllmmbefedaaGreatDoorQGC0
namespace Go.Proofs.YthkkllmmbefedaaGreatDoor
open Go.RowKit
set_option maxHeartbeats 16000000
set_option maxRecDepth 100000
theorem union_name {C:RCx} {W0:World} {p:Nat} {x:TyD} {As:zo} {cs:Nat} {Am:zo} {cm:Nat} {n:Nat} (ih:ReadAt C n) {W:World} {r:List TokD} {k:Bool} (ht:TyR C.w0 x As Am) (h:FlS C W0 p x.kind W r k 0 0 nilS nilS nilS [] [] []) (hn:r.length≤n)
  (he:∀y∈x.mems,0≤y.type∧y.type<(C.s.length:Int)) (hat:isP ⟨#[64]⟩ r=false) :
  Calls Tryz.prog 125 #[.pointer (some ⟨C.b,0,none⟩),x.v As cs Am cm,.pointer (some ⟨p,0,none⟩)] W fun y W'=>y = .returned (.tuple #[])∧FillP C W0 p x.kind r (uniV x.kind (uniP false (valR false C.s) x r k)) W':=by
 have HF1:=zh (h.below (zD W (x.box As cs Am cm)));have HX1:=zh (heap_alloc_new W (x.box As cs Am cm));have HXB:Hid (W.heap.size≠C.b):=by have:=h.rd.lt;show _≠_;omega
 have HLB:=zh h.bp;have HTY:=zh ht;have HIH:=zh ih;have HEL:=zh he;have HN:=zh hn;have HI:=zh hat;have HP0:Hid (uniP false (valR false C.s) x r k=(tkP 1 r).bind fun p =>
  match x.mems.find? fun y=>decide (y.name=p.1.text) with
  | none => .error 4
  | some y=>(syP ⟨#[40]⟩ p.2).bind fun l2=>(valR false C.s y.type l2 k).bind fun q=>(syP ⟨#[41]⟩ q.2.1).bind fun l4 => .ok ((y.id,[q.1],[]),l4,q.2.2)):=by
  show _=_
  unfold uniP;rw[if_neg (by rw[hat];simp)]
  rfl
 clear h hat ih he hn ht
 go_enter Tryz.func125,Tryz.ntmps125
 go_upto_region 1 with fail
 generalize W.alloc (x.box As cs Am cm)=W1 at *;go_wp2_with fail;refine (zX ⟨#[64]⟩ HF1.out.rd).mono ?_;rintro y w2 ⟨rfl,hb2⟩;rw[HI.out];have HF2:=zh (HF1.out.below hb2);have HX2:=zh (nblk HX1.out hb2);clear hb2;go_upto_region 10 with fail
 go_cut [6] (fun s wx=>∃tb t0 r1 e1,s = .pointer (some ⟨tb,0,none⟩)∧Hid (FlS C W0 p x.kind wx r1 k e1 0 nilS nilS nilS [] [] []∧wx.heap[W.heap.size]? = some (x.box As cs Am cm)∧wx.heap[tb]? = some (tkO t0)∧TkQ 1 r t0 r1 e1))
 case first =>
  go_wp2_with (go_at_call 122;refine (nrTake_any 1 HF2.out.rd).mono ?_;intro y w3 h3;obtain ⟨t0,r1,e1,rfl,g1,g2,g3⟩:=tkQ_of h3;have HF3:=zh (HF2.out.bsd g1 g2);have HX3:=zh (keep_blk HX2.out g1 HXB.out);have HQ3:=zh g3;clear h3 g1 g2 g3)
  go_meet
  exact ⟨_,t0,r1,e1,rfl,HF3.out.below (zD _ _),nblk HX3.out (zD _ _),heap_alloc_new _ _,HQ3.out⟩
 case rest =>
 obtain ⟨W3,rfl⟩:∃W:World,W=wc:=⟨_,rfl⟩;obtain ⟨tb,t0,r1,e1,rfl,h3⟩:=hcut;have HF3:=zh h3.out.1;have HX3:=zh h3.out.2.1;have HB3:=zh h3.out.2.2.1;have HQ3:=zh h3.out.2.2.2;clear h3 HF1 HF2 HX1 HX2;have rz:=HF3.out.rd.zero
 by_cases hz:e1=0
 case neg =>
  have q1:(e1 != 0)=true:=by simp[hz]
  have HP:Hid (uniV x.kind (uniP false (valR false C.s) x r k) = .error e1):=by
   show _=_
   have ht:=HQ3.out.tk;rw[HP0.out]
   cases hk:tkP 1 r with
   | error e2=>rw[hk] at ht;rw[ht.1];rfl
   | ok q=>rw[hk] at ht;exact absurd ht.2.2.1 hz
  clear hz;go_wp2;refine bodyPost_ret (results_none Tryz.results125 _ _ _) rfl ⟨rfl,fill_err HF3.out HQ3.out.1.1 z3 HP.out⟩
 subst hz;obtain ⟨HP,HLT⟩:Hid (uniP false (valR false C.s) x r k=match x.mems.find? fun y=>decide (y.name=t0.text) with
  | none => .error 4
  | some y=>(syP ⟨#[40]⟩ r1).bind fun l2=>(valR false C.s y.type l2 k).bind fun q=>(syP ⟨#[41]⟩ q.2.1).bind fun l4 => .ok ((y.id,[q.1],[]),l4,q.2.2))∧Hid (r1.length<r.length):=by
  have ht:=HQ3.out.tk
  cases hk:tkP 1 r with
  | error e2=>rw[hk] at ht;exact absurd rfl ht.2
  | ok q =>
   rw[hk] at ht;refine ⟨?_,ht.2.2.2⟩
   show _=_
   rw[HP0.out,hk,zM,←ht.1,←ht.2.1]
 have x6:W3.cell? ⟨W.heap.size,6,none⟩=some (.slice Am x.mems.length cm):=by rw[cell_of_row _ _ _ _ _ _ HX3.out];rfl
 have hln:=HTY.out.mems.1;unfold Lim at hln;have hln2:(x.mems.length:Int)≤1000000000000000:=by omega
 clear HQ3 HP0 hln;go_wp2
 go_loopw [65] (fun a wr=>∃i:Nat,i≤x.mems.length∧a = .int .i64 (i:Int)∧Hid (Below W3.heap.size W3 wr∧∀j (hj:j<x.mems.length),j<i→decide ((x.mems[j]).name=t0.text)=false)) (fun a _=>x.mems.length - (intOf a).toNat)
 case atStart=>exact ⟨0,by omega,rfl,Below.refl _ _,fun j _ h=>absurd h (by omega)⟩
 case round =>
  obtain ⟨i,hi,rfl,hh⟩:=hrel;have HB:=zh hh.out.1;have HNO:=zh hh.out.2;clear hh
  by_cases hlt:i<x.mems.length
  ·obtain ⟨mb,mo,M1,m1,M2,m2,M3,m3,rfl,hmr,a0,a1,a2,a3,a4,a5,a6,a7,a8,a9,a10,a11,a12⟩:=(HTY.out.mems.below (HF3.out.below HB.out).rd.up).at13 hlt
   have HME:=zh (HEL.out _ (List.getElem_mem hlt));obtain ⟨⟨_,n1,_,_,_⟩,_⟩:=five_cells (nblk HB3.out HB.out);have h1:(0:Int)≤(i:Int):=by omega
   have h2:(i:Int)<(x.mems.length:Int):=by omega
   have htb:=zL n1;simp only at htb;clear hmr;have HFA:Hid (decide ((x.mems[i]).name=t0.text)=true→x.mems.find? (fun y=>decide (y.name=t0.text))=some x.mems[i]):=fun h=>find_atL (p:=fun y=>decide (y.name=t0.text)) x.mems i hlt h HNO.out
   have HNX:Hid (decide ((x.mems[i]).name=t0.text)=false→∀j (hj:j<x.mems.length),j<i+1→decide ((x.mems[j]).name=t0.text)=false):=fun hd j hj hji=>by
    by_cases e:j=i
    ·subst e;exact hd
    ·exact HNO.out j hj (by omega)
   generalize x.mems[i]=m at *
   by_cases hnm:m.name=t0.text
   case neg =>
    have q2:(m.name.toList != t0.text.toList)=true:=by simp only[bne,bytes_beq,decide_eq_false hnm,Bool.not_false]
    have HN1:=zh (HNX.out (decide_eq_false hnm));have q3:(m.name.toList==t0.text.toList)=false:=by rw[bytes_beq];exact decide_eq_false hnm
    clear hnm;go_wp2;go_roundw
    case rel=>exact ⟨i+1,by omega,by go_num,zB HB.out (zD _ _),HN1.out⟩
    case measure=>simp[intOf];omega
   have q2:(m.name.toList==t0.text.toList)=true:=by rw[bytes_beq];exact decide_eq_true hnm
   have HPM:Hid (uniP false (valR false C.s) x r k=(syP ⟨#[40]⟩ r1).bind fun l2=>(valR false C.s m.type l2 k).bind fun q=>(syP ⟨#[41]⟩ q.2.1).bind fun l4 => .ok ((m.id,[q.1],[]),l4,q.2.2)):=by
    show _=_
    rw[HP.out,HFA.out (decide_eq_true hnm)]
   clear hnm;have HFR:=zh ((HF3.out.below HB.out).below (zD wr (m.box M1 m1 M2 m2 M3 m3)));have HXR:Hid ((wr.alloc (m.box M1 m1 M2 m2 M3 m3)).heap[wr.heap.size]? = some (m.box M1 m1 M2 m2 M3 m3)):=heap_alloc_new wr _;obtain ⟨⟨_,_,_,_,c4,_,_,_⟩,cf⟩:=HFR.out.vb.cells;have f4:=cf 4
   have HWB:Hid (wr.heap.size≠C.b∧wr.heap.size≠p):=by have h3:=(HF3.out.below HB.out).rd.lt;have h4:=(HF3.out.below HB.out).vb.lt;exact ⟨by omega,by omega⟩
   clear cf;go_upto_region 17 with fail
   clear c4 f4;have HF5:=zh (HFR.out.setD m.id);have HX5:=zh ((heap_setCell_other (wr.alloc (m.box M1 m1 M2 m2 M3 m3)) ⟨p,4,none⟩ wr.heap.size (.int .i64 m.id) HWB.out.2).trans HXR.out);clear a0 a1 a2 a3 a4 a5 a6 a7 a8 a9 a10 a11 a12 n1 htb rz x6 q2;generalize World.setCell (World.alloc wr _) _ _=W5 at *;go_wp2_with fail;refine (nrSym_any ⟨#[40]⟩ HF5.out.rd).mono ?_
   intro y w4 h4
   obtain rfl:=h4.1;obtain ⟨hb4,r2,e2,hr4,hs4⟩:=syQ_of h4;have HF4:=zh (HF5.out.bsd hb4 hr4);have HX4:=zh (keep_blk HX5.out hb4 HWB.out.1);have HS4:=zh hs4;have x2:w4.cell? ⟨wr.heap.size,2,none⟩=some (.int .i64 m.type):=by rw[cell_of_row _ _ _ _ _ _ HX4.out];rfl
   clear h4 hb4 hr4 hs4;go_wp2_with fail;refine (HIH.out m.type _ r2 k e2 (by have:=HS4.out.1;have:=HLT.out;have:=HN.out;omega) HME.out HF4.out.rd).mono ?_
   rintro y w5 ⟨xa,rfl,g1,g2,r5,k5,e5,g3,g4,g5,g6⟩;have HF6:=zh (HF4.out.one g2 g3 g1);have HV5:=zh (HF4.out.bsd g2 g3);have HG4:=zh g4;have HFIN:Hid (∀W' r7 e7,FlS C W0 p x.kind W' r7 k5 e7 m.id nilS (.slice (some ⟨w5.heap.size,0,none⟩) 1 1) nilS [] [xa] []→SyQ ⟨#[41]⟩ r5 e5 r7 e7→FillP C W0 p x.kind r (uniV x.kind (uniP false (valR false C.s) x r k)) W'):=fun W' r7 e7 j1 j2=>by
    have hu:=uni_arm (valR_nz false C.s) (id:=m.id) (ty:=m.type) HS4.out (k:=k) g5 g6 j2;have hl:r7.length≤r.length:=by have:=j2.1;have:=HG4.out;have:=HS4.out.1;have:=HLT.out;omega
    rw[HPM.out]
    revert hu
    cases ((syP ⟨#[40]⟩ r1).bind fun l2=>(valR false C.s m.type l2 k).bind fun q=>(syP ⟨#[41]⟩ q.2.1).bind fun l4 => .ok ((m.id,[q.1],[]),l4,q.2.2):PR (Int×List Val×List RawD)) with
    | error e=>exact fun hu=>fill_err j1 hl ⟨by simp,by simp,by simp⟩ (by rw[uniV_err];exact congrArg _ hu.symm)
    | ok z =>
     obtain ⟨⟨a,b,c⟩,l,k'⟩:=z
     intro hu
     obtain ⟨j3,j4,j5,j6⟩:=hu
     injection j3 with j3 j7
     injection j7 with j7 j8
     subst j3 j4 j5 j6 j7 j8;rw[uniV_ok];exact fill_ok j1 hl ⟨by simp,by simp,by simp⟩ rfl rfl
   obtain ⟨⟨_,_,_,_,_,_,c6,_⟩,cf⟩:=(HV5.out.vb.below (zD w5 (.cells xa.cells.toArray 28))).cells;have f6:=cf 6;clear g1 g2 g3 g4 g5 g6 cf;unfold VaA.cells Val.cs at HF6 c6 f6;go_upto_region 19 with fail
   clear c6 f6;generalize World.setCell (World.alloc w5 _) _ _=W6 at *;have rz:=HF6.out.rd.zero
   by_cases hz:e5=0
   ·have q1:(e5==0)=true:=by simp[hz]
    subst hz;clear rz;have rz:=HF6.out.rd.zero;go_wp2_with fail;refine (nrSym_any ⟨#[41]⟩ HF6.out.rd).mono ?_
    intro y w8 h8
    obtain rfl:=h8.1;obtain ⟨hb8,r4,e4,hr8,hs8⟩:=syQ_of h8;have HF8:=zh (HF6.out.bsd hb8 hr8);have HS8:=zh hs8;clear h8 hb8 hr8 hs8;go_wp2;refine bodyPost_ret (results_none Tryz.results125 _ _ _) rfl ⟨rfl,HFIN.out _ _ _ HF8.out HS8.out⟩
   ·have q1:(e5==0)=false:=by simp[hz]
    have HE:=zh hz;clear hz;go_wp2;refine bodyPost_ret (results_none Tryz.results125 _ _ _) rfl ⟨rfl,HFIN.out _ _ _ HF6.out (syQ_no HE.out)⟩
  ·have HFI:Hid (uniV x.kind (uniP false (valR false C.s) x r k) = .error 4):=by
    show _=_
    rw[HP.out,find_noL (p:=fun y=>decide (y.name=t0.text)) fun j hj=>HNO.out j hj (by omega)]
    rfl
   have h2:¬ (i:Int)<(x.mems.length:Int):=by omega
   go_wp2_with fail
   refine (nrFail_any 4 (HF3.out.below HB.out).rd).mono ?_;rintro y w6 ⟨rfl,g1,g2⟩;have HF6:=zh ((HF3.out.below HB.out).bsd g2 g1);clear g1 g2;go_wp2;refine bodyPost_end (results_none Tryz.results125 _ _ _) rfl ⟨rfl,fill_err HF6.out (Nat.le_of_lt HLT.out) z3 HFI.out⟩
theorem union_any {C:RCx} {W0:World} {p:Nat} {x:TyD} {As:zo} {cs:Nat} {Am:zo} {cm:Nat} {n:Nat} (ih:ReadAt C n) {W:World} {r:List TokD} {k:Bool} (ht:TyR C.w0 x As Am) (h:FlS C W0 p x.kind W r k 0 0 nilS nilS nilS [] [] []) (hn:r.length≤n)
  (he:∀y∈x.mems,0≤y.type∧y.type<(C.s.length:Int)) :
  Calls Tryz.prog 125 #[.pointer (some ⟨C.b,0,none⟩),x.v As cs Am cm,.pointer (some ⟨p,0,none⟩)] W fun y W'=>y = .returned (.tuple #[])∧FillP C W0 p x.kind r (uniV x.kind (uniP false (valR false C.s) x r k)) W':=by
 cases hat:isP ⟨#[64]⟩ r with
 | true=>exact union_at h hat
 | false=>exact union_name ih ht h hn he hat
end Go.Proofs.YthkkllmmbefedaaGreatDoor


