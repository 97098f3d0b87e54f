/-
  Walks: types that are alike, in the reference (written by gen_ra.py).
-/
import Derived.Test.YtkhpajneinmmiaaGreatDoorQEQ6
import Derived.Test.YtkhpajneinmmiaaGreatDoorQSC7
import Derived.Test.YtkhpajneinmmiaaGreatDoorQRV2
import Derived.BigRegion
namespace Go.Proofs.YtkhpajneinmmiaaGreatDoor
open Go.RowKit
set_option maxHeartbeats 16000000
set_option maxRecDepth 100000
theorem alike_lens {names:Bool} {x y:TyD} (h:x.syms.length≠y.syms.length):zM names x y=false:=alike_syms (allEq_len _ _ _ h)
theorem alike_lenm {names:Bool} {x y:TyD} (h:x.mems.length≠y.mems.length):zM names x y=false:=alike_mems (allEq_len _ _ _ h)
theorem alike_sym {names:Bool} {x y:TyD} {k:Nat} (h1:k<x.syms.length) (h2:k<y.syms.length) (h:symEq names x.syms[k] y.syms[k]=false):zM names x y=false:=alike_syms (allEq_no _ _ _ k h1 h2 h)
theorem alike_mem {names:Bool} {x y:TyD} {k:Nat} (h1:k<x.mems.length) (h2:k<y.mems.length) (h:memEq names x.mems[k] y.mems[k]=false):zM names x y=false:=alike_mems (allEq_no _ _ _ k h1 h2 h)
theorem two_boxes (w:World) (m n:MemD) (A1:Option Addr) (c1:Nat) (A2:Option Addr) (c2:Nat) (A3:Option Addr) (c3:Nat) (B1:Option Addr) (d1:Nat) (B2:Option Addr) (d2:Nat) (B3:Option Addr) (d3:Nat):MBox ((w.alloc (m.box A1 c1 A2 c2 A3 c3)).alloc (n.box B1 d1 B2 d2 B3 d3)) w.heap.size m A1 c1 A2 c2 A3 c3∧MBox ((w.alloc (m.box A1 c1 A2 c2 A3 c3)).alloc (n.box B1 d1 B2 d2 B3 d3)) (w.heap.size+1) n B1 d1 B2 d2 B3 d3:=by
 refine ⟨yG (heap_alloc_new w _) _,?_⟩
 have h:=heap_alloc_new (w.alloc (m.box A1 c1 A2 c2 A3 c3)) (n.box B1 d1 B2 d2 B3 d3)
 rw[show (w.alloc (m.box A1 c1 A2 c2 A3 c3)).heap.size=w.heap.size+1 by simp] at h
 exact h
theorem rAlike_false (x y:TyD) (As:Option Addr) (cs:Nat) (Am:Option Addr) (cm:Nat) (Bs:Option Addr) (ds:Nat) (Bm:Option Addr) (dm:Nat) (w:World) (hx:TyR w x As Am) (hy:TyR w y Bs Bm)
  (e1:(x.kind != y.kind)=false) (e2:(x.low != y.low)=false) (e3:(x.high != y.high)=false) (e4:(x.max != y.max)=false) (e5:(x.open_==y.open_)=true) (q6:x.syms.length=y.syms.length) (q7:x.mems.length=y.mems.length)
  (hq:x.kind=y.kind∧x.low=y.low∧x.high=y.high∧x.max=y.max∧x.open_=y.open_∧(false=true→x.name=y.name)) :
  Calls Tryz.prog 58 #[x.v As cs Am cm,y.v Bs ds Bm dm,.bool false] w (SamePost (zM false x y) w):=by
 have hns:=hx.syms.1.lt (by omega)
 have hnm:=hx.mems.1.lt (by omega)
 have HX:=zh hx
 have HY:=zh hy
 have HES:=zh q6
 have HEM:=zh q7
 have HAY:=zh (fun hs=>alike_yes (names:=false) (x:=x) (y:=y) hq hs)
 have HV:Hid (y.v Bs ds Bm dm=y.vn x.syms.length x.mems.length Bs ds Bm dm):=by show _=_;rw[HES.out,HEM.out]
 rw[HV.out]
 have e6:((x.syms.length:Int) != (x.syms.length:Int))=false:=by simp
 have e7:((x.mems.length:Int) != (x.mems.length:Int))=false:=by simp
 clear hx hy q6 q7 hq HV
 go_enter Tryz.func58,Tryz.ntmps58
 go_wp2
 go_loopw [7] (fun i wr=>∃k:Nat,k≤x.syms.length∧i = .int .i64 k∧Hid (∀j (h1:j<x.syms.length) (h2:j<y.syms.length),j<k→symEq false x.syms[j] y.syms[j]=true)∧Hid (Below (World.heap ((w.alloc (x.box As cs Am cm)).alloc (y.boxn x.syms.length x.mems.length Bs ds Bm dm))).size ((w.alloc (x.box As cs Am cm)).alloc (y.boxn x.syms.length x.mems.length Bs ds Bm dm)) wr)) (fun i _=>x.syms.length - (intOf i).toNat)
 case atStart=>exact ⟨0,by omega,rfl,(fun j _ _ h=>absurd h (by omega)),Below.refl _ _⟩
 case round =>
  obtain ⟨k,hk,rfl,htk,hbw⟩:=hrel
  obtain ⟨wo,rfl⟩:∃wo:World,wo=wr:=⟨_,rfl⟩
  have hc:=bcell hbw.out
  have HB:=zh (zG hbw.out)
  have hz0:=hbw.out.size
  simp at hz0
  have hz1:w.heap.size<wo.heap.size:=by omega
  have hz2:w.heap.size+1<wo.heap.size:=by omega
  clear hz0
  have f5:wo.cell? ⟨w.heap.size,5,none⟩=some (.slice As x.syms.length cs):=by rw[hc w.heap.size 5 (by simp;omega)];go_simp
  have g5:wo.cell? ⟨w.heap.size+1,5,none⟩=some (.slice Bs x.syms.length ds):=by rw[hc (w.heap.size+1) 5 (by simp)];go_simp
  have f6:wo.cell? ⟨w.heap.size,6,none⟩=some (.slice Am x.mems.length cm):=by rw[hc w.heap.size 6 (by simp;omega)];go_simp
  have g6:wo.cell? ⟨w.heap.size+1,6,none⟩=some (.slice Bm x.mems.length dm):=by rw[hc (w.heap.size+1) 6 (by simp)];go_simp
  have HF6:=zh f6
  have HG6:=zh g6
  clear hc
  by_cases hlt:k<x.syms.length
  ·have hlt':k<y.syms.length:=by have:=HES.out;omega
   obtain ⟨b,o,rfl,_,a0,a1⟩:=(HX.out.syms.below HB.out).at2 hlt
   obtain ⟨b',o',rfl,_,b0,b1⟩:=(HY.out.syms.below HB.out).at2 hlt'
   have h1:(0:Int)≤(k:Int):=by omega
   have h2:(k:Int)<(x.syms.length:Int):=by omega
   cases he:symEq false x.syms[k] y.syms[k] with
   | true =>
    have HT:=zh he
    have hid:((x.syms[k]).id != (y.syms[k]).id)=false:=by unfold symEq at he;simp only[Bool.and_eq_true,decide_eq_true_eq] at he;simp[he.1]
    have tok:True:=trivial
    clear he
    go_wp2
    go_quiet (fail)
    go_wp2
    go_roundw
    case rel =>
     refine ⟨k+1,by omega,by go_num,(fun j g1 g2 hj=>?_),zE hbw.out _⟩
     by_cases e:j=k
     ·subst e;exact HT.out
     ·exact htk.out j g1 g2 (by omega)
    case measure=>simp[intOf];omega
   | false =>
    have HD:=zh (alike_sym (names:=false) hlt hlt' he)
    by_cases hi:(x.syms[k]).id=(y.syms[k]).id
    ·exfalso;unfold symEq at he;simp[hi] at he
    ·have hid:((x.syms[k]).id != (y.syms[k]).id)=true:=by simp[hi]
     clear he hi
     go_wp2
     go_quiet (fail)
     go_wp2
     go_ret
     exact ⟨by rw[HD.out];rfl,zE HB.out _⟩
  ·have HAS:=zh (allEq_yes (symEq false) x.syms y.syms HES.out fun k h1 h2=>htk.out k h1 h2 (by omega))
   go_wp2
   go_loopw [8] (fun i wr=>∃j:Nat,j≤x.mems.length∧i = .int .i64 j∧Hid (∀q (h1:q<x.mems.length) (h2:q<y.mems.length),q<j→memEq false x.mems[q] y.mems[q]=true)∧Hid (Below wo.heap.size wo wr)) (fun i _=>x.mems.length - (intOf i).toNat)
   case atStart=>exact ⟨0,by omega,rfl,(fun q _ _ h=>absurd h (by omega)),Below.refl _ _⟩
   case round =>
    obtain ⟨j,hj,rfl,htj,hbj⟩:=hrel
    have k6:wr.cell? ⟨w.heap.size,6,none⟩=some (.slice Am x.mems.length cm):=zB hbj.out HF6.out
    have l6:wr.cell? ⟨w.heap.size+1,6,none⟩=some (.slice Bm x.mems.length dm):=zB hbj.out HG6.out
    have HBJ:=zh (zA HB.out hbj.out)
    clear f5 g5 f6 g6
    by_cases hlm:j<x.mems.length
    ·have hlm':j<y.mems.length:=by have:=HEM.out;omega
     obtain ⟨b,o,A1,c1,A2,c2,A3,c3,rfl,hr1,a0,a1,a2,a3,a4,a5,a6,a7,a8,a9,a10,a11,a12⟩:=(HX.out.mems.below HBJ.out).at13 hlm
     obtain ⟨b',o',B1,d1,B2,d2,B3,d3,rfl,hr2,b0,b1,b2,b3,b4,b5,b6,b7,b8,b9,b10,b11,b12⟩:=(HY.out.mems.below HBJ.out).at13 hlm'
     have h1:(0:Int)≤(j:Int):=by omega
     have h2:(j:Int)<(x.mems.length:Int):=by omega
     have HR1:=zh hr1
     have HR2:=zh hr2
     have HST:=zh (fun h=>alike_mem (names:=false) (x:=x) (y:=y) hlm hlm' h)
     clear hr1 hr2
     have z1:=zF a0
     have z2:=zF b0
     have z3:=zF k6
     have z4:=zF l6
     simp only at z1 z2 z3 z4
     go_upto_region 13 with fail
     go_cut [9,10] (fun s9 s10 wx=>∃p9 p10:Nat,s9 = .pointer (some ⟨p9,0,none⟩)∧s10 = .pointer (some ⟨p10,0,none⟩)∧Hid (MBox wx p9 x.mems[j] A1 c1 A2 c2 A3 c3∧MBox wx p10 y.mems[j] B1 d1 B2 d2 B3 d3∧Below wr.heap.size wr wx))
     case first =>
      as_aux_lemma =>
      go_region
      all_goals (go_wp2_with fail;go_meet;first|exact ⟨wr.heap.size,wr.heap.size+1,rfl,rfl,(two_boxes wr _ _ _ _ _ _ _ _ _ _ _ _ _ _).1,(two_boxes wr _ _ _ _ _ _ _ _ _ _ _ _ _ _).2,zE (zC _ _ _) 1⟩|exact ⟨wr.heap.size+1,wr.heap.size,rfl,rfl,(two_boxes wr _ _ _ _ _ _ _ _ _ _ _ _ _ _).2,(two_boxes wr _ _ _ _ _ _ _ _ _ _ _ _ _ _).1,zE (zC _ _ _) 1⟩)
     case rest =>
     obtain ⟨p9,p10,rfl,rfl,hcx⟩:=hcut
     clear a0 a1 a2 a3 a4 a5 a6 a7 a8 a9 a10 a11 a12 b0 b1 b2 b3 b4 b5 b6 b7 b8 b9 b10 b11 b12 k6 l6
     have HM9:=zh hcx.out.1
     have HM10:=zh hcx.out.2.1
     have HBX:=zh hcx.out.2.2
     clear hcx z1 z2 z3 z4
     have u0:=HM9.out.cell 0
     have u1:=HM9.out.cell 1
     have u2:=HM9.out.cell 2
     have u3:=HM9.out.cell 3
     have u4:=HM9.out.cell 4
     have u5:=HM9.out.cell 5
     have u6:=HM9.out.cell 6
     have u7:=HM9.out.cell 7
     have u8:=HM9.out.cell 8
     have u9:=HM9.out.cell 9
     have u10:=HM9.out.cell 10
     have u11:=HM9.out.cell 11
     have u12:=HM9.out.cell 12
     have v0:=HM10.out.cell 0
     have v1:=HM10.out.cell 1
     have v2:=HM10.out.cell 2
     have v3:=HM10.out.cell 3
     have v4:=HM10.out.cell 4
     have v5:=HM10.out.cell 5
     have v6:=HM10.out.cell 6
     have v7:=HM10.out.cell 7
     have v8:=HM10.out.cell 8
     have v9:=HM10.out.cell 9
     have v10:=HM10.out.cell 10
     have v11:=HM10.out.cell 11
     have v12:=HM10.out.cell 12
     simp only[List.getElem?_toArray,List.getElem?_cons_succ,List.getElem?_cons_zero] at u0 u1 u2 u3 u4 u5 u6 u7 u8 u9 u10 u11 u12 v0 v1 v2 v3 v4 v5 v6 v7 v8 v9 v10 v11 v12
     have HBD:=zh (zA HBJ.out HBX.out)
     have HBD2:=zh (zA hbj.out HBX.out)
     have HRD1:=zh (HR1.out.below HBX.out)
     have HRD2:=zh (HR2.out.below HBX.out)
     by_cases m0:(x.mems[j]).id=(y.mems[j]).id
     case neg =>
      have HD:=zh (HST.out (by simp[memEq,m0]))
      have r0:((x.mems[j]).id != (y.mems[j]).id)=true:=by simp[m0]
      clear m0 HST
      go_wp2
      go_ret
      exact ⟨by rw[HD.out];rfl,HBD.out⟩
     have r0:((x.mems[j]).id != (y.mems[j]).id)=false:=by simp[m0]
     by_cases m1:(x.mems[j]).critical=(y.mems[j]).critical
     case neg =>
      have HD:=zh (HST.out (by simp[memEq,m1]))
      have r1:((x.mems[j]).critical==(y.mems[j]).critical)=false:=by simp[m1]
      have p1:¬ (x.mems[j]).critical=(y.mems[j]).critical:=m1
      clear m0 m1 HST
      go_wp2
      go_ret
      exact ⟨by rw[HD.out];rfl,HBD.out⟩
     have r1:((x.mems[j]).critical==(y.mems[j]).critical)=true:=by simp[m1]
     by_cases m2:(x.mems[j]).hasDef=(y.mems[j]).hasDef
     case neg =>
      have HD:=zh (HST.out (by simp[memEq,m2]))
      have r2:((x.mems[j]).hasDef==(y.mems[j]).hasDef)=false:=by simp[m2]
      have p2:¬ (x.mems[j]).hasDef=(y.mems[j]).hasDef:=m2
      clear m0 m1 m2 HST
      go_wp2
      go_ret
      exact ⟨by rw[HD.out];rfl,HBD.out⟩
     have r2:((x.mems[j]).hasDef==(y.mems[j]).hasDef)=true:=by simp[m2]
     by_cases m3:(x.mems[j]).dflt=(y.mems[j]).dflt
     case neg =>
      have HD:=zh (HST.out (by simp[memEq,m3]))
      have HZ:=zh (decide_eq_false m3)
      clear m0 m1 m2 m3 HST
      go_wp2_with fail
      refine (rSame_all (x.mems[j]).dflt (y.mems[j]).dflt A1 c1 A2 c2 A3 c3 B1 d1 B2 d2 B3 d3 _ HRD1.out.dflt HRD2.out.dflt).mono ?_
      rintro e w7 ⟨rfl,hb7⟩
      rw[HZ.out]
      go_wp2
      go_ret
      exact ⟨by rw[HD.out];rfl,zA HBD.out hb7⟩
     have HZ:=zh (decide_eq_true m3)
     have HOK:Hid (memEq false x.mems[j] y.mems[j]=true):=by show _=_;simp[memEq,m0,m1,m2,m3]
     clear m0 m1 m2 m3 HST
     go_wp2_with fail
     refine (rSame_all (x.mems[j]).dflt (y.mems[j]).dflt A1 c1 A2 c2 A3 c3 B1 d1 B2 d2 B3 d3 _ HRD1.out.dflt HRD2.out.dflt).mono ?_
     rintro e w7 ⟨rfl,hb7⟩
     rw[HZ.out]
     go_wp2
     go_roundw
     case rel =>
      refine ⟨j+1,by omega,by go_num,(fun q g1 g2 hq=>?_),zA HBD2.out hb7⟩
      by_cases e:q=j
      ·subst e;exact HOK.out
      ·exact htj.out q g1 g2 (by omega)
     case measure=>simp[intOf];omega
    ·have HAM:=zh (allEq_yes (memEq false) x.mems y.mems HEM.out fun q h1 h2=>htj.out q h1 h2 (by omega))
     have HD:=zh (show zM false x y=true by rw[HAY.out HAS.out,HAM.out])
     go_wp2
     go_ret
     exact ⟨by rw[HD.out];rfl,HBJ.out⟩
theorem rAlike_true (x y:TyD) (As:Option Addr) (cs:Nat) (Am:Option Addr) (cm:Nat) (Bs:Option Addr) (ds:Nat) (Bm:Option Addr) (dm:Nat) (w:World) (hx:TyR w x As Am) (hy:TyR w y Bs Bm)
  (e1:(x.kind != y.kind)=false) (e2:(x.low != y.low)=false) (e3:(x.high != y.high)=false) (e4:(x.max != y.max)=false) (e5:(x.open_==y.open_)=true) (q6:x.syms.length=y.syms.length) (q7:x.mems.length=y.mems.length)
  (hq:x.kind=y.kind∧x.low=y.low∧x.high=y.high∧x.max=y.max∧x.open_=y.open_∧(true=true→x.name=y.name)) :
  Calls Tryz.prog 58 #[x.v As cs Am cm,y.v Bs ds Bm dm,.bool true] w (SamePost (zM true x y) w):=by
 have hns:=hx.syms.1.lt (by omega)
 have hnm:=hx.mems.1.lt (by omega)
 have HX:=zh hx
 have HY:=zh hy
 have HES:=zh q6
 have HEM:=zh q7
 have HAY:=zh (fun hs=>alike_yes (names:=true) (x:=x) (y:=y) hq hs)
 have HV:Hid (y.v Bs ds Bm dm=y.vn x.syms.length x.mems.length Bs ds Bm dm):=by show _=_;rw[HES.out,HEM.out]
 rw[HV.out]
 have e9:(x.name.toList==y.name.toList)=true:=by rw[zP];exact decide_eq_true (hq.2.2.2.2.2 rfl)
 have e6:((x.syms.length:Int) != (x.syms.length:Int))=false:=by simp
 have e7:((x.mems.length:Int) != (x.mems.length:Int))=false:=by simp
 clear hx hy q6 q7 hq HV
 go_enter Tryz.func58,Tryz.ntmps58
 go_wp2
 go_loopw [7] (fun i wr=>∃k:Nat,k≤x.syms.length∧i = .int .i64 k∧Hid (∀j (h1:j<x.syms.length) (h2:j<y.syms.length),j<k→symEq true x.syms[j] y.syms[j]=true)∧Hid (Below (World.heap ((w.alloc (x.box As cs Am cm)).alloc (y.boxn x.syms.length x.mems.length Bs ds Bm dm))).size ((w.alloc (x.box As cs Am cm)).alloc (y.boxn x.syms.length x.mems.length Bs ds Bm dm)) wr)) (fun i _=>x.syms.length - (intOf i).toNat)
 case atStart=>exact ⟨0,by omega,rfl,(fun j _ _ h=>absurd h (by omega)),Below.refl _ _⟩
 case round =>
  obtain ⟨k,hk,rfl,htk,hbw⟩:=hrel
  obtain ⟨wo,rfl⟩:∃wo:World,wo=wr:=⟨_,rfl⟩
  have hc:=bcell hbw.out
  have HB:=zh (zG hbw.out)
  have hz0:=hbw.out.size
  simp at hz0
  have hz1:w.heap.size<wo.heap.size:=by omega
  have hz2:w.heap.size+1<wo.heap.size:=by omega
  clear hz0
  have f5:wo.cell? ⟨w.heap.size,5,none⟩=some (.slice As x.syms.length cs):=by rw[hc w.heap.size 5 (by simp;omega)];go_simp
  have g5:wo.cell? ⟨w.heap.size+1,5,none⟩=some (.slice Bs x.syms.length ds):=by rw[hc (w.heap.size+1) 5 (by simp)];go_simp
  have f6:wo.cell? ⟨w.heap.size,6,none⟩=some (.slice Am x.mems.length cm):=by rw[hc w.heap.size 6 (by simp;omega)];go_simp
  have g6:wo.cell? ⟨w.heap.size+1,6,none⟩=some (.slice Bm x.mems.length dm):=by rw[hc (w.heap.size+1) 6 (by simp)];go_simp
  have HF6:=zh f6
  have HG6:=zh g6
  clear hc
  by_cases hlt:k<x.syms.length
  ·have hlt':k<y.syms.length:=by have:=HES.out;omega
   obtain ⟨b,o,rfl,_,a0,a1⟩:=(HX.out.syms.below HB.out).at2 hlt
   obtain ⟨b',o',rfl,_,b0,b1⟩:=(HY.out.syms.below HB.out).at2 hlt'
   have h1:(0:Int)≤(k:Int):=by omega
   have h2:(k:Int)<(x.syms.length:Int):=by omega
   cases he:symEq true x.syms[k] y.syms[k] with
   | true =>
    have HT:=zh he
    have hid:((x.syms[k]).id != (y.syms[k]).id)=false:=by unfold symEq at he;simp only[Bool.and_eq_true,decide_eq_true_eq] at he;simp[he.1]
    have hnm:((x.syms[k]).name.toList==(y.syms[k]).name.toList)=true:=by rw[zP];unfold symEq at he;simp at he;exact decide_eq_true he.2
    clear he
    go_wp2
    go_quiet (fail)
    go_wp2
    go_roundw
    case rel =>
     refine ⟨k+1,by omega,by go_num,(fun j g1 g2 hj=>?_),zE hbw.out _⟩
     by_cases e:j=k
     ·subst e;exact HT.out
     ·exact htk.out j g1 g2 (by omega)
    case measure=>simp[intOf];omega
   | false =>
    have HD:=zh (alike_sym (names:=true) hlt hlt' he)
    by_cases hi:(x.syms[k]).id=(y.syms[k]).id
    ·have hid:((x.syms[k]).id != (y.syms[k]).id)=false:=by simp[hi]
     have hne:¬ (x.syms[k]).name=(y.syms[k]).name:=fun e=>by unfold symEq at he;simp[hi,e] at he
     have hnm:((x.syms[k]).name.toList==(y.syms[k]).name.toList)=false:=by rw[zP];exact decide_eq_false hne
     have pnm:¬ (x.syms[k]).name.toList=(y.syms[k]).name.toList:=by simpa using hnm
     clear he hi hne
     go_wp2
     go_quiet (fail)
     go_wp2
     go_ret
     exact ⟨by rw[HD.out];rfl,zE HB.out _⟩
    ·have hid:((x.syms[k]).id != (y.syms[k]).id)=true:=by simp[hi]
     clear he hi
     go_wp2
     go_quiet (fail)
     go_wp2
     go_ret
     exact ⟨by rw[HD.out];rfl,zE HB.out _⟩
  ·have HAS:=zh (allEq_yes (symEq true) x.syms y.syms HES.out fun k h1 h2=>htk.out k h1 h2 (by omega))
   go_wp2
   go_loopw [8] (fun i wr=>∃j:Nat,j≤x.mems.length∧i = .int .i64 j∧Hid (∀q (h1:q<x.mems.length) (h2:q<y.mems.length),q<j→memEq true x.mems[q] y.mems[q]=true)∧Hid (Below wo.heap.size wo wr)) (fun i _=>x.mems.length - (intOf i).toNat)
   case atStart=>exact ⟨0,by omega,rfl,(fun q _ _ h=>absurd h (by omega)),Below.refl _ _⟩
   case round =>
    obtain ⟨j,hj,rfl,htj,hbj⟩:=hrel
    have k6:wr.cell? ⟨w.heap.size,6,none⟩=some (.slice Am x.mems.length cm):=zB hbj.out HF6.out
    have l6:wr.cell? ⟨w.heap.size+1,6,none⟩=some (.slice Bm x.mems.length dm):=zB hbj.out HG6.out
    have HBJ:=zh (zA HB.out hbj.out)
    clear f5 g5 f6 g6
    by_cases hlm:j<x.mems.length
    ·have hlm':j<y.mems.length:=by have:=HEM.out;omega
     obtain ⟨b,o,A1,c1,A2,c2,A3,c3,rfl,hr1,a0,a1,a2,a3,a4,a5,a6,a7,a8,a9,a10,a11,a12⟩:=(HX.out.mems.below HBJ.out).at13 hlm
     obtain ⟨b',o',B1,d1,B2,d2,B3,d3,rfl,hr2,b0,b1,b2,b3,b4,b5,b6,b7,b8,b9,b10,b11,b12⟩:=(HY.out.mems.below HBJ.out).at13 hlm'
     have h1:(0:Int)≤(j:Int):=by omega
     have h2:(j:Int)<(x.mems.length:Int):=by omega
     have HR1:=zh hr1
     have HR2:=zh hr2
     have HST:=zh (fun h=>alike_mem (names:=true) (x:=x) (y:=y) hlm hlm' h)
     clear hr1 hr2
     have z1:=zF a0
     have z2:=zF b0
     have z3:=zF k6
     have z4:=zF l6
     simp only at z1 z2 z3 z4
     go_upto_region 13 with fail
     go_cut [9,10] (fun s9 s10 wx=>∃p9 p10:Nat,s9 = .pointer (some ⟨p9,0,none⟩)∧s10 = .pointer (some ⟨p10,0,none⟩)∧Hid (MBox wx p9 x.mems[j] A1 c1 A2 c2 A3 c3∧MBox wx p10 y.mems[j] B1 d1 B2 d2 B3 d3∧Below wr.heap.size wr wx))
     case first =>
      as_aux_lemma =>
      go_region
      all_goals (go_wp2_with fail;go_meet;first|exact ⟨wr.heap.size,wr.heap.size+1,rfl,rfl,(two_boxes wr _ _ _ _ _ _ _ _ _ _ _ _ _ _).1,(two_boxes wr _ _ _ _ _ _ _ _ _ _ _ _ _ _).2,zE (zC _ _ _) 1⟩|exact ⟨wr.heap.size+1,wr.heap.size,rfl,rfl,(two_boxes wr _ _ _ _ _ _ _ _ _ _ _ _ _ _).2,(two_boxes wr _ _ _ _ _ _ _ _ _ _ _ _ _ _).1,zE (zC _ _ _) 1⟩)
     case rest =>
     obtain ⟨p9,p10,rfl,rfl,hcx⟩:=hcut
     clear a0 a1 a2 a3 a4 a5 a6 a7 a8 a9 a10 a11 a12 b0 b1 b2 b3 b4 b5 b6 b7 b8 b9 b10 b11 b12 k6 l6
     have HM9:=zh hcx.out.1
     have HM10:=zh hcx.out.2.1
     have HBX:=zh hcx.out.2.2
     clear hcx z1 z2 z3 z4
     have u0:=HM9.out.cell 0
     have u1:=HM9.out.cell 1
     have u2:=HM9.out.cell 2
     have u3:=HM9.out.cell 3
     have u4:=HM9.out.cell 4
     have u5:=HM9.out.cell 5
     have u6:=HM9.out.cell 6
     have u7:=HM9.out.cell 7
     have u8:=HM9.out.cell 8
     have u9:=HM9.out.cell 9
     have u10:=HM9.out.cell 10
     have u11:=HM9.out.cell 11
     have u12:=HM9.out.cell 12
     have v0:=HM10.out.cell 0
     have v1:=HM10.out.cell 1
     have v2:=HM10.out.cell 2
     have v3:=HM10.out.cell 3
     have v4:=HM10.out.cell 4
     have v5:=HM10.out.cell 5
     have v6:=HM10.out.cell 6
     have v7:=HM10.out.cell 7
     have v8:=HM10.out.cell 8
     have v9:=HM10.out.cell 9
     have v10:=HM10.out.cell 10
     have v11:=HM10.out.cell 11
     have v12:=HM10.out.cell 12
     simp only[List.getElem?_toArray,List.getElem?_cons_succ,List.getElem?_cons_zero] at u0 u1 u2 u3 u4 u5 u6 u7 u8 u9 u10 u11 u12 v0 v1 v2 v3 v4 v5 v6 v7 v8 v9 v10 v11 v12
     have HBD:=zh (zA HBJ.out HBX.out)
     have HBD2:=zh (zA hbj.out HBX.out)
     have HRD1:=zh (HR1.out.below HBX.out)
     have HRD2:=zh (HR2.out.below HBX.out)
     by_cases m0:(x.mems[j]).id=(y.mems[j]).id
     case neg =>
      have HD:=zh (HST.out (by simp[memEq,m0]))
      have r0:((x.mems[j]).id != (y.mems[j]).id)=true:=by simp[m0]
      clear m0 HST
      go_wp2
      go_ret
      exact ⟨by rw[HD.out];rfl,HBD.out⟩
     have r0:((x.mems[j]).id != (y.mems[j]).id)=false:=by simp[m0]
     by_cases m1:(x.mems[j]).critical=(y.mems[j]).critical
     case neg =>
      have HD:=zh (HST.out (by simp[memEq,m1]))
      have r1:((x.mems[j]).critical==(y.mems[j]).critical)=false:=by simp[m1]
      have p1:¬ (x.mems[j]).critical=(y.mems[j]).critical:=m1
      clear m0 m1 HST
      go_wp2
      go_ret
      exact ⟨by rw[HD.out];rfl,HBD.out⟩
     have r1:((x.mems[j]).critical==(y.mems[j]).critical)=true:=by simp[m1]
     by_cases m2:(x.mems[j]).hasDef=(y.mems[j]).hasDef
     case neg =>
      have HD:=zh (HST.out (by simp[memEq,m2]))
      have r2:((x.mems[j]).hasDef==(y.mems[j]).hasDef)=false:=by simp[m2]
      have p2:¬ (x.mems[j]).hasDef=(y.mems[j]).hasDef:=m2
      clear m0 m1 m2 HST
      go_wp2
      go_ret
      exact ⟨by rw[HD.out];rfl,HBD.out⟩
     have r2:((x.mems[j]).hasDef==(y.mems[j]).hasDef)=true:=by simp[m2]
     by_cases m3:(x.mems[j]).dflt=(y.mems[j]).dflt
     case neg =>
      have HD:=zh (HST.out (by simp[memEq,m3]))
      have HZ:=zh (decide_eq_false m3)
      clear m0 m1 m2 m3 HST
      go_wp2_with fail
      refine (rSame_all (x.mems[j]).dflt (y.mems[j]).dflt A1 c1 A2 c2 A3 c3 B1 d1 B2 d2 B3 d3 _ HRD1.out.dflt HRD2.out.dflt).mono ?_
      rintro e w7 ⟨rfl,hb7⟩
      rw[HZ.out]
      go_wp2
      go_ret
      exact ⟨by rw[HD.out];rfl,zA HBD.out hb7⟩
     have HZ:=zh (decide_eq_true m3)
     by_cases m4:(x.mems[j]).name=(y.mems[j]).name
     case neg =>
      have HD:=zh (HST.out (by simp[memEq,m4]))
      have r4:((x.mems[j]).name.toList==(y.mems[j]).name.toList)=false:=by rw[zP];exact decide_eq_false m4
      have p4:¬ (x.mems[j]).name.toList=(y.mems[j]).name.toList:=by simpa using r4
      clear m0 m1 m2 m3 m4 HST
      go_wp2_with fail
      refine (rSame_all (x.mems[j]).dflt (y.mems[j]).dflt A1 c1 A2 c2 A3 c3 B1 d1 B2 d2 B3 d3 _ HRD1.out.dflt HRD2.out.dflt).mono ?_
      rintro e w7 ⟨rfl,hb7⟩
      rw[HZ.out]
      have u1b:=zB hb7 u1
      have v1b:=zB hb7 v1
      go_wp2
      go_ret
      exact ⟨by rw[HD.out];rfl,zA HBD.out hb7⟩
     have r4:((x.mems[j]).name.toList==(y.mems[j]).name.toList)=true:=by rw[zP];exact decide_eq_true m4
     have HOK:Hid (memEq true x.mems[j] y.mems[j]=true):=by show _=_;simp[memEq,m0,m1,m2,m3,m4]
     clear m0 m1 m2 m3 m4 HST
     go_wp2_with fail
     refine (rSame_all (x.mems[j]).dflt (y.mems[j]).dflt A1 c1 A2 c2 A3 c3 B1 d1 B2 d2 B3 d3 _ HRD1.out.dflt HRD2.out.dflt).mono ?_
     rintro e w7 ⟨rfl,hb7⟩
     rw[HZ.out]
     have u1b:=zB hb7 u1
     have v1b:=zB hb7 v1
     go_wp2
     go_roundw
     case rel =>
      refine ⟨j+1,by omega,by go_num,(fun q g1 g2 hq=>?_),zA HBD2.out hb7⟩
      by_cases e:q=j
      ·subst e;exact HOK.out
      ·exact htj.out q g1 g2 (by omega)
     case measure=>simp[intOf];omega
    ·have HAM:=zh (allEq_yes (memEq true) x.mems y.mems HEM.out fun q h1 h2=>htj.out q h1 h2 (by omega))
     have HD:=zh (show zM true x y=true by rw[HAY.out HAS.out,HAM.out])
     go_wp2
     go_ret
     exact ⟨by rw[HD.out];rfl,HBJ.out⟩
theorem rAlike_any (names:Bool) (x y:TyD) (As:Option Addr) (cs:Nat) (Am:Option Addr) (cm:Nat) (Bs:Option Addr) (ds:Nat) (Bm:Option Addr) (dm:Nat) (w:World) (hx:TyR w x As Am) (hy:TyR w y Bs Bm) :
  Calls Tryz.prog 58 #[x.v As cs Am cm,y.v Bs ds Bm dm,.bool names] w (SamePost (zM names x y) w):=by
 have hns:=hx.syms.1.lt (by omega)
 have hnm:=hx.mems.1.lt (by omega)
 have HX:=zh hx
 have HY:=zh hy
 clear hx hy
 by_cases q1:x.kind=y.kind
 case neg =>
  have HD:=zh (alike_h (names:=names) (x:=x) (y:=y) (fun h=>q1 (h.1)))
  have e1:(x.kind != y.kind)=true:=by simpa using q1
  clear q1
  go_enter Tryz.func58,Tryz.ntmps58
  go_wp2
  go_ret
  exact ⟨by rw[HD.out];rfl,zC _ _ _⟩
 have e1:(x.kind != y.kind)=false:=by simpa using q1
 by_cases q2:x.low=y.low
 case neg =>
  have HD:=zh (alike_h (names:=names) (x:=x) (y:=y) (fun h=>q2 (h.2.1)))
  have e2:(x.low != y.low)=true:=by simpa using q2
  clear q1 q2
  go_enter Tryz.func58,Tryz.ntmps58
  go_wp2
  go_ret
  exact ⟨by rw[HD.out];rfl,zC _ _ _⟩
 have e2:(x.low != y.low)=false:=by simpa using q2
 by_cases q3:x.high=y.high
 case neg =>
  have HD:=zh (alike_h (names:=names) (x:=x) (y:=y) (fun h=>q3 (h.2.2.1)))
  have e3:(x.high != y.high)=true:=by simpa using q3
  clear q1 q2 q3
  go_enter Tryz.func58,Tryz.ntmps58
  go_wp2
  go_ret
  exact ⟨by rw[HD.out];rfl,zC _ _ _⟩
 have e3:(x.high != y.high)=false:=by simpa using q3
 by_cases q4:x.max=y.max
 case neg =>
  have HD:=zh (alike_h (names:=names) (x:=x) (y:=y) (fun h=>q4 (h.2.2.2.1)))
  have e4:(x.max != y.max)=true:=by simpa using q4
  clear q1 q2 q3 q4
  go_enter Tryz.func58,Tryz.ntmps58
  go_wp2
  go_ret
  exact ⟨by rw[HD.out];rfl,zC _ _ _⟩
 have e4:(x.max != y.max)=false:=by simpa using q4
 by_cases q5:x.open_=y.open_
 case neg =>
  have HD:=zh (alike_h (names:=names) (x:=x) (y:=y) (fun h=>q5 (h.2.2.2.2.1)))
  have e5:(x.open_==y.open_)=false:=by simpa using q5
  have p5:¬ x.open_=y.open_:=q5
  clear q1 q2 q3 q4 q5
  go_enter Tryz.func58,Tryz.ntmps58
  go_wp2
  go_ret
  exact ⟨by rw[HD.out];rfl,zC _ _ _⟩
 have e5:(x.open_==y.open_)=true:=by simpa using q5
 by_cases q6:x.syms.length=y.syms.length
 case neg =>
  have HD:=zh (alike_lens (names:=names) (x:=x) (y:=y) q6)
  have e6:((x.syms.length:Int) != (y.syms.length:Int))=true:=bne_iff_ne.2 (by omega)
  clear q1 q2 q3 q4 q5 q6
  go_enter Tryz.func58,Tryz.ntmps58
  go_wp2
  go_ret
  exact ⟨by rw[HD.out];rfl,zC _ _ _⟩
 by_cases q7:x.mems.length=y.mems.length
 case neg =>
  have HD:=zh (alike_lenm (names:=names) (x:=x) (y:=y) q7)
  have e6:((x.syms.length:Int) != (y.syms.length:Int))=false:=by simp[q6]
  have e7:((x.mems.length:Int) != (y.mems.length:Int))=true:=bne_iff_ne.2 (by omega)
  clear q1 q2 q3 q4 q5 q6 q7
  go_enter Tryz.func58,Tryz.ntmps58
  go_wp2
  go_ret
  exact ⟨by rw[HD.out];rfl,zC _ _ _⟩
 have HES:=zh q6
 have HEM:=zh q7
 have e6:((x.syms.length:Int) != (x.syms.length:Int))=false:=by simp
 have e7:((x.mems.length:Int) != (x.mems.length:Int))=false:=by simp
 have HV:Hid (y.v Bs ds Bm dm=y.vn x.syms.length x.mems.length Bs ds Bm dm):=by show _=_;rw[HES.out,HEM.out]
 rw[HV.out]
 by_cases q8:names=true∧¬ x.name=y.name
 ·obtain ⟨rfl,q8⟩:=q8
  have HD:=zh (alike_h (names:=true) (x:=x) (y:=y) fun h=>q8 (h.2.2.2.2.2 rfl))
  have e8:(x.name.toList==y.name.toList)=false:=by rw[zP];exact decide_eq_false q8
  have p8:¬ x.name.toList=y.name.toList:=by simpa using e8
  clear q1 q2 q3 q4 q5 q6 q7 q8
  go_enter Tryz.func58,Tryz.ntmps58
  go_wp2
  go_ret
  exact ⟨by rw[HD.out];rfl,zC _ _ _⟩
 have HQ:=zh (show x.kind=y.kind∧x.low=y.low∧x.high=y.high∧x.max=y.max∧x.open_=y.open_∧(names=true→x.name=y.name) from ⟨q1,q2,q3,q4,q5,fun h=>Classical.byContradiction fun h2=>q8 ⟨h,h2⟩⟩)
 have q9:names=false∨(names=true∧x.name=y.name):=by
  cases names with
  | false=>exact .inl rfl
  | true=>exact .inr ⟨rfl,HQ.out.2.2.2.2.2 rfl⟩
 clear q1 q2 q3 q4 q5 q6 q7 q8
 rw[←HV.out]
 rcases q9 with rfl|⟨rfl,q9⟩
 ·exact rAlike_false x y As cs Am cm Bs ds Bm dm w HX.out HY.out e1 e2 e3 e4 e5 HES.out HEM.out HQ.out
 ·exact rAlike_true x y As cs Am cm Bs ds Bm dm w HX.out HY.out e1 e2 e3 e4 e5 HES.out HEM.out HQ.out
end Go.Proofs.YtkhpajneinmmiaaGreatDoor


