/-
  Walks: equality of types in the reference (written by gen.py).
-/
import Derived.Test.YtdfolgmcggdjdaaGreatDoorQEQ5
namespace Go.Proofs.YtdfolgmcggdjdaaGreatDoor
open Go.RowKit
set_option maxHeartbeats 16000000
set_option maxRecDepth 100000
abbrev TyD.boxn (t:TyD) (ns nm:Nat) (As:zo) (cs:Nat) (Am:zo) (cm:Nat):Obj :=
 .cells #[.int .i64 t.kind,.string t.name,.int .i64 t.low,.int .i64 t.high,.int .i64 t.max,.slice As ns cs,.slice Am nm cm,.int .i64 t.key,.int .i64 t.elem,.bool t.open_] 50
abbrev TyD.vn (t:TyD) (ns nm:Nat) (As:zo) (cs:Nat) (Am:zo) (cm:Nat):Value :=
 .agg #[.int .i64 t.kind,.string t.name,.int .i64 t.low,.int .i64 t.high,.int .i64 t.max,.slice As ns cs,.slice Am nm cm,.int .i64 t.key,.int .i64 t.elem,.bool t.open_]
theorem sameType_any (x y:TyD) (As:zo) (cs:Nat) (Am:zo) (cm:Nat) (Bs:zo) (ds:Nat) (Bm:zo) (dm:Nat) (w:World) (hx:TyR w x As Am) (hy:TyR w y Bs Bm) :
  Calls Tryz.prog 37 #[x.v As cs Am cm,y.v Bs ds Bm dm] w (SamePost (decide (x=y)) w):=by
 have hns:=hx.syms.1.lt (by omega)
 have hnm:=hx.mems.1.lt (by omega)
 have HX:=zh hx;have HY:=zh hy;clear hx hy
 by_cases q1:x.kind=y.kind
 case neg =>
  have HD:=zh (ty_ne (x:=x) (y:=y) (fun h=>q1 (h.1)))
  have e1:(x.kind != y.kind)=true:=by simpa using q1
  clear q1
  go_enter Tryz.func37,Tryz.ntmps37
  go_wp2
  go_ret
  exact ⟨by rw[HD.out];rfl,zE _ _ _⟩
 have e1:(x.kind != y.kind)=false:=by simpa using q1
 by_cases q2:x.name=y.name
 case neg =>
  have HD:=zh (ty_ne (x:=x) (y:=y) (fun h=>q2 (h.2.1)))
  have e2:(x.name.toList==y.name.toList)=false:=by rw[zS];exact decide_eq_false q2
  have p2:¬ x.name.toList=y.name.toList:=by simpa using e2
  clear q1 q2
  go_enter Tryz.func37,Tryz.ntmps37
  go_wp2
  go_ret
  exact ⟨by rw[HD.out];rfl,zE _ _ _⟩
 have e2:(x.name.toList==y.name.toList)=true:=by rw[zS];exact decide_eq_true q2
 by_cases q3:x.low=y.low
 case neg =>
  have HD:=zh (ty_ne (x:=x) (y:=y) (fun h=>q3 (h.2.2.1)))
  have e3:(x.low != y.low)=true:=by simpa using q3
  clear q1 q2 q3
  go_enter Tryz.func37,Tryz.ntmps37
  go_wp2
  go_ret
  exact ⟨by rw[HD.out];rfl,zE _ _ _⟩
 have e3:(x.low != y.low)=false:=by simpa using q3
 by_cases q4:x.high=y.high
 case neg =>
  have HD:=zh (ty_ne (x:=x) (y:=y) (fun h=>q4 (h.2.2.2.1)))
  have e4:(x.high != y.high)=true:=by simpa using q4
  clear q1 q2 q3 q4
  go_enter Tryz.func37,Tryz.ntmps37
  go_wp2
  go_ret
  exact ⟨by rw[HD.out];rfl,zE _ _ _⟩
 have e4:(x.high != y.high)=false:=by simpa using q4
 by_cases q5:x.max=y.max
 case neg =>
  have HD:=zh (ty_ne (x:=x) (y:=y) (fun h=>q5 (h.2.2.2.2.1)))
  have e5:(x.max != y.max)=true:=by simpa using q5
  clear q1 q2 q3 q4 q5
  go_enter Tryz.func37,Tryz.ntmps37
  go_wp2
  go_ret
  exact ⟨by rw[HD.out];rfl,zE _ _ _⟩
 have e5:(x.max != y.max)=false:=by simpa using q5
 by_cases q6:x.key=y.key
 case neg =>
  have HD:=zh (ty_ne (x:=x) (y:=y) (fun h=>q6 (h.2.2.2.2.2.1)))
  have e6:(x.key != y.key)=true:=by simpa using q6
  clear q1 q2 q3 q4 q5 q6
  go_enter Tryz.func37,Tryz.ntmps37
  go_wp2
  go_ret
  exact ⟨by rw[HD.out];rfl,zE _ _ _⟩
 have e6:(x.key != y.key)=false:=by simpa using q6
 by_cases q7:x.elem=y.elem
 case neg =>
  have HD:=zh (ty_ne (x:=x) (y:=y) (fun h=>q7 (h.2.2.2.2.2.2.1)))
  have e7:(x.elem != y.elem)=true:=by simpa using q7
  clear q1 q2 q3 q4 q5 q6 q7
  go_enter Tryz.func37,Tryz.ntmps37
  go_wp2
  go_ret
  exact ⟨by rw[HD.out];rfl,zE _ _ _⟩
 have e7:(x.elem != y.elem)=false:=by simpa using q7
 by_cases q8:x.open_=y.open_
 case neg =>
  have HD:=zh (ty_ne (x:=x) (y:=y) (fun h=>q8 (h.2.2.2.2.2.2.2.1)))
  have e8:(x.open_==y.open_)=false:=by simpa using q8
  have p8:¬ x.open_=y.open_:=q8;clear q1 q2 q3 q4 q5 q6 q7 q8
  go_enter Tryz.func37,Tryz.ntmps37
  go_wp2
  go_ret
  exact ⟨by rw[HD.out];rfl,zE _ _ _⟩
 have e8:(x.open_==y.open_)=true:=by simpa using q8
 by_cases q9:x.syms.length=y.syms.length
 case neg =>
  have HD:=zh (ty_ne (x:=x) (y:=y) (fun h=>q9 (by rw[h.2.2.2.2.2.2.2.2.1])))
  have e9:((x.syms.length:Int) != (y.syms.length:Int))=true:=bne_iff_ne.2 (by omega)
  clear q1 q2 q3 q4 q5 q6 q7 q8 q9
  go_enter Tryz.func37,Tryz.ntmps37
  go_wp2
  go_ret
  exact ⟨by rw[HD.out];rfl,zE _ _ _⟩
 have e9:((x.syms.length:Int) != (y.syms.length:Int))=false:=by simp[q9]
 by_cases q10:x.mems.length=y.mems.length
 case neg =>
  have HD:=zh (ty_ne (x:=x) (y:=y) (fun h=>q10 (by rw[h.2.2.2.2.2.2.2.2.2])))
  have e10:((x.mems.length:Int) != (y.mems.length:Int))=true:=bne_iff_ne.2 (by omega)
  clear q1 q2 q3 q4 q5 q6 q7 q8 q9 q10
  go_enter Tryz.func37,Tryz.ntmps37
  go_wp2
  go_ret
  exact ⟨by rw[HD.out];rfl,zE _ _ _⟩
 have e10:((x.mems.length:Int) != (y.mems.length:Int))=false:=by simp[q10]
 have HES:=zh q9;have HEM:=zh q10;clear e9 e10;have HQ:=zh (And.intro q1 (And.intro q2 (And.intro q3 (And.intro q4 (And.intro q5 (And.intro q6 (And.intro q7 q8)))))));have e9:((x.syms.length:Int) != (x.syms.length:Int))=false:=by simp
 have e10:((x.mems.length:Int) != (x.mems.length:Int))=false:=by simp
 have HV:Hid (y.v Bs ds Bm dm=y.vn x.syms.length x.mems.length Bs ds Bm dm):=by show _=_;rw[HES.out,HEM.out]
 rw[HV.out];clear q1 q2 q3 q4 q5 q6 q7 q8 q9 q10
 go_enter Tryz.func37,Tryz.ntmps37
 go_wp2
 go_loopw [5] (fun i wr=>∃k:Nat,k≤x.syms.length∧i = .int .i64 k∧Hid (x.syms.take k=y.syms.take k)∧Hid (Below (World.heap ((w.alloc (x.box As cs Am cm)).alloc (y.boxn x.syms.length x.mems.length Bs ds Bm dm))).size ((w.alloc (x.box As cs Am cm)).alloc (y.boxn x.syms.length x.mems.length Bs ds Bm dm)) wr)) (fun i _=>x.syms.length - (intOf i).toNat)
 case atStart=>exact ⟨0,by omega,rfl,rfl,Below.refl _ _⟩
 case round =>
  obtain ⟨k,hk,rfl,htk,hbw⟩:=hrel;obtain ⟨wo,rfl⟩:∃wo:World,wo=wr:=⟨_,rfl⟩;have hc:=bcell hbw.out;have HB:=zh (zO hbw.out);have hz0:=hbw.out.size;simp at hz0;have hz1:w.heap.size<wo.heap.size:=by omega
  have hz2:w.heap.size+1<wo.heap.size:=by omega
  clear hz0;have f5:wo.cell? ⟨w.heap.size,5,none⟩=some (.slice As x.syms.length cs):=by rw[hc w.heap.size 5 (by simp;omega)];go_simp
  have g5:wo.cell? ⟨w.heap.size+1,5,none⟩=some (.slice Bs x.syms.length ds):=by rw[hc (w.heap.size+1) 5 (by simp)];go_simp
  have f6:wo.cell? ⟨w.heap.size,6,none⟩=some (.slice Am x.mems.length cm):=by rw[hc w.heap.size 6 (by simp;omega)];go_simp
  have g6:wo.cell? ⟨w.heap.size+1,6,none⟩=some (.slice Bm x.mems.length dm):=by rw[hc (w.heap.size+1) 6 (by simp)];go_simp
  have HF6:=zh f6;have HG6:=zh g6;clear hc
  by_cases hlt:k<x.syms.length
  ·have hlt':k<y.syms.length:=by have:=HES.out;omega
   obtain ⟨b,o,rfl,_,a0,a1⟩:=(HX.out.syms.below HB.out).at2 hlt;obtain ⟨b',o',rfl,_,b0,b1⟩:=(HY.out.syms.below HB.out).at2 hlt';have h1:(0:Int)≤(k:Int):=by omega
   have h2:(k:Int)<(x.syms.length:Int):=by omega
   by_cases he:x.syms[k]=y.syms[k]
   ·have heq:∀w,(binOp .neq 55 (.agg #[.int .i64 (x.syms[k]).id,.string (x.syms[k]).name]) (.agg #[.int .i64 (y.syms[k]).id,.string (y.syms[k]).name])).run Tryz.prog w = .ok (.bool false) w:=fun w=>by rw[run_neq_sym,decide_eq_true ((SymD.ext_iff' _ _).2 he)];rfl
    have HT:=zh (take_eq_of hlt hlt' htk.out he);clear he;go_wp2
    go_quiet (fail)
    go_wp2
    go_roundw
    case rel=>exact ⟨k+1,by omega,by go_num,HT.out,zC hbw.out _⟩
    case measure=>simp[intOf];omega
   ·have heq:∀w,(binOp .neq 55 (.agg #[.int .i64 (x.syms[k]).id,.string (x.syms[k]).name]) (.agg #[.int .i64 (y.syms[k]).id,.string (y.syms[k]).name])).run Tryz.prog w = .ok (.bool true) w:=fun w=>by rw[run_neq_sym,decide_eq_false (fun e=>he ((SymD.ext_iff' _ _).1 e))];rfl
    have HD:=zh (ty_syms (x:=x) (y:=y) fun h=>by have:=take_ne_of hlt hlt' he;rw[decide_eq_true h] at this;cases this)
    clear he;go_wp2
    go_quiet (fail)
    go_wp2
    go_ret
    exact ⟨by rw[HD.out];rfl,zC HB.out _⟩
  ·have HTS:=zh (of_decide_eq_true (take_all hlt HES.out htk.out))
   go_wp2
   go_loopw [6] (fun i wr=>∃k:Nat,k≤x.mems.length∧i = .int .i64 k∧Hid (x.mems.take k=y.mems.take k)∧Hid (Below wo.heap.size wo wr)) (fun i _=>x.mems.length - (intOf i).toNat)
   case atStart=>exact ⟨0,by omega,rfl,rfl,Below.refl _ _⟩
   case round =>
    obtain ⟨j,hj,rfl,htj,hbj⟩:=hrel;have k6:wr.cell? ⟨w.heap.size,6,none⟩=some (.slice Am x.mems.length cm):=zA hbj.out HF6.out;have l6:wr.cell? ⟨w.heap.size+1,6,none⟩=some (.slice Bm x.mems.length dm):=zA hbj.out HG6.out;have HBJ:=zh (zB HB.out hbj.out);clear f5 g5 f6 g6
    by_cases hlm:j<x.mems.length
    ·have hlm':j<y.mems.length:=by have:=HEM.out;omega
     obtain ⟨b,o,A1,c1,A2,c2,A3,c3,rfl,hr1,a0,a1,a2,a3,a4,a5,a6,a7,a8,a9,a10,a11,a12⟩:=(HX.out.mems.below HBJ.out).at13 hlm;obtain ⟨b',o',B1,d1,B2,d2,B3,d3,rfl,hr2,b0,b1,b2,b3,b4,b5,b6,b7,b8,b9,b10,b11,b12⟩:=(HY.out.mems.below HBJ.out).at13 hlm';have h1:(0:Int)≤(j:Int):=by omega
     have h2:(j:Int)<(x.mems.length:Int):=by omega
     have HR1:=zh hr1;have HR2:=zh hr2;clear hr1 hr2
     by_cases he:x.mems[j]=y.mems[j]
     ·have HT:=zh (take_eq_of hlm hlm' htj.out he)
      have HD:=zh (decide_eq_true he);clear he;go_wp2
      go_still_tail 10,(by kernel_rfl)
      change wpList _ _ _ _ _ wr.drew
      go_wp2_with (go_at_call 67;refine (sameMember_any x.mems[j] y.mems[j] A1 c1 A2 c2 A3 c3 B1 d1 B2 d2 B3 d3 _ (HR1.out.below (zC (Below.refl _ _) 1)) (HR2.out.below (zC (Below.refl _ _) 1))).mono ?_;rintro e w2 ⟨rfl,hb2⟩;rw[HD.out])
      go_roundw
      case rel=>exact ⟨j+1,by omega,by go_num,HT.out,zB hbj.out (undrew hb2)⟩
      case measure=>simp[intOf];omega
     ·have HT:=zh (show decide (x=y)=false from decide_eq_false fun e=>he (by subst e;rfl))
      have HD:=zh (decide_eq_false he);clear he;go_wp2
      go_still_tail 10,(by kernel_rfl)
      change wpList _ _ _ _ _ wr.drew
      go_wp2_with (go_at_call 67;refine (sameMember_any x.mems[j] y.mems[j] A1 c1 A2 c2 A3 c3 B1 d1 B2 d2 B3 d3 _ (HR1.out.below (zC (Below.refl _ _) 1)) (HR2.out.below (zC (Below.refl _ _) 1))).mono ?_;rintro e w2 ⟨rfl,hb2⟩;rw[HD.out])
      go_ret
      exact ⟨by rw[HT.out];rfl,zB HBJ.out (undrew hb2)⟩
    ·have HD:=zh (show decide (x=y)=true by
      apply decide_eq_true
      rw[ty_ext];obtain ⟨q1,q2,q3,q4,q5,q6,q7,q8⟩:=HQ.out;exact ⟨q1,q2,q3,q4,q5,q6,q7,q8,HTS.out,of_decide_eq_true (take_all hlm HEM.out htj.out)⟩)
     go_wp2
     go_ret
     exact ⟨by rw[HD.out];rfl,HBJ.out⟩
theorem sEqual_any (l m:List TyD) (A:zo) (c:Nat) (B:zo) (d:Nat) (w:World) (hl:TysR w A l) (hm:TysR w B m) :
  Calls Tryz.prog 10 #[.agg #[.slice A l.length c],.agg #[.slice B m.length d]] w (SamePost (decide (l=m)) w):=by
 have hn:=hl.1.lt (by omega)
 have HL:=zh hl;have HM:=zh hm;clear hl hm
 by_cases hlen:l.length=m.length
 ·rw[←hlen]
  have hb0:((l.length:Int) != (l.length:Int))=false:=by simp
  have HE:=zh hlen;clear hlen
  go_enter Tryz.func10,Tryz.ntmps10
  go_wp2
  go_loopw [5] (fun i wr=>∃k:Nat,k≤l.length∧i = .int .i64 k∧Hid (l.take k=m.take k)∧Hid (Below (World.heap ((w.alloc (.cells #[.slice A l.length c] 27)).alloc (.cells #[.slice B l.length d] 27))).size ((w.alloc (.cells #[.slice A l.length c] 27)).alloc (.cells #[.slice B l.length d] 27)) wr)) (fun i _=>l.length - (intOf i).toNat)
  case atStart=>exact ⟨0,by omega,rfl,rfl,Below.refl _ _⟩
  case round =>
   obtain ⟨k,hk,rfl,htk,hbw⟩:=hrel;have hc:=bcell hbw.out;have HB:=zh (zO hbw.out);have hz0:=hbw.out.size;simp at hz0;have hz1:w.heap.size<wr.heap.size:=by omega
   have hz2:w.heap.size+1<wr.heap.size:=by omega
   clear hz0;have f5:wr.cell? ⟨w.heap.size,0,none⟩=some (.slice A l.length c):=by rw[hc w.heap.size 0 (by simp;omega)];go_simp
   have g5:wr.cell? ⟨w.heap.size+1,0,none⟩=some (.slice B l.length d):=by rw[hc (w.heap.size+1) 0 (by simp)];go_simp
   clear hc
   by_cases hlt:k<l.length
   ·have hlt':k<m.length:=by have:=HE.out;omega
    obtain ⟨b,o,As,cs,Am,cm,rfl,hr1,a0,a1,a2,a3,a4,a5,a6,a7,a8,a9⟩:=(HL.out.below HB.out).at10 hlt;obtain ⟨b',o',Bs,ds,Bm,dm,rfl,hr2,b0,b1,b2,b3,b4,b5,b6,b7,b8,b9⟩:=(HM.out.below HB.out).at10 hlt';have h1:(0:Int)≤(k:Int):=by omega
    have h2:(k:Int)<(l.length:Int):=by omega
    have HR1:=zh hr1;have HR2:=zh hr2;clear hr1 hr2
    by_cases he:l[k]=m[k]
    ·have HT:=zh (take_eq_of hlt hlt' htk.out he)
     have HD:=zh (decide_eq_true he);clear he;go_wp2
     go_still_tail 10,(by kernel_rfl)
     change wpList _ _ _ _ _ wr.drew
     go_wp2_with (go_at_call 37;refine (sameType_any l[k] m[k] As cs Am cm Bs ds Bm dm _ (HR1.out.below (zC (Below.refl _ _) 1)) (HR2.out.below (zC (Below.refl _ _) 1))).mono ?_;rintro e w2 ⟨rfl,hb2⟩;rw[HD.out])
     go_roundw
     case rel=>exact ⟨k+1,by omega,by go_num,HT.out,hbw.out.trans ((undrew hb2).mono hbw.out.size)⟩
     case measure=>simp[intOf];omega
    ·have HT:=zh (take_ne_of hlt hlt' he)
     have HD:=zh (decide_eq_false he);clear he;go_wp2
     go_still_tail 10,(by kernel_rfl)
     change wpList _ _ _ _ _ wr.drew
     go_wp2_with (go_at_call 37;refine (sameType_any l[k] m[k] As cs Am cm Bs ds Bm dm _ (HR1.out.below (zC (Below.refl _ _) 1)) (HR2.out.below (zC (Below.refl _ _) 1))).mono ?_;rintro e w2 ⟨rfl,hb2⟩;rw[HD.out])
     go_ret
     exact ⟨by rw[HT.out];rfl,zB HB.out (undrew hb2)⟩
   ·have HD:=zh (take_all hlt HE.out htk.out)
    go_wp2
    go_ret
    exact ⟨by rw[HD.out];rfl,HB.out⟩
 ·have hb0:((l.length:Int) != (m.length:Int))=true:=bne_iff_ne.2 (by omega)
  have HQ:=zh (show decide (l=m)=false from decide_eq_false fun e=>hlen (by rw[e]))
  clear hlen
  go_enter Tryz.func10,Tryz.ntmps10
  go_wp2
  go_ret
  exact ⟨by rw[HQ.out];rfl,zE _ _ _⟩
end Go.Proofs.YtdfolgmcggdjdaaGreatDoor


