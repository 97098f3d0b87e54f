/-
  Rows of symbols and members that are written in place; the decimal text of a number.
-/
import Derived.Test.YtdfolgmcggdjdaaGreatDoorQGA3
import Derived.Test.YtdfolgmcggdjdaaGreatDoorQGA1
import Derived.Test.YtdfolgmcggdjdaaGreatDoorQGA2
import Derived.Test.YtdfolgmcggdjdaaGreatDoorQGA0
import Derived.Test.YtdfolgmcggdjdaaGreatDoorShelf
import Derived.StillTailTactics
import Derived.Deep.DeepCutAuto
import Derived.Lib.AppendIntMem
namespace Go.Proofs.YtdfolgmcggdjdaaGreatDoor
open Go.RowKit
set_option maxHeartbeats 16000000
set_option maxRecDepth 100000
theorem mem_ext (x y:MemD):x=y↔(x.id=y.id∧x.name=y.name∧x.type=y.type∧x.critical=y.critical∧x.hasDef=y.hasDef∧x.dflt=y.dflt):=by
 constructor
 ·rintro rfl;simp
 ·intro h;cases x;cases y;simp_all
theorem mem_ne {x y:MemD} (h:¬ (x.id=y.id∧x.name=y.name∧x.type=y.type∧x.critical=y.critical∧x.hasDef=y.hasDef∧x.dflt=y.dflt)):decide (x=y)=false:=decide_eq_false fun e=>h ((mem_ext x y).1 e)
theorem ty_ext (x y:TyD):x=y↔(x.kind=y.kind∧x.name=y.name∧x.low=y.low∧x.high=y.high∧x.max=y.max∧x.key=y.key∧x.elem=y.elem∧x.open_=y.open_∧x.syms=y.syms∧x.mems=y.mems):=by
 constructor
 ·rintro rfl;simp
 ·intro h;cases x;cases y;simp_all
theorem ty_ne {x y:TyD} (h:¬ (x.kind=y.kind∧x.name=y.name∧x.low=y.low∧x.high=y.high∧x.max=y.max∧x.key=y.key∧x.elem=y.elem∧x.open_=y.open_∧x.syms=y.syms∧x.mems=y.mems)):decide (x=y)=false:=decide_eq_false fun e=>h ((ty_ext x y).1 e)
theorem equal1_any (x y:MemD) (A1:zo) (c1:Nat) (A2:zo) (c2:Nat) (A3:zo) (c3:Nat) (B1:zo) (d1:Nat) (B2:zo) (d2:Nat) (B3:zo) (d3:Nat) (w:World) (hx:MemR w x A1 A2 A3) (hy:MemR w y B1 B2 B3) :
  Calls Tryz.prog 101 #[x.v A1 c1 A2 c2 A3 c3,y.v B1 d1 B2 d2 B3 d3] w (SamePost (decide (x=y)) w):=by
 have HX:=zh hx;have HY:=zh hy;clear hx hy
 by_cases q1:x.id=y.id
 case neg =>
  have HD:=zh (mem_ne (x:=x) (y:=y) (fun h=>q1 (h.1)))
  have e1:(x.id==y.id)=false:=by simpa using q1
  clear q1
  go_enter Tryz.func101,Tryz.ntmps101
  go_wp2
  go_ret
  exact ⟨by rw[HD.out];rfl,zE _ _ _⟩
 have e1:(x.id==y.id)=true:=by simpa using q1
 by_cases q2:x.name=y.name
 case neg =>
  have HD:=zh (mem_ne (x:=x) (y:=y) (fun h=>q2 (h.2.1)))
  have e2:(x.name.toList==y.name.toList)=false:=by rw[zS];exact decide_eq_false q2
  clear q1 q2
  go_enter Tryz.func101,Tryz.ntmps101
  go_wp2
  go_ret
  exact ⟨by rw[HD.out];rfl,zE _ _ _⟩
 have e2:(x.name.toList==y.name.toList)=true:=by rw[zS];exact decide_eq_true q2
 by_cases q3:x.type=y.type
 case neg =>
  have HD:=zh (mem_ne (x:=x) (y:=y) (fun h=>q3 (h.2.2.1)))
  have e3:(x.type==y.type)=false:=by simpa using q3
  clear q1 q2 q3
  go_enter Tryz.func101,Tryz.ntmps101
  go_wp2
  go_ret
  exact ⟨by rw[HD.out];rfl,zE _ _ _⟩
 have e3:(x.type==y.type)=true:=by simpa using q3
 by_cases q4:x.critical=y.critical
 case neg =>
  have HD:=zh (mem_ne (x:=x) (y:=y) (fun h=>q4 (h.2.2.2.1)))
  have e4:(x.critical==y.critical)=false:=by simpa using q4
  clear q1 q2 q3 q4
  go_enter Tryz.func101,Tryz.ntmps101
  go_wp2
  go_ret
  exact ⟨by rw[HD.out];rfl,zE _ _ _⟩
 have e4:(x.critical==y.critical)=true:=by simpa using q4
 by_cases q5:x.hasDef=y.hasDef
 case neg =>
  have HD:=zh (mem_ne (x:=x) (y:=y) (fun h=>q5 (h.2.2.2.2.1)))
  have e5:(x.hasDef==y.hasDef)=false:=by simpa using q5
  clear q1 q2 q3 q4 q5
  go_enter Tryz.func101,Tryz.ntmps101
  go_wp2
  go_ret
  exact ⟨by rw[HD.out];rfl,zE _ _ _⟩
 have e5:(x.hasDef==y.hasDef)=true:=by simpa using q5
 have HD:=zh (show decide (x=y)=decide (x.dflt=y.dflt) by
  rw[decide_eq_decide,mem_ext];exact ⟨fun h=>h.2.2.2.2.2,fun h=>⟨q1,q2,q3,q4,q5,h⟩⟩)
 clear q1 q2 q3 q4 q5
 go_enter Tryz.func101,Tryz.ntmps101
 go_wp2_with fail
 refine (same_all x.dflt y.dflt A1 c1 A2 c2 A3 c3 B1 d1 B2 d2 B3 d3 _ (HX.out.dflt.below (zE _ _ _)) (HY.out.dflt.below (zE _ _ _))).mono ?_;rintro e w2 ⟨rfl,hb2⟩;go_wp2;go_ret;exact ⟨by rw[HD.out];rfl,zO hb2⟩
theorem sameMember_any (x y:MemD) (A1:zo) (c1:Nat) (A2:zo) (c2:Nat) (A3:zo) (c3:Nat) (B1:zo) (d1:Nat) (B2:zo) (d2:Nat) (B3:zo) (d3:Nat) (w:World) (hx:MemR w x A1 A2 A3) (hy:MemR w y B1 B2 B3) :
  Calls Tryz.prog 67 #[x.v A1 c1 A2 c2 A3 c3,y.v B1 d1 B2 d2 B3 d3] w (SamePost (decide (x=y)) w):=by
 have HX:=zh hx;have HY:=zh hy;clear hx hy
 by_cases q1:x.id=y.id
 case neg =>
  have HD:=zh (mem_ne (x:=x) (y:=y) (fun h=>q1 (h.1)))
  have e1:(x.id==y.id)=false:=by simpa using q1
  clear q1
  go_enter Tryz.func67,Tryz.ntmps67
  go_wp2
  go_ret
  exact ⟨by rw[HD.out];rfl,zE _ _ _⟩
 have e1:(x.id==y.id)=true:=by simpa using q1
 by_cases q2:x.name=y.name
 case neg =>
  have HD:=zh (mem_ne (x:=x) (y:=y) (fun h=>q2 (h.2.1)))
  have e2:(x.name.toList==y.name.toList)=false:=by rw[zS];exact decide_eq_false q2
  clear q1 q2
  go_enter Tryz.func67,Tryz.ntmps67
  go_wp2
  go_ret
  exact ⟨by rw[HD.out];rfl,zE _ _ _⟩
 have e2:(x.name.toList==y.name.toList)=true:=by rw[zS];exact decide_eq_true q2
 by_cases q3:x.type=y.type
 case neg =>
  have HD:=zh (mem_ne (x:=x) (y:=y) (fun h=>q3 (h.2.2.1)))
  have e3:(x.type==y.type)=false:=by simpa using q3
  clear q1 q2 q3
  go_enter Tryz.func67,Tryz.ntmps67
  go_wp2
  go_ret
  exact ⟨by rw[HD.out];rfl,zE _ _ _⟩
 have e3:(x.type==y.type)=true:=by simpa using q3
 by_cases q4:x.critical=y.critical
 case neg =>
  have HD:=zh (mem_ne (x:=x) (y:=y) (fun h=>q4 (h.2.2.2.1)))
  have e4:(x.critical==y.critical)=false:=by simpa using q4
  clear q1 q2 q3 q4
  go_enter Tryz.func67,Tryz.ntmps67
  go_wp2
  go_ret
  exact ⟨by rw[HD.out];rfl,zE _ _ _⟩
 have e4:(x.critical==y.critical)=true:=by simpa using q4
 by_cases q5:x.hasDef=y.hasDef
 case neg =>
  have HD:=zh (mem_ne (x:=x) (y:=y) (fun h=>q5 (h.2.2.2.2.1)))
  have e5:(x.hasDef==y.hasDef)=false:=by simpa using q5
  clear q1 q2 q3 q4 q5
  go_enter Tryz.func67,Tryz.ntmps67
  go_wp2
  go_ret
  exact ⟨by rw[HD.out];rfl,zE _ _ _⟩
 have e5:(x.hasDef==y.hasDef)=true:=by simpa using q5
 have HD:=zh (show decide (x=y)=decide (x.dflt=y.dflt) by
  rw[decide_eq_decide,mem_ext];exact ⟨fun h=>h.2.2.2.2.2,fun h=>⟨q1,q2,q3,q4,q5,h⟩⟩)
 clear q1 q2 q3 q4 q5
 go_enter Tryz.func67,Tryz.ntmps67
 go_wp2_with fail
 refine (rSame_all x.dflt y.dflt A1 c1 A2 c2 A3 c3 B1 d1 B2 d2 B3 d3 _ (HX.out.dflt.below (zE _ _ _)) (HY.out.dflt.below (zE _ _ _))).mono ?_;rintro e w2 ⟨rfl,hb2⟩;go_wp2;go_ret;exact ⟨by rw[HD.out];rfl,zO hb2⟩
def CapB (p:Nat) (names:Bool) (w:World):Prop:=w.cell? ⟨p,0,none⟩=some (.bool names)
theorem CapB.below {p:Nat} {names:Bool} {w w':World} (h:CapB p names w) (hb:Below w.heap.size w w'):CapB p names w':=zA hb h
def CapN (_:Nat) (_:Bool) (_:World):Prop:=True
theorem CapN.below {p:Nat} {names:Bool} {w w':World} (_:CapN p names w) (_:Below w.heap.size w w'):CapN p names w':=trivial
theorem equal1_cap (p:Nat) (names:Bool) (x y:MemD) (A1:zo) (c1:Nat) (A2:zo) (c2:Nat) (A3:zo) (c3:Nat) (B1:zo) (d1:Nat) (B2:zo) (d2:Nat) (B3:zo) (d3:Nat) (w:World) (hx:MemR w x A1 A2 A3) (hy:MemR w y B1 B2 B3) (_:CapN p names w) :
  Calls Tryz.prog 101 #[x.v A1 c1 A2 c2 A3 c3,y.v B1 d1 B2 d2 B3 d3] w (SamePost (memEq0 x y) w):=equal1_any x y A1 c1 A2 c2 A3 c3 B1 d1 B2 d2 B3 d3 w hx hy
theorem equalF_any (p:Nat) (names:Bool) (l m:List MemD) (A B:zo) (c d:Nat) (w:World) (hl:MemsR w A l) (hm:MemsR w B m) (hcap:CapN p names w) :
  Calls Tryz.prog 100 #[.slice A l.length c,.slice B m.length d,.func (.func 101) #[] #[]] w (SamePost (allEq (memEq0) l m) w):=by
 have hn:=hl.1.lt (by omega)
 by_cases hlen:l.length=m.length
 ·rw[←hlen]
  have hb0:((l.length:Int) != (l.length:Int))=false:=by simp
  have HL:=zh hl;have HM:=zh hm;have HE:=zh hlen;have HC:=zh hcap;clear hl hm hlen hcap
  go_enter Tryz.func100,Tryz.ntmps100
  go_wp2
  go_loopw [17] (fun i wr=>∃k:Nat,k≤l.length∧i = .int .i64 k∧Hid (∀j (h1:j<l.length) (h2:j<m.length),j<k→(memEq0) l[j] m[j]=true)∧Hid (Below w.heap.size w wr)) (fun i _=>l.length - (intOf i).toNat)
  case atStart=>exact ⟨0,by omega,rfl,(fun j _ _ h=>absurd h (by omega)),Below.refl _ _⟩
  case round =>
   obtain ⟨k,hk,rfl,htk,hbw⟩:=hrel
   by_cases hlt:k<l.length
   ·have hlt':k<m.length:=by have:=HE.out;omega
    obtain ⟨b,o,A1,c1,A2,c2,A3,c3,rfl,hr1,a0,a1,a2,a3,a4,a5,a6,a7,a8,a9,a10,a11,a12⟩:=(HL.out.below hbw.out).at13 hlt;obtain ⟨b',o',B1,d1,B2,d2,B3,d3,rfl,hr2,b0,b1,b2,b3,b4,b5,b6,b7,b8,b9,b10,b11,b12⟩:=(HM.out.below hbw.out).at13 hlt';have h1:(0:Int)≤(k:Int):=by omega
    have h2:(k:Int)<(l.length:Int):=by omega
    have hz1:=zN a0;have hz2:=zN b0;simp only at hz1 hz2;have HR1:=zh hr1;have HR2:=zh hr2;clear hr1 hr2
    cases he:(memEq0) l[k] m[k] with
    | true =>
     have HD:=zh he;clear he;go_wp2_with (go_at_call 101;refine (equal1_cap p names l[k] m[k] A1 c1 A2 c2 A3 c3 B1 d1 B2 d2 B3 d3 _ (HR1.out.below (zE _ _ _)) (HR2.out.below (zE _ _ _)) (HC.out.below (zB hbw.out (zE _ _ _)))).mono ?_;rintro e w2 ⟨rfl,hb2⟩;rw[HD.out]);go_roundw
     case rel =>
      refine ⟨k+1,by omega,by go_num,(fun j g1 g2 hj=>?_),zB hbw.out (zO hb2)⟩
      by_cases e:j=k
      ·subst e;exact HD.out
      ·exact htk.out j g1 g2 (by omega)
     case measure=>simp[intOf];omega
    | false =>
     have HD:=zh he;have HQ:=zh (allEq_no (memEq0) l m k hlt hlt' he);clear he;go_wp2_with (go_at_call 101;refine (equal1_cap p names l[k] m[k] A1 c1 A2 c2 A3 c3 B1 d1 B2 d2 B3 d3 _ (HR1.out.below (zE _ _ _)) (HR2.out.below (zE _ _ _)) (HC.out.below (zB hbw.out (zE _ _ _)))).mono ?_;rintro e w2 ⟨rfl,hb2⟩;rw[HD.out]);go_ret;exact ⟨by rw[HQ.out];rfl,zB hbw.out (zO hb2)⟩
   ·have HQ:=zh (allEq_yes (memEq0) l m HE.out fun k h1 h2=>htk.out k h1 h2 (by omega))
    go_wp2
    go_ret
    exact ⟨by rw[HQ.out];rfl,hbw.out⟩
 ·have hb0:((l.length:Int) != (m.length:Int))=true:=bne_iff_ne.2 (by omega)
  have HQ:=zh (allEq_len (memEq0) l m hlen);clear hlen
  go_enter Tryz.func100,Tryz.ntmps100
  go_wp2
  go_ret
  exact ⟨by rw[HQ.out];rfl,Below.refl _ _⟩
theorem OwnL.base {α:Type} {E size:Nat} {enc:α→List Value} {w:World} {base base':Nat} {v:Value} {l:List α} (h:OwnL E size enc w base v l) (hb:base'≤base):OwnL E size enc w base' v l:=by
 refine ⟨h.1,?_⟩
 rcases h.2 with h0|⟨g,cap,cur,hv,hg0,h1⟩
 ·exact .inl h0
 ·exact .inr ⟨g,cap,cur,hv,Nat.le_trans hb hg0,h1⟩
def OwnPost {α:Type} (E size:Nat) (enc:α→List Value) (l:List α) (w:World) (e:Ending) (w':World):Prop:=∃v,e = .returned v∧OwnL E size enc w' w.heap.size v l∧Below w.heap.size w w'
theorem toD_tail8 {t:TyD} (h:t.kind=8):toD t=t.mems.map (·.type)++[t.key]++[t.elem]:=by simp[toD,usesD,h,Function.comp_def]
theorem toD_tail1 {t:TyD} (h:t.kind=7∨t.kind=9):toD t=t.mems.map (·.type)++[t.elem]:=by rcases h with h|h <;> simp[toD,usesD,h,Function.comp_def]
theorem toD_tail0 {t:TyD} (h:t.kind<7∨9<t.kind):toD t=t.mems.map (·.type):=by
 simp only[toD,usesD];rw[if_neg (by omega),if_neg (by omega)];simp[Function.comp_def]
theorem scUses_any (t:TyD) (h9:t.kind≤9) (As:zo) (cs:Nat) (Am:zo) (cm:Nat) (w:World) (ht:TyR w t As Am) :
  Calls Tryz.prog 74 #[t.v As cs Am cm] w (OwnPost 3 1 encI (toD t) w):=by
 have hn:=ht.mems.1.lt (by omega)
 have HLM:=zh ht.mems.1;have HM:=zh ht.mems;clear ht
 go_enter Tryz.func74,Tryz.ntmps74
 go_wp2
 have HM1:=zh (HM.out.below (zD w (t.box As cs Am cm)));have HB1:=zh (zD w (t.box As cs Am cm));have HC1:Hid (∀j u,(t.cs As cs Am cm)[j]? = some u→(w.alloc (t.box As cs Am cm)).cell? ⟨w.heap.size,j,none⟩=some u):=fun j u hj=>by
  rw[cell_of_row _ _ _ _ _ _ (heap_alloc_new w _)];simpa using hj
 have HZ1:Hid (w.heap.size<(w.alloc (t.box As cs Am cm)).heap.size):=by show _<_;simp
 generalize (w.alloc (t.box As cs Am cm))=w1 at *
 go_loopw [9,3] (fun i a wr=>∃k:Nat,k≤t.mems.length∧i = .int .i64 k∧Hid (OwnL 3 1 encI wr w1.heap.size a ((t.mems.take k).map (fun m:MemD=>m.type))∧Below w1.heap.size w1 wr)) (fun i _ _=>t.mems.length - (intOf i).toNat)
 case atStart=>exact ⟨0,by omega,rfl,OwnL.nil _ _,Below.refl _ _⟩
 case round =>
  obtain ⟨k,hk,rfl,hh⟩:=hrel;obtain ⟨wo,rfl⟩:∃wo:World,wo=wr:=⟨_,rfl⟩;have hbl:=hh.out.2;have k0:=zA hbl (HC1.out 0 _ rfl);have k6:=zA hbl (HC1.out 6 _ rfl);have k7:=zA hbl (HC1.out 7 _ rfl);have k8:=zA hbl (HC1.out 8 _ rfl);have HBO:=zh (zB HB1.out hbl);have HBL:=zh hbl;have HOO:=zh hh.out.1;have hzz:w.heap.size<wo.heap.size:=Nat.lt_of_lt_of_le HZ1.out hbl.size;clear hbl
  by_cases hlt:k<t.mems.length
  ·obtain ⟨b,o,A1,c1,A2,c2,A3,c3,rfl,hr1,a0,a1,a2,a3,a4,a5,a6,a7,a8,a9,a10,a11,a12⟩:=HM1.out.at13 hlt
   clear hr1;have hb1:=zN a0;simp only at hb1;replace a0:=zA HBL.out a0;replace a1:=zA HBL.out a1;replace a2:=zA HBL.out a2;replace a3:=zA HBL.out a3;replace a4:=zA HBL.out a4;replace a5:=zA HBL.out a5;replace a6:=zA HBL.out a6;replace a7:=zA HBL.out a7;replace a8:=zA HBL.out a8;replace a9:=zA HBL.out a9;replace a10:=zA HBL.out a10;replace a11:=zA HBL.out a11;replace a12:=zA HBL.out a12
   have HT1:Hid (((t.mems.take (k+1)).map (fun m:MemD=>m.type))=((t.mems.take k).map (fun m:MemD=>m.type))++[(fun m:MemD=>m.type) t.mems[k]]):=by
    show _=_;rw[List.take_succ_eq_append_getElem hlt,List.map_append];rfl
   have HLN:Hid (k+1≤879609302220):=by have:=HLM.out;unfold Lim at this;show _≤_;omega
   have h1:(0:Int)≤(k:Int):=by omega
   have h2:(k:Int)<(t.mems.length:Int):=by omega
   have hz1:=zN a0;simp only at hz1;have HO2:Hid (OwnL 3 1 encI ((wo.alloc ((t.mems[k]).box A1 c1 A2 c2 A3 c3)).alloc (.cells #[.int .i64 (t.mems[k]).type] 3)) w1.heap.size u3 ((t.mems.take k).map (fun m:MemD=>m.type))):=OwnL.alloc (OwnL.alloc HOO.out _) _
   have HR2:Hid (((wo.alloc ((t.mems[k]).box A1 c1 A2 c2 A3 c3)).alloc (.cells #[.int .i64 (t.mems[k]).type] 3)).rangeAt (wo.heap.size+1) 0 [.int .i64 (t.mems[k]).type]):=zh (by have:=zT (wo.alloc ((t.mems[k]).box A1 c1 A2 c2 A3 c3)) [.int .i64 (t.mems[k]).type] 3;simpa using this)
   have HS2:Hid (w1.heap.size≤((wo.alloc ((t.mems[k]).box A1 c1 A2 c2 A3 c3)).alloc (.cells #[.int .i64 (t.mems[k]).type] 3)).heap.size):=by have:=HBL.out.size;show _≤_;simp;omega
   have HB2:Hid (Below w1.heap.size w1 ((wo.alloc ((t.mems[k]).box A1 c1 A2 c2 A3 c3)).alloc (.cells #[.int .i64 (t.mems[k]).type] 3))):=(HBL.out.alloc HBL.out.size _).alloc (by have:=HBL.out.size;simp;omega) _
   go_wp2_with (at_builtin;refine zR yF _ rfl (.tmp 13) (.tmp 16) rfl w1.heap.size _ _ _ rfl HO2.out (wo.heap.size+1) 0 1 1 [.int .i64 (t.mems[k]).type] rfl rfl HR2.out (by simp[Value.oneCell']) (by have:=HLN.out;simp;omega) (by have:=HLN.out;simp;omega) HS2.out ?_;intro v8 w8 ho8 hg8)
   go_roundw
   case rel=>exact ⟨k+1,by omega,by go_num,(by rw[HT1.out];exact OwnL.snoc (x:=(fun m:MemD=>m.type) t.mems[k]) ho8),HB2.out.grown hg8 HS2.out HO2.out.lt⟩
   case measure=>simp[intOf];omega
  ·have HOE:Hid (OwnL 3 1 encI wo w1.heap.size u3 (t.mems.map (fun m:MemD=>m.type))):=by have:=HOO.out;rwa [List.take_of_length_le (by omega)] at this
   have HLN:Hid (t.mems.length+2≤879609302223):=by have:=HLM.out;unfold Lim at this;show _≤_;omega
   have HW:Hid (w.heap.size≤w1.heap.size):=by have:=HZ1.out;show _≤_;omega
   clear HOO
   by_cases e8:t.kind=8
   ·have HD:=zh (toD_tail8 e8)
    have q8:(t.kind==8)=true:=by simp[e8]
    have q7:(t.kind==7)=false:=by simp[e8]
    have q6:decide (7≤t.kind)=true:=by simp[e8]
    clear e8;have HO3:Hid (OwnL 3 1 encI (World.alloc wo (.cells #[.int .i64 t.key] 3)) w1.heap.size _ _):=OwnL.alloc HOE.out _;have HR3:Hid ((World.alloc wo (.cells #[.int .i64 t.key] 3)).rangeAt wo.heap.size 0 [.int .i64 t.key]):=zT wo [.int .i64 t.key] 3
    have HB3:Hid (Below w1.heap.size w1 (World.alloc wo (.cells #[.int .i64 t.key] 3))∧w1.heap.size≤(World.alloc wo (.cells #[.int .i64 t.key] 3)).heap.size):=⟨Below.alloc HBL.out (Below.size HBL.out) _,by have:=Below.size HBL.out;simp;omega⟩
    go_wp2_with (first|(at_builtin;refine zR yF _ rfl (.tmp 22) (.tmp 25) rfl w1.heap.size _ _ _ rfl HO3.out wo.heap.size 0 1 1 [.int .i64 t.key] rfl rfl HR3.out (by simp[Value.oneCell']) (by have:=HLN.out;simp;omega) (by have:=HLN.out;simp;omega) HB3.out.2 ?_;intro v8 w8 ho8 hg8;have HO5:=zh (OwnL.snoc (x:=t.key) ho8);have HB5:=zh (HB3.out.1.grown hg8 HB3.out.2 HO3.out.lt);have HO4:Hid (OwnL 3 1 encI (World.alloc w8 (.cells #[.int .i64 t.elem] 3)) w1.heap.size _ _):=OwnL.alloc HO5.out _;have HR4:Hid ((World.alloc w8 (.cells #[.int .i64 t.elem] 3)).rangeAt w8.heap.size 0 [.int .i64 t.elem]):=zT w8 [.int .i64 t.elem] 3;have HB4:Hid (Below w1.heap.size w1 (World.alloc w8 (.cells #[.int .i64 t.elem] 3))∧w1.heap.size≤(World.alloc w8 (.cells #[.int .i64 t.elem] 3)).heap.size):=⟨Below.alloc HB5.out (Below.size HB5.out) _,by have:=Below.size HB5.out;simp;omega⟩;(try clear ho8);have g0:=zA HB5.out (HC1.out 0 _ rfl);have g8:=zA HB5.out (HC1.out 8 _ rfl))|(at_builtin;refine zR yF _ rfl (.tmp 30) (.tmp 33) rfl w1.heap.size _ _ _ rfl HO4.out w8.heap.size 0 1 1 [.int .i64 t.elem] rfl rfl HR4.out (by simp[Value.oneCell']) (by have:=HLN.out;simp;omega) (by have:=HLN.out;simp;omega) HB4.out.2 ?_;intro v9 w9 ho9 hg9))
    go_ret
    refine ⟨_,rfl,?_,zB HB1.out (HB4.out.1.grown hg9 HB4.out.2 HO4.out.lt)⟩;rw[HD.out];exact OwnL.base (OwnL.snoc (x:=t.elem) ho9) HW.out
   by_cases e7:t.kind=7
   ·have HD:=zh (toD_tail1 (t:=t) (by omega))
    have q7:(t.kind==7)=true:=by simp[e7]
    have q8:(t.kind==8)=false:=by simp[e7]
    have q9:(t.kind==9)=false:=by simp[e7]
    have q6:decide (7≤t.kind)=true:=by simp[e7]
    clear e7 e8;have HO3:Hid (OwnL 3 1 encI (World.alloc wo (.cells #[.int .i64 t.elem] 3)) w1.heap.size _ _):=OwnL.alloc HOE.out _;have HR3:Hid ((World.alloc wo (.cells #[.int .i64 t.elem] 3)).rangeAt wo.heap.size 0 [.int .i64 t.elem]):=zT wo [.int .i64 t.elem] 3
    have HB3:Hid (Below w1.heap.size w1 (World.alloc wo (.cells #[.int .i64 t.elem] 3))∧w1.heap.size≤(World.alloc wo (.cells #[.int .i64 t.elem] 3)).heap.size):=⟨Below.alloc HBL.out (Below.size HBL.out) _,by have:=Below.size HBL.out;simp;omega⟩
    go_wp2_with (at_builtin;refine zR yF _ rfl (.tmp 30) (.tmp 33) rfl w1.heap.size _ _ _ rfl HO3.out wo.heap.size 0 1 1 [.int .i64 t.elem] rfl rfl HR3.out (by simp[Value.oneCell']) (by have:=HLN.out;simp;omega) (by have:=HLN.out;simp;omega) HB3.out.2 ?_;intro v8 w8 ho8 hg8)
    go_ret
    refine ⟨_,rfl,?_,zB HB1.out (HB3.out.1.grown hg8 HB3.out.2 HO3.out.lt)⟩;rw[HD.out];exact OwnL.base (OwnL.snoc (x:=t.elem) ho8) HW.out
   by_cases e9:t.kind=9
   ·have HD:=zh (toD_tail1 (t:=t) (by omega))
    have q7:(t.kind==7)=false:=by simp[e9]
    have q8:(t.kind==8)=false:=by simp[e9]
    have q9:(t.kind==9)=true:=by simp[e9]
    have q6:decide (7≤t.kind)=true:=by simp[e9]
    clear e7 e8 e9;have HO3:Hid (OwnL 3 1 encI (World.alloc wo (.cells #[.int .i64 t.elem] 3)) w1.heap.size _ _):=OwnL.alloc HOE.out _;have HR3:Hid ((World.alloc wo (.cells #[.int .i64 t.elem] 3)).rangeAt wo.heap.size 0 [.int .i64 t.elem]):=zT wo [.int .i64 t.elem] 3
    have HB3:Hid (Below w1.heap.size w1 (World.alloc wo (.cells #[.int .i64 t.elem] 3))∧w1.heap.size≤(World.alloc wo (.cells #[.int .i64 t.elem] 3)).heap.size):=⟨Below.alloc HBL.out (Below.size HBL.out) _,by have:=Below.size HBL.out;simp;omega⟩
    go_wp2_with (at_builtin;refine zR yF _ rfl (.tmp 30) (.tmp 33) rfl w1.heap.size _ _ _ rfl HO3.out wo.heap.size 0 1 1 [.int .i64 t.elem] rfl rfl HR3.out (by simp[Value.oneCell']) (by have:=HLN.out;simp;omega) (by have:=HLN.out;simp;omega) HB3.out.2 ?_;intro v8 w8 ho8 hg8)
    go_ret
    refine ⟨_,rfl,?_,zB HB1.out (HB3.out.1.grown hg8 HB3.out.2 HO3.out.lt)⟩;rw[HD.out];exact OwnL.base (OwnL.snoc (x:=t.elem) ho8) HW.out
   have hk0:t.kind<7∨9<t.kind:=by omega
   have HD:=zh (toD_tail0 (t:=t) hk0);have q7:(t.kind==7)=false:=by simp[e7]
   have q8:(t.kind==8)=false:=by simp[e8]
   have q9:(t.kind==9)=false:=by simp[e9]
   have q6:decide (7≤t.kind)=false:=by simp;omega
   clear e7 e8 e9 hk0;go_wp2;go_ret;refine ⟨_,rfl,?_,HBO.out⟩;rw[HD.out];exact OwnL.base HOE.out HW.out
theorem rUses7_any (t:TyD) (As:zo) (cs:Nat) (Am:zo) (cm:Nat) (w:World) (ht:TyR w t As Am) :
  Calls Tryz.prog 79 #[t.v As cs Am cm] w (OwnPost 3 1 encI (toD t) w):=by
 have hn:=ht.mems.1.lt (by omega)
 have HLM:=zh ht.mems.1;have HM:=zh ht.mems;clear ht
 go_enter Tryz.func79,Tryz.ntmps79
 go_wp2
 have HM1:=zh (HM.out.below (zD w (t.box As cs Am cm)));have HB1:=zh (zD w (t.box As cs Am cm));have HC1:Hid (∀j u,(t.cs As cs Am cm)[j]? = some u→(w.alloc (t.box As cs Am cm)).cell? ⟨w.heap.size,j,none⟩=some u):=fun j u hj=>by
  rw[cell_of_row _ _ _ _ _ _ (heap_alloc_new w _)];simpa using hj
 have HZ1:Hid (w.heap.size<(w.alloc (t.box As cs Am cm)).heap.size):=by show _<_;simp
 generalize (w.alloc (t.box As cs Am cm))=w1 at *
 go_loopw [4,3] (fun i a wr=>∃k:Nat,k≤t.mems.length∧i = .int .i64 k∧Hid (OwnL 3 1 encI wr w1.heap.size a ((t.mems.take k).map (fun m:MemD=>m.type))∧Below w1.heap.size w1 wr)) (fun i _ _=>t.mems.length - (intOf i).toNat)
 case atStart=>exact ⟨0,by omega,rfl,OwnL.nil _ _,Below.refl _ _⟩
 case round =>
  obtain ⟨k,hk,rfl,hh⟩:=hrel;obtain ⟨wo,rfl⟩:∃wo:World,wo=wr:=⟨_,rfl⟩;have hbl:=hh.out.2;have k0:=zA hbl (HC1.out 0 _ rfl);have k6:=zA hbl (HC1.out 6 _ rfl);have k7:=zA hbl (HC1.out 7 _ rfl);have k8:=zA hbl (HC1.out 8 _ rfl);have HBO:=zh (zB HB1.out hbl);have HBL:=zh hbl;have HOO:=zh hh.out.1;have hzz:w.heap.size<wo.heap.size:=Nat.lt_of_lt_of_le HZ1.out hbl.size;clear hbl
  by_cases hlt:k<t.mems.length
  ·obtain ⟨b,o,A1,c1,A2,c2,A3,c3,rfl,hr1,a0,a1,a2,a3,a4,a5,a6,a7,a8,a9,a10,a11,a12⟩:=HM1.out.at13 hlt
   clear hr1;have hb1:=zN a0;simp only at hb1;replace a0:=zA HBL.out a0;replace a1:=zA HBL.out a1;replace a2:=zA HBL.out a2;replace a3:=zA HBL.out a3;replace a4:=zA HBL.out a4;replace a5:=zA HBL.out a5;replace a6:=zA HBL.out a6;replace a7:=zA HBL.out a7;replace a8:=zA HBL.out a8;replace a9:=zA HBL.out a9;replace a10:=zA HBL.out a10;replace a11:=zA HBL.out a11;replace a12:=zA HBL.out a12
   have HT1:Hid (((t.mems.take (k+1)).map (fun m:MemD=>m.type))=((t.mems.take k).map (fun m:MemD=>m.type))++[(fun m:MemD=>m.type) t.mems[k]]):=by
    show _=_;rw[List.take_succ_eq_append_getElem hlt,List.map_append];rfl
   have HLN:Hid (k+1≤879609302220):=by have:=HLM.out;unfold Lim at this;show _≤_;omega
   have h1:(0:Int)≤(k:Int):=by omega
   have h2:(k:Int)<(t.mems.length:Int):=by omega
   have hz1:=zN a0;simp only at hz1;have HO2:Hid (OwnL 3 1 encI (wo.alloc (.cells #[.int .i64 (t.mems[k]).type] 3)) w1.heap.size u3 ((t.mems.take k).map (fun m:MemD=>m.type))):=OwnL.alloc HOO.out _
   have HR2:Hid ((wo.alloc (.cells #[.int .i64 (t.mems[k]).type] 3)).rangeAt wo.heap.size 0 [.int .i64 (t.mems[k]).type]):=zh (by have:=zT wo [.int .i64 (t.mems[k]).type] 3;simpa using this)
   have HS2:Hid (w1.heap.size≤(wo.alloc (.cells #[.int .i64 (t.mems[k]).type] 3)).heap.size):=by have:=HBL.out.size;show _≤_;simp;omega
   have HB2:Hid (Below w1.heap.size w1 (wo.alloc (.cells #[.int .i64 (t.mems[k]).type] 3))):=HBL.out.alloc HBL.out.size _;go_wp2_with (at_builtin;refine zR yF _ rfl (.tmp 12) (.tmp 19) rfl w1.heap.size _ _ _ rfl HO2.out wo.heap.size 0 1 1 [.int .i64 (t.mems[k]).type] rfl rfl HR2.out (by simp[Value.oneCell']) (by have:=HLN.out;simp;omega) (by have:=HLN.out;simp;omega) HS2.out ?_;intro v8 w8 ho8 hg8)
   go_roundw
   case rel=>exact ⟨k+1,by omega,by go_num,(by rw[HT1.out];exact OwnL.snoc (x:=(fun m:MemD=>m.type) t.mems[k]) ho8),HB2.out.grown hg8 HS2.out HO2.out.lt⟩
   case measure=>simp[intOf];omega
  ·have HOE:Hid (OwnL 3 1 encI wo w1.heap.size u3 (t.mems.map (fun m:MemD=>m.type))):=by have:=HOO.out;rwa [List.take_of_length_le (by omega)] at this
   have HLN:Hid (t.mems.length+2≤879609302223):=by have:=HLM.out;unfold Lim at this;show _≤_;omega
   have HW:Hid (w.heap.size≤w1.heap.size):=by have:=HZ1.out;show _≤_;omega
   clear HOO
   by_cases e8:t.kind=8
   ·have HD:=zh (toD_tail8 e8)
    have q8:(t.kind==8)=true:=by simp[e8]
    have q7:(t.kind==7)=false:=by simp[e8]
    clear e8;have HO3:Hid (OwnL 3 1 encI (World.alloc wo (.cells #[.int .i64 t.key] 3)) w1.heap.size _ _):=OwnL.alloc HOE.out _;have HR3:Hid ((World.alloc wo (.cells #[.int .i64 t.key] 3)).rangeAt wo.heap.size 0 [.int .i64 t.key]):=zT wo [.int .i64 t.key] 3
    have HB3:Hid (Below w1.heap.size w1 (World.alloc wo (.cells #[.int .i64 t.key] 3))∧w1.heap.size≤(World.alloc wo (.cells #[.int .i64 t.key] 3)).heap.size):=⟨Below.alloc HBL.out (Below.size HBL.out) _,by have:=Below.size HBL.out;simp;omega⟩
    go_wp2_with (first|(at_builtin;refine zR yF _ rfl (.tmp 24) (.tmp 27) rfl w1.heap.size _ _ _ rfl HO3.out wo.heap.size 0 1 1 [.int .i64 t.key] rfl rfl HR3.out (by simp[Value.oneCell']) (by have:=HLN.out;simp;omega) (by have:=HLN.out;simp;omega) HB3.out.2 ?_;intro v8 w8 ho8 hg8;have HO5:=zh (OwnL.snoc (x:=t.key) ho8);have HB5:=zh (HB3.out.1.grown hg8 HB3.out.2 HO3.out.lt);have HO4:Hid (OwnL 3 1 encI (World.alloc w8 (.cells #[.int .i64 t.elem] 3)) w1.heap.size _ _):=OwnL.alloc HO5.out _;have HR4:Hid ((World.alloc w8 (.cells #[.int .i64 t.elem] 3)).rangeAt w8.heap.size 0 [.int .i64 t.elem]):=zT w8 [.int .i64 t.elem] 3;have HB4:Hid (Below w1.heap.size w1 (World.alloc w8 (.cells #[.int .i64 t.elem] 3))∧w1.heap.size≤(World.alloc w8 (.cells #[.int .i64 t.elem] 3)).heap.size):=⟨Below.alloc HB5.out (Below.size HB5.out) _,by have:=Below.size HB5.out;simp;omega⟩;(try clear ho8);have g0:=zA HB5.out (HC1.out 0 _ rfl);have g8:=zA HB5.out (HC1.out 8 _ rfl))|(at_builtin;refine zR yF _ rfl (.tmp 42) (.tmp 45) rfl w1.heap.size _ _ _ rfl HO4.out w8.heap.size 0 1 1 [.int .i64 t.elem] rfl rfl HR4.out (by simp[Value.oneCell']) (by have:=HLN.out;simp;omega) (by have:=HLN.out;simp;omega) HB4.out.2 ?_;intro v9 w9 ho9 hg9))
    go_ret
    refine ⟨_,rfl,?_,zB HB1.out (HB4.out.1.grown hg9 HB4.out.2 HO4.out.lt)⟩;rw[HD.out];exact OwnL.base (OwnL.snoc (x:=t.elem) ho9) HW.out
   by_cases e7:t.kind=7
   ·have HD:=zh (toD_tail1 (t:=t) (by omega))
    have q7:(t.kind==7)=true:=by simp[e7]
    have q8:(t.kind==8)=false:=by simp[e7]
    have q9:(t.kind==9)=false:=by simp[e7]
    clear e7 e8;have HO3:Hid (OwnL 3 1 encI (World.alloc wo (.cells #[.int .i64 t.elem] 3)) w1.heap.size _ _):=OwnL.alloc HOE.out _;have HR3:Hid ((World.alloc wo (.cells #[.int .i64 t.elem] 3)).rangeAt wo.heap.size 0 [.int .i64 t.elem]):=zT wo [.int .i64 t.elem] 3
    have HB3:Hid (Below w1.heap.size w1 (World.alloc wo (.cells #[.int .i64 t.elem] 3))∧w1.heap.size≤(World.alloc wo (.cells #[.int .i64 t.elem] 3)).heap.size):=⟨Below.alloc HBL.out (Below.size HBL.out) _,by have:=Below.size HBL.out;simp;omega⟩
    go_wp2_with (at_builtin;refine zR yF _ rfl (.tmp 42) (.tmp 45) rfl w1.heap.size _ _ _ rfl HO3.out wo.heap.size 0 1 1 [.int .i64 t.elem] rfl rfl HR3.out (by simp[Value.oneCell']) (by have:=HLN.out;simp;omega) (by have:=HLN.out;simp;omega) HB3.out.2 ?_;intro v8 w8 ho8 hg8)
    go_ret
    refine ⟨_,rfl,?_,zB HB1.out (HB3.out.1.grown hg8 HB3.out.2 HO3.out.lt)⟩;rw[HD.out];exact OwnL.base (OwnL.snoc (x:=t.elem) ho8) HW.out
   by_cases e9:t.kind=9
   ·have HD:=zh (toD_tail1 (t:=t) (by omega))
    have q7:(t.kind==7)=false:=by simp[e9]
    have q8:(t.kind==8)=false:=by simp[e9]
    have q9:(t.kind==9)=true:=by simp[e9]
    clear e7 e8 e9;have HO3:Hid (OwnL 3 1 encI (World.alloc wo (.cells #[.int .i64 t.elem] 3)) w1.heap.size _ _):=OwnL.alloc HOE.out _;have HR3:Hid ((World.alloc wo (.cells #[.int .i64 t.elem] 3)).rangeAt wo.heap.size 0 [.int .i64 t.elem]):=zT wo [.int .i64 t.elem] 3
    have HB3:Hid (Below w1.heap.size w1 (World.alloc wo (.cells #[.int .i64 t.elem] 3))∧w1.heap.size≤(World.alloc wo (.cells #[.int .i64 t.elem] 3)).heap.size):=⟨Below.alloc HBL.out (Below.size HBL.out) _,by have:=Below.size HBL.out;simp;omega⟩
    go_wp2_with (at_builtin;refine zR yF _ rfl (.tmp 42) (.tmp 45) rfl w1.heap.size _ _ _ rfl HO3.out wo.heap.size 0 1 1 [.int .i64 t.elem] rfl rfl HR3.out (by simp[Value.oneCell']) (by have:=HLN.out;simp;omega) (by have:=HLN.out;simp;omega) HB3.out.2 ?_;intro v8 w8 ho8 hg8)
    go_ret
    refine ⟨_,rfl,?_,zB HB1.out (HB3.out.1.grown hg8 HB3.out.2 HO3.out.lt)⟩;rw[HD.out];exact OwnL.base (OwnL.snoc (x:=t.elem) ho8) HW.out
   have hk0:t.kind<7∨9<t.kind:=by omega
   have HD:=zh (toD_tail0 (t:=t) hk0);have q7:(t.kind==7)=false:=by simp[e7]
   have q8:(t.kind==8)=false:=by simp[e8]
   have q9:(t.kind==9)=false:=by simp[e9]
   clear e7 e8 e9 hk0;go_wp2;go_ret;refine ⟨_,rfl,?_,HBO.out⟩;rw[HD.out];exact OwnL.base HOE.out HW.out
abbrev zboxV:Obj := .cells #[.int .i64 0,.bool false,.int .i64 0,.string ⟨#[]⟩,.int .i64 0,.slice none 0 0,.slice none 0 0,.slice none 0 0] 69
theorem tmp_al {W:World} {b:Nat} {o:Obj} (h:W.heap[b]? = some o) (o2:Obj):(W.alloc o2).heap[b]? = some o :=
 ((zD W o2).block b (zg.1 h).1).trans h
theorem Val.size_keys {x y:Val} (h:y∈x.keys):SizeOf.sizeOf y<SizeOf.sizeOf x:=by
 obtain ⟨k,b,i,s,d,ks,is,r⟩:=x;have:=List.sizeOf_lt_of_mem h;simp only[Val.keys] at this;simp only[Val.mk.sizeOf_spec]
 omega
theorem Val.size_items {x y:Val} (h:y∈x.items):SizeOf.sizeOf y<SizeOf.sizeOf x:=by
 obtain ⟨k,b,i,s,d,ks,is,r⟩:=x;have:=List.sizeOf_lt_of_mem h;simp only[Val.items] at this;simp only[Val.mk.sizeOf_spec]
 omega
theorem Val.at_one {w:World} {x:Val} {cs:List Value} (h:x.At w cs):cs.length=8∧∀u∈cs,u.oneCell'=true:=by
 obtain ⟨A1,c1,A2,c2,A3,c3,rfl,_⟩:=Val.at_iff.1 h;refine ⟨rfl,?_⟩
 intro u hu
 simp only[List.mem_cons,List.mem_nil_iff,or_false] at hu
 rcases hu with rfl|rfl|rfl|rfl|rfl|rfl|rfl|rfl <;> rfl
theorem RawD.at_one {x:RawD} {cs:List Value} (h:x.At cs):cs.length=2∧∀u∈cs,u.oneCell'=true:=by
 obtain ⟨_,rfl⟩:=h;refine ⟨rfl,?_⟩
 intro u hu
 simp only[List.mem_cons,List.mem_nil_iff,or_false] at hu
 rcases hu with rfl|rfl <;> rfl
structure CpSt (x:Val) (w:World) (H3:Nat) (A1:zo) (c1:Nat) (A2:zo) (c2:Nat) (A3:zo) (c3:Nat) (i j:Nat) (wr:World):Prop where
 box:wr.heap[w.heap.size]? = some (x.box A1 c1 A2 c2 A3 c3)
 res:wr.heap[w.heap.size+1]? = some zboxV
 bel:Below w.heap.size w wr
 hi:H3≤wr.heap.size
 lo:w.heap.size+2≤H3
 keys:RowSt 69 8 (fun u x cs=>Val.At u x cs) wr (w.heap.size+2) H3 w.heap.size A1 c1 x.keys i
 items:RowSt 69 8 (fun u x cs=>Val.At u x cs) wr (w.heap.size+2) H3 w.heap.size A2 c2 x.items j
 rest:RowSt 124 2 (fun _ x cs=>RawD.At x cs) wr (w.heap.size+2) H3 w.heap.size A3 c3 x.rest x.rest.length
 apart:∀g,(Value.slice A1 x.keys.length c1).ownBlock=some g→(Value.slice A2 x.items.length c2).ownBlock≠some g∧(Value.slice A3 x.rest.length c3).ownBlock≠some g
 apart2:∀g,(Value.slice A2 x.items.length c2).ownBlock=some g→(Value.slice A3 x.rest.length c3).ownBlock≠some g
theorem CpSt.below {x:Val} {w:World} {H3:Nat} {A1:zo} {c1:Nat} {A2:zo} {c2:Nat} {A3:zo} {c3:Nat} {i j:Nat} {wr w':World} (h:CpSt x w H3 A1 c1 A2 c2 A3 c3 i j wr) (hb:Below wr.heap.size wr w'):CpSt x w H3 A1 c1 A2 c2 A3 c3 i j w' :=
 ⟨(hb.block _ (zg.1 h.box).1).trans h.box,(hb.block _ (zg.1 h.res).1).trans h.res,zB h.bel hb,Nat.le_trans h.hi hb.size,h.lo,h.keys.below hb,h.items.below hb,h.rest.below hb,h.apart,h.apart2⟩
theorem CpSt.key {x:Val} {w:World} {H3:Nat} {A1:zo} {c1:Nat} {A2:zo} {c2:Nat} {A3:zo} {c3:Nat} {i j:Nat} {wr:World} (h:CpSt x w H3 A1 c1 A2 c2 A3 c3 i j wr) (hi:i<x.keys.length) {g:Nat} (hA:A1=some ⟨g,0,none⟩) {F1:zo} {f1:Nat} {F2:zo} {f2:Nat} {F3:zo} {f3:Nat} {B:Nat} (hB:H3≤B) (ho:Off (· < B) wr fun u=>ValR u x.keys[i] F1 F2 F3) :
  CpSt x w H3 A1 c1 A2 c2 A3 c3 (i+1) j (wr.setCells g (i * 8) ((x.keys[i]).cs F1 f1 F2 f2 F3 f3)):=by
 have hlt:=h.keys.lt (g:=g) (by rw[hA];rfl)
 have hown:(Value.slice A1 x.keys.length c1).ownBlock=some g:=by rw[hA];rfl
 have hlo:=h.lo;refine ⟨?_,?_,below_setsg g (by omega) _ _ _ h.bel,by rw[size_setCells];exact h.hi,h.lo,?_,?_,?_,h.apart,h.apart2⟩
 ·rw[yS (by omega)];exact h.box
 ·rw[yS (by omega)];exact h.res
 ·have:=h.keys.write hi hA (Nat.le_add_right _ _) (by omega) (x:=x.keys[i]) (cs:=(x.keys[i]).cs F1 f1 F2 f2 F3 f3) rfl ((ho.mono fun q _ hq=>by omega).imp fun u hu=>Val.at_iff.2 ⟨F1,f1,F2,f2,F3,f3,rfl,hu⟩)
  rwa [List.set_getElem_self] at this
 ·exact h.items.otherCells _ _ hlt.2.2 (by omega) (h.apart g hown).1
 ·exact h.rest.otherCells _ _ hlt.2.2 (by omega) (h.apart g hown).2
def Tab (w : World) : Prop := Lib.TabIs Tryz.prog w "internal/strconv.uint64pow10" .u64 Lib.pow10Tab
theorem Tab.below {w w':World} (h:Tab w) (hb:Below w.heap.size w w'):Tab w':=Lib.tabBelow_of_tabIs h w' hb
theorem itoa_any (n:Int) (hn:In64 n) (w:World) (ht:Tab w) :
  Calls Tryz.prog 45 #[.int .i64 n] w fun e w'=>e = .returned (.string (decB n))∧Below w.heap.size w w' :=
 (Tryz.strconv_Itoa n hn.1 hn.2 w ht).mono fun e w' ⟨he,k,os,hw⟩=>⟨he,by subst hw;exact Lib.below_grow _ _ (Nat.le_refl _) _ _⟩
section
variable {α:Type} {f:α→α}
end
section
variable {E k:Nat} {base g n c:Nat} {css:List (List Value)}
end
section
variable {α:Type} {E k:Nat} {at_:World→α→List Value→Prop} {wr:World} {base H3 H:Nat} {A:zo} {c:Nat} {l:List α} {i:Nat}
end
theorem SymD.at_one {x:SymD} {cs:List Value} (h:x.At cs):cs.length=2∧∀u∈cs,u.oneCell'=true:=by
 obtain ⟨_,rfl⟩:=h;refine ⟨rfl,?_⟩
 intro u hu
 simp only[List.mem_cons,List.mem_nil_iff,or_false] at hu
 rcases hu with rfl|rfl <;> rfl
theorem MemD.at_one {w:World} {x:MemD} {cs:List Value} (h:x.At w cs):cs.length=13∧∀u∈cs,u.oneCell'=true:=by
 obtain ⟨A1,c1,A2,c2,A3,c3,rfl,_⟩:=h;refine ⟨rfl,?_⟩
 intro u hu
 simp only[List.mem_cons,List.mem_nil_iff,or_false] at hu
 rcases hu with rfl|rfl|rfl|rfl|rfl|rfl|rfl|rfl|rfl|rfl|rfl|rfl|rfl <;> rfl
end Go.Proofs.YtdfolgmcggdjdaaGreatDoor


