/-
  append onto an own row, and where it is then; what is held off more blocks.
-/
import Derived.Test.YthkkllmmbefedaaGreatDoorQGA6
import Derived.Test.YthkkllmmbefedaaGreatDoorQGA2
import Derived.Test.YthkkllmmbefedaaGreatDoorQGA5
import Derived.Test.YthkkllmmbefedaaGreatDoorQGA3
import Derived.Lib.MinMax
namespace Go.Proofs.YthkkllmmbefedaaGreatDoor
open Go.RowKit
set_option maxHeartbeats 16000000
set_option maxRecDepth 100000
theorem zE {w w':World} {g:Nat} {o:Obj} (h:w.heap[g]? = some o) (hb:Below w.heap.size w w'):w'.heap[g]? = some o:=(hb.block _ (zg.1 h).1).trans h
theorem zG {W:World} {b:Nat} {t:TyD} {As:zo} {cs:Nat} {Am:zo} {cm:Nat} (h:TBox W b t As cs Am cm) :
  W.cell? ⟨b,0,none⟩=some (.int .i64 t.kind)∧W.cell? ⟨b,1,none⟩=some (.string t.name)∧W.cell? ⟨b,2,none⟩=some (.int .i64 t.low)∧W.cell? ⟨b,3,none⟩=some (.int .i64 t.high)∧W.cell? ⟨b,4,none⟩=some (.int .i64 t.max)∧W.cell? ⟨b,5,none⟩=some (.slice As t.syms.length cs)∧W.cell? ⟨b,6,none⟩=some (.slice Am t.mems.length cm)∧W.cell? ⟨b,7,none⟩=some (.int .i64 t.key)∧W.cell? ⟨b,8,none⟩=some (.int .i64 t.elem)∧W.cell? ⟨b,9,none⟩=some (.bool t.open_) :=
 ⟨h.cell 0,h.cell 1,h.cell 2,h.cell 3,h.cell 4,h.cell 5,h.cell 6,h.cell 7,h.cell 8,h.cell 9⟩
theorem free_any (n:Int) (w:World):Calls Tryz.prog 97 #[.int .i64 n] w fun e w'=>e = .returned (.bool (freeD n))∧w'=w:=by
 by_cases h1:1≤n
 ·have q1:(1:Int)≤n:=h1
  have HD:Hid (freeD n=decide (n≤1000)):=by show _=_;unfold freeD;simp[h1]
  clear h1
  go_enter Tryz.func97,Tryz.ntmps97
  go_wp2
  go_ret
  exact ⟨by rw[HD.out];rfl,rfl⟩
 ·have q1:¬ (1:Int)≤n:=h1
  have HD:Hid (freeD n=false):=by show _=_;unfold freeD;simp[h1]
  clear h1
  go_enter Tryz.func97,Tryz.ntmps97
  go_wp2
  go_ret
  exact ⟨by rw[HD.out];rfl,rfl⟩
theorem proper_any (v:Val) (h:1≤v.kind∧v.kind≤9) (A1:zo) (c1:Nat) (A2:zo) (c2:Nat) (A3:zo) (c3:Nat) (w:World) :
  Calls Tryz.prog 96 #[v.v A1 c1 A2 c2 A3 c3] w fun e w'=>e = .returned (.bool (zJ v))∧Below w.heap.size w w':=by
 have HBA:=zh (fun w=>bare_any v h A1 c1 A2 c2 A3 c3 w)
 have HB0:=zh (zD w (v.box A1 c1 A2 c2 A3 c3));have HX0:=zh (heap_alloc_new w (v.box A1 c1 A2 c2 A3 c3));have HPD:Hid (zJ v=(decide (v.bool=(bareD v).bool)&&decide (v.int=(bareD v).int)&&decide (v.str=(bareD v).str)&&decide (v.id=(bareD v).id)&&decide (v.keys.length=(bareD v).keys.length)&&decide (v.items.length=(bareD v).items.length)&&decide (v.rest.length=(bareD v).rest.length))):=rfl;clear h
 go_enter Tryz.func96,Tryz.ntmps96
 go_wp2_with fail
 refine (HBA.out _).mono ?_;rintro e w1 ⟨B1,d1,B2,d2,B3,d3,rfl,hb1⟩;clear HBA;generalize bareD v=B at *;have HX1:=zE HX0.out hb1;have HB1:=zh (zB HB0.out hb1);have hlt:w.heap.size<w1.heap.size:=(zg.1 HX1).1;have x1:w1.cell? ⟨w.heap.size,1,none⟩=some (.bool v.bool):=by rw[cell_of_row _ _ _ _ _ _ HX1];rfl
 have x2:w1.cell? ⟨w.heap.size,2,none⟩=some (.int .i64 v.int):=by rw[cell_of_row _ _ _ _ _ _ HX1];rfl
 have x3:w1.cell? ⟨w.heap.size,3,none⟩=some (.string v.str):=by rw[cell_of_row _ _ _ _ _ _ HX1];rfl
 have x4:w1.cell? ⟨w.heap.size,4,none⟩=some (.int .i64 v.id):=by rw[cell_of_row _ _ _ _ _ _ HX1];rfl
 have x5:w1.cell? ⟨w.heap.size,5,none⟩=some (.slice A1 v.keys.length c1):=by rw[cell_of_row _ _ _ _ _ _ HX1];rfl
 have x6:w1.cell? ⟨w.heap.size,6,none⟩=some (.slice A2 v.items.length c2):=by rw[cell_of_row _ _ _ _ _ _ HX1];rfl
 have x7:w1.cell? ⟨w.heap.size,7,none⟩=some (.slice A3 v.rest.length c3):=by rw[cell_of_row _ _ _ _ _ _ HX1];rfl
 have HBN:=zh (fun o=>zB HB1.out (zD w1 o))
 clear hb1 HX1
 by_cases q1:v.bool=B.bool
 case neg =>
  have HD:Hid (zJ v=false):=by show _=_;rw[HPD.out];simp[q1]
  have e1:(v.bool==B.bool)=false:=by simpa using q1
  clear q1;go_wp2;go_ret;exact ⟨by rw[HD.out];rfl,HBN.out _⟩
 have e1:(v.bool==B.bool)=true:=by simpa using q1
 by_cases q2:v.int=B.int
 case neg =>
  have HD:Hid (zJ v=false):=by show _=_;rw[HPD.out];simp[q2]
  have e2:(v.int==B.int)=false:=by simpa using q2
  clear q1 q2;go_wp2;go_ret;exact ⟨by rw[HD.out];rfl,HBN.out _⟩
 have e2:(v.int==B.int)=true:=by simpa using q2
 by_cases q3:v.str=B.str
 case neg =>
  have HD:Hid (zJ v=false):=by show _=_;rw[HPD.out];simp[q3]
  have e3:(v.str.toList==B.str.toList)=false:=by rw[bytes_beq];exact decide_eq_false q3
  clear q1 q2 q3;go_wp2;go_ret;exact ⟨by rw[HD.out];rfl,HBN.out _⟩
 have e3:(v.str.toList==B.str.toList)=true:=by rw[bytes_beq];exact decide_eq_true q3
 by_cases q4:v.id=B.id
 case neg =>
  have HD:Hid (zJ v=false):=by show _=_;rw[HPD.out];simp[q4]
  have e4:(v.id==B.id)=false:=by simpa using q4
  clear q1 q2 q3 q4;go_wp2;go_ret;exact ⟨by rw[HD.out];rfl,HBN.out _⟩
 have e4:(v.id==B.id)=true:=by simpa using q4
 by_cases q5:v.keys.length=B.keys.length
 case neg =>
  have HD:Hid (zJ v=false):=by show _=_;rw[HPD.out];simp[q5]
  have e5:((v.keys.length:Int)==(B.keys.length:Int))=false:=beq_eq_false_iff_ne.2 (by omega)
  clear q1 q2 q3 q4 q5;go_wp2;go_ret;exact ⟨by rw[HD.out];rfl,HBN.out _⟩
 have e5:((v.keys.length:Int)==(B.keys.length:Int))=true:=beq_iff_eq.2 (by omega)
 by_cases q6:v.items.length=B.items.length
 case neg =>
  have HD:Hid (zJ v=false):=by show _=_;rw[HPD.out];simp[q6]
  have e6:((v.items.length:Int)==(B.items.length:Int))=false:=beq_eq_false_iff_ne.2 (by omega)
  clear q1 q2 q3 q4 q5 q6;go_wp2;go_ret;exact ⟨by rw[HD.out];rfl,HBN.out _⟩
 have e6:((v.items.length:Int)==(B.items.length:Int))=true:=beq_iff_eq.2 (by omega)
 by_cases q7:v.rest.length=B.rest.length
 case neg =>
  have HD:Hid (zJ v=false):=by show _=_;rw[HPD.out];simp[q7]
  have e7:((v.rest.length:Int)==(B.rest.length:Int))=false:=beq_eq_false_iff_ne.2 (by omega)
  clear q1 q2 q3 q4 q5 q6 q7;go_wp2;go_ret;exact ⟨by rw[HD.out];rfl,HBN.out _⟩
 have e7:((v.rest.length:Int)==(B.rest.length:Int))=true:=beq_iff_eq.2 (by omega)
 have HD:Hid (zJ v=true):=by show _=_;rw[HPD.out];simp[q1,q2,q3,q4,q5,q6,q7]
 clear q1 q2 q3 q4 q5 q6 q7;go_wp2;go_ret;exact ⟨by rw[HD.out];rfl,HBN.out _⟩
def idxD {α:Type} (p:α→Bool):List α→Int
 | [] => -1
 | x::r=>if p x then 0 else if idxD p r<0 then -1 else idxD p r+1
theorem idxD_lt {α:Type} (p:α→Bool):∀l:List α,idxD p l = -1∨(0≤idxD p l∧idxD p l<l.length)
 | [] => .inl rfl
 | x::r=>by
  have h:=idxD_lt p r;unfold idxD
  split
  ·right;simp only[List.length_cons];omega
  ·split
   ·exact .inl rfl
   ·right;simp only[List.length_cons];omega
theorem idxD_at {α:Type} {p:α→Bool}:∀ (l:List α) (k:Nat) (hk:k<l.length),(∀j (h:j<l.length),j<k→p l[j]=false)→p l[k]=true→idxD p l=(k:Int)
 | [],_,hk,_,_=>by cases hk
 | x::r,0,_,_,h=>by
  have h':p x=true:=h;unfold idxD;rw[if_pos h'];rfl
 | x::r,k+1,hk,hn,h=>by
  have hx:p x=false:=hn 0 (by simp) (by omega)
  have ih:=idxD_at r k (by simpa using hk) (fun j h1 h2=>hn (j+1) (by simpa using h1) (by omega)) h
  unfold idxD;rw[hx,if_neg (by simp),ih,if_neg (by omega)]
  omega
theorem idxD_none {α:Type} {p:α→Bool}:∀ (l:List α),(∀j (h:j<l.length),p l[j]=false)→idxD p l = -1
 | [],_=>rfl
 | x::r,hn=>by
  have hx:p x=false:=hn 0 (by simp)
  have ih:=idxD_none r (fun j h1=>hn (j+1) (by simpa using h1))
  unfold idxD;rw[hx,if_neg (by simp),ih]
  rfl
theorem sym1_any (n:Int) (q:Nat) (y:SymD) (w:World) (hq:w.cell? ⟨q,0,none⟩=some (.int .i64 n)) :
  Calls Tryz.prog 102 #[.agg #[.int .i64 y.id,.string y.name],.pointer (some ⟨q,0,none⟩)] w fun e w'=>e = .returned (.bool (decide (y.id=n)))∧Below w.heap.size w w':=by
 have hlt:=zL hq;simp only at hlt;have HB:=zh (fun o=>zD w o)
 have HQ:Hid ((y.id==n)=decide (y.id=n)):=rfl
 go_enter Tryz.func102,Tryz.ntmps102
 go_wp2
 go_ret
 exact ⟨by first|rfl|(rw[←HQ.out];rfl),HB.out _⟩
theorem mem1_any (n:Int) (q:Nat) (y:MemD) (A1:zo) (c1:Nat) (A2:zo) (c2:Nat) (A3:zo) (c3:Nat) (w:World) (hq:w.cell? ⟨q,0,none⟩=some (.int .i64 n)) :
  Calls Tryz.prog 93 #[y.v A1 c1 A2 c2 A3 c3,.pointer (some ⟨q,0,none⟩)] w fun e w'=>e = .returned (.bool (decide (y.id=n)))∧Below w.heap.size w w':=by
 have hlt:=zL hq;simp only at hlt;have HB:=zh (fun o=>zD w o)
 go_enter Tryz.func93,Tryz.ntmps93
 go_wp2
 go_ret
 exact ⟨rfl,HB.out _⟩
theorem idxSym_any (n:Int) (q:Nat) (l:List SymD) (A:zo) (c:Nat) (w:World) (hl:SymsR w A l) (hq:w.cell? ⟨q,0,none⟩=some (.int .i64 n)) :
  Calls Tryz.prog 101 #[.slice A l.length c,.func (.func 102) #[] #[.pointer (some ⟨q,0,none⟩)]] w fun e w'=>e = .returned (.int .i64 (idxD (fun y:SymD=>decide (y.id=n)) l))∧Below w.heap.size w w':=by
 have hln:=hl.1.lt (by omega)
 have HL:=zh hl;have HQ:=zh hq;clear hl hq
 go_enter Tryz.func101,Tryz.ntmps101
 go_wp2
 go_loopw [8] (fun i wr=>∃k:Nat,k≤l.length∧i = .int .i64 (k:Int)∧Hid ((∀j (h:j<l.length),j<k→decide ((l[j]).id=n)=false)∧Below w.heap.size w wr)) (fun i _=>l.length - (intOf i).toNat)
 case atStart=>exact ⟨0,by omega,rfl,(fun j _ h=>absurd h (by omega)),Below.refl _ _⟩
 case round =>
  obtain ⟨k,hk,rfl,hh⟩:=hrel
  by_cases hlt:k<l.length
  ·obtain ⟨b,o,rfl,hr1,a0,a1⟩:=(HL.out.below hh.out.2).at2 hlt
   clear hr1;have h1:(0:Int)≤(k:Int):=by omega
   have h2:(k:Int)<(l.length:Int):=by omega
   cases he:decide ((l[k]).id=n) with
   | true =>
    have HD:=zh he;have HI:=zh (idxD_at (p:=fun y:SymD=>decide (y.id=n)) l k hlt hh.out.1 he)
    clear he;go_wp2_with (go_at_call 102;refine (sym1_any n q l[k] _ (zA hh.out.2 HQ.out)).mono ?_;rintro e w2 ⟨rfl,hb2⟩;rw[HD.out]);go_ret;exact ⟨by rw[HI.out];rfl,zB hh.out.2 hb2⟩
   | false =>
    have HD:=zh he;have HN:Hid (∀j (h:j<l.length),j<k+1→decide ((l[j]).id=n)=false):=fun j h hj=>by
     by_cases e:j=k
     ·subst e;exact he
     ·exact hh.out.1 j h (by omega)
    clear he;go_wp2_with (go_at_call 102;refine (sym1_any n q l[k] _ (zA hh.out.2 HQ.out)).mono ?_;rintro e w2 ⟨rfl,hb2⟩;rw[HD.out]);go_roundw
    case rel=>exact ⟨k+1,by omega,by go_num,HN.out,zB hh.out.2 hb2⟩
    case measure=>simp[intOf];omega
  ·have HI:=zh (idxD_none (p:=fun y:SymD=>decide (y.id=n)) l fun j h=>hh.out.1 j h (by omega))
   go_wp2
   go_ret
   exact ⟨by rw[HI.out];rfl,hh.out.2⟩
theorem idxMem_any (n:Int) (q:Nat) (l:List MemD) (A:zo) (c:Nat) (w:World) (hl:MemsR w A l) (hq:w.cell? ⟨q,0,none⟩=some (.int .i64 n)) :
  Calls Tryz.prog 92 #[.slice A l.length c,.func (.func 93) #[] #[.pointer (some ⟨q,0,none⟩)]] w fun e w'=>e = .returned (.int .i64 (idxD (fun y:MemD=>decide (y.id=n)) l))∧Below w.heap.size w w':=by
 have hln:=hl.1.lt (by omega)
 have HL:=zh hl;have HQ:=zh hq;clear hl hq
 go_enter Tryz.func92,Tryz.ntmps92
 go_wp2
 go_loopw [8] (fun i wr=>∃k:Nat,k≤l.length∧i = .int .i64 (k:Int)∧Hid ((∀j (h:j<l.length),j<k→decide ((l[j]).id=n)=false)∧Below w.heap.size w wr)) (fun i _=>l.length - (intOf i).toNat)
 case atStart=>exact ⟨0,by omega,rfl,(fun j _ h=>absurd h (by omega)),Below.refl _ _⟩
 case round =>
  obtain ⟨k,hk,rfl,hh⟩:=hrel
  by_cases hlt:k<l.length
  ·obtain ⟨b,o,A1,c1,A2,c2,A3,c3,rfl,hr1,a0,a1,a2,a3,a4,a5,a6,a7,a8,a9,a10,a11,a12⟩:=(HL.out.below hh.out.2).at13 hlt
   clear hr1;have h1:(0:Int)≤(k:Int):=by omega
   have h2:(k:Int)<(l.length:Int):=by omega
   cases he:decide ((l[k]).id=n) with
   | true =>
    have HD:=zh he;have HI:=zh (idxD_at (p:=fun y:MemD=>decide (y.id=n)) l k hlt hh.out.1 he)
    clear he;go_wp2_with (go_at_call 93;refine (mem1_any n q l[k] A1 c1 A2 c2 A3 c3 _ (zA hh.out.2 HQ.out)).mono ?_;rintro e w2 ⟨rfl,hb2⟩;rw[HD.out]);go_ret;exact ⟨by rw[HI.out];rfl,zB hh.out.2 hb2⟩
   | false =>
    have HD:=zh he;have HN:Hid (∀j (h:j<l.length),j<k+1→decide ((l[j]).id=n)=false):=fun j h hj=>by
     by_cases e:j=k
     ·subst e;exact he
     ·exact hh.out.1 j h (by omega)
    clear he;go_wp2_with (go_at_call 93;refine (mem1_any n q l[k] A1 c1 A2 c2 A3 c3 _ (zA hh.out.2 HQ.out)).mono ?_;rintro e w2 ⟨rfl,hb2⟩;rw[HD.out]);go_roundw
    case rel=>exact ⟨k+1,by omega,by go_num,HN.out,zB hh.out.2 hb2⟩
    case measure=>simp[intOf];omega
  ·have HI:=zh (idxD_none (p:=fun y:MemD=>decide (y.id=n)) l fun j h=>hh.out.1 j h (by omega))
   go_wp2
   go_ret
   exact ⟨by rw[HI.out];rfl,hh.out.2⟩
theorem scSym_any (n:Int) (t:TyD) (As:zo) (cs:Nat) (Am:zo) (cm:Nat) (w:World) (ht:TyR w t As Am) :
  Calls Tryz.prog 68 #[t.v As cs Am cm,.int .i64 n] w fun e w'=>e = .returned (.tuple #[.int .i64 (if idxD (fun y:SymD=>decide (y.id=n)) t.syms<0 then 0 else idxD (fun y:SymD=>decide (y.id=n)) t.syms),.bool (decide (0≤idxD (fun y:SymD=>decide (y.id=n)) t.syms))])∧Below w.heap.size w w':=by
 have HT:=zh (ht.below (zI w (t.box As cs Am cm) (.cells #[.int .i64 n] 3)));have HB:=zh (zI w (t.box As cs Am cm) (.cells #[.int .i64 n] 3));have HQ:Hid (((w.alloc (t.box As cs Am cm)).alloc (.cells #[.int .i64 n] 3)).cell? ⟨w.heap.size+1,0,none⟩=some (.int .i64 n)):=by
  show _=_
  have:=zR (w.alloc (t.box As cs Am cm)) [.int .i64 n] 3 0 _ rfl;simp
 clear ht;have HI:=idxD_lt (fun y:SymD=>decide (y.id=n)) t.syms
 obtain ⟨r,hre⟩:∃r,idxD (fun y:SymD=>decide (y.id=n)) t.syms=r:=⟨_,rfl⟩
 have HRE:=zh hre;rw[hre] at HI ⊢;clear hre;have hHI:=zh HI;clear HI
 go_enter Tryz.func68,Tryz.ntmps68
 go_wp2_with fail
 refine (idxSym_any n (w.heap.size+1) t.syms _ _ _ (HT.out.syms) HQ.out).mono ?_;rintro e w2 ⟨rfl,hb2⟩;rw[HRE.out];have HBF:=zh (zB HB.out hb2);clear hb2 HRE;have HI:=hHI.out;clear hHI
 by_cases hr:r<0
 ·have HR:Hid ((if r<0 then 0 else r)=0):=if_pos hr
  have HR2:Hid (decide (0≤r)=false):=decide_eq_false (by omega)
  obtain rfl:r = -1:=by omega
  clear hr HI;have q2:max (-1:Int) 0=0:=by decide
  go_wp2
  go_ret2
  exact ⟨by first|rfl|(rw[HR2.out];rfl)|(rw[HR.out];rfl)|(rw[HR.out,HR2.out];rfl),HBF.out⟩
 ·have HR:Hid ((if r<0 then 0 else r)=r):=if_neg hr
  have HR2:Hid (decide (0≤r)=true):=decide_eq_true (by omega)
  have q1:(0:Int)≤r:=by omega
  have q2:max r 0=r:=by omega
  clear hr HI;go_wp2;go_ret2;exact ⟨by first|rfl|(rw[HR2.out];rfl)|(rw[HR.out];rfl)|(rw[HR.out,HR2.out];rfl),HBF.out⟩
theorem scMem_any (n:Int) (t:TyD) (As:zo) (cs:Nat) (Am:zo) (cm:Nat) (w:World) (ht:TyR w t As Am) :
  Calls Tryz.prog 58 #[t.v As cs Am cm,.int .i64 n] w fun e w'=>e = .returned (.tuple #[.int .i64 (if idxD (fun y:MemD=>decide (y.id=n)) t.mems<0 then 0 else idxD (fun y:MemD=>decide (y.id=n)) t.mems),.bool (decide (0≤idxD (fun y:MemD=>decide (y.id=n)) t.mems))])∧Below w.heap.size w w':=by
 have HT:=zh (ht.below (zI w (t.box As cs Am cm) (.cells #[.int .i64 n] 3)));have HB:=zh (zI w (t.box As cs Am cm) (.cells #[.int .i64 n] 3));have HQ:Hid (((w.alloc (t.box As cs Am cm)).alloc (.cells #[.int .i64 n] 3)).cell? ⟨w.heap.size+1,0,none⟩=some (.int .i64 n)):=by
  show _=_
  have:=zR (w.alloc (t.box As cs Am cm)) [.int .i64 n] 3 0 _ rfl;simp
 clear ht;have HI:=idxD_lt (fun y:MemD=>decide (y.id=n)) t.mems
 obtain ⟨r,hre⟩:∃r,idxD (fun y:MemD=>decide (y.id=n)) t.mems=r:=⟨_,rfl⟩
 have HRE:=zh hre;rw[hre] at HI ⊢;clear hre;have hHI:=zh HI;clear HI
 go_enter Tryz.func58,Tryz.ntmps58
 go_wp2_with fail
 refine (idxMem_any n (w.heap.size+1) t.mems _ _ _ (HT.out.mems) HQ.out).mono ?_;rintro e w2 ⟨rfl,hb2⟩;rw[HRE.out];have HBF:=zh (zB HB.out hb2);clear hb2 HRE;have HI:=hHI.out;clear hHI
 by_cases hr:r<0
 ·have HR:Hid ((if r<0 then 0 else r)=0):=if_pos hr
  have HR2:Hid (decide (0≤r)=false):=decide_eq_false (by omega)
  obtain rfl:r = -1:=by omega
  clear hr HI;have q2:max (-1:Int) 0=0:=by decide
  go_wp2
  go_ret2
  exact ⟨by first|rfl|(rw[HR2.out];rfl)|(rw[HR.out];rfl)|(rw[HR.out,HR2.out];rfl),HBF.out⟩
 ·have HR:Hid ((if r<0 then 0 else r)=r):=if_neg hr
  have HR2:Hid (decide (0≤r)=true):=decide_eq_true (by omega)
  have q1:(0:Int)≤r:=by omega
  have q2:max r 0=r:=by omega
  clear hr HI;go_wp2;go_ret2;exact ⟨by first|rfl|(rw[HR2.out];rfl)|(rw[HR.out];rfl)|(rw[HR.out,HR2.out];rfl),HBF.out⟩
def FitAt (s:List TyD) (A:zo) (c:Nat) (plain:Bool) (n:Nat):Prop:=∀ (t:Int) (v:Val) (A1:zo) (c1:Nat) (A2:zo) (c2:Nat) (A3:zo) (c3:Nat) (w:World),SizeOf.sizeOf v≤n→TysR w A s→ValR w v A1 A2 A3 →
 Calls Tryz.prog 65 #[.agg #[.slice A s.length c],.int .i64 t,v.v A1 c1 A2 c2 A3 c3,.bool plain] w fun e w'=>e = .returned (.bool (fitF s plain n t v))∧Below w.heap.size w w'
def Cap3 (s:List TyD) (A:zo) (c:Nat) (t:Int) (plain:Bool) (p1 p2 p3:Nat) (w:World):Prop :=
 w.cell? ⟨p1,0,none⟩=some (.slice A s.length c)∧w.cell? ⟨p2,0,none⟩=some (.int .i64 t)∧w.cell? ⟨p3,0,none⟩=some (.bool plain)
theorem Cap3.below {s:List TyD} {A:zo} {c:Nat} {t:Int} {plain:Bool} {p1 p2 p3:Nat} {w w':World} (h:Cap3 s A c t plain p1 p2 p3 w) (hb:Below w.heap.size w w'):Cap3 s A c t plain p1 p2 p3 w':=⟨zA hb h.1,zA hb h.2.1,zA hb h.2.2⟩
section
variable {s:List TyD} {A:zo} {c:Nat} {plain:Bool} {n:Nat}
theorem each1_any (hf:FitAt s A c plain n) (t:Int) (p1 p2 p3:Nat) (v:Val) (A1:zo) (c1:Nat) (A2:zo) (c2:Nat) (A3:zo) (c3:Nat) (w:World) (hv:SizeOf.sizeOf v≤n) (hs:TysR w A s) (hr:ValR w v A1 A2 A3) (hc:Cap3 s A c t plain p1 p2 p3 w) :
  Calls Tryz.prog 148 #[v.v A1 c1 A2 c2 A3 c3,.pointer (some ⟨p1,0,none⟩),.pointer (some ⟨p2,0,none⟩),.pointer (some ⟨p3,0,none⟩)] w fun e w'=>e = .returned (.bool (!fitF s plain n t v))∧Below w.heap.size w w':=by
 have HF:=zh hf;have HS:=zh (hs.below (zD w (v.box A1 c1 A2 c2 A3 c3)));have HR:=zh (hr.below (zD w (v.box A1 c1 A2 c2 A3 c3)));have HB:=zh (zD w (v.box A1 c1 A2 c2 A3 c3));obtain ⟨x1,x2,x3⟩:=hc;have l1:=zL x1;have l2:=zL x2;have l3:=zL x3;simp only at l1 l2 l3;clear hf hs hr
 go_enter Tryz.func148,Tryz.ntmps148
 go_wp2_with fail
 refine (HF.out t v A1 c1 A2 c2 A3 c3 _ hv HS.out HR.out).mono ?_;rintro e w2 ⟨rfl,hb2⟩;have HB2:=zh (zB HB.out hb2);clear hb2 x1 x2 x3;go_wp2;go_ret;exact ⟨rfl,HB2.out⟩
theorem idxV_any (hf:FitAt s A c plain n) (t:Int) (p1 p2 p3:Nat) (l:List Val) (B:zo) (d:Nat) (w:World) (hv:∀y∈l,SizeOf.sizeOf y≤n) (hs:TysR w A s) (hl:ValsR w B l) (hc:Cap3 s A c t plain p1 p2 p3 w) :
  Calls Tryz.prog 171 #[.slice B l.length d,.func (.func 148) #[] #[.pointer (some ⟨p1,0,none⟩),.pointer (some ⟨p2,0,none⟩),.pointer (some ⟨p3,0,none⟩)]] w fun e w'=>e = .returned (.int .i64 (idxD (fun y => !fitF s plain n t y) l))∧Below w.heap.size w w':=by
 have hln:=hl.1.lt (by omega)
 have HL:=zh hl;have HS:=zh hs;have HC:=zh hc;have HF:=zh hf;have HV:=zh hv;clear hl hs hc hf hv
 go_enter Tryz.func171,Tryz.ntmps171
 go_wp2
 go_loopw [8] (fun i wr=>∃k:Nat,k≤l.length∧i = .int .i64 (k:Int)∧Hid ((∀j (h:j<l.length),j<k→(!fitF s plain n t l[j])=false)∧Below w.heap.size w wr)) (fun i _=>l.length - (intOf i).toNat)
 case atStart=>exact ⟨0,by omega,rfl,(fun j _ h=>absurd h (by omega)),Below.refl _ _⟩
 case round =>
  obtain ⟨k,hk,rfl,hh⟩:=hrel
  by_cases hlt:k<l.length
  ·obtain ⟨b,o,A1,c1,A2,c2,A3,c3,rfl,hr1,a0,a1,a2,a3,a4,a5,a6,a7⟩:=(HL.out.below hh.out.2).at8 hlt
   have HR:=zh hr1;have HVK:=zh (HV.out _ (List.getElem_mem hlt));clear hr1;have h1:(0:Int)≤(k:Int):=by omega
   have h2:(k:Int)<(l.length:Int):=by omega
   cases he:(!fitF s plain n t l[k]) with
   | true =>
    have HD:=zh he;have HI:=zh (idxD_at (p:=fun y => !fitF s plain n t y) l k hlt hh.out.1 he)
    clear he;go_wp2_with (go_at_call 148;refine (each1_any HF.out t p1 p2 p3 l[k] A1 c1 A2 c2 A3 c3 wr HVK.out (HS.out.below hh.out.2) HR.out (HC.out.below hh.out.2)).mono ?_;rintro e w2 ⟨rfl,hb2⟩;rw[HD.out]);go_ret;exact ⟨by rw[HI.out];rfl,zB hh.out.2 hb2⟩
   | false =>
    have HD:=zh he;have HN:Hid (∀j (h:j<l.length),j<k+1→(!fitF s plain n t l[j])=false):=fun j h hj=>by
     by_cases e:j=k
     ·subst e;exact he
     ·exact hh.out.1 j h (by omega)
    clear he;go_wp2_with (go_at_call 148;refine (each1_any HF.out t p1 p2 p3 l[k] A1 c1 A2 c2 A3 c3 wr HVK.out (HS.out.below hh.out.2) HR.out (HC.out.below hh.out.2)).mono ?_;rintro e w2 ⟨rfl,hb2⟩;rw[HD.out]);go_roundw
    case rel=>exact ⟨k+1,by omega,by go_num,HN.out,zB hh.out.2 hb2⟩
    case measure=>simp[intOf];omega
  ·have HI:=zh (idxD_none (p:=fun y => !fitF s plain n t y) l fun j h=>hh.out.1 j h (by omega))
   go_wp2
   go_ret
   exact ⟨by rw[HI.out];rfl,hh.out.2⟩
theorem idxD_any {α:Type} {p:α→Bool}:∀l:List α,decide (0≤idxD p l)=l.any p
 | []=>rfl
 | x::r=>by
  have ih:=idxD_any (p:=p) r;have h:=idxD_lt p r;unfold idxD;rw[List.any_cons,←ih]
  cases hx:p x with
  | true=>simp
  | false =>
   rw[if_neg (by simp),Bool.false_or]
   split
   ·rename_i h1
    rw[decide_eq_decide];omega
   ·rw[decide_eq_decide];omega
theorem contV_any (hf:FitAt s A c plain n) (t:Int) (p1 p2 p3:Nat) (l:List Val) (B:zo) (d:Nat) (w:World) (hv:∀y∈l,SizeOf.sizeOf y≤n) (hs:TysR w A s) (hl:ValsR w B l) (hc:Cap3 s A c t plain p1 p2 p3 w) :
  Calls Tryz.prog 147 #[.slice B l.length d,.func (.func 148) #[] #[.pointer (some ⟨p1,0,none⟩),.pointer (some ⟨p2,0,none⟩),.pointer (some ⟨p3,0,none⟩)]] w fun e w'=>e = .returned (.bool (l.any fun y => !fitF s plain n t y))∧Below w.heap.size w w':=by
 have HI:=zh (idxV_any hf t p1 p2 p3 l B d w hv hs hl hc);have HD:=zh (idxD_any (p:=fun y => !fitF s plain n t y) l)
 clear hf hv hs hl hc
 go_enter Tryz.func147,Tryz.ntmps147
 go_wp2_with fail
 refine HI.out.mono ?_;rintro e w2 ⟨rfl,hb2⟩;have HB:=zh hb2;clear hb2 HI;go_wp2;go_ret;exact ⟨by rw[←HD.out];rfl,HB.out⟩
theorem eachV_any (hf:FitAt s A c plain n) (t:Int) (l:List Val) (B:zo) (d:Nat) (w:World) (hv:∀y∈l,SizeOf.sizeOf y≤n) (hs:TysR w A s) (hl:ValsR w B l) :
  Calls Tryz.prog 98 #[.agg #[.slice A s.length c],.int .i64 t,.slice B l.length d,.bool plain] w fun e w'=>e = .returned (.bool (l.all fun y=>fitF s plain n t y))∧Below w.heap.size w w':=by
 have HB:=zh (zB (zB (zD w (.cells #[.slice A s.length c] 31)) (zD _ (.cells #[.int .i64 t] 3))) (zD _ (.cells #[.bool plain] 4)));have HC:Hid (Cap3 s A c t plain w.heap.size (w.heap.size+1) (w.heap.size+1+1) (((w.alloc (.cells #[.slice A s.length c] 31)).alloc (.cells #[.int .i64 t] 3)).alloc (.cells #[.bool plain] 4))):=by
  refine ⟨?_,?_,?_⟩ <;> go_simp
 have HI:=zh (contV_any hf t w.heap.size (w.heap.size+1) (w.heap.size+1+1) l B d _ hv (hs.below HB.out) (hl.below HB.out) HC.out);have HD:Hid ((!(l.any fun y => !fitF s plain n t y))=l.all fun y=>fitF s plain n t y):=by show _=_;simp[List.any_eq_not_all_not]
 clear hf hv hs hl HC
 go_enter Tryz.func98,Tryz.ntmps98
 go_wp2_with fail
 refine HI.out.mono ?_;rintro e w2 ⟨rfl,hb2⟩;have HB2:=zh (zB HB.out hb2);clear hb2 HI;go_wp2;go_ret;exact ⟨by rw[←HD.out];rfl,HB2.out⟩
end
def rawOk (x:TyD) (a:RawD):Bool:=!(x.mems.any fun y=>decide (y.id=a.id))&&freeD a.id
theorem rawOk_iff (x:TyD) (a:RawD):rawOk x a=((x.mems.all fun m=>decide (m.id≠a.id))&&freeD a.id):=by
 unfold rawOk
 congr 1
 simp[List.all_eq_not_any_not]
theorem raws_all (x:TyD):∀ (l:List RawD),(∀k (h:k<l.length),rawOk x l[k]=true)→(∀k (h:k+1<l.length),(l[k]).id<(l[k+1]).id)→rawsD x l=true
 | [],_,_=>rfl
 | [a],h,_=>by
  have h0:=h 0 (by simp)
  rw[rawOk_iff] at h0;have h0':((x.mems.all fun m=>decide (m.id≠a.id))&&freeD a.id)=true:=h0
  unfold rawsD;rw[h0'];rfl
 | a::b::r,h,h2=>by
  have h0:=h 0 (by simp)
  rw[rawOk_iff] at h0;have h0':((x.mems.all fun m=>decide (m.id≠a.id))&&freeD a.id)=true:=h0
  have h1:a.id<b.id:=h2 0 (by simp)
  unfold rawsD;rw[h0',raws_all x (b::r) (fun k hk=>h (k+1) (by simpa using hk)) (fun k hk=>h2 (k+1) (by simpa using hk))]
  simp[h1]
theorem raws_not (x:TyD):∀ (l:List RawD) (k:Nat) (h:k<l.length),rawOk x l[k]=false→rawsD x l=false
 | a::r,0,_,hn=>by
  rw[rawOk_iff] at hn;have hn':((x.mems.all fun m=>decide (m.id≠a.id))&&freeD a.id)=false:=hn
  unfold rawsD;rw[hn',Bool.false_and,Bool.false_and]
 | a::r,k+1,h,hn=>by
  unfold rawsD;rw[raws_not x r k (by simpa using h) hn,Bool.and_false]
theorem raws_desc (x:TyD):∀ (l:List RawD) (k:Nat) (h:k+1<l.length),¬ (l[k]).id<(l[k+1]).id→rawsD x l=false
 | [_],k,h,_=>by simp at h
 | a::b::r,0,_,hn=>by
  have hn':¬ a.id<b.id:=hn;unfold rawsD;simp[hn']
 | a::b::r,k+1,h,hn=>by
  unfold rawsD;rw[raws_desc x (b::r) k (by simpa using h) hn,Bool.and_false]
theorem zips_all (f:Int→Val→Bool):∀ (ms:List MemD) (vs:List Val),(∀k (h:k<ms.length) (h':k<vs.length),f (ms[k]).type vs[k]=true)→((ms.zip vs).all fun p=>f p.1.type p.2)=true
 | [],_,_=>rfl
 | _::_,[],_=>rfl
 | m::ms,v::vs,h=>by
  have h0:f m.type v=true:=h 0 (by simp) (by simp)
  simp only[List.zip_cons_cons,List.all_cons,h0,Bool.true_and];exact zips_all f ms vs fun k h1 h2=>h (k+1) (by simpa using h1) (by simpa using h2)
theorem zips_not (f:Int→Val→Bool):∀ (ms:List MemD) (vs:List Val) (k:Nat) (h:k<ms.length) (h':k<vs.length),f (ms[k]).type vs[k]=false→((ms.zip vs).all fun p=>f p.1.type p.2)=false
 | m::ms,v::vs,0,_,_,h=>by
  have h0:f m.type v=false:=h;simp only[List.zip_cons_cons,List.all_cons,h0,Bool.false_and]
 | m::ms,v::vs,k+1,h1,h2,h=>by
  simp only[List.zip_cons_cons,List.all_cons,zips_not f ms vs k (by simpa using h1) (by simpa using h2) h,Bool.and_false]
theorem find_idx {α:Type} {p:α→Bool}:∀ (l:List α),l.any p=true→∃k,∃h:k<l.length,idxD p l=(k:Int)∧l.find? p=some l[k]
 | [],h=>by cases h
 | x::r,h=>by
  cases hx:p x with
  | true=>exact ⟨0,by simp,by unfold idxD;rw[if_pos hx];rfl,by rw[List.find?_cons,hx];rfl⟩
  | false =>
   rw[List.any_cons,hx,Bool.false_or] at h;obtain ⟨k,hk,e1,e2⟩:=find_idx r h;refine ⟨k+1,by simpa using hk,?_,?_⟩
   ·unfold idxD
    rw[hx,if_neg (by simp),e1,if_neg (by omega)]
    omega
   ·rw[List.find?_cons,hx];exact e2
theorem find_no {α:Type} {p:α→Bool} (l:List α) (h:l.any p=false):l.find? p=none:=by
 rw[List.find?_eq_none]
 intro x hx hp
 rw[List.any_eq_false] at h;exact h x hx hp
theorem fitF_out {s:List TyD} {plain:Bool} {n:Nat} {t:Int} {v:Val} (h:fitF s plain (n+1) t v=true):0≤t∧t<(s.length:Int)∧v.kind=(tyAt s t).kind∧fitB (fitF s plain n) plain (tyAt s t) v=true:=by
 unfold fitF at h
 by_cases h1:t<0∨(s.length:Int)≤t
 ·rw[if_pos h1] at h;cases h
 ·rw[if_neg h1] at h
  by_cases h2:v.kind≠(tyAt s t).kind∨zJ v=false
  ·rw[if_pos h2] at h;cases h
  ·rw[if_neg h2] at h
   exact ⟨by omega,by omega,Classical.byContradiction fun e=>h2 (.inl e),h⟩
theorem free_out {n:Int} (h:freeD n=true):1≤n∧n≤1000:=by
 unfold freeD at h
 simpa using h
theorem free_in {n:Int} (h:freeD n=true):In64 n:=by
 have:=free_out h;unfold In64
 omega
section
variable {f:Int→Val→Bool} {plain:Bool} {x:TyD} {v:Val}
theorem fit2 (e:x.kind=2) (h:fitB f plain x v=true):x.low≤v.int∧v.int≤x.high:=by
 unfold fitB at h;rw[if_pos e] at h
 simpa using h
theorem fit4 (e:x.kind=4) (h:fitB f plain x v=true):(x.syms.any fun y=>decide (y.id=v.id))=true∨((x.syms.any fun y=>decide (y.id=v.id))=false∧freeD v.id=true):=by
 unfold fitB at h;rw[if_neg (by omega),if_neg (by omega),if_pos e] at h
 cases ha:(x.syms.any fun y=>decide (y.id=v.id)) with
 | true=>exact .inl rfl
 | false =>
  rw[ha] at h;simp only[Bool.false_or,Bool.and_eq_true] at h;exact .inr ⟨rfl,h.2⟩
theorem raws_free:∀ {l:List RawD},rawsD x l=true→∀r∈l,freeD r.id=true
 | a::l,h,r,hr=>by
  unfold rawsD at h;simp only[Bool.and_eq_true] at h
  rcases List.mem_cons.1 hr with rfl|hr
  ·exact h.1.1.2
  ·exact raws_free h.2 r hr
theorem zips_out:∀ (ms:List MemD) (vs:List Val),((ms.zip vs).all fun p=>f p.1.type p.2)=true→∀k (h:k<ms.length) (h':k<vs.length),f (ms[k]).type vs[k]=true
 | m::ms,w::vs,h,0,_,_=>by
  simp only[List.zip_cons_cons,List.all_cons,Bool.and_eq_true] at h;exact h.1
 | m::ms,w::vs,h,k+1,h1,h2=>by
  simp only[List.zip_cons_cons,List.all_cons,Bool.and_eq_true] at h;exact zips_out ms vs h.2 k (by simpa using h1) (by simpa using h2)
theorem fit5 (e:x.kind=5) (h:fitB f plain x v=true):v.items.length=x.mems.length∧(∀r∈v.rest,freeD r.id=true)∧∀k (h:k<x.mems.length) (h':k<v.items.length),f (x.mems[k]).type v.items[k]=true:=by
 unfold fitB at h;rw[if_neg (by omega),if_neg (by omega),if_neg (by omega),if_pos e] at h
 simp only[Bool.and_eq_true,decide_eq_true_eq] at h;exact ⟨h.1.1.1,raws_free h.1.2,zips_out _ _ h.2⟩
theorem fit6 (e:x.kind=6) (h:fitB f plain x v=true):((x.mems.any fun y=>decide (y.id=v.id))=true∧∃m y,x.mems.find? (fun y=>decide (y.id=v.id))=some m∧v.items=[y]∧f m.type y=true)∨((x.mems.any fun y=>decide (y.id=v.id))=false∧freeD v.id=true∧∃r,v.rest=[r]):=by
 unfold fitB at h;rw[if_neg (by omega),if_neg (by omega),if_neg (by omega),if_neg (by omega),if_pos e] at h
 cases ha:(x.mems.any fun y=>decide (y.id=v.id)) with
 | true =>
  obtain ⟨k,hk,_,hf⟩:=find_idx x.mems ha;rw[hf] at h;simp only[Bool.and_eq_true,decide_eq_true_eq] at h;obtain ⟨y,hy⟩:=List.length_eq_one_iff.1 h.1.1;refine .inl ⟨rfl,_,y,hf,hy,?_⟩;rw[hy] at h
  simpa using h.2
 | false =>
  rw[find_no x.mems ha] at h;simp only[Bool.and_eq_true,decide_eq_true_eq] at h;exact .inr ⟨rfl,h.1.1.1.2,List.length_eq_one_iff.1 h.1.2⟩
theorem fit7 (e:x.kind=7) (h:fitB f plain x v=true):∀y∈v.items,f x.elem y=true:=by
 unfold fitB at h;rw[if_neg (by omega),if_neg (by omega),if_neg (by omega),if_neg (by omega),if_neg (by omega),if_pos e] at h
 simp only[Bool.and_eq_true,List.all_eq_true] at h;exact h.2
theorem fit8 (e:x.kind=8) (h:fitB f plain x v=true):v.items.length=v.keys.length∧(∀y∈v.keys,f x.key y=true)∧∀y∈v.items,f x.elem y=true:=by
 unfold fitB at h;rw[if_neg (by omega),if_neg (by omega),if_neg (by omega),if_neg (by omega),if_neg (by omega),if_neg (by omega),if_pos e] at h
 simp only[Bool.and_eq_true,List.all_eq_true,decide_eq_true_eq] at h;exact ⟨h.1.1.1.2,h.1.1.2,h.2⟩
theorem fit9 (e:x.kind=9) (h:fitB f plain x v=true):v.items.length≤1∧∀y∈v.items,f x.elem y=true:=by
 unfold fitB at h;rw[if_neg (by omega),if_neg (by omega),if_neg (by omega),if_neg (by omega),if_neg (by omega),if_neg (by omega),if_neg (by omega),if_pos e] at h
 simp only[Bool.and_eq_true,List.all_eq_true,decide_eq_true_eq] at h;exact h
end
section
variable {f:Int→Val→ByteArray} {x:TyD} {v:Val}
theorem lit1 (e:x.kind=1):litB f x v=if v.bool then ⟨#[116,114,117,101]⟩ else ⟨#[102,97,108,115,101]⟩:=by unfold litB;rw[if_pos e]
theorem lit2 (e:x.kind=2):litB f x v=decB v.int:=by unfold litB;rw[if_neg (by omega),if_pos e]
theorem lit3 (e:x.kind=3):litB f x v=quD v.str:=by unfold litB;rw[if_neg (by omega),if_neg (by omega),if_pos e]
theorem lit4 (e:x.kind=4):litB f x v=match x.syms.find? fun y=>decide (y.id=v.id) with
  | some y=>y.name
  | none=>⟨#[64]⟩++decB v.id:=by unfold litB;rw[if_neg (by omega),if_neg (by omega),if_neg (by omega),if_pos e];rfl
theorem lit5 (e:x.kind=5):litB f x v=⟨#[123]⟩++catL ((x.mems.zip v.items).map (memP f)++v.rest.map rawP)++⟨#[125]⟩:=by
 unfold litB;rw[if_neg (by omega),if_neg (by omega),if_neg (by omega),if_neg (by omega),if_pos e]
theorem lit6 (e:x.kind=6):litB f x v=(match x.mems.find? fun m=>decide (m.id=v.id) with
  | some m=>m.name++⟨#[40]⟩++(match v.items with|y::_=>f m.type y | []=>⟨#[]⟩)
  | none=>⟨#[64]⟩++decB v.id++⟨#[40]⟩++(match v.rest with|r::_=>quD r.data | []=>⟨#[]⟩))++⟨#[41]⟩:=by
 unfold litB;rw[if_neg (by omega),if_neg (by omega),if_neg (by omega),if_neg (by omega),if_neg (by omega),if_pos e];rfl
theorem lit7 (e:x.kind=7):litB f x v=⟨#[91]⟩++catL (v.items.map (f x.elem))++⟨#[93]⟩:=by
 unfold litB;rw[if_neg (by omega),if_neg (by omega),if_neg (by omega),if_neg (by omega),if_neg (by omega),if_neg (by omega),if_pos e]
theorem lit8 (e:x.kind=8):litB f x v=⟨#[91]⟩++(if v.keys.length=0 then ⟨#[45,62]⟩ else ⟨#[]⟩)++catL ((v.keys.zip v.items).map (entP (f x.key) (f x.elem)))++⟨#[93]⟩:=by
 unfold litB;rw[if_neg (by omega),if_neg (by omega),if_neg (by omega),if_neg (by omega),if_neg (by omega),if_neg (by omega),if_neg (by omega),if_pos e]
theorem lit9 (e:x.kind=9):litB f x v=match v.items with
  | []=>⟨#[110,111,110,101]⟩
  | y::_=>⟨#[115,111,109,101,40]⟩++f x.elem y++⟨#[41]⟩:=by
 unfold litB;rw[if_neg (by omega),if_neg (by omega),if_neg (by omega),if_neg (by omega),if_neg (by omega),if_neg (by omega),if_neg (by omega),if_neg (by omega)];rfl
end
theorem catL_step {l:List ByteArray} {k:Nat} (h:k<l.length):catK (fun i=>l.getD i ⟨#[]⟩) (k+1)=catK (fun i=>l.getD i ⟨#[]⟩) k++(if k=0 then ⟨#[]⟩ else ⟨#[44,32]⟩)++l[k]:=by
 rw[catK]
 congr 1
 show l.getD k ⟨#[]⟩=_
 rw[List.getD_eq_getElem?_getD,zl h];rfl
theorem catL_part {l:List ByteArray} {k:Nat} (h:k<l.length):(catK (fun i=>l.getD i ⟨#[]⟩) k).size+(if k=0 then (⟨#[]⟩:ByteArray) else ⟨#[44,32]⟩).size+(l[k]).size≤(catL l).size:=by
 have:=catK_part (fun i=>l.getD i ⟨#[]⟩) h
 rw[show (l.getD k ⟨#[]⟩:ByteArray)=l[k] by rw[List.getD_eq_getElem?_getD,zl h];rfl] at this
 exact this
def partsD (f:Int→Val→ByteArray) (x:TyD) (v:Val):List ByteArray:=(x.mems.zip v.items).map (memP f)++v.rest.map rawP
section
variable {f:Int→Val→ByteArray} {x:TyD} {v:Val}
theorem parts_len (h:v.items.length=x.mems.length):(partsD f x v).length=x.mems.length+v.rest.length:=by
 unfold partsD;rw[List.length_append,List.length_map,List.length_map,List.length_zip]
 omega
theorem parts_mem (h:v.items.length=x.mems.length) {k:Nat} (hk:k<x.mems.length) (hi:k<v.items.length) (hp:k<(partsD f x v).length):(partsD f x v)[k]=(x.mems[k]).name++⟨#[58,32]⟩++f (x.mems[k]).type v.items[k]:=by
 have h1:k<((x.mems.zip v.items).map (memP f)).length:=by rw[List.length_map,List.length_zip];omega
 refine (List.getElem_append_left (bs:=v.rest.map rawP) h1).trans ?_;rw[List.getElem_map,List.getElem_zip]
 rfl
theorem parts_raw (h:v.items.length=x.mems.length) {k:Nat} (hk:k<v.rest.length) (hp:x.mems.length+k<(partsD f x v).length):(partsD f x v)[x.mems.length+k]=decB (v.rest[k]).id++⟨#[58,32]⟩++quD (v.rest[k]).data:=by
 have h1:((x.mems.zip v.items).map (memP f)).length=x.mems.length:=by rw[List.length_map,List.length_zip];omega
 have h2:((x.mems.zip v.items).map (memP f)).length≤x.mems.length+k:=by omega
 refine (List.getElem_append_right (bs:=v.rest.map rawP) h2).trans ?_;rw[List.getElem_map];have e:x.mems.length+k - ((x.mems.zip v.items).map (memP f)).length=k:=by omega
 simp only[e]
 rfl
end
def entsD (f g:Val→ByteArray) (v:Val):List ByteArray:=(v.keys.zip v.items).map (entP f g)
theorem entsD_len {f g:Val→ByteArray} {v:Val} (h:v.items.length=v.keys.length):(entsD f g v).length=v.keys.length:=by
 unfold entsD;rw[List.length_map,List.length_zip]
 omega
theorem entsD_get {f g:Val→ByteArray} {v:Val} {k:Nat} (hk:k<v.keys.length) (hi:k<v.items.length) (hp:k<(entsD f g v).length):(entsD f g v)[k]=f v.keys[k]++⟨#[32,45,62,32]⟩++g v.items[k]:=by
 refine (List.getElem_map (entP f g) (l:=v.keys.zip v.items) (i:=k) (h:=hp)).trans ?_;rw[List.getElem_zip]
 rfl
theorem idxD_find {α:Type} (p:α→Bool):∀l:List α,idxD p l=match l.findIdx? p with
  | none => -1
  | some k=>(k:Int)
 | []=>rfl
 | x::r=>by
  rw[idxD,List.findIdx?_cons,idxD_find p r]
  cases hp:p x with
  | true=>rfl
  | false =>
   cases r.findIdx? p with
   | none=>rfl
   | some k =>
    simp only[Bool.false_eq_true,if_false,Option.map_some];rw[if_neg (by omega)]
    show (k:Int)+1=((k+1:Nat):Int)
    omega
theorem find_idxD {α:Type} (p:α→Bool):∀l:List α,l.find? p=if idxD p l<0 then none else l[(idxD p l).toNat]?
 | []=>rfl
 | x::r=>by
  rw[List.find?_cons,idxD,find_idxD p r]
  cases hp:p x with
  | true=>rfl
  | false =>
   have:=idxD_lt p r;simp only[Bool.false_eq_true,if_false]
   by_cases h:idxD p r<0
   ·rw[if_pos h,if_pos h];rfl
   ·rw[if_neg h,if_neg h,if_neg (by omega),show (idxD p r+1).toNat=(idxD p r).toNat+1 by omega]
    rfl
theorem fit_out {s:List TyD} {t:Int} {v:Val} (h:fitV s false t v=true):∃n,fitF s false (n+1) t v=true:=by
 refine ⟨SizeOf.sizeOf v - 1,?_⟩;have:=pos_size v;rw[show SizeOf.sizeOf v - 1+1=SizeOf.sizeOf v by omega]
 exact h
theorem fit_rng {s:List TyD} {t:Int} {v:Val} (h:fitV s false t v=true):0≤t∧t<(s.length:Int)∧v.kind=(tyAt s t).kind:=by
 obtain ⟨n,h⟩:=fit_out h;have:=fitF_out h;exact ⟨this.1,this.2.1,this.2.2.1⟩
theorem at_rec {s:List TyD} {t:Int} {v:Val} (h:fitV s false t v=true) (hk:(tyAt s t).kind=5) (p:Int) (q:List Int) :
  v.items.length=(tyAt s t).mems.length∧(idxD (fun m:MemD=>decide (m.id=p)) (tyAt s t).mems<0→atV s t v (p::q)=none) ∧
  ∀k:Nat,idxD (fun m:MemD=>decide (m.id=p)) (tyAt s t).mems=(k:Int)→∀ (h1:k<(tyAt s t).mems.length) (h2:k<v.items.length),atV s t v (p::q)=atV s ((tyAt s t).mems[k]).type v.items[k] q∧fitV s false ((tyAt s t).mems[k]).type v.items[k]=true:=by
 obtain ⟨n,h⟩:=fit_out h;obtain ⟨_,_,_,hf⟩:=fitF_out h;obtain ⟨g1,_,g3⟩:=fit5 hk hf;refine ⟨g1,fun hn=>?_,fun k hi h1 h2=>⟨?_,fitF_size _ _ _ (g3 k h1 h2)⟩⟩
 ·rw[idxD_find] at hn
  rw[atV,stepA,if_pos hk]
  cases hm:(tyAt s t).mems.findIdx? fun m=>decide (m.id=p) with
  | none=>rfl
  | some k=>rw[hm] at hn;simp only at hn;omega
 ·rw[idxD_find] at hi
  rw[atV,stepA,if_pos hk]
  cases hm:(tyAt s t).mems.findIdx? fun m=>decide (m.id=p) with
  | none=>rw[hm] at hi;simp only at hi;omega
  | some k' =>
   rw[hm] at hi;obtain rfl:k'=k:=by simp only at hi;omega
   simp only[Option.map_some];rw[zl h2,List.getD_eq_getElem?_getD,zl h1]
   rfl
theorem at_uni {s:List TyD} {t:Int} {v:Val} (h:fitV s false t v=true) (hk:(tyAt s t).kind=6) (p:Int) (q:List Int) :
  (idxD (fun m:MemD=>decide (m.id=p)) (tyAt s t).mems<0→atV s t v (p::q)=none)∧(p≠v.id→atV s t v (p::q)=none) ∧
  ∀k:Nat,idxD (fun m:MemD=>decide (m.id=p)) (tyAt s t).mems=(k:Int)→p=v.id→∃ (h1:k<(tyAt s t).mems.length) (h2:0<v.items.length),atV s t v (p::q)=atV s ((tyAt s t).mems[k]).type v.items[0] q∧fitV s false ((tyAt s t).mems[k]).type v.items[0]=true:=by
 obtain ⟨n,h⟩:=fit_out h;obtain ⟨_,_,_,hf⟩:=fitF_out h;have h6:=fit6 hk hf;have hst:stepA (tyAt s t) v p=if p=v.id then ((tyAt s t).mems.find? fun m=>decide (m.id=p)).map fun m=>(0,m.type) else none:=by
  rw[stepA,if_neg (by omega),if_pos hk]
 refine ⟨fun hn=>?_,fun hp=>?_,fun k hi hp=>?_⟩
 ·rw[atV,hst,find_idxD,if_pos hn]
  by_cases hp:p=v.id
  ·rw[if_pos hp];rfl
  ·rw[if_neg hp]
 ·rw[atV,hst,if_neg hp]
 ·have hl:=idxD_lt (fun m:MemD=>decide (m.id=p)) (tyAt s t).mems
  have h1:k<(tyAt s t).mems.length:=by omega
  have hfd:(tyAt s t).mems.find? (fun m=>decide (m.id=p))=some (tyAt s t).mems[k]:=by
   rw[find_idxD,if_neg (by omega),hi]
   rw[show ((k:Nat):Int).toNat=k by omega,zl h1]
  rcases h6 with ⟨_,m,y,g1,g2,g3⟩|⟨g1,_⟩
  ·rw[←hp,hfd] at g1
   obtain rfl:=Option.some.inj g1;refine ⟨h1,by rw[g2];simp,?_,?_⟩
   ·rw[atV,hst,if_pos hp,hfd]
    simp only[Option.map_some];rw[zl (by rw[g2];simp)]
   ·have:v.items[0]'(by rw[g2];simp)=y:=by simp only[g2,List.getElem_cons_zero]
    rw[this];exact fitF_size _ _ _ g3
  ·rw[←hp] at g1
   have:=List.any_eq_false.1 g1 _ (List.mem_of_find?_eq_some hfd);exact absurd (List.find?_some hfd) this
theorem at_oth {s:List TyD} {t:Int} {v:Val} (h:fitV s false t v=true) (h5:(tyAt s t).kind≠5) (h6:(tyAt s t).kind≠6) (p:Int) (q:List Int) :
  (p<0→atV s t v (p::q)=none)∧((v.items.length:Int)≤p→atV s t v (p::q)=none) ∧
  ∀k:Nat,p=(k:Int)→∀h2:k<v.items.length,((tyAt s t).kind=7∨(tyAt s t).kind=8∨(tyAt s t).kind=9)∧atV s t v (p::q)=atV s (tyAt s t).elem v.items[k] q∧fitV s false (tyAt s t).elem v.items[k]=true:=by
 obtain ⟨n,h⟩:=fit_out h;obtain ⟨_,_,hkk,hpr,hf⟩:=fit_parts h;have hst:stepA (tyAt s t) v p=if 0≤p then some (p.toNat,(tyAt s t).elem) else none:=by
  rw[stepA,if_neg h5,if_neg h6]
 refine ⟨fun hp=>?_,fun hp=>?_,fun k hk h2=>?_⟩
 ·rw[atV,hst,if_neg (by omega)]
 ·rw[atV,hst,if_pos (by omega)]
  simp only;rw[List.getElem?_eq_none (by omega)]
 ·have hc:(tyAt s t).kind=7∨(tyAt s t).kind=8∨(tyAt s t).kind=9:=by
   refine Classical.byContradiction fun hc=>?_
   unfold zJ bareD at hpr;simp only[Bool.and_eq_true,decide_eq_true_eq] at hpr;have:=hpr.1.2;simp only[Val.items] at this;rw[if_neg (by omega)] at this
   have e:v.items.length=0:=this
   omega
  have hm:=List.getElem_mem h2;refine ⟨hc,?_,?_⟩
  ·rw[atV,hst,if_pos (by omega)]
   simp only;rw[show p.toNat=k by omega,zl h2]
  ·rcases hc with hc|hc|hc
   ·exact fitF_size _ _ _ (fit7 hc hf _ hm)
   ·exact fitF_size _ _ _ ((fit8 hc hf).2.2 _ hm)
   ·exact fitF_size _ _ _ ((fit9 hc hf).2 _ hm)
noncomputable def pathS (s:List TyD) (t:Int) (v:Val) (p:List Int):ByteArray×Int :=
 if fitV s false t v=false then (⟨#[]⟩,1) else match atV s t v p with
  | none=>(⟨#[]⟩,4)
  | some _=>(pathT s t p,0)
noncomputable def atE (s:List TyD) (t:Int) (v:Val) (p:List Int):Int :=
 if fitV s false t v=false then 1 else match atV s t v p with
  | none=>4
  | some _=>0
abbrev ptX:MemD:=⟨1,⟨#[120]⟩,1,false,false,zeroV⟩
abbrev ptY:MemD:=⟨3,⟨#[121]⟩,2,false,false,zeroV⟩
abbrev ptT0:TyD:={ zeroT with kind:=5,name:=⟨#[80,111,105,110,116]⟩,mems:=[ptX,ptY] }
abbrev ptT1:TyD:={ zeroT with kind:=2,high:=9 }
abbrev ptT2:TyD:={ zeroT with kind:=9,elem:=1 }
def ptS:List TyD:=[ptT0,ptT1,ptT2]
abbrev tx1:ByteArray:=⟨#[123,32,120,32,58,32,53,32,44,32,121,32,58,32,115,111,109,101,32,40,32,55,32,41,32,125]⟩
abbrev tx2:ByteArray:=⟨#[123,120,58,32,53,125]⟩
abbrev tx3:ByteArray:=⟨#[123,121,58,32,110,111,110,101,44,32,120,58,32,53,125]⟩
abbrev tx4:ByteArray:=⟨#[123,120,58,32,49,48,44,32,121,58,32,110,111,110,101,125]⟩
abbrev txF:ByteArray:=⟨#[123,120,58,32,53,44,32,121,58,32,110,111,110,101,44,32,50,58,32,34,92,120,48,49,34,125]⟩
abbrev pInt (n:Int):Val := .mk 2 false n ⟨#[]⟩ 0 [] [] []
abbrev pOpt (l:List Val):Val := .mk 9 false 0 ⟨#[]⟩ 0 [] l []
def pv1:Val := .mk 5 false 0 ⟨#[]⟩ 0 [] [pInt 5,pOpt [pInt 7]] []
def pv4:Val := .mk 5 false 0 ⟨#[]⟩ 0 [] [pInt 10,pOpt []] []
def pvF:Val := .mk 5 false 0 ⟨#[]⟩ 0 [] [pInt 5,pOpt []] [⟨2,⟨#[1]⟩⟩]
theorem pt_valid:zQ ptS=0:=by decide +kernel
theorem pt_num:Num64 ptS:=by
 intro t ht
 simp only[ptS,List.mem_cons,List.mem_nil_iff,or_false] at ht
 rcases ht with rfl|rfl|rfl <;> (unfold In64;decide)
def toksOf (x:ByteArray):List TokD:=match toksL 1 x.data.toList with | .ok l=>l | .error _=>[]
theorem pt_tok1:toksL 1 tx1.data.toList = .ok (toksOf tx1):=by
 have h:(match toksL 1 tx1.data.toList with | .ok _=>true | .error _=>false)=true:=by decide +kernel
 unfold toksOf
 cases h2:toksL 1 tx1.data.toList with
 | ok l=>rfl
 | error e=>rw[h2] at h;cases h
theorem pt_tok2:toksL 1 tx2.data.toList = .ok (toksOf tx2):=by
 have h:(match toksL 1 tx2.data.toList with | .ok _=>true | .error _=>false)=true:=by decide +kernel
 unfold toksOf
 cases h2:toksL 1 tx2.data.toList with
 | ok l=>rfl
 | error e=>rw[h2] at h;cases h
theorem pt_tok3:toksL 1 tx3.data.toList = .ok (toksOf tx3):=by
 have h:(match toksL 1 tx3.data.toList with | .ok _=>true | .error _=>false)=true:=by decide +kernel
 unfold toksOf
 cases h2:toksL 1 tx3.data.toList with
 | ok l=>rfl
 | error e=>rw[h2] at h;cases h
theorem pt_tok4:toksL 1 tx4.data.toList = .ok (toksOf tx4):=by
 have h:(match toksL 1 tx4.data.toList with | .ok _=>true | .error _=>false)=true:=by decide +kernel
 unfold toksOf
 cases h2:toksL 1 tx4.data.toList with
 | ok l=>rfl
 | error e=>rw[h2] at h;cases h
def rdIs (l:List TokD) (v:Val):Bool:=match readP false ptS 0 l with | .ok (u,r,k)=>decide (u=v)&&decide (r=[]) && !k | .error _=>false
def rdErr (l:List TokD) (e:Int):Bool:=match readP false ptS 0 l with | .ok _=>false | .error e'=>decide (e'=e)
theorem rdIs_out {l:List TokD} {v:Val} (h:rdIs l v=true):readP false ptS 0 l = .ok (v,[],false):=by
 unfold rdIs at h
 cases hr:readP false ptS 0 l with
 | error e=>rw[hr] at h;cases h
 | ok p =>
  obtain ⟨u,r,k⟩:=p;rw[hr] at h;simp only[Bool.and_eq_true,decide_eq_true_eq,Bool.not_eq_true'] at h;rw[h.1.1,h.1.2,h.2]
theorem rdErr_out {l:List TokD} {e:Int} (h:rdErr l e=true):readP false ptS 0 l = .error e:=by
 unfold rdErr at h
 cases hr:readP false ptS 0 l with
 | error e'=>rw[hr] at h;rw[of_decide_eq_true h]
 | ok p=>rw[hr] at h;cases h
theorem pt_r1:readP false ptS 0 (toksOf tx1) = .ok (pv1,[],false):=rdIs_out (by decide +kernel)
theorem pt_r2:readP false ptS 0 (toksOf tx2) = .error 2:=rdErr_out (by decide +kernel)
theorem pt_r3:readP false ptS 0 (toksOf tx3) = .error 4:=rdErr_out (by decide +kernel)
theorem pt_r4:readP false ptS 0 (toksOf tx4) = .ok (pv4,[],false):=rdIs_out (by decide +kernel)
theorem pt_fit1:fitV ptS false 0 pv1=true:=okV_fit ⟨8,by decide +kernel⟩
theorem pt_fitF:fitV ptS false 0 pvF=true:=okV_fit ⟨8,by decide +kernel⟩
theorem pt_fit4:fitV ptS false 0 pv4=false:=by
 cases h:fitV ptS false 0 pv4 with
 | false=>rfl
 | true =>
  obtain ⟨n,h⟩:=fit_out h;obtain ⟨_,_,_,hf⟩:=fitF_out h;obtain ⟨_,_,g⟩:=fit5 (show (tyAt ptS 0).kind=5 from rfl) hf;have g0:fitF ptS false n 1 (pInt 10)=true:=g 0 (by decide) (by decide)
  cases n with
  | zero=>cases g0
  | succ n =>
   obtain ⟨_,_,_,hf⟩:=fitF_out g0;have:=(fit2 (show (tyAt ptS 1).kind=2 from rfl) hf).2;exact absurd this (by decide)
theorem pt_p1:parseS false ptS 0 tx1=(pv1,0):=by
 unfold parseS;rw[if_neg (by decide),if_neg (by decide),pt_tok1]
 simp only;rw[pt_r1];simp only;rw[if_neg (by simp),if_neg (by rw[pt_fit1];simp)]
theorem pt_p2:parseS false ptS 0 tx2=(zeroV,2):=by
 unfold parseS;rw[if_neg (by decide),if_neg (by decide),pt_tok2]
 simp only;rw[pt_r2]
theorem pt_p3:parseS false ptS 0 tx3=(zeroV,4):=by
 unfold parseS;rw[if_neg (by decide),if_neg (by decide),pt_tok3]
 simp only;rw[pt_r3]
theorem pt_p4:parseS false ptS 0 tx4=(zeroV,1):=by
 unfold parseS;rw[if_neg (by decide),if_neg (by decide),pt_tok4]
 simp only;rw[pt_r4];simp only;rw[if_neg (by simp),if_pos (Or.inr pt_fit4)]
theorem pt_lit:litV ptS 0 pvF=txF:=by
 unfold litV
 decide +kernel
theorem pt_fmt:fitV ptS false 0 pvF=true∧litV ptS 0 pvF=txF:=⟨pt_fitF,pt_lit⟩
theorem pt_path:pathS ptS 0 pv1 [3,0]=(⟨#[46,121,91,48,93]⟩,0):=by
 unfold pathS;rw[if_neg (by rw[pt_fit1];simp)]
 have h:(atV ptS 0 pv1 [3,0]).isSome=true:=by decide +kernel
 have h2:pathT ptS 0 [3,0]=⟨#[46,121,91,48,93]⟩:=by decide +kernel
 cases hc:atV ptS 0 pv1 [3,0] with
 | none=>rw[hc] at h;cases h
 | some p=>simp only;rw[h2]
abbrev ptrs2 (b:Nat):Obj := .cells #[.pointer (some ⟨b,5,none⟩),.pointer (some ⟨b,6,none⟩)] 185
abbrev Val.box3 (x:Val) (A1:zo) (c1:Nat) (A2:zo) (c2:Nat) (A3:zo) (c3:Nat):Obj:=x.box A1 c1 A2 c2 A3 c3
def KeepB (B:Nat) (wk wr:World):Prop:=wk.heap.size≤wr.heap.size∧∀q,B≤q→q<wk.heap.size→wr.heap[q]? = wk.heap[q]?
theorem KeepB.refl (B:Nat) (w:World):KeepB B w w:=⟨Nat.le_refl _,fun _ _ _=>rfl⟩
theorem KeepB.below {B:Nat} {wk wr w':World} (h:KeepB B wk wr) (hb:Below wr.heap.size wr w'):KeepB B wk w' :=
 ⟨Nat.le_trans h.1 hb.size,fun q h1 h2=>(hb.block q (Nat.lt_of_lt_of_le h2 h.1)).trans (h.2 q h1 h2)⟩
theorem KeepB.cell {B:Nat} {wk wr:World} (h:KeepB B wk wr) {g:Nat} (hg:g<B∨wk.heap.size≤g) (o:Nat) (v:Value):KeepB B wk (wr.setCell ⟨g,o,none⟩ v) :=
 ⟨by simpa using h.1,fun q h1 h2=>by rw[heap_setCell_other wr ⟨g,o,none⟩ q v (by simp only[ne_eq];omega)];exact h.2 q h1 h2⟩
theorem KeepB.cells {B:Nat} {wk wr:World} (h:KeepB B wk wr) {g:Nat} (hg:g<B∨wk.heap.size≤g) (o:Nat) (vs:List Value):KeepB B wk (wr.setCells g o vs) :=
 ⟨by rw[size_setCells];exact h.1,fun q h1 h2=>by rw[zN (by omega)];exact h.2 q h1 h2⟩
theorem KeepB.off {B:Nat} {wk wr:World} (h:KeepB B wk wr) {P:World→Prop} (ho:Off (· < B) wk P):Off (· < B) wr P :=
 ho.step h.1 fun q hq hl=>h.2 q (by omega) hl
theorem KeepB.mono {B:Nat} {w0 wk wr:World} (h:KeepB B wk wr) (h0:KeepB B w0 wk):KeepB B w0 wr :=
 ⟨Nat.le_trans h0.1 h.1,fun q h1 h2=>(h.2 q h1 (Nat.lt_of_lt_of_le h2 h0.1)).trans (h0.2 q h1 h2)⟩
theorem RowSt.reH {α:Type} {E k:Nat} {at_:World→α→List Value→Prop} {wr:World} {base H3 H H':Nat} {A:zo} {c:Nat} {l:List α} {i:Nat} (h:RowSt E k at_ wr base H3 H A c l i) (hi:l.length≤i):RowSt E k at_ wr base H3 H' A c l i:=by
 obtain ⟨css,h1,h2,h3,h4,h5⟩:=h;refine ⟨css,h1,h2,h3,h4,fun m x cs hx hc=>⟨(h5 m x cs hx hc).1,fun hm=>?_⟩⟩
 have:=(List.getElem?_eq_some_iff.1 hx).1
 omega
structure VcB (x:Val) (w:World) (P:Nat) (K1:zo) (k1:Nat) (I1:zo) (i1:Nat) (R1:zo) (r1:Nat) (wr:World):Prop where
 box:wr.heap[w.heap.size]? = some (x.box K1 k1 I1 i1 R1 r1)
 res:wr.heap[w.heap.size+1]? = some zboxV
 bel:Below w.heap.size w wr
 ptr:wr.heap[P]? = some (ptrs2 w.heap.size)
 hi:w.heap.size+2≤P
section
variable {x:Val} {w wr w':World} {P:Nat} {K1:zo} {k1:Nat} {I1:zo} {i1:Nat} {R1:zo} {r1:Nat}
theorem VcB.below (h:VcB x w P K1 k1 I1 i1 R1 r1 wr) (hb:Below wr.heap.size wr w'):VcB x w P K1 k1 I1 i1 R1 r1 w' :=
 ⟨zE h.box hb,zE h.res hb,zB h.bel hb,zE h.ptr hb,h.hi⟩
theorem VcB.other (h:VcB x w P K1 k1 I1 i1 R1 r1 wr) {g:Nat} (hg:w.heap.size+2≤g) (hp:g≠P) (o:Nat) (vs:List Value):VcB x w P K1 k1 I1 i1 R1 r1 (wr.setCells g o vs) :=
 ⟨by rw[zN (by omega)];exact h.box,by rw[zN (by omega)];exact h.res,yC g (by omega) _ _ _ h.bel,by rw[zN (Ne.symm hp)];exact h.ptr,h.hi⟩
theorem VcB.lt (h:VcB x w P K1 k1 I1 i1 R1 r1 wr):P<wr.heap.size:=(zg.1 h.ptr).1
theorem VcB.cells (h:VcB x w P K1 k1 I1 i1 R1 r1 wr):wr.cell? ⟨P,0,none⟩=some (.pointer (some ⟨w.heap.size,5,none⟩))∧wr.cell? ⟨P,1,none⟩=some (.pointer (some ⟨w.heap.size,6,none⟩)) :=
 ⟨by rw[cell_of_row _ _ _ _ _ _ h.ptr];rfl,by rw[cell_of_row _ _ _ _ _ _ h.ptr];rfl⟩
theorem VcB.key (h:VcB x w P K1 k1 I1 i1 R1 r1 wr) (B1:zo) (d1:Nat):VcB x w P B1 d1 I1 i1 R1 r1 (wr.setCell ⟨w.heap.size,5,none⟩ (.slice B1 x.keys.length d1)):=by
 have hp:=h.hi;refine ⟨?_,?_,h.bel.setCell (p:=⟨w.heap.size,5,none⟩) (Nat.le_refl _) _,?_,h.hi⟩
 ·rw[heap_setCell_same _ _ 5 _ _ _ h.box];rfl
 ·rw[heap_setCell_other _ _ _ _ (by simp)];exact h.res
 ·rw[heap_setCell_other _ _ _ _ (by simp only[ne_eq];omega)];exact h.ptr
theorem VcB.item (h:VcB x w P K1 k1 I1 i1 R1 r1 wr) (B1:zo) (d1:Nat):VcB x w P K1 k1 B1 d1 R1 r1 (wr.setCell ⟨w.heap.size,6,none⟩ (.slice B1 x.items.length d1)):=by
 have hp:=h.hi;refine ⟨?_,?_,h.bel.setCell (p:=⟨w.heap.size,6,none⟩) (Nat.le_refl _) _,?_,h.hi⟩
 ·rw[heap_setCell_same _ _ 6 _ _ _ h.box];rfl
 ·rw[heap_setCell_other _ _ _ _ (by simp)];exact h.res
 ·rw[heap_setCell_other _ _ _ _ (by simp only[ne_eq];omega)];exact h.ptr
end
structure VcR (x:Val) (w:World) (P:Nat) (K1:zo) (k1:Nat) (I1:zo) (i1:Nat) (R1:zo) (r1:Nat) (wk:World) (H3:Nat) (A:zo) (c:Nat) (l:List Val) (i:Nat) (wr:World):Prop where
 bx:VcB x w P K1 k1 I1 i1 R1 r1 wr
 kp:KeepB (w.heap.size+2) wk wr
 pk:P<wk.heap.size
 h3:wk.heap.size≤H3
 hi:H3≤wr.heap.size
 row:RowSt 28 8 (fun u x cs=>Val.At u x cs) wr wk.heap.size H3 w.heap.size A c l i
section
variable {x:Val} {w wk wr w':World} {P:Nat} {K1:zo} {k1:Nat} {I1:zo} {i1:Nat} {R1:zo} {r1:Nat} {H3:Nat} {A:zo} {c:Nat} {l:List Val} {i:Nat}
theorem VcR.below (h:VcR x w P K1 k1 I1 i1 R1 r1 wk H3 A c l i wr) (hb:Below wr.heap.size wr w'):VcR x w P K1 k1 I1 i1 R1 r1 wk H3 A c l i w' :=
 ⟨h.bx.below hb,h.kp.below hb,h.pk,h.h3,Nat.le_trans h.hi hb.size,h.row.below hb⟩
theorem VcR.write (h:VcR x w P K1 k1 I1 i1 R1 r1 wk H3 A c l i wr) (hi:i<l.length) {g:Nat} (hA:A=some ⟨g,0,none⟩) {F1:zo} {f1:Nat} {F2:zo} {f2:Nat} {F3:zo} {f3:Nat} {B:Nat} (hB:H3≤B) (ho:Off (· < B) wr fun u=>ValR u l[i] F1 F2 F3) :
  VcR x w P K1 k1 I1 i1 R1 r1 wk H3 A c l (i+1) (wr.setCells g (i * 8) ((l[i]).cs F1 f1 F2 f2 F3 f3)):=by
 have hlt:=h.row.lt (g:=g) (by rw[hA];rfl)
 have hp:=h.pk;have hlo:=h.bx.hi;have hsz:=h.bx.bel.size;refine ⟨h.bx.other (by omega) (by omega) _ _,h.kp.cells (Or.inr hlt.1) _ _,h.pk,h.h3,by rw[size_setCells];exact h.hi,?_⟩
 have:=h.row.write hi hA (by omega) (by omega) (x:=l[i]) (cs:=(l[i]).cs F1 f1 F2 f2 F3 f3) rfl ((ho.mono fun q _ hq=>by omega).imp fun u hu=>Val.at_iff.2 ⟨F1,f1,F2,f2,F3,f3,rfl,hu⟩)
 rwa [List.set_getElem_self] at this
theorem VcR.out (h:VcR x w P K1 k1 I1 i1 R1 r1 wk H3 A c l i wr) (hi:l.length≤i) (hl:Lim 120 l.length):Off (· < w.heap.size+2) wr fun u=>ValsR u A l:=by
 have hp:=h.pk;have hlo:=h.bx.hi;have hh:=h.h3;exact (h.row.reH hi).out hi (by omega) (by omega) hl
end
theorem VcR.start {x:Val} {w wk w5:World} {P:Nat} {K1:zo} {k1:Nat} {I1:zo} {i1:Nat} {R1:zo} {r1:Nat} {B1:zo} {d1:Nat} {l:List Val} {o:Nat}
  (hb:VcB x w P K1 k1 I1 i1 R1 r1 (w5.setCell ⟨w.heap.size,o,none⟩ (.slice B1 l.length d1))) (hpk:P<wk.heap.size) (hw:Below wk.heap.size wk w5)
  (hk:∀H3,w5.heap.size≤H3→RowSt 28 8 (fun u x cs=>Val.At u x cs) w5 wk.heap.size H3 w.heap.size B1 d1 l 0) :
  VcR x w P K1 k1 I1 i1 R1 r1 wk w5.heap.size B1 d1 l 0 (w5.setCell ⟨w.heap.size,o,none⟩ (.slice B1 l.length d1)):=by
 have hs:=hw.size;have hlo:=hb.hi;refine ⟨hb,((KeepB.refl _ wk).below hw).cell (Or.inl (by omega)) _ _,hpk,hs,by simp,(hk _ (Nat.le_refl _)).otherCell o _ (by omega) (Nat.le_refl _) fun e=>?_⟩
 have:=(hk _ (Nat.le_refl _)).lt e
 omega
theorem VcB.zero {x:Val} {w wr:World} {P:Nat} {K1:zo} {k1:Nat} {I1:zo} {i1:Nat} {R1:zo} {r1:Nat} (h:VcB x w P K1 k1 I1 i1 R1 r1 wr) (hs:SOk x.str) (hk:Off (· < w.heap.size+2) wr fun u=>ValsR u K1 x.keys) (hi:Off (· < w.heap.size+2) wr fun u=>ValsR u I1 x.items) (hr:Off (· < w.heap.size+2) wr fun u=>RawsR u R1 x.rest) :
  let W:=wr.setCells (w.heap.size+1) 0 (x.cs K1 k1 I1 i1 R1 r1)
  (W.cell? ⟨w.heap.size+1,0,none⟩=some (.int .i64 x.kind)∧W.cell? ⟨w.heap.size+1,1,none⟩=some (.bool x.bool)∧W.cell? ⟨w.heap.size+1,2,none⟩=some (.int .i64 x.int)∧W.cell? ⟨w.heap.size+1,3,none⟩=some (.string x.str)∧W.cell? ⟨w.heap.size+1,4,none⟩=some (.int .i64 x.id)∧W.cell? ⟨w.heap.size+1,5,none⟩=some (.slice K1 x.keys.length k1)∧W.cell? ⟨w.heap.size+1,6,none⟩=some (.slice I1 x.items.length i1)∧W.cell? ⟨w.heap.size+1,7,none⟩=some (.slice R1 x.rest.length r1)) ∧
  (Off (· < w.heap.size) W fun u=>ValR u x K1 I1 R1)∧Below w.heap.size w W:=by
 intro W
 have h8:=range8 (World.rangeAt_setCells_same wr (w.heap.size+1) 0 (x.cs K1 k1 I1 i1 R1 r1) (there_box h.res));simp only[Nat.zero_add] at h8;refine ⟨h8,?_,yC _ (by omega) _ _ _ h.bel⟩
 have st:∀ {Q:World→Prop},(Off (· < w.heap.size+2) wr Q)→Off (· < w.heap.size) W Q:=fun hq =>
  (hq.step (w1:=W) (by rw[size_setCells];exact Nat.le_refl _) fun q hq hl=>zN (by omega) _ _ _).mono fun q _ hq=>by omega
 exact fun u hu=>⟨hs,st hk u hu,st hi u hu,st hr u hu⟩
theorem vc_hold {x:Val} {w wk wr:World} {P:Nat} {K1:zo} {k1:Nat} {I1:zo} {i1:Nat} {R1:zo} {r1:Nat} {H3:Nat} {A:zo} {c:Nat} {l:List Val} {i:Nat} (h:VcR x w P K1 k1 I1 i1 R1 r1 wk H3 A c l i wr) {b:Nat} {y:Val} {E1:zo} {e1:Nat} {E2:zo} {e2:Nat} {E3:zo} {e3:Nat} (hb:wr.heap[b]? = some (y.box E1 e1 E2 e2 E3 e3)) :
  ((wr.cell? ⟨w.heap.size,5,none⟩=some (.slice K1 x.keys.length k1)∧wr.cell? ⟨w.heap.size,6,none⟩=some (.slice I1 x.items.length i1))∧(wr.cell? ⟨b,0,none⟩=some (.int .i64 y.kind)∧wr.cell? ⟨b,1,none⟩=some (.bool y.bool)∧wr.cell? ⟨b,2,none⟩=some (.int .i64 y.int)∧wr.cell? ⟨b,3,none⟩=some (.string y.str)∧wr.cell? ⟨b,4,none⟩=some (.int .i64 y.id)∧wr.cell? ⟨b,5,none⟩=some (.slice E1 y.keys.length e1)∧wr.cell? ⟨b,6,none⟩=some (.slice E2 y.items.length e2)∧wr.cell? ⟨b,7,none⟩=some (.slice E3 y.rest.length e3)))∧Hid (VcR x w P K1 k1 I1 i1 R1 r1 wk H3 A c l i wr∧wr.heap[b]? = some (y.box E1 e1 E2 e2 E3 e3)):=by
 refine ⟨⟨⟨(box3 h.bx.box).1.1.1,(box3 h.bx.box).1.1.2.1⟩,?_⟩,h,hb⟩;refine ⟨?_,?_,?_,?_,?_,?_,?_,?_⟩ <;> (rw[cell_of_row _ _ _ _ _ _ hb];rfl)
def encT (t:TokD):List Value:=[.int .i64 t.kind,.string t.text,.int .i64 t.int,.string t.str,.int .i64 t.line]
def TokD.At (t:TokD) (cs:List Value):Prop:=(SOk t.text∧SOk t.str)∧cs=encT t
def ToksR (w:World) (A:zo) (l:List TokD):Prop:=RowsR 5 56 TokD.At w A l
theorem ToksR.below {w w':World} {A:zo} {l:List TokD} (h:ToksR w A l) (hb:Below w.heap.size w w'):ToksR w' A l:=RowsR.imp h (fun _ _ _ h=>h) hb
theorem ToksR.at5 {w:World} {A:zo} {l:List TokD} (h:ToksR w A l) {i:Nat} (hi:i<l.length):∃b o,A=some ⟨b,o,none⟩∧(SOk l[i].text∧SOk l[i].str)∧w.rangeAt b (o+i * 5) (encT l[i]):=by
 obtain ⟨b,o,cs,e,⟨h0,rfl⟩,h2⟩:=RowsR.at_ h hi;exact ⟨b,o,e,h0,h2⟩
theorem ToksR.cells {w:World} {A:zo} {l:List TokD} (h:ToksR w A l) {i:Nat} (hi:i<l.length):∃b o,A=some ⟨b,o,none⟩∧(SOk l[i].text∧SOk l[i].str) ∧
  w.cell? ⟨b,o+i * 5,none⟩=some (.int .i64 l[i].kind)∧w.cell? ⟨b,o+i * 5+1,none⟩=some (.string l[i].text)∧w.cell? ⟨b,o+i * 5+2,none⟩=some (.int .i64 l[i].int)∧w.cell? ⟨b,o+i * 5+3,none⟩=some (.string l[i].str)∧w.cell? ⟨b,o+i * 5+4,none⟩=some (.int .i64 l[i].line):=by
 obtain ⟨b,o,e,h0,h2⟩:=h.at5 hi;exact ⟨b,o,e,h0,h2 0 _ rfl,h2 1 _ rfl,h2 2 _ rfl,h2 3 _ rfl,h2 4 _ rfl⟩
abbrev OwnT:=OwnL 59 5 encT
theorem elem_tok:Elem 50 59 5 56:=⟨Tryz.underlying50,⟨.agg #[.int .i64 0,.string ⟨#[]⟩,.int .i64 0,.string ⟨#[]⟩,.int .i64 0],by kernel_rfl,rfl⟩,by omega⟩
theorem OwnT.toks {w:World} {base:Nat} {v:Value} {l:List TokD} (h:OwnT w base v l) (hl:Lim 56 l.length) (hs:∀t∈l,SOk t.text∧SOk t.str):∃A c,v = .slice A l.length c∧ToksR w A l:=OwnL.rows h (fun _=>rfl) hl fun t ht=>⟨hs t ht,rfl⟩
theorem nrun_append {T E:TypeId} {size bytes:Nat} (hE:Elem T E size bytes) (w:World) (base:Nat) (ty:TypeId) (v:Value) (n:Nat) (xs:List Value) (h:w.ownsRow base E size v n xs) (b o m c:Nat) (news:List Value) (hl:news.length=m * size)
  (hnews:w.rangeAt b o news) (h1:∀u∈news,u.oneCell'=true) (hlen:n+m≤9223372036854775807) (hby:(n+m) * bytes≤140737488355328) (hb:base≤w.heap.size) :
  ∃v' w',(Builtin.append_ #[T,T] ty #[v,.slice (some ⟨b,o,none⟩) m c]).run Tryz.prog w = .ok v' w'∧w'.ownsRow base E size v' (n+m) (xs++news)∧w.grownBy w' v.ownBlock∧(v'.ownBlock=v.ownBlock∨v'.ownBlock=some w.heap.size):=by
 obtain ⟨z,hinf,hzs⟩:=hE.info;obtain ⟨i0,hi,hz0,hz1,hz2⟩:=info_parts hinf;obtain ⟨v',w',hr,h2,h3,_,h5⟩:=run_append_own_at (P:=Tryz.prog) w base T ty E i0 z size bytes hE.under hi hz0 hz1 hz2 hzs hE.pos v n xs h ⟨b,o,none⟩ m c news hl (fun j u hj=>by rw[Addr.add_mid];exact hnews j u hj) h1 (by unfold maxLen;omega) hby hb
 exact ⟨v',w',hr,h2,h3,h5⟩
theorem yH {T E:TypeId} {size bytes:Nat} (hE:Elem T E size bytes) {w:World} {ops:Array Oper} {op:Oper} {a:Act} {K:Act→World→Prop} {Q:Exit→Act→World→Prop} {El:Prop} (hgd:op.guard=none) (s x:Operand)
  (ho:op.op = .call { callee := .builtin .append,args:=#[s,x],argTypes:=#[T,T] }) (base:Nat) (v:Value) (n:Nat) (xs:List Value) (hs:a.eval s=v) (h:w.ownsRow base E size v n xs) (b o m c:Nat) (news:List Value) (hx:a.eval x = .slice (some ⟨b,o,none⟩) m c)
  (hl:news.length=m * size) (hnews:w.rangeAt b o news) (h1:∀u∈news,u.oneCell'=true) (hlen:n+m≤9223372036854775807) (hby:(n+m) * bytes≤140737488355328) (hb:base≤w.heap.size)
  (hk:∀v' w',w'.ownsRow base E size v' (n+m) (xs++news)→w.grownBy w' v.ownBlock→(v'.ownBlock=v.ownBlock∨v'.ownBlock=some w.heap.size)→K (a.put op.dst v') w'):if Region.wanted op (yielded ops a.tmps)=true then Oper.wp Tryz.prog op a w K Q else El:=by
 have hw:Region.wanted op (yielded ops a.tmps)=true:=by simp[Region.wanted,hgd]
 rw[if_pos hw];obtain ⟨v',w',hr,h2,h3,h5⟩:=nrun_append hE w base op.type v n xs h b o m c news hl hnews h1 hlen hby hb;unfold Oper.wp execOp;simp only[ho,resolve,invoke,builtin,Sem.run_bind,Sem.run_pure,Result.andThen_ok,List.map_toArray,List.map_cons,List.map_nil,hs,hx,hr];exact hk v' w' h2 h3 h5
theorem Off.grow {S S':Nat→Prop} {w w1:World} {P:World→Prop} (h:Off S w P) (hs:∀q,q<w.heap.size→S' q→S q) (hk:∀q,q<w.heap.size→¬ S q→w1.heap[q]? = w.heap[q]?) (hz:w.heap.size≤w1.heap.size):Off S' w1 P :=
 fun w' hw=>h w' fun q hq hl=>(hw q (fun h'=>hq (hs q hl h')) (by omega)).trans (hk q hl hq)
theorem nblk {w w':World} {g:Nat} {o:Obj} (h:w.heap[g]? = some o) (hb:Below w.heap.size w w'):w'.heap[g]? = some o:=(hb.block _ (zg.1 h).1).trans h
end Go.Proofs.YthkkllmmbefedaaGreatDoor


