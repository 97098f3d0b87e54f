/-
  Walks: schema.Equal, IsTidy, word.
-/
import Derived.Test.YtdfolgmcggdjdaaGreatDoorQGF2
import Derived.Test.YtdfolgmcggdjdaaGreatDoorQYC1
import Derived.Test.YtdfolgmcggdjdaaGreatDoorQYW5
import Derived.Test.YtdfolgmcggdjdaaGreatDoorQVF1
import Derived.Test.YtdfolgmcggdjdaaGreatDoorQGA2
import Derived.Lib.MinMax
import Derived.Lib.Zigzag
namespace Go.Proofs.YtdfolgmcggdjdaaGreatDoor
open Go.RowKit
set_option maxHeartbeats 16000000
set_option maxRecDepth 100000
def RFmtSaid (s:List TyD) (A:zo) (c:Nat) (m:MemD) (x:ByteArray):Prop:=∀w A1 c1 A2 c2 A3 c3,TysR w A s→MemR w m A1 A2 A3→Tab w →
  Calls Tryz.prog 116 #[.agg #[.slice A s.length c],.int .i64 m.type,m.dflt.v A1 c1 A2 c2 A3 c3] w fun e w'=>∃er:Int,e = .returned (.tuple #[.string x,.int .i64 er])∧Below w.heap.size w w'
def RDfOk (s:List TyD) (A:zo) (c:Nat) (df:MemD→ByteArray) (m:MemD):Prop:=(df m).size≤1073741824∧(m.hasDef=true→RFmtSaid s A c m (df m))
section
variable {s:List TyD} {df:MemD→ByteArray}
theorem head0_le {x:TyD} (h:x.name.size≤24):(head0 x).size≤38:=by
 have hk:(kindR x.kind).size≤7:=by unfold kindR;(repeat' split) <;> decide
 unfold head0;rw[zG];have h1:(if x.open_ then kindR x.kind++x.name++⟨#[32,111,112,101,110]⟩ else kindR x.kind++x.name).size≤36:=by
  split
  ·rw[zG,zG];show _+_+5≤_;omega
  ·rw[zG];omega
 show _+2≤_
 omega
theorem symsR_le:∀ (l:List SymD) (b:ByteArray),(∀y∈l,In64 y.id∧y.name.size≤24)→(symsR b l).size≤b.size+l.length * 48
 | [],_,_=>Nat.le_refl _
 | y::l,b,h=>by
  have h1:=h y List.mem_cons_self;have h2:=yE h1.1;have ih:=symsR_le l (b++⟨#[32]⟩++decB y.id++⟨#[32]⟩++y.name++⟨#[59]⟩) fun z hz=>h z (List.mem_cons_of_mem _ hz)
  show (symsR (b++⟨#[32]⟩++decB y.id++⟨#[32]⟩++y.name++⟨#[59]⟩) l).size≤_
  simp only[zG] at ih;have e1:(⟨#[32]⟩:ByteArray).size=1:=rfl;have e2:(⟨#[59]⟩:ByteArray).size=1:=rfl;rw[List.length_cons]
  omega
theorem symsR_snoc (b:ByteArray) (l:List SymD) (y:SymD):symsR b (l++[y])=symsR b l++⟨#[32]⟩++decB y.id++⟨#[32]⟩++y.name++⟨#[59]⟩:=by
 unfold symsR;rw[List.foldl_append];rfl
theorem mHead_le {m:MemD} (h:In64 m.id) (hn:m.name.size≤24):(mHead m).size≤50:=by
 have h2:=yE h;unfold mHead;rw[zG,zG,zG];have h1:(if m.critical then (⟨#[32]⟩:ByteArray)++decB m.id++⟨#[33]⟩ else ⟨#[32]⟩++decB m.id).size≤23:=by
  split
  ·rw[zG,zG];show 1+_+1≤_;omega
  ·rw[zG];show 1+_≤_;omega
 show _+1+_+2≤_
 omega
theorem mTail_le {m:MemD} {n:Nat} (h:(df m).size≤n):(mTail df m).size≤n+4:=by
 unfold mTail
 split
 ·rw[zG,zG];show 3+_+1≤_;omega
 ·show 1≤_;omega
theorem memsR_snoc (a:TextD) (l:List MemD) (m:MemD):memsR s df a (l++[m])=joinD ⟨#[]⟩ (memsR s df a l) (mHead m) (useD s (s.length+1) [] m.type) (mTail df m):=by
 unfold memsR;rw[List.foldl_append];rfl
structure MemFit (s:List TyD) (df:MemD→ByteArray) (m:MemD):Prop where
 id:In64 m.id
 name:m.name.size≤24
 use:(useD s (s.length+1) [] m.type).1.size≤3300
 df:(df m).size≤1073741824
theorem memsR_le:∀ (l:List MemD) (a:TextD),(∀m∈l,MemFit s df m)→(memsR s df a l).1.size≤a.1.size+l.length * 1073800000
 | [],_,_=>Nat.le_add_right _ _
 | m::l,a,h=>by
  have h1:=h m List.mem_cons_self;have h2:=mHead_le h1.id h1.name;have h3:=mTail_le h1.df;have h4:=h1.use;have ih:=memsR_le l (joinD ⟨#[]⟩ a (mHead m) (useD s (s.length+1) [] m.type) (mTail df m)) fun z hz=>h z (List.mem_cons_of_mem _ hz)
  show (memsR s df (joinD ⟨#[]⟩ a (mHead m) (useD s (s.length+1) [] m.type) (mTail df m)) l).1.size≤_
  simp only[joinD,zG] at ih;have e1:(⟨#[]⟩:ByteArray).size=0:=rfl;rw[List.length_cons];unfold joinD
  omega
theorem mem_fit (hv:zJ s=0) (hn:Num64 s) {t:TyD} (ht:t∈s) {m:MemD} (hm:m∈t.mems) (hd:(df m).size≤1073741824):MemFit s df m:=by
 have h:=mem_rng hv ht hm;have hl:=zZ hv;have hu:=use_le hv hn (s.length+1) [] m.type h.2;exact ⟨by have:=h.1.1;unfold In64;omega,h.1.2,by omega,hd⟩
end
structure DcS (w:World) (x:TyD) (As:zo) (cs:Nat) (Am:zo) (cm:Nat) (b o n c g:Nat) (z:TextD) (W:World):Prop where
 bel:Below w.heap.size w W
 sch:W.heap[w.heap.size]? = some (.cells #[.slice (some ⟨b,o,none⟩) n c] 27 (0,0))
 res:W.heap[w.heap.size+1]? = some (tbox noT)
 typ:W.heap[w.heap.size+1+1]? = some (x.box As cs Am cm)
 txt:W.heap[g]? = some (tbox z)
 gl:w.heap.size+2<g
section
variable {w:World} {x:TyD} {As:zo} {cs:Nat} {Am:zo} {cm:Nat} {b o n c g:Nat} {z:TextD} {W W':World}
theorem DcS.below (h:DcS w x As cs Am cm b o n c g z W) (hb:Below W.heap.size W W'):DcS w x As cs Am cm b o n c g z W' :=
 ⟨zB h.bel hb,zF h.sch hb,zF h.res hb,zF h.typ hb,zF h.txt hb,h.gl⟩
theorem DcS.lt (h:DcS w x As cs Am cm b o n c g z W):g<W.heap.size:=(zg.1 h.txt).1
theorem DcS.set (h:DcS w x As cs Am cm b o n c g z W) (T:ByteArray):DcS w x As cs Am cm b o n c g (T,z.2) (W.setCell ⟨g,0,none⟩ (.string T)):=by
 have hgl:=h.gl;have hne:∀ {q:Nat} {O:Obj},W.heap[q]? = some O→q≠g→(W.setCell ⟨g,0,none⟩ (.string T)).heap[q]? = some O:=fun hO hq=>(heap_setCell_other _ _ _ _ (by simpa using hq)).trans hO
 refine ⟨h.bel.setCell (p:=⟨g,0,none⟩) (by simp only;omega) _,hne h.sch (by omega),hne h.res (by omega),hne h.typ (by omega),?_,hgl⟩
 have:=heap_setCell_same W _ 0 _ _ (.string T) h.txt;rw[this];rfl
theorem DcS.setA (h:DcS w x As cs Am cm b o n c g z W) (y:TextD):DcS w x As cs Am cm b o n c g y (W.setCells g 0 [.string y.1,.bool y.2.1,.bool y.2.2]):=by
 have hgl:=h.gl;have hne:∀ {q:Nat} {O:Obj},W.heap[q]? = some O→q≠g→(W.setCells g 0 [.string y.1,.bool y.2.1,.bool y.2.2]).heap[q]? = some O:=fun hO hq=>(yS hq _ _ _).trans hO
 exact ⟨below_setsg _ (by omega) _ _ _ h.bel,hne h.sch (by omega),hne h.res (by omega),hne h.typ (by omega),text_set h.txt y,hgl⟩
theorem DcS.tc (h:DcS w x As cs Am cm b o n c g z W):(W.cell? ⟨g,0,none⟩=some (.string z.1)∧W.cell? ⟨g,1,none⟩=some (.bool z.2.1)∧W.cell? ⟨g,2,none⟩=some (.bool z.2.2))∧W.frozen? ⟨g,0,none⟩=false :=
 ⟨text_cells h.txt,frozen_of_row _ _ _ _ _ h.txt⟩
theorem DcS.sc (h:DcS w x As cs Am cm b o n c g z W):W.cell? ⟨w.heap.size,0,none⟩=some (.slice (some ⟨b,o,none⟩) n c):=by
 rw[cell_of_row _ _ _ _ _ _ h.sch];rfl
end
theorem mbox_cells {W:World} {q:Nat} {m:MemD} {M1:zo} {m1:Nat} {M2:zo} {m2:Nat} {M3:zo} {m3:Nat} (h:W.heap[q]? = some (m.box M1 m1 M2 m2 M3 m3)) :
  W.cell? ⟨q,0,none⟩=some (.int .i64 m.id)∧W.cell? ⟨q,1,none⟩=some (.string m.name)∧W.cell? ⟨q,2,none⟩=some (.int .i64 m.type)∧W.cell? ⟨q,3,none⟩=some (.bool m.critical)∧W.cell? ⟨q,4,none⟩=some (.bool m.hasDef)∧W.cell? ⟨q,5,none⟩=some (.int .i64 m.dflt.kind)∧W.cell? ⟨q,6,none⟩=some (.bool m.dflt.bool)∧W.cell? ⟨q,7,none⟩=some (.int .i64 m.dflt.int)∧W.cell? ⟨q,8,none⟩=some (.string m.dflt.str)∧W.cell? ⟨q,9,none⟩=some (.int .i64 m.dflt.id)∧W.cell? ⟨q,10,none⟩=some (.slice M1 m.dflt.keys.length m1)∧W.cell? ⟨q,11,none⟩=some (.slice M2 m.dflt.items.length m2)∧W.cell? ⟨q,12,none⟩=some (.slice M3 m.dflt.rest.length m3):=by
 refine ⟨?_,?_,?_,?_,?_,?_,?_,?_,?_,?_,?_,?_,?_⟩ <;> (rw[cell_of_row _ _ _ _ _ _ h];rfl)
theorem free_any (n:Int) (w:World):Calls Tryz.prog 136 #[.int .i64 n] w fun e w'=>e = .returned (.bool (freeD n))∧w'=w:=by
 by_cases h1:1≤n
 ·have q1:(1:Int)≤n:=h1
  have HD:Hid (freeD n=decide (n≤1000)):=by show _=_;unfold freeD;simp[h1]
  clear h1
  go_enter Tryz.func136,Tryz.ntmps136
  go_wp2
  go_ret
  exact ⟨by rw[HD.out];rfl,rfl⟩
 ·have q1:¬ (1:Int)≤n:=h1
  have HD:Hid (freeD n=false):=by show _=_;unfold freeD;simp[h1]
  clear h1
  go_enter Tryz.func136,Tryz.ntmps136
  go_wp2
  go_ret
  exact ⟨by rw[HD.out];rfl,rfl⟩
theorem proper_any (v:Val) (h:1≤v.kind∧v.kind≤9) (A1:zo) (c1:Nat) (A2:zo) (c2:Nat) (A3:zo) (c3:Nat) (w:World) :
  Calls Tryz.prog 134 #[v.v A1 c1 A2 c2 A3 c3] w fun e w'=>e = .returned (.bool (zK v))∧Below w.heap.size w w':=by
 have HBA:=zh (fun w=>bare_any v h A1 c1 A2 c2 A3 c3 w)
 have HB0:=zh (zD w (v.box A1 c1 A2 c2 A3 c3));have HX0:=zh (heap_alloc_new w (v.box A1 c1 A2 c2 A3 c3));have HPD:Hid (zK v=(decide (v.bool=(bareD v).bool)&&decide (v.int=(bareD v).int)&&decide (v.str=(bareD v).str)&&decide (v.id=(bareD v).id)&&decide (v.keys.length=(bareD v).keys.length)&&decide (v.items.length=(bareD v).items.length)&&decide (v.rest.length=(bareD v).rest.length))):=rfl;clear h
 go_enter Tryz.func134,Tryz.ntmps134
 go_wp2_with fail
 refine (HBA.out _).mono ?_;rintro e w1 ⟨B1,d1,B2,d2,B3,d3,rfl,hb1⟩;clear HBA;generalize bareD v=B at *;have HX1:=zF HX0.out hb1;have HB1:=zh (zB HB0.out hb1);have hlt:w.heap.size<w1.heap.size:=(zg.1 HX1).1;have x1:w1.cell? ⟨w.heap.size,1,none⟩=some (.bool v.bool):=by rw[cell_of_row _ _ _ _ _ _ HX1];rfl
 have x2:w1.cell? ⟨w.heap.size,2,none⟩=some (.int .i64 v.int):=by rw[cell_of_row _ _ _ _ _ _ HX1];rfl
 have x3:w1.cell? ⟨w.heap.size,3,none⟩=some (.string v.str):=by rw[cell_of_row _ _ _ _ _ _ HX1];rfl
 have x4:w1.cell? ⟨w.heap.size,4,none⟩=some (.int .i64 v.id):=by rw[cell_of_row _ _ _ _ _ _ HX1];rfl
 have x5:w1.cell? ⟨w.heap.size,5,none⟩=some (.slice A1 v.keys.length c1):=by rw[cell_of_row _ _ _ _ _ _ HX1];rfl
 have x6:w1.cell? ⟨w.heap.size,6,none⟩=some (.slice A2 v.items.length c2):=by rw[cell_of_row _ _ _ _ _ _ HX1];rfl
 have x7:w1.cell? ⟨w.heap.size,7,none⟩=some (.slice A3 v.rest.length c3):=by rw[cell_of_row _ _ _ _ _ _ HX1];rfl
 have HBN:=zh (fun o=>zB HB1.out (zD w1 o))
 clear hb1 HX1
 by_cases q1:v.bool=B.bool
 case neg =>
  have HD:Hid (zK v=false):=by show _=_;rw[HPD.out];simp[q1]
  have e1:(v.bool==B.bool)=false:=by simpa using q1
  clear q1;go_wp2;go_ret;exact ⟨by rw[HD.out];rfl,HBN.out _⟩
 have e1:(v.bool==B.bool)=true:=by simpa using q1
 by_cases q2:v.int=B.int
 case neg =>
  have HD:Hid (zK v=false):=by show _=_;rw[HPD.out];simp[q2]
  have e2:(v.int==B.int)=false:=by simpa using q2
  clear q1 q2;go_wp2;go_ret;exact ⟨by rw[HD.out];rfl,HBN.out _⟩
 have e2:(v.int==B.int)=true:=by simpa using q2
 by_cases q3:v.str=B.str
 case neg =>
  have HD:Hid (zK v=false):=by show _=_;rw[HPD.out];simp[q3]
  have e3:(v.str.toList==B.str.toList)=false:=by rw[zS];exact decide_eq_false q3
  clear q1 q2 q3;go_wp2;go_ret;exact ⟨by rw[HD.out];rfl,HBN.out _⟩
 have e3:(v.str.toList==B.str.toList)=true:=by rw[zS];exact decide_eq_true q3
 by_cases q4:v.id=B.id
 case neg =>
  have HD:Hid (zK v=false):=by show _=_;rw[HPD.out];simp[q4]
  have e4:(v.id==B.id)=false:=by simpa using q4
  clear q1 q2 q3 q4;go_wp2;go_ret;exact ⟨by rw[HD.out];rfl,HBN.out _⟩
 have e4:(v.id==B.id)=true:=by simpa using q4
 by_cases q5:v.keys.length=B.keys.length
 case neg =>
  have HD:Hid (zK v=false):=by show _=_;rw[HPD.out];simp[q5]
  have e5:((v.keys.length:Int)==(B.keys.length:Int))=false:=beq_eq_false_iff_ne.2 (by omega)
  clear q1 q2 q3 q4 q5;go_wp2;go_ret;exact ⟨by rw[HD.out];rfl,HBN.out _⟩
 have e5:((v.keys.length:Int)==(B.keys.length:Int))=true:=beq_iff_eq.2 (by omega)
 by_cases q6:v.items.length=B.items.length
 case neg =>
  have HD:Hid (zK v=false):=by show _=_;rw[HPD.out];simp[q6]
  have e6:((v.items.length:Int)==(B.items.length:Int))=false:=beq_eq_false_iff_ne.2 (by omega)
  clear q1 q2 q3 q4 q5 q6;go_wp2;go_ret;exact ⟨by rw[HD.out];rfl,HBN.out _⟩
 have e6:((v.items.length:Int)==(B.items.length:Int))=true:=beq_iff_eq.2 (by omega)
 by_cases q7:v.rest.length=B.rest.length
 case neg =>
  have HD:Hid (zK v=false):=by show _=_;rw[HPD.out];simp[q7]
  have e7:((v.rest.length:Int)==(B.rest.length:Int))=false:=beq_eq_false_iff_ne.2 (by omega)
  clear q1 q2 q3 q4 q5 q6 q7;go_wp2;go_ret;exact ⟨by rw[HD.out];rfl,HBN.out _⟩
 have e7:((v.rest.length:Int)==(B.rest.length:Int))=true:=beq_iff_eq.2 (by omega)
 have HD:Hid (zK v=true):=by show _=_;rw[HPD.out];simp[q1,q2,q3,q4,q5,q6,q7]
 clear q1 q2 q3 q4 q5 q6 q7;go_wp2;go_ret;exact ⟨by rw[HD.out];rfl,HBN.out _⟩
def idxD {α:Type} (p:α→Bool):List α→Int
 | [] => -1
 | x::r=>if p x then 0 else if idxD p r<0 then -1 else idxD p r+1
theorem idxD_lt {α:Type} (p:α→Bool):∀l:List α,idxD p l = -1∨(0≤idxD p l∧idxD p l<l.length)
 | [] => .inl rfl
 | x::r=>by
  have h:=idxD_lt p r;unfold idxD
  split
  ·right;simp only[List.length_cons];omega
  ·split
   ·exact .inl rfl
   ·right;simp only[List.length_cons];omega
theorem idxD_at {α:Type} {p:α→Bool}:∀ (l:List α) (k:Nat) (hk:k<l.length),(∀j (h:j<l.length),j<k→p l[j]=false)→p l[k]=true→idxD p l=(k:Int)
 | [],_,hk,_,_=>by cases hk
 | x::r,0,_,_,h=>by
  have h':p x=true:=h;unfold idxD;rw[if_pos h'];rfl
 | x::r,k+1,hk,hn,h=>by
  have hx:p x=false:=hn 0 (by simp) (by omega)
  have ih:=idxD_at r k (by simpa using hk) (fun j h1 h2=>hn (j+1) (by simpa using h1) (by omega)) h
  unfold idxD;rw[hx,if_neg (by simp),ih,if_neg (by omega)]
  omega
theorem idxD_none {α:Type} {p:α→Bool}:∀ (l:List α),(∀j (h:j<l.length),p l[j]=false)→idxD p l = -1
 | [],_=>rfl
 | x::r,hn=>by
  have hx:p x=false:=hn 0 (by simp)
  have ih:=idxD_none r (fun j h1=>hn (j+1) (by simpa using h1))
  unfold idxD;rw[hx,if_neg (by simp),ih]
  rfl
theorem sym1_any (n:Int) (q:Nat) (y:SymD) (w:World) (hq:w.cell? ⟨q,0,none⟩=some (.int .i64 n)) :
  Calls Tryz.prog 161 #[.agg #[.int .i64 y.id,.string y.name],.pointer (some ⟨q,0,none⟩)] w fun e w'=>e = .returned (.bool (decide (y.id=n)))∧Below w.heap.size w w':=by
 have hlt:=zN hq;simp only at hlt;have HB:=zh (fun o=>zD w o)
 have HQ:Hid ((y.id==n)=decide (y.id=n)):=rfl
 go_enter Tryz.func161,Tryz.ntmps161
 go_wp2
 go_ret
 exact ⟨by first|rfl|(rw[←HQ.out];rfl),HB.out _⟩
theorem mem1_any (n:Int) (q:Nat) (y:MemD) (A1:zo) (c1:Nat) (A2:zo) (c2:Nat) (A3:zo) (c3:Nat) (w:World) (hq:w.cell? ⟨q,0,none⟩=some (.int .i64 n)) :
  Calls Tryz.prog 163 #[y.v A1 c1 A2 c2 A3 c3,.pointer (some ⟨q,0,none⟩)] w fun e w'=>e = .returned (.bool (decide (y.id=n)))∧Below w.heap.size w w':=by
 have hlt:=zN hq;simp only at hlt;have HB:=zh (fun o=>zD w o)
 go_enter Tryz.func163,Tryz.ntmps163
 go_wp2
 go_ret
 exact ⟨rfl,HB.out _⟩
theorem idxSym_any (n:Int) (q:Nat) (l:List SymD) (A:zo) (c:Nat) (w:World) (hl:SymsR w A l) (hq:w.cell? ⟨q,0,none⟩=some (.int .i64 n)) :
  Calls Tryz.prog 160 #[.slice A l.length c,.func (.func 161) #[] #[.pointer (some ⟨q,0,none⟩)]] w fun e w'=>e = .returned (.int .i64 (idxD (fun y:SymD=>decide (y.id=n)) l))∧Below w.heap.size w w':=by
 have hln:=hl.1.lt (by omega)
 have HL:=zh hl;have HQ:=zh hq;clear hl hq
 go_enter Tryz.func160,Tryz.ntmps160
 go_wp2
 go_loopw [8] (fun i wr=>∃k:Nat,k≤l.length∧i = .int .i64 (k:Int)∧Hid ((∀j (h:j<l.length),j<k→decide ((l[j]).id=n)=false)∧Below w.heap.size w wr)) (fun i _=>l.length - (intOf i).toNat)
 case atStart=>exact ⟨0,by omega,rfl,(fun j _ h=>absurd h (by omega)),Below.refl _ _⟩
 case round =>
  obtain ⟨k,hk,rfl,hh⟩:=hrel
  by_cases hlt:k<l.length
  ·obtain ⟨b,o,rfl,hr1,a0,a1⟩:=(HL.out.below hh.out.2).at2 hlt
   clear hr1;have h1:(0:Int)≤(k:Int):=by omega
   have h2:(k:Int)<(l.length:Int):=by omega
   cases he:decide ((l[k]).id=n) with
   | true =>
    have HD:=zh he;have HI:=zh (idxD_at (p:=fun y:SymD=>decide (y.id=n)) l k hlt hh.out.1 he)
    clear he;go_wp2_with (go_at_call 161;refine (sym1_any n q l[k] _ (zA hh.out.2 HQ.out)).mono ?_;rintro e w2 ⟨rfl,hb2⟩;rw[HD.out]);go_ret;exact ⟨by rw[HI.out];rfl,zB hh.out.2 hb2⟩
   | false =>
    have HD:=zh he;have HN:Hid (∀j (h:j<l.length),j<k+1→decide ((l[j]).id=n)=false):=fun j h hj=>by
     by_cases e:j=k
     ·subst e;exact he
     ·exact hh.out.1 j h (by omega)
    clear he;go_wp2_with (go_at_call 161;refine (sym1_any n q l[k] _ (zA hh.out.2 HQ.out)).mono ?_;rintro e w2 ⟨rfl,hb2⟩;rw[HD.out]);go_roundw
    case rel=>exact ⟨k+1,by omega,by go_num,HN.out,zB hh.out.2 hb2⟩
    case measure=>simp[intOf];omega
  ·have HI:=zh (idxD_none (p:=fun y:SymD=>decide (y.id=n)) l fun j h=>hh.out.1 j h (by omega))
   go_wp2
   go_ret
   exact ⟨by rw[HI.out];rfl,hh.out.2⟩
theorem idxMem_any (n:Int) (q:Nat) (l:List MemD) (A:zo) (c:Nat) (w:World) (hl:MemsR w A l) (hq:w.cell? ⟨q,0,none⟩=some (.int .i64 n)) :
  Calls Tryz.prog 162 #[.slice A l.length c,.func (.func 163) #[] #[.pointer (some ⟨q,0,none⟩)]] w fun e w'=>e = .returned (.int .i64 (idxD (fun y:MemD=>decide (y.id=n)) l))∧Below w.heap.size w w':=by
 have hln:=hl.1.lt (by omega)
 have HL:=zh hl;have HQ:=zh hq;clear hl hq
 go_enter Tryz.func162,Tryz.ntmps162
 go_wp2
 go_loopw [8] (fun i wr=>∃k:Nat,k≤l.length∧i = .int .i64 (k:Int)∧Hid ((∀j (h:j<l.length),j<k→decide ((l[j]).id=n)=false)∧Below w.heap.size w wr)) (fun i _=>l.length - (intOf i).toNat)
 case atStart=>exact ⟨0,by omega,rfl,(fun j _ h=>absurd h (by omega)),Below.refl _ _⟩
 case round =>
  obtain ⟨k,hk,rfl,hh⟩:=hrel
  by_cases hlt:k<l.length
  ·obtain ⟨b,o,A1,c1,A2,c2,A3,c3,rfl,hr1,a0,a1,a2,a3,a4,a5,a6,a7,a8,a9,a10,a11,a12⟩:=(HL.out.below hh.out.2).at13 hlt
   clear hr1;have h1:(0:Int)≤(k:Int):=by omega
   have h2:(k:Int)<(l.length:Int):=by omega
   cases he:decide ((l[k]).id=n) with
   | true =>
    have HD:=zh he;have HI:=zh (idxD_at (p:=fun y:MemD=>decide (y.id=n)) l k hlt hh.out.1 he)
    clear he;go_wp2_with (go_at_call 163;refine (mem1_any n q l[k] A1 c1 A2 c2 A3 c3 _ (zA hh.out.2 HQ.out)).mono ?_;rintro e w2 ⟨rfl,hb2⟩;rw[HD.out]);go_ret;exact ⟨by rw[HI.out];rfl,zB hh.out.2 hb2⟩
   | false =>
    have HD:=zh he;have HN:Hid (∀j (h:j<l.length),j<k+1→decide ((l[j]).id=n)=false):=fun j h hj=>by
     by_cases e:j=k
     ·subst e;exact he
     ·exact hh.out.1 j h (by omega)
    clear he;go_wp2_with (go_at_call 163;refine (mem1_any n q l[k] A1 c1 A2 c2 A3 c3 _ (zA hh.out.2 HQ.out)).mono ?_;rintro e w2 ⟨rfl,hb2⟩;rw[HD.out]);go_roundw
    case rel=>exact ⟨k+1,by omega,by go_num,HN.out,zB hh.out.2 hb2⟩
    case measure=>simp[intOf];omega
  ·have HI:=zh (idxD_none (p:=fun y:MemD=>decide (y.id=n)) l fun j h=>hh.out.1 j h (by omega))
   go_wp2
   go_ret
   exact ⟨by rw[HI.out];rfl,hh.out.2⟩
theorem scSym_any (n:Int) (t:TyD) (As:zo) (cs:Nat) (Am:zo) (cm:Nat) (w:World) (ht:TyR w t As Am) :
  Calls Tryz.prog 135 #[t.v As cs Am cm,.int .i64 n] w fun e w'=>e = .returned (.tuple #[.int .i64 (if idxD (fun y:SymD=>decide (y.id=n)) t.syms<0 then 0 else idxD (fun y:SymD=>decide (y.id=n)) t.syms),.bool (decide (0≤idxD (fun y:SymD=>decide (y.id=n)) t.syms))])∧Below w.heap.size w w':=by
 have HT:=zh (ht.below (zE w (t.box As cs Am cm) (.cells #[.int .i64 n] 3)));have HB:=zh (zE w (t.box As cs Am cm) (.cells #[.int .i64 n] 3));have HQ:Hid (((w.alloc (t.box As cs Am cm)).alloc (.cells #[.int .i64 n] 3)).cell? ⟨w.heap.size+1,0,none⟩=some (.int .i64 n)):=by
  show _=_
  have:=zT (w.alloc (t.box As cs Am cm)) [.int .i64 n] 3 0 _ rfl;simp
 clear ht;have HI:=idxD_lt (fun y:SymD=>decide (y.id=n)) t.syms
 obtain ⟨r,hre⟩:∃r,idxD (fun y:SymD=>decide (y.id=n)) t.syms=r:=⟨_,rfl⟩
 have HRE:=zh hre;rw[hre] at HI ⊢;clear hre;have hHI:=zh HI;clear HI
 go_enter Tryz.func135,Tryz.ntmps135
 go_wp2_with fail
 refine (idxSym_any n (w.heap.size+1) t.syms _ _ _ (HT.out.syms) HQ.out).mono ?_;rintro e w2 ⟨rfl,hb2⟩;rw[HRE.out];have HBF:=zh (zB HB.out hb2);clear hb2 HRE;have HI:=hHI.out;clear hHI
 by_cases hr:r<0
 ·have HR:Hid ((if r<0 then 0 else r)=0):=if_pos hr
  have HR2:Hid (decide (0≤r)=false):=decide_eq_false (by omega)
  obtain rfl:r = -1:=by omega
  clear hr HI;have q2:max (-1:Int) 0=0:=by decide
  go_wp2
  go_ret2
  exact ⟨by first|rfl|(rw[HR2.out];rfl)|(rw[HR.out];rfl)|(rw[HR.out,HR2.out];rfl),HBF.out⟩
 ·have HR:Hid ((if r<0 then 0 else r)=r):=if_neg hr
  have HR2:Hid (decide (0≤r)=true):=decide_eq_true (by omega)
  have q1:(0:Int)≤r:=by omega
  have q2:max r 0=r:=by omega
  clear hr HI;go_wp2;go_ret2;exact ⟨by first|rfl|(rw[HR2.out];rfl)|(rw[HR.out];rfl)|(rw[HR.out,HR2.out];rfl),HBF.out⟩
theorem scMem_any (n:Int) (t:TyD) (As:zo) (cs:Nat) (Am:zo) (cm:Nat) (w:World) (ht:TyR w t As Am) :
  Calls Tryz.prog 137 #[t.v As cs Am cm,.int .i64 n] w fun e w'=>e = .returned (.tuple #[.int .i64 (if idxD (fun y:MemD=>decide (y.id=n)) t.mems<0 then 0 else idxD (fun y:MemD=>decide (y.id=n)) t.mems),.bool (decide (0≤idxD (fun y:MemD=>decide (y.id=n)) t.mems))])∧Below w.heap.size w w':=by
 have HT:=zh (ht.below (zE w (t.box As cs Am cm) (.cells #[.int .i64 n] 3)));have HB:=zh (zE w (t.box As cs Am cm) (.cells #[.int .i64 n] 3));have HQ:Hid (((w.alloc (t.box As cs Am cm)).alloc (.cells #[.int .i64 n] 3)).cell? ⟨w.heap.size+1,0,none⟩=some (.int .i64 n)):=by
  show _=_
  have:=zT (w.alloc (t.box As cs Am cm)) [.int .i64 n] 3 0 _ rfl;simp
 clear ht;have HI:=idxD_lt (fun y:MemD=>decide (y.id=n)) t.mems
 obtain ⟨r,hre⟩:∃r,idxD (fun y:MemD=>decide (y.id=n)) t.mems=r:=⟨_,rfl⟩
 have HRE:=zh hre;rw[hre] at HI ⊢;clear hre;have hHI:=zh HI;clear HI
 go_enter Tryz.func137,Tryz.ntmps137
 go_wp2_with fail
 refine (idxMem_any n (w.heap.size+1) t.mems _ _ _ (HT.out.mems) HQ.out).mono ?_;rintro e w2 ⟨rfl,hb2⟩;rw[HRE.out];have HBF:=zh (zB HB.out hb2);clear hb2 HRE;have HI:=hHI.out;clear hHI
 by_cases hr:r<0
 ·have HR:Hid ((if r<0 then 0 else r)=0):=if_pos hr
  have HR2:Hid (decide (0≤r)=false):=decide_eq_false (by omega)
  obtain rfl:r = -1:=by omega
  clear hr HI;have q2:max (-1:Int) 0=0:=by decide
  go_wp2
  go_ret2
  exact ⟨by first|rfl|(rw[HR2.out];rfl)|(rw[HR.out];rfl)|(rw[HR.out,HR2.out];rfl),HBF.out⟩
 ·have HR:Hid ((if r<0 then 0 else r)=r):=if_neg hr
  have HR2:Hid (decide (0≤r)=true):=decide_eq_true (by omega)
  have q1:(0:Int)≤r:=by omega
  have q2:max r 0=r:=by omega
  clear hr HI;go_wp2;go_ret2;exact ⟨by first|rfl|(rw[HR2.out];rfl)|(rw[HR.out];rfl)|(rw[HR.out,HR2.out];rfl),HBF.out⟩
theorem isNaNi_any (x:Int) (w:World):Calls Tryz.prog 180 #[.int .i64 x] w fun e w'=>e = .returned (.bool false)∧w=w':=by
 have q1:(x != x)=false:=by simp
 go_enter Tryz.func180,Tryz.ntmps180
 go_wp2
 go_ret
 exact ⟨rfl,rfl⟩
theorem isNaNu_any (x:Int) (w:World):Calls Tryz.prog 179 #[.int .u64 x] w fun e w'=>e = .returned (.bool false)∧w=w':=by
 have q1:(x != x)=false:=by simp
 go_enter Tryz.func179,Tryz.ntmps179
 go_wp2
 go_ret
 exact ⟨rfl,rfl⟩
theorem isNaNs_any (x:ByteArray) (w:World):Calls Tryz.prog 181 #[.string x] w fun e w'=>e = .returned (.bool false)∧w=w':=by
 go_enter Tryz.func181,Tryz.ntmps181
 go_wp2
 go_ret
 exact ⟨by first|rfl|simp,rfl⟩
theorem comparei_any (x y:Int) (w:World):Calls Tryz.prog 169 #[.int .i64 x,.int .i64 y] w fun e w'=>e = .returned (.int .i64 (cmpI x y))∧w=w':=by
 by_cases h1:x<y
 ·have HD:Hid (cmpI x y = -1):=by show _=_;unfold cmpI;rw[if_pos h1]
  go_enter Tryz.func169,Tryz.ntmps169
  go_wp2_with fail
  refine (isNaNi_any x w).mono ?_;rintro e w2 ⟨rfl,rfl⟩;go_wp2_with fail;refine (isNaNi_any y w).mono ?_;rintro e w2 ⟨rfl,rfl⟩;go_wp2;go_ret;exact ⟨by rw[HD.out];rfl,rfl⟩
 ·by_cases h2:x=y
  ·subst h2
   have HD:Hid (cmpI x x=0):=by show _=_;unfold cmpI;rw[if_neg h1,if_pos rfl]
   have h3:¬ x > x:=by omega
   go_enter Tryz.func169,Tryz.ntmps169
   go_wp2_with fail
   refine (isNaNi_any x w).mono ?_;rintro e w2 ⟨rfl,rfl⟩;go_wp2_with fail;refine (isNaNi_any x w).mono ?_;rintro e w2 ⟨rfl,rfl⟩;go_wp2;go_ret;exact ⟨by rw[HD.out];rfl,rfl⟩
  ·have HD:Hid (cmpI x y=1):=by show _=_;unfold cmpI;rw[if_neg h1,if_neg h2]
   have h3:y<x:=by omega
   clear h2
   go_enter Tryz.func169,Tryz.ntmps169
   go_wp2_with fail
   refine (isNaNi_any x w).mono ?_;rintro e w2 ⟨rfl,rfl⟩;go_wp2_with fail;refine (isNaNi_any y w).mono ?_;rintro e w2 ⟨rfl,rfl⟩;go_wp2;go_ret;exact ⟨by rw[HD.out];rfl,rfl⟩
theorem compareu_any (x y:Int) (w:World):Calls Tryz.prog 166 #[.int .u64 x,.int .u64 y] w fun e w'=>e = .returned (.int .i64 (cmpI x y))∧w=w':=by
 by_cases h1:x<y
 ·have HD:Hid (cmpI x y = -1):=by show _=_;unfold cmpI;rw[if_pos h1]
  go_enter Tryz.func166,Tryz.ntmps166
  go_wp2_with fail
  refine (isNaNu_any x w).mono ?_;rintro e w2 ⟨rfl,rfl⟩;go_wp2_with fail;refine (isNaNu_any y w).mono ?_;rintro e w2 ⟨rfl,rfl⟩;go_wp2;go_ret;exact ⟨by rw[HD.out];rfl,rfl⟩
 ·by_cases h2:x=y
  ·subst h2
   have HD:Hid (cmpI x x=0):=by show _=_;unfold cmpI;rw[if_neg h1,if_pos rfl]
   have h3:¬ x > x:=by omega
   go_enter Tryz.func166,Tryz.ntmps166
   go_wp2_with fail
   refine (isNaNu_any x w).mono ?_;rintro e w2 ⟨rfl,rfl⟩;go_wp2_with fail;refine (isNaNu_any x w).mono ?_;rintro e w2 ⟨rfl,rfl⟩;go_wp2;go_ret;exact ⟨by rw[HD.out];rfl,rfl⟩
  ·have HD:Hid (cmpI x y=1):=by show _=_;unfold cmpI;rw[if_neg h1,if_neg h2]
   have h3:y<x:=by omega
   clear h2
   go_enter Tryz.func166,Tryz.ntmps166
   go_wp2_with fail
   refine (isNaNu_any x w).mono ?_;rintro e w2 ⟨rfl,rfl⟩;go_wp2_with fail;refine (isNaNu_any y w).mono ?_;rintro e w2 ⟨rfl,rfl⟩;go_wp2;go_ret;exact ⟨by rw[HD.out];rfl,rfl⟩
theorem run_gtr_s (x y:ByteArray) (w:World):(binOp .gtr 9 (.string x) (.string y)).run Tryz.prog w = .ok (.bool (!ltS x y && !decide (x=y))) w:=by
 have h:=zS x y;simp[binOp,Op.stringOp,ltS,h]
theorem compares_any (x y:ByteArray) (w:World):Calls Tryz.prog 170 #[.string x,.string y] w fun e w'=>e = .returned (.int .i64 (cmpS x y))∧w=w':=by
 cases hl:ltS x y with
 | true =>
  have HD:Hid (cmpS x y = -1):=by show _=_;unfold cmpS;rw[hl,if_pos rfl]
  have q1:Op.bytesLess x.toList y.toList=true:=hl;clear hl
  go_enter Tryz.func170,Tryz.ntmps170
  go_wp2_with fail
  refine (isNaNs_any x w).mono ?_;rintro e w2 ⟨rfl,rfl⟩;go_wp2_with fail;refine (isNaNs_any y w).mono ?_;rintro e w2 ⟨rfl,rfl⟩;go_wp2;go_ret;exact ⟨by rw[HD.out];rfl,rfl⟩
 | false =>
  have hg:=run_gtr_s x y w;have q1:Op.bytesLess x.toList y.toList=false:=hl;rw[hl] at hg
  by_cases he:x=y
  ·have HD:Hid (cmpS x y=0):=by show _=_;unfold cmpS;rw[hl,if_neg (by simp),if_pos he]
   rw[decide_eq_true he] at hg;clear hl he
   go_enter Tryz.func170,Tryz.ntmps170
   go_wp2_with fail
   refine (isNaNs_any x w).mono ?_;rintro e w2 ⟨rfl,rfl⟩;go_wp2_with fail;refine (isNaNs_any y w).mono ?_;rintro e w2 ⟨rfl,rfl⟩;go_wp2;go_ret;exact ⟨by rw[HD.out];rfl,rfl⟩
  ·have HD:Hid (cmpS x y=1):=by show _=_;unfold cmpS;rw[hl,if_neg (by simp),if_neg he]
   rw[decide_eq_false he] at hg;clear hl he
   go_enter Tryz.func170,Tryz.ntmps170
   go_wp2_with fail
   refine (isNaNs_any x w).mono ?_;rintro e w2 ⟨rfl,rfl⟩;go_wp2_with fail;refine (isNaNs_any y w).mono ?_;rintro e w2 ⟨rfl,rfl⟩;go_wp2;go_ret;exact ⟨by rw[HD.out];rfl,rfl⟩
theorem zig_bits {n:Int} (h:In64 n):bits .xor .u64 (IntKind.u64.wrap (IntKind.u64.wrap n * 2)) (IntKind.u64.wrap (n / 9223372036854775808))=zzD n:=by
 obtain ⟨h1,h2⟩:=h
 by_cases hn:0≤n
 ·have e1:IntKind.u64.wrap (IntKind.u64.wrap n * 2)=(((2 * n).toNat:Nat):Int):=by rw[IntKind.wrap_u64,IntKind.wrap_u64];omega
  have e2:IntKind.u64.wrap (n / 9223372036854775808)=((0:Nat):Int):=by rw[IntKind.wrap_u64];omega
  rw[e1,e2,bits_xor_u64_nat _ _ (by omega) (by decide),Nat.xor_zero]
  unfold zzD;rw[if_pos hn];omega
 ·have e1:IntKind.u64.wrap (IntKind.u64.wrap n * 2)=(((2 * n+18446744073709551616).toNat:Nat):Int):=by rw[IntKind.wrap_u64,IntKind.wrap_u64];omega
  have e2:IntKind.u64.wrap (n / 9223372036854775808)=((2 ^ 64 - 1:Nat):Int):=by rw[IntKind.wrap_u64];omega
  rw[e1,e2,bits_xor_u64_nat _ _ (by omega) (by decide),Nat.xor_comm,Lib.xor_ones64 _ (by omega)]
  unfold zzD;rw[if_neg hn];omega
theorem zig_any (n:Int) (h:In64 n) (w:World):Calls Tryz.prog 167 #[.int .i64 n] w fun e w'=>e = .returned (.int .u64 (zzD n))∧w=w':=by
 have HZ:=zh (zig_bits h)
 go_enter Tryz.func167,Tryz.ntmps167
 go_wp2
 go_ret
 exact ⟨by rw[←HZ.out];rfl,rfl⟩
theorem eqTys_any (l m:List TyD) (A B:zo) (c d:Nat) (w:World) (hl:TysR w A l) (hm:TysR w B m) :
  Calls Tryz.prog 71 #[.slice A l.length c,.slice B m.length d,.func (.func 72) #[] #[]] w (SamePost (decide (l=m)) w):=by
 have hn:=hl.1.lt (by omega)
 by_cases hlen:l.length=m.length
 ·rw[←hlen]
  have hb0:((l.length:Int) != (l.length:Int))=false:=by simp
  have HL:=zh hl;have HM:=zh hm;have HE:=zh hlen;clear hl hm hlen
  go_enter Tryz.func71,Tryz.ntmps71
  go_wp2
  go_loopw [17] (fun i wr=>∃k:Nat,k≤l.length∧i = .int .i64 k∧Hid (l.take k=m.take k)∧Hid (Below w.heap.size w wr)) (fun i _=>l.length - (intOf i).toNat)
  case atStart=>exact ⟨0,by omega,rfl,rfl,Below.refl _ _⟩
  case round =>
   obtain ⟨k,hk,rfl,htk,hbw⟩:=hrel
   by_cases hlt:k<l.length
   ·have hlt':k<m.length:=by have:=HE.out;omega
    obtain ⟨b,o,As,cs,Am,cm,rfl,hr1,a0,a1,a2,a3,a4,a5,a6,a7,a8,a9⟩:=(HL.out.below hbw.out).at10 hlt;obtain ⟨b',o',Bs,ds,Bm,dm,rfl,hr2,b0,b1,b2,b3,b4,b5,b6,b7,b8,b9⟩:=(HM.out.below hbw.out).at10 hlt';have h1:(0:Int)≤(k:Int):=by omega
    have h2:(k:Int)<(l.length:Int):=by omega
    have hz1:=zN a0;have hz2:=zN b0;simp only at hz1 hz2;have HR1:=zh hr1;have HR2:=zh hr2;clear hr1 hr2
    by_cases he:l[k]=m[k]
    ·have HQ:=zh (take_eq_of hlt hlt' htk.out he)
     have HD:=zh (decide_eq_true he);clear he;go_wp2_with (go_at_call 72;refine (equal_any l[k] m[k] As cs Am cm Bs ds Bm dm _ (HR1.out.below (zE _ _ _)) (HR2.out.below (zE _ _ _))).mono ?_;rintro e w2 ⟨rfl,hb2⟩;rw[HD.out]);go_roundw
     case rel=>exact ⟨k+1,by omega,by go_num,HQ.out,zB hbw.out (zO hb2)⟩
     case measure=>simp[intOf];omega
    ·have HQ:=zh (take_ne_of hlt hlt' he)
     have HD:=zh (decide_eq_false he);clear he;go_wp2_with (go_at_call 72;refine (equal_any l[k] m[k] As cs Am cm Bs ds Bm dm _ (HR1.out.below (zE _ _ _)) (HR2.out.below (zE _ _ _))).mono ?_;rintro e w2 ⟨rfl,hb2⟩;rw[HD.out]);go_ret;exact ⟨by rw[HQ.out];rfl,zB hbw.out (zO hb2)⟩
   ·have HQ:=zh (take_all hlt HE.out htk.out)
    go_wp2
    go_ret
    exact ⟨by rw[HQ.out];rfl,hbw.out⟩
 ·have hb0:((l.length:Int) != (m.length:Int))=true:=bne_iff_ne.2 (by omega)
  have HQ:=zh (show decide (l=m)=false from decide_eq_false fun e=>hlen (by rw[e]))
  clear hlen
  go_enter Tryz.func71,Tryz.ntmps71
  go_wp2
  go_ret
  exact ⟨by rw[HQ.out];rfl,Below.refl _ _⟩
theorem scEqual_any (l m:List TyD) (A:zo) (c:Nat) (B:zo) (d:Nat) (w:World) (hl:TysR w A l) (hm:TysR w B m) :
  Calls Tryz.prog 42 #[.agg #[.slice A l.length c],.agg #[.slice B m.length d]] w (SamePost (decide (l=m)) w):=by
 have HL:=zh hl;have HM:=zh hm;clear hl hm
 go_enter Tryz.func42,Tryz.ntmps42
 go_wp2_with (go_at_call 71;refine (eqTys_any l m A B c d _ (HL.out.below (zE _ _ _)) (HM.out.below (zE _ _ _))).mono ?_;rintro e w2 ⟨rfl,hb2⟩)
 go_ret
 exact ⟨rfl,zO hb2⟩
theorem isTidy_any (s:List TyD) (d:Int) (A:zo) (c:Nat) (hd:DefSaid s A c d) (w:World) (hs:TysR w A s) :
  Calls Tryz.prog 13 #[.agg #[.slice A s.length c]] w (SamePost (decide (tidyE s d=0∧tidyT s d=s)) w):=by
 have hln:=hs.1.lt (by omega)
 have HS:=zh hs;have HD:=zh hd;have HB0:=zh (zD w (.cells #[.slice A s.length c] 27));have HX0:=zh (heap_alloc_new w (.cells #[.slice A s.length c] 27));clear hs hd
 go_enter Tryz.func13,Tryz.ntmps13
 go_wp2_with fail
 generalize w.alloc (.cells #[.slice A s.length c] 27)=W1 at *;refine (tidy_any s d A c HD.out W1 (HS.out.below HB0.out)).mono ?_;rintro e w1 ⟨A',c',B,c2,rfl,ht,_,hb1⟩;have HT:=zh ht;have HB1:=zh (zB HB0.out hb1);have HX1:=zh (zF HX0.out hb1);clear ht hb1;generalize htt:tidyT s d=T at *;generalize tidyI s d=I at *;generalize hte:tidyE s d=E at *
 have HBN:=zh (zD w1 (.cells #[.slice A' T.length c'] 27));have HX2:=zh (zF HX1.out HBN.out);have x0:=zb HX1.out;have hlt:=zN x0;simp only at hlt
 by_cases hE:E=0
 ·subst hE
  have HD1:Hid (decide ((0:Int)=0∧T=s)=decide (T=s)):=by show _=_;simp
  go_wp2_with fail
  refine (scEqual_any T s A' c' A c _ (HT.out.below HBN.out) (HS.out.below (zB HB1.out HBN.out))).mono ?_;rintro e w2 ⟨rfl,hb2⟩;have HB2:=zh (zB (zB HB1.out HBN.out) hb2);clear hb2;go_wp2;go_ret;exact ⟨by first|rfl|(rw[HD1.out];rfl),HB2.out⟩
 ·have q1:(E==0)=false:=by simp[hE]
  have HD2:Hid (decide (E=0∧T=s)=false):=decide_eq_false fun h=>hE h.1
  go_wp2
  go_ret
  exact ⟨by rw[HD2.out];rfl,zB HB1.out HBN.out⟩
end Go.Proofs.YtdfolgmcggdjdaaGreatDoor


