/-
  Walks: joined texts, what is written within a type.
-/
import Derived.Test.YtdfolgmcggdjdaaGreatDoorQYW2
import Derived.Test.YtdfolgmcggdjdaaGreatDoorQDM
namespace Go.Proofs.YtdfolgmcggdjdaaGreatDoor
open Go.RowKit
set_option maxHeartbeats 16000000
set_option maxRecDepth 100000
abbrev tv (x:TextD):Value := .agg #[.string x.1,.bool x.2.1,.bool x.2.2]
abbrev tbox (x:TextD):Obj := .cells #[.string x.1,.bool x.2.1,.bool x.2.2] 74
abbrev ztext:Obj := .cells #[.string ⟨#[]⟩,.bool false,.bool false] 74
theorem txt_info:(Tryz.prog.info? 74).map (·.size)=some 3:=by kernel_rfl
theorem txt_one (x:TextD):(#[Value.string x.1,.bool x.2.1,.bool x.2.2]).all (·.oneCell')=true:=by simp[Value.oneCell']
theorem there_text {w:World} {b:Nat} {x:TextD} (h:w.heap[b]? = some (tbox x)):w.there b 0 3:=fun j hj=>by
 rw[Nat.zero_add]
 refine ⟨?_,frozen_of_row _ _ _ _ _ h⟩
 rw[cell_of_row _ _ _ _ _ _ h]
 match j,hj with
 | 0,_=>rfl
 | 1,_=>rfl
 | 2,_=>rfl
theorem text_set {w:World} {b:Nat} {x:TextD} (h:w.heap[b]? = some (tbox x)) (y:TextD):(w.setCells b 0 [.string y.1,.bool y.2.1,.bool y.2.2]).heap[b]? = some (tbox y):=by
 rw[World.setCells,World.setCells,World.setCells,World.setCells,heap_setCell_same _ _ 2 _ _ _ (heap_setCell_same _ _ 1 _ _ _ (heap_setCell_same _ _ 0 _ _ _ h))]
 rfl
theorem text_cells {w:World} {b:Nat} {x:TextD} (h:w.heap[b]? = some (tbox x)):w.cell? ⟨b,0,none⟩=some (.string x.1)∧w.cell? ⟨b,1,none⟩=some (.bool x.2.1)∧w.cell? ⟨b,2,none⟩=some (.bool x.2.2):=by
 refine ⟨?_,?_,?_⟩ <;> (rw[cell_of_row _ _ _ _ _ _ h];rfl)
theorem joined_any (b m e:ByteArray) (x y:TextD) (w:World) (hz:b.size+x.1.size+m.size+y.1.size+e.size≤1000000) :
  Calls Tryz.prog 86 #[.string b,tv x,.string m,tv y,.string e] w fun e' w'=>e' = .returned (tv (joinD b x m y e))∧Below w.heap.size w w':=by
 obtain ⟨s1,w1,c1⟩:=x
 obtain ⟨s2,w2,c2⟩:=y
 simp only at hz
 have n1:¬ 9223372036854775807<b.size+s1.size:=by omega
 have n2:¬ 9223372036854775807<b.size+s1.size+m.size:=by omega
 have n3:¬ 9223372036854775807<b.size+s1.size+m.size+s2.size:=by omega
 have n4:¬ 9223372036854775807<b.size+s1.size+m.size+s2.size+e.size:=by omega
 have HB3:Hid (∀o,Below w.heap.size w (((w.alloc (tbox (s1,w1,c1))).alloc (tbox (s2,w2,c2))).alloc o)):=fun o=>zA (zC w _ _) (zD _ _)
 have HR:Hid (∀z:TextD,(((w.alloc (tbox (s1,w1,c1))).alloc (tbox (s2,w2,c2))).alloc (tbox z)).heap[w.heap.size+1+1]? = some (tbox z)):=fun z=>by
  have:=heap_alloc_new ((w.alloc (tbox (s1,w1,c1))).alloc (tbox (s2,w2,c2))) (tbox z)
  rw[←this];simp
 clear hz
 cases w1 <;> cases c1
 ·go_enter Tryz.func86,Tryz.ntmps86
  go_wp2_with fail
  obtain ⟨k0,k1,k2⟩:=text_cells (HR.out (joinD b (s1,false,false) m (s2,w2,c2) e))
  simp only[joinD,Bool.false_or] at k0 k1 k2
  refine bodyPost_ret (v:=tv (joinD b (s1,false,false) m (s2,w2,c2) e)) (by simp[results,Tryz.results86,go_sem,k0,k1,k2,joinD]) rfl ⟨rfl,HB3.out _⟩
 ·go_enter Tryz.func86,Tryz.ntmps86
  go_wp2_with fail
  obtain ⟨k0,k1,k2⟩:=text_cells (HR.out (joinD b (s1,false,true) m (s2,w2,c2) e))
  simp only[joinD,Bool.false_or,Bool.true_or] at k0 k1 k2
  refine bodyPost_ret (v:=tv (joinD b (s1,false,true) m (s2,w2,c2) e)) (by simp[results,Tryz.results86,go_sem,k0,k1,k2,joinD]) rfl ⟨rfl,HB3.out _⟩
 ·go_enter Tryz.func86,Tryz.ntmps86
  go_wp2_with fail
  obtain ⟨k0,k1,k2⟩:=text_cells (HR.out (joinD b (s1,true,false) m (s2,w2,c2) e))
  simp only[joinD,Bool.false_or,Bool.true_or] at k0 k1 k2
  refine bodyPost_ret (v:=tv (joinD b (s1,true,false) m (s2,w2,c2) e)) (by simp[results,Tryz.results86,go_sem,k0,k1,k2,joinD]) rfl ⟨rfl,HB3.out _⟩
 ·go_enter Tryz.func86,Tryz.ntmps86
  go_wp2_with fail
  obtain ⟨k0,k1,k2⟩:=text_cells (HR.out (joinD b (s1,true,true) m (s2,w2,c2) e))
  simp only[joinD,Bool.true_or] at k0 k1 k2
  refine bodyPost_ret (v:=tv (joinD b (s1,true,true) m (s2,w2,c2) e)) (by simp[results,Tryz.results86,go_sem,k0,k1,k2,joinD]) rfl ⟨rfl,HB3.out _⟩
theorem ints_newX (w:World) (l:List Int) (hl:l.length≤1000):IntsR (w.alloc (.cells (l.map (Value.int .i64)).toArray 3)) (some ⟨w.heap.size,0,none⟩) l:=by
 refine ⟨by unfold Lim;omega,fun _=>⟨_,_,rfl,fun i x hx=>⟨encI x,rfl,fun j u hj=>?_⟩⟩⟩
 have hj0:j=0:=by
  have:=(List.getElem?_eq_some_iff.1 hj).1
  unfold encI at this;simp at this;omega
 subst hj0
 have hu:u = .int .i64 x:=by unfold encI at hj;simpa using hj.symm
 subst hu
 rw[cell_of_row _ _ _ _ _ _ (heap_alloc_new w _)]
 simp[hx]
theorem ints_newY {w:World} {g:Nat} (hg:w.heap.size=g) (l:List Int) (hl:l.length≤1000):IntsR (w.alloc (.cells (l.map (Value.int .i64)).toArray 3)) (some ⟨g,0,none⟩) l:=hg▸ints_newX w l hl
theorem ints_nil (w:World):IntsR w none []:=RowsR.nil _ _ _ _ _
theorem inner_any (t:TyD) (As:Option Addr) (cs:Nat) (Am:Option Addr) (cm:Nat) (w:World) :
  Calls Tryz.prog 64 #[t.v As cs Am cm] w fun e w'=>∃A c,e = .returned (.slice A (zU t).length c)∧IntsR w' A (zU t)∧Below w.heap.size w w':=by
 obtain ⟨k,nm,lo,hi,mx,sy,me,ky,el,op⟩:=t
 show Calls Tryz.prog 64 #[.agg #[.int .i64 k,.string nm,.int .i64 lo,.int .i64 hi,.int .i64 mx,.slice As sy.length cs,.slice Am me.length cm,.int .i64 ky,.int .i64 el,.bool op]] w _
 have HB:=zh (fun o o2=>zC w o o2)
 have HB1:=zh (fun o=>zD w o)
 by_cases h7:k=7
 ·subst h7
  go_enter Tryz.func64,Tryz.ntmps64
  go_wp2
  go_ret
  exact ⟨_,_,rfl,ints_newY (w:=w.alloc _) (by simp) [el] (by simp),HB.out _ _⟩
 by_cases h9:k=9
 ·subst h9
  go_enter Tryz.func64,Tryz.ntmps64
  go_wp2
  go_ret
  exact ⟨_,_,rfl,ints_newY (w:=w.alloc _) (by simp) [el] (by simp),HB.out _ _⟩
 by_cases h8:k=8
 ·subst h8
  go_enter Tryz.func64,Tryz.ntmps64
  go_wp2
  go_ret
  exact ⟨_,_,rfl,ints_newY (w:=w.alloc _) (by simp) [ky,el] (by simp),HB.out _ _⟩
 ·have q7:(k==7)=false:=by simp[h7]
  have q8:(k==8)=false:=by simp[h8]
  have q9:(k==9)=false:=by simp[h9]
  have HI:Hid (zU ⟨k,nm,lo,hi,mx,sy,me,ky,el,op⟩=[]):=by
   show _=_
   unfold zU
   simp only
   rw[if_neg (by omega),if_neg h8]
  clear h7 h8 h9
  go_enter Tryz.func64,Tryz.ntmps64
  go_wp2
  go_ret
  rw[HI.out]
  exact ⟨_,_,rfl,ints_nil _,HB1.out _⟩
end Go.Proofs.YtdfolgmcggdjdaaGreatDoor


