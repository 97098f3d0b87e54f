/-
  Walks: canon.Distinguish: the states.
-/
import Derived.Test.YtkhpajneinmmiaaGreatDoorQCA3
import Derived.Test.YtkhpajneinmmiaaGreatDoorShelfS
import Derived.Test.YtkhpajneinmmiaaGreatDoorQPL
import Derived.ChangeKeysEq
import Derived.Sort.OwnSorted
import Derived.Shelf.SlSortCmp.NoneTotal
namespace Go.Proofs.YtkhpajneinmmiaaGreatDoor
open Go.RowKit
set_option maxHeartbeats 16000000
set_option maxRecDepth 100000
def SizePost (s:List TyD) (t:Int) (w:World) (e:Ending) (w':World):Prop :=
 ∃l:List TyD,e = .returned (.tuple #[.int .i64 (l.length:Int),.int .i64 (zH s t)])∧(zH s t=0→CanonIs s t l)∧(zH s t≠0→l=[])∧Below w.heap.size w w'
theorem size_any (s:List TyD) (t:Int) (A:Option Addr) (c:Nat) (w:World) (hs:TysR w A s) (htab:Tab w) :
  Calls Tryz.prog 24 #[rootV A s.length c t] w (SizePost s t w):=by
 have HS:=zh hs
 have HTB:=zh htab
 clear hs htab
 go_enter Tryz.func24,Tryz.ntmps24
 go_wp2_with fail
 refine (canon_any s t A c _ (HS.out.below (zD _ _)) (HTB.out.below (zD _ _))).mono ?_
 rintro e w2 ⟨A2,c2,l,rfl,_,h1,h2,hb2⟩
 have H1:=zh h1
 have H2:=zh h2
 have HB2:=zh (zW hb2)
 clear h1 h2 hb2
 go_wp2
 go_ret2
 exact ⟨l,rfl,H1.out,H2.out,zA HB2.out (zD _ _)⟩
open Go.RowKit Go.Sort
def cmpI (x y:Int):Int:=if x<y then -1 else if y<x then 1 else 0
theorem isNaNi_any (x:Int) (w:World):Calls Tryz.prog 83 #[.int .i64 x] w fun e w'=>e = .returned (.bool false)∧w=w':=by
 have h:(x != x)=false:=by simp
 go_enter Tryz.func83,Tryz.ntmps83
 go_wp2
 go_ret
 exact ⟨rfl,rfl⟩
theorem comparei_any (x y:Int) (w:World):Calls Tryz.prog 55 #[.int .i64 x,.int .i64 y] w fun e w'=>e = .returned (.int .i64 (cmpI x y))∧w=w':=by
 by_cases h1:x<y
 ·have HC:=zh (show cmpI x y = -1 by simp[cmpI,h1])
  go_enter Tryz.func55,Tryz.ntmps55
  go_wp2_with (go_at_call 83;refine (isNaNi_any _ _).mono ?_;rintro e w' ⟨rfl,rfl⟩)
  go_ret
  exact ⟨by rw[HC.out];rfl,rfl⟩
 ·by_cases h2:y<x
  ·have HC:=zh (show cmpI x y=1 by simp[cmpI,h1,h2])
   go_enter Tryz.func55,Tryz.ntmps55
   go_wp2_with (go_at_call 83;refine (isNaNi_any _ _).mono ?_;rintro e w' ⟨rfl,rfl⟩)
   go_ret
   exact ⟨by rw[HC.out];rfl,rfl⟩
  ·have HC:=zh (show cmpI x y=0 by simp[cmpI,h1,h2])
   go_enter Tryz.func55,Tryz.ntmps55
   go_wp2_with (go_at_call 83;refine (isNaNi_any _ _).mono ?_;rintro e w' ⟨rfl,rfl⟩)
   go_ret
   exact ⟨by rw[HC.out];rfl,rfl⟩
def Gr (w w':World):Prop:=∃q os,w'=grow (w.drewN q) os
theorem Gr.refl (w:World):Gr w w:=⟨0,#[],by simp[grow];rfl⟩
theorem Gr.alloc {w w':World} (h:Gr w w') (o:Obj):Gr w (w'.alloc o):=by
 obtain ⟨q,os,rfl⟩:=h
 exact ⟨q,os ++ #[o],by rw[alloc_eq_grow,grow_grow]⟩
def cmpU (x y:Int×Int):Int:=cmpI x.1 y.1
abbrev useV (x:Int×Int):Value := .agg #[.int .i64 x.1,.int .i64 x.2]
theorem cmpU_any (x y:Int×Int) (w:World):Calls Tryz.prog 54 #[useV x,useV y] w fun e w'=>e = .returned (.int .i64 (cmpU x y))∧Gr w w':=by
 have HG:Hid (Gr w ((w.alloc (.cells #[.int .i64 x.1,.int .i64 x.2] 89)).alloc (.cells #[.int .i64 y.1,.int .i64 y.2] 89))):=((Gr.refl w).alloc _).alloc _
 go_enter Tryz.func54,Tryz.ntmps54
 go_wp2_with (go_at_call 55;refine (comparei_any _ _ _).mono ?_;rintro e w' ⟨rfl,rfl⟩)
 go_ret
 exact ⟨rfl,HG.out⟩
theorem cmpU_lt (x y:Int×Int):decide (cmpU x y<0)=decide (x.1<y.1):=by
 unfold cmpU cmpI
 by_cases h1:x.1<y.1
 ·simp[h1]
 ·by_cases h2:y.1<x.1 <;> simp[h1,h2]
theorem swoU:SWO (ltOf cmpU) where
 irrefl x:=by unfold ltOf;rw[cmpU_lt];simp
 trans x y z h1 h2:=by unfold ltOf at *;rw[cmpU_lt] at *;simp at *;omega
 ntrans x y z h1 h2:=by unfold ltOf at *;rw[cmpU_lt] at *;simp at *;omega
theorem flatP_get:∀ (l:List (Int×Int)) (t:Nat),(l.flatMap encP)[t]? = (l[t / 2]?).bind fun c=>(encP c)[t % 2]?
 | [],t=>by simp
 | c::r,t=>by
  rw[List.flatMap_cons]
  have hc:(encP c).length=2:=rfl
  by_cases h:t<2
  ·rw[List.getElem?_append_left (by omega),Nat.div_eq_of_lt h,Nat.mod_eq_of_lt h];rfl
  ·rw[List.getElem?_append_right (by omega),hc,flatP_get r (t - 2)]
   have e1:t / 2=(t - 2) / 2+1:=by omega
   have e2:(t - 2) % 2=t % 2:=by omega
   rw[e1,e2,List.getElem?_cons_succ]
theorem flatP_len:∀ (l:List (Int×Int)),(l.flatMap encP).length=l.length * 2
 | []=>rfl
 | c::r=>by
  rw[List.flatMap_cons,List.length_append,flatP_len r,List.length_cons]
  show 2+_=_
  omega
theorem flatK_P (l:List (Int×Int)):(flatK encP 2 l.toArray).toList=l.flatMap encP:=by
 apply List.ext_getElem?
 intro t
 by_cases h:t<l.length * 2
 ·have hs:t<(flatK encP 2 l.toArray).size:=by simpa using h
  have hd:t / 2<l.length:=by omega
  rw[Array.getElem?_toList,Array.getElem?_eq_getElem hs,flatP_get,zl hd]
  have hg:=get_flatK encP 2 l.toArray t (by simpa using h)
  rw[getElem!_pos _ t hs] at hg
  rw[hg]
  have e:l.toArray[t / 2]! = l[t / 2]:=by simp[hd]
  rw[e]
  have hm:t % 2<2:=Nat.mod_lt _ (by omega)
  show _=(encP l[t / 2])[t % 2]?
  rw[zl (show t % 2<(encP l[t / 2]).length from hm),getElem!_pos (encP l[t / 2]) (t % 2) hm]
  rfl
 ·rw[List.getElem?_eq_none (by simpa using h),List.getElem?_eq_none (by rw[flatP_len];omega)]
theorem cmpLaysU (blk off size:Nat) (w:World):CmpLays Tryz.prog 54 #[] encP 2 cmpU blk off size w :=
 fun _ _ _ _ x y=>cmpU_any x y _
theorem heap_sortedK {w:World} {g n:Nat} {os:Array Obj} {cur:Array Value} {e:TypeId} {fr:Nat×Nat} (d:Array Value) (hb:w.heap[g]? = some (.cells cur e fr)) :
  (grow (putRow id (Sort.ahead w n) g 0 d) os).heap[g]? = some (.cells (putCells id 0 d cur) e fr):=by
 have hg:g<w.heap.size:=(zg.1 hb).1
 rw[heap_grow_old _ _ (by simpa using hg)]
 simp[putRow,mapBlock,Sort.ahead,Array.getElem?_modify,hb,onCells]
theorem grownBy_sortedK {w:World} {g n:Nat} {os:Array Obj} (d:Array Value):w.grownBy (grow (putRow id (Sort.ahead w n) g 0 d) os) (some g):=by
 refine ⟨rfl,rfl,rfl,by simp,fun k hk hne=>?_⟩
 rw[heap_grow_old _ _ (by simpa using hk)]
 have:g≠k:=fun e=>hne (by rw[e])
 simp[putRow,mapBlock,Sort.ahead,Array.getElem?_modify,this]
theorem take_putCellsK (cur:Array Value) (ts:List Value) (h:ts.length≤cur.size):(putCells id 0 ts.toArray cur).toList.take ts.length=ts:=by
 apply List.ext_getElem?
 intro j
 by_cases hj:j<ts.length
 ·rw[List.getElem?_take_of_lt hj,Array.getElem?_toList]
  simp[putCells,hj,show j<cur.size by omega]
 ·rw[List.getElem?_take_eq_none (by omega),List.getElem?_eq_none (by omega)]
def SortUPost (l:List (Int×Int)) (base:Nat) (v:Value) (w:World) (e:Ending) (w':World):Prop :=
 e = .returned (.tuple #[])∧∃l':List (Int×Int),OwnL 89 2 encP w' base v l'∧l'.Perm l∧l'.Pairwise (fun a b=>¬ b.1<a.1)∧w.grownBy w' v.ownBlock
theorem sortU_some (l:List (Int×Int)) (hl:l.length≤1000000) (base g cap:Nat) (w:World) (h:OwnL 89 2 encP w base (.slice (some ⟨g,0,none⟩) l.length cap) l) :
  Calls Tryz.prog 56 #[.slice (some ⟨g,0,none⟩) l.length cap,.func (.func 54) #[] #[]] w (SortUPost l base (.slice (some ⟨g,0,none⟩) l.length cap) w):=by
 have eg:∀args w,(callFunc 54 args).run Tryz.prog w = .ok (.enter 54 args) w:=enters_of Tryz.func54 (by kernel_rfl) rfl
 rcases h.2 with ⟨hv,_⟩|⟨g',cap',cur,hv,hbase,hb,h1,h2,h3,h4⟩
 ·cases hv
 ·injection hv with e1 _ e2
  injection e1 with e1
  injection e1 with e1
  subst e1;subst e2
  have hH:HoldsK encP 2 w g 0 l.toArray:=by
   intro j hj
   have hj':j<l.length * 2:=by simpa using hj
   have hjf:j<(l.flatMap encP).length:=by rw[flatP_len];exact hj'
   refine ⟨?_,by simp[World.frozen?,hb]⟩
   have hc:=World.ownsRow.cells h (g:=g) rfl j _ (zl hjf)
   rw[Addr.add_mid] at hc
   rw[hc]
   congr 1
   have hs:j<(flatK encP 2 l.toArray).size:=by simpa using hj'
   rw[getElem!_pos _ j hs]
   have:=flatK_P l
   show _=(flatK encP 2 l.toArray)[j]
   rw[←Array.getElem_toList]
   simp only[this]
  have hgl:g<w.heap.size:=(zg.1 hb).1
  have hcon:=AnyQ.slices_SortFunc Tryz.sortUse 2 Tryz.isAgg89 Tryz.sizeOf89 encP (fun _=>rfl) (fun x v hv=>by simp[encP] at hv;rcases hv with rfl|rfl <;> rfl) cmpU swoU 54 #[] g 0 cap l.toArray w eg (cmpLaysU g 0 _ w) hH hgl (by simp;omega)
  change Calls Tryz.prog 56 _ _ _ at hcon
  simp only[List.size_toArray] at hcon
  refine hcon.mono fun e w' ⟨he,d',n,os,hp,hs,hw⟩=>⟨he,d'.toList,?_,?_,?_,?_⟩
  ·have hd:d'.size=l.length:=by have:=hp.1;simpa using this
   subst hw
   have hlen:(d'.toList).length=l.length:=by simpa using hd
   have hfl:((d'.toList).flatMap encP).length=l.length * 2:=by rw[flatP_len,hlen]
   refine ⟨by rw[hfl,hlen],.inr ⟨g,cap,_,by rw[hlen],hbase,heap_sortedK _ hb,by rw[hlen];exact h1,h2,by simp[putCells,h3],?_⟩⟩
   have e5:flatK encP 2 d'=((d'.toList).flatMap encP).toArray:=by
    have:=flatK_P d'.toList
    rw[←this]
   rw[e5,hlen,←hfl]
   exact take_putCellsK _ _ (by rw[hfl,h3];exact Nat.mul_le_mul_right 2 h1)
  ·have:=hp.2.2
   have hd:d'.size=l.length:=by have:=hp.1;simpa using this
   rw[←hd,Array.extract_size] at this
   rw[hd] at this
   simpa using this
  ·rw[List.pairwise_iff_getElem]
   intro i j hi hj hij
   have hd:d'.size=l.length:=by have:=hp.1;simpa using this
   have:=hs i j (by omega) hij (by simpa[hd] using hj)
   unfold ltOf at this
   rw[cmpU_lt,getElem!_pos d' j (by simpa using hj),getElem!_pos d' i (by simpa using hi)] at this
   simpa using this
  ·subst hw
   exact grownBy_sortedK _
abbrev pairV (p:Int×Int):Value := .agg #[.int .i64 p.1,.int .i64 p.2]
theorem part_int {P:Program} (w:World) (t:TypeId) (k k':IntKind) (cs:Array Value) (off:Nat) (n:Int) (ht:P.underlying t=some (.int k')) (hc:cs[off]? = some (.int k n)) :
  (part t cs off).run P w = .ok (.int k n) w:=by
 unfold part
 simp[go_sem,isAgg,run_underlying ht,hc]
theorem run_equalIn_pair (d:Nat) (p q:Int×Int) (w:World):(Op.equalIn (d+2) 103 (pairV p) (pairV q)).run Tryz.prog w = .ok (decide (p=q)) w:=by
 obtain ⟨i,hi,_⟩:=info_parts (show (Tryz.prog.info? 3).map (fun i=>(i.zero,i.size,i.bytes))=some (some (.int .i64 0),1,8) by kernel_rfl)
 have hc:Tryz.prog.cellsOf 3=1:=by kernel_rfl
 rw[run_equalIn_array w (d+1) _ _ Tryz.underlying103 hi,hc]
 have hp:∀ (r:Int×Int) (j:Nat) (n:Int),(#[.int .i64 r.1,.int .i64 r.2]:Array Value)[j]? = some (.int .i64 n)→(part 3 #[.int .i64 r.1,.int .i64 r.2] j).run Tryz.prog w = .ok (.int .i64 n) w:=fun r j n h=>part_int w 3 .i64 .i64 _ j n Tryz.underlying3 h
 have k1:(Op.eqItems (d+1) 3 1 #[.int .i64 p.1,.int .i64 p.2] #[.int .i64 q.1,.int .i64 q.2] [1]).run Tryz.prog w = .ok (p.2==q.2) w:=by
  simp only[Op.eqItems,Sem.run_bind,Nat.one_mul,hp p 1 p.2 rfl,hp q 1 q.2 rfl,Result.andThen_ok,run_equalIn_int w d 3 .i64 .i64 _ _ Tryz.underlying3]
  cases h:(p.2==q.2) <;> simp
 show (Op.eqItems (d+1) 3 1 _ _ (0::[1])).run Tryz.prog w=_
 rw[Op.eqItems]
 simp only[Sem.run_bind,Nat.zero_mul,hp p 0 p.1 rfl,hp q 0 q.1 rfl,Result.andThen_ok,run_equalIn_int w d 3 .i64 .i64 _ _ Tryz.underlying3]
 by_cases h1:p.1=q.1
 ·have e1:(p.1==q.1)=true:=by simpa using h1
  rw[e1]
  simp only[Bool.not_true,Bool.false_eq_true,if_false]
  rw[k1]
  by_cases h2:p.2=q.2
  ·rw[show p=q from Prod.ext h1 h2];simp
  ·have e2:(p.2==q.2)=false:=by simpa using h2
   have e3:decide (p=q)=false:=decide_eq_false fun e=>h2 (by rw[e])
   rw[e2,e3]
 ·have e1:(p.1==q.1)=false:=by simpa using h1
  have e3:decide (p=q)=false:=decide_eq_false fun e=>h1 (by rw[e])
  rw[e1,e3]
  simp
theorem keyOk_pair:KeyOk Tryz.prog 103 pairV:=by
 refine ⟨fun w em k=>?_,fun w k l=>?_,fun w k=>?_⟩
 ·kernel_rfl
 ·cases l with
  | nil=>simp[ents,Instr.findKey,run_underlying Tryz.underlying103,Instr.findNow,fnd]
  | cons x r =>
   have hf:=find_asking (P:=Tryz.prog) (KT:=103) (ek:=pairV) (fun w a b=>by unfold Op.equal;exact run_equalIn_pair 9998 a b w) w k (x::r) 0 0
   have hs:Instr.findNow (.array 2 3) (pairV k) (ents pairV 0 (x::r)) 0=none:=by simp[ents,Instr.findNow,Instr.sameNow]
   unfold Instr.findKey
   simp only[Sem.run_bind,run_underlying Tryz.underlying103,Result.andThen_ok,hs]
   exact hf
 ·simp[Instr.keyThatStays,Instr.sameBits]
open Go.RowKit Go.Sort
theorem sortU_any (l:List (Int×Int)) (hl:l.length≤1000000) (base:Nat) (v:Value) (w:World) (h:OwnL 89 2 encP w base v l) :
  Calls Tryz.prog 56 #[v,.func (.func 54) #[] #[]] w (SortUPost l base v w):=by
 have h0:=h
 rcases h.2 with ⟨rfl,hn⟩|⟨g,cap,cur,rfl,_⟩
 ·have hl0:l=[]:=List.eq_nil_of_length_eq_zero hn
  subst hl0
  refine (AnyF.slices_SortFunc_none Tryz.sortUse none 0 (.func (.func 54) #[] #[]) w).mono fun e w' ⟨he,hw⟩=>?_
  subst hw
  exact ⟨he,[],h0,List.Perm.refl _,List.Pairwise.nil,grown_refl _ _⟩
 ·exact sortU_some l hl base g cap w h0
structure WayA where
 l:List Int
 A:Option Addr
 c:Nat
 p:Int×Int
def WayA.cells (x:WayA):List Value:=[.slice x.A x.l.length x.c,.int .i64 x.p.1,.int .i64 x.p.2]
def WayA.w (x:WayA):List Int×(Int×Int):=(x.l,x.p)
theorem elem_way:Elem 102 101 3 40:=⟨Tryz.underlying102,⟨.agg #[.slice none 0 0,.int .i64 0,.int .i64 0],by kernel_rfl,rfl⟩,by omega⟩
theorem RowsR.low' {w w':World} {A:Option Addr} {l:List Int} (h:IntsR w A l) (hb:∀b o,A=some ⟨b,o,none⟩→w'.heap[b]? = w.heap[b]?):IntsR w' A l:=by
 refine ⟨h.1,fun hn=>?_⟩
 obtain ⟨q,o,e,hi⟩:=h.2 hn
 refine ⟨q,o,e,fun i x hx=>?_⟩
 obtain ⟨cs,h1,h2⟩:=hi i x hx
 refine ⟨cs,h1,fun j u hj=>?_⟩
 rw[World.cell?_of_block (w:=w) (w':=w') (a:=⟨q,o+i * 1+j,none⟩) (hb q o e)]
 exact h2 j u hj
structure QuSt (pm:Nat) (wr:World) (v:Value) (Q:List WayA):Prop where
 own:OwnL 101 3 WayA.cells wr (pm - 1) v Q
 off:∀x∈Q,Off (fun q=>q≤pm∨v.ownBlock=some q) wr fun u=>IntsR u x.A x.l
theorem QuSt.below {pm:Nat} {wr w':World} {v:Value} {Q:List WayA} (h:QuSt pm wr v Q) (hb:Below wr.heap.size wr w'):QuSt pm w' v Q:=⟨h.own.below hb,fun x hx=>(h.off x hx).low hb⟩
theorem QuSt.keep {pm:Nat} {wr w':World} {v:Value} {Q:List WayA} (h:QuSt pm wr v Q) (hs:wr.heap.size≤w'.heap.size) (hk:∀q,q≠pm→q<wr.heap.size→w'.heap[q]? = wr.heap[q]?) (hv:v.ownBlock≠some pm):QuSt pm w' v Q :=
 ⟨h.own.keep fun g _ h2 h3=>hk g (fun e=>hv (e▸h3)) h2,fun x hx=>(h.off x hx).step hs fun q hq hl=>hk q (fun e=>hq (.inl (by omega))) hl⟩
theorem QuSt.snoc {pm:Nat} {wr w':World} {v v':Value} {Q:List WayA} {x:WayA} (h:QuSt pm wr v Q) (hx:Off (fun q=>q≤pm∨v.ownBlock=some q) wr fun u=>IntsR u x.A x.l)
  (ho:w'.ownsRow (pm - 1) 101 3 v' (Q.length+1) (Q.flatMap WayA.cells++x.cells)) (hg:wr.grownBy w' v.ownBlock) (hv:v'.ownBlock=v.ownBlock∨v'.ownBlock=some wr.heap.size):QuSt pm w' v' (Q++[x]):=by
 refine ⟨OwnL.snoc ho,fun y hy=>?_⟩
 have hy':Off (fun q=>q≤pm∨v.ownBlock=some q) wr fun u=>IntsR u y.A y.l:=by
  rcases List.mem_append.1 hy with k|k
  ·exact h.off y k
  ·obtain rfl:y=x:=by simpa using k
   exact hx
 intro u hu
 refine hy' u fun q hq hl=>?_
 have hqw:w'.heap[q]? = wr.heap[q]? := zN hg hl fun k hk e=>hq (.inr (by rw[hk,e]))
 rw[←hqw]
 refine hu q (fun hs=>hs.elim (fun h1=>hq (.inl h1)) fun h2=>?_) (Nat.lt_of_lt_of_le hl hg.size)
 rcases hv with e|e
 ·exact hq (.inr (e▸h2))
 ·rw[e] at h2
  have:=Option.some.inj h2
  omega
structure DsSt (a b:List TyD) (r:Int×Int) (W0:World) (Q:List WayA) (i:Nat) (dn:List (Int×(Int×Int))) (v:Value) (wr:World):Prop where
 bel:Below W0.heap.size W0 wr
 set:SetAt pairV wr (W0.heap.size+1) (Q.map (·.p))
 que:QuSt (W0.heap.size+1) wr v Q
 bfi:BfI (NxE a b) (BadP a b) r (Q.map WayA.w) i dn
 nod:(Q.map (·.p)).Nodup
 inp:∀x∈Q,InP a b x.p
 len:∀ (j:Nat) x,Q[j]? = some x→x.l.length≤j
theorem DsSt.below {a b:List TyD} {r:Int×Int} {W0:World} {Q:List WayA} {i:Nat} {dn:List (Int×(Int×Int))} {v:Value} {wr w':World} (h:DsSt a b r W0 Q i dn v wr) (hb:Below wr.heap.size wr w'):DsSt a b r W0 Q i dn v w' :=
 ⟨zA h.bel hb,h.set.below hb,h.que.below hb,h.bfi,h.nod,h.inp,h.len⟩
theorem DsSt.qlen {a b:List TyD} {r:Int×Int} {W0:World} {Q:List WayA} {i:Nat} {dn:List (Int×(Int×Int))} {v:Value} {wr:World} (h:DsSt a b r W0 Q i dn v wr) (la:a.length≤32) (lb:b.length≤32):Q.length≤1024:=by
 have h1:=pairs_len (Q.map (·.p)) h.nod fun x hx=>by
  obtain ⟨y,hy,rfl⟩:=List.mem_map.1 hx
  exact h.inp y hy
 rw[List.length_map] at h1
 have:a.length * b.length≤32 * 32:=Nat.mul_le_mul la lb
 omega
theorem DsSt.nmap {a b:List TyD} {r:Int×Int} {W0:World} {Q:List WayA} {i:Nat} {dn:List (Int×(Int×Int))} {v:Value} {wr:World} (h:DsSt a b r W0 Q i dn v wr):v.ownBlock≠some (W0.heap.size+1):=fun e=>by
 obtain ⟨cur,fr,hc⟩:=h.que.own.block e
 obtain ⟨l,hm,_⟩:=h.set
 unfold MapAt at hm
 rw[hc] at hm
 cases hm
structure DsRows (base wb:Nat) (AL:Option Addr) (cL:Nat) (L:List (Int×Int)) (AM:Option Addr) (cM:Nat) (M:List (Int×Int)) (s:Value) (v:Value) (wr:World):Prop where
 l:OwnL 89 2 encP wr base (.slice AL L.length cL) L
 m:OwnL 89 2 encP wr base (.slice AM M.length cM) M
 cell:wr.cell? ⟨wb,0,none⟩=some s
 ne:v.ownBlock≠some wb
theorem DsRows.below {base wb:Nat} {AL:Option Addr} {cL:Nat} {L:List (Int×Int)} {AM:Option Addr} {cM:Nat} {M:List (Int×Int)} {s v:Value} {wr w':World} (h:DsRows base wb AL cL L AM cM M s v wr) (hb:Below wr.heap.size wr w'):DsRows base wb AL cL L AM cM M s v w' :=
 ⟨h.l.below hb,h.m.below hb,zB hb h.cell,h.ne⟩
theorem DsSt.old {a b:List TyD} {r:Int×Int} {W0:World} {Q:List WayA} {i:Nat} {dn:List (Int×(Int×Int))} {v:Value} {wr:World} (h:DsSt a b r W0 Q i dn v wr) {x:WayA} (hx:Q[i]? = some x) {st:Int} {t:Int×Int} (hst:∀y∈dn,y.1<st) (ht:t∈Q.map (·.p)):DsSt a b r W0 Q i (dn++[(st,t)]) v wr:=by
 refine ⟨h.bel,h.set,h.que,h.bfi.old (w:=x.w) (by rw[List.getElem?_map,hx];rfl) hst ?_,h.nod,h.inp,h.len⟩
 obtain ⟨y,hy,e⟩:=List.mem_map.1 ht
 exact ⟨y.w,List.mem_map.2 ⟨y,hy,rfl⟩,e⟩
theorem DsSt.new {a b:List TyD} {r:Int×Int} {W0:World} {Q:List WayA} {i:Nat} {dn:List (Int×(Int×Int))} {v v':Value} {wr w':World} (h:DsSt a b r W0 Q i dn v wr) {x:WayA} (hx:Q[i]? = some x) {st:Int} {t:Int×Int} (he:NxE a b x.p st t) (hst:∀y∈dn,y.1<st) (ht:t ∉ Q.map (·.p)) (hin:InP a b t) {A:Option Addr} {c:Nat}
  (hb:Below W0.heap.size W0 w') (hs:SetAt pairV w' (W0.heap.size+1) (Q.map (·.p)++[t])) (hq:QuSt (W0.heap.size+1) w' v' (Q++[⟨x.l++[st],A,c,t⟩])):DsSt a b r W0 (Q++[⟨x.l++[st],A,c,t⟩]) i (dn++[(st,t)]) v' w':=by
 refine ⟨hb,by rw[List.map_append];exact hs,hq,?_,?_,fun y hy=>?_,fun j y hy=>?_⟩
 ·rw[List.map_append]
  exact h.bfi.new (w:=x.w) (by rw[List.getElem?_map,hx];rfl) he hst
 ·rw[List.map_append,List.nodup_append]
  refine ⟨h.nod,by simp,?_⟩
  intro y hy z hz e
  obtain rfl:z=t:=by simpa using hz
  exact ht (e▸hy)
 ·rcases List.mem_append.1 hy with k|k
  ·exact h.inp y k
  ·obtain rfl:y=⟨x.l++[st],A,c,t⟩:=by simpa using k
   exact hin
 ·rcases get_snoc hy with hy'|⟨e1,e2⟩
  ·exact h.len j y hy'
  ·rw[e2,e1]
   have h1:=h.len i x hx
   have h2:=(List.getElem?_eq_some_iff.1 hx).1
   simp;omega
theorem DsSt.next {a b:List TyD} {r:Int×Int} {W0:World} {Q:List WayA} {i:Nat} {dn:List (Int×(Int×Int))} {v:Value} {wr:World} (h:DsSt a b r W0 Q i dn v wr) {x:WayA} (hx:Q[i]? = some x) (hal:zM false (tyAt a x.p.1) (tyAt b x.p.2)=true) (hd:∀st t,NxE a b x.p st t→(st,t)∈dn):DsSt a b r W0 Q (i+1) [] v wr :=
 ⟨h.bel,h.set,h.que,h.bfi.next (w:=x.w) (by rw[List.getElem?_map,hx];rfl) (by unfold BadP WayA.w;simp[hal]) hd,h.nod,h.inp,h.len⟩
theorem encI_flat:∀l:List Int,l.flatMap encI=l.map (Value.int .i64)
 | []=>rfl
 | a::r=>by rw[List.flatMap_cons,encI_flat r];rfl
theorem pair_info:(Tryz.prog.info? 103).map (·.size)=some 2:=by kernel_rfl
theorem pair_set {w:World} {b:Nat} {x y u v:Value} (h:w.heap[b]? = some (.cells #[u,v] 103 (0,0))):(w.setCells b 0 [x,y]).heap[b]? = some (.cells #[x,y] 103 (0,0)):=by
 show ((w.setCell ⟨b,0,none⟩ x).setCell ⟨b,1,none⟩ y).heap[b]? = _
 rw[heap_setCell_same _ _ 1 _ _ _ (heap_setCell_same _ _ 0 _ _ _ h)];rfl
theorem pair_there {w:World} {b:Nat} {u v:Value} (h:w.heap[b]? = some (.cells #[u,v] 103 (0,0))):w.there b 0 2:=fun j hj=>by
 rw[Nat.zero_add]
 refine ⟨?_,frozen_of_row _ _ _ _ _ h⟩
 rw[cell_of_row _ _ _ _ _ _ h]
 match j,hj with
 | 0,_=>rfl
 | 1,_=>rfl
theorem cloneI {l:List Int} {A:Option Addr} {c:Nat} {w:World} (hl:IntsR w A l):Calls Tryz.prog 57 #[.slice A l.length c] w fun e w'=>∃v,e = .returned v∧OwnI w' w.heap.size v l∧Below w.heap.size w w':=by
 have hlen:(l.map encI).length=l.length:=by simp
 have hfl:(l.map encI).flatten=l.flatMap encI:=by simp[List.flatMap]
 have:=cloneint_any (l.map encI) (fun cs hc=>by obtain ⟨x,_,rfl⟩:=List.mem_map.1 hc;rfl) (fun cs hc u hu=>by obtain ⟨x,_,rfl⟩:=List.mem_map.1 hc;unfold encI at hu;rw[List.mem_singleton.1 hu];rfl) (by rw[hlen];exact hl.1) A c w (fun hn=>by
  obtain ⟨b,o,e,hi⟩:=hl.2 (fun e=>hn (by rw[e];rfl))
  refine ⟨b,o,e,fun j u hj=>?_⟩
  rw[hfl] at hj
  have hg:(l.flatMap encI)[j]? = (l[j]?).map (Value.int .i64):=by
   rw[encI_flat,List.getElem?_map]
  rw[hg] at hj
  obtain ⟨x,hx,rfl⟩:=Option.map_eq_some_iff.1 hj
  obtain ⟨cs,rfl,hr⟩:=hi j x hx
  have:=hr 0 _ rfl
  rw[Nat.mul_one] at this
  exact this)
 rw[hlen] at this
 refine this.mono ?_
 rintro e w' ⟨v,rfl,ho,hb⟩
 refine ⟨v,rfl,?_,hb⟩
 unfold OwnC OwnL at ho
 unfold OwnI OwnL
 rw[yJ,hlen,hfl] at ho
 exact ho
theorem ds_push {a b:List TyD} {r:Int×Int} {W0:World} {Q:List WayA} {i:Nat} {dn:List (Int×(Int×Int))} {v:Value} {w11:World} (h:DsSt a b r W0 Q i dn v w11) {x:WayA} (hx:Q[i]? = some x) {st:Int} {t:Int×Int} (he:NxE a b x.p st t) (hst:∀y∈dn,y.1<st) (ht:t ∉ Q.map (·.p)) (hin:InP a b t)
  {base wb:Nat} {AL:Option Addr} {cL:Nat} {L:List (Int×Int)} {AM:Option Addr} {cM:Nat} {M:List (Int×Int)} {s:Value} (hR:DsRows base wb AL cL L AM cM M s v w11) (hbase:W0.heap.size+1<base) (hwb:W0.heap.size+1<wb)
  {w12:World} (hs12:SetAt pairV w12 (W0.heap.size+1) (Q.map (·.p)++[t])) (hg12:w11.grownBy w12 (some (W0.heap.size+1))) {w13:World} (hb13:Below w12.heap.size w12 w13) {A7:Option Addr} {c7:Nat} (ho7:OwnI w13 w12.heap.size (.slice A7 (x.l++[st]).length c7) (x.l++[st])) (hl7:(x.l++[st]).length≤2000)
  {v9:Value} {w14:World} (ho9:w14.ownsRow (W0.heap.size+1 - 1) 101 3 v9 (Q.length+1) (Q.flatMap WayA.cells++(⟨x.l++[st],A7,c7,t⟩:WayA).cells)) (hg9:w13.grownBy w14 v.ownBlock) (hv9:v9.ownBlock=v.ownBlock∨v9.ownBlock=some w13.heap.size) :
  DsSt a b r W0 (Q++[⟨x.l++[st],A7,c7,t⟩]) i (dn++[(st,t)]) v9 w14∧DsRows base wb AL cL L AM cM M s v9 w14:=by
 have hpm:W0.heap.size+1<w11.heap.size:=h.set.blt
 have hz12:w11.heap.size≤w12.heap.size:=hg12.size
 have hz13:=hb13.size
 have hk12:∀q,q≠W0.heap.size+1→q<w11.heap.size→w12.heap[q]? = w11.heap[q]? := fun q hq hl=>zN hg12 hl fun k hk e=>hq (by rw[e];exact (Option.some.inj hk).symm)
 have hk13:∀q,q≠W0.heap.size+1→q<w11.heap.size→w13.heap[q]? = w11.heap[q]? := fun q hq hl=>(hb13.block q (by omega)).trans (hk12 q hq hl)
 have hvlt:∀q,v.ownBlock=some q→W0.heap.size≤q∧q<w11.heap.size:=fun q hq=>by
  have:=World.ownsRow.lt h.que.own q hq
  exact ⟨by omega,this.2⟩
 have hb12:Below W0.heap.size W0 w12:=h.bel.grown hg12 h.bel.size (fun q hq=>by have:=Option.some.inj hq;omega)
 have hb14:Below W0.heap.size W0 w14:=(zA hb12 hb13).grown hg9 (zA hb12 hb13).size (fun q hq=>(hvlt q hq).1)
 have hq13:QuSt (W0.heap.size+1) w13 v Q:=h.que.keep (by omega) hk13 h.nmap
 have hoff:Off (fun q=>q≤W0.heap.size+1∨v.ownBlock=some q) w13 fun u=>IntsR u A7 (x.l++[st]):=by
  obtain ⟨A',c',e,hi⟩:=OwnI.ints ho7 (by unfold Lim;omega)
  injection e with e1 _ _
  subst e1
  intro u hu
  refine RowsR.low' hi fun g o eA=>?_
  have hlt:=World.ownsRow.lt ho7 g (by rw[eA];rfl)
  refine hu g (fun hs=>?_) hlt.2
  rcases hs with hs|hs
  ·omega
  ·have:=hvlt g hs;omega
 refine ⟨h.new hx he hst ht hin hb14 ?_ (QuSt.snoc hq13 hoff ho9 hg9 hv9),?_,?_,?_,?_⟩
 ·refine (hs12.below hb13).keep (zN hg9 (by omega) fun q hq e=>?_)
  exact h.nmap (by rw[hq,←e])
 ·refine OwnL.other (hR.l.keep fun q h1 h2 _=>hk13 q (by omega) h2) (hq13.own) (by decide) hg9
 ·refine OwnL.other (hR.m.keep fun q h1 h2 _=>hk13 q (by omega) h2) (hq13.own) (by decide) hg9
 ·have hlt:=zF hR.cell
  simp only at hlt
  rw[World.cell?_of_block (w:=w11) (w':=w14) (a:=⟨wb,0,none⟩) ((zN hg9 (by simp only;omega) fun q hq e=>hR.ne (by rw[hq,←e])).trans (hk13 wb (by omega) hlt))]
  exact hR.cell
 ·rcases hv9 with e|e
  ·rw[e];exact hR.ne
  ·rw[e]
   intro e2
   have hlt:=zF hR.cell
   simp only at hlt
   have:=Option.some.inj e2
   omega
theorem ds26 {w12 w':World} {b1 b2 b3:Nat} {x1 x2 x3 x4:Value} (c1:w12.cell? ⟨b1,0,none⟩=some x1) (c2:w12.cell? ⟨b2,0,none⟩=some x2) (c3:w12.cell? ⟨b3,0,none⟩=some x3) (c4:w12.cell? ⟨b3,1,none⟩=some x4) (h:w'.heap[b1]? = w12.heap[b1]? ∧ w'.heap[b2]? = w12.heap[b2]? ∧ w'.heap[b3]? = w12.heap[b3]?) :
  (w'.cell? ⟨b1,0,none⟩=some x1∧w'.cell? ⟨b2,0,none⟩=some x2∧w'.cell? ⟨b3,0,none⟩=some x3∧w'.cell? ⟨b3,1,none⟩=some x4)∧Hid (w'.heap[b1]? = w12.heap[b1]? ∧ w'.heap[b2]? = w12.heap[b2]? ∧ w'.heap[b3]? = w12.heap[b3]?):=by
 refine ⟨⟨?_,?_,?_,?_⟩,h⟩
 ·rw[World.cell?_of_block (w:=w12) (w':=w') (a:=⟨b1,0,none⟩) h.1];exact c1
 ·rw[World.cell?_of_block (w:=w12) (w':=w') (a:=⟨b2,0,none⟩) h.2.1];exact c2
 ·rw[World.cell?_of_block (w:=w12) (w':=w') (a:=⟨b3,0,none⟩) h.2.2];exact c3
 ·rw[World.cell?_of_block (w:=w12) (w':=w') (a:=⟨b3,1,none⟩) h.2.2];exact c4
theorem three_below {w12 w' w'':World} {b1 b2 b3:Nat} (h:w'.heap[b1]? = w12.heap[b1]? ∧ w'.heap[b2]? = w12.heap[b2]? ∧ w'.heap[b3]? = w12.heap[b3]?) (hl:b1<w'.heap.size∧b2<w'.heap.size∧b3<w'.heap.size) (hb:∀q,q=b1∨q=b2∨q=b3→q<w'.heap.size→w''.heap[q]? = w'.heap[q]?):w''.heap[b1]? = w12.heap[b1]? ∧ w''.heap[b2]? = w12.heap[b2]? ∧ w''.heap[b3]? = w12.heap[b3]? :=
 ⟨(hb b1 (.inl rfl) hl.1).trans h.1,(hb b2 (.inr (.inl rfl)) hl.2.1).trans h.2.1,(hb b3 (.inr (.inr rfl)) hl.2.2).trans h.2.2⟩
def DistPost (a:List TyD) (ta:Int) (b:List TyD) (tb:Int) (w:World) (e:Ending) (w':World):Prop :=
 ∃A c l err,e = .returned (.tuple #[.slice A l.length c,.int .i64 err])∧IntsR w' A l∧DistIs a ta b tb l err∧Below w.heap.size w w'
end Go.Proofs.YtkhpajneinmmiaaGreatDoor


