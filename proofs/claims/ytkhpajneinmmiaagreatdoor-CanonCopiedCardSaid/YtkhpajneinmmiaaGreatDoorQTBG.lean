/-
  Tables of bits in memory (II): rows and bits stored.
-/
import Derived.Test.YtkhpajneinmmiaaGreatDoorQUS
import Derived.Test.YtkhpajneinmmiaaGreatDoorQPL
namespace Go.Proofs.YtkhpajneinmmiaaGreatDoor
open Go.RowKit
set_option maxHeartbeats 16000000
set_option maxRecDepth 100000
def encB (b:Bool):List Value:=[.bool b]
abbrev OwnB:=OwnL 4 1 encB
theorem elem_bool:Elem 60 4 1 1:=⟨Tryz.underlying60,⟨.bool false,by kernel_rfl,rfl⟩,by omega⟩
structure TabAt (w:World) (base g:Nat) (rows:List Value) (M:List (List Bool)):Prop where
 out:w.heap[g]? = some (.cells rows.toArray 60 (0,0))
 gb:base≤g
 len:rows.length=M.length
 own:∀ (i:Nat) (v:Value) (l:List Bool),rows[i]? = some v→M[i]? = some l→OwnB w base v l
 dis:∀ (i j:Nat) (v u:Value) (k:Nat),i≠j→rows[i]? = some v→rows[j]? = some u→v.ownBlock=some k→u.ownBlock≠some k
theorem TabAt.glt {w:World} {base g:Nat} {rows:List Value} {M:List (List Bool)} (h:TabAt w base g rows M):g<w.heap.size:=(zg.1 h.out).1
theorem TabAt.keep {w w':World} {base g:Nat} {rows:List Value} {M:List (List Bool)} (h:TabAt w base g rows M) (hg:w'.heap[g]? = w.heap[g]?) (hk:∀ (i:Nat) (v:Value) (k:Nat),rows[i]? = some v→v.ownBlock=some k→w'.heap[k]? = w.heap[k]?):TabAt w' base g rows M :=
 ⟨hg.trans h.out,h.gb,h.len,fun i v l hv hl=>(h.own i v l hv hl).keep fun k _ _ hb=>hk i v k hv hb,h.dis⟩
theorem OwnL.blt {α:Type} {E size:Nat} {enc:α→List Value} {w:World} {base:Nat} {v:Value} {l:List α} (h:OwnL E size enc w base v l) {g:Nat} (hg:v.ownBlock=some g):g<w.heap.size:=by
 obtain ⟨c,f,e⟩:=h.block hg
 exact (zg.1 e).1
theorem TabAt.row {w:World} {base g:Nat} {rows:List Value} {M:List (List Bool)} (h:TabAt w base g rows M) {i:Nat} (hi:i<M.length):∃v,rows[i]? = some v∧OwnB w base v M[i]∧w.cell? ⟨g,i,none⟩=some v∧w.frozen? ⟨g,i,none⟩=false:=by
 have hi':i<rows.length:=by rw[h.len];exact hi
 refine ⟨rows[i],zl hi',h.own i _ _ (zl hi') (zl hi),?_,by simp[World.frozen?,h.out]⟩
 rw[cell_of_row _ _ _ _ _ _ h.out];simp[hi']
theorem TabAt.lenOf {w:World} {base g:Nat} {rows:List Value} {M:List (List Bool)} (h:TabAt w base g rows M) {i:Nat} {v:Value} (hv:rows[i]? = some v):i<M.length:=by
 rw[←h.len];exact (List.getElem?_eq_some_iff.1 hv).1
theorem TabAt.below {w w':World} {base g:Nat} {rows:List Value} {M:List (List Bool)} (h:TabAt w base g rows M) (hb:Below w.heap.size w w'):TabAt w' base g rows M :=
 h.keep (hb.block g h.glt) fun i v k hv hk=>hb.block k ((h.own i v _ hv (zl (h.lenOf hv))).blt hk)
theorem TabAt.bit {w:World} {base g:Nat} {rows:List Value} {M:List (List Bool)} (h:TabAt w base g rows M) {i k:Nat} (hi:i<M.length) (hk:k<(M[i]).length):∃gi c,w.cell? ⟨g,i,none⟩=some (.slice (some ⟨gi,0,none⟩) (M[i]).length c)∧w.cell? ⟨gi,k,none⟩=some (.bool (M[i])[k])∧w.frozen? ⟨gi,k,none⟩=false∧rows[i]? = some (.slice (some ⟨gi,0,none⟩) (M[i]).length c)∧base≤gi:=by
 obtain ⟨v,hv,ho,hc,_⟩:=h.row hi
 obtain ⟨A,c,e,_,_,hr⟩:=ho.reads
 obtain ⟨gi,rfl,hb,hrange⟩:=hr (fun e=>by rw[e] at hk;simp at hk)
 subst e
 have h1:=range_flat (enc:=encB) (k:=1) (fun _=>rfl) hrange (zl hk) 0 _ rfl
 rw[Nat.mul_one,Nat.zero_add,Nat.add_zero] at h1
 refine ⟨gi,c,hc,h1,?_,hv,hb⟩
 rcases ho.2 with ⟨h0,_⟩|⟨g',cap,cur,hv',_,hh,_⟩
 ·cases h0
 ·have:g'=gi:=by injection hv' with e1 _ _;injection e1 with e1;injection e1 with e1;exact e1.symm
  subst this
  simp[World.frozen?,hh]
theorem flatB_set (l:List Bool) (k:Nat) (b:Bool):(l.set k b).flatMap encB=(l.flatMap encB).set k (.bool b):=by
 have h:∀l:List Bool,l.flatMap encB=l.map Value.bool:=fun l=>by
  induction l with
  | nil=>rfl
  | cons x r ih=>rw[List.flatMap_cons,ih];rfl
 rw[h,h,List.map_set]
theorem TabAt.store {w:World} {base g:Nat} {rows:List Value} {M:List (List Bool)} (h:TabAt w base g rows M) {i:Nat} (hi:i<M.length) {gi c:Nat} (hrow:rows[i]? = some (.slice (some ⟨gi,0,none⟩) (M[i]).length c)) (k:Nat):TabAt (w.setCell ⟨gi,k,none⟩ (.bool false)) base g rows (setF M i k)∧w.grownBy (w.setCell ⟨gi,k,none⟩ (.bool false)) (some gi):=by
 have ho:=h.own i _ _ hrow (zl hi)
 obtain ⟨hs,hg⟩:=World.ownsRow.stored ho k (.bool false)
 obtain ⟨cu,fr,hgi⟩:=ho.block (g:=gi) rfl
 have hne:g≠gi:=fun e=>by
  subst e
  rw[h.out] at hgi
  injection hgi with hgi
  injection hgi with _ e2
  exact absurd e2 (by decide)
 refine ⟨⟨(heap_setCell_other w ⟨gi,k,none⟩ g _ hne).trans h.out,h.gb,by simp[setF,h.len],fun j v l hv hl=>?_,h.dis⟩,hg⟩
 by_cases e:j=i
 ·subst e
  rw[hrow] at hv
  obtain rfl:=Option.some.inj hv
  have hl':l=(M[j]).set k false:=by
   unfold setF at hl
   rw[List.getElem?_set_self hi] at hl
   have:=Option.some.inj hl
   rw[←this,List.getD_eq_getElem?_getD,zl hi];rfl
  subst hl'
  unfold OwnB OwnL
  rw[List.length_set,flatB_set]
  exact hs
 ·have hl':M[j]? = some l:=by
   unfold setF at hl
   rwa [List.getElem?_set_ne (fun e2=>e e2.symm)] at hl
  exact (h.own j v l hv hl').grown hg fun q hq e2=>by
   have:=Option.some.inj hq
   subst this
   exact h.dis i j _ v gi (fun e3=>e e3.symm) hrow hv rfl e2
theorem TabAt.push {w w1:World} {base g:Nat} {rows:List Value} {M:List (List Bool)} (h:TabAt w base g rows M) {i:Nat} (hi:i<M.length) {v v':Value} (hv:rows[i]? = some v) {b:Bool} (ho:OwnB w1 base v' (M[i]++[b])) (hg:w.grownBy w1 v.ownBlock) (hv':v'.ownBlock=v.ownBlock∨v'.ownBlock=some w.heap.size) :
  TabAt (w1.setCell ⟨g,i,none⟩ v') base g (rows.set i v') (M.set i (M[i]++[b])):=by
 have hov:=h.own i v _ hv (zl hi)
 have hi':i<rows.length:=by rw[h.len];exact hi
 have hgne:∀q,v.ownBlock=some q→g≠q:=fun q hq e=>by
  subst e
  obtain ⟨c2,f2,e2⟩:=hov.block hq
  rw[h.out] at e2
  injection e2 with e2
  injection e2 with _ e3
  exact absurd e3 (by decide)
 have hg1:w1.heap[g]? = some (.cells rows.toArray 60 (0,0)):=(zN hg h.glt fun q hq=>hgne q hq).trans h.out
 have hne2:∀q,v'.ownBlock=some q→q≠g:=fun q hq e=>by
  subst e
  obtain ⟨c2,f2,e2⟩:=ho.block hq
  rw[hg1] at e2
  injection e2 with e2
  injection e2 with _ e3
  exact absurd e3 (by decide)
 refine ⟨by rw[heap_setCell_same w1 g i _ _ v' hg1];simp,h.gb,by simp[h.len],fun j u l hu hl=>?_,fun j q u u2 k hjq hu hu2 hk=>?_⟩
 ·by_cases e:j=i
  ·subst e
   rw[List.getElem?_set_self hi'] at hu
   rw[List.getElem?_set_self hi] at hl
   obtain rfl:=Option.some.inj hu
   obtain rfl:=Option.some.inj hl
   exact ho.keep fun q _ _ hq=>heap_setCell_other w1 ⟨g,j,none⟩ q _ (hne2 q hq)
  ·rw[List.getElem?_set_ne (fun e2=>e e2.symm)] at hu hl
   have h1:=(h.own j u l hu hl).grown hg fun q hq e2=>h.dis i j v u q (fun e3=>e e3.symm) hv hu hq e2
   refine h1.keep fun q _ _ hq=>heap_setCell_other w1 ⟨g,i,none⟩ q _ fun e2=>?_
   simp only at e2
   subst e2
   obtain ⟨c2,f2,e3⟩:=h1.block hq
   rw[hg1] at e3
   injection e3 with e3
   injection e3 with _ e4
   exact absurd e4 (by decide)
 ·have old:∀ (m:Nat) (x:Value) (z:Nat),rows[m]? = some x→x.ownBlock=some z→z<w.heap.size:=fun m x z hx hz=>(h.own m x _ hx (zl (h.lenOf hx))).blt hz
  by_cases e1:j=i
  ·subst e1
   rw[List.getElem?_set_self hi'] at hu
   obtain rfl:=Option.some.inj hu
   rw[List.getElem?_set_ne hjq] at hu2
   rcases hv' with e|e
   ·rw[e] at hk;exact h.dis j q v u2 k hjq hv hu2 hk
   ·intro h2
    have:=old q u2 k hu2 h2
    rw[e] at hk
    have:=Option.some.inj hk
    omega
  ·rw[List.getElem?_set_ne (fun e2=>e1 e2.symm)] at hu
   by_cases e2:q=i
   ·subst e2
    rw[List.getElem?_set_self hi'] at hu2
    obtain rfl:=Option.some.inj hu2
    intro h2
    rcases hv' with e|e
    ·rw[e] at h2;exact h.dis j q u v k hjq hu hv hk h2
    ·have:=old j u k hu hk
     rw[e] at h2
     have:=Option.some.inj h2
     omega
   ·rw[List.getElem?_set_ne (fun e3=>e2 e3.symm)] at hu2
    exact h.dis j q u u2 k hjq hu hu2 hk
theorem step_append_b {w:World} {ops:Array Oper} {op:Oper} {a:Act} {K:Act→World→Prop} {Q:Exit→Act→World→Prop} {El:Prop} (hgd:op.guard=none) (s x:Operand)
  (ho:op.op = .call { callee := .builtin .append,args:=#[s,x],argTypes:=#[60,60] }) (base:Nat) (v:Value) (l:List Bool) (hs:a.eval s=v) (h:OwnB w base v l) (b:Nat) (u:Bool) (hx:a.eval x = .slice (some ⟨b,0,none⟩) 1 1)
  (hnews:w.rangeAt b 0 [.bool u]) (hlen:l.length+1≤1000000) (hb:base≤w.heap.size)
  (hk:∀v' w',OwnB w' base v' (l++[u])→w.grownBy w' v.ownBlock→(v'.ownBlock=v.ownBlock∨v'.ownBlock=some w.heap.size)→K (a.put op.dst v') w'):if Region.wanted op (yielded ops a.tmps)=true then Oper.wp Tryz.prog op a w K Q else El:=by
 have hw:Region.wanted op (yielded ops a.tmps)=true:=by simp[Region.wanted,hgd]
 rw[if_pos hw]
 obtain ⟨z,hinf,hzs⟩:=elem_bool.info
 obtain ⟨i0,hi,hz0,hz1,hz2⟩:=info_parts hinf
 obtain ⟨v',w',hr,h2,h3,_,h5⟩:=run_append_own_at (P:=Tryz.prog) w base 60 op.type 4 i0 z 1 1 elem_bool.under hi hz0 hz1 hz2 hzs elem_bool.pos v l.length (l.flatMap encB) h ⟨b,0,none⟩ 1 1 [.bool u] rfl (fun j y hj=>by rw[Addr.add_mid];exact hnews j y hj) (by simp[Value.oneCell']) (by unfold maxLen;omega) (by omega) hb
 unfold Oper.wp execOp
 simp only[ho,resolve,invoke,builtin,Sem.run_bind,Sem.run_pure,Result.andThen_ok,List.map_toArray,List.map_cons,List.map_nil,hs,hx,hr]
 exact hk v' w' (OwnL.snoc (x:=u) h2) h3 h5
theorem TabAt.storeV {w:World} {base g:Nat} {rows:List Value} {M:List (List Bool)} (h:TabAt w base g rows M) {i:Nat} (hi:i<M.length) {gi c:Nat} (hrow:rows[i]? = some (.slice (some ⟨gi,0,none⟩) (M[i]).length c)) (k:Nat) (b:Bool):TabAt (w.setCell ⟨gi,k,none⟩ (.bool b)) base g rows (setB M i k b)∧w.grownBy (w.setCell ⟨gi,k,none⟩ (.bool b)) (some gi):=by
 have ho:=h.own i _ _ hrow (zl hi)
 obtain ⟨hs,hg⟩:=World.ownsRow.stored ho k (.bool b)
 obtain ⟨cu,fr,hgi⟩:=ho.block (g:=gi) rfl
 have hne:g≠gi:=fun e=>by
  subst e
  rw[h.out] at hgi
  injection hgi with hgi
  injection hgi with _ e2
  exact absurd e2 (by decide)
 refine ⟨⟨(heap_setCell_other w ⟨gi,k,none⟩ g _ hne).trans h.out,h.gb,by simp[setB,h.len],fun j v l hv hl=>?_,h.dis⟩,hg⟩
 by_cases e:j=i
 ·subst e
  rw[hrow] at hv
  obtain rfl:=Option.some.inj hv
  have hl':l=(M[j]).set k b:=by
   unfold setB at hl
   rw[List.getElem?_set_self hi] at hl
   have:=Option.some.inj hl
   rw[←this,List.getD_eq_getElem?_getD,zl hi];rfl
  subst hl'
  unfold OwnB OwnL
  rw[List.length_set,flatB_set]
  exact hs
 ·have hl':M[j]? = some l:=by
   unfold setB at hl
   rwa [List.getElem?_set_ne (fun e2=>e e2.symm)] at hl
  exact (h.own j v l hv hl').grown hg fun q hq e2=>by
   have:=Option.some.inj hq
   subst this
   exact h.dis i j _ v gi (fun e3=>e e3.symm) hrow hv rfl e2
theorem TabAt.setRow {w w1:World} {base g:Nat} {rows:List Value} {M:List (List Bool)} (h:TabAt w base g rows M) {i:Nat} (hi:i<M.length) {v v':Value} (hv:rows[i]? = some v) {l':List Bool} (ho:OwnB w1 base v' l') (hg:w.grownBy w1 v.ownBlock) (hv':v'.ownBlock=v.ownBlock∨v'.ownBlock=some w.heap.size) :
  TabAt (w1.setCell ⟨g,i,none⟩ v') base g (rows.set i v') (M.set i l'):=by
 have hov:=h.own i v _ hv (zl hi)
 have hi':i<rows.length:=by rw[h.len];exact hi
 have hgne:∀q,v.ownBlock=some q→g≠q:=fun q hq e=>by
  subst e
  obtain ⟨c2,f2,e2⟩:=hov.block hq
  rw[h.out] at e2
  injection e2 with e2
  injection e2 with _ e3
  exact absurd e3 (by decide)
 have hg1:w1.heap[g]? = some (.cells rows.toArray 60 (0,0)):=(zN hg h.glt fun q hq=>hgne q hq).trans h.out
 have hne2:∀q,v'.ownBlock=some q→q≠g:=fun q hq e=>by
  subst e
  obtain ⟨c2,f2,e2⟩:=ho.block hq
  rw[hg1] at e2
  injection e2 with e2
  injection e2 with _ e3
  exact absurd e3 (by decide)
 refine ⟨by rw[heap_setCell_same w1 g i _ _ v' hg1];simp,h.gb,by simp[h.len],fun j u l hu hl=>?_,fun j q u u2 k hjq hu hu2 hk=>?_⟩
 ·by_cases e:j=i
  ·subst e
   rw[List.getElem?_set_self hi'] at hu
   rw[List.getElem?_set_self hi] at hl
   obtain rfl:=Option.some.inj hu
   obtain rfl:=Option.some.inj hl
   exact ho.keep fun q _ _ hq=>heap_setCell_other w1 ⟨g,j,none⟩ q _ (hne2 q hq)
  ·rw[List.getElem?_set_ne (fun e2=>e e2.symm)] at hu hl
   have h1:=(h.own j u l hu hl).grown hg fun q hq e2=>h.dis i j v u q (fun e3=>e e3.symm) hv hu hq e2
   refine h1.keep fun q _ _ hq=>heap_setCell_other w1 ⟨g,i,none⟩ q _ fun e2=>?_
   simp only at e2
   subst e2
   obtain ⟨c2,f2,e3⟩:=h1.block hq
   rw[hg1] at e3
   injection e3 with e3
   injection e3 with _ e4
   exact absurd e4 (by decide)
 ·have old:∀ (m:Nat) (x:Value) (z:Nat),rows[m]? = some x→x.ownBlock=some z→z<w.heap.size:=fun m x z hx hz=>(h.own m x _ hx (zl (h.lenOf hx))).blt hz
  by_cases e1:j=i
  ·subst e1
   rw[List.getElem?_set_self hi'] at hu
   obtain rfl:=Option.some.inj hu
   rw[List.getElem?_set_ne hjq] at hu2
   rcases hv' with e|e
   ·rw[e] at hk;exact h.dis j q v u2 k hjq hv hu2 hk
   ·intro h2
    have:=old q u2 k hu2 h2
    rw[e] at hk
    have:=Option.some.inj hk
    omega
  ·rw[List.getElem?_set_ne (fun e2=>e1 e2.symm)] at hu
   by_cases e2:q=i
   ·subst e2
    rw[List.getElem?_set_self hi'] at hu2
    obtain rfl:=Option.some.inj hu2
    intro h2
    rcases hv' with e|e
    ·rw[e] at h2;exact h.dis j q u v k hjq hu hv hk h2
    ·have:=old j u k hu hk
     rw[e] at h2
     have:=Option.some.inj h2
     omega
   ·rw[List.getElem?_set_ne (fun e3=>e2 e3.symm)] at hu2
    exact h.dis j q u u2 k hjq hu hu2 hk
theorem flatB_replicate (m:Nat):(List.replicate m false).flatMap encB=List.replicate m (.bool false):=by
 induction m with
 | zero=>rfl
 | succ m ih=>rw[List.replicate_succ,List.flatMap_cons,ih];rfl
theorem ownB_new (w:World) (base m:Nat) (hb:base≤w.heap.size) (hm:m≤1000):OwnB (w.alloc (.cells (List.replicate m (.bool false)).toArray 4)) base (.slice (some ⟨w.heap.size,0,none⟩) m m) (List.replicate m false):=by
 refine ⟨by rw[flatB_replicate];simp,.inr ⟨w.heap.size,m,_,by simp,hb,heap_alloc_new w _,by simp,by unfold maxLen;omega,by simp,?_⟩⟩
 rw[flatB_replicate]
 simp
end Go.Proofs.YtkhpajneinmmiaaGreatDoor


