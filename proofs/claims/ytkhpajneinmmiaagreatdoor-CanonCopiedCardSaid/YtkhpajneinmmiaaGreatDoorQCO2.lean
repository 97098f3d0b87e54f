/-
  Walks: sheaveref18.Copied.
-/
import Derived.Test.YtkhpajneinmmiaaGreatDoorQCOA
import Derived.Test.YtkhpajneinmmiaaGreatDoorQRN2
import Derived.Test.YtkhpajneinmmiaaGreatDoorQPL
namespace Go.Proofs.YtkhpajneinmmiaaGreatDoor
open Go.RowKit
set_option maxHeartbeats 16000000
set_option maxRecDepth 100000
def CopPost (s:List TyD) (w:World) (e:Ending) (w':World):Prop:=∃A c l,e = .returned (.agg #[.slice A l.length c])∧TysR w' A l∧CopyIs s l∧Below w.heap.size w w'
structure CpS (s:List TyD) (A:Option Addr) (c:Nat) (w W:World) (v:Value) (L:List TyA):Prop where
 bel:Below w.heap.size w W
 box:W.heap[w.heap.size]? = some (.cells #[.slice A s.length c] 30 (0,0))
 res:W.heap[w.heap.size+1]? = some (.cells #[.slice none 0 0] 30 (0,0))
 ob:W.heap[w.heap.size+1+1]? = some (.cells #[v] 30 (0,0))
 out:OutC w.heap.size (w.heap.size+1+1) W v L
 cp:∀j (h:j<L.length),∃ms k e,CpIs s.length (decide (s.length≤j)) (tyAt s ((j % s.length:Nat):Int)) ms k e∧L[j].t=cpT (decide (s.length≤j)) (tyAt s ((j % s.length:Nat):Int)) ms k e
theorem CpS.below {s:List TyD} {A:Option Addr} {c:Nat} {w W W':World} {v:Value} {L:List TyA} (h:CpS s A c w W v L) (hb:Below W.heap.size W W'):CpS s A c w W' v L :=
 ⟨zA h.bel hb,(hb.block _ (zg.1 h.box).1).trans h.box,(hb.block _ (zg.1 h.res).1).trans h.res,(hb.block _ (zg.1 h.ob).1).trans h.ob,h.out.below hb,h.cp⟩
theorem CpS.new {s:List TyD} {A:Option Addr} {c:Nat} {w:World}:CpS s A c w (((w.alloc (.cells #[.slice A s.length c] 30)).alloc (.cells #[.slice none 0 0] 30)).alloc (.cells #[.slice none 0 0] 30)) (.slice none 0 0) []:=by
 have hz:(w.alloc (.cells #[.slice A s.length c] 30)).heap.size=w.heap.size+1:=by simp
 have hz2:((w.alloc (.cells #[.slice A s.length c] 30)).alloc (.cells #[.slice none 0 0] 30)).heap.size=w.heap.size+1+1:=by simp
 refine ⟨zA (zC _ _ _) (zD _ _),yS (yS (heap_alloc_new w _) _) _,yS ?_ _,?_,OutC.nil _ _ _,fun j h=>absurd h (by simp)⟩
 ·have:=heap_alloc_new (w.alloc (.cells #[.slice A s.length c] 30)) (.cells #[.slice none 0 0] 30)
  rw[hz] at this
  exact this
 ·have:=heap_alloc_new ((w.alloc (.cells #[.slice A s.length c] 30)).alloc (.cells #[.slice none 0 0] 30)) (.cells #[.slice none 0 0] 30)
  rw[hz2] at this
  exact this
theorem cop_end {s:List TyD} {w W':World} {A:Option Addr} {c:Nat} {L:List TyA} (hc:CopyIs s (L.map (·.t))) (ht:TysR W' A (L.map (·.t))) (hb:Below w.heap.size w W'):CopPost s w (.returned (.agg #[.slice A L.length c])) W':=by
 have h0:Ending.returned (.agg #[.slice A L.length c]) = .returned (.agg #[.slice A (L.map (·.t)).length c]):=by rw[List.length_map]
 generalize L.map (·.t)=l at *
 exact ⟨A,c,l,h0,ht,hc,hb⟩
theorem CpS.next {s:List TyD} {A:Option Addr} {c:Nat} {w W:World} {v:Value} {L:List TyA} (h:CpS s A c w W v L) {x:TyA} (hx:Off (fun q=>(w.heap.size≤q∧q≤w.heap.size+1+1)∨v.ownBlock=some q) W fun u=>TyR u x.t x.As x.Am)
  (hcp:∃ms k e,CpIs s.length (decide (s.length≤L.length)) (tyAt s ((L.length % s.length:Nat):Int)) ms k e∧x.t=cpT (decide (s.length≤L.length)) (tyAt s ((L.length % s.length:Nat):Int)) ms k e) {v9:Value} {w9:World}
  (ho:w9.ownsRow (w.heap.size+1+1+1) 70 10 v9 (L.length+1) (L.flatMap TyA.cells++x.cells)) (hg:(W.alloc (.cells x.cells.toArray 70)).grownBy w9 v.ownBlock) (hv:v9.ownBlock=v.ownBlock∨v9.ownBlock=some (W.alloc (.cells x.cells.toArray 70)).heap.size) :
  w9.frozen? ⟨w.heap.size+1+1,0,none⟩=false∧w9.cell? ⟨w.heap.size+1+1,0,none⟩=some v∧w.heap.size+1+1<w9.heap.size∧CpS s A c w (w9.setCell ⟨w.heap.size+1+1,0,none⟩ v9) v9 (L++[x]):=by
 have hnew:=zD W (.cells x.cells.toArray 70)
 have hzs:=(zg.1 h.ob).1
 have hoo:=(h.out.below hnew).own
 have hk:∀q,q<w.heap.size+1+1+1→w9.heap[q]? = W.heap[q]? := fun q hq=>(zN hg (by have:=hnew.size;omega) fun k hk e=>by have:=hoo.lt k hk;omega).trans (hnew.block q (by omega))
 have hsb:=(hk (w.heap.size+1+1) (by omega)).trans h.ob
 have hb9:Below w.heap.size w w9:=(zA h.bel hnew).grown hg (zA h.bel hnew).size (fun q hq=>by have:=hoo.lt q hq;omega)
 refine ⟨frozen_of_row _ _ _ _ _ hsb,by rw[cell_of_row _ _ _ _ _ _ hsb];rfl,(zg.1 hsb).1,?_,?_,?_,?_,?_,fun j hj=>?_⟩
 ·exact hb9.setCell (p:=⟨w.heap.size+1+1,0,none⟩) (by simp only;omega) _
 ·exact ((heap_setCell_other _ _ _ _ (by simp only;omega)).trans (hk _ (by omega))).trans h.box
 ·exact ((heap_setCell_other _ _ _ _ (by simp)).trans (hk _ (by omega))).trans h.res
 ·rw[heap_setCell_same _ _ 0 _ _ v9 hsb];rfl
 ·exact (OutC.snoc (h.out.below hnew) (hx.low hnew) ho hg hv).set (by simp) (b:=w.heap.size+1+1) (by omega) (Nat.le_refl _) (fun q hq _=>heap_setCell_other _ _ _ _ (by simpa using hq))
 ·by_cases hji:j<L.length
  ·rw[List.getElem_append_left hji];exact h.cp j hji
  ·have hje:j=L.length:=by rw[List.length_append] at hj;simp at hj;omega
   subst hje
   rw[List.getElem_append_right (Nat.le_refl _)]
   simpa using hcp
theorem tbox_all {W:World} {b:Nat} {t:TyD} {As:Option Addr} {cs:Nat} {Am:Option Addr} {cm:Nat} (h:W.heap[b]? = some zboxT):TBox (W.setCells b 0 (t.cs As cs Am cm)) b t As cs Am cm:=by
 unfold TBox
 rw[heap_setCells_row _ _ _ _ h]
 simp[setA]
theorem cp7 {wi w':World} {b o r:Nat} {t:TyD} {As:Option Addr} {cs:Nat} {Am:Option Addr} {cm:Nat} {x:Value} {q:Nat} (hb:Below wi.heap.size wi w') (hx:wi.cell? ⟨q,0,none⟩=some x)
  (h:wi.cell? ⟨b,o+r * 10,none⟩=some (.int .i64 t.kind)∧wi.cell? ⟨b,o+r * 10+1,none⟩=some (.string t.name)∧wi.cell? ⟨b,o+r * 10+2,none⟩=some (.int .i64 t.low)∧wi.cell? ⟨b,o+r * 10+3,none⟩=some (.int .i64 t.high)∧wi.cell? ⟨b,o+r * 10+4,none⟩=some (.int .i64 t.max)∧wi.cell? ⟨b,o+r * 10+5,none⟩=some (.slice As t.syms.length cs)∧wi.cell? ⟨b,o+r * 10+6,none⟩=some (.slice Am t.mems.length cm)∧wi.cell? ⟨b,o+r * 10+7,none⟩=some (.int .i64 t.key)∧wi.cell? ⟨b,o+r * 10+8,none⟩=some (.int .i64 t.elem)∧wi.cell? ⟨b,o+r * 10+9,none⟩=some (.bool t.open_)) :
  (w'.cell? ⟨q,0,none⟩=some x∧w'.cell? ⟨b,o+r * 10,none⟩=some (.int .i64 t.kind)∧w'.cell? ⟨b,o+r * 10+1,none⟩=some (.string t.name)∧w'.cell? ⟨b,o+r * 10+2,none⟩=some (.int .i64 t.low)∧w'.cell? ⟨b,o+r * 10+3,none⟩=some (.int .i64 t.high)∧w'.cell? ⟨b,o+r * 10+4,none⟩=some (.int .i64 t.max)∧w'.cell? ⟨b,o+r * 10+5,none⟩=some (.slice As t.syms.length cs)∧w'.cell? ⟨b,o+r * 10+6,none⟩=some (.slice Am t.mems.length cm)∧w'.cell? ⟨b,o+r * 10+7,none⟩=some (.int .i64 t.key)∧w'.cell? ⟨b,o+r * 10+8,none⟩=some (.int .i64 t.elem)∧w'.cell? ⟨b,o+r * 10+9,none⟩=some (.bool t.open_))∧Hid (Below wi.heap.size wi w'):=by
 obtain ⟨h0,h1,h2,h3,h4,h5,h6,h7,h8,h9⟩:=h
 exact ⟨⟨zB hb hx,zB hb h0,zB hb h1,zB hb h2,zB hb h3,zB hb h4,zB hb h5,zB hb h6,zB hb h7,zB hb h8,zB hb h9⟩,hb⟩
theorem MsSh.snoc {n:Nat} {x:Bool}:∀ {l m:List MemD} {a c:MemD},MsSh n x l m→(∃u,Sh n a.type u∧c=cpM x a u)→MsSh n x (l++[a]) (m++[c])
 | [],[],_,_,_,h=>⟨h,trivial⟩
 | _::_,_::_,_,_,h1,h2=>⟨h1.1,MsSh.snoc h1.2 h2⟩
 | [],_::_,_,_,h,_=>h.elim
 | _::_,[],_,_,h,_=>h.elim
theorem sh_bits {n:Nat} (bits q6:Nat) (h5:n≤5) {z:Int} (h0:0≤z) (h1:z<(n:Int)):Sh n z (IntKind.i64.wrap (z+IntKind.i64.wrap ((n:Int) * IntKind.i64.wrap (((bits:Int) / 2 ^ q6).tmod 2)))):=by
 have e:(bits:Int) / 2 ^ q6=((bits / 2 ^ q6:Nat):Int):=by simp
 have e2:(((bits / 2 ^ q6:Nat):Int)).tmod 2=((bits / 2 ^ q6 % 2:Nat):Int):=rfl
 rw[e,e2]
 rcases Nat.mod_two_eq_zero_or_one (bits / 2 ^ q6) with r|r
 ·rw[r,IntWalk.i64_in ((0:Nat):Int) (by omega),show (n:Int) * ((0:Nat):Int)=0 by simp,IntWalk.i64_in 0 (by omega),IntWalk.i64_in _ (by omega)]
  exact .inl (by simp)
 ·rw[r,IntWalk.i64_in ((1:Nat):Int) (by omega),show (n:Int) * ((1:Nat):Int)=(n:Int) by simp,IntWalk.i64_in (n:Int) (by omega),IntWalk.i64_in _ (by omega)]
  exact .inr rfl
theorem form_mems {t:TyD} (h:formD t=true):t.mems.length≤16:=by
 unfold formD at h
 simp only[Bool.and_eq_true,decide_eq_true_eq] at h
 obtain ⟨⟨⟨⟨h1,h2⟩,h3⟩,h4⟩,h5⟩:=h
 by_cases hk:t.kind=5∨t.kind=6
 ·have h6:∃r,memsD r t.mems=true:=by
   unfold caseD at h5
   rcases hk with hk|hk
   ·simp only[hk] at h5
    exact ⟨true,by simpa using h5⟩
   ·simp only[hk] at h5
    exact ⟨false,by simpa using h5⟩
  obtain ⟨r,h6⟩:=h6
  unfold memsD idsD at h6
  simp only[Bool.and_eq_true,decide_eq_true_eq,List.length_map] at h6
  exact h6.1.2.2
 ·have hm':t.mems=[]:=by
   have k5:¬ t.kind=5:=fun e=>hk (.inl e)
   have k6:¬ t.kind=6:=fun e=>hk (.inr e)
   rw[h3];unfold zT
   simp only[k5,k6,if_false]
   repeat' split
   all_goals rfl
  rw[hm'];simp
theorem isEmpty_iff (s:ByteArray):s.toList.isEmpty=true↔s=⟨#[]⟩:=by
 have h:=zP s ⟨#[]⟩
 rw[show (⟨#[]⟩:ByteArray).toList=[] by decide +kernel] at h
 have e:(s.toList==[])=s.toList.isEmpty:=by cases s.toList <;> rfl
 rw[e] at h
 rw[h,decide_eq_true_iff]
theorem cy_grown {W W8:World} {E:TypeId} (hg:(W.alloc (.cells #[] E)).grownBy W8 (Value.slice (some ⟨W.heap.size,0,none⟩) 0 0).ownBlock):Below W.heap.size W W8 :=
 (zD W _).grown hg (by simp) (fun q hq=>by have:W.heap.size=q:=Option.some.inj (show some W.heap.size=some q from hq);omega)
theorem rowX_of {α:Type} {E k:Nat} {at_ atl:α→List Value→Prop} {W8:World} {base:Nat} {v8:Value} {css:List (List Value)} {l:List α} (h1:css.length=l.length) (h2:∀ (i:Nat) x cs,l[i]? = some x→css[i]? = some cs→at_ x cs) (h3:∀cs∈css,cs.length=k) (ha:∀x∈l,∀cs,at_ x cs→atl x cs)
  (ho:W8.ownsRow base E k v8 css.length css.flatten):∃B d,v8 = .slice B l.length d∧RowX E k atl W8 base B d l:=by
 have ho':OwnC E k W8 base v8 css:=by unfold OwnC OwnL;rw[yJ];exact ho
 obtain ⟨B,d,hv,_⟩:=ho'.reads
 rw[h1] at hv
 refine ⟨B,d,hv,css,by rw[←hv];exact ho',h1,h3,fun m x cs hx hc=>ha x (List.mem_of_getElem? hx) cs (h2 m x cs hx hc)⟩
theorem copied18_any (s:List TyD) (bits:Nat) (A:Option Addr) (c:Nat) (w:World) (hs:TysR w A s) (hv:zQ s=0) (hsh:Short s) (h1:1≤s.length) (h5:s.length≤5) :
  Calls Tryz.prog 18 #[.agg #[.slice A s.length c],.int .u64 bits] w (CopPost s w):=by
 have HS:=zh hs
 have HV:=zh hv
 have HSO:=zh hsh
 have HI:=zh (CpS.new (s:=s) (A:=A) (c:=c) (w:=w))
 clear hs hv hsh
 go_enter Tryz.func18,Tryz.ntmps18
 go_wp2
 generalize ((w.alloc (.cells #[.slice A s.length c] 30)).alloc (.cells #[.slice none 0 0] 30)).alloc (.cells #[.slice none 0 0] 30)=wc at *
 go_loopw [7,8] (fun a b wr=>∃ (us i:Nat) (v:Value) (L:List TyA),i≤2 * s.length∧us≤40 * i∧a = .int .i64 (us:Int)∧b = .int .i64 (i:Int)∧Hid (CpS s A c w wr v L∧L.length=i)) (fun _ b _=>2 * s.length - (intOf b).toNat)
 case atStart=>exact ⟨0,0,_,[],by omega,by omega,rfl,rfl,HI.out,rfl⟩
 case round =>
  obtain ⟨us,i,v,L,hi,hus,rfl,rfl,hh⟩:=hrel
  obtain ⟨wi,rfl⟩:∃wi:World,wi=wr:=⟨_,rfl⟩
  have HST:=zh hh.out.1
  have HLI:=zh hh.out.2
  clear hh
  by_cases hlt:i<2 * s.length
  ·have hsb:wi.cell? ⟨w.heap.size,0,none⟩=some (.slice A s.length c):=by rw[cell_of_row _ _ _ _ _ _ HST.out.box];rfl
   obtain ⟨r,hr⟩:∃r:Nat,r=i % s.length:=⟨_,rfl⟩
   have hrl:r<s.length:=by rw[hr];exact Nat.mod_lt _ (by omega)
   have HRR:=zh hr
   have er1:(i:Int).tmod (s.length:Int)=(r:Int):=by rw[hr];rfl
   have er2:(i:Int) % (s.length:Int)=(r:Int):=by rw[hr];simp
   clear hr
   have hnil:¬ (s=[]):=fun e=>by rw[e] at h1;simp at h1
   have hnz:¬ ((s.length:Int)=0):=by omega
   obtain ⟨b,o,As,cs,Am,cm,rfl,htr,t0,t1,t2,t3,t4,t5,t6,t7,t8,t9⟩:=HS.out.at10 hrl
   replace t0:=zB HST.out.bel t0
   replace t1:=zB HST.out.bel t1
   replace t2:=zB HST.out.bel t2
   replace t3:=zB HST.out.bel t3
   replace t4:=zB HST.out.bel t4
   replace t5:=zB HST.out.bel t5
   replace t6:=zB HST.out.bel t6
   replace t7:=zB HST.out.bel t7
   replace t8:=zB HST.out.bel t8
   replace t9:=zB HST.out.bel t9
   have HTR:=zh htr
   have HTF:=zh (And.intro (valid_tys HV.out (List.getElem_mem hrl)).1 (HSO.out _ (List.getElem_mem hrl)))
   have HTU:=zh (valid_tys HV.out (List.getElem_mem hrl)).2
   have HTA:Hid (tyAt s ((i % s.length:Nat):Int)=s[r]):=by show _=_;rw[←HRR.out];exact tyAt_nat hrl
   generalize s[r]=t at *
   have HC7:=zh (And.intro t0 (And.intro t1 (And.intro t2 (And.intro t3 (And.intro t4 (And.intro t5 (And.intro t6 (And.intro t7 (And.intro t8 t9)))))))))
   have HX7:=zh hsb
   have g1:(0:Int)≤(r:Int):=by omega
   have g2:(r:Int)<(s.length:Int):=by omega
   have y1:=zF hsb
   have y2:=zF t0
   simp only at y1 y2
   clear htr
   go_wp2_with fail
   refine wp_region_held_drew (S:=(fun w'=>(w'.cell? ⟨w.heap.size,0,none⟩=some (.slice (some ⟨b,o,none⟩) s.length c)∧w'.cell? ⟨b,o+r * 10,none⟩=some (.int .i64 t.kind)∧w'.cell? ⟨b,o+r * 10+1,none⟩=some (.string t.name)∧w'.cell? ⟨b,o+r * 10+2,none⟩=some (.int .i64 t.low)∧w'.cell? ⟨b,o+r * 10+3,none⟩=some (.int .i64 t.high)∧w'.cell? ⟨b,o+r * 10+4,none⟩=some (.int .i64 t.max)∧w'.cell? ⟨b,o+r * 10+5,none⟩=some (.slice As t.syms.length cs)∧w'.cell? ⟨b,o+r * 10+6,none⟩=some (.slice Am t.mems.length cm)∧w'.cell? ⟨b,o+r * 10+7,none⟩=some (.int .i64 t.key)∧w'.cell? ⟨b,o+r * 10+8,none⟩=some (.int .i64 t.elem)∧w'.cell? ⟨b,o+r * 10+9,none⟩=some (.bool t.open_))∧Hid (Below wi.heap.size wi w'))) (by kernel_rfl) ?_ (fun zH_=>?_)
   ·(try dsimp only);exact cp7 (zE (Below.refl _ _) 1) HX7.out HC7.out
   refine tL 0 _ zH_ ?_
   try simp only[ps]
   refine tL 1 _ zH_ ?_
   try simp only[ps]
   refine tL 2 _ zH_ ?_
   try simp only[ps]
   refine tL 3 _ zH_ ?_
   try simp only[ps]
   refine tL 4 _ zH_ ?_
   try simp only[ps]
   refine tL 5 _ zH_ ?_
   try simp only[ps]
   refine tL 6 _ zH_ ?_
   try simp only[ps]
   refine tR 7 (fun K hK=>?_)
   go_simp
   refine hK.out _ _ ?_ (fun zH_=>?_)
   ·(try dsimp only);exact cp7 (zA zH_.2.out (zD _ _)) HX7.out HC7.out
   clear hK K
   try simp only[ps]
   refine tR 8 (fun K hK=>?_)
   (simp only[List.getElem_toArray,List.getElem_cons_zero,List.getElem_cons_succ];rw[if_pos (by rfl)];refine wp_store_mid 70 (.tmp 9) (.tmp 28) rfl (wi.heap.size) (0) (#[.int .i64 t.kind,.string t.name,.int .i64 t.low,.int .i64 t.high,.int .i64 t.max,.slice As t.syms.length cs,.slice Am t.mems.length cm,.int .i64 t.key,.int .i64 t.elem,.bool t.open_]) (by rfl) (by rfl) ?_ ?_ ?_ ?_;(exact yQ (heap_alloc_new (wi.drewN 1) _));(exact ty_info);(exact ty_one t As cs Am cm))
   refine hK.out _ _ ?_ (fun zH_=>?_)
   ·(try dsimp only);exact cp7 (zV _ (Nat.le_refl _) _ _ _ zH_.2.out) HX7.out HC7.out
   clear hK K
   try simp only[ps]
   refine wpAnyH_done (by kernel_rfl) ?_ _
   have HT9:Hid (TBox ((wi.alloc zboxT).drew.setCells wi.heap.size 0 (t.cs As cs Am cm)) wi.heap.size t As cs Am cm):=zh (tbox_all (heap_alloc_new (wi.drewN 1) _))
   have HB9:Hid (Below wi.heap.size wi ((wi.alloc zboxT).drew.setCells wi.heap.size 0 (t.cs As cs Am cm))):=zh zH_.2.out
   clear zH_ t0 t1 t2 t3 t4 t5 t6 t7 t8 t9 hsb y1 y2
   generalize (wi.alloc zboxT).drew.setCells wi.heap.size 0 (t.cs As cs Am cm)=W9 at *
   have u0:=HT9.out.cell 0
   have u1:=HT9.out.cell 1
   have u2:=HT9.out.cell 2
   have u3:=HT9.out.cell 3
   have u4:=HT9.out.cell 4
   have u5:=HT9.out.cell 5
   have u6:=HT9.out.cell 6
   have u7:=HT9.out.cell 7
   have u8:=HT9.out.cell 8
   have u9:=HT9.out.cell 9
   have hb9:=HT9.out.blt
   have HT9':=zh (HT9.out.below (zD W9 (t.box As cs Am cm)))
   have HT10:Hid (TBox (W9.alloc (t.box As cs Am cm)) W9.heap.size t As cs Am cm):=heap_alloc_new W9 _
   have HB10:=zh (zA HB9.out (zD W9 (t.box As cs Am cm)))
   have HZ10:Hid ((W9.alloc (t.box As cs Am cm)).heap.size=W9.heap.size+1):=by show _=_;simp
   go_upto_region 9 with fail
   clear u0 u1 u2 u3 u4 u5 u6 u7 u8 u9
   generalize W9.alloc (t.box As cs Am cm)=W10 at *
   generalize W9.heap.size=b10 at *
   obtain ⟨css1,k1,k2,k3,k4⟩:=RowsR.cells (fun x cs h=>(show cs.length=2 by rw[h.2];rfl)) HTR.out.syms
   obtain ⟨css2,m1,m2,m3,m4⟩:=RowsR.cells (fun x cs h=>(show cs.length=13 by obtain ⟨_,_,_,_,_,_,e,_⟩:=h;rw[e];rfl)) HTR.out.mems
   have HK1:=zh (And.intro k1 (And.intro k2 (And.intro k3 k4)))
   have HM1:=zh (And.intro m1 (And.intro m2 (And.intro m3 m4)))
   clear k1 k2 k3 k4 m1 m2 m3 m4
   have u5:W10.cell? ⟨wi.heap.size,5,none⟩=some (.slice As t.syms.length cs):=HT9'.out.cell 5
   have hz9:=HT9'.out.blt
   have hz10:=HT10.out.blt
   have HOE:Hid (World.ownsRow (W10.alloc (.cells #[] 75)) (b10+1) 75 2 (.slice (some ⟨W10.heap.size,0,none⟩) 0 0) 0 []):=own_empty W10 (b10+1) 75 2 (by rw[HZ10.out];exact Nat.le_refl _)
   have HML:Hid (∀x∈t.mems,∀cs,MemD.At w x cs→MatL w x cs):=zh fun x _ cs h u hu=>MemD.at_low hu h
   have HON1:Hid (∀cs∈css1,∀u∈cs,u.oneCell'=true):=fun cs hc u hu=>by
    obtain ⟨i,hi,rfl⟩:=List.getElem_of_mem hc
    have:=HK1.out.2.1 i (t.syms[i]'(by rw[←HK1.out.1];exact hi)) _ (zl _) (zl hi)
    rw[this.2] at hu
    simp only[List.mem_cons,List.mem_nil_iff,or_false] at hu
    rcases hu with rfl|rfl <;> rfl
   have HRA1:Hid (css1≠[]→∃b o,As=some ⟨b,o,none⟩∧(W10.alloc (.cells #[] 75)).rangeAt b o css1.flatten):=fun hn=>by
    obtain ⟨b',o',e,hr⟩:=HK1.out.2.2.2 (fun e=>hn (List.eq_nil_of_length_eq_zero (by rw[HK1.out.1,e];rfl)))
    exact ⟨b',o',e,zY (zA HST.out.bel (zA HB10.out (zD _ _))) hr⟩
   have HLA1:Hid (css1.length * 24≤140737488355328∧css1.length≤9223372036854775807):=by show _∧_;rw[HK1.out.1];have:=HTR.out.syms.1;unfold Lim at this;omega
   have HZA1:Hid (b10+1≤(W10.alloc (.cells #[] 75)).heap.size):=by show _≤_;simp;omega
   go_upto_region 10 with (at_builtin;refine wpList_append_e elem_sym _ rfl (.tmp 30) (.tmp 32) rfl (b10+1) _ rfl HOE.out css1 t.syms.length HK1.out.1.symm As cs rfl HK1.out.2.2.1 HON1.out HRA1.out HLA1.out.1 HLA1.out.2 HZA1.out ?_;intro v8 w8 ho8 hg8;obtain ⟨B1,d1,rfl,hrx⟩:=rowX_of HK1.out.1 HK1.out.2.1 HK1.out.2.2.1 (fun x _ cs h=>h) ho8;have HRX:=zh hrx;have HB8:=zh (cy_grown hg8);have HT98:=zh (HT9'.out.below HB8.out);have HT108:=zh (HT10.out.below HB8.out);have f5:=frozen_of_row _ _ 5 _ _ HT108.out;have c5:w8.cell? ⟨b10,5,none⟩=some (.slice As t.syms.length cs):=HT108.out.cell 5;have hl8:=HT108.out.blt;clear ho8 hg8 hrx)
   have HT1011:Hid (TBox (w8.setCell ⟨b10,5,none⟩ (.slice B1 t.syms.length d1)) b10 t B1 d1 Am cm):=by
    have:=heap_setCell_same _ _ 5 _ _ (.slice B1 t.syms.length d1) HT108.out
    show TBox _ _ _ _ _ _ _
    unfold TBox
    rw[this]
    simp
   have HT911:Hid (TBox (w8.setCell ⟨b10,5,none⟩ (.slice B1 t.syms.length d1)) wi.heap.size t As cs Am cm):=(heap_setCell_other _ _ _ _ (by simp only;omega)).trans HT98.out
   have HRX11:Hid (RowX 75 2 SymD.At (w8.setCell ⟨b10,5,none⟩ (.slice B1 t.syms.length d1)) (b10+1) B1 d1 t.syms):=HRX.out.keep fun g hg _ _=>heap_setCell_other _ _ _ _ (by simp only;omega)
   have HB11:Hid (Below wi.heap.size wi (w8.setCell ⟨b10,5,none⟩ (.slice B1 t.syms.length d1))):=(zA HB10.out HB8.out).setCell (p:=⟨b10,5,none⟩) (by simp only;omega) _
   have HZ11:Hid (b10+1≤(w8.setCell ⟨b10,5,none⟩ (.slice B1 t.syms.length d1)).heap.size):=by show _≤_;simp;omega
   clear f5 c5 hl8 u5 HT98 HT108 HRX HB8 HOE HZ10 HB10 HT10 HT9'
   generalize w8.setCell ⟨b10,5,none⟩ (.slice B1 t.syms.length d1)=W11 at *
   have u6:W11.cell? ⟨wi.heap.size,6,none⟩=some (.slice Am t.mems.length cm):=HT911.out.cell 6
   have hz11:=HT911.out.blt
   have hy11:=HT1011.out.blt
   have HOE:Hid (World.ownsRow (W11.alloc (.cells #[] 83)) (b10+1) 83 13 (.slice (some ⟨W11.heap.size,0,none⟩) 0 0) 0 []):=own_empty W11 (b10+1) 83 13 HZ11.out
   have HON2:Hid (∀cs∈css2,∀u∈cs,u.oneCell'=true):=fun cs hc u hu=>by
    obtain ⟨i,hi,rfl⟩:=List.getElem_of_mem hc
    obtain ⟨_,_,_,_,_,_,e,_⟩:=HM1.out.2.1 i (t.mems[i]'(by rw[←HM1.out.1];exact hi)) _ (zl _) (zl hi)
    rw[e] at hu
    simp only[List.mem_cons,List.mem_nil_iff,or_false] at hu
    rcases hu with rfl|rfl|rfl|rfl|rfl|rfl|rfl|rfl|rfl|rfl|rfl|rfl|rfl <;> rfl
   have HRA2:Hid (css2≠[]→∃b o,Am=some ⟨b,o,none⟩∧(W11.alloc (.cells #[] 83)).rangeAt b o css2.flatten):=fun hn=>by
    obtain ⟨b',o',e,hr⟩:=HM1.out.2.2.2 (fun e=>hn (List.eq_nil_of_length_eq_zero (by rw[HM1.out.1,e];rfl)))
    exact ⟨b',o',e,zY (zA HST.out.bel (zA HB11.out (zD _ _))) hr⟩
   have HLA2:Hid (css2.length * 160≤140737488355328∧css2.length≤9223372036854775807):=by show _∧_;rw[HM1.out.1];have:=HTR.out.mems.1;unfold Lim at this;omega
   have HZA2:Hid (b10+1≤(W11.alloc (.cells #[] 83)).heap.size):=by have:=HZ11.out;show _≤_;simp;omega
   go_upto_region 11 with (at_builtin;refine wpList_append_e elem_mem _ rfl (.tmp 35) (.tmp 37) rfl (b10+1) _ rfl HOE.out css2 t.mems.length HM1.out.1.symm Am cm rfl HM1.out.2.2.1 HON2.out HRA2.out HLA2.out.1 HLA2.out.2 HZA2.out ?_;intro v8 w8 ho8 hg8;obtain ⟨B2,d2,rfl,hrx⟩:=rowX_of (atl:=MatL w) HM1.out.1 HM1.out.2.1 HM1.out.2.2.1 (fun x hx cs h=>HML.out x hx cs h) ho8;have HRM:=zh hrx;have HB8:=zh (cy_grown hg8);have HT98:=zh (HT911.out.below HB8.out);have HT108:=zh (HT1011.out.below HB8.out);have f5:=frozen_of_row _ _ 6 _ _ HT108.out;have c5:w8.cell? ⟨b10,6,none⟩=some (.slice Am t.mems.length cm):=HT108.out.cell 6;have hl8:=HT108.out.blt;clear ho8 hg8 hrx)
   have HCY:Hid (Cy w wi (w8.setCell ⟨b10,6,none⟩ (.slice B2 t.mems.length d2)) wi.heap.size b10 t As cs Am cm t B1 d1 B2 d2):=by
    have:=heap_setCell_same _ _ 6 _ _ (.slice B2 t.mems.length d2) HT108.out
    refine ⟨(heap_setCell_other _ _ _ _ (by simp only;omega)).trans HT98.out,?_,(HRX11.out.below HB8.out).keep fun g hg _ _=>heap_setCell_other _ _ _ _ (by simp only;omega),HRM.out.keep fun g hg _ _=>heap_setCell_other _ _ _ _ (by simp only;omega),(zA HB11.out HB8.out).setCell (p:=⟨b10,6,none⟩) (by simp only;omega) _,Nat.le_refl _,by omega⟩
    unfold TBox
    rw[this]
    simp
   clear f5 c5 hl8 u6 HT98 HT108 HRX11 HB8 HOE HB11 HT1011 HT911 HRM HZ11 hz11 hy11
   generalize w8.setCell ⟨b10,6,none⟩ (.slice B2 t.mems.length d2)=W12 at *
   obtain ⟨X,hX⟩:∃X,X=decide (s.length≤i):=⟨_,rfl⟩
   have HXX:=zh hX
   have hXI:decide ((s.length:Int)≤(i:Int))=X:=by rw[hX];simp
   have hXJ:decide (s.length≤i)=X:=hX.symm
   clear hX
   go_upto_if 42 with fail
   go_cut [] (fun wx=>Hid (Cy w wi wx wi.heap.size b10 t As cs Am cm { t with name:=cpN X t.name,syms:=t.syms.map (cpS X) } B1 d1 B2 d2))
   case first =>
    as_aux_lemma =>
    cases X with
    | false =>
     go_wp2
     go_meet
     have e1:t.syms.map (cpS false)=t.syms:=by rw[show (cpS false)=id from funext fun _=>rfl,List.map_id]
     have e2:cpN false t.name=t.name:=by unfold cpN addX;split <;> rfl
     rw[e1,e2]
     exact HCY.out
    | true =>
     have u1:=HCY.out.t10.cell 1
     have hl10:=HCY.out.t10.blt
     obtain ⟨NE,hNE⟩:∃NE,t.name.toList.isEmpty=NE:=⟨_,rfl⟩
     have HNEE:=zh (isEmpty_iff t.name)
     have hsl:t.syms.length≤5864062014805:=by have:=HTR.out.syms.1;unfold Lim at this;omega
     go_upto_if 45 with fail
     clear u1 hl10
     go_cut [] (fun wx=>Hid (Cy w wi wx wi.heap.size b10 t As cs Am cm { t with name:=cpN true t.name } B1 d1 B2 d2))
     case first =>
      have u1:W12.cell? ⟨b10,1,none⟩=some (.string t.name):=HCY.out.t10.cell 1
      have f1:=frozen_of_row _ _ 1 _ _ HCY.out.t10
      have hl10:=HCY.out.t10.blt
      have hds:¬ 9223372036854775807<t.name.size+1:=by have:=HTF.out.2.1;omega
      cases NE with
      | false =>
       have HNN:Hid (cpN true t.name=t.name++⟨#[120]⟩):=by
        have hne:t.name≠⟨#[]⟩:=fun e=>by rw[HNEE.out.2 e] at hNE;cases hNE
        show _=_;unfold cpN addX;rw[if_neg hne,if_pos rfl]
       go_wp2
       go_meet
       rw[HNN.out]
       exact HCY.out.name _
      | true =>
       have HNN:Hid (cpN true t.name=t.name):=by show _=_;unfold cpN;rw[if_pos (HNEE.out.1 hNE)]
       go_wp2
       go_meet
       rw[HNN.out]
       exact HCY.out
     case rest =>
     have HC2:=zh hcut.out
     go_wp2
     go_loopw [11] (fun p wr=>∃q:Nat,q≤t.syms.length∧p = .int .i64 (q:Int)∧Hid (Cy w wi wr wi.heap.size b10 t As cs Am cm { t with name:=cpN true t.name,syms:=mapTo (cpS true) q t.syms } B1 d1 B2 d2)) (fun p _=>t.syms.length - (intOf p).toNat)
     case atStart=>exact ⟨0,by omega,rfl,by rw[mapTo_zero];exact HC2.out⟩
     case round =>
      obtain ⟨q,hq,rfl,hh⟩:=hrel
      obtain ⟨wo,rfl⟩:∃wo:World,wo=wr:=⟨_,rfl⟩
      have HCO:=zh hh.out
      clear hh
      have s5:wo.cell? ⟨b10,5,none⟩=some (.slice B1 t.syms.length d1):=by have:=HCO.out.t10.cell 5;simp only[yM] at this;exact this
      have hl10:=HCO.out.t10.blt
      by_cases hql:q<t.syms.length
      ·obtain ⟨g,cs',rfl,hg0,hg1,_,hat,hrg,hfz⟩:=HCO.out.rs.at_ (i:=q) (by simp only[yM];exact hql)
       have hq1:(mapTo (cpS true) q t.syms)[q]'(by rw[yM];exact hql)=t.syms[q]:=mapTo_at hql _
       obtain ⟨hso,rfl⟩:=hat
       have e1:wo.cell? ⟨g,q * 2+1,none⟩=some (.string (t.syms[q]).name):=by have:=hrg 1 _ rfl;simp only[hq1] at this;exact this
       have hf1:=hfz (q * 2+1)
       have hnz2:(t.syms[q]).name.size≤2:=HTF.out.2.2.2 _ (List.getElem_mem hql)
       have hds:¬ 9223372036854775807<(t.syms[q]).name.size+1:=by omega
       have HNX:Hid (mapTo (cpS true) (q+1) t.syms=(mapTo (cpS true) q t.syms).set q { (mapTo (cpS true) q t.syms)[q]'(by rw[yM];exact hql) with name:=(t.syms[q]).name++⟨#[120]⟩ }):=by
        show _=_
        rw[←mapTo_set hql,hq1];rfl
       have g1':(0:Int)≤(q:Int):=by omega
       have g2':(q:Int)<(t.syms.length:Int):=by omega
       have HS5:=zh s5
       have HE1:=zh e1
       have HF1:=zh hf1
       have HSK:Hid (SOk ((t.syms[q]).name++⟨#[120]⟩)):=by
        have:=addX_size true (t.syms[q]).name
        have e:addX true (t.syms[q]).name=(t.syms[q]).name++⟨#[120]⟩:=rfl
        rw[e] at this
        show _≤_
        rw[this]
        simp;omega
       clear hrg hfz hso hq1
       go_wp2_with fail
       refine yD (S:=(fun w'=>((w'.cell? ⟨b10,5,none⟩=some (.slice (some ⟨g,0,none⟩) t.syms.length d1)∧w'.cell? ⟨g,q * 2+1,none⟩=some (.string (t.syms[q]).name))∧w'.frozen? ⟨g,q * 2+1,none⟩=false)∧Hid (Cy w wi w' wi.heap.size b10 t As cs Am cm { t with name:=cpN true t.name,syms:=mapTo (cpS true) q t.syms } (some ⟨g,0,none⟩) d1 B2 d2))) 12 (by kernel_rfl) ?_ (fun zH_=>?_)
       ·(try dsimp only);exact ⟨⟨⟨HS5.out,HE1.out⟩,HF1.out⟩,HCO.out.below (zE (Below.refl _ _) 1)⟩
       refine tC 0 _ zH_ ?_
       try simp only[ps]
       refine tB 1 _ zH_ ?_
       try simp only[ps]
       refine tC 2 _ zH_ ?_
       try simp only[ps]
       refine tC 3 _ zH_ ?_
       try simp only[ps]
       refine tB 4 _ zH_ ?_
       try simp only[ps]
       refine tC 5 _ zH_ ?_
       try simp only[ps]
       refine tC 6 _ zH_ ?_
       try simp only[ps]
       refine tC 7 _ zH_ ?_
       try simp only[ps]
       refine tB 8 _ zH_ ?_
       try simp only[ps]
       refine tC 9 _ zH_ ?_
       try simp only[ps]
       refine tC 10 _ zH_ ?_
       try simp only[ps]
       refine tC 11 _ zH_ ?_
       try simp only[ps]
       refine zZ (rs:=[12]) (by kernel_rfl) (by simp) ?_
       refine AllReadyB.last rfl (by kernel_rfl) (fun K hK=>?_) AllReadyB.nil
       (obtain ⟨⟨⟨_,hc0⟩,hf0⟩,hin⟩:=zH_;go_simp)
       refine hK.out _ _ ?_
       clear hK K
       (try clear zH_)
       try simp only[ps]
       refine wpAny_done (by kernel_rfl) ?_ _
       have HN:=zh (hin.out.sym (i:=q) (by simp only[yM];exact hql) rfl HSK.out)
       clear hc0 hf0 hin
       go_wp2
       go_roundw
       case rel=>exact ⟨q+1,by omega,by go_num,by rw[HNX.out];exact HN.out⟩
       case measure=>simp[intOf];omega
      ·obtain rfl:q=t.syms.length:=by omega
       go_wp2
       go_meet
       rw[←mapTo_all (Nat.le_refl t.syms.length)]
       exact HCO.out
   case rest =>
   have HC3:=zh hcut.out
   have HM16:=zh (form_mems HTF.out.1)
   have hml:t.mems.length≤879609302220:=by have:=HTR.out.mems.1;unfold Lim at this;omega
   clear hcut HCY
   go_wp2
   go_loopw [7,12] (fun a p wr=>∃ (q ux:Nat) (dn:List MemD),q≤t.mems.length∧ux≤us+q∧a = .int .i64 (ux:Int)∧p = .int .i64 (q:Int)∧Hid (Cy w wi wr wi.heap.size b10 t As cs Am cm { t with name:=cpN X t.name,syms:=t.syms.map (cpS X),mems:=dn++t.mems.drop q } B1 d1 B2 d2∧MsSh s.length X (t.mems.take q) dn)) (fun _ p _=>t.mems.length - (intOf p).toNat)
   case atStart=>exact ⟨0,us,[],by omega,by omega,rfl,rfl,HC3.out,trivial⟩
   case round =>
    obtain ⟨q,ux,dn,hq,hux,rfl,rfl,hh⟩:=hrel
    obtain ⟨wo,rfl⟩:∃wo:World,wo=wr:=⟨_,rfl⟩
    have HCO:=zh hh.out.1
    have HMS:=zh hh.out.2
    have HDL:Hid (dn.length=q):=by have:=HMS.out.len;rw[List.length_take] at this;show _=_;omega
    have HLD:Hid ((dn++t.mems.drop q).length=t.mems.length):=by show _=_;rw[List.length_append,List.length_drop,HDL.out];omega
    have s6:wo.cell? ⟨b10,6,none⟩=some (.slice B2 t.mems.length d2):=by have:=HCO.out.t10.cell 6;rw[←HLD.out];exact this
    have hl10:=HCO.out.t10.blt
    clear hh
    by_cases hql:q<t.mems.length
    ·have hqd:q<(dn++t.mems.drop q).length:=by rw[HLD.out];exact hql
     have HEQ:Hid ((dn++t.mems.drop q)[q]'hqd=t.mems[q]):=by
      show _=_
      rw[List.getElem_append_right (by rw[HDL.out];exact Nat.le_refl _)]
      simp[HDL.out]
     obtain ⟨g,cs',rfl,hg0,hg1,_,hat,hrg,hfz⟩:=HCO.out.rm.at_ (i:=q) hqd
     have hat':MatL w t.mems[q] cs':=by rw[←HEQ.out];exact hat
     obtain ⟨E1,h1',E2,h2',E3,h3',rfl,_⟩:=hat'.parts
     have e1:wo.cell? ⟨g,q * 13+1,none⟩=some (.string (t.mems[q]).name):=hrg 1 _ rfl
     have e2:wo.cell? ⟨g,q * 13+2,none⟩=some (.int .i64 (t.mems[q]).type):=hrg 2 _ rfl
     have HMZ:Hid ((t.mems[q]).name.size≤2):=HTF.out.2.2.1 _ (List.getElem_mem hql)
     have HF:=zh hfz
     have HE1:=zh e1
     have HE2:=zh e2
     have HS6:=zh s6
     clear hat hat' hrg hfz hg0
     go_upto_if 78 with fail
     go_cut [] (fun wx=>Hid (Cy w wi wx wi.heap.size b10 t As cs Am cm { t with name:=cpN X t.name,syms:=t.syms.map (cpS X),mems:=(dn++t.mems.drop q).set q { t.mems[q] with name:=addX X (t.mems[q]).name } } B1 d1 (some ⟨g,0,none⟩) d2))
     case first =>
      as_aux_lemma =>
      cases X with
      | false =>
       have e:(dn++t.mems.drop q).set q { t.mems[q] with name:=addX false (t.mems[q]).name }=dn++t.mems.drop q:=by
        show (dn++t.mems.drop q).set q t.mems[q]=_
        rw[←HEQ.out]
        exact List.set_getElem_self hqd
       go_wp2
       go_meet
       rw[e]
       exact HCO.out
      | true =>
       have hds:¬ 9223372036854775807<(t.mems[q]).name.size+1:=by have:=HMZ.out;omega
       have HSK:Hid (SOk ((t.mems[q]).name++⟨#[120]⟩)):=by
        have:=addX_size true (t.mems[q]).name
        have e:addX true (t.mems[q]).name=(t.mems[q]).name++⟨#[120]⟩:=rfl
        rw[e] at this
        have:=HMZ.out
        show _≤_
        simp at *
        omega
       have g1':(0:Int)≤(q:Int):=by omega
       have g2':(q:Int)<(t.mems.length:Int):=by omega
       go_wp2_with fail
       refine yD (S:=(fun w'=>((w'.cell? ⟨b10,6,none⟩=some (.slice (some ⟨g,0,none⟩) t.mems.length d2)∧w'.cell? ⟨g,q * 13+1,none⟩=some (.string (t.mems[q]).name))∧w'.frozen? ⟨g,q * 13+1,none⟩=false)∧Hid (Cy w wi w' wi.heap.size b10 t As cs Am cm { t with name:=cpN true t.name,syms:=t.syms.map (cpS true),mems:=dn++t.mems.drop q } B1 d1 (some ⟨g,0,none⟩) d2))) 12 (by kernel_rfl) ?_ (fun zH_=>?_)
       ·(try dsimp only);exact ⟨⟨⟨HS6.out,HE1.out⟩,HF.out _⟩,HCO.out.below (zE (Below.refl _ _) 1)⟩
       refine tC 0 _ zH_ ?_
       try simp only[ps]
       refine tB 1 _ zH_ ?_
       try simp only[ps]
       refine tC 2 _ zH_ ?_
       try simp only[ps]
       refine tC 3 _ zH_ ?_
       try simp only[ps]
       refine tB 4 _ zH_ ?_
       try simp only[ps]
       refine tC 5 _ zH_ ?_
       try simp only[ps]
       refine tC 6 _ zH_ ?_
       try simp only[ps]
       refine tC 7 _ zH_ ?_
       try simp only[ps]
       refine tB 8 _ zH_ ?_
       try simp only[ps]
       refine tC 9 _ zH_ ?_
       try simp only[ps]
       refine tC 10 _ zH_ ?_
       try simp only[ps]
       refine tC 11 _ zH_ ?_
       try simp only[ps]
       refine zZ (rs:=[12]) (by kernel_rfl) (by simp) ?_
       refine AllReadyB.last rfl (by kernel_rfl) (fun K hK=>?_) AllReadyB.nil
       (obtain ⟨⟨⟨_,hc0⟩,hf0⟩,hin⟩:=zH_;go_simp)
       refine hK.out _ _ ?_
       clear hK K
       (try clear zH_)
       try simp only[ps]
       refine wpAny_done (by kernel_rfl) ?_ _
       have HN:=zh (hin.out.mem (i:=q) hqd rfl (j:=1) (by omega) (.string ((t.mems[q]).name++⟨#[120]⟩)) (m:={ t.mems[q] with name:=(t.mems[q]).name++⟨#[120]⟩ }) (fun cs h=>MatL.name (m:=t.mems[q]) (by rw[←HEQ.out];exact h) HSK.out))
       clear hc0 hf0 hin
       go_wp2
       go_meet
       exact HN.out
     case rest =>
     have HC4:=zh hcut.out
     obtain ⟨m1,hm1⟩:∃m1:MemD,m1={ t.mems[q] with name:=addX X (t.mems[q]).name }:=⟨_,rfl⟩
     have HM1':=zh hm1
     have hty1:m1.type=(t.mems[q]).type:=by rw[hm1]
     rw[←hm1] at HC4
     clear hcut HCO s6 e1 e2 HE1 HE2 HS6 hl10 hm1
     have hl10:=HC4.out.t10.blt
     have s6:wc.cell? ⟨b10,6,none⟩=some (.slice (some ⟨g,0,none⟩) t.mems.length d2):=by have h:=HC4.out.t10.cell 6;simp only[List.length_set,HLD.out] at h;exact h
     have hqs:q<((dn++t.mems.drop q).set q m1).length:=by rw[List.length_set];exact hqd
     obtain ⟨g',cs'',eg,_,hg1',_,hat,hrg,hfz⟩:=HC4.out.rm.at_ (i:=q) hqs
     obtain rfl:g=g':=by injection eg with eg;injection eg
     have HEQ2:Hid (((dn++t.mems.drop q).set q m1)[q]'hqs=m1):=by show _=_;exact List.getElem_set_self hqs
     have hat':MatL w m1 cs'':=by rw[←HEQ2.out];exact hat
     obtain ⟨E1,h1',E2,h2',E3,h3',rfl,_⟩:=hat'.parts
     have e2:wc.cell? ⟨g,q * 13+2,none⟩=some (.int .i64 m1.type):=hrg 2 _ rfl
     have HF:=zh hfz
     have HE2:=zh e2
     have HS6:=zh s6
     obtain ⟨hy0,hy1⟩:=HTU.out (t.mems[q]).type (by unfold toD usesD;rw[List.map_append,List.map_map];exact List.mem_append_left _ (List.mem_map.2 ⟨t.mems[q],List.getElem_mem hql,rfl⟩))
     rw[←hty1] at hy0 hy1
     obtain ⟨q6,hq6⟩:∃q6:Nat,q6=ux % 64:=⟨_,rfl⟩
     have h6:q6<64:=by omega
     have f1:(ux:Int).tmod 64=(q6:Int):=by rw[hq6];rfl
     have f2:(ux:Int) % 64=(q6:Int):=by rw[hq6];simp
     clear hat hat' hrg hfz hq6 hg1' eg
     have g1':(0:Int)≤(q:Int):=by omega
     have g2':(q:Int)<(t.mems.length:Int):=by omega
     go_wp2_with fail
     refine yD (S:=(fun w'=>((w'.cell? ⟨b10,6,none⟩=some (.slice (some ⟨g,0,none⟩) t.mems.length d2)∧w'.cell? ⟨g,q * 13+2,none⟩=some (.int .i64 m1.type))∧w'.frozen? ⟨g,q * 13+2,none⟩=false)∧Hid (Cy w wi w' wi.heap.size b10 t As cs Am cm { t with name:=cpN X t.name,syms:=t.syms.map (cpS X),mems:=(dn++t.mems.drop q).set q m1 } B1 d1 (some ⟨g,0,none⟩) d2))) 20 (by kernel_rfl) ?_ (fun zH_=>?_)
     ·(try dsimp only);exact ⟨⟨⟨HS6.out,HE2.out⟩,HF.out _⟩,HC4.out.below (zE (Below.refl _ _) 1)⟩
     refine tC 0 _ zH_ ?_
     try simp only[ps]
     refine tB 1 _ zH_ ?_
     try simp only[ps]
     refine tC 2 _ zH_ ?_
     try simp only[ps]
     refine tC 3 _ zH_ ?_
     try simp only[ps]
     refine tB 4 _ zH_ ?_
     try simp only[ps]
     refine tC 5 _ zH_ ?_
     try simp only[ps]
     refine tC 6 _ zH_ ?_
     try simp only[ps]
     refine tC 7 _ zH_ ?_
     try simp only[ps]
     refine tB 8 _ zH_ ?_
     try simp only[ps]
     refine tC 9 _ zH_ ?_
     try simp only[ps]
     refine tC 10 _ zH_ ?_
     try simp only[ps]
     refine tC 11 _ zH_ ?_
     try simp only[ps]
     refine tC 12 _ zH_ ?_
     try simp only[ps]
     refine tC 13 _ zH_ ?_
     try simp only[ps]
     refine tC 14 _ zH_ ?_
     try simp only[ps]
     refine tC 15 _ zH_ ?_
     try simp only[ps]
     refine tC 16 _ zH_ ?_
     try simp only[ps]
     refine tC 17 _ zH_ ?_
     try simp only[ps]
     refine tC 18 _ zH_ ?_
     try simp only[ps]
     refine tC 19 _ zH_ ?_
     try simp only[ps]
     refine zZ (rs:=[20]) (by kernel_rfl) (by simp) ?_
     refine AllReadyB.last rfl (by kernel_rfl) (fun K hK=>?_) AllReadyB.nil
     (obtain ⟨⟨⟨_,hc0⟩,hf0⟩,hin⟩:=zH_;go_simp)
     refine hK.out _ _ ?_
     clear hK K
     (try clear zH_)
     try simp only[ps]
     refine wpAny_done (by kernel_rfl) ?_ _
     obtain ⟨V,hV⟩:∃V,V=IntKind.i64.wrap ((t.mems[q]).type+IntKind.i64.wrap ((s.length:Int) * IntKind.i64.wrap (((bits:Int) / 2 ^ q6).tmod 2))):=⟨_,rfl⟩
     have HSV:Hid (Sh s.length (t.mems[q]).type V):=by
      show Sh _ _ _
      rw[hV]
      exact sh_bits bits q6 h5 (by rw[←hty1];exact hy0) (by rw[←hty1];exact hy1)
     have HN:Hid (Cy w wi ((wc.setCell ⟨g,q * 13+2,none⟩ (.int .i64 V)).drew) wi.heap.size b10 t As cs Am cm { t with name:=cpN X t.name,syms:=t.syms.map (cpS X),mems:=((dn++t.mems.drop q).set q m1).set q { m1 with type:=V } } B1 d1 (some ⟨g,0,none⟩) d2) :=
      zh (hin.out.mem (i:=q) hqs rfl (j:=2) (by omega) (.int .i64 V) (m:={ m1 with type:=V }) (fun cs h=>MatL.type (m:=m1) (by rw[←HEQ2.out];exact h) V))
     rw[←hV]
     clear hc0 hf0 hin hV
     go_wp2
     go_roundw
     case rel =>
      refine ⟨q+1,ux+1,dn++[{ m1 with type:=V }],by omega,by omega,by go_num,by go_num,?_,?_⟩
      ·have e:((dn++t.mems.drop q).set q m1).set q { m1 with type:=V }=dn++[{ m1 with type:=V }]++t.mems.drop (q+1):=by
        rw[List.set_set,List.drop_eq_getElem_cons hql,List.set_append_right _ _ (by rw[HDL.out];exact Nat.le_refl _),HDL.out,Nat.sub_self,List.set_cons_zero,List.append_assoc];rfl
       have:=HN.out
       rw[e] at this
       exact this
      ·rw[List.take_succ_eq_append_getElem hql]
       exact MsSh.snoc HMS.out ⟨V,HSV.out,by rw[HM1'.out];rfl⟩
     case measure=>simp[intOf];omega
    ·obtain rfl:q=t.mems.length:=by omega
     have HC5:Hid (Cy w wi wo wi.heap.size b10 t As cs Am cm { t with name:=cpN X t.name,syms:=t.syms.map (cpS X),mems:=dn } B1 d1 B2 d2):=by
      have:=HCO.out
      rw[List.drop_eq_nil_of_le (Nat.le_refl _),List.append_nil] at this
      exact this
     have HMA:Hid (MsSh s.length X t.mems dn):=by
      have:=HMS.out
      rw[List.take_of_length_le (Nat.le_refl _)] at this
      exact this
     clear HCO HMS
     have HTU8:Hid (t.kind=8→0≤t.key∧t.key<(s.length:Int)):=fun e=>HTU.out _ (by unfold toD usesD;rw[if_pos e];simp)
     have HTUE:Hid (t.kind=8∨t.kind=7∨t.kind=9→0≤t.elem∧t.elem<(s.length:Int)):=fun e=>HTU.out _ (by
      unfold toD usesD
      by_cases e8:t.kind=8
      ·rw[if_pos e8];simp
      ·rw[if_neg e8,if_pos (e.resolve_left e8)];simp)
     have k0:wo.cell? ⟨wi.heap.size,0,none⟩=some (.int .i64 t.kind):=HC5.out.t9.cell 0
     have hb9':=HC5.out.t9.blt
     obtain ⟨K8,hk8⟩:∃K8,(t.kind==8)=K8:=⟨_,rfl⟩
     have HK8:=zh hk8
     go_upto_if 115 with fail
     clear k0 hb9' s6 hl10 hk8
     go_cut [7] (fun a wx=>∃ (uy:Nat) (ky:Int),a = .int .i64 (uy:Int)∧uy≤ux+1∧Hid (Cy w wi wx wi.heap.size b10 t As cs Am cm { t with name:=cpN X t.name,syms:=t.syms.map (cpS X),mems:=dn,key:=ky } B1 d1 B2 d2∧(if t.kind=8 then Sh s.length t.key ky else ky=t.key)))
     case first =>
      as_aux_lemma =>
      cases K8 with
      | false =>
       have hne:¬ (t.kind=8):=by have:=HK8.out;simpa using this
       have HNK:=zh hne
       clear hne
       go_wp2
       go_meet
       exact ⟨ux,t.key,rfl,by omega,HC5.out,by rw[if_neg HNK.out]⟩
      | true =>
       have heq:t.kind=8:=by have:=HK8.out;simpa using this
       have HUR:=zh (HTU8.out heq)
       have HIF:Hid (∀V,Sh s.length t.key V→if t.kind=8 then Sh s.length t.key V else V=t.key):=fun V h=>by rw[if_pos heq];exact h
       have hl10:=HC5.out.t10.blt
       clear heq
       obtain ⟨q6,hq6⟩:∃q6:Nat,q6=ux % 64:=⟨_,rfl⟩
       have h6:q6<64:=by omega
       have f1:(ux:Int).tmod 64=(q6:Int):=by rw[hq6];rfl
       have f2:(ux:Int) % 64=(q6:Int):=by rw[hq6];simp
       have HC1:Hid (_∧_):=zh (And.intro (HC5.out.t10.cell 7) (frozen_of_row _ _ 7 _ _ HC5.out.t10))
       clear hq6
       go_wp2_with fail
       refine yD (S:=(fun w'=>(w'.cell? ⟨b10,7,none⟩=some (.int .i64 t.key)∧w'.frozen? ⟨b10,7,none⟩=false)∧Hid (Cy w wi w' wi.heap.size b10 t As cs Am cm { t with name:=cpN X t.name,syms:=t.syms.map (cpS X),mems:=dn } B1 d1 B2 d2))) 12 (by kernel_rfl) ?_ (fun zH_=>?_)
       ·(try dsimp only);exact ⟨HC1.out,HC5.out.below (zE (Below.refl _ _) 1)⟩
       refine tC 0 _ zH_ ?_
       try simp only[ps]
       refine tB 1 _ zH_ ?_
       try simp only[ps]
       refine tC 2 _ zH_ ?_
       try simp only[ps]
       refine tC 3 _ zH_ ?_
       try simp only[ps]
       refine tC 4 _ zH_ ?_
       try simp only[ps]
       refine tC 5 _ zH_ ?_
       try simp only[ps]
       refine tC 6 _ zH_ ?_
       try simp only[ps]
       refine tC 7 _ zH_ ?_
       try simp only[ps]
       refine tC 8 _ zH_ ?_
       try simp only[ps]
       refine tC 9 _ zH_ ?_
       try simp only[ps]
       refine tC 10 _ zH_ ?_
       try simp only[ps]
       refine tC 11 _ zH_ ?_
       try simp only[ps]
       refine zZ (rs:=[12]) (by kernel_rfl) (by simp) ?_
       refine AllReadyB.last rfl (by kernel_rfl) (fun K hK=>?_) AllReadyB.nil
       (obtain ⟨⟨hc0,hf0⟩,hin⟩:=zH_;go_simp)
       refine hK.out _ _ ?_
       clear hK K
       (try clear zH_)
       try simp only[ps]
       refine wpAny_done (by kernel_rfl) ?_ _
       obtain ⟨V,hV⟩:∃V,V=IntKind.i64.wrap (t.key+IntKind.i64.wrap ((s.length:Int) * IntKind.i64.wrap (((bits:Int) / 2 ^ q6).tmod 2))):=⟨_,rfl⟩
       have HSV:Hid (Sh s.length t.key V):=by
        show Sh _ _ _
        rw[hV]
        exact sh_bits bits q6 h5 HUR.out.1 HUR.out.2
       have HN:=zh (hin.out.key V)
       rw[←hV]
       clear hc0 hf0 hin hV
       go_wp2
       go_meet
       exact ⟨ux+1,V,by go_num,by omega,HN.out,HIF.out _ HSV.out⟩
     case rest =>
     obtain ⟨uy,ky,rfl,huy,hc6⟩:=hcut
     have HC6:=zh hc6.out.1
     have HKY:=zh hc6.out.2
     clear hc6 HC5
     have k0:wc.cell? ⟨wi.heap.size,0,none⟩=some (.int .i64 t.kind):=HC6.out.t9.cell 0
     have hb9':=HC6.out.t9.blt
     have hk8:=HK8.out
     obtain ⟨K7,hk7⟩:∃K7,(t.kind==7)=K7:=⟨_,rfl⟩
     obtain ⟨K9,hk9⟩:∃K9,(t.kind==9)=K9:=⟨_,rfl⟩
     obtain ⟨KE,hKE⟩:∃KE,(K8||(K7||K9))=KE:=⟨_,rfl⟩
     have HKE:Hid (KE=true↔(t.kind=8∨t.kind=7∨t.kind=9)):=by
      show _↔_
      rw[←hKE,←hk8,←hk7,←hk9]
      simp
     go_upto_region 28 with fail
     go_cut [142] (fun v wx=>v = .bool KE∧Hid (Cy w wi wx wi.heap.size b10 t As cs Am cm { t with name:=cpN X t.name,syms:=t.syms.map (cpS X),mems:=dn,key:=ky } B1 d1 B2 d2))
     case first =>
      as_aux_lemma =>
      cases K8 <;> cases K7 <;> cases K9 <;> (subst hKE;go_wp2;go_meet;exact ⟨rfl,HC6.out⟩)
     case rest =>
     obtain ⟨rfl,hc7⟩:=hcut
     have HC7:=zh hc7.out
     clear hc7 HC6 k0 hb9' hk8 hk7 hk9 hKE
     go_upto_if 142 with fail
     go_cut [7] (fun a wx=>∃ (uz:Nat) (el:Int),a = .int .i64 (uz:Int)∧uz≤ux+2∧Hid (Cy w wi wx wi.heap.size b10 t As cs Am cm (cpT X t dn ky el) B1 d1 B2 d2∧(if t.kind=8∨t.kind=7∨t.kind=9 then Sh s.length t.elem el else el=t.elem)))
     case first =>
      as_aux_lemma =>
      cases KE with
      | false =>
       have HNK:Hid (¬ (t.kind=8∨t.kind=7∨t.kind=9)):=fun e=>by have:=HKE.out.2 e;cases this
       go_wp2
       go_meet
       exact ⟨uy,t.elem,rfl,by omega,HC7.out,by rw[if_neg HNK.out]⟩
      | true =>
       have HUR:=zh (HTUE.out (HKE.out.1 rfl))
       have HIF:Hid (∀V,Sh s.length t.elem V→if t.kind=8∨t.kind=7∨t.kind=9 then Sh s.length t.elem V else V=t.elem):=fun V h=>by rw[if_pos (HKE.out.1 rfl)];exact h
       have hl10:=HC7.out.t10.blt
       obtain ⟨q6,hq6⟩:∃q6:Nat,q6=uy % 64:=⟨_,rfl⟩
       have h6:q6<64:=by omega
       have f1:(uy:Int).tmod 64=(q6:Int):=by rw[hq6];rfl
       have f2:(uy:Int) % 64=(q6:Int):=by rw[hq6];simp
       have HC1:Hid (_∧_):=zh (And.intro (HC7.out.t10.cell 8) (frozen_of_row _ _ 8 _ _ HC7.out.t10))
       clear hq6
       go_wp2_with fail
       refine yD (S:=(fun w'=>(w'.cell? ⟨b10,8,none⟩=some (.int .i64 t.elem)∧w'.frozen? ⟨b10,8,none⟩=false)∧Hid (Cy w wi w' wi.heap.size b10 t As cs Am cm { t with name:=cpN X t.name,syms:=t.syms.map (cpS X),mems:=dn,key:=ky } B1 d1 B2 d2))) 12 (by kernel_rfl) ?_ (fun zH_=>?_)
       ·(try dsimp only);exact ⟨HC1.out,HC7.out.below (zE (Below.refl _ _) 1)⟩
       refine tC 0 _ zH_ ?_
       try simp only[ps]
       refine tB 1 _ zH_ ?_
       try simp only[ps]
       refine tC 2 _ zH_ ?_
       try simp only[ps]
       refine tC 3 _ zH_ ?_
       try simp only[ps]
       refine tC 4 _ zH_ ?_
       try simp only[ps]
       refine tC 5 _ zH_ ?_
       try simp only[ps]
       refine tC 6 _ zH_ ?_
       try simp only[ps]
       refine tC 7 _ zH_ ?_
       try simp only[ps]
       refine tC 8 _ zH_ ?_
       try simp only[ps]
       refine tC 9 _ zH_ ?_
       try simp only[ps]
       refine tC 10 _ zH_ ?_
       try simp only[ps]
       refine tC 11 _ zH_ ?_
       try simp only[ps]
       refine zZ (rs:=[12]) (by kernel_rfl) (by simp) ?_
       refine AllReadyB.last rfl (by kernel_rfl) (fun K hK=>?_) AllReadyB.nil
       (obtain ⟨⟨hc0,hf0⟩,hin⟩:=zH_;go_simp)
       refine hK.out _ _ ?_
       clear hK K
       (try clear zH_)
       try simp only[ps]
       refine wpAny_done (by kernel_rfl) ?_ _
       obtain ⟨V,hV⟩:∃V,V=IntKind.i64.wrap (t.elem+IntKind.i64.wrap ((s.length:Int) * IntKind.i64.wrap (((bits:Int) / 2 ^ q6).tmod 2))):=⟨_,rfl⟩
       have HSV:Hid (Sh s.length t.elem V):=by
        show Sh _ _ _
        rw[hV]
        exact sh_bits bits q6 h5 HUR.out.1 HUR.out.2
       have HN:=zh (hin.out.elem V)
       rw[←hV]
       clear hc0 hf0 hin hV
       go_wp2
       go_meet
       exact ⟨uy+1,V,by go_num,by omega,HN.out,HIF.out _ HSV.out⟩
     case rest =>
     obtain ⟨uz,el,rfl,huz,hc8⟩:=hcut
     have HC8:=zh hc8.out.1
     have HEL:=zh hc8.out.2
     clear hc8 HC7
     have HSX:=zh (HST.out.below HC8.out.bel)
     have HCI:Hid (CpIs s.length X t dn ky el):=⟨HMA.out,HKY.out,HEL.out⟩
     have hsz:(cpT X t dn ky el).name.size≤2:=by
      show (cpN X t.name).size≤2
      have h1:=HTF.out.2.1
      have h2:=addX_size X t.name
      unfold cpN
      split
      ·omega
      ·rw[h2];split <;> omega
     have hsy:(cpT X t dn ky el).syms.length=t.syms.length:=by show (t.syms.map (cpS X)).length=_;rw[List.length_map]
     have hme:(cpT X t dn ky el).mems.length=t.mems.length:=HMA.out.len
     have HOF:=zh (HC8.out.out (by unfold SOk;omega) (by rw[hsy];exact HTR.out.syms.1) (by rw[hme];exact HTR.out.mems.1) HSX.out.bel)
     obtain ⟨u,hu⟩:∃u,u=cpT X t dn ky el:=⟨_,rfl⟩
     have HU:=zh hu
     rw[←hu] at HC8 HOF
     clear hu hsz hsy hme HMA HKY HEL
     have v0:=HC8.out.t10.cell 0
     have v1:=HC8.out.t10.cell 1
     have v2:=HC8.out.t10.cell 2
     have v3:=HC8.out.t10.cell 3
     have v4:=HC8.out.t10.cell 4
     have v5:=HC8.out.t10.cell 5
     have v6:=HC8.out.t10.cell 6
     have v7:=HC8.out.t10.cell 7
     have v8:=HC8.out.t10.cell 8
     have v9:=HC8.out.t10.cell 9
     have hl10:=HC8.out.t10.blt
     have s0:wc.cell? ⟨w.heap.size+1+1,0,none⟩=some v:=by rw[cell_of_row _ _ _ _ _ _ HSX.out.ob];rfl
     have hls:=zF s0
     simp only at hls
     obtain ⟨Av,cv,rfl,_,_,_⟩:=OwnL.reads HSX.out.out.own
     have HLN:Hid (L.length≤10):=by have:=HLI.out;show _≤_;omega
     have HX:Hid (OutC w.heap.size (w.heap.size+1+1) (wc.alloc (.cells (⟨u,B1,d1,B2,d2⟩:TyA).cells.toArray 70)) (.slice Av L.length cv) L):=HSX.out.out.below (zD _ _)
     have HRN:=zh (zL wc (⟨u,B1,d1,B2,d2⟩:TyA).cells 70)
     have HZ7:Hid (w.heap.size+1+1+1≤(wc.alloc (.cells (⟨u,B1,d1,B2,d2⟩:TyA).cells.toArray 70)).heap.size):=by show _≤_;simp;omega
     have HNX:=zh (fun v9 w9 ho hg hv=>CpS.next HSX.out (x:=⟨u,B1,d1,B2,d2⟩) (HOF.out.mono fun q _ hq=>by
      have h1:=(zg.1 HST.out.ob).1
      have h2:=HC8.out.b9l
      have h3:=HC8.out.b10l
      rcases hq with h|h
      ·exact ⟨h.1,by omega⟩
      ·have:=World.ownsRow.lt HST.out.out.own q h
       exact ⟨by omega,by omega⟩) (by
      rw[HLI.out,←HXX.out,HTA.out]
      exact ⟨dn,ky,el,HCI.out,HU.out⟩) (v9:=v9) (w9:=w9) ho hg hv)
     go_wp2_with (at_builtin;refine wpList_append_o elem_ty _ rfl (.tmp 158) (.tmp 160) rfl (w.heap.size+1+1+1) _ _ _ rfl HX.out.own wc.heap.size 0 1 1 (⟨u,B1,d1,B2,d2⟩:TyA).cells rfl rfl HRN.out (tyA_one _) (by have:=HLN.out;omega) (by have:=HLN.out;omega) HZ7.out ?_;intro v9 w9 ho9 hg9 hv9;obtain ⟨A9,c9,rfl,_⟩:=OwnL.reads (OwnL.snoc (enc:=TyA.cells) (x:=(⟨u,B1,d1,B2,d2⟩:TyA)) ho9);have HN9:=zh (HNX.out _ w9 ho9 hg9 hv9);have hf9:=HN9.out.1;have hc9:=HN9.out.2.1;have hl9:=HN9.out.2.2.1;clear ho9 hg9 hv9)
     go_roundw
     case rel =>
      refine ⟨uz,i+1,_,L++[⟨u,B1,d1,B2,d2⟩],by omega,?_,rfl,by go_num,(by have h:=HN9.out.2.2.2;simp only[List.length_append,List.length_cons,List.length_nil,Nat.zero_add] at h;exact h),(by rw[List.length_append,HLI.out];rfl)⟩
      have:=HM16.out
      omega
     case measure=>simp[intOf];omega
  ·obtain rfl:i=2 * s.length:=by omega
   have HCO:Hid (CopyIs s (L.map (·.t))):=by
    refine ⟨by rw[List.length_map,HLI.out],fun j hj=>?_⟩
    rw[List.getElem_map]
    exact HST.out.cp j (by simpa using hj)
   have s0:wi.cell? ⟨w.heap.size+1+1,0,none⟩=some v:=by rw[cell_of_row _ _ _ _ _ _ HST.out.ob];rfl
   have r0:wi.cell? ⟨w.heap.size+1,0,none⟩=some (.slice none 0 0):=by rw[cell_of_row _ _ _ _ _ _ HST.out.res];rfl
   have f0:=frozen_of_row _ _ 0 _ _ HST.out.res
   have hls:=zF s0
   simp only at hls
   obtain ⟨Av,cv,rfl,_,_,_⟩:=OwnL.reads HST.out.out.own
   have HFIN:Hid (∀x1,TysR (wi.setCells (w.heap.size+1) 0 [x1]) Av (L.map (·.t))):=fun x1=>by
    rw[World.setCells,World.setCells]
    have h1:=HST.out.out.set (w':=wi.setCell ⟨w.heap.size+1,0,none⟩ x1) (by simp) (Nat.le_succ _) (Nat.le_succ _) (fun q hq _=>heap_setCell_other _ _ _ _ (by simpa using hq))
    obtain ⟨A',c',e,hr⟩:=h1.rows (by rw[HLI.out];omega)
    injection e with e1 _ _
    rw[e1];exact hr
   have HBF:Hid (∀x1,Below w.heap.size w (wi.setCells (w.heap.size+1) 0 [x1])):=fun x1=>by
    rw[World.setCells,World.setCells]
    exact HST.out.bel.setCell (p:=⟨w.heap.size+1,0,none⟩) (by simp) _
   have HC1:Hid (∀x1,(wi.setCells (w.heap.size+1) 0 [x1]).cell? ⟨w.heap.size+1,0,none⟩=some x1):=fun x1=>by
    rw[World.setCells,World.setCells]
    rw[cell_of_row _ _ _ _ _ _ (heap_setCell_same _ _ 0 _ _ x1 HST.out.res)];rfl
   have HTH:Hid (wi.there (w.heap.size+1) 0 1):=fun j hj=>by
    obtain rfl:j=0:=by omega
    exact ⟨by rw[r0];rfl,f0⟩
   clear r0 f0
   go_wp2_with (refine wpList_store_mid rfl 30 (.tmp 4) (.tmp 163) rfl (w.heap.size+1) 0 #[.slice Av L.length cv] (by rfl) (by rfl) ?_ ?_ ?_ ?_;(exact HTH.out);(exact sch_info);(simp[Value.oneCell']))
   have hc1:=HC1.out (.slice Av L.length cv)
   exact bodyPost_ret (v := .agg #[.slice Av L.length cv]) (by simp[results,Tryz.results18,go_sem,hc1]) rfl (cop_end HCO.out (HFIN.out (.slice Av L.length cv)) (HBF.out (.slice Av L.length cv)))
end Go.Proofs.YtkhpajneinmmiaaGreatDoor


