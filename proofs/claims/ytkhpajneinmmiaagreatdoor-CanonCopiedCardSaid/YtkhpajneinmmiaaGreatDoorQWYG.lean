/-
  The states of sheaveref18.Distinguish.
-/
import Derived.Test.YtkhpajneinmmiaaGreatDoorQPL
import Derived.Test.YtkhpajneinmmiaaGreatDoorQCOA
import Derived.Test.YtkhpajneinmmiaaGreatDoorQEXG
import Derived.Test.YtkhpajneinmmiaaGreatDoorQDR4
import Derived.Test.YtkhpajneinmmiaaGreatDoorQRA
import Derived.Test.YtkhpajneinmmiaaGreatDoorQRCA
namespace Go.Proofs.YtkhpajneinmmiaaGreatDoor
open Go.RowKit
set_option maxHeartbeats 16000000
set_option maxRecDepth 100000
abbrev Way:=List Int×(Int×Int)
structure WyA where
 w:Way
 A:Option Addr
 c:Nat
def WyA.cells (x:WyA):List Value:=[.slice x.A x.w.1.length x.c,.int .i64 x.w.2.1,.int .i64 x.w.2.2]
theorem WyA.cells_len (x:WyA):x.cells.length=3:=rfl
theorem wyA_one (x:WyA):∀u∈x.cells,u.oneCell'=true:=fun u hu=>by
 unfold WyA.cells at hu
 simp only[List.mem_cons,List.mem_nil_iff,or_false] at hu
 rcases hu with rfl|rfl|rfl <;> rfl
theorem way_info:(Tryz.prog.info? 111).map (·.size)=some 3:=by kernel_rfl
theorem elem_wyA:Elem 112 111 3 40:=⟨Tryz.underlying112,⟨.agg #[.slice none 0 0,.int .i64 0,.int .i64 0],by kernel_rfl,rfl⟩,by omega⟩
structure WysSt (base:Nat) (wr:World) (v:Value) (L:List WyA):Prop where
 own:OwnL 111 3 WyA.cells wr base v L
 off:∀x∈L,Off (fun q=>v.ownBlock=some q) wr fun u=>IntsR u x.A x.w.1
section
variable {base:Nat} {wr w':World} {v v':Value} {L:List WyA} {x:WyA}
theorem WysSt.nil (base:Nat) (wr:World):WysSt base wr (.slice none 0 0) []:=⟨OwnL.nil _ _,fun x hx=>by cases hx⟩
theorem WysSt.below (h:WysSt base wr v L) (hb:Below wr.heap.size wr w'):WysSt base w' v L:=⟨h.own.below hb,fun x hx=>(h.off x hx).low hb⟩
theorem WysSt.at_ (h:WysSt base wr v L) {i:Nat} (hi:i<L.length):∃g c,v = .slice (some ⟨g,0,none⟩) L.length c∧base≤g∧g<wr.heap.size∧IntsR wr L[i].A L[i].w.1 ∧
  wr.cell? ⟨g,i * 3,none⟩=some (.slice L[i].A L[i].w.1.length L[i].c)∧wr.cell? ⟨g,i * 3+1,none⟩=some (.int .i64 L[i].w.2.1)∧wr.cell? ⟨g,i * 3+2,none⟩=some (.int .i64 L[i].w.2.2)∧∀j,wr.frozen? ⟨g,j,none⟩=false:=by
 obtain ⟨A,c,rfl,_,_,hr⟩:=h.own.reads
 obtain ⟨g,rfl,hg,hrg⟩:=hr (fun e=>by rw[e] at hi;simp at hi)
 have hx:=range_flat WyA.cells_len hrg (zl hi)
 rw[Nat.zero_add] at hx
 exact ⟨g,c,rfl,hg,(World.ownsRow.lt h.own g rfl).2,(h.off _ (List.getElem_mem hi)).out,hx 0 _ rfl,hx 1 _ rfl,hx 2 _ rfl,fun j=>World.ownsRow.frozenAt h.own j⟩
theorem WysSt.set {g c:Nat} (h:WysSt base wr (.slice (some ⟨g,0,none⟩) L.length c) L) {i:Nat} (hi:i<L.length) (hx:Off (fun q=>(Value.slice (some ⟨g,0,none⟩) L.length c).ownBlock=some q) wr fun u=>IntsR u x.A x.w.1):WysSt base (wr.setCells g (i * 3) x.cells) (.slice (some ⟨g,0,none⟩) L.length c) (L.set i x):=by
 have hstep:∀y:WyA,Off (fun q=>(Value.slice (some ⟨g,0,none⟩) L.length c).ownBlock=some q) wr (fun u=>IntsR u y.A y.w.1)→Off (fun q=>(Value.slice (some ⟨g,0,none⟩) L.length c).ownBlock=some q) (wr.setCells g (i * 3) x.cells) fun u=>IntsR u y.A y.w.1:=fun y hy =>
  hy.step (by rw[size_setCells];exact Nat.le_refl _) fun q hq _=>zI (fun e=>hq (by rw[e];rfl)) _ _ _
 refine ⟨?_,fun y hy=>?_⟩
 ·have h1:=h.own
  unfold OwnL at h1 ⊢
  have h2:=ownsRow_setCells x.cells _ (i * 3) wr h1
  have e:setL (L.flatMap WyA.cells) (i * 3) x.cells=(L.set i x).flatMap WyA.cells:=by
   rw[List.flatMap_def,List.flatMap_def,List.map_set]
   exact setL_flatten (by omega) _ i _ (fun cs hc=>by obtain ⟨y,_,rfl⟩:=List.mem_map.1 hc;rfl) rfl (by simpa using hi)
  rw[e] at h2
  rw[List.length_set]
  exact h2
 ·rcases List.mem_or_eq_of_mem_set hy with e|e
  ·exact hstep y (h.off y e)
  ·subst e;exact hstep y hx
theorem WysSt.snoc (h:WysSt base wr v L) (hx:Off (fun q=>v.ownBlock=some q) wr fun u=>IntsR u x.A x.w.1)
  (ho:w'.ownsRow base 111 3 v' (L.length+1) (L.flatMap WyA.cells++x.cells)) (hg:wr.grownBy w' v.ownBlock) (hv:v'.ownBlock=v.ownBlock∨v'.ownBlock=some wr.heap.size):WysSt base w' v' (L++[x]):=by
 refine ⟨OwnL.snoc ho,fun y hy=>?_⟩
 have hy':Off (fun q=>v.ownBlock=some q) wr fun u=>IntsR u y.A y.w.1:=by
  rcases List.mem_append.1 hy with k|k
  ·exact h.off y k
  ·obtain rfl:y=x:=by simpa using k
   exact hx
 intro u hu
 refine hy' u fun q hq hl=>?_
 have hqw:w'.heap[q]? = wr.heap[q]? := zN hg hl fun k hk e=>hq (by rw[hk,e])
 rw[←hqw]
 refine hu q (fun h2=>?_) (Nat.lt_of_lt_of_le hl hg.size)
 rcases hv with e|e
 ·exact hq (e▸h2)
 ·rw[e] at h2
  have:=Option.some.inj h2
  omega
end
def PutPost (base:Nat) (v:Value) (L:List WyA) (x:WyA) (w:World) (e:Ending) (w':World):Prop:=∃v' L',e = .returned v'∧L'.map (·.w)=putD (L.map (·.w)) x.w∧WysSt base w' v' L'∧Below base w w' ∧
 (∀q,q<w.heap.size→v.ownBlock≠some q→w'.heap[q]? = w.heap[q]?)∧(v'.ownBlock=v.ownBlock∨∃g,v'.ownBlock=some g∧w.heap.size≤g)
theorem put_no {L:List WyA} {x:WyA} (hn:∀j (hj:j<L.length),L[j].w.2≠x.w.2):(L++[x]).map (·.w)=putD (L.map (·.w)) x.w:=by
 rw[putD_no _ _ (fun j hj=>by rw[List.getElem_map];exact hn j (by simpa using hj)),List.map_append];rfl
theorem put_at {L:List WyA} {x:WyA} {i:Nat} (hi:i<L.length) (hn:∀j (hj:j<i),(L[j]'(by omega)).w.2≠x.w.2) (he:L[i].w.2=x.w.2):(if ltL x.w.1 L[i].w.1 then L.set i x else L).map (·.w)=putD (L.map (·.w)) x.w:=by
 rw[putD_at _ _ i (by simpa using hi) (fun j hj=>by rw[List.getElem_map];exact hn j hj) (by rw[List.getElem_map];exact he),List.getElem_map]
 split
 ·rw[List.map_set]
 ·rfl
theorem put_any (base:Nat) (L:List WyA) (x:WyA) (v:Value) (w:World) (hs:WysSt base w v L) (hx:Off (fun q=>v.ownBlock=some q) w fun u=>IntsR u x.A x.w.1) (hn:L.length≤5000) (hb:base≤w.heap.size) :
  Calls Tryz.prog 60 #[v,.agg #[.slice x.A x.w.1.length x.c,.int .i64 x.w.2.1,.int .i64 x.w.2.2]] w (PutPost base v L x w):=by
 obtain ⟨A,c,rfl,hc1,hc2,_⟩:=hs.own.reads
 obtain ⟨⟨st,xa,xb⟩,Ax,cx⟩:=x
 have HB0:=zh (zD w (.cells #[.slice Ax st.length cx,.int .i64 xa,.int .i64 xb] 111))
 have HX0:=zh (heap_alloc_new w (.cells #[.slice Ax st.length cx,.int .i64 xa,.int .i64 xb] 111))
 have HS0:=zh (hs.below HB0.out)
 have HF0:=zh (hx.low HB0.out)
 have hz0:w.heap.size<(w.alloc (.cells #[.slice Ax st.length cx,.int .i64 xa,.int .i64 xb] 111)).heap.size:=by simp
 have hsl:st.length≤9223372036854775807:=by have:=hx.out.1.lt (by omega);simp only at this;omega
 have HBB:=zh hb
 clear hs hx
 go_enter Tryz.func60,Tryz.ntmps60
 go_wp2
 generalize w.alloc (.cells #[.slice Ax st.length cx,.int .i64 xa,.int .i64 xb] 111)=W0 at *
 go_loopw [5] (fun s wr=>∃i:Nat,i≤L.length∧s = .int .i64 (i:Int)∧Hid ((∀j (hj:j<i) (h:j<L.length),L[j].w.2≠(xa,xb))∧Below W0.heap.size W0 wr)) (fun s _=>L.length - (intOf s).toNat)
 case atStart=>exact ⟨0,by omega,rfl,fun j hj=>absurd hj (by omega),Below.refl _ _⟩
 case round =>
  obtain ⟨i,hi,rfl,hh⟩:=hrel
  obtain ⟨wi,rfl⟩:∃wi:World,wi=wr:=⟨_,rfl⟩
  have HNO:=zh hh.out.1
  have HBW:=zh hh.out.2
  have HSI:=zh (HS0.out.below HBW.out)
  have HFI:=zh (HF0.out.low HBW.out)
  have HXI:=zh ((HBW.out.block _ hz0).trans HX0.out)
  clear hh
  have b0:wi.cell? ⟨w.heap.size,0,none⟩=some (.slice Ax st.length cx):=by rw[cell_of_row _ _ _ _ _ _ HXI.out];rfl
  have b1:wi.cell? ⟨w.heap.size,1,none⟩=some (.int .i64 xa):=by rw[cell_of_row _ _ _ _ _ _ HXI.out];rfl
  have b2:wi.cell? ⟨w.heap.size,2,none⟩=some (.int .i64 xb):=by rw[cell_of_row _ _ _ _ _ _ HXI.out];rfl
  by_cases hlt:i<L.length
  ·obtain ⟨g,c',e,hg0,hg1,hir,e0,e1,e2,ef⟩:=HSI.out.at_ hlt
   injection e with eA _ eC
   subst eA
   subst eC
   have HIR:=zh hir
   have HEF:=zh ef
   have h1:(0:Int)≤(i:Int):=by omega
   have h2:(i:Int)<(L.length:Int):=by omega
   clear hir ef
   have hz3:=zF b0
   simp only at hz3
   have hiw:i≤5000:=by omega
   by_cases ha:(L[i]).w.2.1=xa
   case neg =>
    have q1:((L[i]).w.2.1==xa)=false:=by simp[ha]
    have HNE:Hid ((L[i]).w.2≠(xa,xb)):=fun e=>ha (congrArg Prod.fst e)
    clear ha
    go_wp2
    go_quiet (fail)
    go_wp2
    go_roundw
    case rel =>
     refine ⟨i+1,by omega,by go_num,(fun j hj hl=>?_),zE HBW.out _⟩
     by_cases e:j=i
     ·subst e;exact HNE.out
     ·exact HNO.out j (by omega) hl
    case measure=>simp[intOf];omega
   have q1:((L[i]).w.2.1==xa)=true:=by simp[ha]
   by_cases hb2:(L[i]).w.2.2=xb
   case neg =>
    have q2:((L[i]).w.2.2==xb)=false:=by simp[hb2]
    have HNE:Hid ((L[i]).w.2≠(xa,xb)):=fun e=>hb2 (congrArg Prod.snd e)
    clear ha hb2
    go_wp2
    go_quiet (fail)
    go_wp2
    go_roundw
    case rel =>
     refine ⟨i+1,by omega,by go_num,(fun j hj hl=>?_),zE HBW.out _⟩
     by_cases e:j=i
     ·subst e;exact HNE.out
     ·exact HNO.out j (by omega) hl
    case measure=>simp[intOf];omega
   have q2:((L[i]).w.2.2==xb)=true:=by simp[hb2]
   have HEQ:Hid ((L[i]).w.2=(xa,xb)):=Prod.ext ha hb2
   clear ha hb2
   go_wp2
   go_quiet (fail)
   have HBJ:Hid (Below W0.heap.size W0 (wi.drewN nq)):=zh (zE HBW.out nq)
   have HD:Hid ((wi.drewN nq).cell? ⟨w.heap.size,0,none⟩=some (.slice Ax st.length cx)∧(wi.drewN nq).cell? ⟨g,i * 3,none⟩=some (.slice (L[i]).A (L[i]).w.1.length (L[i]).c)):=zh ⟨b0,e0⟩
   have HXJ:Hid ((wi.drewN nq).heap[w.heap.size]? = some (.cells #[.slice Ax st.length cx,.int .i64 xa,.int .i64 xb] 111 (0,0))):=HXI
   have HG1:Hid (g<(wi.drewN nq).heap.size):=hg1
   clear b0 b1 b2 e0 e1 e2 HEF HXI hg1
   generalize wi.drewN nq=wj at *
   have HSJ:=zh (HS0.out.below HBJ.out)
   have HFJ:=zh (HF0.out.low HBJ.out)
   have d0:=HD.out.1
   have d1:=HD.out.2
   go_wp2_with fail
   clear d0 d1
   refine wp_region_held_drew (S:=(fun w'=>(w'.cell? ⟨w.heap.size,0,none⟩=some (.slice Ax st.length cx)∧w'.cell? ⟨g,i * 3,none⟩=some (.slice (L[i]).A (L[i]).w.1.length (L[i]).c))∧Hid (Below wj.heap.size wj w'))) (by kernel_rfl) ?_ (fun zH_=>?_)
   ·(try dsimp only);exact ⟨HD.out,zE (Below.refl _ _) 1⟩
   refine tL 0 _ zH_ ?_
   try simp only[ps]
   refine tL 1 _ zH_ ?_
   try simp only[ps]
   refine tL 2 _ zH_ ?_
   try simp only[ps]
   refine tL 3 _ zH_ ?_
   try simp only[ps]
   refine tL 4 _ zH_ ?_
   try simp only[ps]
   refine tL 5 _ zH_ ?_
   try simp only[ps]
   refine tL 6 _ zH_ ?_
   try simp only[ps]
   refine tR 7 (fun K hK=>?_)
   go_simp
   (refine (rBefore_any st (L[i]).w.1 Ax (L[i]).A cx (L[i]).c _ (HFJ.out.out.below zH_.2.out) (((HSJ.out.off _ (List.getElem_mem hlt)).out).below zH_.2.out)).mono ?_;rintro e w7 ⟨rfl,hb7⟩)
   refine hK.out _ _ ?_ (fun zH_=>?_)
   ·(try dsimp only);exact ⟨⟨zB hb7 zH_.1.1,zB hb7 zH_.1.2⟩,zA zH_.2.out hb7⟩
   clear hK K
   try simp only[ps]
   refine wpAnyH_done (by kernel_rfl) ?_ _
   have HB7:=zh zH_.2.out
   have HXX:=zh ((HB7.out.block _ (zg.1 HXJ.out).1).trans HXJ.out)
   have HS7:=zh (HSJ.out.below HB7.out)
   have HF7:=zh (HFJ.out.low HB7.out)
   have HBF:Hid (Below w.heap.size w w7):=zA HB0.out (zA HBJ.out HB7.out)
   have HBE:Hid (Below base w w7):=HBF.out.mono HBB.out
   clear zH_
   cases hl:ltL st (L[i]).w.1 with
   | false =>
    have HPA:=put_at (x:=⟨(st,(xa,xb)),Ax,cx⟩) hlt (fun j hj=>HNO.out j hj (by omega)) HEQ.out
    rw[show ltL (⟨(st,(xa,xb)),Ax,cx⟩:WyA).w.1 (L[i]).w.1=false from hl,if_neg (by simp)] at HPA
    have HPA:=zh HPA
    clear hl
    go_wp2
    go_ret
    exact ⟨_,L,rfl,HPA.out,HS7.out,HBE.out,fun q hq _=>HBF.out.block q hq,.inl rfl⟩
   | true =>
    have HPA:=put_at (x:=⟨(st,(xa,xb)),Ax,cx⟩) hlt (fun j hj=>HNO.out j hj (by omega)) HEQ.out
    rw[show ltL (⟨(st,(xa,xb)),Ax,cx⟩:WyA).w.1 (L[i]).w.1=true from hl,if_pos rfl] at HPA
    have HPA:=zh HPA
    clear hl
    have b0:w7.cell? ⟨w.heap.size,0,none⟩=some (.slice Ax st.length cx):=by rw[cell_of_row _ _ _ _ _ _ HXX.out];rfl
    have b1:w7.cell? ⟨w.heap.size,1,none⟩=some (.int .i64 xa):=by rw[cell_of_row _ _ _ _ _ _ HXX.out];rfl
    have b2:w7.cell? ⟨w.heap.size,2,none⟩=some (.int .i64 xb):=by rw[cell_of_row _ _ _ _ _ _ HXX.out];rfl
    have HTH:Hid (w7.there g (i * 3) 3):=fun j hj=>by
     obtain ⟨g',c2,e,_,_,_,k0,k1,k2,kf⟩:=HS7.out.at_ hlt
     injection e with eA _ _
     injection eA with eA
     injection eA with eA
     subst eA
     refine ⟨?_,kf _⟩
     match j,hj with
     | 0,_=>rw[show i * 3+0=i * 3 from rfl,k0];rfl
     | 1,_=>rw[k1];rfl
     | 2,_=>rw[k2];rfl
    have HNS:Hid (WysSt base (w7.setCells g (i * 3) [.slice Ax st.length cx,.int .i64 xa,.int .i64 xb]) (.slice (some ⟨g,0,none⟩) L.length c) (L.set i ⟨(st,(xa,xb)),Ax,cx⟩)):=WysSt.set (x:=⟨(st,(xa,xb)),Ax,cx⟩) HS7.out hlt HF7.out
    have HNB:Hid (Below base w (w7.setCells g (i * 3) [.slice Ax st.length cx,.int .i64 xa,.int .i64 xb])):=zV _ hg0 _ _ _ HBE.out
    go_wp2_with (refine wpList_store_mid rfl 111 (.tmp 41) (.tmp 40) rfl g (i * 3) #[.slice Ax st.length cx,.int .i64 xa,.int .i64 xb] (by rfl) (by rfl) ?_ ?_ ?_ ?_;(exact HTH.out);(exact way_info);(simp[Value.oneCell']))
    go_ret
    exact ⟨_,_,rfl,HPA.out,HNS.out,HNB.out,fun q hq hne=>(zI (fun e=>hne (by rw[e];rfl)) _ _ _).trans (HBF.out.block q hq),.inl rfl⟩
  ·have hnl:i=L.length:=by omega
   subst hnl
   have HO:=zh (HSI.out.below (zD wi (.cells (⟨(st,(xa,xb)),Ax,cx⟩:WyA).cells.toArray 111)))
   have HRN:=zh (zL wi (⟨(st,(xa,xb)),Ax,cx⟩:WyA).cells 111)
   have HBF:Hid (Below w.heap.size w (wi.alloc (.cells (⟨(st,(xa,xb)),Ax,cx⟩:WyA).cells.toArray 111))):=zA HB0.out (zA HBW.out (zD _ _))
   have HBE:Hid (Below base w (wi.alloc (.cells (⟨(st,(xa,xb)),Ax,cx⟩:WyA).cells.toArray 111))):=HBF.out.mono HBB.out
   have HZ:Hid (base≤(wi.alloc (.cells (⟨(st,(xa,xb)),Ax,cx⟩:WyA).cells.toArray 111)).heap.size):=Nat.le_trans HBB.out HBE.out.size
   have HFN:=zh (HFI.out.low (zD wi (.cells (⟨(st,(xa,xb)),Ax,cx⟩:WyA).cells.toArray 111)))
   have HPN:=zh (put_no (x:=⟨(st,(xa,xb)),Ax,cx⟩) (L:=L) (fun j hj=>HNO.out j hj hj))
   go_wp2_with (at_builtin;refine wpList_append_o elem_wyA _ rfl (.tmp 43) (.tmp 45) rfl base _ _ _ rfl HO.out.own wi.heap.size 0 1 1 (⟨(st,(xa,xb)),Ax,cx⟩:WyA).cells rfl rfl HRN.out (wyA_one _) (by omega) (by omega) HZ.out ?_;intro v9 w9 ho9 hg9 hv9;obtain ⟨A9,c9,rfl,_⟩:=OwnL.reads (OwnL.snoc (enc:=WyA.cells) (x:=(⟨(st,(xa,xb)),Ax,cx⟩:WyA)) ho9);have HN9:=zh (HO.out.snoc HFN.out ho9 hg9 hv9);have HB9:=zh (HBE.out.grown hg9 HZ.out (fun q hq=>HO.out.own.lt q hq));have HG9:=zh hg9;have HV9:=zh hv9;clear ho9 hg9 hv9)
   go_ret
   have hL1:(L++[(⟨(st,(xa,xb)),Ax,cx⟩:WyA)]).length=L.length+1:=by simp
   have k1:=HN9.out
   have k2:=HV9.out
   rw[hL1] at k1 k2
   refine ⟨.slice A9 (L.length+1) c9,_,rfl,HPN.out,k1,HB9.out,fun q hq hne=>?_,k2.imp id fun e=>⟨_,e,HBF.out.size⟩⟩
   exact (zN HG9.out (Nat.lt_of_lt_of_le hq HBF.out.size) fun k hk e=>hne (by rw[e];exact hk)).trans (HBF.out.block q hq)
section
variable {P:Program} {ops:Array Oper} {Q:Exit→Act→World→Prop} {md:Region.Mode} {S:World→Prop} {fuel:Nat} {listed:Array Bool} {a:Act} {w:World}
end
theorem step_append_e {T E:TypeId} {size bytes:Nat} (hE:Elem T E size bytes) {w:World} {ops:Array Oper} {op:Oper} {a:Act} {K:Act→World→Prop} {Q:Exit→Act→World→Prop} {El:Prop} (hgd:op.guard=none) (s x:Operand)
  (ho:op.op = .call { callee := .builtin .append,args:=#[s,x],argTypes:=#[T,T] }) (base:Nat) (v:Value) (hs:a.eval s=v) (h:w.ownsRow base E size v 0 []) (css:List (List Value)) (n:Nat) (hn:n=css.length) (A:Option Addr) (c:Nat) (hx:a.eval x = .slice A n c)
  (hk:∀cs∈css,cs.length=size) (h1:∀cs∈css,∀u∈cs,u.oneCell'=true) (hA:css≠[]→∃b o,A=some ⟨b,o,none⟩∧w.rangeAt b o css.flatten) (hl:css.length * bytes≤140737488355328) (h63:css.length≤9223372036854775807) (hb:base≤w.heap.size)
  (hq:∀v' w',w'.ownsRow base E size v' css.length css.flatten→w.grownBy w' v.ownBlock→K (a.put op.dst v') w'):if Region.wanted op (yielded ops a.tmps)=true then Oper.wp Tryz.prog op a w K Q else El:=by
 subst hn
 have hw:Region.wanted op (yielded ops a.tmps)=true:=by simp[Region.wanted,hgd]
 rw[if_pos hw]
 obtain ⟨v',w',hr,h2,h3⟩:=run_append_e hE w base op.type v h css hk h1 A c hA hl h63 hb
 unfold Oper.wp execOp
 simp only[ho,resolve,invoke,builtin,Sem.run_bind,Sem.run_pure,Result.andThen_ok,List.map_toArray,List.map_cons,List.map_nil,hs,hx,hr]
 exact hq v' w' h2 h3
section
variable {a b:List TyD} {t:Int×Int}
theorem zip_nx (hal:zM false (tyAt a t.1) (tyAt b t.2)=true) {i:Nat} (h1:i<(usesD (tyAt a t.1)).length) (h2:i<(usesD (tyAt b t.2)).length):NxE a b t ((usesD (tyAt a t.1))[i]).1 (((usesD (tyAt a t.1))[i]).2,((usesD (tyAt b t.2))[i]).2):=by
 refine ⟨hal,List.getElem_mem h1,?_⟩
 have hst:=alikeD_uses hal
 have:((usesD (tyAt a t.1))[i]).1=((usesD (tyAt b t.2))[i]).1:=by
  have:=congrArg (fun l=>l[i]?) hst
  simpa[h1,h2] using this
 rw[this]
 exact List.getElem_mem h2
theorem zip_len (hal:zM false (tyAt a t.1) (tyAt b t.2)=true):(usesD (tyAt a t.1)).length=(usesD (tyAt b t.2)).length:=by simpa using congrArg List.length (alikeD_uses hal)
theorem zip_all (hal:zM false (tyAt a t.1) (tyAt b t.2)=true) (hx:formD (tyAt a t.1)=true):∀st t',NxE a b t st t'→(st,t')∈zipU (usesD (tyAt a t.1)) (usesD (tyAt b t.2)):=fun s0 t' he=>by
 obtain ⟨_,h1,h2⟩:=he
 have hlen:=zip_len hal
 obtain ⟨i,hi,e1⟩:=List.getElem_of_mem h1
 obtain ⟨j,hj,e2⟩:=List.getElem_of_mem h2
 have hij:=step_place (alikeD_uses hal) (form_steps hx) hi hj (by rw[e1,e2])
 subst hij
 have hz:i<(zipU (usesD (tyAt a t.1)) (usesD (tyAt b t.2))).length:=by rw[zipU_len hlen];exact hi
 have:(zipU (usesD (tyAt a t.1)) (usesD (tyAt b t.2)))[i]=(s0,t'):=by rw[zipU_get hi hj,e1,e2]
 rw[←this]
 exact List.getElem_mem hz
end
theorem ints_range {w:World} {A:Option Addr} {l:List Int} (h:IntsR w A l):l.map encI≠[]→∃b o,A=some ⟨b,o,none⟩∧w.rangeAt b o (l.map encI).flatten:=fun hn=>by
 obtain ⟨css,k1,k2,k3,k4⟩:=RowsR.cells (fun x cs h=>(show cs.length=1 by rw[h];rfl)) h
 have e:css=l.map encI:=by
  apply List.ext_getElem?
  intro i
  rw[List.getElem?_map]
  by_cases hi:i<l.length
  ·have hc:i<css.length:=by omega
   have:=k2 i _ _ (zl hi) (zl hc)
   rw[zl hc,zl hi,this];rfl
  ·rw[List.getElem?_eq_none (by omega),List.getElem?_eq_none (by omega)];rfl
 rw[←e]
 exact k4 (fun e=>hn (by rw[e];rfl))
theorem own_ints_off {w:World} {B:Nat} {A:Option Addr} {c:Nat} {l:List Int} {v0:Value} (h:OwnI w B (.slice A l.length c) l) (hl:Lim 8 l.length) (h0:∀q,v0.ownBlock=some q→q<B):Off (fun q=>v0.ownBlock=some q) w fun u=>IntsR u A l:=fun u hu=>by
 have hk:OwnI u B (.slice A l.length c) l:=h.keep fun g hg hgl _=>hu g (fun e=>by have:=h0 g e;omega) hgl
 obtain ⟨A',c',e,hr⟩:=OwnI.ints hk hl
 injection e with e1 _ _
 rw[e1];exact hr
section
variable {a b:List TyD} {ta tb:Int}
structure DvL (a b:List TyD) (ta tb:Int) (w:World) (A:Option Addr) (c:Nat) (B:Option Addr) (d:Nat) (n:Nat) (L:List WyA) (v8:Value) (wr:World):Prop where
 two:TwoB w wr A a.length c ta B b.length d tb
 lv:LvI (NxE a b) (BadP a b) (ta,tb) n (L.map (·.w))
 ways:WysSt w.heap.size wr v8 L
 nd:((L.map (·.w)).map (·.2)).Nodup
structure DvS (a b:List TyD) (ta tb:Int) (wl:World) (n:Nat) (L:List WyA) (i:Nat) (dn:List (Int×(Int×Int))) (bo:Option (List Int)) (v9 v:Value) (N:List WyA) (wr:World):Prop where
 bel:Below wl.heap.size wl wr
 lp:LvP (NxE a b) (BadP a b) (ta,tb) n (L.map (·.w)) i dn bo (N.map (·.w))
 best:∃A c,v9 = .slice A (bo.getD []).length c∧IntsR wl A (bo.getD [])
 nx:WysSt wl.heap.size wr v N
 nd:((N.map (·.w)).map (·.2)).Nodup
theorem DvS.below {wl wr w':World} {n:Nat} {L:List WyA} {i:Nat} {dn:List (Int×(Int×Int))} {bo:Option (List Int)} {v9 v:Value} {N:List WyA} (h:DvS a b ta tb wl n L i dn bo v9 v N wr) (hb:Below wr.heap.size wr w'):DvS a b ta tb wl n L i dn bo v9 v N w' :=
 ⟨zA h.bel hb,h.lp,h.best,h.nx.below hb,h.nd⟩
theorem ways_in (hua:InR a) (hub:InR b) (h0:InP a b (ta,tb)) {N:List WyA} (h:∀v∈N.map (·.w),Wk (NxE a b) (ta,tb) v.1 v.2):∀x∈N,InP a b x.w.2:=fun x hx=>(h _ (List.mem_map.2 ⟨x,hx,rfl⟩)).all (p:=InP a b) (inP_next hua hub) h0
theorem ways_len (hla:a.length≤32) (hlb:b.length≤32) (hua:InR a) (hub:InR b) (h0:InP a b (ta,tb)) {N:List WyA} (h:∀v∈N.map (·.w),Wk (NxE a b) (ta,tb) v.1 v.2) (hn:((N.map (·.w)).map (·.2)).Nodup):N.length≤1024:=by
 have:=pairs_len (a:=a) (b:=b) _ hn (fun x hx=>by
  obtain ⟨v,hv,rfl⟩:=List.mem_map.1 hx
  obtain ⟨y,hy,rfl⟩:=List.mem_map.1 hv
  exact ways_in hua hub h0 h y hy)
 rw[List.length_map,List.length_map] at this
 exact Nat.le_trans this (Nat.mul_le_mul hla hlb)
end
def RDistPost (a:List TyD) (ta:Int) (b:List TyD) (tb:Int) (w:World) (e:Ending) (w':World):Prop :=
 ∃A c l err,e = .returned (.tuple #[.slice A l.length c,.int .i64 err])∧IntsR w' A l∧DistIs a ta b tb l err∧Below w.heap.size w w'
end Go.Proofs.YtkhpajneinmmiaaGreatDoor


