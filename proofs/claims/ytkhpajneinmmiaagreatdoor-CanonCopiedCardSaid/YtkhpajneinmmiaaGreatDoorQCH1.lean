/-
  Walks: sheaveref07.Changed: some draft comes back.
-/
import Derived.Test.YtkhpajneinmmiaaGreatDoorQCH0
import Derived.Test.YtkhpajneinmmiaaGreatDoorQCP2
import Derived.Test.YtkhpajneinmmiaaGreatDoorQDM
import Derived.Deep.DeepCutAuto
import Derived.Deep.CutBlock
import Derived.Deep.RegionLaw
namespace Go.Proofs.YtkhpajneinmmiaaGreatDoor
open Go.RowKit
set_option maxHeartbeats 16000000
set_option maxRecDepth 100000
abbrev zboxD:Obj := .cells #[.slice none 0 0] 24
theorem ch_grown {W W8:World} {E:TypeId} (hg:(W.alloc (.cells #[] E)).grownBy W8 (Value.slice (some ⟨W.heap.size,0,none⟩) 0 0).ownBlock):Below W.heap.size W W8 :=
 (zD W _).grown hg (by simp) (fun q hq=>by have:W.heap.size=q:=Option.some.inj (show some W.heap.size=some q from hq);omega)
theorem flat_at {k:Nat} (hk:0<k) {css:List (List Value)} (h:∀cs∈css,cs.length=k) {i j:Nat} (hi:i<css.length) (hj:j<k):css.flatten[i * k+j]? = (css[i])[j]? := by
 rw[flatten_get hk _ _ h,Nat.mul_comm i k,Nat.mul_add_div hk,Nat.mul_add_mod,Nat.div_eq_of_lt hj,Nat.mod_eq_of_lt hj,Nat.add_zero,zl hi]
 rfl
theorem ch_start {w W w8:World} {d:List NodeD} {css:List (List Value)} {v:Value} {A:Option Addr} (hd:NodesR w A d) (hW:Below w.heap.size w W) (hz:W.heap.size=w.heap.size+2) (hr:W.heap[w.heap.size+1]? = some zboxD)
  (h1:css.length=d.length) (h2:∀ (i:Nat) x cs,d[i]? = some x→css[i]? = some cs→NodeD.At w x cs) (h3:∀cs∈css,cs.length=5) (ho:w8.ownsRow (w.heap.size+2) 65 5 v css.length css.flatten) (hg:Below W.heap.size W w8) :
  ∃B e,v = .slice B d.length e∧ChSt w w8.heap.size B d.length e css.flatten (w8.alloc (.cells #[v] 24)):=by
 have s1:=hW.size
 have s2:=hg.size
 obtain ⟨B,e,rfl⟩:∃B e,v = .slice B d.length e:=by
  rcases ho.2 with ⟨rfl,h0⟩|⟨g,cap,cur,rfl,_⟩
  ·exact ⟨none,0,by rw[←h1,h0]⟩
  ·exact ⟨_,_,by rw[h1]⟩
 refine ⟨B,e,rfl,?_⟩
 rw[h1] at ho
 have hb8:=zA hW hg
 have hbig:Below w8.heap.size w8 (w8.alloc (.cells #[.slice B d.length e] 24)):=zD w8 _
 refine ⟨zA hb8 hbig,?_,?_,by omega,hd.1,?_,fun i j hi hj=>?_,fun i hi=>?_⟩
 ·rw[hbig.block _ (by omega),hg.block _ (by omega)];exact hr
 ·exact heap_alloc_new w8 _
 ·refine ⟨ho.1,?_⟩
  rcases ho.2 with h0|⟨g,cap,cur,hv,hg0,hh,h5⟩
  ·exact .inl h0
  ·exact .inr ⟨g,cap,cur,hv,hg0,(hbig.block _ (zg.1 hh).1).trans hh,h5⟩
 ·have hic:i<css.length:=by omega
  obtain ⟨Ap,cp,e1,hn⟩:=h2 i d[i] _ (zl hi) (zl hic)
  rw[flat_at (by omega) h3 hic (by omega),e1]
  match j,hj with
  | 0,_=>exact ⟨_,hn.kind,rfl⟩
  | 1,_=>exact ⟨_,hn.a,rfl⟩
  | 2,_=>exact ⟨_,hn.b,rfl⟩
  | 3,_=>exact ⟨_,hn.c,rfl⟩
 ·have hic:i<css.length:=by omega
  obtain ⟨Ap,cp,e1,hn⟩:=h2 i d[i] _ (zl hi) (zl hic)
  rw[flat_at (by omega) h3 hic (by omega),e1]
  refine ⟨Ap,_,cp,rfl,d[i].parts,rfl,fun u hu=>?_⟩
  refine RowsR.low hn.parts (fun _ _ _ h=>h) fun q hq=>?_
  have hq8:q<(w8.alloc (.cells #[.slice B d.length e] 24)).heap.size:=by have:=hbig.size;omega
  refine (hu q (fun e=>e.elim (fun e=>by omega) fun e=>?_) hq8).trans ((hbig.block q (by omega)).trans (hb8.block q hq))
  have:=(World.ownsRow.lt ho q e).1
  omega
theorem draft_info:(Tryz.prog.info? 24).map (·.size)=some 1:=by kernel_rfl
theorem changed_any (d:List NodeD) (l:List ChgD) (A:Option Addr) (c:Nat) (B:Option Addr) (cb:Nat) (w:World) (hd:NodesR w A d) (hl:ChgsR w B l) :
  Calls Tryz.prog 31 #[draftV A d.length c,.slice B l.length cb] w fun e w'=>∃A' c' d',e = .returned (draftV A' d'.length c')∧NodesR w' A' d'∧Below w.heap.size w w':=by
 have hnl:=hd.1.lt (by omega)
 have hll:=hl.1.lt (by omega)
 obtain ⟨css,k1,k2,k3,k4⟩:=RowsR.cells (fun x cs h=>(show cs.length=5 by obtain ⟨_,_,e,_⟩:=h;rw[e];rfl)) hd
 have HK:=zh (And.intro k1 (And.intro k2 (And.intro k3 k4)))
 have HD:=zh hd
 have HL:=zh hl
 have HB0:=zh (zC w (.cells #[.slice A d.length c] 24) zboxD)
 have HZ0:Hid (((w.alloc (.cells #[.slice A d.length c] 24)).alloc zboxD).heap.size=w.heap.size+2):=by show _=_;simp
 have HX0:=zh (yS (heap_alloc_new w (.cells #[.slice A d.length c] 24)) zboxD)
 have HR0:Hid (((w.alloc (.cells #[.slice A d.length c] 24)).alloc zboxD).heap[w.heap.size+1]? = some zboxD):=by
  have:=heap_alloc_new (w.alloc (.cells #[.slice A d.length c] 24)) zboxD
  show _=_
  rw[←this];simp
 clear hd hl k1 k2 k3 k4
 go_enter Tryz.func31,Tryz.ntmps31
 go_upto_region 1 with fail
 have u0:((w.alloc (.cells #[.slice A d.length c] 24)).alloc zboxD).cell? ⟨w.heap.size,0,none⟩=some (.slice A d.length c):=by rw[cell_of_row _ _ _ _ _ _ HX0.out];rfl
 generalize (w.alloc (.cells #[.slice A d.length c] 24)).alloc zboxD=W0 at *
 have y0:w.heap.size<W0.heap.size:=by have:=HZ0.out;omega
 have HOE:Hid (World.ownsRow (W0.alloc (.cells #[] 65)) (w.heap.size+2) 65 5 (.slice (some ⟨W0.heap.size,0,none⟩) 0 0) 0 []):=own_empty W0 (w.heap.size+2) 65 5 (by rw[HZ0.out];exact Nat.le_refl _)
 have HON:Hid (∀cs∈css,∀u∈cs,u.oneCell'=true):=fun cs hc u hu=>by
  obtain ⟨i,hi,rfl⟩:=List.getElem_of_mem hc
  obtain ⟨_,_,e,_⟩:=HK.out.2.1 i (d[i]'(by rw[←HK.out.1];exact hi)) _ (zl _) (zl hi)
  rw[e] at hu
  simp only[List.mem_cons,List.mem_nil_iff,or_false] at hu
  rcases hu with rfl|rfl|rfl|rfl|rfl <;> rfl
 have HRA:Hid (css≠[]→∃b o,A=some ⟨b,o,none⟩∧(W0.alloc (.cells #[] 65)).rangeAt b o css.flatten):=fun hn=>by
  obtain ⟨b',o',e,hr⟩:=HK.out.2.2.2 (fun e=>hn (List.eq_nil_of_length_eq_zero (by rw[HK.out.1,e];rfl)))
  exact ⟨b',o',e,zY (zA HB0.out (zD _ _)) hr⟩
 have HLA:Hid (css.length * 32≤140737488355328∧css.length≤9223372036854775807):=by show _∧_;rw[HK.out.1];have:=HD.out.1;unfold Lim at this;omega
 have HZA:Hid (w.heap.size+2≤(W0.alloc (.cells #[] 65)).heap.size):=by have:=HZ0.out;show _≤_;simp;omega
 go_upto_region 2 with (at_builtin;refine wpList_append_e elem_node _ rfl (.tmp 10) (.tmp 12) rfl (w.heap.size+2) _ rfl HOE.out css d.length HK.out.1.symm A c rfl HK.out.2.2.1 HON.out HRA.out HLA.out.1 HLA.out.2 HZA.out ?_;intro v8 w8 ho8 hg8;obtain ⟨A8,c8,rfl,hst⟩:=ch_start HD.out HB0.out HZ0.out HR0.out HK.out.1 HK.out.2.1 HK.out.2.2.1 ho8 (ch_grown hg8);have HST:=zh hst;clear ho8 hg8 hst)
 clear u0 y0 HOE HON HRA HLA HZA HR0 HX0 HZ0 HB0 HK
 clear HD
 generalize w8.alloc (.cells #[.slice A8 d.length c8] 24)=W9 at *
 generalize w8.heap.size=p5 at *
 generalize d.length=n at *
 generalize css.flatten=xs9 at *
 go_wp2
 go_loopw [6] (fun s wr=>∃ (i:Nat) (xs:List Value),i≤l.length∧s = .int .i64 (i:Int)∧Hid (ChSt w p5 A8 n c8 xs wr)) (fun s _=>l.length - (intOf s).toNat)
 case atStart=>exact ⟨0,_,by omega,rfl,HST.out⟩
 case round =>
  obtain ⟨i,xs,hi,rfl,hh⟩:=hrel
  obtain ⟨wi,rfl⟩:∃wi:World,wi=wr:=⟨_,rfl⟩
  have HST:=zh hh.out
  clear hh
  have c5:wi.cell? ⟨p5,0,none⟩=some (.slice A8 n c8):=by rw[cell_of_row _ _ _ _ _ _ HST.out.hd];rfl
  have r5:∀j,wi.frozen? ⟨w.heap.size+1,j,none⟩=false:=fun j=>frozen_of_row _ _ _ _ _ HST.out.res
  have rc:wi.cell? ⟨w.heap.size+1,0,none⟩=some (.slice none 0 0):=by rw[cell_of_row _ _ _ _ _ _ HST.out.res];rfl
  have hex:¬ (i<l.length∧0<n)→True:=fun _=>trivial
  by_cases hlt:i<l.length
  case neg =>
   obtain ⟨d',hd1,hd2,hd3⟩:=HST.out.out (.slice A8 n c8)
   have HF:Hid (NodesR (wi.setCells (w.heap.size+1) 0 [.slice A8 n c8]) A8 d'∧Below w.heap.size w (wi.setCells (w.heap.size+1) 0 [.slice A8 n c8])):=And.intro hd2 hd3
   have HC1:Hid ((wi.setCells (w.heap.size+1) 0 [.slice A8 n c8]).cell? ⟨w.heap.size+1,0,none⟩=some (.slice A8 n c8)):=by
    show (World.setCells _ _ _ _).cell? _=_
    rw[World.setCells,World.setCells]
    rw[cell_of_row _ _ _ _ _ _ (heap_setCell_same _ _ 0 _ _ _ HST.out.res)];rfl
   have HTH:Hid (wi.there (w.heap.size+1) 0 1):=fun j hj=>by
    obtain rfl:j=0:=by omega
    exact ⟨by rw[rc];rfl,r5 0⟩
   subst hd1
   clear hd2 hd3 hex rc r5
   go_wp2_with (refine wpList_store_mid rfl 24 (.tmp 4) (.tmp 213) rfl (w.heap.size+1) 0 #[.slice A8 d'.length c8] (by rfl) (by rfl) ?_ ?_ ?_ ?_;(exact HTH.out);(exact draft_info);(simp[Value.oneCell']))
   have hc1:=HC1.out
   exact bodyPost_ret (v:=draftV A8 d'.length c8) (by simp[results,Tryz.results31,go_sem,hc1]) rfl ⟨A8,c8,d',rfl,HF.out.1,HF.out.2⟩
  by_cases hn:0<n
  case neg =>
   obtain rfl:n=0:=by omega
   obtain ⟨d',hd1,hd2,hd3⟩:=HST.out.out (.slice A8 0 c8)
   have HF:Hid (NodesR (wi.setCells (w.heap.size+1) 0 [.slice A8 0 c8]) A8 d'∧Below w.heap.size w (wi.setCells (w.heap.size+1) 0 [.slice A8 0 c8])):=And.intro hd2 hd3
   have HC1:Hid ((wi.setCells (w.heap.size+1) 0 [.slice A8 0 c8]).cell? ⟨w.heap.size+1,0,none⟩=some (.slice A8 0 c8)):=by
    show (World.setCells _ _ _ _).cell? _=_
    rw[World.setCells,World.setCells]
    rw[cell_of_row _ _ _ _ _ _ (heap_setCell_same _ _ 0 _ _ _ HST.out.res)];rfl
   have HTH:Hid (wi.there (w.heap.size+1) 0 1):=fun j hj=>by
    obtain rfl:j=0:=by omega
    exact ⟨by rw[rc];rfl,r5 0⟩
   obtain rfl:d'=[]:=List.eq_nil_of_length_eq_zero hd1
   clear hd2 hd3 hex rc r5
   go_wp2_with (refine wpList_store_mid rfl 24 (.tmp 4) (.tmp 213) rfl (w.heap.size+1) 0 #[.slice A8 0 c8] (by rfl) (by rfl) ?_ ?_ ?_ ?_;(exact HTH.out);(exact draft_info);(simp[Value.oneCell']))
   have hc1:=HC1.out
   exact bodyPost_ret (v:=draftV A8 0 c8) (by simp[results,Tryz.results31,go_sem,hc1]) rfl ⟨A8,c8,[],rfl,HF.out.1,HF.out.2⟩
  clear rc r5
  obtain ⟨g,rfl,hg0,hg1,_⟩:=own_some HST.out.own hn
  have hg3:=HST.out.glt.2.2
  obtain ⟨b,o,cs,rfl,hat,hrg⟩:=RowsR.at_ (ChgsR.below HL.out HST.out.bel) hlt
  obtain ⟨hu,rfl⟩:=hat
  have HCB:=zh hu
  have v0:wi.cell? ⟨b,o+i * 4,none⟩=some (.int .u8 (l[i]).kind):=hrg 0 _ rfl
  have v1:wi.cell? ⟨b,o+i * 4+1,none⟩=some (.int .u8 (l[i]).node):=hrg 1 _ rfl
  have v2:wi.cell? ⟨b,o+i * 4+2,none⟩=some (.int .u8 (l[i]).a):=hrg 2 _ rfl
  have v3:wi.cell? ⟨b,o+i * 4+3,none⟩=some (.int .u8 (l[i]).b):=hrg 3 _ rfl
  clear hrg hu
  generalize l[i]=ch at *
  go_upto_block 1 with fail
  go_cut [] (fun wx=>Hid (∃xs',ChSt w p5 (some ⟨g,0,none⟩) n c8 xs' wx))
  case first =>
   have h1:(0:Int)≤(i:Int):=by omega
   have h2:(i:Int)<(l.length:Int):=by omega
   have h3:(0:Int)<(n:Int):=by omega
   go_upto_region 6 with fail
   obtain ⟨idx,hidx⟩:∃idx:Nat,idx=ch.node % n:=⟨_,rfl⟩
   have hil:idx<n:=by rw[hidx];exact Nat.mod_lt _ hn
   have er1:(ch.node:Int).tmod (n:Int)=(idx:Int):=by rw[hidx];rfl
   have er2:(ch.node:Int) % (n:Int)=(idx:Int):=by rw[hidx];simp
   have hnz:¬ ((n:Int)=0):=by omega
   clear hidx
   have g1:(0:Int)≤(idx:Int):=by omega
   have g2:(idx:Int)<(n:Int):=by omega
   obtain ⟨Ap,m,cp,e4,ps,rfl,hpo⟩:=HST.out.prt idx hil
   have hpr:=hpo.out
   obtain ⟨pcss,k1,k2,k3,k4⟩:=RowsR.cells (fun x cs h=>(show cs.length=3 by rw[h.2];rfl)) hpr
   have HK:=zh (And.intro k1 (And.intro k2 (And.intro k3 k4)))
   have HE4:=zh e4
   have HPL:Hid (Lim 3 ps.length):=hpr.1
   clear k1 k2 k3 k4 hpo hpr e4 v0 v1 v2 v3 h1 h2
   have HB5:=zh (zD wi (.cells #[.int .u8 ch.kind,.int .u8 ch.node,.int .u8 ch.a,.int .u8 ch.b] 118))
   have HX5:=zh (heap_alloc_new wi (.cells #[.int .u8 ch.kind,.int .u8 ch.node,.int .u8 ch.a,.int .u8 ch.b] 118))
   have HZ5:Hid ((wi.alloc (.cells #[.int .u8 ch.kind,.int .u8 ch.node,.int .u8 ch.a,.int .u8 ch.b] 118)).heap.size=wi.heap.size+1):=by show _=_;simp
   generalize wi.alloc (.cells #[.int .u8 ch.kind,.int .u8 ch.node,.int .u8 ch.a,.int .u8 ch.b] 118)=W5 at *
   replace c5:=zB HB5.out c5
   have s4:W5.cell? ⟨g,idx * 5+4,none⟩=some (.slice Ap ps.length cp):=zB HB5.out (row_at HST.out.own HE4.out)
   have f4:W5.frozen? ⟨g,idx * 5+4,none⟩=false:=by rw[HB5.out.frozen (p:=⟨g,idx * 5+4,none⟩) hg1];exact World.ownsRow.frozenAt HST.out.own _
   have q1:W5.cell? ⟨wi.heap.size,1,none⟩=some (.int .u8 ch.node):=by rw[cell_of_row _ _ _ _ _ _ HX5.out];rfl
   have hu1:=HCB.out.2.1
   go_quiet (fail)
   have HB6:Hid (Below wi.heap.size wi (W5.drewN nq)):=zh (zE HB5.out nq)
   have HX6:Hid ((W5.drewN nq).heap[wi.heap.size]? = some (.cells #[.int .u8 ch.kind,.int .u8 ch.node,.int .u8 ch.a,.int .u8 ch.b] 118 (0,0))):=HX5
   have HZ6:Hid ((W5.drewN nq).heap.size=wi.heap.size+1):=HZ5
   replace s4:(W5.drewN nq).cell? ⟨g,idx * 5+4,none⟩=some (.slice Ap ps.length cp):=s4
   replace f4:(W5.drewN nq).frozen? ⟨g,idx * 5+4,none⟩=false:=f4
   clear HB5 HX5 HZ5 c5 q1 hu1
   generalize W5.drewN nq=W6 at *
   have HOE:Hid (World.ownsRow (W6.alloc (.cells #[] 121)) (wi.heap.size+1) 121 3 (.slice (some ⟨W6.heap.size,0,none⟩) 0 0) 0 []):=own_empty W6 (wi.heap.size+1) 121 3 (by rw[HZ6.out];exact Nat.le_refl _)
   have HON:Hid (∀cs∈pcss,∀u∈cs,u.oneCell'=true):=fun cs hc u hu=>by
    obtain ⟨i,hi,rfl⟩:=List.getElem_of_mem hc
    obtain ⟨_,e⟩:=HK.out.2.1 i (ps[i]'(by rw[←HK.out.1];exact hi)) _ (zl _) (zl hi)
    rw[e] at hu
    simp only[List.mem_cons,List.mem_nil_iff,or_false] at hu
    rcases hu with rfl|rfl|rfl <;> rfl
   have HRA:Hid (pcss≠[]→∃b o,Ap=some ⟨b,o,none⟩∧(W6.alloc (.cells #[] 121)).rangeAt b o pcss.flatten):=fun hn=>by
    obtain ⟨b',o',e,hr⟩:=HK.out.2.2.2 (fun e=>hn (List.eq_nil_of_length_eq_zero (by rw[HK.out.1,e];rfl)))
    exact ⟨b',o',e,zY (zA HB6.out (zD _ _)) hr⟩
   have HLA:Hid (pcss.length * 3≤140737488355328∧pcss.length≤9223372036854775807):=by show _∧_;rw[HK.out.1];have:=HPL.out;unfold Lim at this;omega
   have HZA:Hid (wi.heap.size+1≤(W6.alloc (.cells #[] 121)).heap.size):=by have:=HZ6.out;show _≤_;simp;omega
   have y5:g<W6.heap.size:=by have:=HZ6.out;omega
   go_upto_region 8 with (at_builtin;refine wpList_append_e elem_part _ rfl (.tmp 42) (.tmp 46) rfl (wi.heap.size+1) _ rfl HOE.out pcss ps.length HK.out.1.symm Ap cp rfl HK.out.2.2.1 HON.out HRA.out HLA.out.1 HLA.out.2 HZA.out ?_;intro v8 w8 ho8 hg8;obtain ⟨B8,d8,rfl,hmd⟩:=MidC.start (ch:=ch) (idx:=idx) HST.out HB6.out HZ6.out HX6.out (ch_grown hg8) hil HK.out.1 HK.out.2.1 HPL.out ho8;have HMD:=zh hmd;have HG8:=zh (ch_grown hg8);have f8:w8.frozen? ⟨g,idx * 5+4,none⟩=false:=(HG8.out.frozen (p:=⟨g,idx * 5+4,none⟩) y5).trans f4;have s8:w8.cell? ⟨g,idx * 5+4,none⟩=some (.slice Ap ps.length cp):=zB HG8.out s4;clear ho8 hg8 hmd)
   clear s8 f8 s4 f4 HG8 y5 HOE HON HRA HLA HZA HK HE4 HX6 HB6
   generalize ps.length=m at *
   generalize w8.setCell ⟨g,idx * 5+4,none⟩ (.slice B8 m d8)=W8 at *
   obtain ⟨_,_,_,_,_,⟨_,_,_,_,s4⟩,_,_,hgl⟩:=HMD.out.cells
   go_upto_if 55 with fail
   clear s4 hgl
   go_cut [9] (fun s wx=>∃k:Nat,s = .int .i64 (k:Int)∧(0<m→k<m)∧Hid (MidC w p5 g n c8 xs wi idx ch (wi.heap.size+1) B8 m d8 wx))
   case first =>
    as_aux_lemma =>
    obtain ⟨_,_,_,_,_,⟨_,_,_,_,s4⟩,⟨_,_,q2,_⟩,_,hgl⟩:=HMD.out.cells
    by_cases hm:0<m
    ·obtain ⟨k,hk⟩:∃k:Nat,k=ch.a % m:=⟨_,rfl⟩
     have hkm:k<m:=by rw[hk];exact Nat.mod_lt _ hm
     have e1:(ch.a:Int).tmod (m:Int)=(k:Int):=by rw[hk];rfl
     have e2:(ch.a:Int) % (m:Int)=(k:Int):=by rw[hk];simp
     have hmz:¬ ((m:Int)=0):=by omega
     have hmp:(0:Int)<(m:Int):=by omega
     have hu2:=HCB.out.2.2.1
     clear hk
     go_wp2_with fail
     go_quiet (fail)
     go_wp2
     go_meet
     exact ⟨k,rfl,fun _=>hkm,HMD.out.drew _⟩
    ·have hm0:m=0:=by omega
     subst hm0
     go_wp2
     go_meet
     exact ⟨0,rfl,fun h=>absurd h hm,HMD.out⟩
   case rest =>
   obtain ⟨k,rfl,hkm,hmid⟩:=hcut
   have HMI:=zh hmid.out
   clear hmid HMD
   obtain ⟨r,hr⟩:∃r:Nat,r=ch.kind % 8:=⟨_,rfl⟩
   have hr8:r<8:=by omega
   have er:(ch.kind:Int).tmod 8=(r:Int):=by rw[hr];rfl
   have er':(ch.kind:Int) % 8=(r:Int):=by rw[hr];simp
   have hu0:=HCB.out.1
   obtain ⟨_,_,_,_,_,_,⟨q0,_,_,_⟩,_,_⟩:=HMI.out.cells
   clear hr
   obtain ⟨k0,k1,k2,k3,hk,hc,hd,hf,hgl⟩:=HMI.out.cells
   have HC:=zh (And.intro hk (And.intro hc (And.intro hd hf)))
   clear hk hc hd hf
   go_upto_if 92 with fail
   clear q0
   rcases (show r=0∨r=1∨r=2∨r=3∨r=4∨r=5∨r=6∨r=7 by omega) with rfl|rfl|rfl|rfl|rfl|rfl|rfl|rfl
   ·as_aux_lemma =>
    have c1:=HC.out.2.1.2.1
    have c2:=HC.out.2.2.1.2.2.1
    have c3:=HC.out.2.2.2 (idx * 5+1)
    have b1:=HC.out.1
    have b2:=HCB.out
    go_wp2_with fail
    go_region
    go_wp2
    go_meet
    exact HMI.out.end1 (j:=1) (by omega) _
   ·as_aux_lemma =>
    have c1:=HC.out.2.1.2.2.1
    have c2:=HC.out.2.2.1.2.2.2
    have c3:=HC.out.2.2.2 (idx * 5+2)
    have b1:=HC.out.1
    have b2:=HCB.out
    go_wp2_with fail
    go_region
    go_wp2
    go_meet
    exact HMI.out.end1 (j:=2) (by omega) _
   ·as_aux_lemma =>
    have c1:=HC.out.2.1.2.1
    have c2:=HC.out.2.2.1.2.2.1
    have c3:=HC.out.2.2.2 (idx * 5+1)
    have b1:=HC.out.1
    have b2:=HCB.out
    go_wp2_with fail
    go_region
    go_wp2
    go_meet
    exact HMI.out.endx (j:=1) (by omega) _ _
   ·as_aux_lemma =>
    have c1:=HC.out.2.1.2.2.2.1
    have c2:=HC.out.2.2.1.2.2.1
    have c3:=HC.out.2.2.2 (idx * 5+3)
    have b1:=HC.out.1
    have b2:=HCB.out
    go_wp2_with fail
    go_region
    go_wp2
    go_meet
    exact HMI.out.end1 (j:=3) (by omega) _
   ·have b2:=HCB.out
    have c1:=HC.out.2.1.2.2.2.2
    by_cases hm8:m<8
    ·have hdt:decide ((m:Int)<8)=true:=decide_eq_true (by omega)
     go_upto_region 24 with fail
     refine yD (S:=(fun w'=>(w'.cell? ⟨g,idx * 5+4,none⟩=some (.slice B8 m d8)∧w'.cell? ⟨wi.heap.size,2,none⟩=some (.int .u8 ch.a)∧w'.cell? ⟨wi.heap.size,3,none⟩=some (.int .u8 ch.b))∧Hid (0=0))) 17 (by as_aux_lemma=>kernel_rfl) ?_ (fun zH_=>?_)
     ·(try dsimp only);exact ⟨⟨HC.out.2.1.2.2.2.2,HC.out.2.2.1.2.2.1,HC.out.2.2.1.2.2.2⟩,rfl⟩
     refine tkB0 0 ?v0 rfl (by as_aux_lemma=>kernel_rfl) (.inl ⟨by rfl,?y0⟩) zH_ ?_
     case y0=>(intro w hSw;(try dsimp only at hSw);go_simp;try with_reducible rfl)
     try simp only[ps]
     refine tkB0 1 ?v1 rfl (by as_aux_lemma=>kernel_rfl) (.inl ⟨by rfl,?y1⟩) zH_ ?_
     case y1=>(intro w hSw;(try dsimp only at hSw);go_simp;try with_reducible rfl)
     try simp only[ps]
     refine tkB0 2 ?v2 rfl (by as_aux_lemma=>kernel_rfl) (.inl ⟨by rfl,?y2⟩) zH_ ?_
     case y2=>(intro w hSw;(try dsimp only at hSw);go_simp;try with_reducible rfl)
     try simp only[ps]
     refine tkB0 3 ?v3 rfl (by as_aux_lemma=>kernel_rfl) (.inl ⟨by rfl,?y3⟩) zH_ ?_
     case y3=>(intro w hSw;(try dsimp only at hSw);go_simp;try with_reducible rfl)
     try simp only[ps]
     refine tkB 4 ?v4 rfl (by as_aux_lemma=>kernel_rfl) (.inl ⟨by rfl,?y4⟩) zH_ ?_
     case y4=>(intro w hSw;(try dsimp only at hSw);go_simp;try with_reducible rfl)
     try simp only[ps]
     refine tkB0 5 ?v5 rfl (by as_aux_lemma=>kernel_rfl) (.inl ⟨by rfl,?y5⟩) zH_ ?_
     case y5=>(intro w hSw;(try dsimp only at hSw);go_simp;try with_reducible rfl)
     try simp only[ps]
     refine tkB 6 ?v6 rfl (by as_aux_lemma=>kernel_rfl) (.inl ⟨by rfl,?y6⟩) zH_ ?_
     case y6=>(intro w hSw;(try dsimp only at hSw);go_simp;try with_reducible rfl)
     try simp only[ps]
     refine tkB0 7 ?v7 rfl (by as_aux_lemma=>kernel_rfl) (.inl ⟨by rfl,?y7⟩) zH_ ?_
     case y7=>(intro w hSw;(try dsimp only at hSw);go_simp;try with_reducible rfl)
     try simp only[ps]
     refine tkB 8 ?v8 rfl (by as_aux_lemma=>kernel_rfl) (.inl ⟨by rfl,?y8⟩) zH_ ?_
     case y8=>(intro w hSw;(try dsimp only at hSw);go_simp;try with_reducible rfl)
     try simp only[ps]
     refine tkB0 9 ?v9 rfl (by as_aux_lemma=>kernel_rfl) (.inl ⟨by rfl,?y9⟩) zH_ ?_
     case y9=>(intro w hSw;(try dsimp only at hSw);go_simp;try with_reducible rfl)
     try simp only[ps]
     refine tkB 10 ?v10 rfl (by as_aux_lemma=>kernel_rfl) (.inl ⟨by rfl,?y10⟩) zH_ ?_
     case y10=>(intro w hSw;(try dsimp only at hSw);go_simp;try with_reducible rfl)
     try simp only[ps]
     refine tkB0 11 ?v11 rfl (by as_aux_lemma=>kernel_rfl) (.inl ⟨by rfl,?y11⟩) zH_ ?_
     case y11=>(intro w hSw;(try dsimp only at hSw);go_simp;try with_reducible rfl)
     try simp only[ps]
     refine tkB0 12 ?v12 rfl (by as_aux_lemma=>kernel_rfl) (.inl ⟨by rfl,?y12⟩) zH_ ?_
     case y12=>(intro w hSw;(try dsimp only at hSw);go_simp;try with_reducible rfl)
     try simp only[ps]
     refine zZ (rs:=[13]) (by as_aux_lemma=>kernel_rfl) (by simp) ?_
     refine (AllReadyB.cons rfl (fun K hK=>?_) AllReadyB.nil)
     go_simp
     refine hK.out _ _ ?_ (fun zH_=>?_)
     ·(try dsimp only);exact ⟨⟨zB (zD _ _) zH_.1.1,zB (zD _ _) zH_.1.2.1,zB (zD _ _) zH_.1.2.2⟩,rfl⟩
     clear hK K
     try simp only[ps]
     refine zZ (rs:=[14]) (by as_aux_lemma=>kernel_rfl) (by simp) ?_
     refine (AllReadyB.cons rfl (fun K hK=>?_) AllReadyB.nil)
     (have HMA:Hid (MidC w p5 g n c8 xs wi idx ch (wi.heap.size+1) B8 m d8 (wc.alloc (.cells #[.int .u8 ch.a,.int .u8 ch.b,.int .u8 (IntKind.u8.wrap ((ch.a:Int) / 12))] 121)).drew):=(HMI.out.below (zD _ _)).drew 1;obtain ⟨ys,hys,hyu⟩:=HMA.out.par;refine zO elem_part rfl (.tmp 158) (.tmp 167) rfl (wi.heap.size+1) (.slice B8 m d8) m ys rfl hys wc.heap.size 0 1 1 [.int .u8 ch.a,.int .u8 ch.b,.int .u8 (IntKind.u8.wrap ((ch.a:Int) / 12))] rfl rfl (range_new_drew wc _ _) (fun u hu=>by simp only[List.mem_cons,List.mem_nil_iff,or_false] at hu;rcases hu with rfl|rfl|rfl <;> rfl) (by omega) (by omega) (by have:=HMA.out.size;omega) ?_;intro v8' w8' ho8 hg8;obtain ⟨B',e',rfl,z0,z1,z3,z2⟩:=HMA.out.appended hm8 hg8 ho8 (fun u hu=>(List.mem_append.1 hu).elim (fun h=>hyu u h) (fun h=>part_u8 HCB.out h)))
     refine hK.out _ _ ?_ (fun zH_=>?_)
     ·(try dsimp only);exact ⟨⟨z0,z3.1,z3.2⟩,rfl⟩
     clear hK K
     try simp only[ps]
     refine tkB0 15 ?v13 rfl (by as_aux_lemma=>kernel_rfl) (.inl ⟨by rfl,?y13⟩) zH_ ?_
     case y13=>(intro w hSw;(try dsimp only at hSw);go_simp;try with_reducible rfl)
     try simp only[ps]
     refine tkB0 16 ?v14 rfl (by as_aux_lemma=>kernel_rfl) (.inl ⟨by rfl,?y14⟩) zH_ ?_
     case y14=>(intro w hSw;(try dsimp only at hSw);go_simp;try with_reducible rfl)
     try simp only[ps]
     refine zZ (rs:=[17]) (by as_aux_lemma=>kernel_rfl) (by simp) ?_
     intro i hi;obtain rfl:i=17:=by simpa using hi
     refine wpOp_step (o:=_) rfl (fun K hK=>?_)
     go_simp
     refine hK _ _ ⟨not_after (by as_aux_lemma=>kernel_rfl),anyB_free _ _ _ _ (by as_aux_lemma=>kernel_rfl) ?_⟩
     clear hK K
     (try clear zH_)
     try simp only[ps]
     refine wpAny_done (by as_aux_lemma=>kernel_rfl) ?_ _
     go_wp2
     go_meet
     exact z2
    ·have hdt:decide ((m:Int)<8)=false:=decide_eq_false (by omega)
     go_wp2
     go_meet
     exact HMI.out.done
   ·have c1:=HC.out.2.1.2.2.2.2
    by_cases hm0:0<m
    ·obtain ⟨gp,hAp,hgp,hgp2,hmd,hpc,hpf⟩:=HMI.out.par.at_ hm0
     have HAP:=zh hAp
     have HPC:=zh (And.intro hpc hpf)
     obtain rfl:B8=some ⟨gp,0,none⟩:=hAp
     have hk:=hkm hm0
     have hdt:decide ((0:Int)<(m:Int))=true:=decide_eq_true (by omega)
     have hmp:(0:Int)<(m:Int):=by omega
     obtain ⟨k1,hk1⟩:∃k1,k1=k+1:=⟨_,rfl⟩
     have ek:(k:Int)+1=(k1:Int):=by omega
     have e1:(0:Int)≤(k:Int):=by omega
     have e2:(k:Int)≤(d8:Int):=by omega
     have e3:(0:Int)≤(k1:Int):=by omega
     have e4:(k1:Int)≤(m:Int):=by omega
     have e5:(m:Int)≤(d8:Int):=by omega
     have hmb:m≤46912496118443:=by have:=HMI.out.lim;unfold Lim at this;omega
     have hkb:k1≤m:=by omega
     have hkb2:k1≤46912496118443:=by omega
     have e6:k≤k1:=by omega
     have e7:k≤d8:=by omega
     have e8:IntKind.i64.wrap (k1:Int)=(k1:Int):=IntWalk.i64_in _ (by omega)
     have HKK:=zh hk1
     clear hpc hpf
     by_cases hcap:d8=k1
     ·obtain ⟨news,n1,n2,n3,n4⟩:=(HMI.out.drew 1).news rfl hk1 hk hmd (ad:=⟨gp,0,none⟩) (by constructor <;> intro hx <;> first|rfl|exact absurd hx hcap|exact absurd hcap hx)
      have HNW:=zh (And.intro n1 (And.intro n2 (And.intro n3 n4)))
      clear n1 n2 n3 n4 hk1
      go_upto_region 27 with fail
      refine yD (S:=(fun w'=>(w'.cell? ⟨g,idx * 5+4,none⟩=some (.slice (some ⟨gp,0,none⟩) m d8))∧Hid (0=0))) 17 (by as_aux_lemma=>kernel_rfl) ?_ (fun zH_=>?_)
      ·(try dsimp only);exact ⟨HC.out.2.1.2.2.2.2,rfl⟩
      refine tkB0 0 ?v15 rfl (by as_aux_lemma=>kernel_rfl) (.inl ⟨by rfl,?y15⟩) zH_ ?_
      case y15=>(intro w hSw;(try dsimp only at hSw);go_simp;try with_reducible rfl)
      try simp only[ps]
      refine tkB0 1 ?v16 rfl (by as_aux_lemma=>kernel_rfl) (.inl ⟨by rfl,?y16⟩) zH_ ?_
      case y16=>(intro w hSw;(try dsimp only at hSw);go_simp;try with_reducible rfl)
      try simp only[ps]
      refine tkB0 2 ?v17 rfl (by as_aux_lemma=>kernel_rfl) (.inl ⟨by rfl,?y17⟩) zH_ ?_
      case y17=>(intro w hSw;(try dsimp only at hSw);go_simp;try with_reducible rfl)
      try simp only[ps]
      refine tkB0 3 ?v18 rfl (by as_aux_lemma=>kernel_rfl) (.inl ⟨by rfl,?y18⟩) zH_ ?_
      case y18=>(intro w hSw;(try dsimp only at hSw);go_simp;try with_reducible rfl)
      try simp only[ps]
      refine tkB 4 ?v19 rfl (by as_aux_lemma=>kernel_rfl) (.inl ⟨by rfl,?y19⟩) zH_ ?_
      case y19=>(intro w hSw;(try dsimp only at hSw);go_simp;try with_reducible rfl)
      try simp only[ps]
      refine tkB0 5 ?v20 rfl (by as_aux_lemma=>kernel_rfl) (.inl ⟨by rfl,?y20⟩) zH_ ?_
      case y20=>(intro w hSw;(try dsimp only at hSw);go_simp;try with_reducible rfl)
      try simp only[ps]
      refine tkB0 6 ?v21 rfl (by as_aux_lemma=>kernel_rfl) (.inl ⟨by rfl,?y21⟩) zH_ ?_
      case y21=>(intro w hSw;(try dsimp only at hSw);go_simp;try with_reducible rfl)
      try simp only[ps]
      refine tkB0 7 ?v22 rfl (by as_aux_lemma=>kernel_rfl) (.inl ⟨by rfl,?y22⟩) zH_ ?_
      case y22=>(intro w hSw;(try dsimp only at hSw);go_simp;try with_reducible rfl)
      try simp only[ps]
      refine tkB0 8 ?v23 rfl (by as_aux_lemma=>kernel_rfl) (.inl ⟨by rfl,?y23⟩) zH_ ?_
      case y23=>(intro w hSw;(try dsimp only at hSw);go_simp;try with_reducible rfl)
      try simp only[ps]
      refine tkB0 9 ?v24 rfl (by as_aux_lemma=>kernel_rfl) (.inl ⟨by rfl,?y24⟩) zH_ ?_
      case y24=>(intro w hSw;(try dsimp only at hSw);go_simp;try with_reducible rfl)
      try simp only[ps]
      refine tkB 10 ?v25 rfl (by as_aux_lemma=>kernel_rfl) (.inl ⟨by rfl,?y25⟩) zH_ ?_
      case y25=>(intro w hSw;(try dsimp only at hSw);go_simp;try with_reducible rfl)
      try simp only[ps]
      refine tkB0 11 ?v26 rfl (by as_aux_lemma=>kernel_rfl) (.inl ⟨by rfl,?y26⟩) zH_ ?_
      case y26=>(intro w hSw;(try dsimp only at hSw);go_simp;try with_reducible rfl)
      try simp only[ps]
      refine tkB0 12 ?v27 rfl (by as_aux_lemma=>kernel_rfl) (.inl ⟨by rfl,?y27⟩) zH_ ?_
      case y27=>(intro w hSw;(try dsimp only at hSw);go_simp;try with_reducible rfl)
      try simp only[ps]
      refine tkB0 13 ?v28 rfl (by as_aux_lemma=>kernel_rfl) (.inl ⟨by rfl,?y28⟩) zH_ ?_
      case y28=>(intro w hSw;(try dsimp only at hSw);go_simp;try with_reducible rfl)
      try simp only[ps]
      refine zZ (rs:=[14]) (by as_aux_lemma=>kernel_rfl) (by simp) ?_
      refine (AllReadyB.cons rfl (fun K hK=>?_) AllReadyB.nil)
      (obtain ⟨i0,hi0,hi1⟩:=part_info;refine step_append_room rfl (.tmp 185) (.tmp 192) 63 rfl 121 i0 3 Tryz.underlying63 hi0 hi1 gp 0 k d8 ?_ ⟨gp,0,none⟩ (m - k1) (d8 - k1) news ?_ HNW.out.1 HNW.out.2.2.1 (fun u hu=>by obtain ⟨_,_,rfl⟩:=HNW.out.2.1 u hu;rfl) (by have:=HKK.out;omega) HNW.out.2.2.2 ?_;(go_simp);(go_simp);obtain ⟨z0,z1,z2⟩:=(show MidC w p5 g n c8 xs wi idx ch (wi.heap.size+1) (some ⟨gp,0,none⟩) m d8 wc.drew from HMI.out.drew 1).deleted rfl hm0 (k * 3) HNW.out.2.1 (m':=k+(m - k1)) (by have:=HKK.out;omega))
      refine hK.out _ _ ?_ (fun zH_=>?_)
      ·(try dsimp only);exact ⟨by rw[Nat.zero_add];exact z0,rfl⟩
      clear hK K
      try simp only[ps]
      refine tkB0 15 ?v29 rfl (by as_aux_lemma=>kernel_rfl) (.inl ⟨by rfl,?y29⟩) zH_ ?_
      case y29=>(intro w hSw;(try dsimp only at hSw);go_simp;try with_reducible rfl)
      try simp only[ps]
      refine tkB0 16 ?v30 rfl (by as_aux_lemma=>kernel_rfl) (.inl ⟨by rfl,?y30⟩) zH_ ?_
      case y30=>(intro w hSw;(try dsimp only at hSw);go_simp;try with_reducible rfl)
      try simp only[ps]
      refine zZ (rs:=[17]) (by as_aux_lemma=>kernel_rfl) (by simp) ?_
      intro i hi;obtain rfl:i=17:=by simpa using hi
      refine wpOp_step (o:=_) rfl (fun K hK=>?_)
      go_simp
      refine hK _ _ ⟨not_after (by as_aux_lemma=>kernel_rfl),anyB_free _ _ _ _ (by as_aux_lemma=>kernel_rfl) ?_⟩
      clear hK K
      (try clear zH_)
      try simp only[ps]
      refine wpAny_done (by as_aux_lemma=>kernel_rfl) ?_ _
      go_wp2
      go_meet
      simp only[hcap] at z2
      exact z2
     ·obtain ⟨news,n1,n2,n3,n4⟩:=(HMI.out.drew 1).news rfl hk1 hk hmd (ad:=⟨gp,k1 * 3,none⟩) (by constructor <;> intro hx <;> first|rfl|exact absurd hx hcap|exact absurd hcap hx)
      have HNW:=zh (And.intro n1 (And.intro n2 (And.intro n3 n4)))
      clear n1 n2 n3 n4 hk1
      go_upto_region 27 with fail
      refine yD (S:=(fun w'=>(w'.cell? ⟨g,idx * 5+4,none⟩=some (.slice (some ⟨gp,0,none⟩) m d8))∧Hid (0=0))) 17 (by as_aux_lemma=>kernel_rfl) ?_ (fun zH_=>?_)
      ·(try dsimp only);exact ⟨HC.out.2.1.2.2.2.2,rfl⟩
      refine tkB0 0 ?v31 rfl (by as_aux_lemma=>kernel_rfl) (.inl ⟨by rfl,?y31⟩) zH_ ?_
      case y31=>(intro w hSw;(try dsimp only at hSw);go_simp;try with_reducible rfl)
      try simp only[ps]
      refine tkB0 1 ?v32 rfl (by as_aux_lemma=>kernel_rfl) (.inl ⟨by rfl,?y32⟩) zH_ ?_
      case y32=>(intro w hSw;(try dsimp only at hSw);go_simp;try with_reducible rfl)
      try simp only[ps]
      refine tkB0 2 ?v33 rfl (by as_aux_lemma=>kernel_rfl) (.inl ⟨by rfl,?y33⟩) zH_ ?_
      case y33=>(intro w hSw;(try dsimp only at hSw);go_simp;try with_reducible rfl)
      try simp only[ps]
      refine tkB0 3 ?v34 rfl (by as_aux_lemma=>kernel_rfl) (.inl ⟨by rfl,?y34⟩) zH_ ?_
      case y34=>(intro w hSw;(try dsimp only at hSw);go_simp;try with_reducible rfl)
      try simp only[ps]
      refine tkB 4 ?v35 rfl (by as_aux_lemma=>kernel_rfl) (.inl ⟨by rfl,?y35⟩) zH_ ?_
      case y35=>(intro w hSw;(try dsimp only at hSw);go_simp;try with_reducible rfl)
      try simp only[ps]
      refine tkB0 5 ?v36 rfl (by as_aux_lemma=>kernel_rfl) (.inl ⟨by rfl,?y36⟩) zH_ ?_
      case y36=>(intro w hSw;(try dsimp only at hSw);go_simp;try with_reducible rfl)
      try simp only[ps]
      refine tkB0 6 ?v37 rfl (by as_aux_lemma=>kernel_rfl) (.inl ⟨by rfl,?y37⟩) zH_ ?_
      case y37=>(intro w hSw;(try dsimp only at hSw);go_simp;try with_reducible rfl)
      try simp only[ps]
      refine tkB0 7 ?v38 rfl (by as_aux_lemma=>kernel_rfl) (.inl ⟨by rfl,?y38⟩) zH_ ?_
      case y38=>(intro w hSw;(try dsimp only at hSw);go_simp;try with_reducible rfl)
      try simp only[ps]
      refine tkB0 8 ?v39 rfl (by as_aux_lemma=>kernel_rfl) (.inl ⟨by rfl,?y39⟩) zH_ ?_
      case y39=>(intro w hSw;(try dsimp only at hSw);go_simp;try with_reducible rfl)
      try simp only[ps]
      refine tkB0 9 ?v40 rfl (by as_aux_lemma=>kernel_rfl) (.inl ⟨by rfl,?y40⟩) zH_ ?_
      case y40=>(intro w hSw;(try dsimp only at hSw);go_simp;try with_reducible rfl)
      try simp only[ps]
      refine tkB 10 ?v41 rfl (by as_aux_lemma=>kernel_rfl) (.inl ⟨by rfl,?y41⟩) zH_ ?_
      case y41=>(intro w hSw;(try dsimp only at hSw);go_simp;try with_reducible rfl)
      try simp only[ps]
      refine tkB0 11 ?v42 rfl (by as_aux_lemma=>kernel_rfl) (.inl ⟨by rfl,?y42⟩) zH_ ?_
      case y42=>(intro w hSw;(try dsimp only at hSw);go_simp;try with_reducible rfl)
      try simp only[ps]
      refine tkB0 12 ?v43 rfl (by as_aux_lemma=>kernel_rfl) (.inl ⟨by rfl,?y43⟩) zH_ ?_
      case y43=>(intro w hSw;(try dsimp only at hSw);go_simp;try with_reducible rfl)
      try simp only[ps]
      refine tkB0 13 ?v44 rfl (by as_aux_lemma=>kernel_rfl) (.inl ⟨by rfl,?y44⟩) zH_ ?_
      case y44=>(intro w hSw;(try dsimp only at hSw);go_simp;try with_reducible rfl)
      try simp only[ps]
      refine zZ (rs:=[14]) (by as_aux_lemma=>kernel_rfl) (by simp) ?_
      refine (AllReadyB.cons rfl (fun K hK=>?_) AllReadyB.nil)
      (obtain ⟨i0,hi0,hi1⟩:=part_info;refine step_append_room rfl (.tmp 185) (.tmp 192) 63 rfl 121 i0 3 Tryz.underlying63 hi0 hi1 gp 0 k d8 ?_ ⟨gp,k1 * 3,none⟩ (m - k1) (d8 - k1) news ?_ HNW.out.1 HNW.out.2.2.1 (fun u hu=>by obtain ⟨_,_,rfl⟩:=HNW.out.2.1 u hu;rfl) (by have:=HKK.out;omega) HNW.out.2.2.2 ?_;(go_simp);(go_simp);obtain ⟨z0,z1,z2⟩:=(show MidC w p5 g n c8 xs wi idx ch (wi.heap.size+1) (some ⟨gp,0,none⟩) m d8 wc.drew from HMI.out.drew 1).deleted rfl hm0 (k * 3) HNW.out.2.1 (m':=k+(m - k1)) (by have:=HKK.out;omega))
      refine hK.out _ _ ?_ (fun zH_=>?_)
      ·(try dsimp only);exact ⟨by rw[Nat.zero_add];exact z0,rfl⟩
      clear hK K
      try simp only[ps]
      refine tkB0 15 ?v45 rfl (by as_aux_lemma=>kernel_rfl) (.inl ⟨by rfl,?y45⟩) zH_ ?_
      case y45=>(intro w hSw;(try dsimp only at hSw);go_simp;try with_reducible rfl)
      try simp only[ps]
      refine tkB0 16 ?v46 rfl (by as_aux_lemma=>kernel_rfl) (.inl ⟨by rfl,?y46⟩) zH_ ?_
      case y46=>(intro w hSw;(try dsimp only at hSw);go_simp;try with_reducible rfl)
      try simp only[ps]
      refine zZ (rs:=[17]) (by as_aux_lemma=>kernel_rfl) (by simp) ?_
      intro i hi;obtain rfl:i=17:=by simpa using hi
      refine wpOp_step (o:=_) rfl (fun K hK=>?_)
      go_simp
      refine hK _ _ ⟨not_after (by as_aux_lemma=>kernel_rfl),anyB_free _ _ _ _ (by as_aux_lemma=>kernel_rfl) ?_⟩
      clear hK K
      (try clear zH_)
      try simp only[ps]
      refine wpAny_done (by as_aux_lemma=>kernel_rfl) ?_ _
      go_wp2
      go_meet
      exact z2
    ·have hdt:decide ((0:Int)<(m:Int))=false:=decide_eq_false (by omega)
     have hm00:m=0:=by omega
     subst hm00
     go_wp2
     go_meet
     exact HMI.out.done
   ·as_aux_lemma =>
    have c1:=HC.out.2.1.2.2.2.2
    have c2:=HC.out.2.2.1.2.2.2
    have b2:=HCB.out
    by_cases hm0:0<m
    ·obtain ⟨gp,hAp,hgp,hgp2,hmd,hpc,hpf⟩:=HMI.out.par.at_ hm0
     have HAP:=zh hAp
     obtain rfl:B8=some ⟨gp,0,none⟩:=hAp
     have hk:=hkm hm0
     obtain ⟨kv,hkv,v1⟩:=hpc (k * 3+2) (by omega)
     have v2:=hpf (k * 3+2)
     have hdt:decide ((0:Int)<(m:Int))=true:=decide_eq_true (by omega)
     have hmp:(0:Int)<(m:Int):=by omega
     have e1:(0:Int)≤(k:Int):=by omega
     have e2:(k:Int)<(m:Int):=by omega
     clear hpc hpf
     go_upto_region 30 with fail
     go_region
     go_wp2
     go_meet
     exact HMI.out.endp rfl hm0 (k * 3+2) ⟨_,HCB.out.2.2.2,rfl⟩
    ·have hdt:decide ((0:Int)<(m:Int))=false:=decide_eq_false (by omega)
     have hm00:m=0:=by omega
     subst hm00
     go_wp2
     go_meet
     exact HMI.out.done
   ·as_aux_lemma =>
    have c1:=HC.out.2.1.2.2.2.2
    have c2:=HC.out.2.2.1.2.2.2
    have b2:=HCB.out
    by_cases hm0:0<m
    ·obtain ⟨gp,hAp,hgp,hgp2,hmd,hpc,hpf⟩:=HMI.out.par.at_ hm0
     have HAP:=zh hAp
     obtain rfl:B8=some ⟨gp,0,none⟩:=hAp
     have hk:=hkm hm0
     obtain ⟨kv,hkv,v1⟩:=hpc (k * 3+1) (by omega)
     have v2:=hpf (k * 3+1)
     have hdt:decide ((0:Int)<(m:Int))=true:=decide_eq_true (by omega)
     have hmp:(0:Int)<(m:Int):=by omega
     have e1:(0:Int)≤(k:Int):=by omega
     have e2:(k:Int)<(m:Int):=by omega
     clear hpc hpf
     go_upto_region 13 with fail
     go_region
     go_wp2
     go_meet
     exact HMI.out.endp rfl hm0 (k * 3+1) (u8_mod _)
    ·have hdt:decide ((0:Int)<(m:Int))=false:=decide_eq_false (by omega)
     have hm00:m=0:=by omega
     subst hm00
     go_wp2
     go_meet
     exact HMI.out.done
  case rest =>
  obtain ⟨xs',hst'⟩:=hcut.out
  have HFI:=zh hst'
  clear hst'
  go_wp2
  go_roundw
  case rel=>exact ⟨i+1,xs',by omega,by go_num,HFI.out⟩
  case measure=>simp[intOf];omega
end Go.Proofs.YtkhpajneinmmiaaGreatDoor


