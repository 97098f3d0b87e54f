/-
  Walks: the chapter's words.
-/
import Derived.Test.YthkkllmmbefedaaGreatDoorQSXLT
import Derived.Test.YthkkllmmbefedaaGreatDoorQGA2
import Derived.Test.YthkkllmmbefedaaGreatDoorQGA7
import Derived.Test.YthkkllmmbefedaaGreatDoorQGA4
import Derived.Test.YthkkllmmbefedaaGreatDoorQGA5
import Derived.Laws.OwnMore
namespace Go.Proofs.YthkkllmmbefedaaGreatDoor
open Go.RowKit
set_option maxHeartbeats 16000000
set_option maxRecDepth 100000
theorem cloneToken_any (css:List (List Value)) (hk:∀cs∈css,cs.length=5) (h1:∀cs∈css,∀u∈cs,u.oneCell'=true) (hn:Lim 56 css.length) (A:zo) (c:Nat) (w:World) (hA:css≠[]→∃b o,A=some ⟨b,o,none⟩∧w.rangeAt b o css.flatten) :
  Calls Tryz.prog 32 #[.slice A css.length c] w (ClonePost 59 5 css w):=by
 have HA:=zh hA
 cases A with
 | none =>
  have hln:css=[]:=by
   by_cases e:css=[]
   ·exact e
   ·obtain ⟨b,o,e2,_⟩:=hA e;cases e2
  subst hln;clear hA hk h1 hn;have hnil:=fun (w:World)=>Lib.run_eql_slice_nil (P:=Tryz.prog) w 50 59 none 0 c 0 0 Tryz.underlying50
  go_enter Tryz.func32,Tryz.ntmps32
  go_wp2
  go_ret
  exact ⟨_,rfl,OwnL.nil _ _,Below.refl _ _⟩
 | some a =>
  have HK:=zh (show css.flatten.length=css.length * 5 from flatten_len css hk);have HR:Hid (∀j u,css.flatten[j]? = some u→(w.alloc (.cells #[] 59)).cell? (a.add j)=some u):=fun j u hj=>by
   have hne:css≠[]:=fun e=>by subst e;simp at hj
   obtain ⟨b,o,e,hr⟩:=hA hne
   cases e
   rw[Addr.add_mid];exact range_below (zD w _) hr j u hj
  have H1:Hid (∀u∈css.flatten,u.oneCell'=true):=fun u hu=>by
   obtain ⟨cs,h2,h3⟩:=List.mem_flatten.1 hu;exact h1 cs h2 u h3
  have HN:Hid (0+css.length≤9223372036854775807):=by have:=hn;unfold Lim at this;show 0+css.length≤9223372036854775807;omega
  have HN2:Hid ((0+css.length) * 56≤140737488355328):=by have:=hn;unfold Lim at this;show (0+css.length) * 56≤140737488355328;omega
  clear hA hk h1 hn;have hnil:=fun (w:World)=>Lib.run_eql_slice_nil (P:=Tryz.prog) w 50 59 (some a) css.length c 0 0 Tryz.underlying50
  have HO:Hid (OwnC 59 5 (w.alloc (.cells #[] 59)) w.heap.size (.slice (some ⟨w.heap.size,0,none⟩) 0 0) []):=own_empty w _ _ _ (Nat.le_refl _)
  go_enter Tryz.func32,Tryz.ntmps32
  go_wp2_with (at_builtin;refine wpList_append_a elem_tok _ rfl (.tmp 5) (.tmp 6) rfl w.heap.size _ 0 [] rfl ?_ a css.length c css.flatten rfl ?_ ?_ ?_ ?_ ?_ ?_ ?_;(exact HO.out);(exact HK.out);(exact HR.out);(exact H1.out);(exact HN.out);(exact HN2.out);(simp);intro v2 w2 ho2 hg2)
  go_ret
  refine ⟨_,rfl,?_,((zD w _)).grown hg2 (by simp) HO.out.lt⟩
  show World.ownsRow _ _ _ _ _ _ _
  rw[flatMap_self];rw[Nat.zero_add,List.nil_append] at ho2;exact ho2
theorem encT_one (t:TokD):(encT t).length=5∧∀u∈encT t,u.oneCell'=true:=⟨rfl,fun u hu=>by
 simp only[encT,List.mem_cons,List.mem_nil_iff,or_false] at hu
 rcases hu with rfl|rfl|rfl|rfl|rfl <;> rfl⟩
theorem cloneTo (l:List TokD) (A:zo) (c:Nat) (w:World) (hl:ToksR w A l) :
  Calls Tryz.prog 32 #[.slice A l.length c] w fun e w'=>∃B d,e = .returned (.slice B l.length d)∧OwnT w' w.heap.size (.slice B l.length d) l∧Below w.heap.size w w':=by
 obtain ⟨css,h1,h2,h3,h4⟩:=RowsR.cells (fun x cs (h:TokD.At x cs)=>by rw[h.2];rfl) hl
 obtain rfl:css=l.map encT:=List.ext_getElem? fun i=>by
  by_cases hi:i<l.length
  ·rw[List.getElem?_map,zl hi,zl (by omega)]
   rw[(h2 i l[i] _ (zl hi) (zl (by omega))).2];rfl
  ·rw[List.getElem?_eq_none (by omega),List.getElem?_eq_none (by simp;omega)]
 have:=cloneToken_any (l.map encT) h3 (fun cs hc u hu=>by obtain ⟨t,_,rfl⟩:=List.mem_map.1 hc;exact (encT_one t).2 u hu) (by rw[h1];exact hl.1) A c w (fun hn=>h4 (fun e=>hn (by rw[e];rfl)))
 rw[h1] at this;refine this.mono ?_;rintro e w' ⟨v,rfl,ho,hb⟩;have ho':OwnT w' w.heap.size v l:=by
  have:w'.ownsRow w.heap.size 59 5 v (l.map encT).length ((l.map encT).flatMap (fun cs=>cs)):=ho
  rw[h1,flatMap_self] at this;exact this
 obtain ⟨B,d,rfl,_⟩:=OwnL.reads ho';exact ⟨B,d,rfl,ho',hb⟩
theorem flat_line:∀ (L:List TokD) (k:Nat) (hk:k<L.length),(L.flatMap encT).set (k * 5+4) (.int .i64 0)=(L.set k (stripT L[k])).flatMap encT
 | t::L,0,_=>rfl
 | t::L,k+1,hk=>by
  have:=flat_line L k (by simpa using hk)
  rw[List.flatMap_cons,List.set_append_right _ _ (by show 5≤_;omega),List.set_cons_succ,List.flatMap_cons,List.getElem_cons_succ,←this]
  congr 2
  show (k+1) * 5+4 - 5=_
  omega
theorem wd_at {w:World} {base:Nat} {A:zo} {c:Nat} {L:List TokD} (h:OwnT w base (.slice A L.length c) L) {k:Nat} (hk:k<L.length):∃g,A=some ⟨g,0,none⟩∧base≤g∧w.cell? ⟨g,k * 5+4,none⟩=some (.int .i64 L[k].line)∧w.frozen? ⟨g,k * 5+4,none⟩=false ∧
  OwnT (w.setCell ⟨g,k * 5+4,none⟩ (.int .i64 0)) base (.slice A L.length c) (L.set k (stripT L[k])):=by
 have hn:L≠[]:=fun e=>by subst e;simp at hk
 obtain ⟨A',c',e,_,_,hr⟩:=OwnL.reads h;obtain ⟨g,hA,hg,hrange⟩:=hr hn
 injection e with e1 _ _
 subst e1;subst hA;have hc:=range_flat (k:=5) (fun x=>rfl) hrange (zl hk) 4 _ rfl
 rw[Nat.zero_add] at hc;refine ⟨g,rfl,hg,hc,World.ownsRow.frozenAt h _,?_⟩;have hs:=(World.ownsRow.stored h (k * 5+4) (.int .i64 0)).1;rw[flat_line L k hk] at hs
 show World.ownsRow _ _ _ _ _ _ _
 rw[List.length_set];exact hs
theorem strip_set (L:List TokD) (k:Nat) (hk:k<L.length):(L.set k (stripT L[k])).map stripT=L.map stripT:=by
 rw[List.map_set];refine List.ext_getElem? fun i=>?_
 by_cases h:i=k
 ·subst h
  rw[List.getElem?_set_self (by simpa using hk),List.getElem?_map,zl hk]
  rfl
 ·rw[List.getElem?_set_ne (fun e=>h e.symm)]
def WrP (l:List TokD) (w:World) (e:Ending) (w':World):Prop:=∃B d L,e = .returned (.slice B L.length d)∧ToksR w' B L∧L.map stripT=l.map stripT∧Below w.heap.size w w'
theorem wd_end {l L:List TokD} (hl:∀t∈l,SOk t.text∧SOk t.str) (hn:Lim 56 l.length) {w w':World} {v:Value} (h:OwnT w' w.heap.size v L) (hs:L.map stripT=l.map stripT) (hb:Below w.heap.size w w'):WrP l w (.returned v) w':=by
 have hlen:L.length=l.length:=by have:=congrArg List.length hs;simpa using this
 obtain ⟨B,d,rfl,hr⟩:=OwnT.toks h (by rw[hlen];exact hn) fun t ht=>by
  have:stripT t∈l.map stripT:=by rw[←hs];exact List.mem_map_of_mem ht
  obtain ⟨u,hu,e⟩:=List.mem_map.1 this;unfold stripT at e
  injection e with _ e1 _ e2 _
  rw[←e1,←e2];exact hl u hu
 exact ⟨B,d,L,rfl,hr,hs,hb⟩
theorem words_any (l:List TokD) (A:zo) (c:Nat) (w:World) (hl:ToksR w A l):Calls Tryz.prog 22 #[.slice A l.length c] w (WrP l w):=by
 have HS:Hid (∀t∈l,SOk t.text∧SOk t.str):=fun t ht=>by
  obtain ⟨i,hi,rfl⟩:=List.getElem_of_mem ht;obtain ⟨_,_,_,_,h,_⟩:=RowsR.at_ hl hi;exact h.1
 have hnl:l.length≤140737488355328:=(hl.1:Lim 56 l.length).lt (by omega)
 have HN:=zh hl.1;have HL:=zh hl;clear hl
 go_enter Tryz.func22,Tryz.ntmps22
 go_wp2_with fail
 refine (cloneTo l A c _ HL.out).mono ?_;rintro e w1 ⟨B,d,rfl,ho,hb⟩;have HO:=zh ho;have HB:=zh hb;clear ho hb;go_wp2
 go_loopw [9] (fun i wr=>∃ (k:Nat) (L:List TokD),k≤l.length∧L.length=l.length∧i = .int .i64 k∧Hid (OwnT wr w.heap.size (.slice B L.length d) L∧L.map stripT=l.map stripT∧Below w.heap.size w wr)) (fun i _=>l.length - (intOf i).toNat)
 case atStart=>exact ⟨0,l,by omega,rfl,rfl,HO.out,rfl,HB.out⟩
 case round =>
  obtain ⟨k,L,hk,hLl,rfl,hh⟩:=hrel;obtain ⟨wo,rfl⟩:∃wo:World,wo=wr:=⟨_,rfl⟩;have HH:=zh hh.out;clear hh HO HB
  by_cases hlt:k<l.length
  ·have hlt':k<L.length:=by omega
   obtain ⟨g,rfl,hg,c0,f0,ho2⟩:=wd_at HH.out.1 hlt';have HO2:Hid (OwnT (wo.setCell ⟨g,k * 5+4,none⟩ (.int .i64 0)) w.heap.size (.slice (some ⟨g,0,none⟩) (L.set k (stripT L[k])).length d) (L.set k (stripT L[k]))∧(L.set k (stripT L[k])).map stripT=l.map stripT∧Below w.heap.size w (wo.setCell ⟨g,k * 5+4,none⟩ (.int .i64 0))) :=
    ⟨by rw[List.length_set];exact ho2,(strip_set L k hlt').trans HH.out.2.1,HH.out.2.2.setCell (p:=⟨g,k * 5+4,none⟩) hg _⟩
   have h1:(0:Int)≤(k:Int):=by omega
   have h2:(k:Int)<(l.length:Int):=by omega
   clear ho2;go_wp2;go_roundw
   case rel=>exact ⟨k+1,_,by omega,by rw[List.length_set];exact hLl,by go_num,HO2.out⟩
   case measure=>simp[intOf];omega
  ·go_wp2
   go_ret
   refine wd_end HS.out HN.out ?_ HH.out.2.1 HH.out.2.2;rw[←hLl];exact HH.out.1
end Go.Proofs.YthkkllmmbefedaaGreatDoor


