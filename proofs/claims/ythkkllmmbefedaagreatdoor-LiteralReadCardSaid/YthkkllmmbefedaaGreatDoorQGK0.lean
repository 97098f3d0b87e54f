/-
  Walks: slices.Clone of tokens.
-/
import Derived.Test.YthkkllmmbefedaaGreatDoorQSXRL
import Derived.Test.YthkkllmmbefedaaGreatDoorQGA2
import Derived.Test.YthkkllmmbefedaaGreatDoorQGA7
namespace Go.Proofs.YthkkllmmbefedaaGreatDoor
open Go.RowKit
set_option maxHeartbeats 16000000
set_option maxRecDepth 100000
theorem ABM (css:List (List Value)) (hk:∀cs∈css,cs.length=5) (h1:∀cs∈css,∀u∈cs,u.oneCell'=true) (hn:D9 56 css.length) (A:zo) (c:Nat) (w:World) (hA:css≠[]->∃b o,A=some ⟨b,o,none⟩/\w.rangeAt b o css.flatten) :
  Calls Tryz.prog 32 #[.slice A css.length c] w (RL 59 5 css w):=by
 have HA:=zh hA
 cases A with
 | none =>
  have hln:css=[]:=by
   by_cases e:css=[]
   ·exact e
   ·obtain ⟨b,o,e2,_⟩:=hA e;cases e2
  subst hln;clear hA hk h1 hn;have hnil:=fun (w:World)=>Lib.run_eql_slice_nil (P:=Tryz.prog) w 50 59 none 0 c 0 0 Tryz.underlying50
  go_enter Tryz.func32,Tryz.ntmps32
  go_wp2
  go_ret
  exact ⟨_,rfl,Ak.nil _ _,Pd _ _⟩
 | some a =>
  have HK:=zh (show css.flatten.length=css.length * 5 from FN css hk);have HR:Hid (∀j u,css.flatten[j]? = some u->(w.alloc (.cells #[] 59)).cell? (a.add j)=some u):=fun j u hj=>by
   have hne:css≠[]:=fun e=>by subst e;simp at hj
   obtain ⟨b,o,e,hr⟩:=hA hne
   cases e
   rw[Addr.add_mid];exact EG (zD w _) hr j u hj
  have H1:Hid (∀u∈css.flatten,u.oneCell'=true):=fun u hu=>by
   obtain ⟨cs,h2,h3⟩:=List.mem_flatten.1 hu;exact h1 cs h2 u h3
  have HN:Hid (0+css.length<=9223372036854775807):=by have:=hn;unfold D9 at this;show 0+css.length<=9223372036854775807;omega
  have mI:Hid ((0+css.length) * 56<=140737488355328):=by have:=hn;unfold D9 at this;show (0+css.length) * 56<=140737488355328;omega
  clear hA hk h1 hn;have hnil:=fun (w:World)=>Lib.run_eql_slice_nil (P:=Tryz.prog) w 50 59 (some a) css.length c 0 0 Tryz.underlying50
  have HO:Hid (XF 59 5 (w.alloc (.cells #[] 59)) w.heap.size (.slice (some ⟨w.heap.size,0,none⟩) 0 0) []):=Qe w _ _ _ (AAQ _)
  go_enter Tryz.func32,Tryz.ntmps32
  go_wp2_with (at_builtin;refine I7 U1 _ rfl (.tmp 5) (.tmp 6) rfl w.heap.size _ 0 [] rfl ?_ a css.length c css.flatten rfl ?_ ?_ ?_ ?_ ?_ ?_ ?_;(exact HO.out);(exact HK.out);(exact HR.out);(exact H1.out);(exact HN.out);(exact mI.out);(simp);intro v2 w2 ho2 hg2)
  go_ret
  refine ⟨_,rfl,?_,((zD w _)).grown hg2 (by simp) HO.out.lt⟩
  show World.ownsRow _ _ _ _ _ _ _
  rw[EZ];rw[Nat.zero_add,List.nil_append] at ho2;exact ho2
theorem ABY (t:AB):(Wp t).length=5/\∀u∈Wp t,u.oneCell'=true:=⟨rfl,fun u hu=>by
 simp only[Wp,AAf,List.mem_nil_iff,or_false] at hu
 rcases hu with rfl|rfl|rfl|rfl|rfl <;> rfl⟩
theorem ABb (l:List AB) (A:zo) (c:Nat) (w:World) (hl:JF w A l) :
  Calls Tryz.prog 32 #[.slice A l.length c] w fun e w'=>∃B d,e = .returned (.slice B l.length d)/\Sr w' w.heap.size (.slice B l.length d) l/\Below w.heap.size w w':=by
 obtain ⟨css,h1,h2,h3,h4⟩:=Ae.cells (fun x cs (h:AB.At x cs)=>by rw[h.2];rfl) hl
 obtain rfl:css=l.map Wp:=List.ext_getElem? fun i=>by
  by_cases hi:i<l.length
  ·rw[List.getElem?_map,zl hi,zl (by omega)]
   rw[(h2 i l[i] _ (zl hi) (zl (by omega))).2];rfl
  ·rw[List.getElem?_eq_none (by omega),List.getElem?_eq_none (by simp;omega)]
 have:=ABM (l.map Wp) h3 (fun cs hc u hu=>by obtain ⟨t,_,rfl⟩:=List.mem_map.1 hc;exact (ABY t).2 u hu) (by rw[h1];exact hl.1) A c w (fun hn=>h4 (fun e=>hn (by rw[e];rfl)))
 rw[h1] at this;refine this.mono ?_;rintro e w' ⟨v,rfl,ho,hb⟩;have ho':Sr w' w.heap.size v l:=by
  have:w'.ownsRow w.heap.size 59 5 v (l.map Wp).length ((l.map Wp).flatMap (fun cs=>cs)):=ho
  rw[h1,EZ] at this;exact this
 obtain ⟨B,d,rfl,_⟩:=Ak.reads ho';exact ⟨B,d,rfl,ho',hb⟩
theorem ABZ (l:List AB) (A:zo) (c:Nat) (w:World) (hl:JF w A l) :
  Calls Tryz.prog 32 #[.slice A l.length c] w fun e w'=>∃B d,e = .returned (.slice B l.length d)/\JF w' B l/\Below w.heap.size w w':=by
 refine (ABb l A c w hl).mono ?_;rintro e w' ⟨v,d,rfl,ho,hb⟩;obtain ⟨B,d,e,hr⟩:=Sr.toks ho hl.1 fun t ht=>by
  obtain ⟨i,hi,rfl⟩:=AAs ht;obtain ⟨_,_,_,_,h,_⟩:=Ae.at_ hl hi;exact h.1
 rw[e];exact ⟨B,d,rfl,hr,hb⟩
end Go.Proofs.YthkkllmmbefedaaGreatDoor



