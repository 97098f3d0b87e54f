/-
  The law LiteralSpace (sheave/sheavelaw12): white space and comments between tokens do not matter (texts of up to 600 bytes); for all arguments the call returns true, and the arguments read as before. Its conditions: none beside the row's own (the listed variables of the program and of Go's library hold what their text lays).
-/
import Derived.Test.YthkkllmmbefedaaGreatDoorQSXLS
import Derived.Test.YthkkllmmbefedaaGreatDoorQLLS
import Derived.Test.YthkkllmmbefedaaGreatDoorQGB0
import Derived.Test.YthkkllmmbefedaaGreatDoorQGU0
import Derived.Deep.DeepWitnessRowRef
namespace Go.Proofs.YthkkllmmbefedaaGreatDoor.literalSpace
open Go.ChangeShapes Go.WideShapes Go.ChangeAt Go.RowKit
set_option maxRecDepth 100000
theorem stays_:Stays Tryz.f7.params.toList:=by
 rw[Tryz.params7]
 intro t ht
 simp only[List.mem_cons,List.mem_nil_iff,or_false] at ht
 rcases ht with rfl|rfl|rfl
 ·exact ⟨by kernel_rfl,of_decide_eq_true (by kernel_rfl)⟩
 ·exact ⟨by kernel_rfl,of_decide_eq_true (by kernel_rfl)⟩
 ·exact ⟨by kernel_rfl,of_decide_eq_true (by kernel_rfl)⟩
theorem contract (H:Type) (enc:TypeId×Value→H) (W:World) (base:Nat) (args:Array Value) (ds gs:List (DataW H)) (before:List MemPlace)
  (hval:∀ (j:Nat) t v,Tryz.f7.params[j]? = some t→args[j]? = some v→Value.okWide Tryz.prog W .any base t v)
  (hW:DataW.Whole enc Tryz.prog Tryz.f7.params.toList Rows.literalSpaceSpec.vars false W args.toList ds gs before) (rs:List TypeId)
  (hwt:(DataW.weightsEach Tryz.prog (Tryz.f7.params.toList++rs) (ds++gs)).all (· ≤ reachBytes)=true) (hL:laidMetH Tryz.prog Rows.literalSpaceRow.laid W) :
  Calls Tryz.prog 7 args W fun e W'=>∃v,e = .returned v∧Rows.literalSpaceSpec.post enc Tryz.prog Tryz.f7 false true false false W args v W':=by
 have hW':=hW;obtain ⟨p,q,hA0,hV,rfl,hfz,hnd⟩:=hW;have hA:DataW.TrodAll enc Tryz.prog W 0 (fun _=>true) true Tryz.f7.params.toList args.toList ds p:=hA0
 have hw:∀w∈DataW.weightsEach Tryz.prog (Tryz.f7.params.toList++rs) (ds++gs),w≤reachBytes:=fun w h=>of_decide_eq_true (List.all_eq_true.1 hwt w h)
 rw[Tryz.params7] at hA hval hw;obtain ⟨v0,vs0,d0_,ds0,p0,q0,hargs,rfl,rfl,h0,r0⟩:=trodAll_cons hA;obtain ⟨v1,vs1,d1_,ds1,p1,q1,rfl,rfl,rfl,h1,r1⟩:=trodAll_cons r0;obtain ⟨v2,vs2,d2_,ds2,p2,q2,rfl,rfl,rfl,h2,r2⟩:=trodAll_cons r1;obtain ⟨rfl,rfl,rfl⟩:=trodAll_nil r2;obtain rfl:args = #[v0,v1,v2]:=by cases args;simp_all
 obtain ⟨A0,c0,s0,rfl,hr0⟩:=open_draftA (hval 0 24 v0 rfl rfl) h0 (sz_each hw 0 _ _ rfl rfl);obtain ⟨s1,rfl,hs1⟩:=open_strA (hval 1 9 v1 rfl rfl) h1 (sz_each hw 1 _ _ rfl rfl);obtain ⟨A2,c2,s2,rfl,hr2⟩:=open_u8sA (hval 2 40 v2 rfl rfl) h2 (sz_each hw 2 _ _ rfl rfl);obtain ⟨hE,SA,sc,hS⟩:=env_of_laid hL;refine (lawSpace_any s0 s1 s2 A0 c0 A2 c2 W hr0 hs1 hr2 hE hS).mono fun e W' ⟨he,hb⟩=>?_
 subst he;exact ⟨_,rfl,law_post rfl rfl ⟨rfl,rfl,rfl⟩ stays_ hW' hb⟩
abbrev wv:Array Value:=#[(.agg #[.slice none 0 0]:Value),(.string ⟨#[]⟩:Value),(.slice none 0 0:Value)]
theorem laid_met (os:Os):laidMet Tryz.prog Rows.literalSpaceRow.laid ((laidWorld os).forCall (fun _ _=>0) ⟨#[],wv,[]⟩).memory :=
 laidMet_of_run' 8 (by kernel_rfl) (by kernel_rfl)
theorem reads (os:Os) {H:Type} (enc:TypeId×Value→H):∃places,DataW.whole enc Tryz.prog ((laidWorld os).forCall (fun _ _=>0) ⟨#[],wv,[]⟩).memory Tryz.f7.params.toList Rows.literalSpaceSpec.vars false wv.toList 8=some ([.agg [.nil],.lit (.string []),.nil],[],places) :=
 ⟨[],by kernel_rfl⟩
theorem lifted (os:Os) (started:os.Started) (H:Type) (enc:TypeId×Value→H) (F:Stop.Interp) :
  ReturnsInHanded {} Tryz.checked os 7 .any ((OpenSpec.ofChange Rows.literalSpaceSpec).preRow enc Tryz.prog Tryz.f7 Rows.literalSpaceRow.domain false Rows.literalSpaceRow.laid) (((OpenSpec.ofChange Rows.literalSpaceSpec).at F).post enc Tryz.prog Tryz.f7 false true false false):=by
 obtain ⟨places,hx⟩:=reads os enc;refine returnsInHanded_of_row (C:=Tryz.checked) (s:=OpenSpec.ofChange Rows.literalSpaceSpec) own started (by kernel_rfl) Tryz.func7
  (witness_row_atRef (enc:=enc) (C:=Tryz.checked) false (laidWorld os) wv rfl (by kernel_rfl) (by kernel_rfl) (by kernel_rfl)
   (OpenSpec.preRow_of_cond 8 hx (by kernel_rfl) (fun k hk=>by cases hk) (by kernel_rfl) (laid_met os))) ?_
 intro W base args ds gs before hval hW _ _ hwt hL _ _
 exact contract H enc W base args ds gs before hval hW _ hwt hL
theorem said:Rows.LiteralSpaceSaid :=
 OpenClaim.holds_of_cond 7 Tryz.f7 rfl rfl rfl rfl rfl rfl rfl ⟨rfl,rfl,rfl,rfl,rfl⟩ rfl rfl rfl rfl rfl (by kernel_rfl) Tryz.func7 (by kernel_rfl)
  (of_decide_eq_true (by kernel_rfl)) (by unfold Func.isWrapper;first|(rw[if_pos (by decide +kernel)];kernel_rfl)|(rw[if_neg (by decide +kernel)];exact ⟨rfl,rfl⟩))
  (fun os started H enc _ F=>by rw[OpenClaim.pre_eq_preRow];exact lifted os started H enc F)
theorem plain (f : FuncId) (fn : Func) (hf : Tryz.pinned.checked.prog.funcNamed "sheave/sheavelaw12.LiteralSpace" = some f) (hfn : Tryz.pinned.checked.prog.funcs[f]? = some fn) :
  true=Tryz.pinned.checked.prog.looks []∧∀ (j:Nat) t,fn.params[j]? = some t→Tryz.pinned.checked.prog.wantsStandIn t=false:=by
 obtain rfl : f = 7 := Option.some.inj ((show Tryz.prog.funcNamed "sheave/sheavelaw12.LiteralSpace" = some 7 by kernel_rfl).symm.trans hf) |>.symm
 obtain rfl:fn=Tryz.f7:=(Option.some.inj (Tryz.func7.symm.trans hfn)).symm;refine ⟨by kernel_rfl,fun j t ht=>?_⟩
 rw[Tryz.params7] at ht;have hm:=Array.mem_of_getElem? ht;simp only[List.mem_toArray,List.mem_cons,List.mem_nil_iff,or_false] at hm
 rcases hm with rfl|rfl|rfl
 ·exact (show Tryz.prog.wantsStandIn 24=false by kernel_rfl)
 ·exact (show Tryz.prog.wantsStandIn 9=false by kernel_rfl)
 ·exact (show Tryz.prog.wantsStandIn 40=false by kernel_rfl)
theorem card:Rows.LiteralSpaceCardSaid :=
 Claim7.holds_tied_plain_at .later [] _ _ _ _ said (fun _ h=>by cases h) (by kernel_rfl) (fun _ h=>by cases h) literalSpace_row_tie rfl ⟨rfl,rfl⟩ (by kernel_rfl) rfl plain (by kernel_rfl)
end Go.Proofs.YthkkllmmbefedaaGreatDoor.literalSpace


