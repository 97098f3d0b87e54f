/-
  The law LiteralRestored (sheave/sheavelaw12): Parse restores each value that is made by a draft from the text that Format returns for it; for all arguments the call returns true, and the arguments read as before. Its conditions: none beside the row's own (the listed variables of the program and of Go's library hold what their text lays).
-/
import Derived.Test.YthkkllmmbefedaaGreatDoorQGN4
import Derived.Test.YthkkllmmbefedaaGreatDoorQGB0
import Derived.Test.YthkkllmmbefedaaGreatDoorQGN5
import Derived.Deep.DeepWitnessRowRef
namespace Go.Proofs.YthkkllmmbefedaaGreatDoor.literalRestored
open Go.ChangeShapes Go.WideShapes Go.ChangeAt Go.RowKit
set_option maxRecDepth 100000
theorem qg:YS Tryz.f4.params.toList:=by
 rw[Tryz.params4]
 intro t ht
 simp only[AAi,List.mem_nil_iff,or_false] at ht;subst ht;exact ⟨by kernel_rfl,AAe (by kernel_rfl)⟩
theorem contract (H:Type) (enc:TypeId×Value->H) (W:World) (base:Nat) (args:Array Value) (ds gs:List (DataW H)) (before:List MemPlace)
  (hval:∀ (j:Nat) t v,Tryz.f4.params[j]? = some t->args[j]? = some v->Value.okWide Tryz.prog W .any base t v)
  (hW:DataW.Whole enc Tryz.prog Tryz.f4.params.toList Rows.literalRestoredSpec.vars false W args.toList ds gs before) (rs:List TypeId)
  (hwt:(DataW.weightsEach Tryz.prog (Tryz.f4.params.toList++rs) (ds++gs)).all (· <= reachBytes)=true) (hL:laidMetH Tryz.prog Rows.literalRestoredRow.laid W) :
  Calls Tryz.prog 4 args W fun e W'=>∃v,e = .returned v/\Rows.literalRestoredSpec.post enc Tryz.prog Tryz.f4 false true false false W args v W':=by
 have hW':=hW;obtain ⟨p,q,hA0,hV,rfl,hfz,hnd⟩:=hW;have hA:DataW.TrodAll enc Tryz.prog W 0 (fun _=>true) true Tryz.f4.params.toList args.toList ds p:=hA0
 have hw:∀w∈DataW.weightsEach Tryz.prog (Tryz.f4.params.toList++rs) (ds++gs),w<=reachBytes:=fun w h=>AAe (AAj.1 hwt w h)
 rw[Tryz.params4] at hA hval hw;obtain ⟨v0,vs0,d0_,ds0,p0,q0,hargs,rfl,rfl,h0,r0⟩:=trodAll_cons hA;obtain ⟨rfl,rfl,rfl⟩:=trodAll_nil r0;obtain rfl:args = #[v0]:=by cases args;simp_all
 obtain ⟨A0,c0,s0,k0,B0,b0,l0,rfl,hr0⟩:=Rs (hval 0 42 v0 rfl rfl) h0 (Jq hw 0 _ _ rfl rfl);obtain ⟨hE,SA,sc,hS⟩:=Uj hL;refine (OB s0 k0 l0 A0 c0 B0 b0 W hr0 hE hS).mono fun e W' ⟨he,hb⟩=>?_
 subst he;exact ⟨_,rfl,gP rfl rfl ⟨rfl,rfl,rfl⟩ qg hW' hb⟩
abbrev wv:Array Value:=#[(.agg #[.slice none 0 0,.int .u8 0,.slice none 0 0]:Value)]
theorem gQ (os:Os):laidMet Tryz.prog Rows.literalRestoredRow.laid ((M8 os).forCall (fun _ _=>0) ⟨#[],wv,[]⟩).memory :=
 laidMet_of_run' 8 (by kernel_rfl) (by kernel_rfl)
theorem reads (os:Os) {H:Type} (enc:TypeId×Value->H):∃places,DataW.whole enc Tryz.prog ((M8 os).forCall (fun _ _=>0) ⟨#[],wv,[]⟩).memory Tryz.f4.params.toList Rows.literalRestoredSpec.vars false wv.toList 8=some ([.agg [.agg [.nil],.lit (.int .u8 0),.nil]],[],places) :=
 ⟨[],by kernel_rfl⟩
theorem lifted (os:Os) (started:os.Started) (H:Type) (enc:TypeId×Value->H) (F:Stop.Interp) :
  ReturnsInHanded {} Tryz.checked os 4 .any ((OpenSpec.ofChange Rows.literalRestoredSpec).preRow enc Tryz.prog Tryz.f4 Rows.literalRestoredRow.domain false Rows.literalRestoredRow.laid) (((OpenSpec.ofChange Rows.literalRestoredSpec).at F).post enc Tryz.prog Tryz.f4 false true false false):=by
 obtain ⟨places,hx⟩:=reads os enc;refine returnsInHanded_of_row (C:=Tryz.checked) (s:=OpenSpec.ofChange Rows.literalRestoredSpec) own started (by kernel_rfl) Tryz.func4
  (witness_row_atRef (enc:=enc) (C:=Tryz.checked) false (M8 os) wv rfl (by kernel_rfl) (by kernel_rfl) (by kernel_rfl)
   (OpenSpec.preRow_of_cond 8 hx (by kernel_rfl) (fun k hk=>by cases hk) (by kernel_rfl) (gQ os))) ?_
 intro W base args ds gs before hval hW _ _ hwt hL _ _
 exact contract H enc W base args ds gs before hval hW _ hwt hL
theorem said:Rows.LiteralRestoredSaid :=
 OpenClaim.holds_of_cond 4 Tryz.f4 rfl rfl rfl rfl rfl rfl rfl ⟨rfl,rfl,rfl,rfl,rfl⟩ rfl rfl rfl rfl rfl (by kernel_rfl) Tryz.func4 (by kernel_rfl)
  (AAe (by kernel_rfl)) (by unfold Func.isWrapper;first|(rw[AAH (by decide +kernel)];kernel_rfl)|(rw[Pd (by decide +kernel)];exact ⟨rfl,rfl⟩))
  (fun os started H enc _ F=>by rw[OpenClaim.pre_eq_preRow];exact lifted os started H enc F)
theorem plain (f : FuncId) (fn : Func) (hf : Tryz.pinned.checked.prog.funcNamed "sheave/sheavelaw12.LiteralRestored" = some f) (hfn : Tryz.pinned.checked.prog.funcs[f]? = some fn) :
  true=Tryz.pinned.checked.prog.looks []/\∀ (j:Nat) t,fn.params[j]? = some t->Tryz.pinned.checked.prog.wantsStandIn t=false:=by
 obtain rfl : f = 4 := AAh ((show Tryz.prog.funcNamed "sheave/sheavelaw12.LiteralRestored" = some 4 by kernel_rfl).symm.trans hf) |>.symm
 obtain rfl:fn=Tryz.f4:=(AAh (Tryz.func4.symm.trans hfn)).symm;refine ⟨by kernel_rfl,fun j t ht=>?_⟩
 rw[Tryz.params4] at ht;have hm:=Array.mem_of_getElem? ht;simp only[List.mem_toArray,AAi,List.mem_nil_iff,or_false] at hm;subst hm;exact (show Tryz.prog.wantsStandIn 42=false by kernel_rfl)
theorem card:Rows.LiteralRestoredCardSaid :=
 Claim7.holds_tied_plain_at .later [] _ _ _ _ said (fun _ h=>by cases h) (by kernel_rfl) (fun _ h=>by cases h) literalRestored_row_tie rfl ⟨rfl,rfl⟩ (by kernel_rfl) rfl plain (by kernel_rfl)
end Go.Proofs.YthkkllmmbefedaaGreatDoor.literalRestored



