/-
  The law LiteralPrefix (sheave/sheavelaw12): Read restores a value that is made by a draft from the tokens of its text, whatever tokens follow (up to 20); for all arguments the call returns true, and the arguments read as before. Its conditions: none beside the row's own (the listed variables of the program and of Go's library hold what their text lays).
-/
import Derived.Test.YthkkllmmbefedaaGreatDoorQGN4
import Derived.Test.YthkkllmmbefedaaGreatDoorQGN5
import Derived.Deep.DeepWitnessRowRef
namespace Go.Proofs.YthkkllmmbefedaaGreatDoor.literalPrefix
open Go.ChangeShapes Go.WideShapes Go.ChangeAt Go.RowKit
set_option maxRecDepth 100000
theorem vF:Zp Tryz.f10.params.toList:=by
 rw[Tryz.params10]
 intro t ht
 simp only[ABP,List.mem_nil_iff,or_false] at ht
 rcases ht with rfl|rfl
 ·exact ⟨by kernel_rfl,AAr (by kernel_rfl)⟩
 ·exact ⟨by kernel_rfl,AAr (by kernel_rfl)⟩
theorem contract (H:Type) (enc:TypeId×Value->H) (W:World) (base:Nat) (args:Array Value) (ds gs:List (DataW H)) (before:List MemPlace)
  (hval:∀ (j:Nat) t v,Tryz.f10.params[j]? = some t->args[j]? = some v->Value.okWide Tryz.prog W .any base t v)
  (hW:DataW.Whole enc Tryz.prog Tryz.f10.params.toList Rows.literalPrefixSpec.vars false W args.toList ds gs before) (rs:List TypeId)
  (hwt:(DataW.weightsEach Tryz.prog (Tryz.f10.params.toList++rs) (ds++gs)).all (· <= reachBytes)=true) (hL:laidMetH Tryz.prog Rows.literalPrefixRow.laid W) :
  Calls Tryz.prog 10 args W fun e W'=>∃v,e = .returned v/\Rows.literalPrefixSpec.post enc Tryz.prog Tryz.f10 false true false false W args v W':=by
 have hW':=hW;obtain ⟨p,q,hA0,hV,rfl,hfz,hnd⟩:=hW;have hA:DataW.TrodAll enc Tryz.prog W 0 (fun _=>true) true Tryz.f10.params.toList args.toList ds p:=hA0
 have hw:∀w∈DataW.weightsEach Tryz.prog (Tryz.f10.params.toList++rs) (ds++gs),w<=reachBytes:=fun w h=>AAr (ABQ.1 hwt w h)
 rw[Tryz.params10] at hA hval hw;obtain ⟨v0,vs0,d0_,ds0,p0,q0,hargs,rfl,rfl,h0,r0⟩:=trodAll_cons hA;obtain ⟨v1,vs1,d1_,ds1,p1,q1,rfl,rfl,rfl,h1,r1⟩:=trodAll_cons r0;obtain ⟨rfl,rfl,rfl⟩:=trodAll_nil r1;obtain rfl:args = #[v0,v1]:=by cases args;simp_all
 obtain ⟨A0,c0,s0,k0,B0,b0,l0,rfl,hr0⟩:=S9 (hval 0 42 v0 rfl rfl) h0 (Iu hw 0 _ _ rfl rfl);obtain ⟨A1,c1,s1,rfl,hr1⟩:=Xh (hval 1 50 v1 rfl rfl) h1 (Iu hw 1 _ _ rfl rfl);obtain ⟨hE,SA,sc,hS⟩:=Vn hL;refine (Qr s0 k0 l0 s1 A0 c0 B0 b0 A1 c1 W hr0 hr1 hE hS).mono fun e W' ⟨he,hb⟩=>?_
 subst he;exact ⟨_,rfl,kW rfl rfl ⟨rfl,rfl,rfl⟩ vF hW' hb⟩
abbrev wv:Array Value:=#[(.agg #[.slice none 0 0,.int .u8 0,.slice none 0 0]:Value),(.slice none 0 0:Value)]
theorem kX (os:Os):laidMet Tryz.prog Rows.literalPrefixRow.laid ((Nn os).forCall (fun _ _=>0) ⟨#[],wv,[]⟩).memory :=
 laidMet_of_run' 8 (by kernel_rfl) (by kernel_rfl)
theorem reads (os:Os) {H:Type} (enc:TypeId×Value->H):∃places,DataW.whole enc Tryz.prog ((Nn os).forCall (fun _ _=>0) ⟨#[],wv,[]⟩).memory Tryz.f10.params.toList Rows.literalPrefixSpec.vars false wv.toList 8=some ([.agg [.agg [.nil],.lit (.int .u8 0),.nil],.nil],[],places) :=
 ⟨[],by kernel_rfl⟩
theorem lifted (os:Os) (started:os.Started) (H:Type) (enc:TypeId×Value->H) (F:Stop.Interp) :
  ReturnsInHanded {} Tryz.checked os 10 .any ((OpenSpec.ofChange Rows.literalPrefixSpec).preRow enc Tryz.prog Tryz.f10 Rows.literalPrefixRow.domain false Rows.literalPrefixRow.laid) (((OpenSpec.ofChange Rows.literalPrefixSpec).at F).post enc Tryz.prog Tryz.f10 false true false false):=by
 obtain ⟨places,hx⟩:=reads os enc;refine returnsInHanded_of_row (C:=Tryz.checked) (s:=OpenSpec.ofChange Rows.literalPrefixSpec) own started (by kernel_rfl) Tryz.func10
  (witness_row_atRef (enc:=enc) (C:=Tryz.checked) false (Nn os) wv rfl (by kernel_rfl) (by kernel_rfl) (by kernel_rfl)
   (OpenSpec.preRow_of_cond 8 hx (by kernel_rfl) (fun k hk=>by cases hk) (by kernel_rfl) (kX os))) ?_
 intro W base args ds gs before hval hW _ _ hwt hL _ _
 exact contract H enc W base args ds gs before hval hW _ hwt hL
theorem said:Rows.LiteralPrefixSaid :=
 OpenClaim.holds_of_cond 10 Tryz.f10 rfl rfl rfl rfl rfl rfl rfl ⟨rfl,rfl,rfl,rfl,rfl⟩ rfl rfl rfl rfl rfl (by kernel_rfl) Tryz.func10 (by kernel_rfl)
  (AAr (by kernel_rfl)) (by unfold Func.isWrapper;first|(rw[AAB (by decide +kernel)];kernel_rfl)|(rw[Pd (by decide +kernel)];exact ⟨rfl,rfl⟩))
  (fun os started H enc _ F=>by rw[OpenClaim.pre_eq_preRow];exact lifted os started H enc F)
theorem plain (f : FuncId) (fn : Func) (hf : Tryz.pinned.checked.prog.funcNamed "sheave/sheavelaw12.LiteralPrefix" = some f) (hfn : Tryz.pinned.checked.prog.funcs[f]? = some fn) :
  true=Tryz.pinned.checked.prog.looks []/\∀ (j:Nat) t,fn.params[j]? = some t->Tryz.pinned.checked.prog.wantsStandIn t=false:=by
 obtain rfl : f = 10 := ABW ((show Tryz.prog.funcNamed "sheave/sheavelaw12.LiteralPrefix" = some 10 by kernel_rfl).symm.trans hf) |>.symm
 obtain rfl:fn=Tryz.f10:=(ABW (Tryz.func10.symm.trans hfn)).symm;refine ⟨by kernel_rfl,fun j t ht=>?_⟩
 rw[Tryz.params10] at ht;have hm:=Array.mem_of_getElem? ht;simp only[List.mem_toArray,ABP,List.mem_nil_iff,or_false] at hm
 rcases hm with rfl|rfl
 ·exact (show Tryz.prog.wantsStandIn 42=false by kernel_rfl)
 ·exact (show Tryz.prog.wantsStandIn 50=false by kernel_rfl)
theorem card:Rows.LiteralPrefixCardSaid :=
 Claim7.holds_tied_plain_at .later [] _ _ _ _ said (fun _ h=>by cases h) (by kernel_rfl) (fun _ h=>by cases h) literalPrefix_row_tie rfl ⟨rfl,rfl⟩ (by kernel_rfl) rfl plain (by kernel_rfl)
end Go.Proofs.YthkkllmmbefedaaGreatDoor.literalPrefix



