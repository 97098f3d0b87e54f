/-
  The law LiteralPath (sheave/sheavelaw12): Path returns the text of any path in any value, or the specified error; different paths have different texts; for all arguments the call returns true, and the arguments read as before. Its conditions: none beside the row's own (the listed variables of the program and of Go's library hold what their text lays).
-/
import Derived.Test.YthkkllmmbefedaaGreatDoorQGN4
import Derived.Test.YthkkllmmbefedaaGreatDoorQGB0
import Derived.Test.YthkkllmmbefedaaGreatDoorQGN5
import Derived.Deep.DeepWitnessRowRef
namespace Go.Proofs.YthkkllmmbefedaaGreatDoor.literalPath
open Go.ChangeShapes Go.WideShapes Go.ChangeAt Go.RowKit
set_option maxRecDepth 100000
theorem ng:XP Tryz.f8.params.toList:=by
 rw[Tryz.params8]
 intro t ht
 simp only[AAr,List.mem_nil_iff,or_false] at ht
 rcases ht with rfl|rfl|rfl
 ·exact ⟨by kernel_rfl,AAu (by kernel_rfl)⟩
 ·exact ⟨by kernel_rfl,AAu (by kernel_rfl)⟩
 ·exact ⟨by kernel_rfl,AAu (by kernel_rfl)⟩
theorem contract (H:Type) (enc:TypeId×Value->H) (W:World) (base:Nat) (args:Array Value) (ds gs:List (DataW H)) (before:List MemPlace)
  (hval:∀ (j:Nat) t v,Tryz.f8.params[j]? = some t->args[j]? = some v->Value.okWide Tryz.prog W .any base t v)
  (hW:DataW.Whole enc Tryz.prog Tryz.f8.params.toList Rows.literalPathSpec.vars false W args.toList ds gs before) (rs:List TypeId)
  (hwt:(DataW.weightsEach Tryz.prog (Tryz.f8.params.toList++rs) (ds++gs)).all (· <= reachBytes)=true) (hL:laidMetH Tryz.prog Rows.literalPathRow.laid W) :
  Calls Tryz.prog 8 args W fun e W'=>∃v,e = .returned v/\Rows.literalPathSpec.post enc Tryz.prog Tryz.f8 false true false false W args v W':=by
 have hW':=hW;obtain ⟨p,q,hA0,hV,rfl,hfz,hnd⟩:=hW;have hA:DataW.TrodAll enc Tryz.prog W 0 (fun _=>true) true Tryz.f8.params.toList args.toList ds p:=hA0
 have hw:∀w∈DataW.weightsEach Tryz.prog (Tryz.f8.params.toList++rs) (ds++gs),w<=reachBytes:=fun w h=>AAu (AA3.1 hwt w h)
 rw[Tryz.params8] at hA hval hw;obtain ⟨v0,vs0,d0_,ds0,p0,q0,hargs,rfl,rfl,h0,r0⟩:=trodAll_cons hA;obtain ⟨v1,vs1,d1_,ds1,p1,q1,rfl,rfl,rfl,h1,r1⟩:=trodAll_cons r0;obtain ⟨v2,vs2,d2_,ds2,p2,q2,rfl,rfl,rfl,h2,r2⟩:=trodAll_cons r1;obtain ⟨rfl,rfl,rfl⟩:=trodAll_nil r2;obtain rfl:args = #[v0,v1,v2]:=by cases args;simp_all
 obtain ⟨A0,c0,s0,k0,B0,b0,l0,rfl,hr0⟩:=Q0 (hval 0 42 v0 rfl rfl) h0 (DX hw 0 _ _ rfl rfl);obtain ⟨s1,A1,c1,B1,b1,C1,e1,rfl,hr1,hs1⟩:=YF (hval 1 28 v1 rfl rfl) h1 (DX hw 1 _ _ rfl rfl);obtain ⟨A2,c2,s2,rfl,hr2⟩:=U4 (hval 2 68 v2 rfl rfl) h2 (DX hw 2 _ _ rfl rfl);obtain ⟨hE,SA,sc,hS⟩:=Tq hL
 refine (TU s0 k0 l0 s1 s2 A0 c0 B0 b0 A1 c1 B1 b1 C1 e1 A2 c2 W hr0 hr1 hs1 hr2 hE hS).mono fun e W' ⟨he,hb⟩=>?_
 subst he;exact ⟨_,rfl,bN rfl rfl ⟨rfl,rfl,rfl⟩ ng hW' hb⟩
abbrev wv:Array Value:=#[(.agg #[.slice none 0 0,.int .u8 0,.slice none 0 0]:Value),(.agg #[.int .i64 0,.bool false,.int .i64 0,.string ⟨#[]⟩,.int .i64 0,.slice none 0 0,.slice none 0 0,.slice none 0 0]:Value),(.slice none 0 0:Value)]
theorem bO (os:Os):laidMet Tryz.prog Rows.literalPathRow.laid ((Lv os).forCall (fun _ _=>0) ⟨#[],wv,[]⟩).memory :=
 laidMet_of_run' 8 (by kernel_rfl) (by kernel_rfl)
theorem reads (os:Os) {H:Type} (enc:TypeId×Value->H):∃places,DataW.whole enc Tryz.prog ((Lv os).forCall (fun _ _=>0) ⟨#[],wv,[]⟩).memory Tryz.f8.params.toList Rows.literalPathSpec.vars false wv.toList 8=some ([.agg [.agg [.nil],.lit (.int .u8 0),.nil],.agg [.lit (.int .i64 0),.lit (.bool false),.lit (.int .i64 0),.lit (.string []),.lit (.int .i64 0),.nil,.nil,.nil],.nil],[],places) :=
 ⟨[],by kernel_rfl⟩
theorem lifted (os:Os) (started:os.Started) (H:Type) (enc:TypeId×Value->H) (F:Stop.Interp) :
  ReturnsInHanded {} Tryz.checked os 8 .any ((OpenSpec.ofChange Rows.literalPathSpec).preRow enc Tryz.prog Tryz.f8 Rows.literalPathRow.domain false Rows.literalPathRow.laid) (((OpenSpec.ofChange Rows.literalPathSpec).at F).post enc Tryz.prog Tryz.f8 false true false false):=by
 obtain ⟨places,hx⟩:=reads os enc;refine returnsInHanded_of_row (C:=Tryz.checked) (s:=OpenSpec.ofChange Rows.literalPathSpec) own started (by kernel_rfl) Tryz.func8
  (witness_row_atRef (enc:=enc) (C:=Tryz.checked) false (Lv os) wv rfl (by kernel_rfl) (by kernel_rfl) (by kernel_rfl)
   (OpenSpec.preRow_of_cond 8 hx (by kernel_rfl) (fun k hk=>by cases hk) (by kernel_rfl) (bO os))) ?_
 intro W base args ds gs before hval hW _ _ hwt hL _ _
 exact contract H enc W base args ds gs before hval hW _ hwt hL
theorem said:Rows.LiteralPathSaid :=
 OpenClaim.holds_of_cond 8 Tryz.f8 rfl rfl rfl rfl rfl rfl rfl ⟨rfl,rfl,rfl,rfl,rfl⟩ rfl rfl rfl rfl rfl (by kernel_rfl) Tryz.func8 (by kernel_rfl)
  (AAu (by kernel_rfl)) (by unfold Func.isWrapper;first|(rw[AAG (by decide +kernel)];kernel_rfl)|(rw[Pd (by decide +kernel)];exact ⟨rfl,rfl⟩))
  (fun os started H enc _ F=>by rw[OpenClaim.pre_eq_preRow];exact lifted os started H enc F)
theorem plain (f : FuncId) (fn : Func) (hf : Tryz.pinned.checked.prog.funcNamed "sheave/sheavelaw12.LiteralPath" = some f) (hfn : Tryz.pinned.checked.prog.funcs[f]? = some fn) :
  true=Tryz.pinned.checked.prog.looks []/\∀ (j:Nat) t,fn.params[j]? = some t->Tryz.pinned.checked.prog.wantsStandIn t=false:=by
 obtain rfl : f = 8 := AAm ((show Tryz.prog.funcNamed "sheave/sheavelaw12.LiteralPath" = some 8 by kernel_rfl).symm.trans hf) |>.symm
 obtain rfl:fn=Tryz.f8:=(AAm (Tryz.func8.symm.trans hfn)).symm;refine ⟨by kernel_rfl,fun j t ht=>?_⟩
 rw[Tryz.params8] at ht;have hm:=Array.mem_of_getElem? ht;simp only[List.mem_toArray,AAr,List.mem_nil_iff,or_false] at hm
 rcases hm with rfl|rfl|rfl
 ·exact (show Tryz.prog.wantsStandIn 42=false by kernel_rfl)
 ·exact (show Tryz.prog.wantsStandIn 28=false by kernel_rfl)
 ·exact (show Tryz.prog.wantsStandIn 68=false by kernel_rfl)
theorem card:Rows.LiteralPathCardSaid :=
 Claim7.holds_tied_plain_at .later [] _ _ _ _ said (fun _ h=>by cases h) (by kernel_rfl) (fun _ h=>by cases h) literalPath_row_tie rfl ⟨rfl,rfl⟩ (by kernel_rfl) rfl plain (by kernel_rfl)
end Go.Proofs.YthkkllmmbefedaaGreatDoor.literalPath



