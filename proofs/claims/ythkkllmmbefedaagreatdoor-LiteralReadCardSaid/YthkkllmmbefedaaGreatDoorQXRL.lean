/-
  The law LiteralRead (sheave/sheavelaw12): Read returns the value at the beginning of any tokens and their number, or the specified error (up to 120 tokens); for all arguments the call returns true, and the arguments read as before. Its conditions: none beside the row's own (the listed variables of the program and of Go's library hold what their text lays).
-/
import Derived.Test.YthkkllmmbefedaaGreatDoorQSXRL
import Derived.Test.YthkkllmmbefedaaGreatDoorQLRL
import Derived.Test.YthkkllmmbefedaaGreatDoorQGB0
import Derived.Test.YthkkllmmbefedaaGreatDoorQGA11
import Derived.Deep.DeepWitnessRowRef
namespace Go.Proofs.YthkkllmmbefedaaGreatDoor.literalRead
open Go.ChangeShapes Go.WideShapes Go.ChangeAt Go.RowKit
set_option maxRecDepth 100000
theorem oO:YQ Tryz.f9.params.toList:=by
 rw[Tryz.params9]
 intro t ht
 simp only[AAf,List.mem_nil_iff,or_false] at ht
 rcases ht with rfl|rfl|rfl
 ·exact ⟨by kernel_rfl,AAm (by kernel_rfl)⟩
 ·exact ⟨by kernel_rfl,AAm (by kernel_rfl)⟩
 ·exact ⟨by kernel_rfl,AAm (by kernel_rfl)⟩
theorem contract (H:Type) (enc:TypeId×Value->H) (W:World) (base:Nat) (args:Array Value) (ds gs:List (DataW H)) (before:List MemPlace)
  (hval:∀ (j:Nat) t v,Tryz.f9.params[j]? = some t->args[j]? = some v->Value.okWide Tryz.prog W .any base t v)
  (hW:DataW.Whole enc Tryz.prog Tryz.f9.params.toList Rows.literalReadSpec.vars false W args.toList ds gs before) (rs:List TypeId)
  (hwt:(DataW.weightsEach Tryz.prog (Tryz.f9.params.toList++rs) (ds++gs)).all (· <= reachBytes)=true) (hL:laidMetH Tryz.prog Rows.literalReadRow.laid W) :
  Calls Tryz.prog 9 args W fun e W'=>∃v,e = .returned v/\Rows.literalReadSpec.post enc Tryz.prog Tryz.f9 false true false false W args v W':=by
 have hW':=hW;obtain ⟨p,q,hA0,hV,rfl,hfz,hnd⟩:=hW;have hA:DataW.TrodAll enc Tryz.prog W 0 (fun _=>true) true Tryz.f9.params.toList args.toList ds p:=hA0
 have hw:∀w∈DataW.weightsEach Tryz.prog (Tryz.f9.params.toList++rs) (ds++gs),w<=reachBytes:=fun w h=>AAm (AAq.1 hwt w h)
 rw[Tryz.params9] at hA hval hw;obtain ⟨v0,vs0,d0_,ds0,p0,q0,hargs,rfl,rfl,h0,r0⟩:=trodAll_cons hA;obtain ⟨v1,vs1,d1_,ds1,p1,q1,rfl,rfl,rfl,h1,r1⟩:=trodAll_cons r0;obtain ⟨v2,vs2,d2_,ds2,p2,q2,rfl,rfl,rfl,h2,r2⟩:=trodAll_cons r1;obtain ⟨rfl,rfl,rfl⟩:=trodAll_nil r2;obtain rfl:args = #[v0,v1,v2]:=by cases args;simp_all
 obtain ⟨A0,c0,s0,rfl,hr0⟩:=UU (hval 0 24 v0 rfl rfl) h0 (La hw 0 _ _ rfl rfl);obtain ⟨k1,rfl,_⟩:=R4 Tryz.underlying3 (hval 1 3 v1 rfl rfl);obtain ⟨A2,c2,s2,rfl,hr2⟩:=ABR (hval 2 50 v2 rfl rfl) h2 (La hw 2 _ _ rfl rfl);obtain ⟨hE,SA,sc,hS⟩:=Uv hL;refine (ABQ s0 k1 s2 A0 c0 A2 c2 W hr0 hr2 hE hS).mono fun e W' ⟨he,hb⟩=>?_
 subst he;exact ⟨_,rfl,dw rfl rfl ⟨rfl,rfl,rfl⟩ oO hW' hb⟩
abbrev wv:Array Value:=#[(.agg #[.slice none 0 0]:Value),(.int .i64 0:Value),(.slice none 0 0:Value)]
theorem dx (os:Os):laidMet Tryz.prog Rows.literalReadRow.laid ((M7 os).forCall (fun _ _=>0) ⟨#[],wv,[]⟩).memory :=
 laidMet_of_run' 8 (by kernel_rfl) (by kernel_rfl)
theorem reads (os:Os) {H:Type} (enc:TypeId×Value->H):∃places,DataW.whole enc Tryz.prog ((M7 os).forCall (fun _ _=>0) ⟨#[],wv,[]⟩).memory Tryz.f9.params.toList Rows.literalReadSpec.vars false wv.toList 8=some ([.agg [.nil],.lit (.int .i64 0),.nil],[],places) :=
 ⟨[],by kernel_rfl⟩
theorem lifted (os:Os) (started:os.Started) (H:Type) (enc:TypeId×Value->H) (F:Stop.Interp) :
  ReturnsInHanded {} Tryz.checked os 9 .any ((OpenSpec.ofChange Rows.literalReadSpec).preRow enc Tryz.prog Tryz.f9 Rows.literalReadRow.domain false Rows.literalReadRow.laid) (((OpenSpec.ofChange Rows.literalReadSpec).at F).post enc Tryz.prog Tryz.f9 false true false false):=by
 obtain ⟨places,hx⟩:=reads os enc;refine returnsInHanded_of_row (C:=Tryz.checked) (s:=OpenSpec.ofChange Rows.literalReadSpec) own started (by kernel_rfl) Tryz.func9
  (witness_row_atRef (enc:=enc) (C:=Tryz.checked) false (M7 os) wv rfl (by kernel_rfl) (by kernel_rfl) (by kernel_rfl)
   (OpenSpec.preRow_of_cond 8 hx (by kernel_rfl) (fun k hk=>by cases hk) (by kernel_rfl) (dx os))) ?_
 intro W base args ds gs before hval hW _ _ hwt hL _ _
 exact contract H enc W base args ds gs before hval hW _ hwt hL
theorem said:Rows.LiteralReadSaid :=
 OpenClaim.holds_of_cond 9 Tryz.f9 rfl rfl rfl rfl rfl rfl rfl ⟨rfl,rfl,rfl,rfl,rfl⟩ rfl rfl rfl rfl rfl (by kernel_rfl) Tryz.func9 (by kernel_rfl)
  (AAm (by kernel_rfl)) (by unfold Func.isWrapper;first|(rw[AAC (by decide +kernel)];kernel_rfl)|(rw[Pe (by decide +kernel)];exact ⟨rfl,rfl⟩))
  (fun os started H enc _ F=>by rw[OpenClaim.pre_eq_preRow];exact lifted os started H enc F)
theorem plain (f : FuncId) (fn : Func) (hf : Tryz.pinned.checked.prog.funcNamed "sheave/sheavelaw12.LiteralRead" = some f) (hfn : Tryz.pinned.checked.prog.funcs[f]? = some fn) :
  true=Tryz.pinned.checked.prog.looks []/\∀ (j:Nat) t,fn.params[j]? = some t->Tryz.pinned.checked.prog.wantsStandIn t=false:=by
 obtain rfl : f = 9 := AAb ((show Tryz.prog.funcNamed "sheave/sheavelaw12.LiteralRead" = some 9 by kernel_rfl).symm.trans hf) |>.symm
 obtain rfl:fn=Tryz.f9:=(AAb (Tryz.func9.symm.trans hfn)).symm;refine ⟨by kernel_rfl,fun j t ht=>?_⟩
 rw[Tryz.params9] at ht;have hm:=Array.mem_of_getElem? ht;simp only[List.mem_toArray,AAf,List.mem_nil_iff,or_false] at hm
 rcases hm with rfl|rfl|rfl
 ·exact (show Tryz.prog.wantsStandIn 24=false by kernel_rfl)
 ·exact (show Tryz.prog.wantsStandIn 3=false by kernel_rfl)
 ·exact (show Tryz.prog.wantsStandIn 50=false by kernel_rfl)
theorem card:Rows.LiteralReadCardSaid :=
 Claim7.holds_tied_plain_at .later [] _ _ _ _ said (fun _ h=>by cases h) (by kernel_rfl) (fun _ h=>by cases h) literalRead_row_tie rfl ⟨rfl,rfl⟩ (by kernel_rfl) rfl plain (by kernel_rfl)
end Go.Proofs.YthkkllmmbefedaaGreatDoor.literalRead



