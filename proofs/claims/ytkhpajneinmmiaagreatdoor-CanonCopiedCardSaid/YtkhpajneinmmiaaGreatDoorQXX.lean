/-
  The law CanonCopied (sheave/sheavelaw18): Distinguish in schemas with two copies of each type; for all arguments the call returns true, and the arguments read as before. Its conditions: none beside the row's own (the listed tables of Go's library hold what their text lays).
-/
import Derived.Test.YtkhpajneinmmiaaGreatDoorQLX
import Derived.Test.YtkhpajneinmmiaaGreatDoorQJJ
namespace Go.Proofs.YtkhpajneinmmiaaGreatDoor.canonCopied
open Go.ChangeShapes Go.WideShapes Go.ChangeAt Go.RowKit
set_option maxRecDepth 100000
theorem stays_:Stays Tryz.f9.params.toList:=by
 rw[Tryz.params9]
 intro t ht
 simp only[List.mem_cons,List.mem_nil_iff,or_false] at ht
 rcases ht with rfl|rfl|rfl
 ·exact ⟨by kernel_rfl,of_decide_eq_true (by kernel_rfl)⟩
 ·exact ⟨by kernel_rfl,of_decide_eq_true (by kernel_rfl)⟩
 ·exact ⟨by kernel_rfl,of_decide_eq_true (by kernel_rfl)⟩
theorem contract (H:Type) (enc:TypeId×Value→H) (W:World) (base:Nat) (args:Array Value) (ds gs:List (DataW H)) (before:List MemPlace)
  (hval:∀ (j:Nat) t v,Tryz.f9.params[j]? = some t→args[j]? = some v→Value.okWide Tryz.prog W .any base t v)
  (hW:DataW.Whole enc Tryz.prog Tryz.f9.params.toList Rows.canonCopiedSpec.vars false W args.toList ds gs before) (rs:List TypeId)
  (hwt:(DataW.weightsEach Tryz.prog (Tryz.f9.params.toList++rs) (ds++gs)).all (· ≤ reachBytes)=true) (hL:laidMetH Tryz.prog Rows.canonCopiedRow.laid W) :
  Calls Tryz.prog 9 args W fun e W'=>∃v,e = .returned v∧Rows.canonCopiedSpec.post enc Tryz.prog Tryz.f9 false true false false W args v W':=by
 have hW':=hW
 obtain ⟨p,q,hA0,hV,rfl,hfz,hnd⟩:=hW
 have hA:DataW.TrodAll enc Tryz.prog W 0 (fun _=>true) true Tryz.f9.params.toList args.toList ds p:=hA0
 have hw:∀w∈DataW.weightsEach Tryz.prog (Tryz.f9.params.toList++rs) (ds++gs),w≤reachBytes:=fun w h=>of_decide_eq_true (List.all_eq_true.1 hwt w h)
 rw[Tryz.params9] at hA hval hw
 obtain ⟨v0,vs0,d0_,ds0,p0,q0,hargs,rfl,rfl,h0,r0⟩:=trodAll_cons hA
 obtain ⟨v1,vs1,d1_,ds1,p1,q1,rfl,rfl,rfl,h1,r1⟩:=trodAll_cons r0
 obtain ⟨v2,vs2,d2_,ds2,p2,q2,rfl,rfl,rfl,h2,r2⟩:=trodAll_cons r1
 obtain ⟨rfl,rfl,rfl⟩:=trodAll_nil r2
 obtain rfl:args = #[v0,v1,v2]:=by cases args;simp_all
 obtain ⟨A0,c0,s0,B0,d0,l0,p0_,q0_,rfl,hr0⟩:=open_pairA (hval 0 27 v0 rfl rfl) h0 (sz_each hw 0 _ _ rfl rfl)
 obtain ⟨k1,b1,rfl⟩:=open_arg_u64 (hval 1 39 v1 rfl rfl)
 obtain ⟨k2,b2,rfl⟩:=open_arg_u64 (hval 2 39 v2 rfl rfl)
 refine (lawCopied_any s0 l0 p0_ q0_ k1 k2 A0 c0 B0 d0 W hr0 (tab_of_laid hL)).mono fun e W' ⟨he,hb⟩=>?_
 subst he
 exact ⟨_,rfl,law_post rfl rfl ⟨rfl,rfl,rfl⟩ stays_ hW' hb⟩
abbrev wv:Array Value:=#[(.agg #[.slice none 0 0,.slice none 0 0,.int .u8 0,.int .u8 0]:Value),(.int .u64 0:Value),(.int .u64 0:Value)]
theorem laid_met (os:Os):laidMet Tryz.prog Rows.canonCopiedRow.laid ((laidWorld os).forCall (fun _ _=>0) ⟨#[],wv,[]⟩).memory :=
 laidMet_of_run' 8 (by kernel_rfl) (by kernel_rfl)
theorem reads (os:Os) {H:Type} (enc:TypeId×Value→H):∃places,DataW.whole enc Tryz.prog ((laidWorld os).forCall (fun _ _=>0) ⟨#[],wv,[]⟩).memory Tryz.f9.params.toList Rows.canonCopiedSpec.vars false wv.toList 8=some ([.agg [.agg [.nil],.nil,.lit (.int .u8 0),.lit (.int .u8 0)],.lit (.int .u64 0),.lit (.int .u64 0)],[],places) :=
 ⟨[],by kernel_rfl⟩
theorem lifted (os:Os) (started:os.Started) (H:Type) (enc:TypeId×Value→H) (F:Stop.Interp) :
  ReturnsInHanded {} Tryz.checked os 9 .any ((OpenSpec.ofChange Rows.canonCopiedSpec).preRow enc Tryz.prog Tryz.f9 Rows.canonCopiedRow.domain false Rows.canonCopiedRow.laid) (((OpenSpec.ofChange Rows.canonCopiedSpec).at F).post enc Tryz.prog Tryz.f9 false true false false):=by
 obtain ⟨places,hx⟩:=reads os enc
 refine returnsInHanded_of_row (C:=Tryz.checked) (s:=OpenSpec.ofChange Rows.canonCopiedSpec) own started (by kernel_rfl) Tryz.func9
  (witness_row_at (enc:=enc) (C:=Tryz.checked) false (laidWorld os) wv rfl (by kernel_rfl) (by kernel_rfl) (by kernel_rfl)
   (OpenSpec.preRow_of_cond 8 hx (by kernel_rfl) (fun k hk=>by cases hk) (by kernel_rfl) (laid_met os))) ?_
 intro W base args ds gs before hval hW _ _ hwt hL _ _
 exact contract H enc W base args ds gs before hval hW _ hwt hL
theorem said:Rows.CanonCopiedSaid :=
 OpenClaim.holds_of_cond 9 Tryz.f9 rfl rfl rfl rfl rfl rfl rfl ⟨rfl,rfl,rfl,rfl,rfl⟩ rfl rfl rfl rfl rfl (by kernel_rfl) Tryz.func9 (by kernel_rfl)
  (of_decide_eq_true (by kernel_rfl)) (by unfold Func.isWrapper;first|(rw[if_pos (by decide +kernel)];kernel_rfl)|(rw[if_neg (by decide +kernel)];exact ⟨rfl,rfl⟩))
  (fun os started H enc _ F=>by rw[OpenClaim.pre_eq_preRow];exact lifted os started H enc F)
theorem plain (f : FuncId) (fn : Func) (hf : Tryz.pinned.checked.prog.funcNamed "sheave/sheavelaw18.CanonCopied" = some f) (hfn : Tryz.pinned.checked.prog.funcs[f]? = some fn) :
  false=Tryz.pinned.checked.prog.looks []∧∀ (j:Nat) t,fn.params[j]? = some t→Tryz.pinned.checked.prog.wantsStandIn t=false:=by
 obtain rfl : f = 9 := Option.some.inj ((show Tryz.prog.funcNamed "sheave/sheavelaw18.CanonCopied" = some 9 by kernel_rfl).symm.trans hf) |>.symm
 obtain rfl:fn=Tryz.f9:=(Option.some.inj (Tryz.func9.symm.trans hfn)).symm
 refine ⟨by kernel_rfl,fun j t ht=>?_⟩
 rw[Tryz.params9] at ht
 have hm:=Array.mem_of_getElem? ht
 simp only[List.mem_toArray,List.mem_cons,List.mem_nil_iff,or_false] at hm
 rcases hm with rfl|rfl|rfl
 ·exact (show Tryz.prog.wantsStandIn 27=false by kernel_rfl)
 ·exact (show Tryz.prog.wantsStandIn 39=false by kernel_rfl)
 ·exact (show Tryz.prog.wantsStandIn 39=false by kernel_rfl)
theorem card:Rows.CanonCopiedCardSaid :=
 Claim7.holds_tied_plain_at .later [] _ _ _ _ said (fun _ h=>by cases h) (by kernel_rfl) (fun _ h=>by cases h) canonCopied_row_tie rfl ⟨rfl,rfl⟩ (by kernel_rfl) rfl plain (by kernel_rfl)
end Go.Proofs.YtkhpajneinmmiaaGreatDoor.canonCopied


