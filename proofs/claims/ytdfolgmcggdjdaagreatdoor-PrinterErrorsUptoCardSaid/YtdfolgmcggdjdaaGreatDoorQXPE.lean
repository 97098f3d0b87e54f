/-
  The law PrinterErrors (sheave/sheavelaw17): Print, Tidy, IsTidy and Outline return the results or errors of the reference, for any schemas; for all arguments the call returns true, and the arguments read as before. Its conditions: what the argument holds is of bulk at most 1048576; the row's own (the listed tables of Go's library hold what their text lays).
-/
import Derived.Test.YtdfolgmcggdjdaaGreatDoorQLPE
namespace Go.Proofs.YtdfolgmcggdjdaaGreatDoor.printerErrors
open Go.ChangeShapes Go.WideShapes Go.ChangeAt Go.RowKit
set_option maxRecDepth 100000
theorem stays_:Stays Tryz.f4.params.toList:=by
 rw[Tryz.params4]
 intro t ht
 simp only[List.mem_cons,List.mem_nil_iff,or_false] at ht;subst ht;exact ⟨by kernel_rfl,of_decide_eq_true (by kernel_rfl)⟩
theorem contract (H:Type) (enc:TypeId×Value→H) (W:World) (base:Nat) (args:Array Value) (ds gs:List (DataW H)) (before:List MemPlace)
  (hval:∀ (j:Nat) t v,Tryz.f4.params[j]? = some t→args[j]? = some v→Value.okWide Tryz.prog W .any base t v)
  (hW:DataW.Whole enc Tryz.prog Tryz.f4.params.toList Rows.printerErrorsSpec.vars false W args.toList ds gs before) (rs:List TypeId)
  (hwt:(DataW.weightsEach Tryz.prog (Tryz.f4.params.toList++rs) (ds++gs)).all (· ≤ reachBytes)=true) (hL:laidMetH Tryz.prog Rows.printerErrorsUptoRow.laid W) (hk:Rows.uptoSmall H (ds++gs)=true) :
  Calls Tryz.prog 4 args W fun e W'=>∃v,e = .returned v∧Rows.printerErrorsSpec.post enc Tryz.prog Tryz.f4 false true false false W args v W':=by
 have hW':=hW;obtain ⟨p,q,hA0,hV,rfl,hfz,hnd⟩:=hW;have hA:DataW.TrodAll enc Tryz.prog W 0 (fun _=>true) true Tryz.f4.params.toList args.toList ds p:=hA0
 have hw:∀w∈DataW.weightsEach Tryz.prog (Tryz.f4.params.toList++rs) (ds++gs),w≤reachBytes:=fun w h=>of_decide_eq_true (List.all_eq_true.1 hwt w h)
 rw[Tryz.params4] at hA hval hw;obtain ⟨v0,vs0,d0_,ds0,p0,q0,hargs,rfl,rfl,h0,r0⟩:=trodAll_cons hA;obtain ⟨rfl,rfl,rfl⟩:=trodAll_nil r0;obtain rfl:args = #[v0]:=by cases args;simp_all
 have hbk:Rows.uptoBulkAll ([d0_]++gs)≤1048576:=of_decide_eq_true hk;obtain ⟨A0,c0,s0,rfl,hr0,hn0,hw0⟩:=open_schemaW (hval 0 27 v0 rfl rfl) h0 (sz_each hw 0 _ _ rfl rfl);refine (lawErrs_any s0 A0 c0 W hr0 hn0 (tab_of_laid hL) fun hv t ht m hm=>by
  have h1:=dfT_le hv hn0 m;have h2:=hw0 t ht m hm;have h3:Rows.uptoBulk d0_≤Rows.uptoBulkAll ([d0_]++gs):=bulk_part (by simp)
  omega).mono fun e W' ⟨he,hb⟩=>?_
 subst he;exact ⟨_,rfl,law_post rfl rfl ⟨rfl,rfl,rfl⟩ stays_ hW' hb⟩
abbrev wv:Array Value:=#[(.agg #[.slice none 0 0]:Value)]
theorem laid_met (os:Os):laidMet Tryz.prog Rows.printerErrorsUptoRow.laid ((laidWorld os).forCall (fun _ _=>0) ⟨#[],wv,[]⟩).memory :=
 laidMet_of_run' 8 (by kernel_rfl) (by kernel_rfl)
theorem reads (os:Os) {H:Type} (enc:TypeId×Value→H):∃places,DataW.whole enc Tryz.prog ((laidWorld os).forCall (fun _ _=>0) ⟨#[],wv,[]⟩).memory Tryz.f4.params.toList Rows.printerErrorsSpec.vars false wv.toList 8=some ([.agg [.nil]],[],places) :=
 ⟨[],by kernel_rfl⟩
theorem lifted (os:Os) (started:os.Started) (H:Type) (enc:TypeId×Value→H) (F:Stop.Interp) :
  ReturnsInHanded {} Tryz.checked os 4 .any ((Rows.OpenSpec.upto Rows.printerErrorsSpec).preRow enc Tryz.prog Tryz.f4 Rows.printerErrorsUptoRow.domain false Rows.printerErrorsUptoRow.laid) (((Rows.OpenSpec.upto Rows.printerErrorsSpec).at F).post enc Tryz.prog Tryz.f4 false true false false):=by
 obtain ⟨places,hx⟩:=reads os enc;refine returnsInHanded_of_row (C:=Tryz.checked) (s:=Rows.OpenSpec.upto Rows.printerErrorsSpec) own started (by kernel_rfl) Tryz.func4
  (witness_row_at (enc:=enc) (C:=Tryz.checked) false (laidWorld os) wv rfl (by kernel_rfl) (by kernel_rfl) (by kernel_rfl)
   (OpenSpec.preRow_of_cond 8 hx (by kernel_rfl) (fun k hk=>by cases hk;kernel_rfl) (by kernel_rfl) (laid_met os))) ?_
 intro W base args ds gs before hval hW _ hcond hwt hL _ _
 exact contract H enc W base args ds gs before hval hW _ hwt hL (hcond _ rfl)
theorem said:Rows.PrinterErrorsUptoSaid :=
 OpenClaim.holds_of_cond 4 Tryz.f4 rfl rfl rfl rfl rfl rfl rfl ⟨rfl,rfl,rfl,rfl,rfl⟩ rfl rfl rfl rfl rfl (by kernel_rfl) Tryz.func4 (by kernel_rfl)
  (of_decide_eq_true (by kernel_rfl)) (by unfold Func.isWrapper;first|(rw[if_pos (by decide +kernel)];kernel_rfl)|(rw[if_neg (by decide +kernel)];exact ⟨rfl,rfl⟩))
  (fun os started H enc _ F=>by rw[OpenClaim.pre_eq_preRow];exact lifted os started H enc F)
theorem plain (f : FuncId) (fn : Func) (hf : Tryz.pinned.checked.prog.funcNamed "sheave/sheavelaw17.PrinterErrors" = some f) (hfn : Tryz.pinned.checked.prog.funcs[f]? = some fn) :
  false=Tryz.pinned.checked.prog.looks []∧∀ (j:Nat) t,fn.params[j]? = some t→Tryz.pinned.checked.prog.wantsStandIn t=false:=by
 obtain rfl : f = 4 := Option.some.inj ((show Tryz.prog.funcNamed "sheave/sheavelaw17.PrinterErrors" = some 4 by kernel_rfl).symm.trans hf) |>.symm
 obtain rfl:fn=Tryz.f4:=(Option.some.inj (Tryz.func4.symm.trans hfn)).symm;refine ⟨by kernel_rfl,fun j t ht=>?_⟩
 rw[Tryz.params4] at ht;have hm:=Array.mem_of_getElem? ht;simp only[List.mem_toArray,List.mem_cons,List.mem_nil_iff,or_false] at hm;subst hm;exact (show Tryz.prog.wantsStandIn 27=false by kernel_rfl)
theorem card:Rows.PrinterErrorsUptoCardSaid :=
 Claim7.holds_tied_plain_at .later [] _ _ _ _ said (fun _ h=>by cases h) (by kernel_rfl) (fun _ h=>by cases h) printerErrorsUpto_row_tie rfl ⟨rfl,rfl⟩ (by kernel_rfl) rfl plain (by kernel_rfl)
end Go.Proofs.YtdfolgmcggdjdaaGreatDoor.printerErrors


