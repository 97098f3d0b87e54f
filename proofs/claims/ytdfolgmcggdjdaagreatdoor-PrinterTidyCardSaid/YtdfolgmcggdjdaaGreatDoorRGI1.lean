/-
  Drafts that came in: opened.
-/
import Derived.Test.YtdfolgmcggdjdaaGreatDoorCards
import Derived.Test.YtdfolgmcggdjdaaGreatDoorTie
import Derived.Test.YtdfolgmcggdjdaaGreatDoorRGA5
import Derived.Test.YtdfolgmcggdjdaaGreatDoorRGA4
import Derived.Test.YtdfolgmcggdjdaaGreatDoorRGA3
import Derived.Test.YtdfolgmcggdjdaaGreatDoorRGL1
import Derived.ProofKit
import Derived.Deep.DeepHandedRow
import Derived.Lib.LaidTab
namespace Go.Proofs.YtdfolgmcggdjdaaGreatDoor
open Go.ChangeShapes Go.WideShapes Go.ChangeAt Go.RowKit Go.Deep
set_option maxHeartbeats 16000000
set_option maxRecDepth 100000
set_option maxRecDepth 100000
theorem own:ownKnob Tryz.prog.godebug=none:=by kernel_rfl
theorem laidOut:laidOutB Tryz.prog=true:=by kernel_rfl
section
variable {H:Type} {enc:TypeId×Value→H}
def Stays (ts:List TypeId):Prop:=∀t∈ts,Tryz.prog.readableRec t=true∧t<Tryz.prog.types.size
theorem trodAll_stays {W W':World} (hb:Below W.heap.size W W') (sp:Nat→Bool):∀ (ts:List TypeId) (vs:List Value) (ds:List (DataW H)) (ps:List MemPlace),
  Stays ts→DataW.TrodAll enc Tryz.prog W 0 (fun _=>true) true ts vs ds ps→(∀p∈ps,p.block<W.heap.size)→(∀p∈ps,sp p.block=true)→DataW.TrodAll enc Tryz.prog W' 0 sp true ts vs ds ps
 | [],[],[],ps,_,h,_,_=>h
 | t::ts,v::vs,d::ds,ps,hs,h,hlt,hsp=>by
  obtain ⟨p,q,h1,h2,rfl⟩:=h;have hs':(Tryz.prog.readableRec t=true∧t<Tryz.prog.types.size)∧Stays ts:=⟨hs t (List.mem_cons_self ..),fun u hu=>hs u (List.mem_cons_of_mem _ hu)⟩
  refine ⟨p,q,WideElems.Trod_stays laidOut hs'.1.1 hs'.1.2 h1 (fun x hx=>hb.same (hlt x (List.mem_append_left _ hx))) (fun x hx=>hsp x (List.mem_append_left _ hx)),trodAll_stays hb sp ts vs ds q hs'.2 h2 (fun x hx=>hlt x (List.mem_append_right _ hx)) (fun x hx=>hsp x (List.mem_append_right _ hx)),rfl⟩
 | [],[],_::_,_,_,h,_,_=>by cases h
 | [],_::_,_,_,_,h,_,_=>by cases h
 | _::_,[],_,_,_,h,_,_=>by cases h
 | _::_,_::_,[],_,_,h,_,_=>by cases h
theorem law_post {f:Func} {s:ChangeSpec} {W W':World} {args:Array Value} {ds gs:List (DataW H)} {before:List MemPlace} (hv:s.vars=[]) (hrt:f.resultTypes = #[4])
  (hfn:(s.fn H ds).results=[.lit (.bool true)]∧(s.fn H ds).args=ds∧(s.fn H ds).vars=[]) (hst:Stays f.params.toList)
  (hW:DataW.Whole enc Tryz.prog f.params.toList s.vars false W args.toList ds gs before) (hb:Below W.heap.size W W') :
  s.post enc Tryz.prog f false true false false W args (.bool true) W':=by
 have hlt:∀p∈before,p.block<W.heap.size:=fun p hp=>hW.lt p hp
 have hW0:=hW;obtain ⟨p,q,h1,h2,rfl,h4,h5⟩:=hW;rw[hv] at h2;obtain ⟨rfl,rfl⟩:=trodVars_none h2;have hold:∀x∈p++[],(fun b=>decide (b<W.heap.size)) x.block=true:=fun x hx=>by simpa using hlt x hx
 have hres:∀ (b:Nat) (sp:Nat→Bool) (hd:Bool),DataW.TrodAll enc Tryz.prog W' b sp hd f.resultTypes.toList ((Value.bool true).resultList f.resultTypes.size) (s.fn H (ds++[])).results []:=fun b sp hd=>by
  rw[List.append_nil,hfn.1,hrt];exact trodAll_cons_mk (shut_bool Tryz.underlying4 _) trodAll_mk0
 have hargs:∀sp:Nat→Bool,(∀x∈p++[],sp x.block=true)→DataW.TrodAll enc Tryz.prog W' 0 sp true f.params.toList args.toList (s.fn H (ds++[])).args p:=fun sp hsp=>by
  rw[List.append_nil,hfn.2.1];exact trodAll_stays hb sp _ _ _ _ hst h1 (fun x hx=>hlt x (List.mem_append_left _ hx)) (fun x hx=>hsp x (List.mem_append_left _ hx))
 have hvars:∀sp:Nat→Bool,DataW.TrodVars enc Tryz.prog W' sp s.vars (s.fn H (ds++[])).vars []:=fun sp=>by
  rw[List.append_nil,hfn.2.2,hv];rfl
 refine ⟨ds,[],p++[],[],p,[],hW0,hres _ _ _,hargs _ hold,hvars _,World.keptBut_mono (fun x hx=>⟨hx,Or.inr (List.mem_append.1 hx)⟩) (hb.frame (· ∈ p++[])),fun _=>?_⟩
 refine ⟨ok_one hrt rfl (okWide_bool_mk Tryz.underlying4 _),_,_,([]++p)++[],⟨[]++p,[],trodAll_append (hargs _ (fun _ _=>rfl)) (hres _ _ _),hvars _,rfl,?_,?_⟩,?_⟩
 ·intro b off hp
  have hin:MemPlace.cell b off∈p++[]:=by simpa using hp
  rw[hb.frozen (hlt _ hin)];exact h4 b off hin
 ·intro ha;cases ha
 ·intro x hx _
  simpa using hx
theorem tab_of_laid {W : World} (h : laidMetH Tryz.prog [("math/bits.deBruijn32tab", Rows.laid_math_bits_deBruijn32tab), ("math/bits.deBruijn64tab", Rows.laid_math_bits_deBruijn64tab), ("internal/strconv.uint64pow10", Rows.laid_internal_strconv_uint64pow10)] W) : Tab W := by
 have h' : laidMet Tryz.prog [("math/bits.deBruijn32tab", Rows.laid_math_bits_deBruijn32tab), ("math/bits.deBruijn64tab", Rows.laid_math_bits_deBruijn64tab), ("internal/strconv.uint64pow10", Rows.laid_internal_strconv_uint64pow10)] W := h;obtain ⟨ps,⟨_,_,_,_,_,_,_,_,_,_,⟨_,_,_,_,_,_,_,_,_,_,⟨g,t,cs,fuel,p,q,hg,ht,hvar,hd,_,_⟩,_⟩,_⟩,_⟩:=h'
 have hg1 : Tryz.prog.globalNamed "internal/strconv.uint64pow10" = some 0 := by kernel_rfl
 have ht1:(Tryz.prog.globals[0]?).map (·.type)=some 185:=by kernel_rfl
 obtain rfl:=Option.some.inj (hg1.symm.trans hg);obtain rfl:=Option.some.inj (ht1.symm.trans ht);unfold Tab Lib.TabIs;rw[hvar,←Lib.cells_of_tab Tryz.underlying185 Tryz.underlying129 (by kernel_rfl) (by kernel_rfl) hd]
end
open Go.ChangeShapes Go.WideShapes Go.ChangeAt Go.RowKit
set_option maxRecDepth 100000
def fillRow (cs:Array Value):Obj→Obj
 | .cells _ t frozen => .cells cs t frozen
 | o=>o
noncomputable def laidWorld (os:Os):World :=
 { World.holding Tryz.prog os ⟨#[],#[],[]⟩ with heap:=(((World.holding Tryz.prog os ⟨#[],#[],[]⟩).heap.modify 0 (fillRow #[.int .u64 1,.int .u64 10,.int .u64 100,.int .u64 1000,.int .u64 10000,.int .u64 100000,.int .u64 1000000,.int .u64 10000000,.int .u64 100000000,.int .u64 1000000000,.int .u64 10000000000,.int .u64 100000000000,.int .u64 1000000000000,.int .u64 10000000000000,.int .u64 100000000000000,.int .u64 1000000000000000,.int .u64 10000000000000000,.int .u64 100000000000000000,.int .u64 1000000000000000000,.int .u64 10000000000000000000])).modify 2 (fillRow #[.int .u8 0,.int .u8 1,.int .u8 28,.int .u8 2,.int .u8 29,.int .u8 14,.int .u8 24,.int .u8 3,.int .u8 30,.int .u8 22,.int .u8 20,.int .u8 15,.int .u8 25,.int .u8 17,.int .u8 4,.int .u8 8,.int .u8 31,.int .u8 27,.int .u8 13,.int .u8 23,.int .u8 21,.int .u8 19,.int .u8 16,.int .u8 7,.int .u8 26,.int .u8 12,.int .u8 18,.int .u8 6,.int .u8 11,.int .u8 5,.int .u8 10,.int .u8 9])).modify 3 (fillRow #[.int .u8 0,.int .u8 1,.int .u8 56,.int .u8 2,.int .u8 57,.int .u8 49,.int .u8 28,.int .u8 3,.int .u8 61,.int .u8 58,.int .u8 42,.int .u8 50,.int .u8 38,.int .u8 29,.int .u8 17,.int .u8 4,.int .u8 62,.int .u8 47,.int .u8 59,.int .u8 36,.int .u8 45,.int .u8 43,.int .u8 51,.int .u8 22,.int .u8 53,.int .u8 39,.int .u8 33,.int .u8 30,.int .u8 24,.int .u8 18,.int .u8 12,.int .u8 5,.int .u8 63,.int .u8 55,.int .u8 48,.int .u8 27,.int .u8 60,.int .u8 41,.int .u8 37,.int .u8 16,.int .u8 46,.int .u8 35,.int .u8 44,.int .u8 21,.int .u8 52,.int .u8 32,.int .u8 23,.int .u8 11,.int .u8 54,.int .u8 26,.int .u8 40,.int .u8 15,.int .u8 34,.int .u8 20,.int .u8 31,.int .u8 10,.int .u8 25,.int .u8 14,.int .u8 19,.int .u8 9,.int .u8 13,.int .u8 8,.int .u8 7,.int .u8 6]) }
section
variable {W:World}
end
open Go.ChangeShapes Go.WideShapes Go.ChangeAt Go.RowKit Go.Deep
set_option maxRecDepth 100000
section
variable {H:Type} {enc:TypeId×Value→H} {W:World}
theorem open_u8 {n:Nat} {cs:List Value} {x:DataW H×List MemPlace} (h:DataW.trod enc Tryz.prog W 0 (fun _=>true) true n 5 cs=some x):∃k:Nat,k<256∧cs=[.int .u8 k]:=by
 obtain ⟨z,hz,_,hr⟩:=DataW.trod_int Tryz.underlying5 h;have h1:0≤z∧z≤255:=by simpa[Lit.wf,IntKind.min,IntKind.max,IntKind.signed,IntKind.bits] using hr
 refine ⟨z.toNat,by omega,?_⟩
 rw[show ((z.toNat:Nat):Int)=z by omega]
 exact hz
instance:Inhabited PartD:=⟨⟨0,0,0⟩⟩
instance:Inhabited NodeD:=⟨node0⟩
theorem open_part {n:Nat} {cs:List Value} {d:DataW H} {ps:List MemPlace} (h:DataW.trod enc Tryz.prog W 0 (fun _=>true) true n 101 cs=some (d,ps)):∃r:PartD,r.At cs:=by
 obtain ⟨xs,m,_,_,hlen,hxl,hf⟩:=DataW.trod_struct Tryz.underlying101 h;have hc:Tryz.prog.cellsOf 101=3:=by kernel_rfl
 have hc8:Tryz.prog.cellsOf 5=1:=by kernel_rfl
 rw[hc] at hlen;simp only[List.size_toArray,List.length_cons,List.length_nil] at hxl
 match cs,hlen,xs,hxl with
 | [c0,c1,c2],_,[x0,x1,x2],_ =>
  have h0:DataW.trod enc Tryz.prog W 0 (fun _=>true) true m 5 (([c0,c1,c2].drop 0).take (Tryz.prog.cellsOf 5))=some x0:=hf 0 _ rfl
  rw[hc8] at h0;have h1:DataW.trod enc Tryz.prog W 0 (fun _=>true) true m 5 (([c0,c1,c2].drop 1).take (Tryz.prog.cellsOf 5))=some x1:=hf 1 _ rfl
  rw[hc8] at h1;have h2:DataW.trod enc Tryz.prog W 0 (fun _=>true) true m 5 (([c0,c1,c2].drop 2).take (Tryz.prog.cellsOf 5))=some x2:=hf 2 _ rfl
  rw[hc8] at h2;obtain ⟨k0,b0,e0⟩:=open_u8 h0;obtain ⟨k1,b1,e1⟩:=open_u8 h1;obtain ⟨k2,b2,e2⟩:=open_u8 h2
  injection (show [c0]=[Value.int .u8 k0] from e0) with g0 _
  injection (show [c1]=[Value.int .u8 k1] from e1) with g1 _
  injection (show [c2]=[Value.int .u8 k2] from e2) with g2 _
  subst g0;subst g1;subst g2;exact ⟨⟨k0,k1,k2⟩,⟨b0,b1,b2⟩,rfl⟩
theorem open_node {n:Nat} {cs:List Value} {d:DataW H} {ps:List MemPlace} (h:DataW.trod enc Tryz.prog W 0 (fun _=>true) true n 45 cs=some (d,ps)) (hz:Sz 45 d):∃r:NodeD,r.At W cs:=by
 obtain ⟨xs,m,_,hx,hlen,hxl,hf⟩:=DataW.trod_struct Tryz.underlying45 h;have hdd:d = .agg (xs.map (·.1)):=congrArg Prod.fst hx;subst hdd;have hc:Tryz.prog.cellsOf 45=5:=by kernel_rfl
 have hc8:Tryz.prog.cellsOf 5=1:=by kernel_rfl
 have hcp:Tryz.prog.cellsOf 43=1:=by kernel_rfl
 have hsz:=sz_parts Tryz.underlying45 hz;rw[hc] at hlen;simp only[List.size_toArray,List.length_cons,List.length_nil] at hxl
 match cs,hlen,xs,hxl with
 | [c0,c1,c2,c3,c4],_,[x0,x1,x2,x3,x4],_ =>
  have h0:DataW.trod enc Tryz.prog W 0 (fun _=>true) true m 5 (([c0,c1,c2,c3,c4].drop 0).take (Tryz.prog.cellsOf 5))=some x0:=hf 0 _ rfl
  rw[hc8] at h0;have h1:DataW.trod enc Tryz.prog W 0 (fun _=>true) true m 5 (([c0,c1,c2,c3,c4].drop 1).take (Tryz.prog.cellsOf 5))=some x1:=hf 1 _ rfl
  rw[hc8] at h1;have h2:DataW.trod enc Tryz.prog W 0 (fun _=>true) true m 5 (([c0,c1,c2,c3,c4].drop 2).take (Tryz.prog.cellsOf 5))=some x2:=hf 2 _ rfl
  rw[hc8] at h2;have h3:DataW.trod enc Tryz.prog W 0 (fun _=>true) true m 5 (([c0,c1,c2,c3,c4].drop 3).take (Tryz.prog.cellsOf 5))=some x3:=hf 3 _ rfl
  rw[hc8] at h3;have h4:DataW.trod enc Tryz.prog W 0 (fun _=>true) true m 43 (([c0,c1,c2,c3,c4].drop 4).take (Tryz.prog.cellsOf 43))=some x4:=hf 4 _ rfl
  rw[hcp] at h4;obtain ⟨k0,b0,e0⟩:=open_u8 h0;obtain ⟨k1,b1,e1⟩:=open_u8 h1;obtain ⟨k2,b2,e2⟩:=open_u8 h2;obtain ⟨k3,b3,e3⟩:=open_u8 h3
  obtain ⟨A,c,l,e4,hr⟩:=open_rows (α:=PartD) (bytes:=3) Tryz.underlying43 (show Tryz.prog.cellsOf 101=3 by kernel_rfl) (by kernel_rfl) (by omega) (at_:=PartD.At) (fun y cs hy=>by obtain ⟨_,rfl⟩:=hy;rfl) (d:=x4.1) (ps:=x4.2) h4 (sz_each hsz 4 _ _ rfl rfl) (fun d' _ n' cs' ps' ht _=>open_part ht)
  injection (show [c0]=[Value.int .u8 k0] from e0) with g0 _
  injection (show [c1]=[Value.int .u8 k1] from e1) with g1 _
  injection (show [c2]=[Value.int .u8 k2] from e2) with g2 _
  injection (show [c3]=[Value.int .u8 k3] from e3) with g3 _
  injection (show [c4]=[Value.slice A l.length c] from e4) with g4 _
  subst g0;subst g1;subst g2;subst g3;subst g4;exact ⟨⟨k0,k1,k2,k3,l⟩,A,c,rfl,b0,b1,b2,b3,hr⟩
theorem open_draft {n:Nat} {cs:List Value} {d:DataW H} {ps:List MemPlace} (h:DataW.trod enc Tryz.prog W 0 (fun _=>true) true n 24 cs=some (d,ps)) (hz:Sz 24 d):∃ (A:zo) (c:Nat) (l:List NodeD),cs=[.slice A l.length c]∧NodesR W A l:=by
 obtain ⟨xs,m,_,hx,hlen,hxl,hf⟩:=DataW.trod_struct Tryz.underlying24 h;have hdd:d = .agg (xs.map (·.1)):=congrArg Prod.fst hx;subst hdd;have hc:Tryz.prog.cellsOf 24=1:=by kernel_rfl
 have hcn:Tryz.prog.cellsOf 22=1:=by kernel_rfl
 have hsz:=sz_parts Tryz.underlying24 hz;rw[hc] at hlen;simp only[List.size_toArray,List.length_cons,List.length_nil] at hxl
 match cs,hlen,xs,hxl with
 | [c0],_,[x0],_ =>
  have h0:DataW.trod enc Tryz.prog W 0 (fun _=>true) true m 22 (([c0].drop 0).take (Tryz.prog.cellsOf 22))=some x0:=hf 0 _ rfl
  rw[hcn] at h0;obtain ⟨A,c,l,e0,hr⟩:=open_rows (α:=NodeD) (bytes:=32) Tryz.underlying22 (show Tryz.prog.cellsOf 45=5 by kernel_rfl) (by kernel_rfl) (by omega) (at_:=fun x cs=>NodeD.At W x cs) (fun y cs hy=>by obtain ⟨_,_,rfl,_⟩:=hy;rfl) (d:=x0.1) (ps:=x0.2) h0 (sz_each hsz 0 _ _ rfl rfl) (fun d' _ n' cs' ps' ht hz'=>open_node ht hz')
  exact ⟨A,c,l,e0,hr⟩
theorem agg_cells {r:Reach} {b0:Nat} {v:Value} {T:TypeId} {fs:Array Field} (hu:Tryz.prog.underlying T=some (.struct fs)) (hv:Value.okWide Tryz.prog W r b0 T v):∃cs,v = .agg cs∧cs.size=Tryz.prog.cellsOf T:=by
 obtain ⟨cs,rfl,hsz,_⟩:∃cs,v = .agg cs∧cs.size=Tryz.prog.cellsOf T∧Row.okWide Tryz.prog W r b0 T cs:=by
  have h':=hv;unfold Value.okWide at h';rw[hu] at h';exact h'
 exact ⟨cs,rfl,hsz⟩
theorem open_draftA {r:Reach} {b0:Nat} {v:Value} {d:DataW H} {p:List MemPlace} (hv:Value.okWide Tryz.prog W r b0 24 v) (h:DataW.Trod enc Tryz.prog W 0 (fun _=>true) true 24 v d p) (hz:Sz 24 d) :
  ∃ (A:zo) (c:Nat) (s:List NodeD),v=draftV A s.length c∧NodesR W A s:=by
 obtain ⟨⟨cs⟩,rfl,_⟩:=agg_cells Tryz.underlying24 hv;obtain ⟨fuel,hf⟩:=h;obtain ⟨A,c,l,e,hr⟩:=open_draft hf hz;have e':cs=[.slice A l.length c]:=e;subst e';exact ⟨A,c,l,rfl,hr⟩
end
end Go.Proofs.YtdfolgmcggdjdaaGreatDoor


