/-
  A string that came in: opened.
-/
import Derived.Test.YthkkllmmbefedaaGreatDoorCards
import Derived.Test.YthkkllmmbefedaaGreatDoorTie
import Derived.Test.YthkkllmmbefedaaGreatDoorQGB1
import Derived.OpenShut
import Derived.Deep.Fields
import Derived.Deep.DeepHandedRow
namespace Go.Proofs.YthkkllmmbefedaaGreatDoor
open Go.Proofs.Tryz
open Go.ChangeShapes Go.WideShapes Go.ChangeAt Go.RowKit Go.Deep
set_option maxHeartbeats 16000000
set_option maxRecDepth 100000
set_option maxRecDepth 100000
section
variable {H:Type} {enc:TypeId×Value->H} {W:World}
def Sz (t:TypeId) (d:DataW H):Prop:=∀w∈d.weights prog t,w<=reachBytes
theorem iK {e:TypeId}:∀ {l:List (DataW H)},(∀w∈DataW.weightsAll prog e l,w<=reachBytes)->∀d∈l,Sz e d
 | [],_,_,h=>by cases h
 | x::l,hw,d,hd=>by
  rw[DataW.weightsAll] at hw
  rcases ABP.1 hd with e|e
  ·subst e;exact fun w h=>hw w (ABj _ h)
  ·exact iK (fun w h=>hw w (ABw _ h)) d e
theorem RF {a:Addr} {v:Value} (h:W.cell? a=some v):a.spot=none:=by
 cases hs:a.spot with
 | none=>rfl
 | some x =>
  unfold World.cell? at h;rw[hs] at h;simp at h
  split at h <;> cases h
theorem KS {α:Type} [Inhabited α] {T E:TypeId} {k bytes:Nat} (hu:prog.underlying T=some (.slice E)) (hk:prog.cellsOf E=k) (hby:prog.bytesOf E=bytes) (hk0:0<k) {at_:α->List Value->Prop} (hlen:∀y cs,at_ y cs->cs.length=k)
  {n:Nat} {cs:List Value} {d:DataW H} {ps:List MemPlace} (h:DataW.trod enc prog W 0 (fun _=>true) true n T cs=some (d,ps)) (hz:Sz T d)
  (hel:∀d':DataW H,SizeOf.sizeOf d'<SizeOf.sizeOf d->∀n' cs' ps',DataW.trod enc prog W 0 (fun _=>true) true n' E cs'=some (d',ps')->Sz E d'->∃y,at_ y cs') :
  ∃ (A:zo) (c:Nat) (l:List α),cs=[.slice A l.length c]/\AY k bytes at_ W A l:=by
 rcases open_slice hu h with ⟨hcs,_⟩|⟨a,len,cap,m,n',D,Pl,hcs,_,hlc,hcm,hm,hx,hi⟩
 ·exact ⟨none,0,[],hcs,AY.nil _ _ _ _ _⟩
 ·have hd:d = .slice ((List.range len).map D) ((List.range (m - len)).map fun j=>D (len+j)):=by
   have:=congrArg Prod.fst hx;exact this
  rw[hk] at hi;have hlm:len<=m:=by rw[hm];simp only[if_true];omega
  have hw:∀w∈(((List.range len).map D).length+((List.range (m - len)).map fun j=>D (len+j)).length) * bytes::(DataW.weightsAll prog E ((List.range len).map D)++DataW.weightsAll prog E ((List.range (m - len)).map fun j=>D (len+j))),w<=reachBytes:=by
   intro w hw
   refine hz w ?_;rw[hd,DataW.weights,hu];rw[<-hby] at hw;exact hw
  have hbig:=hw _ ABT;have hall:=iK (fun w h=>hw w (ABZ _ (ABj _ h)))
  have ADU:EF bytes len:=by
   unfold EF;have h1:len * bytes<=(((List.range len).map D).length+((List.range (m - len)).map fun j=>D (len+j)).length) * bytes:=Nat.mul_le_mul_right _ (by simp)
   have h2:reachBytes<=140737488355328:=by decide
   omega
  have each:∀i,∃y:α,i<len->∃cs',at_ y cs'/\∀j,j<k->W.cell? ((a.add (i * k)).add j)=cs'[j]? := fun i=>by
   by_cases hl:i<len
   ·obtain ⟨cs',hcell,ht⟩:=hi i (by omega)
    have hmem:D i∈(List.range len).map D:=List.mem_map.2 ⟨i,List.mem_range.2 hl,rfl⟩;obtain ⟨y,hy⟩:=hel (D i) (by rw[hd];have:=List.sizeOf_lt_of_mem hmem;simp only[DataW.slice.sizeOf_spec];omega) n' cs' (Pl i) ht (hall _ hmem)
    exact ⟨y,fun _=>⟨cs',hy,(World.cells?_some hcell).2.2⟩⟩
   ·exact ⟨default,fun h=>absurd h hl⟩
  obtain ⟨f,hf⟩:=Classical.skolem.1 each;have lJ:((List.range len).map f).length=len:=by simp
  refine ⟨some a,cap,(List.range len).map f,by rw[lJ];exact hcs,by rw[lJ];exact ADU,fun hne=>?_⟩
  have hpos:0<len:=by
   rcases Nat.eq_zero_or_pos len with e|e
   ·subst e;exact absurd rfl hne
   ·exact e
  have hsp:a.spot=none:=by
   obtain ⟨cs0,h0,h1⟩:=hf 0 hpos;have h2:=h1 0 hk0;have hl:=hlen _ _ h0;rw[zl (by omega)] at h2
   have ea:(a.add (0 * k)).add 0=a:=by simp[Addr.add]
   rw[ea] at h2;exact RF h2
  obtain ⟨b,o,s⟩:=a;simp only at hsp;subst hsp;refine ⟨b,o,rfl,fun i y hy=>?_⟩
  have hi':i<len:=by
   have:=(AAv.1 hy).1
   rwa [lJ] at this
  have hyf:y=f i:=by
   rw[List.getElem?_map,List.getElem?_range hi'] at hy;exact (ABW hy).symm
  subst hyf;obtain ⟨cs',h1,h2⟩:=hf i hi';refine ⟨cs',h1,fun j u hj=>?_⟩
  have hjk:j<k:=by rw[<-hlen _ _ h1];exact (AAv.1 hj).1
  have:=h2 j hjk;rw[Addr.add_mid,Addr.add_mid] at this;rw[this,hj]
theorem iZ {s:ByteArray} (h:s.size<=maxLen):Cw s:=by unfold maxLen at h;unfold Cw;omega
instance:Inhabited Af:=⟨⟨0,⟨#[]⟩⟩⟩
instance:Inhabited Bu:=⟨⟨0,⟨#[]⟩⟩⟩
instance:Inhabited Val:=⟨.mk 0 false 0 ⟨#[]⟩ 0 [] [] []⟩
instance:Inhabited Ac:=⟨⟨0,⟨#[]⟩,0,false,false,default⟩⟩
instance:Inhabited Aa:=⟨⟨0,⟨#[]⟩,0,0,0,[],[],0,0,false⟩⟩
theorem Pj {t:TypeId} {fs:Array Field} {l:List (DataW H)} (hu:prog.underlying t=some (.struct fs)) (hz:Sz t (.agg l)):∀w∈DataW.weightsEach prog (fs.toList.map (·.type)) l,w<=reachBytes:=by
 intro w hw
 refine hz w ?_;rw[DataW.weights,hu];exact hw
theorem Iu:∀ {ts:List TypeId} {l:List (DataW H)},(∀w∈DataW.weightsEach prog ts l,w<=reachBytes)->∀ (i:Nat) t d,ts[i]? = some t->l[i]? = some d->Sz t d
 | [],_,_,_,_,_,h,_=>by simp at h
 | _::_,[],_,_,_,_,_,h=>by simp at h
 | t0::ts,d0::l,hw,i,t,d,ht,hd=>by
  rw[DataW.weightsEach] at hw
  cases i with
  | zero =>
   obtain rfl:t0=t:=by simpa using ht
   obtain rfl:d0=d:=by simpa using hd
   exact fun w h=>hw w (ABj _ h)
  | succ i=>exact Iu (fun w h=>hw w (ABw _ h)) i t d (by simpa using ht) (by simpa using hd)
end
open Go.ChangeShapes Go.WideShapes Go.ChangeAt Go.RowKit Go.Deep
set_option maxRecDepth 100000
theorem own:ownKnob prog.godebug=none:=by kernel_rfl
theorem laidOut:laidOutB prog=true:=by kernel_rfl
section
variable {H:Type} {enc:TypeId×Value->H}
def Zp (ts:List TypeId):Prop:=∀t∈ts,prog.readableRec t=true/\t<prog.types.size
theorem K5 {W W':World} (hb:Below W.heap.size W W') (sp:Nat->Bool):∀ (ts:List TypeId) (vs:List Value) (ds:List (DataW H)) (ps:List MemPlace),
  Zp ts->DataW.TrodAll enc prog W 0 (fun _=>true) true ts vs ds ps->(∀p∈ps,p.block<W.heap.size)->(∀p∈ps,sp p.block=true)->DataW.TrodAll enc prog W' 0 sp true ts vs ds ps
 | [],[],[],ps,_,h,_,_=>h
 | t::ts,v::vs,d::ds,ps,hs,h,hlt,hsp=>by
  obtain ⟨p,q,h1,h2,rfl⟩:=h;have hs':(prog.readableRec t=true/\t<prog.types.size)/\Zp ts:=⟨hs t (ABT ..),fun u hu=>hs u (ABZ _ hu)⟩
  refine ⟨p,q,WideElems.Trod_stays laidOut hs'.1.1 hs'.1.2 h1 (fun x hx=>hb.same (hlt x (ABj _ hx))) (fun x hx=>hsp x (ABj _ hx)),K5 hb sp ts vs ds q hs'.2 h2 (fun x hx=>hlt x (ABw _ hx)) (fun x hx=>hsp x (ABw _ hx)),rfl⟩
 | [],[],_::_,_,_,h,_,_=>by cases h
 | [],_::_,_,_,_,h,_,_=>by cases h
 | _::_,[],_,_,_,h,_,_=>by cases h
 | _::_,_::_,[],_,_,h,_,_=>by cases h
theorem kW {f:Func} {s:ChangeSpec} {W W':World} {args:Array Value} {ds gs:List (DataW H)} {before:List MemPlace} (hv:s.vars=[]) (hrt:f.resultTypes = #[4])
  (hfn:(s.fn H ds).results=[.lit (.bool true)]/\(s.fn H ds).args=ds/\(s.fn H ds).vars=[]) (hst:Zp f.params.toList)
  (hW:DataW.Whole enc prog f.params.toList s.vars false W args.toList ds gs before) (hb:Below W.heap.size W W') :
  s.post enc prog f false true false false W args (.bool true) W':=by
 have hlt:∀p∈before,p.block<W.heap.size:=fun p hp=>hW.lt p hp
 have hW0:=hW;obtain ⟨p,q,h1,h2,rfl,h4,h5⟩:=hW;rw[hv] at h2;obtain ⟨rfl,rfl⟩:=trodVars_none h2;have hold:∀x∈p++[],(fun b=>decide (b<W.heap.size)) x.block=true:=fun x hx=>by simpa using hlt x hx
 have hres:∀ (b:Nat) (sp:Nat->Bool) (hd:Bool),DataW.TrodAll enc prog W' b sp hd f.resultTypes.toList ((Value.bool true).resultList f.resultTypes.size) (s.fn H (ds++[])).results []:=fun b sp hd=>by
  rw[List.append_nil,hfn.1,hrt];exact trodAll_cons_mk (shut_bool underlying4 _) trodAll_mk0
 have hargs:∀sp:Nat->Bool,(∀x∈p++[],sp x.block=true)->DataW.TrodAll enc prog W' 0 sp true f.params.toList args.toList (s.fn H (ds++[])).args p:=fun sp hsp=>by
  rw[List.append_nil,hfn.2.1];exact K5 hb sp _ _ _ _ hst h1 (fun x hx=>hlt x (ABj _ hx)) (fun x hx=>hsp x (ABj _ hx))
 have hvars:∀sp:Nat->Bool,DataW.TrodVars enc prog W' sp s.vars (s.fn H (ds++[])).vars []:=fun sp=>by
  rw[List.append_nil,hfn.2.2,hv];rfl
 refine ⟨ds,[],p++[],[],p,[],hW0,hres _ _ _,hargs _ hold,hvars _,World.keptBut_mono (fun x hx=>⟨hx,Or.inr (ABY.1 hx)⟩) (hb.frame (· ∈ p++[])),fun _=>?_⟩
 refine ⟨ok_one hrt rfl (okWide_bool_mk underlying4 _),_,_,([]++p)++[],⟨[]++p,[],trodAll_append (hargs _ (fun _ _=>rfl)) (hres _ _ _),hvars _,rfl,?_,?_⟩,?_⟩
 ·intro b off hp
  have hin:MemPlace.cell b off∈p++[]:=by simpa using hp
  rw[hb.frozen (hlt _ hin)];exact h4 b off hin
 ·intro ha;cases ha
 ·intro x hx _
  simpa using hx
end
open Go.ChangeShapes Go.WideShapes Go.ChangeAt Go.RowKit Go.Deep
set_option maxRecDepth 100000
section
variable {H:Type} {enc:TypeId×Value->H} {W:World}
variable {cs:List Value} {n:Nat}
theorem GN {x:DataW H×List MemPlace} (h:DataW.trod enc prog W 0 (fun _=>true) true n 5 cs=some x):∃k:Nat,k<256/\cs=[.int .u8 k]:=by
 obtain ⟨z,hz,_,hr⟩:=DataW.trod_int underlying5 h;have h1:0<=z/\z<=255:=by simpa[Lit.wf,IntKind.min,IntKind.max,IntKind.signed,IntKind.bits] using hr
 refine ⟨z.toNat,by omega,?_⟩
 rw[show ((z.toNat:Nat):Int)=z by omega]
 exact hz
instance:Inhabited J7:=⟨⟨0,0,0⟩⟩
instance:Inhabited AR:=⟨Bo⟩
variable {d:DataW H} {ps:List MemPlace}
theorem bF (h:DataW.trod enc prog W 0 (fun _=>true) true n 121 cs=some (d,ps)):∃r:J7,r.At cs:=by
 obtain ⟨xs,m,_,_,hlen,hxl,hf⟩:=DataW.trod_struct underlying121 h;have hc:prog.cellsOf 121=3:=by kernel_rfl
 have hc8:prog.cellsOf 5=1:=by kernel_rfl
 rw[hc] at hlen;simp only[List.size_toArray,AAI,List.length_nil] at hxl
 match cs,hlen,xs,hxl with
 | [c0,c1,c2],_,[x0,x1,x2],_ =>
  have h0:DataW.trod enc prog W 0 (fun _=>true) true m 5 (([c0,c1,c2].drop 0).take (prog.cellsOf 5))=some x0:=hf 0 _ rfl
  rw[hc8] at h0;have h1:DataW.trod enc prog W 0 (fun _=>true) true m 5 (([c0,c1,c2].drop 1).take (prog.cellsOf 5))=some x1:=hf 1 _ rfl
  rw[hc8] at h1;have h2:DataW.trod enc prog W 0 (fun _=>true) true m 5 (([c0,c1,c2].drop 2).take (prog.cellsOf 5))=some x2:=hf 2 _ rfl
  rw[hc8] at h2;obtain ⟨k0,b0,e0⟩:=GN h0;obtain ⟨k1,b1,e1⟩:=GN h1;obtain ⟨k2,b2,e2⟩:=GN h2
  injection (show [c0]=[Value.int .u8 k0] from e0) with g0 _
  injection (show [c1]=[Value.int .u8 k1] from e1) with g1 _
  injection (show [c2]=[Value.int .u8 k2] from e2) with g2 _
  subst g0;subst g1;subst g2;exact ⟨⟨k0,k1,k2⟩,⟨b0,b1,b2⟩,rfl⟩
theorem bG (h:DataW.trod enc prog W 0 (fun _=>true) true n 82 cs=some (d,ps)) (hz:Sz 82 d):∃r:AR,r.At W cs:=by
 obtain ⟨xs,m,_,hx,hlen,hxl,hf⟩:=DataW.trod_struct underlying82 h;have hdd:d = .agg (xs.map (·.1)):=congrArg Prod.fst hx;subst hdd;have hc:prog.cellsOf 82=5:=by kernel_rfl
 have hc8:prog.cellsOf 5=1:=by kernel_rfl
 have hcp:prog.cellsOf 80=1:=by kernel_rfl
 have hsz:=Pj underlying82 hz;rw[hc] at hlen;simp only[List.size_toArray,AAI,List.length_nil] at hxl
 match cs,hlen,xs,hxl with
 | [c0,c1,c2,c3,c4],_,[x0,x1,x2,x3,x4],_ =>
  have h0:DataW.trod enc prog W 0 (fun _=>true) true m 5 (([c0,c1,c2,c3,c4].drop 0).take (prog.cellsOf 5))=some x0:=hf 0 _ rfl
  rw[hc8] at h0;have h1:DataW.trod enc prog W 0 (fun _=>true) true m 5 (([c0,c1,c2,c3,c4].drop 1).take (prog.cellsOf 5))=some x1:=hf 1 _ rfl
  rw[hc8] at h1;have h2:DataW.trod enc prog W 0 (fun _=>true) true m 5 (([c0,c1,c2,c3,c4].drop 2).take (prog.cellsOf 5))=some x2:=hf 2 _ rfl
  rw[hc8] at h2;have h3:DataW.trod enc prog W 0 (fun _=>true) true m 5 (([c0,c1,c2,c3,c4].drop 3).take (prog.cellsOf 5))=some x3:=hf 3 _ rfl
  rw[hc8] at h3;have h4:DataW.trod enc prog W 0 (fun _=>true) true m 80 (([c0,c1,c2,c3,c4].drop 4).take (prog.cellsOf 80))=some x4:=hf 4 _ rfl
  rw[hcp] at h4;obtain ⟨k0,b0,e0⟩:=GN h0;obtain ⟨k1,b1,e1⟩:=GN h1;obtain ⟨k2,b2,e2⟩:=GN h2;obtain ⟨k3,b3,e3⟩:=GN h3
  obtain ⟨A,c,l,e4,hr⟩:=KS (α:=J7) (bytes:=3) underlying80 (show prog.cellsOf 121=3 by kernel_rfl) (by kernel_rfl) (by omega) (at_:=J7.At) (fun y cs hy=>by obtain ⟨_,rfl⟩:=hy;rfl) (d:=x4.1) (ps:=x4.2) h4 (Iu hsz 4 _ _ rfl rfl) (fun d' _ n' cs' ps' ht _=>bF ht)
  injection (show [c0]=[Value.int .u8 k0] from e0) with g0 _
  injection (show [c1]=[Value.int .u8 k1] from e1) with g1 _
  injection (show [c2]=[Value.int .u8 k2] from e2) with g2 _
  injection (show [c3]=[Value.int .u8 k3] from e3) with g3 _
  injection (show [c4]=[Value.slice A l.length c] from e4) with g4 _
  subst g0;subst g1;subst g2;subst g3;subst g4;exact ⟨⟨k0,k1,k2,k3,l⟩,A,c,rfl,b0,b1,b2,b3,hr⟩
theorem Xi (h:DataW.trod enc prog W 0 (fun _=>true) true n 24 cs=some (d,ps)) (hz:Sz 24 d):∃ (A:zo) (c:Nat) (l:List AR),cs=[.slice A l.length c]/\BG W A l:=by
 obtain ⟨xs,m,_,hx,hlen,hxl,hf⟩:=DataW.trod_struct underlying24 h;have hdd:d = .agg (xs.map (·.1)):=congrArg Prod.fst hx;subst hdd;have hc:prog.cellsOf 24=1:=by kernel_rfl
 have hcn:prog.cellsOf 22=1:=by kernel_rfl
 have hsz:=Pj underlying24 hz;rw[hc] at hlen;simp only[List.size_toArray,AAI,List.length_nil] at hxl
 match cs,hlen,xs,hxl with
 | [c0],_,[x0],_ =>
  have h0:DataW.trod enc prog W 0 (fun _=>true) true m 22 (([c0].drop 0).take (prog.cellsOf 22))=some x0:=hf 0 _ rfl
  rw[hcn] at h0;obtain ⟨A,c,l,e0,hr⟩:=KS (α:=AR) (bytes:=32) underlying22 (show prog.cellsOf 82=5 by kernel_rfl) (by kernel_rfl) (by omega) (at_:=fun x cs=>AR.At W x cs) (fun y cs hy=>by obtain ⟨_,_,rfl,_⟩:=hy;rfl) (d:=x0.1) (ps:=x0.2) h0 (Iu hsz 0 _ _ rfl rfl) (fun d' _ n' cs' ps' ht hz'=>bG ht hz')
  exact ⟨A,c,l,e0,hr⟩
theorem dW {r:Reach} {b0:Nat} {v:Value} {T:TypeId} {fs:Array Field} (hu:prog.underlying T=some (.struct fs)) (hv:Value.okWide prog W r b0 T v):∃cs,v = .agg cs/\cs.size=prog.cellsOf T:=by
 obtain ⟨cs,rfl,hsz,_⟩:∃cs,v = .agg cs/\cs.size=prog.cellsOf T/\Row.okWide prog W r b0 T cs:=by
  have h':=hv;unfold Value.okWide at h';rw[hu] at h';exact h'
 exact ⟨cs,rfl,hsz⟩
end
open Go.ChangeShapes Go.WideShapes Go.ChangeAt Go.RowKit Go.Deep
set_option maxRecDepth 100000
section
variable {H:Type} {enc:TypeId×Value->H} {W:World}
variable {d:DataW H}
theorem jh {n:Nat} {cs:List Value} {ps:List MemPlace} (h:DataW.trod enc prog W 0 (fun _=>true) true n 59 cs=some (d,ps)):∃r:AJ,r.At cs:=by
 obtain ⟨xs,m,_,_,hlen,hxl,hf⟩:=DataW.trod_struct underlying59 h;have hc:prog.cellsOf 59=5:=by kernel_rfl
 have AA0:prog.cellsOf 3=1:=by kernel_rfl
 have ADP:prog.cellsOf 2=1:=by kernel_rfl
 have AAz:prog.cellsOf 9=1:=by kernel_rfl
 rw[hc] at hlen;simp only[List.size_toArray,AAI,List.length_nil] at hxl
 match cs,hlen,xs,hxl with
 | [c0,c1,c2,c3,c4],_,[x0,x1,x2,x3,x4],_ =>
  have h0:DataW.trod enc prog W 0 (fun _=>true) true m 3 (([c0,c1,c2,c3,c4].drop 0).take (prog.cellsOf 3))=some x0:=hf 0 _ rfl
  rw[AA0] at h0;have h1:DataW.trod enc prog W 0 (fun _=>true) true m 9 (([c0,c1,c2,c3,c4].drop 1).take (prog.cellsOf 9))=some x1:=hf 1 _ rfl
  rw[AAz] at h1;have h2:DataW.trod enc prog W 0 (fun _=>true) true m 2 (([c0,c1,c2,c3,c4].drop 2).take (prog.cellsOf 2))=some x2:=hf 2 _ rfl
  rw[ADP] at h2;have h3:DataW.trod enc prog W 0 (fun _=>true) true m 9 (([c0,c1,c2,c3,c4].drop 3).take (prog.cellsOf 9))=some x3:=hf 3 _ rfl
  rw[AAz] at h3;have h4:DataW.trod enc prog W 0 (fun _=>true) true m 3 (([c0,c1,c2,c3,c4].drop 4).take (prog.cellsOf 3))=some x4:=hf 4 _ rfl
  rw[AA0] at h4;obtain ⟨z0,e0,_,_⟩:=DataW.trod_int underlying3 h0;obtain ⟨z1,e1,_,s1⟩:=DataW.trod_string underlying9 h1;obtain ⟨z2,e2,_,_⟩:=DataW.trod_int underlying2 h2;obtain ⟨z3,e3,_,s3⟩:=DataW.trod_string underlying9 h3;obtain ⟨z4,e4,_,_⟩:=DataW.trod_int underlying3 h4
  injection (show [c0]=[Value.int .i64 z0] from e0) with g0 _
  injection (show [c1]=[Value.string z1] from e1) with g1 _
  injection (show [c2]=[Value.int .i64 z2] from e2) with g2 _
  injection (show [c3]=[Value.string z3] from e3) with g3 _
  injection (show [c4]=[Value.int .i64 z4] from e4) with g4 _
  subst g0 g1 g2 g3 g4;exact ⟨⟨z0,z1,z2,z3,z4⟩,⟨iZ s1,iZ s3⟩,rfl⟩
instance:Inhabited AJ:=⟨⟨0,⟨#[]⟩,0,⟨#[]⟩,0⟩⟩
theorem U8 {α:Type} [Inhabited α] {T E:TypeId} {k bytes:Nat} (hu:prog.underlying T=some (.slice E)) (hk:prog.cellsOf E=k) (hby:prog.bytesOf E=bytes) (hk0:0<k) {at_:α->List Value->Prop} (hlen:∀y cs,at_ y cs->cs.length=k) {r:Reach} {b0:Nat} {v:Value} {p:List MemPlace} (hv:Value.okWide prog W r b0 T v) (h:DataW.Trod enc prog W 0 (fun _=>true) true T v d p) (hz:Sz T d) (hel:∀d':DataW H,∀n' cs' ps',DataW.trod enc prog W 0 (fun _=>true) true n' E cs'=some (d',ps')->Sz E d'->∃y,at_ y cs'):
  ∃ (A:zo) (c:Nat) (l:List α),v = .slice A l.length c/\AY k bytes at_ W A l:=by
 obtain ⟨fuel,hf⟩:=h;obtain ⟨A0,n0,c0,rfl⟩:=okWide_slice hu hv;obtain ⟨A,c,l,e,hr⟩:=KS (α:=α) (bytes:=bytes) hu hk hby hk0 hlen hf hz fun d' _ n' cs' ps'=>hel d' n' cs' ps'
 have e':([.slice A0 n0 c0]:List Value)=[.slice A l.length c]:=e
 injection e' with e' _
 exact ⟨A,c,l,e',hr⟩
theorem Xh {r:Reach} {b0:Nat} {v:Value} {p:List MemPlace} (hv:Value.okWide prog W r b0 50 v) (h:DataW.Trod enc prog W 0 (fun _=>true) true 50 v d p) (hz:Sz 50 d):
  ∃ (A:zo) (c:Nat) (l:List AJ),v = .slice A l.length c/\Ew W A l :=
 U8 underlying50 (by kernel_rfl) (by kernel_rfl) (by omega) (fun y cs hy=>by rw[hy.2];rfl) hv h hz fun d' n' cs' ps' ht _=>jh ht
end
open Go.ChangeShapes Go.WideShapes Go.ChangeAt Go.RowKit Go.Deep
set_option maxRecDepth 100000
section
variable {H:Type} {enc:TypeId×Value->H} {W:World}
end
