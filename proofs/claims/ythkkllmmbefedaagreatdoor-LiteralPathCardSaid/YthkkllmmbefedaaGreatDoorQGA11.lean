/-
  A string that came in: opened.
-/
import Derived.Test.YthkkllmmbefedaaGreatDoorQGA2
import Derived.Test.YthkkllmmbefedaaGreatDoorCards
import Derived.Test.YthkkllmmbefedaaGreatDoorTie
import Derived.Test.YthkkllmmbefedaaGreatDoorQGA9
import Derived.Test.YthkkllmmbefedaaGreatDoorQGB1
import Derived.Test.YthkkllmmbefedaaGreatDoorQGA5
import Derived.Test.YthkkllmmbefedaaGreatDoorQGA7
import Derived.OpenShut
import Derived.Carry
import Derived.Deep.Slices
import Derived.Deep.Fields
import Derived.ProofKit
import Derived.Deep.DeepHandedRow
import Derived.Lib.LaidTab
import Derived.ChangeMaps5
namespace Go.Proofs.YthkkllmmbefedaaGreatDoor
open Go.ChangeShapes Go.WideShapes Go.ChangeAt Go.RowKit Go.Deep
set_option maxHeartbeats 16000000
set_option maxRecDepth 100000
set_option maxRecDepth 100000
section
variable {H:Type} {enc:TypeId×Value->H} {W:World}
def Sz (t:TypeId) (d:DataW H):Prop:=∀w∈d.weights Tryz.prog t,w<=reachBytes
theorem Z0 {e:TypeId}:∀ {l:List (DataW H)},(∀w∈DataW.weightsAll Tryz.prog e l,w<=reachBytes)->∀d∈l,Sz e d
 | [],_,_,h=>by cases h
 | x::l,hw,d,hd=>by
  rw[DataW.weightsAll] at hw
  rcases AAr.1 hd with e|e
  ·subst e;exact fun w h=>hw w (AAz _ h)
  ·exact Z0 (fun w h=>hw w (ABM _ h)) d e
theorem PX {a:Addr} {v:Value} (h:W.cell? a=some v):a.spot=none:=by
 cases hs:a.spot with
 | none=>rfl
 | some x =>
  unfold World.cell? at h;rw[hs] at h;simp at h
  split at h <;> cases h
theorem EX {α:Type} [Inhabited α] {T E:TypeId} {k bytes:Nat} (hu:Tryz.prog.underlying T=some (.slice E)) (hk:Tryz.prog.cellsOf E=k) (hby:Tryz.prog.bytesOf E=bytes) (hk0:0<k) {at_:α->List Value->Prop} (hlen:∀y cs,at_ y cs->cs.length=k)
  {n:Nat} {cs:List Value} {d:DataW H} {ps:List MemPlace} (h:DataW.trod enc Tryz.prog W 0 (fun _=>true) true n T cs=some (d,ps)) (hz:Sz T d)
  (hel:∀d':DataW H,SizeOf.sizeOf d'<SizeOf.sizeOf d->∀n' cs' ps',DataW.trod enc Tryz.prog W 0 (fun _=>true) true n' E cs'=some (d',ps')->Sz E d'->∃y,at_ y cs') :
  ∃ (A:zo) (c:Nat) (l:List α),cs=[.slice A l.length c]/\Aa k bytes at_ W A l:=by
 rcases open_slice hu h with ⟨hcs,_⟩|⟨a,len,cap,m,n',D,Pl,hcs,_,hlc,hcm,hm,hx,hi⟩
 ·exact ⟨none,0,[],hcs,Aa.nil _ _ _ _ _⟩
 ·have hd:d = .slice ((List.range len).map D) ((List.range (m - len)).map fun j=>D (len+j)):=by
   have:=congrArg Prod.fst hx;exact this
  rw[hk] at hi;have hlm:len<=m:=by rw[hm];simp only[if_true];omega
  have hw:∀w∈(((List.range len).map D).length+((List.range (m - len)).map fun j=>D (len+j)).length) * bytes::(DataW.weightsAll Tryz.prog E ((List.range len).map D)++DataW.weightsAll Tryz.prog E ((List.range (m - len)).map fun j=>D (len+j))),w<=reachBytes:=by
   intro w hw
   refine hz w ?_;rw[hd,DataW.weights,hu];rw[<-hby] at hw;exact hw
  have hbig:=hw _ ABH;have hall:=Z0 (fun w h=>hw w (ABE _ (AAz _ h)))
  have AAI:DU bytes len:=by
   unfold DU;have h1:len * bytes<=(((List.range len).map D).length+((List.range (m - len)).map fun j=>D (len+j)).length) * bytes:=Nat.mul_le_mul_right _ (by simp)
   have h2:reachBytes<=140737488355328:=by decide
   omega
  have each:∀i,∃y:α,i<len->∃cs',at_ y cs'/\∀j,j<k->W.cell? ((a.add (i * k)).add j)=cs'[j]? := fun i=>by
   by_cases hl:i<len
   ·obtain ⟨cs',hcell,ht⟩:=hi i (by omega)
    have hmem:D i∈(List.range len).map D:=List.mem_map.2 ⟨i,List.mem_range.2 hl,rfl⟩;obtain ⟨y,hy⟩:=hel (D i) (by rw[hd];have:=List.sizeOf_lt_of_mem hmem;simp only[DataW.slice.sizeOf_spec];omega) n' cs' (Pl i) ht (hall _ hmem)
    exact ⟨y,fun _=>⟨cs',hy,(World.cells?_some hcell).2.2⟩⟩
   ·exact ⟨default,fun h=>absurd h hl⟩
  obtain ⟨f,hf⟩:=Classical.skolem.1 each;have bg:((List.range len).map f).length=len:=by simp
  refine ⟨some a,cap,(List.range len).map f,by rw[bg];exact hcs,by rw[bg];exact AAI,fun hne=>?_⟩
  have hpos:0<len:=by
   rcases Nat.eq_zero_or_pos len with e|e
   ·subst e;exact absurd rfl hne
   ·exact e
  have hsp:a.spot=none:=by
   obtain ⟨cs0,h0,h1⟩:=hf 0 hpos;have h2:=h1 0 hk0;have hl:=hlen _ _ h0;rw[zl (by omega)] at h2
   have ea:(a.add (0 * k)).add 0=a:=by simp[Addr.add]
   rw[ea] at h2;exact PX h2
  obtain ⟨b,o,s⟩:=a;simp only at hsp;subst hsp;refine ⟨b,o,rfl,fun i y hy=>?_⟩
  have hi':i<len:=by
   have:=(AAi.1 hy).1
   rwa [bg] at this
  have hyf:y=f i:=by
   rw[List.getElem?_map,List.getElem?_range hi'] at hy;exact (AAm hy).symm
  subst hyf;obtain ⟨cs',h1,h2⟩:=hf i hi';refine ⟨cs',h1,fun j u hj=>?_⟩
  have hjk:j<k:=by rw[<-hlen _ _ h1];exact (AAi.1 hj).1
  have:=h2 j hjk;rw[Addr.add_mid,Addr.add_mid] at this;rw[this,hj]
theorem aF {s:ByteArray} (h:s.size<=maxLen):Db s:=by unfold maxLen at h;unfold Db;omega
instance:Inhabited Ak:=⟨⟨0,⟨#[]⟩⟩⟩
instance:Inhabited Bu:=⟨⟨0,⟨#[]⟩⟩⟩
instance:Inhabited Val:=⟨.mk 0 false 0 ⟨#[]⟩ 0 [] [] []⟩
instance:Inhabited AZ:=⟨⟨0,⟨#[]⟩,0,false,false,default⟩⟩
instance:Inhabited Ae:=⟨⟨0,⟨#[]⟩,0,0,0,[],[],0,0,false⟩⟩
theorem Ij {t:TypeId} {fs:Array Field} {l:List (DataW H)} (hu:Tryz.prog.underlying t=some (.struct fs)) (hz:Sz t (.agg l)):∀w∈DataW.weightsEach Tryz.prog (fs.toList.map (·.type)) l,w<=reachBytes:=by
 intro w hw
 refine hz w ?_;rw[DataW.weights,hu];exact hw
theorem DX:∀ {ts:List TypeId} {l:List (DataW H)},(∀w∈DataW.weightsEach Tryz.prog ts l,w<=reachBytes)->∀ (i:Nat) t d,ts[i]? = some t->l[i]? = some d->Sz t d
 | [],_,_,_,_,_,h,_=>by simp at h
 | _::_,[],_,_,_,_,_,h=>by simp at h
 | t0::ts,d0::l,hw,i,t,d,ht,hd=>by
  rw[DataW.weightsEach] at hw
  cases i with
  | zero =>
   obtain rfl:t0=t:=by simpa using ht
   obtain rfl:d0=d:=by simpa using hd
   exact fun w h=>hw w (AAz _ h)
  | succ i=>exact DX (fun w h=>hw w (ABM _ h)) i t d (by simpa using ht) (by simpa using hd)
theorem dz {l:List (DataW H)} {d:DataW H} (h:d∈l):SizeOf.sizeOf d<SizeOf.sizeOf (DataW.agg l):=by
 have:=List.sizeOf_lt_of_mem h;simp only[DataW.agg.sizeOf_spec];omega
end
open Go.ChangeShapes Go.WideShapes Go.ChangeAt Go.RowKit Go.Deep
set_option maxRecDepth 100000
theorem own:ownKnob Tryz.prog.godebug=none:=by kernel_rfl
theorem laidOut:laidOutB Tryz.prog=true:=by kernel_rfl
section
variable {H:Type} {enc:TypeId×Value->H}
def XP (ts:List TypeId):Prop:=∀t∈ts,Tryz.prog.readableRec t=true/\t<Tryz.prog.types.size
theorem Jm {W W':World} (hb:Below W.heap.size W W') (sp:Nat->Bool):∀ (ts:List TypeId) (vs:List Value) (ds:List (DataW H)) (ps:List MemPlace),
  XP ts->DataW.TrodAll enc Tryz.prog W 0 (fun _=>true) true ts vs ds ps->(∀p∈ps,p.block<W.heap.size)->(∀p∈ps,sp p.block=true)->DataW.TrodAll enc Tryz.prog W' 0 sp true ts vs ds ps
 | [],[],[],ps,_,h,_,_=>h
 | t::ts,v::vs,d::ds,ps,hs,h,hlt,hsp=>by
  obtain ⟨p,q,h1,h2,rfl⟩:=h;have hs':(Tryz.prog.readableRec t=true/\t<Tryz.prog.types.size)/\XP ts:=⟨hs t (ABH ..),fun u hu=>hs u (ABE _ hu)⟩
  refine ⟨p,q,WideElems.Trod_stays laidOut hs'.1.1 hs'.1.2 h1 (fun x hx=>hb.same (hlt x (AAz _ hx))) (fun x hx=>hsp x (AAz _ hx)),Jm hb sp ts vs ds q hs'.2 h2 (fun x hx=>hlt x (ABM _ hx)) (fun x hx=>hsp x (ABM _ hx)),rfl⟩
 | [],[],_::_,_,_,h,_,_=>by cases h
 | [],_::_,_,_,_,h,_,_=>by cases h
 | _::_,[],_,_,_,h,_,_=>by cases h
 | _::_,_::_,[],_,_,h,_,_=>by cases h
theorem bN {f:Func} {s:ChangeSpec} {W W':World} {args:Array Value} {ds gs:List (DataW H)} {before:List MemPlace} (hv:s.vars=[]) (hrt:f.resultTypes = #[4])
  (hfn:(s.fn H ds).results=[.lit (.bool true)]/\(s.fn H ds).args=ds/\(s.fn H ds).vars=[]) (hst:XP f.params.toList)
  (hW:DataW.Whole enc Tryz.prog f.params.toList s.vars false W args.toList ds gs before) (hb:Below W.heap.size W W') :
  s.post enc Tryz.prog f false true false false W args (.bool true) W':=by
 have hlt:∀p∈before,p.block<W.heap.size:=fun p hp=>hW.lt p hp
 have hW0:=hW;obtain ⟨p,q,h1,h2,rfl,h4,h5⟩:=hW;rw[hv] at h2;obtain ⟨rfl,rfl⟩:=trodVars_none h2;have hold:∀x∈p++[],(fun b=>decide (b<W.heap.size)) x.block=true:=fun x hx=>by simpa using hlt x hx
 have hres:∀ (b:Nat) (sp:Nat->Bool) (hd:Bool),DataW.TrodAll enc Tryz.prog W' b sp hd f.resultTypes.toList ((Value.bool true).resultList f.resultTypes.size) (s.fn H (ds++[])).results []:=fun b sp hd=>by
  rw[List.append_nil,hfn.1,hrt];exact trodAll_cons_mk (shut_bool Tryz.underlying4 _) trodAll_mk0
 have hargs:∀sp:Nat->Bool,(∀x∈p++[],sp x.block=true)->DataW.TrodAll enc Tryz.prog W' 0 sp true f.params.toList args.toList (s.fn H (ds++[])).args p:=fun sp hsp=>by
  rw[List.append_nil,hfn.2.1];exact Jm hb sp _ _ _ _ hst h1 (fun x hx=>hlt x (AAz _ hx)) (fun x hx=>hsp x (AAz _ hx))
 have hvars:∀sp:Nat->Bool,DataW.TrodVars enc Tryz.prog W' sp s.vars (s.fn H (ds++[])).vars []:=fun sp=>by
  rw[List.append_nil,hfn.2.2,hv];rfl
 refine ⟨ds,[],p++[],[],p,[],hW0,hres _ _ _,hargs _ hold,hvars _,World.keptBut_mono (fun x hx=>⟨hx,Or.inr (AAo.1 hx)⟩) (hb.frame (· ∈ p++[])),fun _=>?_⟩
 refine ⟨ok_one hrt rfl (okWide_bool_mk Tryz.underlying4 _),_,_,([]++p)++[],⟨[]++p,[],trodAll_append (hargs _ (fun _ _=>rfl)) (hres _ _ _),hvars _,rfl,?_,?_⟩,?_⟩
 ·intro b off hp
  have hin:MemPlace.cell b off∈p++[]:=by simpa using hp
  rw[hb.frozen (hlt _ hin)];exact h4 b off hin
 ·intro ha;cases ha
 ·intro x hx _
  simpa using hx
end
open Go.ChangeShapes Go.WideShapes Go.ChangeAt Go.RowKit Go.Deep
set_option maxRecDepth 100000
section
variable {H:Type} {enc:TypeId×Value->H} {W:World}
variable {cs:List Value} {n:Nat}
theorem FO {x:DataW H×List MemPlace} (h:DataW.trod enc Tryz.prog W 0 (fun _=>true) true n 5 cs=some x):∃k:Nat,k<256/\cs=[.int .u8 k]:=by
 obtain ⟨z,hz,_,hr⟩:=DataW.trod_int Tryz.underlying5 h;have h1:0<=z/\z<=255:=by simpa[Lit.wf,IntKind.min,IntKind.max,IntKind.signed,IntKind.bits] using hr
 refine ⟨z.toNat,by omega,?_⟩
 rw[show ((z.toNat:Nat):Int)=z by omega]
 exact hz
instance:Inhabited JI:=⟨⟨0,0,0⟩⟩
instance:Inhabited AX:=⟨Bh⟩
variable {d:DataW H} {ps:List MemPlace}
theorem YH (h:DataW.trod enc Tryz.prog W 0 (fun _=>true) true n 121 cs=some (d,ps)):∃r:JI,r.At cs:=by
 obtain ⟨xs,m,_,_,hlen,hxl,hf⟩:=DataW.trod_struct Tryz.underlying121 h;have hc:Tryz.prog.cellsOf 121=3:=by kernel_rfl
 have hc8:Tryz.prog.cellsOf 5=1:=by kernel_rfl
 rw[hc] at hlen;simp only[List.size_toArray,AAS,List.length_nil] at hxl
 match cs,hlen,xs,hxl with
 | [c0,c1,c2],_,[x0,x1,x2],_ =>
  have h0:DataW.trod enc Tryz.prog W 0 (fun _=>true) true m 5 (([c0,c1,c2].drop 0).take (Tryz.prog.cellsOf 5))=some x0:=hf 0 _ rfl
  rw[hc8] at h0;have h1:DataW.trod enc Tryz.prog W 0 (fun _=>true) true m 5 (([c0,c1,c2].drop 1).take (Tryz.prog.cellsOf 5))=some x1:=hf 1 _ rfl
  rw[hc8] at h1;have h2:DataW.trod enc Tryz.prog W 0 (fun _=>true) true m 5 (([c0,c1,c2].drop 2).take (Tryz.prog.cellsOf 5))=some x2:=hf 2 _ rfl
  rw[hc8] at h2;obtain ⟨k0,b0,e0⟩:=FO h0;obtain ⟨k1,b1,e1⟩:=FO h1;obtain ⟨k2,b2,e2⟩:=FO h2
  injection (show [c0]=[Value.int .u8 k0] from e0) with g0 _
  injection (show [c1]=[Value.int .u8 k1] from e1) with g1 _
  injection (show [c2]=[Value.int .u8 k2] from e2) with g2 _
  subst g0;subst g1;subst g2;exact ⟨⟨k0,k1,k2⟩,⟨b0,b1,b2⟩,rfl⟩
theorem YI (h:DataW.trod enc Tryz.prog W 0 (fun _=>true) true n 82 cs=some (d,ps)) (hz:Sz 82 d):∃r:AX,r.At W cs:=by
 obtain ⟨xs,m,_,hx,hlen,hxl,hf⟩:=DataW.trod_struct Tryz.underlying82 h;have hdd:d = .agg (xs.map (·.1)):=congrArg Prod.fst hx;subst hdd;have hc:Tryz.prog.cellsOf 82=5:=by kernel_rfl
 have hc8:Tryz.prog.cellsOf 5=1:=by kernel_rfl
 have hcp:Tryz.prog.cellsOf 80=1:=by kernel_rfl
 have hsz:=Ij Tryz.underlying82 hz;rw[hc] at hlen;simp only[List.size_toArray,AAS,List.length_nil] at hxl
 match cs,hlen,xs,hxl with
 | [c0,c1,c2,c3,c4],_,[x0,x1,x2,x3,x4],_ =>
  have h0:DataW.trod enc Tryz.prog W 0 (fun _=>true) true m 5 (([c0,c1,c2,c3,c4].drop 0).take (Tryz.prog.cellsOf 5))=some x0:=hf 0 _ rfl
  rw[hc8] at h0;have h1:DataW.trod enc Tryz.prog W 0 (fun _=>true) true m 5 (([c0,c1,c2,c3,c4].drop 1).take (Tryz.prog.cellsOf 5))=some x1:=hf 1 _ rfl
  rw[hc8] at h1;have h2:DataW.trod enc Tryz.prog W 0 (fun _=>true) true m 5 (([c0,c1,c2,c3,c4].drop 2).take (Tryz.prog.cellsOf 5))=some x2:=hf 2 _ rfl
  rw[hc8] at h2;have h3:DataW.trod enc Tryz.prog W 0 (fun _=>true) true m 5 (([c0,c1,c2,c3,c4].drop 3).take (Tryz.prog.cellsOf 5))=some x3:=hf 3 _ rfl
  rw[hc8] at h3;have h4:DataW.trod enc Tryz.prog W 0 (fun _=>true) true m 80 (([c0,c1,c2,c3,c4].drop 4).take (Tryz.prog.cellsOf 80))=some x4:=hf 4 _ rfl
  rw[hcp] at h4;obtain ⟨k0,b0,e0⟩:=FO h0;obtain ⟨k1,b1,e1⟩:=FO h1;obtain ⟨k2,b2,e2⟩:=FO h2;obtain ⟨k3,b3,e3⟩:=FO h3
  obtain ⟨A,c,l,e4,hr⟩:=EX (α:=JI) (bytes:=3) Tryz.underlying80 (show Tryz.prog.cellsOf 121=3 by kernel_rfl) (by kernel_rfl) (by omega) (at_:=JI.At) (fun y cs hy=>by obtain ⟨_,rfl⟩:=hy;rfl) (d:=x4.1) (ps:=x4.2) h4 (DX hsz 4 _ _ rfl rfl) (fun d' _ n' cs' ps' ht _=>YH ht)
  injection (show [c0]=[Value.int .u8 k0] from e0) with g0 _
  injection (show [c1]=[Value.int .u8 k1] from e1) with g1 _
  injection (show [c2]=[Value.int .u8 k2] from e2) with g2 _
  injection (show [c3]=[Value.int .u8 k3] from e3) with g3 _
  injection (show [c4]=[Value.slice A l.length c] from e4) with g4 _
  subst g0;subst g1;subst g2;subst g3;subst g4;exact ⟨⟨k0,k1,k2,k3,l⟩,A,c,rfl,b0,b1,b2,b3,hr⟩
theorem U6 (h:DataW.trod enc Tryz.prog W 0 (fun _=>true) true n 24 cs=some (d,ps)) (hz:Sz 24 d):∃ (A:zo) (c:Nat) (l:List AX),cs=[.slice A l.length c]/\BM W A l:=by
 obtain ⟨xs,m,_,hx,hlen,hxl,hf⟩:=DataW.trod_struct Tryz.underlying24 h;have hdd:d = .agg (xs.map (·.1)):=congrArg Prod.fst hx;subst hdd;have hc:Tryz.prog.cellsOf 24=1:=by kernel_rfl
 have hcn:Tryz.prog.cellsOf 22=1:=by kernel_rfl
 have hsz:=Ij Tryz.underlying24 hz;rw[hc] at hlen;simp only[List.size_toArray,AAS,List.length_nil] at hxl
 match cs,hlen,xs,hxl with
 | [c0],_,[x0],_ =>
  have h0:DataW.trod enc Tryz.prog W 0 (fun _=>true) true m 22 (([c0].drop 0).take (Tryz.prog.cellsOf 22))=some x0:=hf 0 _ rfl
  rw[hcn] at h0;obtain ⟨A,c,l,e0,hr⟩:=EX (α:=AX) (bytes:=32) Tryz.underlying22 (show Tryz.prog.cellsOf 82=5 by kernel_rfl) (by kernel_rfl) (by omega) (at_:=fun x cs=>AX.At W x cs) (fun y cs hy=>by obtain ⟨_,_,rfl,_⟩:=hy;rfl) (d:=x0.1) (ps:=x0.2) h0 (DX hsz 0 _ _ rfl rfl) (fun d' _ n' cs' ps' ht hz'=>YI ht hz')
  exact ⟨A,c,l,e0,hr⟩
theorem QO {r:Reach} {b0:Nat} {v:Value} {T:TypeId} {fs:Array Field} (hu:Tryz.prog.underlying T=some (.struct fs)) (hv:Value.okWide Tryz.prog W r b0 T v):∃cs,v = .agg cs/\cs.size=Tryz.prog.cellsOf T:=by
 obtain ⟨cs,rfl,hsz,_⟩:∃cs,v = .agg cs/\cs.size=Tryz.prog.cellsOf T/\Row.okWide Tryz.prog W r b0 T cs:=by
  have h':=hv;unfold Value.okWide at h';rw[hu] at h';exact h'
 exact ⟨cs,rfl,hsz⟩
end
open Go.ChangeShapes Go.WideShapes Go.ChangeAt Go.RowKit Go.Deep
set_option maxRecDepth 100000
section
variable {H:Type} {enc:TypeId×Value->H} {W:World}
theorem Nk {α:Type} {k bytes:Nat} {at_:α->List Value->Prop} {P:α->Prop} {w:World} {A:zo} {l:List α} (h:Aa k bytes (fun x cs=>at_ x cs/\P x) w A l):∀x∈l,(∃cs,at_ x cs)/\P x:=fun x hx=>by
 obtain ⟨i,hi,rfl⟩:=AAw hx;obtain ⟨_,_,cs,_,h1,_⟩:=Aa.at_ h hi;exact ⟨⟨cs,h1.1⟩,h1.2⟩
theorem aD {s:ByteArray} (h:Sz (H:=H) 9 (.lit (.string s.data.toList))):s.size<=140737488355328:=by
 have h1:s.data.toList.length<=reachBytes:=h _ (by rw[DataW.weights];exact List.mem_singleton.2 rfl)
 have h2:reachBytes<=140737488355328:=by decide
 have h3:s.data.toList.length=s.size:=rfl
 omega
variable {d:DataW H}
theorem YG {n:Nat} {cs:List Value} {ps:List MemPlace} (h:DataW.trod enc Tryz.prog W 0 (fun _=>true) true n 97 cs=some (d,ps)) (hz:Sz 97 d):∃r:Ak,r.At cs/\r.data.size<=140737488355328:=by
 obtain ⟨xs,m,_,hx,hlen,hxl,hf⟩:=DataW.trod_struct Tryz.underlying97 h;have hdd:d = .agg (xs.map (·.1)):=congrArg Prod.fst hx;subst hdd;have hszz:=Ij Tryz.underlying97 hz;have hc:Tryz.prog.cellsOf 97=2:=by kernel_rfl
 have hci:Tryz.prog.cellsOf 3=1:=by kernel_rfl
 have hcs:Tryz.prog.cellsOf 9=1:=by kernel_rfl
 rw[hc] at hlen;simp only[List.size_toArray,AAS,List.length_nil] at hxl
 match cs,hlen,xs,hxl with
 | [c0,c1],_,[x0,x1],_ =>
  have h0:DataW.trod enc Tryz.prog W 0 (fun _=>true) true m 3 (([c0,c1].drop 0).take (Tryz.prog.cellsOf 3))=some x0:=hf 0 _ rfl
  rw[hci] at h0;have h1:DataW.trod enc Tryz.prog W 0 (fun _=>true) true m 9 (([c0,c1].drop 1).take (Tryz.prog.cellsOf 9))=some x1:=hf 1 _ rfl
  rw[hcs] at h1;obtain ⟨z,hz,_,_⟩:=DataW.trod_int Tryz.underlying3 h0;obtain ⟨s,hs,u1,hsz⟩:=DataW.trod_string Tryz.underlying9 h1
  injection (show [c0]=[Value.int .i64 z] from hz) with gz _
  injection (show [c1]=[Value.string s] from hs) with gs _
  subst gz;subst gs;subst u1;exact ⟨⟨z,s⟩,⟨aF hsz,rfl⟩,aD (DX hszz 1 _ _ rfl rfl)⟩
theorem YE:∀ (k:Nat) (d:DataW H),SizeOf.sizeOf d<=k->∀ (n:Nat) (cs:List Value) (ps:List MemPlace),DataW.trod enc Tryz.prog W 0 (fun _=>true) true n 28 cs=some (d,ps)->Sz 28 d->∃x:Val,x.At W cs/\GD x:=by
 intro k
 induction k with
 | zero=>intro d hd n cs ps h hz;exact absurd hd (by cases d <;> simp)
 | succ k ih =>
  intro d hd n cs ps h hz
  obtain ⟨xs,m,_,hx,hlen,hxl,hf⟩:=DataW.trod_struct Tryz.underlying28 h;have hdd:d = .agg (xs.map (·.1)):=congrArg Prod.fst hx;subst hdd;have hc:Tryz.prog.cellsOf 28=8:=by kernel_rfl
  have hci:Tryz.prog.cellsOf 3=1:=by kernel_rfl
  have uQ:Tryz.prog.cellsOf 2=1:=by kernel_rfl
  have hcb:Tryz.prog.cellsOf 4=1:=by kernel_rfl
  have hcs:Tryz.prog.cellsOf 9=1:=by kernel_rfl
  have hcv:Tryz.prog.cellsOf 25=1:=by kernel_rfl
  have hcr:Tryz.prog.cellsOf 26=1:=by kernel_rfl
  have hsz:=Ij Tryz.underlying28 hz;rw[hc] at hlen;simp only[List.size_toArray,AAS,List.length_nil] at hxl
  match cs,hlen,xs,hxl with
  | [c0,c1,c2,c3,c4,c5,c6,c7],_,[x0,x1,x2,x3,x4,x5,x6,x7],_ =>
   have h0:DataW.trod enc Tryz.prog W 0 (fun _=>true) true m 3 (([c0,c1,c2,c3,c4,c5,c6,c7].drop 0).take (Tryz.prog.cellsOf 3))=some x0:=hf 0 _ rfl
   rw[hci] at h0;have h1:DataW.trod enc Tryz.prog W 0 (fun _=>true) true m 4 (([c0,c1,c2,c3,c4,c5,c6,c7].drop 1).take (Tryz.prog.cellsOf 4))=some x1:=hf 1 _ rfl
   rw[hcb] at h1;have h2:DataW.trod enc Tryz.prog W 0 (fun _=>true) true m 2 (([c0,c1,c2,c3,c4,c5,c6,c7].drop 2).take (Tryz.prog.cellsOf 2))=some x2:=hf 2 _ rfl
   rw[uQ] at h2;have h3:DataW.trod enc Tryz.prog W 0 (fun _=>true) true m 9 (([c0,c1,c2,c3,c4,c5,c6,c7].drop 3).take (Tryz.prog.cellsOf 9))=some x3:=hf 3 _ rfl
   rw[hcs] at h3;have h4:DataW.trod enc Tryz.prog W 0 (fun _=>true) true m 3 (([c0,c1,c2,c3,c4,c5,c6,c7].drop 4).take (Tryz.prog.cellsOf 3))=some x4:=hf 4 _ rfl
   rw[hci] at h4;have h5:DataW.trod enc Tryz.prog W 0 (fun _=>true) true m 25 (([c0,c1,c2,c3,c4,c5,c6,c7].drop 5).take (Tryz.prog.cellsOf 25))=some x5:=hf 5 _ rfl
   rw[hcv] at h5;have h6:DataW.trod enc Tryz.prog W 0 (fun _=>true) true m 25 (([c0,c1,c2,c3,c4,c5,c6,c7].drop 6).take (Tryz.prog.cellsOf 25))=some x6:=hf 6 _ rfl
   rw[hcv] at h6;have h7:DataW.trod enc Tryz.prog W 0 (fun _=>true) true m 26 (([c0,c1,c2,c3,c4,c5,c6,c7].drop 7).take (Tryz.prog.cellsOf 26))=some x7:=hf 7 _ rfl
   rw[hcr] at h7;obtain ⟨z0,e0,_,_⟩:=DataW.trod_int Tryz.underlying3 h0;obtain ⟨z1,e1,_⟩:=DataW.trod_bool Tryz.underlying4 h1;obtain ⟨z2,e2,_,_⟩:=DataW.trod_int Tryz.underlying2 h2;obtain ⟨z3,e3,u3,s3⟩:=DataW.trod_string Tryz.underlying9 h3;obtain ⟨z4,e4,_,_⟩:=DataW.trod_int Tryz.underlying3 h4
   have hl5:SizeOf.sizeOf x5.1<SizeOf.sizeOf (DataW.agg ([x0,x1,x2,x3,x4,x5,x6,x7].map (·.1))):=dz (by simp)
   have XA:SizeOf.sizeOf x6.1<SizeOf.sizeOf (DataW.agg ([x0,x1,x2,x3,x4,x5,x6,x7].map (·.1))):=dz (by simp)
   obtain ⟨A1,c1',l1,e5,r5⟩:=EX (α:=Val) (bytes:=120) Tryz.underlying25 hc (by kernel_rfl) (by omega) (at_:=fun x cs=>Val.At W x cs/\GD x) (fun y cs hy=>by obtain ⟨A1,c1,A2,c2,A3,c3,rfl,_⟩:=Val.EF.1 hy.1;rfl) (d:=x5.1) (ps:=x5.2) h5 (DX hsz 5 _ _ rfl rfl) (fun d' hd' n' cs' ps' ht hz'=>ih d' (by omega) n' cs' ps' ht hz')
   obtain ⟨A2,c2',l2,e6,r6⟩:=EX (α:=Val) (bytes:=120) Tryz.underlying25 hc (by kernel_rfl) (by omega) (at_:=fun x cs=>Val.At W x cs/\GD x) (fun y cs hy=>by obtain ⟨A1,c1,A2,c2,A3,c3,rfl,_⟩:=Val.EF.1 hy.1;rfl) (d:=x6.1) (ps:=x6.2) h6 (DX hsz 6 _ _ rfl rfl) (fun d' hd' n' cs' ps' ht hz'=>ih d' (by omega) n' cs' ps' ht hz')
   obtain ⟨A3,c3',l3,e7,r7⟩:=EX (α:=Ak) (bytes:=24) Tryz.underlying26 (show Tryz.prog.cellsOf 97=2 by kernel_rfl) (by kernel_rfl) (by omega) (at_:=fun x cs=>Ak.At x cs/\x.data.size<=140737488355328) (fun y cs hy=>by rw[hy.1.2];rfl) (d:=x7.1) (ps:=x7.2) h7 (DX hsz 7 _ _ rfl rfl) (fun d' _ n' cs' ps' ht hz'=>YG ht hz')
   injection (show [c0]=[Value.int .i64 z0] from e0) with g0 _
   injection (show [c1]=[Value.bool z1] from e1) with g1 _
   injection (show [c2]=[Value.int .i64 z2] from e2) with g2 _
   injection (show [c3]=[Value.string z3] from e3) with g3 _
   injection (show [c4]=[Value.int .i64 z4] from e4) with g4 _
   injection (show [c5]=[Value.slice A1 l1.length c1'] from e5) with g5 _
   injection (show [c6]=[Value.slice A2 l2.length c2'] from e6) with g6 _
   injection (show [c7]=[Value.slice A3 l3.length c3'] from e7) with g7 _
   subst g0 g1 g2 g3 g4 g5 g6 g7;refine ⟨.mk z0 z1 z2 z3 z4 l1 l2 l3,Val.EF.2 ⟨A1,c1',A2,c2',A3,c3',rfl,aF s3,Aa.imp r5 (fun _ _ _ h=>h.1) (Pe _ _),Aa.imp r6 (fun _ _ _ h=>h.1) (Pe _ _),Aa.imp r7 (fun _ _ _ h=>h.1) (Pe _ _)⟩,?_⟩
   rw[GD];refine ⟨?_,fun r hr=>?_,(EQ _).2 fun y hy=>?_,(EQ _).2 fun y hy=>?_⟩
   ·subst u3
    exact aD (DX hsz 3 _ _ rfl rfl)
   ·exact (Nk r7 r hr).2
   ·exact (Nk r5 y hy).2
   ·exact (Nk r6 y hy).2
instance:Inhabited AQ:=⟨⟨0,⟨#[]⟩,0,⟨#[]⟩,0⟩⟩
theorem YF {r:Reach} {b0:Nat} {v:Value} {p:List MemPlace} (hv:Value.okWide Tryz.prog W r b0 28 v) (h:DataW.Trod enc Tryz.prog W 0 (fun _=>true) true 28 v d p) (hz:Sz 28 d):
  ∃ (x:Val) (A1:zo) (c1:Nat) (A2:zo) (c2:Nat) (A3:zo) (c3:Nat),v=x.v A1 c1 A2 c2 A3 c3/\Az W x A1 A2 A3/\GD x:=by
 obtain ⟨⟨cs⟩,rfl,_⟩:=QO Tryz.underlying28 hv;obtain ⟨fuel,hf⟩:=h;obtain ⟨x,hx,hb⟩:=YE _ d (AAH _) _ _ _ hf hz;obtain ⟨A1,c1,A2,c2,A3,c3,e,hr⟩:=Val.EF.1 hx;have e':cs=x.cs A1 c1 A2 c2 A3 c3:=e;subst e';exact ⟨x,A1,c1,A2,c2,A3,c3,rfl,hr,hb⟩
theorem TF {α:Type} [Inhabited α] {T E:TypeId} {k bytes:Nat} (hu:Tryz.prog.underlying T=some (.slice E)) (hk:Tryz.prog.cellsOf E=k) (hby:Tryz.prog.bytesOf E=bytes) (hk0:0<k) {at_:α->List Value->Prop} (hlen:∀y cs,at_ y cs->cs.length=k) {r:Reach} {b0:Nat} {v:Value} {p:List MemPlace} (hv:Value.okWide Tryz.prog W r b0 T v) (h:DataW.Trod enc Tryz.prog W 0 (fun _=>true) true T v d p) (hz:Sz T d) (hel:∀d':DataW H,∀n' cs' ps',DataW.trod enc Tryz.prog W 0 (fun _=>true) true n' E cs'=some (d',ps')->Sz E d'->∃y,at_ y cs'):
  ∃ (A:zo) (c:Nat) (l:List α),v = .slice A l.length c/\Aa k bytes at_ W A l:=by
 obtain ⟨fuel,hf⟩:=h;obtain ⟨A0,n0,c0,rfl⟩:=okWide_slice hu hv;obtain ⟨A,c,l,e,hr⟩:=EX (α:=α) (bytes:=bytes) hu hk hby hk0 hlen hf hz fun d' _ n' cs' ps'=>hel d' n' cs' ps'
 have e':([.slice A0 n0 c0]:List Value)=[.slice A l.length c]:=e
 injection e' with e' _
 exact ⟨A,c,l,e',hr⟩
end
open Go.ChangeShapes Go.WideShapes Go.ChangeAt Go.RowKit Go.Deep
set_option maxRecDepth 100000
section
variable {H:Type} {enc:TypeId×Value->H} {W:World}
end
end Go.Proofs.YthkkllmmbefedaaGreatDoor



