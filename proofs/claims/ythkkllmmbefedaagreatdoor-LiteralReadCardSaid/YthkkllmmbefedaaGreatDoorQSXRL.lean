/-
  What the law XRL wants besides.
-/
import Derived.Test.YthkkllmmbefedaaGreatDoorQGA0
import Derived.Test.YthkkllmmbefedaaGreatDoorQGA1
import Derived.Test.YthkkllmmbefedaaGreatDoorQGA2
import Derived.Test.YthkkllmmbefedaaGreatDoorQGA3
import Derived.Test.YthkkllmmbefedaaGreatDoorQGA4
import Derived.Test.YthkkllmmbefedaaGreatDoorQGA5
import Derived.Test.YthkkllmmbefedaaGreatDoorQGA6
import Derived.Test.YthkkllmmbefedaaGreatDoorQGA7
import Derived.Test.YthkkllmmbefedaaGreatDoorQVC1
import Derived.Test.YthkkllmmbefedaaGreatDoorQGA8
import Derived.Test.YthkkllmmbefedaaGreatDoorQGR0
import Derived.Test.YthkkllmmbefedaaGreatDoorQGC0
import Derived.Test.YthkkllmmbefedaaGreatDoorQNRH
import Derived.Test.YthkkllmmbefedaaGreatDoorQGD0
import Derived.Test.YthkkllmmbefedaaGreatDoorQNRJ
import Derived.Test.YthkkllmmbefedaaGreatDoorQGA9
import Derived.Test.YthkkllmmbefedaaGreatDoorQVF7
import Derived.Test.YthkkllmmbefedaaGreatDoorQGL0
import Derived.Test.YthkkllmmbefedaaGreatDoorQLXWA
import Derived.Test.YthkkllmmbefedaaGreatDoorQGA10
import Derived.Test.YthkkllmmbefedaaGreatDoorQGA11
import Derived.Test.YthkkllmmbefedaaGreatDoorQGB0
import Derived.Test.YthkkllmmbefedaaGreatDoorQGE0
import Derived.Test.YthkkllmmbefedaaGreatDoorQATL
import Derived.Test.YthkkllmmbefedaaGreatDoorQPWL
import Derived.Test.YthkkllmmbefedaaGreatDoorQNRM
import Derived.Test.YthkkllmmbefedaaGreatDoorQGW0
import Derived.Test.YthkkllmmbefedaaGreatDoorQLW8
import Derived.Test.YthkkllmmbefedaaGreatDoorQLWL
import Derived.Test.YthkkllmmbefedaaGreatDoorQAKL
import Derived.Test.YthkkllmmbefedaaGreatDoorQAKM
import Derived.Test.YthkkllmmbefedaaGreatDoorQGQ0
import Derived.Test.YthkkllmmbefedaaGreatDoorQGM0
import Derived.Test.YthkkllmmbefedaaGreatDoorQGQ1
import Derived.Test.YthkkllmmbefedaaGreatDoorQGQ2
import Derived.Test.YthkkllmmbefedaaGreatDoorQNQB
import Derived.Test.YthkkllmmbefedaaGreatDoorQNQC
import Derived.Test.YthkkllmmbefedaaGreatDoorQGM1
import Derived.Test.YthkkllmmbefedaaGreatDoorQGM2
import Derived.Test.YthkkllmmbefedaaGreatDoorQGM3
import Derived.Test.YthkkllmmbefedaaGreatDoorQRG0
import Derived.Test.YthkkllmmbefedaaGreatDoorQRG1
import Derived.Test.YthkkllmmbefedaaGreatDoorQRG2
import Derived.Test.YthkkllmmbefedaaGreatDoorQGQ3
import Derived.Test.YthkkllmmbefedaaGreatDoorQGX0
import Derived.Test.YthkkllmmbefedaaGreatDoorQDR4
import Derived.BigQuiet
import Derived.Carry
import Derived.Deep.CutBlock
import Derived.Deep.DeepCutAuto
import Derived.Deep.DeepHandedRow
import Derived.Deep.DeepWitnessRowRef
import Derived.Deep.DrawnRows
import Derived.Deep.Fields
import Derived.Deep.LoopGhost
import Derived.Deep.MidRow
import Derived.Deep.QuietTactic
import Derived.Deep.RegionHeld3
import Derived.Deep.Slices
import Derived.Laws.IdiomStrings
import Derived.Laws.Rows
import Derived.Lib.AppendIntMem
import Derived.Lib.Bytealg
import Derived.Lib.Hide
import Derived.Lib.ItoaLen
import Derived.Lib.ItoaMem
import Derived.Lib.Join
import Derived.Lib.LaidTab
import Derived.Lib.MinMax
import Derived.Lib.ParseIntBCases
import Derived.Lib.ParseIntBTie
import Derived.Lib.SliceRun
import Derived.Lib.Zigzag
import Derived.MapKept
import Derived.Maps.AppendAt
import Derived.OpenShut
import Derived.OwnWalk
import Derived.ProofKit
import Derived.RowKit
import Derived.Shelf.Strings.BuilderK
import Derived.Shelf.Vars
import Derived.SliceStrings
import Derived.StillTailTactics
import Derived.Stop.LaidErr
import Derived.WalkKit
namespace Go.Proofs.YthkkllmmbefedaaGreatDoor
open Go.RowKit
set_option maxHeartbeats 16000000
set_option maxRecDepth 100000
section
variable {f:Int->List AB->Bool->PR Val} {g:Int->Val->List AB} {x:AZ} {k:Bool} {more:List AB}
end
section
variable {s:List AZ} {n:Nat} {t:Int} {v:Val}
end
section
variable {f:Int->List AB->Bool->PR Val} {g:Int->Val->List AB}
variable {P:Int->Val->Prop}
end
section
variable {f:Int->Val->ByteArray} {g:Int->Val->List AB} {x:AZ}
end
section
variable (f:Int->Val->ByteArray) {x:AZ}
end
section
variable (g:Int->Val->List AB) {x:AZ} {v:Val}
end
section
variable {m:Bool} {f:Int->List AB->Bool->PR Val}
end
variable {s:List AZ}
theorem ABT (h:YR s) (t:Int) (l:List AB):bf false s t l=bf true s t l:=by
 unfold bf
 split
 ·rfl
 ·rcases jO (fun t=>(h.ty t).ids) (fun t=>(h.ty t).uI) t l with ⟨e,h1,h2⟩|⟨v,v',r,k,h1,h2,h3⟩
  ·rw[h1,h2]
  ·rw[h1,h2]
   simp only
   rcases h3 with ⟨rfl,rfl⟩|⟨h4,h5⟩
   ·rfl
   ·rw[AAC (h5.imp id YL),AAC (Or.inr (YL h4))]
open Go.ChangeShapes Go.WideShapes Go.ChangeAt Go.RowKit Go.Deep
set_option maxRecDepth 100000
section
variable {H:Type} {enc:TypeId×Value->H} {W:World}
theorem ABU {s:ByteArray} (h:s.size<=maxLen):Dc s:=by unfold maxLen at h;unfold Dc;omega
end
open Go.ChangeShapes Go.WideShapes Go.ChangeAt Go.RowKit Go.Deep
set_option maxRecDepth 100000
section
variable {H:Type} {enc:TypeId×Value->H}
end
open Go.ChangeShapes Go.WideShapes Go.ChangeAt Go.RowKit Go.Deep
set_option maxRecDepth 100000
section
variable {H:Type} {enc:TypeId×Value->H} {W:World}
end
open Go.ChangeShapes Go.WideShapes Go.ChangeAt Go.RowKit Go.Deep
set_option maxRecDepth 100000
section
variable {H:Type} {enc:TypeId×Value->H} {W:World}
variable {d:DataW H}
theorem ABX {n:Nat} {cs:List Value} {ps:List MemPlace} (h:DataW.trod enc Tryz.prog W 0 (fun _=>true) true n 59 cs=some (d,ps)):∃r:AB,r.At cs:=by
 obtain ⟨xs,m,_,_,hlen,hxl,hf⟩:=DataW.trod_struct Tryz.underlying59 h;have hc:Tryz.prog.cellsOf 59=5:=by kernel_rfl
 have ABh:Tryz.prog.cellsOf 3=1:=by kernel_rfl
 have ABi:Tryz.prog.cellsOf 2=1:=by kernel_rfl
 have ABg:Tryz.prog.cellsOf 9=1:=by kernel_rfl
 rw[hc] at hlen;simp only[List.size_toArray,AAS,List.length_nil] at hxl
 match cs,hlen,xs,hxl with
 | [c0,c1,c2,c3,c4],_,[x0,x1,x2,x3,x4],_ =>
  have h0:DataW.trod enc Tryz.prog W 0 (fun _=>true) true m 3 (([c0,c1,c2,c3,c4].drop 0).take (Tryz.prog.cellsOf 3))=some x0:=hf 0 _ rfl
  rw[ABh] at h0;have h1:DataW.trod enc Tryz.prog W 0 (fun _=>true) true m 9 (([c0,c1,c2,c3,c4].drop 1).take (Tryz.prog.cellsOf 9))=some x1:=hf 1 _ rfl
  rw[ABg] at h1;have h2:DataW.trod enc Tryz.prog W 0 (fun _=>true) true m 2 (([c0,c1,c2,c3,c4].drop 2).take (Tryz.prog.cellsOf 2))=some x2:=hf 2 _ rfl
  rw[ABi] at h2;have h3:DataW.trod enc Tryz.prog W 0 (fun _=>true) true m 9 (([c0,c1,c2,c3,c4].drop 3).take (Tryz.prog.cellsOf 9))=some x3:=hf 3 _ rfl
  rw[ABg] at h3;have h4:DataW.trod enc Tryz.prog W 0 (fun _=>true) true m 3 (([c0,c1,c2,c3,c4].drop 4).take (Tryz.prog.cellsOf 3))=some x4:=hf 4 _ rfl
  rw[ABh] at h4;obtain ⟨z0,e0,_,_⟩:=DataW.trod_int Tryz.underlying3 h0;obtain ⟨z1,e1,_,s1⟩:=DataW.trod_string Tryz.underlying9 h1;obtain ⟨z2,e2,_,_⟩:=DataW.trod_int Tryz.underlying2 h2;obtain ⟨z3,e3,_,s3⟩:=DataW.trod_string Tryz.underlying9 h3;obtain ⟨z4,e4,_,_⟩:=DataW.trod_int Tryz.underlying3 h4
  injection (show [c0]=[Value.int .i64 z0] from e0) with g0 _
  injection (show [c1]=[Value.string z1] from e1) with g1 _
  injection (show [c2]=[Value.int .i64 z2] from e2) with g2 _
  injection (show [c3]=[Value.string z3] from e3) with g3 _
  injection (show [c4]=[Value.int .i64 z4] from e4) with g4 _
  subst g0 g1 g2 g3 g4;exact ⟨⟨z0,z1,z2,z3,z4⟩,⟨ABU s1,ABU s3⟩,rfl⟩
theorem ABP {α:Type} [Inhabited α] {T E:TypeId} {k bytes:Nat} (hu:Tryz.prog.underlying T=some (.slice E)) (hk:Tryz.prog.cellsOf E=k) (hby:Tryz.prog.bytesOf E=bytes) (hk0:0<k) {at_:α->List Value->Prop} (hlen:∀y cs,at_ y cs->cs.length=k) {r:Reach} {b0:Nat} {v:Value} {p:List MemPlace} (hv:Value.okWide Tryz.prog W r b0 T v) (h:DataW.Trod enc Tryz.prog W 0 (fun _=>true) true T v d p) (hz:Sz T d) (hel:∀d':DataW H,∀n' cs' ps',DataW.trod enc Tryz.prog W 0 (fun _=>true) true n' E cs'=some (d',ps')->Sz E d'->∃y,at_ y cs'):
  ∃ (A:zo) (c:Nat) (l:List α),v = .slice A l.length c/\Ae k bytes at_ W A l:=by
 obtain ⟨fuel,hf⟩:=h;obtain ⟨A0,n0,c0,rfl⟩:=okWide_slice hu hv;obtain ⟨A,c,l,e,hr⟩:=Qf (α:=α) (bytes:=bytes) hu hk hby hk0 hlen hf hz fun d' _ n' cs' ps'=>hel d' n' cs' ps'
 have e':([.slice A0 n0 c0]:List Value)=[.slice A l.length c]:=e
 injection e' with e' _
 exact ⟨A,c,l,e',hr⟩
theorem ABR {r:Reach} {b0:Nat} {v:Value} {p:List MemPlace} (hv:Value.okWide Tryz.prog W r b0 50 v) (h:DataW.Trod enc Tryz.prog W 0 (fun _=>true) true 50 v d p) (hz:Sz 50 d):
  ∃ (A:zo) (c:Nat) (l:List AB),v = .slice A l.length c/\JF W A l :=
 ABP Tryz.underlying50 (by kernel_rfl) (by kernel_rfl) (by omega) (fun y cs hy=>by rw[hy.2];rfl) hv h hz fun d' n' cs' ps' ht _=>ABX ht
end
variable {e n t:Int} {l:List AB} {w:World}
theorem ABV {w':World} {x:BX} (h:(x.v,n,e)=bf false s t l) (hr:BO w' x.v x.A1 x.A2 x.A3) (hb:Below w.heap.size w w'):zf s t l w (.returned (.tuple #[x.v.v x.A1 x.c1 x.A2 x.c2 x.A3 x.c3,.int .i64 n,.int .i64 e])) w':=by
 refine ⟨x,?_,by rw[<-h],hr,hb⟩
 rw[<-h]
theorem ABN {W5:World} {q:Nat} (hz:W5.heap[q]? = some zO) (hb:Below w.heap.size w W5) (hq:w.heap.size<=q) (h:bf false s t l=(zeroV,n,e)):
  (q8 W5 q (.int .i64 0) (.bool false) (.int .i64 0) (.string ⟨#[]⟩) (.int .i64 0) AJ AJ AJ).heap[q]? = some zO/\zf s t l w (.returned (.tuple #[zeroV.v none 0 none 0 none 0,.int .i64 n,.int .i64 e])) (q8 W5 q (.int .i64 0) (.bool false) (.int .i64 0) (.string ⟨#[]⟩) (.int .i64 0) AJ AJ AJ) :=
 ⟨Cw hz _ _ _ _ _ _ _ _,ABV (x:=⟨zeroV,none,0,none,0,none,0⟩) h.symm (RO _) (Cy hb hq _ _ _ _ _ _ _ _)⟩
def RdO (s:List AZ) (t:Int) (l:List AB) (w:World) (y:Ending) (w':World):Prop :=
 ∃x:BX,y = .returned (.tuple #[x.v.v x.A1 x.c1 x.A2 x.c2 x.A3 x.c3,.int .i64 (bf false s t l).2.1,.int .i64 (bf false s t l).2.2])/\x.v=(bf false s t l).1/\Off (fun q=>q<w.heap.size) w' (fun u=>BO u x.v x.A1 x.A2 x.A3)/\Below w.heap.size w w'
theorem ABW {w':World} {x:BX} (h:(x.v,n,e)=bf false s t l) (hr:Off (fun q=>q<w.heap.size) w' (fun u=>BO u x.v x.A1 x.A2 x.A3)) (hb:Below w.heap.size w w'):RdO s t l w (.returned (.tuple #[x.v.v x.A1 x.c1 x.A2 x.c2 x.A3 x.c3,.int .i64 n,.int .i64 e])) w':=by
 refine ⟨x,?_,by rw[<-h],hr,hb⟩
 rw[<-h]
theorem RdO.low {W W':World} {y:Ending} (h:RdO s t l w y W) (hb:Below W.heap.size W W'):RdO s t l w y W':=by
 obtain ⟨x,h1,h2,h3,h4⟩:=h;exact ⟨x,h1,h2,h3.low hb,h4.trans (hb.mono h4.size)⟩
theorem ABL {W5:World} {q:Nat} (hz:W5.heap[q]? = some zO) (hb:Below w.heap.size w W5) (hq:w.heap.size<=q) (h:bf false s t l=(zeroV,n,e)):
  (q8 W5 q (.int .i64 0) (.bool false) (.int .i64 0) (.string ⟨#[]⟩) (.int .i64 0) AJ AJ AJ).heap[q]? = some zO/\RdO s t l w (.returned (.tuple #[zeroV.v none 0 none 0 none 0,.int .i64 n,.int .i64 e])) (q8 W5 q (.int .i64 0) (.bool false) (.int .i64 0) (.string ⟨#[]⟩) (.int .i64 0) AJ AJ AJ) :=
 ⟨Cw hz _ _ _ _ _ _ _ _,ABW (x:=⟨zeroV,none,0,none,0,none,0⟩) h.symm (fun u _=>RO u) (Cy hb hq _ _ _ _ _ _ _ _)⟩
theorem ABK (hv:zQ s=0) (hn:Ca s) (A:zo) (c:Nat) (t:Int) (l:List AB) (AL:zo) (cL:Nat) (hl:l.length<=1000000) (w:World) (hs:DV w A s) (ht:JF w AL l):
  Calls Tryz.prog 31 #[.agg #[.slice A s.length c],.int .i64 t,.slice AL l.length cL] w (RdO s t l w):=by
 have HS:=zh hs;have HT:=zh ht;have HL:=zh hl;have HV:=zh hv;have HN:=zh hn;have HB2:=zh (zI w (.cells #[.slice A s.length c] 31) zO);have Pz:=zh (zw w (.cells #[.slice A s.length c] 31) zO);have P5:Hid (((w.alloc (.cells #[.slice A s.length c] 31)).alloc zO).heap[w.heap.size+1]? = some zO):=by
  show _=_
  have:=AAA (w.alloc (.cells #[.slice A s.length c] 31)) zO;rw[show (w.alloc (.cells #[.slice A s.length c] 31)).heap.size=w.heap.size+1 by simp] at this
  exact this
 clear hs ht hl hv hn
 go_enter Tryz.func31,Tryz.ntmps31
 go_upto_region 1 with fail
 generalize (w.alloc (.cells #[.slice A s.length c] 31)).alloc zO=W2 at *;have x0:=zb Pz;go_wp2_with fail;refine (ZW HV A c t l AL cL HL W2 (HS.out.below HB2) (HT.out.below HB2)).mono ?_;rintro y w3 ⟨x,b,rfl,h1,h2,r3,k3,e3,h3,h4⟩;have HO3:=zh h1;have HR3:=zh h3;have HJ:=zh h4;have HB3:=zh (zB HB2 h2);have VO:=zh (CW Pz h2);have PN:=zh (CW P5 h2)
 have JI:=zh ((zg.1 P5).1);clear x0 h1 h2 h3 h4 Pz P5 HB2;go_upto_region 2 with fail
 have BI:=zh (zD w3 (.cells x.cells.toArray 28));have XI:Hid ((w3.alloc (.cells x.cells.toArray 28)).heap[w3.heap.size]? = some (.cells x.cells.toArray 28)):=AAA w3 _;have HR4:=zh (HR3.out.below BI);have rA:=zh (HO3.out.low BI);have BD:=zh (zB HB3 BI);have PL:=zh (CW VO BI);have Kc:=zh (CW PN BI)
 unfold BX.cells at BI XI HR4 rA BD PL Kc;generalize w3.alloc _=W4 at *;generalize w3.heap.size=q at *;have HW2:Hid (∀W5,Below W4.heap.size W4 W5->W5.heap[w.heap.size+1]? = some zO/\Below w.heap.size w W5):=fun W5 hb=>⟨CW Kc hb,zB BD hb⟩
 have hbq:b≠w.heap.size+1:=Jv HR4.out.blk Kc (by decide)
 have ADP:¬ w.heap.size+1=b:=fun e=>hbq e.symm
 by_cases he:e3=0
 case neg =>
  have q1:(e3 != 0)=true:=by simp[he]
  have NN:Hid (bf false s t l=(zeroV,0,e3)):=by
   show _=_
   have hj:=HJ.out;unfold bf
   by_cases hr:t<0\/(s.length:Int)<=t
   ·rw[AAC hr] at hj ⊢;rw[hj]
   ·rw[Pe hr] at hj ⊢
    cases hp:C9 false s t l with
    | error e=>rw[hp] at hj;rw[hj]
    | ok p=>rw[hp] at hj;exact absurd hj.2.2.2 he
  obtain ⟨⟨c0,c1,c2,c3,c4⟩,_⟩:=HR4.out.cells;clear he;go_upto_region 3 with fail
  obtain ⟨⟨z0,z1,z2,z3,z4,z5,z6,z7⟩,y0,y1,y2,y3,y4,y5,y6,y7⟩:=zK Kc
  go_region
  have HK:=zh (ABL Kc BD (q:=w.heap.size+1) (by omega) NN)
  clear z0 z1 z2 z3 z4 z5 z6 z7 y0 y1 y2 y3 y4 y5 y6 y7;unfold q8 q5 at HK;generalize World.setCell _ _ _=W9 at *;obtain ⟨⟨z0,z1,z2,z3,z4,z5,z6,z7⟩,_⟩:=zK HK.out.1;go_wp2
  refine bodyPost_ret (v := .tuple #[zeroV.v none 0 none 0 none 0,.int .i64 0,.int .i64 e3]) (by simp[results,Tryz.results31,go_sem,z0,z1,z2,z3,z4,z5,z6,z7];exact OV) rfl ?_
  exact HK.out.2.low (zC (Pd _ _) 1)
 subst he;have MX:Hid (¬ (t<0\/(s.length:Int)<=t)):=fun hr=>by have hj:=HJ.out;rw[AAC hr] at hj;cases hj
 have mH:Hid (C9 false s t l = .ok (x.v,r3,k3)):=by
  show _=_
  have hj:=HJ.out;rw[Pe MX.out] at hj
  cases hp:C9 false s t l with
  | error e=>rw[hp] at hj;exact absurd (hj▸hp) (Cm false s t l false)
  | ok p =>
   obtain ⟨v,r,k⟩:=p;rw[hp] at hj;obtain ⟨j1,j2,j3,_⟩:=hj;rw[j1,j2,j3]
 have OQ:Hid (bf false s t l=if k3=true\/CQ s false t x.v=false then (zeroV,0,1) else (x.v,((l.length - r3.length:Nat):Int),0)):=by
  show _=_
  unfold bf;rw[Pe MX.out,mH.out]
 obtain ⟨⟨c0,c1,c2,c3,c4⟩,_⟩:=HR4.out.cells
 cases k3 with
 | true =>
  have NN:Hid (bf false s t l=(zeroV,0,1)):=by show _=_;rw[OQ.out,AAC (.inl rfl)]
  obtain ⟨⟨z0,z1,z2,z3,z4,z5,z6,z7⟩,y0,y1,y2,y3,y4,y5,y6,y7⟩:=zK Kc;go_wp2;have HK:=zh (ABL Kc BD (q:=w.heap.size+1) (by omega) NN)
  clear z0 z1 z2 z3 z4 z5 z6 z7 y0 y1 y2 y3 y4 y5 y6 y7;unfold q8 q5 at HK;generalize World.setCell _ _ _=W9 at *;obtain ⟨⟨z0,z1,z2,z3,z4,z5,z6,z7⟩,_⟩:=zK HK.out.1
  refine bodyPost_ret (v := .tuple #[zeroV.v none 0 none 0 none 0,.int .i64 0,.int .i64 1]) (by simp[results,Tryz.results31,go_sem,z0,z1,z2,z3,z4,z5,z6,z7];exact OV) rfl ?_
  exact HK.out.2
 | false =>
  have s0:=zb PL;obtain ⟨⟨v0,v1,v2,v3,v4,v5,v6,v7⟩,_⟩:=zK XI;go_wp2_with fail;refine (fD A c HV HN t x _ (HS.out.below BD) rA.out.out).mono ?_;rintro y w5 ⟨rfl,hb5⟩;have YT:=zh (HW2.out _ hb5);have HV5:=zh (CW XI hb5);have PV:=zh (HR4.out.below hb5);have TL:=zh (rA.out.low hb5)
  cases hf:CQ s false t x.v with
  | false =>
   have NN:Hid (bf false s t l=(zeroV,0,1)):=by show _=_;rw[OQ.out,AAC (.inr hf)]
   obtain ⟨⟨z0,z1,z2,z3,z4,z5,z6,z7⟩,y0,y1,y2,y3,y4,y5,y6,y7⟩:=zK YT.out.1;clear hf hb5;go_wp2;have HK:=zh (ABL YT.out.1 YT.out.2 (q:=w.heap.size+1) (by omega) NN)
   clear z0 z1 z2 z3 z4 z5 z6 z7 y0 y1 y2 y3 y4 y5 y6 y7;unfold q8 q5 at HK;generalize World.setCell _ _ _=W9 at *;obtain ⟨⟨z0,z1,z2,z3,z4,z5,z6,z7⟩,_⟩:=zK HK.out.1
   refine bodyPost_ret (v := .tuple #[zeroV.v none 0 none 0 none 0,.int .i64 0,.int .i64 1]) (by simp[results,Tryz.results31,go_sem,z0,z1,z2,z3,z4,z5,z6,z7];exact OV) rfl ?_
   exact HK.out.2
  | true =>
   have NN:Hid ((x.v,((l.length - r3.length:Nat):Int),(0:Int))=bf false s t l):=by show _=_;rw[OQ.out,Pe (by rw[hf];simp)]
   clear hf hb5 v0 v1 v2 v3 v4 v5 v6 v7 c0 c1 c2 c3 c4 s0;go_upto_region 6 with fail
   obtain ⟨⟨c0,c1,c2,c3,c4⟩,_⟩:=PV.out.cells;obtain ⟨⟨v0,v1,v2,v3,v4,v5,v6,v7⟩,_⟩:=zK HV5;obtain ⟨⟨z0,z1,z2,z3,z4,z5,z6,z7⟩,y0,y1,y2,y3,y4,y5,y6,y7⟩:=zK YT.out.1
   go_region
   have HK:=zh (Cw YT.out.1 (.int .i64 x.v.kind) (.bool x.v.bool) (.int .i64 x.v.int) (.string x.v.str) (.int .i64 x.v.id) (.slice x.A1 x.v.keys.length x.c1) (.slice x.A2 x.v.items.length x.c2) (.slice x.A3 x.v.rest.length x.c3))
   have Kh:=zh (ABW NN ((FJ TL (B:=w.heap.size+1) JI (.int .i64 x.v.kind) (.bool x.v.bool) (.int .i64 x.v.int) (.string x.v.str) (.int .i64 x.v.id) (.slice x.A1 x.v.keys.length x.c1) (.slice x.A2 x.v.items.length x.c2) (.slice x.A3 x.v.rest.length x.c3)).mono fun q _ (h:q<w.heap.size)=>by have:=JI.out;show q<_;omega) (Cy YT.out.2 (q:=w.heap.size+1) (by omega) (.int .i64 x.v.kind) (.bool x.v.bool) (.int .i64 x.v.int) (.string x.v.str) (.int .i64 x.v.id) (.slice x.A1 x.v.keys.length x.c1) (.slice x.A2 x.v.items.length x.c2) (.slice x.A3 x.v.rest.length x.c3)))
   clear z0 z1 z2 z3 z4 z5 z6 z7 y0 y1 y2 y3 y4 y5 y6 y7;unfold q8 q5 at HK Kh;generalize World.setCell _ _ _=W9 at *;obtain ⟨⟨z0,z1,z2,z3,z4,z5,z6,z7⟩,_⟩:=zK HK;go_wp2
   refine bodyPost_ret (v := .tuple #[x.v.v x.A1 x.c1 x.A2 x.c2 x.A3 x.c3,.int .i64 ((l.length - r3.length:Nat):Int),.int .i64 0]) (by simp[results,Tryz.results31,go_sem,z0,z1,z2,z3,z4,z5,z6,z7]) rfl ?_
   exact Kh.out.low (zC (Pd _ _) 1)
theorem ABO (hv:zQ s=0) (hn:Ca s) (A:zo) (c:Nat) (t:Int) (l:List AB) (AL:zo) (cL:Nat) (hl:l.length<=1000000) (w:World) (hs:DV w A s) (ht:JF w AL l):
  Calls Tryz.prog 33 #[.agg #[.slice A s.length c],.int .i64 t,.slice AL l.length cL] w (zf s t l w):=by
 have HS:=zh hs;have HT:=zh ht;have HL:=zh hl;have HV:=zh hv;have HN:=zh hn;have VW:=zh (uK (bU hv hn));have nQ:=zh (ABT (bU hv hn) t l);have HB2:=zh (zI w (.cells #[.slice A s.length c] 31) zO);have Pz:=zh (zw w (.cells #[.slice A s.length c] 31) zO);have P5:Hid (((w.alloc (.cells #[.slice A s.length c] 31)).alloc zO).heap[w.heap.size+1]? = some zO):=by
  show _=_
  have:=AAA (w.alloc (.cells #[.slice A s.length c] 31)) zO;rw[show (w.alloc (.cells #[.slice A s.length c] 31)).heap.size=w.heap.size+1 by simp] at this
  exact this
 clear hs ht hl hv hn
 go_enter Tryz.func33,Tryz.ntmps33
 go_upto_region 1 with fail
 generalize (w.alloc (.cells #[.slice A s.length c] 31)).alloc zO=W2 at *;have x0:=zb Pz;go_wp2_with fail;refine (UE HV VW A c t l AL cL HL W2 (HS.out.below HB2) (HT.out.below HB2)).mono ?_;rintro y w3 ⟨x,nn,e3,rfl,h1,h2,h4⟩;have HO3:=zh h1;have HJ:=zh h4;have HB3:=zh (zB HB2 h2);have VO:=zh (CW Pz h2);have PN:=zh (CW P5 h2)
 have JI:=zh ((zg.1 P5).1);clear x0 h1 h2 h4 Pz P5;go_upto_region 2 with fail
 have BI:=zh (zD w3 (.cells x.cells.toArray 28));have XI:Hid ((w3.alloc (.cells x.cells.toArray 28)).heap[w3.heap.size]? = some (.cells x.cells.toArray 28)):=AAA w3 _;have rA:=zh (HO3.out.low BI);have BD:=zh (zB HB3 BI);have PL:=zh (CW VO BI);have Kc:=zh (CW PN BI);unfold BX.cells at BI XI rA BD PL Kc;generalize w3.alloc _=W4 at *
 generalize w3.heap.size=q at *
 by_cases he:e3=0
 case neg =>
  have q1:(e3 != 0)=true:=by simp[he]
  have NN:Hid (bf false s t l=(zeroV,0,e3)):=by
   show _=_
   have hj:=HJ.out;unfold vB at hj;rw[nQ.out];unfold bf
   by_cases hr:t<0\/(s.length:Int)<=t
   ·rw[AAC hr] at hj ⊢;rw[hj]
   ·rw[Pe hr] at hj ⊢
    cases hp:C9 true s t l with
    | error e=>rw[hp] at hj;rw[hj]
    | ok p=>rw[hp] at hj;exact absurd hj.2.2 he
  clear he;obtain ⟨⟨z0,z1,z2,z3,z4,z5,z6,z7⟩,y0,y1,y2,y3,y4,y5,y6,y7⟩:=zK Kc;have HK:=zh (ABN Kc BD (q:=w.heap.size+1) (by omega) NN)
  go_wp2
  clear z0 z1 z2 z3 z4 z5 z6 z7 y0 y1 y2 y3 y4 y5 y6 y7;unfold q8 q5 at HK;generalize World.setCell _ _ _=W9 at *;obtain ⟨⟨z0,z1,z2,z3,z4,z5,z6,z7⟩,_⟩:=zK HK.out.1
  exact bodyPost_ret (v := .tuple #[zeroV.v none 0 none 0 none 0,.int .i64 0,.int .i64 e3]) (by simp[results,Tryz.results33,go_sem,z0,z1,z2,z3,z4,z5,z6,z7];exact OV) rfl HK.out.2
 subst he;have MX:Hid (¬ (t<0\/(s.length:Int)<=t)):=fun hr=>by have hj:=HJ.out;unfold vB at hj;rw[AAC hr] at hj;cases hj
 have OQ:Hid (bf false s t l=if CQ s false t x.v=false then (zeroV,0,1) else (x.v,nn,0)):=by
  show _=_
  have hj:=HJ.out;unfold vB at hj;rw[Pe MX.out] at hj;rw[nQ.out];unfold bf;rw[Pe MX.out]
  cases hp:C9 true s t l with
  | error e=>rw[hp] at hj;exact absurd (hj▸hp) (Cm true s t l false)
  | ok p =>
   obtain ⟨v,r,k⟩:=p;rw[hp] at hj;obtain ⟨j1,j2,_⟩:=hj;have hk:k=false:=VW.out t l v r k hp;subst hk;rw[j1,j2];simp
 have s0:=zb PL;obtain ⟨⟨v0,v1,v2,v3,v4,v5,v6,v7⟩,_⟩:=zK XI;go_wp2_with fail;refine (Ry A c HV HN t x.v x.A1 x.c1 x.A2 x.c2 x.A3 x.c3 _ (HS.out.below BD) rA.out.out).mono ?_;rintro y w5 ⟨rfl,hb5⟩;have XJ:=zh (CW Kc hb5);have BB:=zh (zB BD hb5);have HV5:=zh (CW XI hb5);have TL:=zh (rA.out.low hb5);clear v0 v1 v2 v3 v4 v5 v6 v7 s0 hb5
 cases hf:CQ s false t x.v with
 | false =>
  have NN:Hid (bf false s t l=(zeroV,0,1)):=by show _=_;rw[OQ.out,AAC hf]
  clear hf;obtain ⟨⟨z0,z1,z2,z3,z4,z5,z6,z7⟩,y0,y1,y2,y3,y4,y5,y6,y7⟩:=zK XJ;have HK:=zh (ABN XJ BB (q:=w.heap.size+1) (by omega) NN)
  go_wp2
  clear z0 z1 z2 z3 z4 z5 z6 z7 y0 y1 y2 y3 y4 y5 y6 y7;unfold q8 q5 at HK;generalize World.setCell _ _ _=W9 at *;obtain ⟨⟨z0,z1,z2,z3,z4,z5,z6,z7⟩,_⟩:=zK HK.out.1
  exact bodyPost_ret (v := .tuple #[zeroV.v none 0 none 0 none 0,.int .i64 0,.int .i64 1]) (by simp[results,Tryz.results33,go_sem,z0,z1,z2,z3,z4,z5,z6,z7];exact OV) rfl HK.out.2
 | true =>
  have NN:Hid ((x.v,nn,(0:Int))=bf false s t l):=by show _=_;rw[OQ.out,Pe (by rw[hf];simp)]
  clear hf;obtain ⟨⟨v0,v1,v2,v3,v4,v5,v6,v7⟩,_⟩:=zK HV5;obtain ⟨⟨z0,z1,z2,z3,z4,z5,z6,z7⟩,y0,y1,y2,y3,y4,y5,y6,y7⟩:=zK XJ;go_wp2;have HK:=zh (Cw XJ (.int .i64 x.v.kind) (.bool x.v.bool) (.int .i64 x.v.int) (.string x.v.str) (.int .i64 x.v.id) (.slice x.A1 x.v.keys.length x.c1) (.slice x.A2 x.v.items.length x.c2) (.slice x.A3 x.v.rest.length x.c3))
  have Kh:=zh (ABV NN (FJ TL (B:=w.heap.size+1) JI (.int .i64 x.v.kind) (.bool x.v.bool) (.int .i64 x.v.int) (.string x.v.str) (.int .i64 x.v.id) (.slice x.A1 x.v.keys.length x.c1) (.slice x.A2 x.v.items.length x.c2) (.slice x.A3 x.v.rest.length x.c3)).out (Cy BB (q:=w.heap.size+1) (by omega) (.int .i64 x.v.kind) (.bool x.v.bool) (.int .i64 x.v.int) (.string x.v.str) (.int .i64 x.v.id) (.slice x.A1 x.v.keys.length x.c1) (.slice x.A2 x.v.items.length x.c2) (.slice x.A3 x.v.rest.length x.c3)))
  clear z0 z1 z2 z3 z4 z5 z6 z7 y0 y1 y2 y3 y4 y5 y6 y7;unfold q8 q5 at HK Kh;generalize World.setCell _ _ _=W9 at *;obtain ⟨⟨z0,z1,z2,z3,z4,z5,z6,z7⟩,_⟩:=zK HK
  exact bodyPost_ret (v := .tuple #[x.v.v x.A1 x.c1 x.A2 x.c2 x.A3 x.c3,.int .i64 nn,.int .i64 0]) (by simp[results,Tryz.results33,go_sem,z0,z1,z2,z3,z4,z5,z6,z7]) rfl Kh
end Go.Proofs.YthkkllmmbefedaaGreatDoor



