/-
  Numbers that came in: opened.
-/
import Derived.Test.YthkkllmmbefedaaGreatDoorQGA11
import Derived.Test.YthkkllmmbefedaaGreatDoorQGU0
namespace Go.Proofs.YthkkllmmbefedaaGreatDoor
open Go.ChangeShapes Go.WideShapes Go.ChangeAt Go.RowKit Go.Deep
set_option maxHeartbeats 16000000
set_option maxRecDepth 100000
set_option maxRecDepth 100000
section
variable {H:Type} {enc:TypeId×Value->H} {W:World}
end
open Go.ChangeShapes Go.WideShapes Go.ChangeAt Go.RowKit Go.Deep
set_option maxRecDepth 100000
abbrev kr (A:zo) (n c:Nat) (k:Nat) (B:zo) (m d:Nat):Value := .agg #[.slice A n c,.int .u8 (k:Int),.slice B m d]
section
variable {H:Type} {enc:TypeId×Value->H} {W:World}
theorem Q0 {r:Reach} {b0:Nat} {v:Value} {d:DataW H} {p:List MemPlace} (hv:Value.okWide Tryz.prog W r b0 42 v) (h:DataW.Trod enc Tryz.prog W 0 (fun _=>true) true 42 v d p) (hz:Sz 42 d) :
  ∃ (A:zo) (c:Nat) (s:List AX) (k:Nat) (B:zo) (b:Nat) (l:List Int),v=kr A s.length c k B l.length b/\k<256/\BM W A s/\UH W B l/\l.length<=b:=by
 obtain ⟨⟨cs⟩,rfl,_⟩:=QO Tryz.underlying42 hv;obtain ⟨fuel,hf0⟩:=h;obtain ⟨xs,m,_,hx,hlen,hxl,hf⟩:=DataW.trod_struct Tryz.underlying42 hf0;have hdd:d = .agg (xs.map (·.1)):=congrArg Prod.fst hx;subst hdd;have hszz:=Ij Tryz.underlying42 hz;have hc:Tryz.prog.cellsOf 42=3:=by kernel_rfl
 have hcd:Tryz.prog.cellsOf 24=1:=by kernel_rfl
 have hc8:Tryz.prog.cellsOf 5=1:=by kernel_rfl
 have hcs:Tryz.prog.cellsOf 40=1:=by kernel_rfl
 rw[hc] at hlen;simp only[List.size_toArray,AAS,List.length_nil] at hxl;have hlen':cs.length=3:=hlen
 match cs,hlen',xs,hxl with
 | [c0,c1,c2],_,[x0,x1,x2],_ =>
  have h0:DataW.trod enc Tryz.prog W 0 (fun _=>true) true m 24 (([c0,c1,c2].drop 0).take (Tryz.prog.cellsOf 24))=some x0:=hf 0 _ rfl
  rw[hcd] at h0;have h1:DataW.trod enc Tryz.prog W 0 (fun _=>true) true m 5 (([c0,c1,c2].drop 1).take (Tryz.prog.cellsOf 5))=some x1:=hf 1 _ rfl
  rw[hc8] at h1;have h2:DataW.trod enc Tryz.prog W 0 (fun _=>true) true m 40 (([c0,c1,c2].drop 2).take (Tryz.prog.cellsOf 40))=some x2:=hf 2 _ rfl
  rw[hcs] at h2;obtain ⟨A,c,s,e0,r0⟩:=U6 (d:=x0.1) (ps:=x0.2) h0 (DX hszz 0 _ _ rfl rfl);obtain ⟨k,hk,e1⟩:=FO h1;obtain ⟨B,b,l,e2,r2⟩:=EX (α:=Int) (bytes:=1) Tryz.underlying40 hc8 (by kernel_rfl) (by omega) (at_:=fun z cs=>cs=[.int .u8 z]/\0<=z/\z<=255) (fun y cs hy=>by rw[hy.1];rfl) (d:=x2.1) (ps:=x2.2) h2 (DX hszz 2 _ _ rfl rfl) (fun d' _ n' cs' ps' ht _=>by
   obtain ⟨k,hk,e⟩:=FO ht;exact ⟨(k:Int),e,by omega,by omega⟩)
  have hlb:l.length<=b:=by
   rcases open_slice Tryz.underlying40 h2 with ⟨hcs,_⟩|⟨a,len,cap,m,n',D,Pl,hcs,_,hlc,_⟩ <;> (rw[e2] at hcs;injection hcs with h _;injection h with _ h3 h4;omega)
  injection (show [c0]=[Value.slice A s.length c] from e0) with g0 _
  injection (show [c1]=[Value.int .u8 (k:Int)] from e1) with g1 _
  injection (show [c2]=[Value.slice B l.length b] from e2) with g2 _
  subst g0 g1 g2;exact ⟨A,c,s,k,B,b,l,rfl,hk,r0,r2,hlb⟩
end
open Go.ChangeShapes Go.WideShapes Go.ChangeAt Go.RowKit Go.Deep
set_option maxRecDepth 100000
section
variable {H:Type} {enc:TypeId×Value->H} {W:World}
theorem U4 {r:Reach} {b0:Nat} {v:Value} {d:DataW H} {p:List MemPlace} (hv:Value.okWide Tryz.prog W r b0 68 v) (h:DataW.Trod enc Tryz.prog W 0 (fun _=>true) true 68 v d p) (hz:Sz 68 d) :
  ∃ (A:zo) (c:Nat) (l:List Int),v = .slice A l.length c/\Bl W A l/\l.length<=c:=by
 obtain ⟨A,c,l,e,hr⟩:=TF (α:=Int) (k:=1) (bytes:=8) (at_:=fun x cs=>cs=encI x) Tryz.underlying68 (by kernel_rfl) (by kernel_rfl) (by omega) (fun y cs hy=>by rw[hy];rfl) hv h hz fun d' n' cs' ps' ht _=>by
  obtain ⟨z,e,_,_⟩:=DataW.trod_int Tryz.underlying3 ht;exact ⟨z,e⟩
 refine ⟨A,c,l,e,hr,?_⟩;subst e;obtain ⟨fuel,hf⟩:=h;have hf':DataW.trod enc Tryz.prog W 0 (fun _=>true) true fuel 68 [.slice A l.length c]=some (d,p):=hf
 rcases open_slice Tryz.underlying68 hf' with ⟨hcs,_⟩|⟨a,len,cap,m,n',D,Pl,hcs,_,hlc,_⟩
 ·have h:=List.cons.inj hcs
  have h2:l.length=0:=by have:=h.1;injection this
  omega
 ·have h:=List.cons.inj hcs
  have h2:l.length=len:=by have:=h.1;injection this
  have h3:c=cap:=by have:=h.1;injection this
  omega
end
end Go.Proofs.YthkkllmmbefedaaGreatDoor



