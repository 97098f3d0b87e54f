/-
  A value's draft that came in: opened.
-/
import Derived.Test.YthkkllmmbefedaaGreatDoorQGU0
namespace Go.Proofs.YthkkllmmbefedaaGreatDoor
open Go.Proofs.Tryz
open Go.ChangeShapes Go.WideShapes Go.ChangeAt Go.RowKit Go.Deep
set_option maxHeartbeats 16000000
set_option maxRecDepth 100000
set_option maxRecDepth 100000
section
variable {H:Type} {enc:TypeId×Value->H} {W:World}
end
open Go.ChangeShapes Go.WideShapes Go.ChangeAt Go.RowKit Go.Deep
set_option maxRecDepth 100000
abbrev rG (A:zo) (n c:Nat) (k:Nat) (B:zo) (m d:Nat):Value := .agg #[.slice A n c,.int .u8 (k:Int),.slice B m d]
section
variable {H:Type} {enc:TypeId×Value->H} {W:World}
theorem S9 {r:Reach} {b0:Nat} {v:Value} {d:DataW H} {p:List MemPlace} (hv:Value.okWide prog W r b0 42 v) (h:DataW.Trod enc prog W 0 (fun _=>true) true 42 v d p) (hz:Sz 42 d) :
  ∃ (A:zo) (c:Nat) (s:List AR) (k:Nat) (B:zo) (b:Nat) (l:List Int),v=rG A s.length c k B l.length b/\k<256/\BG W A s/\V5 W B l/\l.length<=b:=by
 obtain ⟨⟨cs⟩,rfl,_⟩:=dW underlying42 hv;obtain ⟨fuel,hf0⟩:=h;obtain ⟨xs,m,_,hx,hlen,hxl,hf⟩:=DataW.trod_struct underlying42 hf0;have hdd:d = .agg (xs.map (·.1)):=congrArg Prod.fst hx;subst hdd;have hszz:=Pj underlying42 hz;have hc:prog.cellsOf 42=3:=by kernel_rfl
 have hcd:prog.cellsOf 24=1:=by kernel_rfl
 have hc8:prog.cellsOf 5=1:=by kernel_rfl
 have hcs:prog.cellsOf 40=1:=by kernel_rfl
 rw[hc] at hlen;simp only[List.size_toArray,AAI,List.length_nil] at hxl;have hlen':cs.length=3:=hlen
 match cs,hlen',xs,hxl with
 | [c0,c1,c2],_,[x0,x1,x2],_ =>
  have h0:DataW.trod enc prog W 0 (fun _=>true) true m 24 (([c0,c1,c2].drop 0).take (prog.cellsOf 24))=some x0:=hf 0 _ rfl
  rw[hcd] at h0;have h1:DataW.trod enc prog W 0 (fun _=>true) true m 5 (([c0,c1,c2].drop 1).take (prog.cellsOf 5))=some x1:=hf 1 _ rfl
  rw[hc8] at h1;have h2:DataW.trod enc prog W 0 (fun _=>true) true m 40 (([c0,c1,c2].drop 2).take (prog.cellsOf 40))=some x2:=hf 2 _ rfl
  rw[hcs] at h2;obtain ⟨A,c,s,e0,r0⟩:=Xi (d:=x0.1) (ps:=x0.2) h0 (Iu hszz 0 _ _ rfl rfl);obtain ⟨k,hk,e1⟩:=GN h1;obtain ⟨B,b,l,e2,r2⟩:=KS (α:=Int) (bytes:=1) underlying40 hc8 (by kernel_rfl) (by omega) (at_:=fun z cs=>cs=[.int .u8 z]/\0<=z/\z<=255) (fun y cs hy=>by rw[hy.1];rfl) (d:=x2.1) (ps:=x2.2) h2 (Iu hszz 2 _ _ rfl rfl) (fun d' _ n' cs' ps' ht _=>by
   obtain ⟨k,hk,e⟩:=GN ht;exact ⟨(k:Int),e,by omega,by omega⟩)
  have hlb:l.length<=b:=by
   rcases open_slice underlying40 h2 with ⟨hcs,_⟩|⟨a,len,cap,m,n',D,Pl,hcs,_,hlc,_⟩ <;> (rw[e2] at hcs;injection hcs with h _;injection h with _ h3 h4;omega)
  injection (show [c0]=[Value.slice A s.length c] from e0) with g0 _
  injection (show [c1]=[Value.int .u8 (k:Int)] from e1) with g1 _
  injection (show [c2]=[Value.slice B l.length b] from e2) with g2 _
  subst g0 g1 g2;exact ⟨A,c,s,k,B,b,l,rfl,hk,r0,r2,hlb⟩
end
