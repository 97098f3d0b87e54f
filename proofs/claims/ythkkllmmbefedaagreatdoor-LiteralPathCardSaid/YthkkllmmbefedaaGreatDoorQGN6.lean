/-
  Walks: sheaveref08.Of.
-/
import Derived.Test.YthkkllmmbefedaaGreatDoorQDR4
import Derived.Test.YthkkllmmbefedaaGreatDoorQGN1
import Derived.Test.YthkkllmmbefedaaGreatDoorQGN2
namespace Go.Proofs.YthkkllmmbefedaaGreatDoor
set_option maxHeartbeats 16000000
set_option maxRecDepth 100000
section
variable {d:List AX} {s:List Ae}
theorem IB (ho:rW d s) (t:Int):AB s t=Al\/∃j,j<s.length/\j=t.toNat/\LD d j (AB s t)/\XO d j (d.getD j Bh) (AB s t):=by
 by_cases h:t.toNat<s.length
 ·right
  have e:AB s t=s[t.toNat]:=by unfold AB;rw[AAl,zl h];rfl
  exact ⟨t.toNat,h,rfl,by rw[e];exact (ho _ h).1,by rw[e];exact (ho _ h).2⟩
 ·left
  unfold AB;rw[AAl,List.getElem?_eq_none (by omega)]
  rfl
theorem Zz {i:Nat} {x:AX} {t:Ae} (h:XO d i x t) {k:Int} (hk:t.kind=k) (h5:k≠5) (h7:k≠7):Ac d i=k:=by
 rcases h.kind with e|⟨_,e⟩
 ·rw[hk] at e
  unfold Kc at e
  split at e
  ·exact absurd e h7
  ·exact e.symm
 ·rw[hk] at e;exact absurd e h5
theorem kE (ho:rW d s) (hl:s.length=d.length) {t:Int} (h0:0<=t) (h1:t<(s.length:Int)) {x:Val} (hx:Mh d t.toNat x) (hf:JK x):BV s t x=true:=by
 rcases IB ho t with e|⟨j,hj,rfl,hto,hti⟩
 ·exfalso
  have:=ho t.toNat (by omega)
  have e2:AB s t=s[t.toNat]'(by omega):=by unfold AB;rw[AAl,zl (by omega)];rfl
  have hk:=this.2.kind;rw[<-e2,e] at hk;have h9:=GK d t.toNat
  rcases hk with hk|⟨_,hk⟩
  ·have:(0:Int)=Kc d t.toNat:=hk
   unfold Kc at this
   split at this <;> omega
  ·exact absurd hk (by decide)
 have hkk:(AB s t).kind=Kc d t.toNat:=by
  rcases hti.kind with e|⟨e,_⟩
  ·exact e
  ·exact absurd e hx.nou.2
 have h9:=GK d t.toNat;have hno:=hx.nou;obtain ⟨xk,xb,xi,xs,xn,ks,is,rs⟩:=x;obtain ⟨_,hk5,hi5,mP⟩:=hf;simp only[Val.keys,Val.items,Val.rest] at hk5 hi5 mP;subst hk5 hi5 mP;have gk:xk=Kc d t.toNat:=hx.kind;have gb:Ac d t.toNat≠1->xb=false:=hx.b;have gi:=hx.i;have gs:=hx.s;have gn:=hx.n;simp only[Val.int,Val.str,Val.id] at gi gs gn;clear hx;obtain ⟨K,hK⟩:∃K,Ac d t.toNat=K:=⟨_,rfl⟩
 rw[hK] at gb gi gs gn h9 hno;have hk9:K=1\/K=2\/K=3\/K=4\/K=7\/K=8\/K=9:=by omega
 have htk:K≠8->Kc d t.toNat=K:=fun h8=>(Ka hK h8).symm
 rcases hk9 with rfl|rfl|rfl|rfl|rfl|rfl|rfl
 ·have e1:=htk (by decide)
  rw[Pd (by decide)] at gi gs gn
  subst gi gs gn;rw[e1] at gk hkk;subst gk;exact Wq h0 h1 hkk
 ·have e1:=htk (by decide)
  obtain rfl:=gb (by decide)
  rw[AAG rfl] at gi;rw[Pd (by decide)] at gs gn
  subst gs gn;rw[e1] at gk hkk;subst gk;obtain ⟨a,b⟩:=hti.int hK;exact bD h0 h1 hkk (by rw[a,b];exact gi)
 ·have e1:=htk (by decide)
  obtain rfl:=gb (by decide)
  rw[AAG rfl] at gs;rw[Pd (by decide)] at gi gn
  subst gi gn;rw[e1] at gk hkk;subst gk;exact bB h0 h1 hkk (by rw[hti.str hK];exact gs) (by omega)
 ·have e1:=htk (by decide)
  obtain rfl:=gb (by decide)
  rw[AAG rfl] at gn;rw[Pd (by decide)] at gi gs
  subst gi gs;rw[e1] at gk hkk;subst gk;exact Wp h0 h1 hkk (.inl ⟨⟨xn,Ru 115 xn.toNat⟩,by rw[hti.enum hK];exact List.mem_map.2 ⟨xn,gn,rfl⟩,rfl⟩)
 ·have e1:=htk (by decide)
  obtain rfl:=gb (by decide)
  rw[Pd (by decide)] at gi gs gn
  subst gi gs gn;rw[e1] at gk hkk;subst gk;exact Q7 h0 h1 hkk (by show (0:Int)<=_;exact hti.max.1) (fun _ h=>by cases h)
 ·obtain rfl:=gb (by decide)
  rw[Pd (by decide)] at gi gs gn
  subst gi gs gn;have e1:Kc d t.toNat=7\/Kc d t.toNat=8:=by
   unfold Kc
   split
   ·exact .inl rfl
   ·exact .inr hK
  rcases e1 with e1|e1
  ·rw[e1] at gk hkk
   subst gk;exact Q7 h0 h1 hkk (by show (0:Int)<=_;exact hti.max.1) (fun _ h=>by cases h)
  ·rw[e1] at gk hkk
   subst gk;exact bC h0 h1 hkk (by show (0:Int)<=_;exact hti.max.1) rfl (fun _ h=>by cases h) rfl (fun _ h=>by cases h)
 ·have e1:=htk (by decide)
  obtain rfl:=gb (by decide)
  rw[Pd (by decide)] at gi gs gn
  subst gi gs gn;rw[e1] at gk hkk;subst gk;exact VA h0 h1 hkk (Nat.zero_le _) (fun _ h=>by cases h)
theorem ji (hv:zQ s=0) (hn:Bq s) (hl:s.length=d.length) (h5:d.length<=5) (ho:rW d s):MI s where
 v:=hv
 n64:=hn
 len:=by omega
 int:=fun t hk=>by
  rcases IB ho t with e|⟨j,hj,_,hto,hti⟩
  ·rw[e] at hk;exact absurd hk (by decide)
  ·obtain ⟨a,b⟩:=hti.int (Zz hti hk (by decide) (by decide))
   rw[a,b];unfold Ep FD
   omega
 max:=fun t=>by
  rcases IB ho t with e|⟨j,hj,_,hto,hti⟩
  ·rw[e];exact ⟨by decide,by decide⟩
  ·have:=hti.max;omega
 ids:=fun t=>by
  rcases IB ho t with e|⟨j,hj,_,hto,hti⟩
  ·rw[e];exact ⟨fun _ h=>(by cases h),fun _ h=>(by cases h)⟩
  ·obtain ⟨rec,hm⟩:=hti.mo
   refine ⟨fun m h=>(hm.2 m h).1.2,fun m h=>?_⟩
   rcases hti.Aj with e|e
   ·rw[e] at h;cases h
   ·rw[e] at h
    obtain ⟨n,hn,rfl⟩:=List.mem_map.1 h;have:=(Jb _).2.1 n hn
    show n<=12
    omega
 sym:=fun t hk=>by
  rcases IB ho t with e|⟨j,hj,_,hto,hti⟩
  ·rw[e] at hk;exact absurd hk (by decide)
  ·rw[hti.enum (Zz hti hk (by decide) (by decide))]
   have:=(Jb (d.getD j Bh)).2.2;unfold D8
   simpa using this
 syl:=fun t=>by
  rcases IB ho t with e|⟨j,hj,_,hto,hti⟩
  ·rw[e];exact Nat.zero_le _
  ·rcases hti.Aj with e|e
   ·rw[e];exact Nat.zero_le _
   ·rw[e];have:=Xl (d.getD j Bh);omega
 mem:=fun t hk=>by
  rcases IB ho t with e|⟨j,hj,_,hto,hti⟩
  ·rw[e] at hk;exact absurd hk (by decide)
  ·exact hti.ne hk
 yc:=fun t=>by
  rcases IB ho t with e|⟨j,hj,_,hto,hti⟩
  ·rw[e];exact Nat.zero_le _
  ·obtain ⟨rec,hm⟩:=hti.mo
   have:=hm.len;omega
 xE:=fun t=>by
  rcases IB ho t with e|⟨j,hj,_,hto,hti⟩
  ·rw[e];exact List.Pairwise.nil
  ·obtain ⟨rec,hm⟩:=hti.mo
   exact hm.1
 oZ:=fun t h0 h1 hk m hm=>by
  rcases IB ho t with e|⟨j,hj,hjt,hto,hti⟩
  ·rw[e] at hm;cases hm
  ·obtain ⟨rec,hmo⟩:=hti.mo
   have hr:=(hmo.2 m hm).2.2.1;refine ⟨by omega,?_⟩
   rcases (hti.mem m hm).2 with h|h
   ·left
    rcases IB ho m.type with e|⟨j2,_,rfl,_,y8⟩
    ·exfalso
     have e2:AB s m.type=s[m.type.toNat]'(by omega):=by unfold AB;rw[AAl,zl (by omega)];rfl
     have hk:=(ho m.type.toNat (by omega)).2.kind
     rw[<-e2,e] at hk
     rcases hk with hk|⟨_,hk⟩
     ·have:(0:Int)=Kc d m.type.toNat:=hk
      unfold Kc at this
      split at this <;> omega
     ·exact absurd hk (by decide)
    ·rcases y8.kind with e|⟨e,_⟩
     ·rw[e];unfold Kc;split <;> omega
     ·omega
   ·right;omega
 dfl:=fun t m hm hd=>by
  rcases IB ho t with e|⟨j,hj,_,hto,hti⟩
  ·rw[e] at hm;cases hm
  ·obtain ⟨rec,hmo⟩:=hti.mo
   have hr:=(hmo.2 m hm).2.2.1;have hf:=hto.flat m hm;exact ⟨kE ho hl hr.1 (by omega) ((hti.mem m hm).1 hd) hf,hf.2.1,hf.2.2.1,hf.2.2.2,yK (Nat.le_trans hf.1.1 (by decide))⟩
end
open Go.RowKit
def lK (w:World) (e:Ending) (w':World):Prop :=
 ∃ (A:zo) (c:Nat) (s:List Ae) (t:Int) (x y:Au) (ok:Bool),e = .returned (.tuple #[.agg #[.slice A s.length c],.int .i64 t,x.v.v x.A1 x.c1 x.A2 x.c2 x.A3 x.c3,y.v.v y.A1 y.c1 y.A2 y.c2 y.A3 y.c3,.bool ok])/\Below w.heap.size w w'/\CQ w' A s/\Az w' x.v x.A1 x.A2 x.A3/\Az w' y.v y.A1 y.A2 y.A3 /\
  (ok=true->MI s/\(0<=t/\t<(s.length:Int))/\BV s t x.v=true/\BV s t y.v=true)
abbrev Sc (w:World) (q1 q2 q3:Nat) (sv:Value) (v0 v1 v2 v3 v4 v5 v6 v7 u0 u1 u2 u3 u4 u5 u6 u7:Value):World:=q8 (q8 (w.setCell ⟨q1,0,none⟩ sv) q2 v0 v1 v2 v3 v4 v5 v6 v7) q3 u0 u1 u2 u3 u4 u5 u6 u7
variable {q1 q2 q3:Nat} {w:World}
theorem Xx {a a0 a1 a2 a3 a4 a5 a6 a7 b0 b1 b2 b3 b4 b5 b6 b7:Value} {T1 T2 T3:TypeId} (h1:w.heap[q1]? = some (.cells #[a] T1)) (h2:w.heap[q2]? = some (.cells #[a0,a1,a2,a3,a4,a5,a6,a7] T2)) (h3:w.heap[q3]? = some (.cells #[b0,b1,b2,b3,b4,b5,b6,b7] T3)) (n12:q1≠q2) (n13:q1≠q3) (n23:q2≠q3) (sv v0 v1 v2 v3 v4 v5 v6 v7 u0 u1 u2 u3 u4 u5 u6 u7:Value):
  (Sc w q1 q2 q3 sv v0 v1 v2 v3 v4 v5 v6 v7 u0 u1 u2 u3 u4 u5 u6 u7).heap[q1]? = some (.cells #[sv] T1)/\(Sc w q1 q2 q3 sv v0 v1 v2 v3 v4 v5 v6 v7 u0 u1 u2 u3 u4 u5 u6 u7).heap[q2]? = some (.cells #[v0,v1,v2,v3,v4,v5,v6,v7] T2)/\(Sc w q1 q2 q3 sv v0 v1 v2 v3 v4 v5 v6 v7 u0 u1 u2 u3 u4 u5 u6 u7).heap[q3]? = some (.cells #[u0,u1,u2,u3,u4,u5,u6,u7] T3):=by
 have g1:=AAW _ _ 0 _ _ sv h1;simp only[ABA,List.set_cons_zero] at g1;refine ⟨?_,?_,?_⟩
 ·unfold Sc;rw[FZ n13,FZ n12];exact g1
 ·unfold Sc;rw[FZ n23];exact F6 ((AAF _ _ _ _ n12.symm).trans h2) _ _ _ _ _ _ _ _
 ·unfold Sc;exact F6 ((FZ n23.symm _ _ _ _ _ _ _ _).trans ((AAF _ _ _ _ n13.symm).trans h3)) _ _ _ _ _ _ _ _
theorem Ur {B:Nat} {w':World} (h:Below B w w') (h1:B<=q1) (h2:B<=q2) (h3:B<=q3) (sv v0 v1 v2 v3 v4 v5 v6 v7 u0 u1 u2 u3 u4 u5 u6 u7:Value):Below B w (Sc w' q1 q2 q3 sv v0 v1 v2 v3 v4 v5 v6 v7 u0 u1 u2 u3 u4 u5 u6 u7) :=
 BZ (BZ (h.setCell (p:=⟨q1,0,none⟩) h1 sv) h2 _ _ _ _ _ _ _ _) h3 _ _ _ _ _ _ _ _
theorem nW {b:Nat} {a:Value} {T:TypeId} (h:w.heap[b]? = some (.cells #[a] T (0,0))):w.there b 0 1:=fun j hj=>by
 obtain rfl:j=0:=by omega
 exact ⟨by rw[AAE _ _ _ _ _ _ h];rfl,AAL _ _ _ _ _ h⟩
theorem Qo:(Tryz.prog.info? 31).map (·.size)=some 1:=by kernel_rfl
theorem Xo (A:zo) (n c:Nat):(#[Value.slice A n c]).all (·.oneCell')=true:=by simp[Value.oneCell']
theorem WQ {b o q:Nat} {v:Value} (h:w.cell? ⟨b,o,none⟩=some v) (hn:b≠q) (k:Nat) (vs:List Value):(w.setCells q k vs).cell? ⟨b,o,none⟩=some v:=by
 have:=World.rangeAt_setCells_apart (w:=w) (b':=b) (o':=o) (cs:=[v]) (fun j u hj=>by
  match j,hj with
  | 0,hj=>obtain rfl:=AAm hj;exact h
  | j+1,hj=>cases hj) q k vs (.inl hn)
 exact this 0 v rfl
variable {c2:Nat} {A2:zo}
theorem oO {W9:World} (hb:Below w.heap.size w W9):lK w (.returned (.tuple #[.agg #[.slice A2 0 c2],.int .i64 0,.agg #[.int .i64 0,.bool false,.int .i64 0,.string ⟨#[]⟩,.int .i64 0,AR,AR,AR],.agg #[.int .i64 0,.bool false,.int .i64 0,.string ⟨#[]⟩,.int .i64 0,AR,AR,AR],.bool false])) W9 :=
 ⟨A2,c2,[],0,⟨zeroV,none,0,none,0,none,0⟩,⟨zeroV,none,0,none,0,none,0⟩,false,rfl,hb,Aa.nil _ _ _ _ _,M9 _,M9 _,fun h=>by cases h⟩
theorem jc {W9:World} {s:List Ae} {T:Int} {x y:Au} (hb:Below w.heap.size w W9) (ht:CQ W9 A2 s) (hx:Az W9 x.v x.A1 x.A2 x.A3) (hy:Az W9 y.v y.A1 y.A2 y.A3) (ho:MI s) (hr:0<=T/\T<(s.length:Int)) (fx:BV s T x.v=true) (fy:BV s T y.v=true):
  lK w (.returned (.tuple #[.agg #[.slice A2 s.length c2],.int .i64 T,x.v.v x.A1 x.c1 x.A2 x.c2 x.A3 x.c3,y.v.v y.A1 y.c1 y.A2 y.c2 y.A3 y.c3,.bool true])) W9 :=
 ⟨A2,c2,s,T,x,y,true,rfl,hb,ht,hx,hy,fun _=>⟨ho,hr,fx,fy⟩⟩
theorem Pm {w':World} {q o:Nat} {cs:List Value} (h:w.rangeAt q o cs) (e:w'.heap[q]? = w.heap[q]?):w'.rangeAt q o cs:=fun j u hj=>by
 rw[World.cell?_of_block (w:=w) (w':=w') (a:=⟨q,o+j,none⟩) e];exact h j u hj
theorem jd {W5 W6 w7 w8:World} {s:List Ae} {T:Int} {x y:Au} (n12:q1≠q2) (n13:q1≠q3) (n23:q2≠q3) (h1:w8.there q1 0 1) (h2:w8.there q2 0 8) (h3:w8.heap[q3]? = some zO) (hq:w.heap.size<=q1/\w.heap.size<=q2/\w.heap.size<=q3) (ze:q1<W5.heap.size/\q2<W5.heap.size/\q3<W5.heap.size) (hb:Below w.heap.size w w8) (ht:Off (· < W5.heap.size) w8 fun u=>CQ u A2 s) (hx:Off (fun q=>q<W6.drew.heap.size) w8 fun u=>Az u x.v x.A1 x.A2 x.A3) (hy:Off (fun q=>q<w7.heap.size) w8 fun u=>Az u y.v y.A1 y.A2 y.A3) (hz:W5.heap.size<=W6.heap.size) (hz7:W6.heap.size<=w7.heap.size) (ho:MI s) (hr:0<=T/\T<(s.length:Int)) (fx:BV s T x.v=true) (fy:BV s T y.v=true):
  ((q8 ((w8.setCells q1 0 [.slice A2 s.length c2]).setCells q2 0 x.cells) q3 (.int .i64 y.v.kind) (.bool y.v.bool) (.int .i64 y.v.int) (.string y.v.str) (.int .i64 y.v.id) (.slice y.A1 y.v.keys.length y.c1) (.slice y.A2 y.v.items.length y.c2) (.slice y.A3 y.v.rest.length y.c3)).rangeAt q1 0 [.slice A2 s.length c2]/\(q8 ((w8.setCells q1 0 [.slice A2 s.length c2]).setCells q2 0 x.cells) q3 (.int .i64 y.v.kind) (.bool y.v.bool) (.int .i64 y.v.int) (.string y.v.str) (.int .i64 y.v.id) (.slice y.A1 y.v.keys.length y.c1) (.slice y.A2 y.v.items.length y.c2) (.slice y.A3 y.v.rest.length y.c3)).rangeAt q2 0 x.cells/\(q8 ((w8.setCells q1 0 [.slice A2 s.length c2]).setCells q2 0 x.cells) q3 (.int .i64 y.v.kind) (.bool y.v.bool) (.int .i64 y.v.int) (.string y.v.str) (.int .i64 y.v.id) (.slice y.A1 y.v.keys.length y.c1) (.slice y.A2 y.v.items.length y.c2) (.slice y.A3 y.v.rest.length y.c3)).heap[q3]? = some (y.v.box y.A1 y.c1 y.A2 y.c2 y.A3 y.c3))/\lK w (.returned (.tuple #[.agg #[.slice A2 s.length c2],.int .i64 T,x.v.v x.A1 x.c1 x.A2 x.c2 x.A3 x.c3,y.v.v y.A1 y.c1 y.A2 y.c2 y.A3 y.c3,.bool true])) (q8 ((w8.setCells q1 0 [.slice A2 s.length c2]).setCells q2 0 x.cells) q3 (.int .i64 y.v.kind) (.bool y.v.bool) (.int .i64 y.v.int) (.string y.v.str) (.int .i64 y.v.id) (.slice y.A1 y.v.keys.length y.c1) (.slice y.A2 y.v.items.length y.c2) (.slice y.A3 y.v.rest.length y.c3)):=by
 have e6:W6.drew.heap.size=W6.heap.size:=rfl;have g1:=World.rangeAt_setCells_same w8 q1 0 [.slice A2 s.length c2] h1;have g2:=World.rangeAt_setCells_same (w8.setCells q1 0 [.slice A2 s.length c2]) q2 0 x.cells (World.there_setCells h2 _ _ _);have g3:=World.rangeAt_setCells_apart g1 q2 0 x.cells (.inl n12)
 refine ⟨⟨Pm g3 (FZ n13 _ _ _ _ _ _ _ _),Pm g2 (FZ n23 _ _ _ _ _ _ _ _),F6 ((zN n23.symm _ _ _).trans ((zN n13.symm _ _ _).trans h3)) _ _ _ _ _ _ _ _⟩,jc (BZ (yC _ hq.2.1 _ _ _ (yC _ hq.1 _ _ _ hb)) hq.2.2 _ _ _ _ _ _ _ _) ?_ ?_ ?_ ho hr fx fy⟩
 ·exact (EA ((ht.setCells ze.1 _ _).setCells ze.2.1 _ _) ze.2.2 _ _ _ _ _ _ _ _).out
 ·exact (EA ((hx.setCells (g:=q1) (by show q1<_;omega) _ _).setCells (g:=q2) (by show q2<_;omega) _ _) (B:=q3) (by show q3<_;omega) _ _ _ _ _ _ _ _).out
 ·exact (EA ((hy.setCells (g:=q1) (by show q1<_;omega) _ _).setCells (g:=q2) (by show q2<_;omega) _ _) (B:=q3) (by show q3<_;omega) _ _ _ _ _ _ _ _).out
theorem je {d:List AX} {A B:zo} {c k m:Nat} {l:List Int} (hd:BM w A d) (hk:k<256) (hl:UH w B l) (hm:l.length<=m):
  Calls Tryz.prog 16 #[.agg #[.slice A d.length c,.int .u8 (k:Int),.slice B l.length m]] w (lK w):=by
 have HD:=zh hd;have HL:=zh hl;have HK:=zh hk;have hdn:=hd.1;clear hd hl
 go_enter Tryz.func16,Tryz.ntmps16
 go_upto_region 1 with fail
 have hb0:Below w.heap.size w ((((w.alloc (.cells #[.slice A d.length c,.int .u8 (k:Int),.slice B l.length m] 42)).alloc (.cells #[.slice none 0 0] 31)).alloc zO).alloc zO) :=
  (zI _ _ _).trans ((zI _ _ _).mono (by simp;omega))
 have hr0:((((w.alloc (.cells #[.slice A d.length c,.int .u8 (k:Int),.slice B l.length m] 42)).alloc (.cells #[.slice none 0 0] 31)).alloc zO).alloc zO).heap[w.heap.size]? = some (.cells #[.slice A d.length c,.int .u8 (k:Int),.slice B l.length m] 42) :=
  BR (BR (BR (AAC w _) (zD _ _)) (zD _ _)) (zD _ _)
 have hr1:((((w.alloc (.cells #[.slice A d.length c,.int .u8 (k:Int),.slice B l.length m] 42)).alloc (.cells #[.slice none 0 0] 31)).alloc zO).alloc zO).heap[w.heap.size+1]? = some (.cells #[.slice none 0 0] 31) :=
  BR (BR (by have:=AAC (w.alloc (.cells #[.slice A d.length c,.int .u8 (k:Int),.slice B l.length m] 42)) (.cells #[.slice none 0 0] 31);rw[show (w.alloc (.cells #[.slice A d.length c,.int .u8 (k:Int),.slice B l.length m] 42)).heap.size=w.heap.size+1 by simp] at this;exact this) (zD _ _)) (zD _ _)
 have hz:((((w.alloc (.cells #[.slice A d.length c,.int .u8 (k:Int),.slice B l.length m] 42)).alloc (.cells #[.slice none 0 0] 31)).alloc zO).alloc zO).heap.size=w.heap.size+4:=by simp
 have hr2:((((w.alloc (.cells #[.slice A d.length c,.int .u8 (k:Int),.slice B l.length m] 42)).alloc (.cells #[.slice none 0 0] 31)).alloc zO).alloc zO).heap[w.heap.size+1+1]? = some zO:=by
  refine BR ?_ (zD _ _);have:=AAC ((w.alloc (.cells #[.slice A d.length c,.int .u8 (k:Int),.slice B l.length m] 42)).alloc (.cells #[.slice none 0 0] 31)) zO;rw[show ((w.alloc (.cells #[.slice A d.length c,.int .u8 (k:Int),.slice B l.length m] 42)).alloc (.cells #[.slice none 0 0] 31)).heap.size=w.heap.size+1+1 by simp] at this
  exact this
 have hr3:((((w.alloc (.cells #[.slice A d.length c,.int .u8 (k:Int),.slice B l.length m] 42)).alloc (.cells #[.slice none 0 0] 31)).alloc zO).alloc zO).heap[w.heap.size+1+1+1]? = some zO:=by
  have:=AAC (((w.alloc (.cells #[.slice A d.length c,.int .u8 (k:Int),.slice B l.length m] 42)).alloc (.cells #[.slice none 0 0] 31)).alloc zO) zO;rw[show (((w.alloc (.cells #[.slice A d.length c,.int .u8 (k:Int),.slice B l.length m] 42)).alloc (.cells #[.slice none 0 0] 31)).alloc zO).heap.size=w.heap.size+1+1+1 by simp] at this
  exact this
 unfold zO at hb0 hr0 hr1 hr2 hr3 hz;generalize World.alloc (World.alloc (World.alloc (World.alloc w _) _) _) _=W5 at *;obtain ⟨q1,hq1⟩:∃q,w.heap.size+1=q:=⟨_,rfl⟩;obtain ⟨q2,hq2⟩:∃q,q1+1=q:=⟨_,rfl⟩;obtain ⟨q3,hq3⟩:∃q,q2+1=q:=⟨_,rfl⟩;rw[hq1] at hr1 hr2 hr3 ⊢;rw[hq2] at hr2 hr3 ⊢;rw[hq3] at hr3 ⊢
 have c0:W5.cell? ⟨w.heap.size,0,none⟩=some (.slice A d.length c):=(AAE _ _ _ _ _ _ hr0).trans rfl;have hlz:w.heap.size<W5.heap.size:=by omega
 have HB:=zh hb0;have IJ:=zh hr0;have HR1:=zh hr1;have HR2:=zh hr2;have HR3:=zh hr3;clear hb0 hr0 hr1 hr2 hr3;go_wp2_with fail;refine (oN d A c W5 (HD.out.below HB)).mono ?_;rintro e w2 ⟨A2,c2,s,ok,rfl,hty,hok,hno,hb2,hoi⟩;have HB2:=zh (HB.out.trans (hb2.mono HB.out.size));have QW:=zh (BR IJ hb2);have KP:=zh (BR HR1 hb2);have HS2:=zh (BR HR2 hb2)
 have OU:=zh (BR HR3 hb2);have Ez:=zh hty;have KR:=zh hok;have Mi:=zh hno;have lV:=zh hoi;have hz2:=hb2.size;clear IJ HR1 HR2 HR3 hb2 hty hok hno hoi c0 HB;obtain ⟨⟨x0,x1,x2,x3,x4,x5,x6,x7⟩,y0,y1,y2,y3,y4,y5,y6,y7⟩:=zK HS2;obtain ⟨⟨v0,v1,v2,v3,v4,v5,v6,v7⟩,u0,u1,u2,u3,u4,u5,u6,u7⟩:=zK OU;have s0:=zb KP;have f0:=AAL _ _ 0 _ _ KP
 have d1:w2.cell? ⟨w.heap.size,1,none⟩=some (.int .u8 (k:Int)):=by rw[AAE _ _ _ _ _ _ QW.out];rfl
 have d2:w2.cell? ⟨w.heap.size,2,none⟩=some (.slice B l.length m):=by rw[AAE _ _ _ _ _ _ QW.out];rfl
 have g0:w.heap.size<w2.heap.size:=by omega
 have g1:q1<w2.heap.size:=by omega
 have g2:q2<w2.heap.size:=by omega
 have g3:q3<w2.heap.size:=by omega
 have n12:q1≠q2:=by omega
 have n13:q1≠q3:=by omega
 have n23:q2≠q3:=by omega
 have HQ:Hid (w.heap.size<=q1/\w.heap.size<=q2/\w.heap.size<=q3):=by show _/\_/\_;omega
 have NQ0:Hid (w.heap.size≠q1/\w.heap.size≠q2/\w.heap.size≠q3):=by show _/\_/\_;omega
 have sD:Hid (q1<W5.heap.size/\q2<W5.heap.size/\q3<W5.heap.size):=by show _/\_/\_;omega
 clear hq1 hq2 hq3
 cases ok with
 | false =>
  have hsn:s=[]:=Mi.out rfl;subst hsn;clear x0 x1 x2 x3 x4 x5 x6 x7 y0 y1 y2 y3 y4 y5 y6 y7 v0 v1 v2 v3 v4 v5 v6 v7 u0 u1 u2 u3 u4 u5 u6 u7 s0 f0;have hb6:Below w2.heap.size w2 (w2.alloc (.cells #[.slice A2 0 c2] 31)):=zD _ _;have c6:(w2.alloc (.cells #[.slice A2 0 c2] 31)).cell? ⟨w2.heap.size,0,none⟩=some (.slice A2 0 c2):=by rw[AAE _ _ _ _ _ _ (AAC _ _)];rfl
  have Og:=zh (BR KP hb6);have XU:=zh (BR HS2 hb6);have Vr:=zh (BR OU hb6);have BN:=zh (HB2.out.trans (hb6.mono (by have:=HB2.out.size;omega)))
  have k1:=AAq g1 hb6.size;have k2:=AAq g2 hb6.size;have k3:=AAq g3 hb6.size;clear hb6 KP HS2 OU QW g1 g2 g3;go_upto_region 3 with fail
  simp only[List.length_nil] at *;generalize w2.alloc (.cells #[.slice A2 0 c2] 31)=W6 at *;have s0:=zb Og;have f0:=AAL _ _ 0 _ _ Og;obtain ⟨⟨x0,x1,x2,x3,x4,x5,x6,x7⟩,y0,y1,y2,y3,y4,y5,y6,y7⟩:=zK XU;obtain ⟨⟨v0,v1,v2,v3,v4,v5,v6,v7⟩,u0,u1,u2,u3,u4,u5,u6,u7⟩:=zK Vr
  have HG:=zh (Xx Og XU Vr n12 n13 n23 (.slice A2 0 c2) (.int .i64 0) (.bool false) (.int .i64 0) (.string ⟨#[]⟩) (.int .i64 0) AR AR AR (.int .i64 0) (.bool false) (.int .i64 0) (.string ⟨#[]⟩) (.int .i64 0) AR AR AR)
  have GX:=zh (Ur BN HQ.out.1 HQ.out.2.1 HQ.out.2.2 (.slice A2 0 c2) (.int .i64 0) (.bool false) (.int .i64 0) (.string ⟨#[]⟩) (.int .i64 0) AR AR AR (.int .i64 0) (.bool false) (.int .i64 0) (.string ⟨#[]⟩) (.int .i64 0) AR AR AR);go_wp2;clear x0 x1 x2 x3 x4 x5 x6 x7 y0 y1 y2 y3 y4 y5 y6 y7 v0 v1 v2 v3 v4 v5 v6 v7 u0 u1 u2 u3 u4 u5 u6 u7 s0 f0
  unfold Go.Proofs.YthkkllmmbefedaaGreatDoor.Sc q8 q5 at HG GX
  generalize World.setCell _ _ _=W9 at *;obtain ⟨e1,e2,e3⟩:=HG.out;have r0:=zb e1
  obtain ⟨⟨x0,x1,x2,x3,x4,x5,x6,x7⟩,_⟩:=zK e2;obtain ⟨⟨v0,v1,v2,v3,v4,v5,v6,v7⟩,_⟩:=zK e3;have gU:=zh (oO (A2:=A2) (c2:=c2) GX)
  refine bodyPost_ret (v := .tuple #[.agg #[.slice A2 0 c2],.int .i64 0,.agg #[.int .i64 0,.bool false,.int .i64 0,.string ⟨#[]⟩,.int .i64 0,AR,AR,AR],.agg #[.int .i64 0,.bool false,.int .i64 0,.string ⟨#[]⟩,.int .i64 0,AR,AR,AR],.bool false]) ?_ rfl gU;simp[results,Tryz.results16,go_sem,r0,x0,x1,x2,x3,x4,x5,x6,x7,v0,v1,v2,v3,v4,v5,v6,v7]
 | true =>
  have kI:=KR.out rfl;have QX:Hid (MI s):=ji kI.1 kI.2.2.2.2.2.1 kI.2.2.1 kI.2.2.2.2.1 (lV.out rfl).1;have hs1:s.length<=5:=by have:=kI.2.2.1;have:=kI.2.2.2.2.1;omega
  have hs2:0<s.length:=by have:=kI.2.2.1;have:=kI.2.2.2.1;omega
  have hs3:((s.length:Nat):Int)≠0:=by omega
  have xP:=zh (lV.out rfl).2;have hk0:=HK.out;clear kI KR Mi lV;go_upto_region 5 with fail
  have hb6:Below w2.heap.size w2 (w2.alloc (.cells #[.slice A2 s.length c2] 31)):=zD _ _;have hx6:(w2.alloc (.cells #[.slice A2 s.length c2] 31)).heap[w2.heap.size]? = some (.cells #[.slice A2 s.length c2] 31):=AAC _ _;have c6:(w2.alloc (.cells #[.slice A2 s.length c2] 31)).cell? ⟨w2.heap.size,0,none⟩=some (.slice A2 s.length c2):=by rw[AAE _ _ _ _ _ _ hx6];rfl
  have qL:=zh (xP.out.low hb6);have BN:=zh (HB2.out.trans (hb6.mono (by have:=HB2.out.size;omega)))
  have Og:=zh (BR KP hb6);have XU:=zh (BR HS2 hb6);have Vr:=zh (BR OU hb6);have C6:=zh c6;have D6:=zh (zA hb6 d2);have vI:=zh hb6.size;have HZ5:=zh hz2;have FR:Hid (W5.heap.size<=(w2.alloc (.cells #[.slice A2 s.length c2] 31)).heap.size):=Nat.le_trans hz2 hb6.size
  clear hb6 hx6 c6 x0 x1 x2 x3 x4 x5 x6 x7 y0 y1 y2 y3 y4 y5 y6 y7 v0 v1 v2 v3 v4 v5 v6 v7 u0 u1 u2 u3 u4 u5 u6 u7 s0 f0 d1 d2 g0 g1 g2 g3 QW KP HS2 OU Ez xP;generalize w2.alloc (.cells #[.slice A2 s.length c2] 31)=W6 at *;have NQ:Hid (w2.heap.size≠q1/\w2.heap.size≠q2/\w2.heap.size≠q3):=by
   have:=sD.out;have:=HZ5.out
   show _/\_/\_;omega
  generalize w2.heap.size=qs at *;obtain ⟨T,hT,Dv⟩:∃T:Int,(k:Int) % (s.length:Int)=T/\Hid (0<=T/\T<(s.length:Int)):=⟨_,rfl,⟨Int.emod_nonneg _ hs3,Int.emod_lt_of_pos _ (by omega)⟩⟩
  rw[hT];clear hT hk0 hs1 hs2 hs3;refine yE (S:=(fun w'=>w'.cell? ⟨qs,0,none⟩=some (.slice A2 s.length c2)/\w'.cell? ⟨w.heap.size,2,none⟩=some (.slice B l.length m))) 15 (by kernel_rfl) ?_ (fun AO=>?_)
  ·(try dsimp only);(have CS:=zh (zC (Pe W6.heap.size W6) 1);exact ⟨zA CS C6.out,zA CS D6.out⟩)
  refine tB 0 ?_;refine tC 1 ?_;refine tB 2 ?_;refine tC 3 ?_;refine tC 4 ?_;refine tB 5 ?_;try simp only[ps]
  refine tB 7 ?_;refine tC 8 ?_;refine tC 9 ?_;refine tB 10 ?_;refine tS 6 (fun K hK=>?_)
  go_simp
  (have CS:=zh (zC (Pe W6.heap.size W6) 1);refine (bH QX (qL.out.out.below CS) (HL.out.below (zB BN CS)) hm Dv).mono ?_;rintro e w7 ⟨x,rfl,ho7,FE,hf7⟩;have qf:=zh ho7;have BK:=zh (zB CS FE);have xw:=zh hf7;clear ho7 FE hf7)
  refine hK.out _ _ ?_ (fun AO=>?_)
  ·(try dsimp only);exact ⟨zA BK C6.out,zA BK D6.out⟩
  clear hK K;refine tS 11 (fun K hK=>?_)
  go_simp
  (refine (Tg QX (qL.out.out.below BK) (HL.out.below (zB BN BK)) hm Dv).mono ?_;rintro e w8 ⟨y,rfl,CW,EJ,hf8⟩;have IY:=zh CW;have BI:=zh EJ;have KU:=zh (zB BK EJ);have HF8:=zh hf8;clear CW EJ hf8;have nA:=zh (nW (BR Og KU));have qY:=zh (DW (BR XU KU));have Oe:=zh (BR Vr KU))
  refine hK.out _ _ ?_ (fun AO=>?_)
  ·(try dsimp only);exact ⟨zA KU C6.out,zA KU D6.out⟩
  clear hK K;try simp only[ps]
  refine tS 12 (fun K hK=>?_)
  (have Ro:=zh (And.intro (WQ (q:=q1) (zA KU C6.out) NQ.out.1 0 [.slice A2 s.length c2]) (WQ (q:=q1) (zA KU D6.out) NQ0.out.1 0 [.slice A2 s.length c2]));simp only[List.getElem_toArray,List.getElem_cons_zero,List.getElem_cons_succ];rw[AAG (by rfl)];refine wp_store_mid 31 (.tmp 2) (.tmp 28) rfl (q1) (0) (#[.slice A2 s.length c2]) (by rfl) (by rfl) ?_ ?_ ?_ ?_;(exact nA.out);(exact Qo);(exact Xo _ _ _))
  refine hK.out _ _ ?_ (fun AO=>?_)
  ·(try dsimp only);exact Ro.out
  clear hK K;refine tC 13 ?_;refine tS 14 (fun K hK=>?_)
  (have NW:=zh (And.intro (WQ (q:=q2) Ro.out.1 NQ.out.2.1 0 x.cells) (WQ (q:=q2) Ro.out.2 NQ0.out.2.1 0 x.cells));have mr:=zh ((zN n23.symm x.cells 0 (w8.setCells q1 0 [.slice A2 s.length c2])).trans ((zN n13.symm [.slice A2 s.length c2] 0 w8).trans Oe));obtain ⟨⟨v0,v1,v2,v3,v4,v5,v6,v7⟩,u0,u1,u2,u3,u4,u5,u6,u7⟩:=zK mr;simp only[List.getElem_toArray,List.getElem_cons_zero,List.getElem_cons_succ];rw[AAG (by rfl)];refine wp_store_mid 28 (.tmp 4) (.tmp 34) rfl (q2) (0) (x.cells.toArray) (by rfl) (by rfl) ?_ ?_ ?_ ?_;(exact World.there_setCells qY _ _ _);(exact Gi);(exact Qd x))
  refine hK.out _ _ ?_ (fun AO=>?_)
  ·(try dsimp only);exact NW.out
  clear hK K;refine zV (rs:=[15]) (by kernel_rfl) (by simp) ?_
  refine AJ.last rfl (by kernel_rfl) (fun K hK=>?_) AJ.nil
  go_simp
  refine hK.out _ _ ?_;clear hK K
  (try clear AO)
  refine sS 16 ?v11 rfl (by kernel_rfl) (.inl ⟨by rfl,?y11⟩) ?_
  case y11=>(intro w;go_simp;try with_reducible rfl)
  refine wpAny_done (by kernel_rfl) ?_ _
  go_wp2
  have gU:=zh (jd (c2:=c2) n12 n13 n23 nA qY Oe HQ sD (zB BN KU) (qL.out.low KU) (qf.out.low BI) IY FR BK.out.size QX Dv xw HF8);clear v0 v1 v2 v3 v4 v5 v6 v7 u0 u1 u2 u3 u4 u5 u6 u7;unfold q8 q5 at gU
  generalize World.setCell (World.setCell (World.setCell (World.setCell (World.setCell (World.setCell (World.setCell (World.setCell (World.setCells _ _ _ _) _ _) _ _) _ _) _ _) _ _) _ _) _ _) _ _=W9 at *;have r0:W9.cell? ⟨q1,0,none⟩=some (.slice A2 s.length c2):=gU.out.1.1 0 _ rfl;obtain ⟨x0,x1,x2,x3,x4,x5,x6,x7⟩:=Jy (y:=x.v) gU.out.1.2.1;obtain ⟨v0,v1,v2,v3,v4,v5,v6,v7⟩:=zF gU.out.1.2.2
  refine bodyPost_ret (v := .tuple #[.agg #[.slice A2 s.length c2],.int .i64 T,x.v.v x.A1 x.c1 x.A2 x.c2 x.A3 x.c3,y.v.v y.A1 y.c1 y.A2 y.c2 y.A3 y.c3,.bool true]) ?_ rfl gU.out.2;simp[results,Tryz.results16,go_sem,r0,x0,x1,x2,x3,x4,x5,x6,x7,v0,v1,v2,v3,v4,v5,v6,v7]
end Go.Proofs.YthkkllmmbefedaaGreatDoor



