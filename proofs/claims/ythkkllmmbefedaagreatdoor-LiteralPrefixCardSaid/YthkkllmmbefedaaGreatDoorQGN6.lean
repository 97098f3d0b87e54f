/-
  Walks: sheaveref08.Of.
-/
import Derived.Test.YthkkllmmbefedaaGreatDoorQDR4
import Derived.Test.YthkkllmmbefedaaGreatDoorQGN2
namespace Go.Proofs.YthkkllmmbefedaaGreatDoor
open Go.Proofs.Tryz
set_option maxHeartbeats 16000000
set_option maxRecDepth 100000
section
variable {d:List AR} {s:List Aa}
theorem JG (ho:zf d s) (t:Int):AO s t=Ai\/∃j,j<s.length/\j=t.toNat/\Mq d j (AO s t)/\Zo d j (d.getD j Bo) (AO s t):=by
 by_cases h:t.toNat<s.length
 ·right
  have e:AO s t=s[t.toNat]:=by unfold AO;rw[AA1,zl h];rfl
  exact ⟨t.toNat,h,rfl,by rw[e];exact (ho _ h).1,by rw[e];exact (ho _ h).2⟩
 ·left
  unfold AO;rw[AA1,List.getElem?_eq_none (by omega)]
  rfl
theorem iI {i:Nat} {x:AR} {t:Aa} (h:Zo d i x t) {k:Int} (hk:t.kind=k) (h5:k≠5) (h7:k≠7):Ab d i=k:=by
 rcases h.kind with e|⟨_,e⟩
 ·rw[hk] at e
  unfold ME at e
  split at e
  ·exact absurd e h7
  ·exact e.symm
 ·rw[hk] at e;exact absurd e h5
theorem qf (ho:zf d s) (hl:s.length=d.length) {t:Int} (h0:0<=t) (h1:t<(s.length:Int)) {x:Val} (hx:Oa d t.toNat x) (hf:KF x):BN s t x=true:=by
 rcases JG ho t with e|⟨j,hj,rfl,hto,hti⟩
 ·exfalso
  have:=ho t.toNat (by omega)
  have e2:AO s t=s[t.toNat]'(by omega):=by unfold AO;rw[AA1,zl (by omega)];rfl
  have hk:=this.2.kind;rw[<-e2,e] at hk;have h9:=He d t.toNat
  rcases hk with hk|⟨_,hk⟩
  ·have:(0:Int)=ME d t.toNat:=hk
   unfold ME at this
   split at this <;> omega
  ·exact absurd hk (by decide)
 have hkk:(AO s t).kind=ME d t.toNat:=by
  rcases hti.kind with e|⟨e,_⟩
  ·exact e
  ·exact absurd e hx.nou.2
 have h9:=He d t.toNat;have hno:=hx.nou;obtain ⟨xk,xb,xi,xs,xn,ks,is,rs⟩:=x;obtain ⟨_,hk5,hi5,hr5⟩:=hf;simp only[Val.keys,Val.items,Val.rest] at hk5 hi5 hr5;subst hk5 hi5 hr5;have gk:xk=ME d t.toNat:=hx.kind;have gb:Ab d t.toNat≠1->xb=false:=hx.b;have gi:=hx.i;have gs:=hx.s;have gn:=hx.n;simp only[Val.int,Val.str,Val.id] at gi gs gn;clear hx;obtain ⟨K,hK⟩:∃K,Ab d t.toNat=K:=⟨_,rfl⟩
 rw[hK] at gb gi gs gn h9 hno;have hk9:K=1\/K=2\/K=3\/K=4\/K=7\/K=8\/K=9:=by omega
 have htk:K≠8->ME d t.toNat=K:=fun h8=>(MB hK h8).symm
 rcases hk9 with rfl|rfl|rfl|rfl|rfl|rfl|rfl
 ·have e1:=htk (by decide)
  rw[Pd (by decide)] at gi gs gn
  subst gi gs gn;rw[e1] at gk hkk;subst gk;exact ZK h0 h1 hkk
 ·have e1:=htk (by decide)
  obtain rfl:=gb (by decide)
  rw[AAB rfl] at gi;rw[Pd (by decide)] at gs gn
  subst gs gn;rw[e1] at gk hkk;subst gk;obtain ⟨a,b⟩:=hti.int hK;exact jv h0 h1 hkk (by rw[a,b];exact gi)
 ·have e1:=htk (by decide)
  obtain rfl:=gb (by decide)
  rw[AAB rfl] at gs;rw[Pd (by decide)] at gi gn
  subst gi gn;rw[e1] at gk hkk;subst gk;exact jq h0 h1 hkk (by rw[hti.str hK];exact gs) (by omega)
 ·have e1:=htk (by decide)
  obtain rfl:=gb (by decide)
  rw[AAB rfl] at gn;rw[Pd (by decide)] at gi gs
  subst gi gs;rw[e1] at gk hkk;subst gk;exact ZJ h0 h1 hkk (.inl ⟨⟨xn,Tz 115 xn.toNat⟩,by rw[hti.enum hK];exact List.mem_map.2 ⟨xn,gn,rfl⟩,rfl⟩)
 ·have e1:=htk (by decide)
  obtain rfl:=gb (by decide)
  rw[Pd (by decide)] at gi gs gn
  subst gi gs gn;rw[e1] at gk hkk;subst gk;exact TJ h0 h1 hkk (by show (0:Int)<=_;exact hti.max.1) (fun _ h=>by cases h)
 ·obtain rfl:=gb (by decide)
  rw[Pd (by decide)] at gi gs gn
  subst gi gs gn;have e1:ME d t.toNat=7\/ME d t.toNat=8:=by
   unfold ME
   split
   ·exact .inl rfl
   ·exact .inr hK
  rcases e1 with e1|e1
  ·rw[e1] at gk hkk
   subst gk;exact TJ h0 h1 hkk (by show (0:Int)<=_;exact hti.max.1) (fun _ h=>by cases h)
  ·rw[e1] at gk hkk
   subst gk;exact jr h0 h1 hkk (by show (0:Int)<=_;exact hti.max.1) rfl (fun _ h=>by cases h) rfl (fun _ h=>by cases h)
 ·have e1:=htk (by decide)
  obtain rfl:=gb (by decide)
  rw[Pd (by decide)] at gi gs gn
  subst gi gs gn;rw[e1] at gk hkk;subst gk;exact Xo h0 h1 hkk (Nat.zero_le _) (fun _ h=>by cases h)
theorem qL (hv:zQ s=0) (hn:DW s) (hl:s.length=d.length) (h5:d.length<=5) (ho:zf d s):Mt s where
 v:=hv
 n64:=hn
 len:=by omega
 int:=fun t hk=>by
  rcases JG ho t with e|⟨j,hj,_,hto,hti⟩
  ·rw[e] at hk;exact absurd hk (by decide)
  ·obtain ⟨a,b⟩:=hti.int (iI hti hk (by decide) (by decide))
   rw[a,b];unfold Fp F7
   omega
 max:=fun t=>by
  rcases JG ho t with e|⟨j,hj,_,hto,hti⟩
  ·rw[e];exact ⟨by decide,by decide⟩
  ·have:=hti.max;omega
 ids:=fun t=>by
  rcases JG ho t with e|⟨j,hj,_,hto,hti⟩
  ·rw[e];exact ⟨fun _ h=>(by cases h),fun _ h=>(by cases h)⟩
  ·obtain ⟨rec,hm⟩:=hti.mo
   refine ⟨fun m h=>(hm.2 m h).1.2,fun m h=>?_⟩
   rcases hti.AX with e|e
   ·rw[e] at h;cases h
   ·rw[e] at h
    obtain ⟨n,hn,rfl⟩:=List.mem_map.1 h;have:=(Kb _).2.1 n hn
    show n<=12
    omega
 sym:=fun t hk=>by
  rcases JG ho t with e|⟨j,hj,_,hto,hti⟩
  ·rw[e] at hk;exact absurd hk (by decide)
  ·rw[hti.enum (iI hti hk (by decide) (by decide))]
   have:=(Kb (d.getD j Bo)).2.2;unfold Em
   simpa using this
 syl:=fun t=>by
  rcases JG ho t with e|⟨j,hj,_,hto,hti⟩
  ·rw[e];exact Nat.zero_le _
  ·rcases hti.AX with e|e
   ·rw[e];exact Nat.zero_le _
   ·rw[e];have:=aM (d.getD j Bo);omega
 mem:=fun t hk=>by
  rcases JG ho t with e|⟨j,hj,_,hto,hti⟩
  ·rw[e] at hk;exact absurd hk (by decide)
  ·exact hti.ne hk
 mel:=fun t=>by
  rcases JG ho t with e|⟨j,hj,_,hto,hti⟩
  ·rw[e];exact Nat.zero_le _
  ·obtain ⟨rec,hm⟩:=hti.mo
   have:=hm.len;omega
 asc:=fun t=>by
  rcases JG ho t with e|⟨j,hj,_,hto,hti⟩
  ·rw[e];exact List.Pairwise.nil
  ·obtain ⟨rec,hm⟩:=hti.mo
   exact hm.1
 vZ:=fun t h0 h1 hk m hm=>by
  rcases JG ho t with e|⟨j,hj,hjt,hto,hti⟩
  ·rw[e] at hm;cases hm
  ·obtain ⟨rec,hmo⟩:=hti.mo
   have hr:=(hmo.2 m hm).2.2.1;refine ⟨by omega,?_⟩
   rcases (hti.mem m hm).2 with h|h
   ·left
    rcases JG ho m.type with e|⟨j2,_,rfl,_,ADB⟩
    ·exfalso
     have e2:AO s m.type=s[m.type.toNat]'(by omega):=by unfold AO;rw[AA1,zl (by omega)];rfl
     have hk:=(ho m.type.toNat (by omega)).2.kind
     rw[<-e2,e] at hk
     rcases hk with hk|⟨_,hk⟩
     ·have:(0:Int)=ME d m.type.toNat:=hk
      unfold ME at this
      split at this <;> omega
     ·exact absurd hk (by decide)
    ·rcases ADB.kind with e|⟨e,_⟩
     ·rw[e];unfold ME;split <;> omega
     ·omega
   ·right;omega
 dfl:=fun t m hm hd=>by
  rcases JG ho t with e|⟨j,hj,_,hto,hti⟩
  ·rw[e] at hm;cases hm
  ·obtain ⟨rec,hmo⟩:=hti.mo
   have hr:=(hmo.2 m hm).2.2.1;have hf:=hto.flat m hm;exact ⟨qf ho hl hr.1 (by omega) ((hti.mem m hm).1 hd) hf,hf.2.1,hf.2.2.1,hf.2.2.2,yK (Nat.le_trans hf.1.1 (by decide))⟩
end
open Go.RowKit
def rU (w:World) (e:Ending) (w':World):Prop :=
 ∃ (A:zo) (c:Nat) (s:List Aa) (t:Int) (x y:Aj) (ok:Bool),e = .returned (.tuple #[.agg #[.slice A s.length c],.int .i64 t,x.v.v x.A1 x.c1 x.A2 x.c2 x.A3 x.c3,y.v.v y.A1 y.c1 y.A2 y.c2 y.A3 y.c3,.bool ok])/\Below w.heap.size w w'/\DC w' A s/\Ar w' x.v x.A1 x.A2 x.A3/\Ar w' y.v y.A1 y.A2 y.A3 /\
  (ok=true->Mt s/\(0<=t/\t<(s.length:Int))/\BN s t x.v=true/\BN s t y.v=true)
abbrev Un (w:World) (q1 q2 q3:Nat) (sv:Value) (v0 v1 v2 v3 v4 v5 v6 v7 u0 u1 u2 u3 u4 u5 u6 u7:Value):World:=q8 (q8 (w.setCell ⟨q1,0,none⟩ sv) q2 v0 v1 v2 v3 v4 v5 v6 v7) q3 u0 u1 u2 u3 u4 u5 u6 u7
variable {q1 q2 q3:Nat} {w:World}
theorem aX {a a0 a1 a2 a3 a4 a5 a6 a7 b0 b1 b2 b3 b4 b5 b6 b7:Value} {T1 T2 T3:TypeId} (h1:w.heap[q1]? = some (.cells #[a] T1)) (h2:w.heap[q2]? = some (.cells #[a0,a1,a2,a3,a4,a5,a6,a7] T2)) (h3:w.heap[q3]? = some (.cells #[b0,b1,b2,b3,b4,b5,b6,b7] T3)) (n12:q1≠q2) (n13:q1≠q3) (n23:q2≠q3) (sv v0 v1 v2 v3 v4 v5 v6 v7 u0 u1 u2 u3 u4 u5 u6 u7:Value):
  (Un w q1 q2 q3 sv v0 v1 v2 v3 v4 v5 v6 v7 u0 u1 u2 u3 u4 u5 u6 u7).heap[q1]? = some (.cells #[sv] T1)/\(Un w q1 q2 q3 sv v0 v1 v2 v3 v4 v5 v6 v7 u0 u1 u2 u3 u4 u5 u6 u7).heap[q2]? = some (.cells #[v0,v1,v2,v3,v4,v5,v6,v7] T2)/\(Un w q1 q2 q3 sv v0 v1 v2 v3 v4 v5 v6 v7 u0 u1 u2 u3 u4 u5 u6 u7).heap[q3]? = some (.cells #[u0,u1,u2,u3,u4,u5,u6,u7] T3):=by
 have g1:=AAK _ _ 0 _ _ sv h1;simp only[ABG,List.set_cons_zero] at g1;refine ⟨?_,?_,?_⟩
 ·unfold Un;rw[GY n13,GY n12];exact g1
 ·unfold Un;rw[GY n23];exact Gx ((AAE _ _ _ _ n12.symm).trans h2) _ _ _ _ _ _ _ _
 ·unfold Un;exact Gx ((GY n23.symm _ _ _ _ _ _ _ _).trans ((AAE _ _ _ _ n13.symm).trans h3)) _ _ _ _ _ _ _ _
theorem XM {B:Nat} {w':World} (h:Below B w w') (h1:B<=q1) (h2:B<=q2) (h3:B<=q3) (sv v0 v1 v2 v3 v4 v5 v6 v7 u0 u1 u2 u3 u4 u5 u6 u7:Value):Below B w (Un w' q1 q2 q3 sv v0 v1 v2 v3 v4 v5 v6 v7 u0 u1 u2 u3 u4 u5 u6 u7) :=
 Bb (Bb (h.setCell (p:=⟨q1,0,none⟩) h1 sv) h2 _ _ _ _ _ _ _ _) h3 _ _ _ _ _ _ _ _
theorem uw {b:Nat} {a:Value} {T:TypeId} (h:w.heap[b]? = some (.cells #[a] T (0,0))):w.there b 0 1:=fun j hj=>by
 obtain rfl:j=0:=by omega
 exact ⟨by rw[AAC _ _ _ _ _ _ h];rfl,AAG _ _ _ _ _ h⟩
theorem Sd:(prog.info? 31).map (·.size)=some 1:=by kernel_rfl
theorem aR (A:zo) (n c:Nat):(#[Value.slice A n c]).all (·.oneCell')=true:=by simp[Value.oneCell']
theorem Y1 {b o q:Nat} {v:Value} (h:w.cell? ⟨b,o,none⟩=some v) (hn:b≠q) (k:Nat) (vs:List Value):(w.setCells q k vs).cell? ⟨b,o,none⟩=some v:=by
 have:=World.rangeAt_setCells_apart (w:=w) (b':=b) (o':=o) (cs:=[v]) (fun j u hj=>by
  match j,hj with
  | 0,hj=>obtain rfl:=ABW hj;exact h
  | j+1,hj=>cases hj) q k vs (.inl hn)
 exact this 0 v rfl
variable {c2:Nat} {A2:zo}
theorem vT {W9:World} (hb:Below w.heap.size w W9):rU w (.returned (.tuple #[.agg #[.slice A2 0 c2],.int .i64 0,.agg #[.int .i64 0,.bool false,.int .i64 0,.string ⟨#[]⟩,.int .i64 0,AP,AP,AP],.agg #[.int .i64 0,.bool false,.int .i64 0,.string ⟨#[]⟩,.int .i64 0,AP,AP,AP],.bool false])) W9 :=
 ⟨A2,c2,[],0,⟨zeroV,none,0,none,0,none,0⟩,⟨zeroV,none,0,none,0,none,0⟩,false,rfl,hb,AY.nil _ _ _ _ _,L6 _,L6 _,fun h=>by cases h⟩
theorem qD {W9:World} {s:List Aa} {T:Int} {x y:Aj} (hb:Below w.heap.size w W9) (ht:DC W9 A2 s) (hx:Ar W9 x.v x.A1 x.A2 x.A3) (hy:Ar W9 y.v y.A1 y.A2 y.A3) (ho:Mt s) (hr:0<=T/\T<(s.length:Int)) (fx:BN s T x.v=true) (fy:BN s T y.v=true):
  rU w (.returned (.tuple #[.agg #[.slice A2 s.length c2],.int .i64 T,x.v.v x.A1 x.c1 x.A2 x.c2 x.A3 x.c3,y.v.v y.A1 y.c1 y.A2 y.c2 y.A3 y.c3,.bool true])) W9 :=
 ⟨A2,c2,s,T,x,y,true,rfl,hb,ht,hx,hy,fun _=>⟨ho,hr,fx,fy⟩⟩
theorem RS {w':World} {q o:Nat} {cs:List Value} (h:w.rangeAt q o cs) (e:w'.heap[q]? = w.heap[q]?):w'.rangeAt q o cs:=fun j u hj=>by
 rw[World.cell?_of_block (w:=w) (w':=w') (a:=⟨q,o+j,none⟩) e];exact h j u hj
theorem qE {W5 W6 w7 w8:World} {s:List Aa} {T:Int} {x y:Aj} (n12:q1≠q2) (n13:q1≠q3) (n23:q2≠q3) (h1:w8.there q1 0 1) (h2:w8.there q2 0 8) (h3:w8.heap[q3]? = some zO) (hq:w.heap.size<=q1/\w.heap.size<=q2/\w.heap.size<=q3) (hq5:q1<W5.heap.size/\q2<W5.heap.size/\q3<W5.heap.size) (hb:Below w.heap.size w w8) (ht:Off (· < W5.heap.size) w8 fun u=>DC u A2 s) (hx:Off (fun q=>q<W6.drew.heap.size) w8 fun u=>Ar u x.v x.A1 x.A2 x.A3) (hy:Off (fun q=>q<w7.heap.size) w8 fun u=>Ar u y.v y.A1 y.A2 y.A3) (hz:W5.heap.size<=W6.heap.size) (hz7:W6.heap.size<=w7.heap.size) (ho:Mt s) (hr:0<=T/\T<(s.length:Int)) (fx:BN s T x.v=true) (fy:BN s T y.v=true):
  ((q8 ((w8.setCells q1 0 [.slice A2 s.length c2]).setCells q2 0 x.cells) q3 (.int .i64 y.v.kind) (.bool y.v.bool) (.int .i64 y.v.int) (.string y.v.str) (.int .i64 y.v.id) (.slice y.A1 y.v.keys.length y.c1) (.slice y.A2 y.v.items.length y.c2) (.slice y.A3 y.v.rest.length y.c3)).rangeAt q1 0 [.slice A2 s.length c2]/\(q8 ((w8.setCells q1 0 [.slice A2 s.length c2]).setCells q2 0 x.cells) q3 (.int .i64 y.v.kind) (.bool y.v.bool) (.int .i64 y.v.int) (.string y.v.str) (.int .i64 y.v.id) (.slice y.A1 y.v.keys.length y.c1) (.slice y.A2 y.v.items.length y.c2) (.slice y.A3 y.v.rest.length y.c3)).rangeAt q2 0 x.cells/\(q8 ((w8.setCells q1 0 [.slice A2 s.length c2]).setCells q2 0 x.cells) q3 (.int .i64 y.v.kind) (.bool y.v.bool) (.int .i64 y.v.int) (.string y.v.str) (.int .i64 y.v.id) (.slice y.A1 y.v.keys.length y.c1) (.slice y.A2 y.v.items.length y.c2) (.slice y.A3 y.v.rest.length y.c3)).heap[q3]? = some (y.v.box y.A1 y.c1 y.A2 y.c2 y.A3 y.c3))/\rU w (.returned (.tuple #[.agg #[.slice A2 s.length c2],.int .i64 T,x.v.v x.A1 x.c1 x.A2 x.c2 x.A3 x.c3,y.v.v y.A1 y.c1 y.A2 y.c2 y.A3 y.c3,.bool true])) (q8 ((w8.setCells q1 0 [.slice A2 s.length c2]).setCells q2 0 x.cells) q3 (.int .i64 y.v.kind) (.bool y.v.bool) (.int .i64 y.v.int) (.string y.v.str) (.int .i64 y.v.id) (.slice y.A1 y.v.keys.length y.c1) (.slice y.A2 y.v.items.length y.c2) (.slice y.A3 y.v.rest.length y.c3)):=by
 have e6:W6.drew.heap.size=W6.heap.size:=rfl;have g1:=World.rangeAt_setCells_same w8 q1 0 [.slice A2 s.length c2] h1;have g2:=World.rangeAt_setCells_same (w8.setCells q1 0 [.slice A2 s.length c2]) q2 0 x.cells (World.there_setCells h2 _ _ _);have g3:=World.rangeAt_setCells_apart g1 q2 0 x.cells (.inl n12)
 refine ⟨⟨RS g3 (GY n13 _ _ _ _ _ _ _ _),RS g2 (GY n23 _ _ _ _ _ _ _ _),Gx ((zN n23.symm _ _ _).trans ((zN n13.symm _ _ _).trans h3)) _ _ _ _ _ _ _ _⟩,qD (Bb (yC _ hq.2.1 _ _ _ (yC _ hq.1 _ _ _ hb)) hq.2.2 _ _ _ _ _ _ _ _) ?_ ?_ ?_ ho hr fx fy⟩
 ·exact (EI ((ht.setCells hq5.1 _ _).setCells hq5.2.1 _ _) hq5.2.2 _ _ _ _ _ _ _ _).O
 ·exact (EI ((hx.setCells (g:=q1) (by show q1<_;omega) _ _).setCells (g:=q2) (by show q2<_;omega) _ _) (B:=q3) (by show q3<_;omega) _ _ _ _ _ _ _ _).O
 ·exact (EI ((hy.setCells (g:=q1) (by show q1<_;omega) _ _).setCells (g:=q2) (by show q2<_;omega) _ _) (B:=q3) (by show q3<_;omega) _ _ _ _ _ _ _ _).O
theorem qF {d:List AR} {A B:zo} {c k m:Nat} {l:List Int} (hd:BG w A d) (hk:k<256) (hl:V5 w B l) (hm:l.length<=m):
  Calls prog 16 #[.agg #[.slice A d.length c,.int .u8 (k:Int),.slice B l.length m]] w (rU w):=by
 have HD:=zh hd;have HL:=zh hl;have HK:=zh hk;have hdn:=hd.1;clear hd hl
 go_enter func16,ntmps16
 go_upto_region 1 with fail
 have hb0:Below w.heap.size w ((((w.alloc (.cells #[.slice A d.length c,.int .u8 (k:Int),.slice B l.length m] 42)).alloc (.cells #[.slice none 0 0] 31)).alloc zO).alloc zO) :=
  (zI _ _ _).trans ((zI _ _ _).mono (by simp;omega))
 have hr0:((((w.alloc (.cells #[.slice A d.length c,.int .u8 (k:Int),.slice B l.length m] 42)).alloc (.cells #[.slice none 0 0] 31)).alloc zO).alloc zO).heap[w.heap.size]? = some (.cells #[.slice A d.length c,.int .u8 (k:Int),.slice B l.length m] 42) :=
  Au (Au (Au (AAA w _) (zD _ _)) (zD _ _)) (zD _ _)
 have hr1:((((w.alloc (.cells #[.slice A d.length c,.int .u8 (k:Int),.slice B l.length m] 42)).alloc (.cells #[.slice none 0 0] 31)).alloc zO).alloc zO).heap[w.heap.size+1]? = some (.cells #[.slice none 0 0] 31) :=
  Au (Au (by have:=AAA (w.alloc (.cells #[.slice A d.length c,.int .u8 (k:Int),.slice B l.length m] 42)) (.cells #[.slice none 0 0] 31);rw[show (w.alloc (.cells #[.slice A d.length c,.int .u8 (k:Int),.slice B l.length m] 42)).heap.size=w.heap.size+1 by simp] at this;exact this) (zD _ _)) (zD _ _)
 have hz:((((w.alloc (.cells #[.slice A d.length c,.int .u8 (k:Int),.slice B l.length m] 42)).alloc (.cells #[.slice none 0 0] 31)).alloc zO).alloc zO).heap.size=w.heap.size+4:=by simp
 have hr2:((((w.alloc (.cells #[.slice A d.length c,.int .u8 (k:Int),.slice B l.length m] 42)).alloc (.cells #[.slice none 0 0] 31)).alloc zO).alloc zO).heap[w.heap.size+1+1]? = some zO:=by
  refine Au ?_ (zD _ _);have:=AAA ((w.alloc (.cells #[.slice A d.length c,.int .u8 (k:Int),.slice B l.length m] 42)).alloc (.cells #[.slice none 0 0] 31)) zO;rw[show ((w.alloc (.cells #[.slice A d.length c,.int .u8 (k:Int),.slice B l.length m] 42)).alloc (.cells #[.slice none 0 0] 31)).heap.size=w.heap.size+1+1 by simp] at this
  exact this
 have hr3:((((w.alloc (.cells #[.slice A d.length c,.int .u8 (k:Int),.slice B l.length m] 42)).alloc (.cells #[.slice none 0 0] 31)).alloc zO).alloc zO).heap[w.heap.size+1+1+1]? = some zO:=by
  have:=AAA (((w.alloc (.cells #[.slice A d.length c,.int .u8 (k:Int),.slice B l.length m] 42)).alloc (.cells #[.slice none 0 0] 31)).alloc zO) zO;rw[show (((w.alloc (.cells #[.slice A d.length c,.int .u8 (k:Int),.slice B l.length m] 42)).alloc (.cells #[.slice none 0 0] 31)).alloc zO).heap.size=w.heap.size+1+1+1 by simp] at this
  exact this
 unfold zO at hb0 hr0 hr1 hr2 hr3 hz;generalize World.alloc (World.alloc (World.alloc (World.alloc w _) _) _) _=W5 at *;obtain ⟨q1,hq1⟩:∃q,w.heap.size+1=q:=⟨_,rfl⟩;obtain ⟨q2,hq2⟩:∃q,q1+1=q:=⟨_,rfl⟩;obtain ⟨q3,hq3⟩:∃q,q2+1=q:=⟨_,rfl⟩;rw[hq1] at hr1 hr2 hr3 ⊢;rw[hq2] at hr2 hr3 ⊢;rw[hq3] at hr3 ⊢
 have c0:W5.cell? ⟨w.heap.size,0,none⟩=some (.slice A d.length c):=(AAC _ _ _ _ _ _ hr0).trans rfl;have hlz:w.heap.size<W5.heap.size:=by omega
 have HB:=zh hb0;have Ob:=zh hr0;have HR1:=zh hr1;have HR2:=zh hr2;have HR3:=zh hr3;clear hb0 hr0 hr1 hr2 hr3;go_wp2_with fail;refine (vS d A c W5 (HD.O.below HB)).mono ?_;rintro e w2 ⟨A2,c2,s,ok,rfl,hty,hok,hno,hb2,hoi⟩;have HB2:=zh (HB.O.trans (hb2.mono HB.O.size));have M9:=zh (Au Ob hb2);have Il:=zh (Au HR1 hb2);have HS2:=zh (Au HR2 hb2)
 have H9:=zh (Au HR3 hb2);have EY:=zh hty;have PI:=zh hok;have PK:=zh hno;have HOI:=zh hoi;have hz2:=hb2.size;clear Ob HR1 HR2 HR3 hb2 hty hok hno hoi c0 HB;obtain ⟨⟨x0,x1,x2,x3,x4,x5,x6,x7⟩,y0,y1,y2,y3,y4,y5,y6,y7⟩:=zK HS2;obtain ⟨⟨v0,v1,v2,v3,v4,v5,v6,v7⟩,u0,u1,u2,u3,u4,u5,u6,u7⟩:=zK H9;have s0:=zb Il;have f0:=AAG _ _ 0 _ _ Il
 have d1:w2.cell? ⟨w.heap.size,1,none⟩=some (.int .u8 (k:Int)):=by rw[AAC _ _ _ _ _ _ M9.O];rfl
 have d2:w2.cell? ⟨w.heap.size,2,none⟩=some (.slice B l.length m):=by rw[AAC _ _ _ _ _ _ M9.O];rfl
 have g0:w.heap.size<w2.heap.size:=by omega
 have g1:q1<w2.heap.size:=by omega
 have g2:q2<w2.heap.size:=by omega
 have g3:q3<w2.heap.size:=by omega
 have n12:q1≠q2:=by omega
 have n13:q1≠q3:=by omega
 have n23:q2≠q3:=by omega
 have HQ:Hid (w.heap.size<=q1/\w.heap.size<=q2/\w.heap.size<=q3):=by show _/\_/\_;omega
 have NQ0:Hid (w.heap.size≠q1/\w.heap.size≠q2/\w.heap.size≠q3):=by show _/\_/\_;omega
 have HQ5:Hid (q1<W5.heap.size/\q2<W5.heap.size/\q3<W5.heap.size):=by show _/\_/\_;omega
 clear hq1 hq2 hq3
 cases ok with
 | false =>
  have hsn:s=[]:=PK.O rfl;subst hsn;clear x0 x1 x2 x3 x4 x5 x6 x7 y0 y1 y2 y3 y4 y5 y6 y7 v0 v1 v2 v3 v4 v5 v6 v7 u0 u1 u2 u3 u4 u5 u6 u7 s0 f0;have hb6:Below w2.heap.size w2 (w2.alloc (.cells #[.slice A2 0 c2] 31)):=zD _ _;have c6:(w2.alloc (.cells #[.slice A2 0 c2] 31)).cell? ⟨w2.heap.size,0,none⟩=some (.slice A2 0 c2):=by rw[AAC _ _ _ _ _ _ (AAA _ _)];rfl
  have Zz:=zh (Au Il hb6);have Zy:=zh (Au HS2 hb6);have YU:=zh (Au H9 hb6);have BH:=zh (HB2.O.trans (hb6.mono (by have:=HB2.O.size;omega)))
  have k1:=ABa g1 hb6.size;have k2:=ABa g2 hb6.size;have k3:=ABa g3 hb6.size;clear hb6 Il HS2 H9 M9 g1 g2 g3;go_upto_region 3 with fail
  simp only[List.length_nil] at *;generalize w2.alloc (.cells #[.slice A2 0 c2] 31)=W6 at *;have s0:=zb Zz;have f0:=AAG _ _ 0 _ _ Zz;obtain ⟨⟨x0,x1,x2,x3,x4,x5,x6,x7⟩,y0,y1,y2,y3,y4,y5,y6,y7⟩:=zK Zy;obtain ⟨⟨v0,v1,v2,v3,v4,v5,v6,v7⟩,u0,u1,u2,u3,u4,u5,u6,u7⟩:=zK YU
  have HG:=zh (aX Zz Zy YU n12 n13 n23 (.slice A2 0 c2) (.int .i64 0) (.bool false) (.int .i64 0) (.string ⟨#[]⟩) (.int .i64 0) AP AP AP (.int .i64 0) (.bool false) (.int .i64 0) (.string ⟨#[]⟩) (.int .i64 0) AP AP AP)
  have Ll:=zh (XM BH HQ.O.1 HQ.O.2.1 HQ.O.2.2 (.slice A2 0 c2) (.int .i64 0) (.bool false) (.int .i64 0) (.string ⟨#[]⟩) (.int .i64 0) AP AP AP (.int .i64 0) (.bool false) (.int .i64 0) (.string ⟨#[]⟩) (.int .i64 0) AP AP AP);go_wp2;clear x0 x1 x2 x3 x4 x5 x6 x7 y0 y1 y2 y3 y4 y5 y6 y7 v0 v1 v2 v3 v4 v5 v6 v7 u0 u1 u2 u3 u4 u5 u6 u7 s0 f0
  unfold Go.Proofs.YthkkllmmbefedaaGreatDoor.Un q8 q5 at HG Ll
  generalize World.setCell _ _ _=W9 at *;obtain ⟨e1,e2,e3⟩:=HG.O;have r0:=zb e1
  obtain ⟨⟨x0,x1,x2,x3,x4,x5,x6,x7⟩,_⟩:=zK e2;obtain ⟨⟨v0,v1,v2,v3,v4,v5,v6,v7⟩,_⟩:=zK e3;have UK:=zh (vT (A2:=A2) (c2:=c2) Ll)
  refine bodyPost_ret (v := .tuple #[.agg #[.slice A2 0 c2],.int .i64 0,.agg #[.int .i64 0,.bool false,.int .i64 0,.string ⟨#[]⟩,.int .i64 0,AP,AP,AP],.agg #[.int .i64 0,.bool false,.int .i64 0,.string ⟨#[]⟩,.int .i64 0,AP,AP,AP],.bool false]) ?_ rfl UK;simp[results,results16,go_sem,r0,x0,x1,x2,x3,x4,x5,x6,x7,v0,v1,v2,v3,v4,v5,v6,v7]
 | true =>
  have qi:=PI.O rfl;have fU:Hid (Mt s):=qL qi.1 qi.2.2.2.2.2.1 qi.2.2.1 qi.2.2.2.2.1 (HOI.O rfl).1;have hs1:s.length<=5:=by have:=qi.2.2.1;have:=qi.2.2.2.2.1;omega
  have hs2:0<s.length:=by have:=qi.2.2.1;have:=qi.2.2.2.1;omega
  have hs3:((s.length:Nat):Int)≠0:=by omega
  have HTO:=zh (HOI.O rfl).2;have hk0:=HK.O;clear qi PI PK HOI;go_upto_region 5 with fail
  have hb6:Below w2.heap.size w2 (w2.alloc (.cells #[.slice A2 s.length c2] 31)):=zD _ _;have hx6:(w2.alloc (.cells #[.slice A2 s.length c2] 31)).heap[w2.heap.size]? = some (.cells #[.slice A2 s.length c2] 31):=AAA _ _;have c6:(w2.alloc (.cells #[.slice A2 s.length c2] 31)).cell? ⟨w2.heap.size,0,none⟩=some (.slice A2 s.length c2):=by rw[AAC _ _ _ _ _ _ hx6];rfl
  have xS:=zh (HTO.O.low hb6);have BH:=zh (HB2.O.trans (hb6.mono (by have:=HB2.O.size;omega)))
  have Zz:=zh (Au Il hb6);have Zy:=zh (Au HS2 hb6);have YU:=zh (Au H9 hb6);have C6:=zh c6;have D6:=zh (zA hb6 d2);have HZ6:=zh hb6.size;have HZ5:=zh hz2;have E5:Hid (W5.heap.size<=(w2.alloc (.cells #[.slice A2 s.length c2] 31)).heap.size):=Nat.le_trans hz2 hb6.size
  clear hb6 hx6 c6 x0 x1 x2 x3 x4 x5 x6 x7 y0 y1 y2 y3 y4 y5 y6 y7 v0 v1 v2 v3 v4 v5 v6 v7 u0 u1 u2 u3 u4 u5 u6 u7 s0 f0 d1 d2 g0 g1 g2 g3 M9 Il HS2 H9 EY HTO;generalize w2.alloc (.cells #[.slice A2 s.length c2] 31)=W6 at *;have NQ:Hid (w2.heap.size≠q1/\w2.heap.size≠q2/\w2.heap.size≠q3):=by
   have:=HQ5.O;have:=HZ5.O
   show _/\_/\_;omega
  generalize w2.heap.size=qs at *;obtain ⟨T,hT,Ie⟩:∃T:Int,(k:Int) % (s.length:Int)=T/\Hid (0<=T/\T<(s.length:Int)):=⟨_,rfl,⟨Int.emod_nonneg _ hs3,Int.emod_lt_of_pos _ (by omega)⟩⟩
  rw[hT];clear hT hk0 hs1 hs2 hs3;refine yE (S:=(fun w'=>w'.cell? ⟨qs,0,none⟩=some (.slice A2 s.length c2)/\w'.cell? ⟨w.heap.size,2,none⟩=some (.slice B l.length m))) 15 (by kernel_rfl) ?_ (fun AQ=>?_)
  ·(try dsimp only);(have Bv:=zh (zC (Pe W6.heap.size W6) 1);exact ⟨zA Bv C6.O,zA Bv D6.O⟩)
  refine tB 0 ?_;refine tC 1 ?_;refine tB 2 ?_;refine tC 3 ?_;refine tC 4 ?_;refine tB 5 ?_;try simp only[ps]
  refine tB 7 ?_;refine tC 8 ?_;refine tC 9 ?_;refine tB 10 ?_;refine tS 6 (fun K hK=>?_)
  go_simp
  (have Bv:=zh (zC (Pe W6.heap.size W6) 1);refine (kH fU (xS.O.O.below Bv) (HL.O.below (zB BH Bv)) hm Ie).mono ?_;rintro e w7 ⟨x,rfl,tQ,Gj,hf7⟩;have WR:=zh tQ;have BF:=zh (zB Bv Gj);have eZ:=zh hf7;clear tQ Gj hf7)
  refine hK.out _ _ ?_ (fun AQ=>?_)
  ·(try dsimp only);exact ⟨zA BF C6.O,zA BF D6.O⟩
  clear hK K;refine tS 11 (fun K hK=>?_)
  go_simp
  (refine (Vf fU (xS.O.O.below BF) (HL.O.below (zB BH BF)) hm Ie).mono ?_;rintro e w8 ⟨y,rfl,BB,FU,hf8⟩;have Ig:=zh BB;have BL:=zh FU;have Ij:=zh (zB BF FU);have uP:=zh hf8;clear BB FU hf8;have Zw:=zh (uw (Au Zz Ij));have fT:=zh (Cb (Au Zy Ij));have JU:=zh (Au YU Ij))
  refine hK.out _ _ ?_ (fun AQ=>?_)
  ·(try dsimp only);exact ⟨zA Ij C6.O,zA Ij D6.O⟩
  clear hK K;try simp only[ps]
  refine tS 12 (fun K hK=>?_)
  (have Z0:=zh (And.intro (Y1 (q:=q1) (zA Ij C6.O) NQ.O.1 0 [.slice A2 s.length c2]) (Y1 (q:=q1) (zA Ij D6.O) NQ0.O.1 0 [.slice A2 s.length c2]));simp only[List.getElem_toArray,List.getElem_cons_zero,List.getElem_cons_succ];rw[AAB (by rfl)];refine wp_store_mid 31 (.tmp 2) (.tmp 28) rfl (q1) (0) (#[.slice A2 s.length c2]) (by rfl) (by rfl) ?_ ?_ ?_ ?_;(exact Zw.O);(exact Sd);(exact aR _ _ _))
  refine hK.out _ _ ?_ (fun AQ=>?_)
  ·(try dsimp only);exact Z0.O
  clear hK K;refine tC 13 ?_;refine tS 14 (fun K hK=>?_)
  (have Oc:=zh (And.intro (Y1 (q:=q2) Z0.O.1 NQ.O.2.1 0 x.cells) (Y1 (q:=q2) Z0.O.2 NQ0.O.2.1 0 x.cells));have OA:=zh ((zN n23.symm x.cells 0 (w8.setCells q1 0 [.slice A2 s.length c2])).trans ((zN n13.symm [.slice A2 s.length c2] 0 w8).trans JU));obtain ⟨⟨v0,v1,v2,v3,v4,v5,v6,v7⟩,u0,u1,u2,u3,u4,u5,u6,u7⟩:=zK OA;simp only[List.getElem_toArray,List.getElem_cons_zero,List.getElem_cons_succ];rw[AAB (by rfl)];refine wp_store_mid 28 (.tmp 4) (.tmp 34) rfl (q2) (0) (x.cells.toArray) (by rfl) (by rfl) ?_ ?_ ?_ ?_;(exact World.there_setCells fT _ _ _);(exact Bw);(exact C8 x))
  refine hK.out _ _ ?_ (fun AQ=>?_)
  ·(try dsimp only);exact Oc.O
  clear hK K;refine zV (rs:=[15]) (by kernel_rfl) (by simp) ?_
  refine AB.last rfl (by kernel_rfl) (fun K hK=>?_) AB.nil
  go_simp
  refine hK.out _ _ ?_;clear hK K
  (try clear AQ)
  refine Ue 16 ?v11 rfl (by kernel_rfl) (.inl ⟨by rfl,?y11⟩) ?_
  case y11=>(intro w;go_simp;try with_reducible rfl)
  refine wpAny_done (by kernel_rfl) ?_ _
  go_wp2
  have UK:=zh (qE (c2:=c2) n12 n13 n23 Zw fT JU HQ HQ5 (zB BH Ij) (xS.O.low Ij) (WR.O.low BL) Ig E5 BF.O.size fU Ie eZ uP);clear v0 v1 v2 v3 v4 v5 v6 v7 u0 u1 u2 u3 u4 u5 u6 u7;unfold q8 q5 at UK
  generalize World.setCell (World.setCell (World.setCell (World.setCell (World.setCell (World.setCell (World.setCell (World.setCell (World.setCells _ _ _ _) _ _) _ _) _ _) _ _) _ _) _ _) _ _) _ _=W9 at *;have r0:W9.cell? ⟨q1,0,none⟩=some (.slice A2 s.length c2):=UK.O.1.1 0 _ rfl;obtain ⟨x0,x1,x2,x3,x4,x5,x6,x7⟩:=Ji (y:=x.v) UK.O.1.2.1;obtain ⟨v0,v1,v2,v3,v4,v5,v6,v7⟩:=zF UK.O.1.2.2
  refine bodyPost_ret (v := .tuple #[.agg #[.slice A2 s.length c2],.int .i64 T,x.v.v x.A1 x.c1 x.A2 x.c2 x.A3 x.c3,y.v.v y.A1 y.c1 y.A2 y.c2 y.A3 y.c3,.bool true]) ?_ rfl UK.O.2;simp[results,results16,go_sem,r0,x0,x1,x2,x3,x4,x5,x6,x7,v0,v1,v2,v3,v4,v5,v6,v7]
