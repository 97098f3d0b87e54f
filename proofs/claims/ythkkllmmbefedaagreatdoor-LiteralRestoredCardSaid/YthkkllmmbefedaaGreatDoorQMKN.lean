/-
  Walks: sheaveref08.Of.
-/
import Derived.Test.YthkkllmmbefedaaGreatDoorQGN2
import Derived.Test.YthkkllmmbefedaaGreatDoorQPD4
namespace Go.Proofs.YthkkllmmbefedaaGreatDoor
open Go.RowKit
set_option maxHeartbeats 16000000
set_option maxRecDepth 100000
def oI (w:World) (e:Ending) (w':World):Prop :=
 ∃ (A:zo) (c:Nat) (s:List Aa) (t:Int) (x y:Aj) (ok:Bool),e = .returned (.tuple #[.agg #[.slice A s.length c],.int .i64 t,x.v.v x.A1 x.c1 x.A2 x.c2 x.A3 x.c3,y.v.v y.A1 y.c1 y.A2 y.c2 y.A3 y.c3,.bool ok])/\Below w.heap.size w w'/\C8 w' A s/\Ao w' x.v x.A1 x.A2 x.A3/\Ao w' y.v y.A1 y.A2 y.A3 /\
  (ok=true->MO s/\(0<=t/\t<(s.length:Int))/\BM s t x.v=true/\BM s t y.v=true)
abbrev Te (w:World) (q1 q2 q3:Nat) (sv:Value) (v0 v1 v2 v3 v4 v5 v6 v7 u0 u1 u2 u3 u4 u5 u6 u7:Value):World:=q8 (q8 (w.setCell ⟨q1,0,none⟩ sv) q2 v0 v1 v2 v3 v4 v5 v6 v7) q3 u0 u1 u2 u3 u4 u5 u6 u7
variable {q1 q2 q3:Nat} {w:World}
theorem Y7 {a a0 a1 a2 a3 a4 a5 a6 a7 b0 b1 b2 b3 b4 b5 b6 b7:Value} {T1 T2 T3:TypeId} (h1:w.heap[q1]? = some (.cells #[a] T1)) (h2:w.heap[q2]? = some (.cells #[a0,a1,a2,a3,a4,a5,a6,a7] T2)) (h3:w.heap[q3]? = some (.cells #[b0,b1,b2,b3,b4,b5,b6,b7] T3)) (n12:q1≠q2) (n13:q1≠q3) (n23:q2≠q3) (sv v0 v1 v2 v3 v4 v5 v6 v7 u0 u1 u2 u3 u4 u5 u6 u7:Value):
  (Te w q1 q2 q3 sv v0 v1 v2 v3 v4 v5 v6 v7 u0 u1 u2 u3 u4 u5 u6 u7).heap[q1]? = some (.cells #[sv] T1)/\(Te w q1 q2 q3 sv v0 v1 v2 v3 v4 v5 v6 v7 u0 u1 u2 u3 u4 u5 u6 u7).heap[q2]? = some (.cells #[v0,v1,v2,v3,v4,v5,v6,v7] T2)/\(Te w q1 q2 q3 sv v0 v1 v2 v3 v4 v5 v6 v7 u0 u1 u2 u3 u4 u5 u6 u7).heap[q3]? = some (.cells #[u0,u1,u2,u3,u4,u5,u6,u7] T3):=by
 have g1:=AAW _ _ 0 _ _ sv h1;simp only[ABV,List.set_cons_zero] at g1;refine ⟨?_,?_,?_⟩
 ·unfold Te;rw[F7 n13,F7 n12];exact g1
 ·unfold Te;rw[F7 n23];exact Gr ((AAO _ _ _ _ n12.symm).trans h2) _ _ _ _ _ _ _ _
 ·unfold Te;exact Gr ((F7 n23.symm _ _ _ _ _ _ _ _).trans ((AAO _ _ _ _ n13.symm).trans h3)) _ _ _ _ _ _ _ _
theorem Vn {B:Nat} {w':World} (h:Below B w w') (h1:B<=q1) (h2:B<=q2) (h3:B<=q3) (sv v0 v1 v2 v3 v4 v5 v6 v7 u0 u1 u2 u3 u4 u5 u6 u7:Value):Below B w (Te w' q1 q2 q3 sv v0 v1 v2 v3 v4 v5 v6 v7 u0 u1 u2 u3 u4 u5 u6 u7) :=
 Bo (Bo (h.setCell (p:=⟨q1,0,none⟩) h1 sv) h2 _ _ _ _ _ _ _ _) h3 _ _ _ _ _ _ _ _
theorem qc {b:Nat} {a:Value} {T:TypeId} (h:w.heap[b]? = some (.cells #[a] T (0,0))):w.there b 0 1:=fun j hj=>by
 obtain rfl:j=0:=by omega
 exact ⟨by rw[AAN _ _ _ _ _ _ h];rfl,AAR _ _ _ _ _ h⟩
theorem Rh:(Tryz.prog.info? 31).map (·.size)=some 1:=by kernel_rfl
theorem Y0 (A:zo) (n c:Nat):(#[Value.slice A n c]).all (·.oneCell')=true:=by simp[Value.oneCell']
theorem Xg {b o q:Nat} {v:Value} (h:w.cell? ⟨b,o,none⟩=some v) (hn:b≠q) (k:Nat) (vs:List Value):(w.setCells q k vs).cell? ⟨b,o,none⟩=some v:=by
 have:=World.rangeAt_setCells_apart (w:=w) (b':=b) (o':=o) (cs:=[v]) (fun j u hj=>by
  match j,hj with
  | 0,hj=>obtain rfl:=AAh hj;exact h
  | j+1,hj=>cases hj) q k vs (.inl hn)
 exact this 0 v rfl
variable {c2:Nat} {A2:zo}
theorem rC {W9:World} (hb:Below w.heap.size w W9):oI w (.returned (.tuple #[.agg #[.slice A2 0 c2],.int .i64 0,.agg #[.int .i64 0,.bool false,.int .i64 0,.string ⟨#[]⟩,.int .i64 0,AP,AP,AP],.agg #[.int .i64 0,.bool false,.int .i64 0,.string ⟨#[]⟩,.int .i64 0,AP,AP,AP],.bool false])) W9 :=
 ⟨A2,c2,[],0,⟨zeroV,none,0,none,0,none,0⟩,⟨zeroV,none,0,none,0,none,0⟩,false,rfl,hb,Ac.nil _ _ _ _ _,OG _,OG _,fun h=>by cases h⟩
theorem mO {W9:World} {s:List Aa} {T:Int} {x y:Aj} (hb:Below w.heap.size w W9) (ht:C8 W9 A2 s) (hx:Ao W9 x.v x.A1 x.A2 x.A3) (hy:Ao W9 y.v y.A1 y.A2 y.A3) (ho:MO s) (hr:0<=T/\T<(s.length:Int)) (fx:BM s T x.v=true) (fy:BM s T y.v=true):
  oI w (.returned (.tuple #[.agg #[.slice A2 s.length c2],.int .i64 T,x.v.v x.A1 x.c1 x.A2 x.c2 x.A3 x.c3,y.v.v y.A1 y.c1 y.A2 y.c2 y.A3 y.c3,.bool true])) W9 :=
 ⟨A2,c2,s,T,x,y,true,rfl,hb,ht,hx,hy,fun _=>⟨ho,hr,fx,fy⟩⟩
theorem Qg {w':World} {q o:Nat} {cs:List Value} (h:w.rangeAt q o cs) (e:w'.heap[q]? = w.heap[q]?):w'.rangeAt q o cs:=fun j u hj=>by
 rw[World.cell?_of_block (w:=w) (w':=w') (a:=⟨q,o+j,none⟩) e];exact h j u hj
theorem mP {W5 W6 w7 w8:World} {s:List Aa} {T:Int} {x y:Aj} (n12:q1≠q2) (n13:q1≠q3) (n23:q2≠q3) (h1:w8.there q1 0 1) (h2:w8.there q2 0 8) (h3:w8.heap[q3]? = some zO) (hq:w.heap.size<=q1/\w.heap.size<=q2/\w.heap.size<=q3) (hq5:q1<W5.heap.size/\q2<W5.heap.size/\q3<W5.heap.size) (hb:Below w.heap.size w w8) (ht:Off (· < W5.heap.size) w8 fun u=>C8 u A2 s) (hx:Off (fun q=>q<W6.drew.heap.size) w8 fun u=>Ao u x.v x.A1 x.A2 x.A3) (hy:Off (fun q=>q<w7.heap.size) w8 fun u=>Ao u y.v y.A1 y.A2 y.A3) (hz:W5.heap.size<=W6.heap.size) (hz7:W6.heap.size<=w7.heap.size) (ho:MO s) (hr:0<=T/\T<(s.length:Int)) (fx:BM s T x.v=true) (fy:BM s T y.v=true):
  ((q8 ((w8.setCells q1 0 [.slice A2 s.length c2]).setCells q2 0 x.cells) q3 (.int .i64 y.v.kind) (.bool y.v.bool) (.int .i64 y.v.int) (.string y.v.str) (.int .i64 y.v.id) (.slice y.A1 y.v.keys.length y.c1) (.slice y.A2 y.v.items.length y.c2) (.slice y.A3 y.v.rest.length y.c3)).rangeAt q1 0 [.slice A2 s.length c2]/\(q8 ((w8.setCells q1 0 [.slice A2 s.length c2]).setCells q2 0 x.cells) q3 (.int .i64 y.v.kind) (.bool y.v.bool) (.int .i64 y.v.int) (.string y.v.str) (.int .i64 y.v.id) (.slice y.A1 y.v.keys.length y.c1) (.slice y.A2 y.v.items.length y.c2) (.slice y.A3 y.v.rest.length y.c3)).rangeAt q2 0 x.cells/\(q8 ((w8.setCells q1 0 [.slice A2 s.length c2]).setCells q2 0 x.cells) q3 (.int .i64 y.v.kind) (.bool y.v.bool) (.int .i64 y.v.int) (.string y.v.str) (.int .i64 y.v.id) (.slice y.A1 y.v.keys.length y.c1) (.slice y.A2 y.v.items.length y.c2) (.slice y.A3 y.v.rest.length y.c3)).heap[q3]? = some (y.v.box y.A1 y.c1 y.A2 y.c2 y.A3 y.c3))/\oI w (.returned (.tuple #[.agg #[.slice A2 s.length c2],.int .i64 T,x.v.v x.A1 x.c1 x.A2 x.c2 x.A3 x.c3,y.v.v y.A1 y.c1 y.A2 y.c2 y.A3 y.c3,.bool true])) (q8 ((w8.setCells q1 0 [.slice A2 s.length c2]).setCells q2 0 x.cells) q3 (.int .i64 y.v.kind) (.bool y.v.bool) (.int .i64 y.v.int) (.string y.v.str) (.int .i64 y.v.id) (.slice y.A1 y.v.keys.length y.c1) (.slice y.A2 y.v.items.length y.c2) (.slice y.A3 y.v.rest.length y.c3)):=by
 have e6:W6.drew.heap.size=W6.heap.size:=rfl;have g1:=World.rangeAt_setCells_same w8 q1 0 [.slice A2 s.length c2] h1;have g2:=World.rangeAt_setCells_same (w8.setCells q1 0 [.slice A2 s.length c2]) q2 0 x.cells (World.there_setCells h2 _ _ _);have g3:=World.rangeAt_setCells_apart g1 q2 0 x.cells (.inl n12)
 refine ⟨⟨Qg g3 (F7 n13 _ _ _ _ _ _ _ _),Qg g2 (F7 n23 _ _ _ _ _ _ _ _),Gr ((zN n23.symm _ _ _).trans ((zN n13.symm _ _ _).trans h3)) _ _ _ _ _ _ _ _⟩,mO (Bo (yC _ hq.2.1 _ _ _ (yC _ hq.1 _ _ _ hb)) hq.2.2 _ _ _ _ _ _ _ _) ?_ ?_ ?_ ho hr fx fy⟩
 ·exact (EU ((ht.setCells hq5.1 _ _).setCells hq5.2.1 _ _) hq5.2.2 _ _ _ _ _ _ _ _).out
 ·exact (EU ((hx.setCells (g:=q1) (by show q1<_;omega) _ _).setCells (g:=q2) (by show q2<_;omega) _ _) (B:=q3) (by show q3<_;omega) _ _ _ _ _ _ _ _).out
 ·exact (EU ((hy.setCells (g:=q1) (by show q1<_;omega) _ _).setCells (g:=q2) (by show q2<_;omega) _ _) (B:=q3) (by show q3<_;omega) _ _ _ _ _ _ _ _).out
theorem mQ {d:List AR} {A B:zo} {c k m:Nat} {l:List Int} (hd:BD w A d) (hk:k<256) (hl:Uv w B l) (hm:l.length<=m):
  Calls Tryz.prog 16 #[.agg #[.slice A d.length c,.int .u8 (k:Int),.slice B l.length m]] w (oI w):=by
 have HD:=zh hd;have HL:=zh hl;have HK:=zh hk;have hdn:=hd.1;clear hd hl
 go_enter Tryz.func16,Tryz.ntmps16
 go_upto_region 1 with fail
 have hb0:Below w.heap.size w ((((w.alloc (.cells #[.slice A d.length c,.int .u8 (k:Int),.slice B l.length m] 42)).alloc (.cells #[.slice none 0 0] 31)).alloc zO).alloc zO) :=
  (zI _ _ _).trans ((zI _ _ _).mono (by simp;omega))
 have hr0:((((w.alloc (.cells #[.slice A d.length c,.int .u8 (k:Int),.slice B l.length m] 42)).alloc (.cells #[.slice none 0 0] 31)).alloc zO).alloc zO).heap[w.heap.size]? = some (.cells #[.slice A d.length c,.int .u8 (k:Int),.slice B l.length m] 42) :=
  Aw (Aw (Aw (AAL w _) (zD _ _)) (zD _ _)) (zD _ _)
 have hr1:((((w.alloc (.cells #[.slice A d.length c,.int .u8 (k:Int),.slice B l.length m] 42)).alloc (.cells #[.slice none 0 0] 31)).alloc zO).alloc zO).heap[w.heap.size+1]? = some (.cells #[.slice none 0 0] 31) :=
  Aw (Aw (by have:=AAL (w.alloc (.cells #[.slice A d.length c,.int .u8 (k:Int),.slice B l.length m] 42)) (.cells #[.slice none 0 0] 31);rw[show (w.alloc (.cells #[.slice A d.length c,.int .u8 (k:Int),.slice B l.length m] 42)).heap.size=w.heap.size+1 by simp] at this;exact this) (zD _ _)) (zD _ _)
 have hz:((((w.alloc (.cells #[.slice A d.length c,.int .u8 (k:Int),.slice B l.length m] 42)).alloc (.cells #[.slice none 0 0] 31)).alloc zO).alloc zO).heap.size=w.heap.size+4:=by simp
 have hr2:((((w.alloc (.cells #[.slice A d.length c,.int .u8 (k:Int),.slice B l.length m] 42)).alloc (.cells #[.slice none 0 0] 31)).alloc zO).alloc zO).heap[w.heap.size+1+1]? = some zO:=by
  refine Aw ?_ (zD _ _);have:=AAL ((w.alloc (.cells #[.slice A d.length c,.int .u8 (k:Int),.slice B l.length m] 42)).alloc (.cells #[.slice none 0 0] 31)) zO;rw[show ((w.alloc (.cells #[.slice A d.length c,.int .u8 (k:Int),.slice B l.length m] 42)).alloc (.cells #[.slice none 0 0] 31)).heap.size=w.heap.size+1+1 by simp] at this
  exact this
 have hr3:((((w.alloc (.cells #[.slice A d.length c,.int .u8 (k:Int),.slice B l.length m] 42)).alloc (.cells #[.slice none 0 0] 31)).alloc zO).alloc zO).heap[w.heap.size+1+1+1]? = some zO:=by
  have:=AAL (((w.alloc (.cells #[.slice A d.length c,.int .u8 (k:Int),.slice B l.length m] 42)).alloc (.cells #[.slice none 0 0] 31)).alloc zO) zO;rw[show (((w.alloc (.cells #[.slice A d.length c,.int .u8 (k:Int),.slice B l.length m] 42)).alloc (.cells #[.slice none 0 0] 31)).alloc zO).heap.size=w.heap.size+1+1+1 by simp] at this
  exact this
 unfold zO at hb0 hr0 hr1 hr2 hr3 hz;generalize World.alloc (World.alloc (World.alloc (World.alloc w _) _) _) _=W5 at *;obtain ⟨q1,hq1⟩:∃q,w.heap.size+1=q:=⟨_,rfl⟩;obtain ⟨q2,hq2⟩:∃q,q1+1=q:=⟨_,rfl⟩;obtain ⟨q3,hq3⟩:∃q,q2+1=q:=⟨_,rfl⟩;rw[hq1] at hr1 hr2 hr3 ⊢;rw[hq2] at hr2 hr3 ⊢;rw[hq3] at hr3 ⊢;have c0:W5.cell? ⟨w.heap.size,0,none⟩=some (.slice A d.length c):=(AAN _ _ _ _ _ _ hr0).trans rfl;have hlz:w.heap.size<W5.heap.size:=by omega
 have HB:=zh hb0;have MW:=zh hr0;have HR1:=zh hr1;have HR2:=zh hr2;have HR3:=zh hr3;clear hb0 hr0 hr1 hr2 hr3;go_wp2_with fail;refine (rA d A c W5 (HD.out.below HB)).mono ?_;rintro e w2 ⟨A2,c2,s,ok,rfl,hty,hok,hno,hb2,hoi⟩;have HB2:=zh (HB.out.trans (hb2.mono HB.out.size));have RJ:=zh (Aw MW hb2);have IA:=zh (Aw HR1 hb2);have HS2:=zh (Aw HR2 hb2)
 have Gx:=zh (Aw HR3 hb2);have Ed:=zh hty;have OE:=zh hok;have OY:=zh hno;have yh:=zh hoi;have hz2:=hb2.size;clear MW HR1 HR2 HR3 hb2 hty hok hno hoi c0 HB;obtain ⟨⟨x0,x1,x2,x3,x4,x5,x6,x7⟩,y0,y1,y2,y3,y4,y5,y6,y7⟩:=zK HS2;obtain ⟨⟨v0,v1,v2,v3,v4,v5,v6,v7⟩,u0,u1,u2,u3,u4,u5,u6,u7⟩:=zK Gx;have s0:=zb IA;have f0:=AAR _ _ 0 _ _ IA
 have d1:w2.cell? ⟨w.heap.size,1,none⟩=some (.int .u8 (k:Int)):=by rw[AAN _ _ _ _ _ _ RJ.out];rfl
 have d2:w2.cell? ⟨w.heap.size,2,none⟩=some (.slice B l.length m):=by rw[AAN _ _ _ _ _ _ RJ.out];rfl
 have g0:w.heap.size<w2.heap.size:=by omega
 have g1:q1<w2.heap.size:=by omega
 have g2:q2<w2.heap.size:=by omega
 have g3:q3<w2.heap.size:=by omega
 have n12:q1≠q2:=by omega
 have n13:q1≠q3:=by omega
 have n23:q2≠q3:=by omega
 have HQ:Hid (w.heap.size<=q1/\w.heap.size<=q2/\w.heap.size<=q3):=by show _/\_/\_;omega
 have NQ0:Hid (w.heap.size≠q1/\w.heap.size≠q2/\w.heap.size≠q3):=by show _/\_/\_;omega
 have vN:Hid (q1<W5.heap.size/\q2<W5.heap.size/\q3<W5.heap.size):=by show _/\_/\_;omega
 clear hq1 hq2 hq3
 cases ok with
 | false =>
  have hsn:s=[]:=OY.out rfl;subst hsn;clear x0 x1 x2 x3 x4 x5 x6 x7 y0 y1 y2 y3 y4 y5 y6 y7 v0 v1 v2 v3 v4 v5 v6 v7 u0 u1 u2 u3 u4 u5 u6 u7 s0 f0;have hb6:Below w2.heap.size w2 (w2.alloc (.cells #[.slice A2 0 c2] 31)):=zD _ _;have c6:(w2.alloc (.cells #[.slice A2 0 c2] 31)).cell? ⟨w2.heap.size,0,none⟩=some (.slice A2 0 c2):=by rw[AAN _ _ _ _ _ _ (AAL _ _)];rfl
  have Yb:=zh (Aw IA hb6);have Ya:=zh (Aw HS2 hb6);have XD:=zh (Aw Gx hb6);have BH:=zh (HB2.out.trans (hb6.mono (by have:=HB2.out.size;omega)))
  have k1:=AA2 g1 hb6.size;have k2:=AA2 g2 hb6.size;have k3:=AA2 g3 hb6.size;clear hb6 IA HS2 Gx RJ g1 g2 g3;go_upto_region 3 with fail
  simp only[List.length_nil] at *;generalize w2.alloc (.cells #[.slice A2 0 c2] 31)=W6 at *;have s0:=zb Yb;have f0:=AAR _ _ 0 _ _ Yb;obtain ⟨⟨x0,x1,x2,x3,x4,x5,x6,x7⟩,y0,y1,y2,y3,y4,y5,y6,y7⟩:=zK Ya;obtain ⟨⟨v0,v1,v2,v3,v4,v5,v6,v7⟩,u0,u1,u2,u3,u4,u5,u6,u7⟩:=zK XD
  have HG:=zh (Y7 Yb Ya XD n12 n13 n23 (.slice A2 0 c2) (.int .i64 0) (.bool false) (.int .i64 0) (.string ⟨#[]⟩) (.int .i64 0) AP AP AP (.int .i64 0) (.bool false) (.int .i64 0) (.string ⟨#[]⟩) (.int .i64 0) AP AP AP)
  have LC:=zh (Vn BH HQ.out.1 HQ.out.2.1 HQ.out.2.2 (.slice A2 0 c2) (.int .i64 0) (.bool false) (.int .i64 0) (.string ⟨#[]⟩) (.int .i64 0) AP AP AP (.int .i64 0) (.bool false) (.int .i64 0) (.string ⟨#[]⟩) (.int .i64 0) AP AP AP);go_wp2;clear x0 x1 x2 x3 x4 x5 x6 x7 y0 y1 y2 y3 y4 y5 y6 y7 v0 v1 v2 v3 v4 v5 v6 v7 u0 u1 u2 u3 u4 u5 u6 u7 s0 f0
  unfold Go.Proofs.YthkkllmmbefedaaGreatDoor.Te q8 q5 at HG LC
  generalize World.setCell _ _ _=W9 at *;obtain ⟨e1,e2,e3⟩:=HG.out;have r0:=zb e1
  obtain ⟨⟨x0,x1,x2,x3,x4,x5,x6,x7⟩,_⟩:=zK e2;obtain ⟨⟨v0,v1,v2,v3,v4,v5,v6,v7⟩,_⟩:=zK e3;have kD:=zh (rC (A2:=A2) (c2:=c2) LC)
  refine bodyPost_ret (v := .tuple #[.agg #[.slice A2 0 c2],.int .i64 0,.agg #[.int .i64 0,.bool false,.int .i64 0,.string ⟨#[]⟩,.int .i64 0,AP,AP,AP],.agg #[.int .i64 0,.bool false,.int .i64 0,.string ⟨#[]⟩,.int .i64 0,AP,AP,AP],.bool false]) ?_ rfl kD;simp[results,Tryz.results16,go_sem,r0,x0,x1,x2,x3,x4,x5,x6,x7,v0,v1,v2,v3,v4,v5,v6,v7]
 | true =>
  have nO:=OE.out rfl;have Yc:Hid (MO s):=mW nO.1 nO.2.2.2.2.2.1 nO.2.2.1 nO.2.2.2.2.1 (yh.out rfl).1;have hs1:s.length<=5:=by have:=nO.2.2.1;have:=nO.2.2.2.2.1;omega
  have hs2:0<s.length:=by have:=nO.2.2.1;have:=nO.2.2.2.1;omega
  have hs3:((s.length:Nat):Int)≠0:=by omega
  have HTO:=zh (yh.out rfl).2;have hk0:=HK.out;clear nO OE OY yh;go_upto_region 5 with fail
  have hb6:Below w2.heap.size w2 (w2.alloc (.cells #[.slice A2 s.length c2] 31)):=zD _ _;have hx6:(w2.alloc (.cells #[.slice A2 s.length c2] 31)).heap[w2.heap.size]? = some (.cells #[.slice A2 s.length c2] 31):=AAL _ _;have c6:(w2.alloc (.cells #[.slice A2 s.length c2] 31)).cell? ⟨w2.heap.size,0,none⟩=some (.slice A2 s.length c2):=by rw[AAN _ _ _ _ _ _ hx6];rfl
  have uE:=zh (HTO.out.low hb6);have BH:=zh (HB2.out.trans (hb6.mono (by have:=HB2.out.size;omega)))
  have Yb:=zh (Aw IA hb6);have Ya:=zh (Aw HS2 hb6);have XD:=zh (Aw Gx hb6);have C6:=zh c6;have D6:=zh (zA hb6 d2);have HZ6:=zh hb6.size;have HZ5:=zh hz2;have Ee:Hid (W5.heap.size<=(w2.alloc (.cells #[.slice A2 s.length c2] 31)).heap.size):=Nat.le_trans hz2 hb6.size
  clear hb6 hx6 c6 x0 x1 x2 x3 x4 x5 x6 x7 y0 y1 y2 y3 y4 y5 y6 y7 v0 v1 v2 v3 v4 v5 v6 v7 u0 u1 u2 u3 u4 u5 u6 u7 s0 f0 d1 d2 g0 g1 g2 g3 RJ IA HS2 Gx Ed HTO;generalize w2.alloc (.cells #[.slice A2 s.length c2] 31)=W6 at *;have NQ:Hid (w2.heap.size≠q1/\w2.heap.size≠q2/\w2.heap.size≠q3):=by
   have:=vN.out;have:=HZ5.out
   show _/\_/\_;omega
  generalize w2.heap.size=qs at *;obtain ⟨T,hT,Hz⟩:∃T:Int,(k:Int) % (s.length:Int)=T/\Hid (0<=T/\T<(s.length:Int)):=⟨_,rfl,⟨Int.emod_nonneg _ hs3,Int.emod_lt_of_pos _ (by omega)⟩⟩
  rw[hT];clear hT hk0 hs1 hs2 hs3;refine yE (S:=(fun w'=>w'.cell? ⟨qs,0,none⟩=some (.slice A2 s.length c2)/\w'.cell? ⟨w.heap.size,2,none⟩=some (.slice B l.length m))) 15 (by kernel_rfl) ?_ (fun AQ=>?_)
  ·(try dsimp only);(have Ca:=zh (zC (Pe W6.heap.size W6) 1);exact ⟨zA Ca C6.out,zA Ca D6.out⟩)
  refine tB 0 ?_;refine tC 1 ?_;refine tB 2 ?_;refine tC 3 ?_;refine tC 4 ?_;refine tB 5 ?_;try simp only[ps]
  refine tB 7 ?_;refine tC 8 ?_;refine tC 9 ?_;refine tB 10 ?_;refine tS 6 (fun K hK=>?_)
  go_simp
  (have Ca:=zh (zC (Pe W6.heap.size W6) 1);refine (gD Yc (uE.out.out.below Ca) (HL.out.below (zB BH Ca)) hm Hz).mono ?_;rintro e w7 ⟨x,rfl,ho7,F4,hf7⟩;have aR:=zh ho7;have BK:=zh (zB Ca F4);have aX:=zh hf7;clear ho7 F4 hf7)
  refine hK.out _ _ ?_ (fun AQ=>?_)
  ·(try dsimp only);exact ⟨zA BK C6.out,zA BK D6.out⟩
  clear hK K;refine tS 11 (fun K hK=>?_)
  go_simp
  (refine (Ub Yc (uE.out.out.below BK) (HL.out.below (zB BH BK)) hm Hz).mono ?_;rintro e w8 ⟨y,rfl,BI,EM,hf8⟩;have Ia:=zh BI;have BS:=zh EM;have Pw:=zh (zB BK EM);have qJ:=zh hf8;clear BI EM hf8;have p9:=zh (qc (Aw Yb Pw));have uP:=zh (En (Aw Ya Pw));have I5:=zh (Aw XD Pw))
  refine hK.out _ _ ?_ (fun AQ=>?_)
  ·(try dsimp only);exact ⟨zA Pw C6.out,zA Pw D6.out⟩
  clear hK K;try simp only[ps]
  refine tS 12 (fun K hK=>?_)
  (have Yd:=zh (And.intro (Xg (q:=q1) (zA Pw C6.out) NQ.out.1 0 [.slice A2 s.length c2]) (Xg (q:=q1) (zA Pw D6.out) NQ0.out.1 0 [.slice A2 s.length c2]));simp only[List.getElem_toArray,List.getElem_cons_zero,List.getElem_cons_succ];rw[AAH (by rfl)];refine wp_store_mid 31 (.tmp 2) (.tmp 28) rfl (q1) (0) (#[.slice A2 s.length c2]) (by rfl) (by rfl) ?_ ?_ ?_ ?_;(exact p9.out);(exact Rh);(exact Y0 _ _ _))
  refine hK.out _ _ ?_ (fun AQ=>?_)
  ·(try dsimp only);exact Yd.out
  clear hK K;refine tC 13 ?_;refine tS 14 (fun K hK=>?_)
  (have VB:=zh (And.intro (Xg (q:=q2) Yd.out.1 NQ.out.2.1 0 x.cells) (Xg (q:=q2) Yd.out.2 NQ0.out.2.1 0 x.cells));have NN:=zh ((zN n23.symm x.cells 0 (w8.setCells q1 0 [.slice A2 s.length c2])).trans ((zN n13.symm [.slice A2 s.length c2] 0 w8).trans I5));obtain ⟨⟨v0,v1,v2,v3,v4,v5,v6,v7⟩,u0,u1,u2,u3,u4,u5,u6,u7⟩:=zK NN;simp only[List.getElem_toArray,List.getElem_cons_zero,List.getElem_cons_succ];rw[AAH (by rfl)];refine wp_store_mid 28 (.tmp 4) (.tmp 34) rfl (q2) (0) (x.cells.toArray) (by rfl) (by rfl) ?_ ?_ ?_ ?_;(exact World.there_setCells uP _ _ _);(exact Cn);(exact EO x))
  refine hK.out _ _ ?_ (fun AQ=>?_)
  ·(try dsimp only);exact VB.out
  clear hK K;refine zV (rs:=[15]) (by kernel_rfl) (by simp) ?_
  refine AB.last rfl (by kernel_rfl) (fun K hK=>?_) AB.nil
  go_simp
  refine hK.out _ _ ?_;clear hK K
  (try clear AQ)
  refine TR 16 ?v11 rfl (by kernel_rfl) (.inl ⟨by rfl,?y11⟩) ?_
  case y11=>(intro w;go_simp;try with_reducible rfl)
  refine wpAny_done (by kernel_rfl) ?_ _
  go_wp2
  have kD:=zh (mP (c2:=c2) n12 n13 n23 p9 uP I5 HQ vN (zB BH Pw) (uE.out.low Pw) (aR.out.low BS) Ia Ee BK.out.size Yc Hz aX qJ);clear v0 v1 v2 v3 v4 v5 v6 v7 u0 u1 u2 u3 u4 u5 u6 u7;unfold q8 q5 at kD
  generalize World.setCell (World.setCell (World.setCell (World.setCell (World.setCell (World.setCell (World.setCell (World.setCell (World.setCells _ _ _ _) _ _) _ _) _ _) _ _) _ _) _ _) _ _) _ _=W9 at *;have r0:W9.cell? ⟨q1,0,none⟩=some (.slice A2 s.length c2):=kD.out.1.1 0 _ rfl;obtain ⟨x0,x1,x2,x3,x4,x5,x6,x7⟩:=Kr (y:=x.v) kD.out.1.2.1;obtain ⟨v0,v1,v2,v3,v4,v5,v6,v7⟩:=zF kD.out.1.2.2
  refine bodyPost_ret (v := .tuple #[.agg #[.slice A2 s.length c2],.int .i64 T,x.v.v x.A1 x.c1 x.A2 x.c2 x.A3 x.c3,y.v.v y.A1 y.c1 y.A2 y.c2 y.A3 y.c3,.bool true]) ?_ rfl kD.out.2;simp[results,Tryz.results16,go_sem,r0,x0,x1,x2,x3,x4,x5,x6,x7,v0,v1,v2,v3,v4,v5,v6,v7]
end Go.Proofs.YthkkllmmbefedaaGreatDoor



