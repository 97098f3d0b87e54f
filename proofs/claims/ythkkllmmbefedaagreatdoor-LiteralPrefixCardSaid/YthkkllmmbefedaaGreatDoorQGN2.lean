/-
  Walks: Make and Foreign.
-/
import Derived.Test.YthkkllmmbefedaaGreatDoorQMK8A
import Derived.Test.YthkkllmmbefedaaGreatDoorQMK8B
import Derived.Test.YthkkllmmbefedaaGreatDoorQMK8C
import Derived.Test.YthkkllmmbefedaaGreatDoorQMK8D
namespace Go.Proofs.YthkkllmmbefedaaGreatDoor
open Go.Proofs.Tryz
set_option maxHeartbeats 16000000
set_option maxRecDepth 100000
theorem TK {C:WI} (ho:Mt C.s) {n:Nat} (ih:Lf C n):Lf C (n+1):=fun t W l hn hr h=>by
 have hk:=Fh ho.v hr;have hk2:((AO C.s t).kind=1\/(AO C.s t).kind=2\/(AO C.s t).kind=3\/(AO C.s t).kind=4\/(AO C.s t).kind=7\/(AO C.s t).kind=9)\/((AO C.s t).kind=5)\/((AO C.s t).kind=6)\/((AO C.s t).kind=8):=by omega
 rcases hk2 with e|e|e|e
 ·exact bN ho ih t W l hn hr h e
 ·exact bM ho ih t W l hn hr h e
 ·exact bL ho ih t W l hn hr h e
 ·exact bK ho ih t W l hn hr h e
theorem Q5 {C:WI} (ho:Mt C.s) (n:Nat):Lf C n:=by
 induction n with
 | zero=>exact fun t W l hn=>absurd hn (Nat.not_lt_zero _)
 | succ n ih=>exact TK ho ih
open Go.RowKit
def R6 (s:List Aa) (t:Int) (w:World) (e:Ending) (w':World):Prop :=
 ∃v:Aj,e = .returned (v.v.v v.A1 v.c1 v.A2 v.c2 v.A3 v.c3)/\Off (fun q=>q<w.heap.size) w' (fun u=>Ar u v.v v.A1 v.A2 v.A3)/\Below w.heap.size w w'/\BN s t v.v=true
variable {l:List Int} {w:World} {B:zo}
theorem Ym (h:V5 w B l) (n:Nat):V5 w B (l.take n):=by
 refine ⟨by have:=h.1;unfold EF at this ⊢;rw[List.length_take];omega,fun hn=>?_⟩
 obtain ⟨b,o,e,hin⟩:=h.2 (fun e=>hn (by rw[e,List.take_nil]))
 exact ⟨b,o,e,fun i y hy=>hin i y (by rw[List.getElem?_take] at hy;split at hy;exact hy;cases hy)⟩
theorem kH {s:List Aa} (ho:Mt s) {A:zo} {c d:Nat} (hs:DC w A s) (hl:V5 w B l) (hd:l.length<=d) {t:Int} (ht:0<=t/\t<(s.length:Int)):
  Calls prog 47 #[.agg #[.slice A s.length c],.int .i64 t,.slice B l.length d] w (R6 s t w):=by
 have HO:=zh ho;have HS:=zh hs;have HL:=zh hl;have HT:=zh ht;have hlm:l.length<=140737488355328:=by have:=hl.1;unfold EF at this;omega
 clear ho hs hl ht
 go_enter func47,ntmps47
 go_upto_region 1 with fail
 have c0:((w.alloc (.cells #[.slice A s.length c] 31)).alloc zO).cell? ⟨w.heap.size,0,none⟩=some (.slice A s.length c):=by go_simp
 obtain ⟨W2,hW2⟩:∃W2,(w.alloc (.cells #[.slice A s.length c] 31)).alloc zO=W2:=⟨_,rfl⟩;have hz:=zL c0;unfold zO at hW2 c0 hz;rw[hW2] at c0 hz ⊢;have hb0:Below w.heap.size w W2:=by
  rw[<-hW2];exact zI _ _ _
 have hz2:W2.heap.size=w.heap.size+2:=by rw[<-hW2];simp
 have hr0:W2.heap[w.heap.size+1]? = some (.cells #[.int .i64 0,.bool false,.int .i64 0,.string ⟨#[]⟩,.int .i64 0,.slice none 0 0,.slice none 0 0,.slice none 0 0] 28 (0,0)):=by
  rw[<-hW2];have:=AAA (w.alloc (.cells #[.slice A s.length c] 31)) (.cells #[.int .i64 0,.bool false,.int .i64 0,.string ⟨#[]⟩,.int .i64 0,.slice none 0 0,.slice none 0 0,.slice none 0 0] 28);rw[show (w.alloc (.cells #[.slice A s.length c] 31)).heap.size=w.heap.size+1 by simp] at this
  exact this
 clear hW2
 go_region
 have hmn:(min (60:Int) (l.length:Int)).toNat=(l.take 60).length:=by rw[List.length_take];omega
 rw[hmn];obtain ⟨W3,hW3⟩:∃W3,(W2.alloc (.cells #[.slice A s.length c,.slice B (l.take 60).length d,.bool false] 132)).drew=W3:=⟨_,rfl⟩;have hrm:W3.heap[W2.heap.size]? = some (.cells #[.slice A s.length c,.slice B (l.take 60).length d,.bool false] 132 (0,0)):=by
  rw[<-hW3];exact AAA W2 _
 have hb3:Below W2.heap.size W2 W3:=by
  rw[<-hW3];exact zC (zD W2 (.cells #[.slice A s.length c,.slice B (l.take 60).length d,.bool false] 132)) 1
 have eP:Hid (Ik ⟨w,s,A,c,w.heap.size+2,false⟩ W3 (l.take 60)):=by
  rw[hz2] at hrm;exact ⟨HS.O,by rw[List.length_take];omega,by show w.heap.size<=w.heap.size+2;omega,hb0.trans (hb3.mono (by omega)),B,d,⟨Ym HL 60,by rw[List.length_take];omega⟩,hrm⟩
 have Ob:=zh ((hb3.block _ (by omega)).trans hr0)
 have HB0:=zh (hb0.trans (hb3.mono (by omega)))
 have hz3:=hb3.size;rw[hW3];clear hW3 hrm hb3 hr0 hb0 c0;have hw3:w.heap.size+2<W3.heap.size:=eP.O.lt;go_wp2_with fail;refine (Q5 (C:=⟨w,s,A,c,w.heap.size+2,false⟩) HO _ t W3 _ (AB1 _) HT eP).mono ?_;rintro e w4 ⟨v,l',rfl,hoff,hbs,hms,_,hfit⟩;have hr4:=(hbs.FN (w.heap.size+1) (by show w.heap.size+1≠w.heap.size+2;omega) (by omega)).trans Ob
 have Cv:∀v0 v1 v2 v3 v4 v5 v6 v7,Off (fun q=>q<w.heap.size) (q8 w4 (w.heap.size+1) v0 v1 v2 v3 v4 v5 v6 v7) (fun u=>Ar u v.v v.A1 v.A2 v.A3):=fun v0 v1 v2 v3 v4 v5 v6 v7=>(EI hoff (B:=w.heap.size+1) (by show w.heap.size+1<W3.heap.size;omega) v0 v1 v2 v3 v4 v5 v6 v7).mono fun q _ hq=>by show q<W3.heap.size;omega
 have FU:∀v0 v1 v2 v3 v4 v5 v6 v7,Below w.heap.size w (q8 w4 (w.heap.size+1) v0 v1 v2 v3 v4 v5 v6 v7):=fun v0 v1 v2 v3 v4 v5 v6 v7=>Bb (HB0.O.trans (hbs.Cm.mono (by show w.heap.size<=w.heap.size+2;omega))) (by omega) _ _ _ _ _ _ _ _
 have hfin:∀v0 v1 v2 v3 v4 v5 v6 v7,v.v.v v.A1 v.c1 v.A2 v.c2 v.A3 v.c3 = .agg #[v0,v1,v2,v3,v4,v5,v6,v7]->R6 s t w (.returned (.agg #[v0,v1,v2,v3,v4,v5,v6,v7])) (q8 w4 (w.heap.size+1) v0 v1 v2 v3 v4 v5 v6 v7):=fun v0 v1 v2 v3 v4 v5 v6 v7 e=>⟨v,by rw[e],Cv _ _ _ _ _ _ _ _,FU _ _ _ _ _ _ _ _,hfit⟩
 have yX:=zh hfin;have Ky:=zh (fun v0 v1 v2 v3 v4 v5 v6 v7=>Gx hr4 v0 v1 v2 v3 v4 v5 v6 v7)
 obtain ⟨⟨x0,x1,x2,x3,x4,x5,x6,x7⟩,y0,y1,y2,y3,y4,y5,y6,y7⟩:=zK hr4;obtain ⟨⟨vk,vb,vi,vs,vn,K,I,R⟩,A1,c1,A2,c2,A3,c3⟩:=v;clear hoff hbs hms hfit hr4 Cv FU hfin
 dsimp only[Val.v,Val.kind,Val.bool,Val.int,Val.str,Val.id,Val.keys,Val.items,Val.rest]
 have HF:Hid (R6 s t w (.returned (.agg #[.int .i64 vk,.bool vb,.int .i64 vi,.string vs,.int .i64 vn,.slice A1 K.length c1,.slice A2 I.length c2,.slice A3 R.length c3])) (q8 w4 (w.heap.size+1) (.int .i64 vk) (.bool vb) (.int .i64 vi) (.string vs) (.int .i64 vn) (.slice A1 K.length c1) (.slice A2 I.length c2) (.slice A3 R.length c3))):=yX.O _ _ _ _ _ _ _ _ rfl
 have HG:=zh (Ky.O (.int .i64 vk) (.bool vb) (.int .i64 vi) (.string vs) (.int .i64 vn) (.slice A1 K.length c1) (.slice A2 I.length c2) (.slice A3 R.length c3));clear yX Ky;go_wp2;clear x0 x1 x2 x3 x4 x5 x6 x7 y0 y1 y2 y3 y4 y5 y6 y7;unfold q8 q5 at HF HG
 generalize World.setCell _ _ _=W9 at *;obtain ⟨⟨x0,x1,x2,x3,x4,x5,x6,x7⟩,_⟩:=zK HG
 exact bodyPost_ret (v := .agg #[.int .i64 vk,.bool vb,.int .i64 vi,.string vs,.int .i64 vn,.slice A1 K.length c1,.slice A2 I.length c2,.slice A3 R.length c3]) (by simp[results,results47,go_sem,x0,x1,x2,x3,x4,x5,x6,x7]) rfl HF
theorem Vf {s:List Aa} (ho:Mt s) {A:zo} {c d:Nat} (hs:DC w A s) (hl:V5 w B l) (hd:l.length<=d) {t:Int} (ht:0<=t/\t<(s.length:Int)):
  Calls prog 48 #[.agg #[.slice A s.length c],.int .i64 t,.slice B l.length d] w (R6 s t w):=by
 have HO:=zh ho;have HS:=zh hs;have HL:=zh hl;have HT:=zh ht;have hlm:l.length<=140737488355328:=by have:=hl.1;unfold EF at this;omega
 clear ho hs hl ht
 go_enter func48,ntmps48
 go_upto_region 1 with fail
 have c0:((w.alloc (.cells #[.slice A s.length c] 31)).alloc zO).cell? ⟨w.heap.size,0,none⟩=some (.slice A s.length c):=by go_simp
 obtain ⟨W2,hW2⟩:∃W2,(w.alloc (.cells #[.slice A s.length c] 31)).alloc zO=W2:=⟨_,rfl⟩;have hz:=zL c0;unfold zO at hW2 c0 hz;rw[hW2] at c0 hz ⊢;have hb0:Below w.heap.size w W2:=by
  rw[<-hW2];exact zI _ _ _
 have hz2:W2.heap.size=w.heap.size+2:=by rw[<-hW2];simp
 have hr0:W2.heap[w.heap.size+1]? = some (.cells #[.int .i64 0,.bool false,.int .i64 0,.string ⟨#[]⟩,.int .i64 0,.slice none 0 0,.slice none 0 0,.slice none 0 0] 28 (0,0)):=by
  rw[<-hW2];have:=AAA (w.alloc (.cells #[.slice A s.length c] 31)) (.cells #[.int .i64 0,.bool false,.int .i64 0,.string ⟨#[]⟩,.int .i64 0,.slice none 0 0,.slice none 0 0,.slice none 0 0] 28);rw[show (w.alloc (.cells #[.slice A s.length c] 31)).heap.size=w.heap.size+1 by simp] at this
  exact this
 clear hW2
 go_region
 have hmn:(min (60:Int) (l.length:Int)).toNat=(l.take 60).length:=by rw[List.length_take];omega
 rw[hmn];obtain ⟨W3,hW3⟩:∃W3,(W2.alloc (.cells #[.slice A s.length c,.slice B (l.take 60).length d,.bool true] 132)).drew=W3:=⟨_,rfl⟩;have hrm:W3.heap[W2.heap.size]? = some (.cells #[.slice A s.length c,.slice B (l.take 60).length d,.bool true] 132 (0,0)):=by
  rw[<-hW3];exact AAA W2 _
 have hb3:Below W2.heap.size W2 W3:=by
  rw[<-hW3];exact zC (zD W2 (.cells #[.slice A s.length c,.slice B (l.take 60).length d,.bool true] 132)) 1
 have eP:Hid (Ik ⟨w,s,A,c,w.heap.size+2,true⟩ W3 (l.take 60)):=by
  rw[hz2] at hrm;exact ⟨HS.O,by rw[List.length_take];omega,by show w.heap.size<=w.heap.size+2;omega,hb0.trans (hb3.mono (by omega)),B,d,⟨Ym HL 60,by rw[List.length_take];omega⟩,hrm⟩
 have Ob:=zh ((hb3.block _ (by omega)).trans hr0)
 have HB0:=zh (hb0.trans (hb3.mono (by omega)))
 have hz3:=hb3.size;rw[hW3];clear hW3 hrm hb3 hr0 hb0 c0;have hw3:w.heap.size+2<W3.heap.size:=eP.O.lt;go_wp2_with fail;refine (Q5 (C:=⟨w,s,A,c,w.heap.size+2,true⟩) HO _ t W3 _ (AB1 _) HT eP).mono ?_;rintro e w4 ⟨v,l',rfl,hoff,hbs,hms,_,hfit⟩;have hr4:=(hbs.FN (w.heap.size+1) (by show w.heap.size+1≠w.heap.size+2;omega) (by omega)).trans Ob
 have Cv:∀v0 v1 v2 v3 v4 v5 v6 v7,Off (fun q=>q<w.heap.size) (q8 w4 (w.heap.size+1) v0 v1 v2 v3 v4 v5 v6 v7) (fun u=>Ar u v.v v.A1 v.A2 v.A3):=fun v0 v1 v2 v3 v4 v5 v6 v7=>(EI hoff (B:=w.heap.size+1) (by show w.heap.size+1<W3.heap.size;omega) v0 v1 v2 v3 v4 v5 v6 v7).mono fun q _ hq=>by show q<W3.heap.size;omega
 have FU:∀v0 v1 v2 v3 v4 v5 v6 v7,Below w.heap.size w (q8 w4 (w.heap.size+1) v0 v1 v2 v3 v4 v5 v6 v7):=fun v0 v1 v2 v3 v4 v5 v6 v7=>Bb (HB0.O.trans (hbs.Cm.mono (by show w.heap.size<=w.heap.size+2;omega))) (by omega) _ _ _ _ _ _ _ _
 have hfin:∀v0 v1 v2 v3 v4 v5 v6 v7,v.v.v v.A1 v.c1 v.A2 v.c2 v.A3 v.c3 = .agg #[v0,v1,v2,v3,v4,v5,v6,v7]->R6 s t w (.returned (.agg #[v0,v1,v2,v3,v4,v5,v6,v7])) (q8 w4 (w.heap.size+1) v0 v1 v2 v3 v4 v5 v6 v7):=fun v0 v1 v2 v3 v4 v5 v6 v7 e=>⟨v,by rw[e],Cv _ _ _ _ _ _ _ _,FU _ _ _ _ _ _ _ _,hfit⟩
 have yX:=zh hfin;have Ky:=zh (fun v0 v1 v2 v3 v4 v5 v6 v7=>Gx hr4 v0 v1 v2 v3 v4 v5 v6 v7)
 obtain ⟨⟨x0,x1,x2,x3,x4,x5,x6,x7⟩,y0,y1,y2,y3,y4,y5,y6,y7⟩:=zK hr4;obtain ⟨⟨vk,vb,vi,vs,vn,K,I,R⟩,A1,c1,A2,c2,A3,c3⟩:=v;clear hoff hbs hms hfit hr4 Cv FU hfin
 dsimp only[Val.v,Val.kind,Val.bool,Val.int,Val.str,Val.id,Val.keys,Val.items,Val.rest]
 have HF:Hid (R6 s t w (.returned (.agg #[.int .i64 vk,.bool vb,.int .i64 vi,.string vs,.int .i64 vn,.slice A1 K.length c1,.slice A2 I.length c2,.slice A3 R.length c3])) (q8 w4 (w.heap.size+1) (.int .i64 vk) (.bool vb) (.int .i64 vi) (.string vs) (.int .i64 vn) (.slice A1 K.length c1) (.slice A2 I.length c2) (.slice A3 R.length c3))):=yX.O _ _ _ _ _ _ _ _ rfl
 have HG:=zh (Ky.O (.int .i64 vk) (.bool vb) (.int .i64 vi) (.string vs) (.int .i64 vn) (.slice A1 K.length c1) (.slice A2 I.length c2) (.slice A3 R.length c3));clear yX Ky;go_wp2;clear x0 x1 x2 x3 x4 x5 x6 x7 y0 y1 y2 y3 y4 y5 y6 y7;unfold q8 q5 at HF HG
 generalize World.setCell _ _ _=W9 at *;obtain ⟨⟨x0,x1,x2,x3,x4,x5,x6,x7⟩,_⟩:=zK HG
 exact bodyPost_ret (v := .agg #[.int .i64 vk,.bool vb,.int .i64 vi,.string vs,.int .i64 vn,.slice A1 K.length c1,.slice A2 I.length c2,.slice A3 R.length c3]) (by simp[results,results48,go_sem,x0,x1,x2,x3,x4,x5,x6,x7]) rfl HF
