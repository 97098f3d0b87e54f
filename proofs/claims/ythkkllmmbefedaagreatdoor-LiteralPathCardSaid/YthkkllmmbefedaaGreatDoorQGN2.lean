/-
  Walks: Make and Foreign.
-/
import Derived.Test.YthkkllmmbefedaaGreatDoorQMK8A
import Derived.Test.YthkkllmmbefedaaGreatDoorQMK8B
import Derived.Test.YthkkllmmbefedaaGreatDoorQMK8C
import Derived.Test.YthkkllmmbefedaaGreatDoorQMK8D
namespace Go.Proofs.YthkkllmmbefedaaGreatDoor
set_option maxHeartbeats 16000000
set_option maxRecDepth 100000
theorem Q8 {C:UK} (ho:MI C.s) {n:Nat} (ih:KD C n):KD C (n+1):=fun t W l hn hr h=>by
 have hk:=Dh ho.v hr;have hk2:((AB C.s t).kind=1\/(AB C.s t).kind=2\/(AB C.s t).kind=3\/(AB C.s t).kind=4\/(AB C.s t).kind=7\/(AB C.s t).kind=9)\/((AB C.s t).kind=5)\/((AB C.s t).kind=6)\/((AB C.s t).kind=8):=by omega
 rcases hk2 with e|e|e|e
 ·exact YO ho ih t W l hn hr h e
 ·exact YN ho ih t W l hn hr h e
 ·exact YM ho ih t W l hn hr h e
 ·exact YL ho ih t W l hn hr h e
theorem O9 {C:UK} (ho:MI C.s) (n:Nat):KD C n:=by
 induction n with
 | zero=>exact fun t W l hn=>absurd hn (Nat.not_lt_zero _)
 | succ n ih=>exact Q8 ho ih
open Go.RowKit
def QV (s:List Ae) (t:Int) (w:World) (e:Ending) (w':World):Prop :=
 ∃v:Au,e = .returned (v.v.v v.A1 v.c1 v.A2 v.c2 v.A3 v.c3)/\Off (fun q=>q<w.heap.size) w' (fun u=>Az u v.v v.A1 v.A2 v.A3)/\Below w.heap.size w w'/\BV s t v.v=true
variable {l:List Int} {w:World} {B:zo}
theorem WA (h:UH w B l) (n:Nat):UH w B (l.take n):=by
 refine ⟨by have:=h.1;unfold DU at this ⊢;rw[List.length_take];omega,fun hn=>?_⟩
 obtain ⟨b,o,e,hin⟩:=h.2 (fun e=>hn (by rw[e,List.take_nil]))
 exact ⟨b,o,e,fun i y hy=>hin i y (by rw[List.getElem?_take] at hy;split at hy;exact hy;cases hy)⟩
theorem bH {s:List Ae} (ho:MI s) {A:zo} {c d:Nat} (hs:CQ w A s) (hl:UH w B l) (hd:l.length<=d) {t:Int} (ht:0<=t/\t<(s.length:Int)):
  Calls Tryz.prog 47 #[.agg #[.slice A s.length c],.int .i64 t,.slice B l.length d] w (QV s t w):=by
 have HO:=zh ho;have HS:=zh hs;have HL:=zh hl;have HT:=zh ht;have hlm:l.length<=140737488355328:=by have:=hl.1;unfold DU at this;omega
 clear ho hs hl ht
 go_enter Tryz.func47,Tryz.ntmps47
 go_upto_region 1 with fail
 have c0:((w.alloc (.cells #[.slice A s.length c] 31)).alloc zO).cell? ⟨w.heap.size,0,none⟩=some (.slice A s.length c):=by go_simp
 obtain ⟨W2,hW2⟩:∃W2,(w.alloc (.cells #[.slice A s.length c] 31)).alloc zO=W2:=⟨_,rfl⟩;have hz:=zL c0;unfold zO at hW2 c0 hz;rw[hW2] at c0 hz ⊢;have hb0:Below w.heap.size w W2:=by
  rw[<-hW2];exact zI _ _ _
 have hz2:W2.heap.size=w.heap.size+2:=by rw[<-hW2];simp
 have hr0:W2.heap[w.heap.size+1]? = some (.cells #[.int .i64 0,.bool false,.int .i64 0,.string ⟨#[]⟩,.int .i64 0,.slice none 0 0,.slice none 0 0,.slice none 0 0] 28 (0,0)):=by
  rw[<-hW2];have:=AAC (w.alloc (.cells #[.slice A s.length c] 31)) (.cells #[.int .i64 0,.bool false,.int .i64 0,.string ⟨#[]⟩,.int .i64 0,.slice none 0 0,.slice none 0 0,.slice none 0 0] 28);rw[show (w.alloc (.cells #[.slice A s.length c] 31)).heap.size=w.heap.size+1 by simp] at this
  exact this
 clear hW2
 go_region
 have hmn:(min (60:Int) (l.length:Int)).toNat=(l.take 60).length:=by rw[List.length_take];omega
 rw[hmn];obtain ⟨W3,hW3⟩:∃W3,(W2.alloc (.cells #[.slice A s.length c,.slice B (l.take 60).length d,.bool false] 132)).drew=W3:=⟨_,rfl⟩;have hrm:W3.heap[W2.heap.size]? = some (.cells #[.slice A s.length c,.slice B (l.take 60).length d,.bool false] 132 (0,0)):=by
  rw[<-hW3];exact AAC W2 _
 have hb3:Below W2.heap.size W2 W3:=by
  rw[<-hW3];exact zC (zD W2 (.cells #[.slice A s.length c,.slice B (l.take 60).length d,.bool false] 132)) 1
 have Vs:Hid (G5 ⟨w,s,A,c,w.heap.size+2,false⟩ W3 (l.take 60)):=by
  rw[hz2] at hrm;exact ⟨HS.out,by rw[List.length_take];omega,by show w.heap.size<=w.heap.size+2;omega,hb0.trans (hb3.mono (by omega)),B,d,⟨WA HL 60,by rw[List.length_take];omega⟩,hrm⟩
 have IJ:=zh ((hb3.block _ (by omega)).trans hr0)
 have HB0:=zh (hb0.trans (hb3.mono (by omega)))
 have hz3:=hb3.size;rw[hW3];clear hW3 hrm hb3 hr0 hb0 c0;have hw3:w.heap.size+2<W3.heap.size:=Vs.out.lt;go_wp2_with fail;refine (O9 (C:=⟨w,s,A,c,w.heap.size+2,false⟩) HO _ t W3 _ (Nat.lt_succ_self _) HT Vs).mono ?_;rintro e w4 ⟨v,l',rfl,hoff,hbs,hms,_,hfit⟩;have hr4:=(hbs.FN (w.heap.size+1) (by show w.heap.size+1≠w.heap.size+2;omega) (by omega)).trans IJ
 have Ey:∀v0 v1 v2 v3 v4 v5 v6 v7,Off (fun q=>q<w.heap.size) (q8 w4 (w.heap.size+1) v0 v1 v2 v3 v4 v5 v6 v7) (fun u=>Az u v.v v.A1 v.A2 v.A3):=fun v0 v1 v2 v3 v4 v5 v6 v7=>(EA hoff (B:=w.heap.size+1) (by show w.heap.size+1<W3.heap.size;omega) v0 v1 v2 v3 v4 v5 v6 v7).mono fun q _ hq=>by show q<W3.heap.size;omega
 have EJ:∀v0 v1 v2 v3 v4 v5 v6 v7,Below w.heap.size w (q8 w4 (w.heap.size+1) v0 v1 v2 v3 v4 v5 v6 v7):=fun v0 v1 v2 v3 v4 v5 v6 v7=>BZ (HB0.out.trans (hbs.Bb.mono (by show w.heap.size<=w.heap.size+2;omega))) (by omega) _ _ _ _ _ _ _ _
 have hfin:∀v0 v1 v2 v3 v4 v5 v6 v7,v.v.v v.A1 v.c1 v.A2 v.c2 v.A3 v.c3 = .agg #[v0,v1,v2,v3,v4,v5,v6,v7]->QV s t w (.returned (.agg #[v0,v1,v2,v3,v4,v5,v6,v7])) (q8 w4 (w.heap.size+1) v0 v1 v2 v3 v4 v5 v6 v7):=fun v0 v1 v2 v3 v4 v5 v6 v7 e=>⟨v,by rw[e],Ey _ _ _ _ _ _ _ _,EJ _ _ _ _ _ _ _ _,hfit⟩
 have rC:=zh hfin;have LP:=zh (fun v0 v1 v2 v3 v4 v5 v6 v7=>F6 hr4 v0 v1 v2 v3 v4 v5 v6 v7)
 obtain ⟨⟨x0,x1,x2,x3,x4,x5,x6,x7⟩,y0,y1,y2,y3,y4,y5,y6,y7⟩:=zK hr4;obtain ⟨⟨vk,vb,vi,vs,vn,K,I,R⟩,A1,c1,A2,c2,A3,c3⟩:=v;clear hoff hbs hms hfit hr4 Ey EJ hfin
 dsimp only[Val.v,Val.kind,Val.bool,Val.int,Val.str,Val.id,Val.keys,Val.items,Val.rest]
 have HF:Hid (QV s t w (.returned (.agg #[.int .i64 vk,.bool vb,.int .i64 vi,.string vs,.int .i64 vn,.slice A1 K.length c1,.slice A2 I.length c2,.slice A3 R.length c3])) (q8 w4 (w.heap.size+1) (.int .i64 vk) (.bool vb) (.int .i64 vi) (.string vs) (.int .i64 vn) (.slice A1 K.length c1) (.slice A2 I.length c2) (.slice A3 R.length c3))):=rC.out _ _ _ _ _ _ _ _ rfl
 have HG:=zh (LP.out (.int .i64 vk) (.bool vb) (.int .i64 vi) (.string vs) (.int .i64 vn) (.slice A1 K.length c1) (.slice A2 I.length c2) (.slice A3 R.length c3));clear rC LP;go_wp2;clear x0 x1 x2 x3 x4 x5 x6 x7 y0 y1 y2 y3 y4 y5 y6 y7;unfold q8 q5 at HF HG
 generalize World.setCell _ _ _=W9 at *;obtain ⟨⟨x0,x1,x2,x3,x4,x5,x6,x7⟩,_⟩:=zK HG
 exact bodyPost_ret (v := .agg #[.int .i64 vk,.bool vb,.int .i64 vi,.string vs,.int .i64 vn,.slice A1 K.length c1,.slice A2 I.length c2,.slice A3 R.length c3]) (by simp[results,Tryz.results47,go_sem,x0,x1,x2,x3,x4,x5,x6,x7]) rfl HF
theorem Tg {s:List Ae} (ho:MI s) {A:zo} {c d:Nat} (hs:CQ w A s) (hl:UH w B l) (hd:l.length<=d) {t:Int} (ht:0<=t/\t<(s.length:Int)):
  Calls Tryz.prog 48 #[.agg #[.slice A s.length c],.int .i64 t,.slice B l.length d] w (QV s t w):=by
 have HO:=zh ho;have HS:=zh hs;have HL:=zh hl;have HT:=zh ht;have hlm:l.length<=140737488355328:=by have:=hl.1;unfold DU at this;omega
 clear ho hs hl ht
 go_enter Tryz.func48,Tryz.ntmps48
 go_upto_region 1 with fail
 have c0:((w.alloc (.cells #[.slice A s.length c] 31)).alloc zO).cell? ⟨w.heap.size,0,none⟩=some (.slice A s.length c):=by go_simp
 obtain ⟨W2,hW2⟩:∃W2,(w.alloc (.cells #[.slice A s.length c] 31)).alloc zO=W2:=⟨_,rfl⟩;have hz:=zL c0;unfold zO at hW2 c0 hz;rw[hW2] at c0 hz ⊢;have hb0:Below w.heap.size w W2:=by
  rw[<-hW2];exact zI _ _ _
 have hz2:W2.heap.size=w.heap.size+2:=by rw[<-hW2];simp
 have hr0:W2.heap[w.heap.size+1]? = some (.cells #[.int .i64 0,.bool false,.int .i64 0,.string ⟨#[]⟩,.int .i64 0,.slice none 0 0,.slice none 0 0,.slice none 0 0] 28 (0,0)):=by
  rw[<-hW2];have:=AAC (w.alloc (.cells #[.slice A s.length c] 31)) (.cells #[.int .i64 0,.bool false,.int .i64 0,.string ⟨#[]⟩,.int .i64 0,.slice none 0 0,.slice none 0 0,.slice none 0 0] 28);rw[show (w.alloc (.cells #[.slice A s.length c] 31)).heap.size=w.heap.size+1 by simp] at this
  exact this
 clear hW2
 go_region
 have hmn:(min (60:Int) (l.length:Int)).toNat=(l.take 60).length:=by rw[List.length_take];omega
 rw[hmn];obtain ⟨W3,hW3⟩:∃W3,(W2.alloc (.cells #[.slice A s.length c,.slice B (l.take 60).length d,.bool true] 132)).drew=W3:=⟨_,rfl⟩;have hrm:W3.heap[W2.heap.size]? = some (.cells #[.slice A s.length c,.slice B (l.take 60).length d,.bool true] 132 (0,0)):=by
  rw[<-hW3];exact AAC W2 _
 have hb3:Below W2.heap.size W2 W3:=by
  rw[<-hW3];exact zC (zD W2 (.cells #[.slice A s.length c,.slice B (l.take 60).length d,.bool true] 132)) 1
 have Vs:Hid (G5 ⟨w,s,A,c,w.heap.size+2,true⟩ W3 (l.take 60)):=by
  rw[hz2] at hrm;exact ⟨HS.out,by rw[List.length_take];omega,by show w.heap.size<=w.heap.size+2;omega,hb0.trans (hb3.mono (by omega)),B,d,⟨WA HL 60,by rw[List.length_take];omega⟩,hrm⟩
 have IJ:=zh ((hb3.block _ (by omega)).trans hr0)
 have HB0:=zh (hb0.trans (hb3.mono (by omega)))
 have hz3:=hb3.size;rw[hW3];clear hW3 hrm hb3 hr0 hb0 c0;have hw3:w.heap.size+2<W3.heap.size:=Vs.out.lt;go_wp2_with fail;refine (O9 (C:=⟨w,s,A,c,w.heap.size+2,true⟩) HO _ t W3 _ (Nat.lt_succ_self _) HT Vs).mono ?_;rintro e w4 ⟨v,l',rfl,hoff,hbs,hms,_,hfit⟩;have hr4:=(hbs.FN (w.heap.size+1) (by show w.heap.size+1≠w.heap.size+2;omega) (by omega)).trans IJ
 have Ey:∀v0 v1 v2 v3 v4 v5 v6 v7,Off (fun q=>q<w.heap.size) (q8 w4 (w.heap.size+1) v0 v1 v2 v3 v4 v5 v6 v7) (fun u=>Az u v.v v.A1 v.A2 v.A3):=fun v0 v1 v2 v3 v4 v5 v6 v7=>(EA hoff (B:=w.heap.size+1) (by show w.heap.size+1<W3.heap.size;omega) v0 v1 v2 v3 v4 v5 v6 v7).mono fun q _ hq=>by show q<W3.heap.size;omega
 have EJ:∀v0 v1 v2 v3 v4 v5 v6 v7,Below w.heap.size w (q8 w4 (w.heap.size+1) v0 v1 v2 v3 v4 v5 v6 v7):=fun v0 v1 v2 v3 v4 v5 v6 v7=>BZ (HB0.out.trans (hbs.Bb.mono (by show w.heap.size<=w.heap.size+2;omega))) (by omega) _ _ _ _ _ _ _ _
 have hfin:∀v0 v1 v2 v3 v4 v5 v6 v7,v.v.v v.A1 v.c1 v.A2 v.c2 v.A3 v.c3 = .agg #[v0,v1,v2,v3,v4,v5,v6,v7]->QV s t w (.returned (.agg #[v0,v1,v2,v3,v4,v5,v6,v7])) (q8 w4 (w.heap.size+1) v0 v1 v2 v3 v4 v5 v6 v7):=fun v0 v1 v2 v3 v4 v5 v6 v7 e=>⟨v,by rw[e],Ey _ _ _ _ _ _ _ _,EJ _ _ _ _ _ _ _ _,hfit⟩
 have rC:=zh hfin;have LP:=zh (fun v0 v1 v2 v3 v4 v5 v6 v7=>F6 hr4 v0 v1 v2 v3 v4 v5 v6 v7)
 obtain ⟨⟨x0,x1,x2,x3,x4,x5,x6,x7⟩,y0,y1,y2,y3,y4,y5,y6,y7⟩:=zK hr4;obtain ⟨⟨vk,vb,vi,vs,vn,K,I,R⟩,A1,c1,A2,c2,A3,c3⟩:=v;clear hoff hbs hms hfit hr4 Ey EJ hfin
 dsimp only[Val.v,Val.kind,Val.bool,Val.int,Val.str,Val.id,Val.keys,Val.items,Val.rest]
 have HF:Hid (QV s t w (.returned (.agg #[.int .i64 vk,.bool vb,.int .i64 vi,.string vs,.int .i64 vn,.slice A1 K.length c1,.slice A2 I.length c2,.slice A3 R.length c3])) (q8 w4 (w.heap.size+1) (.int .i64 vk) (.bool vb) (.int .i64 vi) (.string vs) (.int .i64 vn) (.slice A1 K.length c1) (.slice A2 I.length c2) (.slice A3 R.length c3))):=rC.out _ _ _ _ _ _ _ _ rfl
 have HG:=zh (LP.out (.int .i64 vk) (.bool vb) (.int .i64 vi) (.string vs) (.int .i64 vn) (.slice A1 K.length c1) (.slice A2 I.length c2) (.slice A3 R.length c3));clear rC LP;go_wp2;clear x0 x1 x2 x3 x4 x5 x6 x7 y0 y1 y2 y3 y4 y5 y6 y7;unfold q8 q5 at HF HG
 generalize World.setCell _ _ _=W9 at *;obtain ⟨⟨x0,x1,x2,x3,x4,x5,x6,x7⟩,_⟩:=zK HG
 exact bodyPost_ret (v := .agg #[.int .i64 vk,.bool vb,.int .i64 vi,.string vs,.int .i64 vn,.slice A1 K.length c1,.slice A2 I.length c2,.slice A3 R.length c3]) (by simp[results,Tryz.results48,go_sem,x0,x1,x2,x3,x4,x5,x6,x7]) rfl HF
end Go.Proofs.YthkkllmmbefedaaGreatDoor



