/-
  Walks: literal.Read.
-/
import Derived.Test.YthkkllmmbefedaaGreatDoorQNRJ
import Derived.Test.YthkkllmmbefedaaGreatDoorQGB0
namespace Go.Proofs.YthkkllmmbefedaaGreatDoor
open Go.RowKit
set_option maxHeartbeats 16000000
set_option maxRecDepth 100000
theorem Tj {C:EB} (hv:zQ C.s=0):∀n,Dp C n
 | 0=>fun _ _ _ _ _ h=>absurd h (Nat.not_lt_zero _)
 | n+1=>VW hv (Tj hv n)
def LrP (s:List Aa) (A:zo) (c:Nat) (l:List AJ) (AL:zo) (cL:Nat) (t:Int) (w:World) (y:Ending) (w':World):Prop :=
 ∃ (x:Aj) (b:Nat),y = .returned (.tuple #[x.v.v x.A1 x.c1 x.A2 x.c2 x.A3 x.c3,.pointer (some ⟨b,0,none⟩)])/\Off (fun q=>q<w.heap.size) w' (fun u=>Ao u x.v x.A1 x.A2 x.A3)/\Below w.heap.size w w'/\∃r' k' e',Bv ⟨w,s,A,c,l,AL,cL,b⟩ w' r' k' e' /\
  (if t<0\/(s.length:Int)<=t then e'=4 else match CZ false s t l with
   | .ok (v,r,k)=>x.v=v/\r'=r/\k'=k/\e'=0
   | .error e1=>e'=e1)
theorem OG (w:World):Ao w zeroV none none none:=⟨by unfold Dk zeroV;decide,Ac.nil _ _ _ _ _,Ac.nil _ _ _ _ _,Ac.nil _ _ _ _ _⟩
variable {w:World}
theorem Bo {B:Nat} {w':World} (h:Below B w w') {q:Nat} (hq:B<=q) (v0 v1 v2 v3 v4 v5 v6 v7:Value):Below B w (q8 w' q v0 v1 v2 v3 v4 v5 v6 v7) :=
 (((((((h.setCell (p:=⟨q,0,none⟩) hq v0).setCell (p:=⟨q,1,none⟩) hq v1).setCell (p:=⟨q,2,none⟩) hq v2).setCell (p:=⟨q,3,none⟩) hq v3).setCell (p:=⟨q,4,none⟩) hq v4).setCell (p:=⟨q,5,none⟩) hq v5).setCell (p:=⟨q,6,none⟩) hq v6).setCell (p:=⟨q,7,none⟩) hq v7
theorem Tm {C:EB} {r:List AJ} {k:Bool} {e:Int} (h:Bv C w r k e) {B:Nat} (hB:B≠C.b) (hz:C.w0.heap.size<=B) (v0 v1 v2 v3 v4 v5 v6 v7:Value):Bv C (q8 w B v0 v1 v2 v3 v4 v5 v6 v7) r k e :=
 (((((((h.Eu hB hz 0 v0).Eu hB hz 1 v1).Eu hB hz 2 v2).Eu hB hz 3 v3).Eu hB hz 4 v4).Eu hB hz 5 v5).Eu hB hz 6 v6).Eu hB hz 7 v7
variable {s:List Aa}
theorem ZU (hv:zQ s=0) (A:zo) (c:Nat) (t:Int) (l:List AJ) (AL:zo) (cL:Nat) (hl:l.length<=1000000) (w:World) (hs:C8 w A s) (ht:JZ w AL l):
  Calls Tryz.prog 50 #[.agg #[.slice A s.length c],.int .i64 t,.slice AL l.length cL] w (LrP s A c l AL cL t w):=by
 have HS:=zh hs;have HT:=zh ht;have HL:=zh hl;have HV:=zh hv;have hls:=MZ hv;have HB2:=zh (zI w (.cells #[.slice A s.length c] 31) zO);have YW:=zh (zw w (.cells #[.slice A s.length c] 31) zO);have aO:Hid (((w.alloc (.cells #[.slice A s.length c] 31)).alloc zO).heap[w.heap.size+1]? = some zO):=by
  show _=_
  have:=AAL (w.alloc (.cells #[.slice A s.length c] 31)) zO;rw[show (w.alloc (.cells #[.slice A s.length c] 31)).heap.size=w.heap.size+1 by simp] at this
  exact this
 have hz2:((w.alloc (.cells #[.slice A s.length c] 31)).alloc zO).heap.size=w.heap.size+2:=by simp
 have HZ2:=zh hz2;clear hs ht hl hv hz2
 go_enter Tryz.func50,Tryz.ntmps50
 go_upto_region 1 with fail
 generalize (w.alloc (.cells #[.slice A s.length c] 31)).alloc zO=W2 at *;have x0:=zb YW;go_upto_region 2 with fail
 have E8:Hid (Bv ⟨w,s,A,c,l,AL,cL,W2.heap.size⟩ (W2.alloc (EB.o ⟨w,s,A,c,l,AL,cL,W2.heap.size⟩ 0 false 0)) l false 0):=by
  refine ⟨⟨HS.out,HT.out,by show w.heap.size<=W2.heap.size;rw[HZ2.out];omega,HL.out⟩,?_,List.suffix_refl _,HB2.out.trans ((zD W2 _).mono HB2.out.size)⟩
  show _=some (EB.o _ (l.length - l.length) false 0)
  rw[Nat.sub_self];exact AAL W2 _
 have KM:=zh (zD W2 (EB.o ⟨w,s,A,c,l,AL,cL,W2.heap.size⟩ 0 false 0));unfold EB.o at E8 KM;simp only at E8 KM;generalize W2.alloc _=W3 at *;have aL:=zh (Aw YW KM);have aN:=zh (Aw aO KM);have HB3:=zh (HB2.out.trans (KM.out.mono HB2.out.size));clear x0;have x0:=zb aL;obtain ⟨b,hb⟩:∃b,W2.heap.size=b:=⟨_,rfl⟩
 have LC:Hid (b=w.heap.size+2):=by show _=_;rw[<-hb];exact HZ2.out
 rw[hb] at E8;rw[hb];clear hb KM YW aO HB2 HZ2
 by_cases hr:t<0\/(s.length:Int)<=t
 ·have HR:=zh hr
  have HC:Hid (decide (t<0)=true\/(decide (t<0)=false/\(t >= (s.length:Int)))):=by
   rcases Int.lt_or_le t 0 with h|h
   ·exact .inl (AAT h)
   ·exact .inr ⟨AAZ (by omega),hr.resolve_left (by omega)⟩
  have Ji:Hid (∀w5,Bv ⟨w,s,A,c,l,AL,cL,b⟩ w5 l false (iH 0 4)->Ah b W3 w5->w5.heap[w.heap.size+1]? = some zO/\LrP s A c l AL cL t w (.returned (.tuple #[zeroV.v none 0 none 0 none 0,.pointer (some ⟨b,0,none⟩)])) (q8 w5 (w.heap.size+1) (.int .i64 0) (.bool false) (.int .i64 0) (.string ⟨#[]⟩) (.int .i64 0) AP AP AP)):=fun w5 h1 h2=>by
   refine ⟨Cg aN h2 (by have:=LC.out;omega),⟨zeroV,none,0,none,0,none,0⟩,b,rfl,(fun u _=>OG u),?_,l,false,_,Tm h1 (B:=w.heap.size+1) (by have:=LC.out;show _≠b;omega) (by show w.heap.size<=_;omega) _ _ _ _ _ _ _ _,?_⟩
   ·exact Bo (HB3.out.trans (h2.Bz.mono (by have:=LC.out;omega))) (q:=w.heap.size+1) (by omega) _ _ _ _ _ _ _ _
   ·rw[AAH HR.out];rfl
  have hcc:=HC.out;clear hr
  rcases hcc with g1|⟨g1,g2⟩
  ·go_wp2_with fail
   refine (BZ 4 E8).mono ?_;rintro y w5 ⟨rfl,j1,j2⟩;obtain ⟨k1,k2⟩:=Ji.out _ j1 j2;have Yd:=zh (Gr k1 (.int .i64 0) (.bool false) (.int .i64 0) (.string ⟨#[]⟩) (.int .i64 0) AP AP AP);have VB:=zh k2;obtain ⟨⟨z0,z1,z2,z3,z4,z5,z6,z7⟩,y0,y1,y2,y3,y4,y5,y6,y7⟩:=zK k1;clear j1 j2 k1 k2;go_wp2;clear z0 z1 z2 z3 z4 z5 z6 z7 y0 y1 y2 y3 y4 y5 y6 y7;unfold q8 q5 at Yd VB
   generalize World.setCell _ _ _=W9 at *;obtain ⟨⟨z0,z1,z2,z3,z4,z5,z6,z7⟩,_⟩:=zK Yd
   exact bodyPost_ret (v := .tuple #[zeroV.v none 0 none 0 none 0,.pointer (some ⟨b,0,none⟩)]) (by simp[results,Tryz.results50,go_sem,z0,z1,z2,z3,z4,z5,z6,z7];exact ⟨rfl,rfl,rfl,rfl,rfl,rfl,rfl,rfl⟩) rfl VB
  ·go_wp2_with fail
   refine (BZ 4 E8).mono ?_;rintro y w5 ⟨rfl,j1,j2⟩;obtain ⟨k1,k2⟩:=Ji.out _ j1 j2;have Yd:=zh (Gr k1 (.int .i64 0) (.bool false) (.int .i64 0) (.string ⟨#[]⟩) (.int .i64 0) AP AP AP);have VB:=zh k2;obtain ⟨⟨z0,z1,z2,z3,z4,z5,z6,z7⟩,y0,y1,y2,y3,y4,y5,y6,y7⟩:=zK k1;clear j1 j2 k1 k2;go_wp2;clear z0 z1 z2 z3 z4 z5 z6 z7 y0 y1 y2 y3 y4 y5 y6 y7;unfold q8 q5 at Yd VB
   generalize World.setCell _ _ _=W9 at *;obtain ⟨⟨z0,z1,z2,z3,z4,z5,z6,z7⟩,_⟩:=zK Yd
   exact bodyPost_ret (v := .tuple #[zeroV.v none 0 none 0 none 0,.pointer (some ⟨b,0,none⟩)]) (by simp[results,Tryz.results50,go_sem,z0,z1,z2,z3,z4,z5,z6,z7];exact ⟨rfl,rfl,rfl,rfl,rfl,rfl,rfl,rfl⟩) rfl VB
 ·have HR:=zh hr
  have g1:¬ t<0:=fun h=>hr (.inl h)
  have g2:¬ (s.length:Int)<=t:=fun h=>hr (.inr h)
  clear hr;go_wp2_with fail;refine (Tj (C:=⟨w,s,A,c,l,AL,cL,b⟩) HV (l.length+1) t _ l false 0 (Nat.lt_succ_self _) ⟨by omega,by show t<(s.length:Int);omega⟩ E8).mono ?_
  rintro y w5 ⟨x,rfl,j1,j2,r5,k5,e5,j3,j4,j5,j6⟩;have CF:=zh (Cg aN j2 (by have:=LC.out;show _≠b;omega))
  have KW:=zh (Gr CF (.int .i64 x.v.kind) (.bool x.v.bool) (.int .i64 x.v.int) (.string x.v.str) (.int .i64 x.v.id) (.slice x.A1 x.v.keys.length x.c1) (.slice x.A2 x.v.items.length x.c2) (.slice x.A3 x.v.rest.length x.c3))
  have HV9:=zh ((EU j1 (B:=w.heap.size+1) (by show _<_;exact (zg.1 aN).1) (.int .i64 x.v.kind) (.bool x.v.bool) (.int .i64 x.v.int) (.string x.v.str) (.int .i64 x.v.id) (.slice x.A1 x.v.keys.length x.c1) (.slice x.A2 x.v.items.length x.c2) (.slice x.A3 x.v.rest.length x.c3)).mono fun s _ (hs:s<w.heap.size)=>by have:=(zg.1 aN).1;omega)
  have HR9:=zh (Tm j3 (B:=w.heap.size+1) (by have:=LC.out;show _≠b;omega) (by show w.heap.size<=_;omega) (.int .i64 x.v.kind) (.bool x.v.bool) (.int .i64 x.v.int) (.string x.v.str) (.int .i64 x.v.id) (.slice x.A1 x.v.keys.length x.c1) (.slice x.A2 x.v.items.length x.c2) (.slice x.A3 x.v.rest.length x.c3))
  have Pw:=zh (Bo (HB3.out.trans (j2.Bz.mono (by have:=LC.out;show _<=b;omega))) (q:=w.heap.size+1) (by omega) (.int .i64 x.v.kind) (.bool x.v.bool) (.int .i64 x.v.int) (.string x.v.str) (.int .i64 x.v.id) (.slice x.A1 x.v.keys.length x.c1) (.slice x.A2 x.v.items.length x.c2) (.slice x.A3 x.v.rest.length x.c3))
  have HJ6:=zh (j6 rfl);obtain ⟨⟨z0,z1,z2,z3,z4,z5,z6,z7⟩,y0,y1,y2,y3,y4,y5,y6,y7⟩:=zK CF;clear j1 j2 j3 j4 j5 j6;go_wp2;clear z0 z1 z2 z3 z4 z5 z6 z7 y0 y1 y2 y3 y4 y5 y6 y7;unfold q8 q5 at KW HV9 HR9 Pw;generalize World.setCell _ _ _=W9 at *
  obtain ⟨⟨z0,z1,z2,z3,z4,z5,z6,z7⟩,_⟩:=zK KW;refine bodyPost_ret (v := .tuple #[x.v.v x.A1 x.c1 x.A2 x.c2 x.A3 x.c3,.pointer (some ⟨b,0,none⟩)]) (by simp[results,Tryz.results50,go_sem,z0,z1,z2,z3,z4,z5,z6,z7]) rfl ?_
  refine ⟨x,b,rfl,HV9.out,Pw.out,r5,k5,e5,HR9.out,?_⟩;rw[Pd HR.out];exact HJ6.out
theorem iG (A:zo) (c:Nat) (hv:zQ s=0) (hn:DI s) (t:Int) (x:Aj) (w:World) (hs:C8 w A s) (hr:Ao w x.v x.A1 x.A2 x.A3):
  Calls Tryz.prog 43 #[.agg #[.slice A s.length c],.int .i64 t,x.v.v x.A1 x.c1 x.A2 x.c2 x.A3 x.c3] w fun e w'=>e = .returned (.bool (Bc s false t x.v))/\Below w.heap.size w w' :=
 JA A c hv hn t x.v x.A1 x.c1 x.A2 x.c2 x.A3 x.c3 w hs hr
def RdP (s:List Aa) (t:Int) (l:List AJ) (w:World) (y:Ending) (w':World):Prop :=
 ∃x:Aj,y = .returned (.tuple #[x.v.v x.A1 x.c1 x.A2 x.c2 x.A3 x.c3,.int .i64 (eG false s t l).2.1,.int .i64 (eG false s t l).2.2])/\x.v=(eG false s t l).1/\Ao w' x.v x.A1 x.A2 x.A3/\Below w.heap.size w w'
theorem RdP.low {t:Int} {l:List AJ} {W W':World} {y:Ending} (h:RdP s t l w y W) (hb:Below W.heap.size W W'):RdP s t l w y W':=by
 obtain ⟨x,h1,h2,h3,h4⟩:=h;exact ⟨x,h1,h2,h3.below hb,h4.trans (hb.mono h4.size)⟩
theorem Nv:(0:Int)=zeroV.kind/\zeroV.bool=false/\0=zeroV.int/\(⟨#[]⟩:ByteArray)=zeroV.str/\0=zeroV.id/\0=zeroV.keys.length/\0=zeroV.items.length/\0=zeroV.rest.length:=⟨rfl,rfl,rfl,rfl,rfl,rfl,rfl,rfl⟩
end Go.Proofs.YthkkllmmbefedaaGreatDoor



