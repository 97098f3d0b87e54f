/-
  Walks: sheaveref12.Read.
-/
import Derived.Test.YthkkllmmbefedaaGreatDoorQNQC
import Derived.Test.YthkkllmmbefedaaGreatDoorQGA4
import Derived.Test.YthkkllmmbefedaaGreatDoorQGE0
import Derived.Test.YthkkllmmbefedaaGreatDoorQGA5
import Derived.Test.YthkkllmmbefedaaGreatDoorQRG2
namespace Go.Proofs.YthkkllmmbefedaaGreatDoor
open Go.RowKit
set_option maxHeartbeats 16000000
set_option maxRecDepth 100000
variable {s:List AZ}
theorem uL (hx:∀t,Sv (AR s t)) (hd:∀t,((AR s t).AA.map AY.id).Nodup):KF s:=fun t l v r k h=>by
 unfold AP at h
 rcases Rl hx hd (l.length+1) t l false with ⟨e,_,h2⟩|⟨v1,v2,r',k',_,h2,_⟩
 ·rw[h2] at h;cases h
 ·rw[h2] at h
  injection h with h
  injection h with _ h
  injection h with _ h
  exact h.symm
theorem QX {C:CZ} (hv:zQ C.s=0) (O5:KF C.s):∀n,Nh C n
 | 0=>fun _ _ _ h=>absurd h (Nat.not_lt_zero _)
 | n+1=>UJ hv O5 (QX hv O5 n)
def vB (s:List AZ) (l:List AB) (t:Int) (v:Val) (n e:Int):Prop:=if t<0\/(s.length:Int)<=t then e=4 else match C9 true s t l with
 | .ok (z,r,_)=>v=z/\n=((l.length - r.length:Nat):Int)/\e=0
 | .error e1=>e=e1
def QrP (s:List AZ) (l:List AB) (t:Int) (w:World) (y:Ending) (w':World):Prop :=
 ∃ (x:BX) (n e:Int),y = .returned (.tuple #[x.v.v x.A1 x.c1 x.A2 x.c2 x.A3 x.c3,.int .i64 n,.int .i64 e])/\Off (fun q=>q<w.heap.size) w' (fun u=>BO u x.v x.A1 x.A2 x.A3)/\Below w.heap.size w w'/\vB s l t x.v n e
theorem UE (hv:zQ s=0) (O5:KF s) (A:zo) (c:Nat) (t:Int) (l:List AB) (AL:zo) (cL:Nat) (hl:l.length<=1000000) (w:World) (hs:DV w A s) (ht:JF w AL l):
  Calls Tryz.prog 52 #[.agg #[.slice A s.length c],.int .i64 t,.slice AL l.length cL] w (QrP s l t w):=by
 have HS:=zh hs;have HT:=zh ht;have HL:=zh hl;have HV:=zh hv;have VW:=zh O5;have hls:=F9 hv;have HB2:=zh (zI w (.cells #[.slice A s.length c] 31) zO);have Pz:=zh (zw w (.cells #[.slice A s.length c] 31) zO);have P5:Hid (((w.alloc (.cells #[.slice A s.length c] 31)).alloc zO).heap[w.heap.size+1]? = some zO):=by
  show _=_
  have:=AAA (w.alloc (.cells #[.slice A s.length c] 31)) zO;rw[show (w.alloc (.cells #[.slice A s.length c] 31)).heap.size=w.heap.size+1 by simp] at this
  exact this
 have hz2:((w.alloc (.cells #[.slice A s.length c] 31)).alloc zO).heap.size=w.heap.size+2:=by simp
 have HZ2:=zh hz2;clear hs ht hl hv hz2 O5
 go_enter Tryz.func52,Tryz.ntmps52
 go_upto_region 1 with fail
 generalize (w.alloc (.cells #[.slice A s.length c] 31)).alloc zO=W2 at *;have x0:=zb Pz
 by_cases hr:t<0\/(s.length:Int)<=t
 ·have HR:=zh hr
  have HC:Hid (decide (t<0)=true\/(decide (t<0)=false/\(t >= (s.length:Int)))):=by
   rcases Int.lt_or_le t 0 with h|h
   ·exact .inl (AAM h)
   ·exact .inr ⟨AAE (by omega),hr.resolve_left (by omega)⟩
  have RG:=zh (Cw P5 (.int .i64 0) (.bool false) (.int .i64 0) (.string ⟨#[]⟩) (.int .i64 0) AJ AJ AJ);have Kh:Hid (QrP s l t w (.returned (.tuple #[zeroV.v none 0 none 0 none 0,.int .i64 0,.int .i64 4])) (q8 ((W2)) (w.heap.size+1) (.int .i64 0) (.bool false) (.int .i64 0) (.string ⟨#[]⟩) (.int .i64 0) AJ AJ AJ)) :=
   ⟨⟨zeroV,none,0,none,0,none,0⟩,0,4,rfl,(fun u _=>RO u),Cy HB2 (q:=w.heap.size+1) (by omega) _ _ _ _ _ _ _ _,by unfold vB;rw[AAC HR.out]⟩
  obtain ⟨⟨z0,z1,z2,z3,z4,z5,z6,z7⟩,y0,y1,y2,y3,y4,y5,y6,y7⟩:=zK P5;have hcc:=HC.out;clear hr
  rcases hcc with g1|⟨g1,g2⟩
  ·go_wp2
   clear z0 z1 z2 z3 z4 z5 z6 z7 y0 y1 y2 y3 y4 y5 y6 y7;unfold q8 q5 at RG Kh;generalize World.setCell _ _ _=W9 at *;obtain ⟨⟨z0,z1,z2,z3,z4,z5,z6,z7⟩,_⟩:=zK RG
   exact bodyPost_ret (v := .tuple #[zeroV.v none 0 none 0 none 0,.int .i64 0,.int .i64 4]) (by simp[results,Tryz.results52,go_sem,z0,z1,z2,z3,z4,z5,z6,z7];exact ⟨rfl,rfl,rfl,rfl,rfl,rfl,rfl,rfl⟩) rfl Kh
  ·go_wp2
   clear z0 z1 z2 z3 z4 z5 z6 z7 y0 y1 y2 y3 y4 y5 y6 y7;unfold q8 q5 at RG Kh;generalize World.setCell _ _ _=W9 at *;obtain ⟨⟨z0,z1,z2,z3,z4,z5,z6,z7⟩,_⟩:=zK RG
   exact bodyPost_ret (v := .tuple #[zeroV.v none 0 none 0 none 0,.int .i64 0,.int .i64 4]) (by simp[results,Tryz.results52,go_sem,z0,z1,z2,z3,z4,z5,z6,z7];exact ⟨rfl,rfl,rfl,rfl,rfl,rfl,rfl,rfl⟩) rfl Kh
 ·have HR:=zh hr
  have g1:¬ t<0:=fun h=>hr (.inl h)
  have g2:¬ (s.length:Int)<=t:=fun h=>hr (.inr h)
  clear hr;go_upto_region 4 with fail
  have Fp:Hid (DW ⟨w,s,A,c,l,AL,cL,W2.heap.size⟩ (W2.alloc (CZ.q ⟨w,s,A,c,l,AL,cL,W2.heap.size⟩ 0 0)) l 0):=by
   refine ⟨⟨HS.out,HT.out,by show w.heap.size<=W2.heap.size;rw[HZ2.out];omega,HL.out⟩,?_,List.suffix_refl _,HB2.out.trans ((zD W2 _).mono HB2.out.size)⟩
   show _=some (CZ.q _ (l.length - l.length) 0)
   rw[Nat.sub_self];exact AAA W2 _
  have EO:=zh (zD W2 (CZ.q ⟨w,s,A,c,l,AL,cL,W2.heap.size⟩ 0 0));unfold CZ.q at Fp EO;simp only at Fp EO;generalize W2.alloc _=W3 at *;have PN:=zh (CW P5 EO);have HB3:=zh (HB2.out.trans (EO.out.mono HB2.out.size));clear x0;obtain ⟨b,hb⟩:∃b,W2.heap.size=b:=⟨_,rfl⟩;have JJ:Hid (b=w.heap.size+2):=by show _=_;rw[<-hb];exact HZ2.out
  rw[hb] at Fp;rw[hb];clear hb EO Pz P5 HB2 HZ2;go_wp2_with fail;refine (QX (C:=⟨w,s,A,c,l,AL,cL,b⟩) HV VW (l.length+1) t _ l (Nat.lt_succ_self _) ⟨by omega,by show t<(s.length:Int);omega⟩ Fp).mono ?_
  rintro y w5 ⟨x,rfl,j1,j2,r5,e5,j3,j4,j5⟩;have BK:=zh (Ai PN j2 (by have:=JJ.out;show _≠b;omega))
  have TL:=zh j1;have PV:=zh j3;have HJ5:=zh j5;have BB:=zh (HB3.out.trans (j2.Ch.mono (by have:=JJ.out;show _<=b;omega)))
  have vo:=zh (zg.1 PN).1;clear j1 j2 j3 j4 j5;go_upto_region 5 with fail
  have VQ:=zh (zD w5 (.cells x.cells.toArray 28));have sj:=zh (AAA w5 (.cells x.cells.toArray 28));have HPQ:Hid (w.heap.size+1≠w5.heap.size):=by have:=(zg.1 BK).1;show _≠_;omega
  unfold BX.cells Val.cs at VQ sj;generalize World.alloc w5 _=W6 at *;have IX:=zh (CW BK VQ);have mE:=zh (PV.out.below VQ);have BA:=zh (BB.out.trans (VQ.out.mono BB.out.size));have HO6:=zh (TL.out.low VQ);obtain ⟨⟨_,_,c2,c3⟩,_⟩:=mE.out.cells;obtain ⟨⟨x0,x1,x2,x3,x4,x5,x6,x7⟩,y0,y1,y2,y3,y4,y5,y6,y7⟩:=zK IX
  obtain ⟨⟨v0,v1,v2,v3,v4,v5,v6,v7⟩,_⟩:=zK (show W6.heap[w5.heap.size]? = some (.cells #[.int .i64 x.v.kind,.bool x.v.bool,.int .i64 x.v.int,.string x.v.str,.int .i64 x.v.id,.slice x.A1 x.v.keys.length x.c1,.slice x.A2 x.v.items.length x.c2,.slice x.A3 x.v.rest.length x.c3] 28) from sj.out);generalize w5.heap.size=gg at *
  have Br:=zh (Cw IX (.int .i64 x.v.kind) (.bool x.v.bool) (.int .i64 x.v.int) (.string x.v.str) (.int .i64 x.v.id) (.slice x.A1 x.v.keys.length x.c1) (.slice x.A2 x.v.items.length x.c2) (.slice x.A3 x.v.rest.length x.c3))
  have qh:=zh ((FJ HO6 (B:=w.heap.size+1) (by show _<_;exact vo.out) (.int .i64 x.v.kind) (.bool x.v.bool) (.int .i64 x.v.int) (.string x.v.str) (.int .i64 x.v.id) (.slice x.A1 x.v.keys.length x.c1) (.slice x.A2 x.v.items.length x.c2) (.slice x.A3 x.v.rest.length x.c3)).mono fun z _ (hs:z<w.heap.size)=>by have:=vo.out;omega)
  have RI:=zh (Cy BA (q:=w.heap.size+1) (by omega) (.int .i64 x.v.kind) (.bool x.v.bool) (.int .i64 x.v.int) (.string x.v.str) (.int .i64 x.v.id) (.slice x.A1 x.v.keys.length x.c1) (.slice x.A2 x.v.items.length x.c2) (.slice x.A3 x.v.rest.length x.c3))
  unfold q8 q5 at Br qh RI;have hn1:¬ b=w.heap.size+1:=by have:=JJ.out;omega
  have hn2:¬ w.heap.size+1=b:=by have:=JJ.out;omega
  go_region
  clear x0 x1 x2 x3 x4 x5 x6 x7 y0 y1 y2 y3 y4 y5 y6 y7 v0 v1 v2 v3 v4 v5 v6 v7 c2 c3;generalize World.setCell _ _ _=W8 at *;have Gm:Hid (W8.drew.heap[w.heap.size+1]? = _):=zh (CW Br (zC (Pd _ _) 1))
  have Db:Hid (Off _ W8.drew _):=zh (qh.out.low (zC (Pd _ _) 1));have BD:Hid (Below w.heap.size w W8.drew):=zh (RI.out.trans ((zC (Pd W8.heap.size W8) 1).mono RI.out.size));generalize W8.drew=W9 at *;obtain ⟨⟨x0,x1,x2,x3,x4,x5,x6,x7⟩,_⟩:=zK Gm;go_wp2
  refine bodyPost_ret (v := .tuple #[x.v.v x.A1 x.c1 x.A2 x.c2 x.A3 x.c3,.int .i64 ((l.length - r5.length:Nat):Int),.int .i64 e5]) (by simp[results,Tryz.results52,go_sem,x0,x1,x2,x3,x4,x5,x6,x7]) rfl ?_
  refine ⟨x,_,e5,rfl,Db.out,BD.out,?_⟩;unfold vB;rw[Pe HR.out];have hj:=HJ5.out
  show match AP true s t l false with
   | .ok (z,r,_)=>x.v=z/\((l.length - r5.length:Nat):Int)=((l.length - r.length:Nat):Int)/\e5=0
   | .error e1=>e5=e1
  revert hj
  show (match AP true s t l false with
   | .ok (v,r1,_)=>x.v=v/\r5=r1/\e5=0
   | .error e1=>e5=e1)->_
  cases AP true s t l false with
  | error e=>exact fun h=>h
  | ok z=>exact fun h=>⟨h.1,by rw[h.2.1],h.2.2⟩
theorem uK (h:YR s):KF s:=uL (fun t=>(h.ty t).ids) (fun t=>(h.ty t).uI)
end Go.Proofs.YthkkllmmbefedaaGreatDoor



