/-
  Walks: sheaveref12.Path.
-/
import Derived.Test.YthkkllmmbefedaaGreatDoorQRF7
import Derived.Test.YthkkllmmbefedaaGreatDoorQGM3
import Derived.Test.YthkkllmmbefedaaGreatDoorQRG0
import Derived.Test.YthkkllmmbefedaaGreatDoorQRG1
import Derived.Test.YthkkllmmbefedaaGreatDoorQGF0
import Derived.Test.YthkkllmmbefedaaGreatDoorQGP0
namespace Go.Proofs.YthkkllmmbefedaaGreatDoor
open Go.RowKit
set_option maxHeartbeats 16000000
set_option maxRecDepth 100000
variable {s:List Ae}
theorem D9 {A : zo} {c : Nat} (hv : zQ s = 0) (t : Int) (v : Val) (A1 : zo) (c1 : Nat) (A2 : zo) (c2 : Nat) (A3 : zo) (c3 : Nat) (w : World) (hs : CQ w A s) (ho : (t < 0 \/ (s.length : Int) <= t) \/ (0 <= t /\ t < (s.length : Int) /\ v.kind ≠ (AB s t).kind) \/ (0 <= t /\ t < (s.length : Int) /\ v.kind = (AB s t).kind /\ (zJ v = false \/ (zJ v = true /\ false = true /\ 0 < v.rest.length)))):
    Calls Tryz.prog 71 #[.agg #[.slice A s.length c], .int .i64 t, v.v A1 c1 A2 c2 A3 c3, .bool false] w fun e w' => e = .returned (.bool false) /\ Below w.heap.size w w' := by
  have hln := hs.1.lt (by omega)
  have HB0 := zh (zI w (.cells #[.slice A s.length c] 31) (v.box A1 c1 A2 c2 A3 c3));have H5 : Hid (((w.alloc (.cells #[.slice A s.length c] 31)).alloc (v.box A1 c1 A2 c2 A3 c3)).heap[w.heap.size]? = some (.cells #[.slice A s.length c] 31)) := zE (AAC w _) (zD _ _)
  have H7 : Hid (((w.alloc (.cells #[.slice A s.length c] 31)).alloc (v.box A1 c1 A2 c2 A3 c3)).heap[w.heap.size + 1]? = some (v.box A1 c1 A2 c2 A3 c3)) := by
    show _ = _
    have := AAC (w.alloc (.cells #[.slice A s.length c] 31)) (v.box A1 c1 A2 c2 A3 c3)
    simpa using this
  by_cases r1 : t < 0
  · clear ho hs
    go_enter Tryz.func71, Tryz.ntmps71
    go_upto_region 1 with fail
    generalize (w.alloc (.cells #[.slice A s.length c] 31)).alloc (v.box A1 c1 A2 c2 A3 c3) = W2 at *;go_wp2;go_ret;exact ⟨rfl, HB0.out⟩
  by_cases r2 : (s.length : Int) <= t
  · clear ho hs
    go_enter Tryz.func71, Tryz.ntmps71
    go_upto_region 1 with fail
    generalize (w.alloc (.cells #[.slice A s.length c] 31)).alloc (v.box A1 c1 A2 c2 A3 c3) = W2 at *;have x0 : W2.cell? ⟨w.heap.size, 0, none⟩ = some (.slice A s.length c) := by rw [AAE _ _ _ _ _ _ H5.out]; rfl
    go_wp2
    go_ret
    exact ⟨rfl, HB0.out⟩
  obtain ⟨tn, rfl⟩ := AAT (show 0 <= t by omega)
  have htn : tn < s.length := by omega
  have hkr := Dh (t := (tn : Int)) hv (by omega)
  rw [zT htn] at ho hkr;obtain ⟨b, o, As, cs, Am, cm, hA, htr, t0, t1, t2, t3, t4, t5, t6, t7, t8, t9⟩ := (hs.below HB0).FQ htn;subst hA;have ho2 : v.kind ≠ (s[tn]).kind \/ (v.kind = (s[tn]).kind /\ (zJ v = false \/ (zJ v = true /\ false = true /\ 0 < v.rest.length))) := by
    rcases ho with h | ⟨_, _, h⟩ | ⟨_, _, h⟩
    · exact absurd h (by omega)
    · exact .inl h
    · exact .inr h
  generalize s[tn] = x at *;have h1 : (0 : Int) <= (tn : Int) := by omega
  have h2 : (tn : Int) < (s.length : Int) := by omega
  have HO := zh ho2;have ZL := zh hkr;clear ho ho2 hkr htr hs
  go_enter Tryz.func71, Tryz.ntmps71
  go_upto_region 1 with fail
  generalize (w.alloc (.cells #[.slice (some ⟨b, o, none⟩) s.length c] 31)).alloc (v.box A1 c1 A2 c2 A3 c3) = W2 at *;have x0 : W2.cell? ⟨w.heap.size, 0, none⟩ = some (.slice (some ⟨b, o, none⟩) s.length c) := by rw [AAE _ _ _ _ _ _ H5.out]; rfl
  go_upto_region 4 with fail
  clear t0 t1 t2 t3 t4 t5 t6 t7 t8 t9 x0 r1 r2;have BI := zh (zD W2 (x.box As cs Am cm));have Gy : Hid (BX (W2.alloc (x.box As cs Am cm)) W2.heap.size x As cs Am cm) := AAC W2 _;have Gd := zh (zE H7 BI);have HB3 := zh (zB HB0 BI);generalize W2.alloc (x.box As cs Am cm) = W3 at *;generalize W2.heap.size = p9 at *;clear H5 H7 BI HB0
  obtain ⟨v0, v1, v2, v3, v4, v5, v6, v7⟩ := zF Gd;obtain ⟨b0, b1, b2, b3, b4, b5, b6, b7, b8, b9⟩ := zG Gy
  by_cases hk : v.kind = x.kind
  case neg =>
    have q0 : (v.kind != x.kind) = true := by simp [hk]
    clear hk;go_wp2;go_ret;exact ⟨rfl, HB3.out⟩
  have q0 : (v.kind != x.kind) = false := by simp [hk]
  have HO2 : Hid (zJ v = false \/ (zJ v = true /\ false = true /\ 0 < v.rest.length)) := by
    rcases HO.out with h | ⟨_, h⟩
    · exact absurd hk h
    · exact h
  have UY : Hid (1 <= v.kind /\ v.kind <= 9) := by show _ /\ _; rw [hk]; exact ZL.out
  clear hk HO;go_wp2_with fail;refine (yJ v UY A1 c1 A2 c2 A3 c3 W3).mono ?_;rintro e w4 ⟨rfl, hb4⟩;have BA := zh (zB HB3 hb4);have F9 := zh (zE Gd hb4);clear hb4 v0 v1 v2 v3 v4 v5 v6 v7 b0 b1 b2 b3 b4 b5 b6 b7 b8 b9;obtain ⟨v0, v1, v2, v3, v4, v5, v6, v7⟩ := zF F9
  cases hp : zJ v with
  | false =>
    clear HO2 hp;go_wp2;go_ret;exact ⟨rfl, BA.out⟩
  | true =>
    have IJ : Hid (false = true /\ 0 < v.rest.length) := by
      rcases HO2.out with h | ⟨_, h⟩
      · rw [hp] at h; cases h
      · exact ⟨by first | rfl | exact h.1, h.2⟩
    clear HO2 hp
    first
      | exact absurd IJ.out.1 (by decide)
      | (have z0 : (0 : Int) < (v.rest.length : Int) := by have := IJ.out.2; omega
         clear IJ;go_wp2;go_ret;exact ⟨rfl, BA.out⟩)
theorem Ms {A:zo} {c n:Nat} (hv:zQ s=0) (hn:Bq s) (ih:Ed s A c false n):Ed s A c false (n+1):=by
 intro t v A1 c1 A2 c2 A3 c3 w hsz0 hs hr
 have hsz:∀y,y∈v.keys\/y∈v.items->SizeOf.sizeOf y<=n:=fun y hy=>by have:=KY v y hy;omega
 have hE:AU s false (n+1) t v=if t<0\/(s.length:Int)<=t then false else if v.kind≠(AB s t).kind\/zJ v=false then false else AY (AU s false n) false (AB s t) v:=by rw[AU]
 by_cases h1:t<0\/(s.length:Int)<=t
 ·rw[hE,AAG h1]
  exact D9 hv t v A1 c1 A2 c2 A3 c3 w hs (.inl h1)
 rw[Pd h1] at hE
 by_cases hk:v.kind=(AB s t).kind
 case neg =>
  rw[hE,AAG (.inl hk)];exact D9 hv t v A1 c1 A2 c2 A3 c3 w hs (.inr (.inl ⟨by omega,by omega,hk⟩))
 cases hp:zJ v with
 | false =>
  rw[hE,AAG (.inr hp)];exact D9 hv t v A1 c1 A2 c2 A3 c3 w hs (.inr (.inr ⟨by omega,by omega,hk,.inl hp⟩))
 | true =>
  rw[Pd (by rw[hp];simp[hk])] at hE
  rw[hE]
  by_cases hr0:false=true/\0<v.rest.length
  ·have hF:AY (AU s false n) false (AB s t) v=false:=by
    first
     | exact absurd hr0.1 (by decide)
     | exact dA hp hk hr0.2
   rw[hF];exact D9 hv t v A1 c1 A2 c2 A3 c3 w hs (.inr (.inr ⟨by omega,by omega,hk,.inr ⟨hp,hr0⟩⟩))
  have hre:false=true->v.rest.length=0:=fun h=>Nat.eq_zero_of_not_pos fun g=>hr0 ⟨h,g⟩
  have hkr:=Dh hv (t:=t) (by omega)
  obtain ⟨tn,rfl⟩:=AAT (show 0<=t by omega)
  have htn:tn<s.length:=by omega
  rw[zT htn] at hkr hk ⊢;have hkx:(s[tn]).kind=1\/(s[tn]).kind=2\/(s[tn]).kind=3\/(s[tn]).kind=4\/(s[tn]).kind=5\/(s[tn]).kind=6\/(s[tn]).kind=7\/(s[tn]).kind=8\/(s[tn]).kind=9:=by omega
  rcases hkx with e|e|e|e|e|e|e|e|e
  ·exact oF false hv hn ih tn htn v A1 c1 A2 c2 A3 c3 w hsz hs hr e hk hp hre
  ·exact oD false hv hn ih tn htn v A1 c1 A2 c2 A3 c3 w hsz hs hr e hk hp hre
  ·exact oC false hv hn ih tn htn v A1 c1 A2 c2 A3 c3 w hsz hs hr e hk hp hre
  ·exact Qt hv hn ih tn htn v A1 c1 A2 c2 A3 c3 w hsz hs hr e hk hp hre
  ·exact ny false hv hn ih tn htn v A1 c1 A2 c2 A3 c3 w hsz hs hr e hk hp hre
  ·exact Qs hv hn ih tn htn v A1 c1 A2 c2 A3 c3 w hsz hs hr e hk hp hre
  ·exact nu false hv hn ih tn htn v A1 c1 A2 c2 A3 c3 w hsz hs hr e hk hp hre
  ·exact nk false hv hn ih tn htn v A1 c1 A2 c2 A3 c3 w hsz hs hr e hk hp hre
  ·exact ni false hv hn ih tn htn v A1 c1 A2 c2 A3 c3 w hsz hs hr e hk hp hre
theorem Io {s:List Ae} {A:zo} {c:Nat} (hv:zQ s=0) (hn:Bq s):∀n,Ed s A c false n
 | 0=>fun _ v _ _ _ _ _ _ _ h=>absurd h (by have:=PZ v;omega)
 | n+1=>Ms hv hn (Io hv hn n)
theorem Qw (A:zo) (c:Nat) (hv:zQ s=0) (hn:Bq s) (t:Int) (v:Val) (A1:zo) (c1:Nat) (A2:zo) (c2:Nat) (A3:zo) (c3:Nat) (w:World) (hs:CQ w A s) (hr:Az w v A1 A2 A3):
  Calls Tryz.prog 45 #[.agg #[.slice A s.length c],.int .i64 t,v.v A1 c1 A2 c2 A3 c3] w fun e w'=>e = .returned (.bool (BH s false t v))/\Below w.heap.size w w':=by
 have HS:=zh hs;have HR:=zh hr;have HF:=zh (Io (A:=A) (c:=c) hv hn (SizeOf.sizeOf v));have HB0:=zh (zI w (.cells #[.slice A s.length c] 31) (v.box A1 c1 A2 c2 A3 c3));have HX0:=zh (EP (AAC w (.cells #[.slice A s.length c] 31)) (v.box A1 c1 A2 c2 A3 c3))
 have rY:Hid (((w.alloc (.cells #[.slice A s.length c] 31)).alloc (v.box A1 c1 A2 c2 A3 c3)).heap[w.heap.size+1]? = some (v.box A1 c1 A2 c2 A3 c3)):=by
  have:=AAC (w.alloc (.cells #[.slice A s.length c] 31)) (v.box A1 c1 A2 c2 A3 c3);rw[show (w.alloc (.cells #[.slice A s.length c] 31)).heap.size=w.heap.size+1 by simp] at this
  exact this
 clear hs hr hv hn
 go_enter Tryz.func45,Tryz.ntmps45
 go_upto_region 1 with fail
 generalize (w.alloc (.cells #[.slice A s.length c] 31)).alloc (v.box A1 c1 A2 c2 A3 c3)=W1 at *;obtain ⟨v0,v1,v2,v3,v4,v5,v6,v7⟩:=zF rY;have x0:=zb HX0;go_wp2_with fail;refine (HF.out t v A1 c1 A2 c2 A3 c3 _ (AAH _) (HS.out.below HB0) (HR.out.below HB0)).mono ?_;rintro e w1 ⟨rfl,hb1⟩;have HB1:=zh (zB HB0 hb1);clear hb1;go_wp2;go_ret;exact ⟨rfl,HB1.out⟩
def uy (s:List Ae) (t:Int) (v:Val) (p:List Int) (w:World) (e:Ending) (w':World):Prop :=
 ∃ (y:Val) (F1:zo) (f1:Nat) (F2:zo) (f2:Nat) (F3:zo) (f3:Nat) (u:Int),e = .returned (.tuple #[y.v F1 f1 F2 f2 F3 f3,.int .i64 u,.int .i64 (Rv s t v p)])/\Below w.heap.size w w'/\(BH s false t v=true->∀q,CO s t v p=some q->u=q.2)
theorem WR {t:Int} {v:Val} {p:List Int} {w W5:World} {q:Nat} {n e:Int} (hz:W5.heap[q]? = some zO) (hb:Below w.heap.size w W5) (hq:w.heap.size<=q) (h:Rv s t v p=e) (hn:BH s false t v=true->CO s t v p=none):
  (Go.Proofs.YthkkllmmbefedaaGreatDoor.q8 W5 q (.int .i64 0) (.bool false) (.int .i64 0) (.string ⟨#[]⟩) (.int .i64 0) AR AR AR).heap[q]? = some zO/\uy s t v p w (.returned (.tuple #[zeroV.v none 0 none 0 none 0,.int .i64 n,.int .i64 e])) (Go.Proofs.YthkkllmmbefedaaGreatDoor.q8 W5 q (.int .i64 0) (.bool false) (.int .i64 0) (.string ⟨#[]⟩) (.int .i64 0) AR AR AR) :=
 ⟨F6 hz _ _ _ _ _ _ _ _,zeroV,none,0,none,0,none,0,n,by rw[h],BZ hb hq _ _ _ _ _ _ _ _,fun hf q hs=>by rw[hn hf] at hs;cases hs⟩
theorem WS (A:zo) (c:Nat) (hv:zQ s=0) (hn:Bq s) (t:Int) (v:Val) (A1:zo) (c1:Nat) (A2:zo) (c2:Nat) (A3:zo) (c3:Nat) (p:List Int) (B:zo) (d:Nat) (hp:p.length<=1000000) (w:World) (hs:CQ w A s) (hr:Az w v A1 A2 A3) (hi:Bl w B p):
  Calls Tryz.prog 60 #[.agg #[.slice A s.length c],.int .i64 t,v.v A1 c1 A2 c2 A3 c3,.slice B p.length d] w (uy s t v p w):=by
 have HS:=zh hs;have HR:=zh hr;have HI:=zh hi;have HV:=zh hv;have HN:=zh hn;have hln:=hs.1.lt (by omega)
 have HX0:=zh (UB w (.cells #[.slice A s.length c] 31) (v.box A1 c1 A2 c2 A3 c3) zO);clear hs hr hi hv hn
 go_enter Tryz.func60,Tryz.ntmps60
 go_upto_region 1 with fail
 generalize ((w.alloc (.cells #[.slice A s.length c] 31)).alloc (v.box A1 c1 A2 c2 A3 c3)).alloc zO=W1 at *;obtain ⟨v0,v1,v2,v3,v4,v5,v6,v7⟩:=zF HX0.out.2.1;have x0:=zb HX0.out.1;go_wp2_with fail;refine (Qw A c HV HN t v A1 c1 A2 c2 A3 c3 _ (HS.out.below HX0.out.2.2.2) (HR.out.below HX0.out.2.2.2)).mono ?_;rintro e w2 ⟨rfl,hb2⟩;have HB2:=zh (zB HX0.out.2.2.2 hb2)
 have Rc:=zh (zE HX0.out.1 hb2);have eu:=zh (zE HX0.out.2.1 hb2);have KE:=zh (zE HX0.out.2.2.1 hb2);clear v0 v1 v2 v3 v4 v5 v6 v7 x0 hb2 HX0
 cases hf:BH s false t v with
 | false =>
  have HE:=zh (XI (p:=p) hf);have xu:=zh hf;clear hf;obtain ⟨⟨z0,z1,z2,z3,z4,z5,z6,z7⟩,y0,y1,y2,y3,y4,y5,y6,y7⟩:=zK KE;go_wp2;have HK:=zh (WR (n:=0) KE HB2 (q:=w.heap.size+2) (by omega) HE (fun h=>by rw[xu.out] at h;cases h))
  clear z0 z1 z2 z3 z4 z5 z6 z7 y0 y1 y2 y3 y4 y5 y6 y7;unfold Go.Proofs.YthkkllmmbefedaaGreatDoor.q8 Go.Proofs.YthkkllmmbefedaaGreatDoor.q5 at HK;generalize World.setCell _ _ _=W9 at *;obtain ⟨⟨z0,z1,z2,z3,z4,z5,z6,z7⟩,_⟩:=zK HK.out.1
  exact bodyPost_ret (v := .tuple #[zeroV.v none 0 none 0 none 0,.int .i64 0,.int .i64 1]) (by simp[results,Tryz.results60,go_sem,z0,z1,z2,z3,z4,z5,z6,z7];exact KV) rfl HK.out.2
 | true =>
  have HF:=zh hf;have HST:Hid (Ub s A c w t v p 0 t v A1 c1 A2 c2 A3 c3 w2):=⟨Rc.out,eu.out,KE.out,HB2.out,HR.out,hf,rfl⟩;clear hf Rc eu KE HB2;go_wp2
  go_loopw [1,11] (fun a i wr=>∃ (n:Nat) (tn:Int) (x:Val) (F1:zo) (f1:Nat) (F2:zo) (f2:Nat) (F3:zo) (f3:Nat),n<=p.length/\a = .int .i64 tn/\i = .int .i64 n/\Hid (Ub s A c w t v p n tn x F1 f1 F2 f2 F3 f3 wr)) (fun _ i _=>p.length - (intOf i).toNat)
  case atStart=>exact ⟨0,t,v,A1,c1,A2,c2,A3,c3,by omega,rfl,rfl,HST.out⟩
  case round =>
   obtain ⟨n,tn,x,F1,f1,F2,f2,F3,f3,hnl,rfl,rfl,hh⟩:=hrel;obtain ⟨wo,rfl⟩:∃wo:World,wo=wr:=⟨_,rfl⟩;have HA:=zh hh.out;clear hh HST
   by_cases hlt:n<p.length
   ·obtain ⟨pb,po,rfl,pc⟩:=(HI.out.below HA.out.Bb).UD hlt
    have HDR:Hid (p.drop n=p[n]::p.drop (n+1)):=AAv hlt;generalize p[n]=pn at *;obtain ⟨i0,i1,i2⟩:=Kz HA.out.fit;obtain ⟨m,rfl⟩:=AAT i0;have hm:m<s.length:=by omega
    have Ib:Hid (CO s t v p=CO s (m:Int) x (pn::p.drop (n+1))):=by show _=_;rw[HA.out.at_,HDR.out]
    have qz:=zh HA.out.fit;have M7:Hid (AB s (m:Int)=s[m]):=zT hm;obtain ⟨bq,oq,As,cs,Am,cm,Ym,htr,t0,t1,t2,t3,t4,t5,t6,t7,t8,t9⟩:=(HS.out.below HA.out.Bb).FQ hm;subst Ym;have UO:Hid (s[m]=AB s (m:Int)):=M7.out.symm;generalize s[m]=y at *;have Dv:=zh htr;have h1:(0:Int)<=(m:Int):=by omega
    have h2:(m:Int)<(s.length:Int):=by omega
    have h3:(0:Int)<=(n:Int):=by omega
    have h4:(n:Int)<(p.length:Int):=by omega
    have x0:=zb HA.out.sb;have BI:=zh (zD wo (y.box As cs Am cm));have ML:Hid (BX (wo.alloc (y.box As cs Am cm)) wo.heap.size y As cs Am cm):=AAC wo _;have G6:=zh (HA.out.below BI);have Ct:=zh (Dv.out.below BI);clear htr i0 i1 i2 HDR;go_upto_region 6 with fail
    have lp:=zL pc;have lq:=zL t0;have lw:=zL x0;simp only at lp lq lw
    go_region
    clear lp lq lw t0 t1 t2 t3 t4 t5 t6 t7 t8 t9 x0 pc;replace BI:Hid (Below wo.heap.size wo (wo.alloc (y.box As cs Am cm)).drew):=zC BI 1;replace ML:Hid (BX (wo.alloc (y.box As cs Am cm)).drew wo.heap.size y As cs Am cm):=ML.out;replace G6:=zh (HA.out.below BI);replace Ct:=zh (Dv.out.below BI);generalize (wo.alloc (y.box As cs Am cm)).drew=W4 at *
    generalize wo.heap.size=qt at *;obtain ⟨b0,b1,b2,b3,b4,b5,b6,b7,b8,b9⟩:=zG ML
    go_upto_block 2 with fail
    go_cut [1,14] (fun a k wx=>(k = .int .i64 (-1)/\Hid (CO s t v p=none/\Ub s (some ⟨bq,oq,none⟩) c w t v p n (m:Int) x F1 f1 F2 f2 F3 f3 wx))\/∃ (j:Nat) (u:Int) (hj:j<x.items.length),a = .int .i64 u/\k = .int .i64 (j:Int)/\Hid (CO s t v p=CO s u x.items[j] (p.drop (n+1))/\BH s false u x.items[j]=true/\Ub s (some ⟨bq,oq,none⟩) c w t v p n (m:Int) x F1 f1 F2 f2 F3 f3 wx))
    case first =>
     obtain ⟨b0,b1,b2,b3,b4,b5,b6,b7,b8,b9⟩:=zG ML
     by_cases hk5:y.kind=5
     ·have q5:(y.kind==5)=true:=by simp[hk5]
      have Bv:=zh (F7 qz (by rw[M7.out];exact hk5) pn (p.drop (n+1)))
      rw[M7.out] at Bv;clear hk5;obtain ⟨r,hre⟩:∃r,BD (fun m:AZ=>decide (m.id=pn)) y.AA=r:=⟨_,rfl⟩
      have hcall:=Fe pn y As cs Am cm W4 Ct;have hrl:=C8 (fun m:AZ=>decide (m.id=pn)) y.AA
      rw[<-Dk,hre] at hcall;rw[hre] at hrl Bv;have Gh:=zh hcall;clear hcall hre;go_wp2_with fail;refine Gh.out.mono ?_;rintro e' w5 ⟨r',rfl,hrr,hb5⟩;have Dt:=zh (G6.out.below hb5);have Vo:Hid (BX w5 qt y As cs Am cm):=zE ML hb5;have IX:=zh (Ct.out.below hb5);clear hb5 Gh b0 b1 b2 b3 b4 b5 b6 b7 b8 b9;obtain ⟨b0,b1,b2,b3,b4,b5,b6,b7,b8,b9⟩:=zG Vo
      by_cases hr0:r<0
      ·have HE:=zh (Ib.out.trans (Bv.out.2.1 hr0))
       have z5:decide (0<=r)=false:=AAU (by omega)
       rw[z5];clear hr0 hrl z5 Bv hrr;go_wp2;go_meet;exact .inl ⟨rfl,HE.out,Dt.out⟩
      have z5:decide (0<=r)=true:=AAX (by omega)
      obtain rfl:=hrr z5;obtain ⟨k,rfl⟩:=AAT (show 0<=r' by omega)
      have hk:k<y.AA.length:=by omega
      rw[z5];clear hr0 hrl z5 hrr;have hk2:k<x.items.length:=by rw[Bv.out.1];exact hk
      have Ic:=zh (Bv.out.2.2 k rfl hk hk2);obtain ⟨mb,mo,M1,m1,M2,m2,M3,m3,hM,_,d0,d1,d2,d3,d4,d5,d6,d7,d8,d9,Jr,Jq,Jp⟩:=IX.out.AA.Gw hk;clear d0 d1 d3 d4 d5 d6 d7 d8 d9 Jr Jq Jp;subst hM;have g1:(0:Int)<=(k:Int):=by omega
      have g2:(k:Int)<(y.AA.length:Int):=by omega
      clear Bv;go_upto_region 12 with fail
      go_region
      go_wp2
      go_meet
      exact .inr ⟨k,_,hk2,rfl,rfl,Ib.out.trans Ic.out.1,Ic.out.2,Dt.out.below (zC (Pe _ _) 1)⟩
     by_cases M0:y.kind=6
     ·have q5:(y.kind==5)=false:=by simp[M0]
      have q6:(y.kind==6)=true:=by simp[M0]
      have Bv:=zh (JD qz (by rw[M7.out];exact M0) pn (p.drop (n+1)))
      rw[M7.out] at Bv;clear hk5 M0;obtain ⟨r,hre⟩:∃r,BD (fun m:AZ=>decide (m.id=pn)) y.AA=r:=⟨_,rfl⟩
      have hcall:=Fe pn y As cs Am cm W4 Ct;have hrl:=C8 (fun m:AZ=>decide (m.id=pn)) y.AA
      rw[<-Dk,hre] at hcall;rw[hre] at hrl Bv;have Gh:=zh hcall;clear hcall hre;go_wp2_with fail;refine Gh.out.mono ?_;rintro e' w5 ⟨r',rfl,hrr,hb5⟩;have Dt:=zh (G6.out.below hb5);have Vo:Hid (BX w5 qt y As cs Am cm):=zE ML hb5;have IX:=zh (Ct.out.below hb5);clear hb5 Gh b0 b1 b2 b3 b4 b5 b6 b7 b8 b9;obtain ⟨b0,b1,b2,b3,b4,b5,b6,b7,b8,b9⟩:=zG Vo
      by_cases hr0:r<0
      ·have HE:=zh (Ib.out.trans (Bv.out.1 hr0))
       have z5:decide (0<=r)=false:=AAU (by omega)
       rw[z5];clear hr0 hrl z5 Bv hrr;go_wp2;go_meet;exact .inl ⟨rfl,HE.out,Dt.out⟩
      have z5:decide (0<=r)=true:=AAX (by omega)
      obtain rfl:=hrr z5;obtain ⟨k,rfl⟩:=AAT (show 0<=r' by omega)
      have hk:k<y.AA.length:=by omega
      rw[z5];clear hr0 hrl z5 hrr;have w4:w5.cell? ⟨w.heap.size+1,4,none⟩=some (.int .i64 x.id):=(zF Dt.out.vb).2.2.2.2.1
      by_cases hpi:pn=x.id
      case neg =>
       have HE:=zh (Ib.out.trans (Bv.out.2.1 hpi));have q7:(pn==x.id)=false:=by simp[hpi]
       clear hpi Bv;go_wp2;go_meet;exact .inl ⟨rfl,HE.out,Dt.out⟩
      obtain ⟨hk1,hk2,hnx⟩:=Bv.out.2.2 k rfl hpi;have Ic:=zh hnx;have q7:(pn==x.id)=true:=by simp[hpi]
      obtain ⟨mb,mo,M1,m1,M2,m2,M3,m3,hM,_,d0,d1,d2,d3,d4,d5,d6,d7,d8,d9,Jr,Jq,Jp⟩:=IX.out.AA.Gw hk;clear d0 d1 d3 d4 d5 d6 d7 d8 d9 Jr Jq Jp;subst hM;have g1:(0:Int)<=(k:Int):=by omega
      have g2:(k:Int)<(y.AA.length:Int):=by omega
      clear Bv hnx hpi;go_upto_region 16 with fail
      go_region
      go_wp2
      go_meet
      exact .inr ⟨0,_,hk2,rfl,rfl,Ib.out.trans Ic.out.1,Ic.out.2,Dt.out.below (zC (Pe _ _) 1)⟩
     ·have q5:(y.kind==5)=false:=by simp[hk5]
      have q6:(y.kind==6)=false:=by simp[M0]
      have Bv:=zh (J6 qz (by rw[M7.out];exact hk5) (by rw[M7.out];exact M0) pn (p.drop (n+1)))
      rw[M7.out] at Bv;have w6:W4.cell? ⟨w.heap.size+1,6,none⟩=some (.slice F2 x.items.length f2):=(zF G6.out.vb).2.2.2.2.2.2.1;clear hk5 M0
      by_cases hin:0<=pn/\pn<(x.items.length:Int)
      case neg =>
       have HE:Hid (CO s t v p=none):=by
        refine Ib.out.trans ?_
        by_cases hp0:pn<0
        ·exact Bv.out.1 hp0
        ·exact Bv.out.2.1 (by omega)
       have q8:(decide (0<=pn)&&decide (pn<(x.items.length:Int)))=false:=by
        rw[Bool.and_eq_false_iff]
        by_cases hp0:0<=pn
        ·exact .inr (AAU (by omega))
        ·exact .inl (AAU hp0)
       clear Bv
       by_cases h7:y.kind=7
       ·have q7:(y.kind==7)=true:=by simp[h7]
        clear h7
        by_cases hp0:0<=pn
        ·have g1:pn >= 0:=hp0
         have g2:¬ pn<(x.items.length:Int):=by omega
         go_wp2
         go_meet
         exact .inl ⟨rfl,HE.out,G6.out⟩
        ·have g1:¬ pn >= 0:=by omega
         go_wp2
         go_meet
         exact .inl ⟨rfl,HE.out,G6.out⟩
       have q7:(y.kind==7)=false:=by simp[h7]
       by_cases h8:y.kind=8
       ·have q8:(y.kind==8)=true:=by simp[h8]
        clear h7 h8
        by_cases hp0:0<=pn
        ·have g1:pn >= 0:=hp0
         have g2:¬ pn<(x.items.length:Int):=by omega
         go_wp2
         go_meet
         exact .inl ⟨rfl,HE.out,G6.out⟩
        ·have g1:¬ pn >= 0:=by omega
         go_wp2
         go_meet
         exact .inl ⟨rfl,HE.out,G6.out⟩
       have q8:(y.kind==8)=false:=by simp[h8]
       by_cases h9:y.kind=9
       ·have q9:(y.kind==9)=true:=by simp[h9]
        clear h7 h8 h9
        by_cases hp0:0<=pn
        ·have g1:pn >= 0:=hp0
         have g2:¬ pn<(x.items.length:Int):=by omega
         go_wp2
         go_meet
         exact .inl ⟨rfl,HE.out,G6.out⟩
        ·have g1:¬ pn >= 0:=by omega
         go_wp2
         go_meet
         exact .inl ⟨rfl,HE.out,G6.out⟩
       have q9:(y.kind==9)=false:=by simp[h9]
       clear h7 h8 h9;go_wp2;go_meet;exact .inl ⟨rfl,HE.out,G6.out⟩
      obtain ⟨k,rfl⟩:=AAT hin.1;have hk2:k<x.items.length:=by omega
      have Ic:=zh (Bv.out.2.2 k rfl hk2);have h7:=Ic.out.1;have g1:(k:Int) >= 0:=by omega
      have g4:(k:Int)<(x.items.length:Int):=by omega
      clear Bv hin;have hkd:=h7;clear h7
      by_cases h7:y.kind=7
      ·have q7:(y.kind==7)=true:=by simp[h7]
       clear h7 hkd;go_upto_region 21 with fail
       go_region
       go_wp2
       go_meet
       exact .inr ⟨k,_,hk2,rfl,rfl,Ib.out.trans Ic.out.2.1,Ic.out.2.2,G6.out.below (zC (Pe _ _) 1)⟩
      have q7:(y.kind==7)=false:=by simp[h7]
      by_cases h8:y.kind=8
      ·have q8:(y.kind==8)=true:=by simp[h8]
       clear h7 h8 hkd;go_upto_region 21 with fail
       go_region
       go_wp2
       go_meet
       exact .inr ⟨k,_,hk2,rfl,rfl,Ib.out.trans Ic.out.2.1,Ic.out.2.2,G6.out.below (zC (Pe _ _) 1)⟩
      have q8:(y.kind==8)=false:=by simp[h8]
      have q9:(y.kind==9)=true:=by simp;omega
      clear h7 h8 hkd;go_upto_region 21 with fail
      go_region
      go_wp2
      go_meet
      exact .inr ⟨k,_,hk2,rfl,rfl,Ib.out.trans Ic.out.2.1,Ic.out.2.2,G6.out.below (zC (Pe _ _) 1)⟩
    case rest =>
    obtain ⟨w5,rfl⟩:∃w5:World,w5=wc:=⟨_,rfl⟩
    rcases hcut with ⟨rfl,hh⟩|⟨j,u,hj,rfl,rfl,hh⟩
    ·have ZK:=zh hh.out.1
     have Dt:=zh hh.out.2;have HE:=zh (MC HF hh.out.1);clear hh;obtain ⟨⟨z0,z1,z2,z3,z4,z5,z6,z7⟩,y0,y1,y2,y3,y4,y5,y6,y7⟩:=zK Dt.out.rb;go_wp2;have HK:=zh (WR (n:=0) Dt.out.rb Dt.out.Bb (q:=w.heap.size+2) (by omega) HE (fun _=>ZK.out))
     clear z0 z1 z2 z3 z4 z5 z6 z7 y0 y1 y2 y3 y4 y5 y6 y7;unfold Go.Proofs.YthkkllmmbefedaaGreatDoor.q8 Go.Proofs.YthkkllmmbefedaaGreatDoor.q5 at HK;generalize World.setCell _ _ _=W9 at *;obtain ⟨⟨z0,z1,z2,z3,z4,z5,z6,z7⟩,_⟩:=zK HK.out.1
     exact bodyPost_ret (v := .tuple #[zeroV.v none 0 none 0 none 0,.int .i64 0,.int .i64 4]) (by simp[results,Tryz.results60,go_sem,z0,z1,z2,z3,z4,z5,z6,z7];exact KV) rfl HK.out.2
    ·have Ic:=zh (⟨hh.out.1,hh.out.2.1⟩:_/\_)
     have Dt:=zh hh.out.2.2;clear hh;have g1:(0:Int)<=(j:Int):=by omega
     have g3:¬ (j:Int)<0:=by omega
     have g4:(j:Int)<(x.items.length:Int):=by omega
     obtain ⟨ib,io,E1,e1,E2,e2,E3,e3,hI,hir,a0,a1,a2,a3,a4,a5,a6,a7⟩:=Dt.out.val.items.at8 hj;subst hI;have fO:=zh (Ub.next Dt hir Ic.out.2 Ic.out.1 (e1:=e1) (e2:=e2) (e3:=e3));replace a0:=zA Dt.out.Bb a0;replace a1:=zA Dt.out.Bb a1;replace a2:=zA Dt.out.Bb a2;replace a3:=zA Dt.out.Bb a3;replace a4:=zA Dt.out.Bb a4;replace a5:=zA Dt.out.Bb a5;replace a6:=zA Dt.out.Bb a6
     replace a7:=zA Dt.out.Bb a7;obtain ⟨⟨v0,v1,v2,v3,v4,v5,v6,v7⟩,y0,y1,y2,y3,y4,y5,y6,y7⟩:=zK Dt.out.vb;clear hir;go_wp2;clear a0 a1 a2 a3 a4 a5 a6 a7 v0 v1 v2 v3 v4 v5 v6 v7 y0 y1 y2 y3 y4 y5 y6 y7;unfold Go.Proofs.YthkkllmmbefedaaGreatDoor.q8 Go.Proofs.YthkkllmmbefedaaGreatDoor.q5 at fO
     generalize World.setCell _ _ _=W9 at *;go_roundw
     case rel=>exact ⟨n+1,u,x.items[j],E1,e1,E2,e2,E3,e3,by omega,rfl,by go_num,fO.out⟩
     case measure=>simp[intOf];omega
   ·have Hy:Hid (CO s t v p=some (x,tn)):=by
     show _=_
     rw[HA.out.at_,AA7 (by omega),CO]
    have h4:¬ (n:Int)<(p.length:Int):=by omega
    obtain ⟨v0,v1,v2,v3,v4,v5,v6,v7⟩:=zF HA.out.vb;have Ap:=zh HA.out.Bb;obtain ⟨⟨z0,z1,z2,z3,z4,z5,z6,z7⟩,y0,y1,y2,y3,y4,y5,y6,y7⟩:=zK HA.out.rb;go_wp2;have HK:=zh (F6 HA.out.rb (.int .i64 x.kind) (.bool x.bool) (.int .i64 x.int) (.string x.str) (.int .i64 x.id) (.slice F1 x.keys.length f1) (.slice F2 x.items.length f2) (.slice F3 x.rest.length f3))
    have NW:=zh (BZ Ap (q:=w.heap.size+2) (by omega) (.int .i64 x.kind) (.bool x.bool) (.int .i64 x.int) (.string x.str) (.int .i64 x.id) (.slice F1 x.keys.length f1) (.slice F2 x.items.length f2) (.slice F3 x.rest.length f3))
    clear z0 z1 z2 z3 z4 z5 z6 z7 y0 y1 y2 y3 y4 y5 y6 y7 v0 v1 v2 v3 v4 v5 v6 v7;unfold Go.Proofs.YthkkllmmbefedaaGreatDoor.q8 Go.Proofs.YthkkllmmbefedaaGreatDoor.q5 at HK NW;generalize World.setCell _ _ _=W9 at *
    obtain ⟨⟨z0,z1,z2,z3,z4,z5,z6,z7⟩,_⟩:=zK HK;exact bodyPost_ret (v := .tuple #[x.v F1 f1 F2 f2 F3 f3,.int .i64 tn,.int .i64 0]) (by simp[results,Tryz.results60,go_sem,z0,z1,z2,z3,z4,z5,z6,z7]) rfl ⟨x,F1,f1,F2,f2,F3,f3,tn,by rw[dm HF Hy.out],NW.out,fun _ q hq=>by rw[Hy.out] at hq;injection hq with hq;rw[<-hq]⟩
theorem YW {w:World} {B:zo} {l:List Int} (h:Bl w B l) (n:Nat):Bl w B (l.take n):=by
 refine ⟨by have:=h.1;unfold DU at this ⊢;rw[List.length_take];omega,fun hn=>?_⟩
 obtain ⟨b,o,e,hin⟩:=h.2 (fun e=>hn (by rw[e,List.take_nil]))
 exact ⟨b,o,e,fun i y hy=>hin i y (by rw[List.getElem?_take] at hy;split at hy;exact hy;cases hy)⟩
theorem Xy (A:zo) (c:Nat) (hv:zQ s=0) (hn:Bq s) (t:Int) (v:Val) (A1:zo) (c1:Nat) (A2:zo) (c2:Nat) (A3:zo) (c3:Nat) (p:List Int) (B:zo) (d:Nat) (hp:p.length<=1000000) (hpd:p.length<=d) (w:World) (hs:CQ w A s) (hr:Az w v A1 A2 A3) (hi:Bl w B p) (htb:eH w):
  Calls Tryz.prog 29 #[.agg #[.slice A s.length c],.int .i64 t,v.v A1 c1 A2 c2 A3 c3,.slice B p.length d] w (eZ s t v p w):=by
 have HS:=zh hs;have HR:=zh hr;have HI:=zh hi;have HV:=zh hv;have HN:=zh hn;have ML:=zh htb;have qN:=zh (aM hv hn);have hln:=hs.1.lt (by omega)
 have HX0:=zh (EO w (.cells #[.slice A s.length c] 31) (v.box A1 c1 A2 c2 A3 c3));have HB0:=zh (zI w (.cells #[.slice A s.length c] 31) (v.box A1 c1 A2 c2 A3 c3));have HAT:=zh (fun W=>WS (s:=s) A c hv hn t v A1 c1 A2 c2 A3 c3 p B d hp W)
 have fI:=zh (Pq (s:=s) (t:=t) (v:=v) (p:=p));have XT:=zh (S9 (s:=s) (t:=t) (v:=v) (p:=p));generalize hE:Rv s t v p=er at *;generalize uS:GJ s t v p=PS at *;have HE:=zh hE;have Ji:=zh uS;clear hs hr hi hv hn htb hE uS
 go_enter Tryz.func29,Tryz.ntmps29
 go_upto_region 1 with fail
 generalize (w.alloc (.cells #[.slice A s.length c] 31)).alloc (v.box A1 c1 A2 c2 A3 c3)=W1 at *;obtain ⟨v0,v1,v2,v3,v4,v5,v6,v7⟩:=zF HX0.out.2.1;have x0:=zb HX0.out.1;go_wp2_with fail;refine (HAT.out W1 (HS.out.below HB0) (HR.out.below HB0) (HI.out.below HB0)).mono ?_;rintro e w2 ⟨y,F1,f1,F2,f2,F3,f3,u,rfl,hb2,_⟩;rw[HE.out];have BI:=zh (zD w2 (y.box F1 f1 F2 f2 F3 f3))
 have HB2:=zh (zB (zB HB0 hb2) BI);have UO:=zh (zE (zE HX0.out.1 hb2) BI);have gN:=zh (zE (zE HX0.out.2.1 hb2) BI);clear v0 v1 v2 v3 v4 v5 v6 v7 x0 hb2 HX0 HB0 HAT;go_upto_region 2 with fail
 generalize w2.alloc (y.box F1 f1 F2 f2 F3 f3)=W2 at *;generalize w2.heap.size=q2 at *
 by_cases he:er=0
 case neg =>
  have q1:(er != 0)=true:=by simp[he]
  have IJ:=zh (fI.out he);clear he;go_wp2;go_ret2;exact ⟨by rw[Ji.out,IJ.out];rfl,HB2.out⟩
 have IJ:=zh (XT.out he);have q1:(er != 0)=false:=by simp[he]
 have HST:Hid (J9 s t v p 0 t ⟨#[]⟩):=J9.start IJ.out.2.1 IJ.out.2.2;clear he;go_wp2
 go_loopw [13,14] (fun o i wr=>∃ (n:Nat) (tn:Int) (ot:ByteArray),n<=p.length/\o = .string ot/\i = .int .i64 n/\Hid (J9 s t v p n tn ot/\Below w.heap.size w wr/\Below W2.heap.size W2 wr)) (fun _ i _=>p.length - (intOf i).toNat)
 case atStart=>exact ⟨0,t,⟨#[]⟩,by omega,rfl,rfl,HST.out,HB2.out,Pe _ _⟩
 case round =>
  obtain ⟨n,tn,ot,hnl,rfl,rfl,hh⟩:=hrel;obtain ⟨wo,rfl⟩:∃wo:World,wo=wr:=⟨_,rfl⟩;have HA:=zh hh.out.1;have HB:=zh hh.out.2.1;have Cy:=zh hh.out.2.2;have xK:=zh (zE UO hh.out.2.2);have HXw:=zh (zE gN hh.out.2.2);clear hh HST
  by_cases hlt:n<p.length
  ·obtain ⟨pb,po,rfl,pc⟩:=(HI.out.below HB).UD hlt
   have hoz:=HA.out.1.2.2;obtain ⟨i0,i1⟩:=HA.out.1.rng;obtain ⟨m,rfl⟩:=AAT i0;have hm:m<s.length:=by omega
   have M7:Hid (AB s (m:Int)=s[m]):=zT hm;have KG:=zh (fun k=>HA.out.idx HV qN hlt (k:=k))
   have LQ:=zh (HA.out.els HV hlt);rw[M7.out] at KG LQ;generalize p[n]=pn at *;have o6:(p.take n).length=n:=by rw[List.length_take];omega
   have Rp:=zh (fun W=>WS (s:=s) A c HV HN t v A1 c1 A2 c2 A3 c3 (p.take n) (some ⟨pb,po,none⟩) d (by omega) W)
   rw[o6] at Rp;have NS:=zh (YW HI n);have Ez:=zh (fun q hq=>HA.out.ty q hq)
   have HFV:=zh HA.out.2.2.1;have lS:=zh HA.out.2.1;have h3:(0:Int)<=(n:Int):=by omega
   have h4:(n:Int)<(p.length:Int):=by omega
   have h5:(n:Int)<=(d:Int):=by omega
   have Oi:Hid (∀w',Below wo.heap.size wo w'->w'.cell? ⟨w.heap.size,0,none⟩=some (.slice A s.length c)/\(w'.cell? ⟨w.heap.size+1,0,none⟩=some (.int .i64 v.kind)/\w'.cell? ⟨w.heap.size+1,1,none⟩=some (.bool v.bool)/\w'.cell? ⟨w.heap.size+1,2,none⟩=some (.int .i64 v.int)/\w'.cell? ⟨w.heap.size+1,3,none⟩=some (.string v.str)/\w'.cell? ⟨w.heap.size+1,4,none⟩=some (.int .i64 v.id)/\w'.cell? ⟨w.heap.size+1,5,none⟩=some (.slice A1 v.keys.length c1)/\w'.cell? ⟨w.heap.size+1,6,none⟩=some (.slice A2 v.items.length c2)/\w'.cell? ⟨w.heap.size+1,7,none⟩=some (.slice A3 v.rest.length c3))/\Hid (Below wo.heap.size wo w')):=fun w' hb=>⟨by rw[AAE _ _ _ _ _ _ (zE xK hb)];rfl,zF (zE HXw hb),hb⟩
   go_upto_region 8 with fail
   go_cut [16] (fun u wx=>u = .int .i64 (m:Int)/\Hid (Below wo.heap.size wo wx))
   case first =>
    refine zs Oi (by kernel_rfl) ?_ (fun AO=>?_)
    ·(try dsimp only);exact Oi.out _ (zC (Pe _ _) 1)
    refine tL 0 ?_;refine tL 1 ?_;refine tL 2 ?_;refine tL 3 ?_;refine tL 4 ?_;refine tL 5 ?_;try simp only[ps]
    refine wpAnyH_ready (rs:=[6,11]) (by kernel_rfl) (by simp) ?_
    refine (AllReadyH.cons rfl (fun K hK=>?_) (AllReadyH.cons rfl (fun K hK=>?_) AllReadyH.nil))
    ·
     go_simp
     (refine (Rp.out _ (HS.out.below (zB HB AO.2.2.out)) (HR.out.below (zB HB AO.2.2.out)) (NS.out.below (zB HB AO.2.2.out))).mono ?_;rintro e w7 ⟨z,F1,f1,F2,f2,F3,f3,u,rfl,kM,yx⟩;have CS:=zh (zB AO.2.2.out kM);have HU:=zh yx)
     refine hK.out _ _ ?_ (fun AO=>?_)
     ·(try dsimp only);exact Oi.out _ CS
     clear hK K;refine tL 7 ?_;refine tL 8 ?_;refine tL 9 ?_;refine tL 10 ?_;refine tR 11 (fun K hK=>?_)
     go_simp
     refine hK.out _ _ ?_ (fun AO=>?_)
     ·(try dsimp only);exact Oi.out _ (zB AO.2.2.out (zD _ _))
     clear hK K;try simp only[ps]
     refine tR 12 (fun K hK=>?_)
     (have wT:=zh (yC (B:=wo.heap.size) (w:=wo) w7.heap.size CS.out.size (z.cs F1 f1 F2 f2 F3 f3) 0 _ (zB CS (zD w7 Em)));simp only[List.getElem_toArray,List.getElem_cons_zero,List.getElem_cons_succ];rw[AAG (by rfl)];refine wp_store_mid 28 (.tmp 15) (.tmp 47) rfl (w7.heap.size) (0) ((z.cs F1 f1 F2 f2 F3 f3).toArray) (by rfl) (by rfl) ?_ ?_ ?_ ?_;(exact DW (AAC w7 Em));(exact Gi);(exact val_one z F1 f1 F2 f2 F3 f3))
     refine hK.out _ _ ?_ (fun AO=>?_)
     ·(try dsimp only);exact Oi.out _ wT
     clear hK K;refine tL 13 ?_;refine tL 14 ?_;refine wpAnyH_done (by kernel_rfl) ?_ _
     (have HUE:Hid (u=(m:Int)):=(by obtain ⟨yy,yw,_⟩:=lS.out;exact (HU.out HFV _ yw));go_wp2;go_meet;exact ⟨by rw[HUE.out],wT.out⟩)
    ·
     go_simp
     refine hK.out _ _ ?_ (fun AO=>?_)
     ·(try dsimp only);exact Oi.out _ (zB AO.2.2.out (zD _ _))
     clear hK K;refine tR 6 (fun K hK=>?_)
     go_simp
     (have vI:=zh (AAC wo Em);refine (Rp.out _ (HS.out.below (zB HB AO.2.2.out)) (HR.out.below (zB HB AO.2.2.out)) (NS.out.below (zB HB AO.2.2.out))).mono ?_;rintro e w7 ⟨z,F1,f1,F2,f2,F3,f3,u,rfl,kM,yx⟩;have CS:=zh (zB AO.2.2.out kM);have HU:=zh yx;have NR:=zh (zE (w:=(wo.alloc Em).drew) (AAC wo Em) kM))
     refine hK.out _ _ ?_ (fun AO=>?_)
     ·(try dsimp only);exact Oi.out _ CS
     clear hK K;refine tL 7 ?_;try simp only[ps]
     refine tL 8 ?_;refine tL 9 ?_;refine tL 10 ?_;refine tR 12 (fun K hK=>?_)
     (have wT:=zh (yC (B:=wo.heap.size) (w:=wo) wo.heap.size (AAH _) (z.cs F1 f1 F2 f2 F3 f3) 0 _ CS);simp only[List.getElem_toArray,List.getElem_cons_zero,List.getElem_cons_succ];rw[AAG (by rfl)];refine wp_store_mid 28 (.tmp 15) (.tmp 47) rfl (wo.heap.size) (0) ((z.cs F1 f1 F2 f2 F3 f3).toArray) (by rfl) (by rfl) ?_ ?_ ?_ ?_;(exact DW NR);(exact Gi);(exact val_one z F1 f1 F2 f2 F3 f3))
     refine hK.out _ _ ?_ (fun AO=>?_)
     ·(try dsimp only);exact Oi.out _ wT
     clear hK K;refine tL 13 ?_;refine tL 14 ?_;try simp only[ps]
     refine wpAnyH_done (by kernel_rfl) ?_ _
     (have HUE:Hid (u=(m:Int)):=(by obtain ⟨yy,yw,_⟩:=lS.out;exact (HU.out HFV _ yw));go_wp2;go_meet;exact ⟨by rw[HUE.out],wT.out⟩)
   case rest =>
   obtain ⟨rfl,hh⟩:=hcut;obtain ⟨wp,rfl⟩:∃wp:World,wp=wc:=⟨_,rfl⟩;have sM:=zh hh.out;have HBw:=zh (zB HB hh);have ABW:=zh (zB Cy hh);have x0:wp.cell? ⟨w.heap.size,0,none⟩=some (.slice A s.length c):=(Oi.out _ hh).1;replace pc:=zA hh pc;obtain ⟨bq,oq,As,cs,Am,cm,Ym,htr,t0,t1,t2,t3,t4,t5,t6,t7,t8,t9⟩:=(HS.out.below HBw).FQ hm;subst Ym
   have Vs:Hid (s[m].AA≠[]->s[m].kind=5\/s[m].kind=6):=fun hn=>by
    rw[<-M7.out] at hn ⊢;refine Classical.byContradiction fun hc=>hn ((NH HV).no _ (fun h=>hc (.inl h)) (fun h=>hc (.inr h)))
   generalize s[m]=y at *;have Dv:=zh htr;have h1:(0:Int)<=(m:Int):=by omega
   have h2:(m:Int)<(s.length:Int):=by omega
   have BI:=zh (zD wp (y.box As cs Am cm));have xO:Hid (BX (wp.alloc (y.box As cs Am cm)) wp.heap.size y As cs Am cm):=AAC wp _;have Ct:=zh (Dv.out.below BI);have BA:=zh (zB HBw BI);have rO:=zh (zB ABW BI);have pc4:=zA BI pc;clear htr i0 i1 HA hh Oi Rp NS Ez HFV lS xK HXw;go_upto_region 10 with fail
   clear t0 t1 t2 t3 t4 t5 t6 t7 t8 t9 x0 pc;generalize wp.alloc (y.box As cs Am cm)=W4 at *;generalize wp.heap.size=qt at *
   have HCT:Hid (∀w',Below W4.heap.size W4 w'->(w'.cell? ⟨qt,0,none⟩=some (.int .i64 y.kind)/\w'.cell? ⟨qt,1,none⟩=some (.string y.name)/\w'.cell? ⟨qt,2,none⟩=some (.int .i64 y.low)/\w'.cell? ⟨qt,3,none⟩=some (.int .i64 y.high)/\w'.cell? ⟨qt,4,none⟩=some (.int .i64 y.max)/\w'.cell? ⟨qt,5,none⟩=some (.slice As y.Aj.length cs)/\w'.cell? ⟨qt,6,none⟩=some (.slice Am y.AA.length cm)/\w'.cell? ⟨qt,7,none⟩=some (.int .i64 y.key)/\w'.cell? ⟨qt,8,none⟩=some (.int .i64 y.elem)/\w'.cell? ⟨qt,9,none⟩=some (.bool y.open_))/\w'.cell? ⟨pb,po+n,none⟩=some (.int .i64 pn)):=(by
    have HPC:=zh pc4;exact fun w' hb=>⟨zG (show BX w' qt y As cs Am cm from zE xO.out hb),zA hb HPC⟩)
   clear pc4;obtain ⟨r,hre⟩:∃r,BD (fun m:AZ=>decide (m.id=pn)) y.AA=r:=⟨_,rfl⟩
   have hcall:=fun W h=>Fe pn y As cs Am cm W h
   have hrl:=C8 (fun m:AZ=>decide (m.id=pn)) y.AA
   rw[<-Dk,hre] at hcall;rw[hre] at hrl KG LQ;have Gh:=zh hcall;clear hcall hre
   refine wp_region_held_drew (S:=(fun w'=>(w'.cell? ⟨qt,0,none⟩=some (.int .i64 y.kind)/\w'.cell? ⟨qt,1,none⟩=some (.string y.name)/\w'.cell? ⟨qt,2,none⟩=some (.int .i64 y.low)/\w'.cell? ⟨qt,3,none⟩=some (.int .i64 y.high)/\w'.cell? ⟨qt,4,none⟩=some (.int .i64 y.max)/\w'.cell? ⟨qt,5,none⟩=some (.slice As y.Aj.length cs)/\w'.cell? ⟨qt,6,none⟩=some (.slice Am y.AA.length cm)/\w'.cell? ⟨qt,7,none⟩=some (.int .i64 y.key)/\w'.cell? ⟨qt,8,none⟩=some (.int .i64 y.elem)/\w'.cell? ⟨qt,9,none⟩=some (.bool y.open_))/\w'.cell? ⟨pb,po+n,none⟩=some (.int .i64 pn))) (by kernel_rfl) ?_ (fun AO=>?_)
   ·(try dsimp only);exact HCT.out _ (zC (Pe _ _) 1)
   refine tL 0 ?_;refine tL 1 ?_;refine tL 2 ?_;refine tL 3 ?_;refine tL 4 ?_;refine tR 5 (fun K hK=>?_)
   go_simp
   (have NY:Hid (Below W4.heap.size W4 W4.drew):=zC (Pe _ _) 1;refine (Gh.out W4.drew (Ct.out.below NY)).mono ?_;rintro e' w5 ⟨r',rfl,hrr,hb5⟩;have fV:=zh (zB NY hb5);have HRR:=zh hrr;clear hb5 hrr)
   refine hK.out _ _ ?_ (fun AO=>?_)
   ·(try dsimp only);exact HCT.out _ fV
   clear hK K;try simp only[ps]
   refine tL 6 ?_;refine tL 7 ?_;refine tL 8 ?_;refine tL 9 ?_;refine tL 10 ?_;refine wpAnyH_done (by kernel_rfl) ?_ _
   have hrr:=HRR.out;have Ap:=zh (zB BA fV);have UU:=zh (zB rO fV);have IX:=zh (Ct.out.below fV);obtain ⟨⟨b0,b1,b2,b3,b4,b5,b6,b7,b8,b9⟩,pc⟩:=HCT.out _ fV;clear Gh HRR
   by_cases hr0:r<0
   ·have z5:decide (0<=r)=false:=AAU (by omega)
    rw[z5];obtain ⟨g1,g2,g3⟩:=LQ.out hr0;have HG:=zh g1;have HI6:=zh g2;clear hr0 hrl z5 KG LQ g1 g2 hrr;obtain ⟨D,hD⟩:∃D,D5 pn=D:=⟨_,rfl⟩;have HIT:=zh (N8 pn HI6 w5 (ML.out.below Ap));rw[hD] at HIT HG g3;have e1:(⟨#[91]⟩:ByteArray).size=1:=rfl;have e2:(⟨#[93]⟩:ByteArray).size=1:=rfl;have n1:¬ 9223372036854775807<(⟨#[91]⟩:ByteArray).size+D.size:=by omega
    have n2:¬ 9223372036854775807<(⟨#[91]⟩++D:ByteArray).size+(⟨#[93]⟩:ByteArray).size:=by rw[AAa];omega
    have n3:¬ 9223372036854775807<ot.size+(⟨#[91]⟩++D++⟨#[93]⟩:ByteArray).size:=by rw[AAa,AAa];omega
    clear hD e1 e2;go_wp2_with fail;refine HIT.out.mono ?_;rintro e' w6 ⟨rfl,hb6⟩;have BN:=zh (zB Ap hb6);have fU:=zh (zB UU hb6);clear hb6 b0 b1 b2 b3 b4 b5 b6 b7 b8 b9;go_wp2;go_roundw
    case rel=>exact ⟨n+1,y.elem,_,by omega,rfl,by go_num,HG.out,BN.out,fU.out⟩
    case measure=>simp[intOf];omega
   ·have z5:decide (0<=r)=true:=AAX (by omega)
    obtain rfl:=hrr z5;obtain ⟨k,rfl⟩:=AAT (show 0<=r' by omega)
    have hk:k<y.AA.length:=by omega
    rw[z5];have hkk:=Vs.out (fun e=>by rw[e] at hk;cases hk)
    obtain ⟨g1,g2⟩:=KG.out k rfl hk;have HG:=zh g1;clear hr0 hrl z5 KG LQ g1 hrr;obtain ⟨mb,mo,M1,m1,M2,m2,M3,m3,hM,_,d0,d1,d2,d3,d4,d5,d6,d7,d8,d9,Jr,Jq,Jp⟩:=IX.out.AA.Gw hk;clear d0 d2 d3 d4 d5 d6 d7 d8 d9 Jr Jq Jp;subst hM;generalize y.AA[k]=mm at *;have g1:(0:Int)<=(k:Int):=by omega
    have g3:(k:Int)<(y.AA.length:Int):=by omega
    have e1:(⟨#[46]⟩:ByteArray).size=1:=rfl;have n1:¬ 9223372036854775807<(⟨#[46]⟩:ByteArray).size+mm.name.size:=by omega
    have n3:¬ 9223372036854775807<ot.size+(⟨#[46]⟩++mm.name:ByteArray).size:=by rw[AAa];omega
    clear e1
    by_cases hk5:y.kind=5
    ·have q5:(y.kind==5)=true:=by simp[hk5]
     clear hk5 hkk;go_wp2;go_roundw
     case rel=>exact ⟨n+1,mm.type,_,by omega,rfl,by go_num,HG.out,Ap.out,UU.out⟩
     case measure=>simp[intOf];omega
    ·have q5:(y.kind==5)=false:=by simp[hk5]
     have q6:(y.kind==6)=true:=by simp;omega
     clear hk5 hkk;go_wp2;go_roundw
     case rel=>exact ⟨n+1,mm.type,_,by omega,rfl,by go_num,HG.out,Ap.out,UU.out⟩
     case measure=>simp[intOf];omega
  ·have h4:¬ (n:Int)<(p.length:Int):=by omega
   have HO:=zh (HA.out.1.end_ (by omega))
   go_wp2
   go_ret2
   exact ⟨by rw[Ji.out,IJ.out.1,<-HO.out];rfl,HB.out⟩
end Go.Proofs.YthkkllmmbefedaaGreatDoor



