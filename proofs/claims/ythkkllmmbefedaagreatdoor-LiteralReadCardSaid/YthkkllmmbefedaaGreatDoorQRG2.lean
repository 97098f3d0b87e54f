/-
  Walks: the reference's fit of all values; Fits, Plain.
-/
import Derived.Test.YthkkllmmbefedaaGreatDoorQGM2
import Derived.Test.YthkkllmmbefedaaGreatDoorQGM3
import Derived.Test.YthkkllmmbefedaaGreatDoorQRG0
import Derived.Test.YthkkllmmbefedaaGreatDoorQRG1
namespace Go.Proofs.YthkkllmmbefedaaGreatDoor
open Go.RowKit
set_option maxHeartbeats 16000000
set_option maxRecDepth 100000
variable {s:List AZ}
theorem EQ {A : zo} {c : Nat} (hv : zQ s = 0) (t : Int) (v : Val) (A1 : zo) (c1 : Nat) (A2 : zo) (c2 : Nat) (A3 : zo) (c3 : Nat) (w : World) (hs : DV w A s) (ho : (t < 0 \/ (s.length : Int) <= t) \/ (0 <= t /\ t < (s.length : Int) /\ v.kind ≠ (AR s t).kind) \/ (0 <= t /\ t < (s.length : Int) /\ v.kind = (AR s t).kind /\ (zJ v = false \/ (zJ v = true /\ false = true /\ 0 < v.rest.length)))):
    Calls Tryz.prog 71 #[.agg #[.slice A s.length c], .int .i64 t, v.v A1 c1 A2 c2 A3 c3, .bool false] w fun e w' => e = .returned (.bool false) /\ Below w.heap.size w w' := by
  have hln := hs.1.lt (by omega)
  have HB0 := zh (zI w (.cells #[.slice A s.length c] 31) (v.box A1 c1 A2 c2 A3 c3));have H5 : Hid (((w.alloc (.cells #[.slice A s.length c] 31)).alloc (v.box A1 c1 A2 c2 A3 c3)).heap[w.heap.size]? = some (.cells #[.slice A s.length c] 31)) := zE (AAA w _) (zD _ _)
  have H7 : Hid (((w.alloc (.cells #[.slice A s.length c] 31)).alloc (v.box A1 c1 A2 c2 A3 c3)).heap[w.heap.size + 1]? = some (v.box A1 c1 A2 c2 A3 c3)) := by
    show _ = _
    have := AAA (w.alloc (.cells #[.slice A s.length c] 31)) (v.box A1 c1 A2 c2 A3 c3)
    simpa using this
  by_cases r1 : t < 0
  · clear ho hs
    go_enter Tryz.func71, Tryz.ntmps71
    go_upto_region 1 with fail
    generalize (w.alloc (.cells #[.slice A s.length c] 31)).alloc (v.box A1 c1 A2 c2 A3 c3) = W2 at *;go_wp2;go_ret;exact ⟨rfl, HB0.out⟩
  by_cases r2 : (s.length : Int) <= t
  · clear ho hs
    go_enter Tryz.func71, Tryz.ntmps71
    go_upto_region 1 with fail
    generalize (w.alloc (.cells #[.slice A s.length c] 31)).alloc (v.box A1 c1 A2 c2 A3 c3) = W2 at *;have x0 : W2.cell? ⟨w.heap.size, 0, none⟩ = some (.slice A s.length c) := by rw [AAB _ _ _ _ _ _ H5.out]; rfl
    go_wp2
    go_ret
    exact ⟨rfl, HB0.out⟩
  obtain ⟨tn, rfl⟩ := AAh (show 0 <= t by omega)
  have htn : tn < s.length := by omega
  have hkr := IC (t := (tn : Int)) hv (by omega)
  rw [zT htn] at ho hkr;obtain ⟨b, o, As, cs, Am, cm, hA, htr, t0, t1, t2, t3, t4, t5, t6, t7, t8, t9⟩ := (hs.below HB0).JM htn;subst hA;have ho2 : v.kind ≠ (s[tn]).kind \/ (v.kind = (s[tn]).kind /\ (zJ v = false \/ (zJ v = true /\ false = true /\ 0 < v.rest.length))) := by
    rcases ho with h | ⟨_, _, h⟩ | ⟨_, _, h⟩
    · exact absurd h (by omega)
    · exact .inl h
    · exact .inr h
  generalize s[tn] = x at *;have h1 : (0 : Int) <= (tn : Int) := by omega
  have h2 : (tn : Int) < (s.length : Int) := by omega
  have HO := zh ho2;have gy := zh hkr;clear ho ho2 hkr htr hs
  go_enter Tryz.func71, Tryz.ntmps71
  go_upto_region 1 with fail
  generalize (w.alloc (.cells #[.slice (some ⟨b, o, none⟩) s.length c] 31)).alloc (v.box A1 c1 A2 c2 A3 c3) = W2 at *;have x0 : W2.cell? ⟨w.heap.size, 0, none⟩ = some (.slice (some ⟨b, o, none⟩) s.length c) := by rw [AAB _ _ _ _ _ _ H5.out]; rfl
  go_upto_region 4 with fail
  clear t0 t1 t2 t3 t4 t5 t6 t7 t8 t9 x0 r1 r2;have BI := zh (zD W2 (x.box As cs Am cm));have Hg : Hid (Bf (W2.alloc (x.box As cs Am cm)) W2.heap.size x As cs Am cm) := AAA W2 _;have Gz := zh (zE H7 BI);have HB3 := zh (zB HB0 BI);generalize W2.alloc (x.box As cs Am cm) = W3 at *;generalize W2.heap.size = p9 at *;clear H5 H7 BI HB0
  obtain ⟨v0, v1, v2, v3, v4, v5, v6, v7⟩ := zF Gz;obtain ⟨b0, b1, b2, b3, b4, b5, b6, b7, b8, b9⟩ := zG Hg
  by_cases hk : v.kind = x.kind
  case neg =>
    have q0 : (v.kind != x.kind) = true := by simp [hk]
    clear hk;go_wp2;go_ret;exact ⟨rfl, HB3.out⟩
  have q0 : (v.kind != x.kind) = false := by simp [hk]
  have HO2 : Hid (zJ v = false \/ (zJ v = true /\ false = true /\ 0 < v.rest.length)) := by
    rcases HO.out with h | ⟨_, h⟩
    · exact absurd hk h
    · exact h
  have rH : Hid (1 <= v.kind /\ v.kind <= 9) := by show _ /\ _; rw [hk]; exact gy.out
  clear hk HO;go_wp2_with fail;refine (yJ v rH A1 c1 A2 c2 A3 c3 W3).mono ?_;rintro e w4 ⟨rfl, hb4⟩;have BD := zh (zB HB3 hb4);have Gi := zh (zE Gz hb4);clear hb4 v0 v1 v2 v3 v4 v5 v6 v7 b0 b1 b2 b3 b4 b5 b6 b7 b8 b9;obtain ⟨v0, v1, v2, v3, v4, v5, v6, v7⟩ := zF Gi
  cases hp : zJ v with
  | false =>
    clear HO2 hp;go_wp2;go_ret;exact ⟨rfl, BD.out⟩
  | true =>
    have Nk : Hid (false = true /\ 0 < v.rest.length) := by
      rcases HO2.out with h | ⟨_, h⟩
      · rw [hp] at h; cases h
      · exact ⟨by first | rfl | exact h.1, h.2⟩
    clear HO2 hp
    first
      | exact absurd Nk.out.1 (by decide)
      | (have z0 : (0 : Int) < (v.rest.length : Int) := by have := Nk.out.2; omega
         clear Nk;go_wp2;go_ret;exact ⟨rfl, BD.out⟩)
theorem Nr {A:zo} {c n:Nat} (hv:zQ s=0) (hn:Ca s) (ih:Ew s A c false n):Ew s A c false (n+1):=by
 intro t v A1 c1 A2 c2 A3 c3 w hsz0 hs hr
 have hsz:∀y,y∈v.keys\/y∈v.items->SizeOf.sizeOf y<=n:=fun y hy=>by have:=TS v y hy;omega
 have hE:AQ s false (n+1) t v=if t<0\/(s.length:Int)<=t then false else if v.kind≠(AR s t).kind\/zJ v=false then false else AX (AQ s false n) false (AR s t) v:=by rw[AQ]
 by_cases h1:t<0\/(s.length:Int)<=t
 ·rw[hE,AAC h1]
  exact EQ hv t v A1 c1 A2 c2 A3 c3 w hs (.inl h1)
 rw[Pe h1] at hE
 by_cases hk:v.kind=(AR s t).kind
 case neg =>
  rw[hE,AAC (.inl hk)];exact EQ hv t v A1 c1 A2 c2 A3 c3 w hs (.inr (.inl ⟨by omega,by omega,hk⟩))
 cases hp:zJ v with
 | false =>
  rw[hE,AAC (.inr hp)];exact EQ hv t v A1 c1 A2 c2 A3 c3 w hs (.inr (.inr ⟨by omega,by omega,hk,.inl hp⟩))
 | true =>
  rw[Pe (by rw[hp];simp[hk])] at hE
  rw[hE]
  by_cases hr0:false=true/\0<v.rest.length
  ·have hF:AX (AQ s false n) false (AR s t) v=false:=by
    first
     | exact absurd hr0.1 (by decide)
     | exact fE hp hk hr0.2
   rw[hF];exact EQ hv t v A1 c1 A2 c2 A3 c3 w hs (.inr (.inr ⟨by omega,by omega,hk,.inr ⟨hp,hr0⟩⟩))
  have hre:false=true->v.rest.length=0:=fun h=>Nat.eq_zero_of_not_pos fun g=>hr0 ⟨h,g⟩
  have hkr:=IC hv (t:=t) (by omega)
  obtain ⟨tn,rfl⟩:=AAh (show 0<=t by omega)
  have htn:tn<s.length:=by omega
  rw[zT htn] at hkr hk ⊢;have hkx:(s[tn]).kind=1\/(s[tn]).kind=2\/(s[tn]).kind=3\/(s[tn]).kind=4\/(s[tn]).kind=5\/(s[tn]).kind=6\/(s[tn]).kind=7\/(s[tn]).kind=8\/(s[tn]).kind=9:=by omega
  rcases hkx with e|e|e|e|e|e|e|e|e
  ·exact om false hv hn ih tn htn v A1 c1 A2 c2 A3 c3 w hsz hs hr e hk hp hre
  ·exact oh false hv hn ih tn htn v A1 c1 A2 c2 A3 c3 w hsz hs hr e hk hp hre
  ·exact og false hv hn ih tn htn v A1 c1 A2 c2 A3 c3 w hsz hs hr e hk hp hre
  ·exact Rk hv hn ih tn htn v A1 c1 A2 c2 A3 c3 w hsz hs hr e hk hp hre
  ·exact oZ false hv hn ih tn htn v A1 c1 A2 c2 A3 c3 w hsz hs hr e hk hp hre
  ·exact Rj hv hn ih tn htn v A1 c1 A2 c2 A3 c3 w hsz hs hr e hk hp hre
  ·exact oW false hv hn ih tn htn v A1 c1 A2 c2 A3 c3 w hsz hs hr e hk hp hre
  ·exact oV false hv hn ih tn htn v A1 c1 A2 c2 A3 c3 w hsz hs hr e hk hp hre
  ·exact oU false hv hn ih tn htn v A1 c1 A2 c2 A3 c3 w hsz hs hr e hk hp hre
theorem Jf {s:List AZ} {A:zo} {c:Nat} (hv:zQ s=0) (hn:Ca s):∀n,Ew s A c false n
 | 0=>fun _ v _ _ _ _ _ _ _ h=>absurd h (by have:=QO v;omega)
 | n+1=>Nr hv hn (Jf hv hn n)
theorem Ry (A:zo) (c:Nat) (hv:zQ s=0) (hn:Ca s) (t:Int) (v:Val) (A1:zo) (c1:Nat) (A2:zo) (c2:Nat) (A3:zo) (c3:Nat) (w:World) (hs:DV w A s) (hr:BO w v A1 A2 A3):
  Calls Tryz.prog 45 #[.agg #[.slice A s.length c],.int .i64 t,v.v A1 c1 A2 c2 A3 c3] w fun e w'=>e = .returned (.bool (CQ s false t v))/\Below w.heap.size w w':=by
 have HS:=zh hs;have HR:=zh hr;have HF:=zh (Jf (A:=A) (c:=c) hv hn (SizeOf.sizeOf v));have HB0:=zh (zI w (.cells #[.slice A s.length c] 31) (v.box A1 c1 A2 c2 A3 c3));have HX0:=zh (EP (AAA w (.cells #[.slice A s.length c] 31)) (v.box A1 c1 A2 c2 A3 c3))
 have sS:Hid (((w.alloc (.cells #[.slice A s.length c] 31)).alloc (v.box A1 c1 A2 c2 A3 c3)).heap[w.heap.size+1]? = some (v.box A1 c1 A2 c2 A3 c3)):=by
  have:=AAA (w.alloc (.cells #[.slice A s.length c] 31)) (v.box A1 c1 A2 c2 A3 c3);rw[show (w.alloc (.cells #[.slice A s.length c] 31)).heap.size=w.heap.size+1 by simp] at this
  exact this
 clear hs hr hv hn
 go_enter Tryz.func45,Tryz.ntmps45
 go_upto_region 1 with fail
 generalize (w.alloc (.cells #[.slice A s.length c] 31)).alloc (v.box A1 c1 A2 c2 A3 c3)=W1 at *;obtain ⟨v0,v1,v2,v3,v4,v5,v6,v7⟩:=zF sS;have x0:=zb HX0;go_wp2_with fail;refine (HF.out t v A1 c1 A2 c2 A3 c3 _ (AAQ _) (HS.out.below HB0) (HR.out.below HB0)).mono ?_;rintro e w1 ⟨rfl,hb1⟩;have HB1:=zh (zB HB0 hb1);clear hb1;go_wp2;go_ret;exact ⟨rfl,HB1.out⟩
end Go.Proofs.YthkkllmmbefedaaGreatDoor



