/-
  Walks: the reference's fit of all values; Fits, Plain.
-/
import Derived.Test.YthkkllmmbefedaaGreatDoorQGM2
import Derived.Test.YthkkllmmbefedaaGreatDoorQGM3
import Derived.Test.YthkkllmmbefedaaGreatDoorQRG0
import Derived.Test.YthkkllmmbefedaaGreatDoorQRG1
namespace Go.Proofs.YthkkllmmbefedaaGreatDoor
open Go.RowKit
set_option maxHeartbeats 16000000
set_option maxRecDepth 100000
theorem rfit_out_false {s : List TyD} {A : zo} {c : Nat} (hv : zQ s = 0) (t : Int) (v : Val) (A1 : zo) (c1 : Nat) (A2 : zo) (c2 : Nat) (A3 : zo) (c3 : Nat) (w : World) (hs : TysR w A s)
    (ho : (t < 0 ∨ (s.length : Int) ≤ t) ∨ (0 ≤ t ∧ t < (s.length : Int) ∧ v.kind ≠ (tyAt s t).kind) ∨ (0 ≤ t ∧ t < (s.length : Int) ∧ v.kind = (tyAt s t).kind ∧ (zJ v = false ∨ (zJ v = true ∧ false = true ∧ 0 < v.rest.length)))) :
    Calls Tryz.prog 71 #[.agg #[.slice A s.length c], .int .i64 t, v.v A1 c1 A2 c2 A3 c3, .bool false] w fun e w' => e = .returned (.bool false) ∧ Below w.heap.size w w' := by
  have hln := hs.1.lt (by omega)
  have HB0 := zh (zI w (.cells #[.slice A s.length c] 31) (v.box A1 c1 A2 c2 A3 c3));have H5 : Hid (((w.alloc (.cells #[.slice A s.length c] 31)).alloc (v.box A1 c1 A2 c2 A3 c3)).heap[w.heap.size]? = some (.cells #[.slice A s.length c] 31)) := zE (heap_alloc_new w _) (zD _ _)
  have H7 : Hid (((w.alloc (.cells #[.slice A s.length c] 31)).alloc (v.box A1 c1 A2 c2 A3 c3)).heap[w.heap.size + 1]? = some (v.box A1 c1 A2 c2 A3 c3)) := by
    show _ = _
    have := heap_alloc_new (w.alloc (.cells #[.slice A s.length c] 31)) (v.box A1 c1 A2 c2 A3 c3)
    simpa using this
  by_cases r1 : t < 0
  · clear ho hs
    go_enter Tryz.func71, Tryz.ntmps71
    go_upto_region 1 with fail
    generalize (w.alloc (.cells #[.slice A s.length c] 31)).alloc (v.box A1 c1 A2 c2 A3 c3) = W2 at *;go_wp2;go_ret;exact ⟨rfl, HB0.out⟩
  by_cases r2 : (s.length : Int) ≤ t
  · clear ho hs
    go_enter Tryz.func71, Tryz.ntmps71
    go_upto_region 1 with fail
    generalize (w.alloc (.cells #[.slice A s.length c] 31)).alloc (v.box A1 c1 A2 c2 A3 c3) = W2 at *;have x0 : W2.cell? ⟨w.heap.size, 0, none⟩ = some (.slice A s.length c) := by rw [cell_of_row _ _ _ _ _ _ H5.out]; rfl
    go_wp2
    go_ret
    exact ⟨rfl, HB0.out⟩
  obtain ⟨tn, rfl⟩ := Int.eq_ofNat_of_zero_le (show 0 ≤ t by omega)
  have htn : tn < s.length := by omega
  have hkr := kind_rng (t := (tn : Int)) hv (by omega)
  rw [zT htn] at ho hkr;obtain ⟨b, o, As, cs, Am, cm, hA, htr, t0, t1, t2, t3, t4, t5, t6, t7, t8, t9⟩ := (hs.below HB0.out).at10 htn;subst hA;have ho2 : v.kind ≠ (s[tn]).kind ∨ (v.kind = (s[tn]).kind ∧ (zJ v = false ∨ (zJ v = true ∧ false = true ∧ 0 < v.rest.length))) := by
    rcases ho with h | ⟨_, _, h⟩ | ⟨_, _, h⟩
    · exact absurd h (by omega)
    · exact .inl h
    · exact .inr h
  generalize s[tn] = x at *;have h1 : (0 : Int) ≤ (tn : Int) := by omega
  have h2 : (tn : Int) < (s.length : Int) := by omega
  have HO := zh ho2;have HKR := zh hkr;clear ho ho2 hkr htr hs
  go_enter Tryz.func71, Tryz.ntmps71
  go_upto_region 1 with fail
  generalize (w.alloc (.cells #[.slice (some ⟨b, o, none⟩) s.length c] 31)).alloc (v.box A1 c1 A2 c2 A3 c3) = W2 at *;have x0 : W2.cell? ⟨w.heap.size, 0, none⟩ = some (.slice (some ⟨b, o, none⟩) s.length c) := by rw [cell_of_row _ _ _ _ _ _ H5.out]; rfl
  go_upto_region 4 with fail
  clear t0 t1 t2 t3 t4 t5 t6 t7 t8 t9 x0 r1 r2;have HBX := zh (zD W2 (x.box As cs Am cm));have HXT : Hid (TBox (W2.alloc (x.box As cs Am cm)) W2.heap.size x As cs Am cm) := heap_alloc_new W2 _;have HX7 := zh (zE H7.out HBX.out);have HB3 := zh (zB HB0.out HBX.out);generalize W2.alloc (x.box As cs Am cm) = W3 at *;generalize W2.heap.size = p9 at *;clear H5 H7 HBX HB0
  obtain ⟨v0, v1, v2, v3, v4, v5, v6, v7⟩ := zF HX7.out;obtain ⟨b0, b1, b2, b3, b4, b5, b6, b7, b8, b9⟩ := zG HXT.out
  by_cases hk : v.kind = x.kind
  case neg =>
    have q0 : (v.kind != x.kind) = true := by simp [hk]
    clear hk;go_wp2;go_ret;exact ⟨rfl, HB3.out⟩
  have q0 : (v.kind != x.kind) = false := by simp [hk]
  have HO2 : Hid (zJ v = false ∨ (zJ v = true ∧ false = true ∧ 0 < v.rest.length)) := by
    rcases HO.out with h | ⟨_, h⟩
    · exact absurd hk h
    · exact h
  have HKV : Hid (1 ≤ v.kind ∧ v.kind ≤ 9) := by show _ ∧ _; rw [hk]; exact HKR.out
  clear hk HO;go_wp2_with fail;refine (yJ v HKV.out A1 c1 A2 c2 A3 c3 W3).mono ?_;rintro e w4 ⟨rfl, hb4⟩;have HB4 := zh (zB HB3.out hb4);have HX7a := zh (zE HX7.out hb4);clear hb4 v0 v1 v2 v3 v4 v5 v6 v7 b0 b1 b2 b3 b4 b5 b6 b7 b8 b9;obtain ⟨v0, v1, v2, v3, v4, v5, v6, v7⟩ := zF HX7a.out
  cases hp : zJ v with
  | false =>
    clear HO2 hp;go_wp2;go_ret;exact ⟨rfl, HB4.out⟩
  | true =>
    have HR0 : Hid (false = true ∧ 0 < v.rest.length) := by
      rcases HO2.out with h | ⟨_, h⟩
      · rw [hp] at h; cases h
      · exact ⟨by first | rfl | exact h.1, h.2⟩
    clear HO2 hp
    first
      | exact absurd HR0.out.1 (by decide)
      | (have z0 : (0 : Int) < (v.rest.length : Int) := by have := HR0.out.2; omega
         clear HR0;go_wp2;go_ret;exact ⟨rfl, HB4.out⟩)
theorem rfit_step_false {s:List TyD} {A:zo} {c n:Nat} (hv:zQ s=0) (hn:Num64 s) (ih:RFitAt s A c false n):RFitAt s A c false (n+1):=by
 intro t v A1 c1 A2 c2 A3 c3 w hsz0 hs hr
 have hsz:∀y,y∈v.keys∨y∈v.items→SizeOf.sizeOf y≤n:=fun y hy=>by have:=val_size v y hy;omega
 have hE:fitF s false (n+1) t v=if t<0∨(s.length:Int)≤t then false else if v.kind≠(tyAt s t).kind∨zJ v=false then false else fitB (fitF s false n) false (tyAt s t) v:=by rw[fitF]
 by_cases h1:t<0∨(s.length:Int)≤t
 ·rw[hE,if_pos h1]
  exact rfit_out_false hv t v A1 c1 A2 c2 A3 c3 w hs (.inl h1)
 rw[if_neg h1] at hE
 by_cases hk:v.kind=(tyAt s t).kind
 case neg =>
  rw[hE,if_pos (.inl hk)];exact rfit_out_false hv t v A1 c1 A2 c2 A3 c3 w hs (.inr (.inl ⟨by omega,by omega,hk⟩))
 cases hp:zJ v with
 | false =>
  rw[hE,if_pos (.inr hp)];exact rfit_out_false hv t v A1 c1 A2 c2 A3 c3 w hs (.inr (.inr ⟨by omega,by omega,hk,.inl hp⟩))
 | true =>
  rw[if_neg (by rw[hp];simp[hk])] at hE
  rw[hE]
  by_cases hr0:false=true∧0<v.rest.length
  ·have hF:fitB (fitF s false n) false (tyAt s t) v=false:=by
    first
     | exact absurd hr0.1 (by decide)
     | exact fit_rest hp hk hr0.2
   rw[hF];exact rfit_out_false hv t v A1 c1 A2 c2 A3 c3 w hs (.inr (.inr ⟨by omega,by omega,hk,.inr ⟨hp,hr0⟩⟩))
  have hre:false=true→v.rest.length=0:=fun h=>Nat.eq_zero_of_not_pos fun g=>hr0 ⟨h,g⟩
  have hkr:=kind_rng hv (t:=t) (by omega)
  obtain ⟨tn,rfl⟩:=Int.eq_ofNat_of_zero_le (show 0≤t by omega)
  have htn:tn<s.length:=by omega
  rw[zT htn] at hkr hk ⊢;have hkx:(s[tn]).kind=1∨(s[tn]).kind=2∨(s[tn]).kind=3∨(s[tn]).kind=4∨(s[tn]).kind=5∨(s[tn]).kind=6∨(s[tn]).kind=7∨(s[tn]).kind=8∨(s[tn]).kind=9:=by omega
  rcases hkx with e|e|e|e|e|e|e|e|e
  ·exact rfit_1 false hv hn ih tn htn v A1 c1 A2 c2 A3 c3 w hsz hs hr e hk hp hre
  ·exact rfit_2 false hv hn ih tn htn v A1 c1 A2 c2 A3 c3 w hsz hs hr e hk hp hre
  ·exact rfit_3 false hv hn ih tn htn v A1 c1 A2 c2 A3 c3 w hsz hs hr e hk hp hre
  ·exact rfit_4_false hv hn ih tn htn v A1 c1 A2 c2 A3 c3 w hsz hs hr e hk hp hre
  ·exact rfit_5 false hv hn ih tn htn v A1 c1 A2 c2 A3 c3 w hsz hs hr e hk hp hre
  ·exact rfit_6_false hv hn ih tn htn v A1 c1 A2 c2 A3 c3 w hsz hs hr e hk hp hre
  ·exact rfit_7 false hv hn ih tn htn v A1 c1 A2 c2 A3 c3 w hsz hs hr e hk hp hre
  ·exact rfit_8 false hv hn ih tn htn v A1 c1 A2 c2 A3 c3 w hsz hs hr e hk hp hre
  ·exact rfit_9 false hv hn ih tn htn v A1 c1 A2 c2 A3 c3 w hsz hs hr e hk hp hre
theorem rfit_all_false {s:List TyD} {A:zo} {c:Nat} (hv:zQ s=0) (hn:Num64 s):∀n,RFitAt s A c false n
 | 0=>fun _ v _ _ _ _ _ _ _ h=>absurd h (by have:=sizeV_pos v;omega)
 | n+1=>rfit_step_false hv hn (rfit_all_false hv hn n)
theorem r08_Fits_any {s:List TyD} (A:zo) (c:Nat) (hv:zQ s=0) (hn:Num64 s) (t:Int) (v:Val) (A1:zo) (c1:Nat) (A2:zo) (c2:Nat) (A3:zo) (c3:Nat) (w:World) (hs:TysR w A s) (hr:ValR w v A1 A2 A3) :
  Calls Tryz.prog 45 #[.agg #[.slice A s.length c],.int .i64 t,v.v A1 c1 A2 c2 A3 c3] w fun e w'=>e = .returned (.bool (fitV s false t v))∧Below w.heap.size w w':=by
 have HS:=zh hs;have HR:=zh hr;have HF:=zh (rfit_all_false (A:=A) (c:=c) hv hn (SizeOf.sizeOf v));have HB0:=zh (zI w (.cells #[.slice A s.length c] 31) (v.box A1 c1 A2 c2 A3 c3));have HX0:=zh (tmp_al (heap_alloc_new w (.cells #[.slice A s.length c] 31)) (v.box A1 c1 A2 c2 A3 c3))
 have HY0:Hid (((w.alloc (.cells #[.slice A s.length c] 31)).alloc (v.box A1 c1 A2 c2 A3 c3)).heap[w.heap.size+1]? = some (v.box A1 c1 A2 c2 A3 c3)):=by
  have:=heap_alloc_new (w.alloc (.cells #[.slice A s.length c] 31)) (v.box A1 c1 A2 c2 A3 c3);rw[show (w.alloc (.cells #[.slice A s.length c] 31)).heap.size=w.heap.size+1 by simp] at this
  exact this
 clear hs hr hv hn
 go_enter Tryz.func45,Tryz.ntmps45
 go_upto_region 1 with fail
 generalize (w.alloc (.cells #[.slice A s.length c] 31)).alloc (v.box A1 c1 A2 c2 A3 c3)=W1 at *;obtain ⟨v0,v1,v2,v3,v4,v5,v6,v7⟩:=zF HY0.out;have x0:=zb HX0.out;go_wp2_with fail;refine (HF.out t v A1 c1 A2 c2 A3 c3 _ (Nat.le_refl _) (HS.out.below HB0.out) (HR.out.below HB0.out)).mono ?_;rintro e w1 ⟨rfl,hb1⟩;have HB1:=zh (zB HB0.out hb1);clear hb1;go_wp2;go_ret;exact ⟨rfl,HB1.out⟩
end Go.Proofs.YthkkllmmbefedaaGreatDoor


