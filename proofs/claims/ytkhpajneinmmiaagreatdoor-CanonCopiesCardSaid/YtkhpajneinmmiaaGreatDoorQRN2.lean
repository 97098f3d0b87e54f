/-
  Walks: canon.renamed (written by gen_rn2.py).
-/
import Derived.Test.YtkhpajneinmmiaaGreatDoorQRNA
namespace Go.Proofs.YtkhpajneinmmiaaGreatDoor
open Go.RowKit
def RenPost (t : TyD) (w : World) (e : Ending) (w' : World) : Prop :=
 ∃ As cs Am cm, e = .returned (t.v As cs Am cm) ∧ (Off (· < w.heap.size) w' fun u => TyR u t As Am) ∧ Below w.heap.size w w'
def IxOk (p q : Nat) (ix : Int → Int) (D : List (Int × Int)) (w : World) : Prop := ∀ w', Below w.heap.size w w' → ∀ u ∈ D, Calls Tryz.prog 48 #[.int .i64 u.2, .pointer (some ⟨p, 0, none⟩), .pointer (some ⟨q, 0, none⟩)] w' fun e w'' => e = .returned (.int .i64 (ix u.2)) ∧ Below w'.heap.size w' w''
theorem there_boxT {w : World} {b : Nat} (h : w.heap[b]? = some zboxT) : w.there b 0 10 := fun j hj => by
 rw [Nat.zero_add]
 refine ⟨?_, frozen_of_row _ _ _ _ _ h⟩
 rw [cell_of_row _ _ _ _ _ _ h]
 match j, hj with
 | 0, _ => rfl
 | 1, _ => rfl
 | 2, _ => rfl
 | 3, _ => rfl
 | 4, _ => rfl
 | 5, _ => rfl
 | 6, _ => rfl
 | 7, _ => rfl
 | 8, _ => rfl
 | 9, _ => rfl
theorem ty_info : (Tryz.prog.info? 70).map (·.size) = some 10 := by kernel_rfl
theorem ty_one (t : TyD) (As : Option Addr) (cs : Nat) (Am : Option Addr) (cm : Nat) : ((t.cs As cs Am cm).toArray).all (·.oneCell') = true :=
 all_oneCell_toArray fun u hu => by
  simp only [List.mem_cons, List.mem_nil_iff, or_false] at hu
  rcases hu with rfl | rfl | rfl | rfl | rfl | rfl | rfl | rfl | rfl | rfl <;> rfl
theorem rn_end {t : TyD} {nm : ByteArray} {ix : Int → Int} {w : World} {S3 M3 : Nat} {Bs : Option Addr} {cs : Nat} {Bm : Option Addr} {cm : Nat} {wr w2 : World} (h : RnC t nm ix w S3 M3 Bs cs Bm cm t.mems.length wr) {As Am : Option Addr} (hn : SOk nm) (hs : SymsR w As t.syms) (hm : MemsR w Am t.mems)
  {r : TyD} (hr1 : r.name = nm) (hr2 : r.syms = t.syms.map renS) (hr3 : r.mems = t.mems.map (renM ix)) (hlo : wr.heap.size ≤ w2.heap.size) (hk : ∀ q, q ≠ w.heap.size → q < wr.heap.size → w2.heap[q]? = wr.heap[q]?) (hb : Below w.heap.size w w2) (L : List Value) (hL : r.cs Bs cs Bm cm = L) :
  let W := w2.setCells (w.heap.size + 1) 0 L
  (W.rangeAt (w.heap.size + 1) 0 L) ∧ (Off (· < w.heap.size) W fun u => TyR u r Bs Bm) ∧ Below w.heap.size w W := by
 subst hL
 intro W
 have h1 := h.b.lo
 have h2 := h.lo
 have h3 := h.b.hi
 have hth : w2.there (w.heap.size + 1) 0 10 := there_boxT ((hk _ (by omega) (by omega)).trans h.b.res)
 refine ⟨World.rangeAt_setCells_same w2 (w.heap.size + 1) 0 _ hth, ?_, below_setsg _ (by omega) _ _ _ hb⟩
 have k1 := (((h.b.syms.other (g := w.heap.size) hlo hk (by omega) (Nat.le_refl _) (fun e => by have := (h.b.syms.lt e).1; omega)).otherCells 0 (r.cs Bs cs Bm cm) (g := w.heap.size + 1) (by omega) (by omega) (fun e => by have := (h.b.syms.lt e).1; omega))).out (by rw [mapTo_len]; exact Nat.le_refl _) (by omega) (by omega) (bytes := 24) (by rw [mapTo_len]; exact hs.1)
 have k2 := (((h.mems.other (g := w.heap.size) hlo hk (by omega) (Nat.le_refl _) (fun e => by have := (h.mems.lt e).1; omega)).otherCells 0 (r.cs Bs cs Bm cm) (g := w.heap.size + 1) (by omega) (by omega) (fun e => by have := (h.mems.lt e).1; omega))).out (by rw [mapTo_len]; exact Nat.le_refl _) (by omega) (by omega) (bytes := 160) (by rw [mapTo_len]; exact hm.1)
 rw [mapTo_all (Nat.le_refl _)] at k1 k2
 exact fun u hu => ⟨by rw [hr1]; exact hn, by rw [hr2]; exact k1 u hu, by rw [hr3]; exact k2 u hu⟩
set_option maxHeartbeats 4000000 in
set_option maxRecDepth 100000 in
theorem renamed_e (t : TyD) (hname : t.name = ⟨#[]⟩) (n : Nat) (_ : n ≤ 1000) (p q : Nat) (ix : Int → Int) (As : Option Addr) (cs : Nat) (Am : Option Addr) (cm : Nat) (w : World) (ht : TyR w t As Am) (hids : ∀ s ∈ t.syms, In64 s.id) (hidm : ∀ m ∈ t.mems, In64 m.id) (hix : IxOk p q ix (usesD t) w) (htab : Tab w) :
  Calls Tryz.prog 47 #[t.v As cs Am cm, .int .i64 n, .func (.func 48) #[] #[.pointer (some ⟨p, 0, none⟩), .pointer (some ⟨q, 0, none⟩)]] w (RenPost (renD n ix t) w) := by
 have hls : t.syms.length ≤ 5864062014805 := by have := ht.syms.1; unfold Lim at this; omega
 have hlm : t.mems.length ≤ 879609302220 := by have := ht.mems.1; unfold Lim at this; omega
 have HT := Lib.hid ht
 have HIX := Lib.hid hix
 have HTB := Lib.hid htab
 have HIS := Lib.hid hids
 have HIM := Lib.hid hidm
 have HNM := Lib.hid hname
 have HB0 := Lib.hid (below_new2 w (t.box As cs Am cm) zboxT)
 have HBX : Hid (((w.alloc (t.box As cs Am cm)).alloc zboxT).heap[w.heap.size]? = some (t.box As cs Am cm)) := tmp_al (heap_alloc_new w _) _
 have HRS : Hid (((w.alloc (t.box As cs Am cm)).alloc zboxT).heap[w.heap.size + 1]? = some zboxT) := by
  have h := heap_alloc_new (w.alloc (t.box As cs Am cm)) zboxT
  rw [show (w.alloc (t.box As cs Am cm)).heap.size = w.heap.size + 1 by simp] at h
  exact h
 have n1 : t.name.toList = [] := by rw [Lib.toList_data, hname]
 have n2 : t.name.toList.isEmpty = true := by simpa using n1
 clear ht hix htab hids hidm hname
 go_enter Tryz.func47, Tryz.ntmps47
 go_wp2_with fail
 have HB1 := Lib.hid HB0.out
 have HBX1 : Hid (((w.alloc (t.box As cs Am cm)).alloc zboxT).heap[w.heap.size]? = some ((named t t.name).box As cs Am cm)) := HBX.out
 have HRS1 := Lib.hid HRS.out
 generalize (w.alloc (t.box As cs Am cm)).alloc zboxT = w1 at *
 refine (cloneS HT.out.syms HB1.out).mono ?_
 rintro e w2 ⟨B1, d1, rfl, hb2, hg1, hk1⟩
 have hbx2 := (hb2.block _ (Array.getElem?_eq_some_iff.1 HBX1.out).1).trans HBX1.out
 have hc5 := (box10 hbx2).1.2.2.2.2.2.1
 have hf5 := (box10 hbx2).2 5
 have HSB := Lib.hid (rnB_start HBX1.out HRS1.out HB1.out hb2 hg1 hk1)
 clear hb2 hg1 hk1 hbx2 HBX1 HRS1
 go_wp2
 clear hc5 hf5
 generalize w2.heap.size = S3 at *
 generalize w2.setCell ⟨w.heap.size, 5, none⟩ (.slice B1 t.syms.length d1) = W2 at *
 go_loopw [24] (fun s wr => ∃ i : Nat, i ≤ t.syms.length ∧ s = .int .i64 i ∧ Hid (RnB t t.name w S3 B1 d1 Am cm i wr)) (fun s _ => t.syms.length - (intOf s).toNat)
 case atStart => exact ⟨0, by omega, rfl, HSB.out⟩
 case round =>
  obtain ⟨i, hi, rfl, hh⟩ := hrel
  obtain ⟨wo, rfl⟩ : ∃ wo : World, wo = wr := ⟨_, rfl⟩
  by_cases hlt : i < t.syms.length
  ·have hi' : i < (mapTo renS i t.syms).length := by rw [mapTo_len]; exact hlt
   obtain ⟨g, rfl⟩ : ∃ g, B1 = some ⟨g, 0, none⟩ := by
    obtain ⟨g, ds, e, _⟩ := hh.out.syms.next hi'
    exact ⟨g, e⟩
   have h1 : (0:Int) ≤ (i:Int) := by omega
   have h2 : (i : Int) < (t.syms.length : Int) := by omega
   have hid := HIS.out _ (List.getElem_mem hlt)
   have hds2 : ¬ 9223372036854775807 < 1 + (decB (t.syms[i]).id).size := by have : (decB (t.syms[i]).id).size ≤ 21 := Lib.itoa_length_le _ hid.1 hid.2; omega
   have HID := Lib.hid hid
   have HS4 := Lib.hid hh.out
   clear hi' hid hh
   go_wp2_with fail
   refine wp_region_B (S := (fun w' => (w'.cell? ⟨w.heap.size, 5, none⟩ = some (.slice (some ⟨g, 0, none⟩) t.syms.length d1) ∧ w'.cell? ⟨g, i * 2, none⟩ = some (.int .i64 (t.syms[i]).id) ∧ (∃ s, w'.cell? ⟨g, i * 2 + 1, none⟩ = some s) ∧ w'.frozen? ⟨g, i * 2 + 1, none⟩ = false) ∧ Hid (RnB t t.name w S3 (some ⟨g, 0, none⟩) d1 Am cm i w'))) 13 (by kernel_rfl) ?_ (fun hHeld => ?_)
   ·(try dsimp only); exact rnB_hold (HS4.out.below (below_drewN (Below.refl _ _) 1)) hlt
   refine tkB0 0 ?v0 rfl (by kernel_rfl) (.inl ⟨by rfl, ?y0⟩) hHeld ?_
   case y0 => (intro w hSw; (try dsimp only at hSw); go_simp; try with_reducible rfl)
   (try simp only [ps])
   refine tkB 1 ?v1 rfl (by kernel_rfl) (.inl ⟨by rfl, ?y1⟩) hHeld ?_
   case y1 => (intro w hSw; (try dsimp only at hSw); go_simp; try with_reducible rfl)
   (try simp only [ps])
   refine tkB0 2 ?v2 rfl (by kernel_rfl) (.inl ⟨by rfl, ?y2⟩) hHeld ?_
   case y2 => (intro w hSw; (try dsimp only at hSw); go_simp; try with_reducible rfl)
   (try simp only [ps])
   refine tkB0 3 ?v3 rfl (by kernel_rfl) (.inl ⟨by rfl, ?y3⟩) hHeld ?_
   case y3 => (intro w hSw; (try dsimp only at hSw); go_simp; try with_reducible rfl)
   (try simp only [ps])
   refine tkB 4 ?v4 rfl (by kernel_rfl) (.inl ⟨by rfl, ?y4⟩) hHeld ?_
   case y4 => (intro w hSw; (try dsimp only at hSw); go_simp; try with_reducible rfl)
   (try simp only [ps])
   refine tkB0 5 ?v5 rfl (by kernel_rfl) (.inl ⟨by rfl, ?y5⟩) hHeld ?_
   case y5 => (intro w hSw; (try dsimp only at hSw); go_simp; try with_reducible rfl)
   (try simp only [ps])
   refine tkB0 6 ?v6 rfl (by kernel_rfl) (.inl ⟨by rfl, ?y6⟩) hHeld ?_
   case y6 => (intro w hSw; (try dsimp only at hSw); go_simp; try with_reducible rfl)
   (try simp only [ps])
   refine tkB0 7 ?v7 rfl (by kernel_rfl) (.inl ⟨by rfl, ?y7⟩) hHeld ?_
   case y7 => (intro w hSw; (try dsimp only at hSw); go_simp; try with_reducible rfl)
   (try simp only [ps])
   refine tkB 8 ?v8 rfl (by kernel_rfl) (.inl ⟨by rfl, ?y8⟩) hHeld ?_
   case y8 => (intro w hSw; (try dsimp only at hSw); go_simp; try with_reducible rfl)
   (try simp only [ps])
   refine anyB_ready (rs := [9]) (by kernel_rfl) (by simp) ?_
   refine (AllReadyB.cons rfl (fun K hK => ?_) AllReadyB.nil)
   go_simp
   (refine (itoa_any (t.syms[i]).id HID.out _ (HTB.out.below hHeld.2.out.bel)).mono ?_; rintro e w6 ⟨rfl, hb6⟩)
   refine hK.out _ _ ?_ (fun hHeld => ?_)
   ·(try dsimp only); exact rnB_hold (hHeld.2.out.below hb6) hlt
   clear hK K
   (try simp only [ps])
   refine tkB0 10 ?v9 rfl (by kernel_rfl) (.inl ⟨by rfl, ?y9⟩) hHeld ?_
   case y9 => (intro w hSw; (try dsimp only at hSw); go_simp; try with_reducible rfl)
   (try simp only [ps])
   refine tkB0 11 ?v10 rfl (by kernel_rfl) (.inl ⟨by rfl, ?y10⟩) hHeld ?_
   case y10 => (intro w hSw; (try dsimp only at hSw); go_simp; try with_reducible rfl)
   (try simp only [ps])
   refine tkB0 12 ?v11 rfl (by kernel_rfl) (.inl ⟨by rfl, ?y11⟩) hHeld ?_
   case y11 => (intro w hSw; (try dsimp only at hSw); go_simp; try with_reducible rfl)
   (try simp only [ps])
   refine anyB_ready (rs := [13]) (by kernel_rfl) (by simp) ?_
   refine AllReadyB.last rfl (by kernel_rfl) (fun K hK => ?_) AllReadyB.nil
   (have HH6 := Lib.hid hHeld.2.out; obtain ⟨⟨_, _, ⟨s0, hc0⟩, hf0⟩, _⟩ := hHeld; go_simp)
   refine hK.out _ _ ?_
   clear hK K
   (try clear hHeld)
   (try simp only [ps])
   refine wpAny_done (by kernel_rfl) ?_ _
   have HN := Lib.hid (HH6.out.sym hlt rfl HID.out)
   clear hc0 hf0 HH6
   go_wp2
   go_roundw
   case rel => exact ⟨i + 1, by omega, by go_num, HN.out⟩
   case measure => simp [intOf]; omega
  ·obtain rfl : i = t.syms.length := by omega
   have hc6 := (box10 hh.out.box).1.2.2.2.2.2.2.1
   have HS4 := Lib.hid hh.out
   clear hh
   go_wp2_with fail
   refine (cloneM HT.out.mems HS4.out.bel).mono ?_
   rintro e w3 ⟨B2, d2, rfl, hb3, hg3, hk3⟩
   have hbx3 := (hb3.block _ (Array.getElem?_eq_some_iff.1 HS4.out.box).1).trans HS4.out.box
   have hc7 := (box10 hbx3).1.2.2.2.2.2.2.1
   have hf7 := (box10 hbx3).2 6
   have HSC := Lib.hid (rnC_start (ix := ix) HS4.out hb3 hg3 hk3)
   clear hb3 hg3 hk3 hbx3 hc6
   go_wp2
   clear hc7 hf7
   generalize w3.heap.size = M3 at *
   generalize w3.setCell ⟨w.heap.size, 6, none⟩ (.slice B2 t.mems.length d2) = W3 at *
   go_loopw [48] (fun s wr => ∃ j : Nat, j ≤ t.mems.length ∧ s = .int .i64 j ∧ Hid (RnC t t.name ix w S3 M3 B1 d1 B2 d2 j wr)) (fun s _ => t.mems.length - (intOf s).toNat)
   case atStart => exact ⟨0, by omega, rfl, HSC.out⟩
   case round =>
    obtain ⟨j, hj, rfl, hh⟩ := hrel
    obtain ⟨wo, rfl⟩ : ∃ wo : World, wo = wr := ⟨_, rfl⟩
    by_cases hlt : j < t.mems.length
    ·obtain ⟨g, E1, e1, E2, e2, E3, e3, rfl, hrg, hmr⟩ := hh.out.next hlt
     have h1 : (0:Int) ≤ (j:Int) := by omega
     have h2 : (j : Int) < (t.mems.length : Int) := by omega
     have hid := HIM.out _ (List.getElem_mem hlt)
     have hds2 : ¬ 9223372036854775807 < 1 + (decB (t.mems[j]).id).size := by have : (decB (t.mems[j]).id).size ≤ 21 := Lib.itoa_length_le _ hid.1 hid.2; omega
     have HID := Lib.hid hid
     have HUS : Hid (((t.mems[j]).id, (t.mems[j]).type) ∈ usesD t) := by
      show _ ∈ _
      rw [uses_tail]
      exact List.mem_append_left _ (List.mem_append_left _ (List.mem_map.2 ⟨_, List.getElem_mem hlt, rfl⟩))
     have hc6 := (box10 hh.out.b.box).1.2.2.2.2.2.2.1
     have HS5 := Lib.hid hh.out
     have HRG := Lib.hid hrg
     have HMR := Lib.hid hmr
     clear hid hh hrg hmr
     go_wp2_with fail
     clear hc6
     refine wp_region_B (S := (fun w' => ((w'.cell? ⟨g, j * 13, none⟩ = some (.int .i64 (t.mems[j]).id) ∧ w'.cell? ⟨g, j * 13 + 1, none⟩ = some (.string (t.mems[j]).name) ∧ w'.cell? ⟨g, j * 13 + 2, none⟩ = some (.int .i64 (t.mems[j]).type) ∧ w'.cell? ⟨g, j * 13 + 5, none⟩ = some (.int .i64 (t.mems[j]).dflt.kind) ∧ w'.cell? ⟨g, j * 13 + 6, none⟩ = some (.bool (t.mems[j]).dflt.bool) ∧ w'.cell? ⟨g, j * 13 + 7, none⟩ = some (.int .i64 (t.mems[j]).dflt.int) ∧ w'.cell? ⟨g, j * 13 + 8, none⟩ = some (.string (t.mems[j]).dflt.str) ∧ w'.cell? ⟨g, j * 13 + 9, none⟩ = some (.int .i64 (t.mems[j]).dflt.id) ∧ w'.cell? ⟨g, j * 13 + 10, none⟩ = some (.slice E1 (t.mems[j]).dflt.keys.length e1) ∧ w'.cell? ⟨g, j * 13 + 11, none⟩ = some (.slice E2 (t.mems[j]).dflt.items.length e2) ∧ w'.cell? ⟨g, j * 13 + 12, none⟩ = some (.slice E3 (t.mems[j]).dflt.rest.length e3)) ∧ (w'.frozen? ⟨g, j * 13 + 1, none⟩ = false ∧ w'.frozen? ⟨g, j * 13 + 2, none⟩ = false)) ∧ Hid (RnC t t.name ix w S3 M3 B1 d1 (some ⟨g, 0, none⟩) d2 j w' ∧ w'.rangeAt g (j * 13) ((t.mems[j]).cs E1 e1 E2 e2 E3 e3) ∧ MemR w' t.mems[j] E1 E2 E3))) 22 (by kernel_rfl) ?_ (fun hHeld => ?_)
     ·(try dsimp only); exact rnC_hold (HS5.out.below (below_drewN (Below.refl _ _) 1)) hlt HRG.out (HMR.out.below (below_drewN (Below.refl _ _) 1))
     refine tkB0 0 ?v12 rfl (by kernel_rfl) (.inl ⟨by rfl, ?y12⟩) hHeld ?_
     case y12 => (intro w hSw; (try dsimp only at hSw); go_simp; try with_reducible rfl)
     (try simp only [ps])
     refine tkB0 1 ?v13 rfl (by kernel_rfl) (.inl ⟨by rfl, ?y13⟩) hHeld ?_
     case y13 => (intro w hSw; (try dsimp only at hSw); go_simp; try with_reducible rfl)
     (try simp only [ps])
     refine tkB0 2 ?v14 rfl (by kernel_rfl) (.inl ⟨by rfl, ?y14⟩) hHeld ?_
     case y14 => (intro w hSw; (try dsimp only at hSw); go_simp; try with_reducible rfl)
     (try simp only [ps])
     refine tkB0 3 ?v15 rfl (by kernel_rfl) (.inl ⟨by rfl, ?y15⟩) hHeld ?_
     case y15 => (intro w hSw; (try dsimp only at hSw); go_simp; try with_reducible rfl)
     (try simp only [ps])
     refine tkB0 4 ?v16 rfl (by kernel_rfl) (.inl ⟨by rfl, ?y16⟩) hHeld ?_
     case y16 => (intro w hSw; (try dsimp only at hSw); go_simp; try with_reducible rfl)
     (try simp only [ps])
     refine tkB0 5 ?v17 rfl (by kernel_rfl) (.inl ⟨by rfl, ?y17⟩) hHeld ?_
     case y17 => (intro w hSw; (try dsimp only at hSw); go_simp; try with_reducible rfl)
     (try simp only [ps])
     refine tkB 6 ?v18 rfl (by kernel_rfl) (.inl ⟨by rfl, ?y18⟩) hHeld ?_
     case y18 => (intro w hSw; (try dsimp only at hSw); go_simp; try with_reducible rfl)
     (try simp only [ps])
     refine tkB0 9 ?v19 rfl (by kernel_rfl) (.inl ⟨by rfl, ?y19⟩) hHeld ?_
     case y19 => (intro w hSw; (try dsimp only at hSw); go_simp; try with_reducible rfl)
     (try simp only [ps])
     refine tkB0 10 ?v20 rfl (by kernel_rfl) (.inl ⟨by rfl, ?y20⟩) hHeld ?_
     case y20 => (intro w hSw; (try dsimp only at hSw); go_simp; try with_reducible rfl)
     (try simp only [ps])
     refine tkB0 11 ?v21 rfl (by kernel_rfl) (.inl ⟨by rfl, ?y21⟩) hHeld ?_
     case y21 => (intro w hSw; (try dsimp only at hSw); go_simp; try with_reducible rfl)
     (try simp only [ps])
     refine tkB0 12 ?v22 rfl (by kernel_rfl) (.inl ⟨by rfl, ?y22⟩) hHeld ?_
     case y22 => (intro w hSw; (try dsimp only at hSw); go_simp; try with_reducible rfl)
     (try simp only [ps])
     refine tkB 13 ?v23 rfl (by kernel_rfl) (.inl ⟨by rfl, ?y23⟩) hHeld ?_
     case y23 => (intro w hSw; (try dsimp only at hSw); go_simp; try with_reducible rfl)
     (try simp only [ps])
     refine tkB0 15 ?v24 rfl (by kernel_rfl) (.inl ⟨by rfl, ?y24⟩) hHeld ?_
     case y24 => (intro w hSw; (try dsimp only at hSw); go_simp; try with_reducible rfl)
     (try simp only [ps])
     refine tkB0 16 ?v25 rfl (by kernel_rfl) (.inl ⟨by rfl, ?y25⟩) hHeld ?_
     case y25 => (intro w hSw; (try dsimp only at hSw); go_simp; try with_reducible rfl)
     (try simp only [ps])
     refine tkB0 17 ?v26 rfl (by kernel_rfl) (.inl ⟨by rfl, ?y26⟩) hHeld ?_
     case y26 => (intro w hSw; (try dsimp only at hSw); go_simp; try with_reducible rfl)
     (try simp only [ps])
     refine tkB 18 ?v27 rfl (by kernel_rfl) (.inl ⟨by rfl, ?y27⟩) hHeld ?_
     case y27 => (intro w hSw; (try dsimp only at hSw); go_simp; try with_reducible rfl)
     (try simp only [ps])
     refine anyB_ready (rs := [7]) (by kernel_rfl) (by simp) ?_
     refine (AllReadyB.cons rfl (fun K hK => ?_) AllReadyB.nil)
     go_simp
     (refine (itoa_any (t.mems[j]).id HID.out _ (HTB.out.below hHeld.2.out.1.b.bel)).mono ?_; rintro e w6 ⟨rfl, hb6⟩)
     refine hK.out _ _ ?_ (fun hHeld => ?_)
     ·(try dsimp only); exact rnC_hold (hHeld.2.out.1.below hb6) hlt (range_below hb6 hHeld.2.out.2.1) (hHeld.2.out.2.2.below hb6)
     clear hK K
     (try simp only [ps])
     refine tkB0 8 ?v28 rfl (by kernel_rfl) (.inl ⟨by rfl, ?y28⟩) hHeld ?_
     case y28 => (intro w hSw; (try dsimp only at hSw); go_simp; try with_reducible rfl)
     (try simp only [ps])
     refine anyB_ready (rs := [14]) (by kernel_rfl) (by simp) ?_
     refine (AllReadyB.cons rfl (fun K hK => ?_) AllReadyB.nil)
     go_simp
     (refine (HIX.out _ hHeld.2.out.1.b.bel _ HUS.out).mono ?_; rintro e w7 ⟨rfl, hb7⟩)
     refine hK.out _ _ ?_ (fun hHeld => ?_)
     ·(try dsimp only); exact rnC_hold (hHeld.2.out.1.below hb7) hlt (range_below hb7 hHeld.2.out.2.1) (hHeld.2.out.2.2.below hb7)
     clear hK K
     refine anyB_ready (rs := [19]) (by kernel_rfl) (by simp) ?_
     refine (AllReadyB.cons rfl (fun K hK => ?_) AllReadyB.nil)
     go_simp
     (refine (copied_any (t.mems[j]).dflt E1 e1 E2 e2 E3 e3 _ hHeld.2.out.2.2.dflt).mono ?_; rintro e w8 ⟨F1, f1, F2, f2, F3, f3, rfl, hoff, hb8⟩; have HOF := Lib.hid hoff; have HLE := Lib.hid hHeld.2.out.1.hi; clear hoff)
     refine hK.out _ _ ?_ (fun hHeld => ?_)
     ·(try dsimp only); exact rnC_hold (hHeld.2.out.1.below hb8) hlt (range_below hb8 hHeld.2.out.2.1) (hHeld.2.out.2.2.below hb8)
     clear hK K
     (try simp only [ps])
     refine tkB0 20 ?v29 rfl (by kernel_rfl) (.inl ⟨by rfl, ?y29⟩) hHeld ?_
     case y29 => (intro w hSw; (try dsimp only at hSw); go_simp; try with_reducible rfl)
     (try simp only [ps])
     refine tkB0 21 ?v30 rfl (by kernel_rfl) (.inl ⟨by rfl, ?y30⟩) hHeld ?_
     case y30 => (intro w hSw; (try dsimp only at hSw); go_simp; try with_reducible rfl)
     (try simp only [ps])
     refine anyB_ready (rs := [22]) (by kernel_rfl) (by simp) ?_
     refine AllReadyB.last rfl (by kernel_rfl) (fun K hK => ?_) AllReadyB.nil
     (have HH8 := Lib.hid hHeld.2.out.1; obtain ⟨⟨⟨_, hk1, hk2, _⟩, hf1, hf2⟩, _⟩ := hHeld; go_simp)
     refine hK.out _ _ ?_
     clear hK K
     (try clear hHeld)
     (try simp only [ps])
     refine tkA 23 ?v31 rfl (by kernel_rfl) (.inl ⟨by rfl, ?y31⟩) ?_
     case y31 => (intro w; go_simp; try with_reducible rfl)
     (try simp only [ps])
     refine tkA 24 ?v32 rfl (by kernel_rfl) (.inl ⟨by rfl, ?y32⟩) ?_
     case y32 => (intro w; go_simp; try with_reducible rfl)
     (try simp only [ps])
     refine wpAny_ready (rs := [25]) (by kernel_rfl) (by simp) ?_
     refine (AllReady.cons rfl (fun K hK => ?_) AllReady.nil)
     go_simp
     refine hK _ _ ?_
     clear hK K
     (try simp only [ps])
     refine tkA 26 ?v33 rfl (by kernel_rfl) (.inl ⟨by rfl, ?y33⟩) ?_
     case y33 => (intro w; go_simp; try with_reducible rfl)
     (try simp only [ps])
     refine tkA 27 ?v34 rfl (by kernel_rfl) (.inl ⟨by rfl, ?y34⟩) ?_
     case y34 => (intro w; go_simp; try with_reducible rfl)
     (try simp only [ps])
     refine wpAny_ready (rs := [28]) (by kernel_rfl) (by simp) ?_
     refine (AllReady.cons rfl (fun K hK => ?_) AllReady.nil)
     (simp only [List.getElem_toArray, List.getElem_cons_zero, List.getElem_cons_succ]; rw [if_pos (by rfl)]; refine wp_store_mid 81 (.tmp 80) (.tmp 74) rfl (g) (j * 13 + 5) (#[.int .i64 (t.mems[j]).dflt.kind, .bool (t.mems[j]).dflt.bool, .int .i64 (t.mems[j]).dflt.int, .string (t.mems[j]).dflt.str, .int .i64 (t.mems[j]).dflt.id, .slice F1 (t.mems[j]).dflt.keys.length f1, .slice F2 (t.mems[j]).dflt.items.length f2, .slice F3 (t.mems[j]).dflt.rest.length f3]) (by rfl) (by rfl) ?_ ?_ ?_ ?_; (exact HH8.out.there8 hlt _ _); (exact val_info); (exact val_one _ _ _ _ _ _ _))
     refine hK _ _ ?_
     clear hK K
     (try simp only [ps])
     refine wpAny_done (by kernel_rfl) ?_ _
     have HN := Lib.hid (HH8.out.mem hlt rfl HID.out HLE.out HOF.out (f1 := f1) (f2 := f2) (f3 := f3))
     clear HH8 hk1 hk2 hf1 hf2
     go_wp2
     go_roundw
     case rel => exact ⟨j + 1, by omega, by go_num, HN.out⟩
     case measure => simp [intOf]; omega
    ·obtain rfl : j = t.mems.length := by omega
     obtain ⟨⟨a0, a1, a2, a3, a4, a5, a6, a7, a8, a9⟩, _⟩ := box10 hh.out.b.box
     have HS6 := Lib.hid hh.out
     clear hh
     by_cases hk8 : t.kind = 8
     ·have hk := hk8
      have HK := Lib.hid hk
      have q8 : (t.kind == 8) = true := by simp [hk]
      have HU1 : Hid (((0 : Int), t.key) ∈ usesD t) := by show _ ∈ _; rw [uses_tail]; simp [hk]
      have HU2 : Hid (((-1 : Int), t.elem) ∈ usesD t) := by show _ ∈ _; rw [uses_tail]; simp [hk]
      clear hk hk8
      go_wp2_with fail
      refine (HIX.out _ HS6.out.b.bel _ HU1.out).mono ?_
      rintro e w4 ⟨rfl, hb4⟩
      have HX4 := Lib.hid ((hb4.block _ (Array.getElem?_eq_some_iff.1 HS6.out.b.box).1).trans HS6.out.b.box)
      obtain ⟨⟨b0, b1, b2, b3, b4, b5, b6, b7, b8, b9⟩, bf⟩ := box10 HX4.out
      have bf7 := bf 7
      have HX5 : Hid ((w4.setCell ⟨w.heap.size, 7, none⟩ (.int .i64 (ix t.key))).heap[w.heap.size]? = some (({ named t t.name with key := ix t.key } : TyD).box B1 d1 B2 d2)) := by show _ = _; rw [heap_setCell_same _ _ 7 _ _ _ HX4.out]; rfl
      have HB4 : Hid (Below w.heap.size w (w4.setCell ⟨w.heap.size, 7, none⟩ (.int .i64 (ix t.key)))) := (below_trans HS6.out.b.bel hb4).setCell (p := ⟨w.heap.size, 7, none⟩) (Nat.le_refl _) _
      have HK4 : Hid (wo.heap.size ≤ (w4.setCell ⟨w.heap.size, 7, none⟩ (.int .i64 (ix t.key))).heap.size ∧ ∀ q, q ≠ w.heap.size → q < wo.heap.size → (w4.setCell ⟨w.heap.size, 7, none⟩ (.int .i64 (ix t.key))).heap[q]? = wo.heap[q]?) := ⟨by have := hb4.size; simp; exact this, fun q hq hl => (heap_setCell_other _ _ _ _ (by simpa using hq)).trans (hb4.block q hl)⟩
      clear hb4 bf
      go_wp2_with fail
      clear b0 b1 b2 b3 b4 b5 b6 b7 b8 b9 bf7
      generalize w4.setCell ⟨w.heap.size, 7, none⟩ (.int .i64 (ix t.key)) = w5 at *
      refine (HIX.out _ HB4.out _ HU2.out).mono ?_
      rintro e w6 ⟨rfl, hb6⟩
      have HX6 := Lib.hid ((hb6.block _ (Array.getElem?_eq_some_iff.1 HX5.out).1).trans HX5.out)
      obtain ⟨⟨b0, b1, b2, b3, b4, b5, b6, b7, b8, b9⟩, bf⟩ := box10 HX6.out
      have bf8 := bf 8
      have HX7 : Hid ((w6.setCell ⟨w.heap.size, 8, none⟩ (.int .i64 (ix t.elem))).heap[w.heap.size]? = some (({ named t t.name with key := ix t.key, elem := ix t.elem } : TyD).box B1 d1 B2 d2)) := by show _ = _; rw [heap_setCell_same _ _ 8 _ _ _ HX6.out]; rfl
      have HB7 : Hid (Below w.heap.size w (w6.setCell ⟨w.heap.size, 8, none⟩ (.int .i64 (ix t.elem)))) := (below_trans HB4.out hb6).setCell (p := ⟨w.heap.size, 8, none⟩) (Nat.le_refl _) _
      have HK7 : Hid (wo.heap.size ≤ (w6.setCell ⟨w.heap.size, 8, none⟩ (.int .i64 (ix t.elem))).heap.size ∧ ∀ q, q ≠ w.heap.size → q < wo.heap.size → (w6.setCell ⟨w.heap.size, 8, none⟩ (.int .i64 (ix t.elem))).heap[q]? = wo.heap[q]?) := ⟨by have := hb6.size; have := HK4.out.1; simp; omega, fun q hq hl => ((heap_setCell_other _ _ _ _ (by simpa using hq)).trans (hb6.block q (by have := HK4.out.1; omega))).trans (HK4.out.2 q hq hl)⟩
      have HTH : Hid ((w6.setCell ⟨w.heap.size, 8, none⟩ (.int .i64 (ix t.elem))).there (w.heap.size + 1) 0 10) := there_boxT ((HK7.out.2 _ (by omega) (by have := HS6.out.b.lo; have := HS6.out.b.hi; omega)).trans HS6.out.b.res)
      clear hb6 bf
      have HRD : Hid ((renD n ix t).cs B1 d1 B2 d2 = [.int .i64 t.kind, .string t.name, .int .i64 t.low, .int .i64 t.high, .int .i64 t.max, .slice B1 t.syms.length d1, .slice B2 t.mems.length d2, .int .i64 (ix t.key), .int .i64 (ix t.elem), .bool t.open_]) := by
       show _ = _
       have hk := HK.out
       unfold renD
       simp [HNM.out, hk]
      have HFN := Lib.hid (rn_end HS6.out HT.out.name HT.out.syms HT.out.mems (r := renD n ix t) (by unfold renD; simp [HNM.out]) rfl rfl HK7.out.1 HK7.out.2 HB7.out _ HRD.out)
      go_wp2_with (refine wpList_store_mid rfl 70 (.tmp 6) (.tmp 108) rfl (w.heap.size + 1) 0 #[.int .i64 t.kind, .string t.name, .int .i64 t.low, .int .i64 t.high, .int .i64 t.max, .slice B1 t.syms.length d1, .slice B2 t.mems.length d2, .int .i64 (ix t.key), .int .i64 (ix t.elem), .bool t.open_] (by rfl) (by rfl) ?_ ?_ ?_ ?_; (exact HTH.out); (exact ty_info); (exact ty_one ({ named t t.name with key := ix t.key, elem := ix t.elem } : TyD) _ _ _ _))
      obtain ⟨hrange, hoff, hbf⟩ := HFN.out
      have k := fun j v hv => hrange j v hv
      simp only [Nat.zero_add] at k
      have k0 := k 0 _ rfl
      have k1 := k 1 _ rfl
      have k2 := k 2 _ rfl
      have k3 := k 3 _ rfl
      have k4 := k 4 _ rfl
      have k5 := k 5 _ rfl
      have k6 := k 6 _ rfl
      have k7 := k 7 _ rfl
      have k8 := k 8 _ rfl
      have k9 := k 9 _ rfl
      have HFO := Lib.hid hoff
      have HFB := Lib.hid hbf
      clear k hrange hoff hbf HFN
      exact bodyPost_ret (v := .agg #[.int .i64 t.kind, .string t.name, .int .i64 t.low, .int .i64 t.high, .int .i64 t.max, .slice B1 t.syms.length d1, .slice B2 t.mems.length d2, .int .i64 (ix t.key), .int .i64 (ix t.elem), .bool t.open_]) (by simp [results, Tryz.results47, go_sem, k0, k1, k2, k3, k4, k5, k6, k7, k8, k9]) rfl ⟨B1, d1, B2, d2, congrArg (fun l => Ending.returned (.agg l.toArray)) HRD.out.symm, HFO.out, HFB.out⟩
     by_cases hk7 : t.kind = 7
     ·have hk := hk7
      have HK := Lib.hid hk
      have q8 : (t.kind == 8) = false := by simp [hk]
      have q7 : (t.kind == 7) = true := by simp [hk]
      have HU2 : Hid (((-1 : Int), t.elem) ∈ usesD t) := by show _ ∈ _; rw [uses_tail]; simp [hk]
      clear hk hk7 hk8
      have HX5 := Lib.hid HS6.out.b.box
      have HB4 := Lib.hid HS6.out.b.bel
      go_wp2_with fail
      refine (HIX.out _ HB4.out _ HU2.out).mono ?_
      rintro e w6 ⟨rfl, hb6⟩
      have HX6 := Lib.hid ((hb6.block _ (Array.getElem?_eq_some_iff.1 HX5.out).1).trans HX5.out)
      obtain ⟨⟨b0, b1, b2, b3, b4, b5, b6, b7, b8, b9⟩, bf⟩ := box10 HX6.out
      have bf8 := bf 8
      have HX7 : Hid ((w6.setCell ⟨w.heap.size, 8, none⟩ (.int .i64 (ix t.elem))).heap[w.heap.size]? = some (({ named t t.name with elem := ix t.elem } : TyD).box B1 d1 B2 d2)) := by show _ = _; rw [heap_setCell_same _ _ 8 _ _ _ HX6.out]; rfl
      have HB7 : Hid (Below w.heap.size w (w6.setCell ⟨w.heap.size, 8, none⟩ (.int .i64 (ix t.elem)))) := (below_trans HB4.out hb6).setCell (p := ⟨w.heap.size, 8, none⟩) (Nat.le_refl _) _
      have HK7 : Hid (wo.heap.size ≤ (w6.setCell ⟨w.heap.size, 8, none⟩ (.int .i64 (ix t.elem))).heap.size ∧ ∀ q, q ≠ w.heap.size → q < wo.heap.size → (w6.setCell ⟨w.heap.size, 8, none⟩ (.int .i64 (ix t.elem))).heap[q]? = wo.heap[q]?) := ⟨by have := hb6.size; simp; exact this, fun q hq hl => ((heap_setCell_other _ _ _ _ (by simpa using hq)).trans (hb6.block q hl))⟩
      have HTH : Hid ((w6.setCell ⟨w.heap.size, 8, none⟩ (.int .i64 (ix t.elem))).there (w.heap.size + 1) 0 10) := there_boxT ((HK7.out.2 _ (by omega) (by have := HS6.out.b.lo; have := HS6.out.b.hi; omega)).trans HS6.out.b.res)
      clear hb6 bf
      have HRD : Hid ((renD n ix t).cs B1 d1 B2 d2 = [.int .i64 t.kind, .string t.name, .int .i64 t.low, .int .i64 t.high, .int .i64 t.max, .slice B1 t.syms.length d1, .slice B2 t.mems.length d2, .int .i64 (t.key), .int .i64 (ix t.elem), .bool t.open_]) := by
       show _ = _
       have hk := HK.out
       unfold renD
       simp [HNM.out, hk]
      have HFN := Lib.hid (rn_end HS6.out HT.out.name HT.out.syms HT.out.mems (r := renD n ix t) (by unfold renD; simp [HNM.out]) rfl rfl HK7.out.1 HK7.out.2 HB7.out _ HRD.out)
      go_wp2_with (refine wpList_store_mid rfl 70 (.tmp 6) (.tmp 108) rfl (w.heap.size + 1) 0 #[.int .i64 t.kind, .string t.name, .int .i64 t.low, .int .i64 t.high, .int .i64 t.max, .slice B1 t.syms.length d1, .slice B2 t.mems.length d2, .int .i64 (t.key), .int .i64 (ix t.elem), .bool t.open_] (by rfl) (by rfl) ?_ ?_ ?_ ?_; (exact HTH.out); (exact ty_info); (exact ty_one ({ named t t.name with elem := ix t.elem } : TyD) _ _ _ _))
      obtain ⟨hrange, hoff, hbf⟩ := HFN.out
      have k := fun j v hv => hrange j v hv
      simp only [Nat.zero_add] at k
      have k0 := k 0 _ rfl
      have k1 := k 1 _ rfl
      have k2 := k 2 _ rfl
      have k3 := k 3 _ rfl
      have k4 := k 4 _ rfl
      have k5 := k 5 _ rfl
      have k6 := k 6 _ rfl
      have k7 := k 7 _ rfl
      have k8 := k 8 _ rfl
      have k9 := k 9 _ rfl
      have HFO := Lib.hid hoff
      have HFB := Lib.hid hbf
      clear k hrange hoff hbf HFN
      exact bodyPost_ret (v := .agg #[.int .i64 t.kind, .string t.name, .int .i64 t.low, .int .i64 t.high, .int .i64 t.max, .slice B1 t.syms.length d1, .slice B2 t.mems.length d2, .int .i64 (t.key), .int .i64 (ix t.elem), .bool t.open_]) (by simp [results, Tryz.results47, go_sem, k0, k1, k2, k3, k4, k5, k6, k7, k8, k9]) rfl ⟨B1, d1, B2, d2, congrArg (fun l => Ending.returned (.agg l.toArray)) HRD.out.symm, HFO.out, HFB.out⟩
     by_cases hk9 : t.kind = 9
     ·have hk := hk9
      have HK := Lib.hid hk
      have q8 : (t.kind == 8) = false := by simp [hk]
      have q7 : (t.kind == 7) = false := by simp [hk]
      have q9 : (t.kind == 9) = true := by simp [hk]
      have HU2 : Hid (((-1 : Int), t.elem) ∈ usesD t) := by show _ ∈ _; rw [uses_tail]; simp [hk]
      clear hk hk7 hk8 hk9
      have HX5 := Lib.hid HS6.out.b.box
      have HB4 := Lib.hid HS6.out.b.bel
      go_wp2_with fail
      refine (HIX.out _ HB4.out _ HU2.out).mono ?_
      rintro e w6 ⟨rfl, hb6⟩
      have HX6 := Lib.hid ((hb6.block _ (Array.getElem?_eq_some_iff.1 HX5.out).1).trans HX5.out)
      obtain ⟨⟨b0, b1, b2, b3, b4, b5, b6, b7, b8, b9⟩, bf⟩ := box10 HX6.out
      have bf8 := bf 8
      have HX7 : Hid ((w6.setCell ⟨w.heap.size, 8, none⟩ (.int .i64 (ix t.elem))).heap[w.heap.size]? = some (({ named t t.name with elem := ix t.elem } : TyD).box B1 d1 B2 d2)) := by show _ = _; rw [heap_setCell_same _ _ 8 _ _ _ HX6.out]; rfl
      have HB7 : Hid (Below w.heap.size w (w6.setCell ⟨w.heap.size, 8, none⟩ (.int .i64 (ix t.elem)))) := (below_trans HB4.out hb6).setCell (p := ⟨w.heap.size, 8, none⟩) (Nat.le_refl _) _
      have HK7 : Hid (wo.heap.size ≤ (w6.setCell ⟨w.heap.size, 8, none⟩ (.int .i64 (ix t.elem))).heap.size ∧ ∀ q, q ≠ w.heap.size → q < wo.heap.size → (w6.setCell ⟨w.heap.size, 8, none⟩ (.int .i64 (ix t.elem))).heap[q]? = wo.heap[q]?) := ⟨by have := hb6.size; simp; exact this, fun q hq hl => ((heap_setCell_other _ _ _ _ (by simpa using hq)).trans (hb6.block q hl))⟩
      have HTH : Hid ((w6.setCell ⟨w.heap.size, 8, none⟩ (.int .i64 (ix t.elem))).there (w.heap.size + 1) 0 10) := there_boxT ((HK7.out.2 _ (by omega) (by have := HS6.out.b.lo; have := HS6.out.b.hi; omega)).trans HS6.out.b.res)
      clear hb6 bf
      have HRD : Hid ((renD n ix t).cs B1 d1 B2 d2 = [.int .i64 t.kind, .string t.name, .int .i64 t.low, .int .i64 t.high, .int .i64 t.max, .slice B1 t.syms.length d1, .slice B2 t.mems.length d2, .int .i64 (t.key), .int .i64 (ix t.elem), .bool t.open_]) := by
       show _ = _
       have hk := HK.out
       unfold renD
       simp [HNM.out, hk]
      have HFN := Lib.hid (rn_end HS6.out HT.out.name HT.out.syms HT.out.mems (r := renD n ix t) (by unfold renD; simp [HNM.out]) rfl rfl HK7.out.1 HK7.out.2 HB7.out _ HRD.out)
      go_wp2_with (refine wpList_store_mid rfl 70 (.tmp 6) (.tmp 108) rfl (w.heap.size + 1) 0 #[.int .i64 t.kind, .string t.name, .int .i64 t.low, .int .i64 t.high, .int .i64 t.max, .slice B1 t.syms.length d1, .slice B2 t.mems.length d2, .int .i64 (t.key), .int .i64 (ix t.elem), .bool t.open_] (by rfl) (by rfl) ?_ ?_ ?_ ?_; (exact HTH.out); (exact ty_info); (exact ty_one ({ named t t.name with elem := ix t.elem } : TyD) _ _ _ _))
      obtain ⟨hrange, hoff, hbf⟩ := HFN.out
      have k := fun j v hv => hrange j v hv
      simp only [Nat.zero_add] at k
      have k0 := k 0 _ rfl
      have k1 := k 1 _ rfl
      have k2 := k 2 _ rfl
      have k3 := k 3 _ rfl
      have k4 := k 4 _ rfl
      have k5 := k 5 _ rfl
      have k6 := k 6 _ rfl
      have k7 := k 7 _ rfl
      have k8 := k 8 _ rfl
      have k9 := k 9 _ rfl
      have HFO := Lib.hid hoff
      have HFB := Lib.hid hbf
      clear k hrange hoff hbf HFN
      exact bodyPost_ret (v := .agg #[.int .i64 t.kind, .string t.name, .int .i64 t.low, .int .i64 t.high, .int .i64 t.max, .slice B1 t.syms.length d1, .slice B2 t.mems.length d2, .int .i64 (t.key), .int .i64 (ix t.elem), .bool t.open_]) (by simp [results, Tryz.results47, go_sem, k0, k1, k2, k3, k4, k5, k6, k7, k8, k9]) rfl ⟨B1, d1, B2, d2, congrArg (fun l => Ending.returned (.agg l.toArray)) HRD.out.symm, HFO.out, HFB.out⟩
     have hk : ¬ (t.kind = 8 ∨ t.kind = 7 ∨ t.kind = 9) := fun h => h.elim hk8 fun h => h.elim hk7 hk9
     have HK := Lib.hid hk
     have q8 : (t.kind == 8) = false := by have : t.kind ≠ 8 := fun e => hk (.inl e); simp [this]
     have q7 : (t.kind == 7) = false := by have : t.kind ≠ 7 := fun e => hk (.inr (.inl e)); simp [this]
     have q9 : (t.kind == 9) = false := by have : t.kind ≠ 9 := fun e => hk (.inr (.inr e)); simp [this]
     clear hk hk7 hk8 hk9
     have HX7 := Lib.hid HS6.out.b.box
     have HB7 := Lib.hid HS6.out.b.bel
     have HK7 : Hid (wo.heap.size ≤ wo.heap.size ∧ ∀ q, q ≠ w.heap.size → q < wo.heap.size → wo.heap[q]? = wo.heap[q]?) := ⟨Nat.le_refl _, fun _ _ _ => rfl⟩
     have HTH : Hid (wo.there (w.heap.size + 1) 0 10) := there_boxT HS6.out.b.res
     have HRD : Hid ((renD n ix t).cs B1 d1 B2 d2 = [.int .i64 t.kind, .string t.name, .int .i64 t.low, .int .i64 t.high, .int .i64 t.max, .slice B1 t.syms.length d1, .slice B2 t.mems.length d2, .int .i64 (t.key), .int .i64 (t.elem), .bool t.open_]) := by
      show _ = _
      have hk := HK.out
      unfold renD
      simp [HNM.out, show t.kind ≠ 8 from fun e => hk (.inl e), show t.kind ≠ 7 from fun e => hk (.inr (.inl e)), show t.kind ≠ 9 from fun e => hk (.inr (.inr e))]
     have HFN := Lib.hid (rn_end HS6.out HT.out.name HT.out.syms HT.out.mems (r := renD n ix t) (by unfold renD; simp [HNM.out]) rfl rfl HK7.out.1 HK7.out.2 HB7.out _ HRD.out)
     go_wp2_with (refine wpList_store_mid rfl 70 (.tmp 6) (.tmp 108) rfl (w.heap.size + 1) 0 #[.int .i64 t.kind, .string t.name, .int .i64 t.low, .int .i64 t.high, .int .i64 t.max, .slice B1 t.syms.length d1, .slice B2 t.mems.length d2, .int .i64 (t.key), .int .i64 (t.elem), .bool t.open_] (by rfl) (by rfl) ?_ ?_ ?_ ?_; (exact HTH.out); (exact ty_info); (exact ty_one (named t t.name) _ _ _ _))
     obtain ⟨hrange, hoff, hbf⟩ := HFN.out
     have k := fun j v hv => hrange j v hv
     simp only [Nat.zero_add] at k
     have k0 := k 0 _ rfl
     have k1 := k 1 _ rfl
     have k2 := k 2 _ rfl
     have k3 := k 3 _ rfl
     have k4 := k 4 _ rfl
     have k5 := k 5 _ rfl
     have k6 := k 6 _ rfl
     have k7 := k 7 _ rfl
     have k8 := k 8 _ rfl
     have k9 := k 9 _ rfl
     have HFO := Lib.hid hoff
     have HFB := Lib.hid hbf
     clear k hrange hoff hbf HFN
     exact bodyPost_ret (v := .agg #[.int .i64 t.kind, .string t.name, .int .i64 t.low, .int .i64 t.high, .int .i64 t.max, .slice B1 t.syms.length d1, .slice B2 t.mems.length d2, .int .i64 (t.key), .int .i64 (t.elem), .bool t.open_]) (by simp [results, Tryz.results47, go_sem, k0, k1, k2, k3, k4, k5, k6, k7, k8, k9]) rfl ⟨B1, d1, B2, d2, congrArg (fun l => Ending.returned (.agg l.toArray)) HRD.out.symm, HFO.out, HFB.out⟩
set_option maxHeartbeats 4000000 in
set_option maxRecDepth 100000 in
theorem renamed_n (t : TyD) (hname : t.name ≠ ⟨#[]⟩) (n : Nat) (hn : n ≤ 1000) (p q : Nat) (ix : Int → Int) (As : Option Addr) (cs : Nat) (Am : Option Addr) (cm : Nat) (w : World) (ht : TyR w t As Am) (hids : ∀ s ∈ t.syms, In64 s.id) (hidm : ∀ m ∈ t.mems, In64 m.id) (hix : IxOk p q ix (usesD t) w) (htab : Tab w) :
  Calls Tryz.prog 47 #[t.v As cs Am cm, .int .i64 n, .func (.func 48) #[] #[.pointer (some ⟨p, 0, none⟩), .pointer (some ⟨q, 0, none⟩)]] w (RenPost (renD n ix t) w) := by
 have hls : t.syms.length ≤ 5864062014805 := by have := ht.syms.1; unfold Lim at this; omega
 have hlm : t.mems.length ≤ 879609302220 := by have := ht.mems.1; unfold Lim at this; omega
 have HT := Lib.hid ht
 have HIX := Lib.hid hix
 have HTB := Lib.hid htab
 have HIS := Lib.hid hids
 have HIM := Lib.hid hidm
 have HNM := Lib.hid hname
 have HB0 := Lib.hid (below_new2 w (t.box As cs Am cm) zboxT)
 have HBX : Hid (((w.alloc (t.box As cs Am cm)).alloc zboxT).heap[w.heap.size]? = some (t.box As cs Am cm)) := tmp_al (heap_alloc_new w _) _
 have HRS : Hid (((w.alloc (t.box As cs Am cm)).alloc zboxT).heap[w.heap.size + 1]? = some zboxT) := by
  have h := heap_alloc_new (w.alloc (t.box As cs Am cm)) zboxT
  rw [show (w.alloc (t.box As cs Am cm)).heap.size = w.heap.size + 1 by simp] at h
  exact h
 have n1 : ¬ t.name.toList = [] := by rw [Lib.toList_data]; intro e; exact hname (Go.WideShapes.bytes_inj e)
 have n2 : t.name.toList.isEmpty = false := by simpa using n1
 clear ht hix htab hids hidm hname
 go_enter Tryz.func47, Tryz.ntmps47
 go_wp2_with fail
 refine (itoa_any n ⟨by omega, by omega⟩ _ (HTB.out.below HB0.out)).mono ?_
 rintro e w1 ⟨rfl, hb1⟩
 have HBX2 := Lib.hid ((hb1.block _ (Array.getElem?_eq_some_iff.1 HBX.out).1).trans HBX.out)
 have HRS2 := Lib.hid ((hb1.block _ (Array.getElem?_eq_some_iff.1 HRS.out).1).trans HRS.out)
 have HB2 := Lib.hid (below_trans HB0.out hb1)
 have hc1 := (box10 HBX2.out).1.2.1
 have hc5 := (box10 HBX2.out).1.2.2.2.2.2.1
 have hf1 := (box10 HBX2.out).2 1
 have hds : (decB (n : Int)).size ≤ 21 := Lib.itoa_length_le (n : Int) (by omega) (by omega)
 clear hb1
 go_wp2_with fail
 have HB1 : Hid (Below w.heap.size w (w1.setCell ⟨w.heap.size, 1, none⟩ (.string (⟨#[84]⟩ ++ decB (n : Int))))) := HB2.out.setCell (p := ⟨w.heap.size, 1, none⟩) (Nat.le_refl _) _
 have HBX1 : Hid ((w1.setCell ⟨w.heap.size, 1, none⟩ (.string (⟨#[84]⟩ ++ decB (n : Int)))).heap[w.heap.size]? = some ((named t (nameN 84 (n : Int))).box As cs Am cm)) := by
  show _ = _
  rw [heap_setCell_same _ _ 1 _ _ _ HBX2.out]; rfl
 have HRS1 : Hid ((w1.setCell ⟨w.heap.size, 1, none⟩ (.string (⟨#[84]⟩ ++ decB (n : Int)))).heap[w.heap.size + 1]? = some zboxT) := by
  show _ = _
  rw [heap_setCell_other _ _ _ _ (by simp)]; exact HRS2.out
 clear hc1 hc5 hf1 HBX2 HRS2 HB2
 generalize w1.setCell ⟨w.heap.size, 1, none⟩ (.string (⟨#[84]⟩ ++ decB (n : Int))) = w1 at *
 refine (cloneS HT.out.syms HB1.out).mono ?_
 rintro e w2 ⟨B1, d1, rfl, hb2, hg1, hk1⟩
 have hbx2 := (hb2.block _ (Array.getElem?_eq_some_iff.1 HBX1.out).1).trans HBX1.out
 have hc5 := (box10 hbx2).1.2.2.2.2.2.1
 have hf5 := (box10 hbx2).2 5
 have HSB := Lib.hid (rnB_start HBX1.out HRS1.out HB1.out hb2 hg1 hk1)
 clear hb2 hg1 hk1 hbx2 HBX1 HRS1
 go_wp2
 clear hc5 hf5
 generalize w2.heap.size = S3 at *
 generalize w2.setCell ⟨w.heap.size, 5, none⟩ (.slice B1 t.syms.length d1) = W2 at *
 go_loopw [24] (fun s wr => ∃ i : Nat, i ≤ t.syms.length ∧ s = .int .i64 i ∧ Hid (RnB t (nameN 84 (n : Int)) w S3 B1 d1 Am cm i wr)) (fun s _ => t.syms.length - (intOf s).toNat)
 case atStart => exact ⟨0, by omega, rfl, HSB.out⟩
 case round =>
  obtain ⟨i, hi, rfl, hh⟩ := hrel
  obtain ⟨wo, rfl⟩ : ∃ wo : World, wo = wr := ⟨_, rfl⟩
  by_cases hlt : i < t.syms.length
  ·have hi' : i < (mapTo renS i t.syms).length := by rw [mapTo_len]; exact hlt
   obtain ⟨g, rfl⟩ : ∃ g, B1 = some ⟨g, 0, none⟩ := by
    obtain ⟨g, ds, e, _⟩ := hh.out.syms.next hi'
    exact ⟨g, e⟩
   have h1 : (0:Int) ≤ (i:Int) := by omega
   have h2 : (i : Int) < (t.syms.length : Int) := by omega
   have hid := HIS.out _ (List.getElem_mem hlt)
   have hds2 : ¬ 9223372036854775807 < 1 + (decB (t.syms[i]).id).size := by have : (decB (t.syms[i]).id).size ≤ 21 := Lib.itoa_length_le _ hid.1 hid.2; omega
   have HID := Lib.hid hid
   have HS4 := Lib.hid hh.out
   clear hi' hid hh
   go_wp2_with fail
   refine wp_region_B (S := (fun w' => (w'.cell? ⟨w.heap.size, 5, none⟩ = some (.slice (some ⟨g, 0, none⟩) t.syms.length d1) ∧ w'.cell? ⟨g, i * 2, none⟩ = some (.int .i64 (t.syms[i]).id) ∧ (∃ s, w'.cell? ⟨g, i * 2 + 1, none⟩ = some s) ∧ w'.frozen? ⟨g, i * 2 + 1, none⟩ = false) ∧ Hid (RnB t (nameN 84 (n : Int)) w S3 (some ⟨g, 0, none⟩) d1 Am cm i w'))) 13 (by kernel_rfl) ?_ (fun hHeld => ?_)
   ·(try dsimp only); exact rnB_hold (HS4.out.below (below_drewN (Below.refl _ _) 1)) hlt
   refine tkB0 0 ?v35 rfl (by kernel_rfl) (.inl ⟨by rfl, ?y35⟩) hHeld ?_
   case y35 => (intro w hSw; (try dsimp only at hSw); go_simp; try with_reducible rfl)
   (try simp only [ps])
   refine tkB 1 ?v36 rfl (by kernel_rfl) (.inl ⟨by rfl, ?y36⟩) hHeld ?_
   case y36 => (intro w hSw; (try dsimp only at hSw); go_simp; try with_reducible rfl)
   (try simp only [ps])
   refine tkB0 2 ?v37 rfl (by kernel_rfl) (.inl ⟨by rfl, ?y37⟩) hHeld ?_
   case y37 => (intro w hSw; (try dsimp only at hSw); go_simp; try with_reducible rfl)
   (try simp only [ps])
   refine tkB0 3 ?v38 rfl (by kernel_rfl) (.inl ⟨by rfl, ?y38⟩) hHeld ?_
   case y38 => (intro w hSw; (try dsimp only at hSw); go_simp; try with_reducible rfl)
   (try simp only [ps])
   refine tkB 4 ?v39 rfl (by kernel_rfl) (.inl ⟨by rfl, ?y39⟩) hHeld ?_
   case y39 => (intro w hSw; (try dsimp only at hSw); go_simp; try with_reducible rfl)
   (try simp only [ps])
   refine tkB0 5 ?v40 rfl (by kernel_rfl) (.inl ⟨by rfl, ?y40⟩) hHeld ?_
   case y40 => (intro w hSw; (try dsimp only at hSw); go_simp; try with_reducible rfl)
   (try simp only [ps])
   refine tkB0 6 ?v41 rfl (by kernel_rfl) (.inl ⟨by rfl, ?y41⟩) hHeld ?_
   case y41 => (intro w hSw; (try dsimp only at hSw); go_simp; try with_reducible rfl)
   (try simp only [ps])
   refine tkB0 7 ?v42 rfl (by kernel_rfl) (.inl ⟨by rfl, ?y42⟩) hHeld ?_
   case y42 => (intro w hSw; (try dsimp only at hSw); go_simp; try with_reducible rfl)
   (try simp only [ps])
   refine tkB 8 ?v43 rfl (by kernel_rfl) (.inl ⟨by rfl, ?y43⟩) hHeld ?_
   case y43 => (intro w hSw; (try dsimp only at hSw); go_simp; try with_reducible rfl)
   (try simp only [ps])
   refine anyB_ready (rs := [9]) (by kernel_rfl) (by simp) ?_
   refine (AllReadyB.cons rfl (fun K hK => ?_) AllReadyB.nil)
   go_simp
   (refine (itoa_any (t.syms[i]).id HID.out _ (HTB.out.below hHeld.2.out.bel)).mono ?_; rintro e w6 ⟨rfl, hb6⟩)
   refine hK.out _ _ ?_ (fun hHeld => ?_)
   ·(try dsimp only); exact rnB_hold (hHeld.2.out.below hb6) hlt
   clear hK K
   (try simp only [ps])
   refine tkB0 10 ?v44 rfl (by kernel_rfl) (.inl ⟨by rfl, ?y44⟩) hHeld ?_
   case y44 => (intro w hSw; (try dsimp only at hSw); go_simp; try with_reducible rfl)
   (try simp only [ps])
   refine tkB0 11 ?v45 rfl (by kernel_rfl) (.inl ⟨by rfl, ?y45⟩) hHeld ?_
   case y45 => (intro w hSw; (try dsimp only at hSw); go_simp; try with_reducible rfl)
   (try simp only [ps])
   refine tkB0 12 ?v46 rfl (by kernel_rfl) (.inl ⟨by rfl, ?y46⟩) hHeld ?_
   case y46 => (intro w hSw; (try dsimp only at hSw); go_simp; try with_reducible rfl)
   (try simp only [ps])
   refine anyB_ready (rs := [13]) (by kernel_rfl) (by simp) ?_
   refine AllReadyB.last rfl (by kernel_rfl) (fun K hK => ?_) AllReadyB.nil
   (have HH6 := Lib.hid hHeld.2.out; obtain ⟨⟨_, _, ⟨s0, hc0⟩, hf0⟩, _⟩ := hHeld; go_simp)
   refine hK.out _ _ ?_
   clear hK K
   (try clear hHeld)
   (try simp only [ps])
   refine wpAny_done (by kernel_rfl) ?_ _
   have HN := Lib.hid (HH6.out.sym hlt rfl HID.out)
   clear hc0 hf0 HH6
   go_wp2
   go_roundw
   case rel => exact ⟨i + 1, by omega, by go_num, HN.out⟩
   case measure => simp [intOf]; omega
  ·obtain rfl : i = t.syms.length := by omega
   have hc6 := (box10 hh.out.box).1.2.2.2.2.2.2.1
   have HS4 := Lib.hid hh.out
   clear hh
   go_wp2_with fail
   refine (cloneM HT.out.mems HS4.out.bel).mono ?_
   rintro e w3 ⟨B2, d2, rfl, hb3, hg3, hk3⟩
   have hbx3 := (hb3.block _ (Array.getElem?_eq_some_iff.1 HS4.out.box).1).trans HS4.out.box
   have hc7 := (box10 hbx3).1.2.2.2.2.2.2.1
   have hf7 := (box10 hbx3).2 6
   have HSC := Lib.hid (rnC_start (ix := ix) HS4.out hb3 hg3 hk3)
   clear hb3 hg3 hk3 hbx3 hc6
   go_wp2
   clear hc7 hf7
   generalize w3.heap.size = M3 at *
   generalize w3.setCell ⟨w.heap.size, 6, none⟩ (.slice B2 t.mems.length d2) = W3 at *
   go_loopw [48] (fun s wr => ∃ j : Nat, j ≤ t.mems.length ∧ s = .int .i64 j ∧ Hid (RnC t (nameN 84 (n : Int)) ix w S3 M3 B1 d1 B2 d2 j wr)) (fun s _ => t.mems.length - (intOf s).toNat)
   case atStart => exact ⟨0, by omega, rfl, HSC.out⟩
   case round =>
    obtain ⟨j, hj, rfl, hh⟩ := hrel
    obtain ⟨wo, rfl⟩ : ∃ wo : World, wo = wr := ⟨_, rfl⟩
    by_cases hlt : j < t.mems.length
    ·obtain ⟨g, E1, e1, E2, e2, E3, e3, rfl, hrg, hmr⟩ := hh.out.next hlt
     have h1 : (0:Int) ≤ (j:Int) := by omega
     have h2 : (j : Int) < (t.mems.length : Int) := by omega
     have hid := HIM.out _ (List.getElem_mem hlt)
     have hds2 : ¬ 9223372036854775807 < 1 + (decB (t.mems[j]).id).size := by have : (decB (t.mems[j]).id).size ≤ 21 := Lib.itoa_length_le _ hid.1 hid.2; omega
     have HID := Lib.hid hid
     have HUS : Hid (((t.mems[j]).id, (t.mems[j]).type) ∈ usesD t) := by
      show _ ∈ _
      rw [uses_tail]
      exact List.mem_append_left _ (List.mem_append_left _ (List.mem_map.2 ⟨_, List.getElem_mem hlt, rfl⟩))
     have hc6 := (box10 hh.out.b.box).1.2.2.2.2.2.2.1
     have HS5 := Lib.hid hh.out
     have HRG := Lib.hid hrg
     have HMR := Lib.hid hmr
     clear hid hh hrg hmr
     go_wp2_with fail
     clear hc6
     refine wp_region_B (S := (fun w' => ((w'.cell? ⟨g, j * 13, none⟩ = some (.int .i64 (t.mems[j]).id) ∧ w'.cell? ⟨g, j * 13 + 1, none⟩ = some (.string (t.mems[j]).name) ∧ w'.cell? ⟨g, j * 13 + 2, none⟩ = some (.int .i64 (t.mems[j]).type) ∧ w'.cell? ⟨g, j * 13 + 5, none⟩ = some (.int .i64 (t.mems[j]).dflt.kind) ∧ w'.cell? ⟨g, j * 13 + 6, none⟩ = some (.bool (t.mems[j]).dflt.bool) ∧ w'.cell? ⟨g, j * 13 + 7, none⟩ = some (.int .i64 (t.mems[j]).dflt.int) ∧ w'.cell? ⟨g, j * 13 + 8, none⟩ = some (.string (t.mems[j]).dflt.str) ∧ w'.cell? ⟨g, j * 13 + 9, none⟩ = some (.int .i64 (t.mems[j]).dflt.id) ∧ w'.cell? ⟨g, j * 13 + 10, none⟩ = some (.slice E1 (t.mems[j]).dflt.keys.length e1) ∧ w'.cell? ⟨g, j * 13 + 11, none⟩ = some (.slice E2 (t.mems[j]).dflt.items.length e2) ∧ w'.cell? ⟨g, j * 13 + 12, none⟩ = some (.slice E3 (t.mems[j]).dflt.rest.length e3)) ∧ (w'.frozen? ⟨g, j * 13 + 1, none⟩ = false ∧ w'.frozen? ⟨g, j * 13 + 2, none⟩ = false)) ∧ Hid (RnC t (nameN 84 (n : Int)) ix w S3 M3 B1 d1 (some ⟨g, 0, none⟩) d2 j w' ∧ w'.rangeAt g (j * 13) ((t.mems[j]).cs E1 e1 E2 e2 E3 e3) ∧ MemR w' t.mems[j] E1 E2 E3))) 22 (by kernel_rfl) ?_ (fun hHeld => ?_)
     ·(try dsimp only); exact rnC_hold (HS5.out.below (below_drewN (Below.refl _ _) 1)) hlt HRG.out (HMR.out.below (below_drewN (Below.refl _ _) 1))
     refine tkB0 0 ?v47 rfl (by kernel_rfl) (.inl ⟨by rfl, ?y47⟩) hHeld ?_
     case y47 => (intro w hSw; (try dsimp only at hSw); go_simp; try with_reducible rfl)
     (try simp only [ps])
     refine tkB0 1 ?v48 rfl (by kernel_rfl) (.inl ⟨by rfl, ?y48⟩) hHeld ?_
     case y48 => (intro w hSw; (try dsimp only at hSw); go_simp; try with_reducible rfl)
     (try simp only [ps])
     refine tkB0 2 ?v49 rfl (by kernel_rfl) (.inl ⟨by rfl, ?y49⟩) hHeld ?_
     case y49 => (intro w hSw; (try dsimp only at hSw); go_simp; try with_reducible rfl)
     (try simp only [ps])
     refine tkB0 3 ?v50 rfl (by kernel_rfl) (.inl ⟨by rfl, ?y50⟩) hHeld ?_
     case y50 => (intro w hSw; (try dsimp only at hSw); go_simp; try with_reducible rfl)
     (try simp only [ps])
     refine tkB0 4 ?v51 rfl (by kernel_rfl) (.inl ⟨by rfl, ?y51⟩) hHeld ?_
     case y51 => (intro w hSw; (try dsimp only at hSw); go_simp; try with_reducible rfl)
     (try simp only [ps])
     refine tkB0 5 ?v52 rfl (by kernel_rfl) (.inl ⟨by rfl, ?y52⟩) hHeld ?_
     case y52 => (intro w hSw; (try dsimp only at hSw); go_simp; try with_reducible rfl)
     (try simp only [ps])
     refine tkB 6 ?v53 rfl (by kernel_rfl) (.inl ⟨by rfl, ?y53⟩) hHeld ?_
     case y53 => (intro w hSw; (try dsimp only at hSw); go_simp; try with_reducible rfl)
     (try simp only [ps])
     refine tkB0 9 ?v54 rfl (by kernel_rfl) (.inl ⟨by rfl, ?y54⟩) hHeld ?_
     case y54 => (intro w hSw; (try dsimp only at hSw); go_simp; try with_reducible rfl)
     (try simp only [ps])
     refine tkB0 10 ?v55 rfl (by kernel_rfl) (.inl ⟨by rfl, ?y55⟩) hHeld ?_
     case y55 => (intro w hSw; (try dsimp only at hSw); go_simp; try with_reducible rfl)
     (try simp only [ps])
     refine tkB0 11 ?v56 rfl (by kernel_rfl) (.inl ⟨by rfl, ?y56⟩) hHeld ?_
     case y56 => (intro w hSw; (try dsimp only at hSw); go_simp; try with_reducible rfl)
     (try simp only [ps])
     refine tkB0 12 ?v57 rfl (by kernel_rfl) (.inl ⟨by rfl, ?y57⟩) hHeld ?_
     case y57 => (intro w hSw; (try dsimp only at hSw); go_simp; try with_reducible rfl)
     (try simp only [ps])
     refine tkB 13 ?v58 rfl (by kernel_rfl) (.inl ⟨by rfl, ?y58⟩) hHeld ?_
     case y58 => (intro w hSw; (try dsimp only at hSw); go_simp; try with_reducible rfl)
     (try simp only [ps])
     refine tkB0 15 ?v59 rfl (by kernel_rfl) (.inl ⟨by rfl, ?y59⟩) hHeld ?_
     case y59 => (intro w hSw; (try dsimp only at hSw); go_simp; try with_reducible rfl)
     (try simp only [ps])
     refine tkB0 16 ?v60 rfl (by kernel_rfl) (.inl ⟨by rfl, ?y60⟩) hHeld ?_
     case y60 => (intro w hSw; (try dsimp only at hSw); go_simp; try with_reducible rfl)
     (try simp only [ps])
     refine tkB0 17 ?v61 rfl (by kernel_rfl) (.inl ⟨by rfl, ?y61⟩) hHeld ?_
     case y61 => (intro w hSw; (try dsimp only at hSw); go_simp; try with_reducible rfl)
     (try simp only [ps])
     refine tkB 18 ?v62 rfl (by kernel_rfl) (.inl ⟨by rfl, ?y62⟩) hHeld ?_
     case y62 => (intro w hSw; (try dsimp only at hSw); go_simp; try with_reducible rfl)
     (try simp only [ps])
     refine anyB_ready (rs := [7]) (by kernel_rfl) (by simp) ?_
     refine (AllReadyB.cons rfl (fun K hK => ?_) AllReadyB.nil)
     go_simp
     (refine (itoa_any (t.mems[j]).id HID.out _ (HTB.out.below hHeld.2.out.1.b.bel)).mono ?_; rintro e w6 ⟨rfl, hb6⟩)
     refine hK.out _ _ ?_ (fun hHeld => ?_)
     ·(try dsimp only); exact rnC_hold (hHeld.2.out.1.below hb6) hlt (range_below hb6 hHeld.2.out.2.1) (hHeld.2.out.2.2.below hb6)
     clear hK K
     (try simp only [ps])
     refine tkB0 8 ?v63 rfl (by kernel_rfl) (.inl ⟨by rfl, ?y63⟩) hHeld ?_
     case y63 => (intro w hSw; (try dsimp only at hSw); go_simp; try with_reducible rfl)
     (try simp only [ps])
     refine anyB_ready (rs := [14]) (by kernel_rfl) (by simp) ?_
     refine (AllReadyB.cons rfl (fun K hK => ?_) AllReadyB.nil)
     go_simp
     (refine (HIX.out _ hHeld.2.out.1.b.bel _ HUS.out).mono ?_; rintro e w7 ⟨rfl, hb7⟩)
     refine hK.out _ _ ?_ (fun hHeld => ?_)
     ·(try dsimp only); exact rnC_hold (hHeld.2.out.1.below hb7) hlt (range_below hb7 hHeld.2.out.2.1) (hHeld.2.out.2.2.below hb7)
     clear hK K
     refine anyB_ready (rs := [19]) (by kernel_rfl) (by simp) ?_
     refine (AllReadyB.cons rfl (fun K hK => ?_) AllReadyB.nil)
     go_simp
     (refine (copied_any (t.mems[j]).dflt E1 e1 E2 e2 E3 e3 _ hHeld.2.out.2.2.dflt).mono ?_; rintro e w8 ⟨F1, f1, F2, f2, F3, f3, rfl, hoff, hb8⟩; have HOF := Lib.hid hoff; have HLE := Lib.hid hHeld.2.out.1.hi; clear hoff)
     refine hK.out _ _ ?_ (fun hHeld => ?_)
     ·(try dsimp only); exact rnC_hold (hHeld.2.out.1.below hb8) hlt (range_below hb8 hHeld.2.out.2.1) (hHeld.2.out.2.2.below hb8)
     clear hK K
     (try simp only [ps])
     refine tkB0 20 ?v64 rfl (by kernel_rfl) (.inl ⟨by rfl, ?y64⟩) hHeld ?_
     case y64 => (intro w hSw; (try dsimp only at hSw); go_simp; try with_reducible rfl)
     (try simp only [ps])
     refine tkB0 21 ?v65 rfl (by kernel_rfl) (.inl ⟨by rfl, ?y65⟩) hHeld ?_
     case y65 => (intro w hSw; (try dsimp only at hSw); go_simp; try with_reducible rfl)
     (try simp only [ps])
     refine anyB_ready (rs := [22]) (by kernel_rfl) (by simp) ?_
     refine AllReadyB.last rfl (by kernel_rfl) (fun K hK => ?_) AllReadyB.nil
     (have HH8 := Lib.hid hHeld.2.out.1; obtain ⟨⟨⟨_, hk1, hk2, _⟩, hf1, hf2⟩, _⟩ := hHeld; go_simp)
     refine hK.out _ _ ?_
     clear hK K
     (try clear hHeld)
     (try simp only [ps])
     refine tkA 23 ?v66 rfl (by kernel_rfl) (.inl ⟨by rfl, ?y66⟩) ?_
     case y66 => (intro w; go_simp; try with_reducible rfl)
     (try simp only [ps])
     refine tkA 24 ?v67 rfl (by kernel_rfl) (.inl ⟨by rfl, ?y67⟩) ?_
     case y67 => (intro w; go_simp; try with_reducible rfl)
     (try simp only [ps])
     refine wpAny_ready (rs := [25]) (by kernel_rfl) (by simp) ?_
     refine (AllReady.cons rfl (fun K hK => ?_) AllReady.nil)
     go_simp
     refine hK _ _ ?_
     clear hK K
     (try simp only [ps])
     refine tkA 26 ?v68 rfl (by kernel_rfl) (.inl ⟨by rfl, ?y68⟩) ?_
     case y68 => (intro w; go_simp; try with_reducible rfl)
     (try simp only [ps])
     refine tkA 27 ?v69 rfl (by kernel_rfl) (.inl ⟨by rfl, ?y69⟩) ?_
     case y69 => (intro w; go_simp; try with_reducible rfl)
     (try simp only [ps])
     refine wpAny_ready (rs := [28]) (by kernel_rfl) (by simp) ?_
     refine (AllReady.cons rfl (fun K hK => ?_) AllReady.nil)
     (simp only [List.getElem_toArray, List.getElem_cons_zero, List.getElem_cons_succ]; rw [if_pos (by rfl)]; refine wp_store_mid 81 (.tmp 80) (.tmp 74) rfl (g) (j * 13 + 5) (#[.int .i64 (t.mems[j]).dflt.kind, .bool (t.mems[j]).dflt.bool, .int .i64 (t.mems[j]).dflt.int, .string (t.mems[j]).dflt.str, .int .i64 (t.mems[j]).dflt.id, .slice F1 (t.mems[j]).dflt.keys.length f1, .slice F2 (t.mems[j]).dflt.items.length f2, .slice F3 (t.mems[j]).dflt.rest.length f3]) (by rfl) (by rfl) ?_ ?_ ?_ ?_; (exact HH8.out.there8 hlt _ _); (exact val_info); (exact val_one _ _ _ _ _ _ _))
     refine hK _ _ ?_
     clear hK K
     (try simp only [ps])
     refine wpAny_done (by kernel_rfl) ?_ _
     have HN := Lib.hid (HH8.out.mem hlt rfl HID.out HLE.out HOF.out (f1 := f1) (f2 := f2) (f3 := f3))
     clear HH8 hk1 hk2 hf1 hf2
     go_wp2
     go_roundw
     case rel => exact ⟨j + 1, by omega, by go_num, HN.out⟩
     case measure => simp [intOf]; omega
    ·obtain rfl : j = t.mems.length := by omega
     obtain ⟨⟨a0, a1, a2, a3, a4, a5, a6, a7, a8, a9⟩, _⟩ := box10 hh.out.b.box
     have HS6 := Lib.hid hh.out
     clear hh
     by_cases hk8 : t.kind = 8
     ·have hk := hk8
      have HK := Lib.hid hk
      have q8 : (t.kind == 8) = true := by simp [hk]
      have HU1 : Hid (((0 : Int), t.key) ∈ usesD t) := by show _ ∈ _; rw [uses_tail]; simp [hk]
      have HU2 : Hid (((-1 : Int), t.elem) ∈ usesD t) := by show _ ∈ _; rw [uses_tail]; simp [hk]
      clear hk hk8
      go_wp2_with fail
      refine (HIX.out _ HS6.out.b.bel _ HU1.out).mono ?_
      rintro e w4 ⟨rfl, hb4⟩
      have HX4 := Lib.hid ((hb4.block _ (Array.getElem?_eq_some_iff.1 HS6.out.b.box).1).trans HS6.out.b.box)
      obtain ⟨⟨b0, b1, b2, b3, b4, b5, b6, b7, b8, b9⟩, bf⟩ := box10 HX4.out
      have bf7 := bf 7
      have HX5 : Hid ((w4.setCell ⟨w.heap.size, 7, none⟩ (.int .i64 (ix t.key))).heap[w.heap.size]? = some (({ named t (nameN 84 (n : Int)) with key := ix t.key } : TyD).box B1 d1 B2 d2)) := by show _ = _; rw [heap_setCell_same _ _ 7 _ _ _ HX4.out]; rfl
      have HB4 : Hid (Below w.heap.size w (w4.setCell ⟨w.heap.size, 7, none⟩ (.int .i64 (ix t.key)))) := (below_trans HS6.out.b.bel hb4).setCell (p := ⟨w.heap.size, 7, none⟩) (Nat.le_refl _) _
      have HK4 : Hid (wo.heap.size ≤ (w4.setCell ⟨w.heap.size, 7, none⟩ (.int .i64 (ix t.key))).heap.size ∧ ∀ q, q ≠ w.heap.size → q < wo.heap.size → (w4.setCell ⟨w.heap.size, 7, none⟩ (.int .i64 (ix t.key))).heap[q]? = wo.heap[q]?) := ⟨by have := hb4.size; simp; exact this, fun q hq hl => (heap_setCell_other _ _ _ _ (by simpa using hq)).trans (hb4.block q hl)⟩
      clear hb4 bf
      go_wp2_with fail
      clear b0 b1 b2 b3 b4 b5 b6 b7 b8 b9 bf7
      generalize w4.setCell ⟨w.heap.size, 7, none⟩ (.int .i64 (ix t.key)) = w5 at *
      refine (HIX.out _ HB4.out _ HU2.out).mono ?_
      rintro e w6 ⟨rfl, hb6⟩
      have HX6 := Lib.hid ((hb6.block _ (Array.getElem?_eq_some_iff.1 HX5.out).1).trans HX5.out)
      obtain ⟨⟨b0, b1, b2, b3, b4, b5, b6, b7, b8, b9⟩, bf⟩ := box10 HX6.out
      have bf8 := bf 8
      have HX7 : Hid ((w6.setCell ⟨w.heap.size, 8, none⟩ (.int .i64 (ix t.elem))).heap[w.heap.size]? = some (({ named t (nameN 84 (n : Int)) with key := ix t.key, elem := ix t.elem } : TyD).box B1 d1 B2 d2)) := by show _ = _; rw [heap_setCell_same _ _ 8 _ _ _ HX6.out]; rfl
      have HB7 : Hid (Below w.heap.size w (w6.setCell ⟨w.heap.size, 8, none⟩ (.int .i64 (ix t.elem)))) := (below_trans HB4.out hb6).setCell (p := ⟨w.heap.size, 8, none⟩) (Nat.le_refl _) _
      have HK7 : Hid (wo.heap.size ≤ (w6.setCell ⟨w.heap.size, 8, none⟩ (.int .i64 (ix t.elem))).heap.size ∧ ∀ q, q ≠ w.heap.size → q < wo.heap.size → (w6.setCell ⟨w.heap.size, 8, none⟩ (.int .i64 (ix t.elem))).heap[q]? = wo.heap[q]?) := ⟨by have := hb6.size; have := HK4.out.1; simp; omega, fun q hq hl => ((heap_setCell_other _ _ _ _ (by simpa using hq)).trans (hb6.block q (by have := HK4.out.1; omega))).trans (HK4.out.2 q hq hl)⟩
      have HTH : Hid ((w6.setCell ⟨w.heap.size, 8, none⟩ (.int .i64 (ix t.elem))).there (w.heap.size + 1) 0 10) := there_boxT ((HK7.out.2 _ (by omega) (by have := HS6.out.b.lo; have := HS6.out.b.hi; omega)).trans HS6.out.b.res)
      clear hb6 bf
      have HRD : Hid ((renD n ix t).cs B1 d1 B2 d2 = [.int .i64 t.kind, .string (nameN 84 (n : Int)), .int .i64 t.low, .int .i64 t.high, .int .i64 t.max, .slice B1 t.syms.length d1, .slice B2 t.mems.length d2, .int .i64 (ix t.key), .int .i64 (ix t.elem), .bool t.open_]) := by
       show _ = _
       have hk := HK.out
       unfold renD
       simp [HNM.out, hk]
      have HFN := Lib.hid (rn_end HS6.out (nameN_ok' ⟨by omega, by omega⟩) HT.out.syms HT.out.mems (r := renD n ix t) (by unfold renD; simp [HNM.out]) rfl rfl HK7.out.1 HK7.out.2 HB7.out _ HRD.out)
      go_wp2_with (refine wpList_store_mid rfl 70 (.tmp 6) (.tmp 108) rfl (w.heap.size + 1) 0 #[.int .i64 t.kind, .string (nameN 84 (n : Int)), .int .i64 t.low, .int .i64 t.high, .int .i64 t.max, .slice B1 t.syms.length d1, .slice B2 t.mems.length d2, .int .i64 (ix t.key), .int .i64 (ix t.elem), .bool t.open_] (by rfl) (by rfl) ?_ ?_ ?_ ?_; (exact HTH.out); (exact ty_info); (exact ty_one ({ named t (nameN 84 (n : Int)) with key := ix t.key, elem := ix t.elem } : TyD) _ _ _ _))
      obtain ⟨hrange, hoff, hbf⟩ := HFN.out
      have k := fun j v hv => hrange j v hv
      simp only [Nat.zero_add] at k
      have k0 := k 0 _ rfl
      have k1 := k 1 _ rfl
      have k2 := k 2 _ rfl
      have k3 := k 3 _ rfl
      have k4 := k 4 _ rfl
      have k5 := k 5 _ rfl
      have k6 := k 6 _ rfl
      have k7 := k 7 _ rfl
      have k8 := k 8 _ rfl
      have k9 := k 9 _ rfl
      have HFO := Lib.hid hoff
      have HFB := Lib.hid hbf
      clear k hrange hoff hbf HFN
      exact bodyPost_ret (v := .agg #[.int .i64 t.kind, .string (nameN 84 (n : Int)), .int .i64 t.low, .int .i64 t.high, .int .i64 t.max, .slice B1 t.syms.length d1, .slice B2 t.mems.length d2, .int .i64 (ix t.key), .int .i64 (ix t.elem), .bool t.open_]) (by simp [results, Tryz.results47, go_sem, k0, k1, k2, k3, k4, k5, k6, k7, k8, k9]) rfl ⟨B1, d1, B2, d2, congrArg (fun l => Ending.returned (.agg l.toArray)) HRD.out.symm, HFO.out, HFB.out⟩
     by_cases hk7 : t.kind = 7
     ·have hk := hk7
      have HK := Lib.hid hk
      have q8 : (t.kind == 8) = false := by simp [hk]
      have q7 : (t.kind == 7) = true := by simp [hk]
      have HU2 : Hid (((-1 : Int), t.elem) ∈ usesD t) := by show _ ∈ _; rw [uses_tail]; simp [hk]
      clear hk hk7 hk8
      have HX5 := Lib.hid HS6.out.b.box
      have HB4 := Lib.hid HS6.out.b.bel
      go_wp2_with fail
      refine (HIX.out _ HB4.out _ HU2.out).mono ?_
      rintro e w6 ⟨rfl, hb6⟩
      have HX6 := Lib.hid ((hb6.block _ (Array.getElem?_eq_some_iff.1 HX5.out).1).trans HX5.out)
      obtain ⟨⟨b0, b1, b2, b3, b4, b5, b6, b7, b8, b9⟩, bf⟩ := box10 HX6.out
      have bf8 := bf 8
      have HX7 : Hid ((w6.setCell ⟨w.heap.size, 8, none⟩ (.int .i64 (ix t.elem))).heap[w.heap.size]? = some (({ named t (nameN 84 (n : Int)) with elem := ix t.elem } : TyD).box B1 d1 B2 d2)) := by show _ = _; rw [heap_setCell_same _ _ 8 _ _ _ HX6.out]; rfl
      have HB7 : Hid (Below w.heap.size w (w6.setCell ⟨w.heap.size, 8, none⟩ (.int .i64 (ix t.elem)))) := (below_trans HB4.out hb6).setCell (p := ⟨w.heap.size, 8, none⟩) (Nat.le_refl _) _
      have HK7 : Hid (wo.heap.size ≤ (w6.setCell ⟨w.heap.size, 8, none⟩ (.int .i64 (ix t.elem))).heap.size ∧ ∀ q, q ≠ w.heap.size → q < wo.heap.size → (w6.setCell ⟨w.heap.size, 8, none⟩ (.int .i64 (ix t.elem))).heap[q]? = wo.heap[q]?) := ⟨by have := hb6.size; simp; exact this, fun q hq hl => ((heap_setCell_other _ _ _ _ (by simpa using hq)).trans (hb6.block q hl))⟩
      have HTH : Hid ((w6.setCell ⟨w.heap.size, 8, none⟩ (.int .i64 (ix t.elem))).there (w.heap.size + 1) 0 10) := there_boxT ((HK7.out.2 _ (by omega) (by have := HS6.out.b.lo; have := HS6.out.b.hi; omega)).trans HS6.out.b.res)
      clear hb6 bf
      have HRD : Hid ((renD n ix t).cs B1 d1 B2 d2 = [.int .i64 t.kind, .string (nameN 84 (n : Int)), .int .i64 t.low, .int .i64 t.high, .int .i64 t.max, .slice B1 t.syms.length d1, .slice B2 t.mems.length d2, .int .i64 (t.key), .int .i64 (ix t.elem), .bool t.open_]) := by
       show _ = _
       have hk := HK.out
       unfold renD
       simp [HNM.out, hk]
      have HFN := Lib.hid (rn_end HS6.out (nameN_ok' ⟨by omega, by omega⟩) HT.out.syms HT.out.mems (r := renD n ix t) (by unfold renD; simp [HNM.out]) rfl rfl HK7.out.1 HK7.out.2 HB7.out _ HRD.out)
      go_wp2_with (refine wpList_store_mid rfl 70 (.tmp 6) (.tmp 108) rfl (w.heap.size + 1) 0 #[.int .i64 t.kind, .string (nameN 84 (n : Int)), .int .i64 t.low, .int .i64 t.high, .int .i64 t.max, .slice B1 t.syms.length d1, .slice B2 t.mems.length d2, .int .i64 (t.key), .int .i64 (ix t.elem), .bool t.open_] (by rfl) (by rfl) ?_ ?_ ?_ ?_; (exact HTH.out); (exact ty_info); (exact ty_one ({ named t (nameN 84 (n : Int)) with elem := ix t.elem } : TyD) _ _ _ _))
      obtain ⟨hrange, hoff, hbf⟩ := HFN.out
      have k := fun j v hv => hrange j v hv
      simp only [Nat.zero_add] at k
      have k0 := k 0 _ rfl
      have k1 := k 1 _ rfl
      have k2 := k 2 _ rfl
      have k3 := k 3 _ rfl
      have k4 := k 4 _ rfl
      have k5 := k 5 _ rfl
      have k6 := k 6 _ rfl
      have k7 := k 7 _ rfl
      have k8 := k 8 _ rfl
      have k9 := k 9 _ rfl
      have HFO := Lib.hid hoff
      have HFB := Lib.hid hbf
      clear k hrange hoff hbf HFN
      exact bodyPost_ret (v := .agg #[.int .i64 t.kind, .string (nameN 84 (n : Int)), .int .i64 t.low, .int .i64 t.high, .int .i64 t.max, .slice B1 t.syms.length d1, .slice B2 t.mems.length d2, .int .i64 (t.key), .int .i64 (ix t.elem), .bool t.open_]) (by simp [results, Tryz.results47, go_sem, k0, k1, k2, k3, k4, k5, k6, k7, k8, k9]) rfl ⟨B1, d1, B2, d2, congrArg (fun l => Ending.returned (.agg l.toArray)) HRD.out.symm, HFO.out, HFB.out⟩
     by_cases hk9 : t.kind = 9
     ·have hk := hk9
      have HK := Lib.hid hk
      have q8 : (t.kind == 8) = false := by simp [hk]
      have q7 : (t.kind == 7) = false := by simp [hk]
      have q9 : (t.kind == 9) = true := by simp [hk]
      have HU2 : Hid (((-1 : Int), t.elem) ∈ usesD t) := by show _ ∈ _; rw [uses_tail]; simp [hk]
      clear hk hk7 hk8 hk9
      have HX5 := Lib.hid HS6.out.b.box
      have HB4 := Lib.hid HS6.out.b.bel
      go_wp2_with fail
      refine (HIX.out _ HB4.out _ HU2.out).mono ?_
      rintro e w6 ⟨rfl, hb6⟩
      have HX6 := Lib.hid ((hb6.block _ (Array.getElem?_eq_some_iff.1 HX5.out).1).trans HX5.out)
      obtain ⟨⟨b0, b1, b2, b3, b4, b5, b6, b7, b8, b9⟩, bf⟩ := box10 HX6.out
      have bf8 := bf 8
      have HX7 : Hid ((w6.setCell ⟨w.heap.size, 8, none⟩ (.int .i64 (ix t.elem))).heap[w.heap.size]? = some (({ named t (nameN 84 (n : Int)) with elem := ix t.elem } : TyD).box B1 d1 B2 d2)) := by show _ = _; rw [heap_setCell_same _ _ 8 _ _ _ HX6.out]; rfl
      have HB7 : Hid (Below w.heap.size w (w6.setCell ⟨w.heap.size, 8, none⟩ (.int .i64 (ix t.elem)))) := (below_trans HB4.out hb6).setCell (p := ⟨w.heap.size, 8, none⟩) (Nat.le_refl _) _
      have HK7 : Hid (wo.heap.size ≤ (w6.setCell ⟨w.heap.size, 8, none⟩ (.int .i64 (ix t.elem))).heap.size ∧ ∀ q, q ≠ w.heap.size → q < wo.heap.size → (w6.setCell ⟨w.heap.size, 8, none⟩ (.int .i64 (ix t.elem))).heap[q]? = wo.heap[q]?) := ⟨by have := hb6.size; simp; exact this, fun q hq hl => ((heap_setCell_other _ _ _ _ (by simpa using hq)).trans (hb6.block q hl))⟩
      have HTH : Hid ((w6.setCell ⟨w.heap.size, 8, none⟩ (.int .i64 (ix t.elem))).there (w.heap.size + 1) 0 10) := there_boxT ((HK7.out.2 _ (by omega) (by have := HS6.out.b.lo; have := HS6.out.b.hi; omega)).trans HS6.out.b.res)
      clear hb6 bf
      have HRD : Hid ((renD n ix t).cs B1 d1 B2 d2 = [.int .i64 t.kind, .string (nameN 84 (n : Int)), .int .i64 t.low, .int .i64 t.high, .int .i64 t.max, .slice B1 t.syms.length d1, .slice B2 t.mems.length d2, .int .i64 (t.key), .int .i64 (ix t.elem), .bool t.open_]) := by
       show _ = _
       have hk := HK.out
       unfold renD
       simp [HNM.out, hk]
      have HFN := Lib.hid (rn_end HS6.out (nameN_ok' ⟨by omega, by omega⟩) HT.out.syms HT.out.mems (r := renD n ix t) (by unfold renD; simp [HNM.out]) rfl rfl HK7.out.1 HK7.out.2 HB7.out _ HRD.out)
      go_wp2_with (refine wpList_store_mid rfl 70 (.tmp 6) (.tmp 108) rfl (w.heap.size + 1) 0 #[.int .i64 t.kind, .string (nameN 84 (n : Int)), .int .i64 t.low, .int .i64 t.high, .int .i64 t.max, .slice B1 t.syms.length d1, .slice B2 t.mems.length d2, .int .i64 (t.key), .int .i64 (ix t.elem), .bool t.open_] (by rfl) (by rfl) ?_ ?_ ?_ ?_; (exact HTH.out); (exact ty_info); (exact ty_one ({ named t (nameN 84 (n : Int)) with elem := ix t.elem } : TyD) _ _ _ _))
      obtain ⟨hrange, hoff, hbf⟩ := HFN.out
      have k := fun j v hv => hrange j v hv
      simp only [Nat.zero_add] at k
      have k0 := k 0 _ rfl
      have k1 := k 1 _ rfl
      have k2 := k 2 _ rfl
      have k3 := k 3 _ rfl
      have k4 := k 4 _ rfl
      have k5 := k 5 _ rfl
      have k6 := k 6 _ rfl
      have k7 := k 7 _ rfl
      have k8 := k 8 _ rfl
      have k9 := k 9 _ rfl
      have HFO := Lib.hid hoff
      have HFB := Lib.hid hbf
      clear k hrange hoff hbf HFN
      exact bodyPost_ret (v := .agg #[.int .i64 t.kind, .string (nameN 84 (n : Int)), .int .i64 t.low, .int .i64 t.high, .int .i64 t.max, .slice B1 t.syms.length d1, .slice B2 t.mems.length d2, .int .i64 (t.key), .int .i64 (ix t.elem), .bool t.open_]) (by simp [results, Tryz.results47, go_sem, k0, k1, k2, k3, k4, k5, k6, k7, k8, k9]) rfl ⟨B1, d1, B2, d2, congrArg (fun l => Ending.returned (.agg l.toArray)) HRD.out.symm, HFO.out, HFB.out⟩
     have hk : ¬ (t.kind = 8 ∨ t.kind = 7 ∨ t.kind = 9) := fun h => h.elim hk8 fun h => h.elim hk7 hk9
     have HK := Lib.hid hk
     have q8 : (t.kind == 8) = false := by have : t.kind ≠ 8 := fun e => hk (.inl e); simp [this]
     have q7 : (t.kind == 7) = false := by have : t.kind ≠ 7 := fun e => hk (.inr (.inl e)); simp [this]
     have q9 : (t.kind == 9) = false := by have : t.kind ≠ 9 := fun e => hk (.inr (.inr e)); simp [this]
     clear hk hk7 hk8 hk9
     have HX7 := Lib.hid HS6.out.b.box
     have HB7 := Lib.hid HS6.out.b.bel
     have HK7 : Hid (wo.heap.size ≤ wo.heap.size ∧ ∀ q, q ≠ w.heap.size → q < wo.heap.size → wo.heap[q]? = wo.heap[q]?) := ⟨Nat.le_refl _, fun _ _ _ => rfl⟩
     have HTH : Hid (wo.there (w.heap.size + 1) 0 10) := there_boxT HS6.out.b.res
     have HRD : Hid ((renD n ix t).cs B1 d1 B2 d2 = [.int .i64 t.kind, .string (nameN 84 (n : Int)), .int .i64 t.low, .int .i64 t.high, .int .i64 t.max, .slice B1 t.syms.length d1, .slice B2 t.mems.length d2, .int .i64 (t.key), .int .i64 (t.elem), .bool t.open_]) := by
      show _ = _
      have hk := HK.out
      unfold renD
      simp [HNM.out, show t.kind ≠ 8 from fun e => hk (.inl e), show t.kind ≠ 7 from fun e => hk (.inr (.inl e)), show t.kind ≠ 9 from fun e => hk (.inr (.inr e))]
     have HFN := Lib.hid (rn_end HS6.out (nameN_ok' ⟨by omega, by omega⟩) HT.out.syms HT.out.mems (r := renD n ix t) (by unfold renD; simp [HNM.out]) rfl rfl HK7.out.1 HK7.out.2 HB7.out _ HRD.out)
     go_wp2_with (refine wpList_store_mid rfl 70 (.tmp 6) (.tmp 108) rfl (w.heap.size + 1) 0 #[.int .i64 t.kind, .string (nameN 84 (n : Int)), .int .i64 t.low, .int .i64 t.high, .int .i64 t.max, .slice B1 t.syms.length d1, .slice B2 t.mems.length d2, .int .i64 (t.key), .int .i64 (t.elem), .bool t.open_] (by rfl) (by rfl) ?_ ?_ ?_ ?_; (exact HTH.out); (exact ty_info); (exact ty_one (named t (nameN 84 (n : Int))) _ _ _ _))
     obtain ⟨hrange, hoff, hbf⟩ := HFN.out
     have k := fun j v hv => hrange j v hv
     simp only [Nat.zero_add] at k
     have k0 := k 0 _ rfl
     have k1 := k 1 _ rfl
     have k2 := k 2 _ rfl
     have k3 := k 3 _ rfl
     have k4 := k 4 _ rfl
     have k5 := k 5 _ rfl
     have k6 := k 6 _ rfl
     have k7 := k 7 _ rfl
     have k8 := k 8 _ rfl
     have k9 := k 9 _ rfl
     have HFO := Lib.hid hoff
     have HFB := Lib.hid hbf
     clear k hrange hoff hbf HFN
     exact bodyPost_ret (v := .agg #[.int .i64 t.kind, .string (nameN 84 (n : Int)), .int .i64 t.low, .int .i64 t.high, .int .i64 t.max, .slice B1 t.syms.length d1, .slice B2 t.mems.length d2, .int .i64 (t.key), .int .i64 (t.elem), .bool t.open_]) (by simp [results, Tryz.results47, go_sem, k0, k1, k2, k3, k4, k5, k6, k7, k8, k9]) rfl ⟨B1, d1, B2, d2, congrArg (fun l => Ending.returned (.agg l.toArray)) HRD.out.symm, HFO.out, HFB.out⟩
theorem renamed_any (t : TyD) (n : Nat) (hn : n ≤ 1000) (p q : Nat) (ix : Int → Int) (As : Option Addr) (cs : Nat) (Am : Option Addr) (cm : Nat) (w : World) (ht : TyR w t As Am) (hids : ∀ s ∈ t.syms, In64 s.id) (hidm : ∀ m ∈ t.mems, In64 m.id) (hix : IxOk p q ix (usesD t) w) (htab : Tab w) :
  Calls Tryz.prog 47 #[t.v As cs Am cm, .int .i64 n, .func (.func 48) #[] #[.pointer (some ⟨p, 0, none⟩), .pointer (some ⟨q, 0, none⟩)]] w (RenPost (renD n ix t) w) := by
 by_cases h : t.name = ⟨#[]⟩
 ·exact renamed_e t h n hn p q ix As cs Am cm w ht hids hidm hix htab
 ·exact renamed_n t h n hn p q ix As cs Am cm w ht hids hidm hix htab
end Go.Proofs.YtkhpajneinmmiaaGreatDoor


