/-
  Walks: the order of readings, as Reads hands it to the sort.
-/
import Derived.Test.YtcmnmcholfellaaDoorRD1
import Derived.Sort.Grow
namespace Go.Proofs.YtcmnmcholfellaaDoor
open Go.RowKit Go.Sort

/-- A world that has only drawn and grown. -/
def Gr (w w' : World) : Prop := ∃ q os, w' = grow (w.drewN q) os

theorem Gr.refl (w : World) : Gr w w := ⟨0, #[], by simp [grow]; rfl⟩
theorem Gr.alloc {w w' : World} (h : Gr w w') (o : Obj) : Gr w (w'.alloc o) := by
  obtain ⟨q, os, rfl⟩ := h
  exact ⟨q, os ++ #[o], by rw [alloc_eq_grow, grow_grow]⟩
theorem Gr.drew {w w' : World} (h : Gr w w') : Gr w w'.drew := by
  obtain ⟨q, os, rfl⟩ := h
  exact ⟨q + 1, os, rfl⟩

theorem six_alloc {w : World} {b c : Nat} {x0 x1 x2 y0 y1 y2 : Value} (h : w.cell? ⟨b, 0, none⟩ = some x0 ∧ w.cell? ⟨b, 1, none⟩ = some x1 ∧ w.cell? ⟨b, 2, none⟩ = some x2 ∧ w.cell? ⟨c, 0, none⟩ = some y0 ∧ w.cell? ⟨c, 1, none⟩ = some y1 ∧ w.cell? ⟨c, 2, none⟩ = some y2) (o : Obj) :
    (w.alloc o).cell? ⟨b, 0, none⟩ = some x0 ∧ (w.alloc o).cell? ⟨b, 1, none⟩ = some x1 ∧ (w.alloc o).cell? ⟨b, 2, none⟩ = some x2 ∧ (w.alloc o).cell? ⟨c, 0, none⟩ = some y0 ∧ (w.alloc o).cell? ⟨c, 1, none⟩ = some y1 ∧ (w.alloc o).cell? ⟨c, 2, none⟩ = some y2 := by
  have hb : Below w.heap.size w (w.alloc o) := (Below.refl _ _).alloc (Nat.le_refl _) _
  obtain ⟨h0, h1, h2, h3, h4, h5⟩ := h
  exact ⟨below_cell hb h0, below_cell hb h1, below_cell hb h2, below_cell hb h3, below_cell hb h4, below_cell hb h5⟩

theorem ints_new (w : World) (l : List Int) (t : TypeId) : ∀ k x, l[k]? = some x → (w.alloc (.cells (l.map (Value.int .i64)).toArray t)).cell? ⟨w.heap.size, 0 + k, none⟩ = some (.int .i64 x) := fun k x hk => by
  rw [cell_of_row _ _ _ _ _ _ (heap_alloc_new w _), Nat.zero_add]
  simp [hk]

set_option maxHeartbeats 1000000 in
theorem cmpC_any (a b : Cf) (w : World) : Calls Tryd.prog 49 #[a.v, b.v] w fun e w' => e = .returned (.int .i64 (cmpC a b)) ∧ Gr w w' := by
  have e1 : (w.alloc a.box).heap.size = w.heap.size + 1 := by simp
  have hb : Below (w.heap.size + 2) ((w.alloc a.box).alloc b.box) ((w.alloc a.box).alloc b.box) := Below.refl _ _
  have ha : ∀ j v, (#[.int .i64 a.t, .int .i64 a.w, .int .i64 a.r] : Array Value)[j]? = some v → ((w.alloc a.box).alloc b.box).cell? ⟨w.heap.size, j, none⟩ = some v := fun j v hj => by
    have h0 : ((w.alloc a.box).alloc b.box).heap[w.heap.size]? = some a.box := (((Below.refl (w.alloc a.box).heap.size (w.alloc a.box)).alloc (Nat.le_refl _) b.box).block w.heap.size (by simp)).trans (heap_alloc_new w _)
    rw [cell_of_row _ _ _ _ _ _ h0]; exact hj
  have hbb : ∀ j v, (#[.int .i64 b.t, .int .i64 b.w, .int .i64 b.r] : Array Value)[j]? = some v → ((w.alloc a.box).alloc b.box).cell? ⟨w.heap.size + 1, j, none⟩ = some v := fun j v hj => by
    have h0 := heap_alloc_new (w.alloc a.box) b.box
    rw [e1] at h0
    rw [cell_of_row _ _ _ _ _ _ h0]; exact hj
  have a0 := ha 0 _ rfl
  have a1 := ha 1 _ rfl
  have a2 := ha 2 _ rfl
  have b0 := hbb 0 _ rfl
  have b1 := hbb 1 _ rfl
  have b2 := hbb 2 _ rfl
  have HG : Hid (Gr w ((w.alloc a.box).alloc b.box)) := ((Gr.refl w).alloc _).alloc _
  clear ha hbb hb e1
  go_enter Tryd.func49, Tryd.ntmps49
  go_wp2
  generalize (w.alloc a.box).alloc b.box = w0 at *
  have hz : w.heap.size + 1 < w0.heap.size := lt_of_cell b0
  refine wp_region_held_drew (S := (fun w' => (w'.cell? ⟨w.heap.size, 0, none⟩ = some (.int .i64 a.t) ∧ w'.cell? ⟨w.heap.size, 1, none⟩ = some (.int .i64 a.w) ∧ w'.cell? ⟨w.heap.size, 2, none⟩ = some (.int .i64 a.r) ∧ w'.cell? ⟨w.heap.size + 1, 0, none⟩ = some (.int .i64 b.t) ∧ w'.cell? ⟨w.heap.size + 1, 1, none⟩ = some (.int .i64 b.w) ∧ w'.cell? ⟨w.heap.size + 1, 2, none⟩ = some (.int .i64 b.r)) ∧ Hid (Gr w w'))) (by kernel_rfl) ?_ (fun hHeld => ?_)
  · (try dsimp only); exact ⟨⟨a0, a1, a2, b0, b1, b2⟩, HG.out.drew⟩
  refine wpAnyH_take (i := 0) (v := ?v0) rfl (by kernel_rfl) (by kernel_rfl) (by kernel_rfl) (fun _ _ _ h => h) (Or.inl ⟨by rfl, ?hy0⟩) hHeld ?_
  case hy0 => (intro w hSw; (try dsimp only at hSw); go_simp; try with_reducible rfl)
  (try simp only [Act.put, List.setIfInBounds_toArray, List.set_cons_zero, List.set_cons_succ, List.getElem_toArray, List.getElem_cons_zero])
  refine wpAnyH_take (i := 1) (v := ?v1) rfl (by kernel_rfl) (by kernel_rfl) (by kernel_rfl) (fun _ _ _ h => h) (Or.inl ⟨by rfl, ?hy1⟩) hHeld ?_
  case hy1 => (intro w hSw; (try dsimp only at hSw); go_simp; try with_reducible rfl)
  (try simp only [Act.put, List.setIfInBounds_toArray, List.set_cons_zero, List.set_cons_succ, List.getElem_toArray, List.getElem_cons_zero, List.getElem_cons_succ])
  refine wpAnyH_take (i := 2) (v := ?v2) rfl (by kernel_rfl) (by kernel_rfl) (by kernel_rfl) (fun _ _ _ h => h) (Or.inl ⟨by rfl, ?hy2⟩) hHeld ?_
  case hy2 => (intro w hSw; (try dsimp only at hSw); go_simp; try with_reducible rfl)
  (try simp only [Act.put, List.setIfInBounds_toArray, List.set_cons_zero, List.set_cons_succ, List.getElem_toArray, List.getElem_cons_zero, List.getElem_cons_succ])
  refine wpAnyH_take (i := 3) (v := ?v3) rfl (by kernel_rfl) (by kernel_rfl) (by kernel_rfl) (fun _ _ _ h => h) (Or.inl ⟨by rfl, ?hy3⟩) hHeld ?_
  case hy3 => (intro w hSw; (try dsimp only at hSw); go_simp; try with_reducible rfl)
  (try simp only [Act.put, List.setIfInBounds_toArray, List.set_cons_zero, List.set_cons_succ, List.getElem_toArray, List.getElem_cons_zero, List.getElem_cons_succ])
  refine wpAnyH_take (i := 5) (v := ?v4) rfl (by kernel_rfl) (by kernel_rfl) (by kernel_rfl) (fun _ _ _ h => h) (Or.inl ⟨by rfl, ?hy4⟩) hHeld ?_
  case hy4 => (intro w hSw; (try dsimp only at hSw); go_simp; try with_reducible rfl)
  (try simp only [Act.put, List.setIfInBounds_toArray, List.set_cons_zero, List.set_cons_succ, List.getElem_toArray, List.getElem_cons_zero, List.getElem_cons_succ])
  refine wpAnyH_take (i := 6) (v := ?v5) rfl (by kernel_rfl) (by kernel_rfl) (by kernel_rfl) (fun _ _ _ h => h) (Or.inl ⟨by rfl, ?hy5⟩) hHeld ?_
  case hy5 => (intro w hSw; (try dsimp only at hSw); go_simp; try with_reducible rfl)
  (try simp only [Act.put, List.setIfInBounds_toArray, List.set_cons_zero, List.set_cons_succ, List.getElem_toArray, List.getElem_cons_zero, List.getElem_cons_succ])
  refine wpAnyH_take (i := 7) (v := ?v6) rfl (by kernel_rfl) (by kernel_rfl) (by kernel_rfl) (fun _ _ _ h => h) (Or.inl ⟨by rfl, ?hy6⟩) hHeld ?_
  case hy6 => (intro w hSw; (try dsimp only at hSw); go_simp; try with_reducible rfl)
  (try simp only [Act.put, List.setIfInBounds_toArray, List.set_cons_zero, List.set_cons_succ, List.getElem_toArray, List.getElem_cons_zero, List.getElem_cons_succ])
  refine wpAnyH_take (i := 8) (v := ?v7) rfl (by kernel_rfl) (by kernel_rfl) (by kernel_rfl) (fun _ _ _ h => h) (Or.inl ⟨by rfl, ?hy7⟩) hHeld ?_
  case hy7 => (intro w hSw; (try dsimp only at hSw); go_simp; try with_reducible rfl)
  (try simp only [Act.put, List.setIfInBounds_toArray, List.set_cons_zero, List.set_cons_succ, List.getElem_toArray, List.getElem_cons_zero, List.getElem_cons_succ])
  refine wpAnyH_take (i := 10) (v := ?v8) rfl (by kernel_rfl) (by kernel_rfl) (by kernel_rfl) (fun _ _ _ h => h) (Or.inl ⟨by rfl, ?hy8⟩) hHeld ?_
  case hy8 => (intro w hSw; (try dsimp only at hSw); go_simp; try with_reducible rfl)
  (try simp only [Act.put, List.setIfInBounds_toArray, List.set_cons_zero, List.set_cons_succ, List.getElem_toArray, List.getElem_cons_zero, List.getElem_cons_succ])
  refine wpAnyH_take (i := 11) (v := ?v9) rfl (by kernel_rfl) (by kernel_rfl) (by kernel_rfl) (fun _ _ _ h => h) (Or.inl ⟨by rfl, ?hy9⟩) hHeld ?_
  case hy9 => (intro w hSw; (try dsimp only at hSw); go_simp; try with_reducible rfl)
  (try simp only [Act.put, List.setIfInBounds_toArray, List.set_cons_zero, List.set_cons_succ, List.getElem_toArray, List.getElem_cons_zero, List.getElem_cons_succ])
  refine wpAnyH_take (i := 12) (v := ?v10) rfl (by kernel_rfl) (by kernel_rfl) (by kernel_rfl) (fun _ _ _ h => h) (Or.inl ⟨by rfl, ?hy10⟩) hHeld ?_
  case hy10 => (intro w hSw; (try dsimp only at hSw); go_simp; try with_reducible rfl)
  (try simp only [Act.put, List.setIfInBounds_toArray, List.set_cons_zero, List.set_cons_succ, List.getElem_toArray, List.getElem_cons_zero, List.getElem_cons_succ])
  refine wpAnyH_take (i := 13) (v := ?v11) rfl (by kernel_rfl) (by kernel_rfl) (by kernel_rfl) (fun _ _ _ h => h) (Or.inl ⟨by rfl, ?hy11⟩) hHeld ?_
  case hy11 => (intro w hSw; (try dsimp only at hSw); go_simp; try with_reducible rfl)
  (try simp only [Act.put, List.setIfInBounds_toArray, List.set_cons_zero, List.set_cons_succ, List.getElem_toArray, List.getElem_cons_zero, List.getElem_cons_succ])
  refine wpAnyH_ready (rs := [4]) (by kernel_rfl) (by simp) ?_
  refine (AllReadyH.cons rfl (fun K hK => ?_) AllReadyH.nil)
  go_simp
  (refine (comparei_any a.t b.t _).mono ?_; rintro e w3 ⟨rfl, rfl⟩)
  refine hK.out _ _ ?_ (fun hHeld => ?_)
  · (try dsimp only); exact hHeld
  clear hK K
  (try simp only [Act.put, List.setIfInBounds_toArray, List.set_cons_zero, List.set_cons_succ, List.getElem_toArray, List.getElem_cons_zero, List.getElem_cons_succ])
  refine wpAnyH_ready (rs := [9]) (by kernel_rfl) (by simp) ?_
  refine (AllReadyH.cons rfl (fun K hK => ?_) AllReadyH.nil)
  go_simp
  (refine (comparei_any a.w b.w _).mono ?_; rintro e w3 ⟨rfl, rfl⟩)
  refine hK.out _ _ ?_ (fun hHeld => ?_)
  · (try dsimp only); exact hHeld
  clear hK K
  (try simp only [Act.put, List.setIfInBounds_toArray, List.set_cons_zero, List.set_cons_succ, List.getElem_toArray, List.getElem_cons_zero, List.getElem_cons_succ])
  refine wpAnyH_ready (rs := [14]) (by kernel_rfl) (by simp) ?_
  refine (AllReadyH.cons rfl (fun K hK => ?_) AllReadyH.nil)
  go_simp
  (refine (comparei_any a.r b.r _).mono ?_; rintro e w3 ⟨rfl, rfl⟩)
  refine hK.out _ _ ?_ (fun hHeld => ?_)
  · (try dsimp only); exact hHeld
  clear hK K
  (try simp only [Act.put, List.setIfInBounds_toArray, List.set_cons_zero, List.set_cons_succ, List.getElem_toArray, List.getElem_cons_zero, List.getElem_cons_succ])
  refine wpAnyH_ready (rs := [15]) (by kernel_rfl) (by simp) ?_
  refine (AllReadyH.cons rfl (fun K hK => ?_) AllReadyH.nil)
  go_simp
  refine hK.out _ _ ?_ (fun hHeld => ?_)
  · (try dsimp only); exact ⟨six_alloc hHeld.1 _, hHeld.2.out.alloc _⟩
  clear hK K
  (try simp only [Act.put, List.setIfInBounds_toArray, List.set_cons_zero, List.set_cons_succ, List.getElem_toArray, List.getElem_cons_zero, List.getElem_cons_succ])
  refine wpAnyH_ready (rs := [16]) (by kernel_rfl) (by simp) ?_
  refine (AllReadyH.cons rfl (fun K hK => ?_) AllReadyH.nil)
  go_simp
  (refine (or_any [cmpI a.t b.t, cmpI a.w b.w, cmpI a.r b.r] (by simp) w0.heap.size 0 3 _ (ints_new w0.drew [cmpI a.t b.t, cmpI a.w b.w, cmpI a.r b.r] 3)).mono ?_; rintro e w5 ⟨rfl, rfl⟩)
  refine hK.out _ _ ?_ (fun hHeld => ?_)
  · (try dsimp only); exact hHeld
  clear hK K
  (try simp only [Act.put, List.setIfInBounds_toArray, List.set_cons_zero, List.set_cons_succ, List.getElem_toArray, List.getElem_cons_zero, List.getElem_cons_succ])
  refine wpAnyH_take (i := 17) (v := ?v12) rfl (by kernel_rfl) (by kernel_rfl) (by kernel_rfl) (fun _ _ _ h => h) (Or.inl ⟨by rfl, ?hy12⟩) hHeld ?_
  case hy12 => (intro w hSw; (try dsimp only at hSw); go_simp; try with_reducible rfl)
  (try simp only [Act.put, List.setIfInBounds_toArray, List.set_cons_zero, List.set_cons_succ, List.getElem_toArray, List.getElem_cons_zero, List.getElem_cons_succ])
  refine wpAnyH_done (by kernel_rfl) ?_ _
  go_wp2
  go_ret
  exact ⟨rfl, hHeld.2.out⟩
end Go.Proofs.YtcmnmcholfellaaDoor
