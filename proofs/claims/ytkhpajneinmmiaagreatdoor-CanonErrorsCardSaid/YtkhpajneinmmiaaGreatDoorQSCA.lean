/-
  Walks: names (II).
-/
import Derived.Test.YtkhpajneinmmiaaGreatDoorQDM
import Derived.Test.YtkhpajneinmmiaaGreatDoorQPL
import Derived.Lib.Bytealg
namespace Go.Proofs.YtkhpajneinmmiaaGreatDoor
open Go.RowKit

set_option maxHeartbeats 400000 in
theorem isLetter_any (n : Int) (w : World) : Calls Tryz.prog 117 #[.int .u8 n] w fun e w' => e = .returned (.bool (letC n)) ∧ w = w' := by
  by_cases h1 : n = 95
  · subst h1
    go_enter Tryz.func117, Tryz.ntmps117
    go_wp2
    go_ret
    exact ⟨rfl, rfl⟩
  have e1 : (n == 95) = false := by simp [h1]
  by_cases h2 : 97 ≤ n <;> by_cases h3 : n ≤ 122 <;> by_cases h4 : 65 ≤ n <;> by_cases h5 : n ≤ 90
  all_goals first
    | (exfalso; omega)
    | (have HL := Lib.hid (show letC n = _ by unfold letC; simp only [h1, h2, h3, h4, h5]; rfl)
       clear h1
       go_enter Tryz.func117, Tryz.ntmps117
       go_wp2
       go_ret
       exact ⟨by rw [HL.out]; rfl, rfl⟩)
set_option maxHeartbeats 400000 in
theorem letter_any (n : Int) (w : World) : Calls Tryz.prog 114 #[.int .u8 n] w fun e w' => e = .returned (.bool (letC n)) ∧ w = w' := by
  by_cases h1 : n = 95
  · subst h1
    go_enter Tryz.func114, Tryz.ntmps114
    go_wp2
    go_ret
    exact ⟨rfl, rfl⟩
  have e1 : (n == 95) = false := by simp [h1]
  by_cases h2 : 97 ≤ n <;> by_cases h3 : n ≤ 122 <;> by_cases h4 : 65 ≤ n <;> by_cases h5 : n ≤ 90
  all_goals first
    | (exfalso; omega)
    | (have HL := Lib.hid (show letC n = _ by unfold letC; simp only [h1, h2, h3, h4, h5]; rfl)
       clear h1
       go_enter Tryz.func114, Tryz.ntmps114
       go_wp2
       go_ret
       exact ⟨by rw [HL.out]; rfl, rfl⟩)
set_option maxHeartbeats 400000 in
theorem isDigit_any (n : Int) (w : World) : Calls Tryz.prog 118 #[.int .u8 n] w fun e w' => e = .returned (.bool (digI n)) ∧ w = w' := by
  by_cases h2 : 48 ≤ n <;> by_cases h3 : n ≤ 57
  all_goals
    (have HL := Lib.hid (show digI n = _ by unfold digI; simp only [h2, h3]; rfl)
     go_enter Tryz.func118, Tryz.ntmps118
     go_wp2
     go_ret
     exact ⟨by rw [HL.out]; rfl, rfl⟩)
set_option maxHeartbeats 400000 in
theorem digit_any (n : Int) (w : World) : Calls Tryz.prog 115 #[.int .u8 n] w fun e w' => e = .returned (.bool (digI n)) ∧ w = w' := by
  by_cases h2 : 48 ≤ n <;> by_cases h3 : n ≤ 57
  all_goals
    (have HL := Lib.hid (show digI n = _ by unfold digI; simp only [h2, h3]; rfl)
     go_enter Tryz.func115, Tryz.ntmps115
     go_wp2
     go_ret
     exact ⟨by rw [HL.out]; rfl, rfl⟩)
end Go.Proofs.YtkhpajneinmmiaaGreatDoor
namespace Go.Proofs.YtkhpajneinmmiaaGreatDoor
open Go.RowKit

theorem bytes_cons {s : ByteArray} (h : 0 < s.size) : s.toList ≠ [] := by
  intro e
  rw [Lib.toList_data] at e
  have : s.data.toList.length = s.size := by simp
  rw [e] at this
  simp at this; omega

theorem name_get0 {s : ByteArray} (h : 0 < s.size) : s.data.toList.getD 0 0 = s[0] := by
  have h' : 0 < s.data.toList.length := by simpa using h
  rw [List.getD_eq_getElem?_getD, List.getElem?_eq_getElem h']; rfl
theorem name_big {s : ByteArray} (h : 24 < s.size) : nameB s = false := by
  unfold nameB; simp; omega
theorem name_head {s : ByteArray} (h : 0 < s.size) (hl : letC ((s[0].toNat : Nat) : Int) = false) : nameB s = false := by
  unfold nameB; rw [name_get0 h, hl]; simp
theorem name_bad {s : ByteArray} {k : Nat} (h : k < s.size) (hl : chB s[k] = false) : nameB s = false := by
  have : s.data.toList.all chB = false := by
    rw [List.all_eq_false]
    refine ⟨s[k], ?_, by simp [hl]⟩
    exact List.getElem_mem (l := s.data.toList) (by simpa using h)
  unfold nameB; rw [this]; simp
theorem name_good {s : ByteArray} (h : 0 < s.size) (h2 : s.size ≤ 24) (hl : letC ((s[0].toNat : Nat) : Int) = true) (ha : ∀ k (hk : k < s.size), chB s[k] = true) : nameB s = true := by
  unfold nameB; rw [name_get0 h, hl]
  have : s.data.toList.all chB = true := by
    rw [List.all_eq_true]
    intro c hc
    obtain ⟨k, hk, rfl⟩ := List.getElem_of_mem hc
    exact ha k (by simpa using hk)
  rw [this]; simp [h, h2]

set_option maxHeartbeats 1000000 in
theorem isName_any (s : ByteArray) (hs : SOk s) (w : World) : Calls Tryz.prog 93 #[.string s] w fun e w' => e = .returned (.bool (nameB s)) ∧ w = w' := by
  unfold SOk at hs
  by_cases h0 : s.size = 0
  · obtain rfl : s = ⟨#[]⟩ := by
      obtain ⟨d⟩ := s
      have : d.size = 0 := h0
      rw [Array.eq_empty_of_size_eq_zero this]
    clear hs h0
    go_enter Tryz.func93, Tryz.ntmps93
    go_wp2
    go_ret
    exact ⟨by rfl, rfl⟩
  have hp : 0 < s.size := by omega
  have hne := bytes_cons hp
  have hne2 : s.toList.isEmpty = false := by simpa using hne
  by_cases hbig : 24 < s.size
  · have HN := Lib.hid (name_big hbig)
    clear h0
    go_enter Tryz.func93, Tryz.ntmps93
    go_wp2
    go_ret
    exact ⟨by rw [HN.out]; rfl, rfl⟩
  have hle : s.size ≤ 24 := by omega
  cases hl : letC ((s[0].toNat : Nat) : Int) with
  | false =>
    have HN := Lib.hid (name_head hp hl)
    have HL := Lib.hid hl
    clear h0 hbig hl
    go_enter Tryz.func93, Tryz.ntmps93
    go_wp2_with (go_at_call 117; refine (isLetter_any _ _).mono ?_; rintro e w' ⟨rfl, rfl⟩; rw [HL.out])
    go_ret
    exact ⟨by rw [HN.out]; rfl, rfl⟩
  | true =>
    have HL := Lib.hid hl
    clear h0 hbig hl
    go_enter Tryz.func93, Tryz.ntmps93
    go_wp2_with (go_at_call 117; refine (isLetter_any _ _).mono ?_; rintro e w' ⟨rfl, rfl⟩; rw [HL.out])
    go_loop [19] (fun i => ∃ k : Nat, k ≤ s.size ∧ i = .int .i64 k ∧ Hid (∀ j (hj : j < s.size), j < k → chB s[j] = true)) (fun i => s.size - (intOf i).toNat)
    case atStart => exact ⟨0, by omega, rfl, fun j hj h => absurd h (by omega)⟩
    case round =>
      obtain ⟨k, hk, rfl, hh⟩ := hrel
      by_cases hlt : k < s.size
      · cases h1 : letC ((s[k].toNat : Nat) : Int) with
        | true =>
          have HC : Hid (chB s[k] = true) := by show _ = _; unfold chB; rw [h1]; rfl
          have H1 := Lib.hid h1
          clear h1
          go_wp2_with (go_at_call 117; refine (isLetter_any _ _).mono ?_; rintro e w' ⟨rfl, rfl⟩; rw [H1.out])
          go_round
          case rel =>
            refine ⟨k + 1, by omega, by go_num, fun j hj hjk => ?_⟩
            by_cases e : j = k
            · subst e; exact HC.out
            · exact hh.out j hj (by omega)
          case measure => simp [intOf]; omega
        | false =>
          cases h2 : digI ((s[k].toNat : Nat) : Int) with
          | true =>
            have HC : Hid (chB s[k] = true) := by show _ = _; unfold chB; rw [h1, h2]; rfl
            have H1 := Lib.hid h1
            have H2 := Lib.hid h2
            clear h1 h2
            go_wp2_with (first | (go_at_call 117; refine (isLetter_any _ _).mono ?_; rintro e w' ⟨rfl, rfl⟩; rw [H1.out]) | (go_at_call 118; refine (isDigit_any _ _).mono ?_; rintro e w' ⟨rfl, rfl⟩; rw [H2.out]))
            go_round
            case rel =>
              refine ⟨k + 1, by omega, by go_num, fun j hj hjk => ?_⟩
              by_cases e : j = k
              · subst e; exact HC.out
              · exact hh.out j hj (by omega)
            case measure => simp [intOf]; omega
          | false =>
            have HN := Lib.hid (name_bad hlt (show chB s[k] = false by unfold chB; rw [h1, h2]; rfl))
            have H1 := Lib.hid h1
            have H2 := Lib.hid h2
            clear h1 h2
            go_wp2_with (first | (go_at_call 117; refine (isLetter_any _ _).mono ?_; rintro e w' ⟨rfl, rfl⟩; rw [H1.out]) | (go_at_call 118; refine (isDigit_any _ _).mono ?_; rintro e w' ⟨rfl, rfl⟩; rw [H2.out]))
            go_ret
            exact ⟨by rw [HN.out]; rfl, rfl⟩
      · have HN := Lib.hid (name_good hp hle HL.out fun k hk => hh.out k hk (by omega))
        go_wp2
        go_ret
        exact ⟨by rw [HN.out]; rfl, rfl⟩
set_option maxHeartbeats 1000000 in
theorem refIsName_any (s : ByteArray) (hs : SOk s) (w : World) : Calls Tryz.prog 89 #[.string s] w fun e w' => e = .returned (.bool (nameB s)) ∧ w = w' := by
  unfold SOk at hs
  by_cases h0 : s.size = 0
  · obtain rfl : s = ⟨#[]⟩ := by
      obtain ⟨d⟩ := s
      have : d.size = 0 := h0
      rw [Array.eq_empty_of_size_eq_zero this]
    clear hs h0
    go_enter Tryz.func89, Tryz.ntmps89
    go_wp2
    go_ret
    exact ⟨by rfl, rfl⟩
  have hp : 0 < s.size := by omega
  have hne := bytes_cons hp
  have hne2 : s.toList.isEmpty = false := by simpa using hne
  by_cases hbig : 24 < s.size
  · have HN := Lib.hid (name_big hbig)
    clear h0
    go_enter Tryz.func89, Tryz.ntmps89
    go_wp2
    go_ret
    exact ⟨by rw [HN.out]; rfl, rfl⟩
  have hle : s.size ≤ 24 := by omega
  cases hl : letC ((s[0].toNat : Nat) : Int) with
  | false =>
    have HN := Lib.hid (name_head hp hl)
    have HL := Lib.hid hl
    clear h0 hbig hl
    go_enter Tryz.func89, Tryz.ntmps89
    go_wp2_with (go_at_call 114; refine (letter_any _ _).mono ?_; rintro e w' ⟨rfl, rfl⟩; rw [HL.out])
    go_ret
    exact ⟨by rw [HN.out]; rfl, rfl⟩
  | true =>
    have HL := Lib.hid hl
    clear h0 hbig hl
    go_enter Tryz.func89, Tryz.ntmps89
    go_wp2_with (go_at_call 114; refine (letter_any _ _).mono ?_; rintro e w' ⟨rfl, rfl⟩; rw [HL.out])
    go_loop [3] (fun i => ∃ k : Nat, k ≤ s.size ∧ i = .int .i64 k ∧ Hid (∀ j (hj : j < s.size), j < k → chB s[j] = true)) (fun i => s.size - (intOf i).toNat)
    case atStart => exact ⟨0, by omega, rfl, fun j hj h => absurd h (by omega)⟩
    case round =>
      obtain ⟨k, hk, rfl, hh⟩ := hrel
      by_cases hlt : k < s.size
      · cases h1 : letC ((s[k].toNat : Nat) : Int) with
        | true =>
          have HC : Hid (chB s[k] = true) := by show _ = _; unfold chB; rw [h1]; rfl
          have H1 := Lib.hid h1
          clear h1
          go_wp2_with (go_at_call 114; refine (letter_any _ _).mono ?_; rintro e w' ⟨rfl, rfl⟩; rw [H1.out])
          go_round
          case rel =>
            refine ⟨k + 1, by omega, by go_num, fun j hj hjk => ?_⟩
            by_cases e : j = k
            · subst e; exact HC.out
            · exact hh.out j hj (by omega)
          case measure => simp [intOf]; omega
        | false =>
          cases h2 : digI ((s[k].toNat : Nat) : Int) with
          | true =>
            have HC : Hid (chB s[k] = true) := by show _ = _; unfold chB; rw [h1, h2]; rfl
            have H1 := Lib.hid h1
            have H2 := Lib.hid h2
            clear h1 h2
            go_wp2_with (first | (go_at_call 114; refine (letter_any _ _).mono ?_; rintro e w' ⟨rfl, rfl⟩; rw [H1.out]) | (go_at_call 115; refine (digit_any _ _).mono ?_; rintro e w' ⟨rfl, rfl⟩; rw [H2.out]))
            go_round
            case rel =>
              refine ⟨k + 1, by omega, by go_num, fun j hj hjk => ?_⟩
              by_cases e : j = k
              · subst e; exact HC.out
              · exact hh.out j hj (by omega)
            case measure => simp [intOf]; omega
          | false =>
            have HN := Lib.hid (name_bad hlt (show chB s[k] = false by unfold chB; rw [h1, h2]; rfl))
            have H1 := Lib.hid h1
            have H2 := Lib.hid h2
            clear h1 h2
            go_wp2_with (first | (go_at_call 114; refine (letter_any _ _).mono ?_; rintro e w' ⟨rfl, rfl⟩; rw [H1.out]) | (go_at_call 115; refine (digit_any _ _).mono ?_; rintro e w' ⟨rfl, rfl⟩; rw [H2.out]))
            go_ret
            exact ⟨by rw [HN.out]; rfl, rfl⟩
      · have HN := Lib.hid (name_good hp hle HL.out fun k hk => hh.out k hk (by omega))
        go_wp2
        go_ret
        exact ⟨by rw [HN.out]; rfl, rfl⟩
end Go.Proofs.YtkhpajneinmmiaaGreatDoor
