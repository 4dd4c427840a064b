import Derived.Test.YtgfagophgipldaaA8
namespace Go.Proofs.Ytgfagophgipldaa
open Go.RowKit
theorem gl5_len (m : Nat) (hm : m < 16) : (glyphL m false).length = 5 := by
  have h : ∀ x : Fin 16, (glyphL (x.val : Int) false).length = 5 := by decide +kernel
  exact h ⟨m, hm⟩
theorem gl10_len (m : Nat) (hm : m < 16) : (glyphL m true).length = 10 := by
  have h : ∀ x : Fin 16, (glyphL (x.val : Int) true).length = 10 := by decide +kernel
  exact h ⟨m, hm⟩
theorem gl5_at (m j : Nat) (hm : m < 16) (hj : j < 5) : ∃ x, (glyphL m false)[j]? = some x ∧ x % 16 = 0 ∧ 1 ≤ x ∧ x ≤ 255 ∧ (j = 0 → m ≠ 1 → m ≠ 4 → 224 ≤ x) := by
  have h : ∀ a : Fin 16, ∀ b : Fin 5, ((glyphL (a.val : Int) false).getD b.val 0) % 16 = 0 ∧ 1 ≤ (glyphL (a.val : Int) false).getD b.val 0 ∧ (glyphL (a.val : Int) false).getD b.val 0 ≤ 255 ∧ (b.val = 0 → a.val ≠ 1 → a.val ≠ 4 → 224 ≤ (glyphL (a.val : Int) false).getD b.val 0) := by decide +kernel
  have hl := gl5_len m hm
  refine ⟨(glyphL m false).getD j 0, ?_, h ⟨m, hm⟩ ⟨j, hj⟩⟩
  rw [List.getD_eq_getElem?_getD, List.getElem?_eq_getElem (by omega)]
  rfl
theorem gl10_at (m j : Nat) (hm : m < 16) (hj : j < 10) : ∃ x, (glyphL m true)[j]? = some x ∧ 1 ≤ x ∧ x ≤ 255 := by
  have h : ∀ a : Fin 16, ∀ b : Fin 10, 1 ≤ (glyphL (a.val : Int) true).getD b.val 0 ∧ (glyphL (a.val : Int) true).getD b.val 0 ≤ 255 := by decide +kernel
  have hl := gl10_len m hm
  refine ⟨(glyphL m true).getD j 0, ?_, h ⟨m, hm⟩ ⟨j, hj⟩⟩
  rw [List.getD_eq_getElem?_getD, List.getElem?_eq_getElem (by omega)]
  rfl
theorem rd_cell {w : World} {g n cap j : Nat} {x : Int} {L : List Int} (h : Rd w (.slice (some ⟨g, 0, none⟩) n cap) L) (hx : L[j]? = some x) : w.cell? ⟨g, j, none⟩ = some (.int .u8 x) := by
  rcases h with ⟨h1, -⟩ | ⟨g', off, c, h1, h2, h3⟩
  · cases h1
  · simp only [Value.slice.injEq, Option.some.injEq, Addr.mk.injEq, and_true] at h1
    obtain ⟨⟨rfl, rfl⟩, -, -⟩ := h1
    have := h3 j x hx
    rwa [Nat.zero_add] at this
set_option maxHeartbeats 2000000 in
theorem shapes_core (a m : Nat) (w : World) (hm : (a : Int) % 16 = m) (hm16 : m < 16) (ha : a < 256) :
    Calls Try.prog 6 #[.int .u8 a] w fun e w' => e = .returned (.bool true) ∧ Below w.heap.size w w' := by
  go_enter Try.func6, Try.ntmps6
  go_wp2_with fail
  refine (awake_any _).mono ?_
  rintro e1 w1 ⟨rfl, b1⟩
  go_wp2_with fail
  refine (glyph_any m false _).mono ?_
  rintro e4 w4 ⟨v4, rfl, o4, b4⟩
  go_wp2_with fail
  refine (glyph_any m true _).mono ?_
  rintro e5 w5 ⟨v5, rfl, o5, b5⟩
  have r4 := rd_below (rd_of_own o4) b5
  have r5 := rd_of_own o5
  obtain ⟨g, cap, rfl, -, -, -, -⟩ := own_shape o4 (by rw [gl5_len m hm16]; decide)
  obtain ⟨g', cap', rfl, -, -, -, -⟩ := own_shape o5 (by rw [gl10_len m hm16]; decide)
  have q5 := bel_t (bel_t b1 b4) b5
  clear o4 o5 b1 b4 b5
  rw [gl5_len m hm16] at r4
  rw [gl10_len m hm16] at r5
  rw [gl5_len m hm16, gl10_len m hm16]
  have R4 := hid r4
  have R5 := hid r5
  clear r4 r5
  go_wp2_with fail
  go_loopw [6] (fun i wr => ∃ j : Nat, j ≤ 5 ∧ i = .int .i64 (j : Int) ∧ wr = w5) (fun i _ => 5 - (intOf i).toNat)
  case atStart => exact ⟨0, by omega, rfl, rfl⟩
  case round =>
    obtain ⟨j, hj, rfl, rfl⟩ := hrel
    by_cases hj5 : j < 5
    · obtain ⟨x, hx, hx16, hx1, hx255, -⟩ := gl5_at m j hm16 hj5
      have c := rd_cell R4.out hx
      clear hx
      have e0 : (x == 0) = false := by rw [beq_eq_false_iff_ne]; omega
      have e1 : x.tmod 16 = 0 := by rw [Int.tmod_eq_emod_of_nonneg (by omega)]; exact hx16
      go_wp2_with fail
      go_roundw
      case rel => exact ⟨j + 1, by omega, by go_num, trivial⟩
      case measure => simp [intOf]; omega
    · obtain rfl : j = 5 := by omega
      go_wp2_with fail
      go_loopw [7] (fun i wz => ∃ j : Nat, j ≤ 10 ∧ i = .int .i64 (j : Int) ∧ wz = wr) (fun i _ => 10 - (intOf i).toNat)
      case atStart => exact ⟨0, by omega, rfl, rfl⟩
      case round =>
        obtain ⟨j, hj, rfl, rfl⟩ := hrel
        by_cases hj10 : j < 10
        · obtain ⟨x, hx, hx1, hx255⟩ := gl10_at m j hm16 hj10
          have c := rd_cell R5.out hx
          clear hx
          have e0 : (x == 0) = false := by rw [beq_eq_false_iff_ne]; omega
          go_wp2_with fail
          go_roundw
          case rel => exact ⟨j + 1, by omega, by go_num, by first | trivial | rfl⟩
          case measure => simp [intOf]; omega
        · obtain rfl : j = 10 := by omega
          obtain ⟨x, hx, -, hx1, hx255, hx224⟩ := gl5_at m 0 hm16 (by omega)
          have c := rd_cell R4.out hx
          clear hx
          by_cases hm1 : m = 1
          · have d1 : ((m : Int) == 1) = true := by rw [beq_iff_eq]; omega
            go_wp2_with fail
            refine bodyPost_ret (results_tmp rfl _ _ _) rfl ⟨rfl, q5⟩
          · have d1 : ((m : Int) == 1) = false := by rw [beq_eq_false_iff_ne]; omega
            by_cases hm4 : m = 4
            · have d4 : ((m : Int) == 4) = true := by rw [beq_iff_eq]; omega
              go_wp2_with fail
              refine bodyPost_ret (results_tmp rfl _ _ _) rfl ⟨rfl, q5⟩
            · have d4 : ((m : Int) == 4) = false := by rw [beq_eq_false_iff_ne]; omega
              have d5 : (224 : Int) ≤ x := hx224 rfl hm1 hm4
              go_wp2_with fail
              refine bodyPost_ret (results_tmp rfl _ _ _) rfl ⟨rfl, q5⟩
theorem shapes_walk (a : Nat) (w : World) (ha : a < 256) : Calls Try.prog 6 #[.int .u8 a] w fun e w' => e = .returned (.bool true) ∧ Below w.heap.size w w' :=
  shapes_core a (a % 16) w (by omega) (by omega) ha
end Go.Proofs.Ytgfagophgipldaa
