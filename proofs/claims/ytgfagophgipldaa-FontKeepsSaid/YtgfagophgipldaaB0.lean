import Derived.Test.YtgfagophgipldaaA8
namespace Go.Proofs.Ytgfagophgipldaa
open Go.RowKit
/-- A block of bytes with at least n cells that may be written. -/
def Blk5 (w : World) (g n : Nat) : Prop := ∃ cur, w.heap[g]? = some (.cells cur 5 (0, 0)) ∧ n ≤ cur.size
theorem blk_set {w : World} {g n g' j : Nat} {u : Value} (h : Blk5 w g n) : Blk5 (w.setCell ⟨g', j, none⟩ u) g n := by
  obtain ⟨cur, h1, h2⟩ := h
  by_cases e : g = g'
  · subst e
    exact ⟨cur.setIfInBounds j u, heap_setCell_same w g j cur 5 u h1, by simpa using h2⟩
  · exact ⟨cur, (Below.heap_setCell w ⟨g', j, none⟩ u g e).trans h1, h2⟩
theorem blk_below {w w' : World} {g n : Nat} (h : Blk5 w g n) (hb : Below w.heap.size w w') : Blk5 w' g n := by
  obtain ⟨cur, h1, h2⟩ := h
  exact ⟨cur, (hb.block g (Array.getElem?_eq_some_iff.1 h1).1).trans h1, h2⟩
theorem blk_cell {w : World} {g n j : Nat} (h : Blk5 w g n) (hj : j < n) : (∃ u, w.cell? ⟨g, j, none⟩ = some u) ∧ w.frozen? ⟨g, j, none⟩ = false := by
  obtain ⟨cur, h1, h2⟩ := h
  exact ⟨⟨cur[j], by rw [cell_of_row w g j cur 5 (0, 0) h1]; exact Array.getElem?_eq_getElem (by omega)⟩, frozen_of_row w g j cur 5 h1⟩
theorem own_blk {B : Nat} {w : World} {v : Value} {L : List Int} (h : Own B w v L) (h0 : 0 < L.length) : ∃ g cap, v = .slice (some ⟨g, 0, none⟩) L.length cap ∧ B ≤ g ∧ Blk5 w g L.length := by
  rcases h.2 with ⟨h1, h2⟩ | ⟨g, cap, cur, h1, h2, h3, h4, h5, h6, h7⟩
  · omega
  · exact ⟨g, cap, h1, h2, cur, h3, by omega⟩
structure KS (w : World) (g1 g2 g3 g4 : Nat) (wr : World) : Prop where
  b1 : Blk5 wr g1 80
  b2 : Blk5 wr g2 160
  b3 : Blk5 wr g3 5
  b4 : Blk5 wr g4 10
  bel : Below w.heap.size w wr
theorem ks_set {w : World} {g1 g2 g3 g4 : Nat} {wr : World} (h : KS w g1 g2 g3 g4 wr) {g j : Nat} {u : Value} (hg : w.heap.size ≤ g) : KS w g1 g2 g3 g4 (wr.setCell ⟨g, j, none⟩ u) :=
  ⟨blk_set h.b1, blk_set h.b2, blk_set h.b3, blk_set h.b4, h.bel.setCell (p := ⟨g, j, none⟩) hg u⟩
theorem kgl5_len (n : Int) (h0 : 0 ≤ n) : (glyphL n false).length = 5 := by
  have h : ∀ x : Fin 16, ((SM.drop (5 * x.val)).take 5).length = 5 := by decide +kernel
  rw [glyph_small (m := (n % 16).toNat) (by omega) h0]
  exact h ⟨(n % 16).toNat, by omega⟩
theorem kgl10_len (n : Int) (h0 : 0 ≤ n) : (glyphL n true).length = 10 := by
  have h : ∀ x : Fin 16, ((BG.drop (10 * x.val)).take 10).length = 10 := by decide +kernel
  rw [glyph_big (m := (n % 16).toNat) (by omega) h0]
  exact h ⟨(n % 16).toNat, by omega⟩
set_option maxRecDepth 20000 in
set_option maxHeartbeats 8000000 in
theorem keeps_core (n m : Nat) (w : World) (hm : (n : Int) % 16 = m) (_hm16 : m < 16) (hn : n < 256) : Calls Try.prog 5 #[.int .u8 n] w fun e w' => e = .returned (.bool true) ∧ Below w.heap.size w w' := by
  have h0 : (0 : Int) ≤ n := by omega
  have HS := hid (glyph_small hm h0)
  have HB := hid (glyph_big hm h0)
  have t1 : (5 * (m : Int)).toNat = 5 * m := by omega
  have t2 : (5 * (m : Int) + 5).toNat = 5 * m + 5 := by omega
  have t3 : (10 * (m : Int)).toNat = 10 * m := by omega
  have t4 : (10 * (m : Int) + 10).toNat = 10 * m + 10 := by omega
  go_enter Try.func5, Try.ntmps5
  go_wp2_with fail
  refine (awake_any _).mono ?_
  rintro e1 w1 ⟨rfl, b1⟩
  go_wp2_with fail
  refine (fontSmall_any _).mono ?_
  rintro e2 w2 ⟨v2, rfl, o2, b2⟩
  go_wp2_with fail
  refine (fontBig_any _).mono ?_
  rintro e3 w3 ⟨v3, rfl, o3, b3⟩
  go_wp2_with fail
  refine (glyph_any n false _).mono ?_
  rintro e4 w4 ⟨v4, rfl, o4, b4⟩
  go_wp2_with fail
  refine (glyph_any n true _).mono ?_
  rintro e5 w5 ⟨v5, rfl, o5, b5⟩
  obtain ⟨g1, c1, rfl, l1, k1⟩ := own_blk o2 (by decide)
  obtain ⟨g2, c2, rfl, l2, k2⟩ := own_blk o3 (by rw [bg_len']; decide)
  obtain ⟨g3, c3, rfl, l3, k3⟩ := own_blk o4 (by rw [kgl5_len _ h0]; decide)
  obtain ⟨g4, c4, rfl, l4, k4⟩ := own_blk o5 (by rw [kgl10_len _ h0]; decide)
  rw [sm_len] at k1
  rw [bg_len'] at k2
  rw [kgl5_len _ h0] at k3
  rw [kgl10_len _ h0] at k4
  rw [sm_len, bg_len', kgl5_len _ h0, kgl10_len _ h0]
  have L1 : w.heap.size ≤ g1 := Nat.le_trans b1.size l1
  have L2 : w.heap.size ≤ g2 := Nat.le_trans b1.size (Nat.le_trans b2.size l2)
  have L3 : w.heap.size ≤ g3 := Nat.le_trans b1.size (Nat.le_trans b2.size (Nat.le_trans b3.size l3))
  have L4 : w.heap.size ≤ g4 := Nat.le_trans b1.size (Nat.le_trans b2.size (Nat.le_trans b3.size (Nat.le_trans b4.size l4)))
  have K0 : KS w g1 g2 g3 g4 w5 := ⟨blk_below (blk_below (blk_below k1 b3) b4) b5, blk_below (blk_below k2 b4) b5, blk_below k3 b5, k4, bel_t (bel_t (bel_t (bel_t b1 b2) b3) b4) b5⟩
  clear o2 o3 o4 o5 b1 b2 b3 b4 b5 k1 k2 k3 k4 l1 l2 l3 l4
  dsimp only
  go_wp2_with fail
  go_loopw [7] (fun i wz => ∃ j : Nat, j ≤ 80 ∧ i = .int .i64 (j : Int) ∧ KS w g1 g2 g3 g4 wz) (fun i _ => 80 - (intOf i).toNat)
  case atStart => exact ⟨0, by omega, rfl, K0⟩
  case round =>
    clear K0
    obtain ⟨j, hj, rfl, K1⟩ := hrel
    by_cases hjn : j < 80
    · obtain ⟨⟨u, cu⟩, fu⟩ := blk_cell K1.b1 hjn
      go_wp2_with fail
      go_roundw
      case rel => exact ⟨j + 1, by omega, by go_num, ks_set K1 L1⟩
      case measure => simp [intOf]; omega
    · obtain rfl : j = 80 := by omega
      go_wp2_with fail
      go_loopw [8] (fun i wz => ∃ j : Nat, j ≤ 160 ∧ i = .int .i64 (j : Int) ∧ KS w g1 g2 g3 g4 wz) (fun i _ => 160 - (intOf i).toNat)
      case atStart => exact ⟨0, by omega, rfl, K1⟩
      case round =>
        clear K1
        obtain ⟨j, hj, rfl, K2⟩ := hrel
        by_cases hjn : j < 160
        · obtain ⟨⟨u, cu⟩, fu⟩ := blk_cell K2.b2 hjn
          go_wp2_with fail
          go_roundw
          case rel => exact ⟨j + 1, by omega, by go_num, ks_set K2 L2⟩
          case measure => simp [intOf]; omega
        · obtain rfl : j = 160 := by omega
          go_wp2_with fail
          go_loopw [9] (fun i wz => ∃ j : Nat, j ≤ 5 ∧ i = .int .i64 (j : Int) ∧ KS w g1 g2 g3 g4 wz) (fun i _ => 5 - (intOf i).toNat)
          case atStart => exact ⟨0, by omega, rfl, K2⟩
          case round =>
            clear K2
            obtain ⟨j, hj, rfl, K3⟩ := hrel
            by_cases hjn : j < 5
            · obtain ⟨⟨u, cu⟩, fu⟩ := blk_cell K3.b3 hjn
              go_wp2_with fail
              go_roundw
              case rel => exact ⟨j + 1, by omega, by go_num, ks_set K3 L3⟩
              case measure => simp [intOf]; omega
            · obtain rfl : j = 5 := by omega
              go_wp2_with fail
              go_loopw [10] (fun i wz => ∃ j : Nat, j ≤ 10 ∧ i = .int .i64 (j : Int) ∧ KS w g1 g2 g3 g4 wz) (fun i _ => 10 - (intOf i).toNat)
              case atStart => exact ⟨0, by omega, rfl, K3⟩
              case round =>
                clear K3
                obtain ⟨j, hj, rfl, K4⟩ := hrel
                by_cases hjn : j < 10
                · obtain ⟨⟨u, cu⟩, fu⟩ := blk_cell K4.b4 hjn
                  go_wp2_with fail
                  go_roundw
                  case rel => exact ⟨j + 1, by omega, by go_num, ks_set K4 L4⟩
                  case measure => simp [intOf]; omega
                · obtain rfl : j = 10 := by omega
                  go_wp2_with fail
                  have q0 := K4.bel
                  clear K4
                  refine (awake_any _).mono ?_
                  rintro e6 w6 ⟨rfl, b6⟩
                  have q6 := bel_t q0 b6
                  clear q0 b6
                  go_wp2_with fail
                  refine (glyph_any n true _).mono ?_
                  rintro e7 w7 ⟨v7, rfl, o7, b7⟩
                  rw [HB.out] at o7
                  go_wp2_with fail
                  refine (refBig_any _).mono ?_
                  rintro e8 w8 ⟨v8, rfl, o8, b8⟩
                  obtain ⟨g', cap', rfl, hc1', hc2', -, -⟩ := own_shape o8 (by rw [bg_len']; decide)
                  rw [bg_len'] at hc1'
                  have r7 := rd_below (rd_of_own o7) b8
                  have r8 := rd_of_own o8
                  rw [bg_len'] at r8
                  have q8 := bel_t (bel_t q6 b7) b8
                  clear o7 o8 b7 b8 q6
                  rw [bg_len']
                  have hne' : ¬ cap' = 10 * m := by omega
                  go_wp2_with fail
                  have hle' : ((BG.drop (10 * m)).take 10).length < 2 ^ 40 := by rw [List.length_take]; omega
                  refine (same_any _ _ _ _ _ r7 (rd_sub r8 (10 * m) 10 (by rw [bg_len']; omega)) hle').mono ?_
                  rintro e9 w9 ⟨rfl, b9⟩
                  rw [beq_self_eq_true]
                  have q9 := bel_t q8 b9
                  clear r7 r8 q8 b9 hle' hne'
                  go_wp2_with fail
                  refine (glyph_any n false _).mono ?_
                  rintro e10 w10 ⟨v10, rfl, o10, b10⟩
                  rw [HS.out] at o10
                  go_wp2_with fail
                  refine (refSmall_any _).mono ?_
                  rintro e11 w11 ⟨v11, rfl, o11, b11⟩
                  obtain ⟨g, cap, rfl, hc1, hc2, -, -⟩ := own_shape o11 (by decide)
                  rw [sm_len] at hc1
                  have r10 := rd_below (rd_of_own o10) b11
                  have r11 := rd_of_own o11
                  rw [sm_len] at r11
                  have q11 := bel_t (bel_t q9 b10) b11
                  clear o10 o11 b10 b11 q9
                  rw [sm_len]
                  have hne : ¬ cap = 5 * m := by omega
                  go_wp2_with fail
                  have hle : ((SM.drop (5 * m)).take 5).length < 2 ^ 40 := by rw [List.length_take]; omega
                  refine (same_any _ _ _ _ _ r10 (rd_sub r11 (5 * m) 5 (by rw [sm_len]; omega)) hle).mono ?_
                  rintro e12 w12 ⟨rfl, b12⟩
                  rw [beq_self_eq_true]
                  have q12 := bel_t q11 b12
                  clear r10 r11 q11 b12 hle hne
                  go_wp2_with fail
                  refine bodyPost_ret (results_tmp rfl _ _ _) rfl ⟨rfl, q12⟩
theorem keeps_walk (n : Nat) (w : World) (hn : n < 256) : Calls Try.prog 5 #[.int .u8 n] w fun e w' => e = .returned (.bool true) ∧ Below w.heap.size w w' :=
  keeps_core n (n % 16) w (by omega) (by omega) hn
end Go.Proofs.Ytgfagophgipldaa
