import Derived.Test.YtgfagophgipldaaA7
namespace Go.Proofs.Ytgfagophgipldaa
open Go.RowKit
theorem own_shape {B : Nat} {w : World} {v : Value} {L : List Int} (h : Own B w v L) (h0 : 0 < L.length) : ∃ g cap, v = .slice (some ⟨g, 0, none⟩) L.length cap ∧ L.length ≤ cap ∧ cap ≤ maxLen ∧ B ≤ g ∧ g < w.heap.size := by
  rcases h.2 with ⟨h1, h2⟩ | ⟨g, cap, cur, h1, h2, h3, h4, h5, h6⟩
  · omega
  · exact ⟨g, cap, h1, h4, h5, h2, (Array.getElem?_eq_some_iff.1 h3).1⟩
theorem rd_sub {w : World} {g n cap cap' : Nat} {L : List Int} (h : Rd w (.slice (some ⟨g, 0, none⟩) n cap) L) (i m : Nat) (hm : i + m ≤ L.length) : Rd w (.slice (some ⟨g, i, none⟩) m cap') ((L.drop i).take m) := by
  rcases h with ⟨h1, hL⟩ | ⟨g', off, c, h1, h2, h3⟩
  · obtain ⟨ao, c, e⟩ := h1
    cases e
    subst hL
    have hi : i = 0 := by have : ([] : List Int).length = 0 := rfl; omega
    have hm0 : m = 0 := by have : ([] : List Int).length = 0 := rfl; omega
    subst hi hm0
    exact .inl ⟨⟨_, _, rfl⟩, rfl⟩
  · simp only [Value.slice.injEq, Option.some.injEq, Addr.mk.injEq, and_true] at h1
    obtain ⟨⟨rfl, rfl⟩, -, -⟩ := h1
    have hl : ((L.drop i).take m).length = m := by rw [List.length_take, List.length_drop]; omega
    refine .inr ⟨g, i, cap', by rw [hl], h2, fun j x hx => ?_⟩
    rw [List.getElem?_take] at hx
    split at hx
    · rw [List.getElem?_drop] at hx
      have := h3 (i + j) x hx
      rwa [Nat.zero_add] at this
    · cases hx
theorem sm_len : SM.length = 80 := by kernel_rfl
theorem bg_len' : BG.length = 160 := by kernel_rfl
theorem glyph_small {n : Int} {m : Nat} (h : n % 16 = m) (h0 : 0 ≤ n) : glyphL n false = (SM.drop (5 * m)).take 5 := by
  unfold glyphL
  rw [if_neg (by omega), h]
  rfl
theorem glyph_big {n : Int} {m : Nat} (h : n % 16 = m) (h0 : 0 ≤ n) : glyphL n true = (BG.drop (10 * m)).take 10 := by
  unfold glyphL
  rw [if_neg (by omega), h]
  rfl
set_option maxHeartbeats 2000000 in
theorem fontRef_pos (n : Int) (m : Nat) (w : World) (hm : n % 16 = m) (h0 : 0 ≤ n) (_hm16 : m < 16) : Calls Try.prog 3 #[.int .i64 n] w fun e w' => e = .returned (.bool true) ∧ Below w.heap.size w w' := by
  have HS := hid (glyph_small hm h0)
  have HB := hid (glyph_big hm h0)
  have hs1 : smallAt n = 80 + 5 * (m : Int) := by unfold smallAt; rw [if_neg (by omega), hm]
  have hs2 : bigAt n = 160 + 10 * (m : Int) := by unfold bigAt; rw [if_neg (by omega), hm]
  have HS1 := hid hs1
  have HS2 := hid hs2
  clear hs1 hs2
  have t1 : (5 * (m : Int)).toNat = 5 * m := by omega
  have t2 : (5 * (m : Int) + 5).toNat = 5 * m + 5 := by omega
  have t3 : (10 * (m : Int)).toNat = 10 * m := by omega
  have t4 : (10 * (m : Int) + 10).toNat = 10 * m + 10 := by omega
  go_enter Try.func3, Try.ntmps3
  go_wp2_with fail
  refine (awake_any _).mono ?_
  rintro e1 w1 ⟨rfl, b1⟩
  go_wp2_with fail
  refine (smallAt_any n _).mono ?_
  rintro e2 w2 ⟨rfl, rfl⟩
  rw [HS1.out]
  go_wp2_with fail
  refine (bigAt_any n _).mono ?_
  rintro e3 w3 ⟨rfl, rfl⟩
  rw [HS2.out]
  go_wp2_with fail
  refine (glyph_any n false _).mono ?_
  rintro e4 w4 ⟨v4, rfl, o4, b4⟩
  rw [HS.out] at o4
  go_wp2_with fail
  refine (refSmall_any _).mono ?_
  rintro e5 w5 ⟨v5, rfl, o5, b5⟩
  obtain ⟨g, cap, rfl, hc1, hc2, -, -⟩ := own_shape o5 (by decide)
  rw [sm_len] at hc1
  have r4 := rd_below (rd_of_own o4) b5
  have r5 := rd_of_own o5
  rw [sm_len] at r5
  have q5 := bel_t (bel_t b1 b4) b5
  clear o4 o5 b1 b4 b5
  rw [sm_len]
  have hne : ¬ cap = 5 * m := by omega
  go_wp2_with fail
  have hle : ((SM.drop (5 * m)).take 5).length < 2 ^ 40 := by rw [List.length_take]; omega
  refine (same_any _ _ _ _ _ r4 (rd_sub r5 (5 * m) 5 (by rw [sm_len]; omega)) hle).mono ?_
  rintro e6 w6 ⟨rfl, b6⟩
  rw [beq_self_eq_true]
  have q6 := bel_t q5 b6
  clear r4 r5 q5 b6 hle hne
  go_wp2_with fail
  refine (glyph_any n true _).mono ?_
  rintro e7 w7 ⟨v7, rfl, o7, b7⟩
  rw [HB.out] at o7
  go_wp2_with fail
  refine (refBig_any _).mono ?_
  rintro e8 w8 ⟨v8, rfl, o8, b8⟩
  obtain ⟨g', cap', rfl, hc1', hc2', -, -⟩ := own_shape o8 (by rw [bg_len']; decide)
  rw [bg_len'] at hc1'
  have r7 := rd_below (rd_of_own o7) b8
  have r8 := rd_of_own o8
  rw [bg_len'] at r8
  have q8 := bel_t (bel_t q6 b7) b8
  clear o7 o8 b7 b8 q6
  rw [bg_len']
  have hne' : ¬ cap' = 10 * m := by omega
  go_wp2_with fail
  have hle' : ((BG.drop (10 * m)).take 10).length < 2 ^ 40 := by rw [List.length_take]; omega
  refine (same_any _ _ _ _ _ r7 (rd_sub r8 (10 * m) 10 (by rw [bg_len']; omega)) hle').mono ?_
  rintro e9 w9 ⟨rfl, b9⟩
  rw [beq_self_eq_true]
  have q9 := bel_t q8 b9
  clear r7 r8 q8 b9 hle' hne'
  go_wp2_with fail
  go_ret
  exact ⟨rfl, q9⟩
theorem glyph_nil {n : Int} (b : Bool) (h : n < 0) : glyphL n b = [] := if_pos h
set_option maxHeartbeats 2000000 in
theorem fontRef_neg (n : Int) (w : World) (hn : n < 0) : Calls Try.prog 3 #[.int .i64 n] w fun e w' => e = .returned (.bool true) ∧ Below w.heap.size w w' := by
  have hs1 : smallAt n = 0 := if_pos hn
  have hs2 : bigAt n = 0 := if_pos hn
  have HS1 := hid hs1
  have HS2 := hid hs2
  have HN := hid hn
  clear hs1 hs2
  go_enter Try.func3, Try.ntmps3
  go_wp2_with fail
  refine (awake_any _).mono ?_
  rintro e1 w1 ⟨rfl, b1⟩
  go_wp2_with fail
  refine (smallAt_any n _).mono ?_
  rintro e2 w2 ⟨rfl, rfl⟩
  rw [HS1.out]
  go_wp2_with fail
  refine (bigAt_any n _).mono ?_
  rintro e3 w3 ⟨rfl, rfl⟩
  rw [HS2.out]
  go_wp2_with fail
  refine (glyph_any n false _).mono ?_
  rintro e4 w4 ⟨v4, rfl, o4, b4⟩
  have r4 := rd_of_own o4
  rw [glyph_nil false HN.out] at r4
  obtain ⟨ao4, cap4, rfl, -⟩ := rd_view r4
  have q4 := bel_t b1 b4
  clear r4 o4 b4 b1
  go_wp2_with fail
  refine (glyph_any n true _).mono ?_
  rintro e5 w5 ⟨v5, rfl, o5, b5⟩
  have r5 := rd_of_own o5
  rw [glyph_nil true HN.out] at r5
  obtain ⟨ao5, cap5, rfl, -⟩ := rd_view r5
  have q5 := bel_t q4 b5
  clear r5 o5 b5 q4
  go_wp2_with fail
  go_ret
  exact ⟨rfl, q5⟩
theorem fontRef_walk (n : Int) (w : World) (_h : (Lit.int .i64 n).wf = true) : Calls Try.prog 3 #[.int .i64 n] w fun e w' => e = .returned (.bool true) ∧ Below w.heap.size w w' := by
  by_cases hn : n < 0
  · exact fontRef_neg n w hn
  · exact fontRef_pos n (n % 16).toNat w (by omega) (by omega) (by omega)
end Go.Proofs.Ytgfagophgipldaa
