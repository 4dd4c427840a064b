import Derived.Test.YtgfagophgipldaaA6
namespace Go.Proofs.Ytgfagophgipldaa
open Go.RowKit
theorem rd_of_own {B : Nat} {w : World} {v : Value} {L : List Int} (h : Own B w v L) : Rd w v L := by
  rcases h.2 with ⟨h1, h2⟩ | ⟨g, cap, cur, h1, h2, h3, h4⟩
  · exact .inl ⟨⟨_, _, h1⟩, List.eq_nil_of_length_eq_zero h2⟩
  · subst h1
    refine .inr ⟨g, 0, cap, rfl, (Array.getElem?_eq_some_iff.1 h3).1, fun j x hx => ?_⟩
    rw [Nat.zero_add]
    have hj : j < L.length := (List.getElem?_eq_some_iff.1 hx).1
    rw [World.ownsRow.cellAt h j (by omega), bs_get, hx]
    rfl
theorem rd_below {w w' : World} {v : Value} {L : List Int} (h : Rd w v L) (hb : Below w.heap.size w w') : Rd w' v L := by
  rcases h with h | ⟨g, off, cap, h1, h2, h3⟩
  · exact .inl h
  · exact .inr ⟨g, off, cap, h1, Nat.lt_of_lt_of_le h2 hb.size, fun j x hx => (hb.cell (p := ⟨g, off + j, none⟩) h2).trans (h3 j x hx)⟩
theorem rd_alloc {w : World} {v : Value} {L : List Int} (h : Rd w v L) (o : Obj) : Rd (w.alloc o) v L := rd_below h ((Below.refl _ _).alloc (Nat.le_refl _) o)
theorem rd_lit (w : World) (L : List Int) (T : TypeId) (cap : Nat) : Rd (w.alloc (.cells (bs L).toArray T)) (.slice (some ⟨w.heap.size, 0, none⟩) L.length cap) L := by
  refine .inr ⟨w.heap.size, 0, cap, rfl, by simp, fun j x hx => ?_⟩
  rw [Nat.zero_add, cell_of_row _ _ _ _ _ _ (heap_alloc_new w _), List.getElem?_toArray, bs_get, hx]
  rfl
theorem bel_t {w w1 w2 : World} (h : Below w.heap.size w w1) (h2 : Below w1.heap.size w1 w2) : Below w.heap.size w w2 := h.trans (h2.mono h.size)
theorem bg_len : BG.length < 2 ^ 40 := by
  have : BG.length = 160 := by kernel_rfl
  omega
set_option maxHeartbeats 2000000 in
theorem awake_any (w : World) : Calls Try.prog 12 #[] w fun e w' => e = .returned (.bool true) ∧ Below w.heap.size w w' := by
  go_enter Try.func12, Try.ntmps12
  go_wp2_with fail
  refine (fontSmall_any _).mono ?_
  rintro e1 w1 ⟨v1, rfl, o1, b1⟩
  go_wp2_with fail
  refine (refSmall_any _).mono ?_
  rintro e2 w2 ⟨v2, rfl, o2, b2⟩
  have q2 := bel_t b1 b2
  have r1 := rd_below (rd_of_own o1) b2
  have r2 := rd_of_own o2
  clear o1 o2 b1 b2
  go_wp2_with fail
  refine (same_any SM SM v1 v2 _ r1 r2 (by decide)).mono ?_
  rintro e3 w3 ⟨rfl, b3⟩
  rw [beq_self_eq_true]
  have q3 := bel_t q2 b3
  clear r1 r2 b3 q2
  go_wp2_with fail
  refine (fontBig_any _).mono ?_
  rintro e4 w4 ⟨v4, rfl, o4, b4⟩
  go_wp2_with fail
  refine (refBig_any _).mono ?_
  rintro e5 w5 ⟨v5, rfl, o5, b5⟩
  have q5 := bel_t (bel_t q3 b4) b5
  have r4 := rd_below (rd_of_own o4) b5
  have r5 := rd_of_own o5
  clear o4 o5 b4 b5 q3
  go_wp2_with fail
  refine (same_any BG BG v4 v5 _ r4 r5 bg_len).mono ?_
  rintro e6 w6 ⟨rfl, b6⟩
  rw [beq_self_eq_true]
  have q6 := bel_t q5 b6
  clear r4 r5 b6 q5
  go_wp2_with fail
  refine (glyph_any 1 false _).mono ?_
  rintro e7 w7 ⟨v7, rfl, o7, b7⟩
  have q7 := bel_t q6 b7
  clear b7 q6
  go_wp2_with fail
  have hr7 := rd_alloc (rd_of_own o7) (.cells (bs [32, 96, 32, 32, 112]).toArray 5)
  refine (same_any _ [32, 96, 32, 32, 112] _ _ _ hr7 (rd_lit w7 [32, 96, 32, 32, 112] 5 5) (by decide)).mono ?_
  rintro e8 w8 ⟨rfl, b8⟩
  rw [show (glyphL 1 false == [32, 96, 32, 32, 112]) = true by kernel_rfl]
  have q8 : Below w.heap.size w w8 := bel_t (q7.alloc q7.size _) b8
  clear hr7 b8 q7 o7
  go_wp2_with fail
  refine (smallAt_any 1 _).mono ?_
  rintro e9 w9 ⟨rfl, rfl⟩
  rw [show smallAt 1 = 85 by kernel_rfl]
  go_wp2_with fail
  refine (bigAt_any 15 _).mono ?_
  rintro e10 w10 ⟨rfl, rfl⟩
  rw [show bigAt 15 = 310 by kernel_rfl]
  go_wp2_with fail
  refine (glyph_any (-1) true _).mono ?_
  rintro e11 w11 ⟨v11, rfl, o11, b11⟩
  have r11 := rd_of_own o11
  rw [show glyphL (-1) true = [] by kernel_rfl] at r11
  obtain ⟨ao, cap, rfl, -⟩ := rd_view r11
  have q11 := bel_t q8 b11
  clear r11 o11 b11 q8
  go_wp2_with fail
  go_ret
  exact ⟨rfl, q11⟩
end Go.Proofs.Ytgfagophgipldaa
