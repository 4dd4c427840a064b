import Derived.Test.YtgfagophgipldaaA8
import Derived.Deep.RegionHeld3
namespace Go.Proofs.Ytgfagophgipldaa
open Go.RowKit
theorem glyph_len (n : Int) (b : Bool) : (glyphL n b).length < 2 ^ 40 := by
  unfold glyphL
  split
  · decide
  · split <;> (rw [List.length_take]; omega)
theorem glyph_diff (m k : Nat) (hm : m < 16) (hk : k < 16) (b : Bool) : (glyphL m b == glyphL k b) = ((m : Int) == (k : Int)) := by
  have h : ∀ b : Bool, ∀ x y : Fin 16, (glyphL (x.val : Int) b == glyphL (y.val : Int) b) = ((x.val : Int) == (y.val : Int)) := by decide +kernel
  exact h b ⟨m, hm⟩ ⟨k, hk⟩
theorem same_eq (A : List Int) (va vb : Value) (w : World) (ha : Rd w va A) (hb : Rd w vb A) (hn : A.length < 2 ^ 40) :
    Calls Try.prog 16 #[va, vb] w fun e w' => e = .returned (.bool true) ∧ Below w.heap.size w w' :=
  (same_any A A va vb w ha hb hn).mono fun e w' h => ⟨by rw [h.1, beq_self_eq_true], h.2⟩
theorem same_gl (m k : Nat) (b : Bool) (hm : m < 16) (hk : k < 16) (va vb : Value) (w : World) (ha : Rd w va (glyphL m b)) (hb : Rd w vb (glyphL k b)) :
    Calls Try.prog 16 #[va, vb] w fun e w' => e = .returned (.bool ((m : Int) == (k : Int))) ∧ Below w.heap.size w w' :=
  (same_any _ _ va vb w ha hb (glyph_len _ _)).mono fun e w' h => ⟨by rw [h.1, glyph_diff m k hm hk b], h.2⟩
theorem glyph_small' (m : Nat) (hm : m < 16) : glyphL m false = (SM.drop (5 * m)).take 5 := glyph_small (by omega) (by omega)
theorem glyph_big' (m : Nat) (hm : m < 16) : glyphL m true = (BG.drop (10 * m)).take 10 := glyph_big (by omega) (by omega)
theorem run_sub (g n cap p m : Nat) (w : World) (h1 : p + m ≤ cap) (h0 : 0 < m) :
    (Instr.slice 24 (.slice (some ⟨g, 0, none⟩) n cap) (some (.int .i64 p)) (some (.int .i64 ((p : Int) + m))) none).run Try.prog w = .ok (.slice (some ⟨g, p, none⟩) m (cap - p)) w := by
  have n1 : (p : Int) ≤ (p : Int) + m := by omega
  have n3 : (p : Int) + m ≤ (cap : Int) := by omega
  have n5 : (0 : Int) ≤ (p : Int) + m := by omega
  have n2 : ((p : Int) + m).toNat = p + m := by omega
  have hne : ¬ cap = p := by omega
  have hu := Try.underlying24
  unfold Instr.slice
  go_simp
/-- What the region keeps: both fonts read, old memory stands. -/
structure GS (w : World) (g g' cap cap' m : Nat) (wr : World) : Prop where
  s : Rd wr (.slice (some ⟨g, 0, none⟩) 80 cap) SM
  b : Rd wr (.slice (some ⟨g', 0, none⟩) 160 cap') BG
  bel : Below w.heap.size w wr
  m16 : m < 16
theorem gs_drew {w : World} {g g' cap cap' m : Nat} {wr : World} (h : GS w g g' cap cap' m wr) : GS w g g' cap cap' m wr.drew := ⟨h.s, h.b, h.bel.drew, h.m16⟩
theorem gs_next {w : World} {g g' cap cap' m : Nat} {w1 w2 : World} (hb : Below w1.heap.size w1 w2) (h : GS w g g' cap cap' m w1) : GS w g g' cap cap' m w2 := ⟨rd_below h.s hb, rd_below h.b hb, bel_t h.bel hb, h.m16⟩
theorem gs_s {w : World} {g g' cap cap' m c p : Nat} {wr : World} (hp : p = 5 * m) (h : GS w g g' cap cap' m wr) : Rd wr (.slice (some ⟨g, p, none⟩) 5 c) (glyphL m false) := by
  subst hp
  rw [glyph_small' m h.m16]
  have := h.m16
  exact rd_sub h.s (5 * m) 5 (by rw [sm_len]; omega)
theorem gs_b {w : World} {g g' cap cap' m c p : Nat} {wr : World} (hp : p = 10 * m) (h : GS w g g' cap cap' m wr) : Rd wr (.slice (some ⟨g', p, none⟩) 10 c) (glyphL m true) := by
  subst hp
  rw [glyph_big' m h.m16]
  have := h.m16
  exact rd_sub h.b (10 * m) 10 (by rw [bg_len']; omega)
set_option maxRecDepth 20000 in
set_option maxHeartbeats 40000000 in
theorem glyphs_core (a b m k p q : Nat) (w : World) (hp : p = 5 * m) (hq : q = 10 * m) (hm : (a : Int) % 16 = m) (hk : (b : Int) % 16 = k) (hm16 : m < 16) (hk16 : k < 16) (ha : a < 256) (hb : b < 256) :
    Calls Try.prog 4 #[.int .u8 a, .int .u8 b] w fun e w' => e = .returned (.bool true) ∧ Below w.heap.size w w' := by
  have hs1 : smallAt m = 80 + (p : Int) := by unfold smallAt; rw [if_neg (by omega)]; omega
  have hs2 : bigAt m = 160 + (q : Int) := by unfold bigAt; rw [if_neg (by omega)]; omega
  have HS1 := hid hs1
  have HS2 := hid hs2
  clear hs1 hs2
  have p1 : (p : Int) ≤ 75 := by omega
  have q1 : (q : Int) ≤ 150 := by omega
  have HP := hid hp
  have HQ := hid hq
  clear hp hq
  have z1 : (80 : Int) + p - 80 = p := by omega
  have z2 : (160 : Int) + q - 160 = q := by omega
  have t1 : ((p : Int)).toNat = p := by omega
  have t2 : ((p : Int) + 5).toNat = p + 5 := by omega
  have t3 : ((q : Int)).toNat = q := by omega
  have t4 : ((q : Int) + 10).toNat = q + 10 := by omega
  go_enter Try.func4, Try.ntmps4
  go_wp2_with fail
  refine (awake_any _).mono ?_
  rintro e1 w1 ⟨rfl, b1⟩
  go_wp2_with fail
  refine (smallAt_any m _).mono ?_
  rintro e2 w2 ⟨rfl, rfl⟩
  rw [HS1.out]
  go_wp2_with fail
  refine (bigAt_any m _).mono ?_
  rintro e3 w3 ⟨rfl, rfl⟩
  rw [HS2.out]
  go_wp2_with fail
  refine (fontSmall_any _).mono ?_
  rintro e4 w4 ⟨v4, rfl, o4, b4⟩
  go_wp2_with fail
  refine (fontBig_any _).mono ?_
  rintro e5 w5 ⟨v5, rfl, o5, b5⟩
  have r4 := rd_below (rd_of_own o4) b5
  have r5 := rd_of_own o5
  obtain ⟨g, cap, rfl, hc1, -, -, -⟩ := own_shape o4 (by decide)
  obtain ⟨g', cap', rfl, hc1', -, -, -⟩ := own_shape o5 (by rw [bg_len']; decide)
  rw [sm_len] at hc1 r4
  rw [bg_len'] at hc1' r5
  have q5 := bel_t (bel_t b1 b4) b5
  clear o4 o5 b1 b4 b5
  rw [sm_len, bg_len']
  have hne : ¬ cap = p := by omega
  have hne' : ¬ cap' = q := by omega
  have x1 : ¬ ((p : Int)) < 0 := by omega
  have x2 : ¬ ((q : Int)) < 0 := by omega
  have x3 : ¬ (80 : Int) < (p : Int) + 5 := by omega
  have x4 : ¬ (160 : Int) < (q : Int) + 10 := by omega
  dsimp only
  repeat' (first | go_values | go_skip | go_guarded | go_step | go_upon)
  have n1 : (0 : Int) ≤ (p : Int) := by omega
  have n2 : (p : Int) ≤ (p : Int) + 5 := by omega
  have n3 : (p : Int) + 5 ≤ (cap : Int) := by omega
  have n4 : IntKind.i64.wrap ((p : Int) + 5) = (p : Int) + 5 := IntWalk.i64_in _ (by omega)
  have n5 : (0 : Int) ≤ (q : Int) := by omega
  have n6 : (q : Int) ≤ (q : Int) + 10 := by omega
  have n7 : (q : Int) + 10 ≤ (cap' : Int) := by omega
  have n8 : IntKind.i64.wrap ((q : Int) + 10) = (q : Int) + 10 := IntWalk.i64_in _ (by omega)
  have n9 : p + 5 - p = 5 := by omega
  have n10 : q + 10 - q = 10 := by omega
  have G0 : GS w g g' cap cap' m w5 := ⟨r4, r5, q5, hm16⟩
  clear r4 r5 q5
  obtain ⟨A, hA⟩ : ∃ A, A = glyphL m false := ⟨_, rfl⟩
  obtain ⟨B, hB⟩ : ∃ B, B = glyphL m true := ⟨_, rfl⟩
  obtain ⟨A', hA'⟩ : ∃ A, A = glyphL k false := ⟨_, rfl⟩
  obtain ⟨B', hB'⟩ : ∃ B, B = glyphL k true := ⟨_, rfl⟩
  have cA := hid (glyph_any m false)
  have cB := hid (glyph_any m true)
  have cA' := hid (glyph_any k false)
  have cB' := hid (glyph_any k true)
  have sA := hid (fun va vb w => same_eq (glyphL m false) va vb w)
  have sB := hid (fun va vb w => same_eq (glyphL m true) va vb w)
  have dA := hid (fun va vb w => same_gl m k false hm16 hk16 va vb w)
  have dB := hid (fun va vb w => same_gl m k true hm16 hk16 va vb w)
  have nA : Hid ((glyphL m false).length < 2 ^ 40) := glyph_len _ _
  have nB : Hid ((glyphL m true).length < 2 ^ 40) := glyph_len _ _
  have gA : Hid (∀ wr c, GS w g g' cap cap' m wr → Rd wr (.slice (some ⟨g, p, none⟩) 5 c) (glyphL m false)) := fun _ _ h => gs_s HP.out h
  have gB : Hid (∀ wr c, GS w g g' cap cap' m wr → Rd wr (.slice (some ⟨g', q, none⟩) 10 c) (glyphL m true)) := fun _ _ h => gs_b HQ.out h
  rw [← hA] at cA sA dA nA gA
  rw [← hB] at cB sB dB nB gB
  rw [← hA'] at cA' dA
  rw [← hB'] at cB' dB
  clear hA hB hA' hB'
  go_region_held3 (fun wr => GS w g g' cap cap' m wr)
    (first | with_reducible assumption | with_reducible exact gs_drew G0 | exact gs_next (by with_reducible assumption) (by with_reducible assumption))
    (first
      | (go_at_call 15; with_reducible refine (cA.out _).mono ?_; rintro e w2 ⟨v, rfl, o, bb⟩)
      | (go_at_call 15; with_reducible refine (cB.out _).mono ?_; rintro e w2 ⟨v, rfl, o, bb⟩)
      | (go_at_call 15; with_reducible refine (cA'.out _).mono ?_; rintro e w2 ⟨v, rfl, o, bb⟩)
      | (go_at_call 15; with_reducible refine (cB'.out _).mono ?_; rintro e w2 ⟨v, rfl, o, bb⟩)
      | (go_at_call 16; with_reducible refine (sA.out _ _ _ (gA.out _ _ (by with_reducible assumption)) (rd_of_own (by with_reducible assumption)) nA.out).mono ?_; rintro e w2 ⟨rfl, bb⟩)
      | (go_at_call 16; with_reducible refine (sB.out _ _ _ (gB.out _ _ (by with_reducible assumption)) (rd_of_own (by with_reducible assumption)) nB.out).mono ?_; rintro e w2 ⟨rfl, bb⟩)
      | (go_at_call 16; with_reducible refine (dA.out _ _ _ (rd_below (rd_of_own (by with_reducible assumption)) (by with_reducible assumption)) (rd_of_own (by with_reducible assumption))).mono ?_; rintro e w2 ⟨rfl, bb⟩)
      | (go_at_call 16; with_reducible refine (dB.out _ _ _ (rd_below (rd_of_own (by with_reducible assumption)) (by with_reducible assumption)) (rd_of_own (by with_reducible assumption))).mono ?_; rintro e w2 ⟨rfl, bb⟩))
  have hbel := GS.bel (by with_reducible assumption)
  repeat' (first | go_values | go_skip | go_guarded | go_step | go_upon)
  exact bodyPost_ret (results_tmp rfl _ _ _) rfl ⟨rfl, hbel⟩
theorem glyphs_walk (a b : Nat) (w : World) (ha : a < 256) (hb : b < 256) : Calls Try.prog 4 #[.int .u8 a, .int .u8 b] w fun e w' => e = .returned (.bool true) ∧ Below w.heap.size w w' :=
  glyphs_core a b (a % 16) (b % 16) _ _ w rfl rfl (by omega) (by omega) (by omega) (by omega) ha hb
end Go.Proofs.Ytgfagophgipldaa
