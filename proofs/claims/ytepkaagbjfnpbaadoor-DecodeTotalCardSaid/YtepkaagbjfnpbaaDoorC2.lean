import Derived.Test.YtepkaagbjfnpbaaDoorB9
import Derived.Deep.RegionHeld3
import Derived.IntWalk
namespace Go.Proofs.YtepkaagbjfnpbaaDoor
open Go.RowKit
/-- The world of the loop: the argument's block, the instruction's block, the tables. -/
structure TS (w : World) (g : Nat) (a b c d : Nat) (o x y n nn ad ln : Int) (wr : World) : Prop where
  own : Own1 w #[.int .u8 a, .int .u8 b, .int .u8 c, .int .u8 d] 22 wr
  at1 : At wr g #[.int .i64 o, .int .i64 x, .int .i64 y, .int .i64 n, .int .i64 nn, .int .i64 ad, .int .i64 ln] 25
  lt : g < wr.heap.size
theorem ts_next {w : World} {g : Nat} {a b c d : Nat} {o x y n nn ad ln : Int} {w1 w2 : World} (h : TS w g a b c d o x y n nn ad ln w1) (hb : Below w1.heap.size w1 w2) : TS w g a b c d o x y n nn ad ln w2 :=
  ⟨own1_next h.own hb, at_below h.at1 hb h.lt, Nat.lt_of_lt_of_le h.lt hb.size⟩
theorem ts_drew {w : World} {g : Nat} {a b c d : Nat} {o x y n nn ad ln : Int} {w1 : World} (h : TS w g a b c d o x y n nn ad ln w1) : TS w g a b c d o x y n nn ad ln w1.drew :=
  ⟨own1_drew h.own, at_drew h.at1, h.lt⟩
theorem ts_own {w : World} {g : Nat} {a b c d : Nat} {o x y n nn ad ln : Int} {w1 : World} (h : w1.cell? ⟨w.heap.size, 0, none⟩ = some (.int .u8 a) ∧ w1.cell? ⟨w.heap.size, 1, none⟩ = some (.int .u8 b) ∧ w1.cell? ⟨w.heap.size, 2, none⟩ = some (.int .u8 c) ∧ w1.cell? ⟨w.heap.size, 3, none⟩ = some (.int .u8 d) ∧  w1.cell? ⟨g, 0, none⟩ = some (.int .i64 o) ∧ w1.cell? ⟨g, 1, none⟩ = some (.int .i64 x) ∧ w1.cell? ⟨g, 2, none⟩ = some (.int .i64 y) ∧ w1.cell? ⟨g, 3, none⟩ = some (.int .i64 n) ∧ w1.cell? ⟨g, 4, none⟩ = some (.int .i64 nn) ∧ w1.cell? ⟨g, 5, none⟩ = some (.int .i64 ad) ∧ w1.cell? ⟨g, 6, none⟩ = some (.int .i64 ln) ∧  TS w g a b c d o x y n nn ad ln w1) : TS w g a b c d o x y n nn ad ln w1 := h.2.2.2.2.2.2.2.2.2.2.2
theorem ts_cells {w : World} {g : Nat} {a b c d : Nat} {o x y n nn ad ln : Int} {w1 : World} (h : TS w g a b c d o x y n nn ad ln w1) : w1.cell? ⟨w.heap.size, 0, none⟩ = some (.int .u8 a) ∧ w1.cell? ⟨w.heap.size, 1, none⟩ = some (.int .u8 b) ∧ w1.cell? ⟨w.heap.size, 2, none⟩ = some (.int .u8 c) ∧ w1.cell? ⟨w.heap.size, 3, none⟩ = some (.int .u8 d) ∧  w1.cell? ⟨g, 0, none⟩ = some (.int .i64 o) ∧ w1.cell? ⟨g, 1, none⟩ = some (.int .i64 x) ∧ w1.cell? ⟨g, 2, none⟩ = some (.int .i64 y) ∧ w1.cell? ⟨g, 3, none⟩ = some (.int .i64 n) ∧ w1.cell? ⟨g, 4, none⟩ = some (.int .i64 nn) ∧ w1.cell? ⟨g, 5, none⟩ = some (.int .i64 ad) ∧ w1.cell? ⟨g, 6, none⟩ = some (.int .i64 ln) ∧  TS w g a b c d o x y n nn ad ln w1 := by
  have h1 := (own1_cells h.own).1
  have h2 := (at_cells h.at1).1
  exact ⟨h1 0, h1 1, h1 2, h1 3, h2 0, h2 1, h2 2, h2 3, h2 4, h2 5, h2 6, h⟩
set_option maxHeartbeats 2000000 in
theorem total_ill (a b c d l : Nat) (w : World) (h : Tab w) (ha : a < 256) (hb : b < 256) (hc : c < 256) (hd : d < 256) (_hl : l < 256)
    (H1 : Hid (implDec a b ((c : Int) * 256 + d) (1 + (l : Int) % 3) = #[.int .i64 0, .int .i64 0, .int .i64 0, .int .i64 0, .int .i64 0, .int .i64 0, .int .i64 2])) :
    Calls Tryd.prog 4 #[.agg #[.int .u8 a, .int .u8 b, .int .u8 c, .int .u8 d], .int .u8 l] w fun e w' => e = .returned (.bool true) ∧ Below w.heap.size w w' := by
  go_enter Tryd.func4, Tryd.ntmps4
  go_wp2_with fail
  refine (awake_any _ (tab_alloc h _)).mono ?_
  rintro e1 w1 ⟨rfl, hB1⟩
  have O1 := own1_first h hB1
  clear hB1
  obtain ⟨c1, -, z1⟩ := own1_cells O1
  go_wp2_with fail
  refine (dec_tab a b c d _ _ O1.tab ha hb hc hd _ H1.out).mono ?_
  rintro e2 w2 ⟨rfl, hB2⟩
  have O2 := own1_next O1 hB2
  clear hB2 O1 c1 z1
  obtain ⟨c2, -, z2⟩ := own1_cells O2
  dsimp only
  repeat' (first | go_values | go_skip | go_guarded | go_step | go_upon)
  refine bodyPost_ret (results_tmp rfl _ _ _) rfl ⟨rfl, (own1_below O2).alloc (by omega) _⟩
set_option maxHeartbeats 2000000 in
theorem total_core (a b c d l : Nat) (w : World) (h : Tab w) (ha : a < 256) (hb : b < 256) (hc : c < 256) (hd : d < 256) (_hl : l < 256)
    (o x y n nn ad ln : Int) (HA : ∀ m, 1 + (l : Int) % 3 ≤ m → m ≤ 3 → implDec a b ((c : Int) * 256 + d) m = #[.int .i64 o, .int .i64 x, .int .i64 y, .int .i64 n, .int .i64 nn, .int .i64 ad, .int .i64 ln])
    (ho : 1 ≤ o ∧ o ≤ 51) (hx : 0 ≤ x ∧ x ≤ 15) (hy : 0 ≤ y ∧ y ≤ 15) (hn : 0 ≤ n ∧ n ≤ 15) (hnn : 0 ≤ nn ∧ nn ≤ 255) (had : 0 ≤ ad ∧ ad ≤ 65535) (hL : 1 ≤ level2 o ∧ level2 o ≤ 1 + (l : Int) % 3)
    (hln : (ln == 4) = true ∧ (o == 48) = true ∨ (ln == 4) = false ∧ (o == 48) = false ∧ (ln == 2) = true) :
    Calls Tryd.prog 4 #[.agg #[.int .u8 a, .int .u8 b, .int .u8 c, .int .u8 d], .int .u8 l] w fun e w' => e = .returned (.bool true) ∧ Below w.heap.size w w' := by
  have H1 := hid (HA _ (Int.le_refl _) (by omega))
  have HAH := hid HA
  clear HA
  have o1 : ¬ o < 0 := by omega
  have o2 : ¬ 51 < o := by omega
  have x1 : ¬ x < 0 := by omega
  have x2 : ¬ 15 < x := by omega
  have y1 : ¬ y < 0 := by omega
  have y2 : ¬ 15 < y := by omega
  have n1 : ¬ n < 0 := by omega
  have n2 : ¬ 15 < n := by omega
  have nn1 : ¬ nn < 0 := by omega
  have nn2 : ¬ 255 < nn := by omega
  have ad1 : ¬ ad < 0 := by omega
  have ad2 : ¬ 65535 < ad := by omega
  have oo : (o == 0) = false := by rw [beq_eq_false_iff_ne]; omega
  go_enter Tryd.func4, Tryd.ntmps4
  go_wp2_with fail
  refine (awake_any _ (tab_alloc h _)).mono ?_
  rintro e1 w1 ⟨rfl, hB1⟩
  have O1 := own1_first h hB1
  clear hB1
  obtain ⟨c1, -, z1⟩ := own1_cells O1
  go_wp2_with fail
  refine (dec_tab a b c d _ _ O1.tab ha hb hc hd _ H1.out).mono ?_
  rintro e2 w2 ⟨rfl, hB2⟩
  have O2 := own1_next O1 hB2
  clear hB2 O1 c1 z1
  obtain ⟨c2, -, z2⟩ := own1_cells O2
  dsimp only
  repeat' (first | go_values | go_skip | go_guarded | go_step | go_upon)
  have A2 := at_new w2 #[.int .i64 o, .int .i64 x, .int .i64 y, .int .i64 n, .int .i64 nn, .int .i64 ad, .int .i64 ln] 25
  have TS0 : TS w w2.heap.size a b c d o x y n nn ad ln (w2.alloc (.cells #[.int .i64 o, .int .i64 x, .int .i64 y, .int .i64 n, .int .i64 nn, .int .i64 ad, .int .i64 ln] 25)) := ⟨own1_alloc O2 _, A2, by simp⟩
  clear A2 O2 c2 H1
  generalize w2.heap.size = g at *
  go_loopw [7] (fun i wr => ∃ m : Int, 1 + (l : Int) % 3 ≤ m ∧ m ≤ 4 ∧ i = .int .i64 m ∧ TS w g a b c d o x y n nn ad ln wr) (fun i _ => 4 - (intOf i).toNat)
  case atStart => exact ⟨_, Int.le_refl _, by omega, rfl, TS0⟩
  case round =>
    clear TS0
    obtain ⟨m, hm1, hm4, rfl, T⟩ := hrel
    have hgw := T.lt
    by_cases hm : m ≤ 3
    · have HM := hid (HAH.out m hm1 hm)
      obtain ⟨b0, b1, b2, b3, i0, i1, i2, i3, i4, i5, i6, T⟩ := ts_cells T
      have wr1 : IntKind.i64.wrap (m + 1) = m + 1 := IntWalk.i64_in _ (by omega)
      go_wp2_with fail
      go_region_held3 (fun wr => wr.cell? ⟨w.heap.size, 0, none⟩ = some (.int .u8 a) ∧ wr.cell? ⟨w.heap.size, 1, none⟩ = some (.int .u8 b) ∧ wr.cell? ⟨w.heap.size, 2, none⟩ = some (.int .u8 c) ∧ wr.cell? ⟨w.heap.size, 3, none⟩ = some (.int .u8 d) ∧  wr.cell? ⟨g, 0, none⟩ = some (.int .i64 o) ∧ wr.cell? ⟨g, 1, none⟩ = some (.int .i64 x) ∧ wr.cell? ⟨g, 2, none⟩ = some (.int .i64 y) ∧ wr.cell? ⟨g, 3, none⟩ = some (.int .i64 n) ∧ wr.cell? ⟨g, 4, none⟩ = some (.int .i64 nn) ∧ wr.cell? ⟨g, 5, none⟩ = some (.int .i64 ad) ∧ wr.cell? ⟨g, 6, none⟩ = some (.int .i64 ln) ∧  TS w g a b c d o x y n nn ad ln wr)
        (first | assumption | exact (ts_cells (ts_drew T)) | exact ts_cells (ts_next (ts_own (by assumption)) (by assumption)))
        ((go_at_call 9; refine (dec_tab a b c d m _ (ts_own (by assumption)).own.tab ha hb hc hd _ HM.out).mono ?_; rintro e w2 ⟨rfl, hB2⟩))
      go_wp2_with fail
      go_roundw
      case rel => exact ⟨m + 1, by omega, by omega, by first | rfl | go_num, ts_own (by assumption)⟩
      case measure => simp [intOf]; omega
    · obtain rfl : m = 4 := by omega
      obtain ⟨b0, b1, b2, b3, i0, i1, i2, i3, i4, i5, i6, T⟩ := ts_cells T
      obtain ⟨hL1, hL2⟩ := hL
      rcases hln with ⟨l1, l2⟩ | ⟨l1, l2, l3⟩
      all_goals
        go_wp2_with fail
        refine (level_tab o _ T.own.tab).mono ?_
        rintro e3 w3 ⟨rfl, hB3⟩
        have T3 := ts_next T hB3
        clear hB3 T b0 b1 b2 b3 i0 i1 i2 i3 i4 i5 i6
        obtain ⟨b0, b1, b2, b3, i0, i1, i2, i3, i4, i5, i6, T⟩ := ts_cells T3
        clear T3
        go_wp2_with fail
        refine (level_tab o _ T.own.tab).mono ?_
        rintro e4 w4 ⟨rfl, hB4⟩
        have T4 := ts_next T hB4
        clear hB4 T b0 b1 b2 b3 i0 i1 i2 i3 i4 i5 i6
        obtain ⟨b0, b1, b2, b3, i0, i1, i2, i3, i4, i5, i6, T⟩ := ts_cells T4
        clear T4
        dsimp only
        repeat' (first | go_values | go_skip | go_guarded | go_step | go_upon)
        all_goals exact bodyPost_ret (results_tmp rfl _ _ _) rfl ⟨rfl, own1_below T.own⟩
theorem total_walk (a b c d l : Nat) (w : World) (h : Tab w) (ha : a < 256) (hb : b < 256) (hc : c < 256) (hd : d < 256) (hl : l < 256) :
    Calls Tryd.prog 4 #[.agg #[.int .u8 a, .int .u8 b, .int .u8 c, .int .u8 d], .int .u8 l] w fun e w' => e = .returned (.bool true) ∧ Below w.heap.size w w' := by
  rcases dec_cases a b (1 + (l : Int) % 3) ha hb (by omega) (by omega) with ⟨h1, -⟩ | ⟨h1, -, -, h3⟩ | ⟨o, x, y, n, nn, ad, P⟩
  · exact total_ill a b c d l w h ha hb hc hd hl (hid (h1 _))
  · have HA : ∀ m, 1 + (l : Int) % 3 ≤ m → m ≤ 3 → implDec a b ((c : Int) * 256 + d) m = ic 48 0 0 0 0 ((c : Int) * 256 + d) 4 := by
      intro m hm hm3
      obtain rfl : m = 1 + (l : Int) % 3 := by omega
      exact h1 _
    have h48 : level2 48 = 3 := by decide +kernel
    exact total_core a b c d l w h ha hb hc hd hl 48 0 0 0 0 _ 4 HA (by omega) (by omega) (by omega) (by omega) (by omega) (by omega) (by omega) (.inl ⟨rfl, rfl⟩)
  · have hx := P.fx; have hy := P.fy; have hn := P.fn; have hnn := P.fnn; have had := P.fad; have ho := P.op
    exact total_core a b c d l w h ha hb hc hd hl o x y n nn ad 2 (fun m hm hm3 => P.dec _ m hm hm3) (by omega) (by omega) (by omega) (by omega) (by omega) (by omega) P.level
      (.inr ⟨rfl, by rw [beq_eq_false_iff_ne]; omega, rfl⟩)
end Go.Proofs.YtepkaagbjfnpbaaDoor
