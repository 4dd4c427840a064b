import Derived.Test.YtepkaagbjfnpbaaDoorB9
namespace Go.Proofs.YtepkaagbjfnpbaaDoor
open Go.RowKit

set_option maxHeartbeats 1000000 in
theorem fields_ill (a b c d l : Nat) (w : World) (h : Tab w) (ha : a < 256) (hb : b < 256) (hc : c < 256) (hd : d < 256) (_hl : l < 256)
    (H1 : Hid (implDec a b ((c : Int) * 256 + d) (1 + (l : Int) % 3) = #[.int .i64 0, .int .i64 0, .int .i64 0, .int .i64 0, .int .i64 0, .int .i64 0, .int .i64 2])) :
    Calls Tryd.prog 7 #[.agg #[.int .u8 a, .int .u8 b, .int .u8 c, .int .u8 d], .int .u8 l] w fun e w' => e = .returned (.bool true) ∧ Below w.heap.size w w' := by
  go_enter Tryd.func7, Tryd.ntmps7
  go_wp2_with fail
  refine (awake_any _ (tab_alloc h _)).mono ?_
  rintro e1 w1 ⟨rfl, hB1⟩
  have O1 := own1_first h hB1
  clear hB1
  obtain ⟨c1, -, z1⟩ := own1_cells O1
  go_wp2_with fail
  refine (dec_tab a b c d _ _ O1.tab ha hb hc hd _ H1.out).mono ?_
  rintro e2 w2 ⟨rfl, hB2⟩
  have O2 := own1_next O1 hB2
  clear hB2 O1 c1 z1
  obtain ⟨c2, -, z2⟩ := own1_cells O2
  go_wp2_with fail
  go_ret
  exact ⟨rfl, (own1_below O2).alloc (by omega) _⟩
set_option maxHeartbeats 40000000 in
theorem fields_core (a b c d l : Nat) (o x y n nn ad ln : Int) (w : World) (h : Tab w) (ha : a < 256) (hb : b < 256) (hc : c < 256) (hd : d < 256) (_hl : l < 256)
    (H1 : Hid (implDec a b ((c : Int) * 256 + d) (1 + (l : Int) % 3) = #[.int .i64 o, .int .i64 x, .int .i64 y, .int .i64 n, .int .i64 nn, .int .i64 ad, .int .i64 ln]))
    (h0 : (o == 0) = false) (hx : (x == 0) = false → (x == (a : Int) % 16) = true) (hy : (y == 0) = false → (y == (b : Int) / 16) = true)
    (hn1 : (n == 0) = false → (n == (b : Int) % 16) = false → (o == 49) = true) (hn2 : (n == 0) = false → (n == (b : Int) % 16) = false → (n == (a : Int) % 16) = true)
    (hnn : (nn == 0) = false → (nn == (b : Int)) = true)
    (had1 : (ad == 0) = false → (ad == (a : Int) % 16 * 256 + b) = false → (o == 48) = true) (had2 : (ad == 0) = false → (ad == (a : Int) % 16 * 256 + b) = false → (ad == (c : Int) * 256 + d) = true) :
    Calls Tryd.prog 7 #[.agg #[.int .u8 a, .int .u8 b, .int .u8 c, .int .u8 d], .int .u8 l] w fun e w' => e = .returned (.bool true) ∧ Below w.heap.size w w' := by
  go_enter Tryd.func7, Tryd.ntmps7
  go_wp2_with fail
  refine (awake_any _ (tab_alloc h _)).mono ?_
  rintro e1 w1 ⟨rfl, hB1⟩
  have O1 := own1_first h hB1
  clear hB1
  obtain ⟨c1, -, z1⟩ := own1_cells O1
  go_wp2_with fail
  refine (dec_tab a b c d _ _ O1.tab ha hb hc hd _ H1.out).mono ?_
  rintro e2 w2 ⟨rfl, hB2⟩
  have O2 := own1_next O1 hB2
  clear hB2 O1 c1 z1
  obtain ⟨c2, -, z2⟩ := own1_cells O2
  clear h _hl H1
  have X : (x == 0) = true ∨ (x == 0) = false ∧ (x == (a : Int) % 16) = true := by rcases h : (x == 0) with _ | _; exact .inr ⟨rfl, hx h⟩; exact .inl rfl
  have Y : (y == 0) = true ∨ (y == 0) = false ∧ (y == (b : Int) / 16) = true := by rcases h : (y == 0) with _ | _; exact .inr ⟨rfl, hy h⟩; exact .inl rfl
  have N : (n == 0) = true ∨ (n == 0) = false ∧ (n == (b : Int) % 16) = true ∨ (n == 0) = false ∧ (n == (b : Int) % 16) = false ∧ (o == 49) = true ∧ (n == (a : Int) % 16) = true := by
    rcases h : (n == 0) with _ | _
    · rcases h' : (n == (b : Int) % 16) with _ | _
      · exact .inr (.inr ⟨rfl, rfl, hn1 h h', hn2 h h'⟩)
      · exact .inr (.inl ⟨rfl, rfl⟩)
    · exact .inl rfl
  have NN : (nn == 0) = true ∨ (nn == 0) = false ∧ (nn == (b : Int)) = true := by rcases h : (nn == 0) with _ | _; exact .inr ⟨rfl, hnn h⟩; exact .inl rfl
  have AD : (ad == 0) = true ∨ (ad == 0) = false ∧ (ad == (a : Int) % 16 * 256 + b) = true ∨ (ad == 0) = false ∧ (ad == (a : Int) % 16 * 256 + b) = false ∧ (o == 48) = true ∧ (ad == (c : Int) * 256 + d) = true := by
    rcases h : (ad == 0) with _ | _
    · rcases h' : (ad == (a : Int) % 16 * 256 + b) with _ | _
      · exact .inr (.inr ⟨rfl, rfl, had1 h h', had2 h h'⟩)
      · exact .inr (.inl ⟨rfl, rfl⟩)
    · exact .inl rfl
  clear hx hy hn1 hn2 hnn had1 had2
  go_upto_region 10 with (fail)
  dsimp only [List.append]
  rcases X with X | ⟨X, X2⟩ <;> rcases Y with Y | ⟨Y, Y2⟩ <;> rcases N with N | ⟨N, N2⟩ | ⟨N, N2, N3, N4⟩ <;> rcases NN with NN | ⟨NN, NN2⟩ <;> rcases AD with AD | ⟨AD, AD2⟩ | ⟨AD, AD2, AD3, AD4⟩
  all_goals
    repeat' (first | go_values | go_skip | go_guarded | go_step)
    refine bodyPost_ret (results_tmp rfl _ _ _) rfl ⟨rfl, (own1_below O2).alloc (by omega) _⟩

end Go.Proofs.YtepkaagbjfnpbaaDoor
