import Derived.Test.YtepkaagbjfnpbaaDoorB6
namespace Go.Proofs.YtepkaagbjfnpbaaDoor
open Go.RowKit

/-- Any number that is no level makes every opcode illegal. -/
theorem impl_others (a b : Nat) (e lv : Int) (h : lv < 1 ∨ 3 < lv) : implDec a b e lv = #[.int .i64 0, .int .i64 0, .int .i64 0, .int .i64 0, .int .i64 0, .int .i64 0, .int .i64 2] := by
  unfold implDec
  cases hf : findR (tbl1 ++ tbl2) (a * 256 + b) with
  | none => rfl
  | some r =>
    have := rule_more r (List.mem_of_find?_eq_some hf)
    dsimp only
    rw [if_pos (by omega)]
    rfl
set_option maxHeartbeats 1000000 in
theorem others_walk (a b c d : Nat) (lv : Int) (w : World) (h : Tab w) (ha : a < 256) (hb : b < 256) (hc : c < 256) (hd : d < 256) :
    Calls Tryd.prog 6 #[.agg #[.int .u8 a, .int .u8 b, .int .u8 c, .int .u8 d], .int .i64 lv] w fun e w' => e = .returned (.bool true) ∧ Below w.heap.size w w' := by
  by_cases hl : 1 ≤ lv ∧ lv ≤ 3
  · obtain ⟨hl1, hl3⟩ := hl
    go_enter Tryd.func6, Tryd.ntmps6
    go_wp2_with fail
    refine (awake_any _ (tab_alloc h _)).mono ?_
    rintro e w1 ⟨rfl, hB1⟩
    have O1 := own1_first h hB1
    clear hB1
    go_wp2_with fail
    refine (awake_any _ O1.tab).mono ?_
    rintro e w2 ⟨rfl, hB2⟩
    have O2 := own1_next O1 hB2
    clear hB2
    go_wp2_with fail
    go_ret
    exact ⟨rfl, own1_below O2⟩
  · have hl' : lv < 1 ∨ 3 < lv := by omega
    have HD := hid (impl_others a b ((c : Int) * 256 + d) lv hl')
    have hs : skipS a b lv = 2 := by unfold skipS; rw [if_neg (by omega)]
    have HS := hid hs
    clear hs
    rcases hl' with hl' | hl'
    all_goals
      clear hl
      go_enter Tryd.func6, Tryd.ntmps6
      go_wp2_with fail
      refine (awake_any _ (tab_alloc h _)).mono ?_
      rintro e w1 ⟨rfl, hB1⟩
      have O1 := own1_first h hB1
      clear hB1
      obtain ⟨c1, -, z1⟩ := own1_cells O1
      go_wp2_with fail
      refine (dec_tab a b c d lv _ O1.tab ha hb hc hd _ HD.out).mono ?_
      rintro e w2 ⟨rfl, hB2⟩
      have O2 := own1_next O1 hB2
      clear hB2 O1 c1 z1
      obtain ⟨c2, -, z2⟩ := own1_cells O2
      go_wp2_with fail
      refine (skip_any a b lv _ ha hb).mono ?_
      rintro e w' ⟨rfl, rfl⟩
      rw [HS.out]
      go_wp2_with fail
      go_ret
      exact ⟨rfl, own1_below O2⟩
end Go.Proofs.YtepkaagbjfnpbaaDoor
