import Derived.Test.YtepkaagbjfnpbaaDoorB8
import Derived.Deep.QuietTactic
import Derived.BigQuiet
namespace Go.Proofs.YtepkaagbjfnpbaaDoor
open Go.RowKit

theorem skip_same (a b : Nat) (l : Int) (w : World) (ha : a < 256) (hb : b < 256) :
    Calls Tryd.prog 11 #[.int .u8 a, .int .u8 b, .int .i64 l] w fun e w' => e = .returned (.int .i64 (skipS a b l)) ∧ w' = w :=
  (skip_any a b l w ha hb).mono fun _ _ h => ⟨h.1, h.2.symm⟩
set_option maxHeartbeats 2000000 in
theorem short_core (a b c d e f l : Nat) (o x y n nn ad ad2 ln : Int) (w : World) (h : Tab w) (ha : a < 256) (hb : b < 256) (hc : c < 256) (hd : d < 256) (he : e < 256) (hf : f < 256) (_hl : l < 256)
    (H1 : Hid (implDec a b ((c : Int) * 256 + d) (1 + (l : Int) % 3) = ic o x y n nn ad ln)) (H2 : Hid (implDec a b ((e : Int) * 256 + f) (1 + (l : Int) % 3) = ic o x y n nn ad2 ln))
    (HS : Hid (skipS a b (1 + (l : Int) % 3) = ln))
    (hcase : ((o == 48) = true ∧ ad2 = (e : Int) * 256 + f) ∨ ((o == 48) = false ∧ ad = ad2)) :
    Calls Tryd.prog 5 #[.agg #[.int .u8 a, .int .u8 b, .int .u8 c, .int .u8 d], .int .u8 e, .int .u8 f, .int .u8 l] w fun e w' => e = .returned (.bool true) ∧ Below w.heap.size w w' := by
  unfold ic at H1 H2
  have SK : ∀ w, Calls Tryd.prog 11 #[.int .u8 a, .int .u8 b, .int .i64 (1 + (l : Int) % 3)] w fun e w' => e = .returned (.int .i64 ln) ∧ w' = w := fun w => by
    have := skip_same a b (1 + (l : Int) % 3) w ha hb
    rwa [HS.out] at this
  have SKH := hid SK
  clear SK
  rcases hcase with ⟨h48, had⟩ | ⟨h48, had⟩
  all_goals
    subst had
    go_enter Tryd.func5, Tryd.ntmps5
    go_wp2_with fail
    refine (awake_any _ (tab_alloc h _)).mono ?_
    rintro e1 w1 ⟨rfl, hB1⟩
    have O1 := own1_first h hB1
    clear hB1
    obtain ⟨c1, -, z1⟩ := own1_cells O1
    go_wp2_with fail
    refine (dec_tab a b c d _ _ O1.tab ha hb hc hd _ H1.out).mono ?_
    rintro e2 w2 ⟨rfl, hB2⟩
    have O2 := own1_next O1 hB2
    clear hB2 O1 c1 z1
    obtain ⟨c2, -, z2⟩ := own1_cells O2
    go_wp2_with fail
    have A2 := at_new w2 #[.int .i64 o, .int .i64 x, .int .i64 y, .int .i64 n, .int .i64 nn, .int .i64 ad, .int .i64 ln] 25
    have O3 := own1_alloc O2 (.cells #[.int .i64 o, .int .i64 x, .int .i64 y, .int .i64 n, .int .i64 nn, .int .i64 ad, .int .i64 ln] 25)
    refine (dec_tab a b e f _ _ O3.tab ha hb he hf _ H2.out).mono ?_
    rintro e4 w4 ⟨rfl, hB4⟩
    have O4 := own1_next O3 hB4
    have A4 := at_below A2 hB4 (by simp)
    have z24 : w2.heap.size < w4.heap.size := by have := hB4.size; simp at this; omega
    clear hB4 O3 O2 A2 c2
    obtain ⟨c4, -, z4⟩ := own1_cells O4
    have d4 := (at_cells A4).1
    go_wp2_with fail
    go_quiet ((go_at_call 11; exact Calls.quiet_of_same (SKH.out _)))
    go_wp2_with fail
    go_ret
    refine ⟨rfl, ?_⟩
    exact (((own1_below O4).alloc (by omega) _).trans ⟨rfl, rfl, rfl, Nat.le_refl _, fun _ _ => rfl⟩)
theorem short_walk (a b c d e f l : Nat) (w : World) (h : Tab w) (ha : a < 256) (hb : b < 256) (hc : c < 256) (hd : d < 256) (he : e < 256) (hf : f < 256) (hl : l < 256) :
    Calls Tryd.prog 5 #[.agg #[.int .u8 a, .int .u8 b, .int .u8 c, .int .u8 d], .int .u8 e, .int .u8 f, .int .u8 l] w fun e w' => e = .returned (.bool true) ∧ Below w.heap.size w w' := by
  rcases dec_cases a b (1 + (l : Int) % 3) ha hb (by omega) (by omega) with ⟨h1, hn⟩ | ⟨h1, h2, h3, h4⟩ | ⟨o, x, y, n, nn, ad, P⟩
  · exact short_core a b c d e f l 0 0 0 0 0 0 0 2 w h ha hb hc hd he hf hl (hid (h1 _)) (hid (h1 _)) (hid (by unfold skipS; rw [if_neg (fun k => hn ⟨k.2.1, k.2.2, k.1⟩)])) (.inr ⟨rfl, rfl⟩)
  · exact short_core a b c d e f l 48 0 0 0 0 _ _ 4 w h ha hb hc hd he hf hl (hid (h1 _)) (hid (h1 _)) (hid (by unfold skipS; rw [if_pos ⟨h4, h2, h3⟩])) (.inl ⟨rfl, rfl⟩)
  · exact short_core a b c d e f l o x y n nn ad ad 2 w h ha hb hc hd he hf hl (hid (P.dec _ _ (Int.le_refl _) (by omega))) (hid (P.dec _ _ (Int.le_refl _) (by omega))) (hid (by unfold skipS; rw [if_neg (fun k => P.short ⟨k.2.1, k.2.2⟩)])) (.inr ⟨by have := P.op; rw [beq_eq_false_iff_ne]; exact this.2.2, rfl⟩)
end Go.Proofs.YtepkaagbjfnpbaaDoor
