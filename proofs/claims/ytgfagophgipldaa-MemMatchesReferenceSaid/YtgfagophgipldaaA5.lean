import Derived.Test.YtgfagophgipldaaA4
import Derived.Deep.QuietTactic
import Derived.BigQuiet
namespace Go.Proofs.Ytgfagophgipldaa
open Go.RowKit
theorem rd_view {w : World} {v : Value} {L : List Int} (h : Rd w v L) : ∃ ao cap, v = .slice ao L.length cap ∧ (L ≠ [] → ∃ g off, ao = some ⟨g, off, none⟩ ∧ g < w.heap.size ∧ ∀ j x, L[j]? = some x → w.cell? ⟨g, off + j, none⟩ = some (.int .u8 x)) := by
  rcases h with ⟨⟨ao, cap, rfl⟩, rfl⟩ | ⟨g, off, cap, rfl, h1, h2⟩
  · exact ⟨ao, cap, rfl, fun h => absurd rfl h⟩
  · exact ⟨_, cap, rfl, fun _ => ⟨g, off, rfl, h1, h2⟩⟩
theorem beq_false_of {A B : List Int} (h : A ≠ B) : (A == B) = false := by rw [beq_eq_false_iff_ne]; exact h
theorem below_drewN {B : Nat} {w w1 : World} (h : Below B w w1) (q : Nat) : Below B w (w1.drewN q) := ⟨h.os, h.tape, h.output, h.size, h.block⟩
theorem ne_of_get {A B : List Int} {k : Nat} {x y : Int} (hx : A[k]? = some x) (hy : B[k]? = some y) (hxy : (x == y) = false) : (A == B) = false := by
  refine beq_false_of (fun h => ?_)
  subst h
  rw [hx] at hy
  rw [beq_eq_false_iff_ne] at hxy
  exact hxy (Option.some.inj hy)
theorem take_next {A B : List Int} {k : Nat} {x y : Int} (hx : A[k]? = some x) (hy : B[k]? = some y) (hxy : (x == y) = true) (h : A.take k = B.take k) : A.take (k + 1) = B.take (k + 1) := by
  rw [List.take_add_one, List.take_add_one, h, hx, hy, (beq_iff_eq.1 hxy)]
set_option maxHeartbeats 1000000 in
theorem same_any (A B : List Int) (va vb : Value) (w : World) (ha : Rd w va A) (hb : Rd w vb B) (hn : A.length < 2 ^ 40) :
    Calls Try.prog 16 #[va, vb] w fun e w' => e = .returned (.bool (A == B)) ∧ Below w.heap.size w w' := by
  obtain ⟨ao, ca, rfl, hA⟩ := rd_view ha
  obtain ⟨bo, cb, rfl, hB⟩ := rd_view hb
  clear ha hb
  by_cases hl : A.length = B.length
  · rw [← hl]
    rcases Nat.eq_zero_or_pos A.length with h0 | h0
    · have hA0 : A = [] := List.eq_nil_of_length_eq_zero h0
      have hB0 : B = [] := List.eq_nil_of_length_eq_zero (hl ▸ h0)
      subst hA0 hB0
      clear hA hB hl h0
      go_enter Try.func16, Try.ntmps16
      go_wp2_with fail
      refine wp_loop_rounds 1 ?_
      rw [rounds_succ]
      go_wp2_with fail
      go_ret
      exact ⟨rfl, Below.refl _ _⟩
    · obtain ⟨ga, oa, rfl, gal, hca⟩ := hA (by intro h; subst h; simp at h0)
      obtain ⟨gb, ob, rfl, gbl, hcb⟩ := hB (by intro h; rw [h] at hl; rw [hl] at h0; simp at h0)
      clear hA hB
      generalize hnn : A.length = n at *
      go_enter Try.func16, Try.ntmps16
      go_wp2_with fail
      go_loopw [5] (fun i wr => ∃ k : Nat, k ≤ n ∧ i = .int .i64 (k : Int) ∧ A.take k = B.take k ∧ Below w.heap.size w wr) (fun i _ => n - (intOf i).toNat)
      case atStart => exact ⟨0, by omega, rfl, rfl, Below.refl _ _⟩
      case round =>
        obtain ⟨k, hk, rfl, htk, hBl⟩ := hrel
        by_cases hkn : k < n
        · obtain ⟨x, hx⟩ : ∃ x, A[k]? = some x := ⟨_, List.getElem?_eq_getElem (by omega)⟩
          obtain ⟨y, hy⟩ : ∃ y, B[k]? = some y := ⟨_, List.getElem?_eq_getElem (by omega)⟩
          have c1 := (hBl.cell (p := ⟨ga, oa + k, none⟩) gal).trans (hca k x hx)
          have c2 := (hBl.cell (p := ⟨gb, ob + k, none⟩) gbl).trans (hcb k y hy)
          have HX := hid hx
          have HY := hid hy
          have HT := hid htk
          have HCA := hid hca
          have HCB := hid hcb
          have k0 : (0 : Int) ≤ k := by omega
          have k1 : (k : Int) < n := by omega
          have wr1 : IntKind.i64.wrap ((k : Int) + 1) = k + 1 := IntWalk.i64_in _ (by omega)
          clear hx hy htk hca hcb
          go_wp2_with fail
          go_quiet (fail)
          rcases hxy : (x == y) with _ | _
          · go_wp2_with fail
            refine bodyPost_ret (results_tmp rfl _ _ _) rfl ⟨?_, below_drewN hBl _⟩
            rw [ne_of_get HX.out HY.out hxy]
            rfl
          · go_wp2_with fail
            go_roundw
            case rel => exact ⟨k + 1, by omega, by go_num, take_next HX.out HY.out hxy HT.out, below_drewN hBl _⟩
            case measure => simp [intOf]; omega
        · obtain rfl : k = n := by omega
          go_wp2_with fail
          have hAB : A = B := by
            rw [List.take_of_length_le (by omega), List.take_of_length_le (by omega)] at htk
            exact htk
          refine bodyPost_ret (results_tmp rfl _ _ _) rfl ⟨?_, hBl⟩
          rw [hAB, beq_self_eq_true]
          rfl
  · have hl' : ((A.length : Int) == B.length) = false := by rw [beq_eq_false_iff_ne]; omega
    clear hA hB
    have hne : A ≠ B := by intro h; subst h; exact hl rfl
    rw [beq_false_of hne]
    go_enter Try.func16, Try.ntmps16
    go_wp2_with fail
    refine bodyPost_ret (results_tmp rfl _ _ _) rfl ⟨rfl, Below.refl _ _⟩
end Go.Proofs.Ytgfagophgipldaa
