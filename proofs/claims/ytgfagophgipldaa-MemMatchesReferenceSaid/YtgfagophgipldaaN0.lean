import Derived.Test.YtgfagophgipldaaM9
namespace Go.Proofs.Ytgfagophgipldaa
open Go.RowKit
theorem mget_mput (M b : List Int) (a c : Int) (hM : M.length = 65536) (hb : b.length ≤ 65536) : mget (mput M a b) c = if (c - a) % 65536 < b.length then b.getD ((c - a) % 65536).toNat 0 else mget M c := by
  unfold mget
  have e : (((c % 65536).toNat : Nat) : Int) - a = c % 65536 - a := by omega
  have e2 : (c % 65536 - a) % 65536 = (c - a) % 65536 := by omega
  rw [List.getD_eq_getElem?_getD, mput_get M b a hM hb _ (by omega), e, e2]
  split
  · rw [List.getD_eq_getElem?_getD]
  · rw [List.getD_eq_getElem?_getD]
theorem mbytes_put (M b : List Int) (a : Int) (hM : M.length = 65536) (hb : b.length ≤ 65536) : mbytes (mput M a b) a b.length = b := by
  apply List.ext_getElem?
  intro j
  unfold mbytes
  rw [List.getElem?_map]
  by_cases hj : j < b.length
  · rw [List.getElem?_range hj, List.getElem?_eq_getElem hj, Option.map_some, mget_mput M b a _ hM hb]
    have e : (a + (j : Int) - a) % 65536 = j ∨ j = 65536 := by omega
    rcases e with e | e
    · rw [e, if_pos (by omega), Int.toNat_natCast, getD_at b j hj]
    · omega
  · rw [List.getElem?_eq_none (by rw [List.length_range]; omega), List.getElem?_eq_none (by omega)]; rfl
theorem rdw_one {w : World} {a : Int} {vb : Value} {b : List Int} (hb : Rd w vb b) : RdW (w.alloc (.cells #[.int .i64 a, vb] 46)) (.slice (some ⟨w.heap.size, 0, none⟩) 1 1) [(a, vb, b)] := by
  refine .inr ⟨w.heap.size, 0, 1, rfl, by simp, fun j x hx => ?_⟩
  obtain rfl : j = 0 := by
    have := (List.getElem?_eq_some_iff.1 hx).1
    simp at this; exact this
  simp at hx
  subst hx
  refine ⟨?_, ?_, rd_alloc hb _⟩
  · rw [cell_of_row _ _ _ _ _ _ (heap_alloc_new w _)]; rfl
  · rw [cell_of_row _ _ _ _ _ _ (heap_alloc_new w _)]; rfl
theorem few_one (a : Int) (vb : Value) (b : List Int) (n : Nat) : fewB [(a, vb, b)] n = (decide (b.length ≤ 100) && decide (-1000000 ≤ a) && decide (a ≤ 1000000) && decide (n ≤ 2000)) := by
  unfold fewB okW
  simp
theorem bool_or (x : Bool) (p q : Prop) [Decidable p] (h : x = false ∨ p ∨ q) : x = false ∨ (x = true ∧ p) ∨ (x = true ∧ ¬ p ∧ q) := by
  by_cases hp : p <;> cases x <;> simp_all
set_option maxRecDepth 100000 in
set_option maxHeartbeats 2000000 in
theorem reads_bad (rom b : List Int) (a c : Int) (vr vb : Value) (w : World) (hr : Rd w vr rom) (hb : Rd w vb b) (hbad : fewB [(a, vb, b)] rom.length = false ∨ c < 0 ∨ 65535 < c) :
    Calls Try.prog 9 #[vr, .int .i64 a, vb, .int .i64 c] w fun e w' => e = .returned (.bool true) ∧ Below w.heap.size w w' := by
  obtain ⟨ro, rcap, rfl, -⟩ := rd_view hr
  obtain ⟨bo, bcap, rfl, -⟩ := rd_view hb
  have HB := hid hb
  clear hr hb
  rcases bool_or _ _ _ hbad with hf | ⟨hf, hc⟩ | ⟨hf, hc, hc2⟩
  all_goals
    have HF := hid hf
    clear hf hbad
    go_enter Try.func9, Try.ntmps9
    go_wp2_with fail
    refine (memAwake_any _).mono ?_
    rintro e1 w1 ⟨rfl, b1⟩
    have Q1 := hid b1
    have B1 := hid (rd_below HB.out b1)
    clear b1
    go_wp2_with fail
    refine (few_any [(a, .slice bo b.length bcap, b)] rom.length ro rcap _ _ (rdw_one B1.out)).mono ?_
    rintro e2 w2 ⟨rfl, rfl⟩
    rw [HF.out]
    have Q2 := hid (Q1.out.alloc Q1.out.size (.cells #[.int .i64 a, .slice bo b.length bcap] 46))
    clear Q1 B1
    go_wp2_with fail
    refine (memAwake_any _).mono ?_
    rintro e3 w3 ⟨rfl, b3⟩
    have Q3 := hid (bel_t Q2.out b3)
    clear Q2 b3
    go_wp2_with fail
    go_ret
    exact ⟨rfl, Q3.out⟩
/-- What fewB says of one write. -/
theorem few_one_ok {a : Int} {vb : Value} {b : List Int} {n : Nat} (h : fewB [(a, vb, b)] n = true) : b.length ≤ 100 ∧ -1000000 ≤ a ∧ a ≤ 1000000 ∧ n ≤ 2000 := by
  rw [few_one] at h
  simp only [Bool.and_eq_true, decide_eq_true_eq] at h
  omega
end Go.Proofs.Ytgfagophgipldaa
