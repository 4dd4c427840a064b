import Derived.Test.YtepkaagbjfnpbaaDoorA2
import Derived.Test.YtepkaagbjfnpbaaDoorA3
namespace Go.Proofs.YtepkaagbjfnpbaaDoor
open Go.RowKit

def rallowedS (l x : Int) : Bool := if (l == 2) = true then decide (0 ≤ x) && decide (x ≤ 7) else if (l == 3) = true then decide (0 ≤ x) && decide (x ≤ 15) else false
set_option maxHeartbeats 400000 in
theorem rallowed_any (l x : Int) (w : World) :
    Calls Tryd.prog 22 #[.int .i64 l, .int .i64 x] w fun e w' => e = .returned (.bool (rallowedS l x)) ∧ w = w' := by
  go_enter Tryd.func22, Tryd.ntmps22
  go_wp2
  all_goals
    go_ret
    refine ⟨?_, rfl⟩
    simp [rallowedS, *]
    try (intros; omega)
set_option maxHeartbeats 400000 in
theorem greatest_any (w : World) :
    Calls Tryd.prog 24 #[] w fun e w' => e = .returned (.map (some w.heap.size)) ∧ w.alloc (.map #[⟨.int .i64 2, .int .i64 7, 0⟩, ⟨.int .i64 3, .int .i64 15, 1⟩] 2) = w' := by
  have hmm := @run_makeMap Tryd.prog
  have h1 := fun w => run_insert_last (P := Tryd.prog) 56 3 3 Tryd.underlying56 Tryd.underlying3 w #[] 0 2 (.int .i64 7) rfl
  have h2 := fun w => run_insert_last (P := Tryd.prog) 56 3 3 Tryd.underlying56 Tryd.underlying3 w #[⟨.int .i64 2, .int .i64 7, 0⟩] 1 3 (.int .i64 15) rfl
  simp only [List.push_toArray, List.nil_append, List.cons_append, Nat.zero_add, Nat.reduceAdd] at h1 h2
  go_enter Tryd.func24, Tryd.ntmps24
  go_wp2
  go_ret
  exact ⟨rfl, rfl⟩
theorem look56 (w : World) (l : Int) : (Instr.lookup 56 (.map (some w.heap.size)) (.int .i64 l) true).run Tryd.prog (w.alloc (.map #[⟨.int .i64 2, .int .i64 7, 0⟩, ⟨.int .i64 3, .int .i64 15, 1⟩] 2)) =
    .ok (.tuple #[.int .i64 (if l = 2 then 7 else if l = 3 then 15 else 0), .bool (if l = 2 then true else if l = 3 then true else false)]) (w.alloc (.map #[⟨.int .i64 2, .int .i64 7, 0⟩, ⟨.int .i64 3, .int .i64 15, 1⟩] 2)) := by
  have hb := heap_alloc_new w (.map #[⟨.int .i64 2, .int .i64 7, 0⟩, ⟨.int .i64 3, .int .i64 15, 1⟩] 2)
  by_cases h2 : l = 2
  · subst h2
    exact run_look 56 3 3 Tryd.underlying56 Tryd.underlying3 _ _ _ _ 2 (.int .i64 7) 0 hb rfl
  · by_cases h3 : l = 3
    · subst h3
      exact run_look 56 3 3 Tryd.underlying56 Tryd.underlying3 _ _ _ _ 3 (.int .i64 15) 1 hb rfl
    · rw [if_neg h2, if_neg h3, if_neg h2, if_neg h3]
      have e2 : (l == 2) = false := by simpa using h2
      have e3 : (l == 3) = false := by simpa using h3
      exact run_look_none 56 3 3 Tryd.underlying56 Tryd.underlying3 _ _ _ _ l (.int .i64 0) (by kernel_rfl) hb (by simp [Instr.findNow, Instr.sameNow, e2, e3])
set_option maxHeartbeats 400000 in
theorem allowed_any (l x : Int) (w : World) :
    Calls Tryd.prog 19 #[.int .i64 l, .int .i64 x] w fun e w' => e = .returned (.bool (rallowedS l x)) ∧ Below w.heap.size w w' := by
  have hl := look56 w l
  by_cases h2 : l = 2
  · subst h2
    simp only [if_true] at hl
    go_enter Tryd.func19, Tryd.ntmps19
    go_wp2_with (go_at_call 24; refine (greatest_any _).mono ?_; rintro e w' ⟨rfl, rfl⟩)
    all_goals
      go_ret
      refine ⟨?_, by go_grown⟩
      simp [rallowedS, *]
      try (intros; omega)
  · by_cases h3 : l = 3
    · subst h3
      simp only [h2, if_true, if_false] at hl
      go_enter Tryd.func19, Tryd.ntmps19
      go_wp2_with (go_at_call 24; refine (greatest_any _).mono ?_; rintro e w' ⟨rfl, rfl⟩)
      all_goals
        go_ret
        refine ⟨?_, by go_grown⟩
        simp [rallowedS, *]
        try (intros; omega)
    · simp only [h2, h3, if_false] at hl
      go_enter Tryd.func19, Tryd.ntmps19
      go_wp2_with (go_at_call 24; refine (greatest_any _).mono ?_; rintro e w' ⟨rfl, rfl⟩)
      all_goals
        go_ret
        refine ⟨?_, by go_grown⟩
        simp [rallowedS, *]
        try (intros; omega)

def skipS (a b : Nat) (l : Int) : Int := if l = 3 ∧ a = 240 ∧ b = 0 then 4 else 2
set_option maxHeartbeats 400000 in
theorem skip_any (a b : Nat) (l : Int) (w : World) (ha : a < 256) (hb : b < 256) :
    Calls Tryd.prog 11 #[.int .u8 a, .int .u8 b, .int .i64 l] w fun e w' => e = .returned (.int .i64 (skipS a b l)) ∧ w = w' := by
  go_enter Tryd.func11, Tryd.ntmps11
  go_wp2_with (go_at_call 17; refine (number_any a b _ ha hb).mono ?_; rintro e w' ⟨rfl, rfl⟩)
  all_goals
    go_ret
    refine ⟨ret_int ?_, rfl⟩
    try simp only [beq_iff_eq, beq_eq_false_iff_ne] at *
    unfold skipS
    split <;> first | omega | (simp_all; done) | (simp_all; omega)
set_option maxHeartbeats 400000 in
theorem rskip_any (a b : Nat) (l : Int) (w : World) :
    Calls Tryd.prog 12 #[.int .u8 a, .int .u8 b, .int .i64 l] w fun e w' => e = .returned (.int .i64 (skipS a b l)) ∧ w = w' := by
  go_enter Tryd.func12, Tryd.ntmps12
  go_wp2
  all_goals
    go_ret
    refine ⟨ret_int ?_, rfl⟩
    try simp only [beq_iff_eq, beq_eq_false_iff_ne] at *
    unfold skipS
    split <;> first | omega | (simp_all; done) | (simp_all; omega)
end Go.Proofs.YtepkaagbjfnpbaaDoor
