import Derived.Test.YtepkaagbjfnpbaaDoorA1
import Derived.Test.YtepkaagbjfnpbaaDoorProg
namespace Go.Proofs.YtepkaagbjfnpbaaDoor
open Go.RowKit

def fiveS (n : Int) : Int := if (n == 0) = true then 7 else if (n == 2) = true then 46 else if (n == 3) = true then 47 else 0
def zeroS (x y nnn : Int) : Int :=
  if (nnn == 224) = true then 1 else if (nnn == 238) = true then 2 else if (nnn == 251) = true then 36 else if (nnn == 252) = true then 37 else if (nnn == 253) = true then 38
  else if (nnn == 254) = true then 39 else if (nnn == 255) = true then 40 else if x = 0 then (if (y == 12) = true then 35 else if (y == 13) = true then 45 else 0) else 0
def eightS (n : Int) : Int := if n ≤ 7 then 10 + n else if (n == 14) = true then 18 else 0
def fifteenS (x nn : Int) : Int :=
  if (nn == 0) = true then (if (x == 0) = true then 48 else 0) else if (nn == 1) = true then 49 else if (nn == 2) = true then (if (x == 0) = true then 50 else 0)
  else if (nn == 7) = true then 26 else if (nn == 10) = true then 27 else if (nn == 21) = true then 28 else if (nn == 24) = true then 29 else if (nn == 30) = true then 30
  else if (nn == 41) = true then 31 else if (nn == 48) = true then 42 else if (nn == 51) = true then 32 else if (nn == 58) = true then 51 else if (nn == 85) = true then 33
  else if (nn == 101) = true then 34 else if (nn == 117) = true then 43 else if (nn == 133) = true then 44 else 0
def levelS (op : Int) : Int := if op < 1 then 0 else if 51 < op then 0 else if op ≤ 34 then 1 else if op ≤ 44 then 2 else 3
/-- The cells of the fields of an opcode. -/
def fc (h x y n nn nnn : Int) : Array Value := #[.int .i64 h, .int .i64 x, .int .i64 y, .int .i64 n, .int .i64 nn, .int .i64 nnn]

set_option maxHeartbeats 400000 in
theorem five_any (n : Int) (w : World) :
    Calls Tryd.prog 26 #[.int .i64 n] w fun e w' => e = .returned (.int .i64 (fiveS n)) ∧ w = w' := by
  go_enter Tryd.func26, Tryd.ntmps26
  go_wp2
  all_goals
    go_ret
    exact ⟨by simp [fiveS, *], rfl⟩
set_option maxHeartbeats 400000 in
theorem zero_any (h x y n nn nnn : Int) (w : World) :
    Calls Tryd.prog 25 #[.agg (fc h x y n nn nnn)] w fun e w' => e = .returned (.int .i64 (zeroS x y nnn)) ∧ Below w.heap.size w w' := by
  unfold fc
  go_enter Tryd.func25, Tryd.ntmps25
  go_wp2
  all_goals
    go_ret
    refine ⟨by simp [zeroS, *], by go_grown⟩
set_option maxHeartbeats 400000 in
theorem eight_any (n : Int) (w : World) (h0 : 0 ≤ n) (h1 : n ≤ 15) :
    Calls Tryd.prog 27 #[.int .i64 n] w fun e w' => e = .returned (.int .i64 (eightS n)) ∧ w = w' := by
  go_enter Tryd.func27, Tryd.ntmps27
  go_wp2
  all_goals
    go_ret
    exact ⟨ret_int (by unfold eightS; (repeat' split) <;> first | omega | simp_all), rfl⟩
set_option maxHeartbeats 400000 in
theorem fifteen_any (h x y n nn nnn : Int) (w : World) :
    Calls Tryd.prog 28 #[.agg (fc h x y n nn nnn)] w fun e w' => e = .returned (.int .i64 (fifteenS x nn)) ∧ Below w.heap.size w w' := by
  unfold fc
  go_enter Tryd.func28, Tryd.ntmps28
  go_wp2
  all_goals
    go_ret
    refine ⟨by simp [fifteenS, *], by go_grown⟩
set_option maxHeartbeats 400000 in
theorem rlevel_any (op : Int) (w : World) :
    Calls Tryd.prog 14 #[.int .i64 op] w fun e w' => e = .returned (.int .i64 (levelS op)) ∧ w = w' := by
  go_enter Tryd.func14, Tryd.ntmps14
  go_wp2
  all_goals
    go_ret
    exact ⟨ret_int (by unfold levelS; (repeat' split) <;> first | omega | simp_all), rfl⟩

def opS (h x y n nn nnn : Int) : Int :=
  if (h == 0) = true then zeroS x y nnn else if (h == 1) = true then h + 2 else if (h == 2) = true then h + 2 else if (h == 3) = true then h + 2 else if (h == 4) = true then h + 2
  else if (h == 5) = true then fiveS n else if (h == 6) = true then h + 2 else if (h == 7) = true then h + 2 else if (h == 8) = true then eightS n
  else if (h == 9) = true then (if (n == 0) = true then 19 else 0) else if (h == 10) = true then h + 10 else if (h == 11) = true then h + 10 else if (h == 12) = true then h + 10
  else if (h == 13) = true then (if (n == 0) = true then 41 else 23) else if (h == 14) = true then (if (nn == 158) = true then 24 else if (nn == 161) = true then 25 else 0) else fifteenS x nn
set_option maxHeartbeats 400000 in
theorem op_any (h x y n nn nnn : Int) (w : World) (hh : 0 ≤ h ∧ h ≤ 15) (hn : 0 ≤ n ∧ n ≤ 15) :
    Calls Tryd.prog 21 #[.agg (fc h x y n nn nnn)] w fun e w' => e = .returned (.int .i64 (opS h x y n nn nnn)) ∧ Below w.heap.size w w' := by
  unfold fc
  go_enter Tryd.func21, Tryd.ntmps21
  go_wp2_with (first
    | (go_at_call 25; refine (zero_any h x y n nn nnn _).mono ?_; rintro e w' ⟨rfl, hb⟩)
    | (go_at_call 26; refine (five_any n _).mono ?_; rintro e w' ⟨rfl, rfl⟩)
    | (go_at_call 27; refine (eight_any n _ (by omega) (by omega)).mono ?_; rintro e w' ⟨rfl, rfl⟩)
    | (go_at_call 28; refine (fifteen_any h x y n nn nnn _).mono ?_; rintro e w' ⟨rfl, hb⟩))
  all_goals
    go_ret
    refine ⟨ret_int (by simp [opS, *]), ?_⟩
    first
      | (refine Below.trans (b := w.alloc _) ?_ ((by assumption : Below _ (w.alloc _) _).mono (by simp)); exact (Below.refl _ _).alloc (Nat.le_refl _) _)
      | go_grown
end Go.Proofs.YtepkaagbjfnpbaaDoor
