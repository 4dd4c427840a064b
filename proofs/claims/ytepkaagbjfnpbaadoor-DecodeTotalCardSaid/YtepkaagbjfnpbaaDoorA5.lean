import Derived.Test.YtepkaagbjfnpbaaDoorA4
namespace Go.Proofs.YtepkaagbjfnpbaaDoor
open Go.RowKit

theorem and_i64 (n : Nat) (m : Nat) (i : Nat) (hm : m = 2 ^ i - 1) (hi : i < 16) (hn : n < 2 ^ 62) : bits .and .i64 (n : Int) (m : Int) = ((n % 2 ^ i : Nat) : Int) := by
  have : 2 ^ i ≤ 2 ^ 16 := Nat.pow_le_pow_right (by omega) (by omega)
  rw [bits_and_i64 n m hn (by omega), hm, Nat.and_two_pow_sub_one_eq_mod]
set_option maxHeartbeats 400000 in
theorem split_any (a b : Nat) (w : World) (ha : a < 256) (hb : b < 256) :
    Calls Tryd.prog 18 #[.int .u8 a, .int .u8 b] w fun e w' => e = .returned (.agg (fc (a / 16 : Nat) (a % 16 : Nat) (b / 16 : Nat) (b % 16 : Nat) b (a % 16 * 256 + b : Nat))) ∧ Below w.heap.size w w' := by
  have e1 : bits .and .i64 (((a : Int) * 256 + b) / 256) 15 = ((a % 16 : Nat) : Int) := by
    rw [show ((a : Int) * 256 + b) / 256 = (a : Nat) by omega]; exact and_i64 a 15 4 rfl (by omega) (by omega)
  have e2 : bits .and .i64 (((a : Int) * 256 + b) / 16) 15 = ((b / 16 : Nat) : Int) := by
    rw [show ((a : Int) * 256 + b) / 16 = (a * 16 + b / 16 : Nat) by omega, show b / 16 = (a * 16 + b / 16) % 2 ^ 4 by omega]
    rw [← and_i64 _ 15 4 rfl (by omega) (by omega)]
    congr 1
    omega
  have e3 : bits .and .i64 ((a : Int) * 256 + b) 15 = ((b % 16 : Nat) : Int) := by
    rw [show ((a : Int) * 256 + b) = (a * 256 + b : Nat) by omega, show b % 16 = (a * 256 + b) % 2 ^ 4 by omega]
    exact and_i64 _ 15 4 rfl (by omega) (by omega)
  have e4 : bits .and .i64 ((a : Int) * 256 + b) 255 = ((b : Nat) : Int) := by
    rw [show ((a : Int) * 256 + b) = (a * 256 + b : Nat) by omega]
    rw [show (b : Int) = ((a * 256 + b) % 2 ^ 8 : Nat) by omega]
    exact and_i64 _ 255 8 rfl (by omega) (by omega)
  have e5 : bits .and .i64 ((a : Int) * 256 + b) 4095 = ((a % 16 * 256 + b : Nat) : Int) := by
    rw [show ((a : Int) * 256 + b) = (a * 256 + b : Nat) by omega, show a % 16 * 256 + b = (a * 256 + b) % 2 ^ 12 by omega]
    exact and_i64 _ 4095 12 rfl (by omega) (by omega)
  have e0 : ((a : Int) * 256 + b) / 4096 = ((a / 16 : Nat) : Int) := by omega
  have H0 := hid e0; have H1 := hid e1; have H2 := hid e2; have H3 := hid e3; have H4 := hid e4; have H5 := hid e5
  clear e0 e1 e2 e3 e4 e5
  go_enter Tryd.func18, Tryd.ntmps18
  go_wp2_with (go_at_call 17; refine (number_any a b _ ha hb).mono ?_; rintro e w' ⟨rfl, rfl⟩)
  simp only [H0.out, H1.out, H2.out, H3.out, H4.out, H5.out]
  refine bodyPost_ret (results_agg rfl _ _ ⟨w.heap.size, 0, none⟩ _ rfl ?_) rfl ⟨rfl, by go_grown⟩
  unfold fc
  go_simp
set_option maxHeartbeats 400000 in
theorem rsplit_any (a b : Nat) (w : World) (ha : a < 256) (hb : b < 256) :
    Calls Tryd.prog 20 #[.int .u8 a, .int .u8 b] w fun e w' => e = .returned (.agg (fc (a / 16 : Nat) (a % 16 : Nat) (b / 16 : Nat) (b % 16 : Nat) b (a % 16 * 256 + b : Nat))) ∧ Below w.heap.size w w' := by
  go_enter Tryd.func20, Tryd.ntmps20
  go_wp2
  refine bodyPost_ret (results_agg rfl _ _ ⟨w.heap.size, 0, none⟩ _ rfl ?_) rfl ⟨rfl, by go_grown⟩
  unfold fc
  go_simp

/-- The cells of an instruction. -/
def ic (op x y n nn ad ln : Int) : Array Value := #[.int .i64 op, .int .i64 x, .int .i64 y, .int .i64 n, .int .i64 nn, .int .i64 ad, .int .i64 ln]
/-- What a function that picks fields makes of a new instruction. -/
def pickS (p : Nat) (op x y n nn nnn : Int) : Array Value :=
  if p = 45 then ic op 0 0 0 0 0 2 else if p = 46 then ic op 0 0 0 0 nnn 2 else if p = 47 then ic op x 0 0 nn 0 2 else if p = 48 then ic op x y 0 0 0 2
  else if p = 49 then ic op x 0 0 0 nnn 2 else if p = 50 then ic op x y n 0 0 2 else if p = 51 then ic op x 0 0 0 0 2 else if p = 52 then ic op 0 0 n 0 0 2 else ic op 0 0 x 0 0 2

theorem gb_refl (w : World) (r : Option Nat) : w.grownBy w r := ⟨rfl, rfl, rfl, Nat.le_refl _, fun _ _ _ => rfl⟩
theorem gb_alloc {w w1 : World} {r : Option Nat} (h : w.grownBy w1 r) (o : Obj) : w.grownBy (w1.alloc o) r :=
  ⟨h.os, h.tape, h.output, by have := h.size; simp; omega, fun k hk hr => (Below.heap_alloc _ _ _ (by have := h.size; omega)).trans (h.block k hk hr)⟩
theorem gb_set {w w1 : World} {g : Nat} (h : w.grownBy w1 (some g)) (i : Nat) (v : Value) : w.grownBy (w1.setCell ⟨g, i, none⟩ v) (some g) :=
  ⟨h.os, h.tape, h.output, by have := h.size; simp [World.setCell]; omega, fun k hk hr => (Below.heap_setCell _ _ _ _ (by intro e; exact hr (by rw [e]))).trans (h.block k hk hr)⟩
theorem gb_drew {w w1 : World} {r : Option Nat} (h : w.grownBy w1 r) : w.grownBy w1.drew r := ⟨h.os, h.tape, h.output, h.size, h.block⟩
/-- Block g holds the cells C. -/
def At (w : World) (g : Nat) (C : Array Value) (T : TypeId) : Prop := w.heap[g]? = some (.cells C T (0, 0))
theorem at_alloc {w : World} {g : Nat} {C : Array Value} {T : TypeId} (h : At w g C T) (o : Obj) : At (w.alloc o) g C T :=
  (Below.heap_alloc _ _ _ (Array.getElem?_eq_some_iff.1 h).1).trans h
theorem at_set {w : World} {g : Nat} {C : Array Value} {T : TypeId} (h : At w g C T) (i : Nat) (v : Value) : At (w.setCell ⟨g, i, none⟩ v) g (C.setIfInBounds i v) T :=
  heap_setCell_same w g i C T v h
theorem at_drew {w : World} {g : Nat} {C : Array Value} {T : TypeId} (h : At w g C T) : At w.drew g C T := h
def PickPost (g : Nat) (C : Array Value) (w : World) (e : Ending) (w' : World) : Prop :=
  e = .returned (.tuple #[]) ∧ w.grownBy w' (some g) ∧ At w' g C 25
theorem pick_mk {g : Nat} {C C' : Array Value} {w w' : World} (h1 : w.grownBy w' (some g)) (h2 : At w' g C' 25) (h : C' = C) : PickPost g C w (.returned (.tuple #[])) w' := by
  subst h; exact ⟨rfl, h1, h2⟩
set_option maxHeartbeats 1000000 in
theorem pick_any (p : Nat) (hp : 45 ≤ p ∧ p ≤ 53) (g : Nat) (op h x y n nn nnn : Int) (w : World) (hg : At w g (ic op 0 0 0 0 0 2) 25) :
    Calls Tryd.prog p #[.pointer (some ⟨g, 0, none⟩), .agg (fc h x y n nn nnn)] w (PickPost g (pickS p op x y n nn nnn) w) := by
  have hg' : w.heap[g]? = some (.cells (ic op 0 0 0 0 0 2) 25 (0, 0)) := hg
  have hlt : g < w.heap.size := (Array.getElem?_eq_some_iff.1 hg).1
  have f : ∀ j, w.frozen? ⟨g, j, none⟩ = false := fun j => by simp [World.frozen?, hg']
  have c0 : w.cell? ⟨g, 0, none⟩ = some (.int .i64 op) := by simp [World.cell?, hg', ic]
  have c1 : w.cell? ⟨g, 1, none⟩ = some (.int .i64 0) := by simp [World.cell?, hg', ic]
  have c2 : w.cell? ⟨g, 2, none⟩ = some (.int .i64 0) := by simp [World.cell?, hg', ic]
  have c3 : w.cell? ⟨g, 3, none⟩ = some (.int .i64 0) := by simp [World.cell?, hg', ic]
  have c4 : w.cell? ⟨g, 4, none⟩ = some (.int .i64 0) := by simp [World.cell?, hg', ic]
  have c5 : w.cell? ⟨g, 5, none⟩ = some (.int .i64 0) := by simp [World.cell?, hg', ic]
  have f1 := f 1; have f2 := f 2; have f3 := f 3; have f4 := f 4; have f5 := f 5
  have HG := hid hg
  clear f hg hg'
  unfold fc
  obtain rfl | rfl | rfl | rfl | rfl | rfl | rfl | rfl | rfl : p = 45 ∨ p = 46 ∨ p = 47 ∨ p = 48 ∨ p = 49 ∨ p = 50 ∨ p = 51 ∨ p = 52 ∨ p = 53 := by omega
  · go_enter Tryd.func45, Tryd.ntmps45
    go_wp2
    go_end0
    apply pick_mk
    rotate_left
    · repeat (first | with_reducible exact HG.out | with_reducible apply at_drew | with_reducible apply at_alloc | with_reducible apply at_set)
    · rfl
    · repeat (first | with_reducible exact gb_refl _ _ | with_reducible refine gb_drew ?_ | with_reducible refine gb_alloc ?_ _ | with_reducible refine gb_set ?_ _ _)
  · go_enter Tryd.func46, Tryd.ntmps46
    go_wp2
    go_end0
    apply pick_mk
    rotate_left
    · repeat (first | with_reducible exact HG.out | with_reducible apply at_drew | with_reducible apply at_alloc | with_reducible apply at_set)
    · rfl
    · repeat (first | with_reducible exact gb_refl _ _ | with_reducible refine gb_drew ?_ | with_reducible refine gb_alloc ?_ _ | with_reducible refine gb_set ?_ _ _)
  · go_enter Tryd.func47, Tryd.ntmps47
    go_wp2
    go_region
    go_end0
    apply pick_mk
    rotate_left
    · repeat (first | with_reducible exact HG.out | with_reducible apply at_drew | with_reducible apply at_alloc | with_reducible apply at_set)
    · rfl
    · repeat (first | with_reducible exact gb_refl _ _ | with_reducible refine gb_drew ?_ | with_reducible refine gb_alloc ?_ _ | with_reducible refine gb_set ?_ _ _)
  · go_enter Tryd.func48, Tryd.ntmps48
    go_wp2
    go_region
    go_end0
    apply pick_mk
    rotate_left
    · repeat (first | with_reducible exact HG.out | with_reducible apply at_drew | with_reducible apply at_alloc | with_reducible apply at_set)
    · rfl
    · repeat (first | with_reducible exact gb_refl _ _ | with_reducible refine gb_drew ?_ | with_reducible refine gb_alloc ?_ _ | with_reducible refine gb_set ?_ _ _)
  · go_enter Tryd.func49, Tryd.ntmps49
    go_wp2
    go_region
    go_end0
    apply pick_mk
    rotate_left
    · repeat (first | with_reducible exact HG.out | with_reducible apply at_drew | with_reducible apply at_alloc | with_reducible apply at_set)
    · rfl
    · repeat (first | with_reducible exact gb_refl _ _ | with_reducible refine gb_drew ?_ | with_reducible refine gb_alloc ?_ _ | with_reducible refine gb_set ?_ _ _)
  · go_enter Tryd.func50, Tryd.ntmps50
    go_wp2
    go_region
    go_end0
    apply pick_mk
    rotate_left
    · repeat (first | with_reducible exact HG.out | with_reducible apply at_drew | with_reducible apply at_alloc | with_reducible apply at_set)
    · rfl
    · repeat (first | with_reducible exact gb_refl _ _ | with_reducible refine gb_drew ?_ | with_reducible refine gb_alloc ?_ _ | with_reducible refine gb_set ?_ _ _)
  · go_enter Tryd.func51, Tryd.ntmps51
    go_wp2
    go_end0
    apply pick_mk
    rotate_left
    · repeat (first | with_reducible exact HG.out | with_reducible apply at_drew | with_reducible apply at_alloc | with_reducible apply at_set)
    · rfl
    · repeat (first | with_reducible exact gb_refl _ _ | with_reducible refine gb_drew ?_ | with_reducible refine gb_alloc ?_ _ | with_reducible refine gb_set ?_ _ _)
  · go_enter Tryd.func52, Tryd.ntmps52
    go_wp2
    go_end0
    apply pick_mk
    rotate_left
    · repeat (first | with_reducible exact HG.out | with_reducible apply at_drew | with_reducible apply at_alloc | with_reducible apply at_set)
    · rfl
    · repeat (first | with_reducible exact gb_refl _ _ | with_reducible refine gb_drew ?_ | with_reducible refine gb_alloc ?_ _ | with_reducible refine gb_set ?_ _ _)
  · go_enter Tryd.func53, Tryd.ntmps53
    go_wp2
    go_end0
    apply pick_mk
    rotate_left
    · repeat (first | with_reducible exact HG.out | with_reducible apply at_drew | with_reducible apply at_alloc | with_reducible apply at_set)
    · rfl
    · repeat (first | with_reducible exact gb_refl _ _ | with_reducible refine gb_drew ?_ | with_reducible refine gb_alloc ?_ _ | with_reducible refine gb_set ?_ _ _)
end Go.Proofs.YtepkaagbjfnpbaaDoor
