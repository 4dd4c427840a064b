import Derived.Test.YtepkaagbjfnpbaaDoorA7
import Derived.Test.YtepkaagbjfnpbaaDoorA5
import Derived.Test.YtepkaagbjfnpbaaDoorA4
import Derived.Deep.RegionWith
import Derived.Deep.RegionHeld3
import Derived.Deep.Cut
import Derived.Laws.EntriesVeiled
namespace Go.Proofs.YtepkaagbjfnpbaaDoor
open Go.RowKit
def BC (a b c d : Nat) : Array Value := #[.int .u8 a, .int .u8 b, .int .u8 c, .int .u8 d]
theorem find_int (z : Int) (n : Nat) (hz : z = n) (hn : n < 65536) (w : World) (t0 t1 : TypeId × Nat × Nat) (hb0 : 1 < w.heap.size) (h0 : w.heap[0]? = some (.cells T1 t0.1 t0.2)) (h1 : w.heap[1]? = some (.cells T2 t1.1 t1.2)) :
    Calls Tryd.prog 16 #[.int .i64 z] w (FindPost n w) := by
  subst hz; exact find_any n hn w t0 t1 hb0 h0 h1
theorem at_below {w w' : World} {g B : Nat} {C : Array Value} {T : TypeId} (h : At w g C T) (hb : Below B w w') (hg : g < B) : At w' g C T := (hb.block g hg).trans h
theorem at_new (w : World) (C : Array Value) (T : TypeId) : At (w.alloc (.cells C T)) w.heap.size C T := heap_alloc_new w _
theorem three_old {w : World} {a b c o : Obj} {i : Nat} (hi : i < w.heap.size) (h : w.heap[i]? = some o) : (((w.alloc a).alloc b).alloc c).heap[i]? = some o := by
  rw [Below.heap_alloc _ _ _ (by simp; omega), Below.heap_alloc _ _ _ (by simp; omega), Below.heap_alloc _ _ _ hi]; exact h
theorem found_lt {n m : Nat} (h : n + 3 ≤ m) : (∀ k, n < m + k) ∧ n < m ∧ (∀ k, n + 1 < m + k) ∧ n + 1 < m ∧ (∀ k, n + 1 + 1 < m + k) ∧ n + 1 + 1 < m :=
  ⟨fun k => by omega, by omega, fun k => by omega, by omega, fun k => by omega, by omega⟩
/-- The world in which the decoder has found its rule. -/
structure Found (w w3 : World) (a b c d : Nat) : Prop where
  b0 : At w3 w.heap.size (BC a b c d) 22
  b1 : At w3 (w.heap.size + 1) (ic 0 0 0 0 0 0 0) 25
  b2 : At w3 (w.heap.size + 1 + 1) (ic 0 0 0 0 0 0 2) 25
  size : w.heap.size + 3 ≤ w3.heap.size
  below : Below w.heap.size w w3
theorem found_mk {w w3 : World} {a b c d : Nat}
    (h : Below (((w.alloc (.cells (BC a b c d) 22)).alloc (.cells (ic 0 0 0 0 0 0 0) 25)).alloc (.cells (ic 0 0 0 0 0 0 2) 25)).heap.size (((w.alloc (.cells (BC a b c d) 22)).alloc (.cells (ic 0 0 0 0 0 0 0) 25)).alloc (.cells (ic 0 0 0 0 0 0 2) 25)) w3) : Found w w3 a b c d := by
  have hs := h.size
  simp only [World.size_alloc] at h hs
  refine ⟨?_, ?_, ?_, by omega, ?_⟩
  · exact at_below (at_alloc (at_alloc (at_new w _ _) _) _) h (by omega)
  · refine at_below (at_alloc (C := ic 0 0 0 0 0 0 0) (T := 25) ?_ _) h (by omega)
    have := at_new (w.alloc (.cells (BC a b c d) 22)) (ic 0 0 0 0 0 0 0) 25
    simpa using this
  · have := at_new ((w.alloc (.cells (BC a b c d) 22)).alloc (.cells (ic 0 0 0 0 0 0 0) 25)) (ic 0 0 0 0 0 0 2) 25
    refine at_below ?_ h (by omega)
    simpa using this
  · exact ((((Below.refl _ _).alloc (Nat.le_refl _) _).alloc (by simp) _).alloc (by simp; omega) _).trans (h.mono (by omega))
theorem at_one (w : World) (C D : Array Value) (T U : TypeId) : At ((w.alloc (.cells C T)).alloc (.cells D U)).drew w.heap.size C T := at_drew (at_alloc (at_new w C T) _)
theorem at_two (w : World) (o : Obj) (D : Array Value) (U : TypeId) : At ((w.alloc o).alloc (.cells D U)).drew (w.heap.size + 1) D U := by
  have := at_new (w.alloc o) D U
  exact at_drew (by simpa using this)
theorem at_cells_below {w w' : World} {g B : Nat} {C : Array Value} {T : TypeId} (h : At w g C T) (hb : Below B w w') (hg : g < B) : (∀ j, w'.cell? ⟨g, j, none⟩ = C[j]?) ∧ (∀ j, w'.frozen? ⟨g, j, none⟩ = false) := at_cells (at_below h hb hg)
/-- The world in which the fields have been picked. -/
structure Picked (w w3 : World) (a b c d : Nat) (C : Array Value) (wr : World) : Prop where
  b0 : At wr w.heap.size (BC a b c d) 22
  b1 : At wr (w.heap.size + 1) (ic 0 0 0 0 0 0 0) 25
  b2 : At wr (w.heap.size + 1 + 1) (ic 0 0 0 0 0 0 2) 25
  b3 : At wr (w3.heap.size + 1) C 25
  size : w3.heap.size + 2 ≤ wr.heap.size
  below : Below w.heap.size w wr
theorem at_grown {w w' : World} {g i : Nat} {C : Array Value} {T : TypeId} (h : At w i C T) (hg : w.grownBy w' (some g)) (hi : i ≠ g) : At w' i C T :=
  (hg.block i (Array.getElem?_eq_some_iff.1 h).1 (by simpa using hi)).trans h
theorem picked_mk {w w3 w4 w5 : World} {a b c d : Nat} {C : Array Value} {o1 o2 : Obj} (F : Found w w3 a b c d) (h4 : Below ((w3.alloc o1).alloc o2).drew.heap.size ((w3.alloc o1).alloc o2).drew w4)
    (hG : w4.grownBy w5 (some (w3.heap.size + 1))) (hA : At w5 (w3.heap.size + 1) C 25) : Picked w w3 a b c d C w5 := by
  have hs : ((w3.alloc o1).alloc o2).drew.heap.size = w3.heap.size + 2 := by simp only [World.size_drew, World.size_alloc]
  have f1 := F.size
  have f2 := h4.size
  have f3 := hG.size
  have up : ∀ {i : Nat} {D : Array Value} {T : TypeId}, At w3 i D T → i < w3.heap.size → At w5 i D T := fun {i D T} h hi =>
    at_grown (at_below (at_drew (at_alloc (at_alloc h o1) o2)) h4 (by omega)) hG (by omega)
  refine ⟨up F.b0 (by omega), up F.b1 (by omega), up F.b2 (by omega), hA, by omega, ?_⟩
  refine ⟨?_, ?_, ?_, by have := F.below.size; omega, fun k hk => ?_⟩
  · rw [hG.os, h4.os]; exact F.below.os
  · rw [hG.tape, h4.tape]; exact F.below.tape
  · rw [hG.output, h4.output]; exact F.below.output
  · rw [hG.block k (by omega) (by simp; omega), h4.block k (by omega)]
    show ((w3.alloc o1).alloc o2).heap[k]? = _
    rw [Below.heap_alloc _ _ _ (by simp; omega), Below.heap_alloc _ _ _ (by omega)]
    exact F.below.block k hk
theorem pick_calls (p : Nat) (hp : 45 ≤ p ∧ p ≤ 53) (g : Nat) (op : Int) (F : Array Value) (h x y n nn nnn : Int) (hF : F = fc h x y n nn nnn) (w : World) (hg : At w g (ic op 0 0 0 0 0 2) 25) :
    Calls Tryd.prog p #[.pointer (some ⟨g, 0, none⟩), .agg F] w (PickPost g (pickS p op x y n nn nnn) w) := by
  subst hF; exact pick_any p hp g op h x y n nn nnn w hg
set_option maxHeartbeats 1000000 in
theorem dec_bad (a b c d m v o l p : Nat) (lv : Int) (w : World) (ha : a < 256) (hb : b < 256) (t0 t1 : TypeId × Nat × Nat) (hb1 : 0 < w.heap.size) (hb0 : 1 < w.heap.size) (h0 : Hid (w.heap[0]? = some (.cells T1 t0.1 t0.2))) (h1 : Hid (w.heap[1]? = some (.cells T2 t1.1 t1.2)))
    (HF : Hid (findR (tbl1 ++ tbl2) (a * 256 + b) = some ⟨m, v, o, l, p⟩)) (hl : lv < l ∨ ((l : Int) ≤ lv ∧ 3 < lv)) :
    Calls Tryd.prog 9 #[.agg (BC a b c d), .int .i64 lv] w fun e w' => e = .returned (.agg (ic 0 0 0 0 0 0 2)) ∧ Below w.heap.size w w' := by
  unfold BC
  rcases hl with hl | ⟨hl, hl3⟩
  all_goals
    go_enter Tryd.func9, Tryd.ntmps9
    repeat' (first
      | (go_at_call 17; refine (number_any a b _ ha hb).mono ?_; rintro e w' ⟨rfl, rfl⟩; dsimp only)
      | (go_at_call 16; refine (find_int _ (a * 256 + b) ?_ ?_ _ t0 t1 ?_ ?_ ?_).mono ?_; (omega); (omega); (simp only [World.size_alloc]; omega); (exact three_old hb1 h0.out); (exact three_old hb0 h1.out); rintro e w3 ⟨he, hB⟩; rw [HF.out] at he; dsimp only [rc] at he; subst he; have F := found_mk hB; clear hB; obtain ⟨cA, fA⟩ := at_cells F.b0; obtain ⟨cB, fB⟩ := at_cells F.b1; obtain ⟨cC, fC⟩ := at_cells F.b2; obtain ⟨zA, zA', zB, zB', zC, zC'⟩ := found_lt F.size; dsimp only [BC, ic] at cA cB cC; dsimp only)
      | go_values | go_skip | go_guarded | go_step | go_upon)
    refine bodyPost_ret (results_agg rfl _ _ ⟨w.heap.size + 1, 0, none⟩ _ rfl ?_) rfl ⟨rfl, ?_⟩
    · unfold ic
      go_simp
    · repeat (first | with_reducible exact F.below | with_reducible refine Below.setCell ?_ (by simp) _ | with_reducible refine Below.alloc ?_ (by have := F.size; simp; omega) _)
set_option maxHeartbeats 1000000 in
theorem dec_none (a b c d : Nat) (lv : Int) (w : World) (ha : a < 256) (hb : b < 256) (t0 t1 : TypeId × Nat × Nat) (hb1 : 0 < w.heap.size) (hb0 : 1 < w.heap.size) (h0 : Hid (w.heap[0]? = some (.cells T1 t0.1 t0.2))) (h1 : Hid (w.heap[1]? = some (.cells T2 t1.1 t1.2)))
    (HF : Hid (findR (tbl1 ++ tbl2) (a * 256 + b) = none)) :
    Calls Tryd.prog 9 #[.agg (BC a b c d), .int .i64 lv] w fun e w' => e = .returned (.agg (ic 0 0 0 0 0 0 2)) ∧ Below w.heap.size w w' := by
  unfold BC
  go_enter Tryd.func9, Tryd.ntmps9
  repeat' (first
      | (go_at_call 17; refine (number_any a b _ ha hb).mono ?_; rintro e w' ⟨rfl, rfl⟩; dsimp only)
      | (go_at_call 16; refine (find_int _ (a * 256 + b) ?_ ?_ _ t0 t1 ?_ ?_ ?_).mono ?_; (omega); (omega); (simp only [World.size_alloc]; omega); (exact three_old hb1 h0.out); (exact three_old hb0 h1.out); rintro e w3 ⟨he, hB⟩; rw [HF.out] at he; dsimp only [rc] at he; subst he; have F := found_mk hB; clear hB; obtain ⟨cA, fA⟩ := at_cells F.b0; obtain ⟨cB, fB⟩ := at_cells F.b1; obtain ⟨cC, fC⟩ := at_cells F.b2; obtain ⟨zA, zA', zB, zB', zC, zC'⟩ := found_lt F.size; dsimp only [BC, ic] at cA cB cC; dsimp only)
      | go_values | go_skip | go_guarded | go_step | go_upon)
  refine bodyPost_ret (results_agg rfl _ _ ⟨w.heap.size + 1, 0, none⟩ _ rfl ?_) rfl ⟨rfl, ?_⟩
  · unfold ic
    go_simp
  · repeat (first | with_reducible exact F.below | with_reducible refine Below.setCell ?_ (by simp) _ | with_reducible refine Below.alloc ?_ (by have := F.size; simp; omega) _)
end Go.Proofs.YtepkaagbjfnpbaaDoor
