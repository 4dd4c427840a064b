import Derived.Test.YtepkaagbjfnpbaaDoorB4
import Derived.Test.YtepkaagbjfnpbaaDoorB3
namespace Go.Proofs.YtepkaagbjfnpbaaDoor
open Go.RowKit

/-- The two tables lie where the program lays them. -/
def Tab (w : World) : Prop := 1 < w.heap.size ∧ ∃ t0 t1 : TypeId × Nat × Nat, w.heap[0]? = some (.cells T1 t0.1 t0.2) ∧ w.heap[1]? = some (.cells T2 t1.1 t1.2)
theorem tab_alloc {w : World} (h : Tab w) (o : Obj) : Tab (w.alloc o) := by
  obtain ⟨hs, t0, t1, h0, h1⟩ := h
  exact ⟨by simp; omega, t0, t1, (Below.heap_alloc _ _ _ (by omega)).trans h0, (Below.heap_alloc _ _ _ hs).trans h1⟩
theorem tab_below {w w' : World} (h : Tab w) (hb : Below w.heap.size w w') : Tab w' := by
  obtain ⟨hs, t0, t1, h0, h1⟩ := h
  exact ⟨by have := hb.size; omega, t0, t1, (hb.block _ (by omega)).trans h0, (hb.block _ hs).trans h1⟩
theorem tab_drew {w : World} (h : Tab w) : Tab w.drew := h
theorem dec_tab (a b c d : Nat) (lv : Int) (w : World) (h : Tab w) (ha : a < 256) (hb : b < 256) (hc : c < 256) (hd : d < 256) (D : Array Value) (hD : implDec a b ((c : Int) * 256 + d) lv = D) :
    Calls Tryd.prog 9 #[.agg #[.int .u8 a, .int .u8 b, .int .u8 c, .int .u8 d], .int .i64 lv] w fun e w' => e = .returned (.agg D) ∧ Below w.heap.size w w' := by
  subst hD
  obtain ⟨hs, t0, t1, h0, h1⟩ := h
  exact decode_any a b c d lv w ha hb hc hd t0 t1 hs h0 h1
theorem level_tab (op : Int) (w : World) (h : Tab w) : Calls Tryd.prog 13 #[.int .i64 op] w fun e w' => e = .returned (.int .i64 (level2 op)) ∧ Below w.heap.size w w' := by
  obtain ⟨hs, t0, t1, h0, h1⟩ := h
  exact level_any op w t0 t1 hs h0 h1
theorem base_tab (op : Int) (w : World) (h : Tab w) : Calls Tryd.prog 15 #[.int .i64 op] w fun e w' => e = .returned (.bool (level2 op == 1)) ∧ Below w.heap.size w w' := by
  obtain ⟨hs, t0, t1, h0, h1⟩ := h
  exact base_any op w t0 t1 hs h0 h1
/-- An equality of two instructions, as the walk asks it. -/
theorem below3 {w w1 w2 : World} {B : Nat} (h : Below B w w1) (h2 : Below w1.heap.size w1 w2) (hB : B ≤ w.heap.size) : Below B w w2 := h.trans (h2.mono (by have := h.size; omega))

theorem d1 : implDec 209 35 ((0 : Nat) * 256 + (0 : Nat)) 1 = #[.int .i64 23, .int .i64 1, .int .i64 2, .int .i64 3, .int .i64 0, .int .i64 0, .int .i64 2] := by kernel_rfl
theorem d2 : implDec 240 0 ((18 : Nat) * 256 + (52 : Nat)) 2 = #[.int .i64 0, .int .i64 0, .int .i64 0, .int .i64 0, .int .i64 0, .int .i64 0, .int .i64 2] := by kernel_rfl
theorem d3 : implDec 240 0 ((18 : Nat) * 256 + (52 : Nat)) 3 = #[.int .i64 48, .int .i64 0, .int .i64 0, .int .i64 0, .int .i64 0, .int .i64 4660, .int .i64 4] := by kernel_rfl
theorem l38 : level2 38 = 2 := by kernel_rfl
theorem l34 : level2 34 = 1 := by kernel_rfl
theorem l0 : level2 0 = 0 := by kernel_rfl
/-- A variable of the call's own, laid first, in a later world. -/
structure Own1 (w : World) (C : Array Value) (T : TypeId) (wr : World) : Prop where
  below : Below (w.heap.size + 1) (w.alloc (.cells C T)) wr
  tab : Tab wr
theorem own1_first {w w1 : World} {C : Array Value} {T : TypeId} (h : Tab w) (hb : Below (w.alloc (.cells C T)).heap.size (w.alloc (.cells C T)) w1) : Own1 w C T w1 :=
  ⟨by simpa using hb, tab_below (tab_alloc h _) hb⟩
theorem own1_start {w : World} {C : Array Value} {T : TypeId} (h : Tab w) : Own1 w C T (w.alloc (.cells C T)) := ⟨Below.refl _ _, tab_alloc h _⟩
theorem own1_next {w w1 w2 : World} {C : Array Value} {T : TypeId} (h : Own1 w C T w1) (hb : Below w1.heap.size w1 w2) : Own1 w C T w2 :=
  ⟨below3 h.below hb (by simp), tab_below h.tab hb⟩
theorem own1_alloc {w w1 : World} {C : Array Value} {T : TypeId} (h : Own1 w C T w1) (o : Obj) : Own1 w C T (w1.alloc o) :=
  ⟨h.below.alloc (by have := h.below.size; rw [World.size_alloc] at this; omega) o, tab_alloc h.tab o⟩
theorem own1_drew {w w1 : World} {C : Array Value} {T : TypeId} (h : Own1 w C T w1) : Own1 w C T w1.drew := ⟨h.below.drew, h.tab⟩
theorem own1_set {w w1 : World} {C : Array Value} {T : TypeId} (h : Own1 w C T w1) (g i : Nat) (v : Value) (h0 : 1 < w.heap.size) (hg : w.heap.size + 1 ≤ g) : Own1 w C T (w1.setCell ⟨g, i, none⟩ v) := by
  refine ⟨h.below.setCell hg v, ?_⟩
  obtain ⟨hs, t0, t1, e0, e1⟩ := h.tab
  exact ⟨by simp [World.setCell]; exact hs, t0, t1, (Below.heap_setCell _ _ _ _ (by simp; omega)).trans e0, (Below.heap_setCell _ _ _ _ (by simp; omega)).trans e1⟩
theorem own1_cells {w w1 : World} {C : Array Value} {T : TypeId} (h : Own1 w C T w1) : (∀ j, w1.cell? ⟨w.heap.size, j, none⟩ = C[j]?) ∧ (∀ j, w1.frozen? ⟨w.heap.size, j, none⟩ = false) ∧ w.heap.size < w1.heap.size := own_new h.below
theorem own1_below {w w1 : World} {C : Array Value} {T : TypeId} (h : Own1 w C T w1) : Below w.heap.size w w1 := below_own h.below

set_option maxHeartbeats 1000000 in
theorem awake_any (w : World) (h : Tab w) : Calls Tryd.prog 8 #[] w fun e w' => e = .returned (.bool true) ∧ Below w.heap.size w w' := by
  go_enter Tryd.func8, Tryd.ntmps8
  go_wp2_with fail
  refine (dec_tab 209 35 0 0 1 _ ?_ (by omega) (by omega) (by omega) (by omega) _ d1).mono ?_
  · exact tab_alloc h _
  rintro e w1 ⟨rfl, hB1⟩
  have O1 := own1_first h hB1
  clear hB1
  obtain ⟨c1, -, z1⟩ := own1_cells O1
  go_wp2_with fail
  refine (dec_tab 240 0 18 52 2 _ O1.tab (by omega) (by omega) (by omega) (by omega) _ d2).mono ?_
  rintro e w2 ⟨rfl, hB2⟩
  have O2 := own1_next O1 hB2
  clear hB2 c1 z1 O1
  obtain ⟨c2, -, z2⟩ := own1_cells O2
  go_wp2_with fail
  refine (dec_tab 240 0 18 52 3 _ O2.tab (by omega) (by omega) (by omega) (by omega) _ d3).mono ?_
  rintro e w3 ⟨rfl, hB3⟩
  have O3 := own1_next O2 hB3
  clear hB3 c2 z2 O2
  go_wp2_with fail
  refine (skip_any 240 0 3 _ (by omega) (by omega)).mono ?_
  rintro e w' ⟨rfl, rfl⟩
  rw [show skipS 240 0 3 = 4 from rfl]
  go_wp2_with fail
  refine (skip_any 240 0 2 _ (by omega) (by omega)).mono ?_
  rintro e w' ⟨rfl, rfl⟩
  rw [show skipS 240 0 2 = 2 from rfl]
  go_wp2_with fail
  refine (level_tab 38 _ O3.tab).mono ?_
  rintro e w4 ⟨rfl, hB4⟩
  have O4 := own1_next O3 hB4
  clear hB4 O3
  rw [l38]
  go_wp2_with fail
  refine (base_tab 34 _ O4.tab).mono ?_
  rintro e w5 ⟨rfl, hB5⟩
  have O5 := own1_next O4 hB5
  clear hB5 O4
  rw [l34]
  go_wp2_with fail
  refine (base_tab 0 _ O5.tab).mono ?_
  rintro e w6 ⟨rfl, hB6⟩
  have O6 := own1_next O5 hB6
  clear hB6 O5
  rw [l0]
  go_wp2_with fail
  go_ret
  exact ⟨rfl, own1_below O6⟩
end Go.Proofs.YtepkaagbjfnpbaaDoor
