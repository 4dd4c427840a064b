import Derived.Test.YtepkaagbjfnpbaaDoorA4
import Derived.Test.YtepkaagbjfnpbaaDoorA5
import Derived.Test.YtepkaagbjfnpbaaDoorA6
namespace Go.Proofs.YtepkaagbjfnpbaaDoor
open Go.RowKit

def LX : List Int := [5, 6, 7, 8, 9, 10, 11, 12, 13, 14, 15, 16, 17, 18, 19, 21, 22, 23, 24, 25, 26, 27, 28, 29, 30, 31, 32, 33, 34, 41, 42, 43, 44, 46, 47, 51]
def LY : List Int := [7, 10, 11, 12, 13, 14, 15, 16, 17, 18, 19, 23, 41, 46, 47]
def LN : List Int := [23, 35, 45]
def LNN : List Int := [5, 6, 8, 9, 22]
def LA : List Int := [3, 4, 20, 21]
theorem in_len (n : Int) (l : List Int) (len b cap : Nat) (w : World) (hlen : l.length = len) (hl : len < 1000) (hc : w.heap[b]? = some (.cells (l.map (Value.int .i64)).toArray 3 (0, 0))) :
    Calls Tryd.prog 23 #[.int .i64 n, .slice (some ⟨b, 0, none⟩) len cap] w fun e w' => e = .returned (.bool (l.any fun a => a == n)) ∧ w = w' := by
  subst hlen; exact in_any n l b cap w hl hc
/-- The last two bytes count for LongI alone. -/
def refGood (o x y n nn nnn e : Int) : Array Value :=
  ic o (if (LX.any fun a => a == o) = true then x else 0) (if (LY.any fun a => a == o) = true then y else 0)
    (if (o == 49) = true then x else if (LN.any fun a => a == o) = true then n else 0) (if (LNN.any fun a => a == o) = true then nn else 0)
    (if (o == 48) = true then e else if (LA.any fun a => a == o) = true then nnn else 0) (if (o == 48) = true then 4 else 2)
def refBad (o lv x : Int) : Bool := o == 0 || decide (lv < levelS o) || decide (3 < lv) || ((o == 43 || o == 44) && !rallowedS lv x)
def opI (a b : Nat) : Int := opS ((a : Int) / 16) ((a : Int) % 16) ((b : Int) / 16) ((b : Int) % 16) b ((a : Int) % 16 * 256 + b)
def refDec (a b : Nat) (e lv : Int) : Array Value :=
  let o := opI a b
  if refBad o lv ((a : Int) % 16) = true then ic 0 0 0 0 0 0 2 else refGood o ((a : Int) % 16) ((b : Int) / 16) ((b : Int) % 16) b ((a : Int) % 16 * 256 + b) e

theorem heap_at_new {w : World} {o : Obj} {n : Nat} (h : n = w.heap.size) : (w.alloc o).heap[n]? = some o := by subst h; exact heap_alloc_new w o
theorem at_cells {w : World} {g : Nat} {C : Array Value} {T : TypeId} (h : At w g C T) : (∀ j, w.cell? ⟨g, j, none⟩ = C[j]?) ∧ (∀ j, w.frozen? ⟨g, j, none⟩ = false) := by
  have hg' : w.heap[g]? = some (.cells C T (0, 0)) := h
  exact ⟨fun j => by simp [World.cell?, hg'], fun j => by simp [World.frozen?, hg']⟩
theorem two_blocks {w w1 w2 : World} {R F : Array Value} {T U : TypeId} (h1 : Below (w.alloc (.cells R T)).heap.size (w.alloc (.cells R T)) w1) (h2 : Below (w1.alloc (.cells F U)).heap.size (w1.alloc (.cells F U)) w2) :
    At w2 w.heap.size R T ∧ At w2 w1.heap.size F U ∧ w.heap.size < w1.heap.size ∧ w1.heap.size < w2.heap.size ∧ Below w.heap.size w w2 := by
  have s1 := h1.size
  have s2 := h2.size
  simp only [World.size_alloc] at h1 h2 s1 s2
  have e1 : w1.heap[w.heap.size]? = some (.cells R T (0, 0)) := (h1.block _ (by omega)).trans (heap_alloc_new w _)
  refine ⟨(h2.block _ (by omega)).trans ((Below.heap_alloc _ _ _ (by omega)).trans e1), (h2.block _ (by omega)).trans (heap_alloc_new w1 _), by omega, by omega, ?_⟩
  exact (below_own h1).trans (((Below.refl _ _).alloc (by omega) _).trans (h2.mono (by omega)))
set_option maxHeartbeats 1000000 in
theorem rdec_bad1 (a b c d : Nat) (lv o : Int) (w : World) (ha : a < 256) (hb : b < 256) (_hc : c < 256) (_hd : d < 256)
    (HO : Hid (opS ((a : Int) / 16) ((a : Int) % 16) ((b : Int) / 16) ((b : Int) % 16) b ((a : Int) % 16 * 256 + b) = o)) (h0 : (o == 0) = true) :
    Calls Tryd.prog 10 #[.int .u8 a, .int .u8 b, .int .u8 c, .int .u8 d, .int .i64 lv] w fun e w' => e = .returned (.agg (ic 0 0 0 0 0 0 2)) ∧ Below w.heap.size w w' := by
  go_enter Tryd.func10, Tryd.ntmps10
  repeat' (first
    | (go_at_call 20; refine (rsplit_any a b _ ha hb).mono ?_; rintro e w1 ⟨rfl, hB1⟩; have HB1 := hid hB1; clear hB1; unfold fc; dsimp only)
    | (go_at_call 21; refine (op_any _ _ _ _ _ _ _ (by omega) (by omega)).mono ?_; rintro e w2 ⟨rfl, hB2⟩; rw [HO.out]; obtain ⟨aR, aF, z1, z2, hB⟩ := two_blocks HB1.out hB2; clear hB2 HB1; obtain ⟨cR, fR⟩ := at_cells aR; obtain ⟨cF, fF⟩ := at_cells aF; have AR := hid aR; have AF := hid aF; have HB := hid hB; clear aR aF hB; have z3 : w.heap.size < w2.heap.size := (by omega); have zR : ∀ k, w.heap.size < w2.heap.size + k := (fun k => by omega); have zF : ∀ k, w1.heap.size < w2.heap.size + k := (fun k => by omega); dsimp only)
    | (go_at_call 14; refine (rlevel_any _ _).mono ?_; rintro e w' ⟨rfl, rfl⟩; dsimp only)
    | (go_at_call 22; refine (rallowed_any _ _ _).mono ?_; rintro e w' ⟨rfl, rfl⟩; dsimp only)
    | go_values | go_skip | go_guarded | go_step | go_upon)
  refine bodyPost_ret (results_agg rfl _ _ ⟨w.heap.size, 0, none⟩ _ rfl ?_) rfl ⟨rfl, ?_⟩
  · unfold ic
    go_simp
  · repeat (first | with_reducible exact HB.out | with_reducible refine Below.setCell ?_ (by simp) _)
set_option maxHeartbeats 1000000 in
theorem rdec_bad2 (a b c d : Nat) (lv o : Int) (w : World) (ha : a < 256) (hb : b < 256) (_hc : c < 256) (_hd : d < 256)
    (HO : Hid (opS ((a : Int) / 16) ((a : Int) % 16) ((b : Int) / 16) ((b : Int) % 16) b ((a : Int) % 16 * 256 + b) = o)) (h0 : (o == 0) = false) (h1 : lv < levelS o) :
    Calls Tryd.prog 10 #[.int .u8 a, .int .u8 b, .int .u8 c, .int .u8 d, .int .i64 lv] w fun e w' => e = .returned (.agg (ic 0 0 0 0 0 0 2)) ∧ Below w.heap.size w w' := by
  go_enter Tryd.func10, Tryd.ntmps10
  repeat' (first
    | (go_at_call 20; refine (rsplit_any a b _ ha hb).mono ?_; rintro e w1 ⟨rfl, hB1⟩; have HB1 := hid hB1; clear hB1; unfold fc; dsimp only)
    | (go_at_call 21; refine (op_any _ _ _ _ _ _ _ (by omega) (by omega)).mono ?_; rintro e w2 ⟨rfl, hB2⟩; rw [HO.out]; obtain ⟨aR, aF, z1, z2, hB⟩ := two_blocks HB1.out hB2; clear hB2 HB1; obtain ⟨cR, fR⟩ := at_cells aR; obtain ⟨cF, fF⟩ := at_cells aF; have AR := hid aR; have AF := hid aF; have HB := hid hB; clear aR aF hB; have z3 : w.heap.size < w2.heap.size := (by omega); have zR : ∀ k, w.heap.size < w2.heap.size + k := (fun k => by omega); have zF : ∀ k, w1.heap.size < w2.heap.size + k := (fun k => by omega); dsimp only)
    | (go_at_call 14; refine (rlevel_any _ _).mono ?_; rintro e w' ⟨rfl, rfl⟩; dsimp only)
    | (go_at_call 22; refine (rallowed_any _ _ _).mono ?_; rintro e w' ⟨rfl, rfl⟩; dsimp only)
    | go_values | go_skip | go_guarded | go_step | go_upon)
  refine bodyPost_ret (results_agg rfl _ _ ⟨w.heap.size, 0, none⟩ _ rfl ?_) rfl ⟨rfl, ?_⟩
  · unfold ic
    go_simp
  · repeat (first | with_reducible exact HB.out | with_reducible refine Below.setCell ?_ (by simp) _)
set_option maxHeartbeats 1000000 in
theorem rdec_bad3 (a b c d : Nat) (lv o : Int) (w : World) (ha : a < 256) (hb : b < 256) (_hc : c < 256) (_hd : d < 256)
    (HO : Hid (opS ((a : Int) / 16) ((a : Int) % 16) ((b : Int) / 16) ((b : Int) % 16) b ((a : Int) % 16 * 256 + b) = o)) (h0 : (o == 0) = false) (h1 : levelS o ≤ lv) (h2 : 3 < lv) :
    Calls Tryd.prog 10 #[.int .u8 a, .int .u8 b, .int .u8 c, .int .u8 d, .int .i64 lv] w fun e w' => e = .returned (.agg (ic 0 0 0 0 0 0 2)) ∧ Below w.heap.size w w' := by
  go_enter Tryd.func10, Tryd.ntmps10
  repeat' (first
    | (go_at_call 20; refine (rsplit_any a b _ ha hb).mono ?_; rintro e w1 ⟨rfl, hB1⟩; have HB1 := hid hB1; clear hB1; unfold fc; dsimp only)
    | (go_at_call 21; refine (op_any _ _ _ _ _ _ _ (by omega) (by omega)).mono ?_; rintro e w2 ⟨rfl, hB2⟩; rw [HO.out]; obtain ⟨aR, aF, z1, z2, hB⟩ := two_blocks HB1.out hB2; clear hB2 HB1; obtain ⟨cR, fR⟩ := at_cells aR; obtain ⟨cF, fF⟩ := at_cells aF; have AR := hid aR; have AF := hid aF; have HB := hid hB; clear aR aF hB; have z3 : w.heap.size < w2.heap.size := (by omega); have zR : ∀ k, w.heap.size < w2.heap.size + k := (fun k => by omega); have zF : ∀ k, w1.heap.size < w2.heap.size + k := (fun k => by omega); dsimp only)
    | (go_at_call 14; refine (rlevel_any _ _).mono ?_; rintro e w' ⟨rfl, rfl⟩; dsimp only)
    | (go_at_call 22; refine (rallowed_any _ _ _).mono ?_; rintro e w' ⟨rfl, rfl⟩; dsimp only)
    | go_values | go_skip | go_guarded | go_step | go_upon)
  refine bodyPost_ret (results_agg rfl _ _ ⟨w.heap.size, 0, none⟩ _ rfl ?_) rfl ⟨rfl, ?_⟩
  · unfold ic
    go_simp
  · repeat (first | with_reducible exact HB.out | with_reducible refine Below.setCell ?_ (by simp) _)
set_option maxHeartbeats 1000000 in
theorem rdec_bad4 (a b c d : Nat) (lv o : Int) (w : World) (ha : a < 256) (hb : b < 256) (_hc : c < 256) (_hd : d < 256)
    (HO : Hid (opS ((a : Int) / 16) ((a : Int) % 16) ((b : Int) / 16) ((b : Int) % 16) b ((a : Int) % 16 * 256 + b) = o)) (h0 : (o == 0) = false) (h1 : levelS o ≤ lv) (h2 : lv ≤ 3) (h3 : (o == 43) = true) (h4 : rallowedS lv ((a : Int) % 16) = false) :
    Calls Tryd.prog 10 #[.int .u8 a, .int .u8 b, .int .u8 c, .int .u8 d, .int .i64 lv] w fun e w' => e = .returned (.agg (ic 0 0 0 0 0 0 2)) ∧ Below w.heap.size w w' := by
  go_enter Tryd.func10, Tryd.ntmps10
  repeat' (first
    | (go_at_call 20; refine (rsplit_any a b _ ha hb).mono ?_; rintro e w1 ⟨rfl, hB1⟩; have HB1 := hid hB1; clear hB1; unfold fc; dsimp only)
    | (go_at_call 21; refine (op_any _ _ _ _ _ _ _ (by omega) (by omega)).mono ?_; rintro e w2 ⟨rfl, hB2⟩; rw [HO.out]; obtain ⟨aR, aF, z1, z2, hB⟩ := two_blocks HB1.out hB2; clear hB2 HB1; obtain ⟨cR, fR⟩ := at_cells aR; obtain ⟨cF, fF⟩ := at_cells aF; have AR := hid aR; have AF := hid aF; have HB := hid hB; clear aR aF hB; have z3 : w.heap.size < w2.heap.size := (by omega); have zR : ∀ k, w.heap.size < w2.heap.size + k := (fun k => by omega); have zF : ∀ k, w1.heap.size < w2.heap.size + k := (fun k => by omega); dsimp only)
    | (go_at_call 14; refine (rlevel_any _ _).mono ?_; rintro e w' ⟨rfl, rfl⟩; dsimp only)
    | (go_at_call 22; refine (rallowed_any _ _ _).mono ?_; rintro e w' ⟨rfl, rfl⟩; dsimp only)
    | go_values | go_skip | go_guarded | go_step | go_upon)
  refine bodyPost_ret (results_agg rfl _ _ ⟨w.heap.size, 0, none⟩ _ rfl ?_) rfl ⟨rfl, ?_⟩
  · unfold ic
    go_simp
  · repeat (first | with_reducible exact HB.out | with_reducible refine Below.setCell ?_ (by simp) _)
set_option maxHeartbeats 1000000 in
theorem rdec_bad5 (a b c d : Nat) (lv o : Int) (w : World) (ha : a < 256) (hb : b < 256) (_hc : c < 256) (_hd : d < 256)
    (HO : Hid (opS ((a : Int) / 16) ((a : Int) % 16) ((b : Int) / 16) ((b : Int) % 16) b ((a : Int) % 16 * 256 + b) = o)) (h0 : (o == 0) = false) (h1 : levelS o ≤ lv) (h2 : lv ≤ 3) (h3 : (o == 43) = false) (h5 : (o == 44) = true) (h4 : rallowedS lv ((a : Int) % 16) = false) :
    Calls Tryd.prog 10 #[.int .u8 a, .int .u8 b, .int .u8 c, .int .u8 d, .int .i64 lv] w fun e w' => e = .returned (.agg (ic 0 0 0 0 0 0 2)) ∧ Below w.heap.size w w' := by
  go_enter Tryd.func10, Tryd.ntmps10
  repeat' (first
    | (go_at_call 20; refine (rsplit_any a b _ ha hb).mono ?_; rintro e w1 ⟨rfl, hB1⟩; have HB1 := hid hB1; clear hB1; unfold fc; dsimp only)
    | (go_at_call 21; refine (op_any _ _ _ _ _ _ _ (by omega) (by omega)).mono ?_; rintro e w2 ⟨rfl, hB2⟩; rw [HO.out]; obtain ⟨aR, aF, z1, z2, hB⟩ := two_blocks HB1.out hB2; clear hB2 HB1; obtain ⟨cR, fR⟩ := at_cells aR; obtain ⟨cF, fF⟩ := at_cells aF; have AR := hid aR; have AF := hid aF; have HB := hid hB; clear aR aF hB; have z3 : w.heap.size < w2.heap.size := (by omega); have zR : ∀ k, w.heap.size < w2.heap.size + k := (fun k => by omega); have zF : ∀ k, w1.heap.size < w2.heap.size + k := (fun k => by omega); dsimp only)
    | (go_at_call 14; refine (rlevel_any _ _).mono ?_; rintro e w' ⟨rfl, rfl⟩; dsimp only)
    | (go_at_call 22; refine (rallowed_any _ _ _).mono ?_; rintro e w' ⟨rfl, rfl⟩; dsimp only)
    | go_values | go_skip | go_guarded | go_step | go_upon)
  refine bodyPost_ret (results_agg rfl _ _ ⟨w.heap.size, 0, none⟩ _ rfl ?_) rfl ⟨rfl, ?_⟩
  · unfold ic
    go_simp
  · repeat (first | with_reducible exact HB.out | with_reducible refine Below.setCell ?_ (by simp) _)
set_option maxHeartbeats 2000000 in
set_option maxRecDepth 100000 in
theorem rdec_g1 (a b c d : Nat) (lv o : Int) (w : World) (ha : a < 256) (hb : b < 256) (_hc : c < 256) (_hd : d < 256)
    (HO : Hid (opS ((a : Int) / 16) ((a : Int) % 16) ((b : Int) / 16) ((b : Int) % 16) b ((a : Int) % 16 * 256 + b) = o))
    (h0 : (o == 0) = false) (h1 : levelS o ≤ lv) (h2 : lv ≤ 3) (h43 : (o == 43) = false) (h44 : (o == 44) = false)
    (HX : Hid ((LX.any fun a => a == o) = false)) (HY : Hid ((LY.any fun a => a == o) = false)) (HN : Hid ((LN.any fun a => a == o) = false)) (h49 : (o == 49) = false) (HNN : Hid ((LNN.any fun a => a == o) = false)) (HA : Hid ((LA.any fun a => a == o) = false)) (h48 : (o == 48) = false) :
    Calls Tryd.prog 10 #[.int .u8 a, .int .u8 b, .int .u8 c, .int .u8 d, .int .i64 lv] w fun e w' => e = .returned (.agg (ic o 0 0 0 0 0 2)) ∧ Below w.heap.size w w' := by
  go_enter Tryd.func10, Tryd.ntmps10
  repeat' (first
    | (go_at_call 20; refine (rsplit_any a b _ ha hb).mono ?_; rintro e w1 ⟨rfl, hB1⟩; have HB1 := hid hB1; clear hB1; unfold fc; dsimp only)
    | (go_at_call 21; refine (op_any _ _ _ _ _ _ _ (by omega) (by omega)).mono ?_; rintro e w2 ⟨rfl, hB2⟩; rw [HO.out]; obtain ⟨aR, aF, z1, z2, hB⟩ := two_blocks HB1.out hB2; clear hB2 HB1; obtain ⟨cR, fR⟩ := at_cells aR; obtain ⟨cF, fF⟩ := at_cells aF; have AR := hid aR; have AF := hid aF; have HB := hid hB; clear aR aF hB; have z3 : w.heap.size < w2.heap.size := (by omega); have zR : ∀ k, w.heap.size < w2.heap.size + k := (fun k => by omega); have zF : ∀ k, w1.heap.size < w2.heap.size + k := (fun k => by omega); dsimp only)
    | (go_at_call 14; refine (rlevel_any _ _).mono ?_; rintro e w' ⟨rfl, rfl⟩; dsimp only)
    | (go_at_call 22; refine (rallowed_any _ _ _).mono ?_; rintro e w' ⟨rfl, rfl⟩; dsimp only)
    | (go_at_call 23; (with_reducible refine (in_len o LX 36 _ 36 _ ?_ ?_ ?_).mono ?_); (exact rfl); (exact by decide); (exact heap_at_new (by simp)); rintro e w' ⟨rfl, rfl⟩; rw [HX.out]; dsimp only)
    | (go_at_call 23; (with_reducible refine (in_len o LY 15 _ 15 _ ?_ ?_ ?_).mono ?_); (exact rfl); (exact by decide); (exact heap_at_new (by simp)); rintro e w' ⟨rfl, rfl⟩; rw [HY.out]; dsimp only)
    | (go_at_call 23; (with_reducible refine (in_len o LN 3 _ 3 _ ?_ ?_ ?_).mono ?_); (exact rfl); (exact by decide); (exact heap_at_new (by simp)); rintro e w' ⟨rfl, rfl⟩; rw [HN.out]; dsimp only)
    | (go_at_call 23; (with_reducible refine (in_len o LNN 5 _ 5 _ ?_ ?_ ?_).mono ?_); (exact rfl); (exact by decide); (exact heap_at_new (by simp)); rintro e w' ⟨rfl, rfl⟩; rw [HNN.out]; dsimp only)
    | (go_at_call 23; (with_reducible refine (in_len o LA 4 _ 4 _ ?_ ?_ ?_).mono ?_); (exact rfl); (exact by decide); (exact heap_at_new (by simp)); rintro e w' ⟨rfl, rfl⟩; rw [HA.out]; dsimp only)
    | go_values | go_skip | go_guarded | go_step | go_upon)
  refine bodyPost_ret (results_agg rfl _ _ ⟨w.heap.size, 0, none⟩ _ rfl ?_) rfl ⟨rfl, ?_⟩
  · unfold ic
    go_simp
  · repeat (first | with_reducible exact HB.out | with_reducible refine Below.setCell ?_ (by simp) _ | with_reducible refine Below.alloc ?_ (by simp; omega) _)
set_option maxHeartbeats 2000000 in
set_option maxRecDepth 100000 in
theorem rdec_g2 (a b c d : Nat) (lv o : Int) (w : World) (ha : a < 256) (hb : b < 256) (_hc : c < 256) (_hd : d < 256)
    (HO : Hid (opS ((a : Int) / 16) ((a : Int) % 16) ((b : Int) / 16) ((b : Int) % 16) b ((a : Int) % 16 * 256 + b) = o))
    (h0 : (o == 0) = false) (h1 : levelS o ≤ lv) (h2 : lv ≤ 3) (h43 : (o == 43) = false) (h44 : (o == 44) = false)
    (HX : Hid ((LX.any fun a => a == o) = false)) (HY : Hid ((LY.any fun a => a == o) = false)) (HN : Hid ((LN.any fun a => a == o) = false)) (h49 : (o == 49) = false) (HNN : Hid ((LNN.any fun a => a == o) = false)) (HA : Hid ((LA.any fun a => a == o) = true)) (h48 : (o == 48) = false) :
    Calls Tryd.prog 10 #[.int .u8 a, .int .u8 b, .int .u8 c, .int .u8 d, .int .i64 lv] w fun e w' => e = .returned (.agg (ic o 0 0 0 0 ((a : Int) % 16 * 256 + b) 2)) ∧ Below w.heap.size w w' := by
  go_enter Tryd.func10, Tryd.ntmps10
  repeat' (first
    | (go_at_call 20; refine (rsplit_any a b _ ha hb).mono ?_; rintro e w1 ⟨rfl, hB1⟩; have HB1 := hid hB1; clear hB1; unfold fc; dsimp only)
    | (go_at_call 21; refine (op_any _ _ _ _ _ _ _ (by omega) (by omega)).mono ?_; rintro e w2 ⟨rfl, hB2⟩; rw [HO.out]; obtain ⟨aR, aF, z1, z2, hB⟩ := two_blocks HB1.out hB2; clear hB2 HB1; obtain ⟨cR, fR⟩ := at_cells aR; obtain ⟨cF, fF⟩ := at_cells aF; have AR := hid aR; have AF := hid aF; have HB := hid hB; clear aR aF hB; have z3 : w.heap.size < w2.heap.size := (by omega); have zR : ∀ k, w.heap.size < w2.heap.size + k := (fun k => by omega); have zF : ∀ k, w1.heap.size < w2.heap.size + k := (fun k => by omega); dsimp only)
    | (go_at_call 14; refine (rlevel_any _ _).mono ?_; rintro e w' ⟨rfl, rfl⟩; dsimp only)
    | (go_at_call 22; refine (rallowed_any _ _ _).mono ?_; rintro e w' ⟨rfl, rfl⟩; dsimp only)
    | (go_at_call 23; (with_reducible refine (in_len o LX 36 _ 36 _ ?_ ?_ ?_).mono ?_); (exact rfl); (exact by decide); (exact heap_at_new (by simp)); rintro e w' ⟨rfl, rfl⟩; rw [HX.out]; dsimp only)
    | (go_at_call 23; (with_reducible refine (in_len o LY 15 _ 15 _ ?_ ?_ ?_).mono ?_); (exact rfl); (exact by decide); (exact heap_at_new (by simp)); rintro e w' ⟨rfl, rfl⟩; rw [HY.out]; dsimp only)
    | (go_at_call 23; (with_reducible refine (in_len o LN 3 _ 3 _ ?_ ?_ ?_).mono ?_); (exact rfl); (exact by decide); (exact heap_at_new (by simp)); rintro e w' ⟨rfl, rfl⟩; rw [HN.out]; dsimp only)
    | (go_at_call 23; (with_reducible refine (in_len o LNN 5 _ 5 _ ?_ ?_ ?_).mono ?_); (exact rfl); (exact by decide); (exact heap_at_new (by simp)); rintro e w' ⟨rfl, rfl⟩; rw [HNN.out]; dsimp only)
    | (go_at_call 23; (with_reducible refine (in_len o LA 4 _ 4 _ ?_ ?_ ?_).mono ?_); (exact rfl); (exact by decide); (exact heap_at_new (by simp)); rintro e w' ⟨rfl, rfl⟩; rw [HA.out]; dsimp only)
    | go_values | go_skip | go_guarded | go_step | go_upon)
  refine bodyPost_ret (results_agg rfl _ _ ⟨w.heap.size, 0, none⟩ _ rfl ?_) rfl ⟨rfl, ?_⟩
  · unfold ic
    go_simp
  · repeat (first | with_reducible exact HB.out | with_reducible refine Below.setCell ?_ (by simp) _ | with_reducible refine Below.alloc ?_ (by simp; omega) _)
set_option maxHeartbeats 2000000 in
set_option maxRecDepth 100000 in
theorem rdec_g3 (a b c d : Nat) (lv o : Int) (w : World) (ha : a < 256) (hb : b < 256) (_hc : c < 256) (_hd : d < 256)
    (HO : Hid (opS ((a : Int) / 16) ((a : Int) % 16) ((b : Int) / 16) ((b : Int) % 16) b ((a : Int) % 16 * 256 + b) = o))
    (h0 : (o == 0) = false) (h1 : levelS o ≤ lv) (h2 : lv ≤ 3) (h43 : (o == 43) = false) (h44 : (o == 44) = false)
    (HX : Hid ((LX.any fun a => a == o) = true)) (HY : Hid ((LY.any fun a => a == o) = false)) (HN : Hid ((LN.any fun a => a == o) = false)) (h49 : (o == 49) = false) (HNN : Hid ((LNN.any fun a => a == o) = true)) (HA : Hid ((LA.any fun a => a == o) = false)) (h48 : (o == 48) = false) :
    Calls Tryd.prog 10 #[.int .u8 a, .int .u8 b, .int .u8 c, .int .u8 d, .int .i64 lv] w fun e w' => e = .returned (.agg (ic o ((a : Int) % 16) 0 0 b 0 2)) ∧ Below w.heap.size w w' := by
  go_enter Tryd.func10, Tryd.ntmps10
  repeat' (first
    | (go_at_call 20; refine (rsplit_any a b _ ha hb).mono ?_; rintro e w1 ⟨rfl, hB1⟩; have HB1 := hid hB1; clear hB1; unfold fc; dsimp only)
    | (go_at_call 21; refine (op_any _ _ _ _ _ _ _ (by omega) (by omega)).mono ?_; rintro e w2 ⟨rfl, hB2⟩; rw [HO.out]; obtain ⟨aR, aF, z1, z2, hB⟩ := two_blocks HB1.out hB2; clear hB2 HB1; obtain ⟨cR, fR⟩ := at_cells aR; obtain ⟨cF, fF⟩ := at_cells aF; have AR := hid aR; have AF := hid aF; have HB := hid hB; clear aR aF hB; have z3 : w.heap.size < w2.heap.size := (by omega); have zR : ∀ k, w.heap.size < w2.heap.size + k := (fun k => by omega); have zF : ∀ k, w1.heap.size < w2.heap.size + k := (fun k => by omega); dsimp only)
    | (go_at_call 14; refine (rlevel_any _ _).mono ?_; rintro e w' ⟨rfl, rfl⟩; dsimp only)
    | (go_at_call 22; refine (rallowed_any _ _ _).mono ?_; rintro e w' ⟨rfl, rfl⟩; dsimp only)
    | (go_at_call 23; (with_reducible refine (in_len o LX 36 _ 36 _ ?_ ?_ ?_).mono ?_); (exact rfl); (exact by decide); (exact heap_at_new (by simp)); rintro e w' ⟨rfl, rfl⟩; rw [HX.out]; dsimp only)
    | (go_at_call 23; (with_reducible refine (in_len o LY 15 _ 15 _ ?_ ?_ ?_).mono ?_); (exact rfl); (exact by decide); (exact heap_at_new (by simp)); rintro e w' ⟨rfl, rfl⟩; rw [HY.out]; dsimp only)
    | (go_at_call 23; (with_reducible refine (in_len o LN 3 _ 3 _ ?_ ?_ ?_).mono ?_); (exact rfl); (exact by decide); (exact heap_at_new (by simp)); rintro e w' ⟨rfl, rfl⟩; rw [HN.out]; dsimp only)
    | (go_at_call 23; (with_reducible refine (in_len o LNN 5 _ 5 _ ?_ ?_ ?_).mono ?_); (exact rfl); (exact by decide); (exact heap_at_new (by simp)); rintro e w' ⟨rfl, rfl⟩; rw [HNN.out]; dsimp only)
    | (go_at_call 23; (with_reducible refine (in_len o LA 4 _ 4 _ ?_ ?_ ?_).mono ?_); (exact rfl); (exact by decide); (exact heap_at_new (by simp)); rintro e w' ⟨rfl, rfl⟩; rw [HA.out]; dsimp only)
    | go_values | go_skip | go_guarded | go_step | go_upon)
  refine bodyPost_ret (results_agg rfl _ _ ⟨w.heap.size, 0, none⟩ _ rfl ?_) rfl ⟨rfl, ?_⟩
  · unfold ic
    go_simp
  · repeat (first | with_reducible exact HB.out | with_reducible refine Below.setCell ?_ (by simp) _ | with_reducible refine Below.alloc ?_ (by simp; omega) _)
set_option maxHeartbeats 2000000 in
set_option maxRecDepth 100000 in
theorem rdec_g4 (a b c d : Nat) (lv o : Int) (w : World) (ha : a < 256) (hb : b < 256) (_hc : c < 256) (_hd : d < 256)
    (HO : Hid (opS ((a : Int) / 16) ((a : Int) % 16) ((b : Int) / 16) ((b : Int) % 16) b ((a : Int) % 16 * 256 + b) = o))
    (h0 : (o == 0) = false) (h1 : levelS o ≤ lv) (h2 : lv ≤ 3) (h43 : (o == 43) = false) (h44 : (o == 44) = false)
    (HX : Hid ((LX.any fun a => a == o) = true)) (HY : Hid ((LY.any fun a => a == o) = true)) (HN : Hid ((LN.any fun a => a == o) = false)) (h49 : (o == 49) = false) (HNN : Hid ((LNN.any fun a => a == o) = false)) (HA : Hid ((LA.any fun a => a == o) = false)) (h48 : (o == 48) = false) :
    Calls Tryd.prog 10 #[.int .u8 a, .int .u8 b, .int .u8 c, .int .u8 d, .int .i64 lv] w fun e w' => e = .returned (.agg (ic o ((a : Int) % 16) ((b : Int) / 16) 0 0 0 2)) ∧ Below w.heap.size w w' := by
  go_enter Tryd.func10, Tryd.ntmps10
  repeat' (first
    | (go_at_call 20; refine (rsplit_any a b _ ha hb).mono ?_; rintro e w1 ⟨rfl, hB1⟩; have HB1 := hid hB1; clear hB1; unfold fc; dsimp only)
    | (go_at_call 21; refine (op_any _ _ _ _ _ _ _ (by omega) (by omega)).mono ?_; rintro e w2 ⟨rfl, hB2⟩; rw [HO.out]; obtain ⟨aR, aF, z1, z2, hB⟩ := two_blocks HB1.out hB2; clear hB2 HB1; obtain ⟨cR, fR⟩ := at_cells aR; obtain ⟨cF, fF⟩ := at_cells aF; have AR := hid aR; have AF := hid aF; have HB := hid hB; clear aR aF hB; have z3 : w.heap.size < w2.heap.size := (by omega); have zR : ∀ k, w.heap.size < w2.heap.size + k := (fun k => by omega); have zF : ∀ k, w1.heap.size < w2.heap.size + k := (fun k => by omega); dsimp only)
    | (go_at_call 14; refine (rlevel_any _ _).mono ?_; rintro e w' ⟨rfl, rfl⟩; dsimp only)
    | (go_at_call 22; refine (rallowed_any _ _ _).mono ?_; rintro e w' ⟨rfl, rfl⟩; dsimp only)
    | (go_at_call 23; (with_reducible refine (in_len o LX 36 _ 36 _ ?_ ?_ ?_).mono ?_); (exact rfl); (exact by decide); (exact heap_at_new (by simp)); rintro e w' ⟨rfl, rfl⟩; rw [HX.out]; dsimp only)
    | (go_at_call 23; (with_reducible refine (in_len o LY 15 _ 15 _ ?_ ?_ ?_).mono ?_); (exact rfl); (exact by decide); (exact heap_at_new (by simp)); rintro e w' ⟨rfl, rfl⟩; rw [HY.out]; dsimp only)
    | (go_at_call 23; (with_reducible refine (in_len o LN 3 _ 3 _ ?_ ?_ ?_).mono ?_); (exact rfl); (exact by decide); (exact heap_at_new (by simp)); rintro e w' ⟨rfl, rfl⟩; rw [HN.out]; dsimp only)
    | (go_at_call 23; (with_reducible refine (in_len o LNN 5 _ 5 _ ?_ ?_ ?_).mono ?_); (exact rfl); (exact by decide); (exact heap_at_new (by simp)); rintro e w' ⟨rfl, rfl⟩; rw [HNN.out]; dsimp only)
    | (go_at_call 23; (with_reducible refine (in_len o LA 4 _ 4 _ ?_ ?_ ?_).mono ?_); (exact rfl); (exact by decide); (exact heap_at_new (by simp)); rintro e w' ⟨rfl, rfl⟩; rw [HA.out]; dsimp only)
    | go_values | go_skip | go_guarded | go_step | go_upon)
  refine bodyPost_ret (results_agg rfl _ _ ⟨w.heap.size, 0, none⟩ _ rfl ?_) rfl ⟨rfl, ?_⟩
  · unfold ic
    go_simp
  · repeat (first | with_reducible exact HB.out | with_reducible refine Below.setCell ?_ (by simp) _ | with_reducible refine Below.alloc ?_ (by simp; omega) _)
set_option maxHeartbeats 2000000 in
set_option maxRecDepth 100000 in
theorem rdec_g5 (a b c d : Nat) (lv o : Int) (w : World) (ha : a < 256) (hb : b < 256) (_hc : c < 256) (_hd : d < 256)
    (HO : Hid (opS ((a : Int) / 16) ((a : Int) % 16) ((b : Int) / 16) ((b : Int) % 16) b ((a : Int) % 16 * 256 + b) = o))
    (h0 : (o == 0) = false) (h1 : levelS o ≤ lv) (h2 : lv ≤ 3) (h43 : (o == 43) = false) (h44 : (o == 44) = false)
    (HX : Hid ((LX.any fun a => a == o) = true)) (HY : Hid ((LY.any fun a => a == o) = false)) (HN : Hid ((LN.any fun a => a == o) = false)) (h49 : (o == 49) = false) (HNN : Hid ((LNN.any fun a => a == o) = false)) (HA : Hid ((LA.any fun a => a == o) = true)) (h48 : (o == 48) = false) :
    Calls Tryd.prog 10 #[.int .u8 a, .int .u8 b, .int .u8 c, .int .u8 d, .int .i64 lv] w fun e w' => e = .returned (.agg (ic o ((a : Int) % 16) 0 0 0 ((a : Int) % 16 * 256 + b) 2)) ∧ Below w.heap.size w w' := by
  go_enter Tryd.func10, Tryd.ntmps10
  repeat' (first
    | (go_at_call 20; refine (rsplit_any a b _ ha hb).mono ?_; rintro e w1 ⟨rfl, hB1⟩; have HB1 := hid hB1; clear hB1; unfold fc; dsimp only)
    | (go_at_call 21; refine (op_any _ _ _ _ _ _ _ (by omega) (by omega)).mono ?_; rintro e w2 ⟨rfl, hB2⟩; rw [HO.out]; obtain ⟨aR, aF, z1, z2, hB⟩ := two_blocks HB1.out hB2; clear hB2 HB1; obtain ⟨cR, fR⟩ := at_cells aR; obtain ⟨cF, fF⟩ := at_cells aF; have AR := hid aR; have AF := hid aF; have HB := hid hB; clear aR aF hB; have z3 : w.heap.size < w2.heap.size := (by omega); have zR : ∀ k, w.heap.size < w2.heap.size + k := (fun k => by omega); have zF : ∀ k, w1.heap.size < w2.heap.size + k := (fun k => by omega); dsimp only)
    | (go_at_call 14; refine (rlevel_any _ _).mono ?_; rintro e w' ⟨rfl, rfl⟩; dsimp only)
    | (go_at_call 22; refine (rallowed_any _ _ _).mono ?_; rintro e w' ⟨rfl, rfl⟩; dsimp only)
    | (go_at_call 23; (with_reducible refine (in_len o LX 36 _ 36 _ ?_ ?_ ?_).mono ?_); (exact rfl); (exact by decide); (exact heap_at_new (by simp)); rintro e w' ⟨rfl, rfl⟩; rw [HX.out]; dsimp only)
    | (go_at_call 23; (with_reducible refine (in_len o LY 15 _ 15 _ ?_ ?_ ?_).mono ?_); (exact rfl); (exact by decide); (exact heap_at_new (by simp)); rintro e w' ⟨rfl, rfl⟩; rw [HY.out]; dsimp only)
    | (go_at_call 23; (with_reducible refine (in_len o LN 3 _ 3 _ ?_ ?_ ?_).mono ?_); (exact rfl); (exact by decide); (exact heap_at_new (by simp)); rintro e w' ⟨rfl, rfl⟩; rw [HN.out]; dsimp only)
    | (go_at_call 23; (with_reducible refine (in_len o LNN 5 _ 5 _ ?_ ?_ ?_).mono ?_); (exact rfl); (exact by decide); (exact heap_at_new (by simp)); rintro e w' ⟨rfl, rfl⟩; rw [HNN.out]; dsimp only)
    | (go_at_call 23; (with_reducible refine (in_len o LA 4 _ 4 _ ?_ ?_ ?_).mono ?_); (exact rfl); (exact by decide); (exact heap_at_new (by simp)); rintro e w' ⟨rfl, rfl⟩; rw [HA.out]; dsimp only)
    | go_values | go_skip | go_guarded | go_step | go_upon)
  refine bodyPost_ret (results_agg rfl _ _ ⟨w.heap.size, 0, none⟩ _ rfl ?_) rfl ⟨rfl, ?_⟩
  · unfold ic
    go_simp
  · repeat (first | with_reducible exact HB.out | with_reducible refine Below.setCell ?_ (by simp) _ | with_reducible refine Below.alloc ?_ (by simp; omega) _)
set_option maxHeartbeats 2000000 in
set_option maxRecDepth 100000 in
theorem rdec_g6 (a b c d : Nat) (lv o : Int) (w : World) (ha : a < 256) (hb : b < 256) (_hc : c < 256) (_hd : d < 256)
    (HO : Hid (opS ((a : Int) / 16) ((a : Int) % 16) ((b : Int) / 16) ((b : Int) % 16) b ((a : Int) % 16 * 256 + b) = o))
    (h0 : (o == 0) = false) (h1 : levelS o ≤ lv) (h2 : lv ≤ 3) (h43 : (o == 43) = false) (h44 : (o == 44) = false)
    (HX : Hid ((LX.any fun a => a == o) = true)) (HY : Hid ((LY.any fun a => a == o) = true)) (HN : Hid ((LN.any fun a => a == o) = true)) (h49 : (o == 49) = false) (HNN : Hid ((LNN.any fun a => a == o) = false)) (HA : Hid ((LA.any fun a => a == o) = false)) (h48 : (o == 48) = false) :
    Calls Tryd.prog 10 #[.int .u8 a, .int .u8 b, .int .u8 c, .int .u8 d, .int .i64 lv] w fun e w' => e = .returned (.agg (ic o ((a : Int) % 16) ((b : Int) / 16) ((b : Int) % 16) 0 0 2)) ∧ Below w.heap.size w w' := by
  go_enter Tryd.func10, Tryd.ntmps10
  repeat' (first
    | (go_at_call 20; refine (rsplit_any a b _ ha hb).mono ?_; rintro e w1 ⟨rfl, hB1⟩; have HB1 := hid hB1; clear hB1; unfold fc; dsimp only)
    | (go_at_call 21; refine (op_any _ _ _ _ _ _ _ (by omega) (by omega)).mono ?_; rintro e w2 ⟨rfl, hB2⟩; rw [HO.out]; obtain ⟨aR, aF, z1, z2, hB⟩ := two_blocks HB1.out hB2; clear hB2 HB1; obtain ⟨cR, fR⟩ := at_cells aR; obtain ⟨cF, fF⟩ := at_cells aF; have AR := hid aR; have AF := hid aF; have HB := hid hB; clear aR aF hB; have z3 : w.heap.size < w2.heap.size := (by omega); have zR : ∀ k, w.heap.size < w2.heap.size + k := (fun k => by omega); have zF : ∀ k, w1.heap.size < w2.heap.size + k := (fun k => by omega); dsimp only)
    | (go_at_call 14; refine (rlevel_any _ _).mono ?_; rintro e w' ⟨rfl, rfl⟩; dsimp only)
    | (go_at_call 22; refine (rallowed_any _ _ _).mono ?_; rintro e w' ⟨rfl, rfl⟩; dsimp only)
    | (go_at_call 23; (with_reducible refine (in_len o LX 36 _ 36 _ ?_ ?_ ?_).mono ?_); (exact rfl); (exact by decide); (exact heap_at_new (by simp)); rintro e w' ⟨rfl, rfl⟩; rw [HX.out]; dsimp only)
    | (go_at_call 23; (with_reducible refine (in_len o LY 15 _ 15 _ ?_ ?_ ?_).mono ?_); (exact rfl); (exact by decide); (exact heap_at_new (by simp)); rintro e w' ⟨rfl, rfl⟩; rw [HY.out]; dsimp only)
    | (go_at_call 23; (with_reducible refine (in_len o LN 3 _ 3 _ ?_ ?_ ?_).mono ?_); (exact rfl); (exact by decide); (exact heap_at_new (by simp)); rintro e w' ⟨rfl, rfl⟩; rw [HN.out]; dsimp only)
    | (go_at_call 23; (with_reducible refine (in_len o LNN 5 _ 5 _ ?_ ?_ ?_).mono ?_); (exact rfl); (exact by decide); (exact heap_at_new (by simp)); rintro e w' ⟨rfl, rfl⟩; rw [HNN.out]; dsimp only)
    | (go_at_call 23; (with_reducible refine (in_len o LA 4 _ 4 _ ?_ ?_ ?_).mono ?_); (exact rfl); (exact by decide); (exact heap_at_new (by simp)); rintro e w' ⟨rfl, rfl⟩; rw [HA.out]; dsimp only)
    | go_values | go_skip | go_guarded | go_step | go_upon)
  refine bodyPost_ret (results_agg rfl _ _ ⟨w.heap.size, 0, none⟩ _ rfl ?_) rfl ⟨rfl, ?_⟩
  · unfold ic
    go_simp
  · repeat (first | with_reducible exact HB.out | with_reducible refine Below.setCell ?_ (by simp) _ | with_reducible refine Below.alloc ?_ (by simp; omega) _)
set_option maxHeartbeats 2000000 in
set_option maxRecDepth 100000 in
theorem rdec_g7 (a b c d : Nat) (lv o : Int) (w : World) (ha : a < 256) (hb : b < 256) (_hc : c < 256) (_hd : d < 256)
    (HO : Hid (opS ((a : Int) / 16) ((a : Int) % 16) ((b : Int) / 16) ((b : Int) % 16) b ((a : Int) % 16 * 256 + b) = o))
    (h0 : (o == 0) = false) (h1 : levelS o ≤ lv) (h2 : lv ≤ 3) (h43 : (o == 43) = false) (h44 : (o == 44) = false)
    (HX : Hid ((LX.any fun a => a == o) = true)) (HY : Hid ((LY.any fun a => a == o) = false)) (HN : Hid ((LN.any fun a => a == o) = false)) (h49 : (o == 49) = false) (HNN : Hid ((LNN.any fun a => a == o) = false)) (HA : Hid ((LA.any fun a => a == o) = false)) (h48 : (o == 48) = false) :
    Calls Tryd.prog 10 #[.int .u8 a, .int .u8 b, .int .u8 c, .int .u8 d, .int .i64 lv] w fun e w' => e = .returned (.agg (ic o ((a : Int) % 16) 0 0 0 0 2)) ∧ Below w.heap.size w w' := by
  go_enter Tryd.func10, Tryd.ntmps10
  repeat' (first
    | (go_at_call 20; refine (rsplit_any a b _ ha hb).mono ?_; rintro e w1 ⟨rfl, hB1⟩; have HB1 := hid hB1; clear hB1; unfold fc; dsimp only)
    | (go_at_call 21; refine (op_any _ _ _ _ _ _ _ (by omega) (by omega)).mono ?_; rintro e w2 ⟨rfl, hB2⟩; rw [HO.out]; obtain ⟨aR, aF, z1, z2, hB⟩ := two_blocks HB1.out hB2; clear hB2 HB1; obtain ⟨cR, fR⟩ := at_cells aR; obtain ⟨cF, fF⟩ := at_cells aF; have AR := hid aR; have AF := hid aF; have HB := hid hB; clear aR aF hB; have z3 : w.heap.size < w2.heap.size := (by omega); have zR : ∀ k, w.heap.size < w2.heap.size + k := (fun k => by omega); have zF : ∀ k, w1.heap.size < w2.heap.size + k := (fun k => by omega); dsimp only)
    | (go_at_call 14; refine (rlevel_any _ _).mono ?_; rintro e w' ⟨rfl, rfl⟩; dsimp only)
    | (go_at_call 22; refine (rallowed_any _ _ _).mono ?_; rintro e w' ⟨rfl, rfl⟩; dsimp only)
    | (go_at_call 23; (with_reducible refine (in_len o LX 36 _ 36 _ ?_ ?_ ?_).mono ?_); (exact rfl); (exact by decide); (exact heap_at_new (by simp)); rintro e w' ⟨rfl, rfl⟩; rw [HX.out]; dsimp only)
    | (go_at_call 23; (with_reducible refine (in_len o LY 15 _ 15 _ ?_ ?_ ?_).mono ?_); (exact rfl); (exact by decide); (exact heap_at_new (by simp)); rintro e w' ⟨rfl, rfl⟩; rw [HY.out]; dsimp only)
    | (go_at_call 23; (with_reducible refine (in_len o LN 3 _ 3 _ ?_ ?_ ?_).mono ?_); (exact rfl); (exact by decide); (exact heap_at_new (by simp)); rintro e w' ⟨rfl, rfl⟩; rw [HN.out]; dsimp only)
    | (go_at_call 23; (with_reducible refine (in_len o LNN 5 _ 5 _ ?_ ?_ ?_).mono ?_); (exact rfl); (exact by decide); (exact heap_at_new (by simp)); rintro e w' ⟨rfl, rfl⟩; rw [HNN.out]; dsimp only)
    | (go_at_call 23; (with_reducible refine (in_len o LA 4 _ 4 _ ?_ ?_ ?_).mono ?_); (exact rfl); (exact by decide); (exact heap_at_new (by simp)); rintro e w' ⟨rfl, rfl⟩; rw [HA.out]; dsimp only)
    | go_values | go_skip | go_guarded | go_step | go_upon)
  refine bodyPost_ret (results_agg rfl _ _ ⟨w.heap.size, 0, none⟩ _ rfl ?_) rfl ⟨rfl, ?_⟩
  · unfold ic
    go_simp
  · repeat (first | with_reducible exact HB.out | with_reducible refine Below.setCell ?_ (by simp) _ | with_reducible refine Below.alloc ?_ (by simp; omega) _)
set_option maxHeartbeats 2000000 in
set_option maxRecDepth 100000 in
theorem rdec_g8 (a b c d : Nat) (lv o : Int) (w : World) (ha : a < 256) (hb : b < 256) (_hc : c < 256) (_hd : d < 256)
    (HO : Hid (opS ((a : Int) / 16) ((a : Int) % 16) ((b : Int) / 16) ((b : Int) % 16) b ((a : Int) % 16 * 256 + b) = o))
    (h0 : (o == 0) = false) (h1 : levelS o ≤ lv) (h2 : lv ≤ 3) (h43 : (o == 43) = true) (h4 : rallowedS lv ((a : Int) % 16) = true)
    (HX : Hid ((LX.any fun a => a == o) = true)) (HY : Hid ((LY.any fun a => a == o) = false)) (HN : Hid ((LN.any fun a => a == o) = false)) (h49 : (o == 49) = false) (HNN : Hid ((LNN.any fun a => a == o) = false)) (HA : Hid ((LA.any fun a => a == o) = false)) (h48 : (o == 48) = false) :
    Calls Tryd.prog 10 #[.int .u8 a, .int .u8 b, .int .u8 c, .int .u8 d, .int .i64 lv] w fun e w' => e = .returned (.agg (ic o ((a : Int) % 16) 0 0 0 0 2)) ∧ Below w.heap.size w w' := by
  go_enter Tryd.func10, Tryd.ntmps10
  repeat' (first
    | (go_at_call 20; refine (rsplit_any a b _ ha hb).mono ?_; rintro e w1 ⟨rfl, hB1⟩; have HB1 := hid hB1; clear hB1; unfold fc; dsimp only)
    | (go_at_call 21; refine (op_any _ _ _ _ _ _ _ (by omega) (by omega)).mono ?_; rintro e w2 ⟨rfl, hB2⟩; rw [HO.out]; obtain ⟨aR, aF, z1, z2, hB⟩ := two_blocks HB1.out hB2; clear hB2 HB1; obtain ⟨cR, fR⟩ := at_cells aR; obtain ⟨cF, fF⟩ := at_cells aF; have AR := hid aR; have AF := hid aF; have HB := hid hB; clear aR aF hB; have z3 : w.heap.size < w2.heap.size := (by omega); have zR : ∀ k, w.heap.size < w2.heap.size + k := (fun k => by omega); have zF : ∀ k, w1.heap.size < w2.heap.size + k := (fun k => by omega); dsimp only)
    | (go_at_call 14; refine (rlevel_any _ _).mono ?_; rintro e w' ⟨rfl, rfl⟩; dsimp only)
    | (go_at_call 22; refine (rallowed_any _ _ _).mono ?_; rintro e w' ⟨rfl, rfl⟩; dsimp only)
    | (go_at_call 23; (with_reducible refine (in_len o LX 36 _ 36 _ ?_ ?_ ?_).mono ?_); (exact rfl); (exact by decide); (exact heap_at_new (by simp)); rintro e w' ⟨rfl, rfl⟩; rw [HX.out]; dsimp only)
    | (go_at_call 23; (with_reducible refine (in_len o LY 15 _ 15 _ ?_ ?_ ?_).mono ?_); (exact rfl); (exact by decide); (exact heap_at_new (by simp)); rintro e w' ⟨rfl, rfl⟩; rw [HY.out]; dsimp only)
    | (go_at_call 23; (with_reducible refine (in_len o LN 3 _ 3 _ ?_ ?_ ?_).mono ?_); (exact rfl); (exact by decide); (exact heap_at_new (by simp)); rintro e w' ⟨rfl, rfl⟩; rw [HN.out]; dsimp only)
    | (go_at_call 23; (with_reducible refine (in_len o LNN 5 _ 5 _ ?_ ?_ ?_).mono ?_); (exact rfl); (exact by decide); (exact heap_at_new (by simp)); rintro e w' ⟨rfl, rfl⟩; rw [HNN.out]; dsimp only)
    | (go_at_call 23; (with_reducible refine (in_len o LA 4 _ 4 _ ?_ ?_ ?_).mono ?_); (exact rfl); (exact by decide); (exact heap_at_new (by simp)); rintro e w' ⟨rfl, rfl⟩; rw [HA.out]; dsimp only)
    | go_values | go_skip | go_guarded | go_step | go_upon)
  refine bodyPost_ret (results_agg rfl _ _ ⟨w.heap.size, 0, none⟩ _ rfl ?_) rfl ⟨rfl, ?_⟩
  · unfold ic
    go_simp
  · repeat (first | with_reducible exact HB.out | with_reducible refine Below.setCell ?_ (by simp) _ | with_reducible refine Below.alloc ?_ (by simp; omega) _)
set_option maxHeartbeats 2000000 in
set_option maxRecDepth 100000 in
theorem rdec_g9 (a b c d : Nat) (lv o : Int) (w : World) (ha : a < 256) (hb : b < 256) (_hc : c < 256) (_hd : d < 256)
    (HO : Hid (opS ((a : Int) / 16) ((a : Int) % 16) ((b : Int) / 16) ((b : Int) % 16) b ((a : Int) % 16 * 256 + b) = o))
    (h0 : (o == 0) = false) (h1 : levelS o ≤ lv) (h2 : lv ≤ 3) (h43 : (o == 43) = false) (h44 : (o == 44) = true) (h4 : rallowedS lv ((a : Int) % 16) = true)
    (HX : Hid ((LX.any fun a => a == o) = true)) (HY : Hid ((LY.any fun a => a == o) = false)) (HN : Hid ((LN.any fun a => a == o) = false)) (h49 : (o == 49) = false) (HNN : Hid ((LNN.any fun a => a == o) = false)) (HA : Hid ((LA.any fun a => a == o) = false)) (h48 : (o == 48) = false) :
    Calls Tryd.prog 10 #[.int .u8 a, .int .u8 b, .int .u8 c, .int .u8 d, .int .i64 lv] w fun e w' => e = .returned (.agg (ic o ((a : Int) % 16) 0 0 0 0 2)) ∧ Below w.heap.size w w' := by
  go_enter Tryd.func10, Tryd.ntmps10
  repeat' (first
    | (go_at_call 20; refine (rsplit_any a b _ ha hb).mono ?_; rintro e w1 ⟨rfl, hB1⟩; have HB1 := hid hB1; clear hB1; unfold fc; dsimp only)
    | (go_at_call 21; refine (op_any _ _ _ _ _ _ _ (by omega) (by omega)).mono ?_; rintro e w2 ⟨rfl, hB2⟩; rw [HO.out]; obtain ⟨aR, aF, z1, z2, hB⟩ := two_blocks HB1.out hB2; clear hB2 HB1; obtain ⟨cR, fR⟩ := at_cells aR; obtain ⟨cF, fF⟩ := at_cells aF; have AR := hid aR; have AF := hid aF; have HB := hid hB; clear aR aF hB; have z3 : w.heap.size < w2.heap.size := (by omega); have zR : ∀ k, w.heap.size < w2.heap.size + k := (fun k => by omega); have zF : ∀ k, w1.heap.size < w2.heap.size + k := (fun k => by omega); dsimp only)
    | (go_at_call 14; refine (rlevel_any _ _).mono ?_; rintro e w' ⟨rfl, rfl⟩; dsimp only)
    | (go_at_call 22; refine (rallowed_any _ _ _).mono ?_; rintro e w' ⟨rfl, rfl⟩; dsimp only)
    | (go_at_call 23; (with_reducible refine (in_len o LX 36 _ 36 _ ?_ ?_ ?_).mono ?_); (exact rfl); (exact by decide); (exact heap_at_new (by simp)); rintro e w' ⟨rfl, rfl⟩; rw [HX.out]; dsimp only)
    | (go_at_call 23; (with_reducible refine (in_len o LY 15 _ 15 _ ?_ ?_ ?_).mono ?_); (exact rfl); (exact by decide); (exact heap_at_new (by simp)); rintro e w' ⟨rfl, rfl⟩; rw [HY.out]; dsimp only)
    | (go_at_call 23; (with_reducible refine (in_len o LN 3 _ 3 _ ?_ ?_ ?_).mono ?_); (exact rfl); (exact by decide); (exact heap_at_new (by simp)); rintro e w' ⟨rfl, rfl⟩; rw [HN.out]; dsimp only)
    | (go_at_call 23; (with_reducible refine (in_len o LNN 5 _ 5 _ ?_ ?_ ?_).mono ?_); (exact rfl); (exact by decide); (exact heap_at_new (by simp)); rintro e w' ⟨rfl, rfl⟩; rw [HNN.out]; dsimp only)
    | (go_at_call 23; (with_reducible refine (in_len o LA 4 _ 4 _ ?_ ?_ ?_).mono ?_); (exact rfl); (exact by decide); (exact heap_at_new (by simp)); rintro e w' ⟨rfl, rfl⟩; rw [HA.out]; dsimp only)
    | go_values | go_skip | go_guarded | go_step | go_upon)
  refine bodyPost_ret (results_agg rfl _ _ ⟨w.heap.size, 0, none⟩ _ rfl ?_) rfl ⟨rfl, ?_⟩
  · unfold ic
    go_simp
  · repeat (first | with_reducible exact HB.out | with_reducible refine Below.setCell ?_ (by simp) _ | with_reducible refine Below.alloc ?_ (by simp; omega) _)
set_option maxHeartbeats 2000000 in
set_option maxRecDepth 100000 in
theorem rdec_g10 (a b c d : Nat) (lv o : Int) (w : World) (ha : a < 256) (hb : b < 256) (_hc : c < 256) (_hd : d < 256)
    (HO : Hid (opS ((a : Int) / 16) ((a : Int) % 16) ((b : Int) / 16) ((b : Int) % 16) b ((a : Int) % 16 * 256 + b) = o))
    (h0 : (o == 0) = false) (h1 : levelS o ≤ lv) (h2 : lv ≤ 3) (h43 : (o == 43) = false) (h44 : (o == 44) = false)
    (HX : Hid ((LX.any fun a => a == o) = false)) (HY : Hid ((LY.any fun a => a == o) = false)) (HN : Hid ((LN.any fun a => a == o) = true)) (h49 : (o == 49) = false) (HNN : Hid ((LNN.any fun a => a == o) = false)) (HA : Hid ((LA.any fun a => a == o) = false)) (h48 : (o == 48) = false) :
    Calls Tryd.prog 10 #[.int .u8 a, .int .u8 b, .int .u8 c, .int .u8 d, .int .i64 lv] w fun e w' => e = .returned (.agg (ic o 0 0 ((b : Int) % 16) 0 0 2)) ∧ Below w.heap.size w w' := by
  go_enter Tryd.func10, Tryd.ntmps10
  repeat' (first
    | (go_at_call 20; refine (rsplit_any a b _ ha hb).mono ?_; rintro e w1 ⟨rfl, hB1⟩; have HB1 := hid hB1; clear hB1; unfold fc; dsimp only)
    | (go_at_call 21; refine (op_any _ _ _ _ _ _ _ (by omega) (by omega)).mono ?_; rintro e w2 ⟨rfl, hB2⟩; rw [HO.out]; obtain ⟨aR, aF, z1, z2, hB⟩ := two_blocks HB1.out hB2; clear hB2 HB1; obtain ⟨cR, fR⟩ := at_cells aR; obtain ⟨cF, fF⟩ := at_cells aF; have AR := hid aR; have AF := hid aF; have HB := hid hB; clear aR aF hB; have z3 : w.heap.size < w2.heap.size := (by omega); have zR : ∀ k, w.heap.size < w2.heap.size + k := (fun k => by omega); have zF : ∀ k, w1.heap.size < w2.heap.size + k := (fun k => by omega); dsimp only)
    | (go_at_call 14; refine (rlevel_any _ _).mono ?_; rintro e w' ⟨rfl, rfl⟩; dsimp only)
    | (go_at_call 22; refine (rallowed_any _ _ _).mono ?_; rintro e w' ⟨rfl, rfl⟩; dsimp only)
    | (go_at_call 23; (with_reducible refine (in_len o LX 36 _ 36 _ ?_ ?_ ?_).mono ?_); (exact rfl); (exact by decide); (exact heap_at_new (by simp)); rintro e w' ⟨rfl, rfl⟩; rw [HX.out]; dsimp only)
    | (go_at_call 23; (with_reducible refine (in_len o LY 15 _ 15 _ ?_ ?_ ?_).mono ?_); (exact rfl); (exact by decide); (exact heap_at_new (by simp)); rintro e w' ⟨rfl, rfl⟩; rw [HY.out]; dsimp only)
    | (go_at_call 23; (with_reducible refine (in_len o LN 3 _ 3 _ ?_ ?_ ?_).mono ?_); (exact rfl); (exact by decide); (exact heap_at_new (by simp)); rintro e w' ⟨rfl, rfl⟩; rw [HN.out]; dsimp only)
    | (go_at_call 23; (with_reducible refine (in_len o LNN 5 _ 5 _ ?_ ?_ ?_).mono ?_); (exact rfl); (exact by decide); (exact heap_at_new (by simp)); rintro e w' ⟨rfl, rfl⟩; rw [HNN.out]; dsimp only)
    | (go_at_call 23; (with_reducible refine (in_len o LA 4 _ 4 _ ?_ ?_ ?_).mono ?_); (exact rfl); (exact by decide); (exact heap_at_new (by simp)); rintro e w' ⟨rfl, rfl⟩; rw [HA.out]; dsimp only)
    | go_values | go_skip | go_guarded | go_step | go_upon)
  refine bodyPost_ret (results_agg rfl _ _ ⟨w.heap.size, 0, none⟩ _ rfl ?_) rfl ⟨rfl, ?_⟩
  · unfold ic
    go_simp
  · repeat (first | with_reducible exact HB.out | with_reducible refine Below.setCell ?_ (by simp) _ | with_reducible refine Below.alloc ?_ (by simp; omega) _)
set_option maxHeartbeats 2000000 in
set_option maxRecDepth 100000 in
theorem rdec_g11 (a b c d : Nat) (lv o : Int) (w : World) (ha : a < 256) (hb : b < 256) (_hc : c < 256) (_hd : d < 256)
    (HO : Hid (opS ((a : Int) / 16) ((a : Int) % 16) ((b : Int) / 16) ((b : Int) % 16) b ((a : Int) % 16 * 256 + b) = o))
    (h0 : (o == 0) = false) (h1 : levelS o ≤ lv) (h2 : lv ≤ 3) (h43 : (o == 43) = false) (h44 : (o == 44) = false)
    (HX : Hid ((LX.any fun a => a == o) = false)) (HY : Hid ((LY.any fun a => a == o) = false)) (HN : Hid ((LN.any fun a => a == o) = false)) (h49 : (o == 49) = false) (HNN : Hid ((LNN.any fun a => a == o) = false)) (HA : Hid ((LA.any fun a => a == o) = false)) (h48 : (o == 48) = true) :
    Calls Tryd.prog 10 #[.int .u8 a, .int .u8 b, .int .u8 c, .int .u8 d, .int .i64 lv] w fun e w' => e = .returned (.agg (ic o 0 0 0 0 ((c : Int) * 256 + d) 4)) ∧ Below w.heap.size w w' := by
  go_enter Tryd.func10, Tryd.ntmps10
  repeat' (first
    | (go_at_call 20; refine (rsplit_any a b _ ha hb).mono ?_; rintro e w1 ⟨rfl, hB1⟩; have HB1 := hid hB1; clear hB1; unfold fc; dsimp only)
    | (go_at_call 21; refine (op_any _ _ _ _ _ _ _ (by omega) (by omega)).mono ?_; rintro e w2 ⟨rfl, hB2⟩; rw [HO.out]; obtain ⟨aR, aF, z1, z2, hB⟩ := two_blocks HB1.out hB2; clear hB2 HB1; obtain ⟨cR, fR⟩ := at_cells aR; obtain ⟨cF, fF⟩ := at_cells aF; have AR := hid aR; have AF := hid aF; have HB := hid hB; clear aR aF hB; have z3 : w.heap.size < w2.heap.size := (by omega); have zR : ∀ k, w.heap.size < w2.heap.size + k := (fun k => by omega); have zF : ∀ k, w1.heap.size < w2.heap.size + k := (fun k => by omega); dsimp only)
    | (go_at_call 14; refine (rlevel_any _ _).mono ?_; rintro e w' ⟨rfl, rfl⟩; dsimp only)
    | (go_at_call 22; refine (rallowed_any _ _ _).mono ?_; rintro e w' ⟨rfl, rfl⟩; dsimp only)
    | (go_at_call 23; (with_reducible refine (in_len o LX 36 _ 36 _ ?_ ?_ ?_).mono ?_); (exact rfl); (exact by decide); (exact heap_at_new (by simp)); rintro e w' ⟨rfl, rfl⟩; rw [HX.out]; dsimp only)
    | (go_at_call 23; (with_reducible refine (in_len o LY 15 _ 15 _ ?_ ?_ ?_).mono ?_); (exact rfl); (exact by decide); (exact heap_at_new (by simp)); rintro e w' ⟨rfl, rfl⟩; rw [HY.out]; dsimp only)
    | (go_at_call 23; (with_reducible refine (in_len o LN 3 _ 3 _ ?_ ?_ ?_).mono ?_); (exact rfl); (exact by decide); (exact heap_at_new (by simp)); rintro e w' ⟨rfl, rfl⟩; rw [HN.out]; dsimp only)
    | (go_at_call 23; (with_reducible refine (in_len o LNN 5 _ 5 _ ?_ ?_ ?_).mono ?_); (exact rfl); (exact by decide); (exact heap_at_new (by simp)); rintro e w' ⟨rfl, rfl⟩; rw [HNN.out]; dsimp only)
    | (go_at_call 23; (with_reducible refine (in_len o LA 4 _ 4 _ ?_ ?_ ?_).mono ?_); (exact rfl); (exact by decide); (exact heap_at_new (by simp)); rintro e w' ⟨rfl, rfl⟩; rw [HA.out]; dsimp only)
    | go_values | go_skip | go_guarded | go_step | go_upon)
  refine bodyPost_ret (results_agg rfl _ _ ⟨w.heap.size, 0, none⟩ _ rfl ?_) rfl ⟨rfl, ?_⟩
  · unfold ic
    go_simp
  · repeat (first | with_reducible exact HB.out | with_reducible refine Below.setCell ?_ (by simp) _ | with_reducible refine Below.alloc ?_ (by simp; omega) _)
set_option maxHeartbeats 2000000 in
set_option maxRecDepth 100000 in
theorem rdec_g12 (a b c d : Nat) (lv o : Int) (w : World) (ha : a < 256) (hb : b < 256) (_hc : c < 256) (_hd : d < 256)
    (HO : Hid (opS ((a : Int) / 16) ((a : Int) % 16) ((b : Int) / 16) ((b : Int) % 16) b ((a : Int) % 16 * 256 + b) = o))
    (h0 : (o == 0) = false) (h1 : levelS o ≤ lv) (h2 : lv ≤ 3) (h43 : (o == 43) = false) (h44 : (o == 44) = false)
    (HX : Hid ((LX.any fun a => a == o) = false)) (HY : Hid ((LY.any fun a => a == o) = false)) (HN : Hid ((LN.any fun a => a == o) = false)) (h49 : (o == 49) = true) (HNN : Hid ((LNN.any fun a => a == o) = false)) (HA : Hid ((LA.any fun a => a == o) = false)) (h48 : (o == 48) = false) :
    Calls Tryd.prog 10 #[.int .u8 a, .int .u8 b, .int .u8 c, .int .u8 d, .int .i64 lv] w fun e w' => e = .returned (.agg (ic o 0 0 ((a : Int) % 16) 0 0 2)) ∧ Below w.heap.size w w' := by
  go_enter Tryd.func10, Tryd.ntmps10
  repeat' (first
    | (go_at_call 20; refine (rsplit_any a b _ ha hb).mono ?_; rintro e w1 ⟨rfl, hB1⟩; have HB1 := hid hB1; clear hB1; unfold fc; dsimp only)
    | (go_at_call 21; refine (op_any _ _ _ _ _ _ _ (by omega) (by omega)).mono ?_; rintro e w2 ⟨rfl, hB2⟩; rw [HO.out]; obtain ⟨aR, aF, z1, z2, hB⟩ := two_blocks HB1.out hB2; clear hB2 HB1; obtain ⟨cR, fR⟩ := at_cells aR; obtain ⟨cF, fF⟩ := at_cells aF; have AR := hid aR; have AF := hid aF; have HB := hid hB; clear aR aF hB; have z3 : w.heap.size < w2.heap.size := (by omega); have zR : ∀ k, w.heap.size < w2.heap.size + k := (fun k => by omega); have zF : ∀ k, w1.heap.size < w2.heap.size + k := (fun k => by omega); dsimp only)
    | (go_at_call 14; refine (rlevel_any _ _).mono ?_; rintro e w' ⟨rfl, rfl⟩; dsimp only)
    | (go_at_call 22; refine (rallowed_any _ _ _).mono ?_; rintro e w' ⟨rfl, rfl⟩; dsimp only)
    | (go_at_call 23; (with_reducible refine (in_len o LX 36 _ 36 _ ?_ ?_ ?_).mono ?_); (exact rfl); (exact by decide); (exact heap_at_new (by simp)); rintro e w' ⟨rfl, rfl⟩; rw [HX.out]; dsimp only)
    | (go_at_call 23; (with_reducible refine (in_len o LY 15 _ 15 _ ?_ ?_ ?_).mono ?_); (exact rfl); (exact by decide); (exact heap_at_new (by simp)); rintro e w' ⟨rfl, rfl⟩; rw [HY.out]; dsimp only)
    | (go_at_call 23; (with_reducible refine (in_len o LN 3 _ 3 _ ?_ ?_ ?_).mono ?_); (exact rfl); (exact by decide); (exact heap_at_new (by simp)); rintro e w' ⟨rfl, rfl⟩; rw [HN.out]; dsimp only)
    | (go_at_call 23; (with_reducible refine (in_len o LNN 5 _ 5 _ ?_ ?_ ?_).mono ?_); (exact rfl); (exact by decide); (exact heap_at_new (by simp)); rintro e w' ⟨rfl, rfl⟩; rw [HNN.out]; dsimp only)
    | (go_at_call 23; (with_reducible refine (in_len o LA 4 _ 4 _ ?_ ?_ ?_).mono ?_); (exact rfl); (exact by decide); (exact heap_at_new (by simp)); rintro e w' ⟨rfl, rfl⟩; rw [HA.out]; dsimp only)
    | go_values | go_skip | go_guarded | go_step | go_upon)
  refine bodyPost_ret (results_agg rfl _ _ ⟨w.heap.size, 0, none⟩ _ rfl ?_) rfl ⟨rfl, ?_⟩
  · unfold ic
    go_simp
  · repeat (first | with_reducible exact HB.out | with_reducible refine Below.setCell ?_ (by simp) _ | with_reducible refine Below.alloc ?_ (by simp; omega) _)
end Go.Proofs.YtepkaagbjfnpbaaDoor
