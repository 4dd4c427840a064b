import Derived.Test.YtepkaagbjfnpbaaDoorA1
import Derived.Test.YtepkaagbjfnpbaaDoorProg
import Derived.Laws.EntriesVeiled
namespace Go.Proofs.YtepkaagbjfnpbaaDoor
open Go.RowKit

theorem or_byte : ∀ a b : Nat, b < 256 → (a * 256 ||| b) = a * 256 + b := fun a b h => by
  have := Nat.two_pow_add_eq_or_of_lt (i := 8) (b := b) h a
  rw [show a * 256 = 2 ^ 8 * a by omega]; exact this.symm

theorem number_any (a b : Nat) (w : World) (ha : a < 256) (hb : b < 256) :
    Calls Tryd.prog 17 #[.int .u8 a, .int .u8 b] w fun e w' => e = .returned (.int .i64 (a * 256 + b : Nat)) ∧ w = w' := by
  have h := bits_or_i64 (a * 256) b (by omega) (by omega)
  rw [or_byte a b hb] at h
  go_enter Tryd.func17, Tryd.ntmps17
  go_wp2
  go_ret
  have e : bits .or .i64 ((a : Int) * 256) (b : Int) = ((a * 256 + b : Nat) : Int) := by simpa using h
  refine ⟨?_, rfl⟩
  simp [e]

theorem index_rule {T len : Nat} {A : Array Value} {l : List Rule} (ht : Tryd.prog.underlying T = some (.array len 38)) (hx : ∀ k, k < len → A.extract (k * 5) (k * 5 + 5) = rc (l.getD k noRule)) (k : Nat) (hk : k < len) (w : World) :
    (Instr.index T (.agg A) (.int .i64 k)).run Tryd.prog w = .ok (.agg (rc (l.getD k noRule))) w := by
  have hi : (isAgg 38).run Tryd.prog w = .ok true w := by kernel_rfl
  have hs : (sizeOf 38).run Tryd.prog w = .ok 5 w := by kernel_rfl
  unfold Instr.index
  simp only [Sem.run_bind, asIntOf, Result.andThen, Sem.run_pure, run_underlying ht, part]
  rw [if_pos ⟨by omega, by omega⟩]
  simp only [Sem.run_bind, Result.andThen, hs, hi, if_true, Sem.run_pure, Int.toNat_natCast, hx k hk]

theorem fits_bits (n m v : Nat) (hn : n < 65536) (hm : m < 65536) : (bits .and .i64 (n : Int) (m : Int) == (v : Int)) = Nat.beq (n &&& m) v := by
  rw [bits_and_i64 n m (by omega) (by omega), Bool.eq_iff_iff, beq_iff_eq, Nat.beq_eq]
  omega
theorem tbl1_mask : ∀ k, (tbl1.getD k noRule).mask < 65536 := by
  intro k
  by_cases h : k < 35
  · have : ∀ k : Fin 35, (tbl1.getD k.val noRule).mask < 65536 := by decide +kernel
    exact this ⟨k, h⟩
  · rw [List.getD_eq_getElem?_getD, List.getElem?_eq_none (by show 35 ≤ k; omega)]; decide
theorem tbl2_mask : ∀ k, (tbl2.getD k noRule).mask < 65536 := by
  intro k
  by_cases h : k < 16
  · have : ∀ k : Fin 16, (tbl2.getD k.val noRule).mask < 65536 := by decide +kernel
    exact this ⟨k, h⟩
  · rw [List.getD_eq_getElem?_getD, List.getElem?_eq_none (by show 16 ≤ k; omega)]; decide

def FindPost (n : Nat) (w : World) (e : Ending) (w' : World) : Prop := (match findR (tbl1 ++ tbl2) n with
      | some r => e = .returned (.tuple #[.agg (rc r), .bool true])
      | none => e = .returned (.tuple #[.agg #[.int .i64 0, .int .i64 0, .int .i64 0, .int .i64 0, .nilFunc], .bool false])) ∧ Below w.heap.size w w'
set_option maxHeartbeats 400000 in
theorem find_any (n : Nat) (hn : n < 65536) (w : World) (t0 t1 : TypeId × Nat × Nat) (hb0 : 1 < w.heap.size) (h0 : w.heap[0]? = some (.cells T1 t0.1 t0.2)) (h1 : w.heap[1]? = some (.cells T2 t1.1 t1.2)) :
    Calls Tryd.prog 16 #[.int .i64 n] w (FindPost n w) := by
  have h0' : (w.alloc (.cells #[.int .i64 0, .int .i64 0, .int .i64 0, .int .i64 0, .nilFunc] 38)).heap[0]? = some (.cells T1 t0.1 t0.2) := by
    rw [Below.heap_alloc _ _ _ (by omega)]; exact h0
  go_enter Tryd.func16, Tryd.ntmps16
  go_wp2_with (refine wpList_load_row rfl 52 _ rfl 0 rfl t0.1 _ t0.2 _ h0' Tryd.underlying52 rfl (by kernel_rfl) ?_)
  clear h0'
  go_loopw [9] (fun i wr => ∃ k : Nat, k ≤ 35 ∧ i = .int .i64 k ∧ findR (tbl1.take k) n = none ∧ Below (w.heap.size + 1) (w.alloc (.cells #[.int .i64 0, .int .i64 0, .int .i64 0, .int .i64 0, .nilFunc] 38)) wr) (fun i _ => 35 - (intOf i).toNat)
  case atStart => exact ⟨0, by omega, rfl, rfl, Below.refl _ _⟩
  case round =>
    obtain ⟨k, hk, rfl, hf, hB⟩ := hrel
    have HF := hid hf
    clear hf
    by_cases hlt : k < 35
    · have hix := fun w => index_rule Tryd.underlying52 T1_ext k hlt w
      generalize hr : tbl1.getD k noRule = r at hix
      have HR := hid hr
      clear hr
      obtain ⟨m, v, o, l, p⟩ := r
      have hm : m < 65536 := by have := tbl1_mask k; rw [HR.out] at this; exact this
      have hfit := fits_bits n m v hn hm
      simp only [rc] at hix
      cases hc : Nat.beq (n &&& m) v
      · rw [hc] at hfit
        go_wp2
        go_roundw
        case rel => exact ⟨k + 1, by omega, by go_num, find_take_succ tbl1 k n hlt HF.out (by rw [HR.out]; exact hc), hB.alloc (by have := hB.size; simp at this; omega) _⟩
        case measure => simp [intOf]; omega
      · rw [hc] at hfit
        obtain ⟨hcl, hfr, hsz⟩ := own_new hB
        have c0 := hcl 0
        have c1 := hcl 1
        have c2 := hcl 2
        have c3 := hcl 3
        have c4 := hcl 4
        have f0 := hfr 0
        have f1 := hfr 1
        have f2 := hfr 2
        have f3 := hfr 3
        have f4 := hfr 4
        simp only [List.getElem?_toArray, List.getElem?_cons_zero, List.getElem?_cons_succ] at c0 c1 c2 c3 c4
        clear hcl hfr
        have HB := hid hB
        clear hB
        repeat' (first | go_values | go_skip | go_guarded | go_step | go_upon)
        refine bodyPost_ret (results_agg_tmp rfl _ _ ⟨w.heap.size, 0, none⟩ (rc ⟨m, v, o, l, p⟩) rfl ?_) rfl ?_
        · unfold rc
          go_simp
        · refine ⟨?_, ?_⟩
          · rw [find_app, find_here tbl1 k n hlt HF.out (by rw [HR.out]; exact hc), HR.out]
            rfl
          · refine Below.alloc ?_ (by simp; omega) _
            repeat refine Below.setCell ?_ (by simp) _
            exact below_own HB.out
    · have h1' : wr.heap[1]? = some (.cells T2 t1.1 t1.2) := by
        rw [hB.block 1 (by omega), Below.heap_alloc _ _ _ (by omega)]; exact h1
      go_wp2_with (refine wpList_load_row rfl 53 _ rfl 1 rfl t1.1 _ t1.2 _ h1' Tryd.underlying53 rfl (by kernel_rfl) ?_)
      clear h1'
      have hk35 : k = 35 := by omega
      have HT : Hid (findR tbl1 n = none) := hid (by have := HF.out; rw [hk35] at this; exact this)
      clear HF hk35
      obtain ⟨w1, rfl⟩ : ∃ w1 : World, w1 = wr := ⟨_, rfl⟩
      go_loopw [22] (fun i wr => ∃ k : Nat, k ≤ 16 ∧ i = .int .i64 k ∧ findR (tbl2.take k) n = none ∧ Below (w.heap.size + 1) (w.alloc (.cells #[.int .i64 0, .int .i64 0, .int .i64 0, .int .i64 0, .nilFunc] 38)) wr) (fun i _ => 16 - (intOf i).toNat)
      case atStart => exact ⟨0, by omega, rfl, rfl, hB⟩
      case round =>
        obtain ⟨k2, hk2, rfl, hf, hB2⟩ := hrel
        clear hB
        have HF := hid hf
        clear hf
        by_cases hlt2 : k2 < 16
        · have hix := fun w => index_rule Tryd.underlying53 T2_ext k2 hlt2 w
          generalize hr : tbl2.getD k2 noRule = r at hix
          have HR := hid hr
          clear hr
          obtain ⟨m, v, o, l, p⟩ := r
          have hm : m < 65536 := by have := tbl2_mask k2; rw [HR.out] at this; exact this
          have hfit := fits_bits n m v hn hm
          simp only [rc] at hix
          cases hc : Nat.beq (n &&& m) v
          · rw [hc] at hfit
            go_wp2
            go_roundw
            case rel => exact ⟨k2 + 1, by omega, by go_num, find_take_succ tbl2 k2 n hlt2 HF.out (by rw [HR.out]; exact hc), hB2.alloc (by have := hB2.size; simp at this; omega) _⟩
            case measure => simp [intOf]; omega
          · rw [hc] at hfit
            obtain ⟨hcl, hfr, hsz⟩ := own_new hB2
            have c0 := hcl 0
            have c1 := hcl 1
            have c2 := hcl 2
            have c3 := hcl 3
            have c4 := hcl 4
            have f0 := hfr 0
            have f1 := hfr 1
            have f2 := hfr 2
            have f3 := hfr 3
            have f4 := hfr 4
            simp only [List.getElem?_toArray, List.getElem?_cons_zero, List.getElem?_cons_succ] at c0 c1 c2 c3 c4
            clear hcl hfr
            have HB := hid hB2
            clear hB2
            repeat' (first | go_values | go_skip | go_guarded | go_step | go_upon)
            refine bodyPost_ret (results_agg_tmp rfl _ _ ⟨w.heap.size, 0, none⟩ (rc ⟨m, v, o, l, p⟩) rfl ?_) rfl ?_
            · unfold rc
              go_simp
            · refine ⟨?_, ?_⟩
              · rw [find_app, HT.out, find_here tbl2 k2 n hlt2 HF.out (by rw [HR.out]; exact hc), HR.out]
                rfl
              · refine Below.alloc ?_ (by simp; omega) _
                repeat refine Below.setCell ?_ (by simp) _
                exact below_own HB.out
        · have hk16 : k2 = 16 := by omega
          have HT2 : Hid (findR tbl2 n = none) := hid (by have := HF.out; rw [hk16] at this; exact this)
          clear HF hk16
          obtain ⟨hcl, hfr, hsz⟩ := own_new hB2
          have c0 := hcl 0
          have c1 := hcl 1
          have c2 := hcl 2
          have c3 := hcl 3
          have c4 := hcl 4
          have f0 := hfr 0
          have f1 := hfr 1
          have f2 := hfr 2
          have f3 := hfr 3
          have f4 := hfr 4
          simp only [List.getElem?_toArray, List.getElem?_cons_zero, List.getElem?_cons_succ] at c0 c1 c2 c3 c4
          clear hcl hfr
          have HB := hid hB2
          clear hB2
          repeat' (first | go_values | go_skip | go_guarded | go_step | go_upon)
          refine bodyPost_ret (results_agg_tmp rfl _ _ ⟨w.heap.size, 0, none⟩ #[.int .i64 0, .int .i64 0, .int .i64 0, .int .i64 0, .nilFunc] rfl ?_) rfl ?_
          · go_simp
          · refine ⟨?_, ?_⟩
            · rw [find_app, HT.out, HT2.out]
              rfl
            · repeat refine Below.setCell ?_ (by simp) _
              exact below_own HB.out
end Go.Proofs.YtepkaagbjfnpbaaDoor
