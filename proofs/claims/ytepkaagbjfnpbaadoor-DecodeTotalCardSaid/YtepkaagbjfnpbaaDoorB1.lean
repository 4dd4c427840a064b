import Derived.Test.YtepkaagbjfnpbaaDoorA9
import Derived.Test.YtepkaagbjfnpbaaDoorB01
import Derived.Test.YtepkaagbjfnpbaaDoorB02
import Derived.Test.YtepkaagbjfnpbaaDoorB03
namespace Go.Proofs.YtepkaagbjfnpbaaDoor
open Go.RowKit

/-- What the decoder makes of four bytes. -/
def implDec (a b : Nat) (e lv : Int) : Array Value :=
  match findR (tbl1 ++ tbl2) (a * 256 + b) with
  | none => ic 0 0 0 0 0 0 2
  | some r =>
    if lv < r.level ∨ 3 < lv then ic 0 0 0 0 0 0 2
    else if r.op = 48 then ic 48 0 0 0 0 e 4
    else if (r.op = 43 ∨ r.op = 44) ∧ rallowedS lv ((a : Int) % 16) = false then ic 0 0 0 0 0 0 2
    else pickS r.pick r.op ((a : Int) % 16) ((b : Int) / 16) ((b : Int) % 16) b ((a : Int) % 16 * 256 + b)
theorem rule_pick : ∀ r ∈ tbl1 ++ tbl2, 45 ≤ r.pick ∧ r.pick ≤ 53 ∧ (r.op = 48 → r.pick = 45) ∧ (r.op = 43 ∨ r.op = 44 → r.pick = 51) := by
  have h : (tbl1 ++ tbl2).all (fun r => decide (45 ≤ r.pick ∧ r.pick ≤ 53 ∧ (r.op = 48 → r.pick = 45) ∧ (r.op = 43 ∨ r.op = 44 → r.pick = 51))) = true := by kernel_rfl
  intro r hr
  exact of_decide_eq_true (List.all_eq_true.1 h r hr)
theorem decode_any (a b c d : Nat) (lv : Int) (w : World) (ha : a < 256) (hb : b < 256) (hc : c < 256) (hd : d < 256) (t0 t1 : TypeId × Nat × Nat) (hb0 : 1 < w.heap.size) (h0 : w.heap[0]? = some (.cells T1 t0.1 t0.2)) (h1 : w.heap[1]? = some (.cells T2 t1.1 t1.2)) :
    Calls Tryd.prog 9 #[.agg (BC a b c d), .int .i64 lv] w fun e w' => e = .returned (.agg (implDec a b ((c : Int) * 256 + d) lv)) ∧ Below w.heap.size w w' := by
  have hb1 : 0 < w.heap.size := by omega
  unfold implDec
  cases hf : findR (tbl1 ++ tbl2) (a * 256 + b) with
  | none => exact dec_none a b c d lv w ha hb t0 t1 hb1 hb0 (hid h0) (hid h1) (hid hf)
  | some r =>
    have hm := rule_pick r (List.mem_of_find?_eq_some hf)
    obtain ⟨m, v, o, l, p⟩ := r
    dsimp only at hm ⊢
    obtain ⟨hp1, hp2, h48, h43⟩ := hm
    by_cases hl : lv < l ∨ 3 < lv
    · rw [if_pos hl]
      exact dec_bad a b c d m v o l p lv w ha hb t0 t1 hb1 hb0 (hid h0) (hid h1) (hid hf) (by omega)
    · rw [if_neg hl]
      have hl1 : (l : Int) ≤ lv := by omega
      have hl2 : lv ≤ 3 := by omega
      have n48 : o ≠ 48 → ((o : Int) == 48) = false := fun h => by rw [beq_eq_false_iff_ne]; omega
      have n43 : o ≠ 43 → ((o : Int) == 43) = false := fun h => by rw [beq_eq_false_iff_ne]; omega
      have n44 : o ≠ 44 → ((o : Int) == 44) = false := fun h => by rw [beq_eq_false_iff_ne]; omega
      obtain rfl | rfl | rfl | rfl | rfl | rfl | rfl | rfl | rfl : p = 45 ∨ p = 46 ∨ p = 47 ∨ p = 48 ∨ p = 49 ∨ p = 50 ∨ p = 51 ∨ p = 52 ∨ p = 53 := by omega
      · have k43 : o ≠ 43 := fun h => by have := h43 (.inl h); omega
        have k44 : o ≠ 44 := fun h => by have := h43 (.inr h); omega
        refine (dec_g45 a b c d m v o l lv w ha hb hc hd t0 t1 hb1 hb0 (hid h0) (hid h1) (hid hf) hl1 hl2 (n43 k43) (n44 k44)).mono fun e w' ⟨he, hB⟩ => ⟨he.trans ?_, hB⟩
        by_cases k48 : o = 48
        · subst k48; rfl
        · simp [n48 k48, k48, k43, k44, pickS]
      · have k48 : o ≠ 48 := fun h => by have := h48 h; omega
        have k43 : o ≠ 43 := fun h => by have := h43 (.inl h); omega
        have k44 : o ≠ 44 := fun h => by have := h43 (.inr h); omega
        have kk : ¬ ((o = 43 ∨ o = 44) ∧ rallowedS lv ((a : Int) % 16) = false) := fun h => by rcases h.1 with h | h <;> omega
        rw [if_neg k48, if_neg kk]
        exact dec_g46 a b c d m v o l lv w ha hb hc hd t0 t1 hb1 hb0 (hid h0) (hid h1) (hid hf) hl1 hl2 (n48 k48) (n43 k43) (n44 k44)
      · have k48 : o ≠ 48 := fun h => by have := h48 h; omega
        have k43 : o ≠ 43 := fun h => by have := h43 (.inl h); omega
        have k44 : o ≠ 44 := fun h => by have := h43 (.inr h); omega
        have kk : ¬ ((o = 43 ∨ o = 44) ∧ rallowedS lv ((a : Int) % 16) = false) := fun h => by rcases h.1 with h | h <;> omega
        rw [if_neg k48, if_neg kk]
        exact dec_g47 a b c d m v o l lv w ha hb hc hd t0 t1 hb1 hb0 (hid h0) (hid h1) (hid hf) hl1 hl2 (n48 k48) (n43 k43) (n44 k44)
      · have k48 : o ≠ 48 := fun h => by have := h48 h; omega
        have k43 : o ≠ 43 := fun h => by have := h43 (.inl h); omega
        have k44 : o ≠ 44 := fun h => by have := h43 (.inr h); omega
        have kk : ¬ ((o = 43 ∨ o = 44) ∧ rallowedS lv ((a : Int) % 16) = false) := fun h => by rcases h.1 with h | h <;> omega
        rw [if_neg k48, if_neg kk]
        exact dec_g48 a b c d m v o l lv w ha hb hc hd t0 t1 hb1 hb0 (hid h0) (hid h1) (hid hf) hl1 hl2 (n48 k48) (n43 k43) (n44 k44)
      · have k48 : o ≠ 48 := fun h => by have := h48 h; omega
        have k43 : o ≠ 43 := fun h => by have := h43 (.inl h); omega
        have k44 : o ≠ 44 := fun h => by have := h43 (.inr h); omega
        have kk : ¬ ((o = 43 ∨ o = 44) ∧ rallowedS lv ((a : Int) % 16) = false) := fun h => by rcases h.1 with h | h <;> omega
        rw [if_neg k48, if_neg kk]
        exact dec_g49 a b c d m v o l lv w ha hb hc hd t0 t1 hb1 hb0 (hid h0) (hid h1) (hid hf) hl1 hl2 (n48 k48) (n43 k43) (n44 k44)
      · have k48 : o ≠ 48 := fun h => by have := h48 h; omega
        have k43 : o ≠ 43 := fun h => by have := h43 (.inl h); omega
        have k44 : o ≠ 44 := fun h => by have := h43 (.inr h); omega
        have kk : ¬ ((o = 43 ∨ o = 44) ∧ rallowedS lv ((a : Int) % 16) = false) := fun h => by rcases h.1 with h | h <;> omega
        rw [if_neg k48, if_neg kk]
        exact dec_g50 a b c d m v o l lv w ha hb hc hd t0 t1 hb1 hb0 (hid h0) (hid h1) (hid hf) hl1 hl2 (n48 k48) (n43 k43) (n44 k44)
      · have k48 : o ≠ 48 := fun h => by have := h48 h; omega
        refine (dec_g51 a b c d m v o l lv w ha hb hc hd t0 t1 hb1 hb0 (hid h0) (hid h1) (hid hf) hl1 hl2 (n48 k48)).mono fun e w' ⟨he, hB⟩ => ⟨he.trans ?_, hB⟩
        rw [if_neg k48]
        by_cases k : (o = 43 ∨ o = 44) ∧ rallowedS lv ((a : Int) % 16) = false
        · rw [if_pos k]
          obtain ⟨rfl | rfl, k2⟩ := k <;> rw [k2] <;> rfl
        · rw [if_neg k]
          by_cases k3 : o = 43 ∨ o = 44
          · have k4 : rallowedS lv ((a : Int) % 16) = true := by simpa [k3] using k
            rw [k4]; simp; rfl
          · rw [n43 (by omega), n44 (by omega)]; rfl
      · have k48 : o ≠ 48 := fun h => by have := h48 h; omega
        have k43 : o ≠ 43 := fun h => by have := h43 (.inl h); omega
        have k44 : o ≠ 44 := fun h => by have := h43 (.inr h); omega
        have kk : ¬ ((o = 43 ∨ o = 44) ∧ rallowedS lv ((a : Int) % 16) = false) := fun h => by rcases h.1 with h | h <;> omega
        rw [if_neg k48, if_neg kk]
        exact dec_g52 a b c d m v o l lv w ha hb hc hd t0 t1 hb1 hb0 (hid h0) (hid h1) (hid hf) hl1 hl2 (n48 k48) (n43 k43) (n44 k44)
      · have k48 : o ≠ 48 := fun h => by have := h48 h; omega
        have k43 : o ≠ 43 := fun h => by have := h43 (.inl h); omega
        have k44 : o ≠ 44 := fun h => by have := h43 (.inr h); omega
        have kk : ¬ ((o = 43 ∨ o = 44) ∧ rallowedS lv ((a : Int) % 16) = false) := fun h => by rcases h.1 with h | h <;> omega
        rw [if_neg k48, if_neg kk]
        exact dec_g53 a b c d m v o l lv w ha hb hc hd t0 t1 hb1 hb0 (hid h0) (hid h1) (hid hf) hl1 hl2 (n48 k48) (n43 k43) (n44 k44)
end Go.Proofs.YtepkaagbjfnpbaaDoor
