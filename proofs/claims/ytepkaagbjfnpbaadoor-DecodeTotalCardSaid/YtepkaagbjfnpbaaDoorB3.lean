import Derived.Test.YtepkaagbjfnpbaaDoorB1
import Derived.Test.YtepkaagbjfnpbaaDoorB2
namespace Go.Proofs.YtepkaagbjfnpbaaDoor
open Go.RowKit

def icL (l : List Int) : Array Value := (l.map (Value.int .i64)).toArray
theorem eqL_eq : ∀ l m, eqL l m = true → l = m
  | [], [], _ => rfl
  | x :: l, y :: m, h => by
    have h' : ((x == y) && eqL l m) = true := h
    rw [Bool.and_eq_true, beq_iff_eq] at h'
    rw [h'.1, eqL_eq l m h'.2]
  | [], _ :: _, h => by cases h
  | _ :: _, [], h => by cases h
theorem pickL_eq (p : Nat) (op x y n nn nnn : Int) : icL (pickL p op x y n nn nnn) = pickS p op x y n nn nnn := by
  unfold pickL pickS
  (repeat' split) <;> rfl
theorem impl_is_ref (a b : Nat) (e lv : Int) (ha : a < 256) (hb : b < 256) : implDec a b e lv = refDec a b e lv := by
  have h := chk_all a b ha hb
  unfold chk at h
  unfold implDec refDec
  generalize hf : findR (tbl1 ++ tbl2) (a * 256 + b) = f at *
  generalize opI a b = o at *
  cases f with
  | none =>
    have h0 : (o == 0) = true := h
    dsimp only
    rw [if_pos (by simp [refBad, h0])]
  | some r =>
    have hm := rule_pick r (List.mem_of_find?_eq_some hf)
    have h' : ((o == (r.op : Int)) && !(Nat.beq r.op 0) && (levelS r.op == (r.level : Int)) && eqL (implG r a b) (goodL r.op a b)) = true := h
    simp only [Bool.and_eq_true, beq_iff_eq, Bool.not_eq_true'] at h'
    obtain ⟨⟨⟨rfl, h0⟩, hlv⟩, hg⟩ := h'
    have hg := eqL_eq _ _ hg
    dsimp only
    have n0 : r.op ≠ 0 := by intro e0; rw [e0] at h0; cases h0
    by_cases hl : lv < r.level ∨ 3 < lv
    · rw [if_pos hl, if_pos]
      rcases hl with hl | hl
      · have : decide (lv < levelS r.op) = true := by rw [hlv]; simpa using hl
        simp [refBad, this]
      · simp [refBad, hl]
    · rw [if_neg hl]
      have d1 : decide (lv < levelS r.op) = false := by rw [hlv]; simp; omega
      have d2 : decide (3 < lv) = false := by simp; omega
      have d0 : ((r.op : Int) == 0) = false := by rw [beq_eq_false_iff_ne]; omega
      by_cases h48 : r.op = 48
      · rw [if_pos h48]
        have e48 : ((r.op : Int) == 48) = true := by rw [h48]; rfl
        have e43 : ((r.op : Int) == 43) = false := by rw [h48]; rfl
        have e44 : ((r.op : Int) == 44) = false := by rw [h48]; rfl
        rw [if_neg (by simp [refBad, d0, d1, d2, e43, e44])]
        unfold refGood
        rw [h48]
        rfl
      · rw [if_neg h48]
        have e48 : ((r.op : Int) == 48) = false := by rw [beq_eq_false_iff_ne]; omega
        have hb48 : Nat.beq r.op 48 = false := by
          cases hbb : Nat.beq r.op 48
          · rfl
          · exact absurd (Nat.eq_of_beq_eq_true hbb) h48
        have fin : pickS r.pick r.op ((a : Int) % 16) ((b : Int) / 16) ((b : Int) % 16) b ((a : Int) % 16 * 256 + b) = refGood r.op ((a : Int) % 16) ((b : Int) / 16) ((b : Int) % 16) b ((a : Int) % 16 * 256 + b) e := by
          rw [← pickL_eq]
          unfold implG at hg
          rw [if_neg (by rw [hb48]; simp)] at hg
          rw [hg]
          unfold refGood goodL
          rw [e48]
          rfl
        by_cases k : (r.op = 43 ∨ r.op = 44) ∧ rallowedS lv ((a : Int) % 16) = false
        · rw [if_pos k, if_pos]
          obtain ⟨k1 | k1, k2⟩ := k <;> simp [refBad, k1, k2]
        · rw [if_neg k, if_neg]
          · exact fin
          · by_cases k3 : r.op = 43 ∨ r.op = 44
            · have k4 : rallowedS lv ((a : Int) % 16) = true := by simpa [k3] using k
              simp [refBad, d0, d1, d2, k4]
            · have e43 : ((r.op : Int) == 43) = false := by rw [beq_eq_false_iff_ne]; omega
              have e44 : ((r.op : Int) == 44) = false := by rw [beq_eq_false_iff_ne]; omega
              simp [refBad, d0, d1, d2, e43, e44]
end Go.Proofs.YtepkaagbjfnpbaaDoor
