import Derived.Test.YtepkaagbjfnpbaaDoorB1
import Derived.Test.YtepkaagbjfnpbaaDoorA6
namespace Go.Proofs.YtepkaagbjfnpbaaDoor
open Go.RowKit

theorem rule_more : ∀ r ∈ tbl1 ++ tbl2, 1 ≤ r.op ∧ r.op ≤ 51 ∧ 1 ≤ r.level ∧ r.level ≤ 3 ∧ level2 r.op = r.level ∧ (r.op = 48 → r.mask = 65535 ∧ r.value = 61440 ∧ r.level = 3) ∧ (r.op = 49 ↔ r.pick = 53) ∧ (r.op = 43 ∨ r.op = 44 → r.level = 2) := by
  have h : (tbl1 ++ tbl2).all (fun r => decide (1 ≤ r.op ∧ r.op ≤ 51 ∧ 1 ≤ r.level ∧ r.level ≤ 3 ∧ level2 r.op = r.level ∧ (r.op = 48 → r.mask = 65535 ∧ r.value = 61440 ∧ r.level = 3) ∧ (r.op = 49 ↔ r.pick = 53) ∧ (r.op = 43 ∨ r.op = 44 → r.level = 2))) = true := by kernel_rfl
  intro r hr
  have := List.all_eq_true.1 h r hr
  exact of_decide_eq_true this
theorem find_long : findR (tbl1 ++ tbl2) 61440 = some ⟨65535, 61440, 48, 3, 45⟩ := by kernel_rfl

/-- An instruction that is neither illegal nor long, as the decoder makes it at level lv and above. -/
structure Plain (a b : Nat) (lv o x y n nn ad : Int) : Prop where
  dec : ∀ e m, lv ≤ m → m ≤ 3 → implDec a b e m = ic o x y n nn ad 2
  op : 1 ≤ o ∧ o ≤ 51 ∧ o ≠ 48
  fx : x = 0 ∨ x = (a : Int) % 16
  fy : y = 0 ∨ y = (b : Int) / 16
  fn : n = 0 ∨ n = (b : Int) % 16 ∨ (o = 49 ∧ n = (a : Int) % 16)
  fnn : nn = 0 ∨ nn = (b : Int)
  fad : ad = 0 ∨ ad = (a : Int) % 16 * 256 + b
  level : 1 ≤ level2 o ∧ level2 o ≤ lv
  short : ¬ (a = 240 ∧ b = 0)

theorem allowed_up (lv m x : Int) (h1 : 2 ≤ lv) (h2 : lv ≤ m) (h3 : m ≤ 3) (h : rallowedS lv x = true) : rallowedS m x = true := by
  unfold rallowedS at *
  have : lv = 2 ∨ lv = 3 := by omega
  have : m = 2 ∨ m = 3 := by omega
  rcases ‹lv = 2 ∨ lv = 3› with rfl | rfl <;> rcases ‹m = 2 ∨ m = 3› with rfl | rfl <;> simp at h ⊢ <;> omega

theorem dec_cases (a b : Nat) (lv : Int) (ha : a < 256) (hb : b < 256) (h1 : 1 ≤ lv) (h3 : lv ≤ 3) :
    ((∀ e, implDec a b e lv = ic 0 0 0 0 0 0 2) ∧ ¬ (a = 240 ∧ b = 0 ∧ lv = 3)) ∨
    ((∀ e, implDec a b e lv = ic 48 0 0 0 0 e 4) ∧ a = 240 ∧ b = 0 ∧ lv = 3) ∨
    ∃ o x y n nn ad, Plain a b lv o x y n nn ad := by
  by_cases hF : a = 240 ∧ b = 0
  · obtain ⟨rfl, rfl⟩ := hF
    by_cases h : lv = 3
    · subst h
      refine .inr (.inl ⟨fun e => ?_, rfl, rfl, rfl⟩)
      unfold implDec
      rw [show 240 * 256 + 0 = 61440 from rfl, find_long]
      rfl
    · refine .inl ⟨fun e => ?_, fun h' => h h'.2.2⟩
      unfold implDec
      rw [show 240 * 256 + 0 = 61440 from rfl, find_long]
      dsimp only
      rw [if_pos (by left; omega)]
  · cases hf : findR (tbl1 ++ tbl2) (a * 256 + b) with
    | none => exact .inl ⟨fun e => by unfold implDec; rw [hf], fun h => hF ⟨h.1, h.2.1⟩⟩
    | some r =>
      have hm := rule_pick r (List.mem_of_find?_eq_some hf)
      have hm2 := rule_more r (List.mem_of_find?_eq_some hf)
      have hfit : fits (a * 256 + b) r = true := List.find?_some hf
      obtain ⟨m, v, o, l, p⟩ := r
      dsimp only at hm hm2
      obtain ⟨hp1, hp2, h48, h43⟩ := hm
      obtain ⟨ho1, ho2, hl1, hl3, hlev, hv48, h49, hl43⟩ := hm2
      have n48 : o ≠ 48 := by
        intro e
        obtain ⟨rfl, rfl, -⟩ := hv48 e
        unfold fits at hfit
        have := Nat.eq_of_beq_eq_true hfit
        dsimp only at this
        rw [show (65535 : Nat) = 2 ^ 16 - 1 from rfl, Nat.and_two_pow_sub_one_eq_mod] at this
        exact hF ⟨by omega, by omega⟩
      by_cases hl : lv < l
      · exact .inl ⟨fun e => by unfold implDec; rw [hf]; dsimp only; rw [if_pos (.inl hl)], fun h => hF ⟨h.1, h.2.1⟩⟩
      · by_cases ha43 : (o = 43 ∨ o = 44) ∧ rallowedS lv ((a : Int) % 16) = false
        · refine .inl ⟨fun e => ?_, fun h => hF ⟨h.1, h.2.1⟩⟩
          unfold implDec
          rw [hf]
          dsimp only
          rw [if_neg (by omega), if_neg n48, if_pos ha43]
        · refine .inr (.inr ?_)
          have hdec : ∀ e m, lv ≤ m → m ≤ 3 → implDec a b e m = pickS p o ((a : Int) % 16) ((b : Int) / 16) ((b : Int) % 16) b ((a : Int) % 16 * 256 + b) := by
            intro e m h4 h5
            unfold implDec
            rw [hf]
            dsimp only
            rw [if_neg (by omega), if_neg n48, if_neg]
            rintro ⟨k1, k2⟩
            have k3 : rallowedS lv ((a : Int) % 16) = true := by simpa [k1] using ha43
            rw [allowed_up lv m _ (by have := hl43 k1; omega) h4 h5 k3] at k2
            cases k2
          have hop : 1 ≤ (o : Int) ∧ (o : Int) ≤ 51 ∧ (o : Int) ≠ 48 := ⟨by omega, by omega, by omega⟩
          have hle : 1 ≤ level2 o ∧ level2 o ≤ lv := by rw [hlev]; omega
          obtain rfl | rfl | rfl | rfl | rfl | rfl | rfl | rfl | rfl : p = 45 ∨ p = 46 ∨ p = 47 ∨ p = 48 ∨ p = 49 ∨ p = 50 ∨ p = 51 ∨ p = 52 ∨ p = 53 := by omega
          · exact ⟨o, 0, 0, 0, 0, 0, hdec, hop, .inl rfl, .inl rfl, .inl rfl, .inl rfl, .inl rfl, hle, hF⟩
          · exact ⟨o, 0, 0, 0, 0, _, hdec, hop, .inl rfl, .inl rfl, .inl rfl, .inl rfl, .inr rfl, hle, hF⟩
          · exact ⟨o, _, 0, 0, _, 0, hdec, hop, .inr rfl, .inl rfl, .inl rfl, .inr rfl, .inl rfl, hle, hF⟩
          · exact ⟨o, _, _, 0, 0, 0, hdec, hop, .inr rfl, .inr rfl, .inl rfl, .inl rfl, .inl rfl, hle, hF⟩
          · exact ⟨o, _, 0, 0, 0, _, hdec, hop, .inr rfl, .inl rfl, .inl rfl, .inl rfl, .inr rfl, hle, hF⟩
          · exact ⟨o, _, _, _, 0, 0, hdec, hop, .inr rfl, .inr rfl, .inr (.inl rfl), .inl rfl, .inl rfl, hle, hF⟩
          · exact ⟨o, _, 0, 0, 0, 0, hdec, hop, .inr rfl, .inl rfl, .inl rfl, .inl rfl, .inl rfl, hle, hF⟩
          · exact ⟨o, 0, 0, _, 0, 0, hdec, hop, .inl rfl, .inl rfl, .inr (.inl rfl), .inl rfl, .inl rfl, hle, hF⟩
          · exact ⟨o, 0, 0, _, 0, 0, hdec, hop, .inl rfl, .inl rfl, .inr (.inr ⟨by have := h49.2 rfl; omega, rfl⟩), .inl rfl, .inl rfl, hle, hF⟩
end Go.Proofs.YtepkaagbjfnpbaaDoor
