import Derived.Test.YtgfagophgipldaaA8
import Derived.Laws.BitsLemmas
namespace Go.Proofs.Ytgfagophgipldaa
open Go.RowKit
theorem mask_any (n : Int) : bits .and .i64 n 65535 = n % 65536 := by
  have h1 : (BitVec.ofInt 64 n).toNat = (n % 18446744073709551616).toNat := by rw [BitVec.toNat_ofInt]; rfl
  have h2 : (BitVec.ofInt 64 65535).toNat = 65535 := by decide
  have h3 : (n % 18446744073709551616).toNat &&& 65535 = (n % 18446744073709551616).toNat % 65536 := Nat.and_two_pow_sub_one_eq_mod _ 16
  show IntKind.i64.wrap (((BitVec.ofInt 64 n &&& BitVec.ofInt 64 65535).toNat : Nat) : Int) = _
  rw [BitVec.toNat_and, h1, h2, h3, IntKind.wrap_i64]
  omega
theorem wrap_any (n : Int) (w : World) : Calls Try.prog 40 #[.int .i64 n] w fun e w' => e = .returned (.int .i64 (n % 65536)) ∧ w' = w := by
  have h := mask_any n
  go_enter Try.func40, Try.ntmps40
  go_wp2_with fail
  go_ret
  exact ⟨rfl, rfl⟩
theorem mod_any (n : Int) (w : World) : Calls Try.prog 30 #[.int .i64 n] w fun e w' => e = .returned (.int .i64 (n % 65536)) ∧ w' = w := by
  by_cases h : 0 ≤ n
  · have e : n.tmod 65536 = n % 65536 := Int.tmod_eq_emod_of_nonneg h
    have h2 : ¬ n % 65536 < 0 := by omega
    go_enter Try.func30, Try.ntmps30
    go_wp2_with fail
    go_ret
    exact ⟨rfl, rfl⟩
  · have e : n.tmod 65536 = if n % 65536 = 0 then 0 else n % 65536 - 65536 := by
      rw [Int.tmod_eq_emod]
      split <;> split <;> omega
    by_cases h0 : n % 65536 = 0
    · rw [if_pos h0] at e
      rw [h0]
      clear h0
      go_enter Try.func30, Try.ntmps30
      go_wp2_with fail
      go_ret
      exact ⟨rfl, rfl⟩
    · rw [if_neg h0] at e
      have h3 : n % 65536 - 65536 < 0 := by omega
      have h4 : n % 65536 - 65536 + 65536 = n % 65536 := by omega
      go_enter Try.func30, Try.ntmps30
      go_wp2_with fail
      go_ret
      exact ⟨rfl, rfl⟩
end Go.Proofs.Ytgfagophgipldaa
