import Derived.Test.YtgfagophgipldaaA5
import Derived.Test.YtgfagophgipldaaF0
import Derived.ProofKit
import Derived.OpenShut
import Derived.Carry
namespace Go.Proofs.Ytgfagophgipldaa
open Go.ChangeShapes Go.WideShapes Go.ChangeAt Go.RowKit
theorem word_of {x : Int} (h : (Lit.int .u16 x).wf = true) : ∃ n : Nat, x = n ∧ n < 65536 := by
  have := bounds_u16 h
  exact ⟨x.toNat, by omega, by omega⟩
/-- Every number of the list is a byte. -/
def ByteL (L : List Int) : Prop := ∀ x ∈ L, 0 ≤ x ∧ x < 256
theorem open_row {H : Type} {enc : TypeId × Value → H} {W : World} {a : Option Addr} {n cap : Nat} {d : DataW H} {p : List MemPlace} {sp : Nat → Bool}
    (h0 : DataW.Trod enc Try.prog W 0 sp true 24 (.slice a n cap) d p) : ∃ L, Rd W (.slice a n cap) L ∧ ByteL L ∧ L.length ≤ maxLen := by
  obtain ⟨fuel, hf0⟩ := h0
  have hf : DataW.trod enc Try.prog W 0 sp true fuel 24 [.slice a n cap] = some (d, p) := hf0
  rcases open_ints Try.underlying24 Try.underlying5 (by kernel_rfl) hf with ⟨hcs, _⟩ | ⟨x, l, c, zs, hcs, _, hl, hm, hz, _, hcell, hwz⟩
  · simp only [List.cons.injEq, and_true] at hcs
    rw [hcs]
    exact ⟨[], .inl ⟨⟨_, _, rfl⟩, rfl⟩, by simp [ByteL], by simp⟩
  · simp only [List.cons.injEq, and_true] at hcs
    rw [hcs]
    have hlz : l ≤ zs.length := by rw [hz]; split <;> omega
    have hL : (zs.take l).length = l := by rw [List.length_take]; omega
    refine ⟨zs.take l, ?_, fun n hn => ?_, by omega⟩
    · rcases Nat.eq_zero_or_pos l with h0 | h0
      · subst h0
        exact .inl ⟨⟨_, _, rfl⟩, rfl⟩
      · have hc := hcell 0 (by omega)
        have hsp : x.spot = none := by simpa [Addr.add] using World.cell?_spot hc
        obtain ⟨b, off, spot⟩ := x
        simp only at hsp
        subst hsp
        refine .inr ⟨b, off, c, by rw [hL], World.block_lt_of_cell? W _ hc, fun j y hy => ?_⟩
        rw [List.getElem?_take] at hy
        split at hy
        · have h1 := hcell j (by omega)
          rw [addr_add] at h1
          rw [h1, List.getD_eq_getElem?_getD, hy]
          rfl
        · cases hy
    · have := bounds_u8 (hwz n (List.mem_of_mem_take hn))
      omega
end Go.Proofs.Ytgfagophgipldaa
