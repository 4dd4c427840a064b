import Derived.Test.YtepkaagbjfnpbaaDoorA8
namespace Go.Proofs.YtepkaagbjfnpbaaDoor
open Go.RowKit
theorem picked_lt {n m k : Nat} (h1 : n + 3 ≤ m) (h2 : m + 2 ≤ k) : (∀ j, n < k + j) ∧ n < k ∧ (∀ j, n + 1 < k + j) ∧ n + 1 < k ∧ (∀ j, n + 1 + 1 < k + j) ∧ n + 1 + 1 < k ∧ (∀ j, m + 1 < k + j) ∧ m + 1 < k :=
  ⟨fun j => by omega, by omega, fun j => by omega, by omega, fun j => by omega, by omega, fun j => by omega, by omega⟩
theorem picked_below {w w3 wc w6 : World} {a b c d : Nat} {C : Array Value} (h : Picked w w3 a b c d C wc) (hb : Below wc.heap.size wc w6) : Picked w w3 a b c d C w6 := by
  have up : ∀ {i : Nat} {D : Array Value} {T : TypeId}, At wc i D T → At w6 i D T := fun {i D T} h1 => at_below h1 hb (Array.getElem?_eq_some_iff.1 h1).1
  exact ⟨up h.b0, up h.b1, up h.b2, up h.b3, by have := hb.size; have := h.size; omega, h.below.trans (hb.mono (by have := h.below.size; omega))⟩
end Go.Proofs.YtepkaagbjfnpbaaDoor
