import Derived.Test.YtepkaagbjfnpbaaDoorC0
namespace Go.Proofs.YtepkaagbjfnpbaaDoor
open Go.RowKit

theorem or_of {n p : Int} {P : Prop} (h : n = 0 ∨ n = p ∨ P) : (n == 0) = false → (n == p) = false → P := by
  intro a b
  rw [beq_eq_false_iff_ne] at a b
  rcases h with h | h | h
  · exact absurd h a
  · exact absurd h b
  · exact h
theorem or_of2 {n p : Int} (h : n = 0 ∨ n = p) : (n == 0) = false → (n == p) = true := by
  intro a
  rw [beq_eq_false_iff_ne] at a
  rcases h with h | h
  · exact absurd h a
  · rw [beq_iff_eq]; exact h
theorem fields_walk (a b c d l : Nat) (w : World) (h : Tab w) (ha : a < 256) (hb : b < 256) (hc : c < 256) (hd : d < 256) (hl : l < 256) :
    Calls Tryd.prog 7 #[.agg #[.int .u8 a, .int .u8 b, .int .u8 c, .int .u8 d], .int .u8 l] w fun e w' => e = .returned (.bool true) ∧ Below w.heap.size w w' := by
  rcases dec_cases a b (1 + (l : Int) % 3) ha hb (by omega) (by omega) with ⟨h1, -⟩ | ⟨h1, -, -, -⟩ | ⟨o, x, y, n, nn, ad, P⟩
  · exact fields_ill a b c d l w h ha hb hc hd hl (hid (h1 _))
  · exact fields_core a b c d l 48 0 0 0 0 _ 4 w h ha hb hc hd hl (hid (h1 _)) rfl (fun k => by cases k) (fun k => by cases k) (fun k => by cases k) (fun k => by cases k) (fun k => by cases k) (fun _ _ => rfl) (fun _ _ => by rw [beq_iff_eq])
  · exact fields_core a b c d l o x y n nn ad 2 w h ha hb hc hd hl (hid (P.dec _ _ (Int.le_refl _) (by omega))) (by have := P.op; rw [beq_eq_false_iff_ne]; omega) (or_of2 P.fx) (or_of2 P.fy)
      (fun p q => by have := or_of P.fn p q; rw [beq_iff_eq]; exact this.1) (fun p q => by have := or_of P.fn p q; rw [beq_iff_eq]; exact this.2) (or_of2 P.fnn)
      (fun p q => by have := or_of2 P.fad p; rw [this] at q; cases q) (fun p q => by have := or_of2 P.fad p; rw [this] at q; cases q)
end Go.Proofs.YtepkaagbjfnpbaaDoor
