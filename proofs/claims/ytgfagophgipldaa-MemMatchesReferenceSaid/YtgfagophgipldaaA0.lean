import Derived.Test.YtgfagophgipldaaChecked
import Derived.WalkKit
import Derived.WalkSpells
import Derived.WalkLawsBesides
import Derived.Handy
import Derived.OwnWalk
import Derived.Laws.OwnMore
import Derived.IntWalk
import Derived.StillTailTactics
import Derived.Lib.Hide
namespace Go.Proofs.Ytgfagophgipldaa
open Go.RowKit

theorem hid {p : Prop} (h : p) : Hid p := h
theorem Try.info5 : (Try.prog.info? 5).map (fun i => (i.zero, i.size, i.bytes)) = some (some (.int .u8 0), 1, 1) := by kernel_rfl
/-- A list of bytes as cells. -/
def bs (L : List Int) : List Value := L.map (Value.int .u8)
theorem bs_length (L : List Int) : (bs L).length = L.length := by simp [bs]
/-- A slice of bytes that reads L. -/
def Rd (w : World) (v : Value) (L : List Int) : Prop :=
  ((∃ ao cap, v = .slice ao 0 cap) ∧ L = []) ∨ ∃ g off cap, v = .slice (some ⟨g, off, none⟩) L.length cap ∧ g < w.heap.size ∧ ∀ j x, L[j]? = some x → w.cell? ⟨g, off + j, none⟩ = some (.int .u8 x)
/-- A slice of the call's own. -/
def Own (B : Nat) (w : World) (v : Value) (L : List Int) : Prop := w.ownsRow B 5 1 v L.length (bs L)

/-- The value of a digit of base 16. -/
def dg (c : Int) : Int := if 65 ≤ c then c - 55 else c - 48
theorem digit_any (c : Nat) (w : World) (hc : c < 256) : Calls Try.prog 43 #[.int .u8 c] w fun e w' => e = .returned (.int .i64 (dg c)) ∧ w' = w := by
  by_cases h : 65 ≤ c
  · have h' : (65 : Int) ≤ c := by omega
    have e1 : dg c = (c : Int) - 65 + 10 := by unfold dg; rw [if_pos h']; omega
    rw [e1]
    go_enter Try.func43, Try.ntmps43
    go_wp2
    go_ret
    exact ⟨rfl, rfl⟩
  · have h' : ¬ (65 : Int) ≤ c := by omega
    have e1 : dg c = (c : Int) - 48 := by unfold dg; rw [if_neg h']
    rw [e1]
    go_enter Try.func43, Try.ntmps43
    go_wp2
    go_ret
    exact ⟨rfl, rfl⟩
end Go.Proofs.Ytgfagophgipldaa
