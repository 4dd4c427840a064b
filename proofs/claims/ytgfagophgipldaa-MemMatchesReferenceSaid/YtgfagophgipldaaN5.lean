import Derived.Test.YtgfagophgipldaaN4
namespace Go.Proofs.Ytgfagophgipldaa
open Go.RowKit
abbrev Wr := Int × Value × List Int
/-- The bytes behind the first k writes; the log behind them. -/
def writes (M : List Int) (W : List Wr) : Nat → List Int
  | 0 => M
  | k + 1 => mput (writes M W k) (W.getD k (0, .nilFunc, [])).1 (W.getD k (0, .nilFunc, [])).2.2
def logs (W : List Wr) : Nat → List (Int × Int)
  | 0 => []
  | k + 1 => logn (logs W k) ((W.getD k (0, .nilFunc, [])).1 % 65536) ((W.getD k (0, .nilFunc, [])).2.2.length)
theorem writes_len (M : List Int) (W : List Wr) (hM : M.length = 65536) : ∀ k, (writes M W k).length = 65536
  | 0 => hM
  | k + 1 => by unfold writes; rw [mput_length]; exact writes_len M W hM k
theorem logs_len (W : List Wr) : ∀ k, (logs W k).length ≤ k
  | 0 => Nat.le_refl _
  | k + 1 => by
    have := logs_len W k
    have h := logn_lt (l := logs W k) (a := (W.getD k (0, .nilFunc, [])).1 % 65536) (n := (W.getD k (0, .nilFunc, [])).2.2.length) (k := k + 1) (by omega)
    unfold logs
    omega
theorem writes_at {M : List Int} {W : List Wr} {k : Nat} {x : Wr} (hx : W[k]? = some x) : writes M W (k + 1) = mput (writes M W k) x.1 x.2.2 := by
  have h : W.getD k (0, .nilFunc, []) = x := by rw [List.getD_eq_getElem?_getD, hx]; rfl
  show mput (writes M W k) (W.getD k (0, .nilFunc, [])).1 (W.getD k (0, .nilFunc, [])).2.2 = _
  rw [h]
theorem logs_at {W : List Wr} {k : Nat} {x : Wr} (hx : W[k]? = some x) : logs W (k + 1) = logn (logs W k) (x.1 % 65536) x.2.2.length := by
  have h : W.getD k (0, .nilFunc, []) = x := by rw [List.getD_eq_getElem?_getD, hx]; rfl
  show logn (logs W k) ((W.getD k (0, .nilFunc, [])).1 % 65536) ((W.getD k (0, .nilFunc, [])).2.2.length) = _
  rw [h]
theorem few_len {W : List Wr} {n : Nat} (h : fewB W n = true) : W.length ≤ 20 ∧ n ≤ 2000 := by
  unfold fewB at h
  simp only [Bool.and_eq_true, decide_eq_true_eq] at h
  exact ⟨h.1.2, h.2⟩
theorem few_at {W : List Wr} {n k : Nat} {x : Wr} (h : fewB W n = true) (hx : W[k]? = some x) : x.2.2.length ≤ 100 ∧ -1000000 ≤ x.1 ∧ x.1 ≤ 1000000 := by
  have hl := (few_len h).1
  have hk : k < W.length := (List.getElem?_eq_some_iff.1 hx).1
  unfold fewB at h
  simp only [Bool.and_eq_true] at h
  have h1 := List.all_eq_true.1 h.1.1 x (List.mem_iff_getElem?.2 ⟨k, by rw [List.getElem?_take, if_pos (by omega)]; exact hx⟩)
  unfold okW at h1
  simp only [Bool.and_eq_true, decide_eq_true_eq] at h1
  omega
/-! What a slice of bytes of the call's own keeps. -/
theorem Own.wrote {w w' : World} {B B2 g : Nat} {s s' v : Value} {M L : List Int} {log : List (Int × Int)} (h : Own B w v L) (hm : MemL w B2 g s M log) (r : Wrote w w' g s s') : Own B w' v L := by
  unfold Own at h ⊢
  refine ⟨h.1, h.2.imp id fun ⟨k, c, x, h1, h2, h3, h4⟩ => ⟨k, c, x, h1, h2, ?_, h4⟩⟩
  have hk : k ≠ g := fun e => by
    rw [e, hm.mem.1] at h3
    cases h3
  rw [r.block k (Array.getElem?_eq_some_iff.1 h3).1 hk (own_ne hm.own h3 (by decide))]
  exact h3
theorem Own.below {w w' : World} {B : Nat} {v : Value} {L : List Int} (h : Own B w v L) (hb : Below w.heap.size w w') : Own B w' v L :=
  World.ownsRow.kept (row := none) h ⟨hb.os, hb.tape, hb.output, hb.size, fun k hk _ => hb.block k hk⟩ (by cases v.ownBlock <;> simp)
/-- A write that came in. -/
theorem rdw_at {w : World} {v : Value} {W : List Wr} {k : Nat} {x : Wr} (h : RdW w v W) (hx : W[k]? = some x) : ∃ g off cap, v = .slice (some ⟨g, off, none⟩) W.length cap ∧ g < w.heap.size ∧
    w.cell? ⟨g, off + k * 2, none⟩ = some (.int .i64 x.1) ∧ w.cell? ⟨g, off + k * 2 + 1, none⟩ = some x.2.1 ∧ Rd w x.2.1 x.2.2 := by
  rcases h with ⟨-, rfl⟩ | ⟨g, off, cap, h1, h2, h3⟩
  · simp at hx
  · exact ⟨g, off, cap, h1, h2, h3 k x hx⟩
theorem rdw_view {w : World} {v : Value} {W : List Wr} (h : RdW w v W) : ∃ ao cap, v = .slice ao W.length cap := by
  rcases h with ⟨⟨ao, cap, rfl⟩, rfl⟩ | ⟨g, off, cap, h1, -, -⟩
  · exact ⟨ao, cap, rfl⟩
  · exact ⟨_, cap, h1⟩
theorem rdw_below {w w' : World} {v : Value} {W : List Wr} (h : RdW w v W) (hb : Below w.heap.size w w') : RdW w' v W := by
  rcases h with h | ⟨g, off, cap, h1, h2, h3⟩
  · exact .inl h
  · refine .inr ⟨g, off, cap, h1, Nat.lt_of_lt_of_le h2 hb.size, fun j x hx => ?_⟩
    obtain ⟨a1, a2, a3⟩ := h3 j x hx
    exact ⟨(hb.cell (p := ⟨g, _, none⟩) h2).trans a1, (hb.cell (p := ⟨g, _, none⟩) h2).trans a2, rd_below a3 hb⟩
end Go.Proofs.Ytgfagophgipldaa
