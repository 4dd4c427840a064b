import Derived.Test.YtgfagophgipldaaF1
import Derived.Test.YtgfagophgipldaaM7
import Derived.Deep.Slices
import Derived.ChangeSame
namespace Go.Proofs.Ytgfagophgipldaa
open Go.ChangeShapes Go.WideShapes Go.ChangeAt Go.RowKit
theorem open_row1 {H : Type} {enc : TypeId × Value → H} {W : World} {cs : List Value} {x : DataW H × List MemPlace} {sp : Nat → Bool} {fuel : Nat}
    (h : DataW.trod enc Try.prog W 0 sp true fuel 24 cs = some x) : ∃ v L, cs = [v] ∧ Rd W v L ∧ ByteL L ∧ L.length ≤ maxLen := by
  have hs : ∃ a l c, cs = [.slice a l c] := by
    rcases DataW.trod_slice Try.underlying24 h with ⟨h1, -⟩ | ⟨a, len, cap, _, _, _, _, h1, -⟩
    · exact ⟨_, _, _, h1⟩
    · exact ⟨_, _, _, h1⟩
  obtain ⟨a, l, c, rfl⟩ := hs
  obtain ⟨L, h1, h2, h3⟩ := open_row (d := x.1) (p := x.2) ⟨fuel, h⟩
  exact ⟨_, L, rfl, h1, h2, h3⟩
theorem open_write1 {H : Type} {enc : TypeId × Value → H} {W : World} {cs : List Value} {x : DataW H × List MemPlace} {sp : Nat → Bool} {fuel : Nat}
    (h : DataW.trod enc Try.prog W 0 sp true fuel 46 cs = some x) : ∃ a vb b, cs = [.int .i64 a, vb] ∧ Rd W vb b ∧ ByteL b ∧ b.length ≤ maxLen := by
  obtain ⟨y0, y1, n, -, hl, h0, h1⟩ := trod_struct2 Try.underlying46 h
  have hc : cs.length = 2 := hl
  have e3 : Try.prog.cellsOf 3 = 1 := by kernel_rfl
  have e24 : Try.prog.cellsOf 24 = 1 := by kernel_rfl
  match cs, hc with
  | [u, v], _ =>
    simp only [e3, List.drop_zero, List.take_succ_cons, List.take_zero] at h0
    simp only [e24, List.drop_succ_cons, List.drop_zero, List.take_succ_cons, List.take_zero] at h1
    obtain ⟨a, ha, -, -⟩ := DataW.trod_int Try.underlying3 h0
    obtain ⟨vb, b, hb, h2, h3, h4⟩ := open_row1 h1
    simp only [List.cons.injEq, and_true] at ha hb
    subst ha hb
    exact ⟨a, _, b, rfl, h2, h3, h4⟩
theorem open_writes {H : Type} {enc : TypeId × Value → H} {W : World} {a : Option Addr} {n cap : Nat} {d : DataW H} {p : List MemPlace}
    (h0 : DataW.Trod enc Try.prog W 0 (fun _ => true) true 38 (.slice a n cap) d p) : ∃ L, RdW W (.slice a n cap) L ∧ (∀ x ∈ L, ByteL x.2.2) ∧ L.length ≤ maxLen := by
  obtain ⟨fuel, hf0⟩ := h0
  have hf : DataW.trod enc Try.prog W 0 (fun _ => true) true fuel 38 [.slice a n cap] = some (d, p) := hf0
  have e46 : Try.prog.cellsOf 46 = 2 := by kernel_rfl
  rcases Go.Deep.open_slice Try.underlying38 hf with ⟨hcs, _⟩ | ⟨x, len, c, m, k, D, Pl, hcs, _, hl, hm, hmm, _, hel⟩
  · simp only [List.cons.injEq, and_true] at hcs
    rw [hcs]
    exact ⟨[], .inl ⟨⟨_, _, rfl⟩, rfl⟩, by simp, by simp⟩
  · simp only [List.cons.injEq, and_true] at hcs
    rw [hcs]
    have hlm : len ≤ m := by rw [hmm]; simp; omega
    rcases Nat.eq_zero_or_pos len with h0 | h0
    · subst h0
      exact ⟨[], .inl ⟨⟨_, _, rfl⟩, rfl⟩, by simp, by simp⟩
    · obtain ⟨f, hfx⟩ := Go.Deep.choose_lt (n := len) (p := fun i (t : Int × Value × List Int) => W.cell? (x.add (i * 2)) = some (.int .i64 t.1) ∧ W.cell? ((x.add (i * 2)).add 1) = some t.2.1 ∧ Rd W t.2.1 t.2.2 ∧ ByteL t.2.2) (fun i hi => by
        obtain ⟨cs', h1, h2⟩ := hel i (by omega)
        rw [e46] at h1
        obtain ⟨_, hlen, hcell⟩ := World.cells?_some h1
        obtain ⟨b, vb, L, rfl, h3, h4, -⟩ := open_write1 h2
        refine ⟨(b, vb, L), ?_, ?_, h3, h4⟩
        · have := hcell 0 (by omega)
          simpa [Addr.add] using this
        · exact hcell 1 (by omega))
      have hc := (hfx 0 h0).1
      have hsp : x.spot = none := by simpa [Addr.add] using World.cell?_spot hc
      obtain ⟨g, off, spot⟩ := x
      simp only at hsp
      subst hsp
      have hL : ((List.range len).map f).length = len := by simp
      refine ⟨(List.range len).map f, .inr ⟨g, off, c, by rw [hL], ?_, fun j y hy => ?_⟩, fun y hy => ?_, by omega⟩
      · have := World.block_lt_of_cell? W _ hc
        rwa [Nat.zero_mul] at this
      · rw [List.getElem?_map] at hy
        have hj : j < len := by
          rcases Nat.lt_or_ge j len with h | h
          · exact h
          · rw [List.getElem?_eq_none (by simpa using h)] at hy; cases hy
        rw [List.getElem?_range hj] at hy
        cases hy
        obtain ⟨h1, h2, h3, -⟩ := hfx j hj
        rw [addr_add] at h1 h2
        rw [addr_add] at h2
        exact ⟨h1, h2, h3⟩
      · obtain ⟨i, hi, rfl⟩ := List.mem_map.1 hy
        exact (hfx i (by simpa using hi)).2.2.2
end Go.Proofs.Ytgfagophgipldaa
