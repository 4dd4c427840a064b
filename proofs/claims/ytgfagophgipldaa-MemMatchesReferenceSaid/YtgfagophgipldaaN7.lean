import Derived.Test.YtgfagophgipldaaN6
namespace Go.Proofs.Ytgfagophgipldaa
open Go.RowKit
set_option maxRecDepth 100000 in
set_option maxHeartbeats 2000000 in
theorem match_bad (rom : List Int) (W : List Wr) (a : Int) (n : Nat) (vr vl : Value) (w : World) (hr : Rd w vr rom) (hW : RdW w vl W) (hbad : fewB W rom.length = false ∨ a < -1000000 ∨ 1000000 < a) :
    Calls Try.prog 8 #[vr, vl, .int .i64 a, .int .u8 n] w fun e w' => e = .returned (.bool true) ∧ Below w.heap.size w w' := by
  obtain ⟨ro, rcap, rfl, -⟩ := rd_view hr
  have HW := hid hW
  clear hr hW
  rcases bool_or _ _ _ hbad with hf | ⟨hf, hc⟩ | ⟨hf, hc, hc2⟩
  all_goals
    have HF := hid hf
    clear hf hbad
    go_enter Try.func8, Try.ntmps8
    go_wp2_with fail
    refine (memAwake_any _).mono ?_
    rintro e1 w1 ⟨rfl, b1⟩
    have Q1 := hid b1
    clear b1
    go_wp2_with fail
    refine (few_any W rom.length ro rcap _ _ (rdw_below HW.out Q1.out)).mono ?_
    rintro e2 w2 ⟨rfl, rfl⟩
    rw [HF.out]
    go_wp2_with fail
    refine (memAwake_any _).mono ?_
    rintro e3 w3 ⟨rfl, b3⟩
    have Q3 := hid (bel_t Q1.out b3)
    clear Q1 b3
    go_wp2_with fail
    go_ret
    exact ⟨rfl, Q3.out⟩
/-- A log of the call's own behind a write to a memory. -/
theorem log_wrote {w w' : World} {B B2 g n : Nat} {u s s' : Value} {L : List Value} {M : List Int} {log : List (Int × Int)} (h : w.ownsRow B 49 2 u n L) (hm : MemL w B2 g s M log) (r : Wrote w w' g s s') (ha : Apart s u) :
    w'.ownsRow B 49 2 u n L ∧ Apart s' u := by
  have hu : u.ownBlock ≠ some g := own_ne h hm.mem.1 (by decide)
  refine ⟨⟨h.1, ?_⟩, fun k hk e => ?_⟩
  · rcases h.2 with h0 | ⟨k, c, x, h1, h2, h3, h4⟩
    · exact .inl h0
    refine .inr ⟨k, c, x, h1, h2, ?_, h4⟩
    subst h1
    rw [r.block k (Array.getElem?_eq_some_iff.1 h3).1 (fun e => hu (by rw [← e]; rfl)) (fun e => ha k e rfl)]
    exact h3
  · rcases r.fresh with e' | e'
    · rw [e'] at hk; exact ha k hk e
    · have := e' k hk
      have := (h.lt k e).2
      omega
/-- .. and the other way round: an append to the log leaves the memory. -/
theorem log_grown {w w' : World} {B B2 g n : Nat} {u u' s : Value} {L : List Value} {M : List Int} {log : List (Int × Int)} (h : w.ownsRow B 49 2 u n L) (hm : MemL w B2 g s M log) (r : w.grownBy w' u.ownBlock) (ha : Apart s u) (hf : u.ownBlock = u'.ownBlock ∨ ∀ k, u'.ownBlock = some k → w.heap.size ≤ k) :
    MemL w' B2 g s M log ∧ Apart s u' := by
  have hu : u.ownBlock ≠ some g := own_ne h hm.mem.1 (by decide)
  refine ⟨⟨hm.mem.of (r.block g hm.mem.lt (fun e => hu e.symm)), hm.low, hm.own.kept r ?_⟩, fun k hk e => ?_⟩
  · cases hs : s.ownBlock with
    | none => exact .inl rfl
    | some k => exact .inr fun e => ha k hs e.symm
  · rcases hf with e' | e'
    · rw [← e'] at e; exact ha k hk e
    · have := e' k e
      have := (hm.own.lt k hk).2
      omega
theorem own_grown {w w' : World} {B B2 n : Nat} {u v : Value} {L : List Value} {K : List Int} (h : w.ownsRow B2 49 2 u n L) (ho : Own B w v K) (r : w.grownBy w' u.ownBlock) : Own B w' v K := by
  refine World.ownsRow.kept ho r ?_
  cases hv : v.ownBlock with
  | none => exact .inl rfl
  | some k =>
    right
    obtain ⟨C, hC, -⟩ := own_block ho hv
    exact fun e => own_ne h hC (by decide) e.symm
theorem log_view {w : World} {B n : Nat} {u : Value} {L : List Value} (h : w.ownsRow B 49 2 u n L) : ∃ ao cap, u = .slice ao n cap ∧ (0 < n → ∃ g, ao = some ⟨g, 0, none⟩ ∧ g < w.heap.size ∧ ∀ j u, L[j]? = some u → w.cell? ⟨g, j, none⟩ = some u) := by
  rcases h.2 with ⟨rfl, rfl⟩ | ⟨g, cap, cur, rfl, h1, h2, h3, h4, h5, h6⟩
  · exact ⟨none, 0, rfl, fun h => by omega⟩
  · refine ⟨_, cap, rfl, fun _ => ⟨g, rfl, (Array.getElem?_eq_some_iff.1 h2).1, fun j u hu => ?_⟩⟩
    have := h.cells (g := g) rfl j u hu
    rwa [addr_add, Nat.zero_add] at this
theorem rs_at : ∀ (l : List (Int × Int)) (k : Nat) (x : Int × Int), l[k]? = some x → (rs l)[k * 2]? = some (.int .i64 x.1) ∧ (rs l)[k * 2 + 1]? = some (.int .i64 x.2)
  | [], k, x, h => by simp at h
  | y :: l, 0, x, h => by
    simp at h
    subst h
    exact ⟨rfl, rfl⟩
  | y :: l, k + 1, x, h => by
    have := rs_at l k x (by simpa using h)
    have e : (k + 1) * 2 = k * 2 + 1 + 1 := by omega
    rw [e]
    exact this
theorem logn_pos {l : List (Int × Int)} {a n : Int} (h : 0 < n) : logn l a n = l ++ [(a, n)] := by
  unfold logn
  rw [if_neg (by omega)]
theorem logn_zero {l : List (Int × Int)} {a : Int} : logn l a 0 = l := if_pos rfl
theorem apart_of {s : Value} : Apart s (.slice none 0 0) := fun k _ => by simp [Value.ownBlock]
end Go.Proofs.Ytgfagophgipldaa
