import Derived.Test.YtgfagophgipldaaN2
import Derived.Test.YtgfagophgipldaaN1
namespace Go.Proofs.Ytgfagophgipldaa
open Go.RowKit
/-- Two logs that do not share a row. -/
def Apart (s t : Value) : Prop := ∀ k, s.ownBlock = some k → t.ownBlock ≠ some k
theorem Apart.symm {s t : Value} (h : Apart s t) : Apart t s := fun k hk e => h k e hk
theorem Apart.nil (t : Value) : Apart (.slice none 0 0) t := fun k hk => by simp [Value.ownBlock] at hk
theorem MemL.other {w w' : World} {B g B2 g2 : Nat} {s s' s2 : Value} {M M2 : List Int} {log log2 : List (Int × Int)} (h : MemL w B g s M log) (h2 : MemL w B2 g2 s2 M2 log2) (r : Wrote w w' g2 s2 s') (hg : g ≠ g2) (ha : Apart s s2) :
    MemL w' B g s M log ∧ Apart s s' := by
  refine ⟨h.wrote h2 r hg ?_, fun k hk e => ?_⟩
  · cases hs : s.ownBlock with
    | none => exact .inl rfl
    | some k => exact .inr fun e => ha k hs e.symm
  · rcases r.fresh with e' | e'
    · rw [e'] at e; exact ha k hk e
    · have := e' k e
      have := (h.own.lt k hk).2
      omega
/-- Three memories of the call's own, apart from each other. -/
structure Three (w : World) (B : Nat) (a b c : Nat × Value × List Int × List (Int × Int)) : Prop where
  m1 : MemL w B a.1 a.2.1 a.2.2.1 a.2.2.2
  m2 : MemL w B b.1 b.2.1 b.2.2.1 b.2.2.2
  m3 : MemL w B c.1 c.2.1 c.2.2.1 c.2.2.2
  n12 : a.1 ≠ b.1
  n13 : a.1 ≠ c.1
  n23 : b.1 ≠ c.1
  a12 : Apart a.2.1 b.2.1
  a13 : Apart a.2.1 c.2.1
  a23 : Apart b.2.1 c.2.1
theorem Three.rot {w : World} {B : Nat} {a b c : Nat × Value × List Int × List (Int × Int)} (h : Three w B a b c) : Three w B b c a :=
  ⟨h.m2, h.m3, h.m1, h.n23, h.n12.symm, h.n13.symm, h.a23, h.a12.symm, h.a13.symm⟩
theorem Three.below {w w' : World} {B : Nat} {a b c : Nat × Value × List Int × List (Int × Int)} (h : Three w B a b c) (hb : Below w.heap.size w w') : Three w' B a b c :=
  ⟨h.m1.below hb, h.m2.below hb, h.m3.below hb, h.n12, h.n13, h.n23, h.a12, h.a13, h.a23⟩
theorem Three.write {w w' : World} {B g : Nat} {s s' : Value} {M M' : List Int} {l l' : List (Int × Int)} {b c : Nat × Value × List Int × List (Int × Int)} (h : Three w B (g, s, M, l) b c) (hm : MemL w' B g s' M' l') (r : Wrote w w' g s s') :
    Three w' B (g, s', M', l') b c := by
  obtain ⟨x2, y2⟩ := h.m2.other h.m1 r h.n12.symm h.a12.symm
  obtain ⟨x3, y3⟩ := h.m3.other h.m1 r h.n13.symm h.a13.symm
  exact ⟨hm, x2, x3, h.n12, h.n13, h.n23, y2.symm, y3.symm, h.a23⟩
theorem Three.of {w w2 w3 : World} {B g1 g2 g3 : Nat} {M1 M2 M3 : List Int} (m1 : MemL w B g1 (.slice none 0 0) M1 []) (b1 : Below w.heap.size w w2) (m2 : MemL w2 w.heap.size g2 (.slice none 0 0) M2 []) (b2 : Below w2.heap.size w2 w3) (m3 : MemL w3 w2.heap.size g3 (.slice none 0 0) M3 []) (hB : B ≤ w.heap.size) :
    Three w3 B (g1, .slice none 0 0, M1, []) (g2, .slice none 0 0, M2, []) (g3, .slice none 0 0, M3, []) := by
  have h1 := m1.mem.lt
  have h2 := m2.mem.lt
  have h3 := m2.low
  have h4 := m3.low
  have h5 := b1.size
  exact ⟨(m1.below b1).below b2, (m2.below b2).base hB, m3.base (by omega), by show g1 ≠ g2; omega, by show g1 ≠ g3; omega, by show g2 ≠ g3; omega, Apart.nil _, Apart.nil _, Apart.nil _⟩
theorem rdw_two {w : World} {a : Int} {vb vc : Value} {b c : List Int} (hb : Rd w vb b) (hc : Rd w vc c) : RdW (w.alloc (.cells #[.int .i64 a, vb, .int .i64 a, vc] 46)) (.slice (some ⟨w.heap.size, 0, none⟩) 2 2) [(a, vb, b), (a, vc, c)] := by
  refine .inr ⟨w.heap.size, 0, 2, rfl, by simp, fun j x hx => ?_⟩
  have hj : j < 2 := (List.getElem?_eq_some_iff.1 hx).1
  obtain rfl | rfl : j = 0 ∨ j = 1 := by omega
  all_goals
    simp at hx
    subst hx
    refine ⟨?_, ?_, by first | exact rd_alloc hb _ | exact rd_alloc hc _⟩
    · rw [cell_of_row _ _ _ _ _ _ (heap_alloc_new w _)]; rfl
    · rw [cell_of_row _ _ _ _ _ _ (heap_alloc_new w _)]; rfl
theorem few_two_ok {a : Int} {vb vc : Value} {b c : List Int} {n : Nat} (h : fewB [(a, vb, b), (a, vc, c)] n = true) : b.length ≤ 100 ∧ c.length ≤ 100 ∧ -1000000 ≤ a ∧ a ≤ 1000000 ∧ n ≤ 2000 := by
  unfold fewB okW at h
  simp only [List.take_succ_cons, List.take_nil, List.all_cons, List.all_nil, Bool.and_eq_true, decide_eq_true_eq] at h
  omega
set_option maxRecDepth 100000 in
set_option maxHeartbeats 2000000 in
theorem over_bad (rom b c : List Int) (a : Int) (vr vb vc : Value) (w : World) (hr : Rd w vr rom) (hb : Rd w vb b) (hc : Rd w vc c) (hbad : fewB [(a, vb, b), (a, vc, c)] rom.length = false) :
    Calls Try.prog 11 #[vr, .int .i64 a, vb, vc] w fun e w' => e = .returned (.bool true) ∧ Below w.heap.size w w' := by
  obtain ⟨ro, rcap, rfl, -⟩ := rd_view hr
  obtain ⟨bo, bcap, rfl, -⟩ := rd_view hb
  obtain ⟨co, ccap, rfl, -⟩ := rd_view hc
  have HB := hid hb
  have HC := hid hc
  have HF := hid hbad
  clear hr hb hc hbad
  go_enter Try.func11, Try.ntmps11
  go_wp2_with fail
  refine (memAwake_any _).mono ?_
  rintro e1 w1 ⟨rfl, b1⟩
  have Q1 := hid b1
  have B1 := hid (rd_below HB.out b1)
  have C1 := hid (rd_below HC.out b1)
  clear b1
  go_wp2_with fail
  refine (few_any [(a, .slice bo b.length bcap, b), (a, .slice co c.length ccap, c)] rom.length ro rcap _ _ (rdw_two B1.out C1.out)).mono ?_
  rintro e2 w2 ⟨rfl, rfl⟩
  rw [HF.out]
  have Q2 := hid (Q1.out.alloc Q1.out.size (.cells #[.int .i64 a, .slice bo b.length bcap, .int .i64 a, .slice co c.length ccap] 46))
  clear Q1 B1 C1
  go_wp2_with fail
  refine (memAwake_any _).mono ?_
  rintro e3 w3 ⟨rfl, b3⟩
  have Q3 := hid (bel_t Q2.out b3)
  clear Q2 b3
  go_wp2_with fail
  go_ret
  exact ⟨rfl, Q3.out⟩
end Go.Proofs.Ytgfagophgipldaa
