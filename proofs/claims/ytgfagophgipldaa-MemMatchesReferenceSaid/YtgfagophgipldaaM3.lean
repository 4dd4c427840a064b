import Derived.Test.YtgfagophgipldaaM2
namespace Go.Proofs.Ytgfagophgipldaa
open Go.RowKit
/-- The cells of a log. -/
def rs (l : List (Int × Int)) : List Value := l.flatMap fun p => [.int .i64 p.1, .int .i64 p.2]
theorem rs_snoc (l : List (Int × Int)) (a n : Int) : rs (l ++ [(a, n)]) = rs l ++ [.int .i64 a, .int .i64 n] := by simp [rs]
/-- A memory of the call's own, with its log. -/
structure MemL (w : World) (B g : Nat) (s : Value) (M : List Int) (log : List (Int × Int)) : Prop where
  mem : Mem w g s M
  low : B ≤ g
  own : w.ownsRow B 49 2 s log.length (rs log)
theorem own_ne {w : World} {B g z n : Nat} {e t : TypeId} {s : Value} {L : List Value} {C : Array Value} {fr : Nat × Nat} (h : w.ownsRow B e z s n L) (hg : w.heap[g]? = some (.cells C t fr)) (ht : t ≠ e) : s.ownBlock ≠ some g := by
  rcases h.2 with ⟨rfl, _⟩ | ⟨k, cap, cur, rfl, _, hk, _⟩
  · simp [Value.ownBlock]
  · simp only [Value.ownBlock, ne_eq, Option.some.injEq]
    rintro rfl
    rw [hk] at hg
    cases hg
    exact ht rfl
theorem MemL.apart {w : World} {B g : Nat} {s : Value} {M : List Int} {log : List (Int × Int)} (h : MemL w B g s M log) : s.ownBlock ≠ some g := own_ne h.own h.mem.1 (by decide)
/-- What a write to a memory may change. -/
structure Wrote (w w' : World) (g : Nat) (s s' : Value) : Prop where
  os : w'.os = w.os
  tape : w'.tape = w.tape
  output : w'.output = w.output
  size : w.heap.size ≤ w'.heap.size
  block : ∀ k, k < w.heap.size → k ≠ g → s.ownBlock ≠ some k → w'.heap[k]? = w.heap[k]?
  fresh : s'.ownBlock = s.ownBlock ∨ ∀ k, s'.ownBlock = some k → w.heap.size ≤ k
theorem Wrote.refl (w : World) (g : Nat) (s : Value) : Wrote w w g s s := ⟨rfl, rfl, rfl, Nat.le_refl _, fun _ _ _ _ => rfl, .inl rfl⟩
theorem Wrote.trans {a b c : World} {g : Nat} {s t u : Value} (h : Wrote a b g s t) (k : Wrote b c g t u) : Wrote a c g s u := by
  refine ⟨k.os.trans h.os, k.tape.trans h.tape, k.output.trans h.output, Nat.le_trans h.size k.size, fun i hi hg hs => ?_, ?_⟩
  · refine (k.block i (Nat.lt_of_lt_of_le hi h.size) hg ?_).trans (h.block i hi hg hs)
    rcases h.fresh with e | e
    · rw [e]; exact hs
    · intro e'; have := e i e'; omega
  · rcases k.fresh with e | e
    · rw [e]; exact h.fresh
    · exact .inr fun i hi => Nat.le_trans h.size (e i hi)
theorem Wrote.below {w w' : World} {B g : Nat} {s s' : Value} {M : List Int} {log : List (Int × Int)} (h : Wrote w w' g s s') (hm : MemL w B g s M log) : Below B w w' := by
  refine ⟨h.os, h.tape, h.output, h.size, fun k hk => h.block k (Nat.lt_trans hk (Nat.lt_of_le_of_lt hm.low hm.mem.lt)) (fun e => by have := hm.low; omega) (fun e => ?_)⟩
  have := (hm.own.lt k e).1
  omega
theorem Mem.setHead {w : World} {g : Nat} {s : Value} {M : List Int} (h : Mem w g s M) (s' : Value) : Mem (w.setCell ⟨g, 0, none⟩ s') g s' M :=
  ⟨by rw [heap_setCell_same w g 0 _ 75 s' h.1]; simp, h.2⟩
theorem below_wrote {w w' : World} {g : Nat} {s : Value} (h : Below w.heap.size w w') : Wrote w w' g s s := ⟨h.os, h.tape, h.output, h.size, fun k hk _ _ => h.block k hk, .inl rfl⟩
theorem grown_wrote {w w' : World} {g : Nat} {s s' : Value} (h : w.grownBy w' s.ownBlock) (hf : s.ownBlock = s'.ownBlock ∨ ∀ k, s'.ownBlock = some k → w.heap.size ≤ k) : Wrote w w' g s s' :=
  ⟨h.os, h.tape, h.output, h.size, fun k hk _ hs => h.block k hk (fun e => hs e.symm), hf.imp (fun e => e.symm) id⟩
theorem set_wrote (w : World) (g o : Nat) (v s : Value) : Wrote w (w.setCell ⟨g, o, none⟩ v) g s s :=
  ⟨rfl, rfl, rfl, by simp [World.setCell], fun k _ hk _ => heap_setCell_other w ⟨g, o, none⟩ k v hk, .inl rfl⟩
theorem World.grownBy_setCell (w : World) (g o : Nat) (v : Value) : w.grownBy (w.setCell ⟨g, o, none⟩ v) (some g) :=
  ⟨rfl, rfl, rfl, by simp [World.setCell], fun k _ hk => heap_setCell_other w ⟨g, o, none⟩ k v (fun e => hk (by rw [e]))⟩
theorem news_two {w : World} {x y : Value} {t : TypeId} : ∀ j u, [x, y][j]? = some u → (w.alloc (.cells #[x, y] t)).cell? ((⟨w.heap.size, 0, none⟩ : Addr).add j) = some u :=
  World.news_of_block (B := w.heap.size) (cs := #[x, y]) (t := t) (fr := (0, 0)) (heap_alloc_new w _)
theorem Try.info49 : (Try.prog.info? 49).map (fun i => (i.zero, i.size, i.bytes)) = some (some (.agg #[.int .i64 0, .int .i64 0]), 2, 16) := by kernel_rfl
set_option maxHeartbeats 1000000 in
theorem note_any (a n : Int) (B g : Nat) (s : Value) (M : List Int) (log : List (Int × Int)) (w : World) (h : MemL w B g s M log) (hn : 0 < n) (hl : log.length < 1000) :
    Calls Try.prog 42 #[.pointer (some ⟨g, 0, none⟩), .int .i64 a, .int .i64 n] w fun e w' => e = .returned (.tuple #[]) ∧ ∃ s', MemL w' B g s' M (log ++ [(a, n)]) ∧ Wrote w w' g s s' := by
  obtain ⟨i0, hi, hz0, hz1, hz2⟩ := info_parts Try.info49
  have hc := h.mem.head
  have HH := hid h
  clear h
  go_enter Try.func42, Try.ntmps42
  go_wp2_with (first
    | (at_builtin; refine wpList_append_lies _ rfl (.tmp 12) (.tmp 16) 42 rfl B 49 i0 (.agg #[.int .i64 0, .int .i64 0]) 2 16 Try.underlying42 hi hz0 hz1 hz2 rfl (by decide) s log.length (rs log) rfl (HH.out.own.alloc _) ⟨w.heap.size, 0, none⟩ 1 1 [.int .i64 a, .int .i64 n] rfl rfl (news_two (w := w)) (by intro u hu; simp at hu; rcases hu with rfl | rfl <;> rfl) (by decide) (by unfold maxLen; omega) (by omega) (by have := HH.out.low; have := HH.out.mem.lt; simp; omega) (w.heap.size + 1) (by simp) ?_; intro g' cap w' hown' hgr hg hlt; have hm' : Mem w' g s M := HH.out.mem.of ((hgr.block g (by have := HH.out.mem.lt; simp; omega) (fun e => HH.out.apart e.symm)).trans (Below.heap_alloc _ _ _ HH.out.mem.lt)); have hc2 := hm'.head; have hf := hm'.thaw 0))
  go_end0
  have hne : g' ≠ g := fun e => own_ne hown' hm'.1 (by decide) (by rw [e]; rfl)
  refine ⟨rfl, _, ⟨hm'.setHead _, HH.out.low, ?_⟩, ?_⟩
  · rw [List.length_append, rs_snoc]
    exact hown'.kept (World.grownBy_setCell _ _ _ _) (.inr (by simp [Value.ownBlock]; exact hne))
  · refine (below_wrote ((Below.refl _ _).alloc (Nat.le_refl _) _)).trans (Wrote.trans (t := .slice (some ⟨g', 0, none⟩) (log.length + 1) cap) (grown_wrote hgr ?_) (set_wrote _ _ _ _ _))
    rcases hg with e | e
    · exact .inl e
    · right; intro k hk; simp [Value.ownBlock] at hk; simp; omega
/-- The log behind a write. -/
def logn (log : List (Int × Int)) (a n : Int) : List (Int × Int) := if n = 0 then log else log ++ [(a, n)]
theorem noted_any (a : Int) (n : Nat) (B g : Nat) (s : Value) (M : List Int) (log : List (Int × Int)) (w : World) (h : MemL w B g s M log) (hl : log.length < 1000) :
    Calls Try.prog 42 #[.pointer (some ⟨g, 0, none⟩), .int .i64 a, .int .i64 n] w fun e w' => e = .returned (.tuple #[]) ∧ ∃ s', MemL w' B g s' M (logn log a n) ∧ Wrote w w' g s s' := by
  by_cases hn : 0 < n
  · refine (note_any a n B g s M log w h (by omega) hl).mono fun e w' hh => ?_
    unfold logn
    rw [if_neg (by omega)]
    exact hh
  · obtain rfl : n = 0 := by omega
    go_enter Try.func42, Try.ntmps42
    go_wp2_with fail
    go_end0
    exact ⟨rfl, s, h, Wrote.refl _ _ _⟩
theorem MemL.set {w : World} {B g : Nat} {s : Value} {M : List Int} {log : List (Int × Int)} (h : MemL w B g s M log) (k : Nat) (x : Int) : MemL (w.setCell ⟨g, 1 + k, none⟩ (.int .u8 x)) B g s (M.set k x) log := by
  refine ⟨⟨?_, by rw [List.length_set]; exact h.mem.2⟩, h.low, h.own.kept (World.grownBy_setCell _ _ _ _) (.inr h.apart)⟩
  rw [heap_setCell_same w g (1 + k) _ 75 _ h.mem.1]
  congr 2
  apply Array.ext'
  rw [Array.toList_setIfInBounds]
  show (s :: bs M).set (1 + k) _ = s :: bs (M.set k x)
  rw [Nat.add_comm, List.set_cons_succ]
  congr 1
  exact (List.map_set ..).symm
theorem MemL.drew {w : World} {B g : Nat} {s : Value} {M : List Int} {log : List (Int × Int)} (h : MemL w B g s M log) : MemL w.drew B g s M log := ⟨h.mem, h.low, h.own⟩
theorem Wrote.drew {w w' : World} {g : Nat} {s s' : Value} (h : Wrote w w' g s s') : Wrote w w'.drew g s s' := ⟨h.os, h.tape, h.output, h.size, h.block, h.fresh⟩
theorem MemL.next {w : World} {B g : Nat} {s : Value} {M b : List Int} {a : Int} {k : Nat} {log : List (Int × Int)} (h : MemL w B g s (put M a b k) log) (hk : k < b.length) :
    MemL (w.setCell ⟨g, 1 + ((a + (k : Int)) % 65536).toNat, none⟩ (.int .u8 b[k])).drew B g s (put M a b (k + 1)) log := by
  unfold put
  rw [getD_at b k hk]
  exact (h.set _ _).drew
theorem wrote_more {w w' : World} {g : Nat} {s : Value} (h : Wrote w w' g .nilFunc .nilFunc) : Wrote w w' g s s := ⟨h.os, h.tape, h.output, h.size, fun k hk hg _ => h.block k hk hg (by simp [Value.ownBlock]), .inl rfl⟩
set_option maxHeartbeats 1000000 in
theorem write_any (a : Int) (b : List Int) (vb : Value) (B g : Nat) (s : Value) (M : List Int) (log : List (Int × Int)) (w : World) (h : MemL w B g s M log) (hb : Rd w vb b) (hne : b ≠ [] → vb.ownBlock ≠ some g)
    (ha : -4611686018427387904 ≤ a) (ha' : a ≤ 4611686018427387904) (hn : b.length ≤ 65536) (hl : log.length < 1000) :
    Calls Try.prog 28 #[.pointer (some ⟨g, 0, none⟩), .int .i64 a, vb] w fun e w' => e = .returned (.tuple #[]) ∧ ∃ s', MemL w' B g s' (mput M a b) (logn log (a % 65536) b.length) ∧ Wrote w w' g s s' := by
  obtain ⟨bo, bcap, rfl, hBv⟩ := rd_view hb
  have HM := hid h.mem.2
  have HL := hid h
  have HV := hid hBv
  have HN := hid hne
  clear h hb hBv hne
  go_enter Try.func28, Try.ntmps28
  go_wp2_with fail
  go_loopw [12] (fun i wr => ∃ k : Nat, k ≤ b.length ∧ i = .int .i64 (k : Int) ∧ MemL wr B g s (put M a b k) log ∧ Wrote w wr g .nilFunc .nilFunc) (fun i _ => b.length - (intOf i).toNat)
  case atStart => exact ⟨0, by omega, rfl, HL.out, Wrote.refl _ _ _⟩
  case round =>
    obtain ⟨k, hk, rfl, hmem, hB⟩ := hrel
    by_cases hkn : k < b.length
    · have ho := hid hmem
      clear hmem
      have wr1 : IntKind.i64.wrap (a + (k : Int)) = a + k := IntWalk.i64_in _ (by omega)
      have i0' : 0 ≤ (a + (k : Int)) % 65536 := by omega
      have i1' : (a + (k : Int)) % 65536 < 65536 := by omega
      obtain ⟨gb, ob, rfl, gbl, hcb⟩ := HV.out (by intro e; subst e; simp at hkn)
      have hx : b[k]? = some (b.getD k 0) := by
        rw [List.getD_eq_getElem?_getD, List.getElem?_eq_getElem hkn]; rfl
      have hgb : gb ≠ g := fun e => HN.out (by intro e; subst e; simp at hkn) (by rw [e]; rfl)
      have c1 := (World.cell?_of_block (a := ⟨gb, ob + k, none⟩) (hB.block gb gbl hgb (by simp [Value.ownBlock]))).trans (hcb _ _ hx)
      clear hx hcb
      have c3 := ho.out.mem.cell ((a + (k : Int)) % 65536).toNat (by omega)
      have c4 := ho.out.mem.thaw (1 + ((a + (k : Int)) % 65536).toNat)
      have k0 : (0 : Int) ≤ k := by omega
      have k1 : (k : Int) < b.length := by omega
      go_wp2_with fail
      go_region_held3 (fun _ => True)
        (exact trivial)
        (first
          | (go_at_call 40; refine (wrap_own _ _).mono ?_; rintro e w2 ⟨rfl, rfl⟩))
      all_goals
        go_wp2_with fail
        go_roundw
        case rel => exact ⟨k + 1, by omega, by go_num, ho.out.next hkn, (hB.trans (set_wrote _ _ _ _ _)).drew⟩
        case measure => simp [intOf]; omega
    · obtain rfl : k = b.length := by omega
      have ho := hid hmem
      clear hmem
      have hB' := hid hB
      clear hB
      go_wp2_with fail
      go_region_held3 (fun _ => True)
        (exact trivial)
        (first
          | (go_at_call 40; refine (wrap_own _ _).mono ?_; rintro e w2 ⟨rfl, rfl⟩)
          | (go_at_call 42; refine (noted_any _ b.length B g s _ log _ (by first | exact ho.out.drew | exact ho.out) hl).mono ?_; rintro e w2 ⟨rfl, s', hm2, hw2⟩))
      all_goals
        go_wp2_with fail
        go_end0
        exact ⟨rfl, s', by first | exact hm2 | exact hm2.drew, by first | exact (wrote_more hB'.out).trans hw2 | exact ((wrote_more hB'.out).trans hw2).drew | exact (wrote_more hB'.out).drew.trans hw2⟩
end Go.Proofs.Ytgfagophgipldaa
