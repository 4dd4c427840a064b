import Derived.Test.YtgfagophgipldaaN0
import Derived.Test.YtgfagophgipldaaF1
namespace Go.Proofs.Ytgfagophgipldaa
open Go.RowKit
theorem rd_ne {w : World} {v : Value} {L : List Int} {g : Nat} (h : Rd w v L) (hL : L ≠ []) (hg : w.heap.size ≤ g) : v.ownBlock ≠ some g := by
  rcases h with ⟨-, h⟩ | ⟨k, off, cap, rfl, h1, -⟩
  · exact absurd h hL
  · simp only [Value.ownBlock, ne_eq, Option.some.injEq]; omega
theorem undrew {B : Nat} {w w' : World} (h : Below B w.drew w') : Below B w w' := ⟨h.os, h.tape, h.output, h.size, h.block⟩
theorem read_drew (a : Int) (g : Nat) (s : Value) (M : List Int) (w : World) (h : Mem w g s M) :
    Calls Try.prog 23 #[.pointer (some ⟨g, 0, none⟩), .int .i64 a] w.drew fun e w' => e = .returned (.int .u8 (mget M a)) ∧ Below w.heap.size w w' :=
  (read_bel a g s M w.drew h).mono fun _ _ ⟨h1, h2⟩ => ⟨h1, undrew h2⟩
set_option maxRecDepth 100000 in
set_option maxHeartbeats 4000000 in
theorem reads_good (rom b : List Int) (a c : Int) (vr vb : Value) (w : World) (hr : Rd w vr rom) (hb : Rd w vb b) (hg : fewB [(a, vb, b)] rom.length = true) (hc : 0 ≤ c) (hc2 : c ≤ 65535) :
    Calls Try.prog 9 #[vr, .int .i64 a, vb, .int .i64 c] w fun e w' => e = .returned (.bool true) ∧ Below w.heap.size w w' := by
  obtain ⟨ro, rcap, rfl, -⟩ := rd_view hr
  obtain ⟨bo, bcap, rfl, hV⟩ := rd_view hb
  obtain ⟨hl, ha1, ha2, hrl⟩ := few_one_ok hg
  have HR := hid hr
  have HB := hid hb
  have HF := hid hg
  have HV := hid hV
  have HL := hid (And.intro hl hrl)
  clear hr hb hg hV hl hrl
  go_enter Try.func9, Try.ntmps9
  go_wp2_with fail
  refine (memAwake_any _).mono ?_
  rintro e1 w1 ⟨rfl, b1⟩
  have Q1 := hid b1
  have B1 := hid (rd_below HB.out b1)
  clear b1
  go_wp2_with fail
  refine (few_any [(a, .slice bo b.length bcap, b)] rom.length ro rcap _ _ (rdw_one B1.out)).mono ?_
  rintro e2 w2 ⟨rfl, rfl⟩
  rw [HF.out]
  have Q2 := hid (Q1.out.alloc Q1.out.size (.cells #[.int .i64 a, .slice bo b.length bcap] 46))
  clear Q1 B1
  go_wp2_with fail
  refine (new_any rom _ _ (rd_below HR.out Q2.out) (by have := HL.out.2; omega)).mono ?_
  rintro e3 w3 ⟨g, rfl, m3, b3⟩
  have Q3 := hid (bel_t Q2.out b3)
  have M3 := hid (m3.base Q2.out.size)
  clear Q2 m3 b3
  go_wp2_with fail
  refine (read_bel c g _ _ _ M3.out.mem).mono ?_
  rintro e4 w4 ⟨rfl, b4⟩
  have Q4 := hid (bel_t Q3.out b4)
  have M4 := hid (M3.out.below b4)
  clear Q3 M3 b4
  go_wp2_with fail
  refine (write_any a b _ _ g _ _ _ _ M4.out (rd_below HB.out Q4.out) (fun h => rd_ne HB.out h M4.out.low) (by omega) (by omega) (by have := HL.out.1; omega) (by decide)).mono ?_
  rintro e5 w5 ⟨rfl, s5, m5, r5⟩
  have Q5 := hid (Q4.out.trans (r5.below M4.out))
  have M5 := hid m5
  clear Q4 M4 m5 r5
  go_wp2_with fail
  refine (mod_own _ _).mono ?_
  rintro e6 w6 ⟨rfl, rfl⟩
  have B6 := hid (rd_below HB.out Q5.out)
  have hMl := hid (minit_len rom)
  obtain ⟨k, hk, hk2⟩ : ∃ k : Nat, (c - a) % 65536 = k ∧ k < 65536 := ⟨((c - a) % 65536).toNat, by omega, by omega⟩
  rw [hk]
  have k0 : (0 : Int) ≤ k := by omega
  have G5 := hid (mget_mput (minit rom) b a c (minit_len rom) (by have := HL.out.1; omega))
  rw [hk] at G5
  have G6 := hid (mbytes_put (minit rom) b a (minit_len rom) (by have := HL.out.1; omega))
  have HK := hid (And.intro hk hk2)
  clear hk hk2
  by_cases hkn : k < b.length
  · have k1 : (k : Int) < b.length := by omega
    obtain ⟨gb, ob, rfl, gbl, hcb⟩ := HV.out (by intro e; subst e; simp at hkn)
    have hx : b[k]? = some (b.getD k 0) := by
      rw [List.getD_eq_getElem?_getD, List.getElem?_eq_getElem hkn]; rfl
    have c1 := hid (show w5.cell? ⟨gb, ob + k, none⟩ = some (.int .u8 (b.getD k 0)) from (Q5.out.cell (p := ⟨gb, ob + k, none⟩) gbl).trans (hcb k _ hx))
    have hx2 := G5.out
    rw [if_pos k1, Int.toNat_natCast] at hx2
    have HX := hid hx2
    have HC := hid hcb
    clear hx2 hx hcb
    generalize b.getD k 0 = y at *
    have gl5 := hid (show gb < w5.heap.size from Nat.lt_of_lt_of_le gbl Q5.out.size)
    go_wp2_with fail
    go_region_held3 (fun x => x.cell? ⟨gb, ob + k, none⟩ = some (.int .u8 y))
      (first
        | exact c1.out
        | exact c7.out
        | exact c8.out
        | exact c9.out)
      (first
        | (go_at_call 23; refine (read_drew c g _ _ _ M5.out.mem).mono ?_; rintro e7 w7 ⟨rfl, b7⟩; rw [HX.out]; have M7 := hid (M5.out.mem.below b7); have c7 := hid ((b7.cell (p := ⟨gb, ob + k, none⟩) gl5.out).trans c1.out); have Q7 := hid (bel_t Q5.out b7); clear b7)
        | (go_at_call 26; refine (bytes_any a b.length g _ _ _ M7.out (by omega) (by omega) (by have := HL.out.1; omega)).mono ?_; rintro e8 w8 ⟨v8, rfl, o8, b8⟩; rw [G6.out] at o8; have c8 := hid ((b8.cell (p := ⟨gb, ob + k, none⟩) (Nat.lt_of_lt_of_le gbl Q7.out.size)).trans c7.out); have Q8 := hid (bel_t Q7.out b8); have O8 := hid (rd_of_own o8); clear b8 o8)
        | (go_at_call 16; refine (same_any b b v8 _ _ O8.out (rd_below HB.out Q8.out) (by have := HL.out.1; omega)).mono ?_; rintro e9 w9 ⟨rfl, b9⟩; rw [beq_self_eq_true]; have c9 := hid ((b9.cell (p := ⟨gb, ob + k, none⟩) (Nat.lt_of_lt_of_le gbl Q8.out.size)).trans c8.out); have Q9 := hid (bel_t Q8.out b9); clear b9))
    all_goals
      go_wp2_with fail
      go_ret
      exact ⟨rfl, Q9.out⟩
  · have k1 : ¬ (k : Int) < b.length := by omega
    have hx2 := G5.out
    rw [if_neg k1] at hx2
    have HX := hid hx2
    clear hx2 hkn
    go_wp2_with fail
    refine (read_bel c g _ _ _ M5.out.mem).mono ?_
    rintro e7 w7 ⟨rfl, b7⟩
    rw [HX.out]
    have M7 := hid (M5.out.mem.below b7)
    have Q7 := hid (bel_t Q5.out b7)
    clear b7 M5 Q5 B6
    go_wp2_with fail
    refine (bytes_any a b.length g _ _ _ M7.out (by omega) (by omega) (by have := HL.out.1; omega)).mono ?_
    rintro e8 w8 ⟨v8, rfl, o8, b8⟩
    rw [G6.out] at o8
    have Q8 := hid (bel_t Q7.out b8)
    have O8 := hid (rd_of_own o8)
    clear b8 o8 Q7 M7
    go_wp2_with fail
    refine (same_any b b v8 _ _ O8.out (rd_below HB.out Q8.out) (by have := HL.out.1; omega)).mono ?_
    rintro e9 w9 ⟨rfl, b9⟩
    rw [beq_self_eq_true]
    have Q9 := hid (bel_t Q8.out b9)
    clear b9 O8 Q8
    go_wp2_with fail
    go_ret
    exact ⟨rfl, Q9.out⟩
theorem reads_walk (vr : Value) (rom : List Int) (a : Int) (vb : Value) (b : List Int) (c : Int) (w : World) (hr : Rd w vr rom) (_z0 : ByteL rom) (_m0 : rom.length ≤ maxLen) (_wa : (Lit.int .i64 a).wf = true) (hb : Rd w vb b) (_z2 : ByteL b) (_m2 : b.length ≤ maxLen) (_wc : (Lit.int .i64 c).wf = true) :
    Calls Try.prog 9 #[vr, .int .i64 a, vb, .int .i64 c] w fun e w' => e = .returned (.bool true) ∧ Below w.heap.size w w' := by
  rcases Bool.eq_false_or_eq_true (fewB [(a, vb, b)] rom.length) with h | h
  · by_cases hc : 0 ≤ c ∧ c ≤ 65535
    · exact reads_good rom b a c vr vb w hr hb h hc.1 hc.2
    · exact reads_bad rom b a c vr vb w hr hb (.inr (by omega))
  · exact reads_bad rom b a c vr vb w hr hb (.inl h)
end Go.Proofs.Ytgfagophgipldaa
