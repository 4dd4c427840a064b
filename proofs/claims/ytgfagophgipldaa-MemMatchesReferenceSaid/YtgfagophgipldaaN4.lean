import Derived.Test.YtgfagophgipldaaN3
namespace Go.Proofs.Ytgfagophgipldaa
open Go.RowKit
theorem mbytes_all (M : List Int) (h : M.length = 65536) : mbytes M 0 65536 = M := by
  apply List.ext_getElem?
  intro j
  unfold mbytes
  rw [List.getElem?_map]
  by_cases hj : j < 65536
  · rw [List.getElem?_range hj, List.getElem?_eq_getElem (by omega), Option.map_some]
    unfold mget
    have e : ((0 + (j : Int)) % 65536).toNat = j := by omega
    rw [e, getD_at M j (by omega)]
  · rw [List.getElem?_eq_none (by rw [List.length_range]; omega), List.getElem?_eq_none (by omega)]; rfl
theorem logn_lt {l : List (Int × Int)} {a n : Int} {k : Nat} (h : l.length < k) : (logn l a n).length < k + 1 := by
  unfold logn
  split
  · omega
  · rw [List.length_append]; simp; omega
theorem lg0 : ([] : List (Int × Int)).length < 1000 := by decide
theorem lg1 (a n : Int) : (logn [] a n).length < 1000 := by
  have := logn_lt (l := []) (a := a) (n := n) (k := 1) (by decide)
  omega
theorem lg2 (a n a' n' : Int) : (logn (logn [] a n) a' n').length < 1000 := by
  have := logn_lt (l := logn [] a n) (a := a') (n := n') (k := 2) (logn_lt (by decide))
  omega
theorem app_start {w w' : World} {o : Obj} (r : (w.alloc o).grownBy w' (Value.ownBlock (.slice (some ⟨w.heap.size, 0, none⟩) 0 0))) : Below w.heap.size w w' :=
  ((Below.refl _ _).alloc (Nat.le_refl _) o).grown r (by simp) (fun k hk => by simp [Value.ownBlock] at hk; omega)
theorem MemL.len {w : World} {B g : Nat} {s : Value} {M : List Int} {log : List (Int × Int)} (h : MemL w B g s M log) : M.length = 65536 := h.mem.2
set_option maxRecDepth 100000 in
set_option maxHeartbeats 4000000 in
theorem over_good (rom b c : List Int) (a : Int) (vr vb vc : Value) (w : World) (hr : Rd w vr rom) (hb : Rd w vb b) (hc : Rd w vc c) (hg : fewB [(a, vb, b), (a, vc, c)] rom.length = true) :
    Calls Try.prog 11 #[vr, .int .i64 a, vb, vc] w fun e w' => e = .returned (.bool true) ∧ Below w.heap.size w w' := by
  obtain ⟨ro, rcap, rfl, -⟩ := rd_view hr
  obtain ⟨bo, bcap, rfl, -⟩ := rd_view hb
  obtain ⟨co, ccap, rfl, -⟩ := rd_view hc
  obtain ⟨hl, hl2, ha1, ha2, hrl⟩ := few_two_ok hg
  have HR := hid hr
  have HB := hid hb
  have HC := hid hc
  have HF := hid hg
  have HL := hid (And.intro hl (And.intro hl2 hrl))
  clear hr hb hc hg hl hl2 hrl
  have bl0 : (0 : Int) ≤ b.length := by omega
  have bl1 : (b.length : Int) ≤ 100 := by have := HL.out.1; omega
  go_enter Try.func11, Try.ntmps11
  go_wp2_with fail
  refine (memAwake_any _).mono ?_
  rintro e1 w1 ⟨rfl, b1⟩
  have Q1 := hid b1
  have B1 := hid (rd_below HB.out b1)
  have C1 := hid (rd_below HC.out b1)
  clear b1
  go_wp2_with fail
  refine (few_any [(a, .slice bo b.length bcap, b), (a, .slice co c.length ccap, c)] rom.length ro rcap _ _ (rdw_two B1.out C1.out)).mono ?_
  rintro e2 w2 ⟨rfl, rfl⟩
  rw [HF.out]
  have Q2 := hid (Q1.out.alloc Q1.out.size (.cells #[.int .i64 a, .slice bo b.length bcap, .int .i64 a, .slice co c.length ccap] 46))
  clear Q1 B1 C1
  go_wp2_with fail
  refine (new_any rom _ _ (rd_below HR.out Q2.out) (by have := HL.out.2.2; omega)).mono ?_
  rintro e3 w3 ⟨g1, rfl, m3, b3⟩
  have Q3 := hid (bel_t Q2.out b3)
  have M3 := hid (m3.base Q2.out.size)
  clear Q2 m3 b3
  go_wp2_with fail
  refine (new_any rom _ _ (rd_below HR.out Q3.out) (by have := HL.out.2.2; omega)).mono ?_
  rintro e4 w4 ⟨g2, rfl, m4, b4⟩
  have Q4 := hid (bel_t Q3.out b4)
  have M4 := hid m4
  have B4 := hid b4
  clear m4 b4
  go_wp2_with fail
  refine (new_any rom _ _ (rd_below HR.out Q4.out) (by have := HL.out.2.2; omega)).mono ?_
  rintro e5 w5 ⟨g3, rfl, m5, b5⟩
  have Q5 := hid (bel_t Q4.out b5)
  have T5 := hid (Three.of M3.out B4.out M4.out b5 m5 Q3.out.size)
  clear Q3 Q4 M3 M4 B4 m5 b5
  go_wp2_with fail
  refine (write_any a b _ _ g1 _ _ _ _ T5.out.m1 (rd_below HB.out Q5.out) (fun h => rd_ne HB.out h T5.out.m1.low) (by omega) (by omega) (by omega) lg0).mono ?_
  rintro e6 w6 ⟨rfl, s6, m6, r6⟩
  have Q6 := hid (Q5.out.trans (r6.below T5.out.m1))
  have T6 := hid (T5.out.write m6 r6)
  clear T5 Q5 m6 r6
  go_wp2_with fail
  refine (write_any (a + b.length) c _ _ g1 _ _ _ _ T6.out.m1 (rd_below HC.out Q6.out) (fun h => rd_ne HC.out h T6.out.m1.low) (by omega) (by omega) (by have := HL.out.2.1; omega) (lg1 _ _)).mono ?_
  rintro e7 w7 ⟨rfl, s7, m7, r7⟩
  have Q7 := hid (Q6.out.trans (r7.below T6.out.m1))
  have T7 := hid (T6.out.write m7 r7)
  clear T6 Q6 m7 r7
  go_wp2_with (first
    | ((with_reducible show wpList _ _ _ _ _ _); (refine wpList_app_rd rfl (.tmp 69) (.tmp 70) rfl (v := .slice (some ⟨w7.heap.size, 0, none⟩) 0 0) (vb := .slice bo b.length bcap) (L := []) (b := b) (base := w7.heap.size) rfl rfl (own_empty w7 _ (Nat.le_refl _)) (rd_alloc (rd_below HB.out Q7.out) _) (by have := HL.out.1; show 0 + b.length ≤ 1000000; omega) (by simp) ?_); intro v8 w8 o8 r8 f8; have O8 := hid o8; have R8 := hid (app_start r8); clear o8 r8 f8)
    | ((with_reducible show wpList _ _ _ _ _ _); (refine wpList_app_rd rfl (.tmp 71) (.tmp 72) rfl (v := v8) (vb := .slice co c.length ccap) (L := [] ++ b) (b := c) (base := w7.heap.size) rfl rfl O8.out (rd_below HC.out (bel_t Q7.out R8.out)) (by have := HL.out; show ([] ++ b).length + c.length ≤ 1000000; rw [List.nil_append]; omega) R8.out.size ?_); intro v9 w9 o9 r9 f9; have O9 := hid o9; have R9 := hid (R8.out.grown r9 R8.out.size (fun k hk => (O8.out.lt k hk).1)); clear o9 r9 f9))
  have T9 := hid (T7.out.below R9.out).rot
  have Q9 := hid (bel_t Q7.out R9.out)
  clear T7 Q7 R8 O8 R9
  refine (write_any a ([] ++ b ++ c) v9 _ g2 _ _ _ _ T9.out.m1 (rd_of_own O9.out) (fun _ => own_ne O9.out T9.out.m1.mem.1 (by decide)) (by omega) (by omega) (by have := HL.out; rw [List.nil_append, List.length_append]; omega) lg0).mono ?_
  rw [List.nil_append]
  rintro e10 w10 ⟨rfl, s10, m10, r10⟩
  have Q10 := hid (Q9.out.trans (r10.below T9.out.m1))
  have T10 := hid (T9.out.write m10 r10).rot
  clear T9 Q9 O9 m10 r10
  go_wp2_with fail
  refine (write_any a c _ _ g3 _ _ _ _ T10.out.m1 (rd_below HC.out Q10.out) (fun h => rd_ne HC.out h T10.out.m1.low) (by omega) (by omega) (by have := HL.out.2.1; omega) lg0).mono ?_
  rintro e11 w11 ⟨rfl, s11, m11, r11⟩
  have Q11 := hid (Q10.out.trans (r11.below T10.out.m1))
  have T11 := hid (T10.out.write m11 r11)
  clear T10 Q10 m11 r11
  go_wp2_with fail
  refine (write_any a b _ _ g3 _ _ _ _ T11.out.m1 (rd_below HB.out Q11.out) (fun h => rd_ne HB.out h T11.out.m1.low) (by omega) (by omega) (by omega) (lg1 _ _)).mono ?_
  rintro e12 w12 ⟨rfl, s12, m12, r12⟩
  have Q12 := hid (Q11.out.trans (r12.below T11.out.m1))
  have T12 := hid (T11.out.write m12 r12)
  clear T11 Q11 m12 r12
  go_wp2_with fail
  refine (write_any (a + b.length) c _ _ g3 _ _ _ _ T12.out.m1 (rd_below HC.out Q12.out) (fun h => rd_ne HC.out h T12.out.m1.low) (by omega) (by omega) (by have := HL.out.2.1; omega) (lg2 _ _ _ _)).mono ?_
  rintro e13 w13 ⟨rfl, s13, m13, r13⟩
  have Q13 := hid (Q12.out.trans (r13.below T12.out.m1))
  have t13 := (T12.out.write m13 r13).rot.rot
  rw [mput_app] at t13
  have T13 := hid t13
  have hzz : c.length ≤ b.length → mput (mput (mput (minit rom) a c) a b) (a + b.length) c = mput (mput (minit rom) a b) (a + b.length) c := fun h => by
    rw [mput_over _ b c a (minit_len rom) (by have := HL.out.1; omega) h]
  have HZ := hid hzz
  have hlen : (mput (mput (minit rom) a b) (a + b.length) c).length = 65536 := by rw [mput_length, mput_length, minit_len]
  have HLN := hid hlen
  clear T12 Q12 m13 r13 t13 hzz hlen
  generalize mput (mput (minit rom) a b) (a + b.length) c = R at *
  have HA := hid (mbytes_all R HLN.out)
  have rr : ∀ m : Nat, m = 65536 → R.length < 2 ^ 40 := fun _ _ => by rw [HLN.out]; decide
  have RR := hid (rr 65536 rfl)
  clear rr
  go_wp2_with fail
  refine (bytes_any 0 65536 g2 _ _ _ T13.out.m1.mem (by omega) (by omega) (Nat.le_refl _)).mono ?_
  rintro e14 w14 ⟨v14, rfl, o14, b14⟩
  rw [HA.out] at o14
  have O14 := hid o14
  have Q14 := hid (bel_t Q13.out b14)
  have T14 := hid (T13.out.below b14)
  clear o14 b14 T13 Q13
  go_wp2_with fail
  refine (bytes_any 0 65536 g1 _ _ _ T14.out.m3.mem (by omega) (by omega) (Nat.le_refl _)).mono ?_
  rintro e15 w15 ⟨v15, rfl, o15, b15⟩
  rw [HA.out] at o15
  have O15 := hid (rd_of_own o15)
  have P15 := hid (rd_below (rd_of_own O14.out) b15)
  have Q15 := hid (bel_t Q14.out b15)
  have T15 := hid (T14.out.below b15)
  clear o15 b15 T14 Q14 O14
  go_wp2_with fail
  refine (same_any R R v15 v14 _ O15.out P15.out RR.out).mono ?_
  rintro e16 w16 ⟨rfl, b16⟩
  rw [beq_self_eq_true]
  have P16 := hid (rd_below P15.out b16)
  have Q16 := hid (bel_t Q15.out b16)
  have T16 := hid (T15.out.below b16)
  clear b16 T15 Q15 O15 P15
  by_cases hcb : b.length < c.length
  · have h1 : (b.length : Int) < c.length := by omega
    clear hcb
    go_wp2_with fail
    go_ret
    exact ⟨rfl, Q16.out⟩
  · have h1 : ¬ (b.length : Int) < c.length := by omega
    have HE := hid (HZ.out (by omega))
    have t16 := T16.out
    rw [HE.out] at t16
    have T17 := hid t16
    clear hcb t16 T16
    go_wp2_with fail
    refine (bytes_any 0 65536 g3 _ _ _ T17.out.m2.mem (by omega) (by omega) (Nat.le_refl _)).mono ?_
    rintro e18 w18 ⟨v18, rfl, o18, b18⟩
    rw [HA.out] at o18
    have O18 := hid (rd_of_own o18)
    have P18 := hid (rd_below P16.out b18)
    have Q18 := hid (bel_t Q16.out b18)
    clear o18 b18 T17 Q16 P16
    go_wp2_with fail
    refine (same_any R R v18 v14 _ O18.out P18.out RR.out).mono ?_
    rintro e19 w19 ⟨rfl, b19⟩
    rw [beq_self_eq_true]
    have Q19 := hid (bel_t Q18.out b19)
    clear b19 O18 P18 Q18
    go_wp2_with fail
    go_ret
    exact ⟨rfl, Q19.out⟩
theorem over_walk (vr : Value) (rom : List Int) (a : Int) (vb : Value) (b : List Int) (vc : Value) (c : List Int) (w : World) (hr : Rd w vr rom) (_z0 : ByteL rom) (_m0 : rom.length ≤ maxLen) (_wa : (Lit.int .i64 a).wf = true) (hb : Rd w vb b) (_z2 : ByteL b) (_m2 : b.length ≤ maxLen) (hc : Rd w vc c) (_z3 : ByteL c) (_m3 : c.length ≤ maxLen) :
    Calls Try.prog 11 #[vr, .int .i64 a, vb, vc] w fun e w' => e = .returned (.bool true) ∧ Below w.heap.size w w' := by
  rcases Bool.eq_false_or_eq_true (fewB [(a, vb, b), (a, vc, c)] rom.length) with h | h
  · exact over_good rom b c a vr vb vc w hr hb hc h
  · exact over_bad rom b c a vr vb vc w hr hb hc h
end Go.Proofs.Ytgfagophgipldaa
