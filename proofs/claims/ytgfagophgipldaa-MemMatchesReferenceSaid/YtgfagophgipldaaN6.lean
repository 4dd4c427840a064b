import Derived.Test.YtgfagophgipldaaN5
namespace Go.Proofs.Ytgfagophgipldaa
open Go.RowKit
set_option maxRecDepth 100000 in
set_option maxHeartbeats 2000000 in
theorem clones_bad (rom b : List Int) (W : List Wr) (a : Int) (vr vl vb : Value) (w : World) (hr : Rd w vr rom) (hW : RdW w vl W) (hb : Rd w vb b) (hbad : fewB W rom.length = false ∨ (fewB W rom.length = true ∧ fewB [(a, vb, b)] 0 = false)) :
    Calls Try.prog 10 #[vr, vl, .int .i64 a, vb] w fun e w' => e = .returned (.bool true) ∧ Below w.heap.size w w' := by
  obtain ⟨ro, rcap, rfl, -⟩ := rd_view hr
  obtain ⟨bo, bcap, rfl, -⟩ := rd_view hb
  have HB := hid hb
  have HW := hid hW
  clear hr hb hW
  rcases hbad with hf | ⟨hf, hf2⟩
  · have HF := hid hf
    clear hf
    go_enter Try.func10, Try.ntmps10
    go_wp2_with fail
    refine (memAwake_any _).mono ?_
    rintro e1 w1 ⟨rfl, b1⟩
    have Q1 := hid b1
    clear b1
    go_wp2_with fail
    refine (few_any W rom.length ro rcap _ _ (rdw_below HW.out Q1.out)).mono ?_
    rintro e2 w2 ⟨rfl, rfl⟩
    rw [HF.out]
    go_wp2_with fail
    refine (memAwake_any _).mono ?_
    rintro e3 w3 ⟨rfl, b3⟩
    have Q3 := hid (bel_t Q1.out b3)
    clear Q1 b3
    go_wp2_with fail
    go_ret
    exact ⟨rfl, Q3.out⟩
  · have HF := hid hf
    have HF2 := hid hf2
    clear hf hf2
    go_enter Try.func10, Try.ntmps10
    go_wp2_with fail
    refine (memAwake_any _).mono ?_
    rintro e1 w1 ⟨rfl, b1⟩
    have Q1 := hid b1
    clear b1
    go_wp2_with fail
    refine (few_any W rom.length ro rcap _ _ (rdw_below HW.out Q1.out)).mono ?_
    rintro e2 w2 ⟨rfl, rfl⟩
    rw [HF.out]
    go_wp2_with fail
    refine (few_any [(a, .slice bo b.length bcap, b)] 0 none 0 _ _ (rdw_one (rd_below HB.out Q1.out))).mono ?_
    rintro e4 w4 ⟨rfl, rfl⟩
    rw [HF2.out]
    have Q2 := hid (Q1.out.alloc Q1.out.size (.cells #[.int .i64 a, .slice bo b.length bcap] 46))
    clear Q1
    go_wp2_with fail
    refine (memAwake_any _).mono ?_
    rintro e3 w3 ⟨rfl, b3⟩
    have Q3 := hid (bel_t Q2.out b3)
    clear Q2 b3
    go_wp2_with fail
    go_ret
    exact ⟨rfl, Q3.out⟩
theorem MemL.setOwn {w : World} {B B2 g k : Nat} {s v : Value} {M L : List Int} {log : List (Int × Int)} (h : MemL w B g s M log) (ho : Own B2 w v L) (hv : v.ownBlock = some k) (j : Nat) (x : Value) : MemL (w.setCell ⟨k, j, none⟩ x) B g s M log := by
  obtain ⟨C, hC, -⟩ := own_block ho hv
  have h1 : g ≠ k := fun e => by
    rw [← e, h.mem.1] at hC
    cases hC
  have h2 : s.ownBlock ≠ some k := own_ne h.own hC (by decide)
  exact ⟨h.mem.of (heap_setCell_other w ⟨k, j, none⟩ g x h1), h.low, h.own.kept (World.grownBy_setCell _ _ _ _) (.inr h2)⟩
theorem Wrote.undrew {w w' : World} {g : Nat} {s s' : Value} (h : Wrote w.drew w' g s s') : Wrote w w' g s s' := ⟨h.os, h.tape, h.output, h.size, h.block, h.fresh⟩
set_option maxRecDepth 100000 in
set_option maxHeartbeats 8000000 in
theorem clones_good (rom b : List Int) (W : List Wr) (a : Int) (vr vl vb : Value) (w : World) (hr : Rd w vr rom) (hW : RdW w vl W) (hb : Rd w vb b) (hf : fewB W rom.length = true) (hf2 : fewB [(a, vb, b)] 0 = true) :
    Calls Try.prog 10 #[vr, vl, .int .i64 a, vb] w fun e w' => e = .returned (.bool true) ∧ Below w.heap.size w w' := by
  obtain ⟨ro, rcap, rfl, -⟩ := rd_view hr
  obtain ⟨bo, bcap, rfl, -⟩ := rd_view hb
  obtain ⟨lo, lcap, rfl⟩ := rdw_view hW
  obtain ⟨hl, ha1, ha2, -⟩ := few_one_ok hf2
  obtain ⟨hwl, hrl⟩ := few_len hf
  have HR := hid hr
  have HB := hid hb
  have HW := hid hW
  have HF := hid hf
  have HF2 := hid hf2
  have HL := hid (And.intro hl (And.intro hwl hrl))
  clear hr hb hW hf hf2 hl hwl hrl
  go_enter Try.func10, Try.ntmps10
  go_wp2_with fail
  refine (memAwake_any _).mono ?_
  rintro e1 w1 ⟨rfl, b1⟩
  have Q1 := hid b1
  clear b1
  go_wp2_with fail
  refine (few_any W rom.length ro rcap _ _ (rdw_below HW.out Q1.out)).mono ?_
  rintro e2 w2 ⟨rfl, rfl⟩
  rw [HF.out]
  go_wp2_with fail
  refine (few_any [(a, .slice bo b.length bcap, b)] 0 none 0 _ _ (rdw_one (rd_below HB.out Q1.out))).mono ?_
  rintro e3 w3 ⟨rfl, rfl⟩
  rw [HF2.out]
  have Q3 := hid (Q1.out.alloc Q1.out.size (.cells #[.int .i64 a, .slice bo b.length bcap] 46))
  clear Q1
  generalize w1.alloc (.cells #[.int .i64 a, .slice bo b.length bcap] 46) = w3 at *
  go_wp2_with ((with_reducible show wpList _ _ _ _ _ _); (refine wpList_app_rd rfl (.tmp 35) (.tmp 36) rfl (v := .slice (some ⟨w3.heap.size, 0, none⟩) 0 0) (vb := .slice ro rom.length rcap) (L := []) (b := rom) (base := w.heap.size) rfl rfl (own_empty w3 _ Q3.out.size) (rd_alloc (rd_below HR.out Q3.out) _) (by have := HL.out.2.2; show 0 + rom.length ≤ 1000000; omega) (by have := Q3.out.size; simp; omega) ?_); intro v4 w4 o4 r4 f4; have O4 := hid o4; have Q4 := hid (bel_t Q3.out (app_start r4)); clear o4 r4 f4)
  have o5 := O4.out
  rw [List.nil_append] at o5
  obtain ⟨ao, acap, rfl, -⟩ := rd_view (rd_of_own o5)
  have O5 := hid o5
  clear O4 o5
  refine (new_any rom _ _ (rd_of_own O5.out) (by have := HL.out.2.2; omega)).mono ?_
  rintro e6 w6 ⟨g, rfl, m6, b6⟩
  have M6 := hid (m6.base Q4.out.size)
  have O6 := hid (O5.out.below b6)
  have Q6 := hid (bel_t Q4.out b6)
  clear m6 b6 Q4 Q3 O5
  go_wp2_with fail
  go_loopw [12] (fun i wr => ∃ (k : Nat) (L : List Int), k ≤ rom.length ∧ L.length = rom.length ∧ i = .int .i64 (k : Int) ∧ Own w.heap.size wr (.slice ao rom.length acap) L ∧ MemL wr w.heap.size g (.slice none 0 0) (minit rom) [] ∧ Below w.heap.size w wr) (fun i _ => rom.length - (intOf i).toNat)
  case atStart => exact ⟨0, rom, by omega, rfl, rfl, O6.out, M6.out, Q6.out⟩
  case round =>
    obtain ⟨k, L, hk, hL, rfl, hown, hmem, hB⟩ := hrel
    clear O6 M6 Q6
    have OO := hid hown
    have MM := hid hmem
    have QQ := hid hB
    have LL := hid hL
    clear hown hmem hB hL
    by_cases hkn : k < rom.length
    · obtain ⟨g4, cap4, hv, -, -, hg4, -⟩ := own_shape OO.out (by rw [LL.out]; omega)
      simp only [Value.slice.injEq] at hv
      obtain ⟨rfl, -, -⟩ := hv
      have c1 := own_cell OO.out rfl k (by rw [LL.out]; omega)
      have c2 := own_thaw OO.out rfl k
      have k0 : (0 : Int) ≤ k := by omega
      have k1 : (k : Int) < rom.length := by omega
      have k2 : (k : Int) ≤ 2000 := by have := HL.out.2.2; omega
      generalize L.getD k 0 = y at *
      go_wp2_with fail
      go_roundw
      case rel => exact ⟨k + 1, L.set k _, by omega, by rw [List.length_set]; exact LL.out, by go_num, own_set OO.out rfl k _, MM.out.setOwn OO.out rfl k _, QQ.out.setCell (p := ⟨g4, k, none⟩) hg4 _⟩
      case measure => simp [intOf]; omega
    · have hkk : k = rom.length := by omega
      clear hk
      subst hkk
      clear LL OO hkn
      go_wp2_with fail
      refine (refNew_any rom _ _ (rd_below HR.out QQ.out) (by have := HL.out.2.2; omega)).mono ?_
      rintro e7 w7 ⟨v7, rfl, o7, b7⟩
      have O7 := hid (own_base QQ.out.size o7)
      have M7 := hid (MM.out.below b7)
      have Q7 := hid (bel_t QQ.out b7)
      clear o7 b7 MM QQ
      go_wp2_with fail
      go_loopw [13, 14] (fun v i wr => ∃ (k : Nat) (s : Value), k ≤ W.length ∧ i = .int .i64 (k : Int) ∧ Own w.heap.size wr v (writes (minit rom) W k) ∧ MemL wr w.heap.size g s (writes (minit rom) W k) (logs W k) ∧ Below w.heap.size w wr) (fun _ i _ => W.length - (intOf i).toNat)
      case atStart => exact ⟨0, _, by omega, rfl, O7.out, M7.out, Q7.out⟩
      case round =>
        obtain ⟨k, s, hk, rfl, hown, hmem, hB⟩ := hrel
        clear O7 M7 Q7
        have OO := hid hown
        have MM := hid hmem
        have QQ := hid hB
        clear hown hmem hB
        by_cases hkn : k < W.length
        · obtain ⟨x, hx⟩ : ∃ x, W[k]? = some x := ⟨_, List.getElem?_eq_getElem hkn⟩
          obtain ⟨gl, off, cap, hv, gll, c1, c2, hxr⟩ := rdw_at HW.out hx
          simp only [Value.slice.injEq] at hv
          obtain ⟨rfl, -, -⟩ := hv
          obtain ⟨x1, x2, x3⟩ := x
          dsimp only at c1 c2 hxr
          obtain ⟨xo, xcap, rfl, -⟩ := rd_view hxr
          have hfa := few_at HF.out hx
          dsimp only at hfa
          have HFA := hid hfa
          have WA := hid (writes_at (M := minit rom) hx)
          have LA := hid (logs_at hx)
          have LN := hid (logs_len W k)
          have HXR := hid hxr
          have C1 := hid ((QQ.out.cell (p := ⟨gl, off + k * 2, none⟩) gll).trans c1)
          have C2 := hid ((QQ.out.cell (p := ⟨gl, off + k * 2 + 1, none⟩) gll).trans c2)
          have hwl : W.length ≤ 20 := HL.out.2.1
          have HK := hid hkn
          clear hfa hx c1 c2 hxr hkn
          have k0 : (0 : Int) ≤ k := by omega
          have k1 : (k : Int) < W.length := by have := HK.out; omega
          have k2 : (k : Int) ≤ 20 := by omega
          go_wp2_with fail
          go_region_held3 (fun x => x.cell? ⟨gl, off + k * 2, none⟩ = some (.int .i64 x1) ∧ x.cell? ⟨gl, off + k * 2 + 1, none⟩ = some (.slice xo x3.length xcap))
            (first
              | exact ⟨C1.out, C2.out⟩
              | exact ⟨D1.out, D2.out⟩)
            (first
              | (go_at_call 28; refine (write_any x1 x3 _ _ g s _ _ _ MM.out.drew (rd_below HXR.out QQ.out.drew) (fun h => rd_ne HXR.out h MM.out.low) (by have := HFA.out; omega) (by have := HFA.out; omega) (by have := HFA.out; omega) (by have := LN.out; omega)).mono ?_; rintro e8 w8 ⟨rfl, s8, m8, r8⟩; have M8 := hid m8; have R8 := hid (Wrote.undrew r8); have Q8 := hid (QQ.out.trans (R8.out.below MM.out)); have O8 := hid (OO.out.wrote MM.out R8.out); have D1 := hid ((Q8.out.cell (p := ⟨gl, off + k * 2, none⟩) gll).trans ((QQ.out.cell (p := ⟨gl, off + k * 2, none⟩) gll).symm.trans C1.out)); have D2 := hid ((Q8.out.cell (p := ⟨gl, off + k * 2 + 1, none⟩) gll).trans ((QQ.out.cell (p := ⟨gl, off + k * 2 + 1, none⟩) gll).symm.trans C2.out)); clear m8 r8))
          clear OO MM C1 C2 R8
          go_wp2_with fail
          go_region_held3 (fun x => x.cell? ⟨gl, off + k * 2, none⟩ = some (.int .i64 x1) ∧ x.cell? ⟨gl, off + k * 2 + 1, none⟩ = some (.slice xo x3.length xcap))
            (first
              | exact ⟨D1.out, D2.out⟩
              | exact ⟨E1.out, E2.out⟩)
            (first
              | (go_at_call 29; refine (refPut_any x1 (writes (minit rom) W k) x3 _ _ w8.drew (rd_of_own (w := w8) O8.out) (writes_len _ _ (minit_len rom) k) (rd_below HXR.out Q8.out.drew) (by have := HFA.out; omega) (by have := HFA.out; omega) (by have := HFA.out; omega)).mono ?_; rintro e9 w9 ⟨v9, rfl, o9, b9⟩; have B9 := hid (undrew b9); have O9 := hid (own_base Q8.out.size o9); have M9 := hid (M8.out.below B9.out); have Q9 := hid (bel_t Q8.out B9.out); have E1 := hid ((B9.out.cell (p := ⟨gl, off + k * 2, none⟩) (Nat.lt_of_lt_of_le gll Q8.out.size)).trans D1.out); have E2 := hid ((B9.out.cell (p := ⟨gl, off + k * 2 + 1, none⟩) (Nat.lt_of_lt_of_le gll Q8.out.size)).trans D2.out); clear o9 b9))
          go_wp2_with fail
          go_roundw
          case rel => exact ⟨k + 1, s8, HK.out, by go_num, by rw [WA.out]; exact O9.out, by rw [WA.out, LA.out]; exact M9.out, Q9.out⟩
          case measure => have := HK.out; simp [intOf]; omega
        · have hkk : k = W.length := by omega
          clear hk
          subst hkk
          clear hkn
          have LN := hid (logs_len W W.length)
          have WL := hid (writes_len (minit rom) W (minit_len rom) W.length)
          generalize writes (minit rom) W W.length = R at *
          generalize logs W W.length = lg at *
          go_wp2_with fail
          refine (clone_any w.heap.size g s R lg _ MM.out).mono ?_
          rintro e10 w10 ⟨rfl, m10, b10⟩
          have GN := hid (show wr.heap.size ≠ g by have := MM.out.mem.lt; omega)
          have C10 := hid (m10.base QQ.out.size)
          have M10 := hid (MM.out.below b10)
          have O10 := hid (OO.out.below b10)
          have Q10 := hid (bel_t QQ.out b10)
          clear m10 b10 MM OO QQ
          go_wp2_with fail
          refine (dirty_any _ _ _ _ _ _ C10.out).mono ?_
          rintro e11 w11 ⟨rfl, m11, -, r11⟩
          have M11 := hid (M10.out.wrote C10.out r11 (fun e => GN.out e.symm) (by cases s.ownBlock <;> simp [Value.ownBlock]))
          have O11 := hid (O10.out.wrote C10.out r11)
          have Q11 := hid (Q10.out.trans (r11.below C10.out))
          have C11 := hid m11
          clear m11 r11 M10 O10 Q10 C10
          go_wp2_with fail
          refine (write_any a b _ _ _ _ _ _ _ C11.out (rd_below HB.out Q11.out) (fun h => rd_ne HB.out h C11.out.low) (by omega) (by omega) (by have := HL.out.1; omega) lg0).mono ?_
          rintro e12 w12 ⟨rfl, s12, m12, r12⟩
          have M12 := hid (M11.out.wrote C11.out r12 (fun e => GN.out e.symm) (by cases s.ownBlock <;> simp [Value.ownBlock]))
          have O12 := hid (O11.out.wrote C11.out r12)
          have Q12 := hid (Q11.out.trans (r12.below C11.out))
          have C12 := hid m12
          clear m12 r12 M11 O11 Q11 C11
          go_wp2_with fail
          refine (bytes_any 0 65536 g _ _ _ M12.out.mem (by omega) (by omega) (Nat.le_refl _)).mono ?_
          rintro e13 w13 ⟨v13, rfl, o13, b13⟩
          rw [mbytes_all R WL.out] at o13
          have P13 := hid o13
          have O13 := hid (O12.out.below b13)
          have C13 := hid (C12.out.below b13)
          have Q13 := hid (bel_t Q12.out b13)
          clear o13 b13 M12 O12 C12 Q12
          go_wp2_with fail
          refine (bytes_any 0 65536 _ _ _ _ C13.out.mem (by omega) (by omega) (Nat.le_refl _)).mono ?_
          rintro e14 w14 ⟨v14, rfl, o14, b14⟩
          rw [mbytes_all _ (by rw [mput_length]; exact WL.out)] at o14
          have R14 := hid (rd_of_own o14)
          have P14 := hid (rd_of_own (P13.out.below b14))
          have O14 := hid (rd_of_own (O13.out.below b14))
          have Q14 := hid (bel_t Q13.out b14)
          clear o14 b14 P13 O13 C13 Q13
          have hrr : R.length < 2 ^ 40 := by rw [WL.out]; decide
          have RR := hid hrr
          clear hrr
          go_wp2_with fail
          refine (same_any R R v13 _ _ P14.out O14.out RR.out).mono ?_
          rintro e15 w15 ⟨rfl, b15⟩
          rw [beq_self_eq_true]
          have R15 := hid (rd_below R14.out b15)
          have O15 := hid (rd_below O14.out b15)
          have Q15 := hid (bel_t Q14.out b15)
          clear b15 R14 O14 Q14 P14
          go_wp2_with fail
          refine (refPut_any a R b _ _ _ O15.out WL.out (rd_below HB.out Q15.out) (by omega) (by omega) (by have := HL.out.1; omega)).mono ?_
          rintro e16 w16 ⟨v16, rfl, o16, b16⟩
          have R16 := hid (rd_below R15.out b16)
          have O16 := hid (rd_of_own o16)
          have Q16 := hid (bel_t Q15.out b16)
          clear o16 b16 R15 O15 Q15
          go_wp2_with fail
          refine (same_any (mput R a b) (mput R a b) v14 v16 _ R16.out O16.out (by rw [mput_length]; exact RR.out)).mono ?_
          rintro e17 w17 ⟨rfl, b17⟩
          rw [beq_self_eq_true]
          have Q17 := hid (bel_t Q16.out b17)
          clear b17 R16 O16 Q16
          go_wp2_with fail
          go_ret
          exact ⟨rfl, Q17.out⟩
theorem clones_walk (vr : Value) (rom : List Int) (vl : Value) (W : List Wr) (a : Int) (vb : Value) (b : List Int) (w : World) (hr : Rd w vr rom) (_z0 : ByteL rom) (_m0 : rom.length ≤ maxLen) (hW : RdW w vl W) (_z1 : ∀ x ∈ W, ByteL x.2.2) (_m1 : W.length ≤ maxLen) (_wa : (Lit.int .i64 a).wf = true) (hb : Rd w vb b) (_z2 : ByteL b) (_m2 : b.length ≤ maxLen) :
    Calls Try.prog 10 #[vr, vl, .int .i64 a, vb] w fun e w' => e = .returned (.bool true) ∧ Below w.heap.size w w' := by
  rcases Bool.eq_false_or_eq_true (fewB W rom.length) with h | h
  · rcases Bool.eq_false_or_eq_true (fewB [(a, vb, b)] 0) with h2 | h2
    · exact clones_good rom b W a vr vl vb w hr hW hb h h2
    · exact clones_bad rom b W a vr vl vb w hr hW hb (.inr ⟨h, h2⟩)
  · exact clones_bad rom b W a vr vl vb w hr hW hb (.inl h)
end Go.Proofs.Ytgfagophgipldaa
