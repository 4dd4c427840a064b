import Derived.Test.YtgfagophgipldaaN7
namespace Go.Proofs.Ytgfagophgipldaa
open Go.RowKit
theorem two_one (x y : Int) : ∀ u ∈ [Value.int .i64 x, Value.int .i64 y], u.oneCell' = true := by
  intro u hu
  simp at hu
  rcases hu with rfl | rfl <;> rfl
theorem cell_alloc_drew {w : World} {o : Obj} {g j : Nat} (h : g < w.heap.size) : ((w.alloc o).drew).cell? ⟨g, j, none⟩ = w.cell? ⟨g, j, none⟩ :=
  World.cell?_of_block (w := w) (a := ⟨g, j, none⟩) (Below.heap_alloc w o g h)
theorem cell_app {w w' : World} {o : Obj} {B g n j : Nat} {u : Value} {L : List Value} (r : ((w.alloc o).drew).grownBy w' u.ownBlock) (h : w.ownsRow B 49 2 u n L) (hB : g < B) (hw : g < w.heap.size) : w'.cell? ⟨g, j, none⟩ = w.cell? ⟨g, j, none⟩ :=
  World.cell?_of_block (w := w) (a := ⟨g, j, none⟩) ((r.block g (by simp; omega) (fun e => by have := (h.lt g e.symm).1; omega)).trans (Below.heap_alloc w o g hw))
set_option maxRecDepth 100000 in
set_option maxHeartbeats 16000000 in
theorem match_good (rom : List Int) (W : List Wr) (a : Int) (n : Nat) (vr vl : Value) (w : World) (hr : Rd w vr rom) (hW : RdW w vl W) (hf : fewB W rom.length = true) (ha1 : -1000000 ≤ a) (ha2 : a ≤ 1000000) (hn : n < 256) :
    Calls Try.prog 8 #[vr, vl, .int .i64 a, .int .u8 n] w fun e w' => e = .returned (.bool true) ∧ Below w.heap.size w w' := by
  obtain ⟨i0, hi, hz0, hz1, hz2⟩ := info_parts Try.info49
  obtain ⟨ro, rcap, rfl, -⟩ := rd_view hr
  obtain ⟨lo, lcap, rfl⟩ := rdw_view hW
  obtain ⟨hwl, hrl⟩ := few_len hf
  have HR := hid hr
  have HW := hid hW
  have HF := hid hf
  have HL := hid (And.intro hwl hrl)
  have HN := hid hn
  have n0 : (0 : Int) ≤ n := by omega
  have n1 : (n : Int) < 256 := by omega
  clear hr hW hf hwl hrl hn
  go_enter Try.func8, Try.ntmps8
  go_wp2_with fail
  refine (memAwake_any _).mono ?_
  rintro e1 w1 ⟨rfl, b1⟩
  have Q1 := hid b1
  clear b1
  go_wp2_with fail
  refine (few_any W rom.length ro rcap _ _ (rdw_below HW.out Q1.out)).mono ?_
  rintro e2 w2 ⟨rfl, rfl⟩
  rw [HF.out]
  go_wp2_with fail
  refine (new_any rom _ _ (rd_below HR.out Q1.out) (by have := HL.out.2; omega)).mono ?_
  rintro e3 w3 ⟨g, rfl, m3, b3⟩
  have M3 := hid (m3.base Q1.out.size)
  have Q3 := hid (bel_t Q1.out b3)
  clear m3 b3 Q1
  go_wp2_with fail
  refine (refNew_any rom _ _ (rd_below HR.out Q3.out) (by have := HL.out.2; omega)).mono ?_
  rintro e4 w4 ⟨v4, rfl, o4, b4⟩
  have O4 := hid (own_base Q3.out.size o4)
  have M4 := hid (M3.out.below b4)
  have Q4 := hid (bel_t Q3.out b4)
  clear o4 b4 M3 Q3
  have ML := hid (minit_len rom)
  generalize minit rom = M at *
  go_wp2_with fail
  refine (bytes_any 0 65536 g _ _ _ M4.out.mem (by omega) (by omega) (Nat.le_refl _)).mono ?_
  rintro e5 w5 ⟨v5, rfl, o5, b5⟩
  rw [mbytes_all M ML.out] at o5
  have P5 := hid (rd_of_own o5)
  have O5 := hid (O4.out.below b5)
  have M5 := hid (M4.out.below b5)
  have Q5 := hid (bel_t Q4.out b5)
  clear o5 b5 M4 Q4 O4
  go_wp2_with fail
  refine (same_any M M v5 v4 _ P5.out (rd_of_own O5.out) (by rw [ML.out]; decide)).mono ?_
  rintro e6 w6 ⟨rfl, b6⟩
  rw [beq_self_eq_true]
  have O6 := hid (O5.out.below b6)
  have M6 := hid (M5.out.below b6)
  have Q6 := hid (bel_t Q5.out b6)
  clear b6 M5 Q5 O5 P5
  go_wp2_with fail
  refine (dirty_any _ g _ _ _ _ M6.out).mono ?_
  rintro e7 w7 ⟨rfl, m7, -, r7⟩
  have M7 := hid m7
  have O7 := hid (O6.out.wrote M6.out r7)
  have Q7 := hid (Q6.out.trans (r7.below M6.out))
  clear m7 r7 M6 Q6 O6
  go_wp2_with fail
  go_loopw [11, 12, 13] (fun v u i wr => ∃ (k : Nat) (s : Value), k ≤ W.length ∧ i = .int .i64 (k : Int) ∧ Own w.heap.size wr v (writes M W k) ∧ wr.ownsRow w.heap.size 49 2 u (logs W k).length (rs (logs W k)) ∧ Apart s u ∧ MemL wr w.heap.size g s (writes M W k) (logs W k) ∧ Below w.heap.size w wr) (fun _ _ i _ => W.length - (intOf i).toNat)
  case atStart => exact ⟨0, _, by omega, rfl, O7.out, World.ownsRow_nil _ _ _ _, apart_of, M7.out, Q7.out⟩
  case round =>
    obtain ⟨k, s, hk, rfl, hown, hlog, hap, hmem, hB⟩ := hrel
    clear O7 M7 Q7
    have OO := hid hown
    have LG := hid hlog
    have AP := hid hap
    have MM := hid hmem
    have QQ := hid hB
    clear hown hlog hap hmem hB
    by_cases hkn : k < W.length
    · obtain ⟨x, hx⟩ : ∃ x, W[k]? = some x := ⟨_, List.getElem?_eq_getElem hkn⟩
      obtain ⟨gl, off, cap, hv, gll, c1, c2, hxr⟩ := rdw_at HW.out hx
      simp only [Value.slice.injEq] at hv
      obtain ⟨rfl, -, -⟩ := hv
      obtain ⟨x1, x2, x3⟩ := x
      dsimp only at c1 c2 hxr
      obtain ⟨xo, xcap, rfl, -⟩ := rd_view hxr
      have hfa := few_at HF.out hx
      dsimp only at hfa
      have HFA := hid hfa
      have WA := hid (writes_at (M := M) hx)
      have LA := hid (logs_at hx)
      have LN := hid (logs_len W k)
      have HXR := hid hxr
      have C1 := hid ((QQ.out.cell (p := ⟨gl, off + k * 2, none⟩) gll).trans c1)
      have C2 := hid ((QQ.out.cell (p := ⟨gl, off + k * 2 + 1, none⟩) gll).trans c2)
      have hwl : W.length ≤ 20 := HL.out.1
      have HK := hid hkn
      clear hfa hx c1 c2 hxr hkn
      have k0 : (0 : Int) ≤ k := by omega
      have k1 : (k : Int) < W.length := by have := HK.out; omega
      have k2 : (k : Int) ≤ 20 := by omega
      go_wp2_with fail
      go_region_held3 (fun x => x.cell? ⟨gl, off + k * 2, none⟩ = some (.int .i64 x1) ∧ x.cell? ⟨gl, off + k * 2 + 1, none⟩ = some (.slice xo x3.length xcap))
        (first
          | exact ⟨C1.out, C2.out⟩
          | exact ⟨D1.out, D2.out⟩)
        (first
          | (go_at_call 28; refine (write_any x1 x3 _ _ g s _ _ _ MM.out.drew (rd_below HXR.out QQ.out.drew) (fun h => rd_ne HXR.out h MM.out.low) (by have := HFA.out; omega) (by have := HFA.out; omega) (by have := HFA.out; omega) (by have := LN.out; omega)).mono ?_; rintro e8 w8 ⟨rfl, s8, m8, r8⟩; have M8 := hid m8; have R8 := hid (Wrote.undrew r8); have Q8 := hid (QQ.out.trans (R8.out.below MM.out)); have O8 := hid (OO.out.wrote MM.out R8.out); have L8 := hid (log_wrote LG.out MM.out R8.out AP.out); have D1 := hid ((Q8.out.cell (p := ⟨gl, off + k * 2, none⟩) gll).trans ((QQ.out.cell (p := ⟨gl, off + k * 2, none⟩) gll).symm.trans C1.out)); have D2 := hid ((Q8.out.cell (p := ⟨gl, off + k * 2 + 1, none⟩) gll).trans ((QQ.out.cell (p := ⟨gl, off + k * 2 + 1, none⟩) gll).symm.trans C2.out)); clear m8 r8))
      clear OO MM C1 C2 R8 LG AP
      go_wp2_with fail
      go_region_held3 (fun x => x.cell? ⟨gl, off + k * 2, none⟩ = some (.int .i64 x1) ∧ x.cell? ⟨gl, off + k * 2 + 1, none⟩ = some (.slice xo x3.length xcap))
        (first
          | exact ⟨D1.out, D2.out⟩
          | exact ⟨E1.out, E2.out⟩)
        (first
          | (go_at_call 29; refine (refPut_any x1 (writes M W k) x3 _ _ w8.drew (rd_of_own (w := w8) O8.out) (writes_len _ _ ML.out k) (rd_below HXR.out Q8.out.drew) (by have := HFA.out; omega) (by have := HFA.out; omega) (by have := HFA.out; omega)).mono ?_; rintro e9 w9 ⟨v9, rfl, o9, b9⟩; have B9 := hid (undrew b9); have O9 := hid (own_base Q8.out.size o9); have M9 := hid (M8.out.below B9.out); have Q9 := hid (bel_t Q8.out B9.out); have L9 := hid (And.intro (World.ownsRow.kept (row := none) L8.out.1 ⟨B9.out.os, B9.out.tape, B9.out.output, B9.out.size, fun k hk _ => B9.out.block k hk⟩ (by cases u12.ownBlock <;> simp)) L8.out.2); have E1 := hid ((B9.out.cell (p := ⟨gl, off + k * 2, none⟩) (Nat.lt_of_lt_of_le gll Q8.out.size)).trans D1.out); have E2 := hid ((B9.out.cell (p := ⟨gl, off + k * 2 + 1, none⟩) (Nat.lt_of_lt_of_le gll Q8.out.size)).trans D2.out); clear o9 b9))
      clear D1 D2 O8 M8 L8 Q8 B9
      by_cases h3 : x3.length = 0
      · have LA0 := hid (show logs W (k + 1) = logs W k by rw [LA.out, h3]; exact logn_zero)
        have LA1 := hid (show logn (logs W k) (x1 % 65536) ((x3.length : Nat) : Int) = logs W (k + 1) from LA.out.symm)
        have h4 : ¬ (0 : Int) < x3.length := by omega
        have e1 := E1.out
        have e2 := E2.out
        clear h3
        go_wp2_with fail
        go_roundw
        case rel => exact ⟨k + 1, s8, HK.out, by go_num, by rw [WA.out]; exact O9.out, by rw [LA0.out]; exact L9.out.1, L9.out.2, by rw [WA.out, LA.out]; exact M9.out, Q9.out⟩
        case measure => have := HK.out; simp [intOf]; omega
      · have LA0 := hid (show logs W (k + 1) = logs W k ++ [(x1 % 65536, (x3.length : Int))] by rw [LA.out]; exact logn_pos (by omega))
        have h4 : (0 : Int) < x3.length := by omega
        have e1 := E1.out
        have e2 := E2.out
        clear h3
        go_wp2_with fail
        clear e1 e2
        go_region_held3 (fun x => x.cell? ⟨gl, off + k * 2, none⟩ = some (.int .i64 x1) ∧ x.cell? ⟨gl, off + k * 2 + 1, none⟩ = some (.slice xo x3.length xcap))
          (first
            | exact ⟨E1.out, E2.out⟩
            | exact ⟨F1.out, F2.out⟩
            | (show World.cell? _ _ = _ ∧ World.cell? _ _ = _; exact ⟨(cell_alloc_drew (Nat.lt_of_lt_of_le gll Q9.out.size)).trans E1.out, (cell_alloc_drew (Nat.lt_of_lt_of_le gll Q9.out.size)).trans E2.out⟩))
          (first
            | (go_at_call 30; refine (mod_own _ _).mono ?_; rintro e10 w10 ⟨rfl, rfl⟩)
            | (refine step_append_lies _ rfl (.tmp 94) (.tmp 108) 42 rfl w.heap.size 49 i0 (.agg #[.int .i64 0, .int .i64 0]) 2 16 Try.underlying42 hi hz0 hz1 hz2 rfl (by decide) u12 (logs W k).length (rs (logs W k)) (by simp [Act.eval]) (L9.out.1.alloc _).drew ⟨w9.heap.size, 0, none⟩ 1 1 [.int .i64 (x1 % 65536), .int .i64 x3.length] (by simp [Act.eval]) rfl (news_two (w := w9)) (two_one _ _) (by decide) (by have := LN.out; unfold maxLen; omega) (by have := LN.out; omega) (by have := Q9.out.size; simp; omega) (w9.heap.size + 1) (by simp) ?_; intro g' cap' w11 hown' hgr hg hlt; have F1 := hid ((cell_app hgr L9.out.1 gll (Nat.lt_of_lt_of_le gll Q9.out.size)).trans E1.out); have F2 := hid ((cell_app hgr L9.out.1 gll (Nat.lt_of_lt_of_le gll Q9.out.size)).trans E2.out); have L11 := hid hown'; have G11 := hid hgr; have H11 := hid hg; clear hown' hgr hg))
        go_wp2_with fail
        go_roundw
        case rel =>
          have hbA : Below w.heap.size w ((w9.alloc (.cells #[.int .i64 (x1 % 65536), .int .i64 x3.length] 49)).drew) := (Q9.out.alloc Q9.out.size _).drew
          have hq : Below w.heap.size w w11 := hbA.grown G11.out (by have := Q9.out.size; simp; omega) (fun j hj => (L9.out.1.lt j hj).1)
          have hm : MemL ((w9.alloc (.cells #[.int .i64 (x1 % 65536), .int .i64 x3.length] 49)).drew) w.heap.size g s8 (mput (writes M W k) x1 x3) (logn (logs W k) (x1 % 65536) x3.length) := M9.out.below ((Below.refl _ _).alloc (Nat.le_refl _) _).drew
          have hl : ((w9.alloc (.cells #[.int .i64 (x1 % 65536), .int .i64 x3.length] 49)).drew).ownsRow w.heap.size 49 2 u12 (logs W k).length (rs (logs W k)) := (L9.out.1.alloc _).drew
          have ho : Own w.heap.size ((w9.alloc (.cells #[.int .i64 (x1 % 65536), .int .i64 x3.length] 49)).drew) v9 (mput (writes M W k) x1 x3) := O9.out.below ((Below.refl _ _).alloc (Nat.le_refl _) _).drew
          obtain ⟨hm', hap'⟩ := log_grown (u' := .slice (some ⟨g', 0, none⟩) ((logs W k).length + 1) cap') hl hm G11.out L9.out.2 (by
            rcases H11.out with e | e
            · exact .inl e
            · right; intro j hj; simp [Value.ownBlock] at hj; simp; omega)
          exact ⟨k + 1, s8, HK.out, by go_num, by rw [WA.out]; exact own_grown hl ho G11.out, by rw [LA0.out, rs_snoc, List.length_append]; exact L11.out, hap', by rw [WA.out, LA.out]; exact hm', hq⟩
        case measure => have := HK.out; simp [intOf]; omega
    · have hkk : k = W.length := by omega
      clear hk
      subst hkk
      clear hkn
      have LN := hid (logs_len W W.length)
      have WL := hid (writes_len M W ML.out W.length)
      have hwl := HL.out.1
      generalize writes M W W.length = R at *
      generalize logs W W.length = lg at *
      go_wp2_with fail
      refine (dirty_any _ g _ _ _ _ MM.out).mono ?_
      rintro e8 w8 ⟨rfl, m8, o8, r8⟩
      have L8 := hid (log_wrote LG.out MM.out r8 AP.out).1
      have D8 := hid o8
      have M8 := hid m8
      have O8 := hid (OO.out.wrote MM.out r8)
      have Q8 := hid (QQ.out.trans (r8.below MM.out))
      clear m8 o8 r8 MM OO QQ LG AP
      obtain ⟨so, scap, rfl, hsv⟩ := log_view D8.out
      obtain ⟨uo, ucap, rfl, huv⟩ := log_view L8.out
      have HS := hid hsv
      have HU := hid huv
      clear hsv huv D8 L8
      have hlg : lg.length ≤ 20 := by have := LN.out; omega
      have heq : ((lg.length : Int) != lg.length) = false := by simp
      go_wp2_with fail
      go_loopw [15] (fun i wr => ∃ k : Nat, k ≤ lg.length ∧ i = .int .i64 (k : Int) ∧ Below w8.heap.size w8 wr) (fun i _ => lg.length - (intOf i).toNat)
      case atStart => exact ⟨0, by omega, rfl, Below.refl _ _⟩
      case round =>
        obtain ⟨k, hk, rfl, hB⟩ := hrel
        have QB := hid hB
        clear hB
        by_cases hkn : k < lg.length
        · obtain ⟨x, hx⟩ : ∃ x, lg[k]? = some x := ⟨_, List.getElem?_eq_getElem hkn⟩
          obtain ⟨gs, rfl, gsl, hcs⟩ := HS.out (by omega)
          obtain ⟨gu, rfl, gul, hcu⟩ := HU.out (by omega)
          obtain ⟨r1, r2⟩ := rs_at lg k x hx
          have c1 := (QB.out.cell (p := ⟨gs, k * 2, none⟩) gsl).trans (hcs _ _ r1)
          have c2 := (QB.out.cell (p := ⟨gs, k * 2 + 1, none⟩) gsl).trans (hcs _ _ r2)
          have d1 := (QB.out.cell (p := ⟨gu, k * 2, none⟩) gul).trans (hcu _ _ r1)
          have d2 := (QB.out.cell (p := ⟨gu, k * 2 + 1, none⟩) gul).trans (hcu _ _ r2)
          obtain ⟨x1, x2⟩ := x
          dsimp only at c1 c2 d1 d2
          have k0 : (0 : Int) ≤ k := by omega
          have k1 : (k : Int) < lg.length := by omega
          clear hx hcs hcu r1 r2
          go_wp2_with fail
          go_quiet (fail)
          go_wp2_with fail
          go_roundw
          case rel => exact ⟨k + 1, by omega, by go_num, below_drewN QB.out _⟩
          case measure => simp [intOf]; omega
        · have hkk : k = lg.length := by omega
          clear hk
          subst hkk
          have M9 := hid (M8.out.below QB.out)
          have O9 := hid (O8.out.below QB.out)
          have Q9 := hid (bel_t Q8.out QB.out)
          have RR := hid (show R.length < 2 ^ 40 by rw [WL.out]; decide)
          clear hkn M8 O8 Q8 QB
          obtain ⟨gv, vcap, rfl, -, -, -, -⟩ := own_shape O9.out (by rw [WL.out]; decide)
          go_wp2_with fail
          refine (bytes_any 0 65536 g _ _ _ M9.out.mem (by omega) (by omega) (Nat.le_refl _)).mono ?_
          rintro e10 w10 ⟨v10, rfl, o10, b10⟩
          rw [mbytes_all R WL.out] at o10
          have P10 := hid (rd_of_own o10)
          have O10 := hid (O9.out.below b10)
          have M10 := hid (M9.out.below b10)
          have Q10 := hid (bel_t Q9.out b10)
          clear o10 b10 M9 O9 Q9
          go_wp2_with fail
          refine (same_any R R v10 _ _ P10.out (rd_of_own O10.out) RR.out).mono ?_
          rintro e11 w11 ⟨rfl, b11⟩
          rw [beq_self_eq_true]
          have O11 := hid (O10.out.below b11)
          have M11 := hid (M10.out.below b11)
          have Q11 := hid (bel_t Q10.out b11)
          clear b11 M10 O10 Q10 P10
          go_wp2_with fail
          refine (bytes_any a n g _ _ _ M11.out.mem (by omega) (by omega) (by have := HN.out; omega)).mono ?_
          rintro e12 w12 ⟨v12, rfl, o12, b12⟩
          have P12 := hid (rd_of_own o12)
          have O12 := hid (O11.out.below b12)
          have M12 := hid (M11.out.below b12)
          have Q12 := hid (bel_t Q11.out b12)
          clear o12 b12 M11 O11 Q11
          go_wp2_with fail
          refine (refBytes_any a n R _ _ (rd_of_own O12.out) WL.out (by omega) (by omega) (by have := HN.out; omega)).mono ?_
          rintro e13 w13 ⟨v13, rfl, o13, b13⟩
          have P13 := hid (rd_of_own o13)
          have R13 := hid (rd_below P12.out b13)
          have O13 := hid (O12.out.below b13)
          have M13 := hid (M12.out.below b13)
          have Q13 := hid (bel_t Q12.out b13)
          clear o13 b13 M12 O12 Q12 P12
          go_wp2_with fail
          refine (same_any (mbytes R a n) (mbytes R a n) v12 v13 _ R13.out P13.out (by rw [mbytes_length]; have := HN.out; omega)).mono ?_
          rintro e14 w14 ⟨rfl, b14⟩
          rw [beq_self_eq_true]
          have O14 := hid (O13.out.below b14)
          have M14 := hid (M13.out.below b14)
          have Q14 := hid (bel_t Q13.out b14)
          clear b14 M13 O13 Q13 P13 R13
          go_wp2_with fail
          refine (read_bel a g _ _ _ M14.out.mem).mono ?_
          rintro e15 w15 ⟨rfl, b15⟩
          have O15 := hid (O14.out.below b15)
          have M15 := hid (M14.out.below b15)
          have Q15 := hid (bel_t Q14.out b15)
          clear b15 M14 O14 Q14
          have c1 : w15.cell? ⟨gv, (a % 65536).toNat, none⟩ = some (.int .u8 (mget R a)) := own_cell O15.out rfl (a % 65536).toNat (by rw [WL.out]; omega)
          have i0' : 0 ≤ a % 65536 := by omega
          have i1' : a % 65536 < R.length := by rw [WL.out]; omega
          go_wp2_with fail
          refine (mod_own a _).mono ?_
          rintro e16 w16 ⟨rfl, rfl⟩
          go_wp2_with fail
          refine (dirty_any _ g _ _ _ _ M15.out).mono ?_
          rintro e17 w17 ⟨rfl, -, -, r17⟩
          have Q17 := hid (Q15.out.trans (r17.below M15.out))
          clear M15 Q15 O15 r17
          go_wp2_with fail
          go_ret
          exact ⟨rfl, Q17.out⟩
theorem match_walk (vr : Value) (rom : List Int) (vl : Value) (W : List Wr) (a : Int) (n : Nat) (w : World) (hr : Rd w vr rom) (_z0 : ByteL rom) (_m0 : rom.length ≤ maxLen) (hW : RdW w vl W) (_z1 : ∀ x ∈ W, ByteL x.2.2) (_m1 : W.length ≤ maxLen) (_wa : (Lit.int .i64 a).wf = true) (hn : n < 256) :
    Calls Try.prog 8 #[vr, vl, .int .i64 a, .int .u8 n] w fun e w' => e = .returned (.bool true) ∧ Below w.heap.size w w' := by
  rcases Bool.eq_false_or_eq_true (fewB W rom.length) with h | h
  · by_cases ha : -1000000 ≤ a ∧ a ≤ 1000000
    · exact match_good rom W a n vr vl w hr hW h ha.1 ha.2 hn
    · exact match_bad rom W a n vr vl w hr hW (.inr (by omega))
  · exact match_bad rom W a n vr vl w hr hW (.inl h)
end Go.Proofs.Ytgfagophgipldaa
