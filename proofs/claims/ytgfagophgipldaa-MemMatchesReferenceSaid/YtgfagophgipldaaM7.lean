import Derived.Test.YtgfagophgipldaaM6
namespace Go.Proofs.Ytgfagophgipldaa
open Go.RowKit
theorem made_bs {w : World} {B : Nat} {n : Nat} {v : Value} (h : w.ownsRow B 5 1 v n (madeCells (Value.int .u8 0).cells (n * 1)).toList) : Own B w v (List.replicate n 0) := by
  unfold Own
  rw [show (Value.int .u8 0).cells = #[.int .u8 0] from rfl, toList_madeCells_one, Nat.mul_one] at h
  rw [List.length_replicate]
  unfold bs
  rw [List.map_replicate]
  exact h
theorem Zs_def : Zs = List.replicate 65536 0 := rfl
set_option maxHeartbeats 1000000 in
theorem refNew_any (rom : List Int) (vr : Value) (w : World) (hr : Rd w vr rom) (hl : rom.length ≤ 65024) :
    Calls Try.prog 25 #[vr] w fun e w' => ∃ v, e = .returned v ∧ Own w.heap.size w' v (minit rom) ∧ Below w.heap.size w w' := by
  obtain ⟨i0, hi, hz0, hz1, hz2⟩ := info_parts Try.info5
  have HR := hid hr
  clear hr
  go_enter Try.func25, Try.ntmps25
  go_wp2_with ((with_reducible show wpList _ _ _ _ _ _); (refine wpList_make_full _ rfl (.const (.int .i64 65536)) (.const (.int .i64 65536)) 24 rfl w.heap.size 5 i0 (.int .u8 0) 1 Try.underlying24 hi hz0 hz1 .i64 .i64 65536 65536 65536 rfl rfl rfl rfl (by rw [hz2]; decide) (by decide) (Nat.le_refl _) ?_); intro w1 hown hgr; have HO := hid hown; have HG := hid hgr; clear hown hgr)
  have o1 := hid (made_bs HO.out)
  have q1 := hid ((Below.refl w.heap.size w).grown HG.out (Nat.le_refl _) (fun k hk => by cases hk))
  clear HO HG
  go_wp2_with fail
  refine (refSmall_any _).mono ?_
  rintro e2 w2 ⟨v2, rfl, o2, b2⟩
  have p1 := hid (rd_below (rd_of_own o1.out) b2)
  have p2 := hid (rd_of_own o2)
  have q2 := hid (bel_t q1.out b2)
  clear o1 o2 b2 q1
  go_wp2_with fail
  refine (refPut_any 80 Zs SM _ v2 _ (by rw [Zs_def]; exact p1.out) zs_len p2.out (by decide) (by decide) (by rw [sm_len]; decide)).mono ?_
  rintro e3 w3 ⟨v3, rfl, o3, b3⟩
  have q3 := hid (bel_t q2.out b3)
  have O3 := hid o3
  clear p1 p2 q2 o3 b3
  go_wp2_with fail
  refine (refBig_any _).mono ?_
  rintro e4 w4 ⟨v4, rfl, o4, b4⟩
  have p3 := hid (rd_below (rd_of_own O3.out) b4)
  have p4 := hid (rd_of_own o4)
  have q4 := hid (bel_t q3.out b4)
  clear O3 o4 b4 q3
  go_wp2_with fail
  refine (refPut_any 160 _ BG v3 v4 _ p3.out (by rw [mput_length, zs_len]) p4.out (by decide) (by decide) (by rw [bg_len']; decide)).mono ?_
  rintro e5 w5 ⟨v5, rfl, o5, b5⟩
  have q5 := hid (bel_t q4.out b5)
  have O5 := hid o5
  clear p3 p4 q4 o5 b5
  go_wp2_with fail
  refine (refPut_any 512 _ rom v5 vr _ (rd_of_own O5.out) (by rw [mput_length, mput_length, zs_len]) (rd_below HR.out q5.out) (by decide) (by decide) (by omega)).mono ?_
  rintro e6 w6 ⟨v6, rfl, o6, b6⟩
  have q6 := hid (bel_t q5.out b6)
  have O6 := hid (own_base (q5.out.size) o6)
  clear O5 o6 b6 q5
  go_wp2_with fail
  go_ret
  exact ⟨_, rfl, O6.out, q6.out⟩
/-! Few. -/
/-- A list of writes that came in: their addresses, their slices, their bytes. -/
def RdW (w : World) (v : Value) (W : List (Int × Value × List Int)) : Prop :=
  ((∃ ao cap, v = .slice ao 0 cap) ∧ W = []) ∨ ∃ g off cap, v = .slice (some ⟨g, off, none⟩) W.length cap ∧ g < w.heap.size ∧
    ∀ j x, W[j]? = some x → w.cell? ⟨g, off + j * 2, none⟩ = some (.int .i64 x.1) ∧ w.cell? ⟨g, off + j * 2 + 1, none⟩ = some x.2.1 ∧ Rd w x.2.1 x.2.2
def okW (x : Int × Value × List Int) : Bool := decide (x.2.2.length ≤ 100) && decide (-1000000 ≤ x.1) && decide (x.1 ≤ 1000000)
def fewB (W : List (Int × Value × List Int)) (n : Nat) : Bool := (W.take 21).all okW && decide (W.length ≤ 20) && decide (n ≤ 2000)
theorem okW_take {W : List (Int × Value × List Int)} {k : Nat} {x : Int × Value × List Int} (h : (W.take k).all okW = true) (hx : W[k]? = some x) (ho : okW x = true) : (W.take (k + 1)).all okW = true := by
  rw [List.take_add_one, hx]
  simp only [Option.toList_some, List.all_append, h, List.all_cons, List.all_nil, Bool.and_true, ho]
theorem few_bad {W : List (Int × Value × List Int)} {k n : Nat} {x : Int × Value × List Int} (hk : k ≤ 20) (hx : W[k]? = some x) (ho : okW x = false) : fewB W n = false := by
  have : (W.take 21).all okW = false := by
    rw [List.all_eq_false]
    refine ⟨x, ?_, by rw [ho]; decide⟩
    refine List.mem_iff_getElem?.2 ⟨k, ?_⟩
    rw [List.getElem?_take, if_pos (by omega)]
    exact hx
  unfold fewB
  rw [this]
  rfl
theorem few_end {W : List (Int × Value × List Int)} {k n : Nat} (h : (W.take k).all okW = true) (hk : k = 21 ∨ k = W.length) (hk' : k ≤ 21) : fewB W n = (decide (W.length ≤ 20) && decide (n ≤ 2000)) := by
  have : (W.take 21).all okW = true := by
    rcases hk with rfl | rfl
    · exact h
    · rw [List.take_of_length_le (by omega)]
      rwa [List.take_of_length_le (by omega)] at h
  unfold fewB
  rw [this]
  rfl
set_option maxHeartbeats 1000000 in
theorem few_any (W : List (Int × Value × List Int)) (n : Nat) (ro : Option Addr) (rcap : Nat) (vl : Value) (w : World) (h : RdW w vl W) :
    Calls Try.prog 24 #[.slice ro n rcap, vl] w fun e w' => e = .returned (.bool (fewB W n)) ∧ w = w' := by
  have hv : ∃ ao cap, vl = .slice ao W.length cap ∧ (W ≠ [] → ∃ g off, ao = some ⟨g, off, none⟩ ∧ ∀ j x, W[j]? = some x → w.cell? ⟨g, off + j * 2, none⟩ = some (.int .i64 x.1) ∧ w.cell? ⟨g, off + j * 2 + 1, none⟩ = some x.2.1 ∧ Rd w x.2.1 x.2.2) := by
    rcases h with ⟨⟨ao, cap, rfl⟩, rfl⟩ | ⟨g, off, cap, rfl, h1, h2⟩
    · exact ⟨ao, cap, rfl, fun h => absurd rfl h⟩
    · exact ⟨_, cap, rfl, fun _ => ⟨g, off, rfl, h2⟩⟩
  obtain ⟨ao, cap, rfl, hA⟩ := hv
  have HA := hid hA
  clear h hA
  go_enter Try.func24, Try.ntmps24
  go_wp2_with fail
  go_loop [5] (fun i => ∃ k : Nat, k ≤ W.length ∧ k ≤ 21 ∧ i = .int .i64 (k : Int) ∧ (W.take k).all okW = true) (fun i => W.length - (intOf i).toNat)
  case atStart => exact ⟨0, by omega, by omega, rfl, by simp⟩
  case round =>
    obtain ⟨k, hk, hk21, rfl, hall⟩ := hrel
    have HT := hid hall
    clear hall
    by_cases hkn : k < W.length ∧ k ≤ 20
    · obtain ⟨hk1, hk2⟩ := hkn
      obtain ⟨x, hx⟩ : ∃ x, W[k]? = some x := ⟨_, List.getElem?_eq_getElem hk1⟩
      obtain ⟨g, off, rfl, hc⟩ := HA.out (by intro e; subst e; simp at hk1)
      obtain ⟨c1, c2, c3⟩ := hc k x hx
      have HX := hid hx
      clear hc hx
      obtain ⟨a, vb, b⟩ := x
      dsimp only at c1 c2 c3
      obtain ⟨bo, bcap, rfl, -⟩ := rd_view c3
      clear c3
      have k0 : (0 : Int) ≤ k := by omega
      have k1 : (k : Int) < W.length := by omega
      have k2 : (k : Int) ≤ 20 := by omega
      by_cases t1 : (100 : Int) < b.length
      · have hb : okW (a, .slice bo b.length bcap, b) = false := by
          have : decide (b.length ≤ 100) = false := by rw [decide_eq_false_iff_not]; omega
          unfold okW; rw [this]; rfl
        have HF := hid (few_bad (n := n) hk2 HX.out hb)
        clear hb
        go_wp2_with fail
        go_ret
        exact ⟨by rw [HF.out]; rfl, rfl⟩
      · by_cases t2 : a < -1000000
        · have hb : okW (a, .slice bo b.length bcap, b) = false := by
            have : decide (-1000000 ≤ a) = false := by rw [decide_eq_false_iff_not]; omega
            unfold okW; rw [this, Bool.and_false]; rfl
          have HF := hid (few_bad (n := n) hk2 HX.out hb)
          clear hb
          go_wp2_with fail
          go_ret
          exact ⟨by rw [HF.out]; rfl, rfl⟩
        · by_cases t3 : 1000000 < a
          · have hb : okW (a, .slice bo b.length bcap, b) = false := by
              have : decide (a ≤ 1000000) = false := by rw [decide_eq_false_iff_not]; omega
              unfold okW; rw [this, Bool.and_false]
            have HF := hid (few_bad (n := n) hk2 HX.out hb)
            clear hb
            go_wp2_with fail
            go_ret
            exact ⟨by rw [HF.out]; rfl, rfl⟩
          · have hb : okW (a, .slice bo b.length bcap, b) = true := by
              unfold okW
              rw [decide_eq_true (by show b.length ≤ 100; omega), decide_eq_true (by show -1000000 ≤ a; omega), decide_eq_true (by show a ≤ 1000000; omega)]; rfl
            have HB := hid hb
            clear hb
            go_wp2_with fail
            go_round
            case rel => exact ⟨k + 1, by omega, by omega, by go_num, okW_take HT.out HX.out HB.out⟩
            case measure => simp [intOf]; omega
    · have HF := hid (few_end (n := n) HT.out (by omega) hk21)
      by_cases hk1 : k < W.length
      · have hk2 : ¬ (k : Int) ≤ 20 := by omega
        have hw : ¬ (W.length : Int) ≤ 20 := by omega
        have hw2 : decide (W.length ≤ 20) = false := by rw [decide_eq_false_iff_not]; omega
        have HW := hid hw2
        clear hw2 hkn
        have k1 : (k : Int) < W.length := by omega
        go_wp2_with fail
        go_ret
        exact ⟨by rw [HF.out, HW.out]; rfl, rfl⟩
      · by_cases hw : W.length ≤ 20
        · have hw2 : decide (W.length ≤ 20) = true := decide_eq_true hw
          have HW := hid hw2
          clear hw2
          have hw3 : (W.length : Int) ≤ 20 := by omega
          have k1 : ¬ (k : Int) < W.length := by omega
          by_cases hn : n ≤ 2000
          · have hw4 : decide (n ≤ 2000) = true := decide_eq_true hn
            have HV := hid hw4
            clear hw4
            have hw5 : (n : Int) ≤ 2000 := by omega
            go_wp2_with fail
            go_ret
            exact ⟨by rw [HF.out, HW.out, HV.out]; rfl, rfl⟩
          · have hw4 : decide (n ≤ 2000) = false := decide_eq_false hn
            have HV := hid hw4
            clear hw4
            have hw5 : ¬ (n : Int) ≤ 2000 := by omega
            go_wp2_with fail
            go_ret
            exact ⟨by rw [HF.out, HW.out, HV.out]; rfl, rfl⟩
        · have hw2 : decide (W.length ≤ 20) = false := decide_eq_false hw
          have HW := hid hw2
          clear hw2
          have hw3 : ¬ (W.length : Int) ≤ 20 := by omega
          have k1 : ¬ (k : Int) < W.length := by omega
          go_wp2_with fail
          go_ret
          exact ⟨by rw [HF.out, HW.out]; rfl, rfl⟩
end Go.Proofs.Ytgfagophgipldaa
