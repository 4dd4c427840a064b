import Derived.Test.YtgfagophgipldaaM8
namespace Go.Proofs.Ytgfagophgipldaa
open Go.RowKit
theorem mget_nat (M : List Int) (a : Int) (j : Nat) (x : Int) (h : (a % 65536).toNat = j) (hx : M[j]? = some x) : mget M a = x := by
  unfold mget
  rw [h, List.getD_eq_getElem?_getD, hx]; rfl
theorem last_read (k b : Nat) (hk : 0 < k) (hk' : k ≤ 65024) : (minit ((List.replicate k 0).set (k - 1) (b : Int)))[511 + k]? = some (b : Int) := by
  unfold minit
  have hl : ((List.replicate k 0).set (k - 1) (b : Int)).length = k := by rw [List.length_set, List.length_replicate]
  rw [mput_get _ _ _ (by rw [mput_length, mput_length, zs_len]) (by omega) _ (by omega), hl, if_pos (by omega)]
  have e : (((511 + k : Nat) : Int) - 512) % 65536 = ((k - 1 : Nat) : Int) := by omega
  rw [e, Int.toNat_natCast, List.getElem?_set_self (by rw [List.length_replicate]; omega)]
theorem own_cell {B g : Nat} {w : World} {v : Value} {L : List Int} (h : Own B w v L) (hg : v.ownBlock = some g) (j : Nat) (hj : j < L.length) : w.cell? ⟨g, j, none⟩ = some (.int .u8 (L.getD j 0)) := by
  have := h.cells hg j (.int .u8 (L.getD j 0)) (bs_getD L j hj)
  rwa [addr_add, Nat.zero_add] at this
theorem own_block {B g : Nat} {w : World} {v : Value} {L : List Int} (h : Own B w v L) (hg : v.ownBlock = some g) : ∃ C, w.heap[g]? = some (.cells C 5 (0, 0)) ∧ B ≤ g := by
  rcases h.2 with ⟨rfl, _⟩ | ⟨k, cap, cur, rfl, h1, hk, _⟩
  · cases hg
  · simp only [Value.ownBlock, Option.some.injEq] at hg
    subst hg
    exact ⟨cur, hk, h1⟩
theorem own_thaw {B g : Nat} {w : World} {v : Value} {L : List Int} (h : Own B w v L) (hg : v.ownBlock = some g) (j : Nat) : w.frozen? ⟨g, j, none⟩ = false := by
  obtain ⟨C, h1, -⟩ := own_block h hg
  exact frozen_of_row w g j C 5 h1
theorem own_set {B g : Nat} {w : World} {v : Value} {L : List Int} (h : Own B w v L) (hg : v.ownBlock = some g) (j : Nat) (x : Int) : Own B (w.setCell ⟨g, j, none⟩ (.int .u8 x)) v (L.set j x) := by
  unfold Own at h ⊢
  rw [List.length_set]
  rcases h.2 with ⟨rfl, _⟩ | ⟨k, cap, cur, rfl, h1, hk, _⟩
  · cases hg
  · simp only [Value.ownBlock, Option.some.injEq] at hg
    subst hg
    exact put_own h j x
set_option maxRecDepth 100000 in
set_option maxHeartbeats 2000000 in
theorem longest_any (n b k : Nat) (w : World) (hn : n < 65536) (_hb : b < 256) (hk : 64900 + n % 300 = k) :
    Calls Try.prog 7 #[.int .u16 n, .int .u8 b] w fun e w' => e = .returned (.bool true) ∧ Below w.heap.size w w' := by
  obtain ⟨i0, hi, hz0, hz1, hz2⟩ := info_parts Try.info5
  have n0 : (0 : Int) ≤ n := by omega
  have n1 : (n : Int) < 65536 := by omega
  have ek : 64900 + (n : Int) % 300 = k := by omega
  have ek2 : IntKind.i64.wrap ((k : Int) - 1) = ((k - 1 : Nat) : Int) := by rw [IntWalk.i64_in _ (by omega)]; omega
  have k1 : ((k - 1 : Nat) : Int) < k := by omega
  have k0 : 0 < k := by omega
  have k2 : k < 65300 := by omega
  clear hk
  go_enter Try.func7, Try.ntmps7
  go_wp2_with fail
  refine (memAwake_any _).mono ?_
  rintro e1 w1 ⟨rfl, b1⟩
  have Q1 := hid b1
  clear b1
  go_wp2_with ((with_reducible show wpList _ _ _ _ _ _); (refine wpList_make_full _ rfl (.tmp 15) (.tmp 15) 24 rfl w.heap.size 5 i0 (.int .u8 0) 1 Try.underlying24 hi hz0 hz1 .i64 .i64 k k k rfl rfl rfl rfl (by rw [hz2]; omega) (by unfold maxLen; omega) Q1.out.size ?_); intro w2 hown hgr; have G2 := hid (below_grown0 hgr); have O2 := hid (made_bs hown); clear hgr hown; have c1 := own_cell O2.out rfl (k - 1) (by rw [List.length_replicate]; omega); have c2 := own_thaw O2.out rfl (k - 1))
  have O3 := hid (own_set O2.out rfl (k - 1) (b : Int))
  have Q3 := hid ((Q1.out.trans (G2.out.mono Q1.out.size)).setCell (p := ⟨w1.heap.size, k - 1, none⟩) Q1.out.size (.int .u8 (b : Int)))
  clear O2 G2 c1 c2 Q1
  generalize w2.setCell { block := w1.heap.size, off := k - 1 } (Value.int IntKind.u8 ↑b) = w3 at *
  have HL := hid (show ((List.replicate k 0).set (k - 1) (b : Int)).length = k by rw [List.length_set, List.length_replicate])
  by_cases hb : 65024 < k
  · refine (new_long k _ _ _ hb).mono ?_
    rintro e4 w4 ⟨rfl, rfl⟩
    have hb1 : (65024 : Int) < k := by omega
    go_wp2_with fail
    go_ret
    exact ⟨rfl, Q3.out⟩
  · refine (new_any _ _ _ (rd_of_own O3.out) (by rw [HL.out]; omega)).mono ?_
    rintro e4 w4 ⟨g4, rfl, m4, b4⟩
    have Q4 := hid (bel_t Q3.out b4)
    have M4 := hid m4
    have hb1 : ¬ (65024 : Int) < k := by omega
    have L1 := hid (last_read k b (by omega) (by omega))
    clear Q3 O3 m4 b4 HL
    generalize minit ((List.replicate k 0).set (k - 1) (b : Int)) = R at *
    have s1 : (0 : Int) ≤ k := by omega
    have s2 : (k : Int) ≤ 65024 := by omega
    clear ek ek2 k1 n0 n1
    have HK := hid (And.intro hb (And.intro k0 k2))
    clear hb k0 k2
    go_wp2_with fail
    refine (read_bel (511 + (k : Int)) g4 _ R w4 M4.out.mem).mono ?_
    rintro e5 w5 ⟨rfl, b5⟩
    rw [mget_nat _ _ (511 + k) (b : Int) (by omega) L1.out]
    have Q5 := hid (bel_t Q4.out b5)
    have M5 := hid (M4.out.below b5)
    clear Q4 M4 b5
    go_wp2_with fail
    refine (read_bel (66047 + (k : Int)) g4 _ R w5 M5.out.mem).mono ?_
    rintro e6 w6 ⟨rfl, b6⟩
    rw [mget_nat _ _ (511 + k) (b : Int) (by omega) L1.out]
    have Q6 := hid (bel_t Q5.out b6)
    clear Q5 M5 b6
    go_wp2_with fail
    go_ret
    exact ⟨rfl, Q6.out⟩
theorem longest_walk (n b : Nat) (w : World) (hn : n < 65536) (hb : b < 256) : Calls Try.prog 7 #[.int .u16 n, .int .u8 b] w fun e w' => e = .returned (.bool true) ∧ Below w.heap.size w w' :=
  longest_any n b _ w hn hb rfl
end Go.Proofs.Ytgfagophgipldaa
