import Derived.Test.YtepkaagbjfnpbaaDoorA7
namespace Go.Proofs.YtepkaagbjfnpbaaDoor
open Go.RowKit
theorem opS_range (h x y n nn nnn : Int) (hh : 0 ≤ h ∧ h ≤ 15) (hn : 0 ≤ n ∧ n ≤ 15) : 0 ≤ opS h x y n nn nnn ∧ opS h x y n nn nnn ≤ 51 := by
  unfold opS zeroS fiveS eightS fifteenS
  (repeat' split) <;> omega
theorem rdec_any (a b c d : Nat) (lv : Int) (w : World) (ha : a < 256) (hb : b < 256) (hc : c < 256) (hd : d < 256) :
    Calls Tryd.prog 10 #[.int .u8 a, .int .u8 b, .int .u8 c, .int .u8 d, .int .i64 lv] w fun e w' => e = .returned (.agg (refDec a b ((c : Int) * 256 + d) lv)) ∧ Below w.heap.size w w' := by
  have hr := opS_range ((a : Int) / 16) ((a : Int) % 16) ((b : Int) / 16) ((b : Int) % 16) b ((a : Int) % 16 * 256 + b) (by omega) (by omega)
  unfold refDec opI
  dsimp only
  generalize HO' : opS ((a : Int) / 16) ((a : Int) % 16) ((b : Int) / 16) ((b : Int) % 16) b ((a : Int) % 16 * 256 + b) = o at *
  have HO := hid HO'
  clear HO'
  by_cases h0 : (o == 0) = true
  · rw [if_pos (by simp [refBad, h0])]
    exact rdec_bad1 a b c d lv o w ha hb hc hd HO h0
  have h0 : (o == 0) = false := by simpa using h0
  by_cases h1 : lv < levelS o
  · rw [if_pos (by simp [refBad, h1])]
    exact rdec_bad2 a b c d lv o w ha hb hc hd HO h0 h1
  have h1 : levelS o ≤ lv := by omega
  by_cases h2 : 3 < lv
  · rw [if_pos (by simp [refBad, h2])]
    exact rdec_bad3 a b c d lv o w ha hb hc hd HO h0 h1 h2
  have h2 : lv ≤ 3 := by omega
  cases h4 : rallowedS lv ((a : Int) % 16)
  · by_cases h3 : (o == 43) = true
    · rw [if_pos (by simp [refBad, h3, h4])]
      exact rdec_bad4 a b c d lv o w ha hb hc hd HO h0 h1 h2 h3 h4
    · have h3 : (o == 43) = false := by simpa using h3
      by_cases h5 : (o == 44) = true
      · rw [if_pos (by simp [refBad, h5, h4])]
        exact rdec_bad5 a b c d lv o w ha hb hc hd HO h0 h1 h2 h3 h5 h4
      · have h5 : (o == 44) = false := by simpa using h5
        have d1 : decide (lv < levelS o) = false := by simpa using h1
        have d2 : decide (3 < lv) = false := by simpa using h2
        rw [if_neg (by simp [refBad, h0, h3, h5, d1, d2])]
        clear d1 d2
        have h6 : o ≠ 43 := by simpa using h3
        have h7 : o ≠ 44 := by simpa using h5
        have h8 : o ≠ 0 := by simpa using h0
        obtain rfl | rfl | rfl | rfl | rfl | rfl | rfl | rfl | rfl | rfl | rfl | rfl | rfl | rfl | rfl | rfl | rfl | rfl | rfl | rfl | rfl | rfl | rfl | rfl | rfl | rfl | rfl | rfl | rfl | rfl | rfl | rfl | rfl | rfl | rfl | rfl | rfl | rfl | rfl | rfl | rfl | rfl | rfl | rfl | rfl | rfl | rfl | rfl | rfl := (show o = 1 ∨ o = 2 ∨ o = 3 ∨ o = 4 ∨ o = 5 ∨ o = 6 ∨ o = 7 ∨ o = 8 ∨ o = 9 ∨ o = 10 ∨ o = 11 ∨ o = 12 ∨ o = 13 ∨ o = 14 ∨ o = 15 ∨ o = 16 ∨ o = 17 ∨ o = 18 ∨ o = 19 ∨ o = 20 ∨ o = 21 ∨ o = 22 ∨ o = 23 ∨ o = 24 ∨ o = 25 ∨ o = 26 ∨ o = 27 ∨ o = 28 ∨ o = 29 ∨ o = 30 ∨ o = 31 ∨ o = 32 ∨ o = 33 ∨ o = 34 ∨ o = 35 ∨ o = 36 ∨ o = 37 ∨ o = 38 ∨ o = 39 ∨ o = 40 ∨ o = 41 ∨ o = 42 ∨ o = 45 ∨ o = 46 ∨ o = 47 ∨ o = 48 ∨ o = 49 ∨ o = 50 ∨ o = 51 by omega)
        · exact rdec_g1 a b c d lv 1 w ha hb hc hd HO h0 h1 h2 rfl rfl (hid rfl) (hid rfl) (hid rfl) rfl (hid rfl) (hid rfl) rfl
        · exact rdec_g1 a b c d lv 2 w ha hb hc hd HO h0 h1 h2 rfl rfl (hid rfl) (hid rfl) (hid rfl) rfl (hid rfl) (hid rfl) rfl
        · exact rdec_g2 a b c d lv 3 w ha hb hc hd HO h0 h1 h2 rfl rfl (hid rfl) (hid rfl) (hid rfl) rfl (hid rfl) (hid rfl) rfl
        · exact rdec_g2 a b c d lv 4 w ha hb hc hd HO h0 h1 h2 rfl rfl (hid rfl) (hid rfl) (hid rfl) rfl (hid rfl) (hid rfl) rfl
        · exact rdec_g3 a b c d lv 5 w ha hb hc hd HO h0 h1 h2 rfl rfl (hid rfl) (hid rfl) (hid rfl) rfl (hid rfl) (hid rfl) rfl
        · exact rdec_g3 a b c d lv 6 w ha hb hc hd HO h0 h1 h2 rfl rfl (hid rfl) (hid rfl) (hid rfl) rfl (hid rfl) (hid rfl) rfl
        · exact rdec_g4 a b c d lv 7 w ha hb hc hd HO h0 h1 h2 rfl rfl (hid rfl) (hid rfl) (hid rfl) rfl (hid rfl) (hid rfl) rfl
        · exact rdec_g3 a b c d lv 8 w ha hb hc hd HO h0 h1 h2 rfl rfl (hid rfl) (hid rfl) (hid rfl) rfl (hid rfl) (hid rfl) rfl
        · exact rdec_g3 a b c d lv 9 w ha hb hc hd HO h0 h1 h2 rfl rfl (hid rfl) (hid rfl) (hid rfl) rfl (hid rfl) (hid rfl) rfl
        · exact rdec_g4 a b c d lv 10 w ha hb hc hd HO h0 h1 h2 rfl rfl (hid rfl) (hid rfl) (hid rfl) rfl (hid rfl) (hid rfl) rfl
        · exact rdec_g4 a b c d lv 11 w ha hb hc hd HO h0 h1 h2 rfl rfl (hid rfl) (hid rfl) (hid rfl) rfl (hid rfl) (hid rfl) rfl
        · exact rdec_g4 a b c d lv 12 w ha hb hc hd HO h0 h1 h2 rfl rfl (hid rfl) (hid rfl) (hid rfl) rfl (hid rfl) (hid rfl) rfl
        · exact rdec_g4 a b c d lv 13 w ha hb hc hd HO h0 h1 h2 rfl rfl (hid rfl) (hid rfl) (hid rfl) rfl (hid rfl) (hid rfl) rfl
        · exact rdec_g4 a b c d lv 14 w ha hb hc hd HO h0 h1 h2 rfl rfl (hid rfl) (hid rfl) (hid rfl) rfl (hid rfl) (hid rfl) rfl
        · exact rdec_g4 a b c d lv 15 w ha hb hc hd HO h0 h1 h2 rfl rfl (hid rfl) (hid rfl) (hid rfl) rfl (hid rfl) (hid rfl) rfl
        · exact rdec_g4 a b c d lv 16 w ha hb hc hd HO h0 h1 h2 rfl rfl (hid rfl) (hid rfl) (hid rfl) rfl (hid rfl) (hid rfl) rfl
        · exact rdec_g4 a b c d lv 17 w ha hb hc hd HO h0 h1 h2 rfl rfl (hid rfl) (hid rfl) (hid rfl) rfl (hid rfl) (hid rfl) rfl
        · exact rdec_g4 a b c d lv 18 w ha hb hc hd HO h0 h1 h2 rfl rfl (hid rfl) (hid rfl) (hid rfl) rfl (hid rfl) (hid rfl) rfl
        · exact rdec_g4 a b c d lv 19 w ha hb hc hd HO h0 h1 h2 rfl rfl (hid rfl) (hid rfl) (hid rfl) rfl (hid rfl) (hid rfl) rfl
        · exact rdec_g2 a b c d lv 20 w ha hb hc hd HO h0 h1 h2 rfl rfl (hid rfl) (hid rfl) (hid rfl) rfl (hid rfl) (hid rfl) rfl
        · exact rdec_g5 a b c d lv 21 w ha hb hc hd HO h0 h1 h2 rfl rfl (hid rfl) (hid rfl) (hid rfl) rfl (hid rfl) (hid rfl) rfl
        · exact rdec_g3 a b c d lv 22 w ha hb hc hd HO h0 h1 h2 rfl rfl (hid rfl) (hid rfl) (hid rfl) rfl (hid rfl) (hid rfl) rfl
        · exact rdec_g6 a b c d lv 23 w ha hb hc hd HO h0 h1 h2 rfl rfl (hid rfl) (hid rfl) (hid rfl) rfl (hid rfl) (hid rfl) rfl
        · exact rdec_g7 a b c d lv 24 w ha hb hc hd HO h0 h1 h2 rfl rfl (hid rfl) (hid rfl) (hid rfl) rfl (hid rfl) (hid rfl) rfl
        · exact rdec_g7 a b c d lv 25 w ha hb hc hd HO h0 h1 h2 rfl rfl (hid rfl) (hid rfl) (hid rfl) rfl (hid rfl) (hid rfl) rfl
        · exact rdec_g7 a b c d lv 26 w ha hb hc hd HO h0 h1 h2 rfl rfl (hid rfl) (hid rfl) (hid rfl) rfl (hid rfl) (hid rfl) rfl
        · exact rdec_g7 a b c d lv 27 w ha hb hc hd HO h0 h1 h2 rfl rfl (hid rfl) (hid rfl) (hid rfl) rfl (hid rfl) (hid rfl) rfl
        · exact rdec_g7 a b c d lv 28 w ha hb hc hd HO h0 h1 h2 rfl rfl (hid rfl) (hid rfl) (hid rfl) rfl (hid rfl) (hid rfl) rfl
        · exact rdec_g7 a b c d lv 29 w ha hb hc hd HO h0 h1 h2 rfl rfl (hid rfl) (hid rfl) (hid rfl) rfl (hid rfl) (hid rfl) rfl
        · exact rdec_g7 a b c d lv 30 w ha hb hc hd HO h0 h1 h2 rfl rfl (hid rfl) (hid rfl) (hid rfl) rfl (hid rfl) (hid rfl) rfl
        · exact rdec_g7 a b c d lv 31 w ha hb hc hd HO h0 h1 h2 rfl rfl (hid rfl) (hid rfl) (hid rfl) rfl (hid rfl) (hid rfl) rfl
        · exact rdec_g7 a b c d lv 32 w ha hb hc hd HO h0 h1 h2 rfl rfl (hid rfl) (hid rfl) (hid rfl) rfl (hid rfl) (hid rfl) rfl
        · exact rdec_g7 a b c d lv 33 w ha hb hc hd HO h0 h1 h2 rfl rfl (hid rfl) (hid rfl) (hid rfl) rfl (hid rfl) (hid rfl) rfl
        · exact rdec_g7 a b c d lv 34 w ha hb hc hd HO h0 h1 h2 rfl rfl (hid rfl) (hid rfl) (hid rfl) rfl (hid rfl) (hid rfl) rfl
        · exact rdec_g10 a b c d lv 35 w ha hb hc hd HO h0 h1 h2 rfl rfl (hid rfl) (hid rfl) (hid rfl) rfl (hid rfl) (hid rfl) rfl
        · exact rdec_g1 a b c d lv 36 w ha hb hc hd HO h0 h1 h2 rfl rfl (hid rfl) (hid rfl) (hid rfl) rfl (hid rfl) (hid rfl) rfl
        · exact rdec_g1 a b c d lv 37 w ha hb hc hd HO h0 h1 h2 rfl rfl (hid rfl) (hid rfl) (hid rfl) rfl (hid rfl) (hid rfl) rfl
        · exact rdec_g1 a b c d lv 38 w ha hb hc hd HO h0 h1 h2 rfl rfl (hid rfl) (hid rfl) (hid rfl) rfl (hid rfl) (hid rfl) rfl
        · exact rdec_g1 a b c d lv 39 w ha hb hc hd HO h0 h1 h2 rfl rfl (hid rfl) (hid rfl) (hid rfl) rfl (hid rfl) (hid rfl) rfl
        · exact rdec_g1 a b c d lv 40 w ha hb hc hd HO h0 h1 h2 rfl rfl (hid rfl) (hid rfl) (hid rfl) rfl (hid rfl) (hid rfl) rfl
        · exact rdec_g4 a b c d lv 41 w ha hb hc hd HO h0 h1 h2 rfl rfl (hid rfl) (hid rfl) (hid rfl) rfl (hid rfl) (hid rfl) rfl
        · exact rdec_g7 a b c d lv 42 w ha hb hc hd HO h0 h1 h2 rfl rfl (hid rfl) (hid rfl) (hid rfl) rfl (hid rfl) (hid rfl) rfl
        · exact rdec_g10 a b c d lv 45 w ha hb hc hd HO h0 h1 h2 rfl rfl (hid rfl) (hid rfl) (hid rfl) rfl (hid rfl) (hid rfl) rfl
        · exact rdec_g4 a b c d lv 46 w ha hb hc hd HO h0 h1 h2 rfl rfl (hid rfl) (hid rfl) (hid rfl) rfl (hid rfl) (hid rfl) rfl
        · exact rdec_g4 a b c d lv 47 w ha hb hc hd HO h0 h1 h2 rfl rfl (hid rfl) (hid rfl) (hid rfl) rfl (hid rfl) (hid rfl) rfl
        · exact rdec_g11 a b c d lv 48 w ha hb hc hd HO h0 h1 h2 rfl rfl (hid rfl) (hid rfl) (hid rfl) rfl (hid rfl) (hid rfl) rfl
        · exact rdec_g12 a b c d lv 49 w ha hb hc hd HO h0 h1 h2 rfl rfl (hid rfl) (hid rfl) (hid rfl) rfl (hid rfl) (hid rfl) rfl
        · exact rdec_g1 a b c d lv 50 w ha hb hc hd HO h0 h1 h2 rfl rfl (hid rfl) (hid rfl) (hid rfl) rfl (hid rfl) (hid rfl) rfl
        · exact rdec_g7 a b c d lv 51 w ha hb hc hd HO h0 h1 h2 rfl rfl (hid rfl) (hid rfl) (hid rfl) rfl (hid rfl) (hid rfl) rfl
  · have d1 : decide (lv < levelS o) = false := by simpa using h1
    have d2 : decide (3 < lv) = false := by simpa using h2
    rw [if_neg (by simp [refBad, h0, h4, d1, d2])]
    clear d1 d2
    have h8 : o ≠ 0 := by simpa using h0
    obtain rfl | rfl | rfl | rfl | rfl | rfl | rfl | rfl | rfl | rfl | rfl | rfl | rfl | rfl | rfl | rfl | rfl | rfl | rfl | rfl | rfl | rfl | rfl | rfl | rfl | rfl | rfl | rfl | rfl | rfl | rfl | rfl | rfl | rfl | rfl | rfl | rfl | rfl | rfl | rfl | rfl | rfl | rfl | rfl | rfl | rfl | rfl | rfl | rfl | rfl | rfl := (show o = 1 ∨ o = 2 ∨ o = 3 ∨ o = 4 ∨ o = 5 ∨ o = 6 ∨ o = 7 ∨ o = 8 ∨ o = 9 ∨ o = 10 ∨ o = 11 ∨ o = 12 ∨ o = 13 ∨ o = 14 ∨ o = 15 ∨ o = 16 ∨ o = 17 ∨ o = 18 ∨ o = 19 ∨ o = 20 ∨ o = 21 ∨ o = 22 ∨ o = 23 ∨ o = 24 ∨ o = 25 ∨ o = 26 ∨ o = 27 ∨ o = 28 ∨ o = 29 ∨ o = 30 ∨ o = 31 ∨ o = 32 ∨ o = 33 ∨ o = 34 ∨ o = 35 ∨ o = 36 ∨ o = 37 ∨ o = 38 ∨ o = 39 ∨ o = 40 ∨ o = 41 ∨ o = 42 ∨ o = 43 ∨ o = 44 ∨ o = 45 ∨ o = 46 ∨ o = 47 ∨ o = 48 ∨ o = 49 ∨ o = 50 ∨ o = 51 by omega)
    · exact rdec_g1 a b c d lv 1 w ha hb hc hd HO h0 h1 h2 rfl rfl (hid rfl) (hid rfl) (hid rfl) rfl (hid rfl) (hid rfl) rfl
    · exact rdec_g1 a b c d lv 2 w ha hb hc hd HO h0 h1 h2 rfl rfl (hid rfl) (hid rfl) (hid rfl) rfl (hid rfl) (hid rfl) rfl
    · exact rdec_g2 a b c d lv 3 w ha hb hc hd HO h0 h1 h2 rfl rfl (hid rfl) (hid rfl) (hid rfl) rfl (hid rfl) (hid rfl) rfl
    · exact rdec_g2 a b c d lv 4 w ha hb hc hd HO h0 h1 h2 rfl rfl (hid rfl) (hid rfl) (hid rfl) rfl (hid rfl) (hid rfl) rfl
    · exact rdec_g3 a b c d lv 5 w ha hb hc hd HO h0 h1 h2 rfl rfl (hid rfl) (hid rfl) (hid rfl) rfl (hid rfl) (hid rfl) rfl
    · exact rdec_g3 a b c d lv 6 w ha hb hc hd HO h0 h1 h2 rfl rfl (hid rfl) (hid rfl) (hid rfl) rfl (hid rfl) (hid rfl) rfl
    · exact rdec_g4 a b c d lv 7 w ha hb hc hd HO h0 h1 h2 rfl rfl (hid rfl) (hid rfl) (hid rfl) rfl (hid rfl) (hid rfl) rfl
    · exact rdec_g3 a b c d lv 8 w ha hb hc hd HO h0 h1 h2 rfl rfl (hid rfl) (hid rfl) (hid rfl) rfl (hid rfl) (hid rfl) rfl
    · exact rdec_g3 a b c d lv 9 w ha hb hc hd HO h0 h1 h2 rfl rfl (hid rfl) (hid rfl) (hid rfl) rfl (hid rfl) (hid rfl) rfl
    · exact rdec_g4 a b c d lv 10 w ha hb hc hd HO h0 h1 h2 rfl rfl (hid rfl) (hid rfl) (hid rfl) rfl (hid rfl) (hid rfl) rfl
    · exact rdec_g4 a b c d lv 11 w ha hb hc hd HO h0 h1 h2 rfl rfl (hid rfl) (hid rfl) (hid rfl) rfl (hid rfl) (hid rfl) rfl
    · exact rdec_g4 a b c d lv 12 w ha hb hc hd HO h0 h1 h2 rfl rfl (hid rfl) (hid rfl) (hid rfl) rfl (hid rfl) (hid rfl) rfl
    · exact rdec_g4 a b c d lv 13 w ha hb hc hd HO h0 h1 h2 rfl rfl (hid rfl) (hid rfl) (hid rfl) rfl (hid rfl) (hid rfl) rfl
    · exact rdec_g4 a b c d lv 14 w ha hb hc hd HO h0 h1 h2 rfl rfl (hid rfl) (hid rfl) (hid rfl) rfl (hid rfl) (hid rfl) rfl
    · exact rdec_g4 a b c d lv 15 w ha hb hc hd HO h0 h1 h2 rfl rfl (hid rfl) (hid rfl) (hid rfl) rfl (hid rfl) (hid rfl) rfl
    · exact rdec_g4 a b c d lv 16 w ha hb hc hd HO h0 h1 h2 rfl rfl (hid rfl) (hid rfl) (hid rfl) rfl (hid rfl) (hid rfl) rfl
    · exact rdec_g4 a b c d lv 17 w ha hb hc hd HO h0 h1 h2 rfl rfl (hid rfl) (hid rfl) (hid rfl) rfl (hid rfl) (hid rfl) rfl
    · exact rdec_g4 a b c d lv 18 w ha hb hc hd HO h0 h1 h2 rfl rfl (hid rfl) (hid rfl) (hid rfl) rfl (hid rfl) (hid rfl) rfl
    · exact rdec_g4 a b c d lv 19 w ha hb hc hd HO h0 h1 h2 rfl rfl (hid rfl) (hid rfl) (hid rfl) rfl (hid rfl) (hid rfl) rfl
    · exact rdec_g2 a b c d lv 20 w ha hb hc hd HO h0 h1 h2 rfl rfl (hid rfl) (hid rfl) (hid rfl) rfl (hid rfl) (hid rfl) rfl
    · exact rdec_g5 a b c d lv 21 w ha hb hc hd HO h0 h1 h2 rfl rfl (hid rfl) (hid rfl) (hid rfl) rfl (hid rfl) (hid rfl) rfl
    · exact rdec_g3 a b c d lv 22 w ha hb hc hd HO h0 h1 h2 rfl rfl (hid rfl) (hid rfl) (hid rfl) rfl (hid rfl) (hid rfl) rfl
    · exact rdec_g6 a b c d lv 23 w ha hb hc hd HO h0 h1 h2 rfl rfl (hid rfl) (hid rfl) (hid rfl) rfl (hid rfl) (hid rfl) rfl
    · exact rdec_g7 a b c d lv 24 w ha hb hc hd HO h0 h1 h2 rfl rfl (hid rfl) (hid rfl) (hid rfl) rfl (hid rfl) (hid rfl) rfl
    · exact rdec_g7 a b c d lv 25 w ha hb hc hd HO h0 h1 h2 rfl rfl (hid rfl) (hid rfl) (hid rfl) rfl (hid rfl) (hid rfl) rfl
    · exact rdec_g7 a b c d lv 26 w ha hb hc hd HO h0 h1 h2 rfl rfl (hid rfl) (hid rfl) (hid rfl) rfl (hid rfl) (hid rfl) rfl
    · exact rdec_g7 a b c d lv 27 w ha hb hc hd HO h0 h1 h2 rfl rfl (hid rfl) (hid rfl) (hid rfl) rfl (hid rfl) (hid rfl) rfl
    · exact rdec_g7 a b c d lv 28 w ha hb hc hd HO h0 h1 h2 rfl rfl (hid rfl) (hid rfl) (hid rfl) rfl (hid rfl) (hid rfl) rfl
    · exact rdec_g7 a b c d lv 29 w ha hb hc hd HO h0 h1 h2 rfl rfl (hid rfl) (hid rfl) (hid rfl) rfl (hid rfl) (hid rfl) rfl
    · exact rdec_g7 a b c d lv 30 w ha hb hc hd HO h0 h1 h2 rfl rfl (hid rfl) (hid rfl) (hid rfl) rfl (hid rfl) (hid rfl) rfl
    · exact rdec_g7 a b c d lv 31 w ha hb hc hd HO h0 h1 h2 rfl rfl (hid rfl) (hid rfl) (hid rfl) rfl (hid rfl) (hid rfl) rfl
    · exact rdec_g7 a b c d lv 32 w ha hb hc hd HO h0 h1 h2 rfl rfl (hid rfl) (hid rfl) (hid rfl) rfl (hid rfl) (hid rfl) rfl
    · exact rdec_g7 a b c d lv 33 w ha hb hc hd HO h0 h1 h2 rfl rfl (hid rfl) (hid rfl) (hid rfl) rfl (hid rfl) (hid rfl) rfl
    · exact rdec_g7 a b c d lv 34 w ha hb hc hd HO h0 h1 h2 rfl rfl (hid rfl) (hid rfl) (hid rfl) rfl (hid rfl) (hid rfl) rfl
    · exact rdec_g10 a b c d lv 35 w ha hb hc hd HO h0 h1 h2 rfl rfl (hid rfl) (hid rfl) (hid rfl) rfl (hid rfl) (hid rfl) rfl
    · exact rdec_g1 a b c d lv 36 w ha hb hc hd HO h0 h1 h2 rfl rfl (hid rfl) (hid rfl) (hid rfl) rfl (hid rfl) (hid rfl) rfl
    · exact rdec_g1 a b c d lv 37 w ha hb hc hd HO h0 h1 h2 rfl rfl (hid rfl) (hid rfl) (hid rfl) rfl (hid rfl) (hid rfl) rfl
    · exact rdec_g1 a b c d lv 38 w ha hb hc hd HO h0 h1 h2 rfl rfl (hid rfl) (hid rfl) (hid rfl) rfl (hid rfl) (hid rfl) rfl
    · exact rdec_g1 a b c d lv 39 w ha hb hc hd HO h0 h1 h2 rfl rfl (hid rfl) (hid rfl) (hid rfl) rfl (hid rfl) (hid rfl) rfl
    · exact rdec_g1 a b c d lv 40 w ha hb hc hd HO h0 h1 h2 rfl rfl (hid rfl) (hid rfl) (hid rfl) rfl (hid rfl) (hid rfl) rfl
    · exact rdec_g4 a b c d lv 41 w ha hb hc hd HO h0 h1 h2 rfl rfl (hid rfl) (hid rfl) (hid rfl) rfl (hid rfl) (hid rfl) rfl
    · exact rdec_g7 a b c d lv 42 w ha hb hc hd HO h0 h1 h2 rfl rfl (hid rfl) (hid rfl) (hid rfl) rfl (hid rfl) (hid rfl) rfl
    · exact rdec_g8 a b c d lv 43 w ha hb hc hd HO h0 h1 h2 rfl h4 (hid rfl) (hid rfl) (hid rfl) rfl (hid rfl) (hid rfl) rfl
    · exact rdec_g9 a b c d lv 44 w ha hb hc hd HO h0 h1 h2 rfl rfl h4 (hid rfl) (hid rfl) (hid rfl) rfl (hid rfl) (hid rfl) rfl
    · exact rdec_g10 a b c d lv 45 w ha hb hc hd HO h0 h1 h2 rfl rfl (hid rfl) (hid rfl) (hid rfl) rfl (hid rfl) (hid rfl) rfl
    · exact rdec_g4 a b c d lv 46 w ha hb hc hd HO h0 h1 h2 rfl rfl (hid rfl) (hid rfl) (hid rfl) rfl (hid rfl) (hid rfl) rfl
    · exact rdec_g4 a b c d lv 47 w ha hb hc hd HO h0 h1 h2 rfl rfl (hid rfl) (hid rfl) (hid rfl) rfl (hid rfl) (hid rfl) rfl
    · exact rdec_g11 a b c d lv 48 w ha hb hc hd HO h0 h1 h2 rfl rfl (hid rfl) (hid rfl) (hid rfl) rfl (hid rfl) (hid rfl) rfl
    · exact rdec_g12 a b c d lv 49 w ha hb hc hd HO h0 h1 h2 rfl rfl (hid rfl) (hid rfl) (hid rfl) rfl (hid rfl) (hid rfl) rfl
    · exact rdec_g1 a b c d lv 50 w ha hb hc hd HO h0 h1 h2 rfl rfl (hid rfl) (hid rfl) (hid rfl) rfl (hid rfl) (hid rfl) rfl
    · exact rdec_g7 a b c d lv 51 w ha hb hc hd HO h0 h1 h2 rfl rfl (hid rfl) (hid rfl) (hid rfl) rfl (hid rfl) (hid rfl) rfl
end Go.Proofs.YtepkaagbjfnpbaaDoor
