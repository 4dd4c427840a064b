import Derived.Test.YtepkaagbjfnpbaaDoorA9
namespace Go.Proofs.YtepkaagbjfnpbaaDoor
open Go.RowKit

def pickL (p : Nat) (op x y n nn nnn : Int) : List Int :=
  if p = 45 then [op, 0, 0, 0, 0, 0, 2] else if p = 46 then [op, 0, 0, 0, 0, nnn, 2] else if p = 47 then [op, x, 0, 0, nn, 0, 2] else if p = 48 then [op, x, y, 0, 0, 0, 2]
  else if p = 49 then [op, x, 0, 0, 0, nnn, 2] else if p = 50 then [op, x, y, n, 0, 0, 2] else if p = 51 then [op, x, 0, 0, 0, 0, 2] else if p = 52 then [op, 0, 0, n, 0, 0, 2] else [op, 0, 0, x, 0, 0, 2]
def implG (r : Rule) (a b : Nat) : List Int :=
  if Nat.beq r.op 48 = true then [48, 0, 0, 0, 0, 0, 4] else pickL r.pick r.op ((a : Int) % 16) ((b : Int) / 16) ((b : Int) % 16) b ((a : Int) % 16 * 256 + b)
def goodL (o : Int) (a b : Nat) : List Int :=
  [o, (if (LX.any fun a => a == o) = true then (a : Int) % 16 else 0), (if (LY.any fun a => a == o) = true then (b : Int) / 16 else 0),
    (if (o == 49) = true then (a : Int) % 16 else if (LN.any fun a => a == o) = true then (b : Int) % 16 else 0), (if (LNN.any fun a => a == o) = true then (b : Int) else 0),
    (if (o == 48) = true then 0 else if (LA.any fun a => a == o) = true then (a : Int) % 16 * 256 + b else 0), (if (o == 48) = true then 4 else 2)]
def eqL : List Int → List Int → Bool
  | [], [] => true
  | x :: l, y :: m => (x == y) && eqL l m
  | _, _ => false
def chkR (f : Option Rule) (o : Int) (a b : Nat) : Bool :=
  match f with
  | none => o == 0
  | some r => (o == (r.op : Int)) && !(Nat.beq r.op 0) && (levelS r.op == (r.level : Int)) && eqL (implG r a b) (goodL r.op a b)
def chk (a b : Nat) : Bool := chkR (findR (tbl1 ++ tbl2) (a * 256 + b)) (opI a b) a b
def chkB : Nat → Nat → Nat → Bool
  | 0, _, _ => true
  | k + 1, a, b => chk a b && chkB k a (b + 1)
def chkA : Nat → Nat → Bool
  | 0, _ => true
  | k + 1, a => chkB 256 a 0 && chkA k (a + 1)
theorem chk_0 : chkA 16 0 = true := by kernel_rfl
theorem chk_1 : chkA 16 16 = true := by kernel_rfl
theorem chk_2 : chkA 16 32 = true := by kernel_rfl
theorem chk_3 : chkA 16 48 = true := by kernel_rfl
theorem chk_4 : chkA 16 64 = true := by kernel_rfl
theorem chk_5 : chkA 16 80 = true := by kernel_rfl
theorem chk_6 : chkA 16 96 = true := by kernel_rfl
theorem chk_7 : chkA 16 112 = true := by kernel_rfl
theorem chk_8 : chkA 16 128 = true := by kernel_rfl
theorem chk_9 : chkA 16 144 = true := by kernel_rfl
theorem chk_10 : chkA 16 160 = true := by kernel_rfl
theorem chk_11 : chkA 16 176 = true := by kernel_rfl
theorem chk_12 : chkA 16 192 = true := by kernel_rfl
theorem chk_13 : chkA 16 208 = true := by kernel_rfl
theorem chk_14 : chkA 16 224 = true := by kernel_rfl
theorem chk_15 : chkA 16 240 = true := by kernel_rfl
theorem chkB_at : ∀ (k a b j : Nat), chkB k a b = true → b ≤ j → j < b + k → chk a j = true
  | 0, _, _, _, _, h1, h2 => absurd h2 (by omega)
  | k + 1, a, b, j, h, h1, h2 => by
    have h' : (chk a b && chkB k a (b + 1)) = true := h
    rw [Bool.and_eq_true] at h'
    by_cases e : j = b
    · rw [e]; exact h'.1
    · exact chkB_at k a (b + 1) j h'.2 (by omega) (by omega)
theorem chkA_at : ∀ (k a i j : Nat), chkA k a = true → a ≤ i → i < a + k → j < 256 → chk i j = true
  | 0, _, _, _, _, h1, h2, _ => absurd h2 (by omega)
  | k + 1, a, i, j, h, h1, h2, hj => by
    have h' : (chkB 256 a 0 && chkA k (a + 1)) = true := h
    rw [Bool.and_eq_true] at h'
    by_cases e : i = a
    · rw [e]; exact chkB_at 256 a 0 j h'.1 (by omega) (by omega)
    · exact chkA_at k (a + 1) i j h'.2 (by omega) (by omega) hj
theorem chk_all (a b : Nat) (ha : a < 256) (hb : b < 256) : chk a b = true := by
  by_cases h0 : a < 16
  · exact chkA_at 16 0 a b chk_0 (by omega) (by omega) hb
  by_cases h1 : a < 32
  · exact chkA_at 16 16 a b chk_1 (by omega) (by omega) hb
  by_cases h2 : a < 48
  · exact chkA_at 16 32 a b chk_2 (by omega) (by omega) hb
  by_cases h3 : a < 64
  · exact chkA_at 16 48 a b chk_3 (by omega) (by omega) hb
  by_cases h4 : a < 80
  · exact chkA_at 16 64 a b chk_4 (by omega) (by omega) hb
  by_cases h5 : a < 96
  · exact chkA_at 16 80 a b chk_5 (by omega) (by omega) hb
  by_cases h6 : a < 112
  · exact chkA_at 16 96 a b chk_6 (by omega) (by omega) hb
  by_cases h7 : a < 128
  · exact chkA_at 16 112 a b chk_7 (by omega) (by omega) hb
  by_cases h8 : a < 144
  · exact chkA_at 16 128 a b chk_8 (by omega) (by omega) hb
  by_cases h9 : a < 160
  · exact chkA_at 16 144 a b chk_9 (by omega) (by omega) hb
  by_cases h10 : a < 176
  · exact chkA_at 16 160 a b chk_10 (by omega) (by omega) hb
  by_cases h11 : a < 192
  · exact chkA_at 16 176 a b chk_11 (by omega) (by omega) hb
  by_cases h12 : a < 208
  · exact chkA_at 16 192 a b chk_12 (by omega) (by omega) hb
  by_cases h13 : a < 224
  · exact chkA_at 16 208 a b chk_13 (by omega) (by omega) hb
  by_cases h14 : a < 240
  · exact chkA_at 16 224 a b chk_14 (by omega) (by omega) hb
  by_cases h15 : a < 256
  · exact chkA_at 16 240 a b chk_15 (by omega) (by omega) hb
  exact absurd ha (by omega)
end Go.Proofs.YtepkaagbjfnpbaaDoor
