import Derived.Test.YtepkaagbjfnpbaaDoorA0
namespace Go.Proofs.YtepkaagbjfnpbaaDoor
/-- A rule of the decoder: mask, value, op, level, and the number of the function that picks the fields. -/
structure Rule where
  mask : Nat
  value : Nat
  op : Nat
  level : Nat
  pick : Nat
def tbl1 : List Rule := [⟨65535, 224, 1, 1, 45⟩, ⟨65535, 238, 2, 1, 45⟩, ⟨61440, 4096, 3, 1, 46⟩, ⟨61440, 8192, 4, 1, 46⟩, ⟨61440, 12288, 5, 1, 47⟩, ⟨61440, 16384, 6, 1, 47⟩, ⟨61455, 20480, 7, 1, 48⟩, ⟨61440, 24576, 8, 1, 47⟩, ⟨61440, 28672, 9, 1, 47⟩, ⟨61455, 32768, 10, 1, 48⟩, ⟨61455, 32769, 11, 1, 48⟩, ⟨61455, 32770, 12, 1, 48⟩, ⟨61455, 32771, 13, 1, 48⟩, ⟨61455, 32772, 14, 1, 48⟩, ⟨61455, 32773, 15, 1, 48⟩, ⟨61455, 32774, 16, 1, 48⟩, ⟨61455, 32775, 17, 1, 48⟩, ⟨61455, 32782, 18, 1, 48⟩, ⟨61455, 36864, 19, 1, 48⟩, ⟨61440, 40960, 20, 1, 46⟩, ⟨61440, 45056, 21, 1, 49⟩, ⟨61440, 49152, 22, 1, 47⟩, ⟨61455, 53248, 41, 2, 48⟩, ⟨61440, 53248, 23, 1, 50⟩, ⟨61695, 57502, 24, 1, 51⟩, ⟨61695, 57505, 25, 1, 51⟩, ⟨61695, 61447, 26, 1, 51⟩, ⟨61695, 61450, 27, 1, 51⟩, ⟨61695, 61461, 28, 1, 51⟩, ⟨61695, 61464, 29, 1, 51⟩, ⟨61695, 61470, 30, 1, 51⟩, ⟨61695, 61481, 31, 1, 51⟩, ⟨61695, 61491, 32, 1, 51⟩, ⟨61695, 61525, 33, 1, 51⟩, ⟨61695, 61541, 34, 1, 51⟩]
def tbl2 : List Rule := [⟨65520, 192, 35, 2, 52⟩, ⟨65535, 251, 36, 2, 45⟩, ⟨65535, 252, 37, 2, 45⟩, ⟨65535, 253, 38, 2, 45⟩, ⟨65535, 254, 39, 2, 45⟩, ⟨65535, 255, 40, 2, 45⟩, ⟨61695, 61488, 42, 2, 51⟩, ⟨61695, 61557, 43, 2, 51⟩, ⟨61695, 61573, 44, 2, 51⟩, ⟨65520, 208, 45, 3, 52⟩, ⟨61455, 20482, 46, 3, 48⟩, ⟨61455, 20483, 47, 3, 48⟩, ⟨65535, 61440, 48, 3, 45⟩, ⟨61695, 61441, 49, 3, 53⟩, ⟨65535, 61442, 50, 3, 45⟩, ⟨61695, 61498, 51, 3, 51⟩]

def noRule : Rule := ⟨0, 0, 0, 0, 0⟩
/-- The cells of a rule. -/
def rc (r : Rule) : Array Value := #[.int .i64 r.mask, .int .i64 r.value, .int .i64 r.op, .int .i64 r.level, .func (.func r.pick) #[] #[]]
def T1 : Array Value := (tbl1.flatMap fun r => (rc r).toList).toArray
def T2 : Array Value := (tbl2.flatMap fun r => (rc r).toList).toArray
theorem T1_size : T1.size = 175 := by kernel_rfl
theorem T2_size : T2.size = 80 := by kernel_rfl
theorem T1_ext (k : Nat) (h : k < 35) : T1.extract (k * 5) (k * 5 + 5) = rc (tbl1.getD k noRule) := by
  match k, h with
  | 0, _ => (show T1.extract (0 * 5) (0 * 5 + 5) = rc (tbl1.getD 0 noRule); kernel_rfl)
  | 1, _ => (show T1.extract (1 * 5) (1 * 5 + 5) = rc (tbl1.getD 1 noRule); kernel_rfl)
  | 2, _ => (show T1.extract (2 * 5) (2 * 5 + 5) = rc (tbl1.getD 2 noRule); kernel_rfl)
  | 3, _ => (show T1.extract (3 * 5) (3 * 5 + 5) = rc (tbl1.getD 3 noRule); kernel_rfl)
  | 4, _ => (show T1.extract (4 * 5) (4 * 5 + 5) = rc (tbl1.getD 4 noRule); kernel_rfl)
  | 5, _ => (show T1.extract (5 * 5) (5 * 5 + 5) = rc (tbl1.getD 5 noRule); kernel_rfl)
  | 6, _ => (show T1.extract (6 * 5) (6 * 5 + 5) = rc (tbl1.getD 6 noRule); kernel_rfl)
  | 7, _ => (show T1.extract (7 * 5) (7 * 5 + 5) = rc (tbl1.getD 7 noRule); kernel_rfl)
  | 8, _ => (show T1.extract (8 * 5) (8 * 5 + 5) = rc (tbl1.getD 8 noRule); kernel_rfl)
  | 9, _ => (show T1.extract (9 * 5) (9 * 5 + 5) = rc (tbl1.getD 9 noRule); kernel_rfl)
  | 10, _ => (show T1.extract (10 * 5) (10 * 5 + 5) = rc (tbl1.getD 10 noRule); kernel_rfl)
  | 11, _ => (show T1.extract (11 * 5) (11 * 5 + 5) = rc (tbl1.getD 11 noRule); kernel_rfl)
  | 12, _ => (show T1.extract (12 * 5) (12 * 5 + 5) = rc (tbl1.getD 12 noRule); kernel_rfl)
  | 13, _ => (show T1.extract (13 * 5) (13 * 5 + 5) = rc (tbl1.getD 13 noRule); kernel_rfl)
  | 14, _ => (show T1.extract (14 * 5) (14 * 5 + 5) = rc (tbl1.getD 14 noRule); kernel_rfl)
  | 15, _ => (show T1.extract (15 * 5) (15 * 5 + 5) = rc (tbl1.getD 15 noRule); kernel_rfl)
  | 16, _ => (show T1.extract (16 * 5) (16 * 5 + 5) = rc (tbl1.getD 16 noRule); kernel_rfl)
  | 17, _ => (show T1.extract (17 * 5) (17 * 5 + 5) = rc (tbl1.getD 17 noRule); kernel_rfl)
  | 18, _ => (show T1.extract (18 * 5) (18 * 5 + 5) = rc (tbl1.getD 18 noRule); kernel_rfl)
  | 19, _ => (show T1.extract (19 * 5) (19 * 5 + 5) = rc (tbl1.getD 19 noRule); kernel_rfl)
  | 20, _ => (show T1.extract (20 * 5) (20 * 5 + 5) = rc (tbl1.getD 20 noRule); kernel_rfl)
  | 21, _ => (show T1.extract (21 * 5) (21 * 5 + 5) = rc (tbl1.getD 21 noRule); kernel_rfl)
  | 22, _ => (show T1.extract (22 * 5) (22 * 5 + 5) = rc (tbl1.getD 22 noRule); kernel_rfl)
  | 23, _ => (show T1.extract (23 * 5) (23 * 5 + 5) = rc (tbl1.getD 23 noRule); kernel_rfl)
  | 24, _ => (show T1.extract (24 * 5) (24 * 5 + 5) = rc (tbl1.getD 24 noRule); kernel_rfl)
  | 25, _ => (show T1.extract (25 * 5) (25 * 5 + 5) = rc (tbl1.getD 25 noRule); kernel_rfl)
  | 26, _ => (show T1.extract (26 * 5) (26 * 5 + 5) = rc (tbl1.getD 26 noRule); kernel_rfl)
  | 27, _ => (show T1.extract (27 * 5) (27 * 5 + 5) = rc (tbl1.getD 27 noRule); kernel_rfl)
  | 28, _ => (show T1.extract (28 * 5) (28 * 5 + 5) = rc (tbl1.getD 28 noRule); kernel_rfl)
  | 29, _ => (show T1.extract (29 * 5) (29 * 5 + 5) = rc (tbl1.getD 29 noRule); kernel_rfl)
  | 30, _ => (show T1.extract (30 * 5) (30 * 5 + 5) = rc (tbl1.getD 30 noRule); kernel_rfl)
  | 31, _ => (show T1.extract (31 * 5) (31 * 5 + 5) = rc (tbl1.getD 31 noRule); kernel_rfl)
  | 32, _ => (show T1.extract (32 * 5) (32 * 5 + 5) = rc (tbl1.getD 32 noRule); kernel_rfl)
  | 33, _ => (show T1.extract (33 * 5) (33 * 5 + 5) = rc (tbl1.getD 33 noRule); kernel_rfl)
  | 34, _ => (show T1.extract (34 * 5) (34 * 5 + 5) = rc (tbl1.getD 34 noRule); kernel_rfl)
  | k + 35, h => exact absurd h (by omega)
theorem T2_ext (k : Nat) (h : k < 16) : T2.extract (k * 5) (k * 5 + 5) = rc (tbl2.getD k noRule) := by
  match k, h with
  | 0, _ => (show T2.extract (0 * 5) (0 * 5 + 5) = rc (tbl2.getD 0 noRule); kernel_rfl)
  | 1, _ => (show T2.extract (1 * 5) (1 * 5 + 5) = rc (tbl2.getD 1 noRule); kernel_rfl)
  | 2, _ => (show T2.extract (2 * 5) (2 * 5 + 5) = rc (tbl2.getD 2 noRule); kernel_rfl)
  | 3, _ => (show T2.extract (3 * 5) (3 * 5 + 5) = rc (tbl2.getD 3 noRule); kernel_rfl)
  | 4, _ => (show T2.extract (4 * 5) (4 * 5 + 5) = rc (tbl2.getD 4 noRule); kernel_rfl)
  | 5, _ => (show T2.extract (5 * 5) (5 * 5 + 5) = rc (tbl2.getD 5 noRule); kernel_rfl)
  | 6, _ => (show T2.extract (6 * 5) (6 * 5 + 5) = rc (tbl2.getD 6 noRule); kernel_rfl)
  | 7, _ => (show T2.extract (7 * 5) (7 * 5 + 5) = rc (tbl2.getD 7 noRule); kernel_rfl)
  | 8, _ => (show T2.extract (8 * 5) (8 * 5 + 5) = rc (tbl2.getD 8 noRule); kernel_rfl)
  | 9, _ => (show T2.extract (9 * 5) (9 * 5 + 5) = rc (tbl2.getD 9 noRule); kernel_rfl)
  | 10, _ => (show T2.extract (10 * 5) (10 * 5 + 5) = rc (tbl2.getD 10 noRule); kernel_rfl)
  | 11, _ => (show T2.extract (11 * 5) (11 * 5 + 5) = rc (tbl2.getD 11 noRule); kernel_rfl)
  | 12, _ => (show T2.extract (12 * 5) (12 * 5 + 5) = rc (tbl2.getD 12 noRule); kernel_rfl)
  | 13, _ => (show T2.extract (13 * 5) (13 * 5 + 5) = rc (tbl2.getD 13 noRule); kernel_rfl)
  | 14, _ => (show T2.extract (14 * 5) (14 * 5 + 5) = rc (tbl2.getD 14 noRule); kernel_rfl)
  | 15, _ => (show T2.extract (15 * 5) (15 * 5 + 5) = rc (tbl2.getD 15 noRule); kernel_rfl)
  | k + 16, h => exact absurd h (by omega)

def fits (n : Nat) (r : Rule) : Bool := Nat.beq (n &&& r.mask) r.value
def findR (l : List Rule) (n : Nat) : Option Rule := l.find? (fits n)
theorem find_take_succ (l : List Rule) (k n : Nat) (hk : k < l.length) (h0 : findR (l.take k) n = none) (h1 : fits n (l.getD k noRule) = false) : findR (l.take (k + 1)) n = none := by
  unfold findR at *
  rw [List.take_succ_eq_append_getElem hk, List.find?_append, h0]
  have e : l.getD k noRule = l[k] := by simp [hk]
  rw [e] at h1
  simp [h1]
theorem find_here (l : List Rule) (k n : Nat) (hk : k < l.length) (h0 : findR (l.take k) n = none) (h1 : fits n (l.getD k noRule) = true) : findR l n = some (l.getD k noRule) := by
  unfold findR at *
  have e : l.getD k noRule = l[k] := by simp [hk]
  rw [e] at h1 ⊢
  have q : l = l.take k ++ l.drop k := (List.take_append_drop k l).symm
  rw [show List.find? (fits n) l = List.find? (fits n) (l.take k ++ l.drop k) from by rw [← q], List.find?_append, h0, Option.none_or, List.drop_eq_getElem_cons hk, List.find?_cons, h1]
theorem find_app (a b : List Rule) (n : Nat) : findR (a ++ b) n = (findR a n).or (findR b n) := by
  unfold findR; rw [List.find?_append]
end Go.Proofs.YtepkaagbjfnpbaaDoor
