import Derived.Test.YtgfagophgipldaaM3
import Derived.Deep.MidRow
namespace Go.Proofs.Ytgfagophgipldaa
open Go.RowKit
/-! The zero value of a memory: 65537 cells, read in 16 doublings. -/
def eat : Nat → List Value → Option (List Value)
  | 0, l => match l with
    | .int .u8 (.ofNat 0) :: r => some r
    | _ => none
  | k + 1, l => match eat k l with
    | some r => eat k r
    | none => none
theorem eat_some : ∀ (k : Nat) (l r : List Value), eat k l = some r → l = List.replicate (2 ^ k) (.int .u8 0) ++ r
  | 0, l, r, h => by
    unfold eat at h
    split at h
    · simp at h; subst h; rfl
    · cases h
  | k + 1, l, r, h => by
    unfold eat at h
    split at h
    · rename_i r' hr
      rw [eat_some k l r' hr, eat_some k r' r h, Nat.pow_succ, Nat.mul_two, ← List.append_assoc, List.replicate_append_replicate]
    · cases h
def memZero (i : Option TypeInfo) : Bool := match i with
  | some i => match i.zero with
    | some (.agg Z) => match Z.toList with
      | .slice none 0 0 :: r => match eat 16 r with
        | some [] => true
        | _ => false
      | _ => false
    | _ => false
  | none => false
theorem memZero_is : memZero (Try.prog.info? 75) = true := by kernel_rfl
def Zs : List Int := List.replicate 65536 0
theorem bs_Zs : bs Zs = List.replicate 65536 (.int .u8 0) := by unfold bs Zs; rw [List.map_replicate]
theorem zs_len : Zs.length = 65536 := by unfold Zs; rw [List.length_replicate]
theorem info75 : ∃ i, Try.prog.info? 75 = some i ∧ i.zero = some (.agg (.slice none 0 0 :: bs Zs).toArray) := by
  have h := memZero_is
  unfold memZero at h
  split at h
  · rename_i i hi
    refine ⟨i, hi, ?_⟩
    split at h
    · rename_i Z hz
      split at h
      · rename_i r hr
        split at h
        · rename_i he
          have := eat_some 16 r [] he
          rw [hz, bs_Zs]
          congr 2
          apply Array.ext'
          rw [hr, this, List.append_nil]
        · cases h
      · cases h
    · cases h
  · cases h
theorem zero75 (w : World) : (zeroValue 75).run Try.prog w = .ok (.agg (.slice none 0 0 :: bs Zs).toArray) w := by
  obtain ⟨i, h1, h2⟩ := info75
  simp [zeroValue, typeInfo, h1, h2]
/-! A value laid over cells. -/
theorem overlay (off : Nat) : ∀ (vs : List Value) (i : Nat) (C : Array Value), off + i + vs.length ≤ C.size →
    ((vs.zipIdx i).foldl (fun (cs : Array Value) (p : Value × Nat) => cs.setIfInBounds (off + p.2) p.1) C).toList = C.toList.take (off + i) ++ vs ++ C.toList.drop (off + i + vs.length)
  | [], i, C, _ => by simp
  | v :: vs, i, C, h => by
    have hl : off + i + (vs.length + 1) ≤ C.size := h
    rw [List.zipIdx_cons, List.foldl_cons, overlay off vs (i + 1) _ (by rw [Array.size_setIfInBounds]; omega), Array.toList_setIfInBounds]
    have e := list_seg_step C.toList (off + i) v vs (by rw [Array.length_toList]; omega)
    exact e
theorem built75 (M : List Int) (hM : M.length = 65536) : Try.prog.built 75 [(1, .agg (bs M).toArray)] = some (.slice none 0 0 :: bs M).toArray := by
  obtain ⟨i, h1, h2⟩ := info75
  have hp : (#[{ name := "writeLog", type := 72, offset := 0, embedded := true, tag := "", pkgPath := "cosmac/mem", byteOffset := 0 }, { name := "cells", type := 73, offset := 1, embedded := false, tag := "", pkgPath := "cosmac/mem", byteOffset := 24 }] : Array Field).toList.mapM (fun f => (Try.prog.info? f.type).map fun i => (f.offset, i.size)) = some [(0, 1), (1, 65536)] := by kernel_rfl
  unfold Program.built
  rw [h1, Try.underlying75]
  simp only [h2, hp]
  unfold Instr.fill
  have hs : (Value.agg (bs M).toArray).cells = (bs M).toArray := rfl
  have hz : (Value.agg (Value.slice none 0 0 :: bs Zs).toArray).cells = (Value.slice none 0 0 :: bs Zs).toArray := rfl
  rw [hs, hz]
  have hl : ¬ ((bs M).toArray.size ≠ 65536 || decide (1 + (bs M).toArray.size > (Value.slice none 0 0 :: bs Zs).toArray.size)) = true := by
    rw [List.size_toArray, List.size_toArray, bs_length, List.length_cons, bs_length, hM, zs_len]; decide
  show (if _ then _ else _) = _
  rw [if_neg hl]
  unfold Instr.fill
  congr 1
  apply Array.ext'
  rw [← Array.foldl_toList, Array.toList_zipIdx]
  have := overlay 1 (bs M) 0 (.slice none 0 0 :: bs Zs).toArray (by rw [List.size_toArray, bs_length, List.length_cons, bs_length, hM, zs_len]; decide)
  refine this.trans ?_
  simp [bs_length, hM, zs_len]
end Go.Proofs.Ytgfagophgipldaa
