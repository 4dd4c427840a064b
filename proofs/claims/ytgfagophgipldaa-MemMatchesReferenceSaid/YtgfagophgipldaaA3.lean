import Derived.Test.YtgfagophgipldaaA2
import Derived.Great.BuildSlice
import Derived.Laws.Tables
import Derived.Laws.CopyOwn
namespace Go.Proofs.Ytgfagophgipldaa
open Go.RowKit
theorem zero_of {P : Program} {e : TypeId} {z : Value} (h : (P.info? e).map (·.zero) = some (some z)) (w : World) : (zeroValue e).run P w = .ok z w := by
  cases hi : P.info? e with
  | none => simp [hi] at h
  | some i =>
    have hz : i.zero = some z := by simpa [hi] using h
    simp [zeroValue, typeInfo, hi, hz]
set_option maxRecDepth 20000 in
set_option maxHeartbeats 1000000 in
theorem small_any (w : World) : Calls Try.prog 34 #[] w fun e w' => e = .returned (.agg (bs SM).toArray) ∧ Below w.heap.size w w' := by
  have hz : ∀ w, (zeroValue 60).run Try.prog w = .ok (.agg (Array.replicate 80 (.int .u8 0))) w := zero_of (by kernel_rfl)
  obtain ⟨Z, hZ⟩ : ∃ Z : Array Value, Z = Array.replicate 80 (.int .u8 0) := ⟨_, rfl⟩
  rw [← hZ] at hz
  have hs : Z.size = (bs SM).toArray.size := by rw [hZ]; kernel_rfl
  have HS := hid hs
  clear hZ hs
  go_enter Try.func34, Try.ntmps34
  repeat (first | ((with_reducible show wpList _ _ _ _ _ _); first
    | (refine wpList_buildTo rfl 60 _ rfl (some 17) rfl (bs SM).toArray (by kernel_rfl) ?_)
    | (refine wpList_build rfl 59 _ rfl (by kernel_rfl) ?_)
    | (refine wpList_store_row rfl 60 _ _ rfl w.heap.size (bs SM).toArray (by kernel_rfl) (by kernel_rfl) 60 Z (heap_alloc_new w _) (by kernel_rfl) HS.out (by kernel_rfl) ?_)) | go_step | go_upon)
  refine bodyPost_ret (results_cell_row rfl _ _ w.heap.size _ (bs SM).toArray (0, 0) _ (by kernel_rfl) (setRow_heap _ _ _ _ _ _ (heap_alloc_new w _)) Try.underlying60 rfl (by kernel_rfl)) rfl ⟨rfl, below_setRow ((Below.refl _ _).alloc (Nat.le_refl _) _) (Nat.le_refl _) _⟩
set_option maxRecDepth 20000 in
set_option maxHeartbeats 1000000 in
theorem big_any (w : World) : Calls Try.prog 33 #[] w fun e w' => e = .returned (.agg (bs BG).toArray) ∧ Below w.heap.size w w' := by
  have hz : ∀ w, (zeroValue 57).run Try.prog w = .ok (.agg (Array.replicate 160 (.int .u8 0))) w := zero_of (by kernel_rfl)
  obtain ⟨Z, hZ⟩ : ∃ Z : Array Value, Z = Array.replicate 160 (.int .u8 0) := ⟨_, rfl⟩
  rw [← hZ] at hz
  have hs : Z.size = (bs BG).toArray.size := by rw [hZ]; kernel_rfl
  have HS := hid hs
  clear hZ hs
  go_enter Try.func33, Try.ntmps33
  repeat (first | ((with_reducible show wpList _ _ _ _ _ _); first
    | (refine wpList_buildTo rfl 57 _ rfl (some 17) rfl (bs BG).toArray (by kernel_rfl) ?_)
    | (refine wpList_build rfl 56 _ rfl (by kernel_rfl) ?_)
    | (refine wpList_store_row rfl 57 _ _ rfl w.heap.size (bs BG).toArray (by kernel_rfl) (by kernel_rfl) 57 Z (heap_alloc_new w _) (by kernel_rfl) HS.out (by kernel_rfl) ?_)) | go_step | go_upon)
  refine bodyPost_ret (results_cell_row rfl _ _ w.heap.size _ (bs BG).toArray (0, 0) _ (by kernel_rfl) (setRow_heap _ _ _ _ _ _ (heap_alloc_new w _)) Try.underlying57 rfl (by kernel_rfl)) rfl ⟨rfl, below_setRow ((Below.refl _ _).alloc (Nat.le_refl _) _) (Nat.le_refl _) _⟩
end Go.Proofs.Ytgfagophgipldaa
