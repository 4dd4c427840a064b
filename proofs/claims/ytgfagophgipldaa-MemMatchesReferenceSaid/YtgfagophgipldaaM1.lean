import Derived.Test.YtgfagophgipldaaM0
import Derived.Laws.CopyOwn
namespace Go.Proofs.Ytgfagophgipldaa
open Go.RowKit
/-- The bytes M with the first k of b written from a on, with wrapping. -/
def put (M : List Int) (a : Int) (b : List Int) : Nat → List Int
  | 0 => M
  | k + 1 => (put M a b k).set ((a + k) % 65536).toNat (b.getD k 0)
def mput (M : List Int) (a : Int) (b : List Int) : List Int := put M a b b.length
def mget (M : List Int) (a : Int) : Int := M.getD (a % 65536).toNat 0
def mbytes (M : List Int) (a : Int) (n : Nat) : List Int := (List.range n).map fun i : Nat => mget M (a + (i : Int))
theorem put_length (M : List Int) (a : Int) (b : List Int) : ∀ k, (put M a b k).length = M.length
  | 0 => rfl
  | k + 1 => by unfold put; rw [List.length_set, put_length M a b k]
theorem mput_length (M : List Int) (a : Int) (b : List Int) : (mput M a b).length = M.length := put_length M a b _
theorem mbytes_length (M : List Int) (a : Int) (n : Nat) : (mbytes M a n).length = n := by simp [mbytes]
theorem mbytes_succ (M : List Int) (a : Int) (n : Nat) : mbytes M a (n + 1) = mbytes M a n ++ [mget M (a + (n : Int))] := by simp [mbytes, List.range_succ]
/-- A memory: its block, the slice of its log, its bytes. -/
def Mem (w : World) (g : Nat) (s : Value) (M : List Int) : Prop := w.heap[g]? = some (.cells (s :: bs M).toArray 75 (0, 0)) ∧ M.length = 65536
theorem Mem.lt {w : World} {g : Nat} {s : Value} {M : List Int} (h : Mem w g s M) : g < w.heap.size := (Array.getElem?_eq_some_iff.1 h.1).1
theorem bs_getD (M : List Int) (k : Nat) (h : k < M.length) : (bs M)[k]? = some (.int .u8 (M.getD k 0)) := by
  rw [bs_get, List.getElem?_eq_getElem h, List.getD_eq_getElem?_getD, List.getElem?_eq_getElem h]; rfl
theorem Mem.cell {w : World} {g : Nat} {s : Value} {M : List Int} (h : Mem w g s M) (k : Nat) (hk : k < 65536) : w.cell? ⟨g, 1 + k, none⟩ = some (.int .u8 (M.getD k 0)) := by
  rw [cell_of_row w g (1 + k) _ 75 _ h.1, List.getElem?_toArray, Nat.add_comm, List.getElem?_cons_succ]
  exact bs_getD M k (by rw [h.2]; exact hk)
theorem Mem.head {w : World} {g : Nat} {s : Value} {M : List Int} (h : Mem w g s M) : w.cell? ⟨g, 0, none⟩ = some s := by
  rw [cell_of_row w g 0 _ 75 _ h.1]; rfl
theorem Mem.thaw {w : World} {g : Nat} {s : Value} {M : List Int} (h : Mem w g s M) (k : Nat) : w.frozen? ⟨g, k, none⟩ = false := frozen_of_row w g k _ 75 h.1
theorem Mem.of {w w' : World} {g : Nat} {s : Value} {M : List Int} (h : Mem w g s M) (e : w'.heap[g]? = w.heap[g]?) : Mem w' g s M := ⟨e.trans h.1, h.2⟩
theorem Mem.below {w w' : World} {g : Nat} {s : Value} {M : List Int} (h : Mem w g s M) (e : Below w.heap.size w w') : Mem w' g s M := h.of (e.block g h.lt)
set_option maxHeartbeats 1000000 in
theorem read_any (a : Int) (g : Nat) (s : Value) (M : List Int) (w : World) (h : Mem w g s M) :
    Calls Try.prog 23 #[.pointer (some ⟨g, 0, none⟩), .int .i64 a] w fun e w' => e = .returned (.int .u8 (mget M a)) ∧ ∃ n, w' = w.drewN n := by
  have hc := h.cell (a % 65536).toNat (by omega)
  have i0 : 0 ≤ a % 65536 := by omega
  have i1 : a % 65536 < 65536 := by omega
  unfold mget
  generalize M.getD (a % 65536).toNat 0 = x at *
  clear h
  go_enter Try.func23, Try.ntmps23
  go_wp2_with fail
  go_quiet ((go_at_call 40; exact Calls.quiet_of_same (wrap_any _ _)))
  go_wp2_with fail
  go_ret
  exact ⟨rfl, _, rfl⟩
theorem ownsRow_drewN {w : World} {B : Nat} {e : TypeId} {z : Nat} {v : Value} {n : Nat} {L : List Value} (h : w.ownsRow B e z v n L) (q : Nat) : (w.drewN q).ownsRow B e z v n L := h
theorem news_one {w : World} {x : Value} {t : TypeId} : ∀ j u, [x][j]? = some u → (w.alloc (.cells #[x] t)).cell? ((⟨w.heap.size, 0, none⟩ : Addr).add j) = some u :=
  World.news_of_block (B := w.heap.size) (cs := #[x]) (t := t) (fr := (0, 0)) (heap_alloc_new w _)
theorem bs_snoc (L : List Int) (x : Int) : bs (L ++ [x]) = bs L ++ [.int .u8 x] := by simp [bs]
set_option maxHeartbeats 1000000 in
theorem bytes_any (a : Int) (n : Nat) (g : Nat) (s : Value) (M : List Int) (w : World) (h : Mem w g s M) (ha : -4611686018427387904 ≤ a) (ha' : a ≤ 4611686018427387904) (hn : n ≤ 65536) :
    Calls Try.prog 26 #[.pointer (some ⟨g, 0, none⟩), .int .i64 a, .int .i64 n] w fun e w' => ∃ v, e = .returned v ∧ Own w.heap.size w' v (mbytes M a n) ∧ Below w.heap.size w w' := by
  obtain ⟨i0, hi, hz0, hz1, hz2⟩ := info_parts Try.info5
  have hH := hid h
  clear h
  go_enter Try.func26, Try.ntmps26
  go_wp2_with fail
  go_loopw [7, 12] (fun v i wr => ∃ k : Nat, k ≤ n ∧ i = .int .i64 (k : Int) ∧ wr.ownsRow w.heap.size 5 1 v k (bs (mbytes M a k)) ∧ Below w.heap.size w wr) (fun _ i _ => n - (intOf i).toNat)
  case atStart => exact ⟨0, by omega, rfl, World.ownsRow_nil _ _ _ _, Below.refl _ _⟩
  case round =>
    obtain ⟨k, hk, rfl, hown, hB⟩ := hrel
    by_cases hkn : k < n
    · have ho := hid hown
      clear hown
      have wr1 : IntKind.i64.wrap (a + (k : Int)) = a + k := IntWalk.i64_in _ (by omega)
      go_wp2_with (first
        | (go_at_call 23; refine (read_any _ g s M _ (hH.out.below hB)).mono ?_; rintro e w2 ⟨rfl, q, rfl⟩)
        | (at_builtin; refine wpList_append_lies _ rfl (.tmp 15) (.tmp 21) 24 rfl w.heap.size 5 i0 (.int .u8 0) 1 1 Try.underlying24 hi hz0 hz1 hz2 rfl (by decide) u7 k (bs (mbytes M a k)) rfl ((ownsRow_drewN ho.out q).alloc _) ⟨wr.heap.size, 0, none⟩ 1 1 [.int .u8 (mget M (a + k))] rfl rfl (news_one (w := wr.drewN q)) (by intro u hu; simp at hu; subst hu; rfl) (by decide) (by unfold maxLen; omega) (by omega) (by have := hB.size; simp; omega) (wr.heap.size + 1) (by simp) ?_; intro g' cap w' hown' hgr hg hlt))
      go_roundw
      case rel => exact ⟨k + 1, by omega, by go_num, by rw [mbytes_succ, bs_snoc]; assumption, ((below_drewN hB q).alloc hB.size _).grown hgr (by have := hB.size; simp; omega) (fun j hj => (ho.out.lt j hj).1)⟩
      case measure => simp [intOf]; omega
    · obtain rfl : k = n := by omega
      go_wp2_with fail
      refine bodyPost_ret (results_tmp rfl _ _ _) rfl ⟨_, rfl, ?_, hB⟩
      unfold Own
      rw [mbytes_length]
      exact hown
end Go.Proofs.Ytgfagophgipldaa
