import Derived.Test.YtgfagophgipldaaM5
namespace Go.Proofs.Ytgfagophgipldaa
open Go.RowKit
theorem put_seg (M b : List Int) (off : Nat) (hM : M.length = 65536) : ∀ k, k ≤ b.length → off + k ≤ 65536 → put M off b k = M.take off ++ b.take k ++ M.drop (off + k)
  | 0, _, _ => by simp [put]
  | k + 1, h1, h2 => by
    unfold put
    rw [put_seg M b off hM k (by omega) (by omega)]
    have e : (((off : Int) + (k : Int)) % 65536).toNat = (M.take off ++ b.take k).length := by
      rw [List.length_append, List.length_take, List.length_take]; omega
    rw [e, List.set_append_right _ _ (Nat.le_refl _), Nat.sub_self]
    have hd : M.drop (off + k) = M[off + k]'(by omega) :: M.drop (off + (k + 1)) := by
      rw [List.drop_eq_getElem_cons (by omega)]; rfl
    rw [hd, List.set_cons_zero, List.take_succ_eq_append_getElem (show k < b.length by omega), getD_at b k (by omega), List.append_assoc, List.append_assoc, List.append_assoc]
    rfl
theorem splice_put (s : Value) (M b : List Int) (off : Nat) (hM : M.length = 65536) (h : off + b.length ≤ 65536) : splice (s :: bs M) (off + 1) (bs b) = s :: bs (mput M off b) := by
  unfold splice mput
  rw [put_seg M b off hM _ (Nat.le_refl _) h, List.take_length]
  unfold bs
  rw [List.take_succ_cons, List.length_map, show off + 1 + b.length = (off + b.length) + 1 by omega, List.drop_succ_cons, List.map_append, List.map_append, List.map_take, List.map_drop]
  simp
/-- The first bytes of a memory. -/
def minit (rom : List Int) : List Int := mput (mput (mput Zs 80 SM) 160 BG) 512 rom
theorem minit_len (rom : List Int) : (minit rom).length = 65536 := by unfold minit; rw [mput_length, mput_length, mput_length, zs_len]
theorem size5 : (Try.prog.info? 5).map (·.size) = some 1 := by kernel_rfl
theorem mem_copied {w : World} {g off n : Nat} {s : Value} {M b : List Int} (hM : M.length = 65536) (hb : b.length = n) (hn : off + n ≤ 65536) (h : w.heap[g]? = some (.cells (splice (s :: bs M) (off + 1) (bs b)).toArray 75 (0, 0))) : Mem w g s (mput M off b) := by
  subst hb
  rw [splice_put s M b off hM hn] at h
  exact ⟨h, by rw [mput_length]; exact hM⟩
theorem src_of {w w4 : World} {ro : Option Addr} {rom : List Int} (h : rom ≠ [] → ∃ g off, ro = some ⟨g, off, none⟩ ∧ g < w.heap.size ∧ ∀ j x, rom[j]? = some x → w.cell? ⟨g, off + j, none⟩ = some (.int .u8 x)) (Q : Below w.heap.size w w4) (hp : 0 < (bs rom).length) :
    ∃ ad, ro = some ad ∧ ∀ j v, (bs rom)[j]? = some v → w4.cell? (ad.add j) = some v := by
  obtain ⟨g, off, rfl, hg, hc⟩ := h (by intro e; subst e; simp [bs] at hp)
  exact ⟨_, rfl, news_rd fun j x hx => (Q.cell (p := ⟨g, off + j, none⟩) hg).trans (hc j x hx)⟩
set_option maxHeartbeats 1000000 in
theorem new_any (rom : List Int) (vr : Value) (w : World) (hr : Rd w vr rom) (hl : rom.length ≤ 65024) :
    Calls Try.prog 22 #[vr] w fun e w' => ∃ g, e = .returned (.tuple #[.pointer (some ⟨g, 0, none⟩), .int .i64 0]) ∧ MemL w' w.heap.size g (.slice none 0 0) (minit rom) [] ∧ Below w.heap.size w w' := by
  obtain ⟨ro, rcap, rfl, hRv⟩ := rd_view hr
  have hz := zero75
  have hZ1 : Mem (w.alloc (.cells (.slice none 0 0 :: bs Zs).toArray 75)) w.heap.size (.slice none 0 0) Zs := ⟨heap_alloc_new _ _, zs_len⟩
  have HZ := hid hZ1
  have HR := hid hRv
  clear hr hRv hZ1
  obtain ⟨Z, hZ⟩ : ∃ Z : Array Value, Z = (.slice none 0 0 :: bs Zs).toArray := ⟨_, rfl⟩
  rw [← hZ] at hz HZ
  clear hZ
  have hl' : decide ((65024 : Int) < rom.length) = false := by simp; omega
  go_enter Try.func22, Try.ntmps22
  go_wp2_with fail
  go_region_held3 (fun _ => True)
    (exact trivial)
    (first
      | (go_at_call 19; refine (fontSmall_any _).mono ?_; rintro e w1 ⟨v1, rfl, o1, b1⟩; obtain ⟨g1, cap1, rfl, -⟩ := own_shape o1 (by decide); have m1 := hid (HZ.out.of (w' := w1) (b1.block _ (by simp))); have q1 := hid (bel_t ((Below.refl w.heap.size w).alloc (Nat.le_refl _) (.cells Z 75)).drew b1); have O1 := hid o1; clear o1 b1)
      | ((refine step_copy_splice rfl (.tmp 12) (.tmp 13) 24 24 rfl 5 Try.underlying24 size5 (some ⟨w.heap.size, 81, none⟩) (some ⟨g1, 0, none⟩) 65456 65456 80 cap1 ?_ ?_ w.heap.size 81 (.slice none 0 0 :: bs Zs) 75 m1.out.1 (bs SM) ?_ (fun _ => ⟨rfl, ⟨g1, 0, none⟩, rfl, O1.out.cells rfl⟩) ?_ (one_bs _) w.heap.size w q1.out (Nat.le_refl _) ?_)
         · go_loud (simp [Act.eval])
         · go_loud (simp [Act.eval]; rfl)
         · go_loud (rw [bs_length, sm_len]; rfl)
         · go_loud (rw [bs_length, sm_len, List.length_cons, bs_length, zs_len]; decide)
         intro w2 hg2 hb2))
  have m2 := hid (mem_copied zs_len sm_len (by decide) hg2.out)
  have Q2 := hid hb2
  clear hg2 hb2 m1 q1 O1
  go_wp2_with fail
  go_region_held3 (fun _ => True)
    (exact trivial)
    (first
      | (go_at_call 20; refine (fontBig_any _).mono ?_; rintro e w3 ⟨v3, rfl, o3, b3⟩; obtain ⟨g3, cap3, rfl, -⟩ := own_shape o3 (by rw [bg_len']; decide); have m3 := hid (m2.out.of (w' := w3) (b3.block _ m2.out.lt)); have q3 := hid (bel_t Q2.out.drew b3); have O3 := hid o3; clear o3 b3)
      | ((refine step_copy_splice rfl (.tmp 18) (.tmp 19) 24 24 rfl 5 Try.underlying24 size5 (some ⟨w.heap.size, 161, none⟩) (some ⟨g3, 0, none⟩) 65376 65376 160 cap3 ?_ ?_ w.heap.size 161 (.slice none 0 0 :: bs (mput Zs 80 SM)) 75 m3.out.1 (bs BG) ?_ (fun _ => ⟨rfl, ⟨g3, 0, none⟩, rfl, O3.out.cells rfl⟩) ?_ (one_bs _) w.heap.size w q3.out (Nat.le_refl _) ?_)
         · simp [Act.eval]
         · (simp [Act.eval]; exact bg_len')
         · (rw [bs_length, bg_len']; rfl)
         · (rw [bs_length, bg_len', List.length_cons, bs_length, mput_length, zs_len]; decide)
         intro w4 hg4 hb4))
  have m4 := hid (mem_copied (mput_length _ _ _ |>.trans zs_len) bg_len' (by decide) hg4.out)
  have Q4 := hid hb4
  clear hg4 hb4 m3 q3 O3 m2 Q2
  go_wp2_with ((with_reducible show wpList _ _ _ _ _ _); (refine wpList_copy_splice rfl (.tmp 24) (.tmp 25) 24 24 rfl 5 Try.underlying24 size5 (some ⟨w.heap.size, 513, none⟩) ro 65024 65024 rom.length rcap (by simp [Act.eval]) (by simp [Act.eval]) w.heap.size 513 (.slice none 0 0 :: bs (mput (mput Zs 80 SM) 160 BG)) 75 m4.out.1 (bs rom) (by rw [bs_length]; exact (Nat.min_eq_left hl).symm) (fun hp => ⟨rfl, src_of HR.out Q4.out hp⟩) (by rw [bs_length, List.length_cons, bs_length, mput_length, mput_length, zs_len]; omega) (one_bs _) w.heap.size w Q4.out (Nat.le_refl _) ?_); intro w5 hg5 hb5)
  refine bodyPost_ret (v := .tuple #[.pointer (some ⟨w.heap.size, 0, none⟩), .int .i64 0]) (by simp [results, Try.results22, go_sem]) rfl ⟨_, rfl, ⟨mem_copied (by rw [mput_length, mput_length, zs_len]) rfl (show 512 + rom.length ≤ 65536 by omega) hg5.out, Nat.le_refl _, World.ownsRow_nil _ _ _ _⟩, hb5⟩
set_option maxHeartbeats 400000 in
theorem new_long (n : Nat) (ro : Option Addr) (cap : Nat) (w : World) (hl : 65024 < n) :
    Calls Try.prog 22 #[.slice ro n cap] w fun e w' => e = .returned (.tuple #[.pointer none, .int .i64 7]) ∧ w = w' := by
  have hl' : decide ((65024 : Int) < n) = true := by simp; omega
  go_enter Try.func22, Try.ntmps22
  go_wp2_with fail
  refine bodyPost_ret (v := .tuple #[.pointer none, .int .i64 7]) (by simp [results, Try.results22, go_sem]) rfl ⟨rfl, rfl⟩
end Go.Proofs.Ytgfagophgipldaa
