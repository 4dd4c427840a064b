import Derived.Test.YtgfagophgipldaaM1
namespace Go.Proofs.Ytgfagophgipldaa
open Go.RowKit
theorem rd_cells {w : World} {v : Value} {L : List Int} (h : Rd w v L) : ∃ ao cap, v = .slice ao L.length cap ∧ (L ≠ [] → ∃ g off, ao = some ⟨g, off, none⟩ ∧ g < w.heap.size ∧ ∀ j x, L[j]? = some x → w.cell? ⟨g, off + j, none⟩ = some (.int .u8 x)) := rd_view h
theorem mod_own (n : Int) (w : World) : Calls Try.prog 30 #[.int .i64 n] w fun e w' => e = .returned (.int .i64 (n % 65536)) ∧ w = w' := (mod_any n w).mono fun _ _ h => ⟨h.1, h.2.symm⟩
theorem wrap_own (n : Int) (w : World) : Calls Try.prog 40 #[.int .i64 n] w fun e w' => e = .returned (.int .i64 (n % 65536)) ∧ w = w' := (wrap_any n w).mono fun _ _ h => ⟨h.1, h.2.symm⟩
set_option maxHeartbeats 1000000 in
theorem refBytes_any (a : Int) (n : Nat) (M : List Int) (vm : Value) (w : World) (h : Rd w vm M) (hM : M.length = 65536) (ha : -4611686018427387904 ≤ a) (ha' : a ≤ 4611686018427387904) (hn : n ≤ 65536) :
    Calls Try.prog 31 #[vm, .int .i64 a, .int .i64 n] w fun e w' => ∃ v, e = .returned v ∧ Own w.heap.size w' v (mbytes M a n) ∧ Below w.heap.size w w' := by
  obtain ⟨i0, hi, hz0, hz1, hz2⟩ := info_parts Try.info5
  obtain ⟨ao, cap, rfl, hA⟩ := rd_view h
  obtain ⟨g, off, rfl, gl, hc⟩ := hA (by intro e; subst e; simp at hM)
  rw [hM]
  have HC := hid hc
  have HM := hid hM
  clear h hA hc hM
  go_enter Try.func31, Try.ntmps31
  go_wp2_with fail
  go_loopw [7, 8] (fun v i wr => ∃ k : Nat, k ≤ n ∧ i = .int .i64 (k : Int) ∧ wr.ownsRow w.heap.size 5 1 v k (bs (mbytes M a k)) ∧ Below w.heap.size w wr) (fun _ i _ => n - (intOf i).toNat)
  case atStart => exact ⟨0, by omega, rfl, World.ownsRow_nil _ _ _ _, Below.refl _ _⟩
  case round =>
    obtain ⟨k, hk, rfl, hown, hB⟩ := hrel
    by_cases hkn : k < n
    · have ho := hid hown
      clear hown
      have wr1 : IntKind.i64.wrap (a + (k : Int)) = a + k := IntWalk.i64_in _ (by omega)
      have i0' : 0 ≤ (a + (k : Int)) % 65536 := by omega
      have i1' : (a + (k : Int)) % 65536 < 65536 := by omega
      have hx : M[((a + (k : Int)) % 65536).toNat]? = some (mget M (a + k)) := by
        unfold mget
        rw [List.getD_eq_getElem?_getD, List.getElem?_eq_getElem (by rw [HM.out]; omega)]; rfl
      have hcell := (hB.cell (p := ⟨g, off + ((a + (k : Int)) % 65536).toNat, none⟩) gl).trans (HC.out _ _ hx)
      clear hx
      go_wp2_with (first
        | (go_at_call 30; refine (mod_own _ _).mono ?_; rintro e w2 ⟨rfl, rfl⟩)
        | (at_builtin; refine wpList_append_lies _ rfl (.tmp 14) (.tmp 22) 24 rfl w.heap.size 5 i0 (.int .u8 0) 1 1 Try.underlying24 hi hz0 hz1 hz2 rfl (by decide) u7 k (bs (mbytes M a k)) rfl (ho.out.alloc _) ⟨wr.heap.size, 0, none⟩ 1 1 [.int .u8 (mget M (a + k))] rfl rfl (news_one (w := wr)) (by intro u hu; simp at hu; subst hu; rfl) (by decide) (by unfold maxLen; omega) (by omega) (by have := hB.size; simp; omega) (wr.heap.size + 1) (by simp) ?_; intro g' cap w' hown' hgr hg hlt))
      go_roundw
      case rel => exact ⟨k + 1, by omega, by go_num, by rw [mbytes_succ, bs_snoc]; assumption, (hB.alloc hB.size _).grown hgr (by have := hB.size; simp; omega) (fun j hj => (ho.out.lt j hj).1)⟩
      case measure => simp [intOf]; omega
    · obtain rfl : k = n := by omega
      go_wp2_with fail
      refine bodyPost_ret (results_tmp rfl _ _ _) rfl ⟨_, rfl, ?_, hB⟩
      unfold Own
      rw [mbytes_length]
      exact hown
theorem put_own {w : World} {B g n cap : Nat} {L : List Int} (h : w.ownsRow B 5 1 (.slice (some ⟨g, 0, none⟩) n cap) n (bs L)) (j : Nat) (x : Int) :
    (w.setCell ⟨g, j, none⟩ (.int .u8 x)).ownsRow B 5 1 (.slice (some ⟨g, 0, none⟩) n cap) n (bs (L.set j x)) := by
  have := (h.stored j (.int .u8 x)).1
  rwa [show (bs L).set j (.int .u8 x) = bs (L.set j x) from (List.map_set ..).symm] at this
theorem getD_at (b : List Int) (k : Nat) (h : k < b.length) : b.getD k 0 = b[k] := by rw [List.getD_eq_getElem?_getD, List.getElem?_eq_getElem h]; rfl
theorem put_next {w : World} {B g n cap k : Nat} {M b : List Int} {a : Int} (h : w.ownsRow B 5 1 (.slice (some ⟨g, 0, none⟩) n cap) n (bs (put M a b k))) (hk : k < b.length) :
    ((w.setCell ⟨g, ((a + (k : Int)) % 65536).toNat, none⟩ (.int .u8 b[k])).drew).ownsRow B 5 1 (.slice (some ⟨g, 0, none⟩) n cap) n (bs (put M a b (k + 1))) := by
  have := put_own h ((a + (k : Int)) % 65536).toNat b[k]
  unfold put
  rw [getD_at b k hk]
  exact this
theorem cell_set_other {w : World} {g o g2 o2 : Nat} {v : Value} (h : g ≠ g2) : ((w.setCell ⟨g, o, none⟩ v).drew).cell? ⟨g2, o2, none⟩ = w.cell? ⟨g2, o2, none⟩ :=
  World.cell?_of_block (w := w) (heap_setCell_other w ⟨g, o, none⟩ g2 v (fun e => h e.symm))
theorem news_rd {w : World} {g off : Nat} {L : List Int} (h : ∀ j x, L[j]? = some x → w.cell? ⟨g, off + j, none⟩ = some (.int .u8 x)) : ∀ j u, (bs L)[j]? = some u → w.cell? ((⟨g, off, none⟩ : Addr).add j) = some u := by
  intro j u hu
  rw [bs_get] at hu
  rw [addr_add]
  cases hx : L[j]? with
  | none => rw [hx] at hu; cases hu
  | some x => rw [hx] at hu; cases hu; exact h j x hx
set_option maxHeartbeats 1000000 in
theorem refPut_any (a : Int) (M b : List Int) (vm vb : Value) (w : World) (hm : Rd w vm M) (hM : M.length = 65536) (hb : Rd w vb b) (ha : -4611686018427387904 ≤ a) (ha' : a ≤ 4611686018427387904) (hn : b.length ≤ 65536) :
    Calls Try.prog 29 #[vm, .int .i64 a, vb] w fun e w' => ∃ v, e = .returned v ∧ Own w.heap.size w' v (mput M a b) ∧ Below w.heap.size w w' := by
  obtain ⟨i0, hi, hz0, hz1, hz2⟩ := info_parts Try.info5
  obtain ⟨ao, cap, rfl, hA⟩ := rd_view hm
  obtain ⟨g, off, rfl, gl, hc⟩ := hA (by intro e; subst e; simp at hM)
  obtain ⟨bo, bcap, rfl, hBv⟩ := rd_view hb
  rw [hM]
  have HC := hid hc
  have HM := hid hM
  have HV := hid hBv
  clear hm hA hc hM hb hBv
  go_enter Try.func29, Try.ntmps29
  go_wp2_with (first
    | (at_builtin; refine wpList_append_lies _ rfl (.tmp 9) (.tmp 10) 24 rfl w.heap.size 5 i0 (.int .u8 0) 1 1 Try.underlying24 hi hz0 hz1 hz2 rfl (by decide) (.slice (some ⟨w.heap.size, 0, none⟩) 0 0) 0 [] rfl (own_empty w _ (Nat.le_refl _)) ⟨g, off, none⟩ 65536 cap (bs M) rfl (by rw [bs_length, HM.out]) (news_rd (w := w.alloc (.cells #[] 5)) (fun j x hx => (((Below.refl w.heap.size w).alloc (Nat.le_refl _) _).cell (p := ⟨g, off + j, none⟩) gl).trans (HC.out j x hx))) (one_bs _) (by decide) (by decide) (by decide) (by simp) (w.heap.size + 1) (by simp) ?_; intro g' cap' w' hown' hgr hg hlt))
  have hB1 : Below w.heap.size w w' := ((Below.refl _ _).alloc (Nat.le_refl _) _).grown hgr (by simp) (fun j hj => by simp [Value.ownBlock] at hj; omega)
  clear hgr hg
  generalize w' = w1 at *
  simp only [List.nil_append, Nat.zero_add] at hown'
  go_loopw [8] (fun i wr => ∃ k : Nat, k ≤ b.length ∧ i = .int .i64 (k : Int) ∧ wr.ownsRow w.heap.size 5 1 (.slice (some ⟨g', 0, none⟩) 65536 cap') 65536 (bs (put M a b k)) ∧ Below w.heap.size w wr) (fun i _ => b.length - (intOf i).toNat)
  case atStart => exact ⟨0, by omega, rfl, hown', hB1⟩
  case round =>
    obtain ⟨k, hk, rfl, hown, hB⟩ := hrel
    by_cases hkn : k < b.length
    · have ho := hid hown
      clear hown hown' hB1
      have wr1 : IntKind.i64.wrap (a + (k : Int)) = a + k := IntWalk.i64_in _ (by omega)
      have i0' : 0 ≤ (a + (k : Int)) % 65536 := by omega
      have i1' : (a + (k : Int)) % 65536 < 65536 := by omega
      obtain ⟨gb, ob, rfl, gbl, hcb⟩ := HV.out (by intro e; subst e; simp at hkn)
      have hx : b[k]? = some (b.getD k 0) := by
        rw [List.getD_eq_getElem?_getD, List.getElem?_eq_getElem hkn]; rfl
      have c1 := (hB.cell (p := ⟨gb, ob + k, none⟩) gbl).trans (hcb _ _ hx)
      have c2 := ho.out.cellAt ((a + (k : Int)) % 65536).toNat (by omega)
      have c2' : (bs (put M a b k))[((a + (k : Int)) % 65536).toNat]? = some (.int .u8 ((put M a b k).getD ((a + (k : Int)) % 65536).toNat 0)) := bs_getD _ _ (by rw [put_length, HM.out]; omega)
      have c3 := c2.trans c2'
      have c4 := ho.out.frozenAt ((a + (k : Int)) % 65536).toNat
      clear hx hcb c2 c2'
      have k0 : (0 : Int) ≤ k := by omega
      have k1 : (k : Int) < b.length := by omega
      have hgB : w.heap.size ≤ g' := (ho.out.lt _ rfl).1
      have hne : g' ≠ gb := by omega
      go_wp2_with fail
      go_region_held3 (fun x => x.cell? ⟨gb, ob + k, none⟩ = some (.int .u8 (b.getD k 0)))
        (first
          | exact c1
          | exact (cell_set_other hne).trans c1)
        (first
          | (go_at_call 30; refine (mod_own _ _).mono ?_; rintro e w2 ⟨rfl, rfl⟩))
      all_goals
        go_wp2_with fail
        go_roundw
        case rel => exact ⟨k + 1, by omega, by go_num, put_next ho.out hkn, (hB.setCell (p := ⟨g', _, none⟩) hgB _).drew⟩
        case measure => simp [intOf]; omega
    · obtain rfl : k = b.length := by omega
      go_wp2_with fail
      refine bodyPost_ret (results_tmp rfl _ _ _) rfl ⟨_, rfl, ?_, hB⟩
      unfold Own
      rw [mput_length, HM.out]
      exact hown
end Go.Proofs.Ytgfagophgipldaa
