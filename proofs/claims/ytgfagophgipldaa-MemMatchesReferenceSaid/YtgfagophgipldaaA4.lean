import Derived.Test.YtgfagophgipldaaA3
import Derived.Deep.AppendLies
namespace Go.Proofs.Ytgfagophgipldaa
open Go.RowKit
theorem addr_add (g off j : Nat) : (⟨g, off, none⟩ : Addr).add j = ⟨g, off + j, none⟩ := by unfold Addr.add; split <;> simp_all
theorem bs_get (L : List Int) (j : Nat) : (bs L)[j]? = L[j]?.map (Value.int .u8) := by simp [bs]
theorem news_mid {w : World} {g : Nat} {L : List Int} {t : TypeId} {fr : Nat × Nat} (hb : w.heap[g]? = some (.cells (bs L).toArray t fr)) (off off' m : Nat) (he : off' = off) :
    ∀ j u, (bs ((L.drop off).take m))[j]? = some u → w.cell? ((⟨g, off', none⟩ : Addr).add j) = some u := by
  subst he
  intro j u hu
  rw [addr_add, cell_of_row w g (off' + j) _ t fr hb, List.getElem?_toArray, bs_get]
  rw [bs_get, List.getElem?_take] at hu
  split at hu
  · rw [List.getElem?_drop] at hu; exact hu
  · simp at hu
theorem one_bs (L : List Int) : ∀ u ∈ bs L, u.oneCell' = true := by
  intro u hu
  obtain ⟨x, -, rfl⟩ := List.mem_map.1 hu
  rfl
theorem bs_app (L : List Int) (a m : Nat) : bs (L.take a) ++ bs ((L.drop a).take m) = bs (L.take (a + m)) := by
  unfold bs
  rw [← List.map_append, List.take_add]
theorem below_app' {w w1 w2 : World} {v : Value} {k : Nat} {L : List Value} (hB : Below w.heap.size w w1) (ho : w1.ownsRow w.heap.size 5 1 v k L) (hg : w1.grownBy w2 v.ownBlock) : Below w.heap.size w w2 :=
  hB.grown hg hB.size (fun j hj => (ho.lt j hj).1)
theorem own_base {B B' : Nat} {w : World} {v : Value} {L : List Int} (h : B ≤ B') (ho : Own B' w v L) : Own B w v L := by
  refine ⟨ho.1, ?_⟩
  rcases ho.2 with h' | ⟨g, cap, cur, h1, h2, h3⟩
  · exact .inl h'
  · exact .inr ⟨g, cap, cur, h1, Nat.le_trans h h2, h3⟩
set_option maxHeartbeats 1000000 in
theorem concat5_any (L : List Int) (g : Nat) (w : World) (hg : w.heap[g]? = some (.cells (bs L).toArray 60 (0, 0))) (hL : L.length = 80) :
    Calls Try.prog 36 #[.slice (some ⟨g, 0, none⟩) 16 16, .func (Fn.func 37) #[] #[]] w fun e w' => ∃ v, e = .returned v ∧ Own w.heap.size w' v L ∧ Below w.heap.size w w' := by
  obtain ⟨i0, hi, hz0, hz1, hz2⟩ := info_parts Try.info5
  have hlt : g < w.heap.size := (Array.getElem?_eq_some_iff.1 hg).1
  go_enter Try.func36, Try.ntmps36
  go_wp2_with fail
  go_loopw [5, 9] (fun v i wr => ∃ k : Nat, k ≤ 16 ∧ i = .int .i64 (k : Int) ∧ wr.ownsRow w.heap.size 5 1 v (5 * k) (bs (L.take (5 * k))) ∧ Below w.heap.size w wr) (fun _ i _ => 16 - (intOf i).toNat)
  case atStart => exact ⟨0, by omega, rfl, World.ownsRow_nil _ _ _ _, Below.refl _ _⟩
  case round =>
    obtain ⟨k, hk, rfl, hown, hB⟩ := hrel
    by_cases hkn : k < 16
    · have ho := hid hown
      have hgr := (hB.block g hlt).trans hg
      have hG := hid hgr
      clear hown hgr
      go_wp2_with (first
        | (at_builtin; refine wpList_append_lies wr rfl (.tmp 12) (.tmp 17) 24 rfl w.heap.size 5 i0 (.int .u8 0) 1 1 Try.underlying24 hi hz0 hz1 hz2 rfl (by decide) u5 (5 * k) (bs (L.take (5 * k))) rfl ho.out ⟨g, k * 5, none⟩ 5 5 (bs ((L.drop (5 * k)).take 5)) rfl (by rw [bs_length, List.length_take, List.length_drop]; omega) (news_mid hG.out (5 * k) (k * 5) 5 (by omega)) (one_bs _) (by decide) (by unfold maxLen; omega) (by omega) hB.size wr.heap.size rfl ?_; intro g' cap w' hown' hgr' hg' hlt')
        | go_in)
      rw [bs_app] at hown'
      go_roundw
      case rel => exact ⟨k + 1, by omega, by go_num, hown', below_app' hB ho.out hgr'⟩
      case measure => simp [intOf]; omega
    · obtain rfl : k = 16 := by omega
      go_wp2_with fail
      refine bodyPost_ret (results_tmp rfl _ _ _) rfl ⟨_, rfl, ?_, hB⟩
      unfold Own
      rw [hL]
      rw [List.take_of_length_le (by omega)] at hown
      exact hown
set_option maxHeartbeats 1000000 in
theorem concat10_any (L : List Int) (g : Nat) (w : World) (hg : w.heap[g]? = some (.cells (bs L).toArray 57 (0, 0))) (hL : L.length = 160) :
    Calls Try.prog 38 #[.slice (some ⟨g, 0, none⟩) 16 16, .func (Fn.func 39) #[] #[]] w fun e w' => ∃ v, e = .returned v ∧ Own w.heap.size w' v L ∧ Below w.heap.size w w' := by
  obtain ⟨i0, hi, hz0, hz1, hz2⟩ := info_parts Try.info5
  have hlt : g < w.heap.size := (Array.getElem?_eq_some_iff.1 hg).1
  go_enter Try.func38, Try.ntmps38
  go_wp2_with fail
  go_loopw [5, 9] (fun v i wr => ∃ k : Nat, k ≤ 16 ∧ i = .int .i64 (k : Int) ∧ wr.ownsRow w.heap.size 5 1 v (10 * k) (bs (L.take (10 * k))) ∧ Below w.heap.size w wr) (fun _ i _ => 16 - (intOf i).toNat)
  case atStart => exact ⟨0, by omega, rfl, World.ownsRow_nil _ _ _ _, Below.refl _ _⟩
  case round =>
    obtain ⟨k, hk, rfl, hown, hB⟩ := hrel
    by_cases hkn : k < 16
    · have ho := hid hown
      have hgr := (hB.block g hlt).trans hg
      have hG := hid hgr
      clear hown hgr
      go_wp2_with (first
        | (at_builtin; refine wpList_append_lies wr rfl (.tmp 12) (.tmp 17) 24 rfl w.heap.size 5 i0 (.int .u8 0) 1 1 Try.underlying24 hi hz0 hz1 hz2 rfl (by decide) u5 (10 * k) (bs (L.take (10 * k))) rfl ho.out ⟨g, k * 10, none⟩ 10 10 (bs ((L.drop (10 * k)).take 10)) rfl (by rw [bs_length, List.length_take, List.length_drop]; omega) (news_mid hG.out (10 * k) (k * 10) 10 (by omega)) (one_bs _) (by decide) (by unfold maxLen; omega) (by omega) hB.size wr.heap.size rfl ?_; intro g' cap w' hown' hgr' hg' hlt')
        | go_in)
      rw [bs_app] at hown'
      go_roundw
      case rel => exact ⟨k + 1, by omega, by go_num, hown', below_app' hB ho.out hgr'⟩
      case measure => simp [intOf]; omega
    · obtain rfl : k = 16 := by omega
      go_wp2_with fail
      refine bodyPost_ret (results_tmp rfl _ _ _) rfl ⟨_, rfl, ?_, hB⟩
      unfold Own
      rw [hL]
      rw [List.take_of_length_le (by omega)] at hown
      exact hown
set_option maxHeartbeats 1000000 in
theorem fontSmall_any (w : World) : Calls Try.prog 19 #[] w fun e w' => ∃ v, e = .returned v ∧ Own w.heap.size w' v SM ∧ Below w.heap.size w w' := by
  have hz : ∀ w, (zeroValue 60).run Try.prog w = .ok (.agg (Array.replicate 80 (.int .u8 0))) w := zero_of (by kernel_rfl)
  obtain ⟨Z, hZ⟩ : ∃ Z : Array Value, Z = Array.replicate 80 (.int .u8 0) := ⟨_, rfl⟩
  rw [← hZ] at hz
  have hs : Z.size = (bs SM).toArray.size := by rw [hZ]; kernel_rfl
  have HS := hid hs
  clear hZ hs
  obtain ⟨C, hC⟩ : ∃ C : Array Value, C = (bs SM).toArray := ⟨_, rfl⟩
  have hsm := hid small_any
  rw [← hC] at hsm HS
  have hk : (Try.prog.info? 60).map (·.size) = some C.size := by rw [hC]; kernel_rfl
  have hone : C.all (·.oneCell') = true := by rw [hC]; kernel_rfl
  have HK := hid hk
  have HO := hid hone
  clear hk hone
  have HC := hid hC
  clear hC
  go_enter Try.func19, Try.ntmps19
  go_wp2_with (first
    | (with_reducible show Calls _ _ _ _ _; go_at_call 34; refine (hsm.out _).mono ?_; rintro e w1 ⟨rfl, hb1⟩)
    | ((with_reducible show wpList _ _ _ _ _ _); (refine wpList_store_row rfl 60 (.tmp 1) (.tmp 2) rfl w1.heap.size C (by rfl) (by rfl) 60 Z (heap_alloc_new w1 _) HK.out HS.out HO.out ?_)))
  have hrow : ((w1.alloc (Obj.cells Z 60)).setRow w1.heap.size C).heap[w1.heap.size]? = some (.cells (bs SM).toArray 60 (0, 0)) := by
    rw [← HC.out]
    exact setRow_heap _ _ Z C 60 (0, 0) (heap_alloc_new w1 _)
  have hbel : Below w.heap.size w ((w1.alloc (Obj.cells Z 60)).setRow w1.heap.size C) := below_setRow (hb1.alloc hb1.size _) hb1.size _
  generalize (w1.alloc (Obj.cells Z 60)).setRow w1.heap.size C = w2 at *
  refine (concat5_any _ _ w2 hrow (by kernel_rfl)).mono ?_
  rintro e w3 ⟨v, rfl, ho, hb3⟩
  have ho' : Own w.heap.size w3 v SM := own_base hbel.size ho
  have hb : Below w.heap.size w w3 := hbel.trans (hb3.mono hbel.size)
  clear ho hb3 hrow hbel
  go_wp2_with fail
  go_ret
  exact ⟨_, rfl, ho', hb⟩
set_option maxHeartbeats 1000000 in
theorem fontBig_any (w : World) : Calls Try.prog 20 #[] w fun e w' => ∃ v, e = .returned v ∧ Own w.heap.size w' v BG ∧ Below w.heap.size w w' := by
  have hz : ∀ w, (zeroValue 57).run Try.prog w = .ok (.agg (Array.replicate 160 (.int .u8 0))) w := zero_of (by kernel_rfl)
  obtain ⟨Z, hZ⟩ : ∃ Z : Array Value, Z = Array.replicate 160 (.int .u8 0) := ⟨_, rfl⟩
  rw [← hZ] at hz
  have hs : Z.size = (bs BG).toArray.size := by rw [hZ]; kernel_rfl
  have HS := hid hs
  clear hZ hs
  obtain ⟨C, hC⟩ : ∃ C : Array Value, C = (bs BG).toArray := ⟨_, rfl⟩
  have hsm := hid big_any
  rw [← hC] at hsm HS
  have hk : (Try.prog.info? 57).map (·.size) = some C.size := by rw [hC]; kernel_rfl
  have hone : C.all (·.oneCell') = true := by rw [hC]; kernel_rfl
  have HK := hid hk
  have HO := hid hone
  clear hk hone
  have HC := hid hC
  clear hC
  go_enter Try.func20, Try.ntmps20
  go_wp2_with (first
    | (with_reducible show Calls _ _ _ _ _; go_at_call 33; refine (hsm.out _).mono ?_; rintro e w1 ⟨rfl, hb1⟩)
    | ((with_reducible show wpList _ _ _ _ _ _); (refine wpList_store_row rfl 57 (.tmp 1) (.tmp 2) rfl w1.heap.size C (by rfl) (by rfl) 57 Z (heap_alloc_new w1 _) HK.out HS.out HO.out ?_)))
  have hrow : ((w1.alloc (Obj.cells Z 57)).setRow w1.heap.size C).heap[w1.heap.size]? = some (.cells (bs BG).toArray 57 (0, 0)) := by
    rw [← HC.out]
    exact setRow_heap _ _ Z C 57 (0, 0) (heap_alloc_new w1 _)
  have hbel : Below w.heap.size w ((w1.alloc (Obj.cells Z 57)).setRow w1.heap.size C) := below_setRow (hb1.alloc hb1.size _) hb1.size _
  generalize (w1.alloc (Obj.cells Z 57)).setRow w1.heap.size C = w2 at *
  refine (concat10_any _ _ w2 hrow (by kernel_rfl)).mono ?_
  rintro e w3 ⟨v, rfl, ho, hb3⟩
  have ho' : Own w.heap.size w3 v BG := own_base hbel.size ho
  have hb : Below w.heap.size w w3 := hbel.trans (hb3.mono hbel.size)
  clear ho hb3 hrow hbel
  go_wp2_with fail
  go_ret
  exact ⟨_, rfl, ho', hb⟩
end Go.Proofs.Ytgfagophgipldaa
