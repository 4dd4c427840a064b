import Derived.Test.YtepkaagbjfnpbaaDoorA2
import Derived.Test.YtepkaagbjfnpbaaDoorA3
namespace Go.Proofs.YtepkaagbjfnpbaaDoor
open Go.RowKit

def lvlIn (l : List Rule) (op acc : Int) : Int := l.foldl (fun a r => if ((r.op : Int) == op) = true then r.level else a) acc
theorem lvl_succ (l : List Rule) (k : Nat) (op acc : Int) (hk : k < l.length) : lvlIn (l.take (k + 1)) op acc = if (((l.getD k noRule).op : Int) == op) = true then ((l.getD k noRule).level : Int) else lvlIn (l.take k) op acc := by
  unfold lvlIn
  rw [List.take_succ_eq_append_getElem hk, List.foldl_append]
  simp [hk]
def level2 (op : Int) : Int := lvlIn tbl2 op (lvlIn tbl1 op 0)
set_option maxHeartbeats 400000 in
theorem level_any (op : Int) (w : World) (t0 t1 : TypeId × Nat × Nat) (hb0 : 1 < w.heap.size) (h0 : w.heap[0]? = some (.cells T1 t0.1 t0.2)) (h1 : w.heap[1]? = some (.cells T2 t1.1 t1.2)) :
    Calls Tryd.prog 13 #[.int .i64 op] w fun e w' => e = .returned (.int .i64 (level2 op)) ∧ Below w.heap.size w w' := by
  go_enter Tryd.func13, Tryd.ntmps13
  go_wp2_with (refine wpList_load_row rfl 52 _ rfl 0 rfl t0.1 _ t0.2 _ h0 Tryd.underlying52 rfl (by kernel_rfl) ?_)
  go_loopw [3, 9] (fun a i wr => ∃ k : Nat, k ≤ 35 ∧ i = .int .i64 k ∧ a = .int .i64 (lvlIn (tbl1.take k) op 0) ∧ Below w.heap.size w wr) (fun _ i _ => 35 - (intOf i).toNat)
  case atStart => exact ⟨0, by omega, rfl, rfl, Below.refl _ _⟩
  case round =>
    obtain ⟨k, hk, rfl, rfl, hB⟩ := hrel
    have hsz := hB.size
    by_cases hlt : k < 35
    · have hix := fun w => index_rule Tryd.underlying52 T1_ext k hlt w
      have hs := lvl_succ tbl1 k op 0 hlt
      generalize hr : tbl1.getD k noRule = r at hix hs
      clear hr
      obtain ⟨m, v, o, l, p⟩ := r
      simp only [rc] at hix hs
      have HS := hid hs
      clear hs
      generalize lvlIn (tbl1.take k) op 0 = A at *
      go_wp2
      all_goals
        go_roundw
        case rel => exact ⟨k + 1, by omega, by go_num, by rw [HS.out]; simp [*], hB.alloc (by omega) _⟩
        case measure => simp [intOf]; omega
    · have h1' : wr.heap[1]? = some (.cells T2 t1.1 t1.2) := by
        rw [hB.block 1 (by omega)]; exact h1
      obtain rfl : k = 35 := by omega
      generalize hA : lvlIn (tbl1.take 35) op 0 = A at *
      have hA' : lvlIn tbl1 op 0 = A := hA
      have HA := hid hA'
      clear hA hA'
      go_wp2_with (refine wpList_load_row rfl 53 _ rfl 1 rfl t1.1 _ t1.2 _ h1' Tryd.underlying53 rfl (by kernel_rfl) ?_)
      clear h1'
      obtain ⟨w1, rfl⟩ : ∃ w1 : World, w1 = wr := ⟨_, rfl⟩
      go_loopw [3, 20] (fun a i wr => ∃ k : Nat, k ≤ 16 ∧ i = .int .i64 k ∧ a = .int .i64 (lvlIn (tbl2.take k) op A) ∧ Below w.heap.size w wr) (fun _ i _ => 16 - (intOf i).toNat)
      case atStart => exact ⟨0, by omega, rfl, rfl, hB⟩
      case round =>
        obtain ⟨k2, hk2, rfl, rfl, hB2⟩ := hrel
        have hsz2 := hB2.size
        clear hB hsz
        by_cases hlt2 : k2 < 16
        · have hix := fun w => index_rule Tryd.underlying53 T2_ext k2 hlt2 w
          have hs := lvl_succ tbl2 k2 op A hlt2
          generalize hr : tbl2.getD k2 noRule = r at hix hs
          clear hr
          obtain ⟨m, v, o, l, p⟩ := r
          simp only [rc] at hix hs
          have HS := hid hs
          clear hs
          generalize lvlIn (tbl2.take k2) op A = A2 at *
          go_wp2
          all_goals
            go_roundw
            case rel => exact ⟨k2 + 1, by omega, by go_num, by rw [HS.out]; simp [*], hB2.alloc (by omega) _⟩
            case measure => simp [intOf]; omega
        · obtain rfl : k2 = 16 := by omega
          generalize hA : lvlIn (tbl2.take 16) op A = A2 at *
          have hA' : lvlIn tbl2 op A = A2 := hA
          have HA2 := hid hA'
          clear hA hA'
          go_wp2
          go_ret
          exact ⟨ret_int (by unfold level2; rw [HA.out, HA2.out]), hB2⟩
theorem base_any (op : Int) (w : World) (t0 t1 : TypeId × Nat × Nat) (hb0 : 1 < w.heap.size) (h0 : w.heap[0]? = some (.cells T1 t0.1 t0.2)) (h1 : w.heap[1]? = some (.cells T2 t1.1 t1.2)) :
    Calls Tryd.prog 15 #[.int .i64 op] w fun e w' => e = .returned (.bool (level2 op == 1)) ∧ Below w.heap.size w w' := by
  have H0 := hid h0
  have H1 := hid h1
  clear h0 h1
  go_enter Tryd.func15, Tryd.ntmps15
  go_wp2_with (go_at_call 13; refine (level_any op _ t0 t1 hb0 H0.out H1.out).mono ?_; rintro e w' ⟨rfl, hB⟩)
  go_ret
  exact ⟨rfl, hB⟩
set_option maxHeartbeats 400000 in
theorem in_any (n : Int) (l : List Int) (b cap : Nat) (w : World) (hl : l.length < 1000) (hc : w.heap[b]? = some (.cells (l.map (Value.int .i64)).toArray 3 (0, 0))) :
    Calls Tryd.prog 23 #[.int .i64 n, .slice (some ⟨b, 0, none⟩) l.length cap] w fun e w' => e = .returned (.bool (l.any fun a => a == n)) ∧ w = w' := by
  have HC := hid hc
  clear hc
  go_enter Tryd.func23, Tryd.ntmps23
  go_wp2
  go_loop [5] (fun i => ∃ k : Nat, k ≤ l.length ∧ i = .int .i64 k ∧ (l.take k).any (fun a => a == n) = false) (fun i => l.length - (intOf i).toNat)
  case atStart => exact ⟨0, by omega, rfl, rfl⟩
  case round =>
    obtain ⟨k, hk, rfl, hf⟩ := hrel
    have HF := hid hf
    clear hf
    by_cases hlt : k < l.length
    · have hcell : w.cell? ⟨b, k, none⟩ = some (.int .i64 l[k]) := by simp [World.cell?, HC.out, hlt]
      have hs : (l.take (k + 1)).any (fun a => a == n) = (l[k] == n) := by
        rw [List.take_succ_eq_append_getElem hlt, List.any_append, HF.out]; simp
      generalize hv : l[k] = v at *
      have HS := hid hs
      clear hs
      have HV := hid hv
      clear hv
      go_wp2
      · go_ret
        refine ⟨?_, rfl⟩
        have : (l.any fun a => a == n) = true := by
          rw [List.any_eq_true]; exact ⟨l[k], List.getElem_mem _, by rw [HV.out]; assumption⟩
        rw [this]; rfl
      · go_round
        case rel => exact ⟨k + 1, by omega, by go_num, by rw [HS.out]; assumption⟩
        case measure => simp [intOf]; omega
    · obtain rfl : k = l.length := by omega
      have HF' : Hid ((l.any fun a => a == n) = false) := hid (by have := HF.out; rwa [List.take_length] at this)
      clear HF
      go_wp2
      go_ret
      refine ⟨?_, rfl⟩
      rw [HF'.out]; rfl
end Go.Proofs.YtepkaagbjfnpbaaDoor
