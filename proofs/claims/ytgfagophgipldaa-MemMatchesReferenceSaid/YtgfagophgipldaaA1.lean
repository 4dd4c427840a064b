import Derived.Test.YtgfagophgipldaaA0
import Derived.Deep.RegionHeld3
import Derived.Deep.AppendLies
namespace Go.Proofs.Ytgfagophgipldaa
open Go.RowKit
def unB (l : List UInt8) (j : Nat) : Int := IntKind.u8.wrap (16 * dg ((l.getD (2 * j) 0).toNat) + dg ((l.getD (2 * j + 1) 0).toNat))
def unL (l : List UInt8) (k : Nat) : List Int := (List.range k).map (unB l)
theorem unL_length (l : List UInt8) (k : Nat) : (unL l k).length = k := by simp [unL]
theorem news1 {w : World} {x y : Value} {t : TypeId} (h : x = y) : ∀ j u, [y][j]? = some u → ((w.alloc (.cells #[x] t)).drew).cell? ((⟨w.heap.size, 0, none⟩ : Addr).add j) = some u := by
  subst h
  exact World.news_of_block (w := (w.alloc (.cells #[x] t)).drew) (B := w.heap.size) (cs := #[x]) (t := t) (fr := (0, 0)) (heap_alloc_new w _)
theorem dg_bound (c : UInt8) : -48 ≤ dg c.toNat ∧ dg c.toNat ≤ 200 := by
  have := UInt8.toNat_lt c
  unfold dg
  split <;> omega
theorem byte_get (l : List UInt8) (j : Nat) (h : j < ByteArray.size ⟨l.toArray⟩) : (⟨l.toArray⟩ : ByteArray)[j].toNat = (l.getD j 0).toNat := by
  have h' : j < l.length := by have e : ByteArray.size ⟨l.toArray⟩ = l.length := by simp [ByteArray.size]
                               omega
  rw [List.getD_eq_getElem?_getD, List.getElem?_eq_getElem h']
  rfl
theorem unB_eq (l : List UInt8) (k : Nat) (h1 : 2 * k < ByteArray.size ⟨l.toArray⟩) (h2 : 2 * k + 1 < ByteArray.size ⟨l.toArray⟩) :
    Value.int .u8 (IntKind.u8.wrap (IntKind.i64.wrap (IntKind.i64.wrap (16 * dg ((⟨l.toArray⟩ : ByteArray)[2 * k].toNat)) + dg ((⟨l.toArray⟩ : ByteArray)[2 * k + 1].toNat)))) = .int .u8 (unB l k) := by
  rw [byte_get, byte_get]
  have b1 := dg_bound (l.getD (2 * k) 0)
  have b2 := dg_bound (l.getD (2 * k + 1) 0)
  rw [IntWalk.i64_in (16 * _) (by omega), IntWalk.i64_in _ (by omega)]
  rfl
theorem unL_succ (l : List UInt8) (k : Nat) : bs (unL l (k + 1)) = bs (unL l k) ++ [.int .u8 (unB l k)] := by simp [unL, bs, List.range_succ]
theorem below_app {w w1 w2 : World} {v : Value} {k : Nat} {L : List Value} {o : Obj} (hB : Below w.heap.size w w1) (ho : w1.ownsRow w.heap.size 5 1 v k L) (hg : (w1.alloc o).drew.grownBy w2 v.ownBlock) : Below w.heap.size w w2 :=
  ((hB.alloc hB.size o).drew).grown hg (by have := hB.size; simp; omega) (fun j hj => (ho.lt j hj).1)
set_option maxHeartbeats 1000000 in
theorem unhex_any (l : List UInt8) (n : Nat) (hl : l.length = 2 * n) (hn : n < 1000) (w : World) :
    Calls Try.prog 35 #[.string ⟨l.toArray⟩] w fun e w' => ∃ v, e = .returned v ∧ Own w.heap.size w' v (unL l n) ∧ Below w.heap.size w w' := by
  obtain ⟨i0, hi, hz0, hz1, hz2⟩ := info_parts Try.info5
  go_enter Try.func35, Try.ntmps35
  go_wp2_with fail
  go_loopw [3, 4] (fun v i wr => ∃ k : Nat, k ≤ n ∧ i = .int .i64 (2 * (k : Int)) ∧ wr.ownsRow w.heap.size 5 1 v k (bs (unL l k)) ∧ Below w.heap.size w wr) (fun _ i _ => 2 * n - (intOf i).toNat)
  case atStart => exact ⟨0, by omega, rfl, World.ownsRow_nil _ _ _ _, Below.refl _ _⟩
  case round =>
    obtain ⟨k, hk, rfl, hown, hB⟩ := hrel
    by_cases hkn : k < n
    · obtain ⟨c1, hc1⟩ : ∃ c, l[2 * k]? = some c := ⟨_, List.getElem?_eq_getElem (by omega)⟩
      obtain ⟨c2, hc2⟩ : ∃ c, l[2 * k + 1]? = some c := ⟨_, List.getElem?_eq_getElem (by omega)⟩
      have wr1 : IntKind.i64.wrap (2 * (k : Int) + 1) = 2 * k + 1 := IntWalk.i64_in _ (by omega)
      have t1 : (2 * (k : Int)).toNat = 2 * k := by omega
      have t2 : (2 * (k : Int) + 1).toNat = 2 * k + 1 := by omega
      go_wp2_with fail
      have hc1' := hid hc1
      have ho := hid hown
      clear hown
      go_region_held3 (fun _ => True)
        (exact trivial)
        (first
          | (go_at_call 43; refine (digit_any _ _ (by first | exact UInt8.toNat_lt _ | omega)).mono ?_; rintro e w' ⟨rfl, rfl⟩)
          | (refine step_append_lies _ rfl (.tmp 11) (.tmp 24) 24 rfl w.heap.size 5 i0 (.int .u8 0) 1 1 Try.underlying24 hi hz0 hz1 hz2 rfl (by decide) u3 k (bs (unL l k)) (by simp [Act.eval]) (ho.out.alloc _).drew ⟨wr.heap.size, 0, none⟩ 1 1 [.int .u8 (unB l k)] (by simp [Act.eval]) rfl (news1 (unB_eq l k _ _)) (by intro u hu; simp at hu; subst hu; rfl) (by decide) (by unfold maxLen; omega) (by omega) (by have := hB.size; simp; omega) (wr.heap.size + 1) (by simp) ?_; intro g cap w' hown' hgr hg hlt))
      all_goals
        go_wp2_with fail
        go_roundw
        case rel => exact ⟨k + 1, by omega, by go_num, by rw [unL_succ]; assumption, below_app hB ho.out (by assumption)⟩
        case measure => simp [intOf]; omega
    · obtain rfl : k = n := by omega
      go_wp2_with fail
      refine bodyPost_ret (results_tmp rfl _ _ _) rfl ⟨_, rfl, ?_, hB⟩
      unfold Own
      rw [unL_length]
      exact hown
end Go.Proofs.Ytgfagophgipldaa
