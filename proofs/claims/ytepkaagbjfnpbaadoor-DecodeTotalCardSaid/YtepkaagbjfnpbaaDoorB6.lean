import Derived.Test.YtepkaagbjfnpbaaDoorB5
import Derived.Deep.RegionHeld3
namespace Go.Proofs.YtepkaagbjfnpbaaDoor
open Go.RowKit

theorem own1_S {w wr : World} {a b c d : Value} (h : Own1 w #[a, b, c, d] 22 wr) :
    wr.cell? ⟨w.heap.size, 0, none⟩ = some a ∧ wr.cell? ⟨w.heap.size, 1, none⟩ = some b ∧ wr.cell? ⟨w.heap.size, 2, none⟩ = some c ∧ wr.cell? ⟨w.heap.size, 3, none⟩ = some d ∧ Own1 w #[a, b, c, d] 22 wr := by
  have := (own1_cells h).1
  exact ⟨this 0, this 1, this 2, this 3, h⟩
theorem own_of {w wr : World} {a b c d : Value} (h : wr.cell? ⟨w.heap.size, 0, none⟩ = some a ∧ wr.cell? ⟨w.heap.size, 1, none⟩ = some b ∧ wr.cell? ⟨w.heap.size, 2, none⟩ = some c ∧ wr.cell? ⟨w.heap.size, 3, none⟩ = some d ∧ Own1 w #[a, b, c, d] 22 wr) : Own1 w #[a, b, c, d] 22 wr := h.2.2.2.2
theorem own1_back {w w1 w2 : World} {C : Array Value} {T : TypeId} (hb : Below w1.heap.size w1 w2) (h : Own1 w C T w1) : Own1 w C T w2 := own1_next h hb
theorem rdec_ic (a b : Nat) (e lv : Int) : ∃ o x y n nn ad ln, refDec a b e lv = ic o x y n nn ad ln := by
  unfold refDec
  dsimp only
  split
  · exact ⟨0, 0, 0, 0, 0, 0, 2, rfl⟩
  · exact ⟨_, _, _, _, _, _, _, rfl⟩
set_option maxHeartbeats 2000000 in
theorem matches_any (a b c d : Nat) (lv op : Int) (w : World) (h : Tab w) (ha : a < 256) (hb : b < 256) (hc : c < 256) (hd : d < 256) (hl : level2 op = levelS op) :
    Calls Tryd.prog 3 #[.agg #[.int .u8 a, .int .u8 b, .int .u8 c, .int .u8 d], .int .i64 lv, .int .i64 op] w fun e w' => e = .returned (.bool true) ∧ Below w.heap.size w w' := by
  obtain ⟨o, x, y, n, nn, ad, ln, hD⟩ := rdec_ic a b ((c : Int) * 256 + d) lv
  have hI : implDec a b ((c : Int) * 256 + d) lv = ic o x y n nn ad ln := (impl_is_ref a b _ lv ha hb).trans hD
  unfold ic at hD hI
  have HD := hid hD
  have HI := hid hI
  have HL := hid hl
  clear hD hI hl
  go_enter Tryd.func3, Tryd.ntmps3
  go_wp2_with fail
  refine (awake_any _ (tab_alloc h _)).mono ?_
  rintro e w1 ⟨rfl, hB1⟩
  have O1 := own1_first h hB1
  clear hB1
  go_wp2_with fail
  obtain ⟨c0, c1, c2, c3, O1⟩ := own1_S O1
  go_region_held3 (fun wr => wr.cell? ⟨w.heap.size, 0, none⟩ = some (.int .u8 a) ∧ wr.cell? ⟨w.heap.size, 1, none⟩ = some (.int .u8 b) ∧ wr.cell? ⟨w.heap.size, 2, none⟩ = some (.int .u8 c) ∧ wr.cell? ⟨w.heap.size, 3, none⟩ = some (.int .u8 d) ∧ Own1 w #[.int .u8 a, .int .u8 b, .int .u8 c, .int .u8 d] 22 wr)
    (first | assumption | exact own1_S (own1_drew O1) | exact own1_S (own1_back (by assumption) (own_of (by assumption))))
    (first
      | (go_at_call 9; refine (dec_tab a b c d lv _ (own_of (by assumption)).tab ha hb hc hd _ HI.out).mono ?_; rintro e w2 ⟨rfl, hB2⟩)
      | (go_at_call 10; refine (rdec_any a b c d lv _ ha hb hc hd).mono ?_; rintro e w3 ⟨rfl, hB3⟩; rw [HD.out])
      | (go_at_call 11; refine (skip_any a b lv _ ha hb).mono ?_; rintro e w' ⟨rfl, rfl⟩)
      | (go_at_call 12; refine (rskip_any a b lv _).mono ?_; rintro e w' ⟨rfl, rfl⟩)
      | (go_at_call 13; refine (level_tab op _ (own_of (by assumption)).tab).mono ?_; rintro e w4 ⟨rfl, hB4⟩; rw [HL.out])
      | (go_at_call 14; refine (rlevel_any op _).mono ?_; rintro e w' ⟨rfl, rfl⟩)
      | (go_at_call 15; refine (base_tab op _ (own_of (by assumption)).tab).mono ?_; rintro e w5 ⟨rfl, hB5⟩; rw [HL.out]))
  go_wp2_with fail
  go_ret
  exact ⟨rfl, own1_below (own_of (by assumption))⟩
theorem lvl_none (l : List Rule) (op acc : Int) (h : ∀ r ∈ l, (r.op : Int) ≠ op) : lvlIn l op acc = acc := by
  unfold lvlIn
  induction l generalizing acc with
  | nil => rfl
  | cons r l ih =>
    rw [List.foldl_cons]
    have h0 : ((r.op : Int) == op) = false := by rw [beq_eq_false_iff_ne]; exact h r (List.mem_cons_self)
    rw [h0]
    exact ih acc (fun r hr => h r (List.mem_cons_of_mem _ hr))
theorem level_eq (op : Int) : level2 op = levelS op := by
  by_cases h : 1 ≤ op ∧ op ≤ 51
  · have hall : ∀ k : Fin 52, level2 (k.val : Int) = levelS (k.val : Int) := by decide +kernel
    obtain ⟨n, rfl⟩ : ∃ n : Nat, op = n := ⟨op.toNat, by omega⟩
    exact hall ⟨n, by omega⟩
  · have hr : ∀ r ∈ tbl1 ++ tbl2, (r.op : Int) ≠ op := fun r hr e => by have := rule_more r hr; omega
    unfold level2
    rw [lvl_none tbl1 op 0 (fun r k => hr r (List.mem_append_left _ k)), lvl_none tbl2 op 0 (fun r k => hr r (List.mem_append_right _ k))]
    unfold levelS
    split
    · rfl
    · split
      · rfl
      · omega
theorem matches_walk (a b c d : Nat) (lv op : Int) (w : World) (h : Tab w) (ha : a < 256) (hb : b < 256) (hc : c < 256) (hd : d < 256) :
    Calls Tryd.prog 3 #[.agg #[.int .u8 a, .int .u8 b, .int .u8 c, .int .u8 d], .int .i64 lv, .int .i64 op] w fun e w' => e = .returned (.bool true) ∧ Below w.heap.size w w' :=
  matches_any a b c d lv op w h ha hb hc hd (level_eq op)
end Go.Proofs.YtepkaagbjfnpbaaDoor
