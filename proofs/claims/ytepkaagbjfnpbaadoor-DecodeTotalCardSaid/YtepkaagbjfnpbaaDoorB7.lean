import Derived.Test.YtepkaagbjfnpbaaDoorRows
import Derived.Test.YtepkaagbjfnpbaaDoorB5
import Derived.ProofKit
import Derived.LaidMore
import Derived.OpenShut
import Derived.Stop.Joined
namespace Go.Proofs.YtepkaagbjfnpbaaDoor
open Go.ChangeShapes Go.WideShapes Go.ChangeAt Go.RowKit

def laid2 : List (String × DataW Unit) := [("cosmac/decode.rules", Rows.laid_cosmac_decode_rules), ("cosmac/decode.later", Rows.laid_cosmac_decode_later)]
/-- The name of a function that picks fields. -/
noncomputable def nm (p : Nat) : List UInt8 := ((Tryd.prog.funcs[p]?).map (·.name.toUTF8.data.toList)).getD []
/-- How a rule reads. -/
noncomputable def rd (r : Rule) : DataW (List UInt8) := .agg [.lit (.int .i64 r.mask), .lit (.int .i64 r.value), .lit (.int .i64 r.op), .lit (.int .i64 r.level), .held (nm r.pick)]
theorem rules_read : (Rows.laid_cosmac_decode_rules : DataW Unit) = .iface "func table" (match (Rows.laid_cosmac_decode_rules : DataW Unit) with | .iface _ d => d | d => d) := by kernel_rfl
theorem rules_out : (match (Rows.laid_cosmac_decode_rules : DataW Unit) with | .iface _ d => d | d => d).funcsOut = .agg (tbl1.map rd) := by kernel_rfl
theorem later_read : (Rows.laid_cosmac_decode_later : DataW Unit) = .iface "func table" (match (Rows.laid_cosmac_decode_later : DataW Unit) with | .iface _ d => d | d => d) := by kernel_rfl
theorem later_out : (match (Rows.laid_cosmac_decode_later : DataW Unit) with | .iface _ d => d | d => d).funcsOut = .agg (tbl2.map rd) := by kernel_rfl
theorem gRules : Tryd.prog.globalNamed "cosmac/decode.rules" = some 0 := by kernel_rfl
theorem gLater : Tryd.prog.globalNamed "cosmac/decode.later" = some 1 := by kernel_rfl
theorem tRules : (Tryd.prog.globals[0]?).map (·.type) = some 52 := by kernel_rfl
theorem tLater : (Tryd.prog.globals[1]?).map (·.type) = some 53 := by kernel_rfl
theorem cells38 : Tryd.prog.cellsOf 38 = 5 := by kernel_rfl
theorem cells52 : Tryd.prog.cellsOf 52 = 175 := by kernel_rfl
theorem cells53 : Tryd.prog.cellsOf 53 = 80 := by kernel_rfl
theorem cells3 : Tryd.prog.cellsOf 3 = 1 := by kernel_rfl
theorem cells36 : Tryd.prog.cellsOf 36 = 1 := by kernel_rfl
theorem one_name : ∀ p, 45 ≤ p → p ≤ 53 → ∃ b r, nm p = b :: r ∧ ((List.range Tryd.prog.funcs.size).filter fun f => (Tryd.prog.funcs[f]?).any (·.name.toUTF8.data.toList == b :: r)) = [p] := by
  intro p h1 h2
  obtain rfl | rfl | rfl | rfl | rfl | rfl | rfl | rfl | rfl : p = 45 ∨ p = 46 ∨ p = 47 ∨ p = 48 ∨ p = 49 ∨ p = 50 ∨ p = 51 ∨ p = 52 ∨ p = 53 := by omega
  all_goals exact ⟨_, _, rfl, by kernel_rfl⟩
theorem rule_of_trod {W : World} {sp : Nat → Bool} {fuel : Nat} {c : List Value} {q : List MemPlace} (r : Rule) (hp1 : 45 ≤ r.pick) (hp2 : r.pick ≤ 53)
    (h : DataW.trod (funcToken Tryd.prog) Tryd.prog W 0 sp true fuel 38 c = some (rd r, q)) : c = (rc r).toList := by
  obtain ⟨xs, n, rfl, hx, hl, hlen, hel⟩ := DataW.trod_struct Tryd.underlying38 h
  rw [cells38] at hl
  match c, hl with
  | [c0, c1, c2, c3, c4], _ =>
    match xs, hlen with
    | [x0, x1, x2, x3, x4], _ =>
      have e0 : DataW.trod (funcToken Tryd.prog) Tryd.prog W 0 sp true n 3 (([c0, c1, c2, c3, c4].drop 0).take (Tryd.prog.cellsOf 3)) = some x0 := hel 0 _ rfl
      have e1 : DataW.trod (funcToken Tryd.prog) Tryd.prog W 0 sp true n 3 (([c0, c1, c2, c3, c4].drop 1).take (Tryd.prog.cellsOf 3)) = some x1 := hel 1 _ rfl
      have e2 : DataW.trod (funcToken Tryd.prog) Tryd.prog W 0 sp true n 3 (([c0, c1, c2, c3, c4].drop 2).take (Tryd.prog.cellsOf 3)) = some x2 := hel 2 _ rfl
      have e3 : DataW.trod (funcToken Tryd.prog) Tryd.prog W 0 sp true n 3 (([c0, c1, c2, c3, c4].drop 3).take (Tryd.prog.cellsOf 3)) = some x3 := hel 3 _ rfl
      have e4 : DataW.trod (funcToken Tryd.prog) Tryd.prog W 0 sp true n 36 (([c0, c1, c2, c3, c4].drop 4).take (Tryd.prog.cellsOf 36)) = some x4 := hel 4 _ rfl
      rw [cells3] at e0 e1 e2 e3
      rw [cells36] at e4
      have hx1 : rd r = .agg [x0.1, x1.1, x2.1, x3.1, x4.1] := by have := congrArg Prod.fst hx; exact this
      unfold rd at hx1
      simp only [DataW.agg.injEq, List.cons.injEq, and_true] at hx1
      obtain ⟨k0, k1, k2, k3, k4⟩ := hx1
      obtain ⟨m0, a0, b0, -⟩ := DataW.trod_int Tryd.underlying3 (show DataW.trod _ _ W 0 sp true n 3 [c0] = some x0 from e0)
      obtain ⟨m1, a1, b1, -⟩ := DataW.trod_int Tryd.underlying3 (show DataW.trod _ _ W 0 sp true n 3 [c1] = some x1 from e1)
      obtain ⟨m2, a2, b2, -⟩ := DataW.trod_int Tryd.underlying3 (show DataW.trod _ _ W 0 sp true n 3 [c2] = some x2 from e2)
      obtain ⟨m3, a3, b3, -⟩ := DataW.trod_int Tryd.underlying3 (show DataW.trod _ _ W 0 sp true n 3 [c3] = some x3 from e3)
      obtain ⟨b, rr, hn, hone⟩ := one_name r.pick hp1 hp2
      have e4' : DataW.trod (funcToken Tryd.prog) Tryd.prog W 0 sp true n 36 [c4] = some (.held (b :: rr), x4.2) := by
        rw [← hn, k4]; exact e4
      have f4 := func_of_trod (f0 := r.pick) Tryd.underlying36 hone e4'
      subst b0 b1 b2 b3
      simp only [DataW.lit.injEq, Lit.int.injEq, true_and] at k0 k1 k2 k3
      simp only [List.cons.injEq, and_true] at a0 a1 a2 a3
      subst a0 a1 a2 a3 f4 k0 k1 k2 k3
      rfl
theorem chunks (f : Nat → List Value) : ∀ (n : Nat) (l : List Value), l.length = n * 5 → (∀ i, i < n → (l.drop (i * 5)).take 5 = f i) → l = (List.range n).flatMap f
  | 0, l, hl, _ => by simpa using hl
  | n + 1, l, hl, h => by
    rw [List.range_succ, List.flatMap_append]
    have h1 := chunks f n (l.take (n * 5)) (by simp; omega) (fun i hi => by
      rw [← h i (by omega), List.drop_take, List.take_take]
      congr 1
      omega)
    have h2 := h n (by omega)
    rw [← h1]
    have h3 : (l.drop (n * 5)).take 5 = l.drop (n * 5) := List.take_of_length_le (by simp; omega)
    simp only [List.flatMap_cons, List.flatMap_nil, List.append_nil]
    rw [← h2, h3, List.take_append_drop]
theorem table_of_trod {W : World} {sp : Nat → Bool} {fuel T n : Nat} {c : List Value} {q : List MemPlace} (l : List Rule) (hn : l.length = n) (hr : ∀ r ∈ l, 45 ≤ r.pick ∧ r.pick ≤ 53)
    (ht : Tryd.prog.underlying T = some (.array n 38)) (hc : Tryd.prog.cellsOf T = n * 5)
    (h : DataW.trod (funcToken Tryd.prog) Tryd.prog W 0 sp true fuel T c = some (.agg (l.map rd), q)) : c = l.flatMap fun r => (rc r).toList := by
  obtain ⟨xs, m, rfl, hx, hl, hlen, hel⟩ := DataW.trod_array ht h
  rw [hc] at hl
  have hx1 : l.map rd = xs.map (·.1) := by
    have := congrArg Prod.fst hx
    simpa using this
  have hch := chunks (fun i => (rc (l.getD i noRule)).toList) n c hl (fun i hi => by
    have e := hel i hi
    rw [cells38] at e
    have hi' : i < l.length := by omega
    have hxi : i < xs.length := by omega
    rw [List.getElem?_eq_getElem hxi] at e
    have hd : rd l[i] = xs[i].1 := by
      have := congrArg (fun z => z[i]?) hx1
      simpa [hi', hxi] using this
    have hm := hr l[i] (List.getElem_mem _)
    have := rule_of_trod (q := xs[i].2) l[i] hm.1 hm.2 (by rw [hd]; exact e)
    rw [this]
    simp [hi'])
  rw [hch]
  subst hn
  have e : (List.range l.length).map (fun i => l.getD i noRule) = l := by
    apply List.ext_getElem
    · simp
    · intro i h1 h2
      simp at h1 ⊢
      simp [h1]
  have e2 : ((List.range l.length).map (fun i => l.getD i noRule)).flatMap (fun r => (rc r).toList) = (List.range l.length).flatMap fun i => (rc (l.getD i noRule)).toList := List.flatMap_map ..
  rw [← e2, e]
/-- What the condition on the listed variables gives the walks. -/
theorem tab_of_laid {W : World} (h : laidMetH Tryd.prog laid2 W) : Tab W := by
  have hr : ∀ r ∈ tbl1 ++ tbl2, 45 ≤ r.pick ∧ r.pick ≤ 53 := fun r hr => ⟨(rule_pick r hr).1, (rule_pick r hr).2.1⟩
  have row : ∀ {name : String} {cs : Array Value} {g0 : Nat}, Tryd.prog.globalNamed name = some g0 → W.var? Tryd.prog name = some cs → ∃ t fr, W.heap[g0]? = some (.cells cs t fr) := by
    intro name cs g0 hg hv
    unfold World.var? at hv
    rw [hg] at hv
    simp only [Option.bind_some] at hv
    split at hv
    · rename_i c t fr e
      cases hv
      exact ⟨t, fr, e⟩
    · cases hv
  have m1 : ("cosmac/decode.rules", Rows.laid_cosmac_decode_rules) ∈ laid2 := by simp [laid2]
  have m2 : ("cosmac/decode.later", Rows.laid_cosmac_decode_later) ∈ laid2 := by simp [laid2]
  rw [rules_read] at m1
  rw [later_read] at m2
  obtain ⟨g, t, cs, fuel, p, hg, ht, hv, hd⟩ := h.funcs m1
  obtain rfl := Option.some.inj (gRules.symm.trans hg)
  obtain rfl := Option.some.inj (tRules.symm.trans ht)
  obtain ⟨g', t', cs', fuel', p', hg', ht', hv', hd'⟩ := h.funcs m2
  obtain rfl := Option.some.inj (gLater.symm.trans hg')
  obtain rfl := Option.some.inj (tLater.symm.trans ht')
  rw [rules_out] at hd
  rw [later_out] at hd'
  have e1 := table_of_trod tbl1 rfl (fun r k => hr r (List.mem_append_left _ k)) Tryd.underlying52 cells52 hd
  have e2 := table_of_trod tbl2 rfl (fun r k => hr r (List.mem_append_right _ k)) Tryd.underlying53 cells53 hd'
  obtain ⟨t0, f0, r0⟩ := row hg hv
  obtain ⟨t1, f1, r1⟩ := row hg' hv'
  have c1 : cs = T1 := by rw [← Array.toArray_toList (xs := cs), e1]; rfl
  have c2 : cs' = T2 := by rw [← Array.toArray_toList (xs := cs'), e2]; rfl
  subst c1 c2
  exact ⟨(Array.getElem?_eq_some_iff.1 r1).1, (t0, f0), (t1, f1), r0, r1⟩
theorem own : ownKnob Tryd.prog.godebug = none := by kernel_rfl
theorem laidOut : laidOutB Tryd.prog = true := by kernel_rfl
/-- The door's own heap meets the condition. -/
theorem door_met (os : Os) (args : Array Value) : laidMetH Tryd.prog laid2 ((World.doorLaid Tryd.prog 70 os).forCall (fun _ _ => 0) ⟨#[], args, []⟩).memory :=
  laidMetH_of_parts3 (fuel := 8) (laidMet_of_run' 8 (by kernel_rfl) (by kernel_rfl)) (by kernel_rfl) (by kernel_rfl)
theorem byte_of {x : Int} (h : (Lit.int .u8 x).wf = true) : ∃ n : Nat, x = n ∧ n < 256 := by
  have := bounds_u8 h
  exact ⟨x.toNat, by omega, by omega⟩
theorem cells22 : Tryd.prog.cellsOf 22 = 4 := by kernel_rfl
theorem cells5 : Tryd.prog.cellsOf 5 = 1 := by kernel_rfl
/-- Four bytes by value, opened. -/
theorem open_arr4 {H : Type} {enc : TypeId × Value → H} {W : World} {base : Nat} {sp : Nat → Bool} {held : Bool} {v : Value} {x : DataW H} {p : List MemPlace} (h : DataW.Trod enc Tryd.prog W base sp held 22 v x p) :
    ∃ a b c d : Nat, a < 256 ∧ b < 256 ∧ c < 256 ∧ d < 256 ∧ v = .agg #[.int .u8 a, .int .u8 b, .int .u8 c, .int .u8 d] := by
  obtain ⟨fuel, h⟩ := h
  obtain ⟨xs, m, rfl, hx, hl, hlen, hel⟩ := DataW.trod_array Tryd.underlying22 h
  rw [cells22] at hl
  have el : ∀ i, i < 4 → ∃ n : Nat, n < 256 ∧ (v.cells.toList.drop i).take 1 = [.int .u8 n] := by
    intro i hi
    have e := hel i hi
    rw [cells5, Nat.mul_one, List.getElem?_eq_getElem (by omega)] at e
    obtain ⟨n, hn, -, hw⟩ := DataW.trod_int Tryd.underlying5 e
    obtain ⟨k, rfl, hk⟩ := byte_of hw
    exact ⟨k, hk, hn⟩
  obtain ⟨a, ha, ea⟩ := el 0 (by omega)
  obtain ⟨b, hb, eb⟩ := el 1 (by omega)
  obtain ⟨c, hc, ec⟩ := el 2 (by omega)
  obtain ⟨d, hd, ed⟩ := el 3 (by omega)
  refine ⟨a, b, c, d, ha, hb, hc, hd, ?_⟩
  have key : v.cells = #[.int .u8 a, .int .u8 b, .int .u8 c, .int .u8 d] := by
    rw [← Array.toArray_toList (xs := v.cells)]
    generalize v.cells.toList = l at *
    match l, hl with
    | [x0, x1, x2, x3], _ =>
      simp at ea eb ec ed
      subst ea eb ec ed
      rfl
  cases v <;> simp [Value.cells] at key
  rw [key]
end Go.Proofs.YtepkaagbjfnpbaaDoor
