import Derived.WalkKit
import Derived.WalkSpells
import Derived.WalkLawsBesides
import Derived.Handy
import Derived.MapKept
namespace Go.Proofs.YtepkaagbjfnpbaaDoor
open Go.RowKit Go.MapKept
section
variable {P : Program}

theorem hid {p : Prop} (h : p) : Hid p := h

theorem ret_int {k : IntKind} {a b : Int} (h : a = b) : Ending.returned (.int k a) = .returned (.int k b) := by rw [h]

theorem bits_or_i64 (a b : Nat) (ha : a < 2 ^ 62) (hb : b < 2 ^ 62) : bits .or .i64 (a : Int) (b : Int) = ((a ||| b : Nat) : Int) :=
  (bits_nat .i64 62 (by decide) (fun n h0 h1 => by rw [IntKind.wrap_i64]; omega) a b ha hb).2
theorem bits_and_i64 (a b : Nat) (ha : a < 2 ^ 62) (hb : b < 2 ^ 62) : bits .and .i64 (a : Int) (b : Int) = ((a &&& b : Nat) : Int) :=
  (bits_nat .i64 62 (by decide) (fun n h0 h1 => by rw [IntKind.wrap_i64]; omega) a b ha hb).1

theorem set_last (w : World) (o o' : Obj) : ({ w.alloc o with heap := (w.alloc o).heap.setIfInBounds w.heap.size o' } : World) = w.alloc o' := by
  have e : (w.heap.push o).setIfInBounds w.heap.size o' = w.heap.push o' := by
    apply Array.ext_getElem?
    intro i
    by_cases h : i = w.heap.size
    · subst h; simp
    · rw [Array.getElem?_setIfInBounds_ne (Ne.symm h), Array.getElem?_push, Array.getElem?_push, if_neg h, if_neg h]
  show ({ w with heap := (w.heap.push o).setIfInBounds w.heap.size o' } : World) = _
  rw [e]
  rfl

/-- A NEW KEY IS PUT INTO A MAP THAT LIES LAST IN MEMORY. -/
theorem run_insert_last (T K E : TypeId) (ht : P.underlying T = some (.map K E)) (hk : P.underlying K = some (.int .i64)) (w : World) (es : Array MapEntry) (clock : Nat) (n : Int) (v : Value)
    (hn : Instr.findNow (.int .i64) (.int .i64 n) es.toList 0 = some none) :
    (Instr.mapUpdate T (.map (some w.heap.size)) (.int .i64 n) v).run P (w.alloc (.map es clock)) = .ok () (w.alloc (.map (es.push { key := .int .i64 n, val := v, born := clock }) (clock + 1))) := by
  have h : (w.alloc (.map es clock)).heap[w.heap.size]? = some (.map es clock) := heap_alloc_new w _
  have hs := run_setObj_map (P := P) (.map (es.push { key := .int .i64 n, val := v, born := clock }) (clock + 1)) h
  rw [set_last] at hs
  unfold Instr.mapUpdate
  simp only [Sem.run_bind, run_underlying ht, Result.andThen, MapKept.run_getObj_map h, run_checkKey hk (show IsKey (.int .i64) (.int .i64 n) by simp [IsKey]) false 9999, run_findKey hk hn, hs]

/-- A look-up in a map of whole numbers, with 'ok'. -/
theorem run_look (T K E : TypeId) (ht : P.underlying T = some (.map K E)) (hk : P.underlying K = some (.int .i64)) (w : World) (b : Nat) (es : Array MapEntry) (clock : Nat) (n : Int) (v : Value) (i : Nat)
    (hb : w.heap[b]? = some (.map es clock)) (hn : Instr.findNow (.int .i64) (.int .i64 n) es.toList 0 = some (some (i, v))) :
    (Instr.lookup T (.map (some b)) (.int .i64 n) true).run P w = .ok (.tuple #[v, .bool true]) w := by
  unfold Instr.lookup
  simp only [Sem.run_bind, run_underlying ht, Result.andThen, MapKept.run_getObj_map hb, Sem.run_pure, run_checkKey hk (show IsKey (.int .i64) (.int .i64 n) by simp [IsKey]) _ 9999, run_findKey hk hn, if_true]
theorem run_look_none (T K E : TypeId) (ht : P.underlying T = some (.map K E)) (hk : P.underlying K = some (.int .i64)) (w : World) (b : Nat) (es : Array MapEntry) (clock : Nat) (n : Int) (z : Value)
    (hz : (zeroValue E).run P w = .ok z w)
    (hb : w.heap[b]? = some (.map es clock)) (hn : Instr.findNow (.int .i64) (.int .i64 n) es.toList 0 = some none) :
    (Instr.lookup T (.map (some b)) (.int .i64 n) true).run P w = .ok (.tuple #[z, .bool false]) w := by
  unfold Instr.lookup
  simp only [Sem.run_bind, run_underlying ht, Result.andThen, MapKept.run_getObj_map hb, Sem.run_pure, run_checkKey hk (show IsKey (.int .i64) (.int .i64 n) by simp [IsKey]) _ 9999, run_findKey hk hn, hz, if_true]

/-- What a block of the call's own, laid first, holds in a later world that has left it alone. -/
theorem own_new {w wr : World} {R : Array Value} {T : TypeId} (h : Below (w.heap.size + 1) (w.alloc (.cells R T)) wr) :
    (∀ j, wr.cell? ⟨w.heap.size, j, none⟩ = R[j]?) ∧ (∀ j, wr.frozen? ⟨w.heap.size, j, none⟩ = false) ∧ w.heap.size < wr.heap.size := by
  have hb : wr.heap[w.heap.size]? = some (.cells R T (0, 0)) := (h.block _ (by omega)).trans (heap_alloc_new w _)
  exact ⟨fun j => by simp [World.cell?, hb], fun j => by simp [World.frozen?, hb], by have := h.size; simp at this; omega⟩
theorem below_own {w wr : World} {o : Obj} (h : Below (w.heap.size + 1) (w.alloc o) wr) : Below w.heap.size w wr :=
  ((Below.refl _ _).alloc (Nat.le_refl _) _).trans (h.mono (by omega))
/-- A struct or an array is loaded from wherever its cells lie. -/
theorem run_loadVar_at (w : World) (a : Addr) (ty : TypeId) (cs : List Value) (d : TypeDesc) (hu : P.underlying ty = some d) (hd : (match d with | .struct _ | .array _ _ => true | _ => false) = true)
    (hi : (P.info? ty).map (·.size) = some cs.length) (h : ∀ j v, cs[j]? = some v → w.cell? (a.add j) = some v) : (loadVar ty a).run P w = .ok (.agg cs.toArray) w := by
  have hl := run_loadCells_list (P := P) w a cs h
  cases hq : P.info? ty with
  | none => simp [hq] at hi
  | some i =>
    have hs : i.size = cs.length := by simpa [hq] using hi
    have hagg : (isAgg ty).run P w = .ok true w := by
      unfold isAgg
      rw [Sem.run_bind, run_underlying hu w]
      cases d <;> simp_all
    simp [loadVar, Sem.run_bind, hagg, sizeOf, typeInfo, hq, hs, hl]
theorem results_agg {fn : Func} {p : Tmp} {ty : TypeId} (h : fn.results = #[.cell p ty]) (tmps : Array Value) (w : World) (a : Addr) (cs : Array Value)
    (hp : tmps.getD p undef = .pointer (some a)) (hl : (loadVar ty a).run P w = .ok (.agg cs) w) : (results fn tmps).run P w = .ok (.agg cs) w := by
  have hp' : tmps[p]?.getD undef = .pointer (some a) := by simpa using hp
  simp [results, h, hp', asAddr, hl]
theorem results_agg_tmp {fn : Func} {p u : Tmp} {ty : TypeId} (h : fn.results = #[.cell p ty, .tmp u]) (tmps : Array Value) (w : World) (a : Addr) (cs : Array Value)
    (hp : tmps.getD p undef = .pointer (some a)) (hl : (loadVar ty a).run P w = .ok (.agg cs) w) : (results fn tmps).run P w = .ok (.tuple #[.agg cs, tmps.getD u undef]) w := by
  rw [results_cell_tmp h, hp]
  simp [asAddr, hl]
end
end Go.Proofs.YtepkaagbjfnpbaaDoor
