import Derived.Test.YtgfagophgipldaaM4
namespace Go.Proofs.Ytgfagophgipldaa
open Go.RowKit
theorem wpList_build_is {P : Program} {ops : Array Oper} {rest : List Oper} {o : Oper} {a : Act} {w : World} {Q : Exit → Act → World → Prop} (hg : o.guard = none) (t : TypeId) (parts : Array (Nat × Operand)) (ho : o.op = .build t parts)
    (ps : List (Nat × Value)) (hp : (parts.map fun (i, x) => (i, a.eval x)).toList = ps) (cells : Array Value) (hc : P.built t ps = some cells) (h : wpList P ops Q rest (a.put o.dst (.agg cells)) w) : wpList P ops Q (o :: rest) a w :=
  wpList_build hg t parts ho (by rw [hp, hc]; rfl) (by rw [hp, hc]; exact h)
theorem MemL.range {w : World} {B g : Nat} {s : Value} {M : List Int} {log : List (Int × Int)} (h : MemL w B g s M log) : w.rangeAt g 1 (bs M) := fun j v hv => by
  rw [cell_of_row w g (1 + j) _ 75 _ h.mem.1, List.getElem?_toArray, Nat.add_comm, List.getElem?_cons_succ]
  exact hv
set_option maxHeartbeats 1000000 in
theorem clone_any (B g : Nat) (s : Value) (M : List Int) (log : List (Int × Int)) (w : World) (h : MemL w B g s M log) :
    Calls Try.prog 32 #[.pointer (some ⟨g, 0, none⟩)] w fun e w' => e = .returned (.pointer (some ⟨w.heap.size, 0, none⟩)) ∧ MemL w' w.heap.size w.heap.size (.slice none 0 0) M [] ∧ Below w.heap.size w w' := by
  have hM := h.mem.2
  have hsz : (Try.prog.info? 73).map (·.size) = some (bs M).length := by rw [bs_length, hM]; kernel_rfl
  have HS := hid hsz
  have HL := hid h
  have HB := hid (built75 M hM)
  clear h hM hsz
  go_enter Try.func32, Try.ntmps32
  go_wp2_with (first
    | ((with_reducible show wpList _ _ _ _ _ _); (refine wpList_load_mid rfl 73 (.tmp 7) rfl g 1 (by rfl) (bs M) _ HL.out.range Try.underlying73 rfl HS.out ?_))
    | ((with_reducible show wpList _ _ _ _ _ _); (refine wpList_build_is rfl 75 _ rfl [(1, .agg (bs M).toArray)] (by simp [Act.eval]; rfl) (.slice none 0 0 :: bs M).toArray HB.out ?_)))
  go_ret
  refine ⟨rfl, ⟨⟨heap_alloc_new w _, HL.out.mem.2⟩, Nat.le_refl _, World.ownsRow_nil _ _ _ _⟩, (Below.refl _ _).alloc (Nat.le_refl _) _⟩
set_option maxHeartbeats 1000000 in
theorem drain_any (B g : Nat) (s : Value) (M : List Int) (log : List (Int × Int)) (w : World) (h : MemL w B g s M log) :
    Calls Try.prog 41 #[.pointer (some ⟨g, 0, none⟩)] w fun e w' => e = .returned s ∧ MemL w' B g (.slice none 0 0) M [] ∧ w'.ownsRow B 49 2 s log.length (rs log) ∧ Wrote w w' g s (.slice none 0 0) := by
  have hc := h.mem.head
  have hf := h.mem.thaw 0
  have HH := hid h
  clear h
  go_enter Try.func41, Try.ntmps41
  go_wp2_with fail
  go_ret
  refine ⟨rfl, ⟨HH.out.mem.setHead _, HH.out.low, World.ownsRow_nil _ _ _ _⟩, HH.out.own.kept (World.grownBy_setCell _ _ _ _) (.inr HH.out.apart), ?_⟩
  exact ⟨rfl, rfl, rfl, by simp [World.setCell], fun k _ hk _ => heap_setCell_other w ⟨g, 0, none⟩ k _ hk, .inr (fun k hk => by simp [Value.ownBlock] at hk)⟩
set_option maxHeartbeats 1000000 in
theorem dirty_any (B g : Nat) (s : Value) (M : List Int) (log : List (Int × Int)) (w : World) (h : MemL w B g s M log) :
    Calls Try.prog 27 #[.pointer (some ⟨g, 0, none⟩)] w fun e w' => e = .returned s ∧ MemL w' B g (.slice none 0 0) M [] ∧ w'.ownsRow B 49 2 s log.length (rs log) ∧ Wrote w w' g s (.slice none 0 0) := by
  have HH := hid h
  clear h
  go_enter Try.func27, Try.ntmps27
  go_wp2_with fail
  refine (drain_any B g s M log w HH.out).mono ?_
  rintro e w' ⟨rfl, h1, h2, h3⟩
  have H := hid (And.intro h1 (And.intro h2 h3))
  clear h1 h2 h3
  go_wp2_with fail
  go_ret
  exact ⟨rfl, H.out⟩
end Go.Proofs.Ytgfagophgipldaa
