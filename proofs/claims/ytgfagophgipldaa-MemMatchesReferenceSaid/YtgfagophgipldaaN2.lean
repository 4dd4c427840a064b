import Derived.Test.YtgfagophgipldaaN0
namespace Go.Proofs.Ytgfagophgipldaa
open Go.RowKit
theorem run_app_none {w : World} {base c n : Nat} {v : Value} {xs : List Value} (hown : w.ownsRow base 5 1 v n xs) (ty : TypeId) :
    (Builtin.append_ #[24, 24] ty #[v, .slice none 0 c]).run Try.prog w = .ok v w := by
  obtain ⟨i, hi, hz0, hz1, hz2⟩ := info_parts Try.info5
  rcases hown.2 with ⟨rfl, rfl⟩ | ⟨g, cap, cur, rfl, _, _, hnc, _⟩
  · simp [Builtin.append_, run_underlying Try.underlying24, sizeOf, typeInfo, hi, Builtin.lenOf, Builtin.firstCells]
  · simp [Builtin.append_, run_underlying Try.underlying24, sizeOf, typeInfo, hi, Builtin.lenOf, Builtin.firstCells, hnc, storeCells]
/-- append(own, b...) of a slice that reads b. -/
theorem run_app_rd {w : World} {base : Nat} {v vb : Value} {L b : List Int} (hown : Own base w v L) (hb : Rd w vb b) (hl : L.length + b.length ≤ 1000000) (hB : base ≤ w.heap.size) (ty : TypeId) :
    ∃ v' w', (Builtin.append_ #[24, 24] ty #[v, vb]).run Try.prog w = .ok v' w' ∧ Own base w' v' (L ++ b) ∧ w.grownBy w' v.ownBlock ∧ (v'.ownBlock = v.ownBlock ∨ v'.ownBlock = some w.heap.size) := by
  obtain ⟨i, hi, hz0, hz1, hz2⟩ := info_parts Try.info5
  have hz : (Value.int .u8 0).cells.size = 1 := rfl
  unfold Own at hown ⊢
  obtain ⟨ao, cap, rfl, hA⟩ := rd_view hb
  by_cases h0 : b = []
  · subst h0
    cases ao with
    | none => exact ⟨v, w, run_app_none hown ty, by simpa using hown, World.grownBy.refl _ _, .inl rfl⟩
    | some ad =>
      obtain ⟨v', w', h1, h2, h3, -, h4⟩ := run_append_own_at (P := Try.prog) w base 24 ty 5 i (.int .u8 0) 1 1 Try.underlying24 hi hz0 hz1 hz2 hz (by decide) v L.length (bs L) hown ad 0 cap [] rfl (by intro j u hu; simp at hu) (by intro u hu; cases hu) (by unfold maxLen; have : ([] : List Int).length = 0 := rfl; omega) (by have : ([] : List Int).length = 0 := rfl; omega) hB
      exact ⟨v', w', h1, by simpa using h2, h3, h4⟩
  · obtain ⟨g, off, rfl, hg, hc⟩ := hA h0
    obtain ⟨v', w', h1, h2, h3, -, h4⟩ := run_append_own_at (P := Try.prog) w base 24 ty 5 i (.int .u8 0) 1 1 Try.underlying24 hi hz0 hz1 hz2 hz (by decide) v L.length (bs L) hown ⟨g, off, none⟩ b.length cap (bs b) (by rw [bs_length, Nat.mul_one]) (news_rd hc) (one_bs _) (by unfold maxLen; omega) (by omega) hB
    refine ⟨v', w', h1, ?_, h3, h4⟩
    rw [List.length_append]
    rw [show bs (L ++ b) = bs L ++ bs b from List.map_append ..]
    exact h2
theorem wpList_app_rd {w : World} {ops : Array Oper} {rest : List Oper} {o : Oper} {a : Act} {Q : Exit → Act → World → Prop} (hgd : o.guard = none) (s x : Operand)
    (ho : o.op = .call { callee := .builtin .append, args := #[s, x], argTypes := #[24, 24] }) {base : Nat} {v vb : Value} {L b : List Int} (hs : a.eval s = v) (hx : a.eval x = vb)
    (hown : Own base w v L) (hb : Rd w vb b) (hl : L.length + b.length ≤ 1000000) (hB : base ≤ w.heap.size)
    (h : ∀ v' w', Own base w' v' (L ++ b) → w.grownBy w' v.ownBlock → (v'.ownBlock = v.ownBlock ∨ v'.ownBlock = some w.heap.size) → wpList Try.prog ops Q rest (a.put o.dst v') w') : wpList Try.prog ops Q (o :: rest) a w := by
  refine wpList_plain hgd fun K hK => ?_
  obtain ⟨v', w', hr, h2, h3, h4⟩ := run_app_rd hown hb hl hB o.type
  unfold Oper.wp execOp
  simp only [ho, resolve, invoke, builtin, Sem.run_bind, Sem.run_pure, Result.andThen_ok, List.map_toArray, List.map_cons, List.map_nil, hs, hx, hr]
  exact hK _ _ (h v' w' h2 h3 h4)
/-! Writes one behind the other. -/
theorem put_app (M b c : List Int) (a : Int) : ∀ k, k ≤ b.length → put M a (b ++ c) k = put M a b k
  | 0, _ => rfl
  | k + 1, h => by
    unfold put
    rw [put_app M b c a k (by omega)]
    congr 1
    rw [List.getD_eq_getElem?_getD, List.getD_eq_getElem?_getD, List.getElem?_append_left (by omega)]
theorem put_app2 (M b c : List Int) (a : Int) : ∀ k, k ≤ c.length → put M a (b ++ c) (b.length + k) = put (mput M a b) (a + b.length) c k
  | 0, _ => put_app M b c a b.length (Nat.le_refl _)
  | k + 1, h => by
    rw [← Nat.add_assoc]
    unfold put
    rw [put_app2 M b c a k (by omega)]
    congr 1
    · congr 2; omega
    · rw [List.getD_eq_getElem?_getD, List.getD_eq_getElem?_getD, List.getElem?_append_right (by omega), Nat.add_sub_cancel_left]
theorem mput_app (M b c : List Int) (a : Int) : mput M a (b ++ c) = mput (mput M a b) (a + b.length) c := by
  have := put_app2 M b c a c.length (Nat.le_refl _)
  unfold mput at this ⊢
  rw [List.length_append]
  exact this
theorem mput_over (M b c : List Int) (a : Int) (hM : M.length = 65536) (hb : b.length ≤ 65536) (hc : c.length ≤ b.length) : mput (mput M a c) a b = mput M a b := by
  apply List.ext_getElem?
  intro j
  by_cases hj : j < 65536
  · rw [mput_get _ b a (by rw [mput_length, hM]) hb j hj, mput_get M b a hM hb j hj]
    split
    · rfl
    · rename_i h
      rw [mput_get M c a hM (by omega) j hj, if_neg (by omega)]
  · rw [List.getElem?_eq_none (by rw [mput_length, mput_length, hM]; omega), List.getElem?_eq_none (by rw [mput_length, hM]; omega)]
end Go.Proofs.Ytgfagophgipldaa
