import Derived.Test.YtgfagophgipldaaM7
namespace Go.Proofs.Ytgfagophgipldaa
open Go.RowKit
theorem put_get (M b : List Int) (a : Int) (hM : M.length = 65536) : ∀ k : Nat, k ≤ b.length → k ≤ 65536 → ∀ j : Nat, j < 65536 → (put M a b k)[j]? = if ((j : Int) - a) % 65536 < k then b[(((j : Int) - a) % 65536).toNat]? else M[j]?
  | 0, _, _, j, _ => by rw [if_neg (by omega)]; rfl
  | k + 1, h1, h2, j, hj => by
    unfold put
    rw [List.getElem?_set, put_length, hM, put_get M b a hM k (by omega) (by omega) j hj]
    by_cases e : ((a + (k : Int)) % 65536).toNat = j
    · have e1 : ((j : Int) - a) % 65536 = k := by omega
      rw [if_pos e, if_pos (by omega), if_pos (by omega), e1, Int.toNat_natCast, List.getD_eq_getElem?_getD, List.getElem?_eq_getElem (by omega)]
      rfl
    · have e1 : ¬ ((j : Int) - a) % 65536 = k := by omega
      rw [if_neg e]
      by_cases e2 : ((j : Int) - a) % 65536 < k
      · rw [if_pos e2, if_pos (by omega)]
      · rw [if_neg e2, if_neg (by omega)]
theorem mput_get (M b : List Int) (a : Int) (hM : M.length = 65536) (hb : b.length ≤ 65536) (j : Nat) (hj : j < 65536) : (mput M a b)[j]? = if ((j : Int) - a) % 65536 < b.length then b[(((j : Int) - a) % 65536).toNat]? else M[j]? :=
  put_get M b a hM _ (Nat.le_refl _) hb j hj
def A0 : List Int := mput (mput (minit [1, 2]) 65535 [7, 8, 9]) 5 []
theorem a0_0 : mget A0 0 = 8 := by kernel_rfl
theorem a0_513 : mget A0 513 = 2 := by kernel_rfl
theorem a0_80 : mget A0 80 = 240 := by kernel_rfl
theorem zs_80 : mget Zs 80 = 0 := by kernel_rfl
theorem MemL.below {w w' : World} {B g : Nat} {s : Value} {M : List Int} {log : List (Int × Int)} (h : MemL w B g s M log) (hb : Below w.heap.size w w') : MemL w' B g s M log :=
  ⟨h.mem.below hb, h.low, h.own.kept (row := none) ⟨hb.os, hb.tape, hb.output, hb.size, fun k hk _ => hb.block k hk⟩ (by cases s.ownBlock <;> simp)⟩
theorem MemL.base {w : World} {B B' g : Nat} {s : Value} {M : List Int} {log : List (Int × Int)} (h : MemL w B g s M log) (hB : B' ≤ B) : MemL w B' g s M log :=
  ⟨h.mem, Nat.le_trans hB h.low, h.own.1, h.own.2.imp id fun ⟨k, c, x, h1, h2, h3⟩ => ⟨k, c, x, h1, Nat.le_trans hB h2, h3⟩⟩
theorem MemL.drewN {w : World} {B g : Nat} {s : Value} {M : List Int} {log : List (Int × Int)} (h : MemL w B g s M log) (q : Nat) : MemL (w.drewN q) B g s M log := ⟨h.mem, h.low, h.own⟩
theorem below_grown0 {w w' : World} (h : w.grownBy w' none) : Below w.heap.size w w' := ⟨h.os, h.tape, h.output, h.size, fun k hk => h.block k hk (by simp)⟩
/-- A second memory behind a write to another one. -/
theorem MemL.wrote {w w' : World} {B g B2 g2 : Nat} {s s' s2 : Value} {M M2 : List Int} {log log2 : List (Int × Int)} (h : MemL w B g s M log) (h2 : MemL w B2 g2 s2 M2 log2) (r : Wrote w w' g2 s2 s') (hg : g ≠ g2) (hss : s.ownBlock = none ∨ s.ownBlock ≠ s2.ownBlock) : MemL w' B g s M log := by
  have hs : s2.ownBlock ≠ some g := own_ne h2.own h.mem.1 (by decide)
  have hs2 : s.ownBlock ≠ some g2 := own_ne h.own h2.mem.1 (by decide)
  refine ⟨h.mem.of (r.block g h.mem.lt hg hs), h.low, h.own.1, h.own.2.imp id fun ⟨k, c, x, h1, h2, h3⟩ => ⟨k, c, x, h1, h2, ?_, h3.2⟩⟩
  subst h1
  simp only [Value.ownBlock, ne_eq, Option.some.injEq] at hs2 hss
  rw [r.block k (Array.getElem?_eq_some_iff.1 h3.1).1 hs2 (fun e => by rcases hss with hss | hss; · cases hss
                                                                       · exact hss e.symm)]
  exact h3.1
theorem read_bel (a : Int) (g : Nat) (s : Value) (M : List Int) (w : World) (h : Mem w g s M) :
    Calls Try.prog 23 #[.pointer (some ⟨g, 0, none⟩), .int .i64 a] w fun e w' => e = .returned (.int .u8 (mget M a)) ∧ Below w.heap.size w w' :=
  (read_any a g s M w h).mono fun _ _ ⟨h1, q, h2⟩ => ⟨h1, by rw [h2]; exact below_drewN (Below.refl _ _) q⟩
theorem read_nil (a : Int) (w : World) : Calls Try.prog 23 #[.pointer none, .int .i64 a] w fun e w' => e = .returned (.int .u8 0) ∧ w = w' := by
  go_enter Try.func23, Try.ntmps23
  go_wp2_with fail
  go_ret
  exact ⟨rfl, rfl⟩
theorem clone_nil (w : World) : Calls Try.prog 32 #[.pointer none] w fun e w' => e = .returned (.pointer none) ∧ w = w' := by
  go_enter Try.func32, Try.ntmps32
  go_wp2_with fail
  go_ret
  exact ⟨rfl, rfl⟩
set_option maxHeartbeats 2000000 in
theorem memAwake_any (w : World) : Calls Try.prog 21 #[] w fun e w' => e = .returned (.bool true) ∧ Below w.heap.size w w' := by
  obtain ⟨i0, hi, hz0, hz1, hz2⟩ := info_parts Try.info5
  have hz := zero75
  have hZ1 : ∀ w : World, MemL (w.alloc (.cells (.slice none 0 0 :: bs Zs).toArray 75)) w.heap.size w.heap.size (.slice none 0 0) Zs [] := fun w => ⟨⟨heap_alloc_new _ _, zs_len⟩, Nat.le_refl _, World.ownsRow_nil _ _ _ _⟩
  have HZ := hid hZ1
  clear hZ1
  obtain ⟨Z, hZ⟩ : ∃ Z : Array Value, Z = (.slice none 0 0 :: bs Zs).toArray := ⟨_, rfl⟩
  rw [← hZ] at hz HZ
  clear hZ
  go_enter Try.func21, Try.ntmps21
  go_wp2_with fail
  refine (new_any [1, 2] _ _ (rd_lit _ [1, 2] 5 2) (by decide)).mono ?_
  rintro e1 w1 ⟨g1, rfl, m1, b1⟩
  have Q1 := hid (((Below.refl w.heap.size w).alloc (Nat.le_refl _) _).trans (b1.mono (by simp)))
  have M1 := hid m1
  clear m1 b1
  have Z2 := hid (HZ.out w1)
  have GN := hid (show w1.heap.size ≠ g1 by have := M1.out.mem.lt; omega)
  have M2 := hid (M1.out.below ((Below.refl _ _).alloc (Nat.le_refl _) (.cells Z 75)))
  have Q2 := hid (Q1.out.alloc Q1.out.size (.cells Z 75))
  clear M1 Q1
  go_wp2_with ((with_reducible show wpList _ _ _ _ _ _); (refine wpList_make_full _ rfl (.const (.int .i64 65025)) (.const (.int .i64 65025)) 24 rfl w.heap.size 5 i0 (.int .u8 0) 1 Try.underlying24 hi hz0 hz1 .i64 .i64 65025 65025 65025 rfl rfl rfl rfl (by rw [hz2]; decide) (by decide) Q2.out.size ?_); intro w3 hown hgr; clear hown; have G3 := hid (below_grown0 hgr); clear hgr)
  have Z3 := hid (Z2.out.below G3.out)
  have M3 := hid (M2.out.below G3.out)
  have Q3 := hid (Q2.out.trans (G3.out.mono Q2.out.size))
  clear M2 Q2 Z2 G3
  refine (new_long 65025 _ _ _ (by decide)).mono ?_
  rintro e2 w3' ⟨rfl, rfl⟩
  go_wp2_with ((with_reducible show wpList _ _ _ _ _ _); (refine wpList_make_full _ rfl (.const (.int .i64 65024)) (.const (.int .i64 65024)) 24 rfl w.heap.size 5 i0 (.int .u8 0) 1 Try.underlying24 hi hz0 hz1 .i64 .i64 65024 65024 65024 rfl rfl rfl rfl (by rw [hz2]; decide) (by decide) Q3.out.size ?_); intro w4 hown hgr; have G4 := hid (below_grown0 hgr); have O4 := hid (made_bs hown); clear hgr hown)
  have Z4 := hid (Z3.out.below G4.out)
  have M4 := hid (M3.out.below G4.out)
  have Q4 := hid (Q3.out.trans (G4.out.mono Q3.out.size))
  clear M3 Q3 Z3 G4
  refine (new_any (List.replicate 65024 0) _ _ (by have := rd_of_own O4.out; exact this) (by rw [List.length_replicate]; decide)).mono ?_
  rintro e5 w5 ⟨g5, rfl, m5, b5⟩
  have Z5 := hid (Z4.out.below b5)
  have M5 := hid (M4.out.below b5)
  have Q5 := hid (Q4.out.trans (b5.mono Q4.out.size))
  clear M4 Q4 Z4 b5 m5 O4
  go_wp2_with fail
  have al := hid ((Below.refl w5.heap.size w5).alloc (Nat.le_refl _) (.cells (bs [7, 8, 9]).toArray 5))
  have Z6 := hid (Z5.out.below al.out)
  have M6 := hid (M5.out.below al.out)
  have Q6 := hid (Q5.out.trans (al.out.mono Q5.out.size))
  have L6 := hid M5.out.mem.lt
  have D6 := hid Z5.out
  clear M5 Q5 Z5 al
  refine (write_any 65535 [7, 8, 9] _ _ g1 _ _ [] _ M6.out (rd_lit w5 [7, 8, 9] 5 3) (fun _ => by have := L6.out; simp [Value.ownBlock]; omega) (by decide) (by decide) (by decide) (by decide)).mono ?_
  rintro e7 w7 ⟨rfl, s7, m7, r7⟩
  have Z7 := hid (Z6.out.wrote M6.out r7 GN.out (.inl rfl))
  have Q7 := hid (Q6.out.trans (r7.below (M6.out.base (by simp))))
  have M7 := hid m7
  clear M6 Q6 Z6 r7 m7
  go_wp2_with fail
  refine (write_any 5 [] _ _ g1 _ _ _ _ M7.out (.inl ⟨⟨_, _, rfl⟩, rfl⟩) (fun h => absurd rfl h) (by decide) (by decide) (by decide) (by decide)).mono ?_
  rintro e8 w8 ⟨rfl, s8, m8, r8⟩
  have Z8 := hid (Z7.out.wrote M7.out r8 GN.out (.inl rfl))
  have Q8 := hid (Q7.out.trans (r8.below (M7.out.base (by simp))))
  have M8 := hid m8
  clear M7 Q7 Z7 r8 m8
  go_wp2_with fail
  refine (dirty_any _ g1 _ _ _ _ M8.out).mono ?_
  rintro e9 w9 ⟨rfl, m9, o9, r9⟩
  have Z9 := hid (Z8.out.wrote M8.out r9 GN.out (.inl rfl))
  have Q9 := hid (Q8.out.trans (r9.below (M8.out.base (by simp))))
  have M9 := hid m9
  have hlog : logn (logn [] (65535 % 65536) ([7, 8, 9] : List Int).length) (5 % 65536) ([] : List Int).length = [(65535, 3)] := rfl
  rw [hlog] at o9
  obtain ⟨gs, cap, rfl, -, -⟩ := o9.form (by decide)
  have c0 := o9.cellAt 0 (by decide)
  have c1 := o9.cellAt 1 (by decide)
  simp only [rs] at c0 c1
  have A := hid (show mput (mput (minit [1, 2]) 65535 [7, 8, 9]) 5 [] = A0 from rfl)
  rw [A.out] at M9
  clear M8 Q8 Z8 r9 m9 o9 hlog A
  go_wp2_with fail
  refine (read_bel 0 g1 _ A0 _ M9.out.mem).mono ?_
  rintro e10 w10 ⟨rfl, b10⟩
  rw [a0_0]
  have M10 := hid (M9.out.below b10)
  have Z10 := hid (Z9.out.below b10)
  have Q10 := hid (bel_t Q9.out b10)
  clear M9 Z9 Q9 b10
  go_wp2_with fail
  refine (read_bel 513 g1 _ A0 _ M10.out.mem).mono ?_
  rintro e11 w11 ⟨rfl, b11⟩
  rw [a0_513]
  have M11 := hid (M10.out.below b11)
  have Z11 := hid (Z10.out.below b11)
  have Q11 := hid (bel_t Q10.out b11)
  clear M10 Z10 Q10 b11
  go_wp2_with fail
  refine (read_bel 80 g1 _ A0 _ M11.out.mem).mono ?_
  rintro e12 w12 ⟨rfl, b12⟩
  rw [a0_80]
  have M12 := hid (M11.out.below b12)
  have Z12 := hid (Z11.out.below b12)
  have Q12 := hid (bel_t Q11.out b12)
  clear M11 Z11 Q11 b12
  go_wp2_with fail
  refine (dirty_any _ g1 _ _ _ _ M12.out).mono ?_
  rintro e13 w13 ⟨rfl, m13, o13, r13⟩
  have Z13 := hid (Z12.out.wrote M12.out r13 GN.out (.inl rfl))
  have Q13 := hid (Q12.out.trans (r13.below (M12.out.base (by simp))))
  clear M12 Z12 Q12 m13 o13 r13
  go_wp2_with fail
  refine (read_bel 80 _ _ Zs _ Z13.out.mem).mono ?_
  rintro e14 w14 ⟨rfl, b14⟩
  rw [zs_80]
  have Q14 := hid (bel_t Q13.out b14)
  clear Z13 Q13 b14
  go_wp2_with fail
  refine (read_nil 5 _).mono ?_
  rintro e15 w15 ⟨rfl, rfl⟩
  go_wp2_with fail
  refine (clone_nil _).mono ?_
  rintro e16 w16 ⟨rfl, rfl⟩
  go_wp2_with fail
  go_ret
  exact ⟨rfl, Q14.out⟩
end Go.Proofs.Ytgfagophgipldaa
