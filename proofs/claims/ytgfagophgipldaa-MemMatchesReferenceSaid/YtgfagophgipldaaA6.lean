import Derived.Test.YtgfagophgipldaaA5
namespace Go.Proofs.Ytgfagophgipldaa
open Go.RowKit
def smallAt (n : Int) : Int := if n < 0 then 0 else 80 + 5 * (n % 16)
def bigAt (n : Int) : Int := if n < 0 then 0 else 160 + 10 * (n % 16)
theorem smallAt_any (n : Int) (w : World) : Calls Try.prog 13 #[.int .i64 n] w fun e w' => e = .returned (.int .i64 (smallAt n)) ∧ w' = w := by
  by_cases h : n < 0
  · have e : smallAt n = 0 := if_pos h
    rw [e]
    go_enter Try.func13, Try.ntmps13
    go_wp2_with fail
    go_ret
    exact ⟨rfl, rfl⟩
  · have e : smallAt n = 80 + 5 * (n % 16) := if_neg h
    rw [e]
    have h0 : 0 ≤ n := by omega
    go_enter Try.func13, Try.ntmps13
    go_wp2_with fail
    go_ret
    exact ⟨rfl, rfl⟩
theorem bigAt_any (n : Int) (w : World) : Calls Try.prog 14 #[.int .i64 n] w fun e w' => e = .returned (.int .i64 (bigAt n)) ∧ w' = w := by
  by_cases h : n < 0
  · have e : bigAt n = 0 := if_pos h
    rw [e]
    go_enter Try.func14, Try.ntmps14
    go_wp2_with fail
    go_ret
    exact ⟨rfl, rfl⟩
  · have e : bigAt n = 160 + 10 * (n % 16) := if_neg h
    rw [e]
    have h0 : 0 ≤ n := by omega
    go_enter Try.func14, Try.ntmps14
    go_wp2_with fail
    go_ret
    exact ⟨rfl, rfl⟩
def glyphL (n : Int) (b : Bool) : List Int := if n < 0 then [] else if b then (BG.drop (10 * (n % 16).toNat)).take 10 else (SM.drop (5 * (n % 16).toNat)).take 5
theorem index_bytes {T E len sz : Nat} {C : Array Value} {G : List Int} (ht : Try.prog.underlying T = some (.array len E)) (hi : ∀ w, (isAgg E).run Try.prog w = .ok true w) (hs : ∀ w, (sizeOf E).run Try.prog w = .ok sz w)
    (k : Nat) (hk : k < len) (hx : C.extract (k * sz) (k * sz + sz) = (bs G).toArray) (w : World) :
    (Instr.index T (.agg C) (.int .i64 k)).run Try.prog w = .ok (.agg (bs G).toArray) w := by
  unfold Instr.index
  simp only [Sem.run_bind, asIntOf, Result.andThen, Sem.run_pure, run_underlying ht, part]
  rw [if_pos ⟨by omega, by omega⟩]
  simp only [Sem.run_bind, Result.andThen, hs, hi, if_true, Sem.run_pure, Int.toNat_natCast, hx]
theorem ext_bytes (L : List Int) (k sz : Nat) : (bs L).toArray.extract (k * sz) (k * sz + sz) = (bs ((L.drop (sz * k)).take sz)).toArray := by
  apply Array.ext'
  rw [Array.toList_extract]
  unfold bs
  rw [List.map_take, List.map_drop]
  simp [List.extract_eq_take_drop, Nat.mul_comm]
theorem hrow_alloc {w2 : World} {g : Nat} {cs : Array Value} {t : TypeId} {fr : Nat × Nat} (h : w2.heap[g]? = some (.cells cs t fr)) (o : Obj) : (w2.alloc o).heap[g]? = some (.cells cs t fr) :=
  (Below.heap_alloc _ _ _ (Array.getElem?_eq_some_iff.1 h).1).trans h
theorem own_empty (w : World) (B : Nat) (h : B ≤ w.heap.size) : (w.alloc (.cells #[] 5)).ownsRow B 5 1 (.slice (some ⟨w.heap.size, 0, none⟩) 0 0) 0 [] :=
  World.ownsRow_lit w #[] 0 h (by decide) rfl
set_option maxHeartbeats 1000000 in
theorem glyphS_any (n : Int) (w : World) (h0 : 0 ≤ n) : Calls Try.prog 15 #[.int .i64 n, .bool false] w fun e w' => ∃ v, e = .returned v ∧ Own w.heap.size w' v (glyphL n false) ∧ Below w.heap.size w w' := by
  obtain ⟨i0, hi, hz0, hz1, hz2⟩ := info_parts Try.info5
  have hz : ∀ w, (zeroValue 59).run Try.prog w = .ok (.agg (Array.replicate 5 (.int .u8 0))) w := zero_of (by kernel_rfl)
  obtain ⟨Z, hZ⟩ : ∃ Z : Array Value, Z = Array.replicate 5 (.int .u8 0) := ⟨_, rfl⟩
  rw [← hZ] at hz
  have hZs : Z.size = 5 := by rw [hZ]; rfl
  clear hZ
  obtain ⟨m, hm, hm16⟩ : ∃ m : Nat, n % 16 = m ∧ m < 16 := ⟨(n % 16).toNat, by omega, by omega⟩
  obtain ⟨G, hG⟩ : ∃ G, G = (SM.drop (5 * m)).take 5 := ⟨_, rfl⟩
  have hgl : glyphL n false = G := by
    unfold glyphL
    rw [if_neg (by omega), hm, hG]
    rfl
  have hGl : G.length = 5 := by
    have : SM.length = 5 * 16 := by kernel_rfl
    rw [hG, List.length_take, List.length_drop, this]; omega
  rw [hgl]
  have hix : ∀ w, (Instr.index 60 (.agg (bs SM).toArray) (.int .i64 m)).run Try.prog w = .ok (.agg (bs G).toArray) w := fun w =>
    index_bytes Try.underlying60 (fun w => by kernel_rfl) (fun w => by kernel_rfl) m hm16 (by rw [hG]; exact ext_bytes _ _ _) w
  obtain ⟨C, hC⟩ : ∃ C : Array Value, C = (bs SM).toArray := ⟨_, rfl⟩
  have hsm := hid small_any
  rw [← hC] at hsm hix
  have hsz : (Try.prog.info? 59).map (·.size) = some (bs G).toArray.size := by
    rw [List.size_toArray, bs_length, hGl]; kernel_rfl
  have HS := hid hsz
  have hall : (bs G).toArray.all (·.oneCell') = true := by
    rw [Array.all_eq_true_iff_forall_mem]; intro u hu; exact one_bs G u (by simpa using hu)
  have HA := hid hall
  have hzz : Z.size = (bs G).toArray.size := by rw [hZs, List.size_toArray, bs_length, hGl]
  have HZ := hid hzz
  clear hC hgl hG hsz hall hzz
  have HGl := hid hGl
  clear hGl hZs
  go_enter Try.func15, Try.ntmps15
  go_wp2_with (first
    | (with_reducible show Calls _ _ _ _ _; go_at_call 34; refine (hsm.out _).mono ?_; rintro e w1 ⟨rfl, hb1⟩)
    | ((with_reducible show wpList _ _ _ _ _ _); (refine wpList_store_row rfl 59 (.tmp 6) (.tmp 22) rfl w1.heap.size (bs G).toArray (by rfl) (by rfl) 59 Z (heap_alloc_new w1 _) HS.out HZ.out HA.out ?_); have hrow := setRow_heap (w1.alloc (Obj.cells Z 59)) w1.heap.size Z (bs G).toArray 59 (0, 0) (heap_alloc_new w1 _); have hbel := below_setRow (hb1.alloc hb1.size (Obj.cells Z 59)) hb1.size (bs G).toArray; generalize (w1.alloc (Obj.cells Z 59)).setRow w1.heap.size (bs G).toArray = w2 at *)
    | (at_builtin; refine wpList_append_lies _ rfl (.tmp 23) (.tmp 24) 24 rfl w.heap.size 5 i0 (.int .u8 0) 1 1 Try.underlying24 hi hz0 hz1 hz2 rfl (by decide) (.slice (some ⟨w2.heap.size, 0, none⟩) 0 0) 0 [] (by rfl) (by first | exact (own_empty w2 _ hbel.size).drew | exact (own_empty w2 _ hbel.size)) ⟨w1.heap.size, 0, none⟩ 5 5 (bs G) (by rfl) (by rw [bs_length, HGl.out]) (World.news_of_block (hrow_alloc hrow _)) (one_bs _) (by decide) (by decide) (by decide) (by have := hbel.size; simp; omega) (w2.heap.size + 1) (by simp) ?_; intro g cap w' hown hgr hg hlt))
  refine bodyPost_ret (results_tmp rfl _ _ _) rfl ⟨_, rfl, ?_, (hbel.alloc hbel.size (Obj.cells #[] 5)).grown hgr (by have := hbel.size; rw [World.size_alloc]; omega) (fun k hk => by simp [Value.ownBlock] at hk; subst hk; exact hbel.size)⟩
  unfold Own
  rw [HGl.out]
  exact hown
set_option maxHeartbeats 1000000 in
theorem glyphB_any (n : Int) (w : World) (h0 : 0 ≤ n) : Calls Try.prog 15 #[.int .i64 n, .bool true] w fun e w' => ∃ v, e = .returned v ∧ Own w.heap.size w' v (glyphL n true) ∧ Below w.heap.size w w' := by
  obtain ⟨i0, hi, hz0, hz1, hz2⟩ := info_parts Try.info5
  have hz : ∀ w, (zeroValue 56).run Try.prog w = .ok (.agg (Array.replicate 10 (.int .u8 0))) w := zero_of (by kernel_rfl)
  obtain ⟨Z, hZ⟩ : ∃ Z : Array Value, Z = Array.replicate 10 (.int .u8 0) := ⟨_, rfl⟩
  rw [← hZ] at hz
  have hZs : Z.size = 10 := by rw [hZ]; rfl
  clear hZ
  obtain ⟨m, hm, hm16⟩ : ∃ m : Nat, n % 16 = m ∧ m < 16 := ⟨(n % 16).toNat, by omega, by omega⟩
  obtain ⟨G, hG⟩ : ∃ G, G = (BG.drop (10 * m)).take 10 := ⟨_, rfl⟩
  have hgl : glyphL n true = G := by
    unfold glyphL
    rw [if_neg (by omega), hm, hG]
    rfl
  have hGl : G.length = 10 := by
    have : BG.length = 10 * 16 := by kernel_rfl
    rw [hG, List.length_take, List.length_drop, this]; omega
  rw [hgl]
  have hix : ∀ w, (Instr.index 57 (.agg (bs BG).toArray) (.int .i64 m)).run Try.prog w = .ok (.agg (bs G).toArray) w := fun w =>
    index_bytes Try.underlying57 (fun w => by kernel_rfl) (fun w => by kernel_rfl) m hm16 (by rw [hG]; exact ext_bytes _ _ _) w
  obtain ⟨C, hC⟩ : ∃ C : Array Value, C = (bs BG).toArray := ⟨_, rfl⟩
  have hsm := hid big_any
  rw [← hC] at hsm hix
  have hsz : (Try.prog.info? 56).map (·.size) = some (bs G).toArray.size := by
    rw [List.size_toArray, bs_length, hGl]; kernel_rfl
  have HS := hid hsz
  have hall : (bs G).toArray.all (·.oneCell') = true := by
    rw [Array.all_eq_true_iff_forall_mem]; intro u hu; exact one_bs G u (by simpa using hu)
  have HA := hid hall
  have hzz : Z.size = (bs G).toArray.size := by rw [hZs, List.size_toArray, bs_length, hGl]
  have HZ := hid hzz
  clear hC hgl hG hsz hall hzz
  have HGl := hid hGl
  clear hGl hZs
  go_enter Try.func15, Try.ntmps15
  go_wp2_with (first
    | (with_reducible show Calls _ _ _ _ _; go_at_call 33; refine (hsm.out _).mono ?_; rintro e w1 ⟨rfl, hb1⟩)
    | ((with_reducible show wpList _ _ _ _ _ _); (refine wpList_store_row rfl 56 (.tmp 5) (.tmp 15) rfl w1.heap.size (bs G).toArray (by rfl) (by rfl) 56 Z (heap_alloc_new w1 _) HS.out HZ.out HA.out ?_); have hrow := setRow_heap (w1.alloc (Obj.cells Z 56)) w1.heap.size Z (bs G).toArray 56 (0, 0) (heap_alloc_new w1 _); have hbel := below_setRow (hb1.alloc hb1.size (Obj.cells Z 56)) hb1.size (bs G).toArray; generalize (w1.alloc (Obj.cells Z 56)).setRow w1.heap.size (bs G).toArray = w2 at *)
    | (at_builtin; refine wpList_append_lies _ rfl (.tmp 16) (.tmp 17) 24 rfl w.heap.size 5 i0 (.int .u8 0) 1 1 Try.underlying24 hi hz0 hz1 hz2 rfl (by decide) (.slice (some ⟨w2.heap.size, 0, none⟩) 0 0) 0 [] (by rfl) (by first | exact (own_empty w2 _ hbel.size).drew | exact (own_empty w2 _ hbel.size)) ⟨w1.heap.size, 0, none⟩ 10 10 (bs G) (by rfl) (by rw [bs_length, HGl.out]) (World.news_of_block (hrow_alloc hrow _)) (one_bs _) (by decide) (by decide) (by decide) (by have := hbel.size; simp; omega) (w2.heap.size + 1) (by simp) ?_; intro g cap w' hown hgr hg hlt))
  refine bodyPost_ret (results_tmp rfl _ _ _) rfl ⟨_, rfl, ?_, (hbel.alloc hbel.size (Obj.cells #[] 5)).grown hgr (by have := hbel.size; rw [World.size_alloc]; omega) (fun k hk => by simp [Value.ownBlock] at hk; subst hk; exact hbel.size)⟩
  unfold Own
  rw [HGl.out]
  exact hown
set_option maxHeartbeats 400000 in
theorem glyph_any (n : Int) (b : Bool) (w : World) : Calls Try.prog 15 #[.int .i64 n, .bool b] w fun e w' => ∃ v, e = .returned v ∧ Own w.heap.size w' v (glyphL n b) ∧ Below w.heap.size w w' := by
  by_cases h : n < 0
  · have hg : glyphL n b = [] := if_pos h
    rw [hg]
    go_enter Try.func15, Try.ntmps15
    go_wp2_with fail
    go_ret
    exact ⟨_, rfl, World.ownsRow_nil _ _ _ _, Below.refl _ _⟩
  · cases b
    · exact glyphS_any n w (by omega)
    · exact glyphB_any n w (by omega)
end Go.Proofs.Ytgfagophgipldaa
