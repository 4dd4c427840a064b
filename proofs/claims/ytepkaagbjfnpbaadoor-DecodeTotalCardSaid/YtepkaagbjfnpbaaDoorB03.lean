import Derived.Test.YtepkaagbjfnpbaaDoorB0
namespace Go.Proofs.YtepkaagbjfnpbaaDoor
open Go.RowKit
set_option maxHeartbeats 2000000 in
theorem dec_g51 (a b c d m v o l : Nat) (lv : Int) (w : World) (ha : a < 256) (hb : b < 256) (_hc : c < 256) (_hd : d < 256) (t0 t1 : TypeId × Nat × Nat) (hb1 : 0 < w.heap.size) (hb0 : 1 < w.heap.size) (h0 : Hid (w.heap[0]? = some (.cells T1 t0.1 t0.2))) (h1 : Hid (w.heap[1]? = some (.cells T2 t1.1 t1.2)))
    (HF : Hid (findR (tbl1 ++ tbl2) (a * 256 + b) = some ⟨m, v, o, l, 51⟩)) (hl : (l : Int) ≤ lv) (hl3 : lv ≤ 3) (h48 : ((o : Int) == 48) = false) :
    Calls Tryd.prog 9 #[.agg (BC a b c d), .int .i64 lv] w fun e w' => e = .returned (.agg (if (((o : Int) == 43 || (o : Int) == 44) && !rallowedS lv ((a : Int) % 16)) = true then ic 0 0 0 0 0 0 2 else ic o ((a : Int) % 16) 0 0 0 0 2)) ∧ Below w.heap.size w w' := by
  unfold BC
  go_enter Tryd.func9, Tryd.ntmps9
  repeat' (first
      | (go_at_call 17; refine (number_any a b _ ha hb).mono ?_; rintro e w' ⟨rfl, rfl⟩; dsimp only)
      | (go_at_call 16; refine (find_int _ (a * 256 + b) ?_ ?_ _ t0 t1 ?_ ?_ ?_).mono ?_; (omega); (omega); (simp only [World.size_alloc]; omega); (exact three_old hb1 h0.out); (exact three_old hb0 h1.out); rintro e w3 ⟨he, hB⟩; rw [HF.out] at he; dsimp only [rc] at he; subst he; have F := found_mk hB; clear hB; obtain ⟨cA, fA⟩ := at_cells F.b0; obtain ⟨cB, fB⟩ := at_cells F.b1; obtain ⟨cC, fC⟩ := at_cells F.b2; obtain ⟨zA, zA', zB, zB', zC, zC'⟩ := found_lt F.size; dsimp only [BC, ic] at cA cB cC; dsimp only)
      | go_values | go_skip | go_guarded | go_step | go_upon)
  go_cut [] from 9 (fun wr => Picked w w3 a b c d (pickS 51 o ((a : Int) % 16) ((b : Int) / 16) ((b : Int) % 16) (b : Int) ((a : Int) % 16 * 256 + b)) wr)
  case first =>
    go_region_with (first
      | (go_at_call 18; refine (split_any a b _ ha hb).mono ?_; rintro e w4 ⟨rfl, hB4⟩; obtain ⟨cD, fD⟩ := at_cells_below (at_one w3 _ _ _ _) hB4 (by simp only [World.size_alloc, World.size_drew]; omega); dsimp only)
      | (go_at_call 51; refine (pick_calls 51 (by decide) (w3.heap.size + 1) o _ _ _ _ _ _ _ rfl _ ?_).mono ?_; (exact at_below (at_two w3 _ _ _) (by assumption) (by simp only [World.size_alloc, World.size_drew]; omega)); rintro e w5 ⟨rfl, hG, hA⟩; dsimp only))
    all_goals
      go_wp2
      go_meet
      case rel => exact picked_mk F hB4 hG hA
  case rest =>
    have F3 := F.size
    clear cA fA cB fB cC fC zA zA' zB zB' zC zC' F
    obtain ⟨cA, fA⟩ := at_cells hcut.b0
    obtain ⟨cB, fB⟩ := at_cells hcut.b1
    obtain ⟨cC, fC⟩ := at_cells hcut.b2
    obtain ⟨zA, zA', zB, zB', zC, zC', zI, zI'⟩ := picked_lt F3 hcut.size
    dsimp only [BC, ic] at cA cB cC
    have cI : ∀ j, wc.cell? ⟨w3.heap.size + 1, j, none⟩ = (#[.int .i64 o, .int .i64 ((a : Int) % 16), .int .i64 0, .int .i64 0, .int .i64 0, .int .i64 0, .int .i64 2] : Array Value)[j]? := (at_cells hcut.b3).1
    have fI := (at_cells hcut.b3).2
    have HC := hid hcut
    clear hcut
    by_cases h43 : ((o : Int) == 43) = true
    · cases hal : rallowedS lv ((a : Int) % 16)
      · repeat' (first
              | (go_at_call 19; refine (allowed_any _ _ _).mono ?_; rintro e w6 ⟨rfl, hB6⟩; rw [hal]; have HC := hid (picked_below HC.out hB6); clear hB6 cA fA cB fB cC fC zA zA' zB zB' zC zC' zI zI' cI fI; obtain ⟨cA, fA⟩ := at_cells HC.out.b0; obtain ⟨cB, fB⟩ := at_cells HC.out.b1; obtain ⟨cC, fC⟩ := at_cells HC.out.b2; obtain ⟨zA, zA', zB, zB', zC, zC', zI, zI'⟩ := picked_lt F3 HC.out.size; dsimp only [BC, ic] at cA cB cC; have cI : ∀ j, w6.cell? ⟨w3.heap.size + 1, j, none⟩ = (#[.int .i64 o, .int .i64 ((a : Int) % 16), .int .i64 0, .int .i64 0, .int .i64 0, .int .i64 0, .int .i64 2] : Array Value)[j]? := (at_cells HC.out.b3).1; have fI := (at_cells HC.out.b3).2; dsimp only)
              | go_values | go_skip | go_guarded | go_step | go_upon)
        refine bodyPost_ret (results_agg rfl _ _ ⟨w.heap.size + 1, 0, none⟩ (ic 0 0 0 0 0 0 2) rfl ?_) rfl ⟨by simp [h43, hal], ?_⟩
        · unfold ic
          go_simp
        · repeat (first | with_reducible exact HC.out.below | with_reducible refine Below.setCell ?_ (by simp; try omega) _ | with_reducible refine Below.alloc ?_ (by have := HC.out.size; simp; omega) _)
      · repeat' (first
              | (go_at_call 19; refine (allowed_any _ _ _).mono ?_; rintro e w6 ⟨rfl, hB6⟩; rw [hal]; have HC := hid (picked_below HC.out hB6); clear hB6 cA fA cB fB cC fC zA zA' zB zB' zC zC' zI zI' cI fI; obtain ⟨cA, fA⟩ := at_cells HC.out.b0; obtain ⟨cB, fB⟩ := at_cells HC.out.b1; obtain ⟨cC, fC⟩ := at_cells HC.out.b2; obtain ⟨zA, zA', zB, zB', zC, zC', zI, zI'⟩ := picked_lt F3 HC.out.size; dsimp only [BC, ic] at cA cB cC; have cI : ∀ j, w6.cell? ⟨w3.heap.size + 1, j, none⟩ = (#[.int .i64 o, .int .i64 ((a : Int) % 16), .int .i64 0, .int .i64 0, .int .i64 0, .int .i64 0, .int .i64 2] : Array Value)[j]? := (at_cells HC.out.b3).1; have fI := (at_cells HC.out.b3).2; dsimp only)
              | go_values | go_skip | go_guarded | go_step | go_upon)
        refine bodyPost_ret (results_agg rfl _ _ ⟨w.heap.size + 1, 0, none⟩ (ic o ((a : Int) % 16) 0 0 0 0 2) rfl ?_) rfl ⟨by simp [hal], ?_⟩
        · unfold ic
          go_simp
        · repeat (first | with_reducible exact HC.out.below | with_reducible refine Below.setCell ?_ (by simp; try omega) _ | with_reducible refine Below.alloc ?_ (by have := HC.out.size; simp; omega) _)
    · have h43 : ((o : Int) == 43) = false := by simpa using h43
      by_cases h44 : ((o : Int) == 44) = true
      · cases hal : rallowedS lv ((a : Int) % 16)
        · repeat' (first
                | (go_at_call 19; refine (allowed_any _ _ _).mono ?_; rintro e w6 ⟨rfl, hB6⟩; rw [hal]; have HC := hid (picked_below HC.out hB6); clear hB6 cA fA cB fB cC fC zA zA' zB zB' zC zC' zI zI' cI fI; obtain ⟨cA, fA⟩ := at_cells HC.out.b0; obtain ⟨cB, fB⟩ := at_cells HC.out.b1; obtain ⟨cC, fC⟩ := at_cells HC.out.b2; obtain ⟨zA, zA', zB, zB', zC, zC', zI, zI'⟩ := picked_lt F3 HC.out.size; dsimp only [BC, ic] at cA cB cC; have cI : ∀ j, w6.cell? ⟨w3.heap.size + 1, j, none⟩ = (#[.int .i64 o, .int .i64 ((a : Int) % 16), .int .i64 0, .int .i64 0, .int .i64 0, .int .i64 0, .int .i64 2] : Array Value)[j]? := (at_cells HC.out.b3).1; have fI := (at_cells HC.out.b3).2; dsimp only)
                | go_values | go_skip | go_guarded | go_step | go_upon)
          refine bodyPost_ret (results_agg rfl _ _ ⟨w.heap.size + 1, 0, none⟩ (ic 0 0 0 0 0 0 2) rfl ?_) rfl ⟨by simp [h44, hal], ?_⟩
          · unfold ic
            go_simp
          · repeat (first | with_reducible exact HC.out.below | with_reducible refine Below.setCell ?_ (by simp; try omega) _ | with_reducible refine Below.alloc ?_ (by have := HC.out.size; simp; omega) _)
        · repeat' (first
                | (go_at_call 19; refine (allowed_any _ _ _).mono ?_; rintro e w6 ⟨rfl, hB6⟩; rw [hal]; have HC := hid (picked_below HC.out hB6); clear hB6 cA fA cB fB cC fC zA zA' zB zB' zC zC' zI zI' cI fI; obtain ⟨cA, fA⟩ := at_cells HC.out.b0; obtain ⟨cB, fB⟩ := at_cells HC.out.b1; obtain ⟨cC, fC⟩ := at_cells HC.out.b2; obtain ⟨zA, zA', zB, zB', zC, zC', zI, zI'⟩ := picked_lt F3 HC.out.size; dsimp only [BC, ic] at cA cB cC; have cI : ∀ j, w6.cell? ⟨w3.heap.size + 1, j, none⟩ = (#[.int .i64 o, .int .i64 ((a : Int) % 16), .int .i64 0, .int .i64 0, .int .i64 0, .int .i64 0, .int .i64 2] : Array Value)[j]? := (at_cells HC.out.b3).1; have fI := (at_cells HC.out.b3).2; dsimp only)
                | go_values | go_skip | go_guarded | go_step | go_upon)
          refine bodyPost_ret (results_agg rfl _ _ ⟨w.heap.size + 1, 0, none⟩ (ic o ((a : Int) % 16) 0 0 0 0 2) rfl ?_) rfl ⟨by simp [hal], ?_⟩
          · unfold ic
            go_simp
          · repeat (first | with_reducible exact HC.out.below | with_reducible refine Below.setCell ?_ (by simp; try omega) _ | with_reducible refine Below.alloc ?_ (by have := HC.out.size; simp; omega) _)
      · have h44 : ((o : Int) == 44) = false := by simpa using h44
        repeat' (first
              | go_values | go_skip | go_guarded | go_step | go_upon)
        refine bodyPost_ret (results_agg rfl _ _ ⟨w.heap.size + 1, 0, none⟩ (ic o ((a : Int) % 16) 0 0 0 0 2) rfl ?_) rfl ⟨by simp [h43, h44], ?_⟩
        · unfold ic
          go_simp
        · repeat (first | with_reducible exact HC.out.below | with_reducible refine Below.setCell ?_ (by simp; try omega) _ | with_reducible refine Below.alloc ?_ (by have := HC.out.size; simp; omega) _)
set_option maxHeartbeats 2000000 in
theorem dec_g52 (a b c d m v o l : Nat) (lv : Int) (w : World) (ha : a < 256) (hb : b < 256) (_hc : c < 256) (_hd : d < 256) (t0 t1 : TypeId × Nat × Nat) (hb1 : 0 < w.heap.size) (hb0 : 1 < w.heap.size) (h0 : Hid (w.heap[0]? = some (.cells T1 t0.1 t0.2))) (h1 : Hid (w.heap[1]? = some (.cells T2 t1.1 t1.2)))
    (HF : Hid (findR (tbl1 ++ tbl2) (a * 256 + b) = some ⟨m, v, o, l, 52⟩)) (hl : (l : Int) ≤ lv) (hl3 : lv ≤ 3) (h48 : ((o : Int) == 48) = false) (h43 : ((o : Int) == 43) = false) (h44 : ((o : Int) == 44) = false) :
    Calls Tryd.prog 9 #[.agg (BC a b c d), .int .i64 lv] w fun e w' => e = .returned (.agg (ic o 0 0 ((b : Int) % 16) 0 0 2)) ∧ Below w.heap.size w w' := by
  unfold BC
  go_enter Tryd.func9, Tryd.ntmps9
  repeat' (first
      | (go_at_call 17; refine (number_any a b _ ha hb).mono ?_; rintro e w' ⟨rfl, rfl⟩; dsimp only)
      | (go_at_call 16; refine (find_int _ (a * 256 + b) ?_ ?_ _ t0 t1 ?_ ?_ ?_).mono ?_; (omega); (omega); (simp only [World.size_alloc]; omega); (exact three_old hb1 h0.out); (exact three_old hb0 h1.out); rintro e w3 ⟨he, hB⟩; rw [HF.out] at he; dsimp only [rc] at he; subst he; have F := found_mk hB; clear hB; obtain ⟨cA, fA⟩ := at_cells F.b0; obtain ⟨cB, fB⟩ := at_cells F.b1; obtain ⟨cC, fC⟩ := at_cells F.b2; obtain ⟨zA, zA', zB, zB', zC, zC'⟩ := found_lt F.size; dsimp only [BC, ic] at cA cB cC; dsimp only)
      | go_values | go_skip | go_guarded | go_step | go_upon)
  go_cut [] from 9 (fun wr => Picked w w3 a b c d (pickS 52 o ((a : Int) % 16) ((b : Int) / 16) ((b : Int) % 16) (b : Int) ((a : Int) % 16 * 256 + b)) wr)
  case first =>
    go_region_with (first
      | (go_at_call 18; refine (split_any a b _ ha hb).mono ?_; rintro e w4 ⟨rfl, hB4⟩; obtain ⟨cD, fD⟩ := at_cells_below (at_one w3 _ _ _ _) hB4 (by simp only [World.size_alloc, World.size_drew]; omega); dsimp only)
      | (go_at_call 52; refine (pick_calls 52 (by decide) (w3.heap.size + 1) o _ _ _ _ _ _ _ rfl _ ?_).mono ?_; (exact at_below (at_two w3 _ _ _) (by assumption) (by simp only [World.size_alloc, World.size_drew]; omega)); rintro e w5 ⟨rfl, hG, hA⟩; dsimp only))
    all_goals
      go_wp2
      go_meet
      case rel => exact picked_mk F hB4 hG hA
  case rest =>
    have F3 := F.size
    clear cA fA cB fB cC fC zA zA' zB zB' zC zC' F
    obtain ⟨cA, fA⟩ := at_cells hcut.b0
    obtain ⟨cB, fB⟩ := at_cells hcut.b1
    obtain ⟨cC, fC⟩ := at_cells hcut.b2
    obtain ⟨zA, zA', zB, zB', zC, zC', zI, zI'⟩ := picked_lt F3 hcut.size
    dsimp only [BC, ic] at cA cB cC
    have cI : ∀ j, wc.cell? ⟨w3.heap.size + 1, j, none⟩ = (#[.int .i64 o, .int .i64 0, .int .i64 0, .int .i64 ((b : Int) % 16), .int .i64 0, .int .i64 0, .int .i64 2] : Array Value)[j]? := (at_cells hcut.b3).1
    have fI := (at_cells hcut.b3).2
    have HC := hid hcut
    clear hcut
    repeat' (first
          | go_values | go_skip | go_guarded | go_step | go_upon)
    refine bodyPost_ret (results_agg rfl _ _ ⟨w.heap.size + 1, 0, none⟩ _ rfl ?_) rfl ⟨rfl, ?_⟩
    · unfold ic
      go_simp
    · repeat (first | with_reducible exact HC.out.below | with_reducible refine Below.setCell ?_ (by simp; try omega) _ | with_reducible refine Below.alloc ?_ (by have := HC.out.size; simp; omega) _)
set_option maxHeartbeats 2000000 in
theorem dec_g53 (a b c d m v o l : Nat) (lv : Int) (w : World) (ha : a < 256) (hb : b < 256) (_hc : c < 256) (_hd : d < 256) (t0 t1 : TypeId × Nat × Nat) (hb1 : 0 < w.heap.size) (hb0 : 1 < w.heap.size) (h0 : Hid (w.heap[0]? = some (.cells T1 t0.1 t0.2))) (h1 : Hid (w.heap[1]? = some (.cells T2 t1.1 t1.2)))
    (HF : Hid (findR (tbl1 ++ tbl2) (a * 256 + b) = some ⟨m, v, o, l, 53⟩)) (hl : (l : Int) ≤ lv) (hl3 : lv ≤ 3) (h48 : ((o : Int) == 48) = false) (h43 : ((o : Int) == 43) = false) (h44 : ((o : Int) == 44) = false) :
    Calls Tryd.prog 9 #[.agg (BC a b c d), .int .i64 lv] w fun e w' => e = .returned (.agg (ic o 0 0 ((a : Int) % 16) 0 0 2)) ∧ Below w.heap.size w w' := by
  unfold BC
  go_enter Tryd.func9, Tryd.ntmps9
  repeat' (first
      | (go_at_call 17; refine (number_any a b _ ha hb).mono ?_; rintro e w' ⟨rfl, rfl⟩; dsimp only)
      | (go_at_call 16; refine (find_int _ (a * 256 + b) ?_ ?_ _ t0 t1 ?_ ?_ ?_).mono ?_; (omega); (omega); (simp only [World.size_alloc]; omega); (exact three_old hb1 h0.out); (exact three_old hb0 h1.out); rintro e w3 ⟨he, hB⟩; rw [HF.out] at he; dsimp only [rc] at he; subst he; have F := found_mk hB; clear hB; obtain ⟨cA, fA⟩ := at_cells F.b0; obtain ⟨cB, fB⟩ := at_cells F.b1; obtain ⟨cC, fC⟩ := at_cells F.b2; obtain ⟨zA, zA', zB, zB', zC, zC'⟩ := found_lt F.size; dsimp only [BC, ic] at cA cB cC; dsimp only)
      | go_values | go_skip | go_guarded | go_step | go_upon)
  go_cut [] from 9 (fun wr => Picked w w3 a b c d (pickS 53 o ((a : Int) % 16) ((b : Int) / 16) ((b : Int) % 16) (b : Int) ((a : Int) % 16 * 256 + b)) wr)
  case first =>
    go_region_with (first
      | (go_at_call 18; refine (split_any a b _ ha hb).mono ?_; rintro e w4 ⟨rfl, hB4⟩; obtain ⟨cD, fD⟩ := at_cells_below (at_one w3 _ _ _ _) hB4 (by simp only [World.size_alloc, World.size_drew]; omega); dsimp only)
      | (go_at_call 53; refine (pick_calls 53 (by decide) (w3.heap.size + 1) o _ _ _ _ _ _ _ rfl _ ?_).mono ?_; (exact at_below (at_two w3 _ _ _) (by assumption) (by simp only [World.size_alloc, World.size_drew]; omega)); rintro e w5 ⟨rfl, hG, hA⟩; dsimp only))
    all_goals
      go_wp2
      go_meet
      case rel => exact picked_mk F hB4 hG hA
  case rest =>
    have F3 := F.size
    clear cA fA cB fB cC fC zA zA' zB zB' zC zC' F
    obtain ⟨cA, fA⟩ := at_cells hcut.b0
    obtain ⟨cB, fB⟩ := at_cells hcut.b1
    obtain ⟨cC, fC⟩ := at_cells hcut.b2
    obtain ⟨zA, zA', zB, zB', zC, zC', zI, zI'⟩ := picked_lt F3 hcut.size
    dsimp only [BC, ic] at cA cB cC
    have cI : ∀ j, wc.cell? ⟨w3.heap.size + 1, j, none⟩ = (#[.int .i64 o, .int .i64 0, .int .i64 0, .int .i64 ((a : Int) % 16), .int .i64 0, .int .i64 0, .int .i64 2] : Array Value)[j]? := (at_cells hcut.b3).1
    have fI := (at_cells hcut.b3).2
    have HC := hid hcut
    clear hcut
    repeat' (first
          | go_values | go_skip | go_guarded | go_step | go_upon)
    refine bodyPost_ret (results_agg rfl _ _ ⟨w.heap.size + 1, 0, none⟩ _ rfl ?_) rfl ⟨rfl, ?_⟩
    · unfold ic
      go_simp
    · repeat (first | with_reducible exact HC.out.below | with_reducible refine Below.setCell ?_ (by simp; try omega) _ | with_reducible refine Below.alloc ?_ (by have := HC.out.size; simp; omega) _)
end Go.Proofs.YtepkaagbjfnpbaaDoor
