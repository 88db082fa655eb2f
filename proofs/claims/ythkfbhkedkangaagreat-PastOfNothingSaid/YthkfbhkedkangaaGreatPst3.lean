/- treadlelaw21.PastOfNothing: the walk. No condition. -/
import Derived.Test.YthkfbhkedkangaaGreatPst2
import Derived.Test.YthkfbhkedkangaaGreatPln2
namespace Go.Proofs.YthkfbhkedkangaaGreat
open Go.RowKit
set_option linter.unusedVariables false
set_option linter.unusedSimpArgs false

set_option maxRecDepth 20000 in
set_option maxHeartbeats 1000000 in
theorem awake21_any (w : World) : Calls Tryz.prog 11 #[] w fun e' w' => e' = .returned (.bool true) ∧ Below w.heap.size w w' := by
  go_enter Tryz.func11, Tryz.ntmps11
  (repeat' ((fail_if_success at_builtin); first | go_values | go_skip | go_guarded | go_step | go_upon | go_back))
  (refine (new_any _).mono ?_; rintro e1 w1 ⟨rfl, hd, hb1⟩; dsimp only; (repeat' ((fail_if_success at_builtin); first | go_values | go_skip | go_guarded | go_step | go_upon | go_back)))
  (refine (at_in 1 1 (by decide) (by decide) 6 (.inr ⟨by decide, rfl⟩) _ _ hd).mono ?_; rintro e1 w2 ⟨rfl, hb2⟩; dsimp only)
  have hd2 := hd.below hb2 hd.lt
  unfold imz
  (repeat' ((fail_if_success at_builtin); first | go_values | go_skip | go_guarded | go_step | go_upon | go_back))
  (refine (at_in 0 1 (by decide) (by decide) 0 (.inl ⟨rfl, rfl⟩) _ _ hd2).mono ?_; rintro e1 w3 ⟨rfl, hb3⟩; dsimp only)
  unfold imz
  (repeat' ((fail_if_success at_builtin); first | go_values | go_skip | go_guarded | go_step | go_upon | go_back))
  have h2 := hb1.trans (hb2.mono hb1.size)
  have h3 := h2.trans (hb3.mono h2.size)
  have hs3 := h3.size
  refine bodyPost_ret (results_tmp rfl _ _ _) rfl ⟨rfl, by (repeat' (first | (with_reducible exact Below.refl _ _) | (with_reducible assumption) | (with_reducible refine Below.drew ?_) | (with_reducible refine bdrewN ?_ _) | (with_reducible refine Below.alloc ?_ ?_ _) | (with_reducible refine Below.setCell ?_ ?_ _) | omega | (simp; done) | (simp; omega)))⟩

set_option maxRecDepth 20000 in
set_option maxHeartbeats 2000000 in
theorem past_walk_of (u k : Int) (x : Int) (hx : ∀ (w : World) (b : Nat), DK w b (.map none) (.slice none 0 0) (.slice none 0 0) (.slice none 0 0) 0 false →
      Calls Tryz.prog 10 #[.pointer (some ⟨b, 0, none⟩), .int .i64 u, .int .i64 k] w fun e' w' => e' = .returned (.tuple #[imz, .int .i64 x]) ∧ Below w.heap.size w w')
    (hc : u < 0 ∧ x = 1 ∨ 281474976710655 < u ∧ x = 1 ∨ u = 0 ∧ x = 0 ∨ 0 < u ∧ u ≤ 281474976710655 ∧ x = 6) (w : World) :
    Calls Tryz.prog 4 #[.int .i64 u, .int .i64 k] w fun e' w' => e' = .returned (.bool true) ∧ Below w.heap.size w w' := by
  have HX : Hid (∀ (w : World) (b : Nat), DK w b (.map none) (.slice none 0 0) (.slice none 0 0) (.slice none 0 0) 0 false →
      Calls Tryz.prog 10 #[.pointer (some ⟨b, 0, none⟩), .int .i64 u, .int .i64 k] w fun e' w' => e' = .returned (.tuple #[imz, .int .i64 x]) ∧ Below w.heap.size w w') := Lib.hid hx
  have HC := Lib.hid hc
  clear hx hc
  go_enter Tryz.func4, Tryz.ntmps4
  (repeat' ((fail_if_success at_builtin); first | go_values | go_skip | go_guarded | go_step | go_upon | go_back))
  (refine (at_nil u k _).mono ?_; rintro e1 w1 ⟨rfl, hb1⟩; dsimp only)
  unfold imz
  (repeat' ((fail_if_success at_builtin); first | go_values | go_skip | go_guarded | go_step | go_upon | go_back))
  have hbA : Below w.heap.size w (w1.alloc (.cells #[.int .i64 0, .int .i64 0, .slice none 0 0, .slice none 0 0] 41)) := hb1.alloc hb1.size _
  clear hb1
  (refine (new_any _).mono ?_; rintro e1 w2 ⟨rfl, hd, hb2⟩; dsimp only)
  generalize (w1.alloc (.cells #[.int .i64 0, .int .i64 0, .slice none 0 0, .slice none 0 0] 41)) = w1' at hbA hd hb2 ⊢
  have h02 := hbA.trans (hb2.mono hbA.size)
  have hs1 := hbA.size
  clear hbA
  (repeat' ((fail_if_success at_builtin); first | go_values | go_skip | go_guarded | go_step | go_upon | go_back))
  (refine (HX.out _ _ hd).mono ?_; rintro e1 w3 ⟨rfl, hb3⟩; dsimp only)
  unfold imz
  have hd3 := hd.below hb3 hd.lt
  have h03 := h02.trans (hb3.mono h02.size)
  clear hd hb2 hb3 h02
  have hc := HC.out
  clear HC HX
  have hd0 := hd3.alloc (.cells #[.int .i64 1, .int .i64 1] 31)
  have hb4 : Below w.heap.size w (w3.alloc (.cells #[.int .i64 1, .int .i64 1] 31)) := h03.alloc h03.size _
  have hq := blk_new w3 (.cells #[.int .i64 1, .int .i64 1] 31)
  have hl := hd3.lt
  clear hd3
  have b1 : (decide (u < 0) = true ∧ x = 1) ∨ (decide (u < 0) = false ∧ decide (281474976710655 < u) = true ∧ decide (0 < u) = true ∧ decide (u ≤ 281474976710655) = false ∧ x = 1) ∨ (u = 0 ∧ x = 0) ∨ (decide (u < 0) = false ∧ decide (281474976710655 < u) = false ∧ decide (0 < u) = true ∧ decide (u ≤ 281474976710655) = true ∧ x = 6) := by
    simp only [decide_eq_true_eq, decide_eq_false_iff_not]
    omega
  clear hc
  have b0 : decide (u < 0) = true → decide (0 < u) = false := by simp only [decide_eq_true_eq, decide_eq_false_iff_not]; omega
  rcases b1 with ⟨c1, rfl⟩ | ⟨c1, c2, c3, c4, rfl⟩ | ⟨rfl, rfl⟩ | ⟨c1, c2, c3, c4, rfl⟩
  · have c3 := b0 c1
    clear b0
    (repeat' ((fail_if_success at_builtin); first | go_values | go_skip | go_guarded | go_step | go_upon | go_back))
    (refine (plan_1 _ w1'.heap.size w.heap.size w3.heap.size _ hs1 (by omega) hd0 (blk_cell hq 0) (blk_cell hq 1)).mono ?_; rintro e1 w4 ⟨rfl, ⟨v, hd4, ⟨g, c, rfl, hg, j0, j1⟩⟩, hK4⟩; dsimp only; (repeat' ((fail_if_success at_builtin); first | go_values | go_skip | go_guarded | go_step | go_upon | go_back)))
    (refine (create_off _ w1'.heap.size w.heap.size g c hs1 (by omega) hd4 j0 j1).mono ?_; rintro e1 w5 ⟨rfl, ⟨v5, hd5⟩, hb5⟩; dsimp only; (repeat' ((fail_if_success at_builtin); first | go_values | go_skip | go_guarded | go_step | go_upon | go_back)))
    (refine (at_off k _ _ hd5).mono ?_; rintro e1 w6 ⟨rfl, hb6⟩; dsimp only)
    unfold imz
    (repeat' ((fail_if_success at_builtin); first | go_values | go_skip | go_guarded | go_step | go_upon | go_back))
    (refine (awake21_any _).mono ?_; rintro e1 w7 ⟨rfl, hb7⟩; dsimp only; (repeat' ((fail_if_success at_builtin); first | go_values | go_skip | go_guarded | go_step | go_upon | go_back)))
    have h5 := (hb4.trans hK4.below).trans hb5
    have h6 := h5.trans (hb6.mono h5.size)
    refine bodyPost_ret (results_tmp rfl _ _ _) rfl ⟨rfl, h6.trans (hb7.mono h6.size)⟩
  · clear b0
    (repeat' ((fail_if_success at_builtin); first | go_values | go_skip | go_guarded | go_step | go_upon | go_back))
    (refine (plan_1 _ w1'.heap.size w.heap.size w3.heap.size _ hs1 (by omega) hd0 (blk_cell hq 0) (blk_cell hq 1)).mono ?_; rintro e1 w4 ⟨rfl, ⟨v, hd4, ⟨g, c, rfl, hg, j0, j1⟩⟩, hK4⟩; dsimp only; (repeat' ((fail_if_success at_builtin); first | go_values | go_skip | go_guarded | go_step | go_upon | go_back)))
    (refine (create_off _ w1'.heap.size w.heap.size g c hs1 (by omega) hd4 j0 j1).mono ?_; rintro e1 w5 ⟨rfl, ⟨v5, hd5⟩, hb5⟩; dsimp only; (repeat' ((fail_if_success at_builtin); first | go_values | go_skip | go_guarded | go_step | go_upon | go_back)))
    (refine (at_off k _ _ hd5).mono ?_; rintro e1 w6 ⟨rfl, hb6⟩; dsimp only)
    unfold imz
    (repeat' ((fail_if_success at_builtin); first | go_values | go_skip | go_guarded | go_step | go_upon | go_back))
    (refine (awake21_any _).mono ?_; rintro e1 w7 ⟨rfl, hb7⟩; dsimp only; (repeat' ((fail_if_success at_builtin); first | go_values | go_skip | go_guarded | go_step | go_upon | go_back)))
    have h5 := (hb4.trans hK4.below).trans hb5
    have h6 := h5.trans (hb6.mono h5.size)
    refine bodyPost_ret (results_tmp rfl _ _ _) rfl ⟨rfl, h6.trans (hb7.mono h6.size)⟩
  · clear b0
    (repeat' ((fail_if_success at_builtin); first | go_values | go_skip | go_guarded | go_step | go_upon | go_back))
    (refine (plan_1 _ w1'.heap.size w.heap.size w3.heap.size _ hs1 (by omega) hd0 (blk_cell hq 0) (blk_cell hq 1)).mono ?_; rintro e1 w4 ⟨rfl, ⟨v, hd4, ⟨g, c, rfl, hg, j0, j1⟩⟩, hK4⟩; dsimp only; (repeat' ((fail_if_success at_builtin); first | go_values | go_skip | go_guarded | go_step | go_upon | go_back)))
    (refine (create_off _ w1'.heap.size w.heap.size g c hs1 (by omega) hd4 j0 j1).mono ?_; rintro e1 w5 ⟨rfl, ⟨v5, hd5⟩, hb5⟩; dsimp only; (repeat' ((fail_if_success at_builtin); first | go_values | go_skip | go_guarded | go_step | go_upon | go_back)))
    (refine (at_off k _ _ hd5).mono ?_; rintro e1 w6 ⟨rfl, hb6⟩; dsimp only)
    unfold imz
    (repeat' ((fail_if_success at_builtin); first | go_values | go_skip | go_guarded | go_step | go_upon | go_back))
    (refine (awake21_any _).mono ?_; rintro e1 w7 ⟨rfl, hb7⟩; dsimp only; (repeat' ((fail_if_success at_builtin); first | go_values | go_skip | go_guarded | go_step | go_upon | go_back)))
    have h5 := (hb4.trans hK4.below).trans hb5
    have h6 := h5.trans (hb6.mono h5.size)
    refine bodyPost_ret (results_tmp rfl _ _ _) rfl ⟨rfl, h6.trans (hb7.mono h6.size)⟩
  · clear b0
    (repeat' ((fail_if_success at_builtin); first | go_values | go_skip | go_guarded | go_step | go_upon | go_back))
    (refine (plan_1 _ w1'.heap.size w.heap.size w3.heap.size _ hs1 (by omega) hd0 (blk_cell hq 0) (blk_cell hq 1)).mono ?_; rintro e1 w4 ⟨rfl, ⟨v, hd4, ⟨g, c, rfl, hg, j0, j1⟩⟩, hK4⟩; dsimp only; (repeat' ((fail_if_success at_builtin); first | go_values | go_skip | go_guarded | go_step | go_upon | go_back)))
    (refine (create_off _ w1'.heap.size w.heap.size g c hs1 (by omega) hd4 j0 j1).mono ?_; rintro e1 w5 ⟨rfl, ⟨v5, hd5⟩, hb5⟩; dsimp only; (repeat' ((fail_if_success at_builtin); first | go_values | go_skip | go_guarded | go_step | go_upon | go_back)))
    (refine (at_off k _ _ hd5).mono ?_; rintro e1 w6 ⟨rfl, hb6⟩; dsimp only)
    unfold imz
    (repeat' ((fail_if_success at_builtin); first | go_values | go_skip | go_guarded | go_step | go_upon | go_back))
    (refine (awake21_any _).mono ?_; rintro e1 w7 ⟨rfl, hb7⟩; dsimp only; (repeat' ((fail_if_success at_builtin); first | go_values | go_skip | go_guarded | go_step | go_upon | go_back)))
    have h5 := (hb4.trans hK4.below).trans hb5
    have h6 := h5.trans (hb6.mono h5.size)
    refine bodyPost_ret (results_tmp rfl _ _ _) rfl ⟨rfl, h6.trans (hb7.mono h6.size)⟩

theorem past_walk (u k : Int) (w : World) : Calls Tryz.prog 4 #[.int .i64 u, .int .i64 k] w fun e' w' => e' = .returned (.bool true) ∧ Below w.heap.size w w' := by
  by_cases h1 : u < 0
  · exact past_walk_of u k 1 (fun w b _ => at_below u k _ w h1) (.inl ⟨h1, rfl⟩) w
  by_cases h2 : 281474976710655 < u
  · exact past_walk_of u k 1 (fun w b _ => at_above u k _ w h2) (.inr (.inl ⟨h2, rfl⟩)) w
  by_cases h3 : u = 0
  · exact past_walk_of u k 0 (fun w b h => at_in u k (by omega) (by omega) 0 (.inl ⟨h3, rfl⟩) w b h) (.inr (.inr (.inl ⟨h3, rfl⟩))) w
  · exact past_walk_of u k 6 (fun w b h => at_in u k (by omega) (by omega) 6 (.inr ⟨by omega, rfl⟩) w b h) (.inr (.inr (.inr ⟨by omega, by omega, rfl⟩))) w

end Go.Proofs.YthkfbhkedkangaaGreat
