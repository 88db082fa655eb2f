/- treadlelaw17.ReviveOfNothing: the walk. No condition. -/
import Derived.Test.YthkfbhkedkangaaGreatPln2
namespace Go.Proofs.YthkfbhkedkangaaGreat
open Go.RowKit
set_option linter.unusedVariables false
set_option linter.unusedSimpArgs false

set_option maxRecDepth 20000 in
set_option maxHeartbeats 1000000 in
theorem strokes_any (w : World) (b : Nat) {sf tn ps pr : Value} {k : Int} {off : Bool} (h : DK w b sf tn ps pr k off) : Calls Tryz.prog 29 #[.pointer (some ⟨b, 0, none⟩)] w fun e' w' => e' = .returned (.int .i64 k) ∧ w' = w := by
  obtain ⟨c3, c4, c5, c6, c7, c8, c9, c10⟩ := h.c
  clear h
  go_enter Tryz.func29, Tryz.ntmps29
  (repeat' ((fail_if_success at_builtin); first | go_values | go_skip | go_guarded | go_step | go_upon | go_back))
  refine bodyPost_ret (results_tmp rfl _ _ _) rfl ⟨rfl, rfl⟩

set_option maxRecDepth 20000 in
set_option maxHeartbeats 1000000 in
theorem awake_any (w : World) : Calls Tryz.prog 9 #[] w fun e' w' => e' = .returned (.bool true) ∧ Below w.heap.size w w' := by
  go_enter Tryz.func9, Tryz.ntmps9
  (repeat' ((fail_if_success at_builtin); first | go_values | go_skip | go_guarded | go_step | go_upon | go_back))
  (refine (new_any _).mono ?_; rintro e1 w1 ⟨rfl, hd, hb1⟩; dsimp only; (repeat' ((fail_if_success at_builtin); first | go_values | go_skip | go_guarded | go_step | go_upon | go_back)))
  (refine (open_0 _ w.heap.size w.heap.size (Nat.le_refl _) 1 hd).mono ?_; rintro e1 w2 ⟨⟨s, v, p, rfl, hS⟩, ⟨m, hd2⟩, hb2⟩; dsimp only)
  obtain ⟨d2, d3, d9, d10, d11, d12, d13⟩ := hS.c
  (repeat' ((fail_if_success at_builtin); first | go_values | go_skip | go_guarded | go_step | go_upon | go_back))
  (refine (strokes_any _ _ hd2).mono ?_; rintro e1 w3 ⟨rfl, rfl⟩; dsimp only; (repeat' ((fail_if_success at_builtin); first | go_values | go_skip | go_guarded | go_step | go_upon | go_back)))
  refine bodyPost_ret (results_tmp rfl _ _ _) rfl ⟨rfl, hb1.trans hb2⟩

set_option maxRecDepth 20000 in
set_option maxHeartbeats 1000000 in
theorem revive_walk (k : Int) (w : World) : Calls Tryz.prog 3 #[.int .i64 k] w fun e' w' => e' = .returned (.bool true) ∧ Below w.heap.size w w' := by
  go_enter Tryz.func3, Tryz.ntmps3
  (repeat' ((fail_if_success at_builtin); first | go_values | go_skip | go_guarded | go_step | go_upon | go_back))
  (refine (open_nil _ k).mono ?_; rintro e1 w1 ⟨rfl, hb1⟩; dsimp only; (repeat' ((fail_if_success at_builtin); first | go_values | go_skip | go_guarded | go_step | go_upon | go_back)))
  (refine (new_any _).mono ?_; rintro e1 w2 ⟨rfl, hd, hb2⟩; dsimp only; (repeat' ((fail_if_success at_builtin); first | go_values | go_skip | go_guarded | go_step | go_upon | go_back)))
  have hs1 := hb1.size
  have hs2 := hb2.size
  have hd0 := hd.alloc (.cells #[.int .i64 1, .int .i64 1] 31)
  have hb3 : Below w.heap.size w (w2.alloc (.cells #[.int .i64 1, .int .i64 1] 31)) := (hb1.trans (hb2.mono hs1)).alloc (by omega) _
  have hq := blk_new w2 (.cells #[.int .i64 1, .int .i64 1] 31)
  have hl := hd.lt
  (refine (plan_1 _ w1.heap.size w.heap.size w2.heap.size _ hs1 (by omega) hd0 (blk_cell hq 0) (blk_cell hq 1)).mono ?_; rintro e1 w3 ⟨rfl, ⟨v, hd3, ⟨g, c, rfl, hg, j0, j1⟩⟩, hK3⟩; dsimp only; (repeat' ((fail_if_success at_builtin); first | go_values | go_skip | go_guarded | go_step | go_upon | go_back)))
  (refine (create_off _ w1.heap.size w.heap.size g c hs1 (by omega) hd3 j0 j1).mono ?_; rintro e1 w4 ⟨rfl, ⟨v4, hd4⟩, hb4⟩; dsimp only; (repeat' ((fail_if_success at_builtin); first | go_values | go_skip | go_guarded | go_step | go_upon | go_back)))
  (refine (open_off _ _ k hd4).mono ?_; rintro e1 w5 ⟨rfl, hb5⟩; dsimp only; (repeat' ((fail_if_success at_builtin); first | go_values | go_skip | go_guarded | go_step | go_upon | go_back)))
  (refine (awake_any _).mono ?_; rintro e1 w6 ⟨rfl, hb6⟩; dsimp only; (repeat' ((fail_if_success at_builtin); first | go_values | go_skip | go_guarded | go_step | go_upon | go_back)))
  have h4 := (hb3.trans hK3.below).trans hb4
  have h5 := h4.trans (hb5.mono h4.size)
  refine bodyPost_ret (results_tmp rfl _ _ _) rfl ⟨rfl, h5.trans (hb6.mono h5.size)⟩

end Go.Proofs.YthkfbhkedkangaaGreat
