/- A disk without a file: SyncNames, strokes. No condition. -/
import Derived.Test.YthkfbhkedkangaaGreatDisk1
namespace Go.Proofs.YthkfbhkedkangaaGreat
open Go.RowKit
set_option linter.unusedVariables false
set_option linter.unusedSimpArgs false

theorem now_e (w : World) (b : Nat) {ps pr : Value} {k : Int} {off : Bool} (h : DK w b (.map none) (.slice none 0 0) ps pr k off) :
    Calls Tryz.prog 35 #[.pointer (some ⟨b, 0, none⟩)] w fun e' w' => e' = .returned (.map (some w.heap.size)) ∧ EMap w' (some w.heap.size) ∧ Below w.heap.size w w' := by
  refine (now_0 w b h).mono ?_
  rintro e w' ⟨rfl, rfl⟩
  exact ⟨rfl, EMap.made w, (Below.refl _ w).alloc (Nat.le_refl _) _⟩

set_option maxRecDepth 20000 in
set_option maxHeartbeats 1000000 in
theorem sync2_0 (w : World) (b c n0 : Nat) (hn : n0 ≤ b) {ps pr : Value} {k : Int} {off : Bool} (h : DK w b (.map none) (.slice none 0 0) ps pr k off) (hc : w.cell? ⟨c, 0, none⟩ = some (.pointer (some ⟨b, 0, none⟩))) :
    Calls Tryz.prog 110 #[.pointer (some ⟨c, 0, none⟩)] w fun e' w' => e' = .returned (.int .i64 0) ∧ (∃ m, DK w' b (.map (some m)) (.slice none 0 0) ps pr k off) ∧ Kp w w' b n0 := by
  have h1 : DK w.drew b (.map none) (.slice none 0 0) ps pr k off := h
  have hlt : c < w.drew.heap.size := World.block_lt_of_cell? w _ hc
  have hbl := h1.lt
  have hc0 : w.drew.cell? ⟨c, 0, none⟩ = some (.pointer (some ⟨b, 0, none⟩)) := hc
  go_enter Tryz.func110, Tryz.ntmps110
  (repeat' ((fail_if_success at_builtin); first | go_values | go_skip | go_guarded | go_step | go_upon | go_back))
  go_region_with (first | (go_at_call 35; refine (now_e _ b h1).mono ?_; rintro e1 w1 ⟨rfl, hm, hb⟩; have hc1 : w1.cell? ⟨c, 0, none⟩ = some (.pointer (some ⟨b, 0, none⟩)) := (World.cell?_of_block (hb.block c hlt)).trans hc0; dsimp only) | (go_at_call 111; refine (settle_0 _ b n0 hn _ (h1.below hb hbl) hm).mono ?_; rintro e1 w2 ⟨rfl, h2, hb2⟩; dsimp only))
  all_goals ((repeat' ((fail_if_success at_builtin); first | go_values | go_skip | go_guarded | go_step | go_upon | go_back)))
  all_goals (refine bodyPost_ret (v := .int .i64 0) (by simp [results, Tryz.results110, go_sem]) rfl ⟨rfl, ⟨_, h2⟩, ((Kp.refl w b n0).drew.step (m := w.drew.heap.size) (by omega) hb (Nat.le_refl _)).trans hb2⟩)

set_option maxRecDepth 20000 in
set_option maxHeartbeats 1000000 in
theorem fault_0 (w : World) (k : Int) : Calls Tryz.prog 53 #[.slice none 0 0, .int .i64 k] w fun e' w' => e' = .returned (.int .i64 0) ∧ w' = w := by
  go_enter Tryz.func53, Tryz.ntmps53
  (repeat' ((fail_if_success at_builtin); first | go_values | go_skip | go_guarded | go_step | go_upon | go_back))
  refine wp_loop_rounds 1 ?_; rw [rounds_succ]
  (repeat' ((fail_if_success at_builtin); first | go_values | go_skip | go_guarded | go_step | go_upon | go_back))
  refine bodyPost_ret (results_tmp rfl _ _ _) rfl ⟨rfl, rfl⟩

set_option maxRecDepth 20000 in
set_option maxHeartbeats 1000000 in
theorem fails_0 (w : World) (p : Value) : Calls Tryz.prog 54 #[p, .int .i64 0] w fun e' w' => e' = .returned (.int .i64 0) ∧ w' = w := by
  go_enter Tryz.func54, Tryz.ntmps54
  (repeat' ((fail_if_success at_builtin); first | go_values | go_skip | go_guarded | go_step | go_upon | go_back))
  refine bodyPost_ret (results_tmp rfl _ _ _) rfl ⟨rfl, rfl⟩

set_option maxRecDepth 20000 in
set_option maxHeartbeats 1000000 in
theorem fails_off (w : World) (b n0 : Nat) (hn : n0 ≤ b) {sf tn ps pr : Value} {k : Int} {off : Bool} (h : DK w b sf tn ps pr k off) :
    Calls Tryz.prog 54 #[.pointer (some ⟨b, 0, none⟩), .int .i64 1] w fun e' w' => e' = .returned (.int .i64 11) ∧ DK w' b sf tn ps pr k true ∧ Below n0 w w' := by
  obtain ⟨c3, c4, c5, c6, c7, c8, c9, c10⟩ := h.c
  obtain ⟨f4, f5, f6, f7, f8, f9, f10⟩ := h.f
  have h2 : DK (w.setCell ⟨b, 10, none⟩ (.bool true)) b sf tn ps pr k true := blk_set h 10 _
  clear h
  go_enter Tryz.func54, Tryz.ntmps54
  (repeat' ((fail_if_success at_builtin); first | go_values | go_skip | go_guarded | go_step | go_upon | go_back))
  refine bodyPost_ret (results_tmp rfl _ _ _) rfl ⟨rfl, h2, by (repeat' (first | (with_reducible exact Below.refl _ _) | (with_reducible assumption) | (with_reducible refine Below.drew ?_) | (with_reducible refine bdrewN ?_ _) | (with_reducible refine Below.alloc ?_ ?_ _) | (with_reducible refine Below.setCell ?_ ?_ _) | omega | (simp; done) | (simp; omega)))⟩

end Go.Proofs.YthkfbhkedkangaaGreat
