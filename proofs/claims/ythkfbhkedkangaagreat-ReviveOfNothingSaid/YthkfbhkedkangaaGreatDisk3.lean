/- A disk without a file: strokes. No condition. -/
import Derived.Test.YthkfbhkedkangaaGreatDisk2
namespace Go.Proofs.YthkfbhkedkangaaGreat
open Go.RowKit
set_option linter.unusedVariables false
set_option linter.unusedSimpArgs false

set_option maxRecDepth 20000 in
set_option maxHeartbeats 1000000 in
theorem stroke_sync (w : World) (b c n0 : Nat) (hn : n0 ≤ b) (hne : c ≠ b) (h : DK w b (.map none) (.slice none 0 0) (.slice none 0 0) (.slice none 0 0) 0 false) (hc : w.cell? ⟨c, 0, none⟩ = some (.pointer (some ⟨b, 0, none⟩))) :
    Calls Tryz.prog 23 #[.pointer (some ⟨b, 0, none⟩), .func (.func 109) #[] #[], .func (.func 110) #[] #[.pointer (some ⟨c, 0, none⟩)], .slice none 0 0] w fun e' w' =>
      e' = .returned (.int .i64 0) ∧ (∃ m, DK w' b (.map (some m)) (.slice none 0 0) (.slice none 0 0) (.slice none 0 0) 1 false) ∧ Kp w w' b n0 := by
  obtain ⟨c3, c4, c5, c6, c7, c8, c9, c10⟩ := h.c
  obtain ⟨f4, f5, f6, f7, f8, f9, f10⟩ := h.f
  go_enter Tryz.func23, Tryz.ntmps23
  (repeat' ((fail_if_success at_builtin); first | go_values | go_skip | go_guarded | go_step | go_upon | go_back))
  go_in
  (repeat' ((fail_if_success at_builtin); first | go_values | go_skip | go_guarded | go_step | go_upon | go_back))
  have h2 : DK (w.setCell ⟨b, 8, none⟩ (.int .i64 1)) b (.map none) (.slice none 0 0) (.slice none 0 0) (.slice none 0 0) 1 false := blk_set h 8 _
  have hcc : (w.setCell ⟨b, 8, none⟩ (.int .i64 1)).cell? ⟨c, 0, none⟩ = some (.pointer (some ⟨b, 0, none⟩)) := (World.cell?_of_block (Below.heap_setCell w ⟨b, 8, none⟩ _ c hne)).trans hc
  have hb2 : Kp w (w.setCell ⟨b, 8, none⟩ (.int .i64 1)) b n0 := (Kp.refl w b n0).set hn 8 _
  generalize w.setCell ⟨b, 8, none⟩ (.int .i64 1) = w2 at h2 hcc hb2 ⊢
  clear c3 c4 c5 c6 c7 c8 c9 c10 f4 f5 f6 f7 f8 f9 f10
  obtain ⟨c3, c4, c5, c6, c7, c8, c9, c10⟩ := h2.c
  go_region_with ((go_at_call 53; refine (fault_0 _ _).mono ?_; rintro e1 w1 ⟨rfl, rfl⟩; dsimp only))
  (repeat' ((fail_if_success at_builtin); first | go_values | go_skip | go_guarded | go_step | go_upon | go_back))
  all_goals ((repeat' ((fail_if_success at_builtin); first | go_values | go_skip | go_guarded | go_step | go_upon | go_back)))
  all_goals ((refine (fails_0 _ _).mono ?_; rintro e1 w3 ⟨rfl, rfl⟩; dsimp only; (repeat' ((fail_if_success at_builtin); first | go_values | go_skip | go_guarded | go_step | go_upon | go_back))))
  all_goals ((refine (sync2_0 w2.drew b c n0 hn (show DK w2.drew b _ _ _ _ _ _ from h2) hcc).mono ?_; rintro e1 w4 ⟨rfl, h3, hb3⟩; dsimp only; (repeat' ((fail_if_success at_builtin); first | go_values | go_skip | go_guarded | go_step | go_upon | go_back))))
  all_goals (refine bodyPost_ret (v := .int .i64 0) (by simp [results, Tryz.results23, go_sem]) rfl ⟨rfl, h3, hb2.drew.trans hb3⟩)

set_option maxRecDepth 20000 in
set_option maxHeartbeats 1000000 in
theorem syncNames_0 (w : World) (b n0 : Nat) (hn : n0 ≤ b) (h : DK w b (.map none) (.slice none 0 0) (.slice none 0 0) (.slice none 0 0) 0 false) :
    Calls Tryz.prog 52 #[.pointer (some ⟨b, 0, none⟩)] w fun e' w' => e' = .returned (.int .i64 0) ∧ (∃ m, DK w' b (.map (some m)) (.slice none 0 0) (.slice none 0 0) (.slice none 0 0) 1 false) ∧ Kp w w' b n0 := by
  have hmf : ∀ (fn : Fn) (first cap : Array Value) (w : World), (Instr.makeFunc fn first cap).run Tryz.prog w = .ok (.func fn first cap) w := fun _ _ _ _ => rfl
  have hl := h.lt
  have h1 := h.alloc (.cells #[.pointer (some ⟨b, 0, none⟩)] 26)
  have hb1 : Kp w (w.alloc (.cells #[.pointer (some ⟨b, 0, none⟩)] 26)) b n0 := (Kp.refl w b n0).step (m := w.heap.size) (by omega) ((Below.refl _ w).alloc (Nat.le_refl _) _) (Nat.le_refl _)
  go_enter Tryz.func52, Tryz.ntmps52
  (repeat' ((fail_if_success at_builtin); first | go_values | go_skip | go_guarded | go_step | go_upon | go_back))
  (refine (stroke_sync _ b w.heap.size n0 hn (by omega) h1 (by simp [go_sem])).mono ?_; rintro e1 w2 ⟨rfl, h3, hb3⟩; dsimp only; (repeat' ((fail_if_success at_builtin); first | go_values | go_skip | go_guarded | go_step | go_upon | go_back)))
  refine bodyPost_ret (results_tmp rfl _ _ _) rfl ⟨rfl, h3, hb1.trans hb3⟩

end Go.Proofs.YthkfbhkedkangaaGreat
