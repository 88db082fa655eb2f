/- disk: the fault of a stroke, names, Create where the power goes off. No condition. -/
import Derived.Test.YthkfbhkedkangaaGreatPln1
namespace Go.Proofs.YthkfbhkedkangaaGreat
open Go.RowKit
set_option linter.unusedVariables false
set_option linter.unusedSimpArgs false

set_option maxRecDepth 20000 in
set_option maxHeartbeats 1000000 in
theorem named_x (w : World) : Calls Tryz.prog 55 #[.string ⟨#[120]⟩] w fun e' w' => e' = .returned (.bool true) ∧ w' = w := by
  go_enter Tryz.func55, Tryz.ntmps55
  (repeat' ((fail_if_success at_builtin); first | go_values | go_skip | go_guarded | go_step | go_upon | go_back))
  refine wp_loop_rounds 2 ?_; rw [rounds_succ]
  (repeat' ((fail_if_success at_builtin); first | go_values | go_skip | go_guarded | go_step | go_upon | go_back))
  rw [rounds_succ]
  (repeat' ((fail_if_success at_builtin); first | go_values | go_skip | go_guarded | go_step | go_upon | go_back))
  refine bodyPost_ret (results_tmp rfl _ _ _) rfl ⟨rfl, rfl⟩

set_option maxRecDepth 20000 in
set_option maxHeartbeats 1000000 in
theorem there_x (w : World) (b : Nat) {ps pr : Value} {k : Int} {off : Bool} (h : DK w b (.map none) (.slice none 0 0) ps pr k off) :
    Calls Tryz.prog 25 #[.pointer (some ⟨b, 0, none⟩), .string ⟨#[120]⟩] w fun e' w' => e' = .returned (.tuple #[.pointer none, .int .i64 6]) ∧ Below w.heap.size w w' := by
  have hlk := run_lookup_e (P := Tryz.prog) (w := w.alloc (.map #[] 0)) 76 _ _ Tryz.underlying76 Tryz.underlying9 (key := .string ⟨#[120]⟩) (z := .int .i64 0) (by simp [MapKept.IsKey]) (Tryz.zeroValue3 _) (b := w.heap.size) (c := 0) (World.alloc_heap_new _ _) true
  have hb : Below w.heap.size w (w.alloc (.map #[] 0)) := (Below.refl _ w).alloc (Nat.le_refl _) _
  go_enter Tryz.func25, Tryz.ntmps25
  (repeat' ((fail_if_success at_builtin); first | go_values | go_skip | go_guarded | go_step | go_upon | go_back))
  (refine (named_x _).mono ?_; rintro e1 w1 ⟨rfl, rfl⟩; dsimp only; (repeat' ((fail_if_success at_builtin); first | go_values | go_skip | go_guarded | go_step | go_upon | go_back)))
  (refine (now_0 _ b h).mono ?_; rintro e1 w2 ⟨rfl, rfl⟩; dsimp only; (repeat' ((fail_if_success at_builtin); first | go_values | go_skip | go_guarded | go_step | go_upon | go_back)))
  refine bodyPost_ret (results_tmp2 rfl _ _ _) rfl ⟨rfl, hb⟩

set_option maxRecDepth 20000 in
set_option maxHeartbeats 1000000 in
theorem create1_x (w : World) (b p q : Nat) {ps pr : Value} {k : Int} {off : Bool} (h : DK w b (.map none) (.slice none 0 0) ps pr k off) (hp : w.cell? ⟨p, 0, none⟩ = some (.pointer (some ⟨b, 0, none⟩))) (hq : w.cell? ⟨q, 0, none⟩ = some (.string ⟨#[120]⟩)) :
    Calls Tryz.prog 24 #[.pointer (some ⟨p, 0, none⟩), .pointer (some ⟨q, 0, none⟩)] w fun e' w' => e' = .returned (.int .i64 0) ∧ Below w.heap.size w w' := by
  go_enter Tryz.func24, Tryz.ntmps24
  (repeat' ((fail_if_success at_builtin); first | go_values | go_skip | go_guarded | go_step | go_upon | go_back))
  (refine (there_x _ b h).mono ?_; rintro e1 w1 ⟨rfl, hb⟩; dsimp only; (repeat' ((fail_if_success at_builtin); first | go_values | go_skip | go_guarded | go_step | go_upon | go_back)))
  refine bodyPost_ret (results_tmp rfl _ _ _) rfl ⟨rfl, hb⟩

set_option maxRecDepth 20000 in
set_option maxHeartbeats 1000000 in
theorem fault_1 (w : World) (g c : Nat) (h0 : w.cell? ⟨g, 0, none⟩ = some (.int .i64 1)) (h1 : w.cell? ⟨g, 1, none⟩ = some (.int .i64 1)) :
    Calls Tryz.prog 53 #[.slice (some ⟨g, 0, none⟩) 1 c, .int .i64 1] w fun e' w' => e' = .returned (.int .i64 1) ∧ Below w.heap.size w w' := by
  go_enter Tryz.func53, Tryz.ntmps53
  (repeat' ((fail_if_success at_builtin); first | go_values | go_skip | go_guarded | go_step | go_upon | go_back))
  refine wp_loop_rounds 1 ?_; rw [rounds_succ]
  (repeat' ((fail_if_success at_builtin); first | go_values | go_skip | go_guarded | go_step | go_upon | go_back))
  refine bodyPost_ret (results_tmp rfl _ _ _) rfl ⟨rfl, by (repeat' (first | (with_reducible exact Below.refl _ _) | (with_reducible assumption) | (with_reducible refine Below.drew ?_) | (with_reducible refine bdrewN ?_ _) | (with_reducible refine Below.alloc ?_ ?_ _) | (with_reducible refine Below.setCell ?_ ?_ _) | omega | (simp; done) | (simp; omega)))⟩

set_option maxRecDepth 20000 in
set_option maxHeartbeats 1000000 in
theorem stroke_off (w : World) (b p q n0 g c : Nat) (hn : n0 ≤ b) (hgb : g ≠ b) (f2 : Value) (h : DK w b (.map none) (.slice none 0 0) (.slice (some ⟨g, 0, none⟩) 1 c) (.slice none 0 0) 0 false) (h0 : w.cell? ⟨g, 0, none⟩ = some (.int .i64 1)) (h1 : w.cell? ⟨g, 1, none⟩ = some (.int .i64 1))
    (hp : w.cell? ⟨p, 0, none⟩ = some (.pointer (some ⟨b, 0, none⟩))) (hq : w.cell? ⟨q, 0, none⟩ = some (.string ⟨#[120]⟩)) :
    Calls Tryz.prog 23 #[.pointer (some ⟨b, 0, none⟩), .func (.func 24) #[] #[.pointer (some ⟨p, 0, none⟩), .pointer (some ⟨q, 0, none⟩)], f2, .slice none 0 0] w fun e' w' =>
      e' = .returned (.int .i64 11) ∧ (∃ v, DK w' b (.map none) (.slice none 0 0) v (.slice none 0 0) 1 true) ∧ Below n0 w w' := by
  obtain ⟨c3, c4, c5, c6, c7, c8, c9, c10⟩ := h.c
  have hbl := h.lt
  have hgl : g < w.heap.size := World.block_lt_of_cell? w _ h0
  go_enter Tryz.func23, Tryz.ntmps23
  (repeat' ((fail_if_success at_builtin); first | go_values | go_skip | go_guarded | go_step | go_upon | go_back))
  (refine (create1_x _ b p q h hp hq).mono ?_; rintro e1 w1 ⟨rfl, hb1⟩; dsimp only)
  have hd1 := h.below hb1 hbl
  have hK1 : Kp w w1 b n0 := (Kp.refl w b n0).step (m := w.heap.size) (by omega) hb1 (Nat.le_refl _)
  have i0 := (World.cell?_of_block (a := ⟨g, 0, none⟩) (hb1.block g hgl)).trans h0
  have i1 := (World.cell?_of_block (a := ⟨g, 1, none⟩) (hb1.block g hgl)).trans h1
  clear c3 c4 c5 c6 c7 c8 c9 c10
  obtain ⟨c3, c4, c5, c6, c7, c8, c9, c10⟩ := hd1.c
  obtain ⟨f4, f5, f6, f7, f8, f9, f10⟩ := hd1.f
  (repeat' ((fail_if_success at_builtin); first | go_values | go_skip | go_guarded | go_step | go_upon | go_back))
  have h2 : DK (w1.setCell ⟨b, 8, none⟩ (.int .i64 1)) b (.map none) (.slice none 0 0) (.slice (some ⟨g, 0, none⟩) 1 c) (.slice none 0 0) 1 false := hd1.s8 1
  have hK2 := hK1.set hn 8 (.int .i64 1)
  have j0 : (w1.setCell ⟨b, 8, none⟩ (.int .i64 1)).drew.cell? ⟨g, 0, none⟩ = some (.int .i64 1) := (World.cell?_of_block (Below.heap_setCell w1 ⟨b, 8, none⟩ _ g hgb)).trans i0
  have j1 : (w1.setCell ⟨b, 8, none⟩ (.int .i64 1)).drew.cell? ⟨g, 1, none⟩ = some (.int .i64 1) := (World.cell?_of_block (Below.heap_setCell w1 ⟨b, 8, none⟩ _ g hgb)).trans i1
  generalize w1.setCell ⟨b, 8, none⟩ (.int .i64 1) = w2 at h2 hK2 j0 j1 ⊢
  clear c3 c4 c5 c6 c7 c8 c9 c10 f4 f5 f6 f7 f8 f9 f10
  obtain ⟨c3, c4, c5, c6, c7, c8, c9, c10⟩ := h2.c
  have hl2 := h2.lt
  have h2d : DK w2.drew b _ _ _ _ _ _ := h2
  have hs2 := hK2.below.size
  go_region_with ((go_at_call 53; refine (fault_1 _ g c j0 j1).mono ?_; rintro e1 w3 ⟨rfl, hb3⟩; have h3 := h2d.below hb3 hl2; dsimp only))
  all_goals ((repeat' ((fail_if_success at_builtin); first | go_values | go_skip | go_guarded | go_step | go_upon | go_back)))
  all_goals ((refine (fails_off _ b n0 hn h3).mono ?_; rintro e1 w4 ⟨rfl, h4, hb4⟩; dsimp only; (repeat' ((fail_if_success at_builtin); first | go_values | go_skip | go_guarded | go_step | go_upon | go_back))))
  all_goals (refine wp_loop_rounds 1 ?_; rw [rounds_succ])
  all_goals ((repeat' ((fail_if_success at_builtin); first | go_values | go_skip | go_guarded | go_step | go_upon | go_back)))
  all_goals (refine bodyPost_ret (v := .int .i64 11) (by simp [results, Tryz.results23, go_sem]) rfl ⟨rfl, ⟨_, h4⟩, (hK2.drew.below.trans (hb3.mono (show n0 ≤ w2.heap.size by omega))).trans hb4⟩)

set_option maxRecDepth 20000 in
set_option maxHeartbeats 1000000 in
theorem create_off (w : World) (b n0 g c : Nat) (hn : n0 ≤ b) (hgb : g ≠ b) (h : DK w b (.map none) (.slice none 0 0) (.slice (some ⟨g, 0, none⟩) 1 c) (.slice none 0 0) 0 false) (h0 : w.cell? ⟨g, 0, none⟩ = some (.int .i64 1)) (h1 : w.cell? ⟨g, 1, none⟩ = some (.int .i64 1)) :
    Calls Tryz.prog 8 #[.pointer (some ⟨b, 0, none⟩), .string ⟨#[120]⟩] w fun e' w' => e' = .returned (.int .i64 11) ∧ (∃ v, DK w' b (.map none) (.slice none 0 0) v (.slice none 0 0) 1 true) ∧ Below n0 w w' := by
  have hmf : ∀ (fn : Fn) (first cap : Array Value) (w : World), (Instr.makeFunc fn first cap).run Tryz.prog w = .ok (.func fn first cap) w := fun _ _ _ _ => rfl
  obtain ⟨W, HW, hb1, q1, q2, hsz⟩ := box2 w (.cells #[.pointer (some ⟨b, 0, none⟩)] 26) (.cells #[.string ⟨#[120]⟩] 9)
  have hbl := h.lt
  have hgl : g < w.heap.size := World.block_lt_of_cell? w _ h0
  have hd := h.below hb1 hbl
  have i0 := (World.cell?_of_block (a := ⟨g, 0, none⟩) (hb1.block g hgl)).trans h0
  have i1 := (World.cell?_of_block (a := ⟨g, 1, none⟩) (hb1.block g hgl)).trans h1
  obtain ⟨x1, x2⟩ := blk1 q1
  obtain ⟨y1, y2⟩ := blk1 q2
  clear h h0 h1
  go_enter Tryz.func8, Tryz.ntmps8
  (repeat' ((fail_if_success at_builtin); first | go_values | go_skip | go_guarded | go_step | go_upon | go_back))
  rw [← HW.out]
  (refine (stroke_off W b w.heap.size (w.heap.size + 1) n0 g c hn hgb _ hd i0 i1 x1 y1).mono ?_; rintro e1 w2 ⟨rfl, h3, hb3⟩; dsimp only; (repeat' ((fail_if_success at_builtin); first | go_values | go_skip | go_guarded | go_step | go_upon | go_back)))
  refine bodyPost_ret (results_tmp rfl _ _ _) rfl ⟨rfl, h3, (hb1.mono (by omega)).trans hb3⟩

end Go.Proofs.YthkfbhkedkangaaGreat
