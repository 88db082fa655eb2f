/- revive.Open: a nil disk, a disk that is off, a disk without a file. No condition. -/
import Derived.Test.YthkfbhkedkangaaGreatRev2
import Derived.Defers
import Derived.Recover
namespace Go.Proofs.YthkfbhkedkangaaGreat
open Go.RowKit
set_option linter.unusedVariables false
set_option linter.unusedSimpArgs false

set_option maxRecDepth 20000 in
set_option maxHeartbeats 1000000 in
theorem open_nil (w : World) (k : Int) : Calls Tryz.prog 5 #[.pointer none, .int .i64 k] w fun e' w' => e' = .returned (.tuple #[.pointer none, .int .i64 1]) ∧ Below w.heap.size w w' := by
  go_enter_defers Tryz.func5, Tryz.ntmps5
  (repeat' ((fail_if_success at_builtin); first | go_values | go_skip | go_guarded | go_step | go_upon | go_back))
  refine ⟨.tuple #[.pointer none, .int .i64 1], by simp [results, Tryz.results5, go_sem], rfl, by (repeat' (first | (with_reducible exact Below.refl _ _) | (with_reducible assumption) | (with_reducible refine Below.drew ?_) | (with_reducible refine bdrewN ?_ _) | (with_reducible refine Below.alloc ?_ ?_ _) | (with_reducible refine Below.setCell ?_ ?_ _) | omega | (simp; done) | (simp; omega)))⟩

theorem assert_off (W : World) (i : Int) : (Instr.typeAssert (.iface 45 (.int .i64 i)) 20 45 true).run Tryz.prog W = .ok (.tuple #[.int .i64 i, .bool true]) W := by
  simp [Instr.typeAssert, run_underlying Tryz.underlying45]

set_option maxRecDepth 20000 in
set_option maxHeartbeats 1000000 in
theorem catch_off (p q : Addr) (v1 v2 : Value) (w : World) (hp : w.cell? p = some v1) (fp : w.frozen? p = false) (hq : w.cell? q = some v2) (fq : w.frozen? q = false) (hne : p.block ≠ q.block) (i : Int) :
    CallsD Tryz.prog 12 #[.pointer (some p), .pointer (some q)] (.panicking [{ v := .iface 45 (.int .i64 i), recovered := false }]) w fun e u' w' =>
      e = .returned (.tuple #[]) ∧ u' = .panicking [{ v := .iface 45 (.int .i64 i), recovered := true }] ∧ w' = (w.setCell p (.pointer none)).setCell q (.int .i64 i) := by
  refine callsD_of_wpS Tryz.func12 rfl fun c₀ cs hu => ?_
  apply wpS_seq
  apply wpS_region
  simp [wpOpsS, go_sem, recoverD, hu, Tryz.ntmps12, Exit.thenS, Array.replicate, List.replicate]
  have hta := assert_off
  have hq2 : (w.setCell p (.pointer none)).cell? q = some v2 := (World.cell?_of_block (Below.heap_setCell w p _ q.block (Ne.symm hne))).trans hq
  refine wpS_of_wp ?_
  (repeat' ((fail_if_success at_builtin); first | go_values | go_skip | go_guarded | go_step | go_upon | go_back))
  cases c₀
  simp_all [bodyPostS, results, Tryz.results12]

set_option maxRecDepth 20000 in
set_option maxHeartbeats 1000000 in
theorem catch_idle (p q : Addr) (w : World) :
    CallsD Tryz.prog 12 #[.pointer (some p), .pointer (some q)] .returning w fun e u' w' => e = .returned (.tuple #[]) ∧ u' = .returning ∧ w' = w := by
  refine callsD_of_wpS Tryz.func12 rfl fun c₀ cs hu => ?_
  apply wpS_seq
  apply wpS_region
  simp [wpOpsS, go_sem, recoverD, hu, Tryz.ntmps12, Exit.thenS, Array.replicate, List.replicate]
  refine wpS_of_wp ?_
  (repeat' ((fail_if_success at_builtin); first | go_values | go_skip | go_guarded | go_step | go_upon | go_back))
  cases c₀
  simp_all [bodyPostS, results, Tryz.results12]

set_option maxRecDepth 20000 in
set_option maxHeartbeats 1000000 in
theorem newV (w : World) : Calls Tryz.prog 15 #[] w fun e' w' => e' = .returned (.pointer (some ⟨w.heap.size, 0, none⟩)) ∧ Below w.heap.size w w' ∧ w'.heap.size = w.heap.size + 1 := by
  go_enter Tryz.func15, Tryz.ntmps15
  (repeat' ((fail_if_success at_builtin); first | go_values | go_skip | go_guarded | go_step | go_upon | go_back))
  refine bodyPost_ret (results_tmp rfl _ _ _) rfl ⟨rfl, by (repeat' (first | (with_reducible exact Below.refl _ _) | (with_reducible assumption) | (with_reducible refine Below.drew ?_) | (with_reducible refine bdrewN ?_ _) | (with_reducible refine Below.alloc ?_ ?_ _) | (with_reducible refine Below.setCell ?_ ?_ _) | omega | (simp; done) | (simp; omega))), by simp⟩

set_option maxRecDepth 20000 in
set_option maxHeartbeats 1000000 in
theorem newP (w : World) : Calls Tryz.prog 16 #[] w fun e' w' => e' = .returned (.pointer (some ⟨w.heap.size, 0, none⟩)) ∧ Below w.heap.size w w' ∧ w'.heap.size = w.heap.size + 1 := by
  go_enter Tryz.func16, Tryz.ntmps16
  (repeat' ((fail_if_success at_builtin); first | go_values | go_skip | go_guarded | go_step | go_upon | go_back))
  refine bodyPost_ret (results_tmp rfl _ _ _) rfl ⟨rfl, by (repeat' (first | (with_reducible exact Below.refl _ _) | (with_reducible assumption) | (with_reducible refine Below.drew ?_) | (with_reducible refine bdrewN ?_ _) | (with_reducible refine Below.alloc ?_ ?_ _) | (with_reducible refine Below.setCell ?_ ?_ _) | omega | (simp; done) | (simp; omega))), by simp⟩

set_option maxRecDepth 20000 in
set_option maxHeartbeats 1000000 in
theorem open_off (w : World) (b : Nat) (k : Int) {sf tn ps pr : Value} {j : Int} (h : DK w b sf tn ps pr j true) :
    Calls Tryz.prog 5 #[.pointer (some ⟨b, 0, none⟩), .int .i64 k] w fun e' w' => e' = .returned (.tuple #[.pointer none, .int .i64 11]) ∧ Below w.heap.size w w' := by
  have hmf : ∀ (fn : Fn) (first cap : Array Value) (w : World), (Instr.makeFunc fn first cap).run Tryz.prog w = .ok (.func fn first cap) w := fun _ _ _ _ => rfl
  obtain ⟨W, HW, hb1, q1, q2, hsz⟩ := box2 w (.cells #[.pointer none] 22) (.cells #[.int .i64 11] 23)
  have h2 := (h.alloc (.cells #[.pointer none] 22)).alloc (.cells #[.int .i64 0] 23)
  go_enter_defers Tryz.func5, Tryz.ntmps5
  (repeat' ((fail_if_success at_builtin); first | go_values | go_skip | go_guarded | go_step | go_upon | go_back))
  (refine (list_off _ b h2).mono ?_; rintro e1 w1 ⟨rfl, rfl⟩; dsimp only; (repeat' ((fail_if_success at_builtin); first | go_values | go_skip | go_guarded | go_step | go_upon | go_back)))
  rw [← HW.out]
  (refine (must_off _).mono ?_; rintro e1 w2 ⟨rfl, rfl⟩; dsimp only; (repeat' ((fail_if_success at_builtin); first | go_values | go_skip | go_guarded | go_step | go_upon | go_back)))
  obtain ⟨a1, a2⟩ := blk1 q1
  obtain ⟨b1, b2⟩ := blk1 q2
  refine leaves_cons (f := 12) (args := #[.pointer (some ⟨w.heap.size, 0, none⟩), .pointer (some ⟨w.heap.size + 1, 0, none⟩)]) (by simp) (by simp [go_sem]) ?_
  refine (catch_off ⟨w.heap.size, 0, none⟩ ⟨w.heap.size + 1, 0, none⟩ _ _ w2 a1 a2 b1 b2 (by simp) 11).mono ?_
  rintro e u' w'' ⟨rfl, rfl, rfl⟩
  have r1 := blk_set_other (blk_set q1 0 (.pointer none)) (by omega : w.heap.size ≠ w.heap.size + 1) 0 (.int .i64 11)
  have r2 := blk_set (blk_set_other q2 (by omega : w.heap.size + 1 ≠ w.heap.size) 0 (.pointer none)) 0 (.int .i64 11)
  have hb2 : Below w.heap.size w ((w2.setCell ⟨w.heap.size, 0, none⟩ (.pointer none)).setCell ⟨w.heap.size + 1, 0, none⟩ (.int .i64 11)) := (hb1.setCell (Nat.le_refl _) _).setCell (by simp) _
  obtain ⟨x1, x2⟩ := blk1 r1
  obtain ⟨y1, y2⟩ := blk1 r2
  refine ⟨.tuple #[.pointer none, .int .i64 11], ?_, rfl, hb2⟩
  simp [results, Tryz.results5, go_sem, x1, y1]

set_option maxRecDepth 20000 in
set_option maxHeartbeats 1000000 in
theorem open_0 (w : World) (b n0 : Nat) (hn0 : n0 ≤ b) (k : Int) (h : DK w b (.map none) (.slice none 0 0) (.slice none 0 0) (.slice none 0 0) 0 false) :
    Calls Tryz.prog 5 #[.pointer (some ⟨b, 0, none⟩), .int .i64 k] w fun e' w' => (∃ s v p, e' = .returned (.tuple #[.pointer (some ⟨s, 0, none⟩), .int .i64 0]) ∧ ST w' s v p 1 0 0 0) ∧ (∃ m, DK w' b (.map (some m)) (.slice none 0 0) (.slice none 0 0) (.slice none 0 0) 1 false) ∧ Below n0 w w' := by
  have hmf : ∀ (fn : Fn) (first cap : Array Value) (w : World), (Instr.makeFunc fn first cap).run Tryz.prog w = .ok (.func fn first cap) w := fun _ _ _ _ => rfl
  have hmm := @run_makeMap Tryz.prog
  have h2 := (h.alloc (.cells #[.pointer none] 22)).alloc (.cells #[.int .i64 0] 23)
  go_enter_defers Tryz.func5, Tryz.ntmps5
  (repeat' ((fail_if_success at_builtin); first | go_values | go_skip | go_guarded | go_step | go_upon | go_back))
  (refine (list_0 _ b h2).mono ?_; rintro e1 w1 ⟨rfl, hb1⟩; dsimp only)
  have hbx : Below w.heap.size w ((w.alloc (.cells #[.pointer none] 22)).alloc (.cells #[.int .i64 0] 23)) := by (repeat' (first | (with_reducible exact Below.refl _ _) | (with_reducible assumption) | (with_reducible refine Below.drew ?_) | (with_reducible refine bdrewN ?_ _) | (with_reducible refine Below.alloc ?_ ?_ _) | (with_reducible refine Below.setCell ?_ ?_ _) | omega | (simp; done) | (simp; omega)))
  have hw1 := hbx.trans (hb1.mono hbx.size)
  have hsz : w.heap.size + 2 ≤ w1.heap.size := by have := hb1.size; simp at this; omega
  have r1 := blk_below hb1 (blk_alloc (blk_new w (.cells #[.pointer none] 22)) (.cells #[.int .i64 0] 23)) (by simp; omega)
  have r2 := blk_below hb1 (blk_new1 w (.cells #[.pointer none] 22) (.cells #[.int .i64 0] 23)) (by simp)
  have hd1 := h2.below hb1 h2.lt
  obtain ⟨y1, y2⟩ := blk1 r2
  (repeat' ((fail_if_success at_builtin); first | go_values | go_skip | go_guarded | go_step | go_upon | go_back))
  clear y1 y2
  have s1 := blk_set_other r1 (by omega : w.heap.size ≠ w.heap.size + 1) 0 (.int .i64 0)
  have s2 := blk_set r2 0 (.int .i64 0)
  have hl := h.lt
  have hd2 : DK (w1.setCell ⟨w.heap.size + 1, 0, none⟩ (.int .i64 0)) b _ _ _ _ _ _ := blk_set_other hd1 (by omega : b ≠ w.heap.size + 1) 0 (.int .i64 0)
  have hw2 : Below w.heap.size w (w1.setCell ⟨w.heap.size + 1, 0, none⟩ (.int .i64 0)) := hw1.setCell (by simp) _
  have hsz2 : w.heap.size + 2 ≤ (w1.setCell ⟨w.heap.size + 1, 0, none⟩ (.int .i64 0)).heap.size := by have := blk_lt s2; omega
  clear r1 r2 hd1 hw1 hsz h2 hb1 hbx
  generalize w1.setCell ⟨w.heap.size + 1, 0, none⟩ (.int .i64 0) = w2 at s1 s2 hd2 hw2 hsz2 ⊢
  obtain ⟨x1, x2⟩ := blk1 s1
  obtain ⟨y1, y2⟩ := blk1 s2
  (refine (must_0 _).mono ?_; rintro e1 w3 ⟨rfl, rfl⟩; dsimp only; (repeat' ((fail_if_success at_builtin); first | go_values | go_skip | go_guarded | go_step | go_upon | go_back)))
  (refine (newV _).mono ?_; rintro e1 w4 ⟨rfl, hb4, hz4⟩; dsimp only; (repeat' ((fail_if_success at_builtin); first | go_values | go_skip | go_guarded | go_step | go_upon | go_back)))
  (refine (newP _).mono ?_; rintro e1 w5 ⟨rfl, hb5, hz5⟩; dsimp only; (repeat' ((fail_if_success at_builtin); first | go_values | go_skip | go_guarded | go_step | go_upon | go_back)))
  refine wp_loop_rounds 1 ?_; rw [rounds_succ]
  (repeat' ((fail_if_success at_builtin); first | go_values | go_skip | go_guarded | go_step | go_upon | go_back))
  have e4 : w4.heap.size = w3.heap.size + 1 + 1 + 1 := by rw [hz4]; simp
  have e5 : w5.heap.size = w3.heap.size + 1 + 1 + 1 + 1 := by rw [hz5, e4]
  have hS : ST ((w5.alloc (.cells #[.pointer (some ⟨w3.heap.size + 1 + 1, 0, none⟩), .pointer (some ⟨w3.heap.size + 1 + 1 + 1, 0, none⟩), .slice none 0 0, .int .i64 0, .int .i64 0, .int .i64 0, .int .i64 0, .int .i64 0, .int .i64 0, .bool false, .int .i64 0, .int .i64 0, .int .i64 0, .int .i64 0] 69)).alloc (.cells #[.pointer (some ⟨b, 0, none⟩), .map (some w3.heap.size), .map (some (w3.heap.size + 1)), .pointer (some ⟨w3.heap.size + 1 + 1 + 1 + 1, 0, none⟩), .int .i64 0] 71)) (w3.heap.size + 1 + 1 + 1 + 1) (.pointer (some ⟨w3.heap.size + 1 + 1, 0, none⟩)) (.pointer (some ⟨w3.heap.size + 1 + 1 + 1, 0, none⟩)) 0 0 0 0 := by
    have := blk_alloc (blk_new w5 (.cells #[.pointer (some ⟨w3.heap.size + 1 + 1, 0, none⟩), .pointer (some ⟨w3.heap.size + 1 + 1 + 1, 0, none⟩), .slice none 0 0, .int .i64 0, .int .i64 0, .int .i64 0, .int .i64 0, .int .i64 0, .int .i64 0, .bool false, .int .i64 0, .int .i64 0, .int .i64 0, .int .i64 0] 69)) (.cells #[.pointer (some ⟨b, 0, none⟩), .map (some w3.heap.size), .map (some (w3.heap.size + 1)), .pointer (some ⟨w3.heap.size + 1 + 1 + 1 + 1, 0, none⟩), .int .i64 0] 71)
    rw [e5] at this
    exact this
  have hO : OP ((w5.alloc (.cells #[.pointer (some ⟨w3.heap.size + 1 + 1, 0, none⟩), .pointer (some ⟨w3.heap.size + 1 + 1 + 1, 0, none⟩), .slice none 0 0, .int .i64 0, .int .i64 0, .int .i64 0, .int .i64 0, .int .i64 0, .int .i64 0, .bool false, .int .i64 0, .int .i64 0, .int .i64 0, .int .i64 0] 69)).alloc (.cells #[.pointer (some ⟨b, 0, none⟩), .map (some w3.heap.size), .map (some (w3.heap.size + 1)), .pointer (some ⟨w3.heap.size + 1 + 1 + 1 + 1, 0, none⟩), .int .i64 0] 71)) (w3.heap.size + 1 + 1 + 1 + 1 + 1) (.pointer (some ⟨b, 0, none⟩)) w3.heap.size (w3.heap.size + 1) (w3.heap.size + 1 + 1 + 1 + 1) := by
    have := blk_new1 w5 (.cells #[.pointer (some ⟨w3.heap.size + 1 + 1, 0, none⟩), .pointer (some ⟨w3.heap.size + 1 + 1 + 1, 0, none⟩), .slice none 0 0, .int .i64 0, .int .i64 0, .int .i64 0, .int .i64 0, .int .i64 0, .int .i64 0, .bool false, .int .i64 0, .int .i64 0, .int .i64 0, .int .i64 0] 69) (.cells #[.pointer (some ⟨b, 0, none⟩), .map (some w3.heap.size), .map (some (w3.heap.size + 1)), .pointer (some ⟨w3.heap.size + 1 + 1 + 1 + 1, 0, none⟩), .int .i64 0] 71)
    rw [e5] at this
    exact this
  have hm1 := blk_alloc (blk_new w3 (.map #[] 0)) (.map #[] 0)
  have hm2 := blk_new1 w3 (.map #[] 0) (.map #[] 0)
  have hb35 : Below ((w3.alloc (.map #[] 0)).alloc (.map #[] 0)).heap.size ((w3.alloc (.map #[] 0)).alloc (.map #[] 0)) w5 := hb4.trans (hb5.mono hb4.size)
  have hb56 : Below w5.heap.size w5 ((w5.alloc (.cells #[.pointer (some ⟨w3.heap.size + 1 + 1, 0, none⟩), .pointer (some ⟨w3.heap.size + 1 + 1 + 1, 0, none⟩), .slice none 0 0, .int .i64 0, .int .i64 0, .int .i64 0, .int .i64 0, .int .i64 0, .int .i64 0, .bool false, .int .i64 0, .int .i64 0, .int .i64 0, .int .i64 0] 69)).alloc (.cells #[.pointer (some ⟨b, 0, none⟩), .map (some w3.heap.size), .map (some (w3.heap.size + 1)), .pointer (some ⟨w3.heap.size + 1 + 1 + 1 + 1, 0, none⟩), .int .i64 0] 71)) := ((Below.refl _ w5).alloc (Nat.le_refl _) _).alloc (by simp) _
  have hb36 := hb35.trans (hb56.mono hb35.size)
  have hb03 : Below w3.heap.size w3 ((w3.alloc (.map #[] 0)).alloc (.map #[] 0)) := ((Below.refl _ w3).alloc (Nat.le_refl _) _).alloc (by simp) _
  have hb06 := hb03.trans (hb36.mono (by simp; omega))
  have hN : EMap ((w5.alloc (.cells #[.pointer (some ⟨w3.heap.size + 1 + 1, 0, none⟩), .pointer (some ⟨w3.heap.size + 1 + 1 + 1, 0, none⟩), .slice none 0 0, .int .i64 0, .int .i64 0, .int .i64 0, .int .i64 0, .int .i64 0, .int .i64 0, .bool false, .int .i64 0, .int .i64 0, .int .i64 0, .int .i64 0] 69)).alloc (.cells #[.pointer (some ⟨b, 0, none⟩), .map (some w3.heap.size), .map (some (w3.heap.size + 1)), .pointer (some ⟨w3.heap.size + 1 + 1 + 1 + 1, 0, none⟩), .int .i64 0] 71)) (some w3.heap.size) := .inr ⟨_, 0, rfl, blk_below hb36 hm1 (by simp; omega)⟩
  have hZ : EMap ((w5.alloc (.cells #[.pointer (some ⟨w3.heap.size + 1 + 1, 0, none⟩), .pointer (some ⟨w3.heap.size + 1 + 1 + 1, 0, none⟩), .slice none 0 0, .int .i64 0, .int .i64 0, .int .i64 0, .int .i64 0, .int .i64 0, .int .i64 0, .bool false, .int .i64 0, .int .i64 0, .int .i64 0, .int .i64 0] 69)).alloc (.cells #[.pointer (some ⟨b, 0, none⟩), .map (some w3.heap.size), .map (some (w3.heap.size + 1)), .pointer (some ⟨w3.heap.size + 1 + 1 + 1 + 1, 0, none⟩), .int .i64 0] 71)) (some (w3.heap.size + 1)) := .inr ⟨_, 0, rfl, blk_below hb36 hm2 (by simp)⟩
  have hd6 := hd2.below hb06 hd2.lt
  have t1 := blk_below hb06 s1 (blk_lt s1)
  have t2 := blk_below hb06 s2 (blk_lt s2)
  have hw6 := hw2.trans (hb06.mono hw2.size)
  clear x1 x2 y1 y2 hb56 hb36 hb06 hb35 hb03 hm1 hm2
  generalize (w5.alloc (.cells #[.pointer (some ⟨w3.heap.size + 1 + 1, 0, none⟩), .pointer (some ⟨w3.heap.size + 1 + 1 + 1, 0, none⟩), .slice none 0 0, .int .i64 0, .int .i64 0, .int .i64 0, .int .i64 0, .int .i64 0, .int .i64 0, .bool false, .int .i64 0, .int .i64 0, .int .i64 0, .int .i64 0] 69)).alloc (.cells #[.pointer (some ⟨b, 0, none⟩), .map (some w3.heap.size), .map (some (w3.heap.size + 1)), .pointer (some ⟨w3.heap.size + 1 + 1 + 1 + 1, 0, none⟩), .int .i64 0] 71) = w6 at hS hO hN hZ hd6 t1 t2 hw6 ⊢
  (refine (manifest_0 w6 _ _ _ _ _ hO hN).mono ?_; rintro e1 w7 ⟨rfl, rfl⟩; dsimp only; (repeat' ((fail_if_success at_builtin); first | go_values | go_skip | go_guarded | go_step | go_upon | go_back)))
  (refine (checkpoint_0 w7 _ _ _ _ _ _ _ _ _ _ _ hO hS).mono ?_; rintro e1 w8 ⟨rfl, rfl⟩; dsimp only; (repeat' ((fail_if_success at_builtin); first | go_values | go_skip | go_guarded | go_step | go_upon | go_back)))
  (refine (replay_0 w8 _ _ _ _ w.heap.size (by omega) _ _ _ k hO hS hZ (by omega) (by omega)).mono ?_; rintro e1 w9 ⟨rfl, hS9, hK9⟩; dsimp only; (repeat' ((fail_if_success at_builtin); first | go_values | go_skip | go_guarded | go_step | go_upon | go_back)))
  have hO9 : OP w9 _ _ _ _ _ := (hK9.kept _ (blk_lt hO) (by omega)).trans hO
  have hd9 : DK w9 b _ _ _ _ _ _ := (hK9.kept _ (blk_lt hd6) (by omega)).trans hd6
  have v1 := (hK9.kept _ (blk_lt t1) (by omega)).trans t1
  have v2 := (hK9.kept _ (blk_lt t2) (by omega)).trans t2
  (refine (mend_0 w9 _ b _ _ _ n0 hn0 _ _ _ _ _ _ hO9 hS9 hd9).mono ?_; rintro e1 w10 ⟨rfl, hd10, hK10⟩; dsimp only)
  have hO10 : OP w10 _ _ _ _ _ := (hK10.kept _ (blk_lt hO9) (by omega)).trans hO9
  have hS10 : ST w10 _ _ _ _ _ _ _ := (hK10.kept _ (blk_lt hS9) (by omega)).trans hS9
  have u1 := (hK10.kept _ (blk_lt v1) (by omega)).trans v1
  have u2 := (hK10.kept _ (blk_lt v2) (by omega)).trans v2
  obtain ⟨c0, c1, c2, c3, c4⟩ := hO10.c
  obtain ⟨x1, x2⟩ := blk1 u1
  obtain ⟨y1, y2⟩ := blk1 u2
  (repeat' ((fail_if_success at_builtin); first | go_values | go_skip | go_guarded | go_step | go_upon | go_back))
  clear x1 x2 y1 y2 c0 c1 c2 c3 c4
  refine leaves_cons (f := 12) (args := #[.pointer (some ⟨w.heap.size, 0, none⟩), .pointer (some ⟨w.heap.size + 1, 0, none⟩)]) (by simp) (by simp [go_sem]) ?_
  refine (catch_idle _ _ _).mono ?_
  rintro e u' w'' ⟨rfl, rfl, rfl⟩
  have z1 := blk_set_other (blk_set u1 0 (.pointer (some ⟨w3.heap.size + 1 + 1 + 1 + 1, 0, none⟩))) (by omega : w.heap.size ≠ w.heap.size + 1) 0 (.int .i64 0)
  have z2 := blk_set (blk_set_other u2 (by omega : w.heap.size + 1 ≠ w.heap.size) 0 (.pointer (some ⟨w3.heap.size + 1 + 1 + 1 + 1, 0, none⟩))) 0 (.int .i64 0)
  have zS : ST ((w10.setCell ⟨w.heap.size, 0, none⟩ (.pointer (some ⟨w3.heap.size + 1 + 1 + 1 + 1, 0, none⟩))).setCell ⟨w.heap.size + 1, 0, none⟩ (.int .i64 0)) _ _ _ _ _ _ _ := blk_set_other (blk_set_other hS10 (by omega) 0 _) (by omega) 0 _
  obtain ⟨mm, hdm⟩ := hd10
  have zD : DK ((w10.setCell ⟨w.heap.size, 0, none⟩ (.pointer (some ⟨w3.heap.size + 1 + 1 + 1 + 1, 0, none⟩))).setCell ⟨w.heap.size + 1, 0, none⟩ (.int .i64 0)) b _ _ _ _ _ _ := blk_set_other (blk_set_other hdm (by omega) 0 _) (by omega) 0 _
  have zb : Below n0 w ((w10.setCell ⟨w.heap.size, 0, none⟩ (.pointer (some ⟨w3.heap.size + 1 + 1 + 1 + 1, 0, none⟩))).setCell ⟨w.heap.size + 1, 0, none⟩ (.int .i64 0)) :=
    ((((hw6.mono (by omega)).trans (hK9.below.mono (by omega))).trans hK10.below).setCell (by simp; omega) _).setCell (by simp; omega) _
  obtain ⟨x1, x2⟩ := blk1 z1
  obtain ⟨y1, y2⟩ := blk1 z2
  refine ⟨.tuple #[.pointer (some ⟨w3.heap.size + 1 + 1 + 1 + 1, 0, none⟩), .int .i64 0], ?_, ⟨_, _, _, rfl, zS⟩, ⟨mm, zD⟩, zb⟩
  simp [results, Tryz.results5, go_sem, x1, y1]

end Go.Proofs.YthkfbhkedkangaaGreat
