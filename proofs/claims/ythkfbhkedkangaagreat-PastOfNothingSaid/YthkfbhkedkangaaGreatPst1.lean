/- past over a disk without a file: the parts. No condition. -/
import Derived.Test.YthkfbhkedkangaaGreatDisk3
import Derived.RegionIn
namespace Go.Proofs.YthkfbhkedkangaaGreat
open Go.RowKit
set_option linter.unusedVariables false
set_option linter.unusedSimpArgs false

set_option maxRecDepth 20000 in
set_option maxHeartbeats 1000000 in
theorem pdqc_0 (k : Int) (f : Value) (w : World) : Calls Tryz.prog 114 #[.slice none 0 0, .int .i64 0, .int .i64 0, .int .i64 k, f] w fun e' w' => e' = .returned (.tuple #[]) ∧ w' = w := by
  go_enter Tryz.func114, Tryz.ntmps114
  (repeat' ((fail_if_success at_builtin); first | go_values | go_skip | go_guarded | go_step | go_upon | go_back))
  refine wp_loop_rounds 1 ?_; rw [rounds_succ]
  (repeat' ((fail_if_success at_builtin); first | go_values | go_skip | go_guarded | go_step | go_upon | go_back))
  go_in
  (repeat' ((fail_if_success at_builtin); first | go_values | go_skip | go_guarded | go_step | go_upon | go_back))
  refine wp_loop_rounds 1 ?_; rw [rounds_succ]
  (repeat' ((fail_if_success at_builtin); first | go_values | go_skip | go_guarded | go_step | go_upon | go_back))
  (go_end0; dsimp only; (repeat' ((fail_if_success at_builtin); first | go_values | go_skip | go_guarded | go_step | go_upon | go_back)))
  refine bodyPost_ret (results_none rfl _ _ _) rfl ⟨rfl, rfl⟩

set_option maxRecDepth 20000 in
set_option maxHeartbeats 1000000 in
theorem sortf_0 (f : Value) (w : World) : Calls Tryz.prog 60 #[.slice none 0 0, f] w fun e' w' => e' = .returned (.tuple #[]) ∧ w' = w := by
  go_enter Tryz.func60, Tryz.ntmps60
  (repeat' ((fail_if_success at_builtin); first | go_values | go_skip | go_guarded | go_step | go_upon | go_back))
  (refine (len_0 _).mono ?_; rintro e1 w1 ⟨rfl, rfl⟩; dsimp only; (repeat' ((fail_if_success at_builtin); first | go_values | go_skip | go_guarded | go_step | go_upon | go_back)))
  (refine (pdqc_0 _ _ _).mono ?_; rintro e1 w1 ⟨rfl, rfl⟩; dsimp only; (repeat' ((fail_if_success at_builtin); first | go_values | go_skip | go_guarded | go_step | go_upon | go_back)))
  refine bodyPost_end (results_none rfl _ _ _) rfl ⟨rfl, rfl⟩

set_option maxRecDepth 20000 in
set_option maxHeartbeats 1000000 in
theorem numbers_0 (f : Value) (w : World) : Calls Tryz.prog 31 #[.slice none 0 0, f] w fun e' w' => e' = .returned (.slice none 0 0) ∧ w' = w := by
  go_enter Tryz.func31, Tryz.ntmps31
  (repeat' ((fail_if_success at_builtin); first | go_values | go_skip | go_guarded | go_step | go_upon | go_back))
  refine wp_loop_rounds 1 ?_; rw [rounds_succ]
  (repeat' ((fail_if_success at_builtin); first | go_values | go_skip | go_guarded | go_step | go_upon | go_back))
  (refine (sort_int _).mono ?_; rintro e1 w1 ⟨rfl, rfl⟩; dsimp only; (repeat' ((fail_if_success at_builtin); first | go_values | go_skip | go_guarded | go_step | go_upon | go_back)))
  refine bodyPost_ret (results_tmp rfl _ _ _) rfl ⟨rfl, rfl⟩

set_option maxRecDepth 20000 in
set_option maxHeartbeats 1000000 in
theorem images1_0 (w : World) (g o : Nat) (hc : w.cell? ⟨g, 0, none⟩ = some (.pointer (some ⟨o, 0, none⟩))) (ho : w.cell? ⟨o, 1, none⟩ = some (.slice none 0 0)) :
    Yields0 Tryz.prog 58 #[.pointer (some ⟨g, 0, none⟩)] w := by
  intro l W hW
  show Calls Tryz.prog 58 #[.func (.yield l) #[] #[], .pointer (some ⟨g, 0, none⟩)] W _
  have hlt : g < w.heap.size := World.block_lt_of_cell? w _ hc
  have hcW : W.cell? ⟨g, 0, none⟩ = some (.pointer (some ⟨o, 0, none⟩)) := (World.cell?_of_block (hW.block g hlt)).trans hc
  have hoW : W.cell? ⟨o, 1, none⟩ = some (.slice none 0 0) := (World.cell?_of_block (hW.block o (World.block_lt_of_cell? w _ ho))).trans ho
  clear hc ho hW
  go_enter Tryz.func58, Tryz.ntmps58
  (repeat' ((fail_if_success at_builtin); first | go_values | go_skip | go_guarded | go_step | go_upon | go_back))
  (refine (numbers_0 _ _).mono ?_; rintro e1 w1 ⟨rfl, rfl⟩; dsimp only; (repeat' ((fail_if_success at_builtin); first | go_values | go_skip | go_guarded | go_step | go_upon | go_back)))
  (refine (sortf_0 _ _).mono ?_; rintro e1 w2 ⟨rfl, rfl⟩; dsimp only; (repeat' ((fail_if_success at_builtin); first | go_values | go_skip | go_guarded | go_step | go_upon | go_back)))
  refine wp_loop_rounds 1 ?_; rw [rounds_succ]
  (repeat' ((fail_if_success at_builtin); first | go_values | go_skip | go_guarded | go_step | go_upon | go_back))
  refine bodyPost_end (results_none rfl _ _ _) rfl ⟨⟨_, rfl⟩, by (repeat' (first | (with_reducible exact Below.refl _ _) | (with_reducible assumption) | (with_reducible refine Below.drew ?_) | (with_reducible refine bdrewN ?_ _) | (with_reducible refine Below.alloc ?_ ?_ _) | (with_reducible refine Below.setCell ?_ ?_ _) | omega | (simp; done) | (simp; omega)))⟩

set_option maxRecDepth 20000 in
set_option maxHeartbeats 1000000 in
theorem images_0 (w : World) (o : Nat) (ho : w.cell? ⟨o, 1, none⟩ = some (.slice none 0 0)) :
    Calls Tryz.prog 30 #[.pointer (some ⟨o, 0, none⟩)] w fun e' w' => e' = .returned (.func (.func 58) #[] #[.pointer (some ⟨w.heap.size, 0, none⟩)]) ∧
      Yields0 Tryz.prog 58 #[.pointer (some ⟨w.heap.size, 0, none⟩)] w' ∧ Below w.heap.size w w' := by
  have hmf : ∀ (fn : Fn) (first cap : Array Value) (w : World), (Instr.makeFunc fn first cap).run Tryz.prog w = .ok (.func fn first cap) w := fun _ _ _ _ => rfl
  have hb : Below w.heap.size w (w.alloc (.cells #[.pointer (some ⟨o, 0, none⟩)] 92)) := by (repeat' (first | (with_reducible exact Below.refl _ _) | (with_reducible assumption) | (with_reducible refine Below.drew ?_) | (with_reducible refine bdrewN ?_ _) | (with_reducible refine Below.alloc ?_ ?_ _) | (with_reducible refine Below.setCell ?_ ?_ _) | omega | (simp; done) | (simp; omega)))
  have hy := images1_0 (w.alloc (.cells #[.pointer (some ⟨o, 0, none⟩)] 92)) w.heap.size o (blk_cell (blk_new w (.cells #[.pointer (some ⟨o, 0, none⟩)] 92)) 0) ((World.cell?_of_block (hb.block o (World.block_lt_of_cell? w _ ho))).trans ho)
  go_enter Tryz.func30, Tryz.ntmps30
  (repeat' ((fail_if_success at_builtin); first | go_values | go_skip | go_guarded | go_step | go_upon | go_back))
  refine bodyPost_ret (results_tmp rfl _ _ _) rfl ⟨rfl, hy, hb⟩

def imz : Value := .agg #[.int .i64 0, .int .i64 0, .slice none 0 0, .slice none 0 0]

set_option maxRecDepth 20000 in
set_option maxHeartbeats 1000000 in
theorem at_nil (u k : Int) (w : World) : Calls Tryz.prog 10 #[.pointer none, .int .i64 u, .int .i64 k] w fun e' w' => e' = .returned (.tuple #[imz, .int .i64 1]) ∧ Below w.heap.size w w' := by
  unfold imz
  go_enter Tryz.func10, Tryz.ntmps10
  (repeat' ((fail_if_success at_builtin); first | go_values | go_skip | go_guarded | go_step | go_upon | go_back))
  refine bodyPost_ret (v := .tuple #[.agg #[.int .i64 0, .int .i64 0, .slice none 0 0, .slice none 0 0], .int .i64 1]) (by simp [results, Tryz.results10, go_sem]) rfl ⟨rfl, by (repeat' (first | (with_reducible exact Below.refl _ _) | (with_reducible assumption) | (with_reducible refine Below.drew ?_) | (with_reducible refine bdrewN ?_ _) | (with_reducible refine Below.alloc ?_ ?_ _) | (with_reducible refine Below.setCell ?_ ?_ _) | omega | (simp; done) | (simp; omega)))⟩

set_option maxRecDepth 20000 in
set_option maxHeartbeats 1000000 in
theorem at_below (u k : Int) (a : Addr) (w : World) (hu : u < 0) : Calls Tryz.prog 10 #[.pointer (some a), .int .i64 u, .int .i64 k] w fun e' w' => e' = .returned (.tuple #[imz, .int .i64 1]) ∧ Below w.heap.size w w' := by
  unfold imz
  go_enter Tryz.func10, Tryz.ntmps10
  (repeat' ((fail_if_success at_builtin); first | go_values | go_skip | go_guarded | go_step | go_upon | go_back))
  refine bodyPost_ret (v := .tuple #[.agg #[.int .i64 0, .int .i64 0, .slice none 0 0, .slice none 0 0], .int .i64 1]) (by simp [results, Tryz.results10, go_sem]) rfl ⟨rfl, by (repeat' (first | (with_reducible exact Below.refl _ _) | (with_reducible assumption) | (with_reducible refine Below.drew ?_) | (with_reducible refine bdrewN ?_ _) | (with_reducible refine Below.alloc ?_ ?_ _) | (with_reducible refine Below.setCell ?_ ?_ _) | omega | (simp; done) | (simp; omega)))⟩

set_option maxRecDepth 20000 in
set_option maxHeartbeats 1000000 in
theorem at_above (u k : Int) (a : Addr) (w : World) (hu : 281474976710655 < u) : Calls Tryz.prog 10 #[.pointer (some a), .int .i64 u, .int .i64 k] w fun e' w' => e' = .returned (.tuple #[imz, .int .i64 1]) ∧ Below w.heap.size w w' := by
  unfold imz
  have h0 : decide (u < 0) = false := by simp; omega
  have h1 : decide (281474976710655 < u) = true := by simpa using hu
  clear hu
  go_enter Tryz.func10, Tryz.ntmps10
  (repeat' ((fail_if_success at_builtin); first | go_values | go_skip | go_guarded | go_step | go_upon | go_back))
  refine bodyPost_ret (v := .tuple #[.agg #[.int .i64 0, .int .i64 0, .slice none 0 0, .slice none 0 0], .int .i64 1]) (by simp [results, Tryz.results10, go_sem]) rfl ⟨rfl, by (repeat' (first | (with_reducible exact Below.refl _ _) | (with_reducible assumption) | (with_reducible refine Below.drew ?_) | (with_reducible refine bdrewN ?_ _) | (with_reducible refine Below.alloc ?_ ?_ _) | (with_reducible refine Below.setCell ?_ ?_ _) | omega | (simp; done) | (simp; omega)))⟩

set_option maxRecDepth 20000 in
set_option maxHeartbeats 1000000 in
theorem at_off (k : Int) (w : World) (b : Nat) {sf tn ps pr : Value} {j : Int} (h : DK w b sf tn ps pr j true) : Calls Tryz.prog 10 #[.pointer (some ⟨b, 0, none⟩), .int .i64 0, .int .i64 k] w fun e' w' => e' = .returned (.tuple #[imz, .int .i64 11]) ∧ Below w.heap.size w w' := by
  unfold imz
  have h2 := (h.alloc (.cells #[.int .i64 0] 3)).alloc (.cells #[.int .i64 0, .int .i64 0, .slice none 0 0, .slice none 0 0] 41)
  go_enter Tryz.func10, Tryz.ntmps10
  (repeat' ((fail_if_success at_builtin); first | go_values | go_skip | go_guarded | go_step | go_upon | go_back))
  (refine (list_off _ b h2).mono ?_; rintro e1 w1 ⟨rfl, rfl⟩; dsimp only; (repeat' ((fail_if_success at_builtin); first | go_values | go_skip | go_guarded | go_step | go_upon | go_back)))
  refine bodyPost_ret (v := .tuple #[.agg #[.int .i64 0, .int .i64 0, .slice none 0 0, .slice none 0 0], .int .i64 11]) (by simp [results, Tryz.results10, go_sem]) rfl ⟨rfl, by (repeat' (first | (with_reducible exact Below.refl _ _) | (with_reducible assumption) | (with_reducible refine Below.drew ?_) | (with_reducible refine bdrewN ?_ _) | (with_reducible refine Below.alloc ?_ ?_ _) | (with_reducible refine Below.setCell ?_ ?_ _) | omega | (simp; done) | (simp; omega)))⟩

end Go.Proofs.YthkfbhkedkangaaGreat
