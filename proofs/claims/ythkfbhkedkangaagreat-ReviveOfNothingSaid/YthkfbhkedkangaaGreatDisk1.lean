/- A disk without a file: New, names, List, lives, bury, SyncNames. No condition. -/
import Derived.Test.YthkfbhkedkangaaGreatNil1
import Derived.Shelf.Abstract
namespace Go.Proofs.YthkfbhkedkangaaGreat
open Go.RowKit
set_option linter.unusedVariables false
set_option linter.unusedSimpArgs false

def dkc (sf tn ps pr : Value) (k : Int) (off : Bool) : Array Value := #[.int .i64 100, .int .i64 4, .int .i64 0, .map none, sf, tn, ps, pr, .int .i64 k, .int .i64 0, .bool off]
/-- A disk that has no file. -/
def DK (w : World) (b : Nat) (sf tn ps pr : Value) (k : Int) (off : Bool) : Prop := w.heap[b]? = some (.cells (dkc sf tn ps pr k off) 79 (0, 0))
theorem DK.lt {w : World} {b : Nat} {sf tn ps pr : Value} {k : Int} {off : Bool} (h : DK w b sf tn ps pr k off) : b < w.heap.size := blk_lt h
theorem DK.c {w : World} {b : Nat} {sf tn ps pr : Value} {k : Int} {off : Bool} (h : DK w b sf tn ps pr k off) :
    w.cell? ⟨b, 3, none⟩ = some (.map none) ∧ w.cell? ⟨b, 4, none⟩ = some sf ∧ w.cell? ⟨b, 5, none⟩ = some tn ∧ w.cell? ⟨b, 6, none⟩ = some ps ∧ w.cell? ⟨b, 7, none⟩ = some pr ∧ w.cell? ⟨b, 8, none⟩ = some (.int .i64 k) ∧ w.cell? ⟨b, 9, none⟩ = some (.int .i64 0) ∧ w.cell? ⟨b, 10, none⟩ = some (.bool off) :=
  ⟨blk_cell h 3, blk_cell h 4, blk_cell h 5, blk_cell h 6, blk_cell h 7, blk_cell h 8, blk_cell h 9, blk_cell h 10⟩
theorem DK.f {w : World} {b : Nat} {sf tn ps pr : Value} {k : Int} {off : Bool} (h : DK w b sf tn ps pr k off) :
    w.frozen? ⟨b, 4, none⟩ = false ∧ w.frozen? ⟨b, 5, none⟩ = false ∧ w.frozen? ⟨b, 6, none⟩ = false ∧ w.frozen? ⟨b, 7, none⟩ = false ∧ w.frozen? ⟨b, 8, none⟩ = false ∧ w.frozen? ⟨b, 9, none⟩ = false ∧ w.frozen? ⟨b, 10, none⟩ = false :=
  ⟨blk_free h 4, blk_free h 5, blk_free h 6, blk_free h 7, blk_free h 8, blk_free h 9, blk_free h 10⟩
theorem DK.alloc {w : World} {b : Nat} {sf tn ps pr : Value} {k : Int} {off : Bool} (h : DK w b sf tn ps pr k off) (o : Obj) : DK (w.alloc o) b sf tn ps pr k off := blk_alloc h o
theorem DK.below {w w' : World} {n b : Nat} {sf tn ps pr : Value} {k : Int} {off : Bool} (h : DK w b sf tn ps pr k off) (hb : Below n w w') (hn : b < n) : DK w' b sf tn ps pr k off := blk_below hb h hn

/-- All but block s lies as it lay. -/
structure Kp (w w' : World) (s n0 : Nat) : Prop where
  below : Below n0 w w'
  kept : ∀ j, j < w.heap.size → j ≠ s → w'.heap[j]? = w.heap[j]?
theorem Kp.refl (w : World) (s n0 : Nat) : Kp w w s n0 := ⟨Below.refl _ _, fun _ _ _ => rfl⟩
theorem Kp.set {w w' : World} {s n0 : Nat} (h : Kp w w' s n0) (hn : n0 ≤ s) (i : Nat) (v : Value) : Kp w (w'.setCell ⟨s, i, none⟩ v) s n0 :=
  ⟨h.below.setCell hn v, fun j hj hne => (Below.heap_setCell w' ⟨s, i, none⟩ v j hne).trans (h.kept j hj hne)⟩
theorem Kp.step {w w' w2 : World} {s n0 m : Nat} (h : Kp w w' s n0) (hn : n0 ≤ m) (hb : Below m w' w2) (hm : w.heap.size ≤ m) : Kp w w2 s n0 :=
  ⟨h.below.trans (hb.mono hn), fun j hj hne => (hb.block j (Nat.lt_of_lt_of_le hj hm)).trans (h.kept j hj hne)⟩
theorem Kp.drew {w w' : World} {s n0 : Nat} (h : Kp w w' s n0) : Kp w w'.drew s n0 := ⟨h.below.drew, h.kept⟩
theorem Kp.trans {a b c : World} {s n0 : Nat} (h : Kp a b s n0) (k : Kp b c s n0) : Kp a c s n0 :=
  ⟨h.below.trans k.below, fun j hj hne => (k.kept j (Nat.lt_of_lt_of_le hj h.below.size) hne).trans (h.kept j hj hne)⟩

set_option maxRecDepth 20000 in
set_option maxHeartbeats 1000000 in
theorem new_any (w : World) : Calls Tryz.prog 6 #[.int .i64 100, .int .i64 4] w fun e' w' => e' = .returned (.tuple #[.pointer (some ⟨w.heap.size, 0, none⟩), .int .i64 0]) ∧
    DK w' w.heap.size (.map none) (.slice none 0 0) (.slice none 0 0) (.slice none 0 0) 0 false ∧ Below w.heap.size w w' := by
  go_enter Tryz.func6, Tryz.ntmps6
  (repeat' ((fail_if_success at_builtin); first | go_values | go_skip | go_guarded | go_step | go_upon | go_back))
  refine bodyPost_ret (results_tmp2 rfl _ _ _) rfl ⟨rfl, blk_new _ _, by (repeat' (first | (with_reducible exact Below.refl _ _) | (with_reducible assumption) | (with_reducible refine Below.drew ?_) | (with_reducible refine bdrewN ?_ _) | (with_reducible refine Below.alloc ?_ ?_ _) | (with_reducible refine Below.setCell ?_ ?_ _) | omega | (simp; done) | (simp; omega)))⟩

theorem run_mapnil (W : World) (m : Option Nat) : (binOp .eql 76 (.map m) (.map none)).run Tryz.prog W = .ok (.bool m.isNone) W := by
  simp [binOp, run_equal_map_nil W _ _ _ m Tryz.underlying76]

set_option maxRecDepth 20000 in
set_option maxHeartbeats 1000000 in
theorem clone_0 (w : World) : Calls Tryz.prog 132 #[.map none] w fun e' w' => e' = .returned (.map none) ∧ w' = w := by
  have hn := fun W => run_mapnil W none
  go_enter Tryz.func132, Tryz.ntmps132
  (repeat' ((fail_if_success at_builtin); first | go_values | go_skip | go_guarded | go_step | go_upon | go_back))
  refine bodyPost_ret (results_tmp rfl _ _ _) rfl ⟨rfl, rfl⟩

set_option maxRecDepth 20000 in
set_option maxHeartbeats 1000000 in
theorem names_0 (w : World) (b : Nat) {tn ps pr : Value} {k : Int} {off : Bool} (h : DK w b (.map none) tn ps pr k off) :
    Calls Tryz.prog 74 #[.pointer (some ⟨b, 0, none⟩), .slice none 0 0] w fun e' w' => e' = .returned (.map (some w.heap.size)) ∧ w' = w.alloc (.map #[] 0) := by
  obtain ⟨c3, c4, c5, c6, c7, c8, c9, c10⟩ := h.c
  clear h
  have hmm := @run_makeMap Tryz.prog
  have hn := fun W => run_mapnil W none
  go_enter Tryz.func74, Tryz.ntmps74
  (repeat' ((fail_if_success at_builtin); first | go_values | go_skip | go_guarded | go_step | go_upon | go_back))
  (refine (clone_0 _).mono ?_; rintro e1 w1 ⟨rfl, rfl⟩; dsimp only; (repeat' ((fail_if_success at_builtin); first | go_values | go_skip | go_guarded | go_step | go_upon | go_back)))
  refine wp_loop_rounds 1 ?_; rw [rounds_succ]
  (repeat' ((fail_if_success at_builtin); first | go_values | go_skip | go_guarded | go_step | go_upon | go_back))
  refine bodyPost_ret (results_tmp rfl _ _ _) rfl ⟨rfl, rfl⟩

set_option maxRecDepth 20000 in
set_option maxHeartbeats 1000000 in
theorem now_0 (w : World) (b : Nat) {ps pr : Value} {k : Int} {off : Bool} (h : DK w b (.map none) (.slice none 0 0) ps pr k off) :
    Calls Tryz.prog 35 #[.pointer (some ⟨b, 0, none⟩)] w fun e' w' => e' = .returned (.map (some w.heap.size)) ∧ w' = w.alloc (.map #[] 0) := by
  obtain ⟨c3, c4, c5, c6, c7, c8, c9, c10⟩ := h.c
  go_enter Tryz.func35, Tryz.ntmps35
  (repeat' ((fail_if_success at_builtin); first | go_values | go_skip | go_guarded | go_step | go_upon | go_back))
  (refine (names_0 _ _ h).mono ?_; rintro e1 w1 ⟨rfl, rfl⟩; dsimp only; (repeat' ((fail_if_success at_builtin); first | go_values | go_skip | go_guarded | go_step | go_upon | go_back)))
  refine bodyPost_ret (results_tmp rfl _ _ _) rfl ⟨rfl, rfl⟩

set_option maxRecDepth 20000 in
set_option maxHeartbeats 1000000 in
theorem list_off (w : World) (b : Nat) {sf tn ps pr : Value} {k : Int} (h : DK w b sf tn ps pr k true) :
    Calls Tryz.prog 13 #[.pointer (some ⟨b, 0, none⟩)] w fun e' w' => e' = .returned (.tuple #[.slice none 0 0, .int .i64 11]) ∧ w' = w := by
  obtain ⟨c3, c4, c5, c6, c7, c8, c9, c10⟩ := h.c
  clear h
  go_enter Tryz.func13, Tryz.ntmps13
  (repeat' ((fail_if_success at_builtin); first | go_values | go_skip | go_guarded | go_step | go_upon | go_back))
  refine bodyPost_ret (results_tmp2 rfl _ _ _) rfl ⟨rfl, rfl⟩

set_option maxRecDepth 20000 in
set_option maxHeartbeats 1000000 in
theorem list_0 (w : World) (b : Nat) {ps pr : Value} {k : Int} (h : DK w b (.map none) (.slice none 0 0) ps pr k false) :
    Calls Tryz.prog 13 #[.pointer (some ⟨b, 0, none⟩)] w fun e' w' => e' = .returned (.tuple #[.slice none 0 0, .int .i64 0]) ∧ Below w.heap.size w w' := by
  obtain ⟨c3, c4, c5, c6, c7, c8, c9, c10⟩ := h.c
  have hb0 : Below w.heap.size w (w.alloc (.map #[] 0)) := (Below.refl _ w).alloc (Nat.le_refl _) _
  go_enter Tryz.func13, Tryz.ntmps13
  (repeat' ((fail_if_success at_builtin); first | go_values | go_skip | go_guarded | go_step | go_upon | go_back))
  (refine (now_0 _ _ h).mono ?_; rintro e1 w1 ⟨rfl, rfl⟩; dsimp only; (repeat' ((fail_if_success at_builtin); first | go_values | go_skip | go_guarded | go_step | go_upon | go_back)))
  (refine (keysS_of _ _ (EMap.made w)).mono ?_; rintro e1 w2 ⟨rfl, hy, hb2⟩; dsimp only)
  rw [World.size_alloc] at hy
  (repeat' ((fail_if_success at_builtin); first | go_values | go_skip | go_guarded | go_step | go_upon | go_back))
  (refine (sorted_str _ (enters_of Tryz.func73 (by kernel_rfl) rfl) hy).mono ?_; rintro e1 w3 ⟨rfl, hb3⟩; dsimp only; (repeat' ((fail_if_success at_builtin); first | go_values | go_skip | go_guarded | go_step | go_upon | go_back)))
  refine bodyPost_ret (results_tmp2 rfl _ _ _) rfl ⟨rfl, (hb0.trans (hb2.mono hb0.size)).trans (hb3.mono (hb0.trans (hb2.mono hb0.size)).size)⟩

set_option maxRecDepth 20000 in
set_option maxHeartbeats 1000000 in
theorem alive_0 (w : World) (m : Option Nat) (hm : EMap w m) : Calls Tryz.prog 56 #[.map m, .slice none 0 0] w fun e' w' => e' = .returned (.slice none 0 0) ∧ Below w.heap.size w w' := by
  go_enter Tryz.func56, Tryz.ntmps56
  (repeat' ((fail_if_success at_builtin); first | go_values | go_skip | go_guarded | go_step | go_upon | go_back))
  (refine (vals_of _ _ hm).mono ?_; rintro e1 w1 ⟨rfl, hy, hb1⟩; dsimp only; (repeat' ((fail_if_success at_builtin); first | go_values | go_skip | go_guarded | go_step | go_upon | go_back)))
  (refine (collect_int _ (enters_of Tryz.func154 (by kernel_rfl) rfl) hy).mono ?_; rintro e1 w2 ⟨rfl, hb2⟩; dsimp only; (repeat' ((fail_if_success at_builtin); first | go_values | go_skip | go_guarded | go_step | go_upon | go_back)))
  refine wp_loop_rounds 1 ?_; rw [rounds_succ]
  (repeat' ((fail_if_success at_builtin); first | go_values | go_skip | go_guarded | go_step | go_upon | go_back))
  (refine (sort_int _).mono ?_; rintro e1 w3 ⟨rfl, rfl⟩; dsimp only; (repeat' ((fail_if_success at_builtin); first | go_values | go_skip | go_guarded | go_step | go_upon | go_back)))
  (refine (compact_0 _).mono ?_; rintro e1 w4 ⟨rfl, rfl⟩; dsimp only; (repeat' ((fail_if_success at_builtin); first | go_values | go_skip | go_guarded | go_step | go_upon | go_back)))
  refine bodyPost_ret (results_tmp rfl _ _ _) rfl ⟨rfl, hb1.trans (hb2.mono hb1.size)⟩

set_option maxRecDepth 20000 in
set_option maxHeartbeats 1000000 in
theorem lives_0 (w : World) (b : Nat) (m : Option Nat) {ps pr : Value} {k : Int} {off : Bool} (h : DK w b (.map m) (.slice none 0 0) ps pr k off) (hm : EMap w m) :
    Calls Tryz.prog 27 #[.pointer (some ⟨b, 0, none⟩)] w fun e' w' => e' = .returned (.slice none 0 0) ∧ Below w.heap.size w w' := by
  obtain ⟨c3, c4, c5, c6, c7, c8, c9, c10⟩ := h.c
  clear h
  have hm1 : EMap w.drew m := hm
  go_enter Tryz.func27, Tryz.ntmps27
  (repeat' ((fail_if_success at_builtin); first | go_values | go_skip | go_guarded | go_step | go_upon | go_back))
  go_region_with (go_at_call 56; refine (alive_0 _ m hm1).mono ?_; rintro e1 w1 ⟨rfl, hb⟩; dsimp only)
  all_goals ((repeat' ((fail_if_success at_builtin); first | go_values | go_skip | go_guarded | go_step | go_upon | go_back)))
  all_goals (refine bodyPost_ret (v := .slice none 0 0) (by simp [results, Tryz.results27, go_sem]) rfl ⟨rfl, (Below.refl _ w).drew.trans hb⟩)

set_option maxRecDepth 20000 in
set_option maxHeartbeats 1000000 in
theorem del_0 (w : World) (f : Value) : Calls Tryz.prog 227 #[.map none, f] w fun e' w' => e' = .returned (.tuple #[]) ∧ Below w.heap.size w w' := by
  have hrg := run_range_n (P := Tryz.prog) (w := w) 75 _ _ Tryz.underlying75
  have hnx := fun ty => run_next_n (P := Tryz.prog) (w := w.alloc (.mapIter none 0 #[] 0)) ty (r := w.heap.size) (s := 0) (l := 0) (World.alloc_heap_new _ _)
  go_enter Tryz.func227, Tryz.ntmps227
  (repeat' ((fail_if_success at_builtin); first | go_values | go_skip | go_guarded | go_step | go_upon | go_back))
  refine wp_loop_rounds 1 ?_; rw [rounds_succ]
  (repeat' ((fail_if_success at_builtin); first | go_values | go_skip | go_guarded | go_step | go_upon | go_back))
  refine bodyPost_end (results_none rfl _ _ _) rfl ⟨rfl, by (repeat' (first | (with_reducible exact Below.refl _ _) | (with_reducible assumption) | (with_reducible refine Below.drew ?_) | (with_reducible refine bdrewN ?_ _) | (with_reducible refine Below.alloc ?_ ?_ _) | (with_reducible refine Below.setCell ?_ ?_ _) | omega | (simp; done) | (simp; omega)))⟩

set_option maxRecDepth 20000 in
set_option maxHeartbeats 1000000 in
theorem bury_0 (w : World) (b : Nat) (m : Option Nat) {ps pr : Value} {k : Int} {off : Bool} (h : DK w b (.map m) (.slice none 0 0) ps pr k off) (hm : EMap w m) :
    Calls Tryz.prog 153 #[.pointer (some ⟨b, 0, none⟩)] w fun e' w' => e' = .returned (.tuple #[]) ∧ Below w.heap.size w w' := by
  have hmf : ∀ (fn : Fn) (first cap : Array Value) (w : World), (Instr.makeFunc fn first cap).run Tryz.prog w = .ok (.func fn first cap) w := fun _ _ _ _ => rfl
  go_enter Tryz.func153, Tryz.ntmps153
  (repeat' ((fail_if_success at_builtin); first | go_values | go_skip | go_guarded | go_step | go_upon | go_back))
  (refine (lives_0 _ _ _ h hm).mono ?_; rintro e1 w1 ⟨rfl, hb1⟩; dsimp only)
  obtain ⟨c3, c4, c5, c6, c7, c8, c9, c10⟩ := ((h.below hb1 h.lt).alloc (.cells #[.slice none 0 0] 86)).c
  clear h
  (repeat' ((fail_if_success at_builtin); first | go_values | go_skip | go_guarded | go_step | go_upon | go_back))
  (refine (del_0 _ _).mono ?_; rintro e1 w2 ⟨rfl, hb2⟩; dsimp only; (repeat' ((fail_if_success at_builtin); first | go_values | go_skip | go_guarded | go_step | go_upon | go_back)))
  have hb3 := hb1.alloc hb1.size (.cells #[.slice none 0 0] 86)
  refine bodyPost_end (results_none rfl _ _ _) rfl ⟨rfl, hb3.trans (hb2.mono hb3.size)⟩

set_option maxRecDepth 20000 in
set_option maxHeartbeats 1000000 in
theorem settle_0 (w : World) (b n0 : Nat) (hn : n0 ≤ b) (m : Nat) {sf tn ps pr : Value} {k : Int} {off : Bool} (h : DK w b sf tn ps pr k off) (hm : EMap w (some m)) :
    Calls Tryz.prog 111 #[.pointer (some ⟨b, 0, none⟩), .map (some m)] w fun e' w' => e' = .returned (.tuple #[]) ∧ DK w' b (.map (some m)) (.slice none 0 0) ps pr k off ∧ Kp w w' b n0 := by
  obtain ⟨c3, c4, c5, c6, c7, c8, c9, c10⟩ := h.c
  obtain ⟨f4, f5, f6, f7, f8, f9, f10⟩ := h.f
  have h2 : DK ((w.setCell ⟨b, 4, none⟩ (.map (some m))).setCell ⟨b, 5, none⟩ (.slice none 0 0)) b (.map (some m)) (.slice none 0 0) ps pr k off := blk_set (blk_set h 4 _) 5 _
  have hb2 : Below n0 w ((w.setCell ⟨b, 4, none⟩ (.map (some m))).setCell ⟨b, 5, none⟩ (.slice none 0 0)) := by (repeat' (first | (with_reducible exact Below.refl _ _) | (with_reducible assumption) | (with_reducible refine Below.drew ?_) | (with_reducible refine bdrewN ?_ _) | (with_reducible refine Below.alloc ?_ ?_ _) | (with_reducible refine Below.setCell ?_ ?_ _) | omega | (simp; done) | (simp; omega)))
  have hm2 : EMap ((w.setCell ⟨b, 4, none⟩ (.map (some m))).setCell ⟨b, 5, none⟩ (.slice none 0 0)) (some m) := by
    rcases hm with h1 | ⟨g, c, h1, h3⟩
    · cases h1
    · have hne : g ≠ b := fun e => by subst e; unfold DK at h; rw [h3] at h; cases h
      exact .inr ⟨g, c, h1, blk_set_other (blk_set_other h3 hne _ _) hne _ _⟩
  go_enter Tryz.func111, Tryz.ntmps111
  (repeat' ((fail_if_success at_builtin); first | go_values | go_skip | go_guarded | go_step | go_upon | go_back))
  (refine (bury_0 _ _ _ h2 hm2).mono ?_; rintro e1 w2 ⟨rfl, hb3⟩; dsimp only; (repeat' ((fail_if_success at_builtin); first | go_values | go_skip | go_guarded | go_step | go_upon | go_back)))
  have hl := h2.lt
  refine bodyPost_end (results_none rfl _ _ _) rfl ⟨rfl, h2.below hb3 hl, (((Kp.refl w b n0).set hn 4 _).set hn 5 _).step (by omega) hb3 hb2.size⟩

end Go.Proofs.YthkfbhkedkangaaGreat
