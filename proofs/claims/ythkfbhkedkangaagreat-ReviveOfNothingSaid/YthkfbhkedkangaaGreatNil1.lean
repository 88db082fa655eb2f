/- Library functions on nothing: bits.Len of 0, the sorts of a nil slice, a sequence that hands on nothing. No condition. -/
import Derived.Test.YthkfbhkedkangaaGreatMapE
namespace Go.Proofs.YthkfbhkedkangaaGreat
open Go.RowKit
set_option linter.unusedVariables false
set_option linter.unusedSimpArgs false

set_option maxRecDepth 20000 in
set_option maxHeartbeats 1000000 in
theorem len_0 (w : World) : Calls Tryz.prog 115 #[.int .u64 0] w fun e' w' => e' = .returned (.int .i64 0) ∧ w' = w := by
  go_enter Tryz.func115, Tryz.ntmps115
  go_wp2
  refine bodyPost_ret (results_tmp rfl _ _ _) rfl ⟨by kernel_rfl, rfl⟩

set_option maxRecDepth 20000 in
set_option maxHeartbeats 1000000 in
theorem pdq_int (k : Int) (w : World) : Calls Tryz.prog 121 #[.slice none 0 0, .int .i64 0, .int .i64 0, .int .i64 k] w fun e' w' => e' = .returned (.tuple #[]) ∧ w' = w := by
  go_enter Tryz.func121, Tryz.ntmps121
  (repeat' ((fail_if_success at_builtin); first | go_values | go_skip | go_guarded | go_step | go_upon | go_back))
  refine wp_loop_rounds 1 ?_; rw [rounds_succ]
  (repeat' ((fail_if_success at_builtin); first | go_values | go_skip | go_guarded | go_step | go_upon | go_back))
  go_in
  (repeat' ((fail_if_success at_builtin); first | go_values | go_skip | go_guarded | go_step | go_upon | go_back))
  refine wp_loop_rounds 1 ?_; rw [rounds_succ]
  (repeat' ((fail_if_success at_builtin); first | go_values | go_skip | go_guarded | go_step | go_upon | go_back))
  (go_end0; dsimp only; (repeat' ((fail_if_success at_builtin); first | go_values | go_skip | go_guarded | go_step | go_upon | go_back)))
  refine bodyPost_ret (results_none rfl _ _ _) rfl ⟨rfl, rfl⟩

set_option maxRecDepth 20000 in
set_option maxHeartbeats 1000000 in
theorem aseq_int (w : World) {gf : Nat} {lb : Array Value} (eg : ∀ args w, (callFunc gf args).run Tryz.prog w = .ok (.enter gf args) w) (hy : Yields0 Tryz.prog gf lb w) :
    Calls Tryz.prog 151 #[.slice none 0 0, .func (.func gf) #[] lb] w fun e' w' => e' = .returned (.slice none 0 0) ∧ Below w.heap.size w w' := by
  refine (callsIn_wide (n := 6)).1 ?_
  refine callsIn_of_wp_marks Tryz.func151 rfl trivial ?_ rfl
  simp only [Tryz.ntmps151, List.size_toArray, List.length_cons, List.length_nil, Nat.reduceAdd, Nat.reduceSub, Array.replicate_succ, Array.replicate_zero, List.push_toArray, List.append_toArray, List.nil_append, List.cons_append]
  gi_wp2
  refine wpIn_rangeFunc_none (by omega) rfl eg rfl (hy.later ((Below.refl _ w).alloc (Nat.le_refl _) _)) ?_
  intro D W hD hb hK
  have hc : W.cell? ⟨w.heap.size, 0, none⟩ = some (.slice none 0 0) := by
    rw [World.cell?_of_block (hb.block _ (by simp))]
    simp [go_sem]
  gi_wp2
  refine ⟨by simp, .inl ⟨_, _, rfl, run_takeDeferred hK, ?_⟩⟩
  refine ⟨_, results_tmp rfl _ _ _, rfl, ?_⟩
  have hb0 : Below w.heap.size w W := ((Below.refl _ w).alloc (Nat.le_refl _) _).trans (hb.mono (by simp))
  exact hb0.trans (belowK_b (w := w) (Nat.le_refl _) W D _ _ (by simp at hD; omega) hK rfl rfl)

set_option maxRecDepth 20000 in
set_option maxHeartbeats 1000000 in
theorem sort_int (w : World) : Calls Tryz.prog 66 #[.slice none 0 0] w fun e' w' => e' = .returned (.tuple #[]) ∧ w' = w := by
  go_enter Tryz.func66, Tryz.ntmps66
  (repeat' ((fail_if_success at_builtin); first | go_values | go_skip | go_guarded | go_step | go_upon | go_back))
  (refine (len_0 _).mono ?_; rintro e1 w1 ⟨rfl, rfl⟩; dsimp only; (repeat' ((fail_if_success at_builtin); first | go_values | go_skip | go_guarded | go_step | go_upon | go_back)))
  (refine (pdq_int _ _).mono ?_; rintro e1 w1 ⟨rfl, rfl⟩; dsimp only; (repeat' ((fail_if_success at_builtin); first | go_values | go_skip | go_guarded | go_step | go_upon | go_back)))
  refine bodyPost_end (results_none rfl _ _ _) rfl ⟨rfl, rfl⟩

set_option maxRecDepth 20000 in
set_option maxHeartbeats 1000000 in
theorem collect_int (w : World) {gf : Nat} {lb : Array Value} (eg : ∀ args w, (callFunc gf args).run Tryz.prog w = .ok (.enter gf args) w) (hy : Yields0 Tryz.prog gf lb w) :
    Calls Tryz.prog 100 #[.func (.func gf) #[] lb] w fun e' w' => e' = .returned (.slice none 0 0) ∧ Below w.heap.size w w' := by
  go_enter Tryz.func100, Tryz.ntmps100
  (repeat' ((fail_if_success at_builtin); first | go_values | go_skip | go_guarded | go_step | go_upon | go_back))
  (refine (aseq_int _ eg hy).mono ?_; rintro e1 w1 ⟨rfl, hb⟩; dsimp only; (repeat' ((fail_if_success at_builtin); first | go_values | go_skip | go_guarded | go_step | go_upon | go_back)))
  refine bodyPost_ret (results_tmp rfl _ _ _) rfl ⟨rfl, hb⟩

set_option maxRecDepth 20000 in
set_option maxHeartbeats 1000000 in
theorem sorted_int (w : World) {gf : Nat} {lb : Array Value} (eg : ∀ args w, (callFunc gf args).run Tryz.prog w = .ok (.enter gf args) w) (hy : Yields0 Tryz.prog gf lb w) :
    Calls Tryz.prog 48 #[.func (.func gf) #[] lb] w fun e' w' => e' = .returned (.slice none 0 0) ∧ Below w.heap.size w w' := by
  go_enter Tryz.func48, Tryz.ntmps48
  (repeat' ((fail_if_success at_builtin); first | go_values | go_skip | go_guarded | go_step | go_upon | go_back))
  (refine (collect_int _ eg hy).mono ?_; rintro e1 w1 ⟨rfl, hb⟩; dsimp only; (repeat' ((fail_if_success at_builtin); first | go_values | go_skip | go_guarded | go_step | go_upon | go_back)))
  (refine (sort_int _).mono ?_; rintro e1 w1 ⟨rfl, rfl⟩; dsimp only; (repeat' ((fail_if_success at_builtin); first | go_values | go_skip | go_guarded | go_step | go_upon | go_back)))
  refine bodyPost_ret (results_tmp rfl _ _ _) rfl ⟨rfl, hb⟩

set_option maxRecDepth 20000 in
set_option maxHeartbeats 1000000 in
theorem pdq_str (k : Int) (w : World) : Calls Tryz.prog 131 #[.slice none 0 0, .int .i64 0, .int .i64 0, .int .i64 k] w fun e' w' => e' = .returned (.tuple #[]) ∧ w' = w := by
  go_enter Tryz.func131, Tryz.ntmps131
  (repeat' ((fail_if_success at_builtin); first | go_values | go_skip | go_guarded | go_step | go_upon | go_back))
  refine wp_loop_rounds 1 ?_; rw [rounds_succ]
  (repeat' ((fail_if_success at_builtin); first | go_values | go_skip | go_guarded | go_step | go_upon | go_back))
  go_in
  (repeat' ((fail_if_success at_builtin); first | go_values | go_skip | go_guarded | go_step | go_upon | go_back))
  refine wp_loop_rounds 1 ?_; rw [rounds_succ]
  (repeat' ((fail_if_success at_builtin); first | go_values | go_skip | go_guarded | go_step | go_upon | go_back))
  (go_end0; dsimp only; (repeat' ((fail_if_success at_builtin); first | go_values | go_skip | go_guarded | go_step | go_upon | go_back)))
  refine bodyPost_ret (results_none rfl _ _ _) rfl ⟨rfl, rfl⟩

set_option maxRecDepth 20000 in
set_option maxHeartbeats 1000000 in
theorem aseq_str (w : World) {gf : Nat} {lb : Array Value} (eg : ∀ args w, (callFunc gf args).run Tryz.prog w = .ok (.enter gf args) w) (hy : Yields0 Tryz.prog gf lb w) :
    Calls Tryz.prog 130 #[.slice none 0 0, .func (.func gf) #[] lb] w fun e' w' => e' = .returned (.slice none 0 0) ∧ Below w.heap.size w w' := by
  refine (callsIn_wide (n := 6)).1 ?_
  refine callsIn_of_wp_marks Tryz.func130 rfl trivial ?_ rfl
  simp only [Tryz.ntmps130, List.size_toArray, List.length_cons, List.length_nil, Nat.reduceAdd, Nat.reduceSub, Array.replicate_succ, Array.replicate_zero, List.push_toArray, List.append_toArray, List.nil_append, List.cons_append]
  gi_wp2
  refine wpIn_rangeFunc_none (by omega) rfl eg rfl (hy.later ((Below.refl _ w).alloc (Nat.le_refl _) _)) ?_
  intro D W hD hb hK
  have hc : W.cell? ⟨w.heap.size, 0, none⟩ = some (.slice none 0 0) := by
    rw [World.cell?_of_block (hb.block _ (by simp))]
    simp [go_sem]
  gi_wp2
  refine ⟨by simp, .inl ⟨_, _, rfl, run_takeDeferred hK, ?_⟩⟩
  refine ⟨_, results_tmp rfl _ _ _, rfl, ?_⟩
  have hb0 : Below w.heap.size w W := ((Below.refl _ w).alloc (Nat.le_refl _) _).trans (hb.mono (by simp))
  exact hb0.trans (belowK_b (w := w) (Nat.le_refl _) W D _ _ (by simp at hD; omega) hK rfl rfl)

set_option maxRecDepth 20000 in
set_option maxHeartbeats 1000000 in
theorem sort_str (w : World) : Calls Tryz.prog 72 #[.slice none 0 0] w fun e' w' => e' = .returned (.tuple #[]) ∧ w' = w := by
  go_enter Tryz.func72, Tryz.ntmps72
  (repeat' ((fail_if_success at_builtin); first | go_values | go_skip | go_guarded | go_step | go_upon | go_back))
  (refine (len_0 _).mono ?_; rintro e1 w1 ⟨rfl, rfl⟩; dsimp only; (repeat' ((fail_if_success at_builtin); first | go_values | go_skip | go_guarded | go_step | go_upon | go_back)))
  (refine (pdq_str _ _).mono ?_; rintro e1 w1 ⟨rfl, rfl⟩; dsimp only; (repeat' ((fail_if_success at_builtin); first | go_values | go_skip | go_guarded | go_step | go_upon | go_back)))
  refine bodyPost_end (results_none rfl _ _ _) rfl ⟨rfl, rfl⟩

set_option maxRecDepth 20000 in
set_option maxHeartbeats 1000000 in
theorem collect_str (w : World) {gf : Nat} {lb : Array Value} (eg : ∀ args w, (callFunc gf args).run Tryz.prog w = .ok (.enter gf args) w) (hy : Yields0 Tryz.prog gf lb w) :
    Calls Tryz.prog 71 #[.func (.func gf) #[] lb] w fun e' w' => e' = .returned (.slice none 0 0) ∧ Below w.heap.size w w' := by
  go_enter Tryz.func71, Tryz.ntmps71
  (repeat' ((fail_if_success at_builtin); first | go_values | go_skip | go_guarded | go_step | go_upon | go_back))
  (refine (aseq_str _ eg hy).mono ?_; rintro e1 w1 ⟨rfl, hb⟩; dsimp only; (repeat' ((fail_if_success at_builtin); first | go_values | go_skip | go_guarded | go_step | go_upon | go_back)))
  refine bodyPost_ret (results_tmp rfl _ _ _) rfl ⟨rfl, hb⟩

set_option maxRecDepth 20000 in
set_option maxHeartbeats 1000000 in
theorem sorted_str (w : World) {gf : Nat} {lb : Array Value} (eg : ∀ args w, (callFunc gf args).run Tryz.prog w = .ok (.enter gf args) w) (hy : Yields0 Tryz.prog gf lb w) :
    Calls Tryz.prog 33 #[.func (.func gf) #[] lb] w fun e' w' => e' = .returned (.slice none 0 0) ∧ Below w.heap.size w w' := by
  go_enter Tryz.func33, Tryz.ntmps33
  (repeat' ((fail_if_success at_builtin); first | go_values | go_skip | go_guarded | go_step | go_upon | go_back))
  (refine (collect_str _ eg hy).mono ?_; rintro e1 w1 ⟨rfl, hb⟩; dsimp only; (repeat' ((fail_if_success at_builtin); first | go_values | go_skip | go_guarded | go_step | go_upon | go_back)))
  (refine (sort_str _).mono ?_; rintro e1 w1 ⟨rfl, rfl⟩; dsimp only; (repeat' ((fail_if_success at_builtin); first | go_values | go_skip | go_guarded | go_step | go_upon | go_back)))
  refine bodyPost_ret (results_tmp rfl _ _ _) rfl ⟨rfl, hb⟩

set_option maxRecDepth 20000 in
set_option maxHeartbeats 1000000 in
theorem compact_0 (w : World) : Calls Tryz.prog 113 #[.slice none 0 0] w fun e' w' => e' = .returned (.slice none 0 0) ∧ w' = w := by
  go_enter Tryz.func113, Tryz.ntmps113
  (repeat' ((fail_if_success at_builtin); first | go_values | go_skip | go_guarded | go_step | go_upon | go_back))
  refine bodyPost_ret (results_tmp rfl _ _ _) rfl ⟨rfl, rfl⟩

/-- A map without an entry, nil or not. -/
def EMap (w : World) (m : Option Nat) : Prop := m = none ∨ ∃ b c, m = some b ∧ w.heap[b]? = some (.map #[] c)
theorem EMap.none_ (w : World) : EMap w none := .inl rfl
theorem EMap.below {w w' : World} {m : Option Nat} (h : EMap w m) (hb : Below w.heap.size w w') : EMap w' m := by
  rcases h with rfl | ⟨b, c, rfl, h⟩
  · exact .inl rfl
  · exact .inr ⟨b, c, rfl, (hb.block b (Array.getElem?_eq_some_iff.1 h).1).trans h⟩
theorem EMap.made (w : World) : EMap (w.alloc (.map #[] 0)) (some w.heap.size) := .inr ⟨_, 0, rfl, World.alloc_heap_new _ _⟩

set_option maxRecDepth 20000 in
set_option maxHeartbeats 1000000 in
theorem keysS (w : World) (g : Nat) (m : Option Nat) (hc : w.cell? ⟨g, 0, none⟩ = some (.map m)) (hm : EMap w m) : Yields0 Tryz.prog 73 #[.pointer (some ⟨g, 0, none⟩)] w := by
  intro l W hW
  show Calls Tryz.prog 73 #[.func (.yield l) #[] #[], .pointer (some ⟨g, 0, none⟩)] W _
  have hlt : g < w.heap.size := World.block_lt_of_cell? w _ hc
  have hcW : W.cell? ⟨g, 0, none⟩ = some (.map m) := (World.cell?_of_block (hW.block g hlt)).trans hc
  have hmW := hm.below hW
  clear hc hm hW
  rcases hmW with rfl | ⟨b, c, rfl, hb⟩
  · have hrg := run_range_n (P := Tryz.prog) (w := W) 76 _ _ Tryz.underlying76
    have hnx := fun ty => run_next_n (P := Tryz.prog) (w := W.alloc (.mapIter none 0 #[] 0)) ty (r := W.heap.size) (s := 0) (l := 0) (World.alloc_heap_new _ _)
    go_enter Tryz.func73, Tryz.ntmps73
    (repeat' ((fail_if_success at_builtin); first | go_values | go_skip | go_guarded | go_step | go_upon | go_back))
    refine wp_loop_rounds 1 ?_; rw [rounds_succ]
    (repeat' ((fail_if_success at_builtin); first | go_values | go_skip | go_guarded | go_step | go_upon | go_back))
    refine bodyPost_end (results_none rfl _ _ _) rfl ⟨⟨_, rfl⟩, by (repeat' (first | (with_reducible exact Below.refl _ _) | (with_reducible assumption) | (with_reducible refine Below.drew ?_) | (with_reducible refine bdrewN ?_ _) | (with_reducible refine Below.alloc ?_ ?_ _) | (with_reducible refine Below.setCell ?_ ?_ _) | omega | (simp; done) | (simp; omega)))⟩
  · have hrg := run_range_e (P := Tryz.prog) (w := W) 76 _ _ Tryz.underlying76 hb
    have hnx := fun ty => run_next_e (P := Tryz.prog) (w := W.alloc (.mapIter (some b) c #[] c)) ty (b := b) (r := W.heap.size) (c := c) (s := c) (l := c) (by rw [← hb]; exact ((Below.refl _ W).alloc (Nat.le_refl _) _).block b (Array.getElem?_eq_some_iff.1 hb).1) (World.alloc_heap_new _ _)
    clear hb
    go_enter Tryz.func73, Tryz.ntmps73
    (repeat' ((fail_if_success at_builtin); first | go_values | go_skip | go_guarded | go_step | go_upon | go_back))
    refine wp_loop_rounds 1 ?_; rw [rounds_succ]
    (repeat' ((fail_if_success at_builtin); first | go_values | go_skip | go_guarded | go_step | go_upon | go_back))
    refine bodyPost_end (results_none rfl _ _ _) rfl ⟨⟨_, rfl⟩, by (repeat' (first | (with_reducible exact Below.refl _ _) | (with_reducible assumption) | (with_reducible refine Below.drew ?_) | (with_reducible refine bdrewN ?_ _) | (with_reducible refine Below.alloc ?_ ?_ _) | (with_reducible refine Below.setCell ?_ ?_ _) | omega | (simp; done) | (simp; omega)))⟩

set_option maxRecDepth 20000 in
set_option maxHeartbeats 1000000 in
theorem keysS_of (w : World) (m : Option Nat) (hm : EMap w m) : Calls Tryz.prog 34 #[.map m] w fun e' w' => e' = .returned (.func (.func 73) #[] #[.pointer (some ⟨w.heap.size, 0, none⟩)]) ∧ Yields0 Tryz.prog 73 #[.pointer (some ⟨w.heap.size, 0, none⟩)] w' ∧ Below w.heap.size w w' := by
  have hb : Below w.heap.size w (w.alloc (.cells #[.map m] 76)) := (Below.refl _ w).alloc (Nat.le_refl _) _
  have hy := keysS (w.alloc (.cells #[.map m] 76)) w.heap.size m (by simp [go_sem]) (hm.below hb)
  go_enter Tryz.func34, Tryz.ntmps34
  (repeat' ((fail_if_success at_builtin); first | go_values | go_skip | go_guarded | go_step | go_upon | go_back))
  refine bodyPost_ret (results_tmp rfl _ _ _) rfl ⟨rfl, hy, hb⟩

set_option maxRecDepth 20000 in
set_option maxHeartbeats 1000000 in
theorem keysI (w : World) (g : Nat) (m : Option Nat) (hc : w.cell? ⟨g, 0, none⟩ = some (.map m)) (hm : EMap w m) : Yields0 Tryz.prog 101 #[.pointer (some ⟨g, 0, none⟩)] w := by
  intro l W hW
  show Calls Tryz.prog 101 #[.func (.yield l) #[] #[], .pointer (some ⟨g, 0, none⟩)] W _
  have hlt : g < w.heap.size := World.block_lt_of_cell? w _ hc
  have hcW : W.cell? ⟨g, 0, none⟩ = some (.map m) := (World.cell?_of_block (hW.block g hlt)).trans hc
  have hmW := hm.below hW
  clear hc hm hW
  rcases hmW with rfl | ⟨b, c, rfl, hb⟩
  · have hrg := run_range_n (P := Tryz.prog) (w := W) 53 _ _ Tryz.underlying53
    have hnx := fun ty => run_next_n (P := Tryz.prog) (w := W.alloc (.mapIter none 0 #[] 0)) ty (r := W.heap.size) (s := 0) (l := 0) (World.alloc_heap_new _ _)
    go_enter Tryz.func101, Tryz.ntmps101
    (repeat' ((fail_if_success at_builtin); first | go_values | go_skip | go_guarded | go_step | go_upon | go_back))
    refine wp_loop_rounds 1 ?_; rw [rounds_succ]
    (repeat' ((fail_if_success at_builtin); first | go_values | go_skip | go_guarded | go_step | go_upon | go_back))
    refine bodyPost_end (results_none rfl _ _ _) rfl ⟨⟨_, rfl⟩, by (repeat' (first | (with_reducible exact Below.refl _ _) | (with_reducible assumption) | (with_reducible refine Below.drew ?_) | (with_reducible refine bdrewN ?_ _) | (with_reducible refine Below.alloc ?_ ?_ _) | (with_reducible refine Below.setCell ?_ ?_ _) | omega | (simp; done) | (simp; omega)))⟩
  · have hrg := run_range_e (P := Tryz.prog) (w := W) 53 _ _ Tryz.underlying53 hb
    have hnx := fun ty => run_next_e (P := Tryz.prog) (w := W.alloc (.mapIter (some b) c #[] c)) ty (b := b) (r := W.heap.size) (c := c) (s := c) (l := c) (by rw [← hb]; exact ((Below.refl _ W).alloc (Nat.le_refl _) _).block b (Array.getElem?_eq_some_iff.1 hb).1) (World.alloc_heap_new _ _)
    clear hb
    go_enter Tryz.func101, Tryz.ntmps101
    (repeat' ((fail_if_success at_builtin); first | go_values | go_skip | go_guarded | go_step | go_upon | go_back))
    refine wp_loop_rounds 1 ?_; rw [rounds_succ]
    (repeat' ((fail_if_success at_builtin); first | go_values | go_skip | go_guarded | go_step | go_upon | go_back))
    refine bodyPost_end (results_none rfl _ _ _) rfl ⟨⟨_, rfl⟩, by (repeat' (first | (with_reducible exact Below.refl _ _) | (with_reducible assumption) | (with_reducible refine Below.drew ?_) | (with_reducible refine bdrewN ?_ _) | (with_reducible refine Below.alloc ?_ ?_ _) | (with_reducible refine Below.setCell ?_ ?_ _) | omega | (simp; done) | (simp; omega)))⟩

set_option maxRecDepth 20000 in
set_option maxHeartbeats 1000000 in
theorem keysI_of (w : World) (m : Option Nat) (hm : EMap w m) : Calls Tryz.prog 49 #[.map m] w fun e' w' => e' = .returned (.func (.func 101) #[] #[.pointer (some ⟨w.heap.size, 0, none⟩)]) ∧ Yields0 Tryz.prog 101 #[.pointer (some ⟨w.heap.size, 0, none⟩)] w' ∧ Below w.heap.size w w' := by
  have hb : Below w.heap.size w (w.alloc (.cells #[.map m] 53)) := (Below.refl _ w).alloc (Nat.le_refl _) _
  have hy := keysI (w.alloc (.cells #[.map m] 53)) w.heap.size m (by simp [go_sem]) (hm.below hb)
  go_enter Tryz.func49, Tryz.ntmps49
  (repeat' ((fail_if_success at_builtin); first | go_values | go_skip | go_guarded | go_step | go_upon | go_back))
  refine bodyPost_ret (results_tmp rfl _ _ _) rfl ⟨rfl, hy, hb⟩

set_option maxRecDepth 20000 in
set_option maxHeartbeats 1000000 in
theorem vals (w : World) (g : Nat) (m : Option Nat) (hc : w.cell? ⟨g, 0, none⟩ = some (.map m)) (hm : EMap w m) : Yields0 Tryz.prog 154 #[.pointer (some ⟨g, 0, none⟩)] w := by
  intro l W hW
  show Calls Tryz.prog 154 #[.func (.yield l) #[] #[], .pointer (some ⟨g, 0, none⟩)] W _
  have hlt : g < w.heap.size := World.block_lt_of_cell? w _ hc
  have hcW : W.cell? ⟨g, 0, none⟩ = some (.map m) := (World.cell?_of_block (hW.block g hlt)).trans hc
  have hmW := hm.below hW
  clear hc hm hW
  rcases hmW with rfl | ⟨b, c, rfl, hb⟩
  · have hrg := run_range_n (P := Tryz.prog) (w := W) 76 _ _ Tryz.underlying76
    have hnx := fun ty => run_next_n (P := Tryz.prog) (w := W.alloc (.mapIter none 0 #[] 0)) ty (r := W.heap.size) (s := 0) (l := 0) (World.alloc_heap_new _ _)
    go_enter Tryz.func154, Tryz.ntmps154
    (repeat' ((fail_if_success at_builtin); first | go_values | go_skip | go_guarded | go_step | go_upon | go_back))
    refine wp_loop_rounds 1 ?_; rw [rounds_succ]
    (repeat' ((fail_if_success at_builtin); first | go_values | go_skip | go_guarded | go_step | go_upon | go_back))
    refine bodyPost_end (results_none rfl _ _ _) rfl ⟨⟨_, rfl⟩, by (repeat' (first | (with_reducible exact Below.refl _ _) | (with_reducible assumption) | (with_reducible refine Below.drew ?_) | (with_reducible refine bdrewN ?_ _) | (with_reducible refine Below.alloc ?_ ?_ _) | (with_reducible refine Below.setCell ?_ ?_ _) | omega | (simp; done) | (simp; omega)))⟩
  · have hrg := run_range_e (P := Tryz.prog) (w := W) 76 _ _ Tryz.underlying76 hb
    have hnx := fun ty => run_next_e (P := Tryz.prog) (w := W.alloc (.mapIter (some b) c #[] c)) ty (b := b) (r := W.heap.size) (c := c) (s := c) (l := c) (by rw [← hb]; exact ((Below.refl _ W).alloc (Nat.le_refl _) _).block b (Array.getElem?_eq_some_iff.1 hb).1) (World.alloc_heap_new _ _)
    clear hb
    go_enter Tryz.func154, Tryz.ntmps154
    (repeat' ((fail_if_success at_builtin); first | go_values | go_skip | go_guarded | go_step | go_upon | go_back))
    refine wp_loop_rounds 1 ?_; rw [rounds_succ]
    (repeat' ((fail_if_success at_builtin); first | go_values | go_skip | go_guarded | go_step | go_upon | go_back))
    refine bodyPost_end (results_none rfl _ _ _) rfl ⟨⟨_, rfl⟩, by (repeat' (first | (with_reducible exact Below.refl _ _) | (with_reducible assumption) | (with_reducible refine Below.drew ?_) | (with_reducible refine bdrewN ?_ _) | (with_reducible refine Below.alloc ?_ ?_ _) | (with_reducible refine Below.setCell ?_ ?_ _) | omega | (simp; done) | (simp; omega)))⟩

set_option maxRecDepth 20000 in
set_option maxHeartbeats 1000000 in
theorem vals_of (w : World) (m : Option Nat) (hm : EMap w m) : Calls Tryz.prog 112 #[.map m] w fun e' w' => e' = .returned (.func (.func 154) #[] #[.pointer (some ⟨w.heap.size, 0, none⟩)]) ∧ Yields0 Tryz.prog 154 #[.pointer (some ⟨w.heap.size, 0, none⟩)] w' ∧ Below w.heap.size w w' := by
  have hb : Below w.heap.size w (w.alloc (.cells #[.map m] 76)) := (Below.refl _ w).alloc (Nat.le_refl _) _
  have hy := vals (w.alloc (.cells #[.map m] 76)) w.heap.size m (by simp [go_sem]) (hm.below hb)
  go_enter Tryz.func112, Tryz.ntmps112
  (repeat' ((fail_if_success at_builtin); first | go_values | go_skip | go_guarded | go_step | go_upon | go_back))
  refine bodyPost_ret (results_tmp rfl _ _ _) rfl ⟨rfl, hy, hb⟩

end Go.Proofs.YthkfbhkedkangaaGreat
