/- revive over a disk without a file: replay. No condition. -/
import Derived.Test.YthkfbhkedkangaaGreatRev1
import Derived.RegionIn
namespace Go.Proofs.YthkfbhkedkangaaGreat
open Go.RowKit
set_option linter.unusedVariables false
set_option linter.unusedSimpArgs false

set_option maxRecDepth 20000 in
set_option maxHeartbeats 1000000 in
theorem batches_0 (w : World) (p0 : Addr) : Calls Tryz.prog 45 #[.pointer (some p0), .slice none 0 0] w fun e' w' => e' = .returned (.func (.func 97) #[] #[.pointer (some ⟨w.heap.size + 1, 0, none⟩), .pointer (some ⟨w.heap.size, 0, none⟩)]) ∧
    Yields0 Tryz.prog 97 #[.pointer (some ⟨w.heap.size + 1, 0, none⟩), .pointer (some ⟨w.heap.size, 0, none⟩)] w' ∧ Below w.heap.size w w' := by
  have hmf : ∀ (fn : Fn) (first cap : Array Value) (w : World), (Instr.makeFunc fn first cap).run Tryz.prog w = .ok (.func fn first cap) w := fun _ _ _ _ => rfl
  have hy := batches1_0 ((w.alloc (.cells #[.pointer (some p0)] 51)).alloc (.cells #[.slice none 0 0] 86)) (w.heap.size + 1) w.heap.size (blk_cell (blk_new1 w (.cells #[.pointer (some p0)] 51) (.cells #[.slice none 0 0] 86)) 0)
  have hb : Below w.heap.size w ((w.alloc (.cells #[.pointer (some p0)] 51)).alloc (.cells #[.slice none 0 0] 86)) := by (repeat' (first | (with_reducible exact Below.refl _ _) | (with_reducible assumption) | (with_reducible refine Below.drew ?_) | (with_reducible refine bdrewN ?_ _) | (with_reducible refine Below.alloc ?_ ?_ _) | (with_reducible refine Below.setCell ?_ ?_ _) | omega | (simp; done) | (simp; omega)))
  go_enter Tryz.func45, Tryz.ntmps45
  (repeat' ((fail_if_success at_builtin); first | go_values | go_skip | go_guarded | go_step | go_upon | go_back))
  refine bodyPost_ret (results_tmp rfl _ _ _) rfl ⟨rfl, hy, hb⟩

set_option maxRecDepth 20000 in
set_option maxHeartbeats 2000000 in
theorem replay_0 (w : World) (o n z s n0 : Nat) (hno : n0 ≤ s) (d v p : Value) (k : Int) (h : OP w o d n z s) (hs : ST w s v p 0 0 0 0) (hz : EMap w (some z)) (hos : o ≠ s) (hzs : z ≠ s) :
    Calls Tryz.prog 20 #[.pointer (some ⟨o, 0, none⟩), .int .i64 k] w fun e' w' => e' = .returned (.tuple #[]) ∧ ST w' s v p 1 0 0 0 ∧ Kp w w' s n0 := by
  obtain ⟨c0, c1, c2, c3, c4⟩ := h.c
  obtain ⟨d2, d3, d9, d10, d11, d12, d13⟩ := hs.c
  have hsl := blk_lt hs
  have hol := blk_lt h
  refine (callsIn_wide (n := 6)).1 ?_
  refine callsIn_of_wp_marks Tryz.func20 rfl trivial ?_ rfl
  simp only [Tryz.ntmps20, List.size_toArray, List.length_cons, List.length_nil, Nat.reduceAdd, Nat.reduceSub, Array.replicate_succ, Array.replicate_zero, List.push_toArray, List.append_toArray, List.nil_append, List.cons_append]
  (repeat' ((fail_if_success (with_reducible (show Code.wpIn _ _ _ (Code.region 2 _ _) _ _ _))); first | go_values | gi_guarded | gi_step | gi_upon | (gi_back)))
  clear c0 c1 c2 c3 c4 d2 d3 d9 d10 d11 d12 d13
  have hbA : Below w.heap.size w (w.alloc (.cells #[.int .i64 0] 3)) := by (repeat' (first | (with_reducible exact Below.refl _ _) | (with_reducible assumption) | (with_reducible refine Below.drew ?_) | (with_reducible refine bdrewN ?_ _) | (with_reducible refine Below.alloc ?_ ?_ _) | (with_reducible refine Below.setCell ?_ ?_ _) | omega | (simp; done) | (simp; omega)))
  have qA : (w.alloc (.cells #[.int .i64 0] 3)).heap[w.heap.size]? = some (.cells #[.int .i64 0] 3 (0, 0)) := blk_new _ _
  generalize w.alloc (.cells #[.int .i64 0] 3) = w1 at hbA qA ⊢
  have hK1 : Kp w w1 s n0 := (Kp.refl w s n0).step (by omega) hbA (Nat.le_refl _)
  have hs1 := hs.below hbA hsl
  obtain ⟨d2, d3, d9, d10, d11, d12, d13⟩ := hs1.c
  obtain ⟨f3, f11, f12, f13⟩ := hs1.f
  obtain ⟨a1, a2⟩ := blk1 qA
  (repeat' ((fail_if_success (with_reducible (show Code.wpIn _ _ _ (Code.region 3 _ _) _ _ _))); first | go_values | gi_guarded | gi_step | gi_upon | (gi_back)))
  clear d2 d3 d9 d10 d11 d12 d13 f3 f11 f12 f13 a1 a2
  have hs2 : ST (w1.setCell ⟨s, 11, none⟩ (.int .i64 0)) s v p 0 0 0 0 := blk_set hs1 11 _
  have qB := blk_set_other qA (by omega : w.heap.size ≠ s) 11 (.int .i64 0)
  have hK2 := hK1.set hno 11 (.int .i64 0)
  generalize w1.setCell ⟨s, 11, none⟩ (.int .i64 0) = w2 at hs2 qB hK2 ⊢
  (repeat' ((fail_if_success (with_reducible (show Code.wpIn _ _ _ (Code.region 4 _ _) _ _ _))); first | go_values | gi_guarded | gi_step | gi_upon | (gi_back)))
  have hbC : Below w2.heap.size w2 (w2.alloc (.cells #[.slice none 0 0] 131)) := (Below.refl _ w2).alloc (Nat.le_refl _) _
  have hl2 := hK2.below.size
  have hs3 := hs2.below hbC (by omega)
  have h3 : OP (w2.alloc (.cells #[.slice none 0 0] 131)) o d n z s := by
    have := hK2.kept o hol hos
    exact OP.below (this.trans h) hbC (by omega)
  have qC := blk_below hbC qB (blk_lt qB)
  have qD := blk_new w2 (.cells #[.slice none 0 0] 131)
  have hz3 : EMap (w2.alloc (.cells #[.slice none 0 0] 131)) (some z) := by
    rcases hz with e | ⟨g, c, e, hg⟩
    · cases e
    · cases e
      exact .inr ⟨z, c, rfl, blk_below hbC ((hK2.kept z (blk_lt hg) hzs).trans hg) (by have := blk_lt hg; omega)⟩
  have hK3 := hK2.step (m := w2.heap.size) (by have := hK2.below.size; omega) hbC hl2
  have hszD : w2.heap.size < (w2.alloc (.cells #[.slice none 0 0] 131)).heap.size := by simp
  generalize w2.alloc (.cells #[.slice none 0 0] 131) = w3 at hs3 h3 qC qD hz3 hK3 hszD ⊢
  gi_wp2_with (first | (refine ⟨trivial, ?_⟩; gi_at_call 46; refine (callsIn_wide.2 (needed_0 w3 o n z s d h3 hz3)).mono ?_; rintro e1 w4 ⟨rfl, hb4⟩) | (refine ⟨trivial, ?_⟩; gi_at_call 45; refine (callsIn_wide.2 (batches_0 w4 _)).mono ?_; rintro e1 w5 ⟨rfl, hy5, hb5⟩))
  refine wpIn_rangeFunc_none (by omega) rfl (enters_of Tryz.func97 (by kernel_rfl) rfl) rfl hy5 ?_
  intro D w6 hD hb6 hKD
  have hb46 : Below w3.heap.size w3 w6 := (hb4.trans (hb5.mono hb4.size)).trans (hb6.mono (hb4.trans (hb5.mono hb4.size)).size)
  have hl6 := (hb4.trans (hb5.mono hb4.size)).size
  have hsl3 := blk_lt hs3
  have hs6 := hs3.below hb46 hsl3
  have h6 := h3.below hb46 (blk_lt h3)
  have qC6 := blk_below hb46 qC (blk_lt qC)
  have qD6 := blk_below hb46 qD (blk_lt qD)
  have hK6 := hK3.step (m := w3.heap.size) (by have := hK3.below.size; omega) hb46 (by omega)
  obtain ⟨d2, d3, d9, d10, d11, d12, d13⟩ := hs6.c
  obtain ⟨a1, a2⟩ := blk1 qC6
  obtain ⟨b1, b2⟩ := blk1 qD6
  (repeat' ((fail_if_success (with_reducible (show Code.wpIn _ _ _ (Code.region 11 _ _) _ _ _))); first | go_values | gi_guarded | gi_step | gi_upon | (gi_back)))
  gi_region
  all_goals ((repeat' ((fail_if_success (with_reducible (show Code.wpIn _ _ _ (Code.region 18 _ _) _ _ _))); first | go_values | gi_guarded | gi_step | gi_upon | (gi_back))))
  all_goals (refine wpIn_loop_rounds 1 ?_; rw [roundsIn_succ])
  all_goals ((repeat' ((fail_if_success (with_reducible (show Code.wpIn _ _ _ (Code.region 18 _ _) _ _ _))); first | go_values | gi_guarded | gi_step | gi_upon | (gi_back))))
  clear d2 d3 d9 d10 d11 d12 d13 a1 a2 b1 b2
  have hsD : ST w6.drew s v p 0 0 0 0 := hs6
  have hKD6 : Kp w w6.drew s n0 := hK6.drew
  have hDD : w6.drew.heap[D]? = some (.deferred (some [])) := hKD
  have h6D : OP w6.drew o d n z s := h6
  have qCD : w6.drew.heap[w.heap.size]? = some (.cells #[.int .i64 0] 3 (0, 0)) := qC6
  have hDs : D ≠ s := by have := hb5.size; have := hb4.size; omega
  generalize w6.drew = w7 at hsD hKD6 hDD h6D qCD ⊢
  have qCw7 := qCD
  obtain ⟨c0, c1, c2, c3, c4⟩ := h6D.c
  obtain ⟨d2, d3, d9, d10, d11, d12, d13⟩ := hsD.c
  obtain ⟨f3, f11, f12, f13⟩ := hsD.f
  obtain ⟨a1, a2⟩ := blk1 qCw7
  gi_region
  all_goals ((repeat' ((fail_if_success (with_reducible (show Code.wpIn _ _ _ (Code.region 19 _ _) _ _ _))); first | go_values | gi_guarded | gi_step | gi_upon | (gi_back))))
  clear c0 c1 c2 c3 c4 d2 d3 d9 d10 d11 d12 d13 f3 f11 f12 f13 a1 a2
  have hsw8 : ST (w7.setCell ⟨s, 12, none⟩ (.int .i64 0)).drew s v p 0 0 0 0 := blk_set (w := w7) hsD 12 _
  have hKw8 : Kp w (w7.setCell ⟨s, 12, none⟩ (.int .i64 0)).drew s n0 := (hKD6.set hno 12 _).drew
  have hDw8 : (w7.setCell ⟨s, 12, none⟩ (.int .i64 0)).drew.heap[D]? = _ := blk_set_other (w := w7) hDD hDs 12 (.int .i64 0)
  have hOw8 : OP (w7.setCell ⟨s, 12, none⟩ (.int .i64 0)).drew o d n z s := blk_set_other (w := w7) h6D hos 12 (.int .i64 0)
  have qCw8 : (w7.setCell ⟨s, 12, none⟩ (.int .i64 0)).drew.heap[w.heap.size]? = _ := blk_set_other (w := w7) qCw7 (by omega : w.heap.size ≠ s) 12 (.int .i64 0)
  generalize (w7.setCell ⟨s, 12, none⟩ (.int .i64 0)).drew = w8 at hsw8 hKw8 hDw8 hOw8 qCw8 ⊢
  obtain ⟨c0, c1, c2, c3, c4⟩ := hOw8.c
  obtain ⟨d2, d3, d9, d10, d11, d12, d13⟩ := hsw8.c
  obtain ⟨f3, f11, f12, f13⟩ := hsw8.f
  obtain ⟨a1, a2⟩ := blk1 qCw8
  skip
  all_goals ((repeat' ((fail_if_success (with_reducible (show Code.wpIn _ _ _ (Code.region 20 _ _) _ _ _))); first | go_values | gi_guarded | gi_step | gi_upon | (gi_back))))
  clear c0 c1 c2 c3 c4 d2 d3 d9 d10 d11 d12 d13 f3 f11 f12 f13 a1 a2
  have hsw9 : ST (w8.setCell ⟨s, 13, none⟩ (.int .i64 0)) s v p 0 0 0 0 := blk_set (w := w8) hsw8 13 _
  have hKw9 : Kp w (w8.setCell ⟨s, 13, none⟩ (.int .i64 0)) s n0 := (show Kp w w8 s n0 from hKw8).set hno 13 _
  have hDw9 := blk_set_other (w := w8) hDw8 hDs 13 (.int .i64 0)
  have hOw9 : OP (w8.setCell ⟨s, 13, none⟩ (.int .i64 0)) o d n z s := blk_set_other (w := w8) hOw8 hos 13 (.int .i64 0)
  have qCw9 := blk_set_other (w := w8) qCw8 (by omega : w.heap.size ≠ s) 13 (.int .i64 0)
  generalize w8.setCell ⟨s, 13, none⟩ (.int .i64 0) = w9 at hsw9 hKw9 hDw9 hOw9 qCw9 ⊢
  obtain ⟨c0, c1, c2, c3, c4⟩ := hOw9.c
  obtain ⟨d2, d3, d9, d10, d11, d12, d13⟩ := hsw9.c
  obtain ⟨f3, f11, f12, f13⟩ := hsw9.f
  obtain ⟨a1, a2⟩ := blk1 qCw9
  skip
  all_goals ((repeat' ((fail_if_success (with_reducible (show Code.wpIn _ _ _ (Code.region 21 _ _) _ _ _))); first | go_values | gi_guarded | gi_step | gi_upon | (gi_back))))
  clear c0 c1 c2 c3 c4 d2 d3 d9 d10 d11 d12 d13 f3 f11 f12 f13 a1 a2
  have hsw10 : ST (w9.setCell ⟨s, 3, none⟩ (.int .i64 1)) s v p 1 0 0 0 := blk_set (w := w9) hsw9 3 _
  have hKw10 : Kp w (w9.setCell ⟨s, 3, none⟩ (.int .i64 1)) s n0 := (show Kp w w9 s n0 from hKw9).set hno 3 _
  have hDw10 := blk_set_other (w := w9) hDw9 hDs 3 (.int .i64 1)
  have hOw10 : OP (w9.setCell ⟨s, 3, none⟩ (.int .i64 1)) o d n z s := blk_set_other (w := w9) hOw9 hos 3 (.int .i64 1)
  have qCw10 := blk_set_other (w := w9) qCw9 (by omega : w.heap.size ≠ s) 3 (.int .i64 1)
  generalize w9.setCell ⟨s, 3, none⟩ (.int .i64 1) = w10 at hsw10 hKw10 hDw10 hOw10 qCw10 ⊢
  have hz10 : EMap w10 (some z) := by
    rcases hz with e | ⟨g, c, e, hg⟩
    · cases e
    · cases e
      exact .inr ⟨z, c, rfl, (hKw10.kept z (blk_lt hg) hzs).trans hg⟩
  obtain ⟨c0, c1, c2, c3, c4⟩ := hOw10.c
  gi_wp2_with (first | (refine ⟨trivial, ?_⟩; gi_at_call 49; refine (callsIn_wide.2 (keysI_of w10 _ hz10)).mono ?_; rintro e1 w11 ⟨rfl, hy11, hb11⟩) | (refine ⟨trivial, ?_⟩; gi_at_call 48; refine (callsIn_wide.2 (sorted_int w11 (enters_of Tryz.func101 (by kernel_rfl) rfl) hy11)).mono ?_; rintro e1 w12 ⟨rfl, hb12⟩))
  refine wpIn_loop_rounds 1 ?_; rw [roundsIn_succ]
  gi_wp2
  have hb13 := hb11.trans (hb12.mono hb11.size)
  have hs12 := hsw10.below hb13 (blk_lt hsw10)
  have hK12 := hKw10.step (m := w10.heap.size) (by have := hKw10.below.size; omega) hb13 (hKw10.below.size)
  have hD12 := blk_below hb13 hDw10 (blk_lt hDw10)
  refine ⟨by simp, .inl ⟨_, _, rfl, run_takeDeferred hD12, ?_⟩⟩
  refine ⟨_, results_none rfl _ _ _, rfl, ?_, ?_⟩
  · exact (World.putObj_heap_other (by omega)).trans hs12
  · have := hb5.size; have := hb4.size; have := hK3.below.size
    exact hK12.step (m := D) (by omega) ((Below.refl D w12).grown (grownBy_putObj' w12 D _) (by have := blk_lt hD12; omega) (fun k e => by cases e; exact Nat.le_refl _)) (by omega)

end Go.Proofs.YthkfbhkedkangaaGreat
