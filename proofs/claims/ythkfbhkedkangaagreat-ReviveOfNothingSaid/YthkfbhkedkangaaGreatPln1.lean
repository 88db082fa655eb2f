/- disk: a plan of one fault, Create at it. No condition. -/
import Derived.Test.YthkfbhkedkangaaGreatRev3
namespace Go.Proofs.YthkfbhkedkangaaGreat
open Go.RowKit
set_option linter.unusedVariables false
set_option linter.unusedSimpArgs false

set_option maxRecDepth 20000 in
set_option maxHeartbeats 1000000 in
theorem cloneF_nil (w : World) : Calls Tryz.prog 22 #[.slice none 0 0] w fun e' w' => e' = .returned (.slice none 0 0) ∧ w' = w := by
  have hn : ∀ W, (binOp .eql 32 (.slice none 0 0) (.slice none 0 0)).run Tryz.prog W = .ok (.bool true) W := fun W => Lib.run_eql_slice_nil W 32 31 none 0 0 0 0 Tryz.underlying32
  go_enter Tryz.func22, Tryz.ntmps22
  (repeat' ((fail_if_success at_builtin); first | go_values | go_skip | go_guarded | go_step | go_upon | go_back))
  refine bodyPost_ret (results_tmp rfl _ _ _) rfl ⟨rfl, rfl⟩

theorem info31 : (Tryz.prog.info? 31).map (fun i => (i.zero, i.size, i.bytes)) = some (some (.agg #[.int .i64 0, .int .i64 0]), 2, 16) := by kernel_rfl

/-- One fault, laid in a row of its own. -/
def F1 (w : World) (n0 : Nat) (v : Value) : Prop := ∃ g c, v = .slice (some ⟨g, 0, none⟩) 1 c ∧ n0 ≤ g ∧ w.cell? ⟨g, 0, none⟩ = some (.int .i64 1) ∧ w.cell? ⟨g, 1, none⟩ = some (.int .i64 1)

set_option maxRecDepth 20000 in
set_option maxHeartbeats 1000000 in
theorem cloneF_1 (w : World) (g c : Nat) (h0 : w.cell? ⟨g, 0, none⟩ = some (.int .i64 1)) (h1 : w.cell? ⟨g, 1, none⟩ = some (.int .i64 1)) :
    Calls Tryz.prog 22 #[.slice (some ⟨g, 0, none⟩) 1 c] w fun e' w' => (∃ v, e' = .returned v ∧ F1 w' w.heap.size v) ∧ Below w.heap.size w w' := by
  have hn : ∀ W, (binOp .eql 32 (.slice (some ⟨g, 0, none⟩) 1 c) (.slice none 0 0)).run Tryz.prog W = .ok (.bool false) W := fun W => Lib.run_eql_slice_nil W 32 31 (some ⟨g, 0, none⟩) 1 c 0 0 Tryz.underlying32
  go_enter Tryz.func22, Tryz.ntmps22
  (repeat' ((fail_if_success at_builtin); first | go_values | go_skip | go_guarded | go_step | go_upon | go_back))
  obtain ⟨i0, hi, hz0, hz1, hz2⟩ := info_parts info31
  have ho : (w.alloc (.cells #[] 31)).ownsRow w.heap.size 31 2 (.slice (some ⟨w.heap.size, 0, none⟩) 0 0) 0 [] := World.ownsRow_made w #[] 0 (Nat.le_refl _) (by unfold maxLen; omega) rfl
  have hb1 : Below w.heap.size w (w.alloc (.cells #[] 31)) := (Below.refl _ w).alloc (Nat.le_refl _) _
  have hgl : g < w.heap.size := World.block_lt_of_cell? w _ h0
  have k0 : (w.alloc (.cells #[] 31)).cell? ⟨g, 0, none⟩ = some (.int .i64 1) := (World.cell?_of_block (hb1.block g hgl)).trans h0
  have k1 : (w.alloc (.cells #[] 31)).cell? ⟨g, 1, none⟩ = some (.int .i64 1) := (World.cell?_of_block (hb1.block g hgl)).trans h1
  refine wpList_append_own (w.alloc (.cells #[] 31)) rfl _ _ 32 rfl w.heap.size 31 i0 _ 2 16 Tryz.underlying32 hi hz0 hz1 hz2 rfl (by decide) _ 0 [] rfl ho ⟨g, 0, none⟩ 1 c [.int .i64 1, .int .i64 1] rfl rfl ?_ (by simp [Value.oneCell']) (by unfold maxLen; omega) (by omega) (by simp) ?_
  · intro j u hj
    match j, hj with
    | 0, hj => cases hj; exact k0
    | 1, hj => cases hj; exact k1
  · intro v' w' hown hg hnil
    (repeat' ((fail_if_success at_builtin); first | go_values | go_skip | go_guarded | go_step | go_upon | go_back))
    have hb2 : Below w.heap.size w w' := hb1.grown hg (by simp) (fun k hk => (ho.lt k hk).1)
    refine bodyPost_ret (results_tmp rfl _ _ _) rfl ⟨⟨v', rfl, ?_⟩, hb2⟩
    rcases hown.2 with ⟨_, h9⟩ | ⟨g', cap', cur', rfl, hbase', hgb', hr1, hr2, hr3, hr4⟩
    · exact absurd h9 (by omega)
    · refine ⟨g', cap', rfl, hbase', ?_, ?_⟩
      · rw [blk_cell hgb' 0]
        have := congrArg (fun l => l[0]?) hr4
        simpa [List.getElem?_take] using this
      · rw [blk_cell hgb' 1]
        have := congrArg (fun l => l[1]?) hr4
        simpa [List.getElem?_take] using this

section
variable {w : World} {b : Nat} {sf tn ps pr : Value} {k : Int} {off : Bool}
theorem DK.s6 (h : DK w b sf tn ps pr k off) (v : Value) : DK (w.setCell ⟨b, 6, none⟩ v) b sf tn v pr k off := blk_set h 6 v
theorem DK.s7 (h : DK w b sf tn ps pr k off) (v : Value) : DK (w.setCell ⟨b, 7, none⟩ v) b sf tn ps v k off := blk_set h 7 v
theorem DK.s8 (h : DK w b sf tn ps pr k off) (i : Int) : DK (w.setCell ⟨b, 8, none⟩ (.int .i64 i)) b sf tn ps pr i off := blk_set h 8 _
theorem DK.s9 (h : DK w b sf tn ps pr k off) : DK (w.setCell ⟨b, 9, none⟩ (.int .i64 0)) b sf tn ps pr k off := blk_set h 9 _
end
set_option maxHeartbeats 1000000 in
theorem plan_fin {w w1 : World} {b n0 g2 cc2 : Nat} (hn : n0 ≤ b) (hg : b + 1 ≤ g2) {sf tn ps pr : Value} {k : Int} (hd : DK w1 b sf tn ps pr k false) (hK : Kp w w1 b n0) (j0 : w1.cell? ⟨g2, 0, none⟩ = some (.int .i64 1)) (j1 : w1.cell? ⟨g2, 1, none⟩ = some (.int .i64 1)) :
    (∃ v, DK ((((w1.setCell ⟨b, 6, none⟩ (.slice (some ⟨g2, 0, none⟩) 1 cc2)).setCell ⟨b, 7, none⟩ (.slice none 0 0)).setCell ⟨b, 8, none⟩ (.int .i64 0)).setCell ⟨b, 9, none⟩ (.int .i64 0)) b sf tn v (.slice none 0 0) 0 false ∧
      F1 ((((w1.setCell ⟨b, 6, none⟩ (.slice (some ⟨g2, 0, none⟩) 1 cc2)).setCell ⟨b, 7, none⟩ (.slice none 0 0)).setCell ⟨b, 8, none⟩ (.int .i64 0)).setCell ⟨b, 9, none⟩ (.int .i64 0)) (b + 1) v) ∧
    Kp w ((((w1.setCell ⟨b, 6, none⟩ (.slice (some ⟨g2, 0, none⟩) 1 cc2)).setCell ⟨b, 7, none⟩ (.slice none 0 0)).setCell ⟨b, 8, none⟩ (.int .i64 0)).setCell ⟨b, 9, none⟩ (.int .i64 0)) b n0 := by
  have hne : g2 ≠ b := by omega
  have hsame : ((((w1.setCell ⟨b, 6, none⟩ (.slice (some ⟨g2, 0, none⟩) 1 cc2)).setCell ⟨b, 7, none⟩ (.slice none 0 0)).setCell ⟨b, 8, none⟩ (.int .i64 0)).setCell ⟨b, 9, none⟩ (.int .i64 0)).heap[g2]? = w1.heap[g2]? := by
    rw [Below.heap_setCell _ _ _ _ hne, Below.heap_setCell _ _ _ _ hne, Below.heap_setCell _ _ _ _ hne, Below.heap_setCell _ _ _ _ hne]
  refine ⟨⟨_, (((hd.s6 (.slice (some ⟨g2, 0, none⟩) 1 cc2)).s7 (.slice none 0 0)).s8 0).s9, ⟨g2, cc2, rfl, hg, ?_, ?_⟩⟩, (((hK.set hn 6 _).set hn 7 _).set hn 8 _).set hn 9 _⟩
  · exact (World.cell?_of_block hsame).trans j0
  · exact (World.cell?_of_block hsame).trans j1

set_option maxRecDepth 20000 in
set_option maxHeartbeats 1000000 in
theorem plan_1 (w : World) (b n0 g c : Nat) (hn : n0 ≤ b) (hgb : g ≠ b) {sf tn ps pr : Value} {k : Int} (h : DK w b sf tn ps pr k false) (h0 : w.cell? ⟨g, 0, none⟩ = some (.int .i64 1)) (h1 : w.cell? ⟨g, 1, none⟩ = some (.int .i64 1)) :
    Calls Tryz.prog 7 #[.pointer (some ⟨b, 0, none⟩), .agg #[.slice (some ⟨g, 0, none⟩) 1 c, .slice none 0 0]] w fun e' w' => e' = .returned (.tuple #[]) ∧ (∃ v, DK w' b sf tn v (.slice none 0 0) 0 false ∧ F1 w' (b + 1) v) ∧ Kp w w' b n0 := by
  obtain ⟨W, HW, hb1, q1, hsz⟩ := box1 w (.cells #[.slice (some ⟨g, 0, none⟩) 1 c, .slice none 0 0] 34)
  have hgl : g < w.heap.size := World.block_lt_of_cell? w _ h0
  have hbl := h.lt
  have k0 : W.drew.cell? ⟨g, 0, none⟩ = some (.int .i64 1) := (World.cell?_of_block (hb1.block g hgl)).trans h0
  have k1 : W.drew.cell? ⟨g, 1, none⟩ = some (.int .i64 1) := (World.cell?_of_block (hb1.block g hgl)).trans h1
  have hdW : DK W.drew b sf tn ps pr k false := h.below hb1.drew hbl
  have q1W : W.drew.heap[w.heap.size]? = _ := q1
  have hbW : Kp w W.drew b n0 := ((Kp.refl w b n0).step (m := w.heap.size) (by omega) hb1 (Nat.le_refl _)).drew
  have hszW : W.drew.heap.size = w.heap.size + 1 := hsz
  obtain ⟨p0, p1, p2, p3⟩ := blk2 q1W
  obtain ⟨c3, c4, c5, c6, c7, c8, c9, c10⟩ := hdW.c
  obtain ⟨f4, f5, f6, f7, f8, f9, f10⟩ := hdW.f
  go_enter Tryz.func7, Tryz.ntmps7
  (repeat' ((fail_if_success at_builtin); first | go_values | go_skip | go_guarded | go_step | go_upon | go_back))
  rw [← HW.out]
  go_region_with (first | (go_at_call_of 22 (Value.slice none 0 0); refine (cloneF_nil _).mono ?_; rintro e1 w1 ⟨rfl, rfl⟩; dsimp only) | (go_at_call 22; refine (cloneF_1 _ g c k0 k1).mono ?_; rintro e1 w2 ⟨⟨v, rfl, hF⟩, hb2⟩; obtain ⟨g2, cc2, rfl, hg2, j0, j1⟩ := hF; have hd2 := hdW.below hb2 hdW.lt; obtain ⟨c3', c4', c5', c6', c7', c8', c9', c10'⟩ := hd2.c; obtain ⟨f4', f5', f6', f7', f8', f9', f10'⟩ := hd2.f; have q2 := blk_below hb2 q1W (blk_lt q1W); obtain ⟨p0', p1', p2', p3'⟩ := blk2 q2; dsimp only))
  all_goals ((repeat' ((fail_if_success at_builtin); first | go_values | go_skip | go_guarded | go_step | go_upon | go_back)))
  all_goals (refine bodyPost_end (results_none rfl _ _ _) rfl ⟨rfl, plan_fin hn (by omega) hd2 (hbW.step (m := W.drew.heap.size) (by omega) hb2 (by omega)) j0 j1⟩)

end Go.Proofs.YthkfbhkedkangaaGreat
