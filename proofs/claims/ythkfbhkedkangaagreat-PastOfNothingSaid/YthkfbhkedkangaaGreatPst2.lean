/- past.At over a disk without a file. No condition. -/
import Derived.Test.YthkfbhkedkangaaGreatPst1
import Derived.Sort.QuietIn
namespace Go.Proofs.YthkfbhkedkangaaGreat
open Go.RowKit
set_option linter.unusedVariables false
set_option linter.unusedSimpArgs false

/-- An image with nothing. -/
def IM (w : World) (g : Nat) : Prop := w.heap[g]? = some (.cells #[.int .i64 0, .int .i64 0, .slice none 0 0, .slice none 0 0] 41 (0, 0))
def LK (w : World) (o b : Nat) : Prop := w.heap[o]? = some (.cells #[.pointer (some ⟨b, 0, none⟩), .slice none 0 0, .int .i64 0] 94 (0, 0))

/-- The image written once more, and the range's own block let go. -/
theorem im_fin {w : World} {g D : Nat} (h : IM w g) (hne : D ≠ g) (hD : w.heap[D]? = some (.deferred (some []))) :
    ((((w.setCell ⟨g, 0, none⟩ (.int .i64 0)).setCell ⟨g, 1, none⟩ (.int .i64 0)).setCell ⟨g, 2, none⟩ (.slice none 0 0)).setCell ⟨g, 3, none⟩ (.slice none 0 0)).heap[D]? = some (.deferred (some [])) ∧
    ∀ o, IM (((((w.setCell ⟨g, 0, none⟩ (.int .i64 0)).setCell ⟨g, 1, none⟩ (.int .i64 0)).setCell ⟨g, 2, none⟩ (.slice none 0 0)).setCell ⟨g, 3, none⟩ (.slice none 0 0)).putObj D o) g := by
  refine ⟨blk_set_other (blk_set_other (blk_set_other (blk_set_other hD hne 0 _) hne 1 _) hne 2 _) hne 3 _, fun o => ?_⟩
  have h4 : IM ((((w.setCell ⟨g, 0, none⟩ (.int .i64 0)).setCell ⟨g, 1, none⟩ (.int .i64 0)).setCell ⟨g, 2, none⟩ (.slice none 0 0)).setCell ⟨g, 3, none⟩ (.slice none 0 0)) g := blk_set (blk_set (blk_set (blk_set h 0 _) 1 _) 2 _) 3 _
  exact (World.putObj_heap_other (fun e => hne e.symm)).trans h4

theorem below_fin {n D : Nat} {w w' : World} {o : Obj} (hb : Below n w w') (hn : n ≤ D) (hD : w'.heap[D]? = some o) (o' : Obj) : Below n w (w'.putObj D o') :=
  hb.grown (grownBy_putObj' w' D _) (by have := blk_lt hD; omega) (fun k e => by cases e; exact hn)

set_option maxRecDepth 20000 in
set_option maxHeartbeats 2000000 in
theorem at_in (u k : Int) (hu0 : 0 ≤ u) (hu1 : u ≤ 281474976710655) (x : Int) (hx : u = 0 ∧ x = 0 ∨ 0 < u ∧ x = 6) (w : World) (b : Nat) {ps pr : Value} {j : Int} (h : DK w b (.map none) (.slice none 0 0) ps pr j false) :
    Calls Tryz.prog 10 #[.pointer (some ⟨b, 0, none⟩), .int .i64 u, .int .i64 k] w fun e' w' => e' = .returned (.tuple #[imz, .int .i64 x]) ∧ Below w.heap.size w w' := by
  have hbl := h.lt
  have h2 := (h.alloc (.cells #[.int .i64 u] 3)).alloc (.cells #[.int .i64 0, .int .i64 0, .slice none 0 0, .slice none 0 0] 41)
  have g1 : decide (u < 0) = false := by simpa using hu0
  have g2 : decide (281474976710655 < u) = false := by simpa using hu1
  refine (callsIn_wide (n := 6)).1 ?_
  refine callsIn_of_wp_marks Tryz.func10 rfl trivial ?_ rfl
  simp only [Tryz.ntmps10, List.size_toArray, List.length_cons, List.length_nil, Nat.reduceAdd, Nat.reduceSub, Array.replicate_succ, Array.replicate_zero, List.push_toArray, List.append_toArray, List.nil_append, List.cons_append]
  have hb0 : Below w.heap.size w ((w.alloc (.cells #[.int .i64 u] 3)).alloc (.cells #[.int .i64 0, .int .i64 0, .slice none 0 0, .slice none 0 0] 41)) := by (repeat' (first | (with_reducible exact Below.refl _ _) | (with_reducible assumption) | (with_reducible refine Below.drew ?_) | (with_reducible refine bdrewN ?_ _) | (with_reducible refine Below.alloc ?_ ?_ _) | (with_reducible refine Below.setCell ?_ ?_ _) | omega | (simp; done) | (simp; omega)))
  have q0 := blk_alloc (blk_new w (.cells #[.int .i64 u] 3)) (.cells #[.int .i64 0, .int .i64 0, .slice none 0 0, .slice none 0 0] 41)
  have i0 : IM ((w.alloc (.cells #[.int .i64 u] 3)).alloc (.cells #[.int .i64 0, .int .i64 0, .slice none 0 0, .slice none 0 0] 41)) (w.heap.size + 1) := blk_new1 w _ _
  have hs0 : w.heap.size + 2 ≤ ((w.alloc (.cells #[.int .i64 u] 3)).alloc (.cells #[.int .i64 0, .int .i64 0, .slice none 0 0, .slice none 0 0] 41)).heap.size := by simp
  (repeat' ((fail_if_success (with_reducible (show Code.wpIn _ _ _ (Code.region 3 _ _) _ _ _))); first | go_values | gi_guarded | gi_step | gi_upon | (gi_back)))
  gi_wp2_with (refine ⟨trivial, ?_⟩; gi_at_call 13; refine (callsIn_wide.2 (list_0 _ b h2)).mono ?_; rintro e1 w1 ⟨rfl, hb1⟩)
  have hb01 := hb0.trans (hb1.mono hb0.size)
  have q1 := blk_below hb1 q0 (blk_lt q0)
  have i1 : IM w1 (w.heap.size + 1) := blk_below hb1 i0 (blk_lt i0)
  have d1 := h2.below hb1 h2.lt
  have hs1 := hb1.size
  have hl1 : LK ((w1.alloc (.cells #[.pointer (some ⟨b, 0, none⟩), .slice none 0 0, .int .i64 0] 94)).alloc (.cells #[.int .i64 0, .int .i64 0, .slice none 0 0, .slice none 0 0] 41)) w1.heap.size b := blk_alloc (blk_new w1 _) _
  have i2 : IM ((w1.alloc (.cells #[.pointer (some ⟨b, 0, none⟩), .slice none 0 0, .int .i64 0] 94)).alloc (.cells #[.int .i64 0, .int .i64 0, .slice none 0 0, .slice none 0 0] 41)) (w1.heap.size + 1) := blk_new1 w1 _ _
  have hb12 : Below w1.heap.size w1 ((w1.alloc (.cells #[.pointer (some ⟨b, 0, none⟩), .slice none 0 0, .int .i64 0] 94)).alloc (.cells #[.int .i64 0, .int .i64 0, .slice none 0 0, .slice none 0 0] 41)) := by (repeat' (first | (with_reducible exact Below.refl _ _) | (with_reducible assumption) | (with_reducible refine Below.drew ?_) | (with_reducible refine bdrewN ?_ _) | (with_reducible refine Below.alloc ?_ ?_ _) | (with_reducible refine Below.setCell ?_ ?_ _) | omega | (simp; done) | (simp; omega)))
  have hs2 : Hid (((w1.alloc (.cells #[.pointer (some ⟨b, 0, none⟩), .slice none 0 0, .int .i64 0] 94)).alloc (.cells #[.int .i64 0, .int .i64 0, .slice none 0 0, .slice none 0 0] 41)).heap.size = w1.heap.size + 2) := Lib.hid (by simp)
  clear h2 d1
  generalize (w1.alloc (.cells #[.pointer (some ⟨b, 0, none⟩), .slice none 0 0, .int .i64 0] 94)).alloc (.cells #[.int .i64 0, .int .i64 0, .slice none 0 0, .slice none 0 0] 41) = w2 at hl1 i2 hb12 hs2 ⊢
  have hb02 := hb01.trans (hb12.mono hb01.size)
  have q2 := blk_below hb12 q1 (blk_lt q1)
  have i3 : IM w2 (w.heap.size + 1) := blk_below hb12 i1 (blk_lt i1)
  gi_wp2_with (refine ⟨trivial, ?_⟩; gi_at_call 30; refine (callsIn_wide.2 (images_0 _ w1.heap.size (blk_cell hl1 1))).mono ?_; rintro e1 w3 ⟨rfl, hy3, hb3⟩)
  refine wpIn_rangeFunc_none (by omega) rfl (enters_of Tryz.func58 (by kernel_rfl) rfl) rfl hy3 ?_
  intro D w4 hD hb4 hKD
  have hb24 := hb3.trans (hb4.mono hb3.size)
  have hl4 : LK w4 w1.heap.size b := blk_below hb24 hl1 (blk_lt hl1)
  have i4 : IM w4 (w.heap.size + 1) := blk_below hb24 i3 (blk_lt i3)
  have i5 : IM w4 (w1.heap.size + 1) := blk_below hb24 i2 (blk_lt i2)
  have q4 := blk_below hb24 q2 (blk_lt q2)
  have hb04 := hb02.trans (hb24.mono hb02.size)
  have hsz := hb3.size
  clear i0 i1 i2 i3 hl1 q0 q1 q2
  obtain ⟨a1, a2⟩ := blk1 q4
  have l2 := blk_cell hl4 2
  have m1 := blk_cell i5 1
  obtain ⟨n0, n1, n2, n3, p0, p1, p2, p3⟩ := blk4 i4
  obtain ⟨r0, r1, r2, r3, s0, s1, s2, s3⟩ := blk4 i5
  clear hl4 i5 q4
  have hsz2 := hb12.size
  have hDn : D ≠ w.heap.size + 1 := by omega
  have hwD : w.heap.size ≤ D := by omega
  rcases hx with ⟨rfl, rfl⟩ | ⟨hu, rfl⟩
  · gi_wp2
    have hb : Below w.heap.size w ((((w4.setCell ⟨w.heap.size + 1, 0, none⟩ (.int .i64 0)).setCell ⟨w.heap.size + 1, 1, none⟩ (.int .i64 0)).setCell ⟨w.heap.size + 1, 2, none⟩ (.slice none 0 0)).setCell ⟨w.heap.size + 1, 3, none⟩ (.slice none 0 0)) := by (repeat' (first | (with_reducible exact Below.refl _ _) | (with_reducible assumption) | (with_reducible refine Below.drew ?_) | (with_reducible refine bdrewN ?_ _) | (with_reducible refine Below.alloc ?_ ?_ _) | (with_reducible refine Below.setCell ?_ ?_ _) | omega | (simp; done) | (simp; omega)))
    obtain ⟨hD5, hI5⟩ := im_fin i4 hDn hKD
    refine ⟨by simp, .inl ⟨_, _, rfl, run_takeDeferred hD5, ?_⟩⟩
    have hI6 := hI5 (.deferred none)
    have hb6 := below_fin hb hwD hD5 (.deferred none)
    clear n0 n1 n2 n3 p0 p1 p2 p3 r0 r1 r2 r3 s0 s1 s2 s3 a1 a2 l2 m1
    obtain ⟨n0, n1, n2, n3, p0, p1, p2, p3⟩ := blk4 hI6
    refine ⟨.tuple #[imz, .int .i64 0], ?_, rfl, hb6⟩
    simp [results, Tryz.results10, go_sem, n0, n1, n2, n3, imz]
  · have e1 : (0 == u) = false := by simp; omega
    gi_wp2_with (refine ⟨trivial, ?_⟩; gi_at_call 31; refine (callsIn_wide.2 (numbers_0 _ _)).mono ?_; rintro e1 w5 ⟨rfl, rfl⟩)
    refine wpIn_loop_rounds 1 ?_; rw [roundsIn_succ]
    gi_wp2
    gi_quiet (fail)
    gi_wp2
    have hb : Below w.heap.size w (((((w5.drewN nq).setCell ⟨w.heap.size + 1, 0, none⟩ (.int .i64 0)).setCell ⟨w.heap.size + 1, 1, none⟩ (.int .i64 0)).setCell ⟨w.heap.size + 1, 2, none⟩ (.slice none 0 0)).setCell ⟨w.heap.size + 1, 3, none⟩ (.slice none 0 0)) := by (repeat' (first | (with_reducible exact Below.refl _ _) | (with_reducible assumption) | (with_reducible refine Below.drew ?_) | (with_reducible refine bdrewN ?_ _) | (with_reducible refine Below.alloc ?_ ?_ _) | (with_reducible refine Below.setCell ?_ ?_ _) | omega | (simp; done) | (simp; omega)))
    obtain ⟨hD5, hI5⟩ := im_fin (w := w5.drewN nq) i4 hDn hKD
    refine ⟨by simp, .inl ⟨_, _, rfl, run_takeDeferred hD5, ?_⟩⟩
    have hI6 := hI5 (.deferred none)
    have hb6 := below_fin hb hwD hD5 (.deferred none)
    clear n0 n1 n2 n3 p0 p1 p2 p3 r0 r1 r2 r3 s0 s1 s2 s3 a1 a2 l2 m1
    obtain ⟨n0, n1, n2, n3, p0, p1, p2, p3⟩ := blk4 hI6
    refine ⟨.tuple #[imz, .int .i64 6], ?_, rfl, hb6⟩
    simp [results, Tryz.results10, go_sem, n0, n1, n2, n3, imz]

end Go.Proofs.YthkfbhkedkangaaGreat
