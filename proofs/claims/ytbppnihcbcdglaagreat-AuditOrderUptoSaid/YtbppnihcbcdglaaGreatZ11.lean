/- proc: the shapes of operations, walked. No condition. -/
import Derived.Test.YtbppnihcbcdglaaGreatZ10
namespace Go.Proofs.YtbppnihcbcdglaaGreat
open Go.RowKit
set_option linter.unusedVariables false
set_option linter.unusedSimpArgs false

theorem Shp_perm {w : World} {n0 : Nat} {L : Array Value} {D D' : List Nat} (h : Shp w n0 L D) (hp : ∀ o, o < 17 → (o ∈ D ↔ o ∈ D') := by decide) : Shp w n0 L D' :=
  ⟨h.1, fun o ho => ⟨fun hm => (h.2 o ho).1 ((hp o ho).2 hm), fun hm => (h.2 o ho).2 (fun e => hm ((hp o ho).1 e))⟩⟩

set_option maxRecDepth 100000 in
set_option maxHeartbeats 8000000 in
theorem shapes_any (w : World) : Calls Tryz.prog 177 #[] w fun e' w' => (∃ S, e' = .returned (.agg S) ∧ Shp w' w.heap.size S [1, 2, 3, 4, 5, 6, 7, 8, 9, 10, 11, 12, 13, 14, 15]) ∧ Below w.heap.size w w' := by
  go_enter Tryz.func177, Tryz.ntmps177
  (repeat' ((fail_if_success (with_reducible (show Code.wp _ (Code.region 9 _ _) _ _ _))); (fail_if_success at_builtin); first | go_values | go_skip | go_guarded | go_step | go_upon | go_back))
  refine SW.wp0 fun w1 s1 => ?_
  obtain ⟨u1, u2, u3, u4⟩ := s1.at 1 (by decide) (by decide) rfl rfl
  obtain ⟨p1, q1, r1⟩ := s1.f1.c
  (repeat' ((fail_if_success (with_reducible (show Code.wp _ (Code.region 10 _ _) _ _ _))); (fail_if_success at_builtin); first | go_values | go_skip | go_guarded | go_step | go_upon | go_back))
  clear u1 u2 u3 u4 p1 q1 r1
  refine s1.wp 1 (by decide) rfl rfl rfl rfl rfl fun w2 s2 k2 => ?_
  obtain ⟨u1, u2, u3, u4⟩ := s2.at 2 (by decide) (by decide) rfl rfl
  obtain ⟨p1, q1, r1⟩ := s2.f1.c
  obtain ⟨p4, q4, r4⟩ := s2.f4.c
  (repeat' ((fail_if_success (with_reducible (show Code.wp _ (Code.region 11 _ _) _ _ _))); (fail_if_success at_builtin); first | go_values | go_skip | go_guarded | go_step | go_upon | go_back))
  clear u1 u2 u3 u4 p1 q1 r1 p4 q4 r4
  refine s2.wp 2 (by decide) rfl rfl rfl rfl rfl fun w3 s3 k3 => ?_
  (repeat' ((fail_if_success at_builtin); first | go_values | go_skip | go_guarded | go_step | go_upon | go_back))
  refine s3.wpI fun w4 s4 z4 j4 => ?_
  refine wp_loop_rounds 4 ?_; rw [rounds_succ]
  have i4 := blk_cell j4 0
  obtain ⟨u1, u2, u3, u4⟩ := s4.at 3 (by decide) (by decide) rfl rfl
  obtain ⟨p1, q1, r1⟩ := s4.f1.c
  obtain ⟨p2, q2, r2⟩ := s4.f2.c
  (repeat' ((fail_if_success (with_reducible (show Code.wp _ (Code.region 15 _ _) _ _ _))); (fail_if_success at_builtin); first | go_values | go_skip | go_guarded | go_step | go_upon | go_back))
  clear u1 u2 u3 u4 p1 q1 r1 p2 q2 r2
  refine s4.wp 3 (by decide) rfl rfl rfl rfl rfl fun w5 s5 k5 => ?_
  clear i4
  have j5 := k5 _ _ (by omega) j4
  (repeat' ((fail_if_success (with_reducible (show Code.wp _ (Code.region 12 _ _) _ _ _))); (fail_if_success at_builtin); first | go_values | go_skip | go_guarded | go_step | go_upon | go_back))
  rw [rounds_succ]
  have i5 := blk_cell j5 1
  obtain ⟨u1, u2, u3, u4⟩ := s5.at 14 (by decide) (by decide) rfl rfl
  obtain ⟨p1, q1, r1⟩ := s5.f1.c
  obtain ⟨p2, q2, r2⟩ := s5.f2.c
  (repeat' ((fail_if_success (with_reducible (show Code.wp _ (Code.region 15 _ _) _ _ _))); (fail_if_success at_builtin); first | go_values | go_skip | go_guarded | go_step | go_upon | go_back))
  clear u1 u2 u3 u4 p1 q1 r1 p2 q2 r2
  refine s5.wp 14 (by decide) rfl rfl rfl rfl rfl fun w6 s6 k6 => ?_
  clear i5
  have j6 := k6 _ _ (by omega) j5
  (repeat' ((fail_if_success (with_reducible (show Code.wp _ (Code.region 12 _ _) _ _ _))); (fail_if_success at_builtin); first | go_values | go_skip | go_guarded | go_step | go_upon | go_back))
  rw [rounds_succ]
  have i6 := blk_cell j6 2
  obtain ⟨u1, u2, u3, u4⟩ := s6.at 4 (by decide) (by decide) rfl rfl
  obtain ⟨p1, q1, r1⟩ := s6.f1.c
  obtain ⟨p2, q2, r2⟩ := s6.f2.c
  (repeat' ((fail_if_success (with_reducible (show Code.wp _ (Code.region 15 _ _) _ _ _))); (fail_if_success at_builtin); first | go_values | go_skip | go_guarded | go_step | go_upon | go_back))
  clear u1 u2 u3 u4 p1 q1 r1 p2 q2 r2
  refine s6.wp 4 (by decide) rfl rfl rfl rfl rfl fun w7 s7 k7 => ?_
  clear i6
  have j7 := k7 _ _ (by omega) j6
  (repeat' ((fail_if_success (with_reducible (show Code.wp _ (Code.region 12 _ _) _ _ _))); (fail_if_success at_builtin); first | go_values | go_skip | go_guarded | go_step | go_upon | go_back))
  rw [rounds_succ]
  (repeat' ((fail_if_success (with_reducible (show Code.wp _ (Code.region 16 _ _) _ _ _))); (fail_if_success at_builtin); first | go_values | go_skip | go_guarded | go_step | go_upon | go_back))
  (repeat' ((fail_if_success at_builtin); first | go_values | go_skip | go_guarded | go_step | go_upon | go_back))
  refine s7.wpI fun w8 s8 z8 j8 => ?_
  refine wp_loop_rounds 3 ?_; rw [rounds_succ]
  have i8 := blk_cell j8 0
  obtain ⟨u1, u2, u3, u4⟩ := s8.at 5 (by decide) (by decide) rfl rfl
  obtain ⟨p1, q1, r1⟩ := s8.f1.c
  (repeat' ((fail_if_success (with_reducible (show Code.wp _ (Code.region 20 _ _) _ _ _))); (fail_if_success at_builtin); first | go_values | go_skip | go_guarded | go_step | go_upon | go_back))
  clear u1 u2 u3 u4 p1 q1 r1
  refine s8.wp 5 (by decide) rfl rfl rfl rfl rfl fun w9 s9 k9 => ?_
  clear i8
  have j9 := k9 _ _ (by omega) j8
  (repeat' ((fail_if_success (with_reducible (show Code.wp _ (Code.region 17 _ _) _ _ _))); (fail_if_success at_builtin); first | go_values | go_skip | go_guarded | go_step | go_upon | go_back))
  rw [rounds_succ]
  have i9 := blk_cell j9 1
  obtain ⟨u1, u2, u3, u4⟩ := s9.at 15 (by decide) (by decide) rfl rfl
  obtain ⟨p1, q1, r1⟩ := s9.f1.c
  (repeat' ((fail_if_success (with_reducible (show Code.wp _ (Code.region 20 _ _) _ _ _))); (fail_if_success at_builtin); first | go_values | go_skip | go_guarded | go_step | go_upon | go_back))
  clear u1 u2 u3 u4 p1 q1 r1
  refine s9.wp 15 (by decide) rfl rfl rfl rfl rfl fun w10 s10 k10 => ?_
  clear i9
  have j10 := k10 _ _ (by omega) j9
  (repeat' ((fail_if_success (with_reducible (show Code.wp _ (Code.region 17 _ _) _ _ _))); (fail_if_success at_builtin); first | go_values | go_skip | go_guarded | go_step | go_upon | go_back))
  rw [rounds_succ]
  (repeat' ((fail_if_success (with_reducible (show Code.wp _ (Code.region 21 _ _) _ _ _))); (fail_if_success at_builtin); first | go_values | go_skip | go_guarded | go_step | go_upon | go_back))
  (repeat' ((fail_if_success at_builtin); first | go_values | go_skip | go_guarded | go_step | go_upon | go_back))
  refine s10.wpI fun w11 s11 z11 j11 => ?_
  refine wp_loop_rounds 5 ?_; rw [rounds_succ]
  have i11 := blk_cell j11 0
  obtain ⟨u1, u2, u3, u4⟩ := s11.at 6 (by decide) (by decide) rfl rfl
  obtain ⟨p1, q1, r1⟩ := s11.f1.c
  obtain ⟨p2, q2, r2⟩ := s11.f2.c
  obtain ⟨p3, q3, r3⟩ := s11.f3.c
  (repeat' ((fail_if_success (with_reducible (show Code.wp _ (Code.region 25 _ _) _ _ _))); (fail_if_success at_builtin); first | go_values | go_skip | go_guarded | go_step | go_upon | go_back))
  clear u1 u2 u3 u4 p1 q1 r1 p2 q2 r2 p3 q3 r3
  refine s11.wp 6 (by decide) rfl rfl rfl rfl rfl fun w12 s12 k12 => ?_
  clear i11
  have j12 := k12 _ _ (by omega) j11
  (repeat' ((fail_if_success (with_reducible (show Code.wp _ (Code.region 22 _ _) _ _ _))); (fail_if_success at_builtin); first | go_values | go_skip | go_guarded | go_step | go_upon | go_back))
  rw [rounds_succ]
  have i12 := blk_cell j12 1
  obtain ⟨u1, u2, u3, u4⟩ := s12.at 7 (by decide) (by decide) rfl rfl
  obtain ⟨p1, q1, r1⟩ := s12.f1.c
  obtain ⟨p2, q2, r2⟩ := s12.f2.c
  obtain ⟨p3, q3, r3⟩ := s12.f3.c
  (repeat' ((fail_if_success (with_reducible (show Code.wp _ (Code.region 25 _ _) _ _ _))); (fail_if_success at_builtin); first | go_values | go_skip | go_guarded | go_step | go_upon | go_back))
  clear u1 u2 u3 u4 p1 q1 r1 p2 q2 r2 p3 q3 r3
  refine s12.wp 7 (by decide) rfl rfl rfl rfl rfl fun w13 s13 k13 => ?_
  clear i12
  have j13 := k13 _ _ (by omega) j12
  (repeat' ((fail_if_success (with_reducible (show Code.wp _ (Code.region 22 _ _) _ _ _))); (fail_if_success at_builtin); first | go_values | go_skip | go_guarded | go_step | go_upon | go_back))
  rw [rounds_succ]
  have i13 := blk_cell j13 2
  obtain ⟨u1, u2, u3, u4⟩ := s13.at 8 (by decide) (by decide) rfl rfl
  obtain ⟨p1, q1, r1⟩ := s13.f1.c
  obtain ⟨p2, q2, r2⟩ := s13.f2.c
  obtain ⟨p3, q3, r3⟩ := s13.f3.c
  (repeat' ((fail_if_success (with_reducible (show Code.wp _ (Code.region 25 _ _) _ _ _))); (fail_if_success at_builtin); first | go_values | go_skip | go_guarded | go_step | go_upon | go_back))
  clear u1 u2 u3 u4 p1 q1 r1 p2 q2 r2 p3 q3 r3
  refine s13.wp 8 (by decide) rfl rfl rfl rfl rfl fun w14 s14 k14 => ?_
  clear i13
  have j14 := k14 _ _ (by omega) j13
  (repeat' ((fail_if_success (with_reducible (show Code.wp _ (Code.region 22 _ _) _ _ _))); (fail_if_success at_builtin); first | go_values | go_skip | go_guarded | go_step | go_upon | go_back))
  rw [rounds_succ]
  have i14 := blk_cell j14 3
  obtain ⟨u1, u2, u3, u4⟩ := s14.at 9 (by decide) (by decide) rfl rfl
  obtain ⟨p1, q1, r1⟩ := s14.f1.c
  obtain ⟨p2, q2, r2⟩ := s14.f2.c
  obtain ⟨p3, q3, r3⟩ := s14.f3.c
  (repeat' ((fail_if_success (with_reducible (show Code.wp _ (Code.region 25 _ _) _ _ _))); (fail_if_success at_builtin); first | go_values | go_skip | go_guarded | go_step | go_upon | go_back))
  clear u1 u2 u3 u4 p1 q1 r1 p2 q2 r2 p3 q3 r3
  refine s14.wp 9 (by decide) rfl rfl rfl rfl rfl fun w15 s15 k15 => ?_
  clear i14
  have j15 := k15 _ _ (by omega) j14
  (repeat' ((fail_if_success (with_reducible (show Code.wp _ (Code.region 22 _ _) _ _ _))); (fail_if_success at_builtin); first | go_values | go_skip | go_guarded | go_step | go_upon | go_back))
  rw [rounds_succ]
  (repeat' ((fail_if_success (with_reducible (show Code.wp _ (Code.region 26 _ _) _ _ _))); (fail_if_success at_builtin); first | go_values | go_skip | go_guarded | go_step | go_upon | go_back))
  obtain ⟨u1, u2, u3, u4⟩ := s15.at 10 (by decide) (by decide) rfl rfl
  obtain ⟨p2, q2, r2⟩ := s15.f2.c
  obtain ⟨p3, q3, r3⟩ := s15.f3.c
  obtain ⟨p5, q5, r5⟩ := s15.f5.c
  (repeat' ((fail_if_success (with_reducible (show Code.wp _ (Code.region 27 _ _) _ _ _))); (fail_if_success at_builtin); first | go_values | go_skip | go_guarded | go_step | go_upon | go_back))
  clear u1 u2 u3 u4 p2 q2 r2 p3 q3 r3 p5 q5 r5
  refine s15.wp 10 (by decide) rfl rfl rfl rfl rfl fun w16 s16 k16 => ?_
  obtain ⟨u1, u2, u3, u4⟩ := s16.at 11 (by decide) (by decide) rfl rfl
  obtain ⟨p7, q7, r7⟩ := s16.f7.c
  obtain ⟨p2, q2, r2⟩ := s16.f2.c
  obtain ⟨p3, q3, r3⟩ := s16.f3.c
  obtain ⟨p5, q5, r5⟩ := s16.f5.c
  (repeat' ((fail_if_success (with_reducible (show Code.wp _ (Code.region 28 _ _) _ _ _))); (fail_if_success at_builtin); first | go_values | go_skip | go_guarded | go_step | go_upon | go_back))
  clear u1 u2 u3 u4 p7 q7 r7 p2 q2 r2 p3 q3 r3 p5 q5 r5
  refine s16.wp 11 (by decide) rfl rfl rfl rfl rfl fun w17 s17 k17 => ?_
  (repeat' ((fail_if_success at_builtin); first | go_values | go_skip | go_guarded | go_step | go_upon | go_back))
  refine s17.wpI fun w18 s18 z18 j18 => ?_
  refine wp_loop_rounds 3 ?_; rw [rounds_succ]
  have i18 := blk_cell j18 0
  obtain ⟨u1, u2, u3, u4⟩ := s18.at 12 (by decide) (by decide) rfl rfl
  obtain ⟨p1, q1, r1⟩ := s18.f1.c
  obtain ⟨p2, q2, r2⟩ := s18.f2.c
  obtain ⟨p3, q3, r3⟩ := s18.f3.c
  obtain ⟨p6, q6, r6⟩ := s18.f6.c
  (repeat' ((fail_if_success (with_reducible (show Code.wp _ (Code.region 32 _ _) _ _ _))); (fail_if_success at_builtin); first | go_values | go_skip | go_guarded | go_step | go_upon | go_back))
  clear u1 u2 u3 u4 p1 q1 r1 p2 q2 r2 p3 q3 r3 p6 q6 r6
  refine s18.wp 12 (by decide) rfl rfl rfl rfl rfl fun w19 s19 k19 => ?_
  clear i18
  have j19 := k19 _ _ (by omega) j18
  (repeat' ((fail_if_success (with_reducible (show Code.wp _ (Code.region 29 _ _) _ _ _))); (fail_if_success at_builtin); first | go_values | go_skip | go_guarded | go_step | go_upon | go_back))
  rw [rounds_succ]
  have i19 := blk_cell j19 1
  obtain ⟨u1, u2, u3, u4⟩ := s19.at 13 (by decide) (by decide) rfl rfl
  obtain ⟨p1, q1, r1⟩ := s19.f1.c
  obtain ⟨p2, q2, r2⟩ := s19.f2.c
  obtain ⟨p3, q3, r3⟩ := s19.f3.c
  obtain ⟨p6, q6, r6⟩ := s19.f6.c
  (repeat' ((fail_if_success (with_reducible (show Code.wp _ (Code.region 32 _ _) _ _ _))); (fail_if_success at_builtin); first | go_values | go_skip | go_guarded | go_step | go_upon | go_back))
  clear u1 u2 u3 u4 p1 q1 r1 p2 q2 r2 p3 q3 r3 p6 q6 r6
  refine s19.wp 13 (by decide) rfl rfl rfl rfl rfl fun w20 s20 k20 => ?_
  clear i19
  have j20 := k20 _ _ (by omega) j19
  (repeat' ((fail_if_success (with_reducible (show Code.wp _ (Code.region 29 _ _) _ _ _))); (fail_if_success at_builtin); first | go_values | go_skip | go_guarded | go_step | go_upon | go_back))
  rw [rounds_succ]
  (repeat' ((fail_if_success (with_reducible (show Code.wp _ (Code.region 33 _ _) _ _ _))); (fail_if_success at_builtin); first | go_values | go_skip | go_guarded | go_step | go_upon | go_back))
  obtain ⟨L, hl, hs⟩ := s20.hl
  obtain ⟨Z, hz1, hz2⟩ := s20.r0
  have hsz : (Tryz.prog.info? 266).map (·.size) = some L.size := by rw [hs.1]; kernel_rfl
  have h1 := hs.one
  have h34 : Z.size = L.size := by rw [hz1, hs.1]
  have hb := s20.below
  have H34 := Lib.hid h34
  have HSZ := Lib.hid hsz
  have HZ := Lib.hid hz1
  clear h34 hsz hz1
  repeat' (first | (with_reducible show wpList _ _ _ ((⟨some 100, _, _, _, _, _⟩ : Oper) :: _) _ _; refine wpList_load_row (o := ⟨some 100, .load 266 (.tmp 8), _, _, _, none⟩) rfl 266 (.tmp 8) rfl (w.heap.size + 1 + 1 + 1 + 1 + 1 + 1 + 1 + 1) rfl 266 L (0, 0) _ hl Tryz.underlying266 rfl HSZ.out ?_) | (with_reducible show wpList _ _ _ ((⟨none, _, _, _, _, _⟩ : Oper) :: _) _ _; refine wpList_store_row (o := ⟨none, .store 266 (.tmp 0) (.tmp 100), _, _, _, none⟩) rfl 266 (.tmp 0) (.tmp 100) rfl w.heap.size L rfl rfl 266 Z hz2 HSZ.out H34.out h1 ?_) | go_values | go_skip | go_guarded | go_step | go_upon)
  have k3 := setRow_heap w20 w.heap.size Z L 266 (0, 0) hz2
  refine bodyPost_ret (v := .agg L) ?_ rfl ⟨⟨L, rfl, ?_⟩, ?_⟩
  · exact results_cell_row (fn := Tryz.f177) rfl _ _ w.heap.size 266 L (0, 0) _ rfl k3 Tryz.underlying266 rfl HSZ.out
  · exact Shp_perm (hs.row hz2 L)
  · exact hb.trans ⟨rfl, rfl, rfl, by simp [World.setRow], fun k hk => setRow_other _ _ _ _ (by omega)⟩

end Go.Proofs.YtbppnihcbcdglaaGreat
