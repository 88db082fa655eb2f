/- The Reader of package octet, more: Read, rows of sevens, numbers, texts. -/
import Derived.Test.YtbppnihcbcdglaaGreatZ3
import Derived.Test.YtbppnihcbcdglaaGreatZ5
namespace Go.Proofs.YtbppnihcbcdglaaGreat
open Go.RowKit
set_option linter.unusedVariables false
set_option linter.unusedSimpArgs false

set_option maxHeartbeats 400000 in
theorem read_any (w : World) (a : Option Addr) (c : Nat) (xs : Bs) (hx : BS w a c xs) (hl : xs.length ≤ 17592186044416) :
    Calls Tryz.prog 54 #[.slice a xs.length c] w fun e' w' => ∃ b, e' = .returned (.pointer (some ⟨b, 0, none⟩)) ∧ w.heap.size ≤ b ∧ Rd w' b ⟨xs, 0, 0⟩ ∧ Below w.heap.size w w' := by
  have HL := Lib.hid hl
  clear hl
  go_enter Tryz.func54, Tryz.ntmps54
  repeat' (first | (at_make; refine wp_makeB rfl _ _ rfl w.heap.size xs.length rfl rfl (by have := HL.out; omega) (Nat.le_refl _) ?_; intro w1 ho1 hg1; have hb1 := (Below.refl w.heap.size w).grown hg1 (Nat.le_refl _) (fun k hk => by cases hk)) | (with_reducible refine wp_copyB rfl (.tmp 7) (.tmp 8) rfl w.heap.size w.heap.size xs.length (List.replicate xs.length 0) xs rfl ho1 (by simp) rfl a c rfl (hx.below hb1) ?_; intro w2 ho2 hb2) | ((fail_if_success at_builtin); first | go_values | go_skip | go_guarded | go_step | go_upon | go_back))
  have hb3 := hb1.trans hb2
  have hsz := hb3.size
  have hA := (Below.refl w2.heap.size w2).alloc (Nat.le_refl _) (.cells #[.slice (some ⟨w.heap.size, 0, none⟩) xs.length xs.length, .int .i64 0, .int .i64 0] 207)
  refine bodyPost_ret (results_tmp rfl _ _ _) rfl ⟨_, rfl, hsz, ⟨_, _, blk_new _ _, ho2.bs.below hA, Nat.zero_le _, HL.out, TyB.below (fun g o e => by
    cases e
    obtain ⟨_, c', f', h'⟩ := ho2.row w.heap.size rfl
    exact ⟨c', f', h'⟩) hA⟩, hb3.trans (hA.mono hsz)⟩

/-- Where the rest of a row stands, k bytes read, their sum acc. -/
structure RowAt (r : RS) (most last k acc : Nat) : Prop where
  hk : k < most
  lt : acc < 128 ^ k
  eq : rowGo most last (r.d.drop r.i) 0 0 = rowGo most last (r.d.drop (r.i + k)) k acc

/-- Where a row that is none stops. -/
def RowJ (w : World) (b : Nat) (r : RS) (most last : Nat) (a' : Act) (w' : World) : Prop :=
  ∃ (u : Nat → Value) (e : Int), a' = ⟨#[.pointer (some ⟨b, 0, none⟩), (u 1), (u 2), (u 3), (u 4), (u 5), (u 6), (u 7), .int .i64 e, (u 9), (u 10), (u 11), (u 12), (u 13), (u 14), (u 15), (u 16), (u 17), (u 18), (u 19), (u 20), (u 21), (u 22), (u 23), (u 24), (u 25), (u 26), (u 27), (u 28), (u 29), (u 30), (u 31), (u 32), (u 33), (u 34), (u 35), (u 36), (u 37), (u 38), (u 39), (u 40), (u 41), (u 42), (u 43), (u 44), (u 45), (u 46), (u 47), (u 48), (u 49), (u 50), (u 51), (u 52), (u 53), (u 54), (u 55), (u 56), (u 57), (u 58), (u 59), (u 60), (u 61), (u 62), (u 63), (u 64), (u 65), (u 66), (u 67), (u 68), (u 69), (u 70), (u 71), (u 72), (u 73), (u 74), (u 75), (u 76), (u 77)], []⟩ ∧ e ≠ 0 ∧ (∃ v n, rowGo most last (r.d.drop r.i) 0 0 = (e, v, n)) ∧ Dr w w'

theorem RowJ.mk {w : World} {b : Nat} {r : RS} {most last : Nat} (T : Array Value) {w' : World} (e : Int) (h : T = #[.pointer (some ⟨b, 0, none⟩), T.getD 1 undef, T.getD 2 undef, T.getD 3 undef, T.getD 4 undef, T.getD 5 undef, T.getD 6 undef, T.getD 7 undef, .int .i64 e, T.getD 9 undef, T.getD 10 undef, T.getD 11 undef, T.getD 12 undef, T.getD 13 undef, T.getD 14 undef, T.getD 15 undef, T.getD 16 undef, T.getD 17 undef, T.getD 18 undef, T.getD 19 undef, T.getD 20 undef, T.getD 21 undef, T.getD 22 undef, T.getD 23 undef, T.getD 24 undef, T.getD 25 undef, T.getD 26 undef, T.getD 27 undef, T.getD 28 undef, T.getD 29 undef, T.getD 30 undef, T.getD 31 undef, T.getD 32 undef, T.getD 33 undef, T.getD 34 undef, T.getD 35 undef, T.getD 36 undef, T.getD 37 undef, T.getD 38 undef, T.getD 39 undef, T.getD 40 undef, T.getD 41 undef, T.getD 42 undef, T.getD 43 undef, T.getD 44 undef, T.getD 45 undef, T.getD 46 undef, T.getD 47 undef, T.getD 48 undef, T.getD 49 undef, T.getD 50 undef, T.getD 51 undef, T.getD 52 undef, T.getD 53 undef, T.getD 54 undef, T.getD 55 undef, T.getD 56 undef, T.getD 57 undef, T.getD 58 undef, T.getD 59 undef, T.getD 60 undef, T.getD 61 undef, T.getD 62 undef, T.getD 63 undef, T.getD 64 undef, T.getD 65 undef, T.getD 66 undef, T.getD 67 undef, T.getD 68 undef, T.getD 69 undef, T.getD 70 undef, T.getD 71 undef, T.getD 72 undef, T.getD 73 undef, T.getD 74 undef, T.getD 75 undef, T.getD 76 undef, T.getD 77 undef]) (he : e ≠ 0) (hg : ∃ v n, rowGo most last (r.d.drop r.i) 0 0 = (e, v, n)) (hd : Dr w w') : RowJ w b r most last ⟨T, []⟩ w' :=
  ⟨fun i => T.getD i undef, e, congrArg (fun t => Act.mk t []) h, he, hg, hd⟩

theorem and127 : ∀ v, v < 256 → v &&& 127 = v % 128 := by decide +kernel
theorem acc_step (acc v k : Nat) (hv : v ≤ 255) (h : acc < 128 ^ k) (hs : acc + v % 128 * 128 ^ k < 18446744073709551616) :
    bits BinOp.or IntKind.u64 (acc : Int) (IntKind.u64.wrap (IntKind.u64.wrap (bits BinOp.and IntKind.u8 (v : Int) 127) * 2 ^ (7 * k))) = ((acc + v % 128 * 128 ^ k : Nat) : Int) := by
  have e1 : bits BinOp.and IntKind.u8 (v : Int) 127 = ((v % 128 : Nat) : Int) := by
    rw [show (127 : Int) = ((127 : Nat) : Int) from rfl, u8_and_nat v 127 (by omega) (by omega), and127 v (by omega)]
  have e2 : IntKind.u64.wrap ((v % 128 : Nat) : Int) = ((v % 128 : Nat) : Int) := by simp only [IntKind.wrap_u64]; omega
  have e3 : (((v % 128 : Nat) : Int) * 2 ^ (7 * k)) = ((v % 128 * 128 ^ k : Nat) : Int) := by
    rw [Int.pow_mul]; push_cast; rfl
  have e4 : IntKind.u64.wrap ((v % 128 * 128 ^ k : Nat) : Int) = ((v % 128 * 128 ^ k : Nat) : Int) := by simp only [IntKind.wrap_u64]; omega
  rw [e1, e2, e3, e4, u64_or_nat _ _ (by omega) (by omega), or_shift _ _ _ h]

theorem acc_next (acc v k : Nat) (h : acc < 128 ^ k) : acc + v % 128 * 128 ^ k < 128 ^ (k + 1) := by
  have : v % 128 * 128 ^ k ≤ 127 * 128 ^ k := Nat.mul_le_mul (by omega) (Nat.le_refl _)
  rw [Nat.pow_succ]
  omega
theorem acc_lt (acc v k most last : Nat) (hk : k < most) (hm : most ≤ 10) (hv : v ≤ 255) (hl : k = most - 1 → v ≤ last) (hm2 : most = 10 → last ≤ 1) (h : acc < 128 ^ k) : acc + v % 128 * 128 ^ k < 18446744073709551616 := by
  have h9 : k ≤ 9 := by omega
  rcases Nat.lt_or_ge k 9 with h8 | h8
  · have hp : (128 : Nat) ^ k ≤ 128 ^ 8 := Nat.pow_le_pow_right (by omega) (by omega)
    have : v % 128 * 128 ^ k ≤ 127 * 128 ^ 8 := Nat.mul_le_mul (by omega) hp
    have e : (128 : Nat) ^ 8 = 72057594037927936 := by decide
    omega
  · obtain rfl : k = 9 := by omega
    have h10 : most = 10 := by omega
    have hv1 : v ≤ 1 := Nat.le_trans (hl (by omega)) (hm2 h10)
    have e : (128 : Nat) ^ 9 = 9223372036854775808 := by decide
    rw [e] at h ⊢
    have : v % 128 ≤ 1 := by omega
    have : v % 128 * 9223372036854775808 ≤ 1 * 9223372036854775808 := Nat.mul_le_mul this (Nat.le_refl _)
    omega

set_option maxRecDepth 50000 in
set_option maxHeartbeats 1000000 in
theorem row_any (w : World) (b : Nat) (r : RS) (h : Rd w b r) (most last : Nat) (hm : most ≤ 10) (hm1 : 1 ≤ most) (hla : last ≤ 255) (hm2 : most = 10 → last ≤ 1) (hm3 : last ≤ 127) :
    Calls Tryz.prog 119 #[.pointer (some ⟨b, 0, none⟩), .int .i64 (most : Int), .int .u8 (last : Int)] w fun e' w' => e' = .returned (.int .u64 ((r.row most last).1 : Int)) ∧ Rd w' b (r.row most last).2 ∧ Fr w w' (fun k => k = b) := by
  by_cases h0 : r.e = 0
  · have HM2 := Lib.hid hm2
    clear hm2
    go_enter Tryz.func119, Tryz.ntmps119
    (repeat' ((fail_if_success at_builtin); first | go_values | go_skip | go_guarded | go_step | go_upon | go_back))
    refine wp_scope_jumps 0 (RowJ w b r most last) (fun _ _ => 0) rfl ?_ ?_
    · (repeat' ((fail_if_success at_builtin); first | go_values | go_skip | go_guarded | go_step | go_upon | go_back))
      (refine (stopped_no w b r h h0).mono ?_; rintro e1 w1 ⟨rfl, rfl⟩; dsimp only; (repeat' ((fail_if_success at_builtin); first | go_values | go_skip | go_guarded | go_step | go_upon | go_back)))
      go_loopw [7, 9, 10] (fun u i _ wr => ∃ k acc : Nat, RowAt r most last k acc ∧ u = .int .u64 acc ∧ i = .int .i64 k ∧ Dr w wr) (fun _ i _ _ => most - (intOf i).toNat)
      case atStart => exact ⟨0, 0, ⟨by omega, by omega, rfl⟩, rfl, rfl, Dr.refl _⟩
      case round =>
        obtain ⟨k, acc, hR, rfl, rfl, n1, rfl⟩ := hrel
        have hk := hR.hk
        have h1 := h.drewN n1
        obtain ⟨a, c, p0, p1, p2, f1, f2, hs, hi, hl⟩ := h.cells
        have hw : IntKind.i64.wrap ((r.i : Int) + (k : Int)) = (r.i : Int) + (k : Int) := IntWalk.i64_in _ (by omega)
        rcases Nat.lt_or_ge (r.i + k) r.d.length with hlt | hge
        · clear p0
          obtain ⟨g, o, c', p0, hne, hc⟩ := h.byteAt hlt
          have hlt' : (r.i : Int) + (k : Int) < (r.d.length : Int) := by omega
          have hi0 : (0 : Int) ≤ (r.i : Int) + (k : Int) := by omega
          have hw2 : ((r.i : Int) + (k : Int)).toNat = r.i + k := by omega
          have hka : (k : Int) ≤ 9 := by omega
          have hEq := Lib.hid hR.eq
          have hLt := Lib.hid hR.lt
          clear hR
          obtain ⟨v, hv⟩ : ∃ v, v = r.d[r.i + k].toNat := ⟨_, rfl⟩
          have hv8 : v ≤ 255 := by have := r.d[r.i + k].toNat_lt; omega
          rw [← hv] at hc
          by_cases hA : k = most - 1 ∧ last < v
          · have hg := Lib.hid (hEq.out.trans (rowGo_range hlt (by rw [← hv]; exact hA)))
            have hA1 : ((k : Int) == (most : Int) - 1) = true := by simp; omega
            have hA2 : (last : Int) < (v : Int) := by omega
            clear hA hv
            ((repeat' ((fail_if_success at_builtin); first | go_values | go_skip | go_guarded | go_step | go_upon | go_back)); go_quiet (fail); (repeat' ((fail_if_success at_builtin); first | go_values | go_skip | go_guarded | go_step | go_upon | go_back)); go_quiet (fail); clear hw hw2; (repeat' ((fail_if_success at_builtin); first | go_values | go_skip | go_guarded | go_step | go_upon | go_back)))
            go_step3
            exact ⟨rfl, RowJ.mk _ 15 (by kernel_rfl) (by decide) ⟨0, 0, hg.out⟩ (Dr.of w _)⟩
          · have hB : ((k : Int) == (most : Int) - 1) = false ∨ (((k : Int) == (most : Int) - 1) = true ∧ (v : Int) ≤ (last : Int)) := by
              by_cases hk9 : k = most - 1
              · exact .inr ⟨by simp; omega, by omega⟩
              · exact .inl (by simp; omega)
            have hac := Lib.hid (acc_lt acc v k most last hk hm hv8 (by omega) HM2.out hLt.out)
            have hstep := Lib.hid (acc_step acc v k hv8 hLt.out hac.out)
            have HA : Hid (¬ (k = most - 1 ∧ last < r.d[r.i + k].toNat)) := Lib.hid (by rw [← hv]; exact hA)
            clear hA
            rcases Nat.lt_or_ge v 128 with h128 | h128
            · by_cases hz : 0 < k ∧ v = 0
              · have hg := Lib.hid (hEq.out.trans (rowGo_form hlt HA.out (by omega) (by rw [← hv]; exact hz)))
                have hz1 : (0 : Int) < (k : Int) := by omega
                have hz2 : ((v : Int) == 0) = true := by simp; omega
                clear hz hv
                rcases hB with hB | ⟨hB, hB2⟩
                all_goals
                  ((repeat' ((fail_if_success at_builtin); first | go_values | go_skip | go_guarded | go_step | go_upon | go_back)); go_quiet (fail); (repeat' ((fail_if_success at_builtin); first | go_values | go_skip | go_guarded | go_step | go_upon | go_back)); go_quiet (fail); clear hw hw2; (repeat' ((fail_if_success at_builtin); first | go_values | go_skip | go_guarded | go_step | go_upon | go_back)))
                  go_step3
                  exact ⟨rfl, RowJ.mk _ 3 (by kernel_rfl) (by decide) ⟨0, 0, hg.out⟩ (Dr.of w _)⟩
              · have hg := Lib.hid (RS.row_ok h0 (hEq.out.trans (rowGo_ok hlt HA.out (by omega) (by rw [← hv]; exact hz))))
                have HV := Lib.hid hv
                have hZ : (k : Int) ≤ 0 ∨ ((0 : Int) < (k : Int) ∧ ((v : Int) == 0) = false) := by
                  by_cases hk0 : k = 0
                  · exact .inl (by omega)
                  · exact .inr ⟨by omega, by simp; omega⟩
                clear hz hv
                rcases hB with hB | ⟨hB, hB2⟩ <;> rcases hZ with hZ | ⟨hZ, hZ2⟩
                all_goals
                  ((repeat' ((fail_if_success at_builtin); first | go_values | go_skip | go_guarded | go_step | go_upon | go_back)); go_quiet (fail); (repeat' ((fail_if_success at_builtin); first | go_values | go_skip | go_guarded | go_step | go_upon | go_back)); go_quiet (fail); clear hw hw2; (repeat' ((fail_if_success at_builtin); first | go_values | go_skip | go_guarded | go_step | go_upon | go_back)))
                  simp only [Exit.jump]
                  rw [show ((r.i : Int) + ((k : Int) + 1)) = ((r.i + (k + 1) : Nat) : Int) from by omega]
                  refine bodyPost_ret (results_tmp rfl _ _ _) rfl ⟨by rw [hg.out, ← HV.out]; exact congrArg (fun x => Ending.returned (.int .u64 x)) hstep.out, by rw [hg.out]; exact (h.drewN _).setAt (r.i + (k + 1)) (by omega), ((Fr.refl w _).drewN _).setB 1 _⟩
            · have hg := Lib.hid (hEq.out.trans (rowGo_on hlt HA.out (by omega)))
              have HV := Lib.hid hv
              clear hv
              rcases hB with hB | ⟨hB, hB2⟩
              · ((repeat' ((fail_if_success at_builtin); first | go_values | go_skip | go_guarded | go_step | go_upon | go_back)); go_quiet (fail); (repeat' ((fail_if_success at_builtin); first | go_values | go_skip | go_guarded | go_step | go_upon | go_back)); go_quiet (fail); clear hw hw2; (repeat' ((fail_if_success at_builtin); first | go_values | go_skip | go_guarded | go_step | go_upon | go_back)))
                go_roundw
                case rel => exact ⟨k + 1, acc + v % 128 * 128 ^ k, ⟨by have := HA.out; rw [← HV.out] at this; omega, acc_next acc v k hLt.out, by rw [HV.out]; exact hg.out⟩, by rw [hstep.out], by go_num, Dr.of w _⟩
                case measure => simp [intOf]; omega
              · omega
        · have hg := Lib.hid (hR.eq.trans (rowGo_short hge))
          have hge' : (r.d.length : Int) ≤ (r.i : Int) + (k : Int) := by omega
          have hka : (k : Int) ≤ 9 := by omega
          have hi0 : (0 : Int) ≤ (r.i : Int) := by omega
          clear hR
          (repeat' ((fail_if_success at_builtin); first | go_values | go_skip | go_guarded | go_step | go_upon | go_back))
          go_quiet (fail)
          (repeat' ((fail_if_success at_builtin); first | go_values | go_skip | go_guarded | go_step | go_upon | go_back))
          go_step3
          exact ⟨rfl, RowJ.mk _ 2 (by kernel_rfl) (by decide) ⟨0, 0, hg.out⟩ ((Dr.of w n1).drewN nq)⟩
    · rintro a' w' ⟨u, e, rfl, he, ⟨v, n, hv⟩, n1, rfl⟩
      have HB := Lib.hid (RS.row_err h0 he hv)
      have h1 := h.drewN n1
      obtain ⟨a, c, p0, p1, p2, f1, f2, hs, hi, hl⟩ := h1.cells
      clear hl hi hs
      (repeat' ((fail_if_success at_builtin); first | go_values | go_skip | go_guarded | go_step | go_upon | go_back))
      simp only [Exit.jump]
      refine bodyPost_ret (results_tmp rfl _ _ _) rfl ⟨by rw [HB.out]; rfl, by rw [HB.out]; exact h1.setE e, (((Fr.refl w _).drewN n1).setB 2 _)⟩
  · have hb := RS.row_stop (most := most) (last := last) h0
    have HB := Lib.hid hb
    clear hb hm2
    go_enter Tryz.func119, Tryz.ntmps119
    (repeat' ((fail_if_success at_builtin); first | go_values | go_skip | go_guarded | go_step | go_upon | go_back))
    go_step3
    (repeat' ((fail_if_success at_builtin); first | go_values | go_skip | go_guarded | go_step | go_upon | go_back))
    (refine (stopped_yes w b r h h0).mono ?_; rintro e1 w1 ⟨rfl, rfl⟩; dsimp only; (repeat' ((fail_if_success at_builtin); first | go_values | go_skip | go_guarded | go_step | go_upon | go_back)))
    rw [Exit.noGoto_ret]
    refine bodyPost_ret (results_tmp rfl _ _ _) rfl ⟨by rw [HB.out]; rfl, by rw [HB.out]; exact h, Fr.refl _ _⟩
end Go.Proofs.YtbppnihcbcdglaaGreat
