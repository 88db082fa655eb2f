/- The Reader of package octet, last: numbers, integers, texts. -/
import Derived.Test.YtbppnihcbcdglaaGreatZ6
namespace Go.Proofs.YtbppnihcbcdglaaGreat
open Go.RowKit
set_option linter.unusedVariables false
set_option linter.unusedSimpArgs false

set_option maxHeartbeats 400000 in
theorem number_any (w : World) (b : Nat) (r : RS) (h : Rd w b r) :
    Calls Tryz.prog 55 #[.pointer (some ⟨b, 0, none⟩)] w fun e' w' => e' = .returned (.int .i64 (r.number.1 : Int)) ∧ Rd w' b r.number.2 ∧ Fr w w' (fun k => k = b) := by
  have hlt : wrap64 ((r.row 9 127).1 : Int) = ((r.row 9 127).1 : Int) := by have := r.number_lt; unfold RS.number at this; unfold wrap64; omega
  have HLT := Lib.hid hlt
  clear hlt
  go_enter Tryz.func55, Tryz.ntmps55
  (repeat' ((fail_if_success at_builtin); first | go_values | go_skip | go_guarded | go_step | go_upon | go_back))
  (refine (row_any w b r h 9 127 (by omega) (by omega) (by omega) (by omega) (by omega)).mono ?_; rintro e1 w1 ⟨rfl, hR, hF⟩; dsimp only; (repeat' ((fail_if_success at_builtin); first | go_values | go_skip | go_guarded | go_step | go_upon | go_back)))
  refine bodyPost_ret (results_tmp rfl _ _ _) rfl ⟨?_, hR, hF⟩
  exact congrArg (fun x => Ending.returned (.int .i64 x)) HLT.out

theorem xor_neg1 (m : Nat) (h : m < 9223372036854775808) : bits BinOp.xor IntKind.i64 (m : Int) (-1) = -(m : Int) - 1 := by
  have e : BitVec.ofInt 64 (-1) = BitVec.allOnes 64 := by decide
  show IntKind.i64.wrap ((BitVec.ofInt 64 (m : Int) ^^^ BitVec.ofInt 64 (-1)).toNat : Int) = _
  rw [e, BitVec.xor_allOnes, BitVec.toNat_not, BitVec.toNat_ofInt, IntKind.wrap_i64]
  omega
theorem xor_zero64 (m : Nat) (h : m < 9223372036854775808) : bits BinOp.xor IntKind.i64 (m : Int) 0 = (m : Int) := by
  have e : BitVec.ofInt 64 0 = 0#64 := by decide
  show IntKind.i64.wrap ((BitVec.ofInt 64 (m : Int) ^^^ BitVec.ofInt 64 0).toNat : Int) = _
  rw [e, BitVec.xor_zero, BitVec.toNat_ofInt, IntKind.wrap_i64]
  omega
theorem zag_xor (u : Nat) (h : u < 18446744073709551616) :
    bits BinOp.xor IntKind.i64 (wrap64 ((u : Int) / 2)) (wrap64 (-wrap64 (bits BinOp.and IntKind.u64 (u : Int) 1))) = zag u := by
  rw [and_one_u64 _ (by omega) (by omega)]
  have e1 : wrap64 ((u : Int) / 2) = ((u / 2 : Nat) : Int) := by unfold wrap64; omega
  rw [e1]
  unfold zag
  by_cases hu : u % 2 = 0
  · rw [if_pos hu, show wrap64 (-wrap64 ((u : Int) % 2)) = 0 by rw [show ((u : Int) % 2) = 0 by omega]; simp [wrap64]]
    exact xor_zero64 _ (by omega)
  · rw [if_neg hu, show wrap64 (-wrap64 ((u : Int) % 2)) = -1 by rw [show ((u : Int) % 2) = 1 by omega]; simp [wrap64]]
    exact xor_neg1 _ (by omega)

set_option maxHeartbeats 400000 in
theorem int_any (w : World) (b : Nat) (r : RS) (h : Rd w b r) :
    Calls Tryz.prog 259 #[.pointer (some ⟨b, 0, none⟩)] w fun e' w' => e' = .returned (.int .i64 r.int.1) ∧ Rd w' b r.int.2 ∧ Fr w w' (fun k => k = b) := by
  go_enter Tryz.func259, Tryz.ntmps259
  (repeat' ((fail_if_success at_builtin); first | go_values | go_skip | go_guarded | go_step | go_upon | go_back))
  (refine (row_any w b r h 10 1 (by omega) (by omega) (by omega) (by omega) (by omega)).mono ?_; rintro e1 w1 ⟨rfl, hR, hF⟩; dsimp only; (repeat' ((fail_if_success at_builtin); first | go_values | go_skip | go_guarded | go_step | go_upon | go_back)))
  have hz := zag_xor _ r.row_lt10
  by_cases h0 : r.e = 0
  · by_cases h1 : (r.row 10 1).2.e = 0
    · have hI : r.int = (zag (r.row 10 1).1, (r.row 10 1).2) := by simp [RS.int, h0, h1]
      refine bodyPost_ret (results_tmp rfl _ _ _) rfl ⟨?_, by rw [hI]; exact hR, hF⟩
      rw [hI]
      exact congrArg (fun x => Ending.returned (.int .i64 x)) hz
    · have hI : r.int = (0, (r.row 10 1).2) := by simp [RS.int, h0, h1]
      have h2 : (r.row 10 1).1 = 0 := by
        rcases hg : rowGo 10 1 (r.d.drop r.i) 0 0 with ⟨e, v, n⟩
        by_cases he : e = 0
        · subst he
          rw [RS.row_ok h0 hg] at h1
          exact absurd h0 h1
        · rw [RS.row_err h0 he hg]
      refine bodyPost_ret (results_tmp rfl _ _ _) rfl ⟨?_, by rw [hI]; exact hR, hF⟩
      rw [hI]
      refine (congrArg (fun x => Ending.returned (.int .i64 x)) hz).trans ?_
      rw [h2]
      rfl
  · have hI : r.int = (0, r) := by simp [RS.int, h0]
    rw [RS.row_stop h0] at hR hz
    refine bodyPost_ret (results_tmp rfl _ _ _) rfl ⟨?_, by rw [hI]; exact hR, hF⟩
    rw [hI, RS.row_stop h0]
    have hz0 : zag (0, r).1 = 0 := by simp [zag]
    rw [hz0] at hz
    exact (congrArg (fun x => Ending.returned (.int .i64 x)) hz)
set_option maxHeartbeats 400000 in
theorem text_any (w : World) (b : Nat) (r : RS) (h : Rd w b r) (most : Int) (hm : -9223372036854775808 ≤ most ∧ most < 9223372036854775808) :
    Calls Tryz.prog 190 #[.pointer (some ⟨b, 0, none⟩), .int .i64 most] w fun e' w' => e' = .returned (.string ⟨(r.text most).1.toArray⟩) ∧ Rd w' b (r.text most).2 ∧ Fr w w' (fun k => k = b) := by
  have HM := Lib.hid hm
  clear hm
  by_cases h0 : r.e = 0
  · obtain ⟨a, c, p0, p1, p2, f1, f2, hs, hi, hl⟩ := h.cells
    have HL := Lib.hid hl
    clear hl
    go_enter Tryz.func190, Tryz.ntmps190
    (repeat' ((fail_if_success at_builtin); first | go_values | go_skip | go_guarded | go_step | go_upon | go_back))
    (refine (stopped_no w b r h h0).mono ?_; rintro e1 w1 ⟨rfl, rfl⟩; dsimp only; (repeat' ((fail_if_success at_builtin); first | go_values | go_skip | go_guarded | go_step | go_upon | go_back)))
    refine (number_any w b r h).mono ?_
    rintro e1 w1 ⟨rfl, hR, hF⟩
    dsimp only
    have hn : r.number.1 < 9223372036854775808 := r.number_lt
    have HN := Lib.hid hn
    clear hn
    have hk := r.row_keeps 9 127 hi
    have hx : ∃ n q, r.number = (n, q) := ⟨_, _, rfl⟩
    obtain ⟨n, q, hx⟩ := hx
    rw [show r.row 9 127 = (n, q) from hx] at hk
    rw [hx] at hR HN ⊢
    dsimp only at hR HN hk ⊢
    have HX := Lib.hid hx
    clear hx
    obtain ⟨a1, c1, p0, p1, p2, f1, f2, hs1, hi1, hl1⟩ := hR.cells
    have hcv := fun (W : World) (a : Option Addr) (c : Nat) (xs : Bs) (h : BS W a c xs) => run_bstr h
    by_cases hq : q.e = 0
    · obtain ⟨hqd, hq1, hq2, -⟩ := hk
      have hqdl := congrArg List.length hqd
      have hfix : ∀ e : Int, ({ d := q.d, i := r.i, e := e } : RS) = { r with e := e } := fun e => by rw [hqd]
      by_cases hlong : max most 0 < (n : Int)
      · have hT : r.text most = ([], { r with e := 4 }) := by simp only [RS.text, h0, HX.out, hq]; simp [hlong]
        have HT := Lib.hid hT
        clear hT
        have hR4 := (hR.setE 4).setAt r.i (by show r.i ≤ q.d.length; rw [hqd]; exact hi)
        have HF := Lib.hid hfix
        clear hfix hq1 hq2 hqd hcv hqdl
        (repeat' ((fail_if_success at_builtin); first | go_values | go_skip | go_guarded | go_step | go_upon | go_back))
        refine bodyPost_ret (results_tmp rfl _ _ _) rfl ⟨by rw [HT.out]; rfl, by rw [HT.out]; simp only [HF.out] at hR4; exact hR4, (hF.setB 2 _).setB 1 _⟩
      · have hl2 : (n : Int) ≤ max most 0 := by omega
        by_cases hsh : r.d.length - q.i < n
        · have hT : r.text most = ([], { r with e := 2 }) := by simp only [RS.text, h0, HX.out, hq]; simp [hlong, hsh]
          have HT := Lib.hid hT
          have hR4 := fun k => ((hR.drewN k).setE 2).setAt r.i (by show r.i ≤ q.d.length; rw [hqd]; exact hi)
          have HF := Lib.hid hfix
          have hs2 : ((q.d.length : Int) - (q.i : Int)) < (n : Int) := by omega
          have hw : IntKind.i64.wrap ((q.d.length : Int) - (q.i : Int)) = (q.d.length : Int) - (q.i : Int) := IntWalk.i64_in _ (by omega)
          clear hT hfix hq1 hq2 hqd hcv hlong hsh hqdl
          (repeat' ((fail_if_success at_builtin); first | go_values | go_skip | go_guarded | go_step | go_upon | go_back))
          go_quiet (fail)
          clear hw
          (repeat' ((fail_if_success at_builtin); first | go_values | go_skip | go_guarded | go_step | go_upon | go_back))
          refine bodyPost_ret (results_tmp rfl _ _ _) rfl ⟨by rw [HT.out]; rfl, by rw [HT.out]; have := hR4 nq; simp only [HF.out] at this; exact this, ((hF.drewN _).setB 2 _).setB 1 _⟩
        · have hle : q.i + n ≤ q.d.length := by omega
          have hT : r.text most = ((q.d.drop q.i).take n, { q with i := q.i + n }) := by simp only [RS.text, h0, HX.out, hq, hqd]; simp [hlong, hsh]
          have HT := Lib.hid hT
          have hR5 := fun k => (hR.drewN k).setAt (q.i + n) hle
          have hs2 : (n : Int) ≤ ((q.d.length : Int) - (q.i : Int)) := by omega
          have hw : IntKind.i64.wrap ((q.d.length : Int) - (q.i : Int)) = (q.d.length : Int) - (q.i : Int) := IntWalk.i64_in _ (by omega)
          clear hT hfix hq1 hq2 hqd hcv hlong hsh hqdl
          (repeat' ((fail_if_success at_builtin); first | go_values | go_skip | go_guarded | go_step | go_upon | go_back))
          go_quiet (fail)
          clear hw
          (repeat' ((fail_if_success at_builtin); first | go_values | go_skip | go_guarded | go_step | go_upon | go_back))
          have hR6 := hR5 nq
          have hF6 := (hF.drewN nq).setB 1 (.int .i64 ((q.i + n : Nat) : Int))
          clear hR5
          rw [show ((q.i : Int) + (n : Int)) = ((q.i + n : Nat) : Int) from by omega]
          generalize (w1.drewN nq).setCell ⟨b, 1, none⟩ (.int .i64 ((q.i + n : Nat) : Int)) = W1 at *
          clear p0 p1 p2 f1 f2 hs1
          obtain ⟨a2, c2, p0, p1, p2, f1, f2, hs1, -, -⟩ := hR6.cells
          dsimp only at p0 p1 p2 hs1
          have hmid := hs1.mid (lo := q.i) (hi := q.i + n) (by omega) hle
          have hml : ((q.d.take (q.i + n)).drop q.i).length = n := by simp; omega
          have hmt : (q.d.take (q.i + n)).drop q.i = (q.d.drop q.i).take n := by rw [List.drop_take]; congr 1; omega
          rw [hmt] at hmid
          have hml2 : ((q.d.drop q.i).take n).length = n := by simp; omega
          have hc1 : ∀ W, (Instr.slice 27 (.slice a2 q.d.length c2) (some (.int .i64 (q.i : Int))) (some (.int .i64 ((q.i : Int) + (n : Int)))) none).run Tryz.prog W = .ok (.slice (midA a2 c2 q.i) n (c2 - q.i)) W := fun W => by
            rw [show ((q.i : Int) + (n : Int)) = ((q.i + n : Nat) : Int) from by omega, run_bmid (by omega) (by have := hs1.le; omega), Nat.add_sub_cancel_left]
          have hc2 : ∀ k, (convert 27 9 (.slice (midA a2 c2 q.i) n (c2 - q.i))).run Tryz.prog (W1.drewN k) = .ok (.string ⟨((q.d.drop q.i).take n).toArray⟩) (W1.drewN k) := fun k => by
            have := run_bstr (hmid.drewN k); rw [hml2] at this; exact this
          have hw : IntKind.i64.wrap (((q.i + n : Nat) : Int) - (n : Int)) = (q.i : Int) := by rw [IntWalk.i64_in _ (by omega)]; omega
          clear hml hmt hml2 hmid hs2
          go_quiet (fail)
          clear hw
          (repeat' ((fail_if_success at_builtin); first | go_values | go_skip | go_guarded | go_step | go_upon | go_back))
          refine bodyPost_ret (results_tmp rfl _ _ _) rfl ⟨by rw [HT.out]; rfl, by rw [HT.out]; exact hR6.drewN _, hF6.drewN _⟩
    · have hT : r.text most = ([], q) := by simp [RS.text, h0, HX.out, hq]
      have HT := Lib.hid hT
      clear hT
      have hq2 : (q.e != 0) = true := by simpa using hq
      (repeat' ((fail_if_success at_builtin); first | go_values | go_skip | go_guarded | go_step | go_upon | go_back))
      refine bodyPost_ret (results_tmp rfl _ _ _) rfl ⟨by rw [HT.out]; rfl, by rw [HT.out]; exact hR, hF⟩
  · have hT : r.text most = ([], r) := by simp [RS.text, h0]
    have HT := Lib.hid hT
    clear hT
    go_enter Tryz.func190, Tryz.ntmps190
    (repeat' ((fail_if_success at_builtin); first | go_values | go_skip | go_guarded | go_step | go_upon | go_back))
    (refine (stopped_yes w b r h h0).mono ?_; rintro e1 w1 ⟨rfl, rfl⟩; dsimp only; (repeat' ((fail_if_success at_builtin); first | go_values | go_skip | go_guarded | go_step | go_upon | go_back)))
    refine bodyPost_ret (results_tmp rfl _ _ _) rfl ⟨by rw [HT.out]; rfl, by rw [HT.out]; exact h, Fr.refl _ _⟩
end Go.Proofs.YtbppnihcbcdglaaGreat
