/- proc: the fields of an instruction, and what may stand in them. No condition. -/
import Derived.Test.YtbppnihcbcdglaaGreatZ11
/- proc: letters, names, fields. No condition. -/
namespace Go.Proofs.YtbppnihcbcdglaaGreat
open Go.RowKit
set_option linter.unusedVariables false
set_option linter.unusedSimpArgs false

set_option maxRecDepth 20000 in
set_option maxHeartbeats 1000000 in
theorem letter_any (w : World) (c : UInt8) : Calls Tryz.prog 275 #[.int .u8 (c.toNat : Int)] w fun e' w' => e' = .returned (.bool (letterB c)) ∧ w = w' := by
  have hk : (c.toNat : Int) < 256 := by have := byte_lt c; omega
  unfold letterB
  by_cases h1 : 97 ≤ c.toNat <;> by_cases h2 : c.toNat ≤ 122 <;> by_cases h3 : 65 ≤ c.toNat <;> by_cases h4 : c.toNat ≤ 90 <;> (try (exfalso; omega)) <;>
  ( have a1 : decide (97 ≤ c.toNat) = decide (97 ≤ c.toNat) := rfl
    simp only [h1, h2, h3, h4]
    have g1 : decide ((97 : Int) ≤ (c.toNat : Int)) = decide (97 ≤ c.toNat) := by simp; omega
    have g2 : decide ((c.toNat : Int) ≤ 122) = decide (c.toNat ≤ 122) := by simp; omega
    have g3 : decide ((65 : Int) ≤ (c.toNat : Int)) = decide (65 ≤ c.toNat) := by simp; omega
    have g4 : decide ((c.toNat : Int) ≤ 90) = decide (c.toNat ≤ 90) := by simp; omega
    simp only [h1, h2, h3, h4] at g1 g2 g3 g4
    clear h1 h2 h3 h4 a1
    go_enter Tryz.func275, Tryz.ntmps275
    (repeat' ((fail_if_success at_builtin); first | go_values | go_skip | go_guarded | go_step | go_upon | go_back))
    refine bodyPost_ret (results_tmp rfl _ _ _) rfl ⟨rfl, rfl⟩)

theorem okName_eq (s : Bs) (n : Nat) (c : UInt8) (hn : s.length = n) (hc : s[0]? = some c) : okName s = (decide (n ≤ 32) && letterB c && s.all nameB) := by
  subst hn
  cases s with
  | nil => simp at hc
  | cons d t => simp only [List.getElem?_cons_zero, Option.some.injEq] at hc; subst hc; rfl
theorem str_len (s : ByteArray) : s.data.toList.length = s.size := by rw [Array.length_toList]; rfl
theorem str_at (s : ByteArray) (k : Nat) (h : k < s.size) : s.data.toList[k]? = some s[k] := by
  rw [List.getElem?_eq_getElem (by rw [str_len]; exact h), Array.getElem_toList]; rfl
theorem name_cases (c : UInt8) : (nameB c = true ∧ letterB c = true) ∨ (nameB c = true ∧ letterB c = false ∧ 48 ≤ c.toNat ∧ c.toNat ≤ 57) ∨ (nameB c = true ∧ letterB c = false ∧ (c.toNat < 48 ∨ 57 < c.toNat) ∧ c.toNat = 95) ∨ (nameB c = true ∧ letterB c = false ∧ c.toNat < 48 ∧ c.toNat = 45) ∨ (nameB c = true ∧ letterB c = false ∧ c.toNat < 48 ∧ c.toNat = 46) ∨
    (nameB c = false ∧ letterB c = false ∧ (c.toNat < 48 ∨ 57 < c.toNat) ∧ c.toNat ≠ 95 ∧ c.toNat ≠ 45 ∧ c.toNat ≠ 46) := by
  unfold nameB
  by_cases hL : letterB c = true
  · exact .inl ⟨by simp [hL], hL⟩
  · have hL' : letterB c = false := by simpa using hL
    rw [hL']
    by_cases h1 : 48 ≤ c.toNat ∧ c.toNat ≤ 57
    · exact .inr (.inl ⟨by simp [h1.1, h1.2], rfl, h1.1, h1.2⟩)
    · by_cases h2 : c.toNat = 95
      · exact .inr (.inr (.inl ⟨by simp [h2], rfl, by omega, h2⟩))
      · by_cases h3 : c.toNat = 45
        · exact .inr (.inr (.inr (.inl ⟨by simp [h3], rfl, by omega, h3⟩)))
        · by_cases h4 : c.toNat = 46
          · exact .inr (.inr (.inr (.inr (.inl ⟨by simp [h4], rfl, by omega, h4⟩))))
          · refine .inr (.inr (.inr (.inr (.inr ⟨?_, rfl, by omega, h2, h3, h4⟩))))
            have e1 : (decide (48 ≤ c.toNat) && decide (c.toNat ≤ 57)) = false := by
              rw [Bool.and_eq_false_iff]; simp only [decide_eq_false_iff_not]; omega
            rw [e1]; simp [h2, h3, h4]

theorem take_all {s : ByteArray} {k : Nat} (h : k < s.size) : (s.data.toList.take (k + 1)).all nameB = ((s.data.toList.take k).all nameB && nameB s[k]) := by
  rw [List.take_succ_eq_append_getElem (by simpa using h), List.all_append]
  simp
  rfl

theorem all_step {s : ByteArray} {k : Nat} (h : k < s.size) (h1 : (s.data.toList.take k).all nameB = true) (h2 : nameB s[k] = true) : (s.data.toList.take (k + 1)).all nameB = true := by rw [take_all h, h1, h2]; rfl
theorem all_no {s : ByteArray} {k : Nat} (h : k < s.size) (h2 : nameB s[k] = false) : s.data.toList.all nameB = false := by
  rw [Bool.eq_false_iff]
  intro ha
  rw [List.all_eq_true] at ha
  have := ha s[k] (List.mem_of_getElem? (str_at s k h))
  rw [h2] at this; cases this
theorem ret_bool {a b : Bool} (h : a = b) : Ending.returned (.bool a) = .returned (.bool b) := by rw [h]
set_option maxRecDepth 20000 in
set_option maxHeartbeats 1000000 in
theorem isName_any (w : World) (s : ByteArray) (hs : s.size ≤ 140737488355328) : Calls Tryz.prog 239 #[.string s] w fun e' w' => e' = .returned (.bool (okName s.data.toList)) ∧ w = w' := by
  by_cases h0 : s.size = 0
  · have e : okName s.data.toList = false := by
      have : s.data.toList = [] := List.eq_nil_of_length_eq_zero (by rw [str_len]; exact h0)
      rw [this]; rfl
    rw [e]
    have h1 : decide ((s.size : Int) < 1) = true := by simp; omega
    clear h0 e
    go_enter Tryz.func239, Tryz.ntmps239
    (repeat' ((fail_if_success at_builtin); first | go_values | go_skip | go_guarded | go_step | go_upon | go_back))
    refine bodyPost_ret (results_tmp rfl _ _ _) rfl ⟨rfl, rfl⟩
  · have hz : 0 < s.size := by omega
    have h1 : decide ((s.size : Int) < 1) = false := by simp; omega
    have e := okName_eq s.data.toList s.size s[0] (str_len s) (str_at s 0 hz)
    by_cases h2 : s.size ≤ 32
    · have h3 : decide ((32 : Int) < (s.size : Int)) = false := by simp; omega
      by_cases h4 : letterB s[0] = true
      · have e' : okName s.data.toList = s.data.toList.all nameB := by rw [e, h4]; simp [h2]
        rw [e']
        have hsz : (s.size : Int) ≤ 32 := by omega
        clear e e' h0 h2
        go_enter Tryz.func239, Tryz.ntmps239
        (repeat' ((fail_if_success at_builtin); first | go_values | go_skip | go_guarded | go_step | go_upon | go_back))
        (refine (letter_any _ s[0]).mono ?_; rintro e1 w1 ⟨rfl, rfl⟩; dsimp only)
        rw [h4]
        (repeat' ((fail_if_success at_builtin); first | go_values | go_skip | go_guarded | go_step | go_upon | go_back))
        go_loop [21] (fun i => ∃ k : Nat, k ≤ s.size ∧ i = .int .i64 k ∧ (s.data.toList.take k).all nameB = true) (fun i => s.size - (intOf i).toNat)
        case atStart => exact ⟨0, Nat.zero_le _, rfl, rfl⟩
        case round =>
          obtain ⟨k, hk, rfl, hall⟩ := hrel
          have HALL := Lib.hid hall
          clear hall
          by_cases hlt : k < s.size
          · have hlt' : (k : Int) < (s.size : Int) := by omega
            have hc := byte_lt s[k]
            rcases name_cases s[k] with ⟨n1, n2⟩ | ⟨n1, n2, n3, n4⟩ | ⟨n1, n2, n3, n4⟩ | ⟨n1, n2, n3, n4⟩ | ⟨n1, n2, n3, n4⟩ | ⟨n1, n2, n3, n4, n5, n6⟩
            · have HN := Lib.hid (all_step hlt HALL.out n1)
              clear n1 hc
              ((repeat' ((fail_if_success at_builtin); first | go_values | go_skip | go_guarded | go_step | go_upon | go_back)); (refine (letter_any _ s[k]).mono ?_; rintro e1 w1 ⟨rfl, rfl⟩; dsimp only); rw [n2]; (repeat' ((fail_if_success at_builtin); first | go_values | go_skip | go_guarded | go_step | go_upon | go_back)); go_round; (case rel => exact ⟨k + 1, by omega, by go_num, HN.out⟩); (case measure => simp [intOf]; omega))
            · have HN := Lib.hid (all_step hlt HALL.out n1)
              have g1 : decide ((s[k].toNat : Int) < 48) = false := by simp; omega
              have g2 : decide ((57 : Int) < (s[k].toNat : Int)) = false := by simp; omega
              clear n1 n3 n4 hc
              ((repeat' ((fail_if_success at_builtin); first | go_values | go_skip | go_guarded | go_step | go_upon | go_back)); (refine (letter_any _ s[k]).mono ?_; rintro e1 w1 ⟨rfl, rfl⟩; dsimp only); rw [n2]; (repeat' ((fail_if_success at_builtin); first | go_values | go_skip | go_guarded | go_step | go_upon | go_back)); go_round; (case rel => exact ⟨k + 1, by omega, by go_num, HN.out⟩); (case measure => simp [intOf]; omega))
            · have HN := Lib.hid (all_step hlt HALL.out n1)
              have g1 : ((s[k].toNat : Int) != 95) = false := by simp; omega
              rcases n3 with n3 | n3
              · have g2 : decide ((s[k].toNat : Int) < 48) = true := by simp; omega
                clear n1 n3 n4 hc
                ((repeat' ((fail_if_success at_builtin); first | go_values | go_skip | go_guarded | go_step | go_upon | go_back)); (refine (letter_any _ s[k]).mono ?_; rintro e1 w1 ⟨rfl, rfl⟩; dsimp only); rw [n2]; (repeat' ((fail_if_success at_builtin); first | go_values | go_skip | go_guarded | go_step | go_upon | go_back)); go_round; (case rel => exact ⟨k + 1, by omega, by go_num, HN.out⟩); (case measure => simp [intOf]; omega))
              · have g2 : decide ((s[k].toNat : Int) < 48) = false := by simp; omega
                have g3 : decide ((57 : Int) < (s[k].toNat : Int)) = true := by simp; omega
                clear n1 n3 n4 hc
                ((repeat' ((fail_if_success at_builtin); first | go_values | go_skip | go_guarded | go_step | go_upon | go_back)); (refine (letter_any _ s[k]).mono ?_; rintro e1 w1 ⟨rfl, rfl⟩; dsimp only); rw [n2]; (repeat' ((fail_if_success at_builtin); first | go_values | go_skip | go_guarded | go_step | go_upon | go_back)); go_round; (case rel => exact ⟨k + 1, by omega, by go_num, HN.out⟩); (case measure => simp [intOf]; omega))
            · have HN := Lib.hid (all_step hlt HALL.out n1)
              have g1 : ((s[k].toNat : Int) != 45) = false := by simp; omega
              have g0 : ((s[k].toNat : Int) != 95) = true := by simp; omega
              have g2 : decide ((s[k].toNat : Int) < 48) = true := by simp; omega
              clear n1 n3 n4 hc
              ((repeat' ((fail_if_success at_builtin); first | go_values | go_skip | go_guarded | go_step | go_upon | go_back)); (refine (letter_any _ s[k]).mono ?_; rintro e1 w1 ⟨rfl, rfl⟩; dsimp only); rw [n2]; (repeat' ((fail_if_success at_builtin); first | go_values | go_skip | go_guarded | go_step | go_upon | go_back)); go_round; (case rel => exact ⟨k + 1, by omega, by go_num, HN.out⟩); (case measure => simp [intOf]; omega))
            · have HN := Lib.hid (all_step hlt HALL.out n1)
              have g1 : ((s[k].toNat : Int) != 46) = false := by simp; omega
              have g0 : ((s[k].toNat : Int) != 95) = true := by simp; omega
              have g3 : ((s[k].toNat : Int) != 45) = true := by simp; omega
              have g2 : decide ((s[k].toNat : Int) < 48) = true := by simp; omega
              clear n1 n3 n4 hc
              ((repeat' ((fail_if_success at_builtin); first | go_values | go_skip | go_guarded | go_step | go_upon | go_back)); (refine (letter_any _ s[k]).mono ?_; rintro e1 w1 ⟨rfl, rfl⟩; dsimp only); rw [n2]; (repeat' ((fail_if_success at_builtin); first | go_values | go_skip | go_guarded | go_step | go_upon | go_back)); go_round; (case rel => exact ⟨k + 1, by omega, by go_num, HN.out⟩); (case measure => simp [intOf]; omega))
            · have HN := Lib.hid (all_no hlt n1)
              have g0 : ((s[k].toNat : Int) != 95) = true := by simp; omega
              have g1 : ((s[k].toNat : Int) != 45) = true := by simp; omega
              have g4 : ((s[k].toNat : Int) != 46) = true := by simp; omega
              rcases n3 with n3 | n3
              · have g2 : decide ((s[k].toNat : Int) < 48) = true := by simp; omega
                clear n1 n3 n4 n5 n6 hc
                ((repeat' ((fail_if_success at_builtin); first | go_values | go_skip | go_guarded | go_step | go_upon | go_back)); (refine (letter_any _ s[k]).mono ?_; rintro e1 w1 ⟨rfl, rfl⟩; dsimp only); rw [n2]; (repeat' ((fail_if_success at_builtin); first | go_values | go_skip | go_guarded | go_step | go_upon | go_back)); refine bodyPost_ret (results_tmp rfl _ _ _) rfl ⟨?_, rfl⟩; refine congrArg (fun x => Ending.returned (.bool x)) ?_; exact HN.out.symm)
              · have g2 : decide ((s[k].toNat : Int) < 48) = false := by simp; omega
                have g3 : decide ((57 : Int) < (s[k].toNat : Int)) = true := by simp; omega
                clear n1 n3 n4 n5 n6 hc
                ((repeat' ((fail_if_success at_builtin); first | go_values | go_skip | go_guarded | go_step | go_upon | go_back)); (refine (letter_any _ s[k]).mono ?_; rintro e1 w1 ⟨rfl, rfl⟩; dsimp only); rw [n2]; (repeat' ((fail_if_success at_builtin); first | go_values | go_skip | go_guarded | go_step | go_upon | go_back)); refine bodyPost_ret (results_tmp rfl _ _ _) rfl ⟨?_, rfl⟩; refine congrArg (fun x => Ending.returned (.bool x)) ?_; exact HN.out.symm)
          · obtain rfl : k = s.size := by omega
            have e2 : s.data.toList.all nameB = true := by
              have := HALL.out
              rwa [List.take_of_length_le (by rw [str_len]; exact Nat.le_refl _)] at this
            have E2 := Lib.hid e2
            clear e2
            (repeat' ((fail_if_success at_builtin); first | go_values | go_skip | go_guarded | go_step | go_upon | go_back))
            refine bodyPost_ret (results_tmp rfl _ _ _) rfl ⟨?_, rfl⟩
            refine congrArg (fun x => Ending.returned (.bool x)) ?_
            exact E2.out.symm
      · have h4' : letterB s[0] = false := by simpa using h4
        have e' : okName s.data.toList = false := by rw [e, h4']; simp
        rw [e']
        have hsz : (s.size : Int) ≤ 32 := by omega
        clear e e' h0 h2 h4
        go_enter Tryz.func239, Tryz.ntmps239
        (repeat' ((fail_if_success at_builtin); first | go_values | go_skip | go_guarded | go_step | go_upon | go_back))
        (refine (letter_any _ s[0]).mono ?_; rintro e1 w1 ⟨rfl, rfl⟩; dsimp only)
        rw [h4']
        (repeat' ((fail_if_success at_builtin); first | go_values | go_skip | go_guarded | go_step | go_upon | go_back))
        refine bodyPost_ret (results_tmp rfl _ _ _) rfl ⟨rfl, rfl⟩
    · have e' : okName s.data.toList = false := by rw [e]; simp [h2]
      have h3 : decide ((32 : Int) < (s.size : Int)) = true := by simp; omega
      rw [e']
      clear e e' h0 h2
      go_enter Tryz.func239, Tryz.ntmps239
      (repeat' ((fail_if_success at_builtin); first | go_values | go_skip | go_guarded | go_step | go_upon | go_back))
      refine bodyPost_ret (results_tmp rfl _ _ _) rfl ⟨rfl, rfl⟩

end Go.Proofs.YtbppnihcbcdglaaGreat
namespace Go.Proofs.YtbppnihcbcdglaaGreat
open Go.RowKit
set_option linter.unusedVariables false
set_option linter.unusedSimpArgs false

/-- The cell of a field. -/
def Fd.off : Fd → Nat
  | .ra => 1 | .rb => 2 | .rc => 3 | .arg => 4 | .how => 4 | .many => 4 | .skip => 1
theorem fieldA_any (w : World) (b : Nat) : Calls Tryz.prog 241 #[.pointer (some ⟨b, 0, none⟩)] w fun e' w' => e' = .returned (.pointer (some ⟨b, 1, none⟩)) ∧ w = w' := by
  go_enter Tryz.func241, Tryz.ntmps241
  (repeat' ((fail_if_success at_builtin); first | go_values | go_skip | go_guarded | go_step | go_upon | go_back))
  refine bodyPost_ret (results_tmp rfl _ _ _) rfl ⟨rfl, rfl⟩
theorem fieldB_any (w : World) (b : Nat) : Calls Tryz.prog 243 #[.pointer (some ⟨b, 0, none⟩)] w fun e' w' => e' = .returned (.pointer (some ⟨b, 2, none⟩)) ∧ w = w' := by
  go_enter Tryz.func243, Tryz.ntmps243
  (repeat' ((fail_if_success at_builtin); first | go_values | go_skip | go_guarded | go_step | go_upon | go_back))
  refine bodyPost_ret (results_tmp rfl _ _ _) rfl ⟨rfl, rfl⟩
theorem fieldC_any (w : World) (b : Nat) : Calls Tryz.prog 244 #[.pointer (some ⟨b, 0, none⟩)] w fun e' w' => e' = .returned (.pointer (some ⟨b, 3, none⟩)) ∧ w = w' := by
  go_enter Tryz.func244, Tryz.ntmps244
  (repeat' ((fail_if_success at_builtin); first | go_values | go_skip | go_guarded | go_step | go_upon | go_back))
  refine bodyPost_ret (results_tmp rfl _ _ _) rfl ⟨rfl, rfl⟩
theorem fieldN_any (w : World) (b : Nat) : Calls Tryz.prog 245 #[.pointer (some ⟨b, 0, none⟩)] w fun e' w' => e' = .returned (.pointer (some ⟨b, 4, none⟩)) ∧ w = w' := by
  go_enter Tryz.func245, Tryz.ntmps245
  (repeat' ((fail_if_success at_builtin); first | go_values | go_skip | go_guarded | go_step | go_upon | go_back))
  refine bodyPost_ret (results_tmp rfl _ _ _) rfl ⟨rfl, rfl⟩
theorem at_any (f : Fd) (w : World) (b : Nat) : Calls Tryz.prog f.atF #[.pointer (some ⟨b, 0, none⟩)] w fun e' w' => e' = .returned (.pointer (some ⟨b, f.off, none⟩)) ∧ w = w' := by
  cases f
  · exact fieldA_any w b
  · exact fieldB_any w b
  · exact fieldC_any w b
  · exact fieldN_any w b
  · exact fieldN_any w b
  · exact fieldN_any w b
  · exact fieldA_any w b

set_option maxRecDepth 20000 in
theorem register_any (w : World) (v : Int) (p k : Value) : Calls Tryz.prog 242 #[.int .i64 v, p, k] w fun e' w' => e' = .returned (.bool (decide (0 ≤ v) && decide (v < 16))) ∧ w = w' := by
  by_cases h1 : 0 ≤ v <;> by_cases h2 : v < 16 <;> (simp only [h1, h2, decide_true, decide_false, Bool.and_true, Bool.and_false, Bool.true_and, Bool.false_and])
  · go_enter Tryz.func242, Tryz.ntmps242
    (repeat' ((fail_if_success at_builtin); first | go_values | go_skip | go_guarded | go_step | go_upon | go_back))
    refine bodyPost_ret (results_tmp rfl _ _ _) rfl ⟨rfl, rfl⟩
  · go_enter Tryz.func242, Tryz.ntmps242
    (repeat' ((fail_if_success at_builtin); first | go_values | go_skip | go_guarded | go_step | go_upon | go_back))
    refine bodyPost_ret (results_tmp rfl _ _ _) rfl ⟨rfl, rfl⟩
  · go_enter Tryz.func242, Tryz.ntmps242
    (repeat' ((fail_if_success at_builtin); first | go_values | go_skip | go_guarded | go_step | go_upon | go_back))
    refine bodyPost_ret (results_tmp rfl _ _ _) rfl ⟨rfl, rfl⟩
  · omega

/-- A procedure's block. -/
def PB (w : World) (b : Nat) (nm : ByteArray) (args : Int) (a : Option Addr) (n c : Nat) : Prop := w.heap[b]? = some (.cells #[.string nm, .int .i64 args, .slice a n c] 172 (0, 0))

set_option maxRecDepth 20000 in
theorem sh2_any (w : World) (v : Int) (p k : Value) : Calls Tryz.prog 247 #[.int .i64 v, p, k] w fun e' w' => e' = .returned (.bool (decide (1 ≤ v) && decide (v ≤ 6))) ∧ w = w' := by
  by_cases h1 : 1 ≤ v <;> by_cases h2 : v ≤ 6 <;> (simp only [h1, h2, decide_true, decide_false, Bool.and_true, Bool.and_false, Bool.true_and, Bool.false_and])
  all_goals (try (exfalso; omega))
  all_goals (go_enter Tryz.func247, Tryz.ntmps247)
  all_goals ((repeat' ((fail_if_success at_builtin); first | go_values | go_skip | go_guarded | go_step | go_upon | go_back)))
  all_goals (refine bodyPost_ret (results_tmp rfl _ _ _) rfl ⟨rfl, rfl⟩)

set_option maxRecDepth 20000 in
theorem sh3_any (w : World) (v : Int) (p k : Value) : Calls Tryz.prog 248 #[.int .i64 v, p, k] w fun e' w' => e' = .returned (.bool (decide (1 ≤ v) && decide (v ≤ 64))) ∧ w = w' := by
  by_cases h1 : 1 ≤ v <;> by_cases h2 : v ≤ 64 <;> (simp only [h1, h2, decide_true, decide_false, Bool.and_true, Bool.and_false, Bool.true_and, Bool.false_and])
  all_goals (try (exfalso; omega))
  all_goals (go_enter Tryz.func248, Tryz.ntmps248)
  all_goals ((repeat' ((fail_if_success at_builtin); first | go_values | go_skip | go_guarded | go_step | go_upon | go_back)))
  all_goals (refine bodyPost_ret (results_tmp rfl _ _ _) rfl ⟨rfl, rfl⟩)

set_option maxRecDepth 20000 in
theorem sh1_any (w : World) (v : Int) (k : Value) (b : Nat) (nm : ByteArray) (args : Int) (a : Option Addr) (n c : Nat) (h : PB w b nm args a n c) : Calls Tryz.prog 246 #[.int .i64 v, .pointer (some ⟨b, 0, none⟩), k] w fun e' w' => e' = .returned (.bool (decide (0 ≤ v) && decide (v < args))) ∧ w = w' := by
  have hc : w.cell? ⟨b, 1, none⟩ = some (.int .i64 args) := blk_cell h 1
  clear h
  by_cases h1 : 0 ≤ v <;> by_cases h2 : v < args <;> (simp only [h1, h2, decide_true, decide_false, Bool.and_true, Bool.and_false, Bool.true_and, Bool.false_and])
  all_goals (try (exfalso; omega))
  all_goals (go_enter Tryz.func246, Tryz.ntmps246)
  all_goals ((repeat' ((fail_if_success at_builtin); first | go_values | go_skip | go_guarded | go_step | go_upon | go_back)))
  all_goals (refine bodyPost_ret (results_tmp rfl _ _ _) rfl ⟨rfl, rfl⟩)

set_option maxRecDepth 20000 in
theorem sh4_any (w : World) (v : Int) (k : Nat) (b : Nat) (nm : ByteArray) (args : Int) (a : Option Addr) (n c : Nat) (h : PB w b nm args a n c) (hn : n ≤ 140737488355328) (hk : k ≤ n) : Calls Tryz.prog 249 #[.int .i64 v, .pointer (some ⟨b, 0, none⟩), .int .i64 (k : Int)] w fun e' w' => e' = .returned (.bool (decide (1 ≤ v) && decide (v < (n : Int) - (k : Int)))) ∧ w = w' := by
  have hc : w.cell? ⟨b, 2, none⟩ = some (.slice a n c) := blk_cell h 2
  have hn2 : (n : Int) ≤ 140737488355328 := by omega
  have hk2 : (k : Int) ≤ (n : Int) := by omega
  clear h hn hk
  by_cases h1 : 1 ≤ v <;> by_cases h2 : v < (n : Int) - (k : Int) <;> (simp only [h1, h2, decide_true, decide_false, Bool.and_true, Bool.and_false, Bool.true_and, Bool.false_and])
  all_goals (try (exfalso; omega))
  all_goals (go_enter Tryz.func249, Tryz.ntmps249)
  all_goals ((repeat' ((fail_if_success at_builtin); first | go_values | go_skip | go_guarded | go_step | go_upon | go_back)))
  all_goals (refine bodyPost_ret (results_tmp rfl _ _ _) rfl ⟨rfl, rfl⟩)

theorem may_any (f : Fd) (w : World) (v : Int) (k b : Nat) (nm : ByteArray) (args : Int) (a : Option Addr) (n c : Nat) (h : PB w b nm args a n c) (hn : n ≤ 140737488355328) (hk : k ≤ n) :
    Calls Tryz.prog f.mayF #[.int .i64 v, .pointer (some ⟨b, 0, none⟩), .int .i64 (k : Int)] w fun e' w' => e' = .returned (.bool (f.may args n k v)) ∧ w = w' := by
  cases f
  · exact register_any w v _ _
  · exact register_any w v _ _
  · exact register_any w v _ _
  · exact sh1_any w v _ b nm args a n c h
  · exact sh2_any w v _ _
  · exact sh3_any w v _ _
  · exact sh4_any w v k b nm args a n c h hn hk

end Go.Proofs.YtbppnihcbcdglaaGreat
