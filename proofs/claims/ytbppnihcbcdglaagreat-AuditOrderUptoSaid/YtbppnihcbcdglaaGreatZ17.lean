/- batch: a transaction's kind, and why its own parts are none. No condition. -/
import Derived.Test.YtbppnihcbcdglaaGreatZ16
namespace Go.Proofs.YtbppnihcbcdglaaGreat
open Go.RowKit
set_option linter.unusedVariables false
set_option linter.unusedSimpArgs false

/-- The type of a kind. -/
def kindT (k : Int) : Nat := if k = 1 then 194 else if k = 2 then 198 else 197
set_option maxRecDepth 20000 in
set_option maxHeartbeats 1000000 in
theorem kindOf_1 (w : World) (pn nm : Bs) (pa : Int) (ca aa : Option Addr) (cn cc an ac : Nat) : Calls Tryz.prog 106 #[.agg #[.int .i64 1, .string ⟨pn.toArray⟩, .int .i64 pa, .slice ca cn cc, .string ⟨nm.toArray⟩, .slice aa an ac]] w fun e' w' => e' = .returned (.iface 194 (.agg #[.int .i64 1, .string ⟨pn.toArray⟩, .int .i64 pa, .slice ca cn cc, .string ⟨nm.toArray⟩, .slice aa an ac])) ∧ Below w.heap.size w w' := by
  go_enter Tryz.func106, Tryz.ntmps106
  (repeat' ((fail_if_success at_builtin); first | go_values | go_skip | go_guarded | go_step | go_upon | go_back))
  refine bodyPost_ret (results_tmp rfl _ _ _) rfl ⟨rfl, by (repeat' (first | (with_reducible exact Below.refl _ _) | (with_reducible assumption) | (with_reducible refine Below.drew ?_) | (with_reducible refine bdrewN ?_ _) | (with_reducible refine Below.alloc ?_ ?_ _) | (with_reducible refine Below.setCell ?_ ?_ _) | omega | (simp; done) | (simp; omega)))⟩
set_option maxRecDepth 20000 in
set_option maxHeartbeats 1000000 in
theorem kindOf_2 (w : World) (pn nm : Bs) (pa : Int) (ca aa : Option Addr) (cn cc an ac : Nat) : Calls Tryz.prog 106 #[.agg #[.int .i64 2, .string ⟨pn.toArray⟩, .int .i64 pa, .slice ca cn cc, .string ⟨nm.toArray⟩, .slice aa an ac]] w fun e' w' => e' = .returned (.iface 198 (.agg #[.int .i64 2, .string ⟨pn.toArray⟩, .int .i64 pa, .slice ca cn cc, .string ⟨nm.toArray⟩, .slice aa an ac])) ∧ Below w.heap.size w w' := by
  go_enter Tryz.func106, Tryz.ntmps106
  (repeat' ((fail_if_success at_builtin); first | go_values | go_skip | go_guarded | go_step | go_upon | go_back))
  refine bodyPost_ret (results_tmp rfl _ _ _) rfl ⟨rfl, by (repeat' (first | (with_reducible exact Below.refl _ _) | (with_reducible assumption) | (with_reducible refine Below.drew ?_) | (with_reducible refine bdrewN ?_ _) | (with_reducible refine Below.alloc ?_ ?_ _) | (with_reducible refine Below.setCell ?_ ?_ _) | omega | (simp; done) | (simp; omega)))⟩
set_option maxRecDepth 20000 in
set_option maxHeartbeats 1000000 in
theorem kindOf_3 (w : World) (pn nm : Bs) (pa : Int) (ca aa : Option Addr) (cn cc an ac : Nat) : Calls Tryz.prog 106 #[.agg #[.int .i64 3, .string ⟨pn.toArray⟩, .int .i64 pa, .slice ca cn cc, .string ⟨nm.toArray⟩, .slice aa an ac]] w fun e' w' => e' = .returned (.iface 197 (.agg #[.int .i64 3, .string ⟨pn.toArray⟩, .int .i64 pa, .slice ca cn cc, .string ⟨nm.toArray⟩, .slice aa an ac])) ∧ Below w.heap.size w w' := by
  go_enter Tryz.func106, Tryz.ntmps106
  (repeat' ((fail_if_success at_builtin); first | go_values | go_skip | go_guarded | go_step | go_upon | go_back))
  refine bodyPost_ret (results_tmp rfl _ _ _) rfl ⟨rfl, by (repeat' (first | (with_reducible exact Below.refl _ _) | (with_reducible assumption) | (with_reducible refine Below.drew ?_) | (with_reducible refine bdrewN ?_ _) | (with_reducible refine Below.alloc ?_ ?_ _) | (with_reducible refine Below.setCell ?_ ?_ _) | omega | (simp; done) | (simp; omega)))⟩
set_option maxRecDepth 20000 in
set_option maxHeartbeats 1000000 in
theorem kindOf_0 (w : World) (k : Int) (h1 : k ≠ 1) (h2 : k ≠ 2) (h3 : k ≠ 3) (pn nm : Bs) (pa : Int) (ca aa : Option Addr) (cn cc an ac : Nat) : Calls Tryz.prog 106 #[.agg #[.int .i64 k, .string ⟨pn.toArray⟩, .int .i64 pa, .slice ca cn cc, .string ⟨nm.toArray⟩, .slice aa an ac]] w fun e' w' => e' = .returned .nilIface ∧ Below w.heap.size w w' := by
  have g1 : (k == 1) = false := by simpa using h1
  have g2 : (k == 2) = false := by simpa using h2
  have g3 : (k == 3) = false := by simpa using h3
  clear h1 h2 h3
  go_enter Tryz.func106, Tryz.ntmps106
  (repeat' ((fail_if_success at_builtin); first | go_values | go_skip | go_guarded | go_step | go_upon | go_back))
  refine bodyPost_ret (results_tmp rfl _ _ _) rfl ⟨rfl, by (repeat' (first | (with_reducible exact Below.refl _ _) | (with_reducible assumption) | (with_reducible refine Below.drew ?_) | (with_reducible refine bdrewN ?_ _) | (with_reducible refine Below.alloc ?_ ?_ _) | (with_reducible refine Below.setCell ?_ ?_ _) | omega | (simp; done) | (simp; omega)))⟩

set_option maxRecDepth 20000 in
set_option maxHeartbeats 1000000 in
theorem def_check (w : World) (k : Int) (pn nm : Bs) (pa : Int) (code : List I) (ca aa : Option Addr) (cc an ac : Nat) (hc : Code1 w ca code) (hp : pn.length ≤ 140737488355328) :
    Calls Tryz.prog 301 #[.agg #[.int .i64 k, .string ⟨pn.toArray⟩, .int .i64 pa, .slice ca code.length cc, .string ⟨nm.toArray⟩, .slice aa an ac]] w fun e' w' => e' = .returned (.int .i64 (if nm ≠ [] ∨ an ≠ 0 then 3 else (chkP ⟨pn, pa, code⟩).2)) ∧ Below w.heap.size w w' := by
  have hl := str_list nm
  have hc1 := hc.below ((Below.refl _ w).alloc (Nat.le_refl _) (.cells #[.int .i64 k, .string ⟨pn.toArray⟩, .int .i64 pa, .slice ca code.length cc, .string ⟨nm.toArray⟩, .slice aa an ac] 194))
  have HP := Lib.hid hp
  have hbb : Below w.heap.size w (w.alloc (.cells #[.int .i64 k, .string ⟨pn.toArray⟩, .int .i64 pa, .slice ca code.length cc, .string ⟨nm.toArray⟩, .slice aa an ac] 194)) := by (repeat' (first | (with_reducible exact Below.refl _ _) | (with_reducible assumption) | (with_reducible refine Below.drew ?_) | (with_reducible refine bdrewN ?_ _) | (with_reducible refine Below.alloc ?_ ?_ _) | (with_reducible refine Below.setCell ?_ ?_ _) | omega | (simp; done) | (simp; omega)))
  clear hp hc
  by_cases h1 : nm = []
  · subst h1
    by_cases h2 : an = 0
    · subst h2
      rw [if_neg (by simp)]
      go_enter Tryz.func301, Tryz.ntmps301
      (repeat' ((fail_if_success at_builtin); first | go_values | go_skip | go_guarded | go_step | go_upon | go_back))
      (refine (chkP_any _ ⟨pn.toArray⟩ pa ca cc code (by rw [str_size]; exact HP.out) hc1).mono ?_; rintro e1 w1 ⟨rfl, hb⟩; dsimp only)
      (repeat' ((fail_if_success at_builtin); first | go_values | go_skip | go_guarded | go_step | go_upon | go_back))
      refine bodyPost_ret (results_tmp rfl _ _ _) rfl ⟨rfl, hbb.trans (hb.mono hbb.size)⟩
    · rw [if_pos (.inr h2)]
      have g2 : 0 < an := by omega
      clear h2
      go_enter Tryz.func301, Tryz.ntmps301
      (repeat' ((fail_if_success at_builtin); first | go_values | go_skip | go_guarded | go_step | go_upon | go_back))
      refine bodyPost_ret (results_tmp rfl _ _ _) rfl ⟨rfl, by (repeat' (first | (with_reducible exact Below.refl _ _) | (with_reducible assumption) | (with_reducible refine Below.drew ?_) | (with_reducible refine bdrewN ?_ _) | (with_reducible refine Below.alloc ?_ ?_ _) | (with_reducible refine Below.setCell ?_ ?_ _) | omega | (simp; done) | (simp; omega)))⟩
  · rw [if_pos (.inl h1)]
    have g1 : nm.isEmpty = false := by simpa using h1
    clear h1
    go_enter Tryz.func301, Tryz.ntmps301
    (repeat' ((fail_if_success at_builtin); first | go_values | go_skip | go_guarded | go_step | go_upon | go_back))
    refine bodyPost_ret (results_tmp rfl _ _ _) rfl ⟨rfl, by (repeat' (first | (with_reducible exact Below.refl _ _) | (with_reducible assumption) | (with_reducible refine Below.drew ?_) | (with_reducible refine bdrewN ?_ _) | (with_reducible refine Below.alloc ?_ ?_ _) | (with_reducible refine Below.setCell ?_ ?_ _) | omega | (simp; done) | (simp; omega)))⟩

def bareC (pn : Bs) (pa : Int) (cn : Nat) : Bool := pn.isEmpty && pa == 0 && cn == 0
set_option maxRecDepth 20000 in
set_option maxHeartbeats 1000000 in
theorem drop_check (w : World) (k : Int) (pn nm : Bs) (pa : Int) (ca aa : Option Addr) (cn cc an ac : Nat) (hn : nm.length ≤ 140737488355328) :
    Calls Tryz.prog 302 #[.agg #[.int .i64 k, .string ⟨pn.toArray⟩, .int .i64 pa, .slice ca cn cc, .string ⟨nm.toArray⟩, .slice aa an ac]] w fun e' w' => e' = .returned (.int .i64 (if an ≠ 0 ∨ bareC pn pa cn = false then 3 else if okName nm = false then 5 else 0)) ∧ Below w.heap.size w w' := by
  have HN := Lib.hid hn
  have hbb : Below w.heap.size w (w.alloc (.cells #[.int .i64 k, .string ⟨pn.toArray⟩, .int .i64 pa, .slice ca cn cc, .string ⟨nm.toArray⟩, .slice aa an ac] 197)) := by (repeat' (first | (with_reducible exact Below.refl _ _) | (with_reducible assumption) | (with_reducible refine Below.drew ?_) | (with_reducible refine bdrewN ?_ _) | (with_reducible refine Below.alloc ?_ ?_ _) | (with_reducible refine Below.setCell ?_ ?_ _) | omega | (simp; done) | (simp; omega)))
  have q := blk_new w (.cells #[.int .i64 k, .string ⟨pn.toArray⟩, .int .i64 pa, .slice ca cn cc, .string ⟨nm.toArray⟩, .slice aa an ac] 197)
  clear hn
  by_cases h2 : an = 0
  · subst h2
    by_cases h1 : bareC pn pa cn = false
    · rw [if_pos (.inr h1)]
      have H1 := Lib.hid h1
      clear h1
      go_enter Tryz.func302, Tryz.ntmps302
      (repeat' ((fail_if_success at_builtin); first | go_values | go_skip | go_guarded | go_step | go_upon | go_back))
      (refine (bare_any _ pn pa ca cn cc).mono ?_; rintro e1 w1 ⟨rfl, hb⟩; dsimp only)
      rw [show (pn.isEmpty && pa == 0 && cn == 0) = false from H1.out]
      (repeat' ((fail_if_success at_builtin); first | go_values | go_skip | go_guarded | go_step | go_upon | go_back))
      refine bodyPost_ret (results_tmp rfl _ _ _) rfl ⟨rfl, hbb.trans (hb.mono hbb.size)⟩
    · have h1' : bareC pn pa cn = true := by simpa using h1
      rw [if_neg (by rw [h1']; simp)]
      have H1 := Lib.hid h1'
      clear h1 h1'
      by_cases h3 : okName nm = false
      · rw [if_pos h3]
        have H3 := Lib.hid h3
        clear h3
        go_enter Tryz.func302, Tryz.ntmps302
        (repeat' ((fail_if_success at_builtin); first | go_values | go_skip | go_guarded | go_step | go_upon | go_back))
        (refine (bare_any _ pn pa ca cn cc).mono ?_; rintro e1 w1 ⟨rfl, hb⟩; dsimp only)
        rw [show (pn.isEmpty && pa == 0 && cn == 0) = true from H1.out]
        have q1 := blk_cell (blk_below hb q (blk_lt q)) 4
        (repeat' ((fail_if_success at_builtin); first | go_values | go_skip | go_guarded | go_step | go_upon | go_back))
        (refine (bname_any _ nm HN.out).mono ?_; rintro e1 w2 ⟨rfl, hb2⟩; dsimp only)
        rw [H3.out]
        have hb3 := hbb.trans ((hb.trans (hb2.mono hb.size)).mono hbb.size)
        (repeat' ((fail_if_success at_builtin); first | go_values | go_skip | go_guarded | go_step | go_upon | go_back))
        refine bodyPost_ret (results_tmp rfl _ _ _) rfl ⟨rfl, hb3⟩
      · have h3' : okName nm = true := by simpa using h3
        rw [if_neg h3]
        have H3 := Lib.hid h3'
        clear h3 h3'
        go_enter Tryz.func302, Tryz.ntmps302
        (repeat' ((fail_if_success at_builtin); first | go_values | go_skip | go_guarded | go_step | go_upon | go_back))
        (refine (bare_any _ pn pa ca cn cc).mono ?_; rintro e1 w1 ⟨rfl, hb⟩; dsimp only)
        rw [show (pn.isEmpty && pa == 0 && cn == 0) = true from H1.out]
        have q1 := blk_cell (blk_below hb q (blk_lt q)) 4
        (repeat' ((fail_if_success at_builtin); first | go_values | go_skip | go_guarded | go_step | go_upon | go_back))
        (refine (bname_any _ nm HN.out).mono ?_; rintro e1 w2 ⟨rfl, hb2⟩; dsimp only)
        rw [H3.out]
        have hb3 := hbb.trans ((hb.trans (hb2.mono hb.size)).mono hbb.size)
        (repeat' ((fail_if_success at_builtin); first | go_values | go_skip | go_guarded | go_step | go_upon | go_back))
        refine bodyPost_ret (results_tmp rfl _ _ _) rfl ⟨rfl, hb3⟩
  · rw [if_pos (.inl h2)]
    have g2 : 0 < an := by omega
    clear h2
    go_enter Tryz.func302, Tryz.ntmps302
    (repeat' ((fail_if_success at_builtin); first | go_values | go_skip | go_guarded | go_step | go_upon | go_back))
    refine bodyPost_ret (results_tmp rfl _ _ _) rfl ⟨rfl, by (repeat' (first | (with_reducible exact Below.refl _ _) | (with_reducible assumption) | (with_reducible refine Below.drew ?_) | (with_reducible refine bdrewN ?_ _) | (with_reducible refine Below.alloc ?_ ?_ _) | (with_reducible refine Below.setCell ?_ ?_ _) | omega | (simp; done) | (simp; omega)))⟩

set_option maxRecDepth 20000 in
set_option maxHeartbeats 1000000 in
theorem call_check (w : World) (k : Int) (pn nm : Bs) (pa : Int) (ca aa : Option Addr) (cn cc an ac : Nat) (hn : nm.length ≤ 140737488355328) :
    Calls Tryz.prog 305 #[.agg #[.int .i64 k, .string ⟨pn.toArray⟩, .int .i64 pa, .slice ca cn cc, .string ⟨nm.toArray⟩, .slice aa an ac]] w fun e' w' => e' = .returned (.int .i64 (if bareC pn pa cn = false then 3 else if okName nm = false then 5 else if 16 < an then 4 else 0)) ∧ Below w.heap.size w w' := by
  have HN := Lib.hid hn
  have hbb : Below w.heap.size w (w.alloc (.cells #[.int .i64 k, .string ⟨pn.toArray⟩, .int .i64 pa, .slice ca cn cc, .string ⟨nm.toArray⟩, .slice aa an ac] 198)) := by (repeat' (first | (with_reducible exact Below.refl _ _) | (with_reducible assumption) | (with_reducible refine Below.drew ?_) | (with_reducible refine bdrewN ?_ _) | (with_reducible refine Below.alloc ?_ ?_ _) | (with_reducible refine Below.setCell ?_ ?_ _) | omega | (simp; done) | (simp; omega)))
  have q := blk_new w (.cells #[.int .i64 k, .string ⟨pn.toArray⟩, .int .i64 pa, .slice ca cn cc, .string ⟨nm.toArray⟩, .slice aa an ac] 198)
  clear hn
  by_cases h1 : bareC pn pa cn = false
  · rw [if_pos h1]
    have H1 := Lib.hid h1
    clear h1
    go_enter Tryz.func305, Tryz.ntmps305
    (repeat' ((fail_if_success at_builtin); first | go_values | go_skip | go_guarded | go_step | go_upon | go_back))
    (refine (bare_any _ pn pa ca cn cc).mono ?_; rintro e1 w1 ⟨rfl, hb⟩; dsimp only)
    rw [show (pn.isEmpty && pa == 0 && cn == 0) = false from H1.out]
    (repeat' ((fail_if_success at_builtin); first | go_values | go_skip | go_guarded | go_step | go_upon | go_back))
    refine bodyPost_ret (results_tmp rfl _ _ _) rfl ⟨rfl, hbb.trans (hb.mono hbb.size)⟩
  · have h1' : bareC pn pa cn = true := by simpa using h1
    rw [if_neg h1]
    have H1 := Lib.hid h1'
    clear h1 h1'
    by_cases h3 : okName nm = false
    · rw [if_pos h3]
      have H3 := Lib.hid h3
      clear h3
      go_enter Tryz.func305, Tryz.ntmps305
      (repeat' ((fail_if_success at_builtin); first | go_values | go_skip | go_guarded | go_step | go_upon | go_back))
      (refine (bare_any _ pn pa ca cn cc).mono ?_; rintro e1 w1 ⟨rfl, hb⟩; dsimp only)
      rw [show (pn.isEmpty && pa == 0 && cn == 0) = true from H1.out]
      have q0 := blk_below hb q (blk_lt q)
      have q1 := blk_cell q0 4
      (repeat' ((fail_if_success at_builtin); first | go_values | go_skip | go_guarded | go_step | go_upon | go_back))
      (refine (bname_any _ nm HN.out).mono ?_; rintro e1 w2 ⟨rfl, hb2⟩; dsimp only)
      rw [H3.out]
      have q2 := blk_cell (blk_below hb2 q0 (blk_lt q0)) 5
      have hb3 := hbb.trans ((hb.trans (hb2.mono hb.size)).mono hbb.size)
      (repeat' ((fail_if_success at_builtin); first | go_values | go_skip | go_guarded | go_step | go_upon | go_back))
      refine bodyPost_ret (results_tmp rfl _ _ _) rfl ⟨rfl, hb3⟩
    · have h3' : okName nm = true := by simpa using h3
      rw [if_neg h3]
      have H3 := Lib.hid h3'
      clear h3 h3'
      by_cases h4 : 16 < an
      · rw [if_pos h4]
        have g4 : decide ((16 : Int) < (an : Int)) = true := by simp; omega
        clear h4
        go_enter Tryz.func305, Tryz.ntmps305
        (repeat' ((fail_if_success at_builtin); first | go_values | go_skip | go_guarded | go_step | go_upon | go_back))
        (refine (bare_any _ pn pa ca cn cc).mono ?_; rintro e1 w1 ⟨rfl, hb⟩; dsimp only)
        rw [show (pn.isEmpty && pa == 0 && cn == 0) = true from H1.out]
        have q0 := blk_below hb q (blk_lt q)
        have q1 := blk_cell q0 4
        (repeat' ((fail_if_success at_builtin); first | go_values | go_skip | go_guarded | go_step | go_upon | go_back))
        (refine (bname_any _ nm HN.out).mono ?_; rintro e1 w2 ⟨rfl, hb2⟩; dsimp only)
        rw [H3.out]
        have q2 := blk_cell (blk_below hb2 q0 (blk_lt q0)) 5
        have hb3 := hbb.trans ((hb.trans (hb2.mono hb.size)).mono hbb.size)
        (repeat' ((fail_if_success at_builtin); first | go_values | go_skip | go_guarded | go_step | go_upon | go_back))
        refine bodyPost_ret (results_tmp rfl _ _ _) rfl ⟨rfl, hb3⟩
      · rw [if_neg h4]
        have g4 : decide ((16 : Int) < (an : Int)) = false := by simp; omega
        clear h4
        go_enter Tryz.func305, Tryz.ntmps305
        (repeat' ((fail_if_success at_builtin); first | go_values | go_skip | go_guarded | go_step | go_upon | go_back))
        (refine (bare_any _ pn pa ca cn cc).mono ?_; rintro e1 w1 ⟨rfl, hb⟩; dsimp only)
        rw [show (pn.isEmpty && pa == 0 && cn == 0) = true from H1.out]
        have q0 := blk_below hb q (blk_lt q)
        have q1 := blk_cell q0 4
        (repeat' ((fail_if_success at_builtin); first | go_values | go_skip | go_guarded | go_step | go_upon | go_back))
        (refine (bname_any _ nm HN.out).mono ?_; rintro e1 w2 ⟨rfl, hb2⟩; dsimp only)
        rw [H3.out]
        have q2 := blk_cell (blk_below hb2 q0 (blk_lt q0)) 5
        have hb3 := hbb.trans ((hb.trans (hb2.mono hb.size)).mono hbb.size)
        (repeat' ((fail_if_success at_builtin); first | go_values | go_skip | go_guarded | go_step | go_upon | go_back))
        refine bodyPost_ret (results_tmp rfl _ _ _) rfl ⟨rfl, hb3⟩
end Go.Proofs.YtbppnihcbcdglaaGreat
