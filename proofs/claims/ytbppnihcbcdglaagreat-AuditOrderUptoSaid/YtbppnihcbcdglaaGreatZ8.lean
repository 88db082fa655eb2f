/- datum: a value is checked. No condition. -/
import Derived.Laws.StructEq
import Derived.WalkLawsBesides
import Derived.Test.YtbppnihcbcdglaaGreatZ1
import Derived.Test.YtbppnihcbcdglaaGreatZ7
namespace Go.Proofs.YtbppnihcbcdglaaGreat
open Go.RowKit
set_option linter.unusedVariables false
set_option linter.unusedSimpArgs false

def V.cells (v : V) : Array Value := #[.int .i64 v.k, .int .i64 v.i, .string ⟨v.t.toArray⟩]
def V.val (v : V) : Value := .agg #[.int .i64 v.k, .int .i64 v.i, .string ⟨v.t.toArray⟩]
theorem str_list (t : Bs) : (⟨t.toArray⟩ : ByteArray).toList = t := by rw [ByteArray.toList_eq]
theorem str_size (t : Bs) : (⟨t.toArray⟩ : ByteArray).size = t.length := by simp [ByteArray.size]

theorem neqV (w : World) (k i k' i' : Int) (t t' : ByteArray) : (binOp .neq 177 (.agg #[.int .i64 k, .int .i64 i, .string t]) (.agg #[.int .i64 k', .int .i64 i', .string t'])).run Tryz.prog w = .ok (.bool (!(k == k' && i == i' && t.toList == t'.toList))) w := by
  rw [run_neq_struct]
  simp [go_sem, Tryz.underlying177]
  by_cases h1 : k = k' <;> by_cases h2 : i = i' <;> by_cases h3 : t.toList = t'.toList <;> simp [h1, h2, h3]


set_option maxRecDepth 20000 in
set_option maxHeartbeats 1000000 in
theorem check_any (w : World) (v : V) : Calls Tryz.prog 171 #[v.val] w fun e' w' => e' = .returned (.int .i64 (chkV v)) ∧ Below w.heap.size w w' := by
  obtain ⟨k, i, t⟩ := v
  have hq := neqV
  have hl := str_list t
  have hs := str_size t
  unfold V.val chkV
  dsimp only
  by_cases h0 : k = 0
  · subst h0
    rw [if_pos rfl]
    by_cases h1 : i = 0 ∧ t = []
    · obtain ⟨rfl, rfl⟩ := h1
      rw [if_pos ⟨rfl, rfl⟩]
      go_enter Tryz.func171, Tryz.ntmps171
      (repeat' ((fail_if_success at_builtin); first | go_values | go_skip | go_guarded | go_step | go_upon | go_back))
      ((repeat' ((fail_if_success at_builtin); first | go_values | go_skip | go_guarded | go_step | go_upon | go_back)); (try (refine bodyPost_ret (results_tmp rfl _ _ _) rfl ⟨rfl, by (repeat' (first | (with_reducible exact Below.refl _ _) | (with_reducible assumption) | (with_reducible refine Below.drew ?_) | (with_reducible refine bdrewN ?_ _) | (with_reducible refine Below.alloc ?_ ?_ _) | (with_reducible refine Below.setCell ?_ ?_ _) | omega | (simp; done) | (simp; omega)))⟩)))
    · rw [if_neg h1]
      have e : (i == 0 && t.isEmpty) = false := by
        cases t <;> simp at h1 ⊢; exact h1
      clear h1
      go_enter Tryz.func171, Tryz.ntmps171
      (repeat' ((fail_if_success at_builtin); first | go_values | go_skip | go_guarded | go_step | go_upon | go_back))
      ((repeat' ((fail_if_success at_builtin); first | go_values | go_skip | go_guarded | go_step | go_upon | go_back)); (try (refine bodyPost_ret (results_tmp rfl _ _ _) rfl ⟨rfl, by (repeat' (first | (with_reducible exact Below.refl _ _) | (with_reducible assumption) | (with_reducible refine Below.drew ?_) | (with_reducible refine bdrewN ?_ _) | (with_reducible refine Below.alloc ?_ ?_ _) | (with_reducible refine Below.setCell ?_ ?_ _) | omega | (simp; done) | (simp; omega)))⟩)))
  · rw [if_neg h0]
    have c0 : (k == 0) = false := by simpa using h0
    by_cases h1 : k = 1
    · subst h1
      rw [if_pos rfl]
      clear h0 c0
      by_cases h2 : t = []
      · subst h2
        rw [if_pos rfl]
        go_enter Tryz.func171, Tryz.ntmps171
        (repeat' ((fail_if_success at_builtin); first | go_values | go_skip | go_guarded | go_step | go_upon | go_back))
        ((repeat' ((fail_if_success at_builtin); first | go_values | go_skip | go_guarded | go_step | go_upon | go_back)); (try (refine bodyPost_ret (results_tmp rfl _ _ _) rfl ⟨rfl, by (repeat' (first | (with_reducible exact Below.refl _ _) | (with_reducible assumption) | (with_reducible refine Below.drew ?_) | (with_reducible refine bdrewN ?_ _) | (with_reducible refine Below.alloc ?_ ?_ _) | (with_reducible refine Below.setCell ?_ ?_ _) | omega | (simp; done) | (simp; omega)))⟩)))
      · rw [if_neg h2]
        have e : t.isEmpty = false := by cases t <;> simp at h2 ⊢
        clear h2
        go_enter Tryz.func171, Tryz.ntmps171
        (repeat' ((fail_if_success at_builtin); first | go_values | go_skip | go_guarded | go_step | go_upon | go_back))
        ((repeat' ((fail_if_success at_builtin); first | go_values | go_skip | go_guarded | go_step | go_upon | go_back)); (try (refine bodyPost_ret (results_tmp rfl _ _ _) rfl ⟨rfl, by (repeat' (first | (with_reducible exact Below.refl _ _) | (with_reducible assumption) | (with_reducible refine Below.drew ?_) | (with_reducible refine bdrewN ?_ _) | (with_reducible refine Below.alloc ?_ ?_ _) | (with_reducible refine Below.setCell ?_ ?_ _) | omega | (simp; done) | (simp; omega)))⟩)))
    · rw [if_neg h1]
      have c1 : (k == 1) = false := by simpa using h1
      by_cases h2 : k = 2
      · subst h2
        rw [if_pos rfl]
        clear h0 c0 h1 c1
        by_cases h3 : i = 0
        · subst h3
          rw [if_pos rfl]
          by_cases h4 : 256 < t.length
          · rw [if_pos h4]
            have c4 : decide ((256 : Int) < (t.length : Int)) = true := by simp; omega
            have c5 : (256 : Int) < (t.length : Int) := by omega
            clear h4
            go_enter Tryz.func171, Tryz.ntmps171
            (repeat' ((fail_if_success at_builtin); first | go_values | go_skip | go_guarded | go_step | go_upon | go_back))
            ((repeat' ((fail_if_success at_builtin); first | go_values | go_skip | go_guarded | go_step | go_upon | go_back)); (try (refine bodyPost_ret (results_tmp rfl _ _ _) rfl ⟨rfl, by (repeat' (first | (with_reducible exact Below.refl _ _) | (with_reducible assumption) | (with_reducible refine Below.drew ?_) | (with_reducible refine bdrewN ?_ _) | (with_reducible refine Below.alloc ?_ ?_ _) | (with_reducible refine Below.setCell ?_ ?_ _) | omega | (simp; done) | (simp; omega)))⟩)))
          · rw [if_neg h4]
            have c4 : decide ((256 : Int) < (t.length : Int)) = false := by simp; omega
            have c5 : (t.length : Int) ≤ 256 := by omega
            clear h4
            go_enter Tryz.func171, Tryz.ntmps171
            (repeat' ((fail_if_success at_builtin); first | go_values | go_skip | go_guarded | go_step | go_upon | go_back))
            ((repeat' ((fail_if_success at_builtin); first | go_values | go_skip | go_guarded | go_step | go_upon | go_back)); (try (refine bodyPost_ret (results_tmp rfl _ _ _) rfl ⟨rfl, by (repeat' (first | (with_reducible exact Below.refl _ _) | (with_reducible assumption) | (with_reducible refine Below.drew ?_) | (with_reducible refine bdrewN ?_ _) | (with_reducible refine Below.alloc ?_ ?_ _) | (with_reducible refine Below.setCell ?_ ?_ _) | omega | (simp; done) | (simp; omega)))⟩)))
        · rw [if_neg h3]
          have e : (i == 0) = false := by simpa using h3
          clear h3
          go_enter Tryz.func171, Tryz.ntmps171
          (repeat' ((fail_if_success at_builtin); first | go_values | go_skip | go_guarded | go_step | go_upon | go_back))
          ((repeat' ((fail_if_success at_builtin); first | go_values | go_skip | go_guarded | go_step | go_upon | go_back)); (try (refine bodyPost_ret (results_tmp rfl _ _ _) rfl ⟨rfl, by (repeat' (first | (with_reducible exact Below.refl _ _) | (with_reducible assumption) | (with_reducible refine Below.drew ?_) | (with_reducible refine bdrewN ?_ _) | (with_reducible refine Below.alloc ?_ ?_ _) | (with_reducible refine Below.setCell ?_ ?_ _) | omega | (simp; done) | (simp; omega)))⟩)))
      · rw [if_neg h2]
        have c2 : (k == 2) = false := by simpa using h2
        clear h0 h1 h2
        go_enter Tryz.func171, Tryz.ntmps171
        (repeat' ((fail_if_success at_builtin); first | go_values | go_skip | go_guarded | go_step | go_upon | go_back))
        ((repeat' ((fail_if_success at_builtin); first | go_values | go_skip | go_guarded | go_step | go_upon | go_back)); (try (refine bodyPost_ret (results_tmp rfl _ _ _) rfl ⟨rfl, by (repeat' (first | (with_reducible exact Below.refl _ _) | (with_reducible assumption) | (with_reducible refine Below.drew ?_) | (with_reducible refine bdrewN ?_ _) | (with_reducible refine Below.alloc ?_ ?_ _) | (with_reducible refine Below.setCell ?_ ?_ _) | omega | (simp; done) | (simp; omega)))⟩)))

end Go.Proofs.YtbppnihcbcdglaaGreat
