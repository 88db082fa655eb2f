/- manifest.may. No condition. -/
import Derived.Test.YtbppnihcbcdglaaGreatZ1
import Derived.Test.YtbppnihcbcdglaaGreatZ3
namespace Go.Proofs.YtbppnihcbcdglaaGreat
open Go.RowKit
set_option linter.unusedVariables false
set_option linter.unusedSimpArgs false
def Mf.cells(m:Mf):Array Value:=#[.int .i64 m.number,.int .i64 m.file,.int .i64 m.mark,.int .i64 m.prev,.int .i64 m.pmark]
theorem mayM_eq(m:Mf):mayM m=(decide (1<=m.number)&&decide (m.number<=281474976710655)&&decide (1<=m.file)&&decide (m.file<=281474976710655)&&decide (0<=m.mark)&&decide (m.mark<=281474976710655)&&decide (0<=m.prev)&&decide (m.prev<m.file)&&decide (0<=m.pmark) &&
  (decide (0<m.prev)&&decide (m.pmark<m.mark)||m.prev==0&&m.pmark==0)):=rfl
set_option maxRecDepth 20000 in
set_option maxHeartbeats 8000000 in
theorem mayM_any(w:World)(m:Mf):Calls Tryz.prog 216 #[.agg m.cells] w fun e w'=>e = .returned (.bool (mayM m))/\Below w.heap.size w w':=by
 have hm:=mayM_eq m
 rcases Bool.eq_false_or_eq_true (decide (1<=m.number)) with t1|t1
 case inr =>
  rw[t1] at hm;simp only[Bool.false_and,Bool.true_and] at hm
  (rw[hm];have hb:Below w.heap.size w (w.alloc (.cells m.cells 46)):=(Below.refl _ w).alloc (Nat.le_refl _) _;unfold Mf.cells at hb ⊢;go_enter Tryz.func216,Tryz.ntmps216;(repeat' ((fail_if_success at_builtin);first|(rename_i hK;have hK2:some undef=some (Value.bool _):=hK;exact absurd hK2 (by simp[undef]))|go_values|go_skip|go_guarded|go_step|go_upon|go_back));refine bodyPost_ret (results_tmp rfl _ _ _) rfl ⟨rfl,hb⟩)
 rw[t1,Bool.true_and] at hm
 rcases Bool.eq_false_or_eq_true (decide (m.number<=281474976710655)) with t2|t2
 case inr =>
  rw[t2] at hm;simp only[Bool.false_and,Bool.true_and] at hm
  (rw[hm];have hb:Below w.heap.size w (w.alloc (.cells m.cells 46)):=(Below.refl _ w).alloc (Nat.le_refl _) _;unfold Mf.cells at hb ⊢;go_enter Tryz.func216,Tryz.ntmps216;(repeat' ((fail_if_success at_builtin);first|(rename_i hK;have hK2:some undef=some (Value.bool _):=hK;exact absurd hK2 (by simp[undef]))|go_values|go_skip|go_guarded|go_step|go_upon|go_back));refine bodyPost_ret (results_tmp rfl _ _ _) rfl ⟨rfl,hb⟩)
 rw[t2,Bool.true_and] at hm
 rcases Bool.eq_false_or_eq_true (decide (1<=m.file)) with t3|t3
 case inr =>
  rw[t3] at hm;simp only[Bool.false_and,Bool.true_and] at hm
  (rw[hm];have hb:Below w.heap.size w (w.alloc (.cells m.cells 46)):=(Below.refl _ w).alloc (Nat.le_refl _) _;unfold Mf.cells at hb ⊢;go_enter Tryz.func216,Tryz.ntmps216;(repeat' ((fail_if_success at_builtin);first|(rename_i hK;have hK2:some undef=some (Value.bool _):=hK;exact absurd hK2 (by simp[undef]))|go_values|go_skip|go_guarded|go_step|go_upon|go_back));refine bodyPost_ret (results_tmp rfl _ _ _) rfl ⟨rfl,hb⟩)
 rw[t3,Bool.true_and] at hm
 rcases Bool.eq_false_or_eq_true (decide (m.file<=281474976710655)) with t4|t4
 case inr =>
  rw[t4] at hm;simp only[Bool.false_and,Bool.true_and] at hm
  (rw[hm];have hb:Below w.heap.size w (w.alloc (.cells m.cells 46)):=(Below.refl _ w).alloc (Nat.le_refl _) _;unfold Mf.cells at hb ⊢;go_enter Tryz.func216,Tryz.ntmps216;(repeat' ((fail_if_success at_builtin);first|(rename_i hK;have hK2:some undef=some (Value.bool _):=hK;exact absurd hK2 (by simp[undef]))|go_values|go_skip|go_guarded|go_step|go_upon|go_back));refine bodyPost_ret (results_tmp rfl _ _ _) rfl ⟨rfl,hb⟩)
 rw[t4,Bool.true_and] at hm
 rcases Bool.eq_false_or_eq_true (decide (0<=m.mark)) with t5|t5
 case inr =>
  rw[t5] at hm;simp only[Bool.false_and,Bool.true_and] at hm
  (rw[hm];have hb:Below w.heap.size w (w.alloc (.cells m.cells 46)):=(Below.refl _ w).alloc (Nat.le_refl _) _;unfold Mf.cells at hb ⊢;go_enter Tryz.func216,Tryz.ntmps216;(repeat' ((fail_if_success at_builtin);first|(rename_i hK;have hK2:some undef=some (Value.bool _):=hK;exact absurd hK2 (by simp[undef]))|go_values|go_skip|go_guarded|go_step|go_upon|go_back));refine bodyPost_ret (results_tmp rfl _ _ _) rfl ⟨rfl,hb⟩)
 rw[t5,Bool.true_and] at hm
 rcases Bool.eq_false_or_eq_true (decide (m.mark<=281474976710655)) with t6|t6
 case inr =>
  rw[t6] at hm;simp only[Bool.false_and,Bool.true_and] at hm
  (rw[hm];have hb:Below w.heap.size w (w.alloc (.cells m.cells 46)):=(Below.refl _ w).alloc (Nat.le_refl _) _;unfold Mf.cells at hb ⊢;go_enter Tryz.func216,Tryz.ntmps216;(repeat' ((fail_if_success at_builtin);first|(rename_i hK;have hK2:some undef=some (Value.bool _):=hK;exact absurd hK2 (by simp[undef]))|go_values|go_skip|go_guarded|go_step|go_upon|go_back));refine bodyPost_ret (results_tmp rfl _ _ _) rfl ⟨rfl,hb⟩)
 rw[t6,Bool.true_and] at hm
 rcases Bool.eq_false_or_eq_true (decide (0<=m.prev)) with t7|t7
 case inr =>
  rw[t7] at hm;simp only[Bool.false_and,Bool.true_and] at hm
  (rw[hm];have hb:Below w.heap.size w (w.alloc (.cells m.cells 46)):=(Below.refl _ w).alloc (Nat.le_refl _) _;unfold Mf.cells at hb ⊢;go_enter Tryz.func216,Tryz.ntmps216;(repeat' ((fail_if_success at_builtin);first|(rename_i hK;have hK2:some undef=some (Value.bool _):=hK;exact absurd hK2 (by simp[undef]))|go_values|go_skip|go_guarded|go_step|go_upon|go_back));refine bodyPost_ret (results_tmp rfl _ _ _) rfl ⟨rfl,hb⟩)
 rw[t7,Bool.true_and] at hm
 rcases Bool.eq_false_or_eq_true (decide (m.prev<m.file)) with t8|t8
 case inr =>
  rw[t8] at hm;simp only[Bool.false_and,Bool.true_and] at hm
  (rw[hm];have hb:Below w.heap.size w (w.alloc (.cells m.cells 46)):=(Below.refl _ w).alloc (Nat.le_refl _) _;unfold Mf.cells at hb ⊢;go_enter Tryz.func216,Tryz.ntmps216;(repeat' ((fail_if_success at_builtin);first|(rename_i hK;have hK2:some undef=some (Value.bool _):=hK;exact absurd hK2 (by simp[undef]))|go_values|go_skip|go_guarded|go_step|go_upon|go_back));refine bodyPost_ret (results_tmp rfl _ _ _) rfl ⟨rfl,hb⟩)
 rw[t8,Bool.true_and] at hm
 rcases Bool.eq_false_or_eq_true (decide (0<=m.pmark)) with t9|t9
 case inr =>
  rw[t9] at hm;simp only[Bool.false_and,Bool.true_and] at hm
  (rw[hm];have hb:Below w.heap.size w (w.alloc (.cells m.cells 46)):=(Below.refl _ w).alloc (Nat.le_refl _) _;unfold Mf.cells at hb ⊢;go_enter Tryz.func216,Tryz.ntmps216;(repeat' ((fail_if_success at_builtin);first|(rename_i hK;have hK2:some undef=some (Value.bool _):=hK;exact absurd hK2 (by simp[undef]))|go_values|go_skip|go_guarded|go_step|go_upon|go_back));refine bodyPost_ret (results_tmp rfl _ _ _) rfl ⟨rfl,hb⟩)
 rw[t9,Bool.true_and] at hm
 rcases Bool.eq_false_or_eq_true (decide (0<m.prev)) with s1|s1
 ·have s3:(m.prev==0)=false:=by simp at s1 ⊢;omega
  rw[s1,s3] at hm
  simp only[Bool.true_and,Bool.false_and,Bool.or_false] at hm
  rcases Bool.eq_false_or_eq_true (decide (m.pmark<m.mark)) with s2|s2
  ·rw[s2] at hm
   (rw[hm];have hb:Below w.heap.size w (w.alloc (.cells m.cells 46)):=(Below.refl _ w).alloc (Nat.le_refl _) _;unfold Mf.cells at hb ⊢;go_enter Tryz.func216,Tryz.ntmps216;(repeat' ((fail_if_success at_builtin);first|(rename_i hK;have hK2:some undef=some (Value.bool _):=hK;exact absurd hK2 (by simp[undef]))|go_values|go_skip|go_guarded|go_step|go_upon|go_back));refine bodyPost_ret (results_tmp rfl _ _ _) rfl ⟨rfl,hb⟩)
  ·rw[s2] at hm
   (rw[hm];have hb:Below w.heap.size w (w.alloc (.cells m.cells 46)):=(Below.refl _ w).alloc (Nat.le_refl _) _;unfold Mf.cells at hb ⊢;go_enter Tryz.func216,Tryz.ntmps216;(repeat' ((fail_if_success at_builtin);first|(rename_i hK;have hK2:some undef=some (Value.bool _):=hK;exact absurd hK2 (by simp[undef]))|go_values|go_skip|go_guarded|go_step|go_upon|go_back));refine bodyPost_ret (results_tmp rfl _ _ _) rfl ⟨rfl,hb⟩)
 ·rw[s1] at hm
  simp only[Bool.false_and,Bool.false_or] at hm
  rcases Bool.eq_false_or_eq_true (m.prev==0) with s3|s3
  ·rw[s3] at hm
   simp only[Bool.true_and] at hm
   rcases Bool.eq_false_or_eq_true (m.pmark==0) with s4|s4
   ·rw[s4] at hm
    (rw[hm];have hb:Below w.heap.size w (w.alloc (.cells m.cells 46)):=(Below.refl _ w).alloc (Nat.le_refl _) _;unfold Mf.cells at hb ⊢;go_enter Tryz.func216,Tryz.ntmps216;(repeat' ((fail_if_success at_builtin);first|(rename_i hK;have hK2:some undef=some (Value.bool _):=hK;exact absurd hK2 (by simp[undef]))|go_values|go_skip|go_guarded|go_step|go_upon|go_back));refine bodyPost_ret (results_tmp rfl _ _ _) rfl ⟨rfl,hb⟩)
   ·rw[s4] at hm
    (rw[hm];have hb:Below w.heap.size w (w.alloc (.cells m.cells 46)):=(Below.refl _ w).alloc (Nat.le_refl _) _;unfold Mf.cells at hb ⊢;go_enter Tryz.func216,Tryz.ntmps216;(repeat' ((fail_if_success at_builtin);first|(rename_i hK;have hK2:some undef=some (Value.bool _):=hK;exact absurd hK2 (by simp[undef]))|go_values|go_skip|go_guarded|go_step|go_upon|go_back));refine bodyPost_ret (results_tmp rfl _ _ _) rfl ⟨rfl,hb⟩)
  ·rw[s3] at hm
   simp only[Bool.false_and] at hm
   (rw[hm];have hb:Below w.heap.size w (w.alloc (.cells m.cells 46)):=(Below.refl _ w).alloc (Nat.le_refl _) _;unfold Mf.cells at hb ⊢;go_enter Tryz.func216,Tryz.ntmps216;(repeat' ((fail_if_success at_builtin);first|(rename_i hK;have hK2:some undef=some (Value.bool _):=hK;exact absurd hK2 (by simp[undef]))|go_values|go_skip|go_guarded|go_step|go_upon|go_back));refine bodyPost_ret (results_tmp rfl _ _ _) rfl ⟨rfl,hb⟩)
end Go.Proofs.YtbppnihcbcdglaaGreat
