/- It is proved that treadlelaw17.ReviveOfNothing returns true for every input: every number of workers. No condition. -/
import Derived.Test.YthkfbhkedkangaaGreatRows
import Derived.Test.YthkfbhkedkangaaGreatLaw1
import Derived.Test.YthkfbhkedkangaaGreatLeave
import Derived.Test.YthkfbhkedkangaaGreatCfRv
import Derived.WalkKit
import Derived.ProofKit
import Derived.OpenShut
namespace Go.Proofs.YthkfbhkedkangaaGreat
open Go.ChangeShapes Go.WideShapes Go.ChangeAt Go.RowKit
set_option linter.unusedVariables false

theorem Rv_own : ownKnob Tryz.prog.godebug = none := by kernel_rfl

set_option maxRecDepth 100000 in
theorem RvLifted (os : Os) (started : os.Started) (H : Type) (enc : TypeId × Value → H) (F : Stop.Interp) :
    ReturnsInLeavingWide { calm := true } Tryz.checked os 3 .any (Rows.reviveOfNothingSpec.pre6 enc Tryz.prog Tryz.f3 Rows.reviveOfNothingRow.domain false) ((OpenSpec.ofChange Rows.reviveOfNothingSpec).postWith enc Tryz.prog Tryz.f3 F (outsideKept [.timePasses]) false true false) := by
  refine leaving_of_change_time (C := Tryz.checked) Rv_own started (by kernel_rfl) Tryz.func3
    (ChangeSpec.witness6c (enc := enc) (C := Tryz.checked) ⟨#[], #[.int .i64 0], []⟩ 8 (by as_aux_lemma => kernel_rfl) (by as_aux_lemma => kernel_rfl) (by as_aux_lemma => kernel_rfl) (by as_aux_lemma => kernel_rfl)) ?_
  intro W base args ds gs before hval0 hW hcnd _
  have hval : ∀ (j : Nat) t v, Tryz.f3.params[j]? = some t → args[j]? = some v → Value.okWide Tryz.prog W .any base t v := hval0
  have hW' := hW
  obtain ⟨p, q, hA0, hV, rfl, hfz, hnd⟩ := hW
  have hA : DataW.TrodAll enc Tryz.prog W 0 (fun _ => true) true Tryz.f3.params.toList args.toList ds p := hA0
  rw [Tryz.params3] at hA hval
  obtain ⟨v0, vs0, d0, ds0, p0, q0, hargs0, rfl, rfl, h0, r0⟩ := trodAll_cons hA
  obtain ⟨rfl, rfl, rfl⟩ := trodAll_nil r0
  obtain rfl : args = #[v0] := by cases args; simp_all
  obtain ⟨rfl, rfl⟩ := trodVars_none hV
  obtain ⟨a0, rfl, rfl, rfl, w0⟩ := open_int Tryz.underlying3 (hval 0 3 v0 rfl rfl) h0
  clear hA0 hval0
  simp only [List.append_nil] at hW'
  refine (revive_walk a0 W).mono fun e W' ⟨he, hg⟩ => ?_
  subst he
  exact ⟨_, rfl, post_of_below (pa := []) (pv := []) hW' (fun _ _ _ => (trodAll_cons_mk (shut_bool Tryz.underlying4 _) trodAll_mk0)) (fun sp _ => (trodAll_cons_mk (shut_int Tryz.underlying3 w0) trodAll_mk0)) (fun _ _ => rfl) hg, hg.os⟩

set_option maxRecDepth 100000 in
theorem reviveOfNothing_proved : Rows.ReviveOfNothingSaid :=
  OpenClaim.holds_of_wide_leaving_time 3 Tryz.f3 rfl rfl rfl rfl rfl rfl rfl ⟨rfl, rfl, rfl, rfl, rfl⟩ rfl rfl rfl rfl rfl Rv_fn Tryz.func3
    Rv_closed Rv_inst Rv_wrap
    (fun os started H enc _ F => RvLifted os started H enc F)
#print axioms reviveOfNothing_proved
end Go.Proofs.YthkfbhkedkangaaGreat
