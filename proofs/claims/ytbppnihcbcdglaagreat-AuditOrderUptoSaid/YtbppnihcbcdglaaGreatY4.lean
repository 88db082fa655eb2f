/- It is proved that treadlelaw20.AuditOrder returns true for every input that its statement lets in. No condition. -/
import Derived.Test.YtbppnihcbcdglaaGreatRows
import Derived.Test.YtbppnihcbcdglaaGreatY2
import Derived.Test.YtbppnihcbcdglaaGreatZ53
import Derived.Test.YtbppnihcbcdglaaGreatY3
namespace Go.Proofs.YtbppnihcbcdglaaGreat
open Go.ChangeShapes Go.WideShapes Go.ChangeAt Go.RowKit
set_option linter.unusedVariables false

theorem Or_own : ownKnob Tryz.prog.godebug = none := by kernel_rfl
set_option maxRecDepth 100000 in
theorem Or_contract (H : Type) (enc : TypeId × Value → H) (W : World) (base : Nat) (args : Array Value) (ds gs : List (DataW H)) (before : List MemPlace)
    (hval : ∀ (j : Nat) t v, Tryz.f6.params[j]? = some t → args[j]? = some v → Value.okWide Tryz.prog W .any base t v)
    (hW : DataW.Whole enc Tryz.prog Tryz.f6.params.toList Rows.auditOrderSpec.vars false W args.toList ds gs before) :
    Calls Tryz.prog 6 args W fun e W' => ∃ v, e = .returned v ∧ Rows.auditOrderSpec.post enc Tryz.prog Tryz.f6 false true false false W args v W' := by
  have hW' := hW
  obtain ⟨p, q, hA0, hV, rfl, hfz, hnd⟩ := hW
  have hA : DataW.TrodAll enc Tryz.prog W 0 (fun _ => true) true Tryz.f6.params.toList args.toList ds p := hA0
  have hAk := hA
  rw [Tryz.params6] at hA hval
  obtain ⟨v0, vs0, d0, ds0, p0, q0, hargs0, rfl, rfl, h0, r0⟩ := trodAll_cons hA
  obtain ⟨v1, vs1, d1, ds1, p1, q1, hargs1, rfl, rfl, h1, r1⟩ := trodAll_cons r0
  obtain ⟨v2, vs2, d2, ds2, p2, q2, hargs2, rfl, rfl, h2, r2⟩ := trodAll_cons r1
  obtain ⟨rfl, rfl, rfl⟩ := trodAll_nil r2
  obtain rfl : args = #[v0, v1, v2] := by cases args; simp_all
  obtain ⟨rfl, rfl⟩ := trodVars_none hV
  obtain ⟨fa, fc, ms, rfl, hF⟩ := arg_files (hval 0 40 v0 rfl rfl) h0
  obtain ⟨ta, tc, turn, rfl, hT, -⟩ := arg_ints (hval 1 57 v1 rfl rfl) h1
  obtain ⟨oa, oc, oth, rfl, hO⟩ := arg_bs (hval 2 27 v2 rfl rfl) h2
  refine order_cps W fa fc ms ta tc turn oa oc oth hF hT hO _ (fun W' hb => ?_)
  refine ⟨_, rfl, post_kept (pa := p0 ++ (p1 ++ (p2 ++ []))) (pv := []) hW' (fun _ _ _ => trodAll_cons_mk (shut_bool Tryz.underlying4 _) trodAll_mk0) ?_ (fun _ => rfl) hb⟩
  exact trodAll_below hb (by kernel_rfl) hAk (fun x hx => hW'.lt x (List.mem_append_left _ hx))

set_option maxRecDepth 100000 in
theorem Or_lifted (os : Os) (started : os.Started) (H : Type) (enc : TypeId × Value → H) (F : Stop.Interp) :
    ReturnsInHanded {} Tryz.checked os 6 .any ((Rows.OpenSpec.upto Rows.auditOrderSpec).pre6 enc Tryz.prog Tryz.f6 Rows.auditOrderUptoRow.domain false) (((Rows.OpenSpec.upto Rows.auditOrderSpec).at F).post enc Tryz.prog Tryz.f6 false true false false) := by
  refine returnsInHanded_of_cond (C := Tryz.checked) (s := Rows.OpenSpec.upto Rows.auditOrderSpec) (k := Rows.uptoSmall) rfl Or_own started (by kernel_rfl) Tryz.func6
    (OpenSpec.witness (enc := enc) (C := Tryz.checked) (s := Rows.OpenSpec.upto Rows.auditOrderSpec) (k := Rows.uptoSmall) rfl false ⟨#[], #[.slice none 0 0, .slice none 0 0, .slice none 0 0], []⟩ 8 (by as_aux_lemma => kernel_rfl) (by as_aux_lemma => kernel_rfl) (by as_aux_lemma => kernel_rfl)
      (x := ([.nil, .nil, .nil], [], [])) (by as_aux_lemma => kernel_rfl) rfl (by as_aux_lemma => kernel_rfl) (by as_aux_lemma => kernel_rfl)) ?_
  intro W base args ds gs before hval hW _ hk _
  exact Or_contract H enc W base args ds gs before hval hW

set_option maxRecDepth 100000 in
theorem auditOrder_proved : Rows.AuditOrderUptoSaid :=
  OpenClaim.holds_of_cond 6 Tryz.f6 rfl rfl rfl rfl rfl rfl rfl ⟨rfl, rfl, rfl, rfl, rfl⟩ rfl rfl rfl rfl rfl Or_fn Tryz.func6 Or_closed Or_inst Or_wrap
    (fun os started H enc _ F => Or_lifted os started H enc F)
#print axioms auditOrder_proved
end Go.Proofs.YtbppnihcbcdglaaGreat
