/- It is proved that treadlelaw24.RepairOpens returns true for every input that its statement lets in. No condition. -/
import Derived.Test.YtbppnihcbcdglaaGreatRows
import Derived.Test.YtbppnihcbcdglaaGreatZ47
import Derived.Test.YtbppnihcbcdglaaGreatZ50
import Derived.Test.YtbppnihcbcdglaaGreatZ51
namespace Go.Proofs.YtbppnihcbcdglaaGreat
open Go.ChangeShapes Go.WideShapes Go.ChangeAt Go.RowKit
set_option linter.unusedVariables false
theorem Op_own:ownKnob Tryz.prog.godebug=none:=by kernel_rfl
set_option maxRecDepth 100000 in
theorem Op_contract(H:Type)(enc:TypeId×Value->H)(W:World)(base:Nat)(args:Array Value)(ds gs:List (DataW H))(before:List MemPlace)
  (hval:∀ (j:Nat) t v,Tryz.f10.params[j]? = some t->args[j]? = some v->Value.okWide Tryz.prog W .any base t v)
  (hW:DataW.Whole enc Tryz.prog Tryz.f10.params.toList Rows.repairOpensSpec.vars false W args.toList ds gs before) :
  Calls Tryz.prog 10 args W fun e W'=>∃ v,e = .returned v/\Rows.repairOpensSpec.post enc Tryz.prog Tryz.f10 false true false false W args v W':=by
 have hW':=hW
 obtain⟨p,q,hA0,hV,rfl,hfz,hnd⟩:=hW
 have hA:DataW.TrodAll enc Tryz.prog W 0 (fun _=>true) true Tryz.f10.params.toList args.toList ds p:=hA0
 have hAk:=hA
 rw[Tryz.params10] at hA hval
 obtain⟨v0,vs0,d0,ds0,p0,q0,hargs,rfl,rfl,h0,r0⟩:=trodAll_cons hA
 obtain⟨rfl,rfl,rfl⟩:=trodAll_nil r0
 obtain rfl:args=#[v0]:=by cases args;simp_all
 obtain⟨rfl,rfl⟩:=trodVars_none hV
 obtain⟨fa,fc,ms,rfl,hF⟩:=arg_files (hval 0 40 v0 rfl rfl) h0
 refine opens_cps W fa fc ms hF _ (fun W' hb=>?_)
 refine⟨_,rfl,post_kept (pa:=p0++[]) (pv:=[]) hW' (fun _ _ _=>trodAll_cons_mk (shut_bool Tryz.underlying4 _) trodAll_mk0) ?_ (fun _=>rfl) hb⟩
 exact trodAll_below hb (by kernel_rfl) hAk (fun x hx=>hW'.lt x (List.mem_append_left _ hx))
set_option maxRecDepth 100000 in
theorem Op_lifted(os:Os)(started:os.Started)(H:Type)(enc:TypeId×Value->H)(F:Stop.Interp) :
  ReturnsInHanded {} Tryz.checked os 10 .any ((Rows.OpenSpec.upto Rows.repairOpensSpec).pre6 enc Tryz.prog Tryz.f10 Rows.repairOpensUptoRow.domain false) (((Rows.OpenSpec.upto Rows.repairOpensSpec).at F).post enc Tryz.prog Tryz.f10 false true false false):=by
 refine returnsInHanded_of_cond (C:=Tryz.checked) (s:=Rows.OpenSpec.upto Rows.repairOpensSpec) (k:=Rows.uptoSmall) rfl Op_own started (by kernel_rfl) Tryz.func10
  (OpenSpec.witness (enc:=enc) (C:=Tryz.checked) (s:=Rows.OpenSpec.upto Rows.repairOpensSpec) (k:=Rows.uptoSmall) rfl false ⟨#[],#[.slice none 0 0],[]⟩ 8 (by as_aux_lemma=>kernel_rfl) (by as_aux_lemma=>kernel_rfl) (by as_aux_lemma=>kernel_rfl)
   (x:=([.nil],[],[])) (by as_aux_lemma=>kernel_rfl) rfl (by as_aux_lemma=>kernel_rfl) (by as_aux_lemma=>kernel_rfl)) ?_
 intro W base args ds gs before hval hW _ hk _
 exact Op_contract H enc W base args ds gs before hval hW
set_option maxRecDepth 100000 in
theorem repairOpens_proved:Rows.RepairOpensUptoSaid :=
 OpenClaim.holds_of_cond 10 Tryz.f10 rfl rfl rfl rfl rfl rfl rfl ⟨rfl,rfl,rfl,rfl,rfl⟩ rfl rfl rfl rfl rfl Op_fn Tryz.func10 Op_closed Op_inst Op_wrap
  (fun os started H enc _ F=>Op_lifted os started H enc F)
#print axioms repairOpens_proved
end Go.Proofs.YtbppnihcbcdglaaGreat
