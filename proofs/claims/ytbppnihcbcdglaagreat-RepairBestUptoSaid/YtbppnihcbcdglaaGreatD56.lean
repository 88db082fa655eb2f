import Derived.Test.YtbppnihcbcdglaaGreatRows
import Derived.Test.YtbppnihcbcdglaaGreatD54
import Derived.Test.YtbppnihcbcdglaaGreatD47
import Derived.Test.YtbppnihcbcdglaaGreatD55
namespace Go.Proofs.YtbppnihcbcdglaaGreat
open Go.ChangeShapes Go.WideShapes Go.ChangeAt Go.RowKit
set_option linter.unusedVariables false
theorem Be_own:ownKnob Tryz.prog.godebug=none:=by kernel_rfl
set_option maxRecDepth 100000 in
theorem Be_contract(H:Type)(enc:TypeId×Value->H)(W:World)(base:Nat)(args:Array Value)(ds gs:List (DataW H))(before:List MemPlace)
  (hval:∀ (j:Nat) t v,Tryz.f13.params[j]?=some t->args[j]?=some v->Value.okWide Tryz.prog W .any base t v)
  (hW:DataW.Whole enc Tryz.prog Tryz.f13.params.toList Rows.repairBestSpec.vars false W args.toList ds gs before) :
  Calls Tryz.prog 13 args W fun e W'=>∃ v,e = .returned v/\Rows.repairBestSpec.post enc Tryz.prog Tryz.f13 false true false false W args v W':=by
 have hW':=hW
 obtain⟨p,q,hA0,hV,rfl,hfz,hnd⟩:=hW
 have hA:DataW.TrodAll enc Tryz.prog W 0 (fun _=>true) true Tryz.f13.params.toList args.toList ds p:=hA0
 have hAk:=hA
 rw[Tryz.params13] at hA hval
 obtain⟨v0,vs0,d0,ds0,p0,q0,hargs,rfl,rfl,h0,r0⟩:=trodAll_cons hA
 obtain⟨rfl,rfl,rfl⟩:=trodAll_nil r0
 obtain rfl:args=#[v0]:=by cases args;simp_all
 obtain⟨rfl,rfl⟩:=trodVars_none hV
 obtain⟨fa,fc,ms,rfl,hF⟩:=arg_files (hval 0 40 v0 rfl rfl) h0
 refine xG W fa fc ms hF _ (fun W' hb=>?_)
 refine⟨_,rfl,post_kept (pa:=p0++[]) (pv:=[]) hW' (fun _ _ _=>trodAll_cons_mk (shut_bool Tryz.underlying4 _) trodAll_mk0) ?_ (fun _=>rfl) hb⟩
 exact trodAll_below hb (by kernel_rfl) hAk (fun x hx=>hW'.lt x (List.mem_append_left _ hx))
set_option maxRecDepth 100000 in
theorem Be_lifted(os:Os)(started:os.Started)(H:Type)(enc:TypeId×Value->H)(F:Stop.Interp) :
  ReturnsInHanded {} Tryz.checked os 13 .any ((Rows.OpenSpec.upto Rows.repairBestSpec).pre6 enc Tryz.prog Tryz.f13 Rows.repairBestUptoRow.domain false) (((Rows.OpenSpec.upto Rows.repairBestSpec).at F).post enc Tryz.prog Tryz.f13 false true false false):=by
 refine returnsInHanded_of_cond (C:=Tryz.checked) (s:=Rows.OpenSpec.upto Rows.repairBestSpec) (k:=Rows.uptoSmall) rfl Be_own started (by kernel_rfl) Tryz.func13
  (OpenSpec.witness (enc:=enc) (C:=Tryz.checked) (s:=Rows.OpenSpec.upto Rows.repairBestSpec) (k:=Rows.uptoSmall) rfl false ⟨#[],#[.slice none 0 0],[]⟩ 8 (by as_aux_lemma=>kernel_rfl) (by as_aux_lemma=>kernel_rfl) (by as_aux_lemma=>kernel_rfl)
   (x:=([.nil],[],[])) (by as_aux_lemma=>kernel_rfl) rfl (by as_aux_lemma=>kernel_rfl) (by as_aux_lemma=>kernel_rfl)) ?_
 intro W base args ds gs before hval hW _ hk _
 exact Be_contract H enc W base args ds gs before hval hW
set_option maxRecDepth 100000 in
theorem repairBest_proved:Rows.RepairBestUptoSaid :=
 OpenClaim.holds_of_cond 13 Tryz.f13 rfl rfl rfl rfl rfl rfl rfl ⟨rfl,rfl,rfl,rfl,rfl⟩ rfl rfl rfl rfl rfl Be_fn Tryz.func13 Be_closed Be_inst Be_wrap
  (fun os started H enc _ F=>Be_lifted os started H enc F)
#print axioms repairBest_proved
end Go.Proofs.YtbppnihcbcdglaaGreat
