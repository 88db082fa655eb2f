/- It is proved that treadlelaw24.RepairOrder returns true for every input that its statement lets in. No condition. -/
import Derived.Test.YtbppnihcbcdglaaGreatRows
import Derived.Test.YtbppnihcbcdglaaGreatV47
import Derived.Test.YtbppnihcbcdglaaGreatV50
import Derived.Test.YtbppnihcbcdglaaGreatV51
namespace Go.Proofs.YtbppnihcbcdglaaGreat
open Go.ChangeShapes Go.WideShapes Go.ChangeAt Go.RowKit
set_option linter.unusedVariables false
theorem Ro_own:ownKnob Tryz.prog.godebug=none:=by kernel_rfl
set_option maxRecDepth 100000 in
theorem Ro_contract(H:Type)(enc:TypeId×Value->H)(W:World)(base:Nat)(args:Array Value)(ds gs:List (DataW H))(before:List MemPlace)
  (hval:∀ (j:Nat) t v,Tryz.f11.params[j]? = some t->args[j]? = some v->Value.okWide Tryz.prog W .any base t v)
  (hW:DataW.Whole enc Tryz.prog Tryz.f11.params.toList Rows.repairOrderSpec.vars false W args.toList ds gs before) :
  Calls Tryz.prog 11 args W fun e W'=>∃ v,e = .returned v/\Rows.repairOrderSpec.post enc Tryz.prog Tryz.f11 false true false false W args v W':=by
 have hW':=hW
 obtain⟨p,q,hA0,hV,rfl,hfz,hnd⟩:=hW
 have hA:DataW.TrodAll enc Tryz.prog W 0 (fun _=>true) true Tryz.f11.params.toList args.toList ds p:=hA0
 have hAk:=hA
 rw[Tryz.params11] at hA hval
 obtain⟨v0,vs0,d0,ds0,p0,q0,hargs,rfl,rfl,h0,r0⟩:=trodAll_cons hA
 obtain⟨v1,vs1,d1,ds1,p1,q1,hargs1,rfl,rfl,h1,r1⟩:=trodAll_cons r0
 obtain⟨rfl,rfl,rfl⟩:=trodAll_nil r1
 obtain rfl:args=#[v0,v1]:=by cases args;simp_all
 obtain⟨rfl,rfl⟩:=trodVars_none hV
 obtain⟨fa,fc,ms,rfl,hF⟩:=arg_files (hval 0 40 v0 rfl rfl) h0
 obtain⟨ta,tc,turn,rfl,hT,-⟩:=arg_ints (hval 1 57 v1 rfl rfl) h1
 refine order24_cps W fa fc ms ta tc turn hF hT _ (fun W' hb=>?_)
 refine⟨_,rfl,post_kept (pa:=p0++(p1++[])) (pv:=[]) hW' (fun _ _ _=>trodAll_cons_mk (shut_bool Tryz.underlying4 _) trodAll_mk0) ?_ (fun _=>rfl) hb⟩
 exact trodAll_below hb (by kernel_rfl) hAk (fun x hx=>hW'.lt x (List.mem_append_left _ hx))
set_option maxRecDepth 100000 in
theorem Ro_lifted(os:Os)(started:os.Started)(H:Type)(enc:TypeId×Value->H)(F:Stop.Interp) :
  ReturnsInHanded {} Tryz.checked os 11 .any ((Rows.OpenSpec.upto Rows.repairOrderSpec).pre6 enc Tryz.prog Tryz.f11 Rows.repairOrderUptoRow.domain false) (((Rows.OpenSpec.upto Rows.repairOrderSpec).at F).post enc Tryz.prog Tryz.f11 false true false false):=by
 refine returnsInHanded_of_cond (C:=Tryz.checked) (s:=Rows.OpenSpec.upto Rows.repairOrderSpec) (k:=Rows.uptoSmall) rfl Ro_own started (by kernel_rfl) Tryz.func11
  (OpenSpec.witness (enc:=enc) (C:=Tryz.checked) (s:=Rows.OpenSpec.upto Rows.repairOrderSpec) (k:=Rows.uptoSmall) rfl false ⟨#[],#[.slice none 0 0,.slice none 0 0],[]⟩ 8 (by as_aux_lemma=>kernel_rfl) (by as_aux_lemma=>kernel_rfl) (by as_aux_lemma=>kernel_rfl)
   (x:=([.nil,.nil],[],[])) (by as_aux_lemma=>kernel_rfl) rfl (by as_aux_lemma=>kernel_rfl) (by as_aux_lemma=>kernel_rfl)) ?_
 intro W base args ds gs before hval hW _ hk _
 exact Ro_contract H enc W base args ds gs before hval hW
set_option maxRecDepth 100000 in
theorem repairOrder_proved:Rows.RepairOrderUptoSaid :=
 OpenClaim.holds_of_cond 11 Tryz.f11 rfl rfl rfl rfl rfl rfl rfl ⟨rfl,rfl,rfl,rfl,rfl⟩ rfl rfl rfl rfl rfl Ro_fn Tryz.func11 Ro_closed Ro_inst Ro_wrap
  (fun os started H enc _ F=>Ro_lifted os started H enc F)
#print axioms repairOrder_proved
end Go.Proofs.YtbppnihcbcdglaaGreat
