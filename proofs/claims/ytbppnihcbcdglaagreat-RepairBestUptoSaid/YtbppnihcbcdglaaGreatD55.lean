import Derived.Test.YtbppnihcbcdglaaGreatRows
import Derived.WalkKit
import Derived.OpenShut
import Derived.JoinedOf
namespace Go.Proofs.YtbppnihcbcdglaaGreat
set_option maxHeartbeats 0
theorem Be_band{a b:Bool}(h:a=true)(k:b=true):(a&&b)=true:=by rw[h,k];rfl
set_option maxRecDepth 100000 in
theorem Be_cf0:(Rows.repairBestUptoRow.wf (OpenSpec.ofChange Rows.repairBestSpec))=true:=by kernel_rfl
set_option maxRecDepth 100000 in
theorem Be_cf1:(laidOutB Tryz.prog)=true:=by kernel_rfl
set_option maxRecDepth 100000 in
theorem Be_cf2:(mapsRowed Tryz.prog)=true:=by kernel_rfl
set_option maxRecDepth 100000 in
theorem Be_cf3:(Tryz.f13.params.all (Tryz.prog.readableRec ·))=true:=by kernel_rfl
set_option maxRecDepth 100000 in
theorem Be_cf4:(namedTie Tryz.prog Rows.repairBestUptoRow.named Rows.repairBestSpec.vars)=true:=by kernel_rfl
set_option maxRecDepth 100000 in
theorem Be_cf5:((Rows.repairBestUptoRow.stops==[]))=true:=by kernel_rfl
set_option maxRecDepth 100000 in
theorem Be_cf6:((Tryz.prog.stops==[]))=true:=by kernel_rfl
set_option maxRecDepth 100000 in
theorem Be_cf7:((Rows.repairBestUptoRow.knobs==[]))=true:=by kernel_rfl
set_option maxRecDepth 100000 in
theorem Be_cf8:((Tryz.prog.stopKnobs==[]))=true:=by kernel_rfl
set_option maxRecDepth 100000 in
theorem Be_cf9:((Rows.repairBestUptoRow.inPlace==Tryz.prog.inPlace 13))=true:=by kernel_rfl
set_option maxRecDepth 100000 in
theorem Be_cf10:((Rows.repairBestUptoRow.unfollowed==Tryz.prog.unfollowed 13))=true:=by kernel_rfl
set_option maxRecDepth 100000 in
theorem Be_cf11:((Rows.repairBestUptoRow.recurses==Tryz.prog.recurses 13))=true:=by kernel_rfl
set_option maxRecDepth 100000 in
theorem Be_cf12:((Rows.repairBestUptoRow.named==Tryz.prog.varsNamed 13))=true:=by kernel_rfl
set_option maxRecDepth 100000 in
theorem Be_cf13:((Rows.repairBestUptoRow.maps==(Tryz.f13.params.toList++Rows.repairBestSpec.plain.varTypes Tryz.prog).any (Tryz.prog.mapsRec ·)))=true:=by kernel_rfl
set_option maxRecDepth 100000 in
theorem Be_cf14:((Rows.repairBestUptoRow.ifaces==(Tryz.f13.params.toList++Rows.repairBestSpec.plain.varTypes Tryz.prog).any (Tryz.prog.ifacesRec ·)))=true:=by kernel_rfl
set_option maxRecDepth 100000 in
theorem Be_cf15:((Rows.repairBestUptoRow.mapsOut==Tryz.prog.mapsAmong Tryz.f13.resultTypes.toList))=true:=by kernel_rfl
set_option maxRecDepth 100000 in
theorem Be_cf16:((Rows.repairBestUptoRow.loops==(Tryz.f13.params.toList++Rows.repairBestSpec.plain.varTypes Tryz.prog).any (Tryz.prog.loopsFrom ·)))=true:=by kernel_rfl
set_option maxRecDepth 100000 in
theorem Be_cf17:((Rows.repairBestUptoRow.wideKeys==(Tryz.f13.params.toList++Rows.repairBestSpec.plain.varTypes Tryz.prog++Tryz.f13.resultTypes.toList).any (Tryz.prog.wideKeysFrom ·)))=true:=by kernel_rfl
set_option maxRecDepth 100000 in
theorem Be_cf18:(Rows.repairBestSpec.vars.all (Tryz.prog.varReadable ·))=true:=by kernel_rfl
set_option maxRecDepth 100000 in
theorem Be_cf19:(Tryz.f13.resultTypes.all (fun t=>Tryz.prog.readableRec t&&decide (t<Tryz.prog.types.size)))=true:=by kernel_rfl
set_option maxRecDepth 100000 in
theorem Be_cf20:((Rows.repairBestUptoRow.ifacesOut==Tryz.f13.resultTypes.toList.any (Tryz.prog.ifacesRec ·)))=true:=by kernel_rfl
set_option maxRecDepth 100000 in
theorem Be_cf21:((Rows.repairBestUptoRow.loopsOut==Tryz.f13.resultTypes.toList.any (Tryz.prog.loopsFrom ·)))=true:=by kernel_rfl
set_option maxRecDepth 100000 in
theorem Be_cf22:((Rows.repairBestUptoRow.plainKeys==Tryz.prog.plainKeys))=true:=by kernel_rfl
set_option maxRecDepth 100000 in
theorem Be_cf23:(Rows.repairBestUptoRow.shortTexts.isNone)=true:=by kernel_rfl
set_option maxRecDepth 100000 in
theorem Be_cf24:(Tryz.prog.stopsHeard)=true:=by kernel_rfl
set_option maxRecDepth 100000 in
theorem Be_cf25:(Tryz.prog.mayEnter)=true:=by kernel_rfl
set_option maxRecDepth 100000 in
theorem Be_cf26:((Rows.repairBestUptoRow.lifted==Tryz.prog.liftsFinal))=true:=by kernel_rfl
set_option maxRecDepth 100000 in
theorem Be_cf27:((Tryz.prog.make==some Rows.repairBestUptoRow.make))=true:=by kernel_rfl
set_option maxRecDepth 100000 in
theorem Be_cf29:((Rows.repairBestUptoRow.pinned==Rows.repairBestUptoRow.pinnedBy))=true:=by kernel_rfl
set_option maxRecDepth 100000 in
theorem Be_cf30:((Rows.repairBestUptoRow.veiled==(Tryz.f13.params.toList++Rows.repairBestSpec.plain.varTypes Tryz.prog++Tryz.f13.resultTypes.toList).any (Tryz.prog.veiledRec ·)))=true:=by kernel_rfl
set_option maxRecDepth 100000 in
theorem Be_cf31:(Rows.repairBestUptoRow.veiledFits Tryz.prog Tryz.f13.params.toList (Tryz.f13.params.toList++Rows.repairBestSpec.plain.varTypes Tryz.prog++Tryz.f13.resultTypes.toList))=true:=by kernel_rfl
set_option maxRecDepth 100000 in
theorem Be_closed:joinedFacts Tryz.prog 13 Tryz.f13 Rows.repairBestSpec Rows.repairBestUptoRow=true:=by
 unfold joinedFacts
 with_reducible refine Be_band (Be_band (Be_band (Be_band (Be_band (Be_band (Be_band (Be_band (Be_band (Be_band (Be_band (Be_band (Be_band (Be_band (Be_band (Be_band (Be_band (Be_band (Be_band (Be_band (Be_band (Be_band (Be_band (Be_band (Be_band (Be_band (Be_band (Be_band (Be_band (Be_band (Be_band (Be_cf0) Be_cf1) Be_cf2) Be_cf3) Be_cf4) Be_cf5) Be_cf6) Be_cf7) Be_cf8) Be_cf9) Be_cf10) Be_cf11) Be_cf12) Be_cf13) Be_cf14) Be_cf15) Be_cf16) Be_cf17) Be_cf18) Be_cf19) Be_cf20) Be_cf21) Be_cf22) Be_cf23) Be_cf24) Be_cf25) Be_cf26) Be_cf27) ?_) Be_cf29) Be_cf30) Be_cf31
 kernel_rfl
set_option maxRecDepth 100000 in
theorem Be_fn:Tryz.prog.funcNamed Rows.repairBestUptoRow.func=some 13:=by kernel_rfl
set_option maxRecDepth 100000 in
theorem Be_inst:Tryz.f13.isInstance Tryz.prog Rows.repairBestUptoRow.origin Rows.repairBestUptoRow.targs:=of_decide_eq_true (by kernel_rfl)
set_option maxRecDepth 100000 in
theorem Be_wrap:Tryz.f13.isWrapper Tryz.prog Rows.repairBestUptoRow.wrapper Rows.repairBestUptoRow.mainSum:=by
 unfold Func.isWrapper
 first|(rw[if_pos (by decide +kernel)];kernel_rfl)|(rw[if_neg (by decide +kernel)];exact⟨rfl,rfl⟩)
end Go.Proofs.YtbppnihcbcdglaaGreat
