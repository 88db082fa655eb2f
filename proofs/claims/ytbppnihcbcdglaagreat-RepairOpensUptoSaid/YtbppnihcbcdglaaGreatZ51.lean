/- The closed facts of the row of treadlelaw24.RepairOpens, one by one. By cf.py. -/
import Derived.Test.YtbppnihcbcdglaaGreatRows
import Derived.WalkKit
import Derived.OpenShut
import Derived.JoinedOf
namespace Go.Proofs.YtbppnihcbcdglaaGreat
set_option maxHeartbeats 0
theorem Op_band{a b:Bool}(h:a=true)(k:b=true):(a&&b)=true:=by rw[h,k];rfl
set_option maxRecDepth 100000 in
theorem Op_cf0:(Rows.repairOpensUptoRow.wf (OpenSpec.ofChange Rows.repairOpensSpec))=true:=by kernel_rfl
set_option maxRecDepth 100000 in
theorem Op_cf1:(laidOutB Tryz.prog)=true:=by kernel_rfl
set_option maxRecDepth 100000 in
theorem Op_cf2:(mapsRowed Tryz.prog)=true:=by kernel_rfl
set_option maxRecDepth 100000 in
theorem Op_cf3:(Tryz.f10.params.all (Tryz.prog.readableRec ·))=true:=by kernel_rfl
set_option maxRecDepth 100000 in
theorem Op_cf4:(namedTie Tryz.prog Rows.repairOpensUptoRow.named Rows.repairOpensSpec.vars)=true:=by kernel_rfl
set_option maxRecDepth 100000 in
theorem Op_cf5:((Rows.repairOpensUptoRow.stops==[]))=true:=by kernel_rfl
set_option maxRecDepth 100000 in
theorem Op_cf6:((Tryz.prog.stops==[]))=true:=by kernel_rfl
set_option maxRecDepth 100000 in
theorem Op_cf7:((Rows.repairOpensUptoRow.knobs==[]))=true:=by kernel_rfl
set_option maxRecDepth 100000 in
theorem Op_cf8:((Tryz.prog.stopKnobs==[]))=true:=by kernel_rfl
set_option maxRecDepth 100000 in
theorem Op_cf9:((Rows.repairOpensUptoRow.inPlace==Tryz.prog.inPlace 10))=true:=by kernel_rfl
set_option maxRecDepth 100000 in
theorem Op_cf10:((Rows.repairOpensUptoRow.unfollowed==Tryz.prog.unfollowed 10))=true:=by kernel_rfl
set_option maxRecDepth 100000 in
theorem Op_cf11:((Rows.repairOpensUptoRow.recurses==Tryz.prog.recurses 10))=true:=by kernel_rfl
set_option maxRecDepth 100000 in
theorem Op_cf12:((Rows.repairOpensUptoRow.named==Tryz.prog.varsNamed 10))=true:=by kernel_rfl
set_option maxRecDepth 100000 in
theorem Op_cf13:((Rows.repairOpensUptoRow.maps==(Tryz.f10.params.toList++Rows.repairOpensSpec.plain.varTypes Tryz.prog).any (Tryz.prog.mapsRec ·)))=true:=by kernel_rfl
set_option maxRecDepth 100000 in
theorem Op_cf14:((Rows.repairOpensUptoRow.ifaces==(Tryz.f10.params.toList++Rows.repairOpensSpec.plain.varTypes Tryz.prog).any (Tryz.prog.ifacesRec ·)))=true:=by kernel_rfl
set_option maxRecDepth 100000 in
theorem Op_cf15:((Rows.repairOpensUptoRow.mapsOut==Tryz.prog.mapsAmong Tryz.f10.resultTypes.toList))=true:=by kernel_rfl
set_option maxRecDepth 100000 in
theorem Op_cf16:((Rows.repairOpensUptoRow.loops==(Tryz.f10.params.toList++Rows.repairOpensSpec.plain.varTypes Tryz.prog).any (Tryz.prog.loopsFrom ·)))=true:=by kernel_rfl
set_option maxRecDepth 100000 in
theorem Op_cf17:((Rows.repairOpensUptoRow.wideKeys==(Tryz.f10.params.toList++Rows.repairOpensSpec.plain.varTypes Tryz.prog++Tryz.f10.resultTypes.toList).any (Tryz.prog.wideKeysFrom ·)))=true:=by kernel_rfl
set_option maxRecDepth 100000 in
theorem Op_cf18:(Rows.repairOpensSpec.vars.all (Tryz.prog.varReadable ·))=true:=by kernel_rfl
set_option maxRecDepth 100000 in
theorem Op_cf19:(Tryz.f10.resultTypes.all (fun t=>Tryz.prog.readableRec t&&decide (t<Tryz.prog.types.size)))=true:=by kernel_rfl
set_option maxRecDepth 100000 in
theorem Op_cf20:((Rows.repairOpensUptoRow.ifacesOut==Tryz.f10.resultTypes.toList.any (Tryz.prog.ifacesRec ·)))=true:=by kernel_rfl
set_option maxRecDepth 100000 in
theorem Op_cf21:((Rows.repairOpensUptoRow.loopsOut==Tryz.f10.resultTypes.toList.any (Tryz.prog.loopsFrom ·)))=true:=by kernel_rfl
set_option maxRecDepth 100000 in
theorem Op_cf22:((Rows.repairOpensUptoRow.plainKeys==Tryz.prog.plainKeys))=true:=by kernel_rfl
set_option maxRecDepth 100000 in
theorem Op_cf23:(Rows.repairOpensUptoRow.shortTexts.isNone)=true:=by kernel_rfl
set_option maxRecDepth 100000 in
theorem Op_cf24:(Tryz.prog.stopsHeard)=true:=by kernel_rfl
set_option maxRecDepth 100000 in
theorem Op_cf25:(Tryz.prog.mayEnter)=true:=by kernel_rfl
set_option maxRecDepth 100000 in
theorem Op_cf26:((Rows.repairOpensUptoRow.lifted==Tryz.prog.liftsFinal))=true:=by kernel_rfl
set_option maxRecDepth 100000 in
theorem Op_cf27:((Tryz.prog.make==some Rows.repairOpensUptoRow.make))=true:=by kernel_rfl
set_option maxRecDepth 100000 in
theorem Op_cf29:((Rows.repairOpensUptoRow.pinned==Rows.repairOpensUptoRow.pinnedBy))=true:=by kernel_rfl
set_option maxRecDepth 100000 in
theorem Op_cf30:((Rows.repairOpensUptoRow.veiled==(Tryz.f10.params.toList++Rows.repairOpensSpec.plain.varTypes Tryz.prog++Tryz.f10.resultTypes.toList).any (Tryz.prog.veiledRec ·)))=true:=by kernel_rfl
set_option maxRecDepth 100000 in
theorem Op_cf31:(Rows.repairOpensUptoRow.veiledFits Tryz.prog Tryz.f10.params.toList (Tryz.f10.params.toList++Rows.repairOpensSpec.plain.varTypes Tryz.prog++Tryz.f10.resultTypes.toList))=true:=by kernel_rfl
set_option maxRecDepth 100000 in
theorem Op_closed:joinedFacts Tryz.prog 10 Tryz.f10 Rows.repairOpensSpec Rows.repairOpensUptoRow=true:=by
 unfold joinedFacts
 with_reducible refine Op_band (Op_band (Op_band (Op_band (Op_band (Op_band (Op_band (Op_band (Op_band (Op_band (Op_band (Op_band (Op_band (Op_band (Op_band (Op_band (Op_band (Op_band (Op_band (Op_band (Op_band (Op_band (Op_band (Op_band (Op_band (Op_band (Op_band (Op_band (Op_band (Op_band (Op_band (Op_cf0) Op_cf1) Op_cf2) Op_cf3) Op_cf4) Op_cf5) Op_cf6) Op_cf7) Op_cf8) Op_cf9) Op_cf10) Op_cf11) Op_cf12) Op_cf13) Op_cf14) Op_cf15) Op_cf16) Op_cf17) Op_cf18) Op_cf19) Op_cf20) Op_cf21) Op_cf22) Op_cf23) Op_cf24) Op_cf25) Op_cf26) Op_cf27) ?_) Op_cf29) Op_cf30) Op_cf31
 kernel_rfl
set_option maxRecDepth 100000 in
theorem Op_fn:Tryz.prog.funcNamed Rows.repairOpensUptoRow.func=some 10:=by kernel_rfl
set_option maxRecDepth 100000 in
theorem Op_inst:Tryz.f10.isInstance Tryz.prog Rows.repairOpensUptoRow.origin Rows.repairOpensUptoRow.targs:=of_decide_eq_true (by kernel_rfl)
set_option maxRecDepth 100000 in
theorem Op_wrap:Tryz.f10.isWrapper Tryz.prog Rows.repairOpensUptoRow.wrapper Rows.repairOpensUptoRow.mainSum:=by
 unfold Func.isWrapper
 first|(rw[if_pos (by decide +kernel)];kernel_rfl)|(rw[if_neg (by decide +kernel)];exact⟨rfl,rfl⟩)
end Go.Proofs.YtbppnihcbcdglaaGreat
