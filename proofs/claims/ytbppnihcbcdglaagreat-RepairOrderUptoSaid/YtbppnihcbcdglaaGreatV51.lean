/- The closed facts of the row of treadlelaw24.RepairOrder, one by one. By cf.py. -/
import Derived.Test.YtbppnihcbcdglaaGreatRows
import Derived.WalkKit
import Derived.OpenShut
import Derived.JoinedOf
namespace Go.Proofs.YtbppnihcbcdglaaGreat
set_option maxHeartbeats 0
theorem Ro_band{a b:Bool}(h:a=true)(k:b=true):(a&&b)=true:=by rw[h,k];rfl
set_option maxRecDepth 100000 in
theorem Ro_cf0:(Rows.repairOrderUptoRow.wf (OpenSpec.ofChange Rows.repairOrderSpec))=true:=by kernel_rfl
set_option maxRecDepth 100000 in
theorem Ro_cf1:(laidOutB Tryz.prog)=true:=by kernel_rfl
set_option maxRecDepth 100000 in
theorem Ro_cf2:(mapsRowed Tryz.prog)=true:=by kernel_rfl
set_option maxRecDepth 100000 in
theorem Ro_cf3:(Tryz.f11.params.all (Tryz.prog.readableRec ·))=true:=by kernel_rfl
set_option maxRecDepth 100000 in
theorem Ro_cf4:(namedTie Tryz.prog Rows.repairOrderUptoRow.named Rows.repairOrderSpec.vars)=true:=by kernel_rfl
set_option maxRecDepth 100000 in
theorem Ro_cf5:((Rows.repairOrderUptoRow.stops==[]))=true:=by kernel_rfl
set_option maxRecDepth 100000 in
theorem Ro_cf6:((Tryz.prog.stops==[]))=true:=by kernel_rfl
set_option maxRecDepth 100000 in
theorem Ro_cf7:((Rows.repairOrderUptoRow.knobs==[]))=true:=by kernel_rfl
set_option maxRecDepth 100000 in
theorem Ro_cf8:((Tryz.prog.stopKnobs==[]))=true:=by kernel_rfl
set_option maxRecDepth 100000 in
theorem Ro_cf9:((Rows.repairOrderUptoRow.inPlace==Tryz.prog.inPlace 11))=true:=by kernel_rfl
set_option maxRecDepth 100000 in
theorem Ro_cf10:((Rows.repairOrderUptoRow.unfollowed==Tryz.prog.unfollowed 11))=true:=by kernel_rfl
set_option maxRecDepth 100000 in
theorem Ro_cf11:((Rows.repairOrderUptoRow.recurses==Tryz.prog.recurses 11))=true:=by kernel_rfl
set_option maxRecDepth 100000 in
theorem Ro_cf12:((Rows.repairOrderUptoRow.named==Tryz.prog.varsNamed 11))=true:=by kernel_rfl
set_option maxRecDepth 100000 in
theorem Ro_cf13:((Rows.repairOrderUptoRow.maps==(Tryz.f11.params.toList++Rows.repairOrderSpec.plain.varTypes Tryz.prog).any (Tryz.prog.mapsRec ·)))=true:=by kernel_rfl
set_option maxRecDepth 100000 in
theorem Ro_cf14:((Rows.repairOrderUptoRow.ifaces==(Tryz.f11.params.toList++Rows.repairOrderSpec.plain.varTypes Tryz.prog).any (Tryz.prog.ifacesRec ·)))=true:=by kernel_rfl
set_option maxRecDepth 100000 in
theorem Ro_cf15:((Rows.repairOrderUptoRow.mapsOut==Tryz.prog.mapsAmong Tryz.f11.resultTypes.toList))=true:=by kernel_rfl
set_option maxRecDepth 100000 in
theorem Ro_cf16:((Rows.repairOrderUptoRow.loops==(Tryz.f11.params.toList++Rows.repairOrderSpec.plain.varTypes Tryz.prog).any (Tryz.prog.loopsFrom ·)))=true:=by kernel_rfl
set_option maxRecDepth 100000 in
theorem Ro_cf17:((Rows.repairOrderUptoRow.wideKeys==(Tryz.f11.params.toList++Rows.repairOrderSpec.plain.varTypes Tryz.prog++Tryz.f11.resultTypes.toList).any (Tryz.prog.wideKeysFrom ·)))=true:=by kernel_rfl
set_option maxRecDepth 100000 in
theorem Ro_cf18:(Rows.repairOrderSpec.vars.all (Tryz.prog.varReadable ·))=true:=by kernel_rfl
set_option maxRecDepth 100000 in
theorem Ro_cf19:(Tryz.f11.resultTypes.all (fun t=>Tryz.prog.readableRec t&&decide (t<Tryz.prog.types.size)))=true:=by kernel_rfl
set_option maxRecDepth 100000 in
theorem Ro_cf20:((Rows.repairOrderUptoRow.ifacesOut==Tryz.f11.resultTypes.toList.any (Tryz.prog.ifacesRec ·)))=true:=by kernel_rfl
set_option maxRecDepth 100000 in
theorem Ro_cf21:((Rows.repairOrderUptoRow.loopsOut==Tryz.f11.resultTypes.toList.any (Tryz.prog.loopsFrom ·)))=true:=by kernel_rfl
set_option maxRecDepth 100000 in
theorem Ro_cf22:((Rows.repairOrderUptoRow.plainKeys==Tryz.prog.plainKeys))=true:=by kernel_rfl
set_option maxRecDepth 100000 in
theorem Ro_cf23:(Rows.repairOrderUptoRow.shortTexts.isNone)=true:=by kernel_rfl
set_option maxRecDepth 100000 in
theorem Ro_cf24:(Tryz.prog.stopsHeard)=true:=by kernel_rfl
set_option maxRecDepth 100000 in
theorem Ro_cf25:(Tryz.prog.mayEnter)=true:=by kernel_rfl
set_option maxRecDepth 100000 in
theorem Ro_cf26:((Rows.repairOrderUptoRow.lifted==Tryz.prog.liftsFinal))=true:=by kernel_rfl
set_option maxRecDepth 100000 in
theorem Ro_cf27:((Tryz.prog.make==some Rows.repairOrderUptoRow.make))=true:=by kernel_rfl
set_option maxRecDepth 100000 in
theorem Ro_cf29:((Rows.repairOrderUptoRow.pinned==Rows.repairOrderUptoRow.pinnedBy))=true:=by kernel_rfl
set_option maxRecDepth 100000 in
theorem Ro_cf30:((Rows.repairOrderUptoRow.veiled==(Tryz.f11.params.toList++Rows.repairOrderSpec.plain.varTypes Tryz.prog++Tryz.f11.resultTypes.toList).any (Tryz.prog.veiledRec ·)))=true:=by kernel_rfl
set_option maxRecDepth 100000 in
theorem Ro_cf31:(Rows.repairOrderUptoRow.veiledFits Tryz.prog Tryz.f11.params.toList (Tryz.f11.params.toList++Rows.repairOrderSpec.plain.varTypes Tryz.prog++Tryz.f11.resultTypes.toList))=true:=by kernel_rfl
set_option maxRecDepth 100000 in
theorem Ro_closed:joinedFacts Tryz.prog 11 Tryz.f11 Rows.repairOrderSpec Rows.repairOrderUptoRow=true:=by
 unfold joinedFacts
 with_reducible refine Ro_band (Ro_band (Ro_band (Ro_band (Ro_band (Ro_band (Ro_band (Ro_band (Ro_band (Ro_band (Ro_band (Ro_band (Ro_band (Ro_band (Ro_band (Ro_band (Ro_band (Ro_band (Ro_band (Ro_band (Ro_band (Ro_band (Ro_band (Ro_band (Ro_band (Ro_band (Ro_band (Ro_band (Ro_band (Ro_band (Ro_band (Ro_cf0) Ro_cf1) Ro_cf2) Ro_cf3) Ro_cf4) Ro_cf5) Ro_cf6) Ro_cf7) Ro_cf8) Ro_cf9) Ro_cf10) Ro_cf11) Ro_cf12) Ro_cf13) Ro_cf14) Ro_cf15) Ro_cf16) Ro_cf17) Ro_cf18) Ro_cf19) Ro_cf20) Ro_cf21) Ro_cf22) Ro_cf23) Ro_cf24) Ro_cf25) Ro_cf26) Ro_cf27) ?_) Ro_cf29) Ro_cf30) Ro_cf31
 kernel_rfl
set_option maxRecDepth 100000 in
theorem Ro_fn:Tryz.prog.funcNamed Rows.repairOrderUptoRow.func=some 11:=by kernel_rfl
set_option maxRecDepth 100000 in
theorem Ro_inst:Tryz.f11.isInstance Tryz.prog Rows.repairOrderUptoRow.origin Rows.repairOrderUptoRow.targs:=of_decide_eq_true (by kernel_rfl)
set_option maxRecDepth 100000 in
theorem Ro_wrap:Tryz.f11.isWrapper Tryz.prog Rows.repairOrderUptoRow.wrapper Rows.repairOrderUptoRow.mainSum:=by
 unfold Func.isWrapper
 first|(rw[if_pos (by decide +kernel)];kernel_rfl)|(rw[if_neg (by decide +kernel)];exact⟨rfl,rfl⟩)
end Go.Proofs.YtbppnihcbcdglaaGreat
