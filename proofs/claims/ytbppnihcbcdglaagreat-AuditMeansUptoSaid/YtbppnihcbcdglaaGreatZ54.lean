/- The closed facts of the row of treadlelaw20.AuditMeans, one by one. By cf.py. -/
import Derived.Test.YtbppnihcbcdglaaGreatRows
import Derived.WalkKit
import Derived.OpenShut
import Derived.JoinedOf
namespace Go.Proofs.YtbppnihcbcdglaaGreat
theorem Ms_band {a b : Bool} (h : a = true) (k : b = true) : (a && b) = true := by rw [h, k]; rfl
set_option maxHeartbeats 0 in
set_option maxRecDepth 100000 in
theorem Ms_cf0 : (Rows.auditMeansUptoRow.wf (OpenSpec.ofChange Rows.auditMeansSpec)) = true := by kernel_rfl
set_option maxHeartbeats 0 in
set_option maxRecDepth 100000 in
theorem Ms_cf1 : (laidOutB Tryz.prog) = true := by kernel_rfl
set_option maxHeartbeats 0 in
set_option maxRecDepth 100000 in
theorem Ms_cf2 : (mapsRowed Tryz.prog) = true := by kernel_rfl
set_option maxHeartbeats 0 in
set_option maxRecDepth 100000 in
theorem Ms_cf3 : (Tryz.f7.params.all (Tryz.prog.readableRec ·)) = true := by kernel_rfl
set_option maxHeartbeats 0 in
set_option maxRecDepth 100000 in
theorem Ms_cf4 : (namedTie Tryz.prog Rows.auditMeansUptoRow.named Rows.auditMeansSpec.vars) = true := by kernel_rfl
set_option maxHeartbeats 0 in
set_option maxRecDepth 100000 in
theorem Ms_cf5 : ((Rows.auditMeansUptoRow.stops == [])) = true := by kernel_rfl
set_option maxHeartbeats 0 in
set_option maxRecDepth 100000 in
theorem Ms_cf6 : ((Tryz.prog.stops == [])) = true := by kernel_rfl
set_option maxHeartbeats 0 in
set_option maxRecDepth 100000 in
theorem Ms_cf7 : ((Rows.auditMeansUptoRow.knobs == [])) = true := by kernel_rfl
set_option maxHeartbeats 0 in
set_option maxRecDepth 100000 in
theorem Ms_cf8 : ((Tryz.prog.stopKnobs == [])) = true := by kernel_rfl
set_option maxHeartbeats 0 in
set_option maxRecDepth 100000 in
theorem Ms_cf9 : ((Rows.auditMeansUptoRow.inPlace == Tryz.prog.inPlace 7)) = true := by kernel_rfl
set_option maxHeartbeats 0 in
set_option maxRecDepth 100000 in
theorem Ms_cf10 : ((Rows.auditMeansUptoRow.unfollowed == Tryz.prog.unfollowed 7)) = true := by kernel_rfl
set_option maxHeartbeats 0 in
set_option maxRecDepth 100000 in
theorem Ms_cf11 : ((Rows.auditMeansUptoRow.recurses == Tryz.prog.recurses 7)) = true := by kernel_rfl
set_option maxHeartbeats 0 in
set_option maxRecDepth 100000 in
theorem Ms_cf12 : ((Rows.auditMeansUptoRow.named == Tryz.prog.varsNamed 7)) = true := by kernel_rfl
set_option maxHeartbeats 0 in
set_option maxRecDepth 100000 in
theorem Ms_cf13 : ((Rows.auditMeansUptoRow.maps == (Tryz.f7.params.toList ++ Rows.auditMeansSpec.plain.varTypes Tryz.prog).any (Tryz.prog.mapsRec ·))) = true := by kernel_rfl
set_option maxHeartbeats 0 in
set_option maxRecDepth 100000 in
theorem Ms_cf14 : ((Rows.auditMeansUptoRow.ifaces == (Tryz.f7.params.toList ++ Rows.auditMeansSpec.plain.varTypes Tryz.prog).any (Tryz.prog.ifacesRec ·))) = true := by kernel_rfl
set_option maxHeartbeats 0 in
set_option maxRecDepth 100000 in
theorem Ms_cf15 : ((Rows.auditMeansUptoRow.mapsOut == Tryz.prog.mapsAmong Tryz.f7.resultTypes.toList)) = true := by kernel_rfl
set_option maxHeartbeats 0 in
set_option maxRecDepth 100000 in
theorem Ms_cf16 : ((Rows.auditMeansUptoRow.loops == (Tryz.f7.params.toList ++ Rows.auditMeansSpec.plain.varTypes Tryz.prog).any (Tryz.prog.loopsFrom ·))) = true := by kernel_rfl
set_option maxHeartbeats 0 in
set_option maxRecDepth 100000 in
theorem Ms_cf17 : ((Rows.auditMeansUptoRow.wideKeys == (Tryz.f7.params.toList ++ Rows.auditMeansSpec.plain.varTypes Tryz.prog ++ Tryz.f7.resultTypes.toList).any (Tryz.prog.wideKeysFrom ·))) = true := by kernel_rfl
set_option maxHeartbeats 0 in
set_option maxRecDepth 100000 in
theorem Ms_cf18 : (Rows.auditMeansSpec.vars.all (Tryz.prog.varReadable ·)) = true := by kernel_rfl
set_option maxHeartbeats 0 in
set_option maxRecDepth 100000 in
theorem Ms_cf19 : (Tryz.f7.resultTypes.all (fun t => Tryz.prog.readableRec t && decide (t < Tryz.prog.types.size))) = true := by kernel_rfl
set_option maxHeartbeats 0 in
set_option maxRecDepth 100000 in
theorem Ms_cf20 : ((Rows.auditMeansUptoRow.ifacesOut == Tryz.f7.resultTypes.toList.any (Tryz.prog.ifacesRec ·))) = true := by kernel_rfl
set_option maxHeartbeats 0 in
set_option maxRecDepth 100000 in
theorem Ms_cf21 : ((Rows.auditMeansUptoRow.loopsOut == Tryz.f7.resultTypes.toList.any (Tryz.prog.loopsFrom ·))) = true := by kernel_rfl
set_option maxHeartbeats 0 in
set_option maxRecDepth 100000 in
theorem Ms_cf22 : ((Rows.auditMeansUptoRow.plainKeys == Tryz.prog.plainKeys)) = true := by kernel_rfl
set_option maxHeartbeats 0 in
set_option maxRecDepth 100000 in
theorem Ms_cf23 : (Rows.auditMeansUptoRow.shortTexts.isNone) = true := by kernel_rfl
set_option maxHeartbeats 0 in
set_option maxRecDepth 100000 in
theorem Ms_cf24 : (Tryz.prog.stopsHeard) = true := by kernel_rfl
set_option maxHeartbeats 0 in
set_option maxRecDepth 100000 in
theorem Ms_cf25 : (Tryz.prog.mayEnter) = true := by kernel_rfl
set_option maxHeartbeats 0 in
set_option maxRecDepth 100000 in
theorem Ms_cf26 : ((Rows.auditMeansUptoRow.lifted == Tryz.prog.liftsFinal)) = true := by kernel_rfl
set_option maxHeartbeats 0 in
set_option maxRecDepth 100000 in
theorem Ms_cf27 : ((Tryz.prog.make == some Rows.auditMeansUptoRow.make)) = true := by kernel_rfl
set_option maxHeartbeats 0 in
set_option maxRecDepth 100000 in
theorem Ms_cf29 : ((Rows.auditMeansUptoRow.pinned == Rows.auditMeansUptoRow.pinnedBy)) = true := by kernel_rfl
set_option maxHeartbeats 0 in
set_option maxRecDepth 100000 in
theorem Ms_cf30 : ((Rows.auditMeansUptoRow.veiled == (Tryz.f7.params.toList ++ Rows.auditMeansSpec.plain.varTypes Tryz.prog ++ Tryz.f7.resultTypes.toList).any (Tryz.prog.veiledRec ·))) = true := by kernel_rfl
set_option maxHeartbeats 0 in
set_option maxRecDepth 100000 in
theorem Ms_cf31 : (Rows.auditMeansUptoRow.veiledFits Tryz.prog Tryz.f7.params.toList (Tryz.f7.params.toList ++ Rows.auditMeansSpec.plain.varTypes Tryz.prog ++ Tryz.f7.resultTypes.toList)) = true := by kernel_rfl
set_option maxRecDepth 100000 in
theorem Ms_closed : joinedFacts Tryz.prog 7 Tryz.f7 Rows.auditMeansSpec Rows.auditMeansUptoRow = true := by
  unfold joinedFacts
  with_reducible refine Ms_band (Ms_band (Ms_band (Ms_band (Ms_band (Ms_band (Ms_band (Ms_band (Ms_band (Ms_band (Ms_band (Ms_band (Ms_band (Ms_band (Ms_band (Ms_band (Ms_band (Ms_band (Ms_band (Ms_band (Ms_band (Ms_band (Ms_band (Ms_band (Ms_band (Ms_band (Ms_band (Ms_band (Ms_band (Ms_band (Ms_band (Ms_cf0) Ms_cf1) Ms_cf2) Ms_cf3) Ms_cf4) Ms_cf5) Ms_cf6) Ms_cf7) Ms_cf8) Ms_cf9) Ms_cf10) Ms_cf11) Ms_cf12) Ms_cf13) Ms_cf14) Ms_cf15) Ms_cf16) Ms_cf17) Ms_cf18) Ms_cf19) Ms_cf20) Ms_cf21) Ms_cf22) Ms_cf23) Ms_cf24) Ms_cf25) Ms_cf26) Ms_cf27) ?_) Ms_cf29) Ms_cf30) Ms_cf31
  kernel_rfl
set_option maxRecDepth 100000 in
theorem Ms_fn : Tryz.prog.funcNamed Rows.auditMeansUptoRow.func = some 7 := by kernel_rfl
set_option maxRecDepth 100000 in
theorem Ms_inst : Tryz.f7.isInstance Tryz.prog Rows.auditMeansUptoRow.origin Rows.auditMeansUptoRow.targs := of_decide_eq_true (by kernel_rfl)
set_option maxRecDepth 100000 in
theorem Ms_wrap : Tryz.f7.isWrapper Tryz.prog Rows.auditMeansUptoRow.wrapper Rows.auditMeansUptoRow.mainSum := by
  unfold Func.isWrapper
  first | (rw [if_pos (by decide +kernel)]; kernel_rfl) | (rw [if_neg (by decide +kernel)]; exact ⟨rfl, rfl⟩)
end Go.Proofs.YtbppnihcbcdglaaGreat
