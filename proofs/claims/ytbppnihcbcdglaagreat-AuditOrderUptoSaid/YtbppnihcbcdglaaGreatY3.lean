/- The closed facts of the row of treadlelaw20.AuditOrder, one by one. By cf.py. -/
import Derived.Test.YtbppnihcbcdglaaGreatRows
import Derived.WalkKit
import Derived.OpenShut
import Derived.JoinedOf
namespace Go.Proofs.YtbppnihcbcdglaaGreat
theorem Or_band {a b : Bool} (h : a = true) (k : b = true) : (a && b) = true := by rw [h, k]; rfl
set_option maxHeartbeats 0 in
set_option maxRecDepth 100000 in
theorem Or_cf0 : (Rows.auditOrderUptoRow.wf (OpenSpec.ofChange Rows.auditOrderSpec)) = true := by kernel_rfl
set_option maxHeartbeats 0 in
set_option maxRecDepth 100000 in
theorem Or_cf1 : (laidOutB Tryz.prog) = true := by kernel_rfl
set_option maxHeartbeats 0 in
set_option maxRecDepth 100000 in
theorem Or_cf2 : (mapsRowed Tryz.prog) = true := by kernel_rfl
set_option maxHeartbeats 0 in
set_option maxRecDepth 100000 in
theorem Or_cf3 : (Tryz.f6.params.all (Tryz.prog.readableRec ·)) = true := by kernel_rfl
set_option maxHeartbeats 0 in
set_option maxRecDepth 100000 in
theorem Or_cf4 : (namedTie Tryz.prog Rows.auditOrderUptoRow.named Rows.auditOrderSpec.vars) = true := by kernel_rfl
set_option maxHeartbeats 0 in
set_option maxRecDepth 100000 in
theorem Or_cf5 : ((Rows.auditOrderUptoRow.stops == [])) = true := by kernel_rfl
set_option maxHeartbeats 0 in
set_option maxRecDepth 100000 in
theorem Or_cf6 : ((Tryz.prog.stops == [])) = true := by kernel_rfl
set_option maxHeartbeats 0 in
set_option maxRecDepth 100000 in
theorem Or_cf7 : ((Rows.auditOrderUptoRow.knobs == [])) = true := by kernel_rfl
set_option maxHeartbeats 0 in
set_option maxRecDepth 100000 in
theorem Or_cf8 : ((Tryz.prog.stopKnobs == [])) = true := by kernel_rfl
set_option maxHeartbeats 0 in
set_option maxRecDepth 100000 in
theorem Or_cf9 : ((Rows.auditOrderUptoRow.inPlace == Tryz.prog.inPlace 6)) = true := by kernel_rfl
set_option maxHeartbeats 0 in
set_option maxRecDepth 100000 in
theorem Or_cf10 : ((Rows.auditOrderUptoRow.unfollowed == Tryz.prog.unfollowed 6)) = true := by kernel_rfl
set_option maxHeartbeats 0 in
set_option maxRecDepth 100000 in
theorem Or_cf11 : ((Rows.auditOrderUptoRow.recurses == Tryz.prog.recurses 6)) = true := by kernel_rfl
set_option maxHeartbeats 0 in
set_option maxRecDepth 100000 in
theorem Or_cf12 : ((Rows.auditOrderUptoRow.named == Tryz.prog.varsNamed 6)) = true := by kernel_rfl
set_option maxHeartbeats 0 in
set_option maxRecDepth 100000 in
theorem Or_cf13 : ((Rows.auditOrderUptoRow.maps == (Tryz.f6.params.toList ++ Rows.auditOrderSpec.plain.varTypes Tryz.prog).any (Tryz.prog.mapsRec ·))) = true := by kernel_rfl
set_option maxHeartbeats 0 in
set_option maxRecDepth 100000 in
theorem Or_cf14 : ((Rows.auditOrderUptoRow.ifaces == (Tryz.f6.params.toList ++ Rows.auditOrderSpec.plain.varTypes Tryz.prog).any (Tryz.prog.ifacesRec ·))) = true := by kernel_rfl
set_option maxHeartbeats 0 in
set_option maxRecDepth 100000 in
theorem Or_cf15 : ((Rows.auditOrderUptoRow.mapsOut == Tryz.prog.mapsAmong Tryz.f6.resultTypes.toList)) = true := by kernel_rfl
set_option maxHeartbeats 0 in
set_option maxRecDepth 100000 in
theorem Or_cf16 : ((Rows.auditOrderUptoRow.loops == (Tryz.f6.params.toList ++ Rows.auditOrderSpec.plain.varTypes Tryz.prog).any (Tryz.prog.loopsFrom ·))) = true := by kernel_rfl
set_option maxHeartbeats 0 in
set_option maxRecDepth 100000 in
theorem Or_cf17 : ((Rows.auditOrderUptoRow.wideKeys == (Tryz.f6.params.toList ++ Rows.auditOrderSpec.plain.varTypes Tryz.prog ++ Tryz.f6.resultTypes.toList).any (Tryz.prog.wideKeysFrom ·))) = true := by kernel_rfl
set_option maxHeartbeats 0 in
set_option maxRecDepth 100000 in
theorem Or_cf18 : (Rows.auditOrderSpec.vars.all (Tryz.prog.varReadable ·)) = true := by kernel_rfl
set_option maxHeartbeats 0 in
set_option maxRecDepth 100000 in
theorem Or_cf19 : (Tryz.f6.resultTypes.all (fun t => Tryz.prog.readableRec t && decide (t < Tryz.prog.types.size))) = true := by kernel_rfl
set_option maxHeartbeats 0 in
set_option maxRecDepth 100000 in
theorem Or_cf20 : ((Rows.auditOrderUptoRow.ifacesOut == Tryz.f6.resultTypes.toList.any (Tryz.prog.ifacesRec ·))) = true := by kernel_rfl
set_option maxHeartbeats 0 in
set_option maxRecDepth 100000 in
theorem Or_cf21 : ((Rows.auditOrderUptoRow.loopsOut == Tryz.f6.resultTypes.toList.any (Tryz.prog.loopsFrom ·))) = true := by kernel_rfl
set_option maxHeartbeats 0 in
set_option maxRecDepth 100000 in
theorem Or_cf22 : ((Rows.auditOrderUptoRow.plainKeys == Tryz.prog.plainKeys)) = true := by kernel_rfl
set_option maxHeartbeats 0 in
set_option maxRecDepth 100000 in
theorem Or_cf23 : (Rows.auditOrderUptoRow.shortTexts.isNone) = true := by kernel_rfl
set_option maxHeartbeats 0 in
set_option maxRecDepth 100000 in
theorem Or_cf24 : (Tryz.prog.stopsHeard) = true := by kernel_rfl
set_option maxHeartbeats 0 in
set_option maxRecDepth 100000 in
theorem Or_cf25 : (Tryz.prog.mayEnter) = true := by kernel_rfl
set_option maxHeartbeats 0 in
set_option maxRecDepth 100000 in
theorem Or_cf26 : ((Rows.auditOrderUptoRow.lifted == Tryz.prog.liftsFinal)) = true := by kernel_rfl
set_option maxHeartbeats 0 in
set_option maxRecDepth 100000 in
theorem Or_cf27 : ((Tryz.prog.make == some Rows.auditOrderUptoRow.make)) = true := by kernel_rfl
set_option maxHeartbeats 0 in
set_option maxRecDepth 100000 in
theorem Or_cf29 : ((Rows.auditOrderUptoRow.pinned == Rows.auditOrderUptoRow.pinnedBy)) = true := by kernel_rfl
set_option maxHeartbeats 0 in
set_option maxRecDepth 100000 in
theorem Or_cf30 : ((Rows.auditOrderUptoRow.veiled == (Tryz.f6.params.toList ++ Rows.auditOrderSpec.plain.varTypes Tryz.prog ++ Tryz.f6.resultTypes.toList).any (Tryz.prog.veiledRec ·))) = true := by kernel_rfl
set_option maxHeartbeats 0 in
set_option maxRecDepth 100000 in
theorem Or_cf31 : (Rows.auditOrderUptoRow.veiledFits Tryz.prog Tryz.f6.params.toList (Tryz.f6.params.toList ++ Rows.auditOrderSpec.plain.varTypes Tryz.prog ++ Tryz.f6.resultTypes.toList)) = true := by kernel_rfl
set_option maxRecDepth 100000 in
theorem Or_closed : joinedFacts Tryz.prog 6 Tryz.f6 Rows.auditOrderSpec Rows.auditOrderUptoRow = true := by
  unfold joinedFacts
  with_reducible refine Or_band (Or_band (Or_band (Or_band (Or_band (Or_band (Or_band (Or_band (Or_band (Or_band (Or_band (Or_band (Or_band (Or_band (Or_band (Or_band (Or_band (Or_band (Or_band (Or_band (Or_band (Or_band (Or_band (Or_band (Or_band (Or_band (Or_band (Or_band (Or_band (Or_band (Or_band (Or_cf0) Or_cf1) Or_cf2) Or_cf3) Or_cf4) Or_cf5) Or_cf6) Or_cf7) Or_cf8) Or_cf9) Or_cf10) Or_cf11) Or_cf12) Or_cf13) Or_cf14) Or_cf15) Or_cf16) Or_cf17) Or_cf18) Or_cf19) Or_cf20) Or_cf21) Or_cf22) Or_cf23) Or_cf24) Or_cf25) Or_cf26) Or_cf27) ?_) Or_cf29) Or_cf30) Or_cf31
  kernel_rfl
set_option maxRecDepth 100000 in
theorem Or_fn : Tryz.prog.funcNamed Rows.auditOrderUptoRow.func = some 6 := by kernel_rfl
set_option maxRecDepth 100000 in
theorem Or_inst : Tryz.f6.isInstance Tryz.prog Rows.auditOrderUptoRow.origin Rows.auditOrderUptoRow.targs := of_decide_eq_true (by kernel_rfl)
set_option maxRecDepth 100000 in
theorem Or_wrap : Tryz.f6.isWrapper Tryz.prog Rows.auditOrderUptoRow.wrapper Rows.auditOrderUptoRow.mainSum := by
  unfold Func.isWrapper
  first | (rw [if_pos (by decide +kernel)]; kernel_rfl) | (rw [if_neg (by decide +kernel)]; exact ⟨rfl, rfl⟩)
end Go.Proofs.YtbppnihcbcdglaaGreat
