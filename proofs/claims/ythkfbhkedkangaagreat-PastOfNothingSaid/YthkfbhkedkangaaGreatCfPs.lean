/- The closed facts of the row of treadlelaw21.PastOfNothing, one by one. By cf.py. -/
import Derived.Test.YthkfbhkedkangaaGreatRows
import Derived.WalkKit
import Derived.OpenShut
import Derived.JoinedOf
namespace Go.Proofs.YthkfbhkedkangaaGreat
theorem Ps_band {a b : Bool} (h : a = true) (k : b = true) : (a && b) = true := by rw [h, k]; rfl
set_option maxHeartbeats 0 in
set_option maxRecDepth 100000 in
theorem Ps_cf0 : (Rows.pastOfNothingRow.wf (OpenSpec.ofChange Rows.pastOfNothingSpec)) = true := by kernel_rfl
set_option maxHeartbeats 0 in
set_option maxRecDepth 100000 in
theorem Ps_cf1 : (laidOutB Tryz.prog) = true := by kernel_rfl
set_option maxHeartbeats 0 in
set_option maxRecDepth 100000 in
theorem Ps_cf2 : (mapsRowed Tryz.prog) = true := by kernel_rfl
set_option maxHeartbeats 0 in
set_option maxRecDepth 100000 in
theorem Ps_cf3 : (Tryz.f4.params.all (Tryz.prog.readableRec ·)) = true := by kernel_rfl
set_option maxHeartbeats 0 in
set_option maxRecDepth 100000 in
theorem Ps_cf4 : (namedTie Tryz.prog Rows.pastOfNothingRow.named Rows.pastOfNothingSpec.vars) = true := by kernel_rfl
set_option maxHeartbeats 0 in
set_option maxRecDepth 100000 in
theorem Ps_cf5 : ((Rows.pastOfNothingRow.stops == [])) = true := by kernel_rfl
set_option maxHeartbeats 0 in
set_option maxRecDepth 100000 in
theorem Ps_cf6 : ((Tryz.prog.stops == [])) = true := by kernel_rfl
set_option maxHeartbeats 0 in
set_option maxRecDepth 100000 in
theorem Ps_cf7 : ((Rows.pastOfNothingRow.knobs == [])) = true := by kernel_rfl
set_option maxHeartbeats 0 in
set_option maxRecDepth 100000 in
theorem Ps_cf8 : ((Tryz.prog.stopKnobs == [])) = true := by kernel_rfl
set_option maxHeartbeats 0 in
set_option maxRecDepth 100000 in
theorem Ps_cf9 : ((Rows.pastOfNothingRow.inPlace == Tryz.prog.inPlace 4)) = true := by kernel_rfl
set_option maxHeartbeats 0 in
set_option maxRecDepth 100000 in
theorem Ps_cf10 : ((Rows.pastOfNothingRow.unfollowed == Tryz.prog.unfollowed 4)) = true := by kernel_rfl
set_option maxHeartbeats 0 in
set_option maxRecDepth 100000 in
theorem Ps_cf11 : ((Rows.pastOfNothingRow.recurses == Tryz.prog.recurses 4)) = true := by kernel_rfl
set_option maxHeartbeats 0 in
set_option maxRecDepth 100000 in
theorem Ps_cf12 : ((Rows.pastOfNothingRow.named == Tryz.prog.varsNamed 4)) = true := by kernel_rfl
set_option maxHeartbeats 0 in
set_option maxRecDepth 100000 in
theorem Ps_cf13 : ((Rows.pastOfNothingRow.maps == (Tryz.f4.params.toList ++ Rows.pastOfNothingSpec.plain.varTypes Tryz.prog).any (Tryz.prog.mapsRec ·))) = true := by kernel_rfl
set_option maxHeartbeats 0 in
set_option maxRecDepth 100000 in
theorem Ps_cf14 : ((Rows.pastOfNothingRow.ifaces == (Tryz.f4.params.toList ++ Rows.pastOfNothingSpec.plain.varTypes Tryz.prog).any (Tryz.prog.ifacesRec ·))) = true := by kernel_rfl
set_option maxHeartbeats 0 in
set_option maxRecDepth 100000 in
theorem Ps_cf15 : ((Rows.pastOfNothingRow.mapsOut == Tryz.prog.mapsAmong Tryz.f4.resultTypes.toList)) = true := by kernel_rfl
set_option maxHeartbeats 0 in
set_option maxRecDepth 100000 in
theorem Ps_cf16 : ((Rows.pastOfNothingRow.loops == (Tryz.f4.params.toList ++ Rows.pastOfNothingSpec.plain.varTypes Tryz.prog).any (Tryz.prog.loopsFrom ·))) = true := by kernel_rfl
set_option maxHeartbeats 0 in
set_option maxRecDepth 100000 in
theorem Ps_cf17 : ((Rows.pastOfNothingRow.wideKeys == (Tryz.f4.params.toList ++ Rows.pastOfNothingSpec.plain.varTypes Tryz.prog ++ Tryz.f4.resultTypes.toList).any (Tryz.prog.wideKeysFrom ·))) = true := by kernel_rfl
set_option maxHeartbeats 0 in
set_option maxRecDepth 100000 in
theorem Ps_cf18 : (Rows.pastOfNothingSpec.vars.all (Tryz.prog.varReadable ·)) = true := by kernel_rfl
set_option maxHeartbeats 0 in
set_option maxRecDepth 100000 in
theorem Ps_cf19 : (Tryz.f4.resultTypes.all (fun t => Tryz.prog.readableRec t && decide (t < Tryz.prog.types.size))) = true := by kernel_rfl
set_option maxHeartbeats 0 in
set_option maxRecDepth 100000 in
theorem Ps_cf20 : ((Rows.pastOfNothingRow.ifacesOut == Tryz.f4.resultTypes.toList.any (Tryz.prog.ifacesRec ·))) = true := by kernel_rfl
set_option maxHeartbeats 0 in
set_option maxRecDepth 100000 in
theorem Ps_cf21 : ((Rows.pastOfNothingRow.loopsOut == Tryz.f4.resultTypes.toList.any (Tryz.prog.loopsFrom ·))) = true := by kernel_rfl
set_option maxHeartbeats 0 in
set_option maxRecDepth 100000 in
theorem Ps_cf22 : ((Rows.pastOfNothingRow.plainKeys == Tryz.prog.plainKeys)) = true := by kernel_rfl
set_option maxHeartbeats 0 in
set_option maxRecDepth 100000 in
theorem Ps_cf23 : (Rows.pastOfNothingRow.shortTexts.isNone) = true := by kernel_rfl
set_option maxHeartbeats 0 in
set_option maxRecDepth 100000 in
theorem Ps_cf24 : (Tryz.prog.stopsHeard) = true := by kernel_rfl
set_option maxHeartbeats 0 in
set_option maxRecDepth 100000 in
theorem Ps_cf25 : (Tryz.prog.mayEnter) = true := by kernel_rfl
set_option maxHeartbeats 0 in
set_option maxRecDepth 100000 in
theorem Ps_cf26 : ((Rows.pastOfNothingRow.lifted == Tryz.prog.liftsFinal)) = true := by kernel_rfl
set_option maxHeartbeats 0 in
set_option maxRecDepth 100000 in
theorem Ps_cf27 : ((Tryz.prog.make == some Rows.pastOfNothingRow.make)) = true := by kernel_rfl
set_option maxHeartbeats 0 in
set_option maxRecDepth 100000 in
theorem Ps_cf29 : ((Rows.pastOfNothingRow.pinned == Rows.pastOfNothingRow.pinnedBy)) = true := by kernel_rfl
set_option maxHeartbeats 0 in
set_option maxRecDepth 100000 in
theorem Ps_cf30 : ((Rows.pastOfNothingRow.veiled == (Tryz.f4.params.toList ++ Rows.pastOfNothingSpec.plain.varTypes Tryz.prog ++ Tryz.f4.resultTypes.toList).any (Tryz.prog.veiledRec ·))) = true := by kernel_rfl
set_option maxHeartbeats 0 in
set_option maxRecDepth 100000 in
theorem Ps_cf31 : (Rows.pastOfNothingRow.veiledFits Tryz.prog Tryz.f4.params.toList (Tryz.f4.params.toList ++ Rows.pastOfNothingSpec.plain.varTypes Tryz.prog ++ Tryz.f4.resultTypes.toList)) = true := by kernel_rfl
set_option maxRecDepth 100000 in
theorem Ps_closed : joinedFacts Tryz.prog 4 Tryz.f4 Rows.pastOfNothingSpec Rows.pastOfNothingRow = true := by
  unfold joinedFacts
  with_reducible refine Ps_band (Ps_band (Ps_band (Ps_band (Ps_band (Ps_band (Ps_band (Ps_band (Ps_band (Ps_band (Ps_band (Ps_band (Ps_band (Ps_band (Ps_band (Ps_band (Ps_band (Ps_band (Ps_band (Ps_band (Ps_band (Ps_band (Ps_band (Ps_band (Ps_band (Ps_band (Ps_band (Ps_band (Ps_band (Ps_band (Ps_band (Ps_cf0) Ps_cf1) Ps_cf2) Ps_cf3) Ps_cf4) Ps_cf5) Ps_cf6) Ps_cf7) Ps_cf8) Ps_cf9) Ps_cf10) Ps_cf11) Ps_cf12) Ps_cf13) Ps_cf14) Ps_cf15) Ps_cf16) Ps_cf17) Ps_cf18) Ps_cf19) Ps_cf20) Ps_cf21) Ps_cf22) Ps_cf23) Ps_cf24) Ps_cf25) Ps_cf26) Ps_cf27) ?_) Ps_cf29) Ps_cf30) Ps_cf31
  kernel_rfl
set_option maxRecDepth 100000 in
theorem Ps_fn : Tryz.prog.funcNamed Rows.pastOfNothingRow.func = some 4 := by kernel_rfl
set_option maxRecDepth 100000 in
theorem Ps_inst : Tryz.f4.isInstance Tryz.prog Rows.pastOfNothingRow.origin Rows.pastOfNothingRow.targs := of_decide_eq_true (by kernel_rfl)
set_option maxRecDepth 100000 in
theorem Ps_wrap : Tryz.f4.isWrapper Tryz.prog Rows.pastOfNothingRow.wrapper Rows.pastOfNothingRow.mainSum := by
  unfold Func.isWrapper
  first | (rw [if_pos (by decide +kernel)]; kernel_rfl) | (rw [if_neg (by decide +kernel)]; exact ⟨rfl, rfl⟩)
end Go.Proofs.YthkfbhkedkangaaGreat
