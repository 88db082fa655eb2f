/- The closed facts of the row of treadlelaw17.ReviveOfNothing, one by one. By cf.py. -/
import Derived.Test.YthkfbhkedkangaaGreatRows
import Derived.WalkKit
import Derived.OpenShut
import Derived.JoinedOf
namespace Go.Proofs.YthkfbhkedkangaaGreat
theorem Rv_band {a b : Bool} (h : a = true) (k : b = true) : (a && b) = true := by rw [h, k]; rfl
set_option maxHeartbeats 0 in
set_option maxRecDepth 100000 in
theorem Rv_cf0 : (Rows.reviveOfNothingRow.wf (OpenSpec.ofChange Rows.reviveOfNothingSpec)) = true := by kernel_rfl
set_option maxHeartbeats 0 in
set_option maxRecDepth 100000 in
theorem Rv_cf1 : (laidOutB Tryz.prog) = true := by kernel_rfl
set_option maxHeartbeats 0 in
set_option maxRecDepth 100000 in
theorem Rv_cf2 : (mapsRowed Tryz.prog) = true := by kernel_rfl
set_option maxHeartbeats 0 in
set_option maxRecDepth 100000 in
theorem Rv_cf3 : (Tryz.f3.params.all (Tryz.prog.readableRec ·)) = true := by kernel_rfl
set_option maxHeartbeats 0 in
set_option maxRecDepth 100000 in
theorem Rv_cf4 : (namedTie Tryz.prog Rows.reviveOfNothingRow.named Rows.reviveOfNothingSpec.vars) = true := by kernel_rfl
set_option maxHeartbeats 0 in
set_option maxRecDepth 100000 in
theorem Rv_cf5 : ((Rows.reviveOfNothingRow.stops == [])) = true := by kernel_rfl
set_option maxHeartbeats 0 in
set_option maxRecDepth 100000 in
theorem Rv_cf6 : ((Tryz.prog.stops == [])) = true := by kernel_rfl
set_option maxHeartbeats 0 in
set_option maxRecDepth 100000 in
theorem Rv_cf7 : ((Rows.reviveOfNothingRow.knobs == [])) = true := by kernel_rfl
set_option maxHeartbeats 0 in
set_option maxRecDepth 100000 in
theorem Rv_cf8 : ((Tryz.prog.stopKnobs == [])) = true := by kernel_rfl
set_option maxHeartbeats 0 in
set_option maxRecDepth 100000 in
theorem Rv_cf9 : ((Rows.reviveOfNothingRow.inPlace == Tryz.prog.inPlace 3)) = true := by kernel_rfl
set_option maxHeartbeats 0 in
set_option maxRecDepth 100000 in
theorem Rv_cf10 : ((Rows.reviveOfNothingRow.unfollowed == Tryz.prog.unfollowed 3)) = true := by kernel_rfl
set_option maxHeartbeats 0 in
set_option maxRecDepth 100000 in
theorem Rv_cf11 : ((Rows.reviveOfNothingRow.recurses == Tryz.prog.recurses 3)) = true := by kernel_rfl
set_option maxHeartbeats 0 in
set_option maxRecDepth 100000 in
theorem Rv_cf12 : ((Rows.reviveOfNothingRow.named == Tryz.prog.varsNamed 3)) = true := by kernel_rfl
set_option maxHeartbeats 0 in
set_option maxRecDepth 100000 in
theorem Rv_cf13 : ((Rows.reviveOfNothingRow.maps == (Tryz.f3.params.toList ++ Rows.reviveOfNothingSpec.plain.varTypes Tryz.prog).any (Tryz.prog.mapsRec ·))) = true := by kernel_rfl
set_option maxHeartbeats 0 in
set_option maxRecDepth 100000 in
theorem Rv_cf14 : ((Rows.reviveOfNothingRow.ifaces == (Tryz.f3.params.toList ++ Rows.reviveOfNothingSpec.plain.varTypes Tryz.prog).any (Tryz.prog.ifacesRec ·))) = true := by kernel_rfl
set_option maxHeartbeats 0 in
set_option maxRecDepth 100000 in
theorem Rv_cf15 : ((Rows.reviveOfNothingRow.mapsOut == Tryz.prog.mapsAmong Tryz.f3.resultTypes.toList)) = true := by kernel_rfl
set_option maxHeartbeats 0 in
set_option maxRecDepth 100000 in
theorem Rv_cf16 : ((Rows.reviveOfNothingRow.loops == (Tryz.f3.params.toList ++ Rows.reviveOfNothingSpec.plain.varTypes Tryz.prog).any (Tryz.prog.loopsFrom ·))) = true := by kernel_rfl
set_option maxHeartbeats 0 in
set_option maxRecDepth 100000 in
theorem Rv_cf17 : ((Rows.reviveOfNothingRow.wideKeys == (Tryz.f3.params.toList ++ Rows.reviveOfNothingSpec.plain.varTypes Tryz.prog ++ Tryz.f3.resultTypes.toList).any (Tryz.prog.wideKeysFrom ·))) = true := by kernel_rfl
set_option maxHeartbeats 0 in
set_option maxRecDepth 100000 in
theorem Rv_cf18 : (Rows.reviveOfNothingSpec.vars.all (Tryz.prog.varReadable ·)) = true := by kernel_rfl
set_option maxHeartbeats 0 in
set_option maxRecDepth 100000 in
theorem Rv_cf19 : (Tryz.f3.resultTypes.all (fun t => Tryz.prog.readableRec t && decide (t < Tryz.prog.types.size))) = true := by kernel_rfl
set_option maxHeartbeats 0 in
set_option maxRecDepth 100000 in
theorem Rv_cf20 : ((Rows.reviveOfNothingRow.ifacesOut == Tryz.f3.resultTypes.toList.any (Tryz.prog.ifacesRec ·))) = true := by kernel_rfl
set_option maxHeartbeats 0 in
set_option maxRecDepth 100000 in
theorem Rv_cf21 : ((Rows.reviveOfNothingRow.loopsOut == Tryz.f3.resultTypes.toList.any (Tryz.prog.loopsFrom ·))) = true := by kernel_rfl
set_option maxHeartbeats 0 in
set_option maxRecDepth 100000 in
theorem Rv_cf22 : ((Rows.reviveOfNothingRow.plainKeys == Tryz.prog.plainKeys)) = true := by kernel_rfl
set_option maxHeartbeats 0 in
set_option maxRecDepth 100000 in
theorem Rv_cf23 : (Rows.reviveOfNothingRow.shortTexts.isNone) = true := by kernel_rfl
set_option maxHeartbeats 0 in
set_option maxRecDepth 100000 in
theorem Rv_cf24 : (Tryz.prog.stopsHeard) = true := by kernel_rfl
set_option maxHeartbeats 0 in
set_option maxRecDepth 100000 in
theorem Rv_cf25 : (Tryz.prog.mayEnter) = true := by kernel_rfl
set_option maxHeartbeats 0 in
set_option maxRecDepth 100000 in
theorem Rv_cf26 : ((Rows.reviveOfNothingRow.lifted == Tryz.prog.liftsFinal)) = true := by kernel_rfl
set_option maxHeartbeats 0 in
set_option maxRecDepth 100000 in
theorem Rv_cf27 : ((Tryz.prog.make == some Rows.reviveOfNothingRow.make)) = true := by kernel_rfl
set_option maxHeartbeats 0 in
set_option maxRecDepth 100000 in
theorem Rv_cf29 : ((Rows.reviveOfNothingRow.pinned == Rows.reviveOfNothingRow.pinnedBy)) = true := by kernel_rfl
set_option maxHeartbeats 0 in
set_option maxRecDepth 100000 in
theorem Rv_cf30 : ((Rows.reviveOfNothingRow.veiled == (Tryz.f3.params.toList ++ Rows.reviveOfNothingSpec.plain.varTypes Tryz.prog ++ Tryz.f3.resultTypes.toList).any (Tryz.prog.veiledRec ·))) = true := by kernel_rfl
set_option maxHeartbeats 0 in
set_option maxRecDepth 100000 in
theorem Rv_cf31 : (Rows.reviveOfNothingRow.veiledFits Tryz.prog Tryz.f3.params.toList (Tryz.f3.params.toList ++ Rows.reviveOfNothingSpec.plain.varTypes Tryz.prog ++ Tryz.f3.resultTypes.toList)) = true := by kernel_rfl
set_option maxRecDepth 100000 in
theorem Rv_closed : joinedFacts Tryz.prog 3 Tryz.f3 Rows.reviveOfNothingSpec Rows.reviveOfNothingRow = true := by
  unfold joinedFacts
  with_reducible refine Rv_band (Rv_band (Rv_band (Rv_band (Rv_band (Rv_band (Rv_band (Rv_band (Rv_band (Rv_band (Rv_band (Rv_band (Rv_band (Rv_band (Rv_band (Rv_band (Rv_band (Rv_band (Rv_band (Rv_band (Rv_band (Rv_band (Rv_band (Rv_band (Rv_band (Rv_band (Rv_band (Rv_band (Rv_band (Rv_band (Rv_band (Rv_cf0) Rv_cf1) Rv_cf2) Rv_cf3) Rv_cf4) Rv_cf5) Rv_cf6) Rv_cf7) Rv_cf8) Rv_cf9) Rv_cf10) Rv_cf11) Rv_cf12) Rv_cf13) Rv_cf14) Rv_cf15) Rv_cf16) Rv_cf17) Rv_cf18) Rv_cf19) Rv_cf20) Rv_cf21) Rv_cf22) Rv_cf23) Rv_cf24) Rv_cf25) Rv_cf26) Rv_cf27) ?_) Rv_cf29) Rv_cf30) Rv_cf31
  kernel_rfl
set_option maxRecDepth 100000 in
theorem Rv_fn : Tryz.prog.funcNamed Rows.reviveOfNothingRow.func = some 3 := by kernel_rfl
set_option maxRecDepth 100000 in
theorem Rv_inst : Tryz.f3.isInstance Tryz.prog Rows.reviveOfNothingRow.origin Rows.reviveOfNothingRow.targs := of_decide_eq_true (by kernel_rfl)
set_option maxRecDepth 100000 in
theorem Rv_wrap : Tryz.f3.isWrapper Tryz.prog Rows.reviveOfNothingRow.wrapper Rows.reviveOfNothingRow.mainSum := by
  unfold Func.isWrapper
  first | (rw [if_pos (by decide +kernel)]; kernel_rfl) | (rw [if_neg (by decide +kernel)]; exact ⟨rfl, rfl⟩)
end Go.Proofs.YthkfbhkedkangaaGreat
