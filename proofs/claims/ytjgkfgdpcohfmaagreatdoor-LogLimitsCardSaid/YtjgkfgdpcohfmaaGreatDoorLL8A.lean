/- Closed facts of the row. Conditions: none. -/
import Derived.Test.YtjgkfgdpcohfmaaGreatDoorRows
import Derived.JoinedOf
namespace Go.Proofs.YtjgkfgdpcohfmaaGreatDoor
theorem cf1 : (Rows.logLimitsRow.wf (OpenSpec.ofChange Rows.logLimitsSpec)) = true := by kernel_rfl
theorem cf2 : (laidOutB Tryz.prog) = true := by kernel_rfl
theorem cf3 : (mapsRowed Tryz.prog) = true := by kernel_rfl
theorem cf4 : (Tryz.f3.params.all (Tryz.prog.readableRec ·)) = true := by kernel_rfl
theorem cf5 : (namedTie Tryz.prog Rows.logLimitsRow.named Rows.logLimitsSpec.vars) = true := by kernel_rfl
theorem cf6 : ((Rows.logLimitsRow.stops == [])) = true := by kernel_rfl
theorem cf7 : ((Tryz.prog.stops == [])) = true := by kernel_rfl
theorem cf8 : ((Rows.logLimitsRow.knobs == [])) = true := by kernel_rfl
theorem cf9 : ((Tryz.prog.stopKnobs == [])) = true := by kernel_rfl
theorem cf14 : ((Rows.logLimitsRow.maps == (Tryz.f3.params.toList ++ Rows.logLimitsSpec.plain.varTypes Tryz.prog).any (Tryz.prog.mapsRec ·))) = true := by kernel_rfl
theorem cf15 : ((Rows.logLimitsRow.ifaces == (Tryz.f3.params.toList ++ Rows.logLimitsSpec.plain.varTypes Tryz.prog).any (Tryz.prog.ifacesRec ·))) = true := by kernel_rfl
theorem cf16 : ((Rows.logLimitsRow.mapsOut == Tryz.prog.mapsAmong Tryz.f3.resultTypes.toList)) = true := by kernel_rfl
theorem cf17 : ((Rows.logLimitsRow.loops == (Tryz.f3.params.toList ++ Rows.logLimitsSpec.plain.varTypes Tryz.prog).any (Tryz.prog.loopsFrom ·))) = true := by kernel_rfl
theorem cf18 : ((Rows.logLimitsRow.wideKeys == (Tryz.f3.params.toList ++ Rows.logLimitsSpec.plain.varTypes Tryz.prog ++ Tryz.f3.resultTypes.toList).any (Tryz.prog.wideKeysFrom ·))) = true := by kernel_rfl
theorem cf19 : (Rows.logLimitsSpec.vars.all (Tryz.prog.varReadable ·)) = true := by kernel_rfl
theorem cf20 : (Tryz.f3.resultTypes.all (fun t => Tryz.prog.readableRec t && decide (t < Tryz.prog.types.size))) = true := by kernel_rfl
theorem cf21 : ((Rows.logLimitsRow.ifacesOut == Tryz.f3.resultTypes.toList.any (Tryz.prog.ifacesRec ·))) = true := by kernel_rfl
theorem cf22 : ((Rows.logLimitsRow.loopsOut == Tryz.f3.resultTypes.toList.any (Tryz.prog.loopsFrom ·))) = true := by kernel_rfl
theorem cf23 : ((Rows.logLimitsRow.plainKeys == Tryz.prog.plainKeys)) = true := by kernel_rfl
theorem cf24 : (Rows.logLimitsRow.shortTexts.isNone) = true := by kernel_rfl
theorem cf25 : (Tryz.prog.stopsHeard) = true := by kernel_rfl
theorem cf27 : ((Rows.logLimitsRow.lifted == Tryz.prog.liftsFinal)) = true := by kernel_rfl
theorem cf28 : ((Tryz.prog.make == some Rows.logLimitsRow.make)) = true := by kernel_rfl
theorem cf29 : ((Rows.logLimitsRow.kinds == (if Rows.logLimitsRow.domain.isEmpty then [] else Tryz.f3.params.toList.map fun t => match Tryz.prog.underlying t with | some (.int k) => some k | _ => none))) = true := by kernel_rfl
theorem cf30 : ((Rows.logLimitsRow.pinned == Rows.logLimitsRow.pinnedBy)) = true := by kernel_rfl
theorem cf31 : ((Rows.logLimitsRow.veiled == (Tryz.f3.params.toList ++ Rows.logLimitsSpec.plain.varTypes Tryz.prog ++ Tryz.f3.resultTypes.toList).any (Tryz.prog.veiledRec ·))) = true := by kernel_rfl
theorem cf32 : (Rows.logLimitsRow.veiledFits Tryz.prog Tryz.f3.params.toList (Tryz.f3.params.toList ++ Rows.logLimitsSpec.plain.varTypes Tryz.prog ++ Tryz.f3.resultTypes.toList)) = true := by kernel_rfl
end Go.Proofs.YtjgkfgdpcohfmaaGreatDoor
