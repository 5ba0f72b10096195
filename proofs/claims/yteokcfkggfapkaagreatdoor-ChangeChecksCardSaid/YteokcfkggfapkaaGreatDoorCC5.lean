/- Closed facts of the row. Conditions: none. -/
import Derived.Test.YteokcfkggfapkaaGreatDoorRows
import Derived.JoinedOf
namespace Go.Proofs.YteokcfkggfapkaaGreatDoor
theorem cf1 : (Rows.changeChecksRow.wf (OpenSpec.ofChange Rows.changeChecksSpec)) = true := by kernel_rfl
theorem cf2 : (laidOutB Tryz.prog) = true := by kernel_rfl
theorem cf3 : (mapsRowed Tryz.prog) = true := by kernel_rfl
theorem cf4 : (Tryz.f3.params.all (Tryz.prog.readableRec ·)) = true := by kernel_rfl
theorem cf5 : (namedTie Tryz.prog Rows.changeChecksRow.named Rows.changeChecksSpec.vars) = true := by kernel_rfl
theorem cf6 : ((Rows.changeChecksRow.stops == [])) = true := by kernel_rfl
theorem cf7 : ((Tryz.prog.stops == [])) = true := by kernel_rfl
theorem cf8 : ((Rows.changeChecksRow.knobs == [])) = true := by kernel_rfl
theorem cf9 : ((Tryz.prog.stopKnobs == [])) = true := by kernel_rfl
theorem cf14 : ((Rows.changeChecksRow.maps == (Tryz.f3.params.toList ++ Rows.changeChecksSpec.plain.varTypes Tryz.prog).any (Tryz.prog.mapsRec ·))) = true := by kernel_rfl
theorem cf15 : ((Rows.changeChecksRow.ifaces == (Tryz.f3.params.toList ++ Rows.changeChecksSpec.plain.varTypes Tryz.prog).any (Tryz.prog.ifacesRec ·))) = true := by kernel_rfl
theorem cf16 : ((Rows.changeChecksRow.mapsOut == Tryz.prog.mapsAmong Tryz.f3.resultTypes.toList)) = true := by kernel_rfl
theorem cf17 : ((Rows.changeChecksRow.loops == (Tryz.f3.params.toList ++ Rows.changeChecksSpec.plain.varTypes Tryz.prog).any (Tryz.prog.loopsFrom ·))) = true := by kernel_rfl
theorem cf18 : ((Rows.changeChecksRow.wideKeys == (Tryz.f3.params.toList ++ Rows.changeChecksSpec.plain.varTypes Tryz.prog ++ Tryz.f3.resultTypes.toList).any (Tryz.prog.wideKeysFrom ·))) = true := by kernel_rfl
theorem cf19 : (Rows.changeChecksSpec.vars.all (Tryz.prog.varReadable ·)) = true := by kernel_rfl
theorem cf20 : (Tryz.f3.resultTypes.all (fun t => Tryz.prog.readableRec t && decide (t < Tryz.prog.types.size))) = true := by kernel_rfl
theorem cf21 : ((Rows.changeChecksRow.ifacesOut == Tryz.f3.resultTypes.toList.any (Tryz.prog.ifacesRec ·))) = true := by kernel_rfl
theorem cf22 : ((Rows.changeChecksRow.loopsOut == Tryz.f3.resultTypes.toList.any (Tryz.prog.loopsFrom ·))) = true := by kernel_rfl
theorem cf23 : ((Rows.changeChecksRow.plainKeys == Tryz.prog.plainKeys)) = true := by kernel_rfl
theorem cf24 : (Rows.changeChecksRow.shortTexts.isNone) = true := by kernel_rfl
theorem cf25 : (Tryz.prog.stopsHeard) = true := by kernel_rfl
theorem cf27 : ((Rows.changeChecksRow.lifted == Tryz.prog.liftsFinal)) = true := by kernel_rfl
theorem cf28 : ((Tryz.prog.make == some Rows.changeChecksRow.make)) = true := by kernel_rfl
theorem cf29 : ((Rows.changeChecksRow.kinds == (if Rows.changeChecksRow.domain.isEmpty then [] else Tryz.f3.params.toList.map fun t => match Tryz.prog.underlying t with | some (.int k) => some k | _ => none))) = true := by kernel_rfl
theorem cf30 : ((Rows.changeChecksRow.pinned == Rows.changeChecksRow.pinnedBy)) = true := by kernel_rfl
theorem cf31 : ((Rows.changeChecksRow.veiled == (Tryz.f3.params.toList ++ Rows.changeChecksSpec.plain.varTypes Tryz.prog ++ Tryz.f3.resultTypes.toList).any (Tryz.prog.veiledRec ·))) = true := by kernel_rfl
theorem cf32 : (Rows.changeChecksRow.veiledFits Tryz.prog Tryz.f3.params.toList (Tryz.f3.params.toList ++ Rows.changeChecksSpec.plain.varTypes Tryz.prog ++ Tryz.f3.resultTypes.toList)) = true := by kernel_rfl
end Go.Proofs.YteokcfkggfapkaaGreatDoor
