/- Closed facts of the row. Conditions: none. -/
import Derived.Test.YtnllgabplfojaaaGreatDoorRows
import Derived.JoinedOf
namespace Go.Proofs.YtnllgabplfojaaaGreatDoor
theorem cf1 : (Rows.assureCoversRow.wf (OpenSpec.ofChange Rows.assureCoversSpec)) = true := by kernel_rfl
theorem cf2 : (laidOutB Tryz.prog) = true := by kernel_rfl
theorem cf3 : (mapsRowed Tryz.prog) = true := by kernel_rfl
theorem cf4 : (Tryz.f3.params.all (Tryz.prog.readableRec ·)) = true := by kernel_rfl
theorem cf5 : (namedTie Tryz.prog Rows.assureCoversRow.named Rows.assureCoversSpec.vars) = true := by kernel_rfl
theorem cf6 : ((Rows.assureCoversRow.stops == [])) = true := by kernel_rfl
theorem cf7 : ((Tryz.prog.stops == [])) = true := by kernel_rfl
theorem cf8 : ((Rows.assureCoversRow.knobs == [])) = true := by kernel_rfl
theorem cf9 : ((Tryz.prog.stopKnobs == [])) = true := by kernel_rfl
theorem cf14 : ((Rows.assureCoversRow.maps == (Tryz.f3.params.toList ++ Rows.assureCoversSpec.plain.varTypes Tryz.prog).any (Tryz.prog.mapsRec ·))) = true := by kernel_rfl
theorem cf15 : ((Rows.assureCoversRow.ifaces == (Tryz.f3.params.toList ++ Rows.assureCoversSpec.plain.varTypes Tryz.prog).any (Tryz.prog.ifacesRec ·))) = true := by kernel_rfl
theorem cf16 : ((Rows.assureCoversRow.mapsOut == Tryz.prog.mapsAmong Tryz.f3.resultTypes.toList)) = true := by kernel_rfl
theorem cf17 : ((Rows.assureCoversRow.loops == (Tryz.f3.params.toList ++ Rows.assureCoversSpec.plain.varTypes Tryz.prog).any (Tryz.prog.loopsFrom ·))) = true := by kernel_rfl
theorem cf18 : ((Rows.assureCoversRow.wideKeys == (Tryz.f3.params.toList ++ Rows.assureCoversSpec.plain.varTypes Tryz.prog ++ Tryz.f3.resultTypes.toList).any (Tryz.prog.wideKeysFrom ·))) = true := by kernel_rfl
theorem cf19 : (Rows.assureCoversSpec.vars.all (Tryz.prog.varReadable ·)) = true := by kernel_rfl
theorem cf20 : (Tryz.f3.resultTypes.all (fun t => Tryz.prog.readableRec t && decide (t < Tryz.prog.types.size))) = true := by kernel_rfl
theorem cf21 : ((Rows.assureCoversRow.ifacesOut == Tryz.f3.resultTypes.toList.any (Tryz.prog.ifacesRec ·))) = true := by kernel_rfl
theorem cf22 : ((Rows.assureCoversRow.loopsOut == Tryz.f3.resultTypes.toList.any (Tryz.prog.loopsFrom ·))) = true := by kernel_rfl
theorem cf23 : ((Rows.assureCoversRow.plainKeys == Tryz.prog.plainKeys)) = true := by kernel_rfl
theorem cf24 : (Rows.assureCoversRow.shortTexts.isNone) = true := by kernel_rfl
theorem cf25 : (Tryz.prog.stopsHeard) = true := by kernel_rfl
theorem cf27 : ((Rows.assureCoversRow.lifted == Tryz.prog.liftsFinal)) = true := by kernel_rfl
theorem cf28 : ((Tryz.prog.make == some Rows.assureCoversRow.make)) = true := by kernel_rfl
theorem cf29 : ((Rows.assureCoversRow.kinds == (if Rows.assureCoversRow.domain.isEmpty then [] else Tryz.f3.params.toList.map fun t => match Tryz.prog.underlying t with | some (.int k) => some k | _ => none))) = true := by kernel_rfl
theorem cf30 : ((Rows.assureCoversRow.pinned == Rows.assureCoversRow.pinnedBy)) = true := by kernel_rfl
theorem cf31 : ((Rows.assureCoversRow.veiled == (Tryz.f3.params.toList ++ Rows.assureCoversSpec.plain.varTypes Tryz.prog ++ Tryz.f3.resultTypes.toList).any (Tryz.prog.veiledRec ·))) = true := by kernel_rfl
theorem cf32 : (Rows.assureCoversRow.veiledFits Tryz.prog Tryz.f3.params.toList (Tryz.f3.params.toList ++ Rows.assureCoversSpec.plain.varTypes Tryz.prog ++ Tryz.f3.resultTypes.toList)) = true := by kernel_rfl
end Go.Proofs.YtnllgabplfojaaaGreatDoor
