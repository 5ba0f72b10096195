/- Closed facts of the row. Conditions: none. -/
import Derived.Test.YthhjhddekambcaaGreatDoorRows
import Derived.JoinedOf
namespace Go.Proofs.YthhjhddekambcaaGreatDoor
theorem cf1 : (Rows.auditEqualRow.wf (OpenSpec.ofChange Rows.auditEqualSpec)) = true := by kernel_rfl
theorem cf2 : (laidOutB Tryz.prog) = true := by kernel_rfl
theorem cf3 : (mapsRowed Tryz.prog) = true := by kernel_rfl
theorem cf4 : (Tryz.f3.params.all (Tryz.prog.readableRec ·)) = true := by kernel_rfl
theorem cf5 : (namedTie Tryz.prog Rows.auditEqualRow.named Rows.auditEqualSpec.vars) = true := by kernel_rfl
theorem cf6 : ((Rows.auditEqualRow.stops == [])) = true := by kernel_rfl
theorem cf7 : ((Tryz.prog.stops == [])) = true := by kernel_rfl
theorem cf8 : ((Rows.auditEqualRow.knobs == [])) = true := by kernel_rfl
theorem cf9 : ((Tryz.prog.stopKnobs == [])) = true := by kernel_rfl
theorem cf14 : ((Rows.auditEqualRow.maps == (Tryz.f3.params.toList ++ Rows.auditEqualSpec.plain.varTypes Tryz.prog).any (Tryz.prog.mapsRec ·))) = true := by kernel_rfl
theorem cf15 : ((Rows.auditEqualRow.ifaces == (Tryz.f3.params.toList ++ Rows.auditEqualSpec.plain.varTypes Tryz.prog).any (Tryz.prog.ifacesRec ·))) = true := by kernel_rfl
theorem cf16 : ((Rows.auditEqualRow.mapsOut == Tryz.prog.mapsAmong Tryz.f3.resultTypes.toList)) = true := by kernel_rfl
theorem cf17 : ((Rows.auditEqualRow.loops == (Tryz.f3.params.toList ++ Rows.auditEqualSpec.plain.varTypes Tryz.prog).any (Tryz.prog.loopsFrom ·))) = true := by kernel_rfl
theorem cf18 : ((Rows.auditEqualRow.wideKeys == (Tryz.f3.params.toList ++ Rows.auditEqualSpec.plain.varTypes Tryz.prog ++ Tryz.f3.resultTypes.toList).any (Tryz.prog.wideKeysFrom ·))) = true := by kernel_rfl
theorem cf19 : (Rows.auditEqualSpec.vars.all (Tryz.prog.varReadable ·)) = true := by kernel_rfl
theorem cf20 : (Tryz.f3.resultTypes.all (fun t => Tryz.prog.readableRec t && decide (t < Tryz.prog.types.size))) = true := by kernel_rfl
theorem cf21 : ((Rows.auditEqualRow.ifacesOut == Tryz.f3.resultTypes.toList.any (Tryz.prog.ifacesRec ·))) = true := by kernel_rfl
theorem cf22 : ((Rows.auditEqualRow.loopsOut == Tryz.f3.resultTypes.toList.any (Tryz.prog.loopsFrom ·))) = true := by kernel_rfl
theorem cf23 : ((Rows.auditEqualRow.plainKeys == Tryz.prog.plainKeys)) = true := by kernel_rfl
theorem cf24 : (Rows.auditEqualRow.shortTexts.isNone) = true := by kernel_rfl
theorem cf25 : (Tryz.prog.stopsHeard) = true := by kernel_rfl
theorem cf27 : ((Rows.auditEqualRow.lifted == Tryz.prog.liftsFinal)) = true := by kernel_rfl
theorem cf28 : ((Tryz.prog.make == some Rows.auditEqualRow.make)) = true := by kernel_rfl
theorem cf29 : ((Rows.auditEqualRow.kinds == (if Rows.auditEqualRow.domain.isEmpty then [] else Tryz.f3.params.toList.map fun t => match Tryz.prog.underlying t with | some (.int k) => some k | _ => none))) = true := by kernel_rfl
theorem cf30 : ((Rows.auditEqualRow.pinned == Rows.auditEqualRow.pinnedBy)) = true := by kernel_rfl
theorem cf31 : ((Rows.auditEqualRow.veiled == (Tryz.f3.params.toList ++ Rows.auditEqualSpec.plain.varTypes Tryz.prog ++ Tryz.f3.resultTypes.toList).any (Tryz.prog.veiledRec ·))) = true := by kernel_rfl
theorem cf32 : (Rows.auditEqualRow.veiledFits Tryz.prog Tryz.f3.params.toList (Tryz.f3.params.toList ++ Rows.auditEqualSpec.plain.varTypes Tryz.prog ++ Tryz.f3.resultTypes.toList)) = true := by kernel_rfl
end Go.Proofs.YthhjhddekambcaaGreatDoor
