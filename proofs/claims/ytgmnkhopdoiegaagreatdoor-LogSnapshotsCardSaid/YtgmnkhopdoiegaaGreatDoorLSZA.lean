/- Closed facts of the row. Conditions: none. -/
import Derived.Test.YtgmnkhopdoiegaaGreatDoorRows
import Derived.JoinedOf
namespace Go.Proofs.YtgmnkhopdoiegaaGreatDoor
theorem cf1 : (Rows.logSnapshotsRow.wf (OpenSpec.ofChange Rows.logSnapshotsSpec)) = true := by kernel_rfl
theorem cf2 : (laidOutB Tryz.prog) = true := by kernel_rfl
theorem cf3 : (mapsRowed Tryz.prog) = true := by kernel_rfl
theorem cf4 : (Tryz.f3.params.all (Tryz.prog.readableRec ·)) = true := by kernel_rfl
theorem cf5 : (namedTie Tryz.prog Rows.logSnapshotsRow.named Rows.logSnapshotsSpec.vars) = true := by kernel_rfl
theorem cf6 : ((Rows.logSnapshotsRow.stops == [])) = true := by kernel_rfl
theorem cf7 : ((Tryz.prog.stops == [])) = true := by kernel_rfl
theorem cf8 : ((Rows.logSnapshotsRow.knobs == [])) = true := by kernel_rfl
theorem cf9 : ((Tryz.prog.stopKnobs == [])) = true := by kernel_rfl
theorem cf14 : ((Rows.logSnapshotsRow.maps == (Tryz.f3.params.toList ++ Rows.logSnapshotsSpec.plain.varTypes Tryz.prog).any (Tryz.prog.mapsRec ·))) = true := by kernel_rfl
theorem cf15 : ((Rows.logSnapshotsRow.ifaces == (Tryz.f3.params.toList ++ Rows.logSnapshotsSpec.plain.varTypes Tryz.prog).any (Tryz.prog.ifacesRec ·))) = true := by kernel_rfl
theorem cf16 : ((Rows.logSnapshotsRow.mapsOut == Tryz.prog.mapsAmong Tryz.f3.resultTypes.toList)) = true := by kernel_rfl
theorem cf17 : ((Rows.logSnapshotsRow.loops == (Tryz.f3.params.toList ++ Rows.logSnapshotsSpec.plain.varTypes Tryz.prog).any (Tryz.prog.loopsFrom ·))) = true := by kernel_rfl
theorem cf18 : ((Rows.logSnapshotsRow.wideKeys == (Tryz.f3.params.toList ++ Rows.logSnapshotsSpec.plain.varTypes Tryz.prog ++ Tryz.f3.resultTypes.toList).any (Tryz.prog.wideKeysFrom ·))) = true := by kernel_rfl
theorem cf19 : (Rows.logSnapshotsSpec.vars.all (Tryz.prog.varReadable ·)) = true := by kernel_rfl
theorem cf20 : (Tryz.f3.resultTypes.all (fun t => Tryz.prog.readableRec t && decide (t < Tryz.prog.types.size))) = true := by kernel_rfl
theorem cf21 : ((Rows.logSnapshotsRow.ifacesOut == Tryz.f3.resultTypes.toList.any (Tryz.prog.ifacesRec ·))) = true := by kernel_rfl
theorem cf22 : ((Rows.logSnapshotsRow.loopsOut == Tryz.f3.resultTypes.toList.any (Tryz.prog.loopsFrom ·))) = true := by kernel_rfl
theorem cf23 : ((Rows.logSnapshotsRow.plainKeys == Tryz.prog.plainKeys)) = true := by kernel_rfl
theorem cf24 : (Rows.logSnapshotsRow.shortTexts.isNone) = true := by kernel_rfl
theorem cf25 : (Tryz.prog.stopsHeard) = true := by kernel_rfl
theorem cf27 : ((Rows.logSnapshotsRow.lifted == Tryz.prog.liftsFinal)) = true := by kernel_rfl
theorem cf28 : ((Tryz.prog.make == some Rows.logSnapshotsRow.make)) = true := by kernel_rfl
theorem cf29 : ((Rows.logSnapshotsRow.kinds == (if Rows.logSnapshotsRow.domain.isEmpty then [] else Tryz.f3.params.toList.map fun t => match Tryz.prog.underlying t with | some (.int k) => some k | _ => none))) = true := by kernel_rfl
theorem cf30 : ((Rows.logSnapshotsRow.pinned == Rows.logSnapshotsRow.pinnedBy)) = true := by kernel_rfl
theorem cf31 : ((Rows.logSnapshotsRow.veiled == (Tryz.f3.params.toList ++ Rows.logSnapshotsSpec.plain.varTypes Tryz.prog ++ Tryz.f3.resultTypes.toList).any (Tryz.prog.veiledRec ·))) = true := by kernel_rfl
theorem cf32 : (Rows.logSnapshotsRow.veiledFits Tryz.prog Tryz.f3.params.toList (Tryz.f3.params.toList ++ Rows.logSnapshotsSpec.plain.varTypes Tryz.prog ++ Tryz.f3.resultTypes.toList)) = true := by kernel_rfl
end Go.Proofs.YtgmnkhopdoiegaaGreatDoor
