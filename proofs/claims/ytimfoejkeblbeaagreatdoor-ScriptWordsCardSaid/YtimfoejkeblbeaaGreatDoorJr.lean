/- A closed fact of the row or of its tie, by the kernel. -/
import Derived.Test.YtimfoejkeblbeaaGreatDoorRows
import Derived.JoinedOf
import Derived.Test.YtimfoejkeblbeaaGreatDoorJ0
namespace Go.Proofs.YtimfoejkeblbeaaGreatDoor
open Go
theorem jf0 : (Rows.scriptWordsRow.wf (OpenSpec.ofChange JS)) = true := by kernel_rfl
theorem jf2 : (mapsRowed Tryz.prog) = true := by kernel_rfl
theorem jf3 : (Tryz.f3.params.all (Tryz.prog.readableRec ·)) = true := by kernel_rfl
theorem jf4 : (namedTie Tryz.prog Rows.scriptWordsRow.named JS.vars) = true := by kernel_rfl
theorem jf5 : ((Rows.scriptWordsRow.stops == [])) = true := by kernel_rfl
theorem jf6 : ((Tryz.prog.stops == [])) = true := by kernel_rfl
theorem jf7 : ((Rows.scriptWordsRow.knobs == [])) = true := by kernel_rfl
theorem jf8 : ((Tryz.prog.stopKnobs == [])) = true := by kernel_rfl
theorem jf13 : ((Rows.scriptWordsRow.maps == (Tryz.f3.params.toList ++ JS.plain.varTypes Tryz.prog).any (Tryz.prog.mapsRec ·))) = true := by kernel_rfl
theorem jf14 : ((Rows.scriptWordsRow.ifaces == (Tryz.f3.params.toList ++ JS.plain.varTypes Tryz.prog).any (Tryz.prog.ifacesRec ·))) = true := by kernel_rfl
theorem jf15 : ((Rows.scriptWordsRow.mapsOut == Tryz.prog.mapsAmong Tryz.f3.resultTypes.toList)) = true := by kernel_rfl
theorem jf16 : ((Rows.scriptWordsRow.loops == (Tryz.f3.params.toList ++ JS.plain.varTypes Tryz.prog).any (Tryz.prog.loopsFrom ·))) = true := by kernel_rfl
theorem jf17 : ((Rows.scriptWordsRow.wideKeys == (Tryz.f3.params.toList ++ JS.plain.varTypes Tryz.prog ++ Tryz.f3.resultTypes.toList).any (Tryz.prog.wideKeysFrom ·))) = true := by kernel_rfl
theorem jf18 : (JS.vars.all (Tryz.prog.varReadable ·)) = true := by kernel_rfl
theorem jf19 : (Tryz.f3.resultTypes.all (fun t => Tryz.prog.readableRec t && decide (t < Tryz.prog.types.size))) = true := by kernel_rfl
theorem jf20 : ((Rows.scriptWordsRow.ifacesOut == Tryz.f3.resultTypes.toList.any (Tryz.prog.ifacesRec ·))) = true := by kernel_rfl
theorem jf21 : ((Rows.scriptWordsRow.loopsOut == Tryz.f3.resultTypes.toList.any (Tryz.prog.loopsFrom ·))) = true := by kernel_rfl
theorem jf22 : ((Rows.scriptWordsRow.plainKeys == Tryz.prog.plainKeys)) = true := by kernel_rfl
theorem jf23 : (Rows.scriptWordsRow.shortTexts.isNone) = true := by kernel_rfl
theorem jf24 : (Tryz.prog.stopsHeard) = true := by kernel_rfl
theorem jf25 : (Tryz.prog.mayEnter) = true := by kernel_rfl
theorem jf26 : ((Rows.scriptWordsRow.lifted == Tryz.prog.liftsFinal)) = true := by kernel_rfl
theorem jf27 : ((Tryz.prog.make == some Rows.scriptWordsRow.make)) = true := by kernel_rfl
theorem jf28 : ((Rows.scriptWordsRow.kinds == (if Rows.scriptWordsRow.domain.isEmpty then [] else Tryz.f3.params.toList.map fun t => match Tryz.prog.underlying t with | some (.int k) => some k | _ => none))) = true := by kernel_rfl
theorem jf29 : ((Rows.scriptWordsRow.pinned == Rows.scriptWordsRow.pinnedBy)) = true := by kernel_rfl
theorem jf30 : ((Rows.scriptWordsRow.veiled == (Tryz.f3.params.toList ++ JS.plain.varTypes Tryz.prog ++ Tryz.f3.resultTypes.toList).any (Tryz.prog.veiledRec ·))) = true := by kernel_rfl
theorem jf31 : (Rows.scriptWordsRow.veiledFits Tryz.prog Tryz.f3.params.toList (Tryz.f3.params.toList ++ JS.plain.varTypes Tryz.prog ++ Tryz.f3.resultTypes.toList)) = true := by kernel_rfl
end Go.Proofs.YtimfoejkeblbeaaGreatDoor
