/- A closed fact of the row or of its tie, by the kernel. -/
import Derived.Test.YtimfoejkeblbeaaGreatDoorRows
import Derived.SevenTiedAt
namespace Go.Proofs.YtimfoejkeblbeaaGreatDoor
open Go
theorem sw_name3 : Tryz.prog.funcNamed "stemma/stemmalaw24.ScriptWords" = some 3 := by kernel_rfl
theorem sw_stand : Tryz.prog.wantsStandIn 9 = false := by kernel_rfl
theorem sw_main : Tryz.prog.mainIs = some (true, "5f9bdd42fa139dd589685cb71096a4a376e461e936ee637e34dc7c84f6d2b28c".toList) := by kernel_rfl
theorem sw_wft : Rows.scriptWordsRow.wfByText (OpenSpec.ofChange Rows.scriptWordsSpec) = true := by kernel_rfl
end Go.Proofs.YtimfoejkeblbeaaGreatDoor
