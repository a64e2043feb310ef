/- A closed fact of the row or of its tie, by the kernel. -/
import Derived.Test.YtimfoejkeblbeaaGreatDoorRows
import Derived.JoinedOf
import Derived.Test.YtimfoejkeblbeaaGreatDoorJ0
namespace Go.Proofs.YtimfoejkeblbeaaGreatDoor
open Go
theorem jf12 : ((Rows.scriptWordsRow.named == Tryz.prog.varsNamed 3)) = true := by kernel_rfl
end Go.Proofs.YtimfoejkeblbeaaGreatDoor
