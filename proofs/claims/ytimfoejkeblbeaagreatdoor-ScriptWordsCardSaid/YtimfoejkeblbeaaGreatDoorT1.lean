/- A closed fact of the row or of its tie, by the kernel. -/
import Derived.Test.YtimfoejkeblbeaaGreatDoorRows
import Derived.LaidByTextLater
import Derived.SevenTiedAt
namespace Go.Proofs.YtimfoejkeblbeaaGreatDoor
open Go
theorem t1 : Tryz.prog.worded (varsWordLater true) = true := by kernel_rfl
end Go.Proofs.YtimfoejkeblbeaaGreatDoor
