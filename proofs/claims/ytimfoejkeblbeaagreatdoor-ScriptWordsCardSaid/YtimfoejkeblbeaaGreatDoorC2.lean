/- A closed fact of the row or of its tie, by the kernel. -/
import Derived.Test.YtimfoejkeblbeaaGreatDoorRows
import Derived.SevenTiedAt
namespace Go.Proofs.YtimfoejkeblbeaaGreatDoor
open Go
theorem sw_looks : true = Tryz.prog.looks [] := by kernel_rfl
end Go.Proofs.YtimfoejkeblbeaaGreatDoor
