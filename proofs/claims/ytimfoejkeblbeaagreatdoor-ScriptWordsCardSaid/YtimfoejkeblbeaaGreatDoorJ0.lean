/- A closed fact of the row or of its tie, by the kernel. -/
import Derived.Test.YtimfoejkeblbeaaGreatDoorRows
import Derived.JoinedOf
namespace Go.Proofs.YtimfoejkeblbeaaGreatDoor
open Go
noncomputable abbrev JS : ChangeSpec := (OpenSpec.ofChange Rows.scriptWordsSpec).bare
end Go.Proofs.YtimfoejkeblbeaaGreatDoor
