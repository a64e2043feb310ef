/- A closed fact of the row or of its tie, by the kernel. -/
import Derived.Test.YtimfoejkeblbeaaGreatDoorRows
import Derived.Deep.DeepHandedRow
import Derived.ProofKit
import Derived.SizedLaws
namespace Go.Proofs.YtimfoejkeblbeaaGreatDoor
open Go Go.ChangeShapes Go.WideShapes Go.ChangeAt Go.RowKit
theorem sw_named : Tryz.pinned.checked.prog.funcNamed Rows.scriptWordsRow.func = some 3 := by kernel_rfl
theorem sw_inst : Tryz.f3.isInstance Tryz.pinned.checked.prog Rows.scriptWordsRow.origin Rows.scriptWordsRow.targs := of_decide_eq_true (by kernel_rfl)
theorem sw_wrap : Tryz.f3.isWrapper Tryz.pinned.checked.prog Rows.scriptWordsRow.wrapper Rows.scriptWordsRow.mainSum := by unfold Func.isWrapper; rw [if_neg (of_decide_eq_false (by kernel_rfl))]; exact ⟨rfl, rfl⟩
end Go.Proofs.YtimfoejkeblbeaaGreatDoor
