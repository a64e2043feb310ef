/- A closed fact of the row or of its tie, by the kernel. -/
import Derived.Test.YtimfoejkeblbeaaGreatDoorRows
import Derived.SevenTiedAt
import Derived.Test.YtimfoejkeblbeaaGreatDoorC1
namespace Go.Proofs.YtimfoejkeblbeaaGreatDoor
open Go
theorem sw_nogo : Tryz.prog.funcs.toList.any Func.goes = false := by kernel_rfl
theorem no_goes {P : Program} (h : P.funcs.toList.any Func.goes = false) (f : FuncId) : P.goes f = false := by
  have h2 : P.funcs.any Func.goes = false := by rw [← Array.any_toList]; exact h
  unfold Program.goes
  rw [h2, Bool.and_false, Bool.or_false, List.any_eq_false]
  intro g _ hg
  rw [Option.any_eq_true_iff_get] at hg
  obtain ⟨hs, hg⟩ := hg
  have hm : (P.funcs[g]?).get hs ∈ P.funcs.toList := by
    have : P.funcs[g]? = some ((P.funcs[g]?).get hs) := (Option.some_get hs).symm
    have := Array.mem_of_getElem? this
    exact Array.mem_toList_iff.2 this
  exact absurd hg (List.any_eq_false.1 h _ hm)
theorem goes_of {P : Program} {c : OpenClaim} {f : FuncId} (hs : c.start = .entering) (hf : P.funcNamed c.func = some f) (h : P.funcs.toList.any Func.goes = false) : false = c.goesBy P := by
  unfold OpenClaim.goesBy Program.goesAt Program.goesFrom
  rw [hs, hf]
  simp [no_goes h f]
theorem sw_goes : false = Rows.scriptWordsRow.goesBy Tryz.prog := goes_of rfl sw_name3 sw_nogo
end Go.Proofs.YtimfoejkeblbeaaGreatDoor
