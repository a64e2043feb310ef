/- A closed fact of the row or of its tie, by the kernel. -/
import Derived.Test.YtimfoejkeblbeaaGreatDoorRows
import Derived.JoinedOf
import Derived.Test.YtimfoejkeblbeaaGreatDoorJ0
namespace Go.Proofs.YtimfoejkeblbeaaGreatDoor
open Go
theorem lo_size : Tryz.prog.types.size = 756 := by kernel_rfl
theorem lo_0 : ((List.range' 0 63).all (rowFine Tryz.prog)) = true := by kernel_rfl
theorem lo_1 : ((List.range' 63 63).all (rowFine Tryz.prog)) = true := by kernel_rfl
theorem lo_2 : ((List.range' 126 63).all (rowFine Tryz.prog)) = true := by kernel_rfl
theorem lo_3 : ((List.range' 189 63).all (rowFine Tryz.prog)) = true := by kernel_rfl
theorem lo_4 : ((List.range' 252 63).all (rowFine Tryz.prog)) = true := by kernel_rfl
theorem lo_5 : ((List.range' 315 63).all (rowFine Tryz.prog)) = true := by kernel_rfl
theorem lo_6 : ((List.range' 378 63).all (rowFine Tryz.prog)) = true := by kernel_rfl
theorem lo_7 : ((List.range' 441 63).all (rowFine Tryz.prog)) = true := by kernel_rfl
theorem lo_8 : ((List.range' 504 63).all (rowFine Tryz.prog)) = true := by kernel_rfl
theorem lo_9 : ((List.range' 567 63).all (rowFine Tryz.prog)) = true := by kernel_rfl
theorem lo_10 : ((List.range' 630 63).all (rowFine Tryz.prog)) = true := by kernel_rfl
theorem lo_11 : ((List.range' 693 63).all (rowFine Tryz.prog)) = true := by kernel_rfl
theorem lo_glob : (Tryz.prog.globals.toList.all (fun g => decide (g.type < 756))) = true := by kernel_rfl
theorem lo_fun : (Tryz.prog.funcs.toList.all (fun f => f.params.toList.all fun t => decide (t < 756))) = true := by kernel_rfl
theorem lo_list : List.range 756 = List.range' 0 63 ++ (List.range' 63 63 ++ (List.range' 126 63 ++ (List.range' 189 63 ++ (List.range' 252 63 ++ (List.range' 315 63 ++ (List.range' 378 63 ++ (List.range' 441 63 ++ (List.range' 504 63 ++ (List.range' 567 63 ++ (List.range' 630 63 ++ (List.range' 693 63))))))))))) := by kernel_rfl
theorem laid_of {P : Program} {n : Nat} (hs : P.types.size = n) (h1 : (List.range n).all (rowFine P) = true) (h2 : (P.globals.toList.all (fun g => decide (g.type < n))) = true) (h3 : (P.funcs.toList.all (fun f => f.params.toList.all fun t => decide (t < n))) = true) : laidOutB P = true := by
  subst hs
  have e2 : (P.globals.all (fun g => decide (g.type < P.types.size))) = true := by rw [← Array.all_toList]; exact h2
  have e3 : (P.funcs.all (fun f => f.params.all fun t => decide (t < P.types.size))) = true := by
    rw [← Array.all_toList, List.all_eq_true]
    intro f hf
    rw [← Array.all_toList]
    exact List.all_eq_true.1 h3 f hf
  unfold laidOutB
  rw [h1, e2, e3]; rfl
theorem all_app {α : Type} {l m : List α} {p : α → Bool} (h : l.all p = true) (k : m.all p = true) : (l ++ m).all p = true := by rw [List.all_append, h, k]; rfl
theorem lo_all : (List.range 756).all (rowFine Tryz.prog) = true := by rw [lo_list]; exact (all_app lo_0 (all_app lo_1 (all_app lo_2 (all_app lo_3 (all_app lo_4 (all_app lo_5 (all_app lo_6 (all_app lo_7 (all_app lo_8 (all_app lo_9 (all_app lo_10 lo_11)))))))))))
theorem jf1 : (laidOutB Tryz.prog) = true := laid_of lo_size lo_all lo_glob lo_fun
end Go.Proofs.YtimfoejkeblbeaaGreatDoor
