/- The runs, by the kernel. -/
import Derived.Test.YtimfoejkeblbeaaGreatDoorB1
import Derived.KernelRfl
set_option linter.all false
namespace Go.Vm
open Go
noncomputable section
def H0 : AH := { t := .e, g := .e, nx := 1 }
/-- Is it this text? -/
def isS (v : AV) (l n : Nat) (k : Rs) : Rs := match v with
  | .str l' n' => grd (Nat.beq l' l && Nat.beq n' n) k
  | _ => none
def cfw : CallX := callX tabX 100000 64
/-- The lines that are asked ahead of the text. -/
def asks : List ((Nat × Nat) × (Nat × Nat)) := [((4, 1953063787), (2, 28523)), ((14, 2422436481201570685567841316728441), (7, 28554808469364785)), ((15, 620143739187602096724458298885369465), (7, 28554808469364785)), ((15, 620143739187602113952111489380344421), (7, 28554808469364785)), ((3, 7237495), (4, 1869291569)), ((9, 1851982739623499669552), (7, 28554808469364785)), ((7, 28273320619159600), (7, 28554808469364785)), ((7, 32497584235159609), (7, 28554808469364785)), ((7, 27980807363305529), (7, 28554808469364785)), ((6, 127995988353073), (7, 28554808469364785)), ((22, 18380029496258576066543817520260465785730349669756769), (7, 28554808469364785))]
def ask (cf : CallX) (d : AV) : List ((Nat × Nat) × (Nat × Nat)) → AH → Rs
  | [], h => some (d, h)
  | q :: qs, h => cf 6 [d, .str q.1.1 q.1.2] h fun v h => isS v q.2.1 q.2.2 (ask cf d qs h)
end
theorem run_awake : cfw 5 [] H0 (fun v _ => match v with | .bool true => some (.nilp, H0) | _ => none) = some (.nilp, H0) := by kernel_rfl
theorem run_asks : Option.isSome (cfw 4 [] H0 fun v h => match v with | .ptr _ _ => ask cfw v asks h | _ => none) = true := by kernel_rfl
end Go.Vm
