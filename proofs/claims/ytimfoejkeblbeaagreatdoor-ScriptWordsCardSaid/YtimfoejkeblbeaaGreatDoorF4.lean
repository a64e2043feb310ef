/- The row holds. -/
import Derived.Test.YtimfoejkeblbeaaGreatDoorJr
import Derived.Test.YtimfoejkeblbeaaGreatDoorP1
import Derived.Test.YtimfoejkeblbeaaGreatDoorF2
import Derived.Test.YtimfoejkeblbeaaGreatDoorJ9
import Derived.Test.YtimfoejkeblbeaaGreatDoorJ10
import Derived.Test.YtimfoejkeblbeaaGreatDoorJ11
import Derived.Test.YtimfoejkeblbeaaGreatDoorJ12
import Derived.Test.YtimfoejkeblbeaaGreatDoorJL
namespace Go.Proofs.YtimfoejkeblbeaaGreatDoor
open Go
theorem ai {a b : Bool} (h : a = true) (k : b = true) : (a && b) = true := by rw [h, k]; rfl
set_option maxRecDepth 1000000 in
theorem sw_closed : joinedFacts Tryz.prog 3 Tryz.f3 JS Rows.scriptWordsRow = true := (ai (ai (ai (ai (ai (ai (ai (ai (ai (ai (ai (ai (ai (ai (ai (ai (ai (ai (ai (ai (ai (ai (ai (ai (ai (ai (ai (ai (ai (ai (ai jf0 jf1) jf2) jf3) jf4) jf5) jf6) jf7) jf8) jf9) jf10) jf11) jf12) jf13) jf14) jf15) jf16) jf17) jf18) jf19) jf20) jf21) jf22) jf23) jf24) jf25) jf26) jf27) jf28) jf29) jf30) jf31)
end Go.Proofs.YtimfoejkeblbeaaGreatDoor
namespace Go.Proofs.YtimfoejkeblbeaaGreatDoor
open Go
theorem scriptWords_holds : Rows.ScriptWordsSaid :=
  OpenClaim.holds_of_cond 3 Tryz.f3 rfl rfl rfl rfl rfl rfl rfl ⟨rfl, rfl, rfl, rfl, rfl⟩ rfl rfl rfl rfl rfl sw_named Tryz.func3 sw_closed sw_inst sw_wrap
    (fun os started H enc _ F0 => by rw [OpenClaim.pre_eq_preRow]; exact scriptWords_lifted os started H enc F0)
end Go.Proofs.YtimfoejkeblbeaaGreatDoor
