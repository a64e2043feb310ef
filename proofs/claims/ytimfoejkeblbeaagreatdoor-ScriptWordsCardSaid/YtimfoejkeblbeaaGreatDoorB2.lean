/- Each entry of the table is what the evaluator reads off the program. -/
import Derived.Test.YtimfoejkeblbeaaGreatDoorB1
import Derived.Test.YtimfoejkeblbeaaGreatDoorA5
import Derived.Test.YtimfoejkeblbeaaGreatDoorProg
import Derived.KernelRfl
set_option linter.all false
namespace Go.Vm
open Go Go.Proofs
def nms : Names := ["stemma/world.work", "stemma/fs.apply", "Kind", "Bytes", "stemma/odb.get", "stemma/ref.line", "Links", "stemma/deflate.write"]
theorem inv_ok : InvOk Tryz.prog nms cfgX := inv_of (by kernel_rfl)
theorem mixed_ok : Tryz.prog.follows .mixedOrders = true := by kernel_rfl
theorem en_ok {f mask : Nat} {fn : Func} {x : En} (hfn : Tryz.prog.funcs[f]? = some fn) (hpl : plainF Tryz.prog f = true) (hck : (cfn Tryz.prog nms mask fn).map (denF cfgX) = some x) : EnOk Tryz.prog nms cfgX.glb f x := en_of inv_ok rfl mixed_ok hfn hpl hck
end Go.Vm
namespace Go.Vm
open Go Go.Proofs
theorem en4 : EnOk Tryz.prog nms cfgX.glb 4 x4 := en_ok Tryz.func4 (by kernel_rfl) (mask := 3) (by kernel_rfl)
theorem en10 : EnOk Tryz.prog nms cfgX.glb 10 x10 := en_ok Tryz.func10 (by kernel_rfl) (mask := 19) (by kernel_rfl)
theorem en18 : EnOk Tryz.prog nms cfgX.glb 18 x18 := en_ok Tryz.func18 (by kernel_rfl) (mask := 5) (by kernel_rfl)
theorem en28 : EnOk Tryz.prog nms cfgX.glb 28 x28 := en_ok Tryz.func28 (by kernel_rfl) (mask := 2105469) (by kernel_rfl)
theorem en34 : EnOk Tryz.prog nms cfgX.glb 34 x34 := en_ok Tryz.func34 (by kernel_rfl) (mask := 5) (by kernel_rfl)
theorem en49 : EnOk Tryz.prog nms cfgX.glb 49 x49 := en_ok Tryz.func49 (by kernel_rfl) (mask := 2013389475) (by kernel_rfl)
theorem en61 : EnOk Tryz.prog nms cfgX.glb 61 x61 := en_ok Tryz.func61 (by kernel_rfl) (mask := 16810611) (by kernel_rfl)
theorem fit82 : cfn Tryz.prog nms 524787 Tryz.f82 = some fn82 := by kernel_rfl
theorem en82 : EnOk Tryz.prog nms cfgX.glb 82 x82 := en_ok Tryz.func82 (by kernel_rfl) (mask := 524787) (by rw [fit82]; rfl)
theorem en108 : EnOk Tryz.prog nms cfgX.glb 108 x108 := en_ok Tryz.func108 (by kernel_rfl) (mask := 33011) (by kernel_rfl)
theorem en147 : EnOk Tryz.prog nms cfgX.glb 147 x147 := en_ok Tryz.func147 (by kernel_rfl) (mask := 5) (by kernel_rfl)
theorem en178 : EnOk Tryz.prog nms cfgX.glb 178 x178 := en_ok Tryz.func178 (by kernel_rfl) (mask := 2189) (by kernel_rfl)
theorem en197 : EnOk Tryz.prog nms cfgX.glb 197 x197 := en_ok Tryz.func197 (by kernel_rfl) (mask := 93536104789560604428000148544236911726365580993149) (by kernel_rfl)
theorem en269 : EnOk Tryz.prog nms cfgX.glb 269 x269 := en_ok Tryz.func269 (by kernel_rfl) (mask := 536902739) (by kernel_rfl)
theorem en352 : EnOk Tryz.prog nms cfgX.glb 352 x352 := en_ok Tryz.func352 (by kernel_rfl) (mask := 526387) (by kernel_rfl)
end Go.Vm
namespace Go.Vm
open Go Go.Proofs
theorem en5 : EnOk Tryz.prog nms cfgX.glb 5 x5 := en_ok Tryz.func5 (by kernel_rfl) (mask := 19) (by kernel_rfl)
theorem en11 : EnOk Tryz.prog nms cfgX.glb 11 x11 := en_ok Tryz.func11 (by kernel_rfl) (mask := 134217789) (by kernel_rfl)
theorem en19 : EnOk Tryz.prog nms cfgX.glb 19 x19 := en_ok Tryz.func19 (by kernel_rfl) (mask := 5) (by kernel_rfl)
theorem en29 : EnOk Tryz.prog nms cfgX.glb 29 x29 := en_ok Tryz.func29 (by kernel_rfl) (mask := 2267743825679) (by kernel_rfl)
theorem en37 : EnOk Tryz.prog nms cfgX.glb 37 x37 := en_ok Tryz.func37 (by kernel_rfl) (mask := 5) (by kernel_rfl)
theorem en50 : EnOk Tryz.prog nms cfgX.glb 50 x50 := en_ok Tryz.func50 (by kernel_rfl) (mask := 5) (by kernel_rfl)
theorem en62 : EnOk Tryz.prog nms cfgX.glb 62 x62 := en_ok Tryz.func62 (by kernel_rfl) (mask := 19) (by kernel_rfl)
theorem en93 : EnOk Tryz.prog nms cfgX.glb 93 x93 := en_ok Tryz.func93 (by kernel_rfl) (mask := 2475880113167412888332140723) (by kernel_rfl)
theorem en110 : EnOk Tryz.prog nms cfgX.glb 110 x110 := en_ok Tryz.func110 (by kernel_rfl) (mask := 4406638665837) (by kernel_rfl)
theorem en149 : EnOk Tryz.prog nms cfgX.glb 149 x149 := en_ok Tryz.func149 (by kernel_rfl) (mask := 537399539) (by kernel_rfl)
theorem en179 : EnOk Tryz.prog nms cfgX.glb 179 x179 := en_ok Tryz.func179 (by kernel_rfl) (mask := 4202739) (by kernel_rfl)
theorem en198 : EnOk Tryz.prog nms cfgX.glb 198 x198 := en_ok Tryz.func198 (by kernel_rfl) (mask := 19) (by kernel_rfl)
theorem en272 : EnOk Tryz.prog nms cfgX.glb 272 x272 := en_ok Tryz.func272 (by kernel_rfl) (mask := 37765319) (by kernel_rfl)
theorem en353 : EnOk Tryz.prog nms cfgX.glb 353 x353 := en_ok Tryz.func353 (by kernel_rfl) (mask := 4563534791) (by kernel_rfl)
end Go.Vm
namespace Go.Vm
open Go Go.Proofs
theorem en6 : EnOk Tryz.prog nms cfgX.glb 6 x6 := en_ok Tryz.func6 (by kernel_rfl) (mask := 26535770051870285153679255873095111529830778953524551988629487603) (by kernel_rfl)
theorem en12 : EnOk Tryz.prog nms cfgX.glb 12 x12 := en_ok Tryz.func12 (by kernel_rfl) (mask := 21) (by kernel_rfl)
theorem en23 : EnOk Tryz.prog nms cfgX.glb 23 x23 := en_ok Tryz.func23 (by kernel_rfl) (mask := 2415919603) (by kernel_rfl)
theorem en30 : EnOk Tryz.prog nms cfgX.glb 30 x30 := en_ok Tryz.func30 (by kernel_rfl) (mask := 66483) (by kernel_rfl)
theorem en43 : EnOk Tryz.prog nms cfgX.glb 43 x43 := en_ok Tryz.func43 (by kernel_rfl) (mask := 65779) (by kernel_rfl)
theorem en54 : EnOk Tryz.prog nms cfgX.glb 54 x54 := en_ok Tryz.func54 (by kernel_rfl) (mask := 65907) (by kernel_rfl)
theorem en65 : EnOk Tryz.prog nms cfgX.glb 65 x65 := en_ok Tryz.func65 (by kernel_rfl) (mask := 66109) (by kernel_rfl)
theorem en95 : EnOk Tryz.prog nms cfgX.glb 95 x95 := en_ok Tryz.func95 (by kernel_rfl) (mask := 17188391667) (by kernel_rfl)
theorem en112 : EnOk Tryz.prog nms cfgX.glb 112 x112 := en_ok Tryz.func112 (by kernel_rfl) (mask := 147) (by kernel_rfl)
theorem en157 : EnOk Tryz.prog nms cfgX.glb 157 x157 := en_ok Tryz.func157 (by kernel_rfl) (mask := 21) (by kernel_rfl)
theorem en183 : EnOk Tryz.prog nms cfgX.glb 183 x183 := en_ok Tryz.func183 (by kernel_rfl) (mask := 19) (by kernel_rfl)
theorem en232 : EnOk Tryz.prog nms cfgX.glb 232 x232 := en_ok Tryz.func232 (by kernel_rfl) (mask := 66483) (by kernel_rfl)
theorem en273 : EnOk Tryz.prog nms cfgX.glb 273 x273 := en_ok Tryz.func273 (by kernel_rfl) (mask := 19) (by kernel_rfl)
theorem en354 : EnOk Tryz.prog nms cfgX.glb 354 x354 := en_ok Tryz.func354 (by kernel_rfl) (mask := 278643) (by kernel_rfl)
end Go.Vm
namespace Go.Vm
open Go Go.Proofs
theorem en7 : EnOk Tryz.prog nms cfgX.glb 7 x7 := en_ok Tryz.func7 (by kernel_rfl) (mask := 576743334308495303) (by kernel_rfl)
theorem en15 : EnOk Tryz.prog nms cfgX.glb 15 x15 := en_ok Tryz.func15 (by kernel_rfl) (mask := 562954256777715) (by kernel_rfl)
theorem en25 : EnOk Tryz.prog nms cfgX.glb 25 x25 := en_ok Tryz.func25 (by kernel_rfl) (mask := 8243) (by kernel_rfl)
theorem en31 : EnOk Tryz.prog nms cfgX.glb 31 x31 := en_ok Tryz.func31 (by kernel_rfl) (mask := 17181970547) (by kernel_rfl)
theorem en44 : EnOk Tryz.prog nms cfgX.glb 44 x44 := en_ok Tryz.func44 (by kernel_rfl) (mask := 32787) (by kernel_rfl)
theorem en55 : EnOk Tryz.prog nms cfgX.glb 55 x55 := en_ok Tryz.func55 (by kernel_rfl) (mask := 1075) (by kernel_rfl)
theorem en66 : EnOk Tryz.prog nms cfgX.glb 66 x66 := en_ok Tryz.func66 (by kernel_rfl) (mask := 4243) (by kernel_rfl)
theorem en96 : EnOk Tryz.prog nms cfgX.glb 96 x96 := en_ok Tryz.func96 (by kernel_rfl) (mask := 21) (by kernel_rfl)
theorem en117 : EnOk Tryz.prog nms cfgX.glb 117 x117 := en_ok Tryz.func117 (by kernel_rfl) (mask := 19) (by kernel_rfl)
theorem en165 : EnOk Tryz.prog nms cfgX.glb 165 x165 := en_ok Tryz.func165 (by kernel_rfl) (mask := 16785075) (by kernel_rfl)
theorem en186 : EnOk Tryz.prog nms cfgX.glb 186 x186 := en_ok Tryz.func186 (by kernel_rfl) (mask := 134480071) (by kernel_rfl)
theorem en242 : EnOk Tryz.prog nms cfgX.glb 242 x242 := en_ok Tryz.func242 (by kernel_rfl) (mask := 5) (by kernel_rfl)
theorem en276 : EnOk Tryz.prog nms cfgX.glb 276 x276 := en_ok Tryz.func276 (by kernel_rfl) (mask := 70901040911) (by kernel_rfl)
theorem en618 : EnOk Tryz.prog nms cfgX.glb 618 x618 := en_ok Tryz.func618 (by kernel_rfl) (mask := 7) (by kernel_rfl)
end Go.Vm
namespace Go.Vm
open Go Go.Proofs
theorem en8 : EnOk Tryz.prog nms cfgX.glb 8 x8 := en_ok Tryz.func8 (by kernel_rfl) (mask := 19) (by kernel_rfl)
theorem en16 : EnOk Tryz.prog nms cfgX.glb 16 x16 := en_ok Tryz.func16 (by kernel_rfl) (mask := 10060529592287282157232189383) (by kernel_rfl)
theorem en26 : EnOk Tryz.prog nms cfgX.glb 26 x26 := en_ok Tryz.func26 (by kernel_rfl) (mask := 524339) (by kernel_rfl)
theorem en32 : EnOk Tryz.prog nms cfgX.glb 32 x32 := en_ok Tryz.func32 (by kernel_rfl) (mask := 4157) (by kernel_rfl)
theorem en46 : EnOk Tryz.prog nms cfgX.glb 46 x46 := en_ok Tryz.func46 (by kernel_rfl) (mask := 5) (by kernel_rfl)
theorem en58 : EnOk Tryz.prog nms cfgX.glb 58 x58 := en_ok Tryz.func58 (by kernel_rfl) (mask := 1117) (by kernel_rfl)
theorem en67 : EnOk Tryz.prog nms cfgX.glb 67 x67 := en_ok Tryz.func67 (by kernel_rfl) (mask := 32915) (by kernel_rfl)
theorem en103 : EnOk Tryz.prog nms cfgX.glb 103 x103 := en_ok Tryz.func103 (by kernel_rfl) (mask := 19) (by kernel_rfl)
theorem en118 : EnOk Tryz.prog nms cfgX.glb 118 x118 := en_ok Tryz.func118 (by kernel_rfl) (mask := 19) (by kernel_rfl)
theorem en169 : EnOk Tryz.prog nms cfgX.glb 169 x169 := en_ok Tryz.func169 (by kernel_rfl) (mask := 19) (by kernel_rfl)
theorem en188 : EnOk Tryz.prog nms cfgX.glb 188 x188 := en_ok Tryz.func188 (by kernel_rfl) (mask := 19) (by kernel_rfl)
theorem en267 : EnOk Tryz.prog nms cfgX.glb 267 x267 := en_ok Tryz.func267 (by kernel_rfl) (mask := 563) (by kernel_rfl)
theorem en279 : EnOk Tryz.prog nms cfgX.glb 279 x279 := en_ok Tryz.func279 (by kernel_rfl) (mask := 19) (by kernel_rfl)
theorem en623 : EnOk Tryz.prog nms cfgX.glb 623 x623 := en_ok Tryz.func623 (by kernel_rfl) (mask := 7) (by kernel_rfl)
end Go.Vm
namespace Go.Vm
open Go Go.Proofs
theorem en9 : EnOk Tryz.prog nms cfgX.glb 9 x9 := en_ok Tryz.func9 (by kernel_rfl) (mask := 8421235) (by kernel_rfl)
theorem en17 : EnOk Tryz.prog nms cfgX.glb 17 x17 := en_ok Tryz.func17 (by kernel_rfl) (mask := 5) (by kernel_rfl)
theorem en27 : EnOk Tryz.prog nms cfgX.glb 27 x27 := en_ok Tryz.func27 (by kernel_rfl) (mask := 525) (by kernel_rfl)
theorem en33 : EnOk Tryz.prog nms cfgX.glb 33 x33 := en_ok Tryz.func33 (by kernel_rfl) (mask := 8435) (by kernel_rfl)
theorem en48 : EnOk Tryz.prog nms cfgX.glb 48 x48 := en_ok Tryz.func48 (by kernel_rfl) (mask := 8589934643) (by kernel_rfl)
theorem en59 : EnOk Tryz.prog nms cfgX.glb 59 x59 := en_ok Tryz.func59 (by kernel_rfl) (mask := 9802085693047177597) (by kernel_rfl)
theorem en70 : EnOk Tryz.prog nms cfgX.glb 70 x70 := en_ok Tryz.func70 (by kernel_rfl) (mask := 73861163094217066365) (by kernel_rfl)
theorem en107 : EnOk Tryz.prog nms cfgX.glb 107 x107 := en_ok Tryz.func107 (by kernel_rfl) (mask := 17309293) (by kernel_rfl)
theorem en125 : EnOk Tryz.prog nms cfgX.glb 125 x125 := en_ok Tryz.func125 (by kernel_rfl) (mask := 4504647614595157) (by kernel_rfl)
theorem en177 : EnOk Tryz.prog nms cfgX.glb 177 x177 := en_ok Tryz.func177 (by kernel_rfl) (mask := 16467) (by kernel_rfl)
theorem en192 : EnOk Tryz.prog nms cfgX.glb 192 x192 := en_ok Tryz.func192 (by kernel_rfl) (mask := 15663183516433892416764882583213662997805349754095402995) (by kernel_rfl)
theorem en268 : EnOk Tryz.prog nms cfgX.glb 268 x268 := en_ok Tryz.func268 (by kernel_rfl) (mask := 133) (by kernel_rfl)
theorem en283 : EnOk Tryz.prog nms cfgX.glb 283 x283 := en_ok Tryz.func283 (by kernel_rfl) (mask := 5) (by kernel_rfl)
end Go.Vm
