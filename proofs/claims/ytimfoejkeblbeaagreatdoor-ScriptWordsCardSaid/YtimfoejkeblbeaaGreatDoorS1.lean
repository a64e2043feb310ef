/- The contracts of the library at this program, in plain words. -/
import Derived.Shelf.Strings.Trim
import Derived.Shelf.LaysM
import Derived.Shelf.Strings.Search1
import Derived.Shelf.Strings.Search2
import Derived.Shelf.Strings.Search3
import Derived.Shelf.Strings.Count
import Derived.Shelf.Strings.Split
import Derived.Ground.Names2Prog
import Derived.Test.YtimfoejkeblbeaaGreatDoorProg
import Derived.Shelf.SlIter.Nil
import Derived.Shelf.SortM.Plain
import Derived.Shelf.SortM.SortNone
import Derived.Ground.GgzProg
import Derived.Ground.SlgmProg
namespace Go.Proofs
open Go.Shelf
def Tryz.lays160_ren : Go.Shelf.Ren := ⟨fun | 160 => 31 | 232 => 64 | 231 => 63 | 227 => 65 | 234 => 67 | 233 => 66 | 236 => 69 | 235 => 68 | 228 => 117 | 271 => 119 | 151 => 118 | 197 => 114 | 120 => 193 | 152 => 192 | 260 => 187 | 137 => 279 | 119 => 280 | 224 => 190 | 225 => 189 | 217 => 188 | 266 => 277 | n => n, fun | 9 => 9 | 4 => 4 | 3 => 3 | 5 => 5 | 117 => 137 | 116 => 136 | 0 => 0 | 124 => 140 | 21 => 21 | 105 => 210 | 46 => 244 | 119 => 385 | 139 => 388 | 138 => 387 | n => n, fun | 3 => 4 | 4 => 5 | n => n⟩
theorem Tryz.lays160 : Go.Proofs.Lays.n160 Tryz.prog Tryz.lays160_ren := {
  mixed := by kernel_rfl
  f119 := Tryz.func280.trans (congrArg some (by kernel_rfl))
  f120 := Tryz.func193.trans (congrArg some (by kernel_rfl))
  f137 := Tryz.func279.trans (congrArg some (by kernel_rfl))
  f151 := Tryz.func118.trans (congrArg some (by kernel_rfl))
  f152 := Tryz.func192.trans (congrArg some (by kernel_rfl))
  f160 := Tryz.func31.trans (congrArg some (by kernel_rfl))
  f197 := Tryz.func114.trans (congrArg some (by kernel_rfl))
  f217 := Tryz.func188.trans (congrArg some (by kernel_rfl))
  f224 := Tryz.func190.trans (congrArg some (by kernel_rfl))
  f225 := Tryz.func189.trans (congrArg some (by kernel_rfl))
  f227 := Tryz.func65.trans (congrArg some (by kernel_rfl))
  f228 := Tryz.func117.trans (congrArg some (by kernel_rfl))
  f231 := Tryz.func63.trans (congrArg some (by kernel_rfl))
  f232 := Tryz.func64.trans (congrArg some (by kernel_rfl))
  f233 := Tryz.func66.trans (congrArg some (by kernel_rfl))
  f234 := Tryz.func67.trans (congrArg some (by kernel_rfl))
  f235 := Tryz.func68.trans (congrArg some (by kernel_rfl))
  f236 := Tryz.func69.trans (congrArg some (by kernel_rfl))
  f260 := Tryz.func187.trans (congrArg some (by kernel_rfl))
  f266 := Tryz.func277.trans (congrArg some (by kernel_rfl))
  f271 := Tryz.func119.trans (congrArg some (by kernel_rfl))
  t0 := Tryz.underlying0
  a0 := Tryz.isAgg0
  z0 := Tryz.sizeOf0
  v0 := Tryz.zeroValue0
  t3 := Tryz.underlying3
  a3 := Tryz.isAgg3
  z3 := Tryz.sizeOf3
  v3 := Tryz.zeroValue3
  t4 := Tryz.underlying4
  a4 := Tryz.isAgg4
  z4 := Tryz.sizeOf4
  v4 := Tryz.zeroValue4
  t5 := Tryz.underlying5
  a5 := Tryz.isAgg5
  z5 := Tryz.sizeOf5
  v5 := Tryz.zeroValue5
  t9 := Tryz.underlying9
  a9 := Tryz.isAgg9
  z9 := Tryz.sizeOf9
  v9 := Tryz.zeroValue9
  t21 := Tryz.underlying21
  a21 := Tryz.isAgg21
  z21 := Tryz.sizeOf21
  v21 := Tryz.zeroValue21
  t46 := Tryz.underlying244
  a46 := Tryz.isAgg244
  z46 := Tryz.sizeOf244
  v46 := Tryz.zeroValue244
  t105 := Tryz.underlying210
  a105 := Tryz.isAgg210
  z105 := Tryz.sizeOf210
  v105 := Tryz.zeroValue210
  t116 := Tryz.underlying136
  a116 := Tryz.isAgg136
  z116 := Tryz.sizeOf136
  t117 := Tryz.underlying137
  a117 := Tryz.isAgg137
  z117 := Tryz.sizeOf137
  v117 := Tryz.zeroValue137
  t119 := Tryz.underlying385
  a119 := Tryz.isAgg385
  z119 := Tryz.sizeOf385
  t124 := Tryz.underlying140
  a124 := Tryz.isAgg140
  z124 := Tryz.sizeOf140
  v124 := Tryz.zeroValue140
  t138 := Tryz.underlying387
  a138 := Tryz.isAgg387
  z138 := Tryz.sizeOf387
  v138 := Tryz.zeroValue387
  t139 := Tryz.underlying388
  a139 := Tryz.isAgg388
  z139 := Tryz.sizeOf388
  v139 := Tryz.zeroValue388
  g3 := by kernel_rfl
  g4 := by kernel_rfl }
def Tryz.lays219_ren : Go.Shelf.Ren := ⟨fun | 219 => 116 | 217 => 188 | 225 => 189 | 224 => 190 | 267 => 191 | 266 => 277 | 314 => 278 | n => n, fun | 9 => 9 | 3 => 3 | 4 => 4 | 5 => 5 | 46 => 244 | 146 => 389 | 51 => 152 | n => n, fun | 1 => 0 | n => n⟩
theorem Tryz.lays219 : Go.Proofs.Lays.n219 Tryz.prog Tryz.lays219_ren := {
  mixed := by kernel_rfl
  f217 := Tryz.func188.trans (congrArg some (by kernel_rfl))
  f219 := Tryz.func116.trans (congrArg some (by kernel_rfl))
  f224 := Tryz.func190.trans (congrArg some (by kernel_rfl))
  f225 := Tryz.func189.trans (congrArg some (by kernel_rfl))
  f266 := Tryz.func277.trans (congrArg some (by kernel_rfl))
  f267 := Tryz.func191.trans (congrArg some (by kernel_rfl))
  f314 := Tryz.func278.trans (congrArg some (by kernel_rfl))
  t3 := Tryz.underlying3
  a3 := Tryz.isAgg3
  z3 := Tryz.sizeOf3
  v3 := Tryz.zeroValue3
  t4 := Tryz.underlying4
  a4 := Tryz.isAgg4
  z4 := Tryz.sizeOf4
  v4 := Tryz.zeroValue4
  t5 := Tryz.underlying5
  a5 := Tryz.isAgg5
  z5 := Tryz.sizeOf5
  v5 := Tryz.zeroValue5
  t9 := Tryz.underlying9
  a9 := Tryz.isAgg9
  z9 := Tryz.sizeOf9
  v9 := Tryz.zeroValue9
  t46 := Tryz.underlying244
  a46 := Tryz.isAgg244
  z46 := Tryz.sizeOf244
  v46 := Tryz.zeroValue244
  t51 := Tryz.underlying152
  a51 := Tryz.isAgg152
  z51 := Tryz.sizeOf152
  v51 := Tryz.zeroValue152
  t146 := Tryz.underlying389
  a146 := Tryz.isAgg389
  z146 := Tryz.sizeOf389
  v146 := Tryz.zeroValue389
  g1 := by kernel_rfl }
open Go.RowKit Go.Lib in
/-- internal/stringslite.Index (what strings.Index calls) AT A substr OF WHATEVER LENGTH: IT RETURNS 'Lib.index s substr'; the world is as it was. 'm': what internal/bytealg.MaxLen holds: whatever. (LAID: no walk: one application.) -/
theorem Tryz.stringslite_Index (s sub : ByteArray) (m : Int) (w : World) (hs : s.size < 4294967281) (hm : w.cell? ⟨0, 0, none⟩ = some (.int .i64 m)) :
    Calls Tryz.prog 116 #[.string s, .string sub] w fun e w' => e = .returned (.int .i64 (Lib.index s.data.toList sub.data.toList)) ∧ w' = w := Any.stringslite_Index Tryz.lays219 s sub m w hs hm
def Tryz.lays146_ren : Go.Shelf.Ren := ⟨fun | 146 => 8 | 221 => 29 | 268 => 60 | 138 => 61 | 143 => 62 | 195 => 113 | 197 => 114 | 218 => 115 | 219 => 116 | 260 => 187 | 217 => 188 | 225 => 189 | 224 => 190 | 267 => 191 | 266 => 277 | 314 => 278 | n => n, fun | 9 => 9 | 31 => 33 | 3 => 3 | 4 => 4 | 0 => 0 | 105 => 210 | 21 => 21 | 5 => 5 | 46 => 244 | 119 => 385 | 139 => 388 | 138 => 387 | 146 => 389 | 51 => 152 | n => n, fun | 1 => 0 | 3 => 4 | 4 => 5 | n => n⟩
theorem Tryz.lays146 : Go.Proofs.Lays.n146 Tryz.prog Tryz.lays146_ren := {
  mixed := by kernel_rfl
  f138 := Tryz.func61.trans (congrArg some (by kernel_rfl))
  f143 := Tryz.func62.trans (congrArg some (by kernel_rfl))
  f146 := Tryz.func8.trans (congrArg some (by kernel_rfl))
  f195 := Tryz.func113.trans (congrArg some (by kernel_rfl))
  f197 := Tryz.func114.trans (congrArg some (by kernel_rfl))
  f217 := Tryz.func188.trans (congrArg some (by kernel_rfl))
  f218 := Tryz.func115.trans (congrArg some (by kernel_rfl))
  f219 := Tryz.func116.trans (congrArg some (by kernel_rfl))
  f221 := Tryz.func29.trans (congrArg some (by kernel_rfl))
  f224 := Tryz.func190.trans (congrArg some (by kernel_rfl))
  f225 := Tryz.func189.trans (congrArg some (by kernel_rfl))
  f260 := Tryz.func187.trans (congrArg some (by kernel_rfl))
  f266 := Tryz.func277.trans (congrArg some (by kernel_rfl))
  f267 := Tryz.func191.trans (congrArg some (by kernel_rfl))
  f268 := Tryz.func60.trans (congrArg some (by kernel_rfl))
  f314 := Tryz.func278.trans (congrArg some (by kernel_rfl))
  t0 := Tryz.underlying0
  a0 := Tryz.isAgg0
  z0 := Tryz.sizeOf0
  v0 := Tryz.zeroValue0
  t3 := Tryz.underlying3
  a3 := Tryz.isAgg3
  z3 := Tryz.sizeOf3
  v3 := Tryz.zeroValue3
  t4 := Tryz.underlying4
  a4 := Tryz.isAgg4
  z4 := Tryz.sizeOf4
  v4 := Tryz.zeroValue4
  t5 := Tryz.underlying5
  a5 := Tryz.isAgg5
  z5 := Tryz.sizeOf5
  v5 := Tryz.zeroValue5
  t9 := Tryz.underlying9
  a9 := Tryz.isAgg9
  z9 := Tryz.sizeOf9
  v9 := Tryz.zeroValue9
  t21 := Tryz.underlying21
  a21 := Tryz.isAgg21
  z21 := Tryz.sizeOf21
  v21 := Tryz.zeroValue21
  t31 := Tryz.underlying33
  a31 := Tryz.isAgg33
  z31 := Tryz.sizeOf33
  v31 := Tryz.zeroValue33
  t46 := Tryz.underlying244
  a46 := Tryz.isAgg244
  z46 := Tryz.sizeOf244
  v46 := Tryz.zeroValue244
  t51 := Tryz.underlying152
  a51 := Tryz.isAgg152
  z51 := Tryz.sizeOf152
  v51 := Tryz.zeroValue152
  t105 := Tryz.underlying210
  a105 := Tryz.isAgg210
  z105 := Tryz.sizeOf210
  v105 := Tryz.zeroValue210
  t119 := Tryz.underlying385
  a119 := Tryz.isAgg385
  z119 := Tryz.sizeOf385
  t138 := Tryz.underlying387
  a138 := Tryz.isAgg387
  z138 := Tryz.sizeOf387
  v138 := Tryz.zeroValue387
  t139 := Tryz.underlying388
  a139 := Tryz.isAgg388
  z139 := Tryz.sizeOf388
  v139 := Tryz.zeroValue388
  t146 := Tryz.underlying389
  a146 := Tryz.isAgg389
  z146 := Tryz.sizeOf389
  v146 := Tryz.zeroValue389
  g1 := by kernel_rfl
  g3 := by kernel_rfl
  g4 := by kernel_rfl }
open Go.RowKit Go.Lib in
/-- strings.Split. (LAID: no walk: one application.) -/
theorem Tryz.strings_Split (s sep : ByteArray) (m : Int) (w : World) (hs : s.size < 4294967281) (hm : w.cell? ⟨0, 0, none⟩ = some (.int .i64 m)) (h1 : 1 ≤ sep.size) :
    Calls Tryz.prog 8 #[.string s, .string sep] w fun e w' =>
      e = .returned (.slice (some ⟨w.heap.size, 0, none⟩) (Lib.countB s sep + 1) (Lib.countB s sep + 1)) ∧ w' = w.alloc (.cells ((Lib.splitB sep 0 (Lib.countB s sep) s).map Value.string).toArray 9) := Any.strings_Split Tryz.lays146 (by kernel_rfl) s sep m w hs hm h1
end Go.Proofs
namespace Go.Proofs
open Go.Shelf
def Tryz.keys163_ren : Go.Shelf.Ren := ⟨fun | 7 => 163 | 10 => 241 | n => n, fun | 23 => 124 | 26 => 9 | 3 => 183 | 28 => 267 | 0 => 0 | 27 => 266 | 33 => 26 | 4 => 4 | n => n, fun | n => n⟩
theorem Tryz.keys163 : Go.Proofs.SlLaysZ.n7 Tryz.prog Tryz.keys163_ren := {
  mixed := by kernel_rfl
  f7 := ⟨Tryz.f163.name, by decide, Tryz.func163.trans (congrArg some (by kernel_rfl))⟩
  f10 := ⟨Tryz.f241.name, by decide, Tryz.func241.trans (congrArg some (by kernel_rfl))⟩
  t0 := Tryz.underlying0
  a0 := Tryz.isAgg0
  z0 := Tryz.sizeOf0
  v0 := Tryz.zeroValue0
  t4 := Tryz.underlying4
  a4 := Tryz.isAgg4
  z4 := Tryz.sizeOf4
  v4 := Tryz.zeroValue4
  t23 := Tryz.underlying124
  a23 := Tryz.isAgg124
  z23 := Tryz.sizeOf124
  v23 := Tryz.zeroValue124
  t26 := Tryz.underlying9
  a26 := Tryz.isAgg9
  z26 := Tryz.sizeOf9
  v26 := Tryz.zeroValue9
  t27 := Tryz.underlying266
  a27 := Tryz.isAgg266
  z27 := Tryz.sizeOf266
  v27 := Tryz.zeroValue266
  t28 := Tryz.underlying267
  a28 := Tryz.isAgg267
  z28 := Tryz.sizeOf267
  v28 := Tryz.zeroValue267
  t33 := Tryz.underlying26
  a33 := Tryz.isAgg26
  z33 := Tryz.sizeOf26
  v33 := Tryz.zeroValue26 }
def Tryz.sorted162_ren : Go.Shelf.Ren := ⟨fun | 6 => 162 | 8 => 239 | 9 => 240 | 11 => 320 | 13 => 322 | 12 => 321 | 23 => 401 | 24 => 235 | 14 => 392 | 15 => 393 | 16 => 394 | 17 => 395 | 18 => 396 | 19 => 397 | 20 => 398 | 21 => 399 | 22 => 400 | 25 => 451 | 26 => 452 | 27 => 453 | 28 => 454 | 29 => 455 | 30 => 456 | 31 => 486 | n => n, fun | 26 => 9 | 28 => 267 | 24 => 33 | 0 => 0 | 3 => 3 | 37 => 244 | 48 => 152 | 50 => 259 | 4 => 4 | 40 => 533 | 39 => 532 | 45 => 39 | 5 => 5 | 9 => 9 | 51 => 592 | 55 => 596 | 57 => 631 | 58 => 632 | 33 => 26 | n => n, fun | n => n⟩
theorem Tryz.sorted162 : Go.Proofs.SlLaysZ.n6 Tryz.prog Tryz.sorted162_ren := {
  mixed := by kernel_rfl
  f6 := ⟨Tryz.f162.name, by decide, Tryz.func162.trans (congrArg some (by kernel_rfl))⟩
  f8 := ⟨Tryz.f239.name, by decide, Tryz.func239.trans (congrArg some (by kernel_rfl))⟩
  f11 := ⟨Tryz.f320.name, by decide, Tryz.func320.trans (congrArg some (by kernel_rfl))⟩
  t0 := Tryz.underlying0
  a0 := Tryz.isAgg0
  z0 := Tryz.sizeOf0
  v0 := Tryz.zeroValue0
  t24 := Tryz.underlying33
  a24 := Tryz.isAgg33
  z24 := Tryz.sizeOf33
  v24 := Tryz.zeroValue33
  t26 := Tryz.underlying9
  a26 := Tryz.isAgg9
  z26 := Tryz.sizeOf9
  v26 := Tryz.zeroValue9
  t28 := Tryz.underlying267
  a28 := Tryz.isAgg267
  z28 := Tryz.sizeOf267
  v28 := Tryz.zeroValue267
  i26 := by kernel_rfl }
def Tryz.sort240_ren : Go.Shelf.Ren := ⟨fun | 6 => 240 | 8 => 322 | 9 => 321 | 19 => 401 | 20 => 235 | 21 => 392 | 22 => 393 | 23 => 394 | 24 => 395 | 25 => 396 | 26 => 397 | 27 => 398 | 28 => 399 | 29 => 400 | 36 => 451 | 31 => 452 | 32 => 453 | 37 => 454 | 38 => 455 | 39 => 456 | 41 => 486 | n => n, fun | 27 => 33 | 29 => 9 | 3 => 3 | 32 => 244 | 26 => 33 | 0 => 0 | 44 => 152 | 46 => 259 | 4 => 4 | 36 => 533 | 35 => 532 | 41 => 39 | 5 => 5 | 9 => 9 | 53 => 592 | 57 => 596 | 63 => 631 | 64 => 632 | n => n, fun | n => n⟩
theorem Tryz.sort240 : Go.Proofs.SlLaysM.n6 Tryz.prog Tryz.sort240_ren := {
  mixed := by kernel_rfl
  f6 := ⟨Tryz.f240.name, by decide, Tryz.func240.trans (congrArg some (by kernel_rfl))⟩
  f8 := Tryz.func322.trans (congrArg some (by kernel_rfl))
  f9 := ⟨Tryz.f321.name, by decide, Tryz.func321.trans (congrArg some (by kernel_rfl))⟩
  f19 := Tryz.func401.trans (congrArg some (by kernel_rfl))
  f20 := Tryz.func235.trans (congrArg some (by kernel_rfl))
  f21 := ⟨Tryz.f392.name, by decide, Tryz.func392.trans (congrArg some (by kernel_rfl))⟩
  f22 := ⟨Tryz.f393.name, by decide, Tryz.func393.trans (congrArg some (by kernel_rfl))⟩
  f23 := ⟨Tryz.f394.name, by decide, Tryz.func394.trans (congrArg some (by kernel_rfl))⟩
  f24 := ⟨Tryz.f395.name, by decide, Tryz.func395.trans (congrArg some (by kernel_rfl))⟩
  f25 := ⟨Tryz.f396.name, by decide, Tryz.func396.trans (congrArg some (by kernel_rfl))⟩
  f26 := ⟨Tryz.f397.name, by decide, Tryz.func397.trans (congrArg some (by kernel_rfl))⟩
  f27 := ⟨Tryz.f398.name, by decide, Tryz.func398.trans (congrArg some (by kernel_rfl))⟩
  f28 := ⟨Tryz.f399.name, by decide, Tryz.func399.trans (congrArg some (by kernel_rfl))⟩
  f29 := ⟨Tryz.f400.name, by decide, Tryz.func400.trans (congrArg some (by kernel_rfl))⟩
  f31 := Tryz.func452.trans (congrArg some (by kernel_rfl))
  f32 := Tryz.func453.trans (congrArg some (by kernel_rfl))
  f36 := ⟨Tryz.f451.name, by decide, Tryz.func451.trans (congrArg some (by kernel_rfl))⟩
  f37 := ⟨Tryz.f454.name, by decide, Tryz.func454.trans (congrArg some (by kernel_rfl))⟩
  f38 := ⟨Tryz.f455.name, by decide, Tryz.func455.trans (congrArg some (by kernel_rfl))⟩
  f39 := ⟨Tryz.f456.name, by decide, Tryz.func456.trans (congrArg some (by kernel_rfl))⟩
  f41 := ⟨Tryz.f486.name, by decide, Tryz.func486.trans (congrArg some (by kernel_rfl))⟩
  t0 := Tryz.underlying0
  a0 := Tryz.isAgg0
  z0 := Tryz.sizeOf0
  v0 := Tryz.zeroValue0
  t3 := Tryz.underlying3
  a3 := Tryz.isAgg3
  z3 := Tryz.sizeOf3
  v3 := Tryz.zeroValue3
  t4 := Tryz.underlying4
  a4 := Tryz.isAgg4
  z4 := Tryz.sizeOf4
  v4 := Tryz.zeroValue4
  t5 := Tryz.underlying5
  a5 := Tryz.isAgg5
  z5 := Tryz.sizeOf5
  v5 := Tryz.zeroValue5
  t9 := Tryz.underlying9
  a9 := Tryz.isAgg9
  z9 := Tryz.sizeOf9
  v9 := Tryz.zeroValue9
  t26 := Tryz.underlying33
  a26 := Tryz.isAgg33
  z26 := Tryz.sizeOf33
  v26 := Tryz.zeroValue33
  t27 := Tryz.underlying33
  a27 := Tryz.isAgg33
  z27 := Tryz.sizeOf33
  v27 := Tryz.zeroValue33
  t29 := Tryz.underlying9
  a29 := Tryz.isAgg9
  z29 := Tryz.sizeOf9
  v29 := Tryz.zeroValue9
  t32 := Tryz.underlying244
  a32 := Tryz.isAgg244
  z32 := Tryz.sizeOf244
  v32 := Tryz.zeroValue244
  t35 := Tryz.underlying532
  a35 := Tryz.isAgg532
  z35 := Tryz.sizeOf532
  v35 := Tryz.zeroValue532
  t36 := Tryz.underlying533
  a36 := Tryz.isAgg533
  z36 := Tryz.sizeOf533
  v36 := Tryz.zeroValue533
  t41 := Tryz.underlying39
  a41 := Tryz.isAgg39
  z41 := Tryz.sizeOf39
  v41 := Tryz.zeroValue39
  t44 := Tryz.underlying152
  a44 := Tryz.isAgg152
  z44 := Tryz.sizeOf152
  v44 := Tryz.zeroValue152
  t46 := Tryz.underlying259
  a46 := Tryz.isAgg259
  z46 := Tryz.sizeOf259
  v46 := Tryz.zeroValue259
  t53 := Tryz.underlying592
  a53 := Tryz.isAgg592
  z53 := Tryz.sizeOf592
  v53 := Tryz.zeroValue592
  t57 := Tryz.underlying596
  a57 := Tryz.isAgg596
  z57 := Tryz.sizeOf596
  v57 := Tryz.zeroValue596
  t63 := Tryz.underlying631
  a63 := Tryz.isAgg631
  z63 := Tryz.sizeOf631
  v63 := Tryz.zeroValue631
  t64 := Tryz.underlying632
  a64 := Tryz.isAgg632
  z64 := Tryz.sizeOf632
  v64 := Tryz.zeroValue632 }
end Go.Proofs
namespace Go.Proofs
open Go.RowKit Go.Maps Go.Sort Go.Shelf
/-- slices.Sort's two contracts at this dump, at the fence that asks nothing. -/
theorem Tryz.sorts162 (m : Nat) : AnyZ.SortsIn Tryz.prog Tryz.sorted162_ren Fence.wide m :=
  ⟨fun blk off cap ss W hH hblk hsz => callsIn_wide.2 (AnyM.slices_Sort_string Tryz.sort240 blk off cap ss W hH hblk hsz),
   fun p cap W => callsIn_wide.2 (AnyM.slices_Sort_string_none Tryz.sort240 p cap W)⟩

/-- **maps.Keys[map[string]*stemma/fs.file,string,*stemma/fs.file], at whatever map, the nil one too:** a function value over ONE NEW BLOCK, which holds the map. -/
theorem Tryz.maps_Keys_163 (mb : Option Nat) (W : World) : CallsIn Fence.wide 5 Tryz.prog 163 #[.map mb] W fun e w' => e = .returned (.func (.func 241) #[] #[.pointer (some ⟨W.heap.size, 0, none⟩)]) ∧ w' = W.alloc (.cells #[.map mb] 124) :=
  AnyZ.keys_in Tryz.keys163 Fence.wide 5 trivial rfl mb W

set_option maxHeartbeats 1000000 in
/-- **slices.Sorted[string] AT WHAT maps.Keys[map[string]*stemma/fs.file,string,*stemma/fs.file] HANDED BACK FOR A MAP THAT IS NOT nil** ('w': the world AHEAD of maps.Keys' call): A NEW SLICE THAT HOLDS THE MAP's KEYS, SORTED; nil just where it has none; nothing that lay before has turned. -/
theorem Tryz.slices_Sorted_keys_162_163 {H : Type} (b nn : Nat) (D0 : DataW H) (R : Value → Option (DataW H × List MemPlace)) (w : World) (hown : w.ownsMap Tryz.prog 9 R b nn D0) (hmax : Maps.size D0 ≤ maxLen) (hbytes : Maps.size D0 * 16 ≤ 140737488355328) :
    CallsIn Fence.wide 5 Tryz.prog 162 #[.func (.func 241) #[] #[.pointer (some ⟨w.heap.size, 0, none⟩)]] (w.alloc (.cells #[.map (some b)] 124)) fun e w' => ∃ (v : Value) (ss : List (List UInt8)), e = .returned v ∧ ss.Perm (strKeys D0) ∧
      w'.ownsRow (w.alloc (.cells #[.map (some b)] 124)).heap.size 9 1 v ss.length ((ss.mergeSort (fun x y => decide (x ≤ y))).map encStr) ∧ (v = .slice none 0 0 ↔ ss = []) ∧ Below (w.alloc (.cells #[.map (some b)] 124)).heap.size (w.alloc (.cells #[.map (some b)] 124)) w' := by
  have hbl := hown.lt
  have hseq : SeqGives Fence.wide 2 Tryz.prog 241 #[.pointer (some ⟨w.heap.size, 0, none⟩)] encStr (fun ss => ss.Perm (strKeys D0)) (Maps.size D0) (w.alloc (.cells #[.map (some b)] 124)) :=
    AnyZ.keys_gives (ρ := Tryz.keys163_ren) { Tryz.keys163 with } Fence.wide _ trivial rfl (by omega) w.heap.size b nn D0 _ (by simp) (by simp) (by
      obtain ⟨es, clock, hb, Ft, hs, hD⟩ := hown
      exact ⟨es, clock, (Below.heap_alloc _ _ b hbl).trans hb, Ft, hs, hD⟩)
  exact AnyZ.sorted_in Tryz.sorted162 Fence.wide 5 trivial trivial trivial trivial rfl (by omega) (Tryz.sorts162 _) (enters_of Tryz.func240 (by kernel_rfl) rfl) 241 #[.pointer (some ⟨w.heap.size, 0, none⟩)] trivial (enters_of Tryz.func241 (by kernel_rfl) rfl) _ _ hmax hbytes _ hseq

set_option maxHeartbeats 1000000 in
/-- **.. AND FOR THE nil MAP: nil.** -/
theorem Tryz.slices_Sorted_keys_nil_162_163 (w : World) :
    CallsIn Fence.wide 5 Tryz.prog 162 #[.func (.func 241) #[] #[.pointer (some ⟨w.heap.size, 0, none⟩)]] (w.alloc (.cells #[.map none] 124)) fun e w' => ∃ (v : Value) (ss : List (List UInt8)), e = .returned v ∧ ss = [] ∧
      w'.ownsRow (w.alloc (.cells #[.map none] 124)).heap.size 9 1 v ss.length ((ss.mergeSort (fun x y => decide (x ≤ y))).map encStr) ∧ (v = .slice none 0 0 ↔ ss = []) ∧ Below (w.alloc (.cells #[.map none] 124)).heap.size (w.alloc (.cells #[.map none] 124)) w' := by
  have hseq : SeqGives Fence.wide 2 Tryz.prog 241 #[.pointer (some ⟨w.heap.size, 0, none⟩)] encStr (fun ss : List (List UInt8) => ss = []) 0 (w.alloc (.cells #[.map none] 124)) :=
    AnyZ.keys_gives_nil (ρ := Tryz.keys163_ren) { Tryz.keys163 with } Fence.wide _ trivial rfl w.heap.size _ (by simp) (by simp)
  exact AnyZ.sorted_in Tryz.sorted162 Fence.wide 5 trivial trivial trivial trivial rfl (by omega) (Tryz.sorts162 _) (enters_of Tryz.func240 (by kernel_rfl) rfl) 241 #[.pointer (some ⟨w.heap.size, 0, none⟩)] trivial (enters_of Tryz.func241 (by kernel_rfl) rfl) _ 0 (Nat.zero_le _) (by omega) _ hseq



end Go.Proofs
