/- Library functions of this program, laid beside the library's. No condition. -/
import Derived.Test.YtpnfjfbfgaiolaaChecked
import Derived.Shelf.Strings.OnBuilder
namespace Go.Proofs.Ytpnfjfbfgaiolaa
open Go Go.Proofs Go.Shelf
set_option linter.unusedVariables false
def Try.joinA_ren : Go.Shelf.Ren := ⟨fun | 156 => 55 | 165 => 68 | 166 => 69 | 169 => 70 | 240 => 86 | 241 => 87 | 276 => 95 | 277 => 96 | n => n, fun | 31 => 28 | 9 => 9 | 3 => 3 | 4 => 4 | 0 => 0 | 20 => 20 | 72 => 86 | 76 => 90 | 70 => 84 | 37 => 31 | 75 => 89 | 127 => 107 | 164 => 114 | 5 => 5 | 80 => 92 | n => n, fun | n => n⟩
theorem Try.joinA : Go.Proofs.Lays.n156 Try.prog Try.joinA_ren where
  mixed := by kernel_rfl
  f156 := Try.func55.trans (congrArg some (by kernel_rfl))
  f165 := Try.func68.trans (congrArg some (by kernel_rfl))
  f166 := Try.func69.trans (congrArg some (by kernel_rfl))
  f169 := Try.func70.trans (congrArg some (by kernel_rfl))
  f240 := Try.func86.trans (congrArg some (by kernel_rfl))
  f241 := Try.func87.trans (congrArg some (by kernel_rfl))
  f276 := Try.func95.trans (congrArg some (by kernel_rfl))
  f277 := Try.func96.trans (congrArg some (by kernel_rfl))
  t0 := Try.underlying0
  a0 := Try.isAgg0
  z0 := Try.sizeOf0
  v0 := Try.zeroValue0
  t3 := Try.underlying3
  a3 := Try.isAgg3
  z3 := Try.sizeOf3
  v3 := Try.zeroValue3
  t4 := Try.underlying4
  a4 := Try.isAgg4
  z4 := Try.sizeOf4
  v4 := Try.zeroValue4
  t9 := Try.underlying9
  a9 := Try.isAgg9
  z9 := Try.sizeOf9
  v9 := Try.zeroValue9
  t20 := Try.underlying20
  a20 := Try.isAgg20
  z20 := Try.sizeOf20
  v20 := Try.zeroValue20
  t31 := Try.underlying28
  a31 := Try.isAgg28
  z31 := Try.sizeOf28
  v31 := Try.zeroValue28
  t37 := Try.underlying31
  a37 := Try.isAgg31
  z37 := Try.sizeOf31
  v37 := Try.zeroValue31
  t70 := Try.underlying84
  a70 := Try.isAgg84
  z70 := Try.sizeOf84
  v70 := Try.zeroValue84
  t72 := Try.underlying86
  a72 := Try.isAgg86
  z72 := Try.sizeOf86
  v72 := Try.zeroValue86
  t75 := Try.underlying89
  a75 := Try.isAgg89
  z75 := Try.sizeOf89
  v75 := Try.zeroValue89
  t76 := Try.underlying90
  a76 := Try.isAgg90
  z76 := Try.sizeOf90
  v76 := Try.zeroValue90
  t127 := Try.underlying107
  a127 := Try.isAgg107
  z127 := Try.sizeOf107
  v127 := Try.zeroValue107
  t164 := Try.underlying114
  a164 := Try.isAgg114
  z164 := Try.sizeOf114
  v164 := Try.zeroValue114
end Go.Proofs.Ytpnfjfbfgaiolaa
