/- Library functions of this program, laid beside the library's. No condition. -/
import Derived.Test.YtpamandneifemaaChecked
import Derived.Shelf.Strings.OnBuilder
namespace Go.Proofs.Ytpamandneifemaa
open Go Go.Proofs Go.Shelf
set_option linter.unusedVariables false
def Try.joinA_ren : Go.Shelf.Ren := ⟨fun | 156 => 47 | 165 => 60 | 166 => 61 | 169 => 62 | 240 => 68 | 241 => 69 | 276 => 80 | 277 => 81 | n => n, fun | 31 => 29 | 9 => 9 | 3 => 3 | 4 => 4 | 0 => 0 | 20 => 20 | 72 => 87 | 76 => 91 | 70 => 85 | 37 => 32 | 75 => 90 | 127 => 98 | 164 => 110 | 5 => 5 | 80 => 93 | n => n, fun | n => n⟩
theorem Try.joinA : Go.Proofs.Lays.n156 Try.prog Try.joinA_ren where
  mixed := by kernel_rfl
  f156 := Try.func47.trans (congrArg some (by kernel_rfl))
  f165 := Try.func60.trans (congrArg some (by kernel_rfl))
  f166 := Try.func61.trans (congrArg some (by kernel_rfl))
  f169 := Try.func62.trans (congrArg some (by kernel_rfl))
  f240 := Try.func68.trans (congrArg some (by kernel_rfl))
  f241 := Try.func69.trans (congrArg some (by kernel_rfl))
  f276 := Try.func80.trans (congrArg some (by kernel_rfl))
  f277 := Try.func81.trans (congrArg some (by kernel_rfl))
  t0 := Try.underlying0
  a0 := Try.isAgg0
  z0 := Try.sizeOf0
  v0 := Try.zeroValue0
  t3 := Try.underlying3
  a3 := Try.isAgg3
  z3 := Try.sizeOf3
  v3 := Try.zeroValue3
  t4 := Try.underlying4
  a4 := Try.isAgg4
  z4 := Try.sizeOf4
  v4 := Try.zeroValue4
  t9 := Try.underlying9
  a9 := Try.isAgg9
  z9 := Try.sizeOf9
  v9 := Try.zeroValue9
  t20 := Try.underlying20
  a20 := Try.isAgg20
  z20 := Try.sizeOf20
  v20 := Try.zeroValue20
  t31 := Try.underlying29
  a31 := Try.isAgg29
  z31 := Try.sizeOf29
  v31 := Try.zeroValue29
  t37 := Try.underlying32
  a37 := Try.isAgg32
  z37 := Try.sizeOf32
  v37 := Try.zeroValue32
  t70 := Try.underlying85
  a70 := Try.isAgg85
  z70 := Try.sizeOf85
  v70 := Try.zeroValue85
  t72 := Try.underlying87
  a72 := Try.isAgg87
  z72 := Try.sizeOf87
  v72 := Try.zeroValue87
  t75 := Try.underlying90
  a75 := Try.isAgg90
  z75 := Try.sizeOf90
  v75 := Try.zeroValue90
  t76 := Try.underlying91
  a76 := Try.isAgg91
  z76 := Try.sizeOf91
  v76 := Try.zeroValue91
  t127 := Try.underlying98
  a127 := Try.isAgg98
  z127 := Try.sizeOf98
  v127 := Try.zeroValue98
  t164 := Try.underlying110
  a164 := Try.isAgg110
  z164 := Try.sizeOf110
  v164 := Try.zeroValue110
end Go.Proofs.Ytpamandneifemaa
