/- The contract of Go's slices.SortFunc, laid at this program. No law is proved here. -/
import Derived.Test.YtaebdeidbibfkaaDoorJLawM10
import Derived.Test.YtaebdeidbibfkaaDoorProg
set_option linter.unusedSimpArgs false
set_option linter.unusedVariables false
set_option linter.unusedSectionVars false
namespace Go.Proofs
open Go.Shelf
def Tryd.sort_lays_ren : Go.Shelf.Ren := ⟨fun | 6 => 53 | 15 => 83 | 14 => 82 | 28 => 113 | 29 => 114 | 20 => 105 | 21 => 106 | 22 => 107 | 23 => 108 | 24 => 109 | 25 => 110 | 26 => 111 | 27 => 112 | 46 => 130 | 47 => 131 | 48 => 132 | 49 => 133 | 50 => 134 | 57 => 141 | n => n, fun | 22 => 29 | 24 => 31 | 25 => 121 | 3 => 3 | 39 => 160 | 0 => 0 | 53 => 185 | 55 => 187 | 4 => 4 | 46 => 178 | 45 => 177 | 50 => 182 | 5 => 5 | 9 => 9 | 66 => 200 | 70 => 204 | 76 => 212 | 77 => 213 | n => n, fun | n => n⟩
theorem Tryd.sort_lays : Go.Proofs.SlLaysF0.n6 Tryd.prog Tryd.sort_lays_ren := {
  mixed := by kernel_rfl
  f6 := ⟨Tryd.f53.name, by decide, Tryd.func53.trans (congrArg some (by kernel_rfl))⟩
  f14 := ⟨Tryd.f82.name, by decide, Tryd.func82.trans (congrArg some (by kernel_rfl))⟩
  f15 := Tryd.func83.trans (congrArg some (by kernel_rfl))
  f20 := ⟨Tryd.f105.name, by decide, Tryd.func105.trans (congrArg some (by kernel_rfl))⟩
  f21 := ⟨Tryd.f106.name, by decide, Tryd.func106.trans (congrArg some (by kernel_rfl))⟩
  f22 := ⟨Tryd.f107.name, by decide, Tryd.func107.trans (congrArg some (by kernel_rfl))⟩
  f23 := ⟨Tryd.f108.name, by decide, Tryd.func108.trans (congrArg some (by kernel_rfl))⟩
  f24 := ⟨Tryd.f109.name, by decide, Tryd.func109.trans (congrArg some (by kernel_rfl))⟩
  f25 := ⟨Tryd.f110.name, by decide, Tryd.func110.trans (congrArg some (by kernel_rfl))⟩
  f26 := ⟨Tryd.f111.name, by decide, Tryd.func111.trans (congrArg some (by kernel_rfl))⟩
  f27 := ⟨Tryd.f112.name, by decide, Tryd.func112.trans (congrArg some (by kernel_rfl))⟩
  f28 := Tryd.func113.trans (congrArg some (by kernel_rfl))
  f29 := Tryd.func114.trans (congrArg some (by kernel_rfl))
  f46 := ⟨Tryd.f130.name, by decide, Tryd.func130.trans (congrArg some (by kernel_rfl))⟩
  f47 := Tryd.func131.trans (congrArg some (by kernel_rfl))
  f48 := Tryd.func132.trans (congrArg some (by kernel_rfl))
  f49 := ⟨Tryd.f133.name, by decide, Tryd.func133.trans (congrArg some (by kernel_rfl))⟩
  f50 := ⟨Tryd.f134.name, by decide, Tryd.func134.trans (congrArg some (by kernel_rfl))⟩
  f57 := ⟨Tryd.f141.name, by decide, Tryd.func141.trans (congrArg some (by kernel_rfl))⟩
  t0 := Tryd.underlying0
  a0 := Tryd.isAgg0
  z0 := Tryd.sizeOf0
  v0 := Tryd.zeroValue0
  t3 := Tryd.underlying3
  a3 := Tryd.isAgg3
  z3 := Tryd.sizeOf3
  v3 := Tryd.zeroValue3
  t4 := Tryd.underlying4
  a4 := Tryd.isAgg4
  z4 := Tryd.sizeOf4
  v4 := Tryd.zeroValue4
  t5 := Tryd.underlying5
  a5 := Tryd.isAgg5
  z5 := Tryd.sizeOf5
  v5 := Tryd.zeroValue5
  t9 := Tryd.underlying9
  a9 := Tryd.isAgg9
  z9 := Tryd.sizeOf9
  v9 := Tryd.zeroValue9
  t22 := Tryd.underlying29
  a22 := Tryd.isAgg29
  z22 := Tryd.sizeOf29
  v22 := Tryd.zeroValue29
  t25 := Tryd.underlying121
  a25 := Tryd.isAgg121
  z25 := Tryd.sizeOf121
  v25 := Tryd.zeroValue121
  t39 := Tryd.underlying160
  a39 := Tryd.isAgg160
  z39 := Tryd.sizeOf160
  v39 := Tryd.zeroValue160
  t45 := Tryd.underlying177
  a45 := Tryd.isAgg177
  z45 := Tryd.sizeOf177
  v45 := Tryd.zeroValue177
  t46 := Tryd.underlying178
  a46 := Tryd.isAgg178
  z46 := Tryd.sizeOf178
  v46 := Tryd.zeroValue178
  t50 := Tryd.underlying182
  a50 := Tryd.isAgg182
  z50 := Tryd.sizeOf182
  v50 := Tryd.zeroValue182
  t53 := Tryd.underlying185
  a53 := Tryd.isAgg185
  z53 := Tryd.sizeOf185
  v53 := Tryd.zeroValue185
  t55 := Tryd.underlying187
  a55 := Tryd.isAgg187
  z55 := Tryd.sizeOf187
  v55 := Tryd.zeroValue187
  t66 := Tryd.underlying200
  a66 := Tryd.isAgg200
  z66 := Tryd.sizeOf200
  v66 := Tryd.zeroValue200
  t70 := Tryd.underlying204
  a70 := Tryd.isAgg204
  z70 := Tryd.sizeOf204
  v70 := Tryd.zeroValue204
  t76 := Tryd.underlying212
  a76 := Tryd.isAgg212
  z76 := Tryd.sizeOf212
  v76 := Tryd.zeroValue212
  t77 := Tryd.underlying213
  a77 := Tryd.isAgg213
  z77 := Tryd.sizeOf213
  v77 := Tryd.zeroValue213 }
end Go.Proofs
