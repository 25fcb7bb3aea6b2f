/-
  DERIVED: THE SHELF's CONTRACTS AT THIS DUMP, IN PLAIN WORDS (tools/lay-plain.mjs out of 'YtilbolgncpfmmaaSortDay.lean', which tools/lay-shelf.mjs wrote): THE SAME DECLARATIONS UNDER THE SAME NAMES: 'import', 'namespace', 'open', 'def', 'theorem' AND NOTHING ELSE: no command of the shelf's: FOR A HAND-IN. Each laying: the table of numbers ('.._ren') and one theorem, a field a fact of the dump's own or the kernel's comparison; each contract: ONE APPLICATION.
-/
import Derived.Shelf.SortG.Plain
import Derived.Shelf.SortG.SortNone
import Derived.Ground.SlgnProg
import Derived.Test.YtilbolgncpfmmaaProg
namespace Go.Proofs
open Go.Shelf
def Try.sortDay_ren : Go.Shelf.Ren := ⟨fun | 53 => 85 | 64 => 114 | 63 => 113 | 78 => 137 | 79 => 138 | 70 => 129 | 71 => 130 | 72 => 131 | 73 => 132 | 74 => 133 | 75 => 134 | 59 => 100 | 76 => 135 | 77 => 136 | 88 => 142 | 89 => 143 | 90 => 144 | 91 => 145 | 92 => 146 | 68 => 125 | 96 => 156 | n => n, fun | 22 => 23 | 23 => 26 | 3 => 3 | 51 => 115 | 0 => 0 | 67 => 133 | 69 => 135 | 4 => 4 | 61 => 127 | 60 => 126 | 44 => 103 | 5 => 5 | 9 => 9 | 75 => 141 | 79 => 145 | 83 => 153 | 84 => 154 | n => n, fun | n => n⟩
theorem Try.sortDay : Go.Proofs.SlLaysN.n53 Try.prog Try.sortDay_ren := {
  mixed := by kernel_rfl
  f53 := ⟨Try.f85.name, by decide, Try.func85.trans (congrArg some (by kernel_rfl))⟩
  f59 := ⟨Try.f100.name, by decide, Try.func100.trans (congrArg some (by kernel_rfl))⟩
  f63 := ⟨Try.f113.name, by decide, Try.func113.trans (congrArg some (by kernel_rfl))⟩
  f64 := Try.func114.trans (congrArg some (by kernel_rfl))
  f68 := ⟨Try.f125.name, by decide, Try.func125.trans (congrArg some (by kernel_rfl))⟩
  f70 := ⟨Try.f129.name, by decide, Try.func129.trans (congrArg some (by kernel_rfl))⟩
  f71 := ⟨Try.f130.name, by decide, Try.func130.trans (congrArg some (by kernel_rfl))⟩
  f72 := ⟨Try.f131.name, by decide, Try.func131.trans (congrArg some (by kernel_rfl))⟩
  f73 := ⟨Try.f132.name, by decide, Try.func132.trans (congrArg some (by kernel_rfl))⟩
  f74 := ⟨Try.f133.name, by decide, Try.func133.trans (congrArg some (by kernel_rfl))⟩
  f75 := ⟨Try.f134.name, by decide, Try.func134.trans (congrArg some (by kernel_rfl))⟩
  f76 := ⟨Try.f135.name, by decide, Try.func135.trans (congrArg some (by kernel_rfl))⟩
  f77 := ⟨Try.f136.name, by decide, Try.func136.trans (congrArg some (by kernel_rfl))⟩
  f78 := Try.func137.trans (congrArg some (by kernel_rfl))
  f79 := Try.func138.trans (congrArg some (by kernel_rfl))
  f88 := ⟨Try.f142.name, by decide, Try.func142.trans (congrArg some (by kernel_rfl))⟩
  f89 := Try.func143.trans (congrArg some (by kernel_rfl))
  f90 := Try.func144.trans (congrArg some (by kernel_rfl))
  f91 := ⟨Try.f145.name, by decide, Try.func145.trans (congrArg some (by kernel_rfl))⟩
  f92 := ⟨Try.f146.name, by decide, Try.func146.trans (congrArg some (by kernel_rfl))⟩
  f96 := ⟨Try.f156.name, by decide, Try.func156.trans (congrArg some (by kernel_rfl))⟩
  t0 := Try.underlying0
  a0 := Try.isAgg0
  z0 := Try.sizeOf0
  v0 := Try.zeroValue0
  t3 := Try.underlying3
  a3 := Try.isAgg3
  z3 := Try.sizeOf3
  v3 := Try.zeroValue3
  t4 := Try.underlying4
  a4 := Try.isAgg4
  z4 := Try.sizeOf4
  v4 := Try.zeroValue4
  t5 := Try.underlying5
  a5 := Try.isAgg5
  z5 := Try.sizeOf5
  v5 := Try.zeroValue5
  t9 := Try.underlying9
  a9 := Try.isAgg9
  z9 := Try.sizeOf9
  v9 := Try.zeroValue9
  t22 := Try.underlying23
  a22 := Try.isAgg23
  z22 := Try.sizeOf23
  v22 := Try.zeroValue23
  t23 := Try.underlying26
  a23 := Try.isAgg26
  z23 := Try.sizeOf26
  v23 := Try.zeroValue26
  t44 := Try.underlying103
  a44 := Try.isAgg103
  z44 := Try.sizeOf103
  v44 := Try.zeroValue103
  t51 := Try.underlying115
  a51 := Try.isAgg115
  z51 := Try.sizeOf115
  v51 := Try.zeroValue115
  t60 := Try.underlying126
  a60 := Try.isAgg126
  z60 := Try.sizeOf126
  v60 := Try.zeroValue126
  t61 := Try.underlying127
  a61 := Try.isAgg127
  z61 := Try.sizeOf127
  v61 := Try.zeroValue127
  t67 := Try.underlying133
  a67 := Try.isAgg133
  z67 := Try.sizeOf133
  v67 := Try.zeroValue133
  t69 := Try.underlying135
  a69 := Try.isAgg135
  z69 := Try.sizeOf135
  v69 := Try.zeroValue135
  t75 := Try.underlying141
  a75 := Try.isAgg141
  z75 := Try.sizeOf141
  v75 := Try.zeroValue141
  t79 := Try.underlying145
  a79 := Try.isAgg145
  z79 := Try.sizeOf145
  v79 := Try.zeroValue145
  t83 := Try.underlying153
  a83 := Try.isAgg153
  z83 := Try.sizeOf153
  v83 := Try.zeroValue153
  t84 := Try.underlying154
  a84 := Try.isAgg154
  z84 := Try.sizeOf154
  v84 := Try.zeroValue154 }
end Go.Proofs
