/-
  DERIVED: THE SHELF's CONTRACTS AT THIS DUMP, IN PLAIN WORDS (tools/lay-plain.mjs out of 'YtilbolgncpfmmaaLays.lean', which tools/lay-shelf.mjs wrote): THE SAME DECLARATIONS UNDER THE SAME NAMES: 'import', 'namespace', 'open', 'def', 'theorem' AND NOTHING ELSE: no command of the shelf's: FOR A HAND-IN. Each laying: the table of numbers ('.._ren') and one theorem, a field a fact of the dump's own or the kernel's comparison; each contract: ONE APPLICATION.
-/
import Derived.Shelf.SlGeneric
import Derived.Shelf.SortG.Plain
import Derived.Shelf.SortG.SortNone
import Derived.Shelf.SlicesE.Compact
import Derived.Ground.SlgnProg
import Derived.Test.YtilbolgncpfmmaaProg
namespace Go.Proofs
open Go.Shelf
def Try.sortInt_ren : Go.Shelf.Ren := ⟨fun | 53 => 121 | 64 => 114 | 63 => 140 | 78 => 137 | 79 => 138 | 70 => 147 | 71 => 148 | 72 => 149 | 73 => 150 | 74 => 151 | 75 => 152 | 59 => 153 | 76 => 154 | 77 => 155 | 88 => 157 | 89 => 143 | 90 => 144 | 91 => 158 | 92 => 159 | 68 => 160 | 96 => 161 | n => n, fun | 22 => 22 | 23 => 3 | 3 => 3 | 51 => 115 | 0 => 0 | 67 => 133 | 69 => 135 | 4 => 4 | 61 => 127 | 60 => 126 | 44 => 103 | 5 => 5 | 9 => 9 | 75 => 141 | 79 => 145 | 83 => 153 | 84 => 154 | n => n, fun | n => n⟩
theorem Try.sortInt : Go.Proofs.SlLaysN.n53 Try.prog Try.sortInt_ren := {
  mixed := by kernel_rfl
  f53 := ⟨Try.f121.name, by decide, Try.func121.trans (congrArg some (by kernel_rfl))⟩
  f59 := ⟨Try.f153.name, by decide, Try.func153.trans (congrArg some (by kernel_rfl))⟩
  f63 := ⟨Try.f140.name, by decide, Try.func140.trans (congrArg some (by kernel_rfl))⟩
  f64 := Try.func114.trans (congrArg some (by kernel_rfl))
  f68 := ⟨Try.f160.name, by decide, Try.func160.trans (congrArg some (by kernel_rfl))⟩
  f70 := ⟨Try.f147.name, by decide, Try.func147.trans (congrArg some (by kernel_rfl))⟩
  f71 := ⟨Try.f148.name, by decide, Try.func148.trans (congrArg some (by kernel_rfl))⟩
  f72 := ⟨Try.f149.name, by decide, Try.func149.trans (congrArg some (by kernel_rfl))⟩
  f73 := ⟨Try.f150.name, by decide, Try.func150.trans (congrArg some (by kernel_rfl))⟩
  f74 := ⟨Try.f151.name, by decide, Try.func151.trans (congrArg some (by kernel_rfl))⟩
  f75 := ⟨Try.f152.name, by decide, Try.func152.trans (congrArg some (by kernel_rfl))⟩
  f76 := ⟨Try.f154.name, by decide, Try.func154.trans (congrArg some (by kernel_rfl))⟩
  f77 := ⟨Try.f155.name, by decide, Try.func155.trans (congrArg some (by kernel_rfl))⟩
  f78 := Try.func137.trans (congrArg some (by kernel_rfl))
  f79 := Try.func138.trans (congrArg some (by kernel_rfl))
  f88 := ⟨Try.f157.name, by decide, Try.func157.trans (congrArg some (by kernel_rfl))⟩
  f89 := Try.func143.trans (congrArg some (by kernel_rfl))
  f90 := Try.func144.trans (congrArg some (by kernel_rfl))
  f91 := ⟨Try.f158.name, by decide, Try.func158.trans (congrArg some (by kernel_rfl))⟩
  f92 := ⟨Try.f159.name, by decide, Try.func159.trans (congrArg some (by kernel_rfl))⟩
  f96 := ⟨Try.f161.name, by decide, Try.func161.trans (congrArg some (by kernel_rfl))⟩
  t0 := Try.underlying0
  a0 := Try.isAgg0
  z0 := Try.sizeOf0
  v0 := Try.zeroValue0
  t3 := Try.underlying3
  a3 := Try.isAgg3
  z3 := Try.sizeOf3
  v3 := Try.zeroValue3
  t4 := Try.underlying4
  a4 := Try.isAgg4
  z4 := Try.sizeOf4
  v4 := Try.zeroValue4
  t5 := Try.underlying5
  a5 := Try.isAgg5
  z5 := Try.sizeOf5
  v5 := Try.zeroValue5
  t9 := Try.underlying9
  a9 := Try.isAgg9
  z9 := Try.sizeOf9
  v9 := Try.zeroValue9
  t22 := Try.underlying22
  a22 := Try.isAgg22
  z22 := Try.sizeOf22
  v22 := Try.zeroValue22
  t23 := Try.underlying3
  a23 := Try.isAgg3
  z23 := Try.sizeOf3
  v23 := Try.zeroValue3
  t44 := Try.underlying103
  a44 := Try.isAgg103
  z44 := Try.sizeOf103
  v44 := Try.zeroValue103
  t51 := Try.underlying115
  a51 := Try.isAgg115
  z51 := Try.sizeOf115
  v51 := Try.zeroValue115
  t60 := Try.underlying126
  a60 := Try.isAgg126
  z60 := Try.sizeOf126
  v60 := Try.zeroValue126
  t61 := Try.underlying127
  a61 := Try.isAgg127
  z61 := Try.sizeOf127
  v61 := Try.zeroValue127
  t67 := Try.underlying133
  a67 := Try.isAgg133
  z67 := Try.sizeOf133
  v67 := Try.zeroValue133
  t69 := Try.underlying135
  a69 := Try.isAgg135
  z69 := Try.sizeOf135
  v69 := Try.zeroValue135
  t75 := Try.underlying141
  a75 := Try.isAgg141
  z75 := Try.sizeOf141
  v75 := Try.zeroValue141
  t79 := Try.underlying145
  a79 := Try.isAgg145
  z79 := Try.sizeOf145
  v79 := Try.zeroValue145
  t83 := Try.underlying153
  a83 := Try.isAgg153
  z83 := Try.sizeOf153
  v83 := Try.zeroValue153
  t84 := Try.underlying154
  a84 := Try.isAgg154
  z84 := Try.sizeOf154
  v84 := Try.zeroValue154 }
def Try.compInt_ren : Go.Shelf.Ren := ⟨fun | 43 => 122 | n => n, fun | 22 => 22 | 23 => 3 | 3 => 3 | 4 => 4 | 0 => 0 | n => n, fun | n => n⟩
theorem Try.compInt : Go.Proofs.SlLaysE.n43 Try.prog Try.compInt_ren := {
  mixed := by kernel_rfl
  f43 := ⟨Try.f122.name, by decide, Try.func122.trans (congrArg some (by kernel_rfl))⟩
  t0 := Try.underlying0
  a0 := Try.isAgg0
  z0 := Try.sizeOf0
  v0 := Try.zeroValue0
  t3 := Try.underlying3
  a3 := Try.isAgg3
  z3 := Try.sizeOf3
  v3 := Try.zeroValue3
  t4 := Try.underlying4
  a4 := Try.isAgg4
  z4 := Try.sizeOf4
  v4 := Try.zeroValue4
  t22 := Try.underlying22
  a22 := Try.isAgg22
  z22 := Try.sizeOf22
  v22 := Try.zeroValue22
  a23 := Try.isAgg3
  z23 := Try.sizeOf3 }
def Try.compDay_ren : Go.Shelf.Ren := ⟨fun | 43 => 124 | n => n, fun | 22 => 23 | 23 => 26 | 3 => 3 | 4 => 4 | 0 => 0 | n => n, fun | n => n⟩
theorem Try.compDay : Go.Proofs.SlLaysE.n43 Try.prog Try.compDay_ren := {
  mixed := by kernel_rfl
  f43 := ⟨Try.f124.name, by decide, Try.func124.trans (congrArg some (by kernel_rfl))⟩
  t0 := Try.underlying0
  a0 := Try.isAgg0
  z0 := Try.sizeOf0
  v0 := Try.zeroValue0
  t3 := Try.underlying3
  a3 := Try.isAgg3
  z3 := Try.sizeOf3
  v3 := Try.zeroValue3
  t4 := Try.underlying4
  a4 := Try.isAgg4
  z4 := Try.sizeOf4
  v4 := Try.zeroValue4
  t22 := Try.underlying23
  a22 := Try.isAgg23
  z22 := Try.sizeOf23
  v22 := Try.zeroValue23
  a23 := Try.isAgg26
  z23 := Try.sizeOf26 }
end Go.Proofs
