/-
  DERIVED: THE SHELF's CONTRACTS AT THIS DUMP, IN PLAIN WORDS (tools/lay-plain.mjs out of 'YtmfeinilbjfnpaaGreatDoorLaidS.lean', which tools/lay-shelf.mjs wrote): THE SAME DECLARATIONS UNDER THE SAME NAMES: 'import', 'namespace', 'open', 'def', 'theorem' AND NOTHING ELSE: no command of the shelf's: FOR A HAND-IN. Each laying: the table of numbers ('.._ren') and one theorem, a field a fact of the dump's own or the kernel's comparison; each contract: ONE APPLICATION.
-/
import Derived.Shelf.SlGeneric
import Derived.Shelf.SlIter.Nil
import Derived.Shelf.SortM.Plain
import Derived.Shelf.SortM.SortNone
import Derived.Shelf.Strings.SlTrimAscii
import Derived.Shelf.Strconv.ParseUint10At
import Derived.Shelf.Strconv.Itoa3
import Derived.Shelf.Strings.Repeat
import Derived.Shelf.Strings.Builder1
import Derived.Ground.GgzProg
import Derived.Ground.SlgmProg
import Derived.Ground.NamesProg
import Derived.Test.YtmfeinilbjfnpaaGreatDoorProg
import Derived.Test.YtmfeinilbjfnpaaGreatDoorB3
import Derived.Lib.AtoiErrMem
import Derived.WideLaws
import Derived.Laws.Small
import Derived.ArgAppend
import Derived.Laws.Append
import Derived.ChangeKeysEq
import Derived.MapKept
import Derived.Carry
import Derived.Shelf.RegionOpen
namespace Go.Proofs
open Go.Shelf
def Tryz.trim_ren : Go.Shelf.Ren := ⟨fun | 160 => 108 | 232 => 124 | 231 => 123 | 227 => 125 | 234 => 127 | 233 => 126 | 236 => 129 | 235 => 128 | 228 => 156 | 271 => 159 | 151 => 158 | 197 => 157 | 120 => 180 | 152 => 179 | 260 => 178 | 137 => 187 | 119 => 188 | 224 => 170 | 225 => 169 | 217 => 168 | 266 => 184 | n => n, fun | 9 => 9 | 4 => 4 | 3 => 3 | 5 => 5 | 117 => 155 | 116 => 154 | 0 => 0 | 124 => 158 | 21 => 21 | 105 => 185 | 46 => 143 | 119 => 213 | 139 => 216 | 138 => 215 | n => n, fun | 3 => 4 | 4 => 5 | n => n⟩
theorem Tryz.trim : Go.Proofs.Lays.n160 Tryz.prog Tryz.trim_ren := {
  mixed := by kernel_rfl
  f119 := Tryz.func188.trans (congrArg some (by kernel_rfl))
  f120 := Tryz.func180.trans (congrArg some (by kernel_rfl))
  f137 := Tryz.func187.trans (congrArg some (by kernel_rfl))
  f151 := Tryz.func158.trans (congrArg some (by kernel_rfl))
  f152 := Tryz.func179.trans (congrArg some (by kernel_rfl))
  f160 := Tryz.func108.trans (congrArg some (by kernel_rfl))
  f197 := Tryz.func157.trans (congrArg some (by kernel_rfl))
  f217 := Tryz.func168.trans (congrArg some (by kernel_rfl))
  f224 := Tryz.func170.trans (congrArg some (by kernel_rfl))
  f225 := Tryz.func169.trans (congrArg some (by kernel_rfl))
  f227 := Tryz.func125.trans (congrArg some (by kernel_rfl))
  f228 := Tryz.func156.trans (congrArg some (by kernel_rfl))
  f231 := Tryz.func123.trans (congrArg some (by kernel_rfl))
  f232 := Tryz.func124.trans (congrArg some (by kernel_rfl))
  f233 := Tryz.func126.trans (congrArg some (by kernel_rfl))
  f234 := Tryz.func127.trans (congrArg some (by kernel_rfl))
  f235 := Tryz.func128.trans (congrArg some (by kernel_rfl))
  f236 := Tryz.func129.trans (congrArg some (by kernel_rfl))
  f260 := Tryz.func178.trans (congrArg some (by kernel_rfl))
  f266 := Tryz.func184.trans (congrArg some (by kernel_rfl))
  f271 := Tryz.func159.trans (congrArg some (by kernel_rfl))
  t0 := Tryz.underlying0
  a0 := Tryz.isAgg0
  z0 := Tryz.sizeOf0
  v0 := Tryz.zeroValue0
  t3 := Tryz.underlying3
  a3 := Tryz.isAgg3
  z3 := Tryz.sizeOf3
  v3 := Tryz.zeroValue3
  t4 := Tryz.underlying4
  a4 := Tryz.isAgg4
  z4 := Tryz.sizeOf4
  v4 := Tryz.zeroValue4
  t5 := Tryz.underlying5
  a5 := Tryz.isAgg5
  z5 := Tryz.sizeOf5
  v5 := Tryz.zeroValue5
  t9 := Tryz.underlying9
  a9 := Tryz.isAgg9
  z9 := Tryz.sizeOf9
  v9 := Tryz.zeroValue9
  t21 := Tryz.underlying21
  a21 := Tryz.isAgg21
  z21 := Tryz.sizeOf21
  v21 := Tryz.zeroValue21
  t46 := Tryz.underlying143
  a46 := Tryz.isAgg143
  z46 := Tryz.sizeOf143
  v46 := Tryz.zeroValue143
  t105 := Tryz.underlying185
  a105 := Tryz.isAgg185
  z105 := Tryz.sizeOf185
  v105 := Tryz.zeroValue185
  t116 := Tryz.underlying154
  a116 := Tryz.isAgg154
  z116 := Tryz.sizeOf154
  t117 := Tryz.underlying155
  a117 := Tryz.isAgg155
  z117 := Tryz.sizeOf155
  v117 := Tryz.zeroValue155
  t119 := Tryz.underlying213
  a119 := Tryz.isAgg213
  z119 := Tryz.sizeOf213
  t124 := Tryz.underlying158
  a124 := Tryz.isAgg158
  z124 := Tryz.sizeOf158
  v124 := Tryz.zeroValue158
  t138 := Tryz.underlying215
  a138 := Tryz.isAgg215
  z138 := Tryz.sizeOf215
  v138 := Tryz.zeroValue215
  t139 := Tryz.underlying216
  a139 := Tryz.isAgg216
  z139 := Tryz.sizeOf216
  v139 := Tryz.zeroValue216
  g3 := by kernel_rfl
  g4 := by kernel_rfl }
def Tryz.trimLeft_ren : Go.Shelf.Ren := ⟨fun | 161 => 109 | 231 => 123 | 227 => 125 | 233 => 126 | 235 => 128 | 228 => 156 | 197 => 157 | 151 => 158 | 260 => 178 | 152 => 179 | 137 => 187 | 119 => 188 | 224 => 170 | 225 => 169 | 217 => 168 | 266 => 184 | n => n, fun | 9 => 9 | 4 => 4 | 3 => 3 | 5 => 5 | 117 => 155 | 116 => 154 | 0 => 0 | 124 => 158 | 105 => 185 | 21 => 21 | 119 => 213 | 46 => 143 | 139 => 216 | 138 => 215 | n => n, fun | 3 => 4 | 4 => 5 | n => n⟩
theorem Tryz.trimLeft : Go.Proofs.Lays.n161 Tryz.prog Tryz.trimLeft_ren := {
  mixed := by kernel_rfl
  f119 := Tryz.func188.trans (congrArg some (by kernel_rfl))
  f137 := Tryz.func187.trans (congrArg some (by kernel_rfl))
  f151 := Tryz.func158.trans (congrArg some (by kernel_rfl))
  f152 := Tryz.func179.trans (congrArg some (by kernel_rfl))
  f161 := Tryz.func109.trans (congrArg some (by kernel_rfl))
  f197 := Tryz.func157.trans (congrArg some (by kernel_rfl))
  f217 := Tryz.func168.trans (congrArg some (by kernel_rfl))
  f224 := Tryz.func170.trans (congrArg some (by kernel_rfl))
  f225 := Tryz.func169.trans (congrArg some (by kernel_rfl))
  f227 := Tryz.func125.trans (congrArg some (by kernel_rfl))
  f228 := Tryz.func156.trans (congrArg some (by kernel_rfl))
  f231 := Tryz.func123.trans (congrArg some (by kernel_rfl))
  f233 := Tryz.func126.trans (congrArg some (by kernel_rfl))
  f235 := Tryz.func128.trans (congrArg some (by kernel_rfl))
  f260 := Tryz.func178.trans (congrArg some (by kernel_rfl))
  f266 := Tryz.func184.trans (congrArg some (by kernel_rfl))
  t0 := Tryz.underlying0
  a0 := Tryz.isAgg0
  z0 := Tryz.sizeOf0
  v0 := Tryz.zeroValue0
  t3 := Tryz.underlying3
  a3 := Tryz.isAgg3
  z3 := Tryz.sizeOf3
  v3 := Tryz.zeroValue3
  t4 := Tryz.underlying4
  a4 := Tryz.isAgg4
  z4 := Tryz.sizeOf4
  v4 := Tryz.zeroValue4
  t5 := Tryz.underlying5
  a5 := Tryz.isAgg5
  z5 := Tryz.sizeOf5
  v5 := Tryz.zeroValue5
  t9 := Tryz.underlying9
  a9 := Tryz.isAgg9
  z9 := Tryz.sizeOf9
  v9 := Tryz.zeroValue9
  t21 := Tryz.underlying21
  a21 := Tryz.isAgg21
  z21 := Tryz.sizeOf21
  v21 := Tryz.zeroValue21
  t46 := Tryz.underlying143
  a46 := Tryz.isAgg143
  z46 := Tryz.sizeOf143
  v46 := Tryz.zeroValue143
  t105 := Tryz.underlying185
  a105 := Tryz.isAgg185
  z105 := Tryz.sizeOf185
  v105 := Tryz.zeroValue185
  t116 := Tryz.underlying154
  a116 := Tryz.isAgg154
  z116 := Tryz.sizeOf154
  t117 := Tryz.underlying155
  a117 := Tryz.isAgg155
  z117 := Tryz.sizeOf155
  v117 := Tryz.zeroValue155
  t119 := Tryz.underlying213
  a119 := Tryz.isAgg213
  z119 := Tryz.sizeOf213
  t124 := Tryz.underlying158
  a124 := Tryz.isAgg158
  z124 := Tryz.sizeOf158
  v124 := Tryz.zeroValue158
  t138 := Tryz.underlying215
  a138 := Tryz.isAgg215
  z138 := Tryz.sizeOf215
  v138 := Tryz.zeroValue215
  t139 := Tryz.underlying216
  a139 := Tryz.isAgg216
  z139 := Tryz.sizeOf216
  v139 := Tryz.zeroValue216
  g3 := by kernel_rfl
  g4 := by kernel_rfl }
def Tryz.small_ren : Go.Shelf.Ren := ⟨fun | 283 => 136 | n => n, fun | 3 => 3 | 9 => 9 | 4 => 4 | n => n, fun | n => n⟩
theorem Tryz.small : Go.Proofs.Lays.n283 Tryz.prog Tryz.small_ren := {
  mixed := by kernel_rfl
  f283 := Tryz.func136.trans (congrArg some (by kernel_rfl))
  t3 := Tryz.underlying3
  a3 := Tryz.isAgg3
  z3 := Tryz.sizeOf3
  v3 := Tryz.zeroValue3
  t4 := Tryz.underlying4
  a4 := Tryz.isAgg4
  z4 := Tryz.sizeOf4
  v4 := Tryz.zeroValue4
  t9 := Tryz.underlying9
  a9 := Tryz.isAgg9
  z9 := Tryz.sizeOf9
  v9 := Tryz.zeroValue9 }
def Tryz.nd_ren : Go.Shelf.Ren := ⟨fun | 284 => 137 | 129 => 155 | 317 => 163 | 318 => 164 | n => n, fun | 53 => 123 | 3 => 3 | 212 => 194 | 0 => 0 | 4 => 4 | 46 => 143 | 5 => 5 | 9 => 9 | n => n, fun | 17 => 2 | n => n⟩
theorem Tryz.nd : Go.Proofs.LaysM.n284 Tryz.prog Tryz.nd_ren := {
  mixed := by kernel_rfl
  f129 := Tryz.func155.trans (congrArg some (by kernel_rfl))
  f284 := Tryz.func137.trans (congrArg some (by kernel_rfl))
  f317 := Tryz.func163.trans (congrArg some (by kernel_rfl))
  f318 := Tryz.func164.trans (congrArg some (by kernel_rfl))
  t0 := Tryz.underlying0
  a0 := Tryz.isAgg0
  z0 := Tryz.sizeOf0
  v0 := Tryz.zeroValue0
  t3 := Tryz.underlying3
  a3 := Tryz.isAgg3
  z3 := Tryz.sizeOf3
  v3 := Tryz.zeroValue3
  t4 := Tryz.underlying4
  a4 := Tryz.isAgg4
  z4 := Tryz.sizeOf4
  v4 := Tryz.zeroValue4
  t5 := Tryz.underlying5
  a5 := Tryz.isAgg5
  z5 := Tryz.sizeOf5
  v5 := Tryz.zeroValue5
  t9 := Tryz.underlying9
  a9 := Tryz.isAgg9
  z9 := Tryz.sizeOf9
  v9 := Tryz.zeroValue9
  t46 := Tryz.underlying143
  a46 := Tryz.isAgg143
  z46 := Tryz.sizeOf143
  v46 := Tryz.zeroValue143
  t53 := Tryz.underlying123
  a53 := Tryz.isAgg123
  z53 := Tryz.sizeOf123
  v53 := Tryz.zeroValue123
  t212 := Tryz.underlying194
  a212 := Tryz.isAgg194
  z212 := Tryz.sizeOf194
  v212 := Tryz.zeroValue194
  g17 := by kernel_rfl
  i0 := by kernel_rfl
  i3 := by kernel_rfl
  i4 := by kernel_rfl
  i5 := by kernel_rfl
  i9 := by kernel_rfl
  i46 := by kernel_rfl
  i53 := by kernel_rfl
  i212 := by kernel_rfl
  m17 := by kernel_rfl }
def Tryz.fb_ren : Go.Shelf.Ren := ⟨fun | 285 => 138 | n => n, fun | 37 => 74 | 53 => 123 | 3 => 3 | 4 => 4 | 51 => 170 | 9 => 9 | 5 => 5 | 0 => 0 | n => n, fun | n => n⟩
theorem Tryz.fb : Go.Proofs.Lays.n285 Tryz.prog Tryz.fb_ren := {
  mixed := by kernel_rfl
  f285 := Tryz.func138.trans (congrArg some (by kernel_rfl))
  t0 := Tryz.underlying0
  a0 := Tryz.isAgg0
  z0 := Tryz.sizeOf0
  v0 := Tryz.zeroValue0
  t3 := Tryz.underlying3
  a3 := Tryz.isAgg3
  z3 := Tryz.sizeOf3
  v3 := Tryz.zeroValue3
  t4 := Tryz.underlying4
  a4 := Tryz.isAgg4
  z4 := Tryz.sizeOf4
  v4 := Tryz.zeroValue4
  t5 := Tryz.underlying5
  a5 := Tryz.isAgg5
  z5 := Tryz.sizeOf5
  v5 := Tryz.zeroValue5
  t9 := Tryz.underlying9
  a9 := Tryz.isAgg9
  z9 := Tryz.sizeOf9
  v9 := Tryz.zeroValue9
  t37 := Tryz.underlying74
  a37 := Tryz.isAgg74
  z37 := Tryz.sizeOf74
  v37 := Tryz.zeroValue74
  t51 := Tryz.underlying170
  a51 := Tryz.isAgg170
  z51 := Tryz.sizeOf170
  v51 := Tryz.zeroValue170
  t53 := Tryz.underlying123
  a53 := Tryz.isAgg123
  z53 := Tryz.sizeOf123
  v53 := Tryz.zeroValue123 }
def Tryz.pu_ren : Go.Shelf.Ren := ⟨fun | 287 => 111 | 321 => 130 | 322 => 131 | n => n, fun | 9 => 9 | 3 => 3 | 53 => 123 | 75 => 79 | 4 => 4 | 167 => 159 | 5 => 5 | 46 => 143 | 37 => 74 | 0 => 0 | 21 => 21 | 80 => 84 | n => n, fun | n => n⟩
theorem Tryz.pu : Go.Proofs.Lays.n287 Tryz.prog Tryz.pu_ren := {
  mixed := by kernel_rfl
  f287 := Tryz.func111.trans (congrArg some (by kernel_rfl))
  f321 := Tryz.func130.trans (congrArg some (by kernel_rfl))
  f322 := Tryz.func131.trans (congrArg some (by kernel_rfl))
  t0 := Tryz.underlying0
  a0 := Tryz.isAgg0
  z0 := Tryz.sizeOf0
  v0 := Tryz.zeroValue0
  t3 := Tryz.underlying3
  a3 := Tryz.isAgg3
  z3 := Tryz.sizeOf3
  v3 := Tryz.zeroValue3
  t4 := Tryz.underlying4
  a4 := Tryz.isAgg4
  z4 := Tryz.sizeOf4
  v4 := Tryz.zeroValue4
  t5 := Tryz.underlying5
  a5 := Tryz.isAgg5
  z5 := Tryz.sizeOf5
  v5 := Tryz.zeroValue5
  t9 := Tryz.underlying9
  a9 := Tryz.isAgg9
  z9 := Tryz.sizeOf9
  v9 := Tryz.zeroValue9
  t21 := Tryz.underlying21
  a21 := Tryz.isAgg21
  z21 := Tryz.sizeOf21
  v21 := Tryz.zeroValue21
  t37 := Tryz.underlying74
  a37 := Tryz.isAgg74
  z37 := Tryz.sizeOf74
  v37 := Tryz.zeroValue74
  t46 := Tryz.underlying143
  a46 := Tryz.isAgg143
  z46 := Tryz.sizeOf143
  v46 := Tryz.zeroValue143
  t53 := Tryz.underlying123
  a53 := Tryz.isAgg123
  z53 := Tryz.sizeOf123
  v53 := Tryz.zeroValue123
  t75 := Tryz.underlying79
  a75 := Tryz.isAgg79
  z75 := Tryz.sizeOf79
  v75 := Tryz.zeroValue79
  t167 := Tryz.underlying159
  a167 := Tryz.isAgg159
  z167 := Tryz.sizeOf159
  v167 := Tryz.zeroValue159 }
def Tryz.repeat_ren : Go.Shelf.Ren := ⟨fun | 105 => 92 | 212 => 114 | 99 => 115 | 165 => 116 | 166 => 50 | 170 => 117 | 169 => 53 | 263 => 140 | 264 => 141 | 206 => 142 | 240 => 82 | 241 => 143 | 276 => 104 | 277 => 167 | n => n, fun | 9 => 9 | 3 => 3 | 4 => 4 | 20 => 20 | 0 => 0 | 46 => 143 | 109 => 144 | 5 => 5 | 72 => 76 | 76 => 80 | 51 => 170 | 146 => 171 | 53 => 123 | 148 => 173 | 70 => 73 | 37 => 74 | 75 => 79 | 127 => 116 | 164 => 138 | 80 => 84 | n => n, fun | n => n⟩
theorem Tryz.repeat : Go.Proofs.Lays.n105 Tryz.prog Tryz.repeat_ren := {
  mixed := by kernel_rfl
  f99 := Tryz.func115.trans (congrArg some (by kernel_rfl))
  f105 := Tryz.func92.trans (congrArg some (by kernel_rfl))
  f165 := Tryz.func116.trans (congrArg some (by kernel_rfl))
  f166 := Tryz.func50.trans (congrArg some (by kernel_rfl))
  f169 := Tryz.func53.trans (congrArg some (by kernel_rfl))
  f170 := Tryz.func117.trans (congrArg some (by kernel_rfl))
  f206 := Tryz.func142.trans (congrArg some (by kernel_rfl))
  f212 := Tryz.func114.trans (congrArg some (by kernel_rfl))
  f240 := Tryz.func82.trans (congrArg some (by kernel_rfl))
  f241 := Tryz.func143.trans (congrArg some (by kernel_rfl))
  f263 := Tryz.func140.trans (congrArg some (by kernel_rfl))
  f264 := Tryz.func141.trans (congrArg some (by kernel_rfl))
  f276 := Tryz.func104.trans (congrArg some (by kernel_rfl))
  f277 := Tryz.func167.trans (congrArg some (by kernel_rfl))
  t0 := Tryz.underlying0
  a0 := Tryz.isAgg0
  z0 := Tryz.sizeOf0
  v0 := Tryz.zeroValue0
  t3 := Tryz.underlying3
  a3 := Tryz.isAgg3
  z3 := Tryz.sizeOf3
  v3 := Tryz.zeroValue3
  t4 := Tryz.underlying4
  a4 := Tryz.isAgg4
  z4 := Tryz.sizeOf4
  v4 := Tryz.zeroValue4
  t5 := Tryz.underlying5
  a5 := Tryz.isAgg5
  z5 := Tryz.sizeOf5
  v5 := Tryz.zeroValue5
  t9 := Tryz.underlying9
  a9 := Tryz.isAgg9
  z9 := Tryz.sizeOf9
  v9 := Tryz.zeroValue9
  t20 := Tryz.underlying20
  a20 := Tryz.isAgg20
  z20 := Tryz.sizeOf20
  v20 := Tryz.zeroValue20
  t37 := Tryz.underlying74
  a37 := Tryz.isAgg74
  z37 := Tryz.sizeOf74
  v37 := Tryz.zeroValue74
  t46 := Tryz.underlying143
  a46 := Tryz.isAgg143
  z46 := Tryz.sizeOf143
  v46 := Tryz.zeroValue143
  t51 := Tryz.underlying170
  a51 := Tryz.isAgg170
  z51 := Tryz.sizeOf170
  v51 := Tryz.zeroValue170
  t53 := Tryz.underlying123
  a53 := Tryz.isAgg123
  z53 := Tryz.sizeOf123
  v53 := Tryz.zeroValue123
  t70 := Tryz.underlying73
  a70 := Tryz.isAgg73
  z70 := Tryz.sizeOf73
  v70 := Tryz.zeroValue73
  t72 := Tryz.underlying76
  a72 := Tryz.isAgg76
  z72 := Tryz.sizeOf76
  v72 := Tryz.zeroValue76
  t75 := Tryz.underlying79
  a75 := Tryz.isAgg79
  z75 := Tryz.sizeOf79
  v75 := Tryz.zeroValue79
  t76 := Tryz.underlying80
  a76 := Tryz.isAgg80
  z76 := Tryz.sizeOf80
  v76 := Tryz.zeroValue80
  t109 := Tryz.underlying144
  a109 := Tryz.isAgg144
  z109 := Tryz.sizeOf144
  v109 := Tryz.zeroValue144
  t127 := Tryz.underlying116
  a127 := Tryz.isAgg116
  z127 := Tryz.sizeOf116
  v127 := Tryz.zeroValue116
  t146 := Tryz.underlying171
  a146 := Tryz.isAgg171
  z146 := Tryz.sizeOf171
  v146 := Tryz.zeroValue171
  t148 := Tryz.underlying173
  a148 := Tryz.isAgg173
  z148 := Tryz.sizeOf173
  v148 := Tryz.zeroValue173
  t164 := Tryz.underlying138
  a164 := Tryz.isAgg138
  z164 := Tryz.sizeOf138
  v164 := Tryz.zeroValue138 }
def Tryz.bst_ren : Go.Shelf.Ren := ⟨fun | 169 => 53 | n => n, fun | 70 => 73 | 9 => 9 | 0 => 0 | 72 => 76 | 37 => 74 | 127 => 116 | 3 => 3 | 5 => 5 | n => n, fun | n => n⟩
theorem Tryz.bst : Go.Proofs.Lays.n169 Tryz.prog Tryz.bst_ren := {
  mixed := by kernel_rfl
  f169 := Tryz.func53.trans (congrArg some (by kernel_rfl))
  t0 := Tryz.underlying0
  a0 := Tryz.isAgg0
  z0 := Tryz.sizeOf0
  v0 := Tryz.zeroValue0
  t3 := Tryz.underlying3
  a3 := Tryz.isAgg3
  z3 := Tryz.sizeOf3
  v3 := Tryz.zeroValue3
  t9 := Tryz.underlying9
  a9 := Tryz.isAgg9
  z9 := Tryz.sizeOf9
  v9 := Tryz.zeroValue9
  t37 := Tryz.underlying74
  a37 := Tryz.isAgg74
  z37 := Tryz.sizeOf74
  v37 := Tryz.zeroValue74
  t70 := Tryz.underlying73
  a70 := Tryz.isAgg73
  z70 := Tryz.sizeOf73
  v70 := Tryz.zeroValue73
  t72 := Tryz.underlying76
  a72 := Tryz.isAgg76
  z72 := Tryz.sizeOf76
  v72 := Tryz.zeroValue76
  t127 := Tryz.underlying116
  a127 := Tryz.isAgg116
  z127 := Tryz.sizeOf116
  v127 := Tryz.zeroValue116 }
def Tryz.keys_ren : Go.Shelf.Ren := ⟨fun | 7 => 84 | 10 => 107 | n => n, fun | 23 => 67 | 26 => 9 | 3 => 27 | 28 => 119 | 0 => 0 | 27 => 118 | 33 => 71 | 4 => 4 | n => n, fun | n => n⟩
theorem Tryz.keys : Go.Proofs.SlLaysZ.n7 Tryz.prog Tryz.keys_ren := {
  mixed := by kernel_rfl
  f7 := ⟨Tryz.f84.name, by decide, Tryz.func84.trans (congrArg some (by kernel_rfl))⟩
  f10 := ⟨Tryz.f107.name, by decide, Tryz.func107.trans (congrArg some (by kernel_rfl))⟩
  t0 := Tryz.underlying0
  a0 := Tryz.isAgg0
  z0 := Tryz.sizeOf0
  v0 := Tryz.zeroValue0
  t4 := Tryz.underlying4
  a4 := Tryz.isAgg4
  z4 := Tryz.sizeOf4
  v4 := Tryz.zeroValue4
  t23 := Tryz.underlying67
  a23 := Tryz.isAgg67
  z23 := Tryz.sizeOf67
  v23 := Tryz.zeroValue67
  t26 := Tryz.underlying9
  a26 := Tryz.isAgg9
  z26 := Tryz.sizeOf9
  v26 := Tryz.zeroValue9
  t27 := Tryz.underlying118
  a27 := Tryz.isAgg118
  z27 := Tryz.sizeOf118
  v27 := Tryz.zeroValue118
  t28 := Tryz.underlying119
  a28 := Tryz.isAgg119
  z28 := Tryz.sizeOf119
  v28 := Tryz.zeroValue119
  t33 := Tryz.underlying71
  a33 := Tryz.isAgg71
  z33 := Tryz.sizeOf71
  v33 := Tryz.zeroValue71 }
def Tryz.sorted_ren : Go.Shelf.Ren := ⟨fun | 6 => 83 | 8 => 105 | 9 => 106 | 11 => 120 | 13 => 122 | 12 => 121 | 23 => 154 | 24 => 155 | 14 => 145 | 15 => 146 | 16 => 147 | 17 => 148 | 18 => 149 | 19 => 150 | 20 => 151 | 21 => 152 | 22 => 153 | 25 => 172 | 26 => 173 | 27 => 174 | 28 => 175 | 29 => 176 | 30 => 177 | 31 => 186 | n => n, fun | 26 => 9 | 28 => 119 | 24 => 34 | 0 => 0 | 3 => 3 | 37 => 143 | 48 => 170 | 50 => 123 | 4 => 4 | 40 => 178 | 39 => 177 | 45 => 105 | 5 => 5 | 9 => 9 | 51 => 199 | 55 => 203 | 57 => 210 | 58 => 211 | 33 => 71 | n => n, fun | n => n⟩
theorem Tryz.sorted : Go.Proofs.SlLaysZ.n6 Tryz.prog Tryz.sorted_ren := {
  mixed := by kernel_rfl
  f6 := ⟨Tryz.f83.name, by decide, Tryz.func83.trans (congrArg some (by kernel_rfl))⟩
  f8 := ⟨Tryz.f105.name, by decide, Tryz.func105.trans (congrArg some (by kernel_rfl))⟩
  f11 := ⟨Tryz.f120.name, by decide, Tryz.func120.trans (congrArg some (by kernel_rfl))⟩
  t0 := Tryz.underlying0
  a0 := Tryz.isAgg0
  z0 := Tryz.sizeOf0
  v0 := Tryz.zeroValue0
  t24 := Tryz.underlying34
  a24 := Tryz.isAgg34
  z24 := Tryz.sizeOf34
  v24 := Tryz.zeroValue34
  t26 := Tryz.underlying9
  a26 := Tryz.isAgg9
  z26 := Tryz.sizeOf9
  v26 := Tryz.zeroValue9
  t28 := Tryz.underlying119
  a28 := Tryz.isAgg119
  z28 := Tryz.sizeOf119
  v28 := Tryz.zeroValue119
  i26 := by kernel_rfl }
def Tryz.sortStr_ren : Go.Shelf.Ren := ⟨fun | 6 => 106 | 8 => 122 | 9 => 121 | 19 => 154 | 20 => 155 | 21 => 145 | 22 => 146 | 23 => 147 | 24 => 148 | 25 => 149 | 26 => 150 | 27 => 151 | 28 => 152 | 29 => 153 | 36 => 172 | 31 => 173 | 32 => 174 | 37 => 175 | 38 => 176 | 39 => 177 | 41 => 186 | n => n, fun | 27 => 34 | 29 => 9 | 3 => 3 | 32 => 143 | 26 => 34 | 0 => 0 | 44 => 170 | 46 => 123 | 4 => 4 | 36 => 178 | 35 => 177 | 41 => 105 | 5 => 5 | 9 => 9 | 53 => 199 | 57 => 203 | 63 => 210 | 64 => 211 | n => n, fun | n => n⟩
theorem Tryz.sortStr : Go.Proofs.SlLaysM.n6 Tryz.prog Tryz.sortStr_ren := {
  mixed := by kernel_rfl
  f6 := ⟨Tryz.f106.name, by decide, Tryz.func106.trans (congrArg some (by kernel_rfl))⟩
  f8 := Tryz.func122.trans (congrArg some (by kernel_rfl))
  f9 := ⟨Tryz.f121.name, by decide, Tryz.func121.trans (congrArg some (by kernel_rfl))⟩
  f19 := Tryz.func154.trans (congrArg some (by kernel_rfl))
  f20 := Tryz.func155.trans (congrArg some (by kernel_rfl))
  f21 := ⟨Tryz.f145.name, by decide, Tryz.func145.trans (congrArg some (by kernel_rfl))⟩
  f22 := ⟨Tryz.f146.name, by decide, Tryz.func146.trans (congrArg some (by kernel_rfl))⟩
  f23 := ⟨Tryz.f147.name, by decide, Tryz.func147.trans (congrArg some (by kernel_rfl))⟩
  f24 := ⟨Tryz.f148.name, by decide, Tryz.func148.trans (congrArg some (by kernel_rfl))⟩
  f25 := ⟨Tryz.f149.name, by decide, Tryz.func149.trans (congrArg some (by kernel_rfl))⟩
  f26 := ⟨Tryz.f150.name, by decide, Tryz.func150.trans (congrArg some (by kernel_rfl))⟩
  f27 := ⟨Tryz.f151.name, by decide, Tryz.func151.trans (congrArg some (by kernel_rfl))⟩
  f28 := ⟨Tryz.f152.name, by decide, Tryz.func152.trans (congrArg some (by kernel_rfl))⟩
  f29 := ⟨Tryz.f153.name, by decide, Tryz.func153.trans (congrArg some (by kernel_rfl))⟩
  f31 := Tryz.func173.trans (congrArg some (by kernel_rfl))
  f32 := Tryz.func174.trans (congrArg some (by kernel_rfl))
  f36 := ⟨Tryz.f172.name, by decide, Tryz.func172.trans (congrArg some (by kernel_rfl))⟩
  f37 := ⟨Tryz.f175.name, by decide, Tryz.func175.trans (congrArg some (by kernel_rfl))⟩
  f38 := ⟨Tryz.f176.name, by decide, Tryz.func176.trans (congrArg some (by kernel_rfl))⟩
  f39 := ⟨Tryz.f177.name, by decide, Tryz.func177.trans (congrArg some (by kernel_rfl))⟩
  f41 := ⟨Tryz.f186.name, by decide, Tryz.func186.trans (congrArg some (by kernel_rfl))⟩
  t0 := Tryz.underlying0
  a0 := Tryz.isAgg0
  z0 := Tryz.sizeOf0
  v0 := Tryz.zeroValue0
  t3 := Tryz.underlying3
  a3 := Tryz.isAgg3
  z3 := Tryz.sizeOf3
  v3 := Tryz.zeroValue3
  t4 := Tryz.underlying4
  a4 := Tryz.isAgg4
  z4 := Tryz.sizeOf4
  v4 := Tryz.zeroValue4
  t5 := Tryz.underlying5
  a5 := Tryz.isAgg5
  z5 := Tryz.sizeOf5
  v5 := Tryz.zeroValue5
  t9 := Tryz.underlying9
  a9 := Tryz.isAgg9
  z9 := Tryz.sizeOf9
  v9 := Tryz.zeroValue9
  t26 := Tryz.underlying34
  a26 := Tryz.isAgg34
  z26 := Tryz.sizeOf34
  v26 := Tryz.zeroValue34
  t27 := Tryz.underlying34
  a27 := Tryz.isAgg34
  z27 := Tryz.sizeOf34
  v27 := Tryz.zeroValue34
  t29 := Tryz.underlying9
  a29 := Tryz.isAgg9
  z29 := Tryz.sizeOf9
  v29 := Tryz.zeroValue9
  t32 := Tryz.underlying143
  a32 := Tryz.isAgg143
  z32 := Tryz.sizeOf143
  v32 := Tryz.zeroValue143
  t35 := Tryz.underlying177
  a35 := Tryz.isAgg177
  z35 := Tryz.sizeOf177
  v35 := Tryz.zeroValue177
  t36 := Tryz.underlying178
  a36 := Tryz.isAgg178
  z36 := Tryz.sizeOf178
  v36 := Tryz.zeroValue178
  t41 := Tryz.underlying105
  a41 := Tryz.isAgg105
  z41 := Tryz.sizeOf105
  v41 := Tryz.zeroValue105
  t44 := Tryz.underlying170
  a44 := Tryz.isAgg170
  z44 := Tryz.sizeOf170
  v44 := Tryz.zeroValue170
  t46 := Tryz.underlying123
  a46 := Tryz.isAgg123
  z46 := Tryz.sizeOf123
  v46 := Tryz.zeroValue123
  t53 := Tryz.underlying199
  a53 := Tryz.isAgg199
  z53 := Tryz.sizeOf199
  v53 := Tryz.zeroValue199
  t57 := Tryz.underlying203
  a57 := Tryz.isAgg203
  z57 := Tryz.sizeOf203
  v57 := Tryz.zeroValue203
  t63 := Tryz.underlying210
  a63 := Tryz.isAgg210
  z63 := Tryz.sizeOf210
  v63 := Tryz.zeroValue210
  t64 := Tryz.underlying211
  a64 := Tryz.isAgg211
  z64 := Tryz.sizeOf211
  v64 := Tryz.zeroValue211 }
end Go.Proofs
namespace Go.Proofs.YtmfeinilbjfnpaaGreatDoor
open Go.RowKit Px

def hasP (s p : Str) : Bool := decide (p.length ≤ s.length) && (s.take p.length == p)

set_option maxRecDepth 20000 in
theorem wHasPrefixL (s p : Str) : PCalls Tryz.prog 142 [dS s, dS p] (.d (dB (hasP s p))) := by
  refine pcalls_of_pw Tryz.func142 rfl Tryz.ntmps142 Tryz.results142 (by simp) fun B w0 => ?_
  by_cases h : p.length ≤ s.length
  · have t1 : decide ((s.length : Int) ≥ (p.length : Int)) = true := by simpa using h
    refine pw_seq ?_; refine pw_region ?_; refine yAd rfl ?_; refine yQ ?_; refine pw_seq ?_; refine pw_region ?_; refine yMd rfl ?_; refine yNs rfl ?_; refine yMd rfl ?_; refine yNs rfl ?_; refine yB rfl rfl rfl rfl ?_
    refine yMd rfl ?_
    rw [t1]
    refine yMd rfl ?_; refine yMd rfl ?_; refine yNs rfl ?_; refine yS0h (l' := s.take p.length) (by omega) (by omega) (by simp) rfl rfl ?_; refine yMd rfl ?_; refine yBse rfl rfl ?_; refine yPd rfl rfl ?_; refine yAd rfl ?_
    refine yQ ?_; refine pw_ret ?_
    exact q_ret _ (.tmp rfl .nil) (by simp [hasP, h, resSV])
  · have t1 : decide ((s.length : Int) ≥ (p.length : Int)) = false := by simpa using h
    refine pw_seq ?_; refine pw_region ?_; refine yAd rfl ?_; refine yQ ?_; refine pw_seq ?_; refine pw_region ?_; refine yMd rfl ?_; refine yNs rfl ?_; refine yMd rfl ?_; refine yNs rfl ?_; refine yB rfl rfl rfl rfl ?_
    refine yMd rfl ?_
    rw [t1]
    refine yO rfl ?_; refine yO rfl ?_; refine yO rfl ?_; refine yO rfl ?_; refine yO rfl ?_; refine yO rfl ?_; refine yVd rfl rfl ?_; refine yAd rfl ?_; refine yQ ?_; refine pw_ret ?_
    exact q_ret _ (.tmp rfl .nil) (by simp [hasP, h, resSV])

set_option maxRecDepth 20000 in
theorem wCutPrefixL (s p : Str) : PCalls Tryz.prog 118 [dS s, dS p] (.tup [dS (if hasP s p then s.drop p.length else s), dB (hasP s p)]) := by
  have c1 := wHasPrefixL s p
  refine pcalls_of_pw Tryz.func118 rfl Tryz.ntmps118 Tryz.results118 (by simp) fun B w0 => ?_
  cases h : hasP s p with
  | false =>
    rw [h] at c1
    refine pw_seq ?_; refine pw_region ?_; refine yAd rfl ?_; refine yAd rfl ?_; refine yQ ?_; refine pw_seq ?_; refine pw_seq ?_; refine pw_region ?_; refine yMd rfl ?_; refine yMd rfl ?_; refine yC (c1) rfl rfl ?_
    refine yU rfl rfl rfl ?_; refine yQ ?_; refine pw_ct rfl ?_; refine pw_seq ?_; refine pw_region ?_; refine yMd rfl ?_; refine yAd rfl ?_; refine yAd rfl ?_; refine yQ ?_; refine pw_ret ?_; refine q_then_ret ?_
    exact q_ret _ (.tmp rfl (.tmp rfl .nil)) rfl
  | true =>
    rw [h] at c1
    have hl : p.length ≤ s.length := by simp [hasP] at h; exact h.1
    refine pw_seq ?_; refine pw_region ?_; refine yAd rfl ?_; refine yAd rfl ?_; refine yQ ?_; refine pw_seq ?_; refine pw_seq ?_; refine pw_region ?_; refine yMd rfl ?_; refine yMd rfl ?_; refine yC (c1) rfl rfl ?_
    refine yU rfl rfl rfl ?_; refine yQ ?_; refine pw_cf rfl ?_; refine pw_skip ?_; refine pw_seq ?_; refine pw_region ?_; refine yMd rfl ?_; refine yMd rfl ?_; refine yNs rfl ?_
    refine ySl0 (l' := s.drop p.length) (by omega) (by omega) (by simp) rfl rfl ?_; refine yAd rfl ?_; refine yAd rfl ?_; refine yQ ?_; refine pw_ret ?_
    exact q_ret _ (.tmp rfl (.tmp rfl .nil)) rfl

set_option maxRecDepth 20000 in
theorem wCutPrefix (s p : Str) : PCalls Tryz.prog 94 [dS s, dS p] (.tup [dS (if hasP s p then s.drop p.length else s), dB (hasP s p)]) := by
  have c1 := wCutPrefixL s p
  refine pcalls_of_pw Tryz.func94 rfl Tryz.ntmps94 Tryz.results94 (by simp) fun B w0 => ?_
  refine pw_seq ?_; refine pw_region ?_; refine yAd rfl ?_; refine yAd rfl ?_; refine yQ ?_; refine pw_seq ?_; refine pw_region ?_; refine yMd rfl ?_; refine yMd rfl ?_; refine yC (c1) rfl rfl ?_; refine yX rfl rfl ?_
  refine yX rfl rfl ?_; refine yAd rfl ?_; refine yAd rfl ?_; refine yQ ?_; refine pw_ret ?_
  exact q_ret _ (.tmp rfl (.tmp rfl .nil)) rfl

theorem hasP_minus (a : Str) : hasP a [45] = decide (a.head? = some 45) ∧ (if hasP a [45] then a.drop 1 else a) = bod a := by
  cases a with
  | nil => exact ⟨rfl, rfl⟩
  | cons x a =>
    by_cases h : x = 45
    · subst h; exact ⟨by simp [hasP], by simp [hasP, bod]⟩
    · have : hasP (x :: a) [45] = false := by simp [hasP, h]
      rw [this]
      exact ⟨by simpa using h, by simp [bod, h]⟩
theorem wCutMinus (a : Str) : PCalls Tryz.prog 94 [dS a, dS [45]] (.tup [dS (bod a), dB (decide (a.head? = some 45))]) := by
  have h := wCutPrefix a [45]
  rw [show ([45] : Str).length = 1 from rfl, (hasP_minus a).2, (hasP_minus a).1] at h
  exact h

/-- strings.Trim, at ten digits -/
def cs10 : Str := [48, 49, 50, 51, 52, 53, 54, 55, 56, 57]
theorem cs10_mem (b : UInt8) : cs10.contains b = isD b := by
  have h : ∀ n, n < 256 → cs10.contains (UInt8.ofNat n) = isD (UInt8.ofNat n) := by decide +kernel
  have := h b.toNat b.toNat_lt
  simpa using this
theorem trimL_eq (l : Str) : Lib.trimLeftS l cs10 = l.dropWhile isD := by
  have hp : (fun b => cs10.contains b) = isD := funext cs10_mem
  show l.dropWhile (fun b => cs10.contains b) = _
  rw [hp]
theorem trimR_eq (l : Str) : Lib.trimRightS l cs10 = (l.reverse.dropWhile isD).reverse := by
  have hp : (fun b => cs10.contains b) = isD := funext cs10_mem
  show (l.reverse.dropWhile (fun b => cs10.contains b)).reverse = _
  rw [hp]
theorem dropW_nil {p : UInt8 → Bool} {l : Str} : l.dropWhile p = [] ↔ l.all p = true := by
  induction l with
  | nil => simp
  | cons x l ih =>
    rw [List.dropWhile_cons, List.all_cons, Bool.and_eq_true, ← ih]
    cases p x <;> simp
theorem dropW_head {p : UInt8 → Bool} {l r : Str} {x : UInt8} (h : l.dropWhile p = x :: r) : p x = false := by
  induction l with
  | nil => cases h
  | cons y l ih =>
    rw [List.dropWhile_cons] at h
    split at h
    · exact ih h
    · rename_i hy
      cases h
      simpa using hy
theorem trimS_nil (l : Str) : ((Lib.trimS l cs10) == []) = l.all isD := by
  have h0 : Lib.trimS l cs10 = Lib.trimLeftS (Lib.trimRightS l cs10) cs10 := rfl
  rw [Bool.eq_iff_iff, beq_iff_eq, h0, trimL_eq, trimR_eq, dropW_nil, List.all_reverse]
  rw [← List.all_reverse (l := l), ← dropW_nil (l := l.reverse)]
  constructor
  · intro h
    cases hd : l.reverse.dropWhile isD with
    | nil => rfl
    | cons x r =>
      have := dropW_head hd
      rw [hd] at h
      simp [this] at h
  · intro h; rw [h]; rfl
theorem one_all (v : Value) (h : v.oneCell' = true) : ∀ u ∈ [v], u.oneCell' = true := fun u hu => by rw [List.mem_singleton.1 hu]; exact h
theorem wTrim (s : Str) (hs : s.length ≤ 9223372036854775807) : PCalls Tryz.prog 108 [dS s, dS cs10] (.d (dS (Lib.trimS s cs10))) :=
  PCalls.of_plain (us := [vS (Lib.trimS s cs10)]) (vs := [vS s, vS cs10]) rfl (one_all _ rfl) fun w => by
    have := Any.strings_Trim_laid Tryz.trim (by kernel_rfl) ⟨s.toArray⟩ ⟨cs10.toArray⟩ w (show s.toArray.size ≤ 9223372036854775807 by rw [List.size_toArray]; exact hs) (by decide) (ascii_of_all (by decide))
    exact this
theorem wTrimLeft0 (s : Str) : PCalls Tryz.prog 109 [dS s, dS [48]] (.d (dS (s.dropWhile (· == 48)))) :=
  PCalls.of_plain (us := [vS (s.dropWhile (· == 48))]) (vs := [vS s, vS [48]]) rfl (one_all _ rfl) fun w => by
    have := Any.strings_TrimLeft_laid Tryz.trimLeft (by kernel_rfl) ⟨s.toArray⟩ ⟨([48] : Str).toArray⟩ w (by decide) (ascii_of_all (by decide))
    have e : Lib.trimLeftS s [48] = s.dropWhile (· == 48) := by
      have hp : (fun b => ([48] : Str).contains b) = fun b => b == 48 := funext fun b => Bool.eq_iff_iff.2 (by simp)
      show s.dropWhile (fun b => ([48] : Str).contains b) = _
      rw [hp]
    have e2 : Lib.trimLeftS (ByteArray.mk s.toArray).data.toList (ByteArray.mk ([48] : Str).toArray).data.toList = s.dropWhile (· == 48) := e
    rw [e2] at this
    exact this

set_option maxRecDepth 20000 in
theorem wDigits (a : Str) (ha : a.length ≤ 9223372036854775807) : PCalls Tryz.prog 85 [dS a] (.tup [dS (dgs a).1, dB (dgs a).2]) := by
  have c1 := wCutMinus a
  have hb : (bod a).length ≤ 9223372036854775807 := by
    unfold bod
    split
    · rw [List.length_tail]; omega
    · exact ha
  have c2 := wTrim (bod a) hb
  have t1 := trimS_nil (bod a)
  obtain ⟨u, hu⟩ : ∃ u, u = Lib.trimS (bod a) cs10 := ⟨_, rfl⟩
  rw [← hu] at c2 t1
  have c3 := wTrimLeft0 (bod a)
  have hd : dgs a = if (bod a).all isD then ((bod a).dropWhile (· == 48), decide (a.head? = some 45) && !((bod a).dropWhile (· == 48)).isEmpty) else ([], false) := rfl
  obtain ⟨h, hh⟩ : ∃ h, h = decide (a.head? = some 45) := ⟨_, rfl⟩
  obtain ⟨b, hb2⟩ : ∃ b, b = bod a := ⟨_, rfl⟩
  obtain ⟨z, hz⟩ : ∃ z, z = (bod a).dropWhile (· == 48) := ⟨_, rfl⟩
  rw [← hz] at c3 hd
  rw [← hh] at c1 hd
  rw [← hb2] at c1 c2 c3 t1 hd
  refine pcalls_of_pw Tryz.func85 rfl Tryz.ntmps85 Tryz.results85 (by simp) fun B w0 => ?_
  cases ht : b.all isD with
  | false =>
    rw [ht] at t1
    rw [hd, ht]
    refine pw_seq ?_; refine pw_region ?_; refine yAd rfl ?_; refine yAd rfl ?_; refine yQ ?_; refine pw_seq ?_; refine pw_region ?_; refine yMd rfl ?_; refine yC (c1) rfl rfl ?_; refine yMp rfl ?_; refine yX rfl rfl ?_
    refine yX rfl rfl ?_; refine yAd rfl ?_; refine yAd rfl ?_; refine yQ ?_; refine pw_seq ?_; refine pw_seq ?_; refine pw_region ?_; refine yMd rfl ?_; refine yC (c2) rfl rfl ?_; refine yBsn rfl rfl ?_; refine yQ ?_; refine q_then ?_
    rw [t1]
    refine pw_ct rfl ?_; refine pw_seq ?_; refine pw_region ?_; refine yAd rfl ?_; refine yAd rfl ?_; refine yQ ?_; refine pw_ret ?_; refine q_then_ret ?_
    exact q_ret _ (.tmp rfl (.tmp rfl .nil)) rfl
  | true =>
    rw [ht] at t1
    rw [hd, ht]
    refine pw_seq ?_; refine pw_region ?_; refine yAd rfl ?_; refine yAd rfl ?_; refine yQ ?_; refine pw_seq ?_; refine pw_region ?_; refine yMd rfl ?_; refine yC (c1) rfl rfl ?_; refine yMp rfl ?_; refine yX rfl rfl ?_
    refine yX rfl rfl ?_; refine yAd rfl ?_; refine yAd rfl ?_; refine yQ ?_; refine pw_seq ?_; refine pw_seq ?_; refine pw_region ?_; refine yMd rfl ?_; refine yC (c2) rfl rfl ?_; refine yBsn rfl rfl ?_; refine yQ ?_; refine q_then ?_
    rw [t1]
    cases h with
    | false =>
      refine pw_cf rfl ?_; refine pw_skip ?_; refine pw_seq ?_; refine pw_region ?_; refine yMd rfl ?_; refine yC (c3) rfl rfl ?_; refine yAd rfl ?_; refine yQ ?_; refine pw_seq ?_; refine pw_region ?_; refine yMd rfl ?_
      refine yMd rfl ?_; refine yMd rfl ?_; refine yO rfl ?_; refine yO rfl ?_; refine yVd rfl rfl ?_; refine yAd rfl ?_; refine yAd rfl ?_; refine yQ ?_; refine pw_ret ?_
      exact q_ret _ (.tmp rfl (.tmp rfl .nil)) rfl
    | true =>
      refine pw_cf rfl ?_; refine pw_skip ?_; refine pw_seq ?_; refine pw_region ?_; refine yMd rfl ?_; refine yC (c3) rfl rfl ?_; refine yAd rfl ?_; refine yQ ?_; refine pw_seq ?_; refine pw_region ?_; refine yMd rfl ?_
      refine yMd rfl ?_; refine yMd rfl ?_; refine yMd rfl ?_; refine yBsn rfl rfl ?_; refine yPd rfl rfl ?_; refine yAd rfl ?_; refine yAd rfl ?_; refine yQ ?_; refine pw_ret ?_
      exact q_ret _ (.tmp rfl (.tmp rfl .nil)) (by cases z <;> rfl)

theorem canon_len (a : Str) : (canon (val a)).length ≤ a.length := by
  rw [canon_val]
  have h1 : (dgs a).1.length ≤ (bod a).length := by
    unfold dgs
    split
    · exact (List.dropWhile_sublist _).length_le
    · exact Nat.zero_le _
  cases h : (dgs a).2 with
  | false =>
    have : (bod a).length ≤ a.length := by unfold bod; split <;> simp
    simpa using Nat.le_trans h1 this
  | true =>
    have h2 : a.head? = some 45 := by
      unfold dgs at h
      split at h
      · simp at h; exact h.1
      · cases h
    cases a with
    | nil => cases h2
    | cons x l =>
      simp [bod] at h1 h2
      subst h2
      simpa using h1

set_option maxRecDepth 20000 in
theorem wCanonical (a : Str) (ha : a.length ≤ 1000000000) : PCalls Tryz.prog 57 [dS a] (.d (dS (canon (val a)))) := by
  have c1 := wDigits a (by omega)
  have hc := canon_val a
  have hl := canon_len a
  obtain ⟨z, hz⟩ : ∃ z, z = canon (val a) := ⟨_, rfl⟩
  rw [← hz] at hc hl ⊢
  obtain ⟨⟨x, y⟩, hd⟩ : ∃ d, d = dgs a := ⟨_, rfl⟩
  rw [← hd] at c1 hc
  refine pcalls_of_pw Tryz.func57 rfl Tryz.ntmps57 Tryz.results57 (by simp) fun B w0 => ?_
  cases y with
  | false =>
    refine pw_seq ?_; refine pw_region ?_; refine yAd rfl ?_; refine yQ ?_; refine pw_seq ?_; refine pw_region ?_; refine yMd rfl ?_; refine yC (c1) rfl rfl ?_; refine yMp rfl ?_; refine yX rfl rfl ?_; refine yX rfl rfl ?_
    refine yAd rfl ?_; refine yAd rfl ?_; refine yQ ?_; refine pw_seq ?_; refine pw_seq ?_; refine pw_region ?_; refine yMd rfl ?_; refine yQ ?_; refine pw_cf rfl ?_; refine pw_skip ?_; refine pw_seq ?_; refine pw_region ?_
    refine yMd rfl ?_; refine yAd rfl ?_; refine yQ ?_; refine pw_ret ?_
    exact q_ret _ (.tmp rfl .nil) (by rw [hc]; rfl)
  | true =>
    have hx : x.length + 1 ≤ 1000000000 := by rw [hc] at hl; simp at hl; omega
    refine pw_seq ?_; refine pw_region ?_; refine yAd rfl ?_; refine yQ ?_; refine pw_seq ?_; refine pw_region ?_; refine yMd rfl ?_; refine yC (c1) rfl rfl ?_; refine yMp rfl ?_; refine yX rfl rfl ?_; refine yX rfl rfl ?_
    refine yAd rfl ?_; refine yAd rfl ?_; refine yQ ?_; refine pw_seq ?_; refine pw_seq ?_; refine pw_region ?_; refine yMd rfl ?_; refine yQ ?_; refine pw_ct rfl ?_; refine pw_region ?_; refine yMd rfl ?_
    refine yBsa (l1 := [45]) (l2 := x) (by simp; omega) rfl rfl ?_; refine yAd rfl ?_; refine yQ ?_; refine pw_seq ?_; refine pw_region ?_; refine yMd rfl ?_; refine yAd rfl ?_; refine yQ ?_; refine pw_ret ?_
    exact q_ret _ (.tmp rfl .nil) (by rw [hc]; rfl)

set_option maxRecDepth 20000 in
theorem wCheck (a : Str) (ha : a.length ≤ 1000000000) : PCalls Tryz.prog 25 [dS a] (.d (dI (if isC a then 0 else 1))) := by
  have c1 := wCanonical a ha
  have hi : isC a = (a == canon (val a)) := by
    unfold isC
    rw [Bool.eq_iff_iff, decide_eq_true_eq, beq_iff_eq]
    exact eq_comm
  obtain ⟨z, hz⟩ : ∃ z, z = canon (val a) := ⟨_, rfl⟩
  rw [← hz] at hi c1
  refine pcalls_of_pw Tryz.func25 rfl Tryz.ntmps25 Tryz.results25 (by simp) fun B w0 => ?_
  rw [hi]
  cases h : (a == z) with
  | true =>
    refine pw_seq ?_; refine pw_region ?_; refine yAd rfl ?_; refine yQ ?_; refine pw_seq ?_; refine pw_seq ?_; refine pw_region ?_; refine yMd rfl ?_; refine yMd rfl ?_; refine yC (c1) rfl rfl ?_; refine yBsn rfl rfl ?_; refine yQ ?_
    refine q_then ?_
    rw [h]
    refine pw_cf rfl ?_; refine pw_skip ?_; refine pw_seq ?_; refine pw_region ?_; refine yAd rfl ?_; refine yQ ?_; refine pw_ret ?_
    exact q_ret _ (.tmp rfl .nil) rfl
  | false =>
    refine pw_seq ?_; refine pw_region ?_; refine yAd rfl ?_; refine yQ ?_; refine pw_seq ?_; refine pw_seq ?_; refine pw_region ?_; refine yMd rfl ?_; refine yMd rfl ?_; refine yC (c1) rfl rfl ?_; refine yBsn rfl rfl ?_; refine yQ ?_
    refine q_then ?_
    rw [h]
    refine pw_ct rfl ?_; refine pw_seq ?_; refine pw_region ?_; refine yAd rfl ?_; refine yQ ?_; refine pw_ret ?_; refine q_then_ret ?_
    exact q_ret _ (.tmp rfl .nil) rfl
end Go.Proofs.YtmfeinilbjfnpaaGreatDoor
namespace Go.Proofs.YtmfeinilbjfnpaaGreatDoor
open Go.RowKit Px

theorem all_take {p : UInt8 → Bool} {l : Str} {i : Nat} {x : UInt8} (hx : l[i]? = some x) (h : (l.take i).all p = true) (hp : p x = true) : (l.take (i + 1)).all p = true := by
  rw [List.take_add_one, hx, List.all_append, h]; simp [hp]
theorem all_not {p : UInt8 → Bool} {l : Str} {i : Nat} {x : UInt8} (hx : l[i]? = some x) (hp : p x = false) : l.all p = false := by
  rw [Bool.eq_false_iff]
  intro h
  rw [List.all_eq_true] at h
  have := h x (List.mem_of_getElem? hx)
  rw [hp] at this
  cases this

end Go.Proofs.YtmfeinilbjfnpaaGreatDoor
namespace Go.Proofs.YtmfeinilbjfnpaaGreatDoor
open Go.RowKit Px

theorem lesC_eq {l l' : List SV} (h : l = l') : lesC l l' := h ▸ lesC_refl l
theorem toDs_map {α : Type} (f : α → DV) (l : List α) : toDs (l.map fun a => SV.d (f a)) = some (l.map f) := by
  induction l with
  | nil => rfl
  | cons x l ih => simp [toDs, toD, ih]
theorem chunk_one {α : Type} (f : α → DV) (l : List α) : chunk 1 l.length (l.map f) = l.map fun a => [f a] := by
  induction l with
  | nil => rfl
  | cons x l ih => simp [chunk, ih]
/-- the bytes of names -/
def isN (b : UInt8) : Bool := (decide (97 ≤ b.toNat) && decide (b.toNat ≤ 122)) || isD b || b == 95
def nameB (s : Str) : Bool := decide (1 ≤ s.length) && decide (s.length ≤ 16) && s.all isN
/-- what the five comparisons of a byte answer -/
theorem isN_yes {b : UInt8} (h : isN b = true) : (decide ((b.toNat : Int) < 97) = false ∧ decide ((b.toNat : Int) > 122) = false) ∨ (decide ((b.toNat : Int) < 97) = true ∧ decide ((b.toNat : Int) < 48) = false ∧ decide ((b.toNat : Int) > 57) = false) ∨
    (decide ((b.toNat : Int) < 97) = true ∧ decide ((b.toNat : Int) < 48) = false ∧ decide ((b.toNat : Int) > 57) = true ∧ ((b.toNat : Int) != 95) = false) := by
  simp only [isN, isD, Bool.or_eq_true, Bool.and_eq_true, decide_eq_true_eq, beq_iff_eq] at h
  rcases h with (h | h) | h
  · left; constructor <;> simp <;> omega
  · right; left; refine ⟨?_, ?_, ?_⟩ <;> simp <;> omega
  · subst h; right; right; decide
theorem isN_no {b : UInt8} (h : isN b = false) : (decide ((b.toNat : Int) < 97) = false ∧ decide ((b.toNat : Int) > 122) = true ∧ decide ((b.toNat : Int) < 48) = false ∧ decide ((b.toNat : Int) > 57) = true ∧ ((b.toNat : Int) != 95) = true) ∨
    (decide ((b.toNat : Int) < 97) = true ∧ decide ((b.toNat : Int) < 48) = true ∧ ((b.toNat : Int) != 95) = true) ∨ (decide ((b.toNat : Int) < 97) = true ∧ decide ((b.toNat : Int) < 48) = false ∧ decide ((b.toNat : Int) > 57) = true ∧ ((b.toNat : Int) != 95) = true) := by
  rw [Bool.eq_false_iff] at h
  simp only [isN, isD, Bool.or_eq_true, Bool.and_eq_true, decide_eq_true_eq, beq_iff_eq, ne_eq, not_or, not_and] at h
  obtain ⟨⟨h1, h2⟩, h3⟩ := h
  have h4 : b.toNat ≠ 95 := fun e => h3 (UInt8.toNat_inj.1 e)
  have h5 : ((b.toNat : Int) != 95) = true := by simp; omega
  by_cases k1 : b.toNat < 97
  · by_cases k2 : b.toNat < 48
    · right; left; refine ⟨?_, ?_, h5⟩ <;> simp <;> omega
    · right; right; refine ⟨?_, ?_, ?_, h5⟩ <;> simp <;> omega
  · left; refine ⟨?_, ?_, ?_, ?_, h5⟩ <;> simp <;> omega

theorem dBy_at {s : Str} {i : Nat} {y : UInt8} (h : s[i]? = some y) : (dBy s)[(i : Int).toNat]? = some [.val (.int .u8 y.toNat)] := by
  rw [Int.toNat_natCast, List.getElem?_map, h]; rfl
set_option maxRecDepth 20000 in
set_option maxHeartbeats 1000000 in
theorem wName (s : Str) : PCalls Tryz.prog 98 [dS s] (.d (dB (nameB s))) := by
  obtain ⟨r, hr⟩ : ∃ r, r = nameB s := ⟨_, rfl⟩
  rw [← hr]
  refine pcalls_of_pw Tryz.func98 rfl Tryz.ntmps98 Tryz.results98 (by simp) fun B w0 => ?_
  by_cases h1 : s.length = 0
  · have t1 : ((s.length : Int) == 0) = true := by simp [h1]
    have e : r = false := by rw [hr, nameB, h1]; simp
    rw [e]
    refine pw_seq ?_; refine pw_region ?_; refine yAd rfl ?_; refine yQ ?_; refine pw_seq ?_; refine pw_seq ?_; refine pw_region ?_; refine yMd rfl ?_; refine yNs rfl ?_; refine yB rfl rfl rfl rfl ?_; refine yMd rfl ?_; rw [t1]
    refine yO rfl ?_; refine yO rfl ?_; refine yO rfl ?_; refine yPd rfl rfl ?_; refine yQ ?_; refine pw_ct rfl ?_; refine pw_seq ?_; refine pw_region ?_; refine yAd rfl ?_; refine yQ ?_; refine pw_ret ?_; refine q_then_ret ?_
    exact q_ret _ (.tmp rfl .nil) rfl
  have t1 : ((s.length : Int) == 0) = false := by simpa using fun e => h1 (by rw [e]; rfl)
  by_cases h2 : s.length > 16
  · have t2 : decide ((s.length : Int) > 16) = true := by simpa using by omega
    have e : r = false := by rw [hr, nameB]; simp; omega
    rw [e]
    refine pw_seq ?_; refine pw_region ?_; refine yAd rfl ?_; refine yQ ?_; refine pw_seq ?_; refine pw_seq ?_; refine pw_region ?_; refine yMd rfl ?_; refine yNs rfl ?_; refine yB rfl rfl rfl rfl ?_; refine yMd rfl ?_; rw [t1]
    refine yMd rfl ?_; refine yNs rfl ?_; refine yB rfl rfl rfl rfl ?_; refine yVd rfl rfl ?_; refine yQ ?_; refine q_then ?_; rw [t2]; refine pw_ct rfl ?_; refine pw_seq ?_; refine pw_region ?_; refine yAd rfl ?_; refine yQ ?_
    refine pw_ret ?_; refine q_then_ret ?_
    exact q_ret _ (.tmp rfl .nil) rfl
  have t2 : decide ((s.length : Int) > 16) = false := by simpa using by omega
  refine pw_seq ?_; refine pw_region ?_; refine yAd rfl ?_; refine yQ ?_; refine pw_seq ?_; refine pw_seq ?_; refine pw_region ?_; refine yMd rfl ?_; refine yNs rfl ?_; refine yB rfl rfl rfl rfl ?_; refine yMd rfl ?_; rw [t1]
  refine yMd rfl ?_; refine yNs rfl ?_; refine yB rfl rfl rfl rfl ?_; refine yVd rfl rfl ?_; refine yQ ?_; refine q_then ?_; rw [t2]; refine pw_cf rfl ?_; refine pw_skip ?_; refine pw_seq ?_; refine pw_seq ?_; refine pw_region ?_
  refine yMd rfl ?_; refine yTb (by omega) Tryz.underlying9 (by kernel_rfl) Tryz.underlying5 rfl ?_; refine yN rfl ?_; refine yMd rfl ?_; refine yQ ?_; refine pw_block ?_
  refine pw_loop (fun i : Nat => ⟨39, [(14, .d (.sl 1 (dBy s))), (15, .d (dI s.length)), (16, .d (dI i))], [], []⟩) (fun i => i ≤ s.length ∧ (s.take i).all isN = true) (fun i => s.length - i) 0 ⟨Nat.zero_le _, rfl⟩ ⟨rfl, ⟨.refl _, .of_eq (congrArg (fun n : Nat => SV.d (dI n)) (by simp)), .refl _, trivial⟩, trivial, trivial, rfl⟩ ?_
  rintro i ⟨hi, hal⟩
  refine pw_seq ?_; refine pw_region ?_; refine yB rfl rfl rfl rfl ?_; refine yQ ?_; refine pw_seq ?_
  refine pw_cond rfl (fun h => ?_) (fun h => ?_)
  · simp at h
    obtain ⟨y, hy⟩ : ∃ y, s[i]? = some y := ⟨_, List.getElem?_eq_getElem h⟩
    have hy' := dBy_at hy
    have hw := wrapI ((i : Int) + 1) (by omega)
    cases hN : isN y with
    | true =>
      rcases isN_yes hN with ⟨k1, k2⟩ | ⟨k1, k2, k3⟩ | ⟨k1, k2, k3, k4⟩
      · refine pw_skip ?_; refine pw_seq ?_; refine pw_block ?_; refine pw_seq ?_; refine pw_region ?_; refine yW hy' (by omega) rfl rfl ?_; refine yLr rfl rfl ?_; refine yAd rfl ?_; refine yQ ?_; refine pw_seq ?_; refine pw_region ?_
        refine yMd rfl ?_; refine yB rfl rfl rfl rfl ?_; refine yMd rfl ?_; rw [k1]; refine yMd rfl ?_; refine yB rfl rfl rfl rfl ?_; refine yVd rfl rfl ?_; refine yMd rfl ?_; rw [k2]; refine yO rfl ?_; refine yO rfl ?_; refine yO rfl ?_
        refine yO rfl ?_; refine yO rfl ?_; refine yO rfl ?_; refine yVd rfl rfl ?_; refine yMd rfl ?_; refine yO rfl ?_; refine yO rfl ?_; refine yVd rfl rfl ?_; refine yQ ?_; refine pw_cf rfl ?_; refine pw_skip ?_; refine pw_region ?_
        refine yB rfl rfl rfl rfl ?_; refine yMd rfl ?_; refine yQ ?_; refine q_then ?_
        refine ⟨i + 1, ⟨by omega, all_take hy hal hN⟩, by omega, rfl, ⟨.refl _, .refl _, .of_eq (congrArg (fun n => SV.d (dI n)) hw), trivial⟩, trivial, trivial, rfl⟩
      · refine pw_skip ?_; refine pw_seq ?_; refine pw_block ?_; refine pw_seq ?_; refine pw_region ?_; refine yW hy' (by omega) rfl rfl ?_; refine yLr rfl rfl ?_; refine yAd rfl ?_; refine yQ ?_; refine pw_seq ?_; refine pw_region ?_
        refine yMd rfl ?_; refine yB rfl rfl rfl rfl ?_; refine yMd rfl ?_; rw [k1]; refine yO rfl ?_; refine yO rfl ?_; refine yPd rfl rfl ?_; refine yMd rfl ?_; refine yMd rfl ?_; refine yB rfl rfl rfl rfl ?_; refine yMd rfl ?_; rw [k2]
        refine yMd rfl ?_; refine yB rfl rfl rfl rfl ?_; refine yVd rfl rfl ?_; refine yPd rfl rfl ?_; refine yMd rfl ?_; rw [k3]; refine yO rfl ?_; refine yO rfl ?_; refine yVd rfl rfl ?_; refine yQ ?_; refine pw_cf rfl ?_
        refine pw_skip ?_; refine pw_region ?_; refine yB rfl rfl rfl rfl ?_; refine yMd rfl ?_; refine yQ ?_; refine q_then ?_
        refine ⟨i + 1, ⟨by omega, all_take hy hal hN⟩, by omega, rfl, ⟨.refl _, .refl _, .of_eq (congrArg (fun n => SV.d (dI n)) hw), trivial⟩, trivial, trivial, rfl⟩
      · refine pw_skip ?_; refine pw_seq ?_; refine pw_block ?_; refine pw_seq ?_; refine pw_region ?_; refine yW hy' (by omega) rfl rfl ?_; refine yLr rfl rfl ?_; refine yAd rfl ?_; refine yQ ?_; refine pw_seq ?_; refine pw_region ?_
        refine yMd rfl ?_; refine yB rfl rfl rfl rfl ?_; refine yMd rfl ?_; rw [k1]; refine yO rfl ?_; refine yO rfl ?_; refine yPd rfl rfl ?_; refine yMd rfl ?_; refine yMd rfl ?_; refine yB rfl rfl rfl rfl ?_; refine yMd rfl ?_; rw [k2]
        refine yMd rfl ?_; refine yB rfl rfl rfl rfl ?_; refine yVd rfl rfl ?_; refine yPd rfl rfl ?_; refine yMd rfl ?_; rw [k3]; refine yMd rfl ?_; refine yB rfl rfl rfl rfl ?_; refine yPd rfl rfl ?_; refine yQ ?_; refine q_then ?_
        rw [k4]; refine pw_cf rfl ?_; refine pw_skip ?_; refine pw_region ?_; refine yB rfl rfl rfl rfl ?_; refine yMd rfl ?_; refine yQ ?_; refine q_then ?_
        refine ⟨i + 1, ⟨by omega, all_take hy hal hN⟩, by omega, rfl, ⟨.refl _, .refl _, .of_eq (congrArg (fun n => SV.d (dI n)) hw), trivial⟩, trivial, trivial, rfl⟩
    | false =>
      have hf := all_not hy hN
      have e : r = false := by rw [hr, nameB, hf]; simp
      rw [e]
      rcases isN_no hN with ⟨k1, k2, k3, k4, k5⟩ | ⟨k1, k2, k3⟩ | ⟨k1, k2, k3, k4⟩
      · refine pw_skip ?_; refine pw_seq ?_; refine pw_block ?_; refine pw_seq ?_; refine pw_region ?_; refine yW hy' (by omega) rfl rfl ?_; refine yLr rfl rfl ?_; refine yAd rfl ?_; refine yQ ?_; refine pw_seq ?_; refine pw_region ?_
        refine yMd rfl ?_; refine yB rfl rfl rfl rfl ?_; refine yMd rfl ?_; rw [k1]; refine yMd rfl ?_; refine yB rfl rfl rfl rfl ?_; refine yVd rfl rfl ?_; refine yMd rfl ?_; rw [k2]; refine yMd rfl ?_; refine yB rfl rfl rfl rfl ?_
        refine yMd rfl ?_; rw [k3]; refine yMd rfl ?_; refine yB rfl rfl rfl rfl ?_; refine yVd rfl rfl ?_; refine yPd rfl rfl ?_; refine yMd rfl ?_; rw [k4]; refine yMd rfl ?_; refine yB rfl rfl rfl rfl ?_; refine yPd rfl rfl ?_
        refine yQ ?_; refine q_then ?_; rw [k5]; refine pw_ct rfl ?_; refine pw_seq ?_; refine pw_region ?_; refine yAd rfl ?_; refine yQ ?_; refine pw_ret ?_; refine q_blk_ret ?_; refine q_then_ret ?_; refine q_then_ret ?_
        refine q_blk_ret ?_; refine q_then_ret ?_
        exact q_ret _ (.tmp rfl .nil) rfl
      · refine pw_skip ?_; refine pw_seq ?_; refine pw_block ?_; refine pw_seq ?_; refine pw_region ?_; refine yW hy' (by omega) rfl rfl ?_; refine yLr rfl rfl ?_; refine yAd rfl ?_; refine yQ ?_; refine pw_seq ?_; refine pw_region ?_
        refine yMd rfl ?_; refine yB rfl rfl rfl rfl ?_; refine yMd rfl ?_; rw [k1]; refine yO rfl ?_; refine yO rfl ?_; refine yPd rfl rfl ?_; refine yMd rfl ?_; refine yMd rfl ?_; refine yB rfl rfl rfl rfl ?_; refine yMd rfl ?_; rw [k2]
        refine yO rfl ?_; refine yO rfl ?_; refine yPd rfl rfl ?_; refine yPd rfl rfl ?_; refine yMd rfl ?_; refine yMd rfl ?_; refine yB rfl rfl rfl rfl ?_; refine yPd rfl rfl ?_; refine yQ ?_; refine q_then ?_; rw [k3]
        refine pw_ct rfl ?_; refine pw_seq ?_; refine pw_region ?_; refine yAd rfl ?_; refine yQ ?_; refine pw_ret ?_; refine q_blk_ret ?_; refine q_then_ret ?_; refine q_then_ret ?_; refine q_blk_ret ?_; refine q_then_ret ?_
        exact q_ret _ (.tmp rfl .nil) rfl
      · refine pw_skip ?_; refine pw_seq ?_; refine pw_block ?_; refine pw_seq ?_; refine pw_region ?_; refine yW hy' (by omega) rfl rfl ?_; refine yLr rfl rfl ?_; refine yAd rfl ?_; refine yQ ?_; refine pw_seq ?_; refine pw_region ?_
        refine yMd rfl ?_; refine yB rfl rfl rfl rfl ?_; refine yMd rfl ?_; rw [k1]; refine yO rfl ?_; refine yO rfl ?_; refine yPd rfl rfl ?_; refine yMd rfl ?_; refine yMd rfl ?_; refine yB rfl rfl rfl rfl ?_; refine yMd rfl ?_; rw [k2]
        refine yMd rfl ?_; refine yB rfl rfl rfl rfl ?_; refine yVd rfl rfl ?_; refine yPd rfl rfl ?_; refine yMd rfl ?_; rw [k3]; refine yMd rfl ?_; refine yB rfl rfl rfl rfl ?_; refine yPd rfl rfl ?_; refine yQ ?_; refine q_then ?_
        rw [k4]; refine pw_ct rfl ?_; refine pw_seq ?_; refine pw_region ?_; refine yAd rfl ?_; refine yQ ?_; refine pw_ret ?_; refine q_blk_ret ?_; refine q_then_ret ?_; refine q_then_ret ?_; refine q_blk_ret ?_; refine q_then_ret ?_
        exact q_ret _ (.tmp rfl .nil) rfl
  · simp at h
    have hall : s.all isN = true := by rw [List.take_of_length_le (by omega)] at hal; exact hal
    have e : r = true := by rw [hr, nameB, hall]; simp; omega
    rw [e]
    refine pw_exit ?_; refine pw_seq ?_; refine pw_region ?_; refine yAd rfl ?_; refine yQ ?_; refine pw_ret ?_
    exact q_ret _ (.tmp rfl .nil) rfl
end Go.Proofs.YtmfeinilbjfnpaaGreatDoor
set_option maxHeartbeats 1000000
namespace Go.Proofs.YtmfeinilbjfnpaaGreatDoor

def grp (n : Nat) : List Nat := if h : n = 0 then [] else (n % 1000000000) :: grp (n / 1000000000)
termination_by n
decreasing_by exact Nat.div_lt_self (by omega) (by omega)
def gval : List Nat → Nat
  | [] => 0
  | x :: l => x + 1000000000 * gval l
def gok (l : List Nat) : Prop := ∀ x ∈ l, x < 1000000000
theorem grp_zero : grp 0 = [] := by rw [grp]; simp
theorem grp_pos {n : Nat} (h : n ≠ 0) : grp n = (n % 1000000000) :: grp (n / 1000000000) := by rw [grp]; simp [h]
theorem gval_grp (n : Nat) : gval (grp n) = n := by
  induction n using Nat.strongRecOn with
  | _ n ih =>
    by_cases h : n = 0
    · subst h; rw [grp_zero]; rfl
    · rw [grp_pos h, gval, ih (n / 1000000000) (Nat.div_lt_self (by omega) (by omega))]
      omega
theorem gok_grp (n : Nat) : gok (grp n) := by
  induction n using Nat.strongRecOn with
  | _ n ih =>
    by_cases h : n = 0
    · subst h; rw [grp_zero]; intro x hx; simp at hx
    · rw [grp_pos h]
      intro x hx
      rcases List.mem_cons.1 hx with e | e
      · omega
      · exact ih (n / 1000000000) (Nat.div_lt_self (by omega) (by omega)) x e
theorem grp_nil {n : Nat} : grp n = [] ↔ n = 0 := by
  constructor
  · intro h; have := gval_grp n; rw [h] at this; exact this.symm
  · rintro rfl; exact grp_zero
theorem gok_cons {x : Nat} {l : List Nat} : gok (x :: l) ↔ x < 1000000000 ∧ gok l := by simp [gok]
theorem gok_append {l r : List Nat} : gok (l ++ r) ↔ gok l ∧ gok r := by
  simp only [gok, List.mem_append]
  exact ⟨fun h => ⟨fun x hx => h x (.inl hx), fun x hx => h x (.inr hx)⟩, fun h x hx => hx.elim (h.1 x) (h.2 x)⟩
theorem gval_append (l r : List Nat) : gval (l ++ r) = gval l + 1000000000 ^ l.length * gval r := by
  induction l with
  | nil => simp [gval]
  | cons x l ih =>
    rw [List.cons_append, gval, ih, gval, List.length_cons, Nat.pow_succ, Nat.mul_add, ← Nat.mul_assoc, Nat.mul_comm (1000000000 ^ l.length) 1000000000]
    omega
theorem gval_lt {l : List Nat} (h : gok l) : gval l < 1000000000 ^ l.length := by
  induction l with
  | nil => simp [gval]
  | cons x l ih =>
    obtain ⟨h1, h2⟩ := gok_cons.1 h
    have := ih h2
    rw [gval, List.length_cons, Nat.pow_succ]
    omega
/-- without zeros at the end -/
def cutG : List Nat → List Nat
  | [] => []
  | x :: l => if cutG l = [] ∧ x = 0 then [] else x :: cutG l
theorem cutG_gval (l : List Nat) : gval (cutG l) = gval l := by
  induction l with
  | nil => rfl
  | cons x l ih =>
    rw [cutG]
    split
    · rename_i h
      rw [h.1] at ih
      rw [gval, gval, ← ih, h.2]
      simp [gval]
    · rw [gval, gval, ih]
theorem cutG_gok {l : List Nat} (h : gok l) : gok (cutG l) := by
  induction l with
  | nil => exact h
  | cons x l ih =>
    obtain ⟨h1, h2⟩ := gok_cons.1 h
    rw [cutG]
    split
    · intro x hx; simp at hx
    · exact gok_cons.2 ⟨h1, ih h2⟩
theorem cutG_last (l : List Nat) : (cutG l).getLast? ≠ some 0 := by
  induction l with
  | nil => simp [cutG]
  | cons x l ih =>
    rw [cutG]
    split
    · simp
    · rename_i h
      by_cases he : cutG l = []
      · rw [he]
        simp
        intro e
        exact h ⟨he, e⟩
      · match hd : cutG l, he, ih with
        | y :: r, _, ih => simpa using ih
theorem cutG_snoc (l : List Nat) (x : Nat) : cutG (l ++ [x]) = if x = 0 then cutG l else l ++ [x] := by
  induction l with
  | nil => simp [cutG]
  | cons y l ih =>
    rw [List.cons_append, cutG, ih]
    by_cases h : x = 0
    · simp only [h, if_true]
      rw [cutG]
    · simp only [h, if_false]
      rw [if_neg (by simp)]
/-- the groups of digits, from the end -/
def rdG (t : Str) : List Nat := if h : t = [] then [] else natOf (t.drop (t.length - 9)) :: rdG (t.take (t.length - 9))
termination_by t.length
decreasing_by
  rw [List.length_take]
  have : 0 < t.length := List.length_pos_iff.2 h
  omega
theorem rdG_nil : rdG [] = [] := by rw [rdG]; simp
theorem rdG_pos {t : Str} (h : t ≠ []) : rdG t = natOf (t.drop (t.length - 9)) :: rdG (t.take (t.length - 9)) := by rw [rdG]; simp [h]
theorem natOf_lt {t : Str} (h : t.all isD = true) : natOf t < 10 ^ t.length := by
  induction t using snoc_ind with
  | h0 => simp [natOf]
  | h1 l b ih =>
    rw [List.all_append, Bool.and_eq_true] at h
    have hb := dv_lt (b := b) (by simpa using h.2)
    have := ih h.1
    rw [natOf_snoc, List.length_append, List.length_singleton, Nat.pow_succ]
    omega
theorem natOf_pos {t : Str} (h : t.all isD = true) (h0 : t.head? ≠ some 48) (hn : t ≠ []) : natOf t ≠ 0 := fun e => by
  have := dec_natOf h h0
  rw [e, dec_zero] at this
  exact hn this.symm
theorem rdG_grp {t : Str} (h : t.all isD = true) (h0 : t.head? ≠ some 48) : rdG t = grp (natOf t) := by
  obtain ⟨n, hn⟩ : ∃ n, n = t.length := ⟨_, rfl⟩
  induction n using Nat.strongRecOn generalizing t with
  | _ n ih =>
    by_cases he : t = []
    · subst he; rw [rdG_nil]; exact grp_zero.symm
    · have hpos : 0 < t.length := List.length_pos_iff.2 he
      have hne := natOf_pos h h0 he
      have hall : (t.take (t.length - 9)).all isD = true ∧ (t.drop (t.length - 9)).all isD = true := by
        rw [← Bool.and_eq_true, ← List.all_append, List.take_append_drop]; exact h
      have hhead : (t.take (t.length - 9)).head? ≠ some 48 := by
        match t, h0 with
        | x :: l, h0 =>
          cases hk : (x :: l).length - 9 with
          | zero => simp
          | succ k => simpa using h0
      have hsplit := natOf_append (t.take (t.length - 9)) (t.drop (t.length - 9))
      rw [List.take_append_drop] at hsplit
      have hdl : (t.drop (t.length - 9)).length = min 9 t.length := by rw [List.length_drop]; omega
      have hlt := natOf_lt hall.2
      rw [hdl] at hsplit hlt
      rw [rdG_pos he, ih (t.take (t.length - 9)).length (by rw [List.length_take]; omega) hall.1 hhead rfl, grp_pos hne]
      by_cases h9 : 9 ≤ t.length
      · rw [Nat.min_eq_left h9] at hsplit hlt
        have e1 : natOf t % 1000000000 = natOf (t.drop (t.length - 9)) := by omega
        have e2 : natOf t / 1000000000 = natOf (t.take (t.length - 9)) := by omega
        rw [e1, e2]
      · rw [Nat.min_eq_right (by omega)] at hsplit hlt
        have e0 : t.length - 9 = 0 := by omega
        have hle : 10 ^ t.length ≤ 10 ^ 9 := Nat.pow_le_pow_right (by omega) (by omega)
        simp only [e0, List.take_zero, List.drop_zero] at hsplit hlt ⊢
        have e3 : natOf ([] : Str) = 0 := rfl
        have e1 : natOf t % 1000000000 = natOf t := Nat.mod_eq_of_lt (by omega)
        have e2 : natOf t / 1000000000 = 0 := Nat.div_eq_of_lt (by omega)
        rw [e1, e2, e3]
/-- k digits -/
def padk : Nat → Nat → Str
  | 0, _ => []
  | k + 1, b => padk k (b / 10) ++ [dig (b % 10)]
theorem padk_length (k b : Nat) : (padk k b).length = k := by
  induction k generalizing b with
  | zero => rfl
  | succ k ih => rw [padk, List.length_append, ih]; rfl
theorem dec_split {a : Nat} (ha : a ≠ 0) (k b : Nat) (hb : b < 10 ^ k) : dec (a * 10 ^ k + b) = dec a ++ padk k b := by
  induction k generalizing b with
  | zero => simp at hb; subst hb; simp [padk]
  | succ k ih =>
    rw [Nat.pow_succ] at hb
    have hp : 0 < 10 ^ k := Nat.pow_pos (by omega)
    have hap : 0 < a * 10 ^ k := Nat.mul_pos (by omega) hp
    have e0 : a * 10 ^ (k + 1) = 10 * (a * 10 ^ k) := by rw [Nat.pow_succ, ← Nat.mul_assoc]; omega
    have e1 : (10 * (a * 10 ^ k) + b) / 10 = a * 10 ^ k + b / 10 := by omega
    have e2 : (10 * (a * 10 ^ k) + b) % 10 = b % 10 := by omega
    rw [e0, dec_pos (by omega), e1, e2, ih (b / 10) (by omega), padk, List.append_assoc]
/-- a number as it is printed -/
def fmt (n : Nat) : Str := if n = 0 then [48] else dec n
theorem fmt_pad {k n : Nat} (h : n < 10 ^ k) (hk : 0 < k) : List.replicate (k - (fmt n).length) 48 ++ fmt n = padk k n := by
  have key : ∀ (k n : Nat), n < 10 ^ k → (dec n).length ≤ k ∧ List.replicate (k - (dec n).length) 48 ++ dec n = padk k n := by
    intro k
    induction k with
    | zero => intro n h; simp at h; subst h; simp [dec_zero, padk]
    | succ k ih =>
      intro n h
      rw [Nat.pow_succ] at h
      obtain ⟨h1, h2⟩ := ih (n / 10) (by omega)
      by_cases hn : n = 0
      · subst hn
        rw [dec_zero] at h2 ⊢
        simp only [List.length_nil, Nat.sub_zero, List.append_nil] at h2 ⊢
        refine ⟨by omega, ?_⟩
        rw [padk, ← h2, show (0 : Nat) % 10 = 0 from rfl, List.replicate_succ']
        rfl
      · rw [dec_pos hn, padk, List.length_append, List.length_singleton]
        refine ⟨by omega, ?_⟩
        rw [← h2, show k + 1 - ((dec (n / 10)).length + 1) = k - (dec (n / 10)).length by omega, List.append_assoc]
  by_cases hn : n = 0
  · subst hn
    have := (key k 0 h).2
    rw [dec_zero] at this
    simp only [List.length_nil, Nat.sub_zero, List.append_nil] at this
    rw [fmt, if_pos rfl, ← this]
    obtain ⟨j, rfl⟩ : ∃ j, k = j + 1 := ⟨k - 1, by omega⟩
    rw [List.replicate_succ']
    simp
  · rw [fmt, if_neg hn]; exact (key k n h).2
theorem fmt_len {k n : Nat} (h : n < 10 ^ k) (hk : 0 < k) : (fmt n).length ≤ k := by
  have := congrArg List.length (fmt_pad h hk)
  rw [List.length_append, List.length_replicate, padk_length] at this
  omega
/-- the digits of groups below the highest one -/
def pads : List Nat → Str
  | [] => []
  | x :: l => pads l ++ padk 9 x
theorem pads_length (l : List Nat) : (pads l).length = 9 * l.length := by
  induction l with
  | nil => rfl
  | cons x l ih => rw [pads, List.length_append, ih, padk_length, List.length_cons]; omega
theorem dec_groups {l : List Nat} {x : Nat} (h : gok l) (hx : x ≠ 0) : dec (gval (l ++ [x])) = dec x ++ pads l := by
  induction l with
  | nil => simp [gval, pads]
  | cons y l ih =>
    obtain ⟨h1, h2⟩ := gok_cons.1 h
    have hne : gval (l ++ [x]) ≠ 0 := by
      rw [gval_append]
      have : 0 < 1000000000 ^ l.length := Nat.pow_pos (by omega)
      simp only [gval, Nat.mul_zero, Nat.add_zero]
      have : 0 < 1000000000 ^ l.length * x := Nat.mul_pos this (by omega)
      omega
    rw [List.cons_append, gval, Nat.add_comm, Nat.mul_comm, show (1000000000 : Nat) = 10 ^ 9 from rfl, dec_split hne 9 y h1, ih h2, pads, List.append_assoc]
end Go.Proofs.YtmfeinilbjfnpaaGreatDoor
namespace Go.Proofs.YtmfeinilbjfnpaaGreatDoor
open Go.RowKit Px

namespace Px
section
variable {P : Program} {sq : Bool} {ops : Array Oper} {K : PS → Prop} {rest : List Oper} {st : PS} {d : Option Nat} {ty : TypeId} {pos : String} {af : Array Edge} {gd : Option (Nat × Bool)}
theorem yBni {t t' : Nat} {x : Operand} (hx : st.ev x = .d (.val .nilIface)) (hI : P.underlying t = some (.interface (P.methodsAt t)) := by kernel_rfl) (h : YR P sq ops K rest (st.put d (.d (.val (.bool false))))) (hd : dstOk ⟨d, .binOp .neq t x (.const .nilIface) t', ty, pos, af, gd⟩ st = true := by kernel_rfl) (hk : opOk ⟨d, .binOp .neq t x (.const .nilIface) t', ty, pos, af, gd⟩ st .no = true := by kernel_rfl) (hw : st.want ops ⟨d, .binOp .neq t x (.const .nilIface) t', ty, pos, af, gd⟩ = some true := by rfl) :
    YR P sq ops K (⟨d, .binOp .neq t x (.const .nilIface) t', ty, pos, af, gd⟩ :: rest) st := yr_v (ls_bin_run .neq t t' x (.const .nilIface) hx rfl (fun w => by
      have e : (eqGuard .neq t x (.const .nilIface) .nilIface .nilIface >>= fun _ => binOp .neq t .nilIface .nilIface) = binOp .neq t .nilIface .nilIface := by cases x <;> rfl
      rw [e]
      exact run_neq_nil_nil w t hI) rfl hd) hk hw h
end
end Px
theorem parse_m (M : Nat) (hM : 1000000000000000000 ≤ M) : ∀ (t : Str) (acc k : Nat), t.all isD = true → acc < 10 ^ k → k + t.length ≤ 18 → Lib.parseUintM M acc t = .ok (t.foldl (fun n b => 10 * n + dv b) acc)
  | [], acc, k, _, _, _ => rfl
  | c :: r, acc, k, h, ha, hk => by
    rw [List.all_cons, Bool.and_eq_true] at h
    have hc := dv_lt h.1
    have h2 : 48 ≤ c.toNat ∧ c.toNat ≤ 57 := by have := h.1; unfold isD at this; simpa using this
    have hp : (10 : Nat) ^ (k + 1) ≤ 10 ^ 18 := Nat.pow_le_pow_right (by omega) (by simp only [List.length_cons] at hk; omega)
    have e : (10 : Nat) ^ (k + 1) = 10 * 10 ^ k := by rw [Nat.pow_succ, Nat.mul_comm]
    have e2 : acc * 10 + (c.toNat - 48) = 10 * acc + dv c := by unfold dv; omega
    have hlt : 10 * acc + dv c < 10 ^ (k + 1) := by omega
    have e18 : (10 : Nat) ^ 18 = 1000000000000000000 := by decide
    rw [Lib.parseUintM, if_pos h2, if_neg (by omega), e2, if_neg (by omega), List.foldl_cons]
    exact parse_m M hM r _ (k + 1) h.2 hlt (by simp only [List.length_cons] at hk; omega)
theorem parse_b {t : Str} (h : t.all isD = true) (hn : t ≠ []) (hl : t.length ≤ 18) : Lib.parseUintB 64 t = .ok (natOf t) := by
  rw [Lib.parseUintB, if_neg hn]
  exact parse_m _ (by decide) t 0 0 h (by decide) (by omega)
theorem wPUi {t : Str} (h : t.all isD = true) (hn : t ≠ []) (hl : t.length ≤ 18) : PCalls Tryz.prog 111 [dS t, dI 10, dI 64] (.tup [dU (natOf t), .val .nilIface]) :=
  PCalls.of_any (us := [.int .u64 (natOf t), .nilIface]) rfl (by simp [Value.oneCell']) fun F w vals hl2 hr hg => by
    obtain rfl : vals = [vS t, .int .i64 10, .int .i64 64] := vals_of (us := [vS t, .int .i64 10, .int .i64 64]) hl2 hr
    refine (Any.internal_strconv_ParseUint_10_at64 Tryz.pu ⟨t.toArray⟩ (show t.toArray.size ≤ 9223372036854775806 by rw [List.size_toArray]; omega) w).mono ?_
    rintro e w' ⟨rfl, hw⟩
    have e2 : Lib.parseUintB 64 (ByteArray.mk t.toArray).data.toList = .ok (natOf t) := parse_b h hn hl
    rw [e2]
    refine ⟨rfl, ?_⟩
    rcases hw with rfl | rfl
    · exact .refl _ _
    · exact Lib.bytesWorld_below w _ _
set_option maxRecDepth 20000 in
theorem wPU {t : Str} (h : t.all isD = true) (hn : t ≠ []) (hl : t.length ≤ 18) : PCalls Tryz.prog 88 [dS t, dI 10, dI 64] (.tup [dU (natOf t), .val .nilIface]) := by
  have c1 := wPUi h hn hl
  obtain ⟨n, hn⟩ : ∃ n, n = natOf t := ⟨_, rfl⟩
  rw [← hn] at c1 ⊢
  refine pcalls_of_pw Tryz.func88 rfl Tryz.ntmps88 Tryz.results88 (by simp) fun B w0 => ?_
  refine pw_seq ?_; refine pw_region ?_; refine yAd rfl ?_; refine yAd rfl ?_; refine yQ ?_; refine pw_seq ?_; refine pw_region ?_; refine yMd rfl ?_; refine yMd rfl ?_; refine yMd rfl ?_; refine yC (c1) rfl rfl ?_; refine yMp rfl ?_
  refine yX rfl rfl ?_; refine yX rfl rfl ?_; refine yAd rfl ?_; refine yAd rfl ?_; refine yQ ?_; refine pw_seq ?_; refine pw_seq ?_; refine pw_region ?_; refine yMd rfl ?_; refine yBni rfl (h := ?_); refine yQ ?_; refine pw_cf rfl ?_
  refine pw_skip ?_; refine pw_seq ?_; refine pw_region ?_; refine yMd rfl ?_; refine yAd rfl ?_; refine yAd rfl ?_; refine yQ ?_; refine pw_ret ?_
  exact q_ret _ (.tmp rfl (.tmp rfl .nil)) rfl
end Go.Proofs.YtmfeinilbjfnpaaGreatDoor
namespace Go.Proofs.YtmfeinilbjfnpaaGreatDoor
open Go.RowKit Px

namespace Px
section
variable {P : Program} {sq : Bool} {ops : Array Oper} {K : PS → Prop} {rest : List Oper} {st : PS} {d : Option Nat} {ty : TypeId} {pos : String} {af : Array Edge} {gd : Option (Nat × Bool)}
end
end Px
theorem rdG_at {t : Str} {i : Nat} (h : 9 * i < t.length) : (rdG t)[i]? = some (natOf ((t.take (t.length - 9 * i)).drop (t.length - 9 * i - 9))) := by
  induction i generalizing t with
  | zero =>
    rw [rdG_pos (by intro e; rw [e] at h; simp at h)]
    simp
  | succ i ih =>
    rw [rdG_pos (by intro e; rw [e] at h; simp at h), List.getElem?_cons_succ, ih (by rw [List.length_take]; omega), List.length_take, List.take_take]
    have e1 : min (t.length - 9) t.length - 9 * i = t.length - 9 * (i + 1) := by omega
    rw [e1, Nat.min_eq_left (by omega)]
theorem rdG_len {t : Str} {i : Nat} (h : t.length ≤ 9 * i) : (rdG t).length ≤ i := by
  induction i generalizing t with
  | zero =>
    have : t = [] := List.length_eq_zero_iff.1 (by omega)
    rw [this, rdG_nil]; simp
  | succ i ih =>
    by_cases hn : t = []
    · rw [hn, rdG_nil]; simp
    · rw [rdG_pos hn, List.length_cons]
      have := ih (t := t.take (t.length - 9)) (by rw [List.length_take]; omega)
      omega
theorem rdG_size (t : Str) : (rdG t).length ≤ t.length := by
  have := rdG_len (t := t) (i := t.length) (by omega)
  exact this
theorem rdG_next {t : Str} {i : Nat} (h : 9 * i < t.length) : (rdG t).take (i + 1) = (rdG t).take i ++ [natOf ((t.take (t.length - 9 * i)).drop (t.length - 9 * i - 9))] := by
  rw [List.take_add_one, rdG_at h]; rfl
theorem dgs_len (a : Str) : (dgs a).1.length ≤ a.length := by
  have hb : (bod a).length ≤ a.length := by unfold bod; split <;> simp
  unfold dgs
  split
  · exact Nat.le_trans (List.dropWhile_suffix _).length_le hb
  · simp
theorem all_sub {t : Str} (h : t.all isD = true) (a b : Nat) : ((t.take a).drop b).all isD = true := by
  rw [List.all_eq_true] at h ⊢
  exact fun x hx => h x (List.mem_of_mem_take (List.mem_of_mem_drop hx))
abbrev dG (x : Nat) : List DV := [dU x]
abbrev dNum (b : Bool) (l : List Nat) : List DV := [dB b, .sl 1 (l.map dG)]
abbrev mgT : Nat := 123 * 100000 + 5
set_option maxRecDepth 20000 in
set_option maxHeartbeats 2000000 in
theorem wRead (a : Str) (ha : a.length ≤ 1000000) : PCalls Tryz.prog 59 [dS a] (.d (.agg (dNum (dgs a).2 (rdG (dgs a).1)))) := by
  have c1 := wDigits a (by omega)
  have hl : (dgs a).1.length ≤ 1000000 := Nat.le_trans (dgs_len a) ha
  have hD := dgs_all a
  obtain ⟨t, ht⟩ : ∃ t, t = (dgs a).1 := ⟨_, rfl⟩
  obtain ⟨b, hb⟩ : ∃ t, t = (dgs a).2 := ⟨_, rfl⟩
  rw [← ht, ← hb] at c1
  rw [← ht] at hl hD
  rw [← ht, ← hb]
  clear ht hb
  have hsz := rdG_size t
  obtain ⟨g, hg⟩ : ∃ g, g = rdG t := ⟨_, rfl⟩
  refine pcalls_of_pw Tryz.func59 rfl Tryz.ntmps59 Tryz.results59 (by simp) fun B w0 => ?_
  refine pw_seq ?_; refine pw_region ?_; refine yZ (cs := [_, _]) rfl rfl ?_; refine yQ ?_; refine pw_seq ?_; refine pw_region ?_; refine yMd rfl ?_; refine yC (c1) rfl rfl ?_; refine yMp rfl ?_; refine yX rfl rfl ?_
  refine yX rfl rfl ?_; refine yAd rfl ?_; refine yAd rfl ?_; refine yQ ?_; refine pw_seq ?_; refine pw_region ?_; refine yAd rfl ?_; refine yQ ?_; refine pw_tok 5 mgT 1 rfl rfl rfl ?_; refine pw_seq ?_; refine pw_seq ?_
  refine pw_region ?_; refine yMd rfl ?_; refine yNs rfl ?_; refine yAd rfl ?_; refine yQ ?_; refine pw_block ?_
  refine pw_loop (fun i : Nat => ⟨37, [(2, .bx 2 0), (3, .d (dS t)), (4, .d (dB b)), (5, .ts mgT 1 (((rdG t).take i).map dG)), (6, .d (dI ((t.length : Int) - 9 * i)))], [(2, [.d (dB false), .d (.val (.slice none 0 0))])], [(mgT, (((rdG t).take i).map dG).length)]⟩) (fun i => 9 * i < t.length + 9) (fun i => t.length + 9 - 9 * i) 0 (by omega)
    ⟨rfl, ⟨.refl _, .refl _, .refl _, .refl _, .of_eq (congrArg (fun n : Int => SV.d (dI n)) (by simp)), trivial⟩, ⟨⟨_, rfl, .refl _, .refl _, trivial⟩, trivial⟩, ⟨rfl, trivial⟩, rfl⟩ ?_
  intro i hi
  refine pw_seq ?_; refine pw_seq ?_; refine pw_region ?_; refine yMd rfl ?_; refine yB rfl rfl rfl rfl ?_; refine yQ ?_; refine q_then ?_
  refine pw_cond rfl (fun h => ?_) (fun h => ?_)
  · simp at h
    have h9 : 9 * i < t.length := by omega
    have hn := rdG_next h9
    have hx : (t.take ((t.length : Int) - 9 * i).toNat).drop (((t.length - 9 * i - 9 : Nat) : Int)).toNat = (t.take (t.length - 9 * i)).drop (t.length - 9 * i - 9) := by
      rw [Int.toNat_natCast, (by omega : ((t.length : Int) - 9 * i).toNat = t.length - 9 * i)]
    have hlen : ((t.take (t.length - 9 * i)).drop (t.length - 9 * i - 9)).length ≤ 9 := by rw [List.length_drop, List.length_take]; omega
    have hlen0 : 0 < ((t.take (t.length - 9 * i)).drop (t.length - 9 * i - 9)).length := by rw [List.length_drop, List.length_take]; omega
    have c2 := wPU (all_sub hD (t.length - 9 * i) (t.length - 9 * i - 9)) (by intro e; rw [e] at hlen0; simp at hlen0) (by omega)
    have hw1 : IntKind.i64.wrap ((t.length : Int) - 9 * i - 9) = (t.length : Int) - 9 * i - 9 := wrapI _ (by omega)
    have hm : (if (t.length : Int) - 9 * i - 9 > 0 then (t.length : Int) - 9 * i - 9 else 0) = ((t.length - 9 * i - 9 : Nat) : Int) := by split <;> omega
    obtain ⟨x, hxx⟩ : ∃ x, x = natOf ((t.take (t.length - 9 * i)).drop (t.length - 9 * i - 9)) := ⟨_, rfl⟩
    rw [← hxx] at c2 hn
    obtain ⟨s, hs⟩ : ∃ s, s = (t.take (t.length - 9 * i)).drop (t.length - 9 * i - 9) := ⟨_, rfl⟩
    rw [← hs] at c2 hx
    obtain ⟨zs, hzs⟩ : ∃ zs, zs = (rdG t).take i := ⟨_, rfl⟩
    have hzl : zs.length ≤ 1000000 := by rw [hzs, List.length_take]; omega
    rw [← hzs] at hn ⊢
    refine pw_skip ?_; refine pw_seq ?_; refine pw_block ?_; refine pw_seq ?_; refine pw_region ?_; refine yMd rfl ?_; refine yMd rfl ?_; refine yB rfl rfl rfl rfl ?_; refine yI rfl rfl rfl ?_; refine yMd rfl ?_; rw [hw1]; rw [hm]
    refine ySlh (by omega) (by omega) (by omega) hx rfl rfl rfl ?_; refine yC (c2) rfl rfl ?_; refine yMp rfl ?_; refine yX rfl rfl ?_; refine yX rfl rfl ?_; refine yAd rfl ?_; refine yAd rfl ?_; refine yQ ?_; refine pw_region ?_
    refine yMt rfl ?_; refine yMd rfl ?_; refine yR (es := [[_]]) rfl rfl rfl rfl rfl ?_
    refine yT (es' := (zs ++ [x]).map dG) (m := ((zs ++ [x]).map dG).length) (by simp; omega) (by simp; omega) rfl rfl rfl rfl rfl (by simp) (by simp) ?_; refine yAt rfl ?_; refine yQ ?_; refine pw_region ?_; refine yMd rfl ?_
    refine yB rfl rfl rfl rfl ?_; refine yAd rfl ?_; refine yQ ?_; refine q_then ?_; rw [hw1]
    refine ⟨i + 1, by omega, by omega, rfl, ⟨.refl _, .refl _, .refl _, .of_eq (by rw [hn]; rfl), .of_eq (congrArg (fun n => SV.d (dI n)) (by omega)), trivial⟩, ⟨⟨_, rfl, .refl _, .refl _, trivial⟩, trivial⟩, ⟨(by rw [hn]; rfl), trivial⟩, rfl⟩
  · simp at h
    have e : (rdG t).take i = rdG t := List.take_of_length_le (rdG_len (by omega))
    rw [e]
    refine pw_exit ?_; refine pw_seq ?_; refine pw_region ?_; refine yMd rfl ?_; refine yMt rfl ?_; refine yG (ys := [_, _]) rfl rfl ?_; refine yS (cs' := [_, _]) rfl rfl rfl rfl rfl ?_; refine yQ ?_; refine pw_ret ?_
    exact q_ret _ (.agg inferInstance rfl rfl rfl rfl .nil) rfl
end Go.Proofs.YtmfeinilbjfnpaaGreatDoor
set_option maxHeartbeats 1000000
namespace Go.Proofs.YtmfeinilbjfnpaaGreatDoor

def gat (l : List Nat) (i : Nat) : Nat := l[i]?.getD 0
theorem gat_lt {l : List Nat} (h : gok l) (i : Nat) : gat l i < 1000000000 := by
  unfold gat
  cases e : l[i]? with
  | none => simp
  | some x => exact h x (List.mem_of_getElem? e)
theorem gat_ge {l : List Nat} {i : Nat} (h : l.length ≤ i) : gat l i = 0 := by unfold gat; rw [List.getElem?_eq_none h]; rfl
theorem gat_get {l : List Nat} {i x : Nat} (h : l[i]? = some x) : gat l i = x := by unfold gat; rw [h]; rfl
theorem gval_take (l : List Nat) (i : Nat) : gval (l.take (i + 1)) = gval (l.take i) + 1000000000 ^ i * gat l i := by
  rcases Nat.lt_or_ge i l.length with h | h
  · rw [List.take_add_one, gval_append, List.getElem?_eq_getElem h, gat_get (List.getElem?_eq_getElem h)]
    simp [gval, Nat.min_eq_left (Nat.le_of_lt h)]
  · rw [List.take_of_length_le (by omega), List.take_of_length_le h, gat_ge h]
    simp
theorem gval_snoc (l : List Nat) (x : Nat) : gval (l ++ [x]) = gval l + 1000000000 ^ l.length * x := by rw [gval_append]; simp [gval]
theorem gok_snoc {l : List Nat} {x : Nat} (h : gok l) (hx : x < 1000000000) : gok (l ++ [x]) := gok_append.2 ⟨h, by intro y hy; have : y = x := by simpa using hy
                                                                                                                    omega⟩
/-! sums -/
def addS (m n : List Nat) : Nat → List Nat × Nat
  | 0 => ([], 0)
  | i + 1 => ((addS m n i).1 ++ [(gat m i + (addS m n i).2 + gat n i) % 1000000000], (gat m i + (addS m n i).2 + gat n i) / 1000000000)
theorem addS_spec {m n : List Nat} (hm : gok m) (hn : gok n) (i : Nat) : (addS m n i).1.length = i ∧ gok (addS m n i).1 ∧ (addS m n i).2 ≤ 1 ∧ gval (addS m n i).1 + 1000000000 ^ i * (addS m n i).2 = gval (m.take i) + gval (n.take i) := by
  induction i with
  | zero => simp [addS, gval, gok]
  | succ i ih =>
    obtain ⟨h1, h2, h3, h4⟩ := ih
    have a1 := gat_lt hm i
    have a2 := gat_lt hn i
    obtain ⟨v, hv⟩ : ∃ v, v = gat m i + (addS m n i).2 + gat n i := ⟨_, rfl⟩
    rw [addS, ← hv]
    refine ⟨by simp [h1], gok_snoc h2 (by omega), by show v / 1000000000 ≤ 1; omega, ?_⟩
    show gval ((addS m n i).1 ++ [v % 1000000000]) + 1000000000 ^ (i + 1) * (v / 1000000000) = _
    rw [gval_snoc, h1, gval_take, gval_take, Nat.pow_succ]
    obtain ⟨p, hp⟩ : ∃ p, p = 1000000000 ^ i := ⟨_, rfl⟩
    rw [← hp] at h4 ⊢
    have e1 : p * (v % 1000000000) + p * 1000000000 * (v / 1000000000) = p * v := by
      rw [Nat.mul_assoc, ← Nat.mul_add, Nat.mod_add_div]
    have e2 : p * v = p * gat m i + p * (addS m n i).2 + p * gat n i := by rw [hv, Nat.mul_add, Nat.mul_add]
    omega
def plusG (m n : List Nat) : List Nat := (addS m n (max m.length n.length)).1 ++ (if 0 < (addS m n (max m.length n.length)).2 then [(addS m n (max m.length n.length)).2] else [])
theorem addS_comm (m n : List Nat) (i : Nat) : addS m n i = addS n m i := by
  induction i with
  | zero => rfl
  | succ i ih => rw [addS, addS, ih, show gat m i + (addS n m i).2 + gat n i = gat n i + (addS n m i).2 + gat m i by omega]
theorem plusG_comm (m n : List Nat) : plusG m n = plusG n m := by unfold plusG; rw [addS_comm, Nat.max_comm]
theorem plusG_spec {m n : List Nat} (hm : gok m) (hn : gok n) : gok (plusG m n) ∧ gval (plusG m n) = gval m + gval n := by
  obtain ⟨h1, h2, h3, h4⟩ := addS_spec hm hn (max m.length n.length)
  rw [List.take_of_length_le (by omega), List.take_of_length_le (by omega)] at h4
  unfold plusG
  split
  · refine ⟨gok_snoc h2 (by omega), ?_⟩
    rw [gval_snoc, h1]
    exact h4
  · rename_i h
    rw [show (addS m n (max m.length n.length)).2 = 0 by omega] at h4
    simpa using ⟨h2, h4⟩
/-! differences -/
def subS (m n : List Nat) : Nat → List Nat × Nat
  | 0 => ([], 0)
  | i + 1 => if gat m i < (subS m n i).2 + gat n i then ((subS m n i).1 ++ [gat m i + 1000000000 - ((subS m n i).2 + gat n i)], 1) else ((subS m n i).1 ++ [gat m i - ((subS m n i).2 + gat n i)], 0)
theorem subS_spec {m n : List Nat} (hm : gok m) (hn : gok n) (i : Nat) : (subS m n i).1.length = i ∧ gok (subS m n i).1 ∧ (subS m n i).2 ≤ 1 ∧ gval (subS m n i).1 + gval (n.take i) = gval (m.take i) + 1000000000 ^ i * (subS m n i).2 := by
  induction i with
  | zero => simp [subS, gval, gok]
  | succ i ih =>
    obtain ⟨h1, h2, h3, h4⟩ := ih
    have a1 := gat_lt hm i
    have a2 := gat_lt hn i
    rw [gval_take, gval_take, Nat.pow_succ]
    obtain ⟨c, hc⟩ : ∃ c, c = (subS m n i).2 := ⟨_, rfl⟩
    obtain ⟨p, hp⟩ : ∃ p, p = 1000000000 ^ i := ⟨_, rfl⟩
    rw [subS]
    rw [← hc] at h3 h4 ⊢
    rw [← hp] at h4 ⊢
    split
    · rename_i h
      refine ⟨by simp [h1], gok_snoc h2 (by omega), Nat.le_refl _, ?_⟩
      simp only
      rw [gval_snoc, h1, ← hp]
      obtain ⟨d, hd⟩ : ∃ d, d = gat m i + 1000000000 - (c + gat n i) := ⟨_, rfl⟩
      rw [← hd]
      have e1 : p * d + p * c + p * gat n i = p * gat m i + p * 1000000000 := by
        rw [← Nat.mul_add, ← Nat.mul_add, ← Nat.mul_add]
        congr 1
        omega
      omega
    · rename_i h
      refine ⟨by simp [h1], gok_snoc h2 (by omega), Nat.zero_le _, ?_⟩
      simp only
      rw [gval_snoc, h1, ← hp]
      obtain ⟨d, hd⟩ : ∃ d, d = gat m i - (c + gat n i) := ⟨_, rfl⟩
      rw [← hd]
      have e1 : p * d + p * c + p * gat n i = p * gat m i := by
        rw [← Nat.mul_add, ← Nat.mul_add]
        congr 1
        omega
      omega
theorem subS_end {m n : List Nat} (hm : gok m) (hn : gok n) (hl : n.length ≤ m.length) (hle : gval n ≤ gval m) : gok (subS m n m.length).1 ∧ gval (subS m n m.length).1 = gval m - gval n := by
  obtain ⟨h1, h2, h3, h4⟩ := subS_spec hm hn m.length
  rw [List.take_of_length_le (Nat.le_refl _), List.take_of_length_le hl] at h4
  refine ⟨h2, ?_⟩
  have h5 := gval_lt h2
  rw [h1] at h5
  rcases Nat.le_one_iff_eq_zero_or_eq_one.1 h3 with h6 | h6
  · rw [h6] at h4; omega
  · rw [h6] at h4; omega
/-! products -/
theorem gval_set {l : List Nat} {j : Nat} (h : j < l.length) (v : Nat) : gval (l.set j v) + 1000000000 ^ j * gat l j = gval l + 1000000000 ^ j * v := by
  induction l generalizing j with
  | nil => simp at h
  | cons x l ih =>
    cases j with
    | zero => simp [gval, gat]; omega
    | succ j =>
      have := ih (j := j) (by simpa using h)
      have e1 : gat (x :: l) (j + 1) = gat l j := by simp [gat]
      rw [List.set_cons_succ, gval, gval, e1, Nat.pow_succ]
      obtain ⟨p, hp⟩ : ∃ p, p = 1000000000 ^ j := ⟨_, rfl⟩
      rw [← hp] at this ⊢
      have e2 : p * 1000000000 * gat l j = 1000000000 * (p * gat l j) := by rw [Nat.mul_comm p, Nat.mul_assoc]
      have e3 : p * 1000000000 * v = 1000000000 * (p * v) := by rw [Nat.mul_comm p, Nat.mul_assoc]
      omega
theorem gok_set {l : List Nat} (h : gok l) (j : Nat) {v : Nat} (hv : v < 1000000000) : gok (l.set j v) := fun x hx => by
  rcases List.mem_or_eq_of_mem_set hx with h1 | h1
  · exact h x h1
  · omega
theorem gat_set (l : List Nat) (j i v : Nat) (hj : j < l.length) : gat (l.set j v) i = if i = j then v else gat l i := by
  unfold gat
  by_cases h : i = j
  · subst h; rw [List.getElem?_set_self hj]; simp
  · rw [List.getElem?_set_ne (Ne.symm h), if_neg h]
def mulI (out : List Nat) (x : Nat) (n : List Nat) (i : Nat) : Nat → List Nat × Nat
  | 0 => (out, 0)
  | k + 1 => ((mulI out x n i k).1.set (i + k) (((mulI out x n i k).2 + (gat (mulI out x n i k).1 (i + k) + x * gat n k)) % 1000000000), ((mulI out x n i k).2 + (gat (mulI out x n i k).1 (i + k) + x * gat n k)) / 1000000000)
theorem mul_bound {x y c o : Nat} (hx : x < 1000000000) (hy : y < 1000000000) (hc : c < 1000000000) (ho : o < 1000000000) : c + (o + x * y) < 1000000000000000000 ∧ (c + (o + x * y)) / 1000000000 < 1000000000 := by
  have : x * y ≤ 999999999 * 999999999 := Nat.mul_le_mul (by omega) (by omega)
  omega
theorem mulI_spec {out n : List Nat} {x i : Nat} (ho : gok out) (hn : gok n) (hx : x < 1000000000) (k : Nat) (hk : i + k ≤ out.length) :
    (mulI out x n i k).1.length = out.length ∧ gok (mulI out x n i k).1 ∧ (mulI out x n i k).2 < 1000000000 ∧ gval (mulI out x n i k).1 + 1000000000 ^ (i + k) * (mulI out x n i k).2 = gval out + 1000000000 ^ i * (x * gval (n.take k)) ∧ ∀ j, i + k ≤ j → gat (mulI out x n i k).1 j = gat out j := by
  induction k with
  | zero => refine ⟨rfl, ho, by simp [mulI], by simp [mulI, gval], fun _ _ => rfl⟩
  | succ k ih =>
    obtain ⟨h1, h2, h3, h4, h5⟩ := ih (by omega)
    have a1 := gat_lt h2 (i + k)
    have a2 := gat_lt hn k
    obtain ⟨b1, b2⟩ := mul_bound hx a2 h3 a1
    obtain ⟨s, hs⟩ : ∃ s, s = mulI out x n i k := ⟨_, rfl⟩
    rw [mulI]
    rw [← hs] at h1 h2 h3 h4 h5 a1 b1 b2 ⊢
    obtain ⟨v, hv⟩ : ∃ v, v = s.2 + (gat s.1 (i + k) + x * gat n k) := ⟨_, rfl⟩
    rw [← hv] at b1 b2 ⊢
    refine ⟨by simp [h1], gok_set h2 _ (Nat.mod_lt _ (by omega)), b2, ?_, fun j hj => ?_⟩
    · simp only
      have e0 := gval_set (l := s.1) (j := i + k) (by omega) (v % 1000000000)
      rw [gval_take, ← Nat.add_assoc, Nat.pow_succ]
      obtain ⟨p, hp⟩ : ∃ p, p = 1000000000 ^ (i + k) := ⟨_, rfl⟩
      have hpp : 1000000000 ^ i * 1000000000 ^ k = p := by rw [hp, Nat.pow_add]
      rw [← hp] at e0 h4 ⊢
      have e1 : p * (v % 1000000000) + p * 1000000000 * (v / 1000000000) = p * v := by
        rw [Nat.mul_assoc, ← Nat.mul_add, Nat.mod_add_div]
      have e2 : p * v = p * s.2 + (p * gat s.1 (i + k) + p * (x * gat n k)) := by rw [hv, Nat.mul_add, Nat.mul_add]
      have e3 : 1000000000 ^ i * (x * (gval (n.take k) + 1000000000 ^ k * gat n k)) = 1000000000 ^ i * (x * gval (n.take k)) + p * (x * gat n k) := by
        rw [Nat.mul_add, Nat.mul_add, ← hpp]
        congr 1
        rw [Nat.mul_assoc, Nat.mul_left_comm x]
      omega
    · simp only
      rw [gat_set _ _ _ _ (by omega), if_neg (by omega)]
      exact h5 j (by omega)
def mulR (m n : List Nat) : Nat → List Nat
  | 0 => List.replicate (m.length + n.length) 0
  | i + 1 => if n.length = 0 then (mulI (mulR m n i) (gat m i) n i n.length).1 else (mulI (mulR m n i) (gat m i) n i n.length).1.set (i + n.length) (gat (mulI (mulR m n i) (gat m i) n i n.length).1 (i + n.length) + (mulI (mulR m n i) (gat m i) n i n.length).2)
theorem gval_zeros (k : Nat) : gval (List.replicate k 0) = 0 := by
  induction k with
  | zero => rfl
  | succ k ih => rw [List.replicate_succ, gval, ih]
theorem mulR_spec {m n : List Nat} (hm : gok m) (hn : gok n) (i : Nat) (hi : i ≤ m.length) : (mulR m n i).length = m.length + n.length ∧ gok (mulR m n i) ∧ gval (mulR m n i) = gval (m.take i) * gval n ∧ ∀ j, i + n.length ≤ j → gat (mulR m n i) j = 0 := by
  induction i with
  | zero =>
    refine ⟨by simp [mulR], fun x hx => by rw [List.eq_of_mem_replicate hx]; omega, by simp [mulR, gval_zeros, gval], fun j _ => ?_⟩
    simp only [mulR, gat, List.getElem?_replicate]
    split <;> rfl
  | succ i ih =>
    obtain ⟨h1, h2, h3, h4⟩ := ih (by omega)
    have a1 := gat_lt hm i
    obtain ⟨q1, q2, q3, q4, q5⟩ := mulI_spec (i := i) h2 hn a1 n.length (by omega)
    rw [List.take_of_length_le (Nat.le_refl _)] at q4
    rw [gval_take, Nat.add_mul, ← h3]
    obtain ⟨s, hs⟩ : ∃ s, s = mulI (mulR m n i) (gat m i) n i n.length := ⟨_, rfl⟩
    rw [mulR]
    rw [← hs] at q1 q2 q3 q4 q5 ⊢
    by_cases h0 : n.length = 0
    · rw [if_pos h0]
      have hn0 : n = [] := List.eq_nil_of_length_eq_zero h0
      have hs2 : s = (mulR m n i, 0) := by rw [hs, h0]; rfl
      refine ⟨by omega, q2, ?_, fun j hj => ?_⟩
      · rw [hs2, hn0]; simp [gval]
      · rw [hs2]; exact h4 j (by omega)
    · rw [if_neg h0]
      have z : gat s.1 (i + n.length) = 0 := by rw [q5 _ (Nat.le_refl _)]; exact h4 _ (Nat.le_refl _)
      rw [z, Nat.zero_add]
      refine ⟨by simp; omega, gok_set q2 _ q3, ?_, fun j hj => ?_⟩
      · have e0 := gval_set (l := s.1) (j := i + n.length) (by omega) s.2
        rw [z, Nat.mul_zero, Nat.add_zero] at e0
        rw [e0, q4, Nat.mul_assoc]
      · rw [gat_set _ _ _ _ (by omega), if_neg (by omega), q5 j (by omega)]
        exact h4 j (by omega)
theorem mulR_end {m n : List Nat} (hm : gok m) (hn : gok n) : gok (mulR m n m.length) ∧ gval (mulR m n m.length) = gval m * gval n := by
  obtain ⟨-, h2, h3, -⟩ := mulR_spec hm hn m.length (Nat.le_refl _)
  rw [List.take_of_length_le (Nat.le_refl _)] at h3
  exact ⟨h2, h3⟩
/-! comparisons -/
def cmpT (m n : List Nat) : Nat → Int
  | 0 => 0
  | i + 1 => if gat m i < gat n i then -1 else if gat n i < gat m i then 1 else cmpT m n i
theorem cmpT_spec {m n : List Nat} (hm : gok m) (hn : gok n) (i : Nat) : cmpT m n i = if gval (m.take i) < gval (n.take i) then -1 else if gval (n.take i) < gval (m.take i) then 1 else 0 := by
  induction i with
  | zero => simp [cmpT, gval]
  | succ i ih =>
    have gtk : ∀ {l : List Nat}, gok l → gval (l.take i) < 1000000000 ^ i := fun {l} h => by
      have h1 : gok (l.take i) := fun x hx => h x (List.mem_of_mem_take hx)
      refine Nat.lt_of_lt_of_le (gval_lt h1) (Nat.pow_le_pow_right (by omega) ?_)
      rw [List.length_take]; omega
    have b1 := gtk hm
    have b2 := gtk hn
    rw [cmpT, ih, gval_take, gval_take]
    obtain ⟨p, hp⟩ : ∃ p, p = 1000000000 ^ i := ⟨_, rfl⟩
    rw [← hp] at b1 b2 ⊢
    rcases Nat.lt_trichotomy (gat m i) (gat n i) with h | h | h
    · rw [if_pos h]
      have : p * (gat m i + 1) ≤ p * gat n i := Nat.mul_le_mul_left _ h
      rw [Nat.mul_add] at this
      rw [if_pos (by omega)]
    · simp only [h, Nat.lt_irrefl, if_false, Nat.add_lt_add_iff_right]
    · have : p * (gat n i + 1) ≤ p * gat m i := Nat.mul_le_mul_left _ h
      rw [Nat.mul_add] at this
      rw [if_neg (by omega), if_pos h, if_neg (by omega), if_pos (by omega)]
theorem grp_ge {n : Nat} (h : n ≠ 0) : 1000000000 ^ ((grp n).length - 1) ≤ n := by
  induction n using Nat.strongRecOn with
  | _ n ih =>
    rw [grp_pos h, List.length_cons, Nat.add_sub_cancel]
    by_cases h' : n / 1000000000 = 0
    · rw [h', grp_zero]; simp; omega
    · have h1 := ih (n / 1000000000) (Nat.div_lt_self (by omega) (by omega)) h'
      have h2 : 0 < (grp (n / 1000000000)).length := List.length_pos_iff.2 fun e => h' (grp_nil.1 e)
      obtain ⟨k, hk⟩ : ∃ k, (grp (n / 1000000000)).length = k + 1 := ⟨_, (Nat.sub_add_cancel h2).symm⟩
      rw [hk, Nat.add_sub_cancel] at h1
      rw [hk, Nat.pow_succ]
      omega
theorem grp_lt_of_len {x y : Nat} (h : (grp x).length < (grp y).length) : x < y := by
  have hy : y ≠ 0 := fun e => by rw [e, grp_zero] at h; simp at h
  have h1 := grp_ge hy
  have h2 := gval_lt (gok_grp x)
  rw [gval_grp] at h2
  have h3 : 1000000000 ^ (grp x).length ≤ 1000000000 ^ ((grp y).length - 1) := Nat.pow_le_pow_right (by omega) (by omega)
  omega
/-- what the comparison of two numbers in groups gives -/
def cmpG (m n : List Nat) : Int := if m.length ≠ n.length then (m.length : Int) - n.length else cmpT m n m.length
theorem cmpG_spec (x y : Nat) : (cmpG (grp x) (grp y) < 0 ↔ x < y) ∧ (0 < cmpG (grp x) (grp y) ↔ y < x) := by
  unfold cmpG
  by_cases h : (grp x).length = (grp y).length
  · rw [if_neg (by simpa using h), cmpT_spec (gok_grp x) (gok_grp y), List.take_of_length_le (Nat.le_refl _), List.take_of_length_le (by omega), gval_grp, gval_grp]
    rcases Nat.lt_trichotomy x y with h1 | h1 | h1
    · rw [if_pos h1]; omega
    · rw [if_neg (by omega), if_neg (by omega)]; omega
    · rw [if_neg (by omega), if_pos h1]; omega
  · rw [if_pos h]
    rcases Nat.lt_or_gt_of_ne h with h1 | h1
    · have := grp_lt_of_len h1; omega
    · have := grp_lt_of_len h1; omega
end Go.Proofs.YtmfeinilbjfnpaaGreatDoor
namespace Go.Proofs.YtmfeinilbjfnpaaGreatDoor
open Go.RowKit Px

set_option maxRecDepth 20000 in
set_option maxHeartbeats 2000000 in
theorem wCut (l : List Nat) (hl : l.length ≤ 1000000) : PCalls Tryz.prog 89 [.sl 1 (l.map dG)] (.d (.sl 1 ((cutG l).map dG))) := by
  obtain ⟨r, hr⟩ : ∃ r, r = cutG l := ⟨_, rfl⟩
  rw [← hr]
  refine pcalls_of_pw Tryz.func89 rfl Tryz.ntmps89 Tryz.results89 (by simp) fun B w0 => ?_
  refine pw_seq ?_; refine pw_region ?_; refine yAd rfl ?_; refine yQ ?_; refine pw_seq ?_; refine pw_block ?_
  refine pw_loop (fun n : Nat => ⟨21, [(0, .d (.sl 1 ((l.take n).map dG)))], [], []⟩) (fun n => n ≤ l.length ∧ cutG (l.take n) = r) (fun n => n) l.length ⟨Nat.le_refl _, by rw [List.take_length, hr]⟩
    ⟨rfl, ⟨.of_eq (by rw [List.take_length]; rfl), trivial⟩, trivial, trivial, rfl⟩ ?_
  rintro n ⟨hn, hc⟩
  have hlen : (l.take n).length = n := by rw [List.length_take]; omega
  have hnx : ∀ x, (l.take n)[n - 1]? = some x → 0 < n → l.take n = l.take (n - 1) ++ [x] := fun x hx h0 => by
    obtain ⟨m, rfl⟩ : ∃ m, n = m + 1 := ⟨n - 1, by omega⟩
    rw [List.getElem?_take_of_lt (by omega)] at hx
    rw [List.take_add_one, Nat.add_sub_cancel] at *
    rw [hx]; rfl
  have htk : ((l.take n).map dG).take (((n - 1 : Nat) : Int)).toNat = (l.take (n - 1)).map dG := by
    rw [Int.toNat_natCast, ← List.map_take, List.take_take, Nat.min_eq_left (by omega)]
  obtain ⟨c, hcc⟩ : ∃ c, c = l.take n := ⟨_, rfl⟩
  rw [← hcc] at hc hlen hnx htk ⊢
  rcases Nat.eq_zero_or_pos n with h0 | h0
  · have hc0 : c = [] := List.length_eq_zero_iff.1 (by omega)
    subst hc0
    have hr0 : r = [] := hc.symm
    subst hr0
    refine pw_seq ?_; refine pw_seq ?_; refine pw_region ?_; refine yMd rfl ?_; refine yN rfl ?_; refine yB rfl rfl rfl rfl ?_; refine yMd rfl ?_; refine yO rfl ?_; refine yO rfl ?_; refine yO rfl ?_; refine yO rfl ?_; refine yO rfl ?_
    refine yO rfl ?_; refine yO rfl ?_; refine yVd rfl rfl ?_; refine yQ ?_; refine pw_cf rfl ?_; refine pw_exit ?_; refine pw_seq ?_; refine pw_region ?_; refine yMd rfl ?_; refine yAd rfl ?_; refine yQ ?_; refine pw_ret ?_
    exact q_ret _ (.tmp rfl .nil) rfl
  have u1 : decide (((c.map dG).length : Int) > 0) = true := decide_eq_true (by rw [List.length_map]; omega)
  obtain ⟨x, hx⟩ : ∃ x, c[n - 1]? = some x := ⟨_, List.getElem?_eq_getElem (by omega)⟩
  have ex := ix dG c ((n - 1 : Nat) : Int) (n - 1) x rfl hx
  have hw : IntKind.i64.wrap (((c.map dG).length : Int) - 1) = ((n - 1 : Nat) : Int) := by rw [List.length_map, wrapI _ (by omega)]; omega
  have hcl : ((n - 1 : Nat) : Int) ≤ ((c.map dG).length : Int) := by rw [List.length_map]; omega
  have hs := hnx x hx h0
  have hcs := cutG_snoc (l.take (n - 1)) x
  rw [← hs, hc] at hcs
  rcases Nat.eq_zero_or_pos x with hx0 | hx0
  · subst hx0
    rw [if_pos rfl] at hcs
    refine pw_seq ?_; refine pw_seq ?_; refine pw_region ?_; refine yMd rfl ?_; refine yN rfl ?_; refine yB rfl rfl rfl rfl ?_; refine yMd rfl ?_; rw [u1]; refine yMd rfl ?_; refine yMd rfl ?_; refine yN rfl ?_
    refine yB rfl rfl rfl rfl ?_; rw [hw]; refine yW ex (by omega) rfl rfl ?_; refine yLr rfl rfl ?_; refine yB rfl rfl rfl rfl ?_; refine yPd rfl rfl ?_; refine yQ ?_; refine pw_ct rfl ?_; refine pw_skip ?_; refine pw_block ?_
    refine pw_region ?_; refine yMd rfl ?_; refine yMd rfl ?_; refine yN rfl ?_; refine yB rfl rfl rfl rfl ?_; rw [hw]; refine yDh (by omega) hcl rfl rfl ?_; refine yAd rfl ?_; refine yQ ?_; refine q_blk ?_; refine q_then ?_
    exact ⟨n - 1, ⟨by omega, hcs.symm⟩, by omega, rfl, ⟨.of_eq (by rw [← htk]; rfl), trivial⟩, trivial, trivial, rfl⟩
  · rw [if_neg (by omega)] at hcs
    have u2 : ((x : Int) == 0) = false := by simp; omega
    refine pw_seq ?_; refine pw_seq ?_; refine pw_region ?_; refine yMd rfl ?_; refine yN rfl ?_; refine yB rfl rfl rfl rfl ?_; refine yMd rfl ?_; rw [u1]; refine yMd rfl ?_; refine yMd rfl ?_; refine yN rfl ?_
    refine yB rfl rfl rfl rfl ?_; rw [hw]; refine yW ex (by omega) rfl rfl ?_; refine yLr rfl rfl ?_; refine yB rfl rfl rfl rfl ?_; refine yPd rfl rfl ?_; refine yQ ?_; refine q_then ?_; rw [u2]; refine pw_cf rfl ?_; refine pw_exit ?_
    refine pw_seq ?_; refine pw_region ?_; refine yMd rfl ?_; refine yAd rfl ?_; refine yQ ?_; refine pw_ret ?_
    rw [hcs]
    exact q_ret _ (.tmp rfl .nil) rfl
theorem cmpT_next {m n : List Nat} (i : Nat) {x y : Nat} (hx : m[i]? = some x) (hy : n[i]? = some y) : cmpT m n (i + 1) = if x < y then -1 else if y < x then 1 else cmpT m n i := by
  rw [cmpT, gat_get hx, gat_get hy]
set_option maxRecDepth 20000 in
set_option maxHeartbeats 2000000 in
theorem wCompare (l r : List Nat) (hl : l.length ≤ 1000000) (hr : r.length ≤ 1000000) : PCalls Tryz.prog 81 [.sl 1 (l.map dG), .sl 1 (r.map dG)] (.d (dI (cmpG l r))) := by
  unfold cmpG
  by_cases hne : l.length ≠ r.length
  · rw [if_pos hne]
    have u1 : (((l.map dG).length : Int) != ((r.map dG).length : Int)) = true := by simp; omega
    have hw : IntKind.i64.wrap (((l.map dG).length : Int) - ((r.map dG).length : Int)) = (l.length : Int) - r.length := by rw [List.length_map, List.length_map, wrapI _ (by omega)]
    refine pcalls_of_pw Tryz.func81 rfl Tryz.ntmps81 Tryz.results81 (by simp) fun B w0 => ?_
    refine pw_seq ?_; refine pw_region ?_; refine yAd rfl ?_; refine yQ ?_; refine pw_seq ?_; refine pw_seq ?_; refine pw_region ?_; refine yMd rfl ?_; refine yN rfl ?_; refine yMd rfl ?_; refine yN rfl ?_; refine yB rfl rfl rfl rfl ?_
    refine yQ ?_; refine q_then ?_; rw [u1]; refine pw_ct rfl ?_; refine pw_seq ?_; refine pw_region ?_; refine yMd rfl ?_; refine yN rfl ?_; refine yMd rfl ?_; refine yN rfl ?_; refine yB rfl rfl rfl rfl ?_; refine yAd rfl ?_
    refine yQ ?_; refine pw_ret ?_; refine q_then_ret ?_; rw [hw]
    exact q_ret _ (.tmp rfl .nil) rfl
  rw [if_neg hne]
  have hlr : l.length = r.length := by omega
  have u1 : (((l.map dG).length : Int) != ((r.map dG).length : Int)) = false := by simp; omega
  obtain ⟨z, hz⟩ : ∃ z, z = cmpT l r l.length := ⟨_, rfl⟩
  rw [← hz]
  have hw : IntKind.i64.wrap (((l.map dG).length : Int) - 1) = (l.length : Int) - 1 := by rw [List.length_map, wrapI _ (by omega)]
  refine pcalls_of_pw Tryz.func81 rfl Tryz.ntmps81 Tryz.results81 (by simp) fun B w0 => ?_
  refine pw_seq ?_; refine pw_region ?_; refine yAd rfl ?_; refine yQ ?_; refine pw_seq ?_; refine pw_seq ?_; refine pw_region ?_; refine yMd rfl ?_; refine yN rfl ?_; refine yMd rfl ?_; refine yN rfl ?_; refine yB rfl rfl rfl rfl ?_
  refine yQ ?_; refine q_then ?_; rw [u1]; refine pw_cf rfl ?_; refine pw_skip ?_; refine pw_seq ?_; refine pw_seq ?_; refine pw_region ?_; refine yMd rfl ?_; refine yN rfl ?_; refine yB rfl rfl rfl rfl ?_; refine yAd rfl ?_
  refine yQ ?_; refine pw_block ?_; rw [hw]
  refine pw_loop (fun i : Nat => ⟨43, [(0, .d (.sl 1 (l.map dG))), (1, .d (.sl 1 (r.map dG))), (5, .d (dI ((i : Int) - 1)))], [], []⟩) (fun i => i ≤ l.length ∧ cmpT l r i = z) (fun i => i) l.length ⟨Nat.le_refl _, hz.symm⟩
    ⟨rfl, ⟨.refl _, .refl _, .refl _, trivial⟩, trivial, trivial, rfl⟩ ?_
  rintro i ⟨hi, hc⟩
  rcases Nat.eq_zero_or_pos i with h0 | h0
  · subst h0
    have hz0 : z = 0 := hc.symm
    subst hz0
    have u2 : decide (((0 : Nat) : Int) - 1 ≥ 0) = false := decide_eq_false (by omega)
    refine pw_seq ?_; refine pw_seq ?_; refine pw_region ?_; refine yMd rfl ?_; refine yB rfl rfl rfl rfl ?_; refine yQ ?_; refine pw_cf rfl ?_; refine pw_exit ?_; refine pw_seq ?_; refine pw_region ?_; refine yAd rfl ?_; refine yQ ?_
    refine pw_ret ?_; rw [u2]
    exact q_ret _ (.tmp rfl .nil) rfl
  obtain ⟨j, rfl⟩ : ∃ j, i = j + 1 := ⟨i - 1, by omega⟩
  have u2 : decide (((j + 1 : Nat) : Int) - 1 ≥ 0) = true := decide_eq_true (by omega)
  obtain ⟨x, hx⟩ : ∃ x, l[j]? = some x := ⟨_, List.getElem?_eq_getElem (by omega)⟩
  obtain ⟨y, hy⟩ : ∃ y, r[j]? = some y := ⟨_, List.getElem?_eq_getElem (by omega)⟩
  have ex := ix dG l (((j + 1 : Nat) : Int) - 1) j x (by omega) hx
  have ey := ix dG r (((j + 1 : Nat) : Int) - 1) j y (by omega) hy
  have hn := cmpT_next j hx hy
  rw [hc] at hn
  have hw2 : IntKind.i64.wrap (((j + 1 : Nat) : Int) - 1 - 1) = (j : Int) - 1 := by rw [wrapI _ (by omega)]; omega
  by_cases hxy : x < y
  · rw [if_pos hxy] at hn
    have u3 : decide ((x : Int) < (y : Int)) = true := decide_eq_true (by omega)
    subst hn
    refine pw_seq ?_; refine pw_seq ?_; refine pw_region ?_; refine yMd rfl ?_; refine yB rfl rfl rfl rfl ?_; refine yQ ?_; refine q_then ?_; rw [u2]; refine pw_ct rfl ?_; refine pw_skip ?_; refine pw_seq ?_; refine pw_block ?_
    refine pw_block ?_; refine pw_seq ?_; refine pw_draw Tryz.mixed (by kernel_rfl) ?_; refine yMd rfl ?_; refine yMd rfl ?_; refine yW ex (by omega) rfl rfl ?_; refine yLr rfl rfl ?_; refine yMd rfl ?_; refine yMd rfl ?_
    refine yW ey (by omega) rfl rfl ?_; refine yLr rfl rfl ?_; refine yB rfl rfl rfl rfl ?_; refine yAd rfl ?_; refine yQ ?_; refine q_then ?_; rw [u3]; refine pw_ct rfl ?_; refine pw_seq ?_; refine pw_region ?_; refine yAd rfl ?_
    refine yQ ?_; refine pw_ret ?_; refine q_blk_ret ?_; refine q_blk_ret ?_; refine q_then_ret ?_; refine q_then_ret ?_; refine q_blk_ret ?_; refine q_then_ret ?_
    exact q_ret _ (.tmp rfl .nil) rfl
  rw [if_neg hxy] at hn
  have u3 : decide ((x : Int) < (y : Int)) = false := decide_eq_false (by omega)
  by_cases hyx : y < x
  · rw [if_pos hyx] at hn
    have u4 : decide ((x : Int) > (y : Int)) = true := decide_eq_true (by omega)
    subst hn
    refine pw_seq ?_; refine pw_seq ?_; refine pw_region ?_; refine yMd rfl ?_; refine yB rfl rfl rfl rfl ?_; refine yQ ?_; refine q_then ?_; rw [u2]; refine pw_ct rfl ?_; refine pw_skip ?_; refine pw_seq ?_; refine pw_block ?_
    refine pw_block ?_; refine pw_seq ?_; refine pw_draw Tryz.mixed (by kernel_rfl) ?_; refine yMd rfl ?_; refine yMd rfl ?_; refine yW ex (by omega) rfl rfl ?_; refine yLr rfl rfl ?_; refine yMd rfl ?_; refine yMd rfl ?_
    refine yW ey (by omega) rfl rfl ?_; refine yLr rfl rfl ?_; refine yB rfl rfl rfl rfl ?_; refine yAd rfl ?_; refine yQ ?_; refine q_then ?_; rw [u3]; refine pw_cf rfl ?_; refine pw_seq ?_; refine pw_draw Tryz.mixed (by kernel_rfl) ?_
    refine yMd rfl ?_; refine yMd rfl ?_; refine yW ex (by omega) rfl rfl ?_; refine yLr rfl rfl ?_; refine yMd rfl ?_; refine yMd rfl ?_; refine yW ey (by omega) rfl rfl ?_; refine yLr rfl rfl ?_; refine yB rfl rfl rfl rfl ?_
    refine yAd rfl ?_; refine yQ ?_; refine q_then ?_; rw [u4]; refine pw_ct rfl ?_; refine pw_seq ?_; refine pw_region ?_; refine yAd rfl ?_; refine yQ ?_; refine pw_ret ?_; refine q_blk_ret ?_; refine q_blk_ret ?_
    refine q_then_ret ?_; refine q_then_ret ?_; refine q_blk_ret ?_; refine q_then_ret ?_
    exact q_ret _ (.tmp rfl .nil) rfl
  rw [if_neg hyx] at hn
  have u4 : decide ((x : Int) > (y : Int)) = false := decide_eq_false (by omega)
  refine pw_seq ?_; refine pw_seq ?_; refine pw_region ?_; refine yMd rfl ?_; refine yB rfl rfl rfl rfl ?_; refine yQ ?_; refine q_then ?_; rw [u2]; refine pw_ct rfl ?_; refine pw_skip ?_; refine pw_seq ?_; refine pw_block ?_
  refine pw_block ?_; refine pw_seq ?_; refine pw_draw Tryz.mixed (by kernel_rfl) ?_; refine yMd rfl ?_; refine yMd rfl ?_; refine yW ex (by omega) rfl rfl ?_; refine yLr rfl rfl ?_; refine yMd rfl ?_; refine yMd rfl ?_
  refine yW ey (by omega) rfl rfl ?_; refine yLr rfl rfl ?_; refine yB rfl rfl rfl rfl ?_; refine yAd rfl ?_; refine yQ ?_; refine q_then ?_; rw [u3]; refine pw_cf rfl ?_; refine pw_seq ?_; refine pw_draw Tryz.mixed (by kernel_rfl) ?_
  refine yMd rfl ?_; refine yMd rfl ?_; refine yW ex (by omega) rfl rfl ?_; refine yLr rfl rfl ?_; refine yMd rfl ?_; refine yMd rfl ?_; refine yW ey (by omega) rfl rfl ?_; refine yLr rfl rfl ?_; refine yB rfl rfl rfl rfl ?_
  refine yAd rfl ?_; refine yQ ?_; refine q_then ?_; rw [u4]; refine pw_cf rfl ?_; refine pw_skip ?_; refine pw_region ?_; refine yMd rfl ?_; refine yB rfl rfl rfl rfl ?_; refine yAd rfl ?_; refine yQ ?_; refine q_then ?_; rw [hw2]
  exact ⟨j, ⟨by omega, hn.symm⟩, by omega, rfl, ⟨.refl _, .refl _, .refl _, trivial⟩, trivial, trivial, rfl⟩
end Go.Proofs.YtmfeinilbjfnpaaGreatDoor
set_option maxHeartbeats 1000000
namespace Go.Proofs.YtmfeinilbjfnpaaGreatDoor.Px
open Go.RowKit

/-- the block of a box is written anew, or is another one; no slot tells of the box any more -/
theorem Rep.rebox {B : Nat} {w0 : Cx} {g : Gh} {st : PS} {a : Act} {w w' : World} (h : Rep B w0 g st a w) {i b b' T : Nat} (hlt : i < 500000) (hsm : smB i) (hbl : g.bl i = some b) (hb0 : Below 0 w w') (hne : ∀ k, k < w.heap.size → k ≠ b → w'.heap[k]? = w.heap[k]?) (hbb : b' = b ∨ w.heap.size ≤ b')
    (xs : Array Value) (hheap : w'.heap[b']? = some (.cells xs T (0, 0))) (vs : List Value) (hl : vs.length ≤ xs.size) (hx : ∀ (j : Nat) u, vs[j]? = some u → xs[j]? = some u ∧ u.oneCell' = true) :
    Rep B w0 (g.addb i b') ((st.kill i).bput i (vs.map fun u => .d (.val u))) a w' := by
  have hbs : b' < w'.heap.size := (Array.getElem?_eq_some_iff.1 hheap).1
  have hothers : ∀ j c, j ≠ i → g.bl j = some c → c ≠ b' ∧ w'.heap[c]? = w.heap[c]? := fun j c hj hc => by
    have h1 : c ≠ b := fun e => hj (h.inj j i b (by rw [hc, e]) hbl)
    have h2 := (h.blk j c hc).2
    refine ⟨fun e => ?_, hne c h2 h1⟩
    rcases hbb with e2 | e2
    · exact h1 (e.trans e2)
    · omega
  have ev : Evo g w (g.addb i b') w' := by
    refine ⟨hb0, rfl, fun c o hf hs => ?_, fun c hc => ?_, fun j c hj => ?_, fun _ T h => .inl ⟨T, h, .inl rfl⟩, fun t T _ h h' => .inr (.inr ⟨t, T, h, h'⟩), fun j c hj hc hc' => ?_⟩
    · have hcl := see_lt hs
      have hcb : c ≠ b := fun e => hf.2.1 i (by rw [hbl, e])
      refine ⟨⟨hf.1, fun j hj => ?_, hf.2.2⟩, see_of_block (hne c hcl hcb) o⟩
      simp only [Gh.addb] at hj
      split at hj
      · cases hj
        rcases hbb with e2 | e2
        · exact hcb e2
        · omega
      · exact hf.2.1 j hj
    · rcases Nat.lt_or_ge c w.heap.size with h1 | h1
      · exact hne c h1 fun e => hc (.inr (.inl ⟨i, e ▸ hbl⟩))
      · exact absurd (.inl h1) hc
    · simp only [Gh.addb] at hj
      split at hj
      · rename_i e
        cases hj
        refine .inr ⟨e ▸ hsm, ?_⟩
        rcases hbb with e2 | e2
        · exact .inr (.inl ⟨i, e2 ▸ hbl⟩)
        · exact .inl e2
      · exact .inl hj
    · have hji : j ≠ i := fun e => hj (e ▸ hsm)
      exact shape_of_block (hothers j c hji hc).2
  have srep : ∀ v x, SRep g w v x → SRep (g.addb i b') w' v (x.kill i) := fun v x hx =>
    (hx.le (kill_le i x)).extp ev.fx (fun j hj c hc => by
      simp only [Gh.addb]
      rw [if_neg (kill_ids hj).2]
      exact hc) (fun t' k' es e T' hT' => ⟨T', hT', .inl rfl⟩) fun j hj c hc => shape_of_block (hothers j c (kill_ids hj).2 hc).2
  obtain ⟨-, hk⟩ := h.kill i
  have hxs : ∀ (j : Nat) c, (vs.map fun u => SV.d (.val u))[j]? = some c → ∃ x, xs[j]? = some x ∧ SRep (g.addb i b') w' x c := fun j c hj => by
    rw [List.getElem?_map, Option.map_eq_some_iff] at hj
    obtain ⟨u, hu, rfl⟩ := hj
    obtain ⟨h1, h2⟩ := hx j u hu
    exact ⟨u, h1, DRep.val u h2⟩
  refine { hk with evo := h.evo.trans ev, defers := h.defers.evo ev, base := Nat.le_trans h.base hb0.size, f0 := h.f0, lim := hk.lim, size := hk.size, glob := fun q cs hq => srep _ (.rd cs) (h.glob q cs hq), slots := fun j => ?_, boxes := fun j cs' hj hj5 => ?_, maps := fun j ms hj hge => ?_, blk := fun j c hj => ?_, dom := fun j c hj => ?_, inj := fun j k c hj hk => ?_, toks := fun t' T' hT' => ?_, tf0 := h.tf0, telt := h.telt, tdis := h.tdis, tdom := h.tdom, tlen := h.tlen }
  · show SRep _ w' _ ((st.kill i).get j)
    rw [kill_get]
    exact srep _ _ (h.slots j)
  · rw [bget_bput] at hj
    by_cases e : j = i
    · rw [if_pos e] at hj
      cases hj
      refine ⟨b', xs, T, by simp [Gh.addb, e], hheap, by simpa using hl, hxs, fun q u hq hu => ?_⟩
      rw [List.length_map] at hq
      have h1 := hx q _ (List.getElem?_eq_getElem hq)
      rw [h1.1] at hu
      cases hu
      exact h1.2
    · rw [if_neg e] at hj
      rw [kill_bget, if_neg e, Option.map_eq_some_iff] at hj
      obtain ⟨cs0, q1, rfl⟩ := hj
      obtain ⟨c, ys, T', q2, q3, q4, q5, q6⟩ := h.boxes j cs0 q1 hj5
      refine ⟨c, ys, T', by simp [Gh.addb, e, q2], (hothers j c e q2).2.trans q3, by simpa using q4, fun q c0 hq => ?_, fun q u hq hu => q6 q u (by simpa using hq) hu⟩
      rw [List.getElem?_map, Option.map_eq_some_iff] at hq
      obtain ⟨c1, q7, rfl⟩ := hq
      obtain ⟨x, q8, q9⟩ := q5 q c1 q7
      exact ⟨x, q8, srep _ _ q9⟩
  · have e : j ≠ i := by omega
    rw [bget_bput, if_neg e, kill_bget, if_neg e, Option.map_eq_some_iff] at hj
    obtain ⟨cs0, q1, q2⟩ := hj
    have q3 := kill_mc q2
    subst q3
    obtain ⟨c, es, c', q4, q5, q6⟩ := h.maps j ms q1 hge
    exact ⟨c, es, c', by simp [Gh.addb, e, q4], (hothers j c e q4).2.trans q5, q6.mono ev.fx⟩
  · simp only [Gh.addb] at hj
    split at hj
    · cases hj
      refine ⟨fun o => ?_, hbs⟩
      rcases hbb with e2 | e2
      · rw [e2]; exact (h.blk i b hbl).1 o
      · exact h.f0 _ o (Nat.le_trans h.base e2)
    · exact ⟨(h.blk j c hj).1, Nat.lt_of_lt_of_le (h.blk j c hj).2 hb0.size⟩
  · rw [bget_bput]
    simp only [Gh.addb] at hj
    split at hj
    · rename_i e; simp [e]
    · rename_i e
      rw [if_neg e, kill_bget, if_neg e]
      have := h.dom j c hj
      cases q : st.bget j with
      | none => exact absurd q this
      | some x => simp
  · simp only [Gh.addb] at hj hk
    split at hj <;> split at hk
    · omega
    · rename_i e1 e2; cases hj; exact absurd rfl (hothers k _ e2 hk).1
    · rename_i e1 e2; cases hk; exact absurd rfl (hothers j _ e1 hj).1
    · exact h.inj j k c hj hk
  · obtain ⟨⟨n, ys, h1⟩, h2⟩ := h.toks t' T' hT'
    have h3 : ∀ c, T'.v.ownBlock = some c → c ≠ b ∧ c < w.heap.size := fun c hc => ⟨fun e => h2 i b (e ▸ hc) hbl, (h1.lt c hc).2⟩
    refine ⟨⟨n, ys, ownsRow_of_same h1 fun c hc => hne c (h3 c hc).2 (h3 c hc).1⟩, fun j c hc hj => ?_⟩
    simp only [Gh.addb] at hj
    split at hj
    · cases hj
      have := h3 _ hc
      rcases hbb with e2 | e2
      · exact this.1 e2
      · omega
    · exact h2 j c hc hj

section
variable {P : Program} {ops : Array Oper} {K : PS → Prop} {rest : List Oper} {st : PS} {ty : TypeId} {pos : String} {af : Array Edge} {gd : Option (Nat × Bool)}
/-- the cells of rows of plain values -/
theorem news_vals {F : Nat → Nat → Prop} {w : World} {k m : Nat} {vs news : List Value} {es : List (List DV)} (hes : chunk k m (vs.map .val) = es) (hvl : vs.length = m * k) (hnl : news.length = es.length * k)
    (h : ∀ (i j : Nat) e z, es[i]? = some e → e[j]? = some z → ∃ u, news[i * k + j]? = some u ∧ DRep F w u z) : news = vs := by
  have hm : es.length = m := by rw [← hes, chunk_length]
  refine List.ext_getElem? fun j => ?_
  by_cases hj : j < m * k
  · have hk0 : 0 < k := by
      rcases Nat.eq_zero_or_pos k with h0 | h0
      · rw [h0, Nat.mul_zero] at hj; omega
      · exact h0
    have hq : j / k < es.length := by rw [hm]; exact Nat.div_lt_of_lt_mul (by rw [Nat.mul_comm]; exact hj)
    have hr : j % k < k := Nat.mod_lt _ hk0
    have he := List.getElem?_eq_getElem hq
    have hlen : es[j / k].length = k := by
      have := chunk_mem k m (vs.map .val) (by simpa using hvl)
      exact this _ (by rw [hes]; exact List.getElem_mem hq)
    have hx := List.getElem?_eq_getElem (l := es[j / k]) (i := j % k) (by omega)
    obtain ⟨u, t1, t2⟩ := h _ _ _ _ he hx
    have t3 := (chunk_get k m (vs.map .val) (j / k) (j % k) es[j / k] _ (by rw [hes]; exact he) hx (by simpa using hvl)).1
    have e : j / k * k + j % k = j := by rw [Nat.mul_comm]; exact Nat.div_add_mod j k
    rw [e] at t1 t3
    rw [List.getElem?_map, Option.map_eq_some_iff] at t3
    obtain ⟨u', t4, t5⟩ := t3
    rw [← t5] at t2
    rw [t1, t4, DRep.val_eq t2]
  · rw [List.getElem?_eq_none (by rw [hnl, hm]; omega), List.getElem?_eq_none (by omega)]

/-- a row that may be written, as an owned row -/
theorem bs_own {B : Nat} {w0 : Cx} {g : Gh} {a : Act} {w : World} (hr : Rep B w0 g st a w) {i n E k : Nat} {v : Value} {vs : List Value} (hlt : i < 500000) (hv : SRep g w v (.bs i n E k)) (hi : st.bget i = some (vs.map fun u => .d (.val u))) (hn : vs.length = n * k) :
    ∃ b c xs, g.bl i = some b ∧ v = .slice (some ⟨b, 0, none⟩) n c ∧ n ≤ c ∧ c ≤ maxLen ∧ w.heap[b]? = some (.cells xs E (0, 0)) ∧ xs.size = c * k ∧ w.ownsRow 0 E k v n vs ∧ ∀ u ∈ vs, u.oneCell' = true := by
  obtain ⟨b, c, q1, q2, q3, q4, q5⟩ := hv
  obtain ⟨b', xs, T, q6, q7, q8, q9, q10⟩ := hr.boxes i _ hi hlt
  rw [q1] at q6
  cases q6
  have hsh : T = E ∧ xs.size = c * k := by
    simp only [World.shape?, q7, Option.some.injEq, Prod.mk.injEq] at q5
    exact q5
  obtain ⟨rfl, hsz⟩ := hsh
  rw [List.length_map] at q8 q10
  have hxv : ∀ (j : Nat) u, vs[j]? = some u → xs[j]? = some u ∧ u.oneCell' = true := fun j u hj => by
    obtain ⟨u', t1, t2⟩ := q9 j (.d (.val u)) (by rw [List.getElem?_map, hj]; rfl)
    have t3 := DRep.val_eq t2
    subst t3
    exact ⟨t1, q10 j u' (List.getElem?_eq_some_iff.1 hj).1 t1⟩
  have hone : ∀ u ∈ vs, u.oneCell' = true := fun u hu => by
    obtain ⟨j, hj⟩ := List.mem_iff_getElem?.1 hu
    exact (hxv j u hj).2
  refine ⟨b, c, xs, q1, q2, q3, q4, q7, hsz, ?_, hone⟩
  rw [q2]
  refine ⟨hn, .inr ⟨b, c, xs, rfl, Nat.zero_le _, q7, q3, q4, hsz, ?_⟩⟩
  refine List.ext_getElem? fun j => ?_
  by_cases hj : j < n * k
  · rw [List.getElem?_take_of_lt hj]
    have hjv := List.getElem?_eq_getElem (l := vs) (i := j) (by omega)
    rw [hjv]
    simpa using (hxv j _ hjv).1
  · rw [List.getElem?_eq_none (by simp; omega), List.getElem?_eq_none (by omega)]
/-- an append to a row that may be written -/
theorem yTw {T E k bytes n m i e : Nat} {x y : Operand} {us vs : List Value} {es : List (List DV)} [hA : AppOf P T E k bytes] (h0 : 0 < m) (hb : (n + m) * bytes ≤ 140737488351232) (hm : n + m ≤ 140737488351232) (hes : chunk k m (vs.map .val) = es) (hvl : vs.length = m * k) (hul : us.length = n * k) (hx : st.ev x = .bs i n E k) (hi : st.bget i = some (us.map fun u => .d (.val u))) (hy : asSl (st.ev y) = some (k, es))
    (h : YR P true ops K rest (((st.kill i).bput i ((us ++ vs).map fun u => .d (.val u))).put (some e) (.bs i (n + m) E k))) (hd : dstOk ⟨some e, .call { callee := .builtin .append, args := #[x, y], argTypes := #[T, T] }, ty, pos, af, gd⟩ st = true := by kernel_rfl) (hw : st.want ops ⟨some e, .call { callee := .builtin .append, args := #[x, y], argTypes := #[T, T] }, ty, pos, af, gd⟩ = some true := by rfl) (hlt : Nat.blt i 500000 = true := by rfl) (hsm : Nat.blt (i % 500000) 10000 = true := by rfl) :
    YR P true ops K (⟨some e, .call { callee := .builtin .append, args := #[x, y], argTypes := #[T, T] }, ty, pos, af, gd⟩ :: rest) st := by
  have hlt5 : i < 500000 := Nat.le_of_ble_eq_true hlt
  have hsm5 : smB i := Nat.le_of_ble_eq_true hsm
  clear hlt hsm
  refine .any rfl fun B w0 Q hQ g a w hr => ?_
  have h1 := hr.eval x
  rw [hx] at h1
  obtain ⟨b, c, xs, p1, p2, p3, p4, p5, p6, p7, p8⟩ := bs_own hr hlt5 h1 hi hul
  obtain ⟨A2, c2, news, hv2, hl2, hcell2, hone2, hrep2⟩ := asSl_cells hr hy
  have hel : es.length = m := by rw [← hes, chunk_length]
  obtain rfl := news_vals hes hvl hl2 hrep2
  obtain ⟨ti, z, q1, q2, q3, q4, q5⟩ := hA.inf
  obtain ⟨v', w', r1, r2, r3, r4, r5, r6, r7⟩ := run_app (P := P) w 0 T ty E ti z k bytes hA.und q1 q2 q3 q4 q5 (a.eval x) n us p7 A2 es.length c2 news hl2 (fun h0 => by
    obtain ⟨b, off, rfl, hcell⟩ := hcell2 h0
    exact ⟨_, rfl, fun j u hj => by rw [Addr.add_lit]; exact hcell j u hj⟩) hone2 (by unfold maxLen; omega) (by rw [hel]; omega) (Nat.zero_le _)
  rw [hel] at r2
  obtain ⟨hxl, (⟨-, q0⟩ | ⟨gb, cap, cur, rfl, t1, t2, t3, t4, t5, t6⟩)⟩ := r2
  · omega
  have hob : (a.eval x).ownBlock = some b := by rw [p2]; rfl
  have hbb : gb = b ∨ w.heap.size ≤ gb := by
    rcases r6 with r6 | r6
    · rw [hob] at r6; exact .inl (by simpa [Value.ownBlock] using r6)
    · exact .inr (by have : gb = w.heap.size := by simpa [Value.ownBlock] using r6
                     omega)
  have hcur : ∀ (j : Nat) (u : Value), (us ++ news)[j]? = some u → cur[j]? = some u ∧ u.oneCell' = true := fun j u hj => by
    refine ⟨?_, ?_⟩
    · rw [← t6] at hj
      have hj' : j < (n + m) * k := by have := (List.getElem?_eq_some_iff.1 hj).1; rw [List.length_take] at this; omega
      rw [List.getElem?_take_of_lt hj'] at hj
      simpa using hj
    · rcases List.mem_append.1 (List.mem_of_getElem? hj) with q | q
      · exact p8 u q
      · exact hone2 u q
  have hr' := hr.rebox hlt5 hsm5 p1 r3 (fun k hk hne => r4 k hk (by rw [hob]; exact fun e => hne (Option.some.inj e).symm)) hbb cur t2 (us ++ news) (by rw [hxl, t5]; exact Nat.mul_le_mul_right _ t3) hcur
  have hrun : (execOp a.eval ⟨some e, .call { callee := .builtin .append, args := #[x, y], argTypes := #[T, T] }, ty, pos, af, gd⟩).run P w = .ok (.value (.slice (some ⟨gb, 0, none⟩) (n + m) cap)) w' := by
    simp only [execOp, resolve, invoke, builtin, Sem.run_bind, Sem.run_pure, Result.andThen_ok, List.map_toArray, List.map_cons, List.map_nil, hv2, r1]
  unfold wpList
  rw [if_pos (want_spec hr hw)]
  refine .inl ?_
  unfold Oper.wp
  rw [hrun]
  refine h.sound hQ (hr'.put (x := .bs i (n + m) E k) ⟨gb, cap, by simp [Gh.addb], rfl, t3, t4, by simp [World.shape?, t2, t5]⟩ _ ?_)
  intro j hj
  exact dstOk_spec (st := st) hd j hj
/-- a function that changes a row of plain values and gives a first part of it -/
def PRowC (P : Program) (f : FuncId) (E k : Nat) (vs vs' : List Value) : Prop :=
  ∀ (w : World) (A : Option Addr) (c n : Nat), w.ownsRow 0 E k (.slice A n c) n vs → 0 < n → (∀ u ∈ vs, u.oneCell' = true) → Calls P f #[.slice A n c] w fun e w' => ∃ n' rest, e = .returned (.slice A n' c) ∧ n' ≤ n ∧ vs'.length = n' * k ∧ w'.ownsRow 0 E k (.slice A n c) n (vs' ++ rest) ∧ (∀ u ∈ vs', u.oneCell' = true) ∧ w.grownBy w' (Value.slice A n c).ownBlock
end
end Go.Proofs.YtmfeinilbjfnpaaGreatDoor.Px
set_option maxHeartbeats 1000000
namespace Go.Proofs.YtmfeinilbjfnpaaGreatDoor.Px
open Go.RowKit

def Rcl (k : Nat) (es : List (List DV)) (F : Nat → Nat → Prop) (w : World) (v : Value) : Prop := DRep F w v (.sl k es) ∧ ∃ A, v = .slice A es.length es.length
/-- a slice whose capacity is its length -/
abbrev dCl (k : Nat) (es : List (List DV)) : DV := .abs (Rcl k es)
theorem Rcl.mono {k : Nat} {es : List (List DV)} (F F' : Nat → Nat → Prop) (w w' : World) (v : Value) (h : Rcl k es F w v) (hk : Kp F w F' w') : Rcl k es F' w' v := ⟨h.1.mono hk, h.2⟩
/-- another capacity -/
theorem DRep.cap {F : Nat → Nat → Prop} {w : World} {A A' : Option Addr} {n c c' k : Nat} {es : List (List DV)} (h : DRep F w (.slice A n c) (.sl k es)) (hc : n ≤ c') (hA : 0 < n → A' = A) : DRep F w (.slice A' n c') (.sl k es) := by
  obtain ⟨A0, c0, news, hv, h1, h2, h3, h4, h5, h6, h7⟩ := DRep.row h
  obtain ⟨e1, e2, e3⟩ := Value.slice.inj hv
  subst e1 e2 e3
  exact DRep.of_row (xs := news) hc h2 h3 (fun h0 => by rw [hA h0]; exact h5 h0) h6 h7
theorem add_zero (k : Nat) (A : Option Addr) : A.map (·.add (0 * k)) = A := by
  cases A with
  | none => rfl
  | some a => simp [Addr.add]

section
variable {P : Program} {sq : Bool} {ops : Array Oper} {K : PS → Prop} {rest : List Oper} {st : PS} {d : Option Nat} {op : Op} {ty : TypeId} {pos : String} {af : Array Edge} {gd : Option (Nat × Bool)} {q : Nat × Bool}
end
section
variable {P : Program} {ops : Array Oper} {K : PS → Prop} {rest : List Oper} {st : PS} {ty : TypeId} {pos : String} {af : Array Edge} {gd : Option (Nat × Bool)}
variable {B : Nat} {w0 : Cx} {Q : Exit → PS → Prop} {c : Code}
end
end Go.Proofs.YtmfeinilbjfnpaaGreatDoor.Px
namespace Go.Proofs.YtmfeinilbjfnpaaGreatDoor.Px
open Go.RowKit
section
variable {P : Program} {sq : Bool} {ops : Array Oper} {K : PS → Prop} {rest : List Oper} {st : PS} {d : Option Nat} {ty : TypeId} {pos : String} {af : Array Edge} {gd : Option (Nat × Bool)}
end
end Go.Proofs.YtmfeinilbjfnpaaGreatDoor.Px
set_option maxHeartbeats 1000000
namespace Go.Proofs.YtmfeinilbjfnpaaGreatDoor.Px
open Go.RowKit

section
variable {P : Program} {sq : Bool} {ops : Array Oper} {K : PS → Prop} {rest : List Oper} {st : PS} {d : Option Nat} {op : Op} {ty : TypeId} {pos : String} {af : Array Edge} {gd : Option (Nat × Bool)} {q : Nat × Bool}
/-- a row of one's own that was just made reads as a list -/
theorem DRep.fresh {B : Nat} {w0 : Cx} {g : Gh} {a : Act} {w w' : World} (h : Rep B w0 g st a w) (hb : Below w.heap.size w w') {E k n : Nat} {v : Value} {xs : List Value} {es : List (List DV)} (hown : w'.ownsRow w.heap.size E k v n xs) (hn : es.length = n) (h0 : 0 < n) (hm : n ≤ 9223372036854775807) (hk : ∀ e ∈ es, e.length = k) (h1 : ∀ u ∈ xs, u.oneCell' = true)
    (hrep : ∀ (i j : Nat) e x, es[i]? = some e → e[j]? = some x → ∃ u, xs[i * k + j]? = some u ∧ DRep (Fx g) w u x) : DRep (Fx g) w' v (.sl k es) := by
  subst hn
  have e0 := (Ext.grow h hb).fx
  obtain ⟨A, c, h2, h3, h4⟩ := own_form hown
  rcases hown.2 with ⟨e6, e7⟩ | ⟨gb, cap, cur, e6, e7, e8, -⟩
  · rw [e6] at h2
    have := (Value.slice.inj h2).2.1
    omega
  · have e9 : A = some ⟨gb, 0, none⟩ := (Value.slice.inj (h2.symm.trans e6)).1
    rw [h2]
    refine DRep.of_row (xs := xs) h3 hm hk (fun _ => ⟨gb, 0, e9, fun j u hj => ⟨?_, ?_⟩⟩) h1 fun i j e x he hx => ?_
    · rw [Nat.zero_add]; exact own_cell hown (by rw [e6]; rfl) j u hj
    · refine ⟨h.f0 _ _ (Nat.le_trans h.base e7), fun i' hi' => ?_, fun t T n' c' hT hv => ?_⟩
      · have := (h.blk i' _ hi').2; omega
      · obtain ⟨⟨n'', ys, h8⟩, -⟩ := h.toks t T hT
        have := (h8.lt gb (by rw [hv]; rfl)).2
        omega
    · obtain ⟨u, h8, h9⟩ := hrep i j e x he hx
      exact ⟨u, h8, h9.mono e0⟩
end
end Go.Proofs.YtmfeinilbjfnpaaGreatDoor.Px
set_option maxHeartbeats 1000000
namespace Go.Proofs.YtmfeinilbjfnpaaGreatDoor
open Go.RowKit Px

section
variable {P : Program} {sq : Bool} {ops : Array Oper} {K : PS → Prop} {rest : List Oper} {st : PS} {d : Option Nat} {ty : TypeId} {pos : String} {af : Array Edge} {gd : Option (Nat × Bool)}
theorem ls_len_nil (T : TypeId) (x : Operand) {E k : Nat} [hS : SliceOf P T E k] (hx : st.ev x = .d (.val (.slice none 0 0))) (hd : dstOk ⟨d, .call { callee := .builtin .len, args := #[x], argTypes := #[T] }, ty, pos, af, gd⟩ st = true) :
    LocS P ⟨d, .call { callee := .builtin .len, args := #[x], argTypes := #[T] }, ty, pos, af, gd⟩ st (.d (.val (.int .i64 0))) .no := fun st2 ha =>
  OpS.value (ha.dst hd) fun _ _ g a w h => by
    have h1 := h.eval x
    rw [ha.ev x (by simp [Op.operands, Call.operands]), hx] at h1
    refine ⟨.int .i64 0, w, ?_, Below.refl _ _, DRep.val _ rfl⟩
    simp [execOp, resolve, invoke, builtin, Builtin.len_, DRep.val_eq h1, hS.und, goInt]
theorem yNl {T E k : Nat} {x : Operand} [SliceOf P T E k] (hx : st.ev x = .d (.val (.slice none 0 0))) (h : YR P sq ops K rest (st.put d (.d (.val (.int .i64 0))))) (hd : dstOk ⟨d, .call { callee := .builtin .len, args := #[x], argTypes := #[T] }, ty, pos, af, gd⟩ st = true := by kernel_rfl) (hk : opOk ⟨d, .call { callee := .builtin .len, args := #[x], argTypes := #[T] }, ty, pos, af, gd⟩ st .no = true := by kernel_rfl) (hw : st.want ops ⟨d, .call { callee := .builtin .len, args := #[x], argTypes := #[T] }, ty, pos, af, gd⟩ = some true := by rfl) :
    YR P sq ops K (⟨d, .call { callee := .builtin .len, args := #[x], argTypes := #[T] }, ty, pos, af, gd⟩ :: rest) st := yr_v (ls_len_nil T x hx hd) hk hw h
end
section
variable {P : Program} {ops : Array Oper} {K : PS → Prop} {rest : List Oper} {st : PS} {ty : TypeId} {pos : String} {af : Array Edge} {gd : Option (Nat × Bool)}
variable {B : Nat} {w0 : Cx} {Q : Exit → PS → Prop} {c : Code}
end
end Go.Proofs.YtmfeinilbjfnpaaGreatDoor
set_option maxHeartbeats 1000000
namespace Go.Proofs.YtmfeinilbjfnpaaGreatDoor.Px
open Go.RowKit Go.ChangeShapes

/-- kinds of plain cells -/
inductive CK where
  | i (k : IntKind)
  | s
  | b
def CK.is : CK → Value → Bool
  | .i k, .int k' _ => decide (k' = k)
  | .s, .string _ => true
  | .b, .bool _ => true
  | _, _ => false
def CK.ty (P : Program) (c : CK) (t : TypeId) : Bool := match c, P.underlying t with
  | .i k, some (.int k') => decide (k = k')
  | .s, some .string => true
  | .b, some .bool => true
  | _, _ => false
def veq : Value → Value → Bool
  | .int _ a, .int _ b => a == b
  | .string a, .string b => a.toList == b.toList
  | .bool a, .bool b => a == b
  | _, _ => false
def veqs : List Value → List Value → Bool
  | [], [] => true
  | x :: xs, y :: ys => veq x y && veqs xs ys
  | _, _ => false
def fits : List CK → List Value → Bool
  | [], [] => true
  | c :: cs, x :: xs => c.is x && fits cs xs
  | _, _ => false
section
variable {P : Program} (w : World)
theorem CK.plain {c : CK} {t : TypeId} (h : c.ty P t = true) : P.plainKey t = true := by
  unfold CK.ty at h
  unfold Program.plainKey
  cases e : P.underlying t with
  | none => rw [e] at h; cases c <;> simp at h
  | some d => rw [e] at h; cases c <;> cases d <;> simp at h ⊢
theorem run_veq {c : CK} {t : TypeId} (h : c.ty P t = true) {x y : Value} (hx : c.is x = true) (hy : c.is y = true) (d : Nat) : (Op.equalIn (d + 1) t x y).run P w = .ok (veq x y) w := by
  unfold CK.ty at h
  cases e : P.underlying t with
  | none => rw [e] at h; cases c <;> simp at h
  | some u =>
    rw [e] at h
    cases c with
    | i k =>
      cases u <;> simp at h
      subst h
      cases x <;> simp [CK.is] at hx
      cases y <;> simp [CK.is] at hy
      subst hx hy
      exact run_equalIn_int w d t _ _ _ _ e
    | s =>
      cases u <;> simp at h
      cases x <;> simp [CK.is] at hx
      cases y <;> simp [CK.is] at hy
      exact run_equalIn_string w d t _ _ e
    | b =>
      cases u <;> simp at h
      cases x <;> simp [CK.is] at hx
      cases y <;> simp [CK.is] at hy
      exact run_equalIn_bool' w d t _ _ e
def fieldsB (P : Program) : Nat → List CK → List Field → Bool
  | _, [], [] => true
  | off, c :: cs, f :: fs => c.ty P f.type && Nat.beq f.offset off && !(f.name == "_") && fieldsB P (off + 1) cs fs
  | _, _, _ => false
theorem run_eqFieldsV (d : Nat) (xs ys : Array Value) : ∀ (cs : List CK) (fs : List Field) (off : Nat), fieldsB P off cs fs = true → ∀ la lb : List Value, fits cs la = true → fits cs lb = true → (∀ (j : Nat) v, la[j]? = some v → xs[off + j]? = some v) → (∀ (j : Nat) v, lb[j]? = some v → ys[off + j]? = some v) →
    (Op.eqFields (d + 1) xs ys fs).run P w = .ok (veqs la lb) w
  | [], [], off, _, la, lb, ha, hb, _, _ => by
    cases la with
    | nil => cases lb with
      | nil => simp [Op.eqFields, veqs]
      | cons => cases hb
    | cons => cases ha
  | [], _ :: _, _, h, _, _, _, _, _, _ => by cases h
  | _ :: _, [], _, h, _, _, _, _, _, _ => by cases h
  | c :: cs, f :: fs, off, h, la, lb, ha, hb, hxs, hys => by
    cases la with
    | nil => cases ha
    | cons a la =>
      cases lb with
      | nil => cases hb
      | cons b lb =>
        simp only [fieldsB, fits, Bool.and_eq_true] at h ha hb
        obtain ⟨⟨⟨h1, h2⟩, h3⟩, h4⟩ := h
        have h2 := Nat.eq_of_beq_eq_true h2
        have hn : f.name ≠ "_" := by simpa using h3
        have p1 := run_part_plain w (CK.plain h1) (xs := xs) (off := f.offset) (v := a) (by rw [h2]; exact hxs 0 a rfl)
        have p2 := run_part_plain w (CK.plain h1) (xs := ys) (off := f.offset) (v := b) (by rw [h2]; exact hys 0 b rfl)
        have p3 := run_veq w h1 ha.1 hb.1 d
        have ih := run_eqFieldsV d xs ys cs fs (off + 1) h4 la lb ha.2 hb.2 (fun j v hj => by rw [show off + 1 + j = off + (j + 1) by omega]; exact hxs (j + 1) v hj) fun j v hj => by rw [show off + 1 + j = off + (j + 1) by omega]; exact hys (j + 1) v hj
        simp only [Op.eqFields, hn, ne_eq, not_false_eq_true, if_true, Sem.run_bind, p1, p2, p3, Result.andThen_ok, veqs]
        cases veq a b
        · simp
        · simpa using ih
end
/-- types whose values are compared cell by cell -/
class EqOf (P : Program) (T : TypeId) (cs : outParam (List CK)) : Prop where
  run : ∀ (w : World) (la lb : List Value), fits cs la = true → fits cs lb = true → (Op.equalIn 10000 T (.agg la.toArray) (.agg lb.toArray)).run P w = .ok (veqs la lb) w
  guard : P.eqGuardType P.depth T = false
theorem eqOf_struct {P : Program} {T : TypeId} {cs : List CK} (h : (match P.underlying T with | some (.struct fs) => fieldsB P 0 cs fs.toList | _ => false) = true) (hp : P.stoodInHeld T = false) (hg : P.eqGuardType P.depth T = false) : EqOf P T cs := by
  refine ⟨fun w la lb ha hb => ?_, hg⟩
  cases hu : P.underlying T with
  | none => rw [hu] at h; cases h
  | some u =>
    rw [hu] at h
    cases u with
    | struct fs =>
      have hf : P.fieldsOf T = fs := by simp [Program.fieldsOf, hu]
      rw [show (10000 : Nat) = 9999 + 1 from rfl, run_equalIn_agg w 9999 T _ _ (by rw [hf]; exact hu) hp, hf]
      exact run_eqFieldsV w 9998 _ _ cs fs.toList 0 h la lb ha hb (fun j v hj => by simpa using hj) fun j v hj => by simpa using hj
    | _ => cases h
section
variable {P : Program} {sq : Bool} {ops : Array Oper} {K : PS → Prop} {rest : List Oper} {st : PS} {d : Option Nat} {ty : TypeId} {pos : String} {af : Array Edge} {gd : Option (Nat × Bool)}
theorem yBx {t t' : Nat} {x y : Operand} {cs ds : List DV} {vs us : List Value} {ks : List CK} [hE : EqOf P t ks] (hv : fits ks vs = true) (hu : fits ks us = true) (hx : st.ev x = .d (.agg cs)) (hcx : valsOf cs = some vs) (hy : st.ev y = .d (.agg ds)) (hcy : valsOf ds = some us)
    (h : YR P sq ops K rest (st.put d (.d (.val (.bool (!veqs vs us)))))) (hd : dstOk ⟨d, .binOp .neq t x y t', ty, pos, af, gd⟩ st = true := by kernel_rfl) (hk : opOk ⟨d, .binOp .neq t x y t', ty, pos, af, gd⟩ st .no = true := by kernel_rfl) (hw : st.want ops ⟨d, .binOp .neq t x y t', ty, pos, af, gd⟩ = some true := by rfl) : YR P sq ops K (⟨d, .binOp .neq t x y t', ty, pos, af, gd⟩ :: rest) st :=
  yBA (fun w => by rw [Sem.run_bind, run_eqGuard_agg w _ _ _ _ _ _ hE.guard, Result.andThen_ok, run_neq_struct, hE.run w vs us hv hu]; rfl) rfl hx hcx hy hcy h hd hk hw
end
theorem veq_str (a b : List UInt8) : veq (vS a) (vS b) = (a == b) := by
  show ((ByteArray.mk a.toArray).toList == (ByteArray.mk b.toArray).toList) = (a == b)
  rw [str_list, str_list]
end Go.Proofs.YtmfeinilbjfnpaaGreatDoor.Px
set_option maxHeartbeats 1000000
namespace Go.Proofs.YtmfeinilbjfnpaaGreatDoor.Px
open Go.RowKit

/-- what holds for each of some numbers -/
def allR : List Nat → (Nat → Prop) → Prop
  | [], _ => True
  | i :: l, p => p i ∧ allR l p
/-- what may come next, as lists tell it -/
def gt (dflt : Bool) : List Bool → Nat → Bool
  | [], _ => dflt
  | b :: _, 0 => b
  | _ :: l, n + 1 => gt dflt l n
def rdy (listed : List Bool) : Nat → List Oper → List Nat
  | _, [] => []
  | k, o :: l => bif !(gt true listed k) && o.after.toList.all (fun e => !Region.binds .any e || gt false listed e.on) then k :: rdy listed (k + 1) l else rdy listed (k + 1) l
section
variable {P : Program} {B : Nat} {w0 : Cx} {l : List Oper} {J st : PS}
/-- in whatever order the rest runs, it comes to J -/
def PA (P : Program) (B : Nat) (w0 : Cx) (l : List Oper) (J : PS) (fuel : Nat) (listed : List Bool) (st : PS) : Prop :=
  ∀ (Q : Exit → PS → Prop), (∀ s, Le s J → Q .normal s) → (∀ c s, ¬ Q (.panic c) s) → ∀ g a w, Rep B w0 g st a w → wpAny P .any l.toArray (Post B w0 Q) fuel listed.toArray a w
/-- an operation without memory -/
def Pure (P : Program) (o : Oper) (st : PS) (x : SV) : Prop :=
  dstOk o st = true ∧ o.guard = none ∧ ∀ B w0 g a w, Rep B w0 g st a w → ∃ v, (∀ w', (execOp a.eval o).run P w' = .ok (.value v) w') ∧ SRep g w v x
def noSel (l : List Oper) : Bool := l.all fun o => match o.op with | .select .. => false | _ => true
def apartB (l : List Oper) (listed : List Bool) (i : Nat) (oi : Oper) : Bool := allIx (fun j oj => Nat.beq j i || gt true listed j || oj.after.toList.any (fun e => Region.binds .any e && Nat.beq e.on i) || oi.apart l.toArray oj) 0 l
end
section
variable {P : Program} {sq : Bool} {ops : Array Oper} {K : PS → Prop} {rest : List Oper} {st : PS} {d : Option Nat} {op : Op} {ty : TypeId} {pos : String} {af : Array Edge} {gd : Option (Nat × Bool)} {q : Nat × Bool}
end
end Go.Proofs.YtmfeinilbjfnpaaGreatDoor.Px
set_option maxHeartbeats 1000000
namespace Go.Proofs.YtmfeinilbjfnpaaGreatDoor.Px
open Go.RowKit

/-- a map's entries -/
def kmap (l : List (List UInt8 × DV)) : List (Value × DV) := l.map fun p => (vS p.1, p.2)
/-- the value at a key -/
def mget (z : DV) (k : List UInt8) : List (List UInt8 × DV) → DV
  | [] => z
  | (k', v) :: l => if k' = k then v else mget z k l
/-- a value stored at a key -/
def mset (k : List UInt8) (v : DV) : List (List UInt8 × DV) → List (List UInt8 × DV)
  | [] => [(k, v)]
  | (k', v') :: l => if k' = k then (k, v) :: l else (k', v') :: mset k v l

theorem find_spec (k : List UInt8) : ∀ (l : List (List UInt8 × DV)) (es : List MapEntry) (n : Nat), es.length = l.length → (∀ (i : Nat) e p, es[i]? = some e → l[i]? = some p → e.key = vS p.1) →
    (∃ j e d, Instr.findNow .string (vS k) es n = some (some (n + j, e.val)) ∧ es[j]? = some e ∧ l[j]? = some (k, d) ∧ (∀ z, mget z k l = d) ∧ ∀ v, mset k v l = l.set j (k, v)) ∨
    (Instr.findNow .string (vS k) es n = some none ∧ (∀ z, mget z k l = z) ∧ (∀ v, mset k v l = l ++ [(k, v)]) ∧ ∀ p ∈ l, p.1 ≠ k)
  | [], [], n, _, _ => .inr ⟨rfl, fun _ => rfl, fun _ => rfl, fun p hp => by simp at hp⟩
  | [], e :: es, n, hl, _ => by simp at hl
  | p :: l, [], n, hl, _ => by simp at hl
  | (k', d) :: l, e :: es, n, hl, hk => by
    have h0 : e.key = vS k' := hk 0 e (k', d) rfl rfl
    have hs : Instr.sameNow .string (vS k) e.key = some ((⟨k.toArray⟩ : ByteArray) == ⟨k'.toArray⟩) := by rw [h0]; rfl
    by_cases hkk : k' = k
    · subst hkk
      refine .inl ⟨0, e, d, ?_, rfl, rfl, fun z => by rw [mget, if_pos rfl], fun v => by rw [mset, if_pos rfl]; rfl⟩
      rw [Instr.findNow, hs, (MapKept.bytes_beq _ _).2 rfl]
      rfl
    · have hb : ((⟨k.toArray⟩ : ByteArray) == ⟨k'.toArray⟩) = false := by
        rw [← Bool.not_eq_true, MapKept.bytes_beq]
        intro e
        apply hkk
        have := congrArg (fun x : ByteArray => x.data.toList) e
        simpa using this.symm
      have hf : Instr.findNow .string (vS k) (e :: es) n = Instr.findNow .string (vS k) es (n + 1) := by rw [Instr.findNow, hs, hb]
      rcases find_spec k l es (n + 1) (by simpa using hl) (fun i e' p' he hp => hk (i + 1) e' p' (by simpa using he) (by simpa using hp)) with ⟨j, e', d', h1, h2, h3, h4, h5⟩ | ⟨h1, h2, h3, h4⟩
      · refine .inl ⟨j + 1, e', d', ?_, h2, h3, fun z => by rw [mget, if_neg hkk, h4], fun v => by rw [mset, if_neg hkk, h5]; rfl⟩
        rw [hf, h1, show n + 1 + j = n + (j + 1) by omega]
      · exact .inr ⟨by rw [hf, h1], fun z => by rw [mget, if_neg hkk, h2], fun v => by rw [mset, if_neg hkk, h3]; rfl, fun p hp => by
          rcases List.mem_cons.1 hp with rfl | hp
          · exact hkk
          · exact h4 p hp⟩

/-- a type of maps with strings as keys; z: an element's zero -/
class MapOf (P : Program) (T : Nat) (z : outParam DV) : Prop where
  und : ∃ kt et, P.underlying T = some (.map kt et) ∧ P.underlying kt = some .string ∧ ∀ w, ∃ v, (zeroValue et).run P w = .ok v w ∧ ∀ F w', DRep F w' v z

section
variable {P : Program} {sq : Bool} {ops : Array Oper} {K : PS → Prop} {rest : List Oper} {st : PS} {d : Option Nat} {ty : TypeId} {pos : String} {af : Array Edge} {gd : Option (Nat × Bool)}

theorem ls_mkm (T : TypeId) {e : Nat} (hi : st.bget (500000 + e) = none) (hd : dstOk ⟨some e, .makeMap T none, ty, pos, af, gd⟩ st = true) :
    LocS P ⟨some e, .makeMap T none, ty, pos, af, gd⟩ st (.mb (500000 + e)) (.box (500000 + e) [.mc (kmap [])]) := fun st2 ha => by
  intro B w0 g a w K Q hr hK
  have hin : e < st2.n := dstOk_spec (ha.dst hd) e rfl
  have hlim : st2.n ≤ 10000 := hr.lim
  have hi2 : st2.bget (500000 + e) = none := ha.fresh rfl e rfl (500000 + e) (newOf_map (by omega)) hi
  have hrep := hr.newm e 0 hi2 hin #[] (kmap []) ⟨rfl, MapKept.stamped_empty 0, fun i e p he => by simp at he⟩
  have hrun : (execOp a.eval ⟨some e, .makeMap T none, ty, pos, af, gd⟩).run P w = .ok (.value (.map (some w.heap.size))) (w.alloc (.map #[] 0)) := by
    simp [execOp, run_makeMap]
  unfold Oper.wp
  rw [hrun]
  exact hK _ _ _ (hrep.put (x := .mb (500000 + e)) ⟨w.heap.size, by simp [Gh.addb], rfl⟩ _ (dstOk_spec (st := st2.bput (500000 + e) _) (ha.dst hd)))
theorem yKm {T e : Nat} (hi : st.bget (500000 + e) = none)
    (h : YR P sq ops K rest ((st.bput (500000 + e) [.mc (kmap [])]).put (some e) (.mb (500000 + e)))) (hd : dstOk ⟨some e, .makeMap T none, ty, pos, af, gd⟩ st = true := by kernel_rfl) (hk : opOk ⟨some e, .makeMap T none, ty, pos, af, gd⟩ st (.box (500000 + e) [.mc (kmap [])]) = true := by kernel_rfl) (hw : st.want ops ⟨some e, .makeMap T none, ty, pos, af, gd⟩ = some true := by rfl) :
    YR P sq ops K (⟨some e, .makeMap T none, ty, pos, af, gd⟩ :: rest) st := yr_b (ls_mkm T hi hd) hk hw h

theorem map_at {B : Nat} {w0 : Cx} {g : Gh} {a : Act} {w : World} (hr : Rep B w0 g st a w) {i : Nat} {l : List (List UInt8 × DV)} (hge : 500000 ≤ i) (hi : st.bget i = some [.mc (kmap l)]) :
    ∃ b es c, g.bl i = some b ∧ w.heap[b]? = some (.map es c) ∧ es.toList.length = l.length ∧ MapKept.Stamped es c ∧ (∀ (i : Nat) e p, es.toList[i]? = some e → l[i]? = some p → e.key = vS p.1) ∧ ∀ (i : Nat) e p, es.toList[i]? = some e → l[i]? = some p → DRep (Fx g) w e.val p.2 := by
  obtain ⟨b, es, c, h1, h2, h3, h5, h4⟩ := hr.maps i _ hi hge
  have hp : ∀ (i : Nat) p, l[i]? = some p → (kmap l)[i]? = some (vS p.1, p.2) := fun i p hp => by rw [kmap, List.getElem?_map, hp]; rfl
  exact ⟨b, es, c, h1, h2, by simpa [kmap] using h3, h5, fun i e p he hl => (h4 i e _ (by simpa using he) (hp i p hl)).1, fun i e p he hl => (h4 i e _ (by simpa using he) (hp i p hl)).2⟩

theorem ls_mlk (T : TypeId) (x y : Operand) {i : Nat} {l : List (List UInt8 × DV)} {k : List UInt8} {z : DV} [hM : MapOf P T z] (hge : 500000 ≤ i) (hx : st.ev x = .mb i) (hi : st.bget i = some [.mc (kmap l)]) (hy : st.ev y = .d (dS k)) (hd : dstOk ⟨d, .lookup T x y false, ty, pos, af, gd⟩ st = true) :
    LocS P ⟨d, .lookup T x y false, ty, pos, af, gd⟩ st (.d (mget z k l)) .no := fun st2 ha =>
  OpS.value (ha.dst hd) fun _ _ g a w h => by
    have h1 := h.eval x
    rw [ha.ev x (by simp [Op.operands]), hx] at h1
    have h2 := h.eval y
    rw [ha.ev y (by simp [Op.operands]), hy] at h2
    have hi2 : st2.bget i = some [.mc (kmap l)] := (ha.ids rfl x (by simp [Op.operands]) i (by rw [hx]; simp [SV.ids])).trans hi
    obtain ⟨b, q1, q2⟩ := h1
    obtain ⟨b', es, c, r1, r2, r3, -, r4, r5⟩ := map_at h hge hi2
    rw [q1] at r1
    cases r1
    obtain ⟨kt, et, m1, m2, m3⟩ := hM.und
    obtain ⟨v, m4, m5⟩ := m3 w
    have hc : ∀ e, (Instr.checkKey e 10000 kt (vS k)).run P w = .ok () w := fun e => MapKept.run_checkKey (k := vS k) m2 (by simp [MapKept.IsKey]) e 9999
    rcases find_spec k l es.toList 0 r3 r4 with ⟨j, e, d', f1, f2, f3, f4, -⟩ | ⟨f1, f2, -, -⟩
    · refine ⟨e.val, w, ?_, Below.refl _ _, ?_⟩
      · simp [execOp, Instr.lookup, run_underlying m1, q2, DRep.val_eq h2, MapKept.run_getObj_map r2, hc, MapKept.run_findKey m2 f1, Result.andThen]
      · rw [f4]; exact r5 j e _ f2 f3
    · refine ⟨v, w, ?_, Below.refl _ _, ?_⟩
      · simp [execOp, Instr.lookup, run_underlying m1, q2, DRep.val_eq h2, MapKept.run_getObj_map r2, hc, MapKept.run_findKey m2 f1, m4, Result.andThen]
      · rw [f2]; exact m5 _ _
theorem yKl {T : Nat} {x y : Operand} {i : Nat} {l : List (List UInt8 × DV)} {k : List UInt8} {z v : DV} [hM : MapOf P T z] (hx : st.ev x = .mb i) (hi : st.bget i = some [.mc (kmap l)]) (hy : st.ev y = .d (dS k)) (hv : mget z k l = v)
    (h : YR P sq ops K rest (st.put d (.d v))) (hge : Nat.ble 500000 i = true := by rfl) (hd : dstOk ⟨d, .lookup T x y false, ty, pos, af, gd⟩ st = true := by kernel_rfl) (hk : opOk ⟨d, .lookup T x y false, ty, pos, af, gd⟩ st .no = true := by kernel_rfl) (hw : st.want ops ⟨d, .lookup T x y false, ty, pos, af, gd⟩ = some true := by rfl) :
    YR P sq ops K (⟨d, .lookup T x y false, ty, pos, af, gd⟩ :: rest) st := yr_v (hv ▸ ls_mlk T x y (Nat.le_of_ble_eq_true hge) hx hi hy hd) hk hw h

theorem run_keyStays (k : List UInt8) (w : World) : (Instr.keyThatStays (vS k) (vS k)).run P w = .ok (vS k) w := by
  have : Instr.sameBits 10000 (vS k) (vS k) = true := by
    show ((⟨k.toArray⟩ : ByteArray) == ⟨k.toArray⟩) = true
    exact (MapKept.bytes_beq _ _).2 rfl
  simp [Instr.keyThatStays, this]
theorem ls_mup (T : TypeId) (x y u : Operand) {i : Nat} {l : List (List UInt8 × DV)} {k : List UInt8} {z v : DV} [hM : MapOf P T z] (hge : 500000 ≤ i) (hx : st.ev x = .mb i) (hi : st.bget i = some [.mc (kmap l)]) (hy : st.ev y = .d (dS k)) (hu : st.ev u = .d v) (hd : dstOk ⟨d, .mapUpdate T x y u, ty, pos, af, gd⟩ st = true) :
    LocS P ⟨d, .mapUpdate T x y u, ty, pos, af, gd⟩ st .any (.box i [.mc (kmap (mset k v l))]) := fun st2 ha => by
  intro B w0 g a w K Q h hK
  have h1 := h.eval x
  rw [ha.ev x (by simp [Op.operands]), hx] at h1
  have h2 := h.eval y
  rw [ha.ev y (by simp [Op.operands]), hy] at h2
  have h3 := h.eval u
  rw [ha.ev u (by simp [Op.operands]), hu] at h3
  have hi2 : st2.bget i = some [.mc (kmap l)] := (ha.ids rfl x (by simp [Op.operands]) i (by rw [hx]; simp [SV.ids])).trans hi
  obtain ⟨b, q1, q2⟩ := h1
  obtain ⟨b', es, c, r1, r2, r3, rs, r4, r5⟩ := map_at h hge hi2
  rw [q1] at r1
  cases r1
  obtain ⟨kt, et, m1, m2, -⟩ := hM.und
  have hc : ∀ e, (Instr.checkKey e 10000 kt (vS k)).run P w = .ok () w := fun e => MapKept.run_checkKey (k := vS k) m2 (by simp [MapKept.IsKey]) e 9999
  have hblt : b < w.heap.size := (Array.getElem?_eq_some_iff.1 r2).1
  suffices hrun : ∃ es' c', (execOp a.eval ⟨d, .mapUpdate T x y u, ty, pos, af, gd⟩).run P w = .ok .skip { w with heap := w.heap.setIfInBounds b (.map es' c') } ∧ es'.toList.length = (mset k v l).length ∧ MapKept.Stamped es' c' ∧ ∀ (q : Nat) e p, es'.toList[q]? = some e → (mset k v l)[q]? = some p → e.key = vS p.1 ∧ DRep (Fx g) w e.val p.2 by
    obtain ⟨es', c', e1, e2, e4, e3⟩ := hrun
    have hs := MapKept.heap_set (o' := .map es' c') r2
    have hrep := h.seto i b [.mc (kmap (mset k v l))] (w' := { w with heap := w.heap.setIfInBounds b (.map es' c') }) q1 ⟨rfl, rfl, rfl, by simp, fun q hq => by omega⟩ (fun q _ hne => hs.2 q hne) (by unfold World.shape?; simp only [hs.1, r2]) (fun _ hlt => by omega) (fun e _ ms hms => by
      obtain rfl : kmap (mset k v l) = ms := by simpa using hms
      refine ⟨es', c', hs.1, by simpa [kmap] using e2, e4, fun q en p he hp => ?_⟩
      rw [kmap, List.getElem?_map, Option.map_eq_some_iff] at hp
      obtain ⟨p', hp1, rfl⟩ := hp
      have := e3 q en p' (by simpa using he) hp1
      exact ⟨this.1, this.2.mono e.fx⟩)
    unfold Oper.wp
    rw [e1]
    exact hK g _ _ (hrep.put (x := .any) trivial _ (dstOk_spec (st := st2.bput i _) (ha.dst hd)))
  rcases find_spec k l es.toList 0 r3 r4 with ⟨j, e, d', f1, f2, f3, -, f5⟩ | ⟨f1, -, f3, f6⟩
  · have hek : e.key = vS k := r4 j e _ f2 f3
    have hj : es[j]? = some e := by simpa using f2
    refine ⟨es.modify j fun e => { e with key := vS k, val := a.eval u }, c, ?_, ?_, ?_, ?_⟩
    · simp [execOp, Instr.mapUpdate, run_underlying m1, q2, DRep.val_eq h2, MapKept.run_getObj_map r2, hc, MapKept.run_findKey m2 f1, hj, hek, run_keyStays, MapKept.run_setObj_map _ r2, Result.andThen]
    · rw [f5]; simpa using r3
    · exact MapKept.stamped_modify rs j _ (fun _ _ => rfl) fun e' _ he' => by
        rw [hj] at he'
        cases he'
        exact hek.symm
    · intro q en p he hp
      rw [f5] at hp
      rw [Array.toList_modify, List.getElem?_modify] at he
      by_cases hq : j = q
      · subst hq
        rw [f2] at he
        rw [List.getElem?_set_self (by rw [← r3]; exact (List.getElem?_eq_some_iff.1 f2).1)] at hp
        cases hp
        simp at he
        subst he
        exact ⟨rfl, h3⟩
      · rw [List.getElem?_set_ne hq] at hp
        simp [hq] at he
        exact ⟨r4 q en p (by simpa using he) hp, r5 q en p (by simpa using he) hp⟩
  · refine ⟨es.push { key := vS k, val := a.eval u, born := c }, c + 1, ?_, ?_, ?_, ?_⟩
    · simp [execOp, Instr.mapUpdate, run_underlying m1, q2, DRep.val_eq h2, MapKept.run_getObj_map r2, hc, MapKept.run_findKey m2 f1, MapKept.run_setObj_map _ r2, Result.andThen]
    · rw [f3]; simpa using r3
    · exact MapKept.stamped_push rs fun x hx e => by
        obtain ⟨q, hq⟩ := List.mem_iff_getElem?.1 hx
        obtain ⟨p, hp⟩ : ∃ p, l[q]? = some p := ⟨_, List.getElem?_eq_getElem (by rw [← r3]; exact (List.getElem?_eq_some_iff.1 hq).1)⟩
        have h5 := r4 q x p hq hp
        rw [e] at h5
        refine f6 p (List.mem_of_getElem? hp) ?_
        have := congrArg (fun v : Value => match v with | .string s => s.data.toList | _ => []) h5
        simpa using this.symm
    · intro q en p he hp
      rw [f3] at hp
      rw [Array.toList_push] at he
      rcases Nat.lt_or_ge q l.length with hq | hq
      · rw [List.getElem?_append_left hq] at hp
        rw [List.getElem?_append_left (by omega)] at he
        exact ⟨r4 q en p he hp, r5 q en p he hp⟩
      · rw [List.getElem?_append_right hq] at hp
        rw [List.getElem?_append_right (by omega), r3] at he
        obtain ⟨hq0, -⟩ := List.getElem?_eq_some_iff.1 hp
        have hq1 : q - l.length = 0 := by simpa using hq0
        rw [hq1] at he hp
        cases he
        cases hp
        exact ⟨rfl, h3⟩
theorem yKu {T : Nat} {x y u : Operand} {i : Nat} {l l' : List (List UInt8 × DV)} {k : List UInt8} {z v : DV} [hM : MapOf P T z] (hx : st.ev x = .mb i) (hi : st.bget i = some [.mc (kmap l)]) (hy : st.ev y = .d (dS k)) (hu : st.ev u = .d v) (hl : mset k v l = l')
    (h : YR P sq ops K rest ((st.bput i [.mc (kmap l')]).put d .any)) (hge : Nat.ble 500000 i = true := by rfl) (hd : dstOk ⟨d, .mapUpdate T x y u, ty, pos, af, gd⟩ st = true := by kernel_rfl) (hk : opOk ⟨d, .mapUpdate T x y u, ty, pos, af, gd⟩ st (.box i [.mc (kmap l')]) = true := by kernel_rfl) (hw : st.want ops ⟨d, .mapUpdate T x y u, ty, pos, af, gd⟩ = some true := by rfl) :
    YR P sq ops K (⟨d, .mapUpdate T x y u, ty, pos, af, gd⟩ :: rest) st := yr_b (hl ▸ ls_mup T x y u (Nat.le_of_ble_eq_true hge) hx hi hy hu hd) hk hw h
end
end Go.Proofs.YtmfeinilbjfnpaaGreatDoor.Px
set_option maxHeartbeats 1000000
namespace Go.Proofs.YtmfeinilbjfnpaaGreatDoor.Px
open Go.RowKit Go.Shelf

theorem frz_heap (w : World) (a : Addr) (n b : Nat) (h : b ≠ a.block) : (w.freeze a n).heap[b]? = w.heap[b]? := by
  unfold World.freeze
  split
  · rfl
  · simp only [Array.getElem?_modify]
    rw [if_neg (fun e => h e.symm)]
theorem frz_size (w : World) (a : Addr) (n : Nat) : (w.freeze a n).heap.size = w.heap.size := by
  unfold World.freeze
  split
  · rfl
  · simp
theorem frz_see (w : World) (a : Addr) (n b o : Nat) : see (w.freeze a n) b o = see w b o := by
  by_cases h : b = a.block
  · subst h
    unfold World.freeze
    split
    · rfl
    · unfold see
      simp only [Array.getElem?_modify, if_true]
      cases w.heap[a.block]? with
      | none => rfl
      | some x => cases x <;> rfl
  · exact see_of_block (frz_heap w a n b h) o
theorem frz_shape (w : World) (a : Addr) (n b : Nat) : (w.freeze a n).shape? b = w.shape? b := by
  by_cases h : b = a.block
  · subst h
    unfold World.freeze
    split
    · rfl
    · unfold World.shape?
      simp only [Array.getElem?_modify, if_true]
      cases w.heap[a.block]? with
      | none => rfl
      | some x => cases x <;> rfl
  · exact shape_of_block (frz_heap w a n b h)

def PS.tdel (st : PS) (t : Nat) : PS := { st with t := st.t.filter fun p => !Nat.beq p.1 t }
theorem tdel_get (st : PS) (t j : Nat) : (st.tdel t).tget j = if j = t then none else st.tget j := aget_filter st.t t j
def Gh.delt (g : Gh) (t : Nat) : Gh := { g with tk := fun j => if j = t then none else g.tk j }
theorem Gh.delt_tk {g : Gh} {t j : Nat} {T : Tk} (h : (g.delt t).tk j = some T) : g.tk j = some T ∧ j ≠ t := by
  simp only [Gh.delt] at h
  split at h
  · cases h
  · rename_i e; exact ⟨h, e⟩
theorem ownsRow_heap {w w' : World} {base E k n : Nat} {v : Value} {xs : List Value} (h : w.ownsRow base E k v n xs) (hh : ∀ b, v.ownBlock = some b → w'.heap[b]? = w.heap[b]?) : w'.ownsRow base E k v n xs := by
  refine ⟨h.1, ?_⟩
  rcases h.2 with h1 | ⟨g, cap, cur, h1, h2, h3, h4⟩
  · exact .inl h1
  · exact .inr ⟨g, cap, cur, h1, h2, (hh g (by rw [h1]; rfl)).trans h3, h4⟩
/-- a row of one's own is frozen, and told no more -/
theorem Rep.frz {B : Nat} {w0 : Cx} {g : Gh} {st : PS} {a : Act} {w : World} (h : Rep B w0 g st a w) {t gb n c : Nat} {T : Tk} (hT : g.tk t = some T) (hv : T.v = .slice (some ⟨gb, 0, none⟩) n c) (m : Nat) : Rep B w0 (g.delt t) (st.tdel t) a (w.freeze ⟨gb, 0, none⟩ m) := by
  have hob : T.v.ownBlock = some gb := by rw [hv]; rfl
  have ev : Evo g w (g.delt t) (w.freeze ⟨gb, 0, none⟩ m) := ⟨Lib.below_freeze (Below.refl 0 w) (Nat.zero_le _) m, rfl, fun b o hf _ => ⟨⟨hf.1, hf.2.1, fun t' T' n' c' q1 q2 => hf.2.2 t' T' n' c' (Gh.delt_tk q1).1 q2⟩, frz_see _ _ _ _ _⟩, fun b hb => frz_heap _ _ _ _ fun e => hb (.inr (.inr ⟨t, T, hT, by rw [hob, e]⟩)), fun _ _ h => .inl h, fun _ T' h' => .inl ⟨T', (Gh.delt_tk h').1, .inl rfl⟩, fun t' T' _ h' hb => .inr (.inr ⟨t', T', (Gh.delt_tk h').1, hb⟩), fun _ _ _ _ _ => frz_shape _ _ _ _⟩
  have srep : ∀ v x, SRep g w v x → SRep (g.delt t) (w.freeze ⟨gb, 0, none⟩ m) v x := fun v x hx =>
    hx.extp ev.fx (fun _ _ _ h => h) (fun t' k es _ T' hT' => ⟨T', (Gh.delt_tk hT').1, .inl rfl⟩) fun _ _ _ _ => frz_shape _ _ _ _
  have hne : ∀ i b, g.bl i = some b → (w.freeze ⟨gb, 0, none⟩ m).heap[b]? = w.heap[b]? := fun i b hi => frz_heap _ _ _ _ fun e => (h.toks t T hT).2 i gb hob (by rw [hi, e])
  refine { h with evo := h.evo.trans ev, defers := h.defers.evo ev, base := by rw [frz_size]; exact h.base, f0 := h.f0, lim := h.lim, size := h.size, slots := fun j => srep _ _ (h.slots j), glob := fun q cs hq => srep _ (.rd cs) (h.glob q cs hq), boxes := fun j cs hj hlt => ?_, maps := fun j ms hj hge => ?_, blk := fun j b hj => ⟨(h.blk j b hj).1, by rw [frz_size]; exact (h.blk j b hj).2⟩, dom := h.dom, inj := h.inj, toks := fun t' T' hT' => ?_, tf0 := fun t' T' b o hT' hb => h.tf0 t' T' b o (Gh.delt_tk hT').1 hb, telt := fun t' T' hT' => h.telt t' T' (Gh.delt_tk hT').1, tdis := fun t1 t2 T1 T2 b h1 h2 => h.tdis t1 t2 T1 T2 b (Gh.delt_tk h1).1 (Gh.delt_tk h2).1, tdom := fun t' T' hT' => ?_, tlen := fun t' n' ht' => ?_ }
  · obtain ⟨b, xs, T0, h2, h3, h4, h5, h6⟩ := h.boxes j cs hj hlt
    refine ⟨b, xs, T0, h2, (hne j b h2).trans h3, h4, fun q c0 hq => ?_, h6⟩
    obtain ⟨x, h8, h9⟩ := h5 q c0 hq
    exact ⟨x, h8, srep _ _ h9⟩
  · obtain ⟨b, es, c0, h4, h5, h6⟩ := h.maps j ms hj hge
    exact ⟨b, es, c0, h4, (hne j b h4).trans h5, h6.mono ev.fx⟩
  · obtain ⟨h1, h2⟩ := Gh.delt_tk hT'
    obtain ⟨⟨n', xs, h3⟩, h4⟩ := h.toks t' T' h1
    exact ⟨⟨n', xs, ownsRow_heap h3 fun b hb => frz_heap _ _ _ _ fun e => h2 (h.tdis t' t T' T gb h1 hT (by rw [hb, e]) hob)⟩, h4⟩
  · obtain ⟨h1, h2⟩ := Gh.delt_tk hT'
    rw [tdel_get, if_neg h2]
    exact h.tdom t' T' h1
  · rw [tdel_get] at ht'
    split at ht'
    · cases ht'
    · rename_i e
      obtain ⟨T', A, c0, h1, h2⟩ := h.tlen t' n' ht'
      exact ⟨T', A, c0, by simp only [Gh.delt]; rw [if_neg e]; exact h1, h2⟩

set_option maxHeartbeats 1000000 in
set_option maxRecDepth 100000 in
/-- (*strings.Builder).String of a builder that holds a byte: the world behind it to the letter -/
theorem str_raw {P : Program} {ρ : Ren} (L : Lays.n169 P ρ) (X : Builder.Extra P ρ) (b g cap cells : Nat) (l : List UInt8) (w : World) (h0 : l ≠ []) (c0 : w.cell? ⟨b, 1, none⟩ = some (.slice (some ⟨g, 0, none⟩) l.length cap)) (hsh : w.shape? g = some (ρ.t 5, cells)) (hn : l.length ≤ cells) (hcap : l.length ≤ cap) (hm : l.length ≤ 9223372036854775807)
    (hcell : ∀ (j : Nat) x, l[j]? = some x → w.cell? ((⟨g, 0, none⟩ : Addr).add j) = some (.int .u8 x.toNat)) :
    Calls P (ρ.f 169) #[.pointer (some ⟨b, 0, none⟩)] w fun e w' => e = .returned (.string ⟨l.toArray⟩) ∧ w' = w.drew.freeze ⟨g, 0, none⟩ l.length := by
  have hl0 : l.length ≠ 0 := by simpa using h0
  have c1 : w.drew.cell? ⟨b, 1, none⟩ = some (.slice (some ⟨g, 0, none⟩) l.length cap) := c0
  have hSD : (Builtin.unsafeSliceData_ #[(ρ.t 37)] (ρ.t 127) #[.slice (some ⟨g, 0, none⟩) l.length cap]).run P w.drew = .ok (.pointer (some ⟨g, 0, none⟩)) w.drew :=
    Lib.run_unsafeSliceData_row _ _ _ _ _ _ (by omega)
  have hUS : (Builtin.unsafeString_ #[(ρ.t 127), (ρ.t 3)] (ρ.t 9) #[.pointer (some ⟨g, 0, none⟩), .int .i64 l.length]).run P w.drew = .ok (.string ⟨l.toArray⟩) (w.drew.freeze ⟨g, 0, none⟩ l.length) :=
    Lib.run_unsafeString_row w.drew (ρ.t 127) (ρ.t 3) (ρ.t 9) (ρ.t 5) L.t127 X.cellsByte g cells hsh l h0 hn hm hcell
  have mixed := L.mixed
  have t72 := L.t72; have a72 := L.a72; have z72 := L.z72; have v72 := L.v72; have u72 := run_underlying L.t72
  have t70 := L.t70; have a70 := L.a70; have z70 := L.z70; have v70 := L.v70; have u70 := run_underlying L.t70
  have t37 := L.t37; have a37 := L.a37; have z37 := L.z37; have v37 := L.v37; have u37 := run_underlying L.t37
  have t127 := L.t127; have a127 := L.a127; have z127 := L.z127; have v127 := L.v127; have u127 := run_underlying L.t127
  have t3 := L.t3; have a3 := L.a3; have z3 := L.z3; have v3 := L.v3; have u3 := run_underlying L.t3
  have t9 := L.t9; have a9 := L.a9; have z9 := L.z9; have v9 := L.v9; have u9 := run_underlying L.t9
  have t5 := X.t5; have a5 := X.a5; have z5 := X.z5; have v5 := X.v5; have u5 := run_underlying X.t5
  go_enter L.f169, Body.n169_ntmps ρ
  go_wp2
  go_region_o
  all_goals (go_wp2; go_ret; exact ⟨rfl, rfl⟩)

section
variable {P : Program} {ops : Array Oper} {K : PS → Prop} {rest : List Oper} {st : PS} {d : Option Nat} {ty : TypeId} {pos : String} {af : Array Edge} {gd : Option (Nat × Bool)}
theorem yStr {f e t : Nat} {l : List UInt8} {es : List (List DV)} {x : Operand} {x0 : SV} {ts : Array TypeId} {ρ : Ren} [hB : HasBody P f] (L : Lays.n169 P ρ) (X : Builder.Extra P ρ) (hf : ρ.f 169 = f) (hE : t / 100000 = ρ.t 5) (h0 : l ≠ []) (hes : es = l.map fun c => [DV.val (.int .u8 c.toNat)]) (hx : st.ev x = .bx e 0) (hi : st.bget e = some [x0, .ts t 1 es]) (ht : st.tget t = some es.length)
    (h : YR P true ops K rest (((st.kill e).tdel t).put d (.d (dS l)))) (hlt : Nat.blt e 500000 = true := by rfl) (hd : dstOk ⟨d, .call { callee := .value (.func f), args := #[x], argTypes := ts }, ty, pos, af, gd⟩ st = true := by kernel_rfl) (hw : st.want ops ⟨d, .call { callee := .value (.func f), args := #[x], argTypes := ts }, ty, pos, af, gd⟩ = some true := by rfl) :
    YR P true ops K (⟨d, .call { callee := .value (.func f), args := #[x], argTypes := ts }, ty, pos, af, gd⟩ :: rest) st := by
  subst hf
  refine .any rfl fun B w0 Q hQ g a w hr => ?_
  have h1 := hr.eval x
  rw [hx] at h1
  obtain ⟨b, hb, hax⟩ := h1
  obtain ⟨b', xs, T0, q1, q2, q3, q4, q5⟩ := hr.boxes e _ hi (Nat.le_of_ble_eq_true hlt)
  rw [hb] at q1
  cases q1
  obtain ⟨x1, q6, q7, q8⟩ := q4 1 (.ts t 1 es) rfl
  obtain ⟨T, A, c, r1, r2⟩ := hr.tlen t _ ht
  obtain ⟨hk, hT⟩ := q8 T r1
  have hx1 : x1 = T.v := (hT A _ c r2).2 rfl
  obtain ⟨⟨n', xs', -, hown⟩, -⟩ := hr.toks t T r1
  have hlen : es.length = l.length := by rw [hes, List.length_map]
  have hl0 : 0 < l.length := List.length_pos_iff.2 h0
  rcases hown with ⟨hv, h00⟩ | ⟨gb, cap, cur, hv, -, hg, hnc, hcm, hcs, -⟩
  · rw [r2] at hv
    have := (Value.slice.inj hv).2.1
    omega
  have hv2 : T.v = .slice (some ⟨gb, 0, none⟩) n' cap := hv
  rw [r2] at hv
  have hn' : es.length = n' := (Value.slice.inj hv).2.1
  obtain ⟨A2, c2, news, s1, -, s3, -, s5, s6, -, s8⟩ := DRep.row q7
  obtain ⟨b2, off2, s9, s10⟩ := s6 (by omega)
  rw [hx1, hv2, s9] at s1
  have hbo : gb = b2 ∧ 0 = off2 := by
    have := Option.some.inj (Value.slice.inj s1).1
    cases this
    exact ⟨rfl, rfl⟩
  obtain ⟨rfl, rfl⟩ := hbo
  have hcell : ∀ (j : Nat) y, l[j]? = some y → w.cell? ((⟨gb, 0, none⟩ : Addr).add j) = some (.int .u8 y.toNat) := fun j y hj => by
    obtain ⟨u, u1, u2⟩ := s8 j 0 [DV.val (.int .u8 y.toNat)] _ (by rw [hes, List.getElem?_map, hj]; rfl) rfl
    rw [Nat.mul_one, Nat.add_zero] at u1
    have := (s10 j u u1).1
    rw [DRep.val_eq u2] at this
    rw [Addr.add_lit]
    exact this
  have hc1 : w.cell? ⟨b, 1, none⟩ = some (.slice (some ⟨gb, 0, none⟩) l.length cap) := by
    have : x1 = .slice (some ⟨gb, 0, none⟩) l.length cap := by rw [hx1, hv2, ← hn', hlen]
    rw [← this]
    simp only [World.cell?, q2, Option.isSome_none, Bool.false_eq_true, if_false]
    exact q6
  have hsh : w.shape? gb = some (ρ.t 5, cur.size) := by
    rw [← hE, ← hr.telt t T r1]
    simp [World.shape?, hg]
  have hcall := str_raw L X b gb cap cur.size l w h0 hc1 hsh (by rw [hcs, hk]; omega) (by omega) (by unfold maxLen at hcm; omega) hcell
  have hrun : (execOp a.eval ⟨d, .call { callee := .value (.func (ρ.f 169)), args := #[x], argTypes := ts }, ty, pos, af, gd⟩).run P w = .ok (.enter (ρ.f 169) #[.pointer (some ⟨b, 0, none⟩)]) w := by
    simp only [execOp, resolve, Act.eval, Deferred.ofValue, Sem.run_bind, Sem.run_pure, Result.andThen_ok, invoke]
    rw [hB.run]
    simp [hax]
  unfold wpList
  rw [if_pos (want_spec hr hw)]
  refine .inl ?_
  unfold Oper.wp
  rw [hrun]
  show Calls P (ρ.f 169) _ w _
  refine hcall.mono ?_
  rintro en w' ⟨rfl, rfl⟩
  have r3 : Rep B w0 g st a w.drew := hr.grow (Below.drew (Below.refl _ _))
  have r4 := (r3.kill e).2
  have r5 := r4.frz (t := t) (T := T) r1 hv2 l.length
  exact h.sound hQ (r5.put (x := .d (dS l)) (DRep.val _ rfl) _ (dstOk_spec (st := st) hd))
end
end Go.Proofs.YtmfeinilbjfnpaaGreatDoor.Px
