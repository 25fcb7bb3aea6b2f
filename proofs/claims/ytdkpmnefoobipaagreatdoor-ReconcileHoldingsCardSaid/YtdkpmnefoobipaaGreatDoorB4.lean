/- What every law of this seat wants beside its walk: arguments opened, the table that is laid, the row's last step. -/
import Derived.Test.YtdkpmnefoobipaaGreatDoorRows
import Derived.Test.YtdkpmnefoobipaaGreatDoorB3
import Derived.ProofKit
import Derived.OpenShut
import Derived.ShutString
import Derived.ChangeOld
import Derived.LaidMore
import Derived.Lay
import Derived.Stop.Joined
import Derived.Lib.SmallJoins
import Derived.Shelf.SlGeneric
import Derived.Shelf.SortG.Plain
import Derived.Shelf.SortG.SortNone
import Derived.Shelf.SlicesE.Compact
import Derived.Shelf.Strings.SlTrimAscii
import Derived.Shelf.Strconv.Itoa3
import Derived.Ground.SlgnProg
import Derived.Ground.NamesProg
import Derived.Test.YtdkpmnefoobipaaGreatDoorProg
import Derived.Lib.ItoaNum
import Derived.Lib.AppendIntMem
import Derived.ArgAppend
set_option maxHeartbeats 1000000
namespace Go.Proofs.YtdkpmnefoobipaaGreatDoor
open Go.ChangeShapes Go.WideShapes Go.ChangeAt Go.RowKit Go.Joins Px

theorem own : ownKnob Tryz.prog.godebug = none := by kernel_rfl
def pow10 : List Int := [1, 10, 100, 1000, 10000, 100000, 1000000, 10000000, 100000000, 1000000000, 10000000000, 100000000000, 1000000000000, 10000000000000, 100000000000000, 1000000000000000, 10000000000000000, 100000000000000000, 1000000000000000000, 10000000000000000000]
theorem gs_eq : gs = [(2, pow10.map fun n => DV.val (.int .u64 n))] := rfl
section
variable {H : Type} {enc : TypeId × Value → H}
theorem glob_of_var {W : World} {cs : Array Value} {fuel : Nat} {x : DataW Unit × List MemPlace} {sp : Nat → Bool} {hd : Bool} (hv : W.var? Tryz.prog "internal/strconv.uint64pow10" = some cs) (hx : x.1 = .agg (pow10.map fun n => .lit (.int .u64 n)))
    (h : DataW.trod (fun _ => ()) Tryz.prog W 0 sp hd fuel 229 cs.toList = some x) : GlobOk (fun _ _ => True) W := by
  obtain ⟨xs, m, -, rfl, hl, hn, hel⟩ := DataW.trod_array Tryz.underlying229 h
  have hc : Tryz.prog.cellsOf 130 = 1 := by kernel_rfl
  have hc2 : Tryz.prog.cellsOf 229 = 20 := by kernel_rfl
  rw [hc2] at hl
  have hx : xs.map (·.1) = pow10.map fun n => (.lit (.int .u64 n) : DataW Unit) := DataW.agg.inj hx
  have hp : pow10.length = 20 := rfl
  have hcs : cs.toList = pow10.map fun n => Value.int .u64 n := by
    apply List.ext_getElem?
    intro r
    by_cases hr : r < 20
    · have hE := hel r hr
      rw [hc, Nat.mul_one, List.getElem?_eq_getElem (by omega)] at hE
      obtain ⟨z, e1, e2, -⟩ := DataW.trod_int Tryz.underlying130 hE
      have e4 : (xs.map (·.1))[r]? = (pow10.map fun n => (.lit (.int .u64 n) : DataW Unit))[r]? := by rw [hx]
      rw [List.getElem?_map, List.getElem?_map, List.getElem?_eq_getElem (by omega : r < xs.length), List.getElem?_eq_getElem (by omega : r < pow10.length), e2] at e4
      simp only [Option.map_some, Option.some.injEq, DataW.lit.injEq, Lit.int.injEq, true_and] at e4
      have h0 : ((cs.toList.drop r).take 1)[0]? = some (.int .u64 z) := by rw [e1]; rfl
      have h1 : cs.toList[r]? = some (.int .u64 z) := by simpa using h0
      rw [h1, List.getElem?_map, List.getElem?_eq_getElem (by omega : r < pow10.length), e4]
      rfl
    · rw [List.getElem?_eq_none (by omega), List.getElem?_eq_none (by simp [hp]; omega)]
  have hg : Tryz.prog.globalNamed "internal/strconv.uint64pow10" = some 2 := by kernel_rfl
  have hcell := World.var?_cell hg hv
  obtain ⟨T, z, hheap⟩ : ∃ T z, W.heap[2]? = some (.cells cs T z) := by
    simp only [World.var?, hg, Option.bind_some] at hv
    split at hv
    · rename_i a b c hh; cases hv; exact ⟨_, _, hh⟩
    · cases hv
  intro q ds hq
  rw [gs_eq] at hq
  simp only [aget] at hq
  cases hb : Nat.beq 2 q with
  | false => rw [hb] at hq; cases hq
  | true =>
    have e := Nat.eq_of_beq_eq_true hb
    subst e
    rw [hb] at hq
    cases hq
    refine ⟨.ref (fun j => (pow10.map fun n => Value.int .u64 n)[j]?.getD default) (fun j hj => ?_) (fun j x hj => ?_), pow10.map fun n => Value.int .u64 n, by rw [List.map_map]; rfl, T, z, ?_⟩
    · rw [List.length_map] at hj
      have e1 : (pow10.map fun n => Value.int .u64 n)[j]? = some (Value.int .u64 pow10[j]) := by rw [List.getElem?_map, List.getElem?_eq_getElem hj]; rfl
      refine ⟨?_, trivial, ?_⟩
      · rw [Nat.zero_add, hcell j, ← Array.getElem?_toList, hcs, e1]; rfl
      · rw [e1]; rfl
    · rw [List.getElem?_map, Option.map_eq_some_iff] at hj
      obtain ⟨n, hn, rfl⟩ := hj
      have e1 : (pow10.map fun n => Value.int .u64 n)[j]? = some (Value.int .u64 n) := by rw [List.getElem?_map, hn]; rfl
      rw [e1]
      exact .val _ rfl
    · rw [hheap, ← hcs]
theorem laidOut : laidOutB Tryz.prog = true := by kernel_rfl
theorem trodAll_later {W W' : World} (hb : Below W.heap.size W W') : ∀ (ts : List TypeId) (vs : List Value) (ds : List (DataW H)) (ps : List MemPlace), (∀ t ∈ ts, Tryz.prog.readableRec t = true ∧ t < Tryz.prog.types.size) → (∀ x ∈ ps, x.block < W.heap.size) →
    DataW.TrodAll enc Tryz.prog W 0 (fun _ => true) true ts vs ds ps → DataW.TrodAll enc Tryz.prog W' 0 (fun b => decide (b < W.heap.size)) true ts vs ds ps
  | [], vs, ds, ps, _, _, h => by
    obtain ⟨rfl, rfl, rfl⟩ := trodAll_nil h
    exact trodAll_mk0
  | t :: ts, vs, ds, ps, ht, hlt, h => by
    obtain ⟨v, vs', d, ds', p, q, rfl, rfl, rfl, h1, h2⟩ := trodAll_cons h
    exact trodAll_cons_mk (Below.trod laidOut (ht t (by simp)).1 (ht t (by simp)).2 h1 hb fun x hx => hlt x (by simp [hx]))
      (trodAll_later hb ts vs' ds' q (fun t' ht' => ht t' (by simp [ht'])) (fun x hx => hlt x (by simp [hx])) h2)
theorem law_post {f : Func} {s : ChangeSpec} {W W' : World} {args : Array Value} {ds : List (DataW H)} {before : List MemPlace} (hW : DataW.Whole enc Tryz.prog f.params.toList s.vars false W args.toList ds [] before) (hv : s.vars = [])
    (hres : f.resultTypes = #[4]) (hfn : s.fn H (ds ++ []) = { results := [.lit (.bool true)], args := ds }) (hread : ∀ t ∈ f.params.toList, Tryz.prog.readableRec t = true ∧ t < Tryz.prog.types.size) (hb : Below W.heap.size W W') :
    s.post enc Tryz.prog f false true false false W args (.bool true) W' := by
  have hW' := hW
  obtain ⟨p, q, hA, hV, rfl, hfz, hnd⟩ := hW
  rw [hv] at hV
  obtain ⟨-, rfl⟩ := trodVars_none hV
  have hlt : ∀ x ∈ p, x.block < W.heap.size := fun x hx => hW'.lt x (by simp [hx])
  refine ⟨ds, [], p ++ [], [], p, [], hW', ?_, ?_, ?_, hb.frame _, fun h => by cases h⟩
  · rw [hfn, hres]
    exact trodAll_mk1 (shut_bool Tryz.underlying4 _)
  · rw [hfn]
    exact trodAll_later hb _ _ _ _ hread hlt hA
  · rw [hfn, hv]
    rfl
end
end Go.Proofs.YtdkpmnefoobipaaGreatDoor
namespace Go.Proofs
open Go.Shelf
def Tryz.sortStr_ren : Go.Shelf.Ren := ⟨fun | 54 => 49 | 64 => 82 | 65 => 81 | 78 => 114 | 79 => 115 | 80 => 105 | 81 => 106 | 82 => 107 | 83 => 108 | 84 => 109 | 85 => 110 | 61 => 111 | 86 => 112 | 87 => 113 | 93 => 144 | 89 => 145 | 90 => 146 | 94 => 147 | 95 => 148 | 69 => 149 | 97 => 181 | n => n, fun | 25 => 62 | 26 => 9 | 3 => 3 | 51 => 125 | 0 => 0 | 67 => 160 | 69 => 130 | 4 => 4 | 61 => 152 | 60 => 151 | 44 => 157 | 5 => 5 | 9 => 9 | 75 => 183 | 79 => 187 | 83 => 216 | 84 => 217 | n => n, fun | n => n⟩
theorem Tryz.sortStr : Go.Proofs.SlLaysN.n54 Tryz.prog Tryz.sortStr_ren := {
  mixed := by kernel_rfl
  f54 := ⟨Tryz.f49.name, by decide, Tryz.func49.trans (congrArg some (by kernel_rfl))⟩
  f61 := ⟨Tryz.f111.name, by decide, Tryz.func111.trans (congrArg some (by kernel_rfl))⟩
  f64 := Tryz.func82.trans (congrArg some (by kernel_rfl))
  f65 := ⟨Tryz.f81.name, by decide, Tryz.func81.trans (congrArg some (by kernel_rfl))⟩
  f69 := ⟨Tryz.f149.name, by decide, Tryz.func149.trans (congrArg some (by kernel_rfl))⟩
  f78 := Tryz.func114.trans (congrArg some (by kernel_rfl))
  f79 := Tryz.func115.trans (congrArg some (by kernel_rfl))
  f80 := ⟨Tryz.f105.name, by decide, Tryz.func105.trans (congrArg some (by kernel_rfl))⟩
  f81 := ⟨Tryz.f106.name, by decide, Tryz.func106.trans (congrArg some (by kernel_rfl))⟩
  f82 := ⟨Tryz.f107.name, by decide, Tryz.func107.trans (congrArg some (by kernel_rfl))⟩
  f83 := ⟨Tryz.f108.name, by decide, Tryz.func108.trans (congrArg some (by kernel_rfl))⟩
  f84 := ⟨Tryz.f109.name, by decide, Tryz.func109.trans (congrArg some (by kernel_rfl))⟩
  f85 := ⟨Tryz.f110.name, by decide, Tryz.func110.trans (congrArg some (by kernel_rfl))⟩
  f86 := ⟨Tryz.f112.name, by decide, Tryz.func112.trans (congrArg some (by kernel_rfl))⟩
  f87 := ⟨Tryz.f113.name, by decide, Tryz.func113.trans (congrArg some (by kernel_rfl))⟩
  f89 := Tryz.func145.trans (congrArg some (by kernel_rfl))
  f90 := Tryz.func146.trans (congrArg some (by kernel_rfl))
  f93 := ⟨Tryz.f144.name, by decide, Tryz.func144.trans (congrArg some (by kernel_rfl))⟩
  f94 := ⟨Tryz.f147.name, by decide, Tryz.func147.trans (congrArg some (by kernel_rfl))⟩
  f95 := ⟨Tryz.f148.name, by decide, Tryz.func148.trans (congrArg some (by kernel_rfl))⟩
  f97 := ⟨Tryz.f181.name, by decide, Tryz.func181.trans (congrArg some (by kernel_rfl))⟩
  t0 := Tryz.underlying0
  a0 := Tryz.isAgg0
  z0 := Tryz.sizeOf0
  v0 := Tryz.zeroValue0
  t3 := Tryz.underlying3
  a3 := Tryz.isAgg3
  z3 := Tryz.sizeOf3
  v3 := Tryz.zeroValue3
  t4 := Tryz.underlying4
  a4 := Tryz.isAgg4
  z4 := Tryz.sizeOf4
  v4 := Tryz.zeroValue4
  t5 := Tryz.underlying5
  a5 := Tryz.isAgg5
  z5 := Tryz.sizeOf5
  v5 := Tryz.zeroValue5
  t9 := Tryz.underlying9
  a9 := Tryz.isAgg9
  z9 := Tryz.sizeOf9
  v9 := Tryz.zeroValue9
  t25 := Tryz.underlying62
  a25 := Tryz.isAgg62
  z25 := Tryz.sizeOf62
  v25 := Tryz.zeroValue62
  t26 := Tryz.underlying9
  a26 := Tryz.isAgg9
  z26 := Tryz.sizeOf9
  v26 := Tryz.zeroValue9
  t44 := Tryz.underlying157
  a44 := Tryz.isAgg157
  z44 := Tryz.sizeOf157
  v44 := Tryz.zeroValue157
  t51 := Tryz.underlying125
  a51 := Tryz.isAgg125
  z51 := Tryz.sizeOf125
  v51 := Tryz.zeroValue125
  t60 := Tryz.underlying151
  a60 := Tryz.isAgg151
  z60 := Tryz.sizeOf151
  v60 := Tryz.zeroValue151
  t61 := Tryz.underlying152
  a61 := Tryz.isAgg152
  z61 := Tryz.sizeOf152
  v61 := Tryz.zeroValue152
  t67 := Tryz.underlying160
  a67 := Tryz.isAgg160
  z67 := Tryz.sizeOf160
  v67 := Tryz.zeroValue160
  t69 := Tryz.underlying130
  a69 := Tryz.isAgg130
  z69 := Tryz.sizeOf130
  v69 := Tryz.zeroValue130
  t75 := Tryz.underlying183
  a75 := Tryz.isAgg183
  z75 := Tryz.sizeOf183
  v75 := Tryz.zeroValue183
  t79 := Tryz.underlying187
  a79 := Tryz.isAgg187
  z79 := Tryz.sizeOf187
  v79 := Tryz.zeroValue187
  t83 := Tryz.underlying216
  a83 := Tryz.isAgg216
  z83 := Tryz.sizeOf216
  v83 := Tryz.zeroValue216
  t84 := Tryz.underlying217
  a84 := Tryz.isAgg217
  z84 := Tryz.sizeOf217
  v84 := Tryz.zeroValue217 }
def Tryz.compStr_ren : Go.Shelf.Ren := ⟨fun | 43 => 50 | n => n, fun | 22 => 62 | 23 => 9 | 3 => 3 | 4 => 4 | 0 => 0 | n => n, fun | n => n⟩
theorem Tryz.compStr : Go.Proofs.SlLaysE.n43 Tryz.prog Tryz.compStr_ren := {
  mixed := by kernel_rfl
  f43 := ⟨Tryz.f50.name, by decide, Tryz.func50.trans (congrArg some (by kernel_rfl))⟩
  t0 := Tryz.underlying0
  a0 := Tryz.isAgg0
  z0 := Tryz.sizeOf0
  v0 := Tryz.zeroValue0
  t3 := Tryz.underlying3
  a3 := Tryz.isAgg3
  z3 := Tryz.sizeOf3
  v3 := Tryz.zeroValue3
  t4 := Tryz.underlying4
  a4 := Tryz.isAgg4
  z4 := Tryz.sizeOf4
  v4 := Tryz.zeroValue4
  t22 := Tryz.underlying62
  a22 := Tryz.isAgg62
  z22 := Tryz.sizeOf62
  v22 := Tryz.zeroValue62
  a23 := Tryz.isAgg9
  z23 := Tryz.sizeOf9 }
def Tryz.trim_ren : Go.Shelf.Ren := ⟨fun | 160 => 118 | 232 => 152 | 231 => 151 | 227 => 153 | 234 => 155 | 233 => 154 | 236 => 157 | 235 => 156 | 228 => 182 | 271 => 185 | 151 => 184 | 197 => 183 | 120 => 199 | 152 => 198 | 260 => 197 | 137 => 202 | 119 => 203 | 224 => 204 | 225 => 205 | 217 => 206 | 266 => 207 | n => n, fun | 9 => 9 | 4 => 4 | 3 => 3 | 5 => 5 | 117 => 192 | 116 => 191 | 0 => 0 | 124 => 195 | 21 => 21 | 105 => 220 | 46 => 125 | 119 => 239 | 139 => 242 | 138 => 241 | n => n, fun | 3 => 4 | 4 => 5 | n => n⟩
theorem Tryz.trim : Go.Proofs.Lays.n160 Tryz.prog Tryz.trim_ren := {
  mixed := by kernel_rfl
  f119 := Tryz.func203.trans (congrArg some (by kernel_rfl))
  f120 := Tryz.func199.trans (congrArg some (by kernel_rfl))
  f137 := Tryz.func202.trans (congrArg some (by kernel_rfl))
  f151 := Tryz.func184.trans (congrArg some (by kernel_rfl))
  f152 := Tryz.func198.trans (congrArg some (by kernel_rfl))
  f160 := Tryz.func118.trans (congrArg some (by kernel_rfl))
  f197 := Tryz.func183.trans (congrArg some (by kernel_rfl))
  f217 := Tryz.func206.trans (congrArg some (by kernel_rfl))
  f224 := Tryz.func204.trans (congrArg some (by kernel_rfl))
  f225 := Tryz.func205.trans (congrArg some (by kernel_rfl))
  f227 := Tryz.func153.trans (congrArg some (by kernel_rfl))
  f228 := Tryz.func182.trans (congrArg some (by kernel_rfl))
  f231 := Tryz.func151.trans (congrArg some (by kernel_rfl))
  f232 := Tryz.func152.trans (congrArg some (by kernel_rfl))
  f233 := Tryz.func154.trans (congrArg some (by kernel_rfl))
  f234 := Tryz.func155.trans (congrArg some (by kernel_rfl))
  f235 := Tryz.func156.trans (congrArg some (by kernel_rfl))
  f236 := Tryz.func157.trans (congrArg some (by kernel_rfl))
  f260 := Tryz.func197.trans (congrArg some (by kernel_rfl))
  f266 := Tryz.func207.trans (congrArg some (by kernel_rfl))
  f271 := Tryz.func185.trans (congrArg some (by kernel_rfl))
  t0 := Tryz.underlying0
  a0 := Tryz.isAgg0
  z0 := Tryz.sizeOf0
  v0 := Tryz.zeroValue0
  t3 := Tryz.underlying3
  a3 := Tryz.isAgg3
  z3 := Tryz.sizeOf3
  v3 := Tryz.zeroValue3
  t4 := Tryz.underlying4
  a4 := Tryz.isAgg4
  z4 := Tryz.sizeOf4
  v4 := Tryz.zeroValue4
  t5 := Tryz.underlying5
  a5 := Tryz.isAgg5
  z5 := Tryz.sizeOf5
  v5 := Tryz.zeroValue5
  t9 := Tryz.underlying9
  a9 := Tryz.isAgg9
  z9 := Tryz.sizeOf9
  v9 := Tryz.zeroValue9
  t21 := Tryz.underlying21
  a21 := Tryz.isAgg21
  z21 := Tryz.sizeOf21
  v21 := Tryz.zeroValue21
  t46 := Tryz.underlying125
  a46 := Tryz.isAgg125
  z46 := Tryz.sizeOf125
  v46 := Tryz.zeroValue125
  t105 := Tryz.underlying220
  a105 := Tryz.isAgg220
  z105 := Tryz.sizeOf220
  v105 := Tryz.zeroValue220
  t116 := Tryz.underlying191
  a116 := Tryz.isAgg191
  z116 := Tryz.sizeOf191
  t117 := Tryz.underlying192
  a117 := Tryz.isAgg192
  z117 := Tryz.sizeOf192
  v117 := Tryz.zeroValue192
  t119 := Tryz.underlying239
  a119 := Tryz.isAgg239
  z119 := Tryz.sizeOf239
  t124 := Tryz.underlying195
  a124 := Tryz.isAgg195
  z124 := Tryz.sizeOf195
  v124 := Tryz.zeroValue195
  t138 := Tryz.underlying241
  a138 := Tryz.isAgg241
  z138 := Tryz.sizeOf241
  v138 := Tryz.zeroValue241
  t139 := Tryz.underlying242
  a139 := Tryz.isAgg242
  z139 := Tryz.sizeOf242
  v139 := Tryz.zeroValue242
  g3 := by kernel_rfl
  g4 := by kernel_rfl }
def Tryz.trimLeft_ren : Go.Shelf.Ren := ⟨fun | 161 => 119 | 231 => 151 | 227 => 153 | 233 => 154 | 235 => 156 | 228 => 182 | 197 => 183 | 151 => 184 | 260 => 197 | 152 => 198 | 137 => 202 | 119 => 203 | 224 => 204 | 225 => 205 | 217 => 206 | 266 => 207 | n => n, fun | 9 => 9 | 4 => 4 | 3 => 3 | 5 => 5 | 117 => 192 | 116 => 191 | 0 => 0 | 124 => 195 | 105 => 220 | 21 => 21 | 119 => 239 | 46 => 125 | 139 => 242 | 138 => 241 | n => n, fun | 3 => 4 | 4 => 5 | n => n⟩
theorem Tryz.trimLeft : Go.Proofs.Lays.n161 Tryz.prog Tryz.trimLeft_ren := {
  mixed := by kernel_rfl
  f119 := Tryz.func203.trans (congrArg some (by kernel_rfl))
  f137 := Tryz.func202.trans (congrArg some (by kernel_rfl))
  f151 := Tryz.func184.trans (congrArg some (by kernel_rfl))
  f152 := Tryz.func198.trans (congrArg some (by kernel_rfl))
  f161 := Tryz.func119.trans (congrArg some (by kernel_rfl))
  f197 := Tryz.func183.trans (congrArg some (by kernel_rfl))
  f217 := Tryz.func206.trans (congrArg some (by kernel_rfl))
  f224 := Tryz.func204.trans (congrArg some (by kernel_rfl))
  f225 := Tryz.func205.trans (congrArg some (by kernel_rfl))
  f227 := Tryz.func153.trans (congrArg some (by kernel_rfl))
  f228 := Tryz.func182.trans (congrArg some (by kernel_rfl))
  f231 := Tryz.func151.trans (congrArg some (by kernel_rfl))
  f233 := Tryz.func154.trans (congrArg some (by kernel_rfl))
  f235 := Tryz.func156.trans (congrArg some (by kernel_rfl))
  f260 := Tryz.func197.trans (congrArg some (by kernel_rfl))
  f266 := Tryz.func207.trans (congrArg some (by kernel_rfl))
  t0 := Tryz.underlying0
  a0 := Tryz.isAgg0
  z0 := Tryz.sizeOf0
  v0 := Tryz.zeroValue0
  t3 := Tryz.underlying3
  a3 := Tryz.isAgg3
  z3 := Tryz.sizeOf3
  v3 := Tryz.zeroValue3
  t4 := Tryz.underlying4
  a4 := Tryz.isAgg4
  z4 := Tryz.sizeOf4
  v4 := Tryz.zeroValue4
  t5 := Tryz.underlying5
  a5 := Tryz.isAgg5
  z5 := Tryz.sizeOf5
  v5 := Tryz.zeroValue5
  t9 := Tryz.underlying9
  a9 := Tryz.isAgg9
  z9 := Tryz.sizeOf9
  v9 := Tryz.zeroValue9
  t21 := Tryz.underlying21
  a21 := Tryz.isAgg21
  z21 := Tryz.sizeOf21
  v21 := Tryz.zeroValue21
  t46 := Tryz.underlying125
  a46 := Tryz.isAgg125
  z46 := Tryz.sizeOf125
  v46 := Tryz.zeroValue125
  t105 := Tryz.underlying220
  a105 := Tryz.isAgg220
  z105 := Tryz.sizeOf220
  v105 := Tryz.zeroValue220
  t116 := Tryz.underlying191
  a116 := Tryz.isAgg191
  z116 := Tryz.sizeOf191
  t117 := Tryz.underlying192
  a117 := Tryz.isAgg192
  z117 := Tryz.sizeOf192
  v117 := Tryz.zeroValue192
  t119 := Tryz.underlying239
  a119 := Tryz.isAgg239
  z119 := Tryz.sizeOf239
  t124 := Tryz.underlying195
  a124 := Tryz.isAgg195
  z124 := Tryz.sizeOf195
  v124 := Tryz.zeroValue195
  t138 := Tryz.underlying241
  a138 := Tryz.isAgg241
  z138 := Tryz.sizeOf241
  v138 := Tryz.zeroValue241
  t139 := Tryz.underlying242
  a139 := Tryz.isAgg242
  z139 := Tryz.sizeOf242
  v139 := Tryz.zeroValue242
  g3 := by kernel_rfl
  g4 := by kernel_rfl }
def Tryz.itoa_ren : Go.Shelf.Ren := ⟨fun | 171 => 74 | 243 => 103 | 246 => 143 | 283 => 165 | 284 => 166 | 285 => 167 | 286 => 168 | 129 => 115 | 317 => 188 | 318 => 189 | 319 => 190 | 320 => 191 | 337 => 200 | 338 => 201 | n => n, fun | 3 => 3 | 9 => 9 | 2 => 2 | 4 => 4 | 171 => 203 | 0 => 0 | 53 => 130 | 37 => 137 | 5 => 5 | 173 => 205 | 212 => 229 | 51 => 160 | 20 => 20 | 213 => 230 | 46 => 125 | 232 => 246 | 233 => 247 | n => n, fun | 17 => 2 | 18 => 6 | 19 => 7 | n => n⟩
theorem Tryz.itoa : Go.Proofs.LaysM.n171 Tryz.prog Tryz.itoa_ren := {
  mixed := by kernel_rfl
  f129 := Tryz.func115.trans (congrArg some (by kernel_rfl))
  f171 := Tryz.func74.trans (congrArg some (by kernel_rfl))
  f243 := Tryz.func103.trans (congrArg some (by kernel_rfl))
  f246 := Tryz.func143.trans (congrArg some (by kernel_rfl))
  f283 := Tryz.func165.trans (congrArg some (by kernel_rfl))
  f284 := Tryz.func166.trans (congrArg some (by kernel_rfl))
  f285 := Tryz.func167.trans (congrArg some (by kernel_rfl))
  f286 := Tryz.func168.trans (congrArg some (by kernel_rfl))
  f317 := Tryz.func188.trans (congrArg some (by kernel_rfl))
  f318 := Tryz.func189.trans (congrArg some (by kernel_rfl))
  f319 := Tryz.func190.trans (congrArg some (by kernel_rfl))
  f320 := Tryz.func191.trans (congrArg some (by kernel_rfl))
  f337 := Tryz.func200.trans (congrArg some (by kernel_rfl))
  f338 := Tryz.func201.trans (congrArg some (by kernel_rfl))
  t0 := Tryz.underlying0
  a0 := Tryz.isAgg0
  z0 := Tryz.sizeOf0
  v0 := Tryz.zeroValue0
  t2 := Tryz.underlying2
  a2 := Tryz.isAgg2
  z2 := Tryz.sizeOf2
  v2 := Tryz.zeroValue2
  t3 := Tryz.underlying3
  a3 := Tryz.isAgg3
  z3 := Tryz.sizeOf3
  v3 := Tryz.zeroValue3
  t4 := Tryz.underlying4
  a4 := Tryz.isAgg4
  z4 := Tryz.sizeOf4
  v4 := Tryz.zeroValue4
  t5 := Tryz.underlying5
  a5 := Tryz.isAgg5
  z5 := Tryz.sizeOf5
  v5 := Tryz.zeroValue5
  t9 := Tryz.underlying9
  a9 := Tryz.isAgg9
  z9 := Tryz.sizeOf9
  v9 := Tryz.zeroValue9
  t20 := Tryz.underlying20
  a20 := Tryz.isAgg20
  z20 := Tryz.sizeOf20
  v20 := Tryz.zeroValue20
  t37 := Tryz.underlying137
  a37 := Tryz.isAgg137
  z37 := Tryz.sizeOf137
  v37 := Tryz.zeroValue137
  t46 := Tryz.underlying125
  a46 := Tryz.isAgg125
  z46 := Tryz.sizeOf125
  v46 := Tryz.zeroValue125
  t51 := Tryz.underlying160
  a51 := Tryz.isAgg160
  z51 := Tryz.sizeOf160
  v51 := Tryz.zeroValue160
  t53 := Tryz.underlying130
  a53 := Tryz.isAgg130
  z53 := Tryz.sizeOf130
  v53 := Tryz.zeroValue130
  t171 := Tryz.underlying203
  a171 := Tryz.isAgg203
  z171 := Tryz.sizeOf203
  v171 := Tryz.zeroValue203
  t173 := Tryz.underlying205
  a173 := Tryz.isAgg205
  z173 := Tryz.sizeOf205
  v173 := Tryz.zeroValue205
  t212 := Tryz.underlying229
  a212 := Tryz.isAgg229
  z212 := Tryz.sizeOf229
  v212 := Tryz.zeroValue229
  t213 := Tryz.underlying230
  a213 := Tryz.isAgg230
  z213 := Tryz.sizeOf230
  t232 := Tryz.underlying246
  a232 := Tryz.isAgg246
  z232 := Tryz.sizeOf246
  v232 := Tryz.zeroValue246
  t233 := Tryz.underlying247
  a233 := Tryz.isAgg247
  z233 := Tryz.sizeOf247
  v233 := Tryz.zeroValue247
  g17 := by kernel_rfl
  g18 := by kernel_rfl
  g19 := by kernel_rfl
  i0 := by kernel_rfl
  i2 := by kernel_rfl
  i3 := by kernel_rfl
  i4 := by kernel_rfl
  i5 := by kernel_rfl
  i9 := by kernel_rfl
  i20 := by kernel_rfl
  i37 := by kernel_rfl
  i46 := by kernel_rfl
  i51 := by kernel_rfl
  i53 := by kernel_rfl
  i171 := by kernel_rfl
  i173 := by kernel_rfl
  i212 := by kernel_rfl
  i232 := by kernel_rfl
  i233 := by kernel_rfl
  m17 := by kernel_rfl
  m18 := by kernel_rfl
  m19 := by kernel_rfl }
end Go.Proofs
namespace Go.Proofs.YtdkpmnefoobipaaGreatDoor
open Go.RowKit Px

def hasP (s p : Str) : Bool := decide (p.length ≤ s.length) && (s.take p.length == p)

set_option maxRecDepth 20000 in
theorem wHasPrefixL (s p : Str) : PCalls Tryz.prog 171 [dS s, dS p] (.d (dB (hasP s p))) := by
  refine pcalls_of_pw Tryz.func171 rfl Tryz.ntmps171 Tryz.results171 (by simp) fun B w0 => ?_
  by_cases h : p.length ≤ s.length
  · have t1 : decide ((s.length : Int) ≥ (p.length : Int)) = true := by simpa using h
    refine pw_seq (pw_region (yAd rfl (yQ (pw_seq (pw_region (yMd rfl (yNs rfl (yMd rfl (yNs rfl ?_))))))))); refine yB rfl rfl rfl rfl (yMd rfl ?_)
    rw [t1]
    refine yMd rfl (yMd rfl (yNs rfl (yS0h (l' := s.take p.length) (by omega) (by omega) (by simp) rfl rfl (yMd rfl (yBse rfl rfl (yPd rfl rfl (yAd rfl (yQ (pw_ret ?_)))))))))
    exact q_ret _ (.tmp rfl .nil) (by simp [hasP, h, resSV])
  · have t1 : decide ((s.length : Int) ≥ (p.length : Int)) = false := by simpa using h
    refine pw_seq (pw_region (yAd rfl (yQ (pw_seq (pw_region (yMd rfl (yNs rfl (yMd rfl (yNs rfl ?_))))))))); refine yB rfl rfl rfl rfl (yMd rfl ?_)
    rw [t1]
    refine yO rfl (yO rfl (yO rfl (yO rfl (yO rfl (yO rfl (yVd rfl rfl (yAd rfl (yQ (pw_ret ?_)))))))))
    exact q_ret _ (.tmp rfl .nil) (by simp [hasP, h, resSV])

set_option maxRecDepth 20000 in
theorem wCutPrefixL (s p : Str) : PCalls Tryz.prog 150 [dS s, dS p] (.tup [dS (if hasP s p then s.drop p.length else s), dB (hasP s p)]) := by
  have c1 := wHasPrefixL s p
  refine pcalls_of_pw Tryz.func150 rfl Tryz.ntmps150 Tryz.results150 (by simp) fun B w0 => ?_
  cases h : hasP s p with
  | false =>
    rw [h] at c1
    refine pw_seq (pw_region (yAd rfl (yAd rfl (yQ (pw_seq (pw_seq (pw_region (yMd rfl (yMd rfl ?_))))))))); refine yC (c1) rfl rfl (yU rfl rfl rfl (yQ (pw_ct rfl (pw_seq (pw_region (yMd rfl (yAd rfl (yAd rfl (yQ ?_))))))))); refine pw_ret (q_then_ret ?_)
    exact q_ret _ (.tmp rfl (.tmp rfl .nil)) rfl
  | true =>
    rw [h] at c1
    have hl : p.length ≤ s.length := by simp [hasP] at h; exact h.1
    refine pw_seq (pw_region (yAd rfl (yAd rfl (yQ (pw_seq (pw_seq (pw_region (yMd rfl (yMd rfl ?_))))))))); refine yC (c1) rfl rfl (yU rfl rfl rfl (yQ (pw_cf rfl (pw_skip (pw_seq (pw_region (yMd rfl (yMd rfl (yNs rfl ?_))))))))); refine ySl0 (l' := s.drop p.length) (by omega) (by omega) (by simp) rfl rfl (yAd rfl (yAd rfl (yQ (pw_ret ?_))))
    exact q_ret _ (.tmp rfl (.tmp rfl .nil)) rfl

set_option maxRecDepth 20000 in
theorem wCutPrefix (s p : Str) : PCalls Tryz.prog 117 [dS s, dS p] (.tup [dS (if hasP s p then s.drop p.length else s), dB (hasP s p)]) := by
  have c1 := wCutPrefixL s p
  refine pcalls_of_pw Tryz.func117 rfl Tryz.ntmps117 Tryz.results117 (by simp) fun B w0 => ?_
  refine pw_seq (pw_region (yAd rfl (yAd rfl (yQ (pw_seq (pw_region (yMd rfl (yMd rfl (yC (c1) rfl rfl ?_))))))))); refine yX rfl rfl (yX rfl rfl (yAd rfl (yAd rfl (yQ (pw_ret ?_)))))
  exact q_ret _ (.tmp rfl (.tmp rfl .nil)) rfl

theorem hasP_minus (a : Str) : hasP a [45] = decide (a.head? = some 45) ∧ (if hasP a [45] then a.drop 1 else a) = bod a := by
  cases a with
  | nil => exact ⟨rfl, rfl⟩
  | cons x a =>
    by_cases h : x = 45
    · subst h; exact ⟨by simp [hasP], by simp [hasP, bod]⟩
    · have : hasP (x :: a) [45] = false := by simp [hasP, h]
      rw [this]
      exact ⟨by simpa using h, by simp [bod, h]⟩
theorem wCutMinus (a : Str) : PCalls Tryz.prog 117 [dS a, dS [45]] (.tup [dS (bod a), dB (decide (a.head? = some 45))]) := by
  have h := wCutPrefix a [45]
  rw [show ([45] : Str).length = 1 from rfl, (hasP_minus a).2, (hasP_minus a).1] at h
  exact h

def cs10 : Str := [48, 49, 50, 51, 52, 53, 54, 55, 56, 57]
theorem cs10_mem (b : UInt8) : cs10.contains b = isD b := by
  have h : ∀ n, n < 256 → cs10.contains (UInt8.ofNat n) = isD (UInt8.ofNat n) := by decide +kernel
  have := h b.toNat b.toNat_lt
  simpa using this
theorem trimL_eq (l : Str) : Lib.trimLeftS l cs10 = l.dropWhile isD := by
  have hp : (fun b => cs10.contains b) = isD := funext cs10_mem
  show l.dropWhile (fun b => cs10.contains b) = _
  rw [hp]
theorem trimR_eq (l : Str) : Lib.trimRightS l cs10 = (l.reverse.dropWhile isD).reverse := by
  have hp : (fun b => cs10.contains b) = isD := funext cs10_mem
  show (l.reverse.dropWhile (fun b => cs10.contains b)).reverse = _
  rw [hp]
theorem dropW_nil {p : UInt8 → Bool} {l : Str} : l.dropWhile p = [] ↔ l.all p = true := by
  induction l with
  | nil => simp
  | cons x l ih =>
    rw [List.dropWhile_cons, List.all_cons, Bool.and_eq_true, ← ih]
    cases p x <;> simp
theorem dropW_head {p : UInt8 → Bool} {l r : Str} {x : UInt8} (h : l.dropWhile p = x :: r) : p x = false := by
  induction l with
  | nil => cases h
  | cons y l ih =>
    rw [List.dropWhile_cons] at h
    split at h
    · exact ih h
    · rename_i hy
      cases h
      simpa using hy
theorem trimS_nil (l : Str) : ((Lib.trimS l cs10) == []) = l.all isD := by
  have h0 : Lib.trimS l cs10 = Lib.trimLeftS (Lib.trimRightS l cs10) cs10 := rfl
  rw [Bool.eq_iff_iff, beq_iff_eq, h0, trimL_eq, trimR_eq, dropW_nil, List.all_reverse]
  rw [← List.all_reverse (l := l), ← dropW_nil (l := l.reverse)]
  constructor
  · intro h
    cases hd : l.reverse.dropWhile isD with
    | nil => rfl
    | cons x r =>
      have := dropW_head hd
      rw [hd] at h
      simp [this] at h
  · intro h; rw [h]; rfl
theorem one_all (v : Value) (h : v.oneCell' = true) : ∀ u ∈ [v], u.oneCell' = true := fun u hu => by rw [List.mem_singleton.1 hu]; exact h
theorem wTrim (s : Str) (hs : s.length ≤ 9223372036854775807) : PCalls Tryz.prog 118 [dS s, dS cs10] (.d (dS (Lib.trimS s cs10))) :=
  PCalls.of_plain (us := [vS (Lib.trimS s cs10)]) (vs := [vS s, vS cs10]) rfl (one_all _ rfl) fun w => by
    have := Any.strings_Trim_laid Tryz.trim (by kernel_rfl) ⟨s.toArray⟩ ⟨cs10.toArray⟩ w (show s.toArray.size ≤ 9223372036854775807 by rw [List.size_toArray]; exact hs) (by decide) (ascii_of_all (by decide))
    exact this
theorem wTrimLeft0 (s : Str) : PCalls Tryz.prog 119 [dS s, dS [48]] (.d (dS (s.dropWhile (· == 48)))) :=
  PCalls.of_plain (us := [vS (s.dropWhile (· == 48))]) (vs := [vS s, vS [48]]) rfl (one_all _ rfl) fun w => by
    have := Any.strings_TrimLeft_laid Tryz.trimLeft (by kernel_rfl) ⟨s.toArray⟩ ⟨([48] : Str).toArray⟩ w (by decide) (ascii_of_all (by decide))
    have e : Lib.trimLeftS s [48] = s.dropWhile (· == 48) := by
      have hp : (fun b => ([48] : Str).contains b) = fun b => b == 48 := funext fun b => Bool.eq_iff_iff.2 (by simp)
      show s.dropWhile (fun b => ([48] : Str).contains b) = _
      rw [hp]
    have e2 : Lib.trimLeftS (ByteArray.mk s.toArray).data.toList (ByteArray.mk ([48] : Str).toArray).data.toList = s.dropWhile (· == 48) := e
    rw [e2] at this
    exact this

set_option maxRecDepth 20000 in
theorem wDigits (a : Str) (ha : a.length ≤ 9223372036854775807) : PCalls Tryz.prog 86 [dS a] (.tup [dS (dgs a).1, dB (dgs a).2]) := by
  have c1 := wCutMinus a
  have hb : (bod a).length ≤ 9223372036854775807 := by
    unfold bod
    split
    · rw [List.length_tail]; omega
    · exact ha
  have c2 := wTrim (bod a) hb
  have t1 := trimS_nil (bod a)
  obtain ⟨u, hu⟩ : ∃ u, u = Lib.trimS (bod a) cs10 := ⟨_, rfl⟩
  rw [← hu] at c2 t1
  have c3 := wTrimLeft0 (bod a)
  have hd : dgs a = if (bod a).all isD then ((bod a).dropWhile (· == 48), decide (a.head? = some 45) && !((bod a).dropWhile (· == 48)).isEmpty) else ([], false) := rfl
  obtain ⟨h, hh⟩ : ∃ h, h = decide (a.head? = some 45) := ⟨_, rfl⟩
  obtain ⟨b, hb2⟩ : ∃ b, b = bod a := ⟨_, rfl⟩
  obtain ⟨z, hz⟩ : ∃ z, z = (bod a).dropWhile (· == 48) := ⟨_, rfl⟩
  rw [← hz] at c3 hd
  rw [← hh] at c1 hd
  rw [← hb2] at c1 c2 c3 t1 hd
  refine pcalls_of_pw Tryz.func86 rfl Tryz.ntmps86 Tryz.results86 (by simp) fun B w0 => ?_
  cases ht : b.all isD with
  | false =>
    rw [ht] at t1
    rw [hd, ht]
    refine pw_seq (pw_region (yAd rfl (yAd rfl (yQ (pw_seq (pw_region (yMd rfl (yC (c1) rfl rfl (yMp rfl ?_))))))))); refine yX rfl rfl (yX rfl rfl (yAd rfl (yAd rfl (yQ (pw_seq (pw_seq (pw_region (yMd rfl (yC (c2) rfl rfl ?_))))))))); refine yBsn rfl rfl (yQ (q_then ?_))
    rw [t1]
    refine pw_ct rfl (pw_seq (pw_region (yAd rfl (yAd rfl (yQ (pw_ret (q_then_ret ?_)))))))
    exact q_ret _ (.tmp rfl (.tmp rfl .nil)) rfl
  | true =>
    rw [ht] at t1
    rw [hd, ht]
    refine pw_seq (pw_region (yAd rfl (yAd rfl (yQ (pw_seq (pw_region (yMd rfl (yC (c1) rfl rfl (yMp rfl ?_))))))))); refine yX rfl rfl (yX rfl rfl (yAd rfl (yAd rfl (yQ (pw_seq (pw_seq (pw_region (yMd rfl (yC (c2) rfl rfl ?_))))))))); refine yBsn rfl rfl (yQ (q_then ?_))
    rw [t1]
    cases h with
    | false =>
      refine pw_cf rfl (pw_skip (pw_seq (pw_region (yMd rfl (yC (c3) rfl rfl (yAd rfl (yQ (pw_seq (pw_region ?_))))))))); refine yMd rfl (yMd rfl (yMd rfl (yO rfl (yO rfl (yVd rfl rfl (yAd rfl (yAd rfl (yQ (pw_ret ?_)))))))))
      exact q_ret _ (.tmp rfl (.tmp rfl .nil)) rfl
    | true =>
      refine pw_cf rfl (pw_skip (pw_seq (pw_region (yMd rfl (yC (c3) rfl rfl (yAd rfl (yQ (pw_seq (pw_region ?_))))))))); refine yMd rfl (yMd rfl (yMd rfl (yMd rfl (yBsn rfl rfl (yPd rfl rfl (yAd rfl (yAd rfl (yQ (pw_ret ?_)))))))))
      exact q_ret _ (.tmp rfl (.tmp rfl .nil)) (by cases z <;> rfl)

theorem canon_len (a : Str) : (canon (val a)).length ≤ a.length := by
  rw [canon_val]
  have h1 : (dgs a).1.length ≤ (bod a).length := by
    unfold dgs
    split
    · exact (List.dropWhile_sublist _).length_le
    · exact Nat.zero_le _
  cases h : (dgs a).2 with
  | false =>
    have : (bod a).length ≤ a.length := by unfold bod; split <;> simp
    simpa using Nat.le_trans h1 this
  | true =>
    have h2 : a.head? = some 45 := by
      unfold dgs at h
      split at h
      · simp at h; exact h.1
      · cases h
    cases a with
    | nil => cases h2
    | cons x l =>
      simp [bod] at h1 h2
      subst h2
      simpa using h1

set_option maxRecDepth 20000 in
theorem wCanonical (a : Str) (ha : a.length ≤ 1000000000) : PCalls Tryz.prog 73 [dS a] (.d (dS (canon (val a)))) := by
  have c1 := wDigits a (by omega)
  have hc := canon_val a
  have hl := canon_len a
  obtain ⟨z, hz⟩ : ∃ z, z = canon (val a) := ⟨_, rfl⟩
  rw [← hz] at hc hl ⊢
  obtain ⟨⟨x, y⟩, hd⟩ : ∃ d, d = dgs a := ⟨_, rfl⟩
  rw [← hd] at c1 hc
  refine pcalls_of_pw Tryz.func73 rfl Tryz.ntmps73 Tryz.results73 (by simp) fun B w0 => ?_
  cases y with
  | false =>
    refine pw_seq (pw_region (yAd rfl (yQ (pw_seq (pw_region (yMd rfl (yC (c1) rfl rfl (yMp rfl (yX rfl rfl ?_))))))))); refine yX rfl rfl (yAd rfl (yAd rfl (yQ (pw_seq (pw_seq (pw_region (yMd rfl (yQ (pw_cf rfl ?_))))))))); refine pw_skip (pw_seq (pw_region (yMd rfl (yAd rfl (yQ (pw_ret ?_))))))
    exact q_ret _ (.tmp rfl .nil) (by rw [hc]; rfl)
  | true =>
    have hx : x.length + 1 ≤ 1000000000 := by rw [hc] at hl; simp at hl; omega
    refine pw_seq (pw_region (yAd rfl (yQ (pw_seq (pw_region (yMd rfl (yC (c1) rfl rfl (yMp rfl (yX rfl rfl ?_))))))))); refine yX rfl rfl (yAd rfl (yAd rfl (yQ (pw_seq (pw_seq (pw_region (yMd rfl (yQ (pw_ct rfl ?_))))))))); refine pw_region (yMd rfl (yBsa (l1 := [45]) (l2 := x) (by simp; omega) rfl rfl (yAd rfl (yQ (pw_seq (pw_region (yMd rfl (yAd rfl (yQ ?_))))))))); refine pw_ret ?_
    exact q_ret _ (.tmp rfl .nil) (by rw [hc]; rfl)

set_option maxRecDepth 20000 in
theorem wCheck (a : Str) (ha : a.length ≤ 1000000000) : PCalls Tryz.prog 179 [dS a] (.d (dI (if isC a then 0 else 1))) := by
  have c1 := wCanonical a ha
  have hi : isC a = (a == canon (val a)) := by
    unfold isC
    rw [Bool.eq_iff_iff, decide_eq_true_eq, beq_iff_eq]
    exact eq_comm
  obtain ⟨z, hz⟩ : ∃ z, z = canon (val a) := ⟨_, rfl⟩
  rw [← hz] at hi c1
  refine pcalls_of_pw Tryz.func179 rfl Tryz.ntmps179 Tryz.results179 (by simp) fun B w0 => ?_
  rw [hi]
  cases h : (a == z) with
  | true =>
    refine pw_seq (pw_region (yAd rfl (yQ (pw_seq (pw_seq (pw_region (yMd rfl (yMd rfl (yC (c1) rfl rfl ?_))))))))); refine yBsn rfl rfl (yQ (q_then ?_))
    rw [h]
    refine pw_cf rfl (pw_skip (pw_seq (pw_region (yAd rfl (yQ (pw_ret ?_))))))
    exact q_ret _ (.tmp rfl .nil) rfl
  | false =>
    refine pw_seq (pw_region (yAd rfl (yQ (pw_seq (pw_seq (pw_region (yMd rfl (yMd rfl (yC (c1) rfl rfl ?_))))))))); refine yBsn rfl rfl (yQ (q_then ?_))
    rw [h]
    refine pw_ct rfl (pw_seq (pw_region (yAd rfl (yQ (pw_ret (q_then_ret ?_))))))
    exact q_ret _ (.tmp rfl .nil) rfl
end Go.Proofs.YtdkpmnefoobipaaGreatDoor
namespace Go.Proofs.YtdkpmnefoobipaaGreatDoor
open Go.RowKit Px

theorem isD_iff (b : UInt8) : isD b = true ↔ 48 ≤ b.toNat ∧ b.toNat ≤ 57 := by simp [isD]
theorem all_take {p : UInt8 → Bool} {l : Str} {i : Nat} {x : UInt8} (hx : l[i]? = some x) (h : (l.take i).all p = true) (hp : p x = true) : (l.take (i + 1)).all p = true := by
  rw [List.take_add_one, hx, List.all_append, h]; simp [hp]
theorem all_not {p : UInt8 → Bool} {l : Str} {i : Nat} {x : UInt8} (hx : l[i]? = some x) (hp : p x = false) : l.all p = false := by
  rw [Bool.eq_false_iff]
  intro h
  rw [List.all_eq_true] at h
  have := h x (List.mem_of_getElem? hx)
  rw [hp] at this
  cases this

set_option maxRecDepth 20000 in
set_option maxHeartbeats 1000000 in
theorem wRDigits (a : Str) (ha : a.length ≤ 9223372036854775806) : PCalls Tryz.prog 128 [dS a] (.tup [dS (dgs a).1, dB (dgs a).2]) := by
  have hd : dgs a = if (bod a).all isD then ((bod a).dropWhile (· == 48), decide (a.head? = some 45) && !((bod a).dropWhile (· == 48)).isEmpty) else ([], false) := rfl
  have hb : (bod a).length ≤ 9223372036854775806 := by
    unfold bod
    split
    · rw [List.length_tail]; omega
    · exact ha
  obtain ⟨r, hr⟩ : ∃ r, r = dgs a := ⟨_, rfl⟩
  rw [← hr] at hd ⊢
  obtain ⟨n, hn⟩ : ∃ n, n = decide (a.head? = some 45) := ⟨_, rfl⟩
  rw [← hn] at hd
  refine pcalls_of_pw Tryz.func128 rfl Tryz.ntmps128 Tryz.results128 (by simp) fun B w0 => ?_
  cases a with
  | nil =>
    have e1 : n = false := hn
    have e2 : r = ([], false) := by rw [hd, e1]; rfl
    subst e1
    rw [e2]
    refine pw_seq (pw_region (yAd rfl (yAd rfl (yQ (pw_seq (pw_region (yMd rfl (yAd rfl (yQ ?_))))))))); refine pw_seq (pw_region (yMd rfl (yNs rfl (yB rfl rfl rfl rfl (yMd rfl (yO rfl (yO rfl (yO rfl (yVd rfl rfl ?_))))))))); refine yAd rfl (yQ (pw_seq (pw_seq (pw_region (yMd rfl (yQ (pw_cf rfl (pw_skip (pw_seq ?_))))))))); refine pw_seq (pw_region (yAd rfl (yQ (pw_block ?_)))); refine pw_loop (fun i : Nat => ⟨52, [(4, .d (dS [])), (5, .d (dB false)), (6, .d (dI i))], [], []⟩) (fun i => i = 0) (fun i => 0 - i) 0 rfl ⟨rfl, ⟨.refl _, .refl _, .refl _, trivial⟩, trivial, trivial, rfl⟩ ?_
    rintro i rfl
    refine pw_seq (pw_seq (pw_region (yMd rfl (yMd rfl (yNs rfl (yB rfl rfl rfl rfl (yQ (pw_cf rfl (pw_exit ?_))))))))); refine pw_seq (pw_block ?_); refine pw_loop (fun i : Nat => ⟨52, [(4, .d (dS [])), (5, .d (dB false))], [], []⟩) (fun i => i = 0) (fun i => 0 - i) 0 rfl ⟨rfl, ⟨.refl _, .refl _, trivial⟩, trivial, trivial, rfl⟩ ?_
    rintro i rfl
    refine pw_seq (pw_seq (pw_region (yMd rfl (yNs rfl (yB rfl rfl rfl rfl (yMd rfl (yO rfl (yO rfl (yO rfl ?_))))))))); refine yVd rfl rfl (yQ (pw_cf rfl (pw_exit (pw_seq (pw_region (yMd rfl (yMd rfl (yMd rfl (yO rfl ?_))))))))); refine yO rfl (yO rfl (yVd rfl rfl (yAd rfl (yAd rfl (yQ (pw_ret ?_))))))
    exact q_ret _ (.tmp rfl (.tmp rfl .nil)) rfl
  | cons x l =>
    have hpos : decide (((x :: l : Str).length : Int) > 0) = true := by simp
    have hx0 : (x :: l : Str)[(0 : Int).toNat]? = some x := rfl
    have hsg : ((x.toNat : Int) == 45) = n := by
      rw [hn, Bool.eq_iff_iff]
      simp only [beq_iff_eq, List.head?_cons, Option.some.injEq, decide_eq_true_eq]
      constructor
      · intro h; apply UInt8.toNat_inj.1; simp; omega
      · rintro rfl; rfl
    obtain ⟨b, hbb⟩ : ∃ b, b = bod (x :: l) := ⟨_, rfl⟩
    rw [← hbb] at hd hb
    have hbn : b = if n then l else x :: l := by
      rw [hbb, hn]
      simp [bod]
    refine pw_seq (pw_region (yAd rfl (yAd rfl (yQ (pw_seq (pw_region (yMd rfl (yAd rfl (yQ ?_))))))))); refine pw_seq (pw_region (yMd rfl (yNs rfl (yB rfl rfl rfl rfl (yMd rfl ?_)))))
    rw [hpos]
    refine yMd rfl (yIs hx0 (by omega) rfl rfl (yB rfl rfl rfl rfl (yPd rfl rfl (yAd rfl (yQ (pw_seq (pw_seq (pw_region (yMd rfl ?_))))))))); refine yQ (q_then ?_)
    rw [hsg]
    cases n with
    | true =>
      have hl1 : b = l := by simpa using hbn
      refine pw_ct rfl (pw_region (yMd rfl (ySl0 (l' := b) (by omega) (by simp; omega) (by rw [hl1]; rfl) rfl rfl (yAd rfl (yQ (pw_seq (pw_seq (pw_region (yAd rfl ?_))))))))); refine yQ (pw_block ?_); refine pw_loop (fun i : Nat => ⟨52, [(4, .d (dS b)), (5, .d (dB true)), (6, .d (dI i))], [], []⟩) (fun i => i ≤ b.length ∧ (b.take i).all isD = true) (fun i => b.length - i) 0 ⟨Nat.zero_le _, rfl⟩ ⟨rfl, ⟨.refl _, .refl _, .refl _, trivial⟩, trivial, trivial, rfl⟩ ?_
      rintro i ⟨hi, hal⟩
      refine pw_seq (pw_seq (pw_region (yMd rfl (yMd rfl (yNs rfl (yB rfl rfl rfl rfl (yQ (q_then ?_)))))))); refine pw_cond rfl (fun h => ?_) (fun h => ?_)
      · simp at h
        obtain ⟨y, hy⟩ : ∃ y, b[i]? = some y := ⟨_, List.getElem?_eq_getElem h⟩
        have hy' : b[(i : Int).toNat]? = some y := hy
        have hw := wrapI ((i : Int) + 1) (by omega)
        by_cases h1 : y.toNat < 48
        · have t1 : decide ((y.toNat : Int) < 48) = true := by simpa using by omega
          have hf := all_not hy (p := isD) (by rw [Bool.eq_false_iff, ne_eq, isD_iff]; omega)
          rw [hf] at hd
          rw [hd]
          refine pw_skip (pw_seq (pw_block (pw_seq (pw_region (yMd rfl (yMd rfl (yIs hy' (by omega) rfl rfl (yB rfl rfl rfl rfl (yMd rfl ?_)))))))))
          rw [t1]
          refine yO rfl (yO rfl (yO rfl (yO rfl (yPd rfl rfl (yQ (pw_ct rfl (pw_seq (pw_region (yAd rfl ?_))))))))); refine yAd rfl (yQ (pw_ret (q_blk_ret (q_then_ret (q_then_ret (q_blk_ret (q_then_ret ?_)))))))
          exact q_ret _ (.tmp rfl (.tmp rfl .nil)) rfl
        · have t1 : decide ((y.toNat : Int) < 48) = false := by simpa using by omega
          by_cases h2 : y.toNat > 57
          · have t2 : decide ((y.toNat : Int) > 57) = true := by simpa using by omega
            have hf := all_not hy (p := isD) (by rw [Bool.eq_false_iff, ne_eq, isD_iff]; omega)
            rw [hf] at hd
            rw [hd]
            refine pw_skip (pw_seq (pw_block (pw_seq (pw_region (yMd rfl (yMd rfl (yIs hy' (by omega) rfl rfl (yB rfl rfl rfl rfl (yMd rfl ?_)))))))))
            rw [t1]
            refine yMd rfl (yMd rfl (yIs hy' (by omega) rfl rfl (yB rfl rfl rfl rfl (yVd rfl rfl (yQ (q_then ?_))))))
            rw [t2]
            refine pw_ct rfl (pw_seq (pw_region (yAd rfl (yAd rfl (yQ (pw_ret (q_blk_ret (q_then_ret (q_then_ret ?_))))))))); refine q_blk_ret (q_then_ret ?_)
            exact q_ret _ (.tmp rfl (.tmp rfl .nil)) rfl
          · have t2 : decide ((y.toNat : Int) > 57) = false := by simpa using by omega
            refine pw_skip (pw_seq (pw_block (pw_seq (pw_region (yMd rfl (yMd rfl (yIs hy' (by omega) rfl rfl (yB rfl rfl rfl rfl (yMd rfl ?_)))))))))
            rw [t1]
            refine yMd rfl (yMd rfl (yIs hy' (by omega) rfl rfl (yB rfl rfl rfl rfl (yVd rfl rfl (yQ (q_then ?_))))))
            rw [t2]
            refine pw_cf rfl (pw_skip (pw_region (yMd rfl (yB rfl rfl rfl rfl (yAd rfl (yQ (q_then ?_)))))))
            refine ⟨i + 1, ⟨by omega, all_take hy hal ((isD_iff y).2 (by omega))⟩, by omega, rfl, ⟨.refl _, .refl _, .of_eq (congrArg (fun n => SV.d (dI n)) hw), trivial⟩, trivial, trivial, rfl⟩
      · simp at h
        have hall : b.all isD = true := by rw [List.take_of_length_le (by omega)] at hal; exact hal
        rw [hall] at hd
        have hd2 : r = (b.dropWhile (· == 48), !(b.dropWhile (· == 48)).isEmpty) := by rw [hd]; simp
        refine pw_exit (pw_seq (pw_block ?_)); refine pw_loop (fun z : Str => ⟨52, [(4, .d (dS z)), (5, .d (dB true))], [], []⟩) (fun z => z.dropWhile (· == 48) = b.dropWhile (· == 48) ∧ z.length ≤ b.length) (fun z => z.length) b ⟨rfl, Nat.le_refl _⟩ ⟨rfl, ⟨.refl _, .refl _, trivial⟩, trivial, trivial, rfl⟩ ?_
        rintro z ⟨hz, hzl⟩
        cases z with
        | nil =>
          rw [← hz] at hd2
          rw [hd2]
          refine pw_seq (pw_seq (pw_region (yMd rfl (yNs rfl (yB rfl rfl rfl rfl (yMd rfl (yO rfl (yO rfl (yO rfl ?_))))))))); refine yVd rfl rfl (yQ (pw_cf rfl (pw_exit (pw_seq (pw_region (yMd rfl (yMd rfl (yMd rfl (yMd rfl ?_))))))))); refine yNs rfl (yB rfl rfl rfl rfl (yPd rfl rfl (yAd rfl (yAd rfl (yQ (pw_ret ?_))))))
          exact q_ret _ (.tmp rfl (.tmp rfl .nil)) rfl
        | cons y z =>
          have hp2 : decide (((y :: z : Str).length : Int) > 0) = true := by simp
          have hy0 : (y :: z : Str)[(0 : Int).toNat]? = some y := rfl
          by_cases h0 : y = 48
          · subst h0
            refine pw_seq (pw_seq (pw_region (yMd rfl (yNs rfl (yB rfl rfl rfl rfl (yMd rfl ?_))))))
            rw [hp2]
            refine yMd rfl (yIs hy0 (by omega) rfl rfl (yB rfl rfl rfl rfl (yPd rfl rfl (yQ (pw_ct rfl (pw_skip (pw_block (pw_region (yMd rfl ?_))))))))); refine ySl0 (l' := z) (by omega) (by simp; omega) rfl rfl rfl (yAd rfl (yQ (q_blk (q_then ?_))))
            refine ⟨z, ⟨by rw [← hz]; rfl, by simp at hzl; omega⟩, by simp, rfl, ⟨.refl _, .refl _, trivial⟩, trivial, trivial, rfl⟩
          · have t0 : ((y.toNat : Int) == 48) = false := by
              rw [Bool.eq_false_iff]
              intro e
              apply h0
              apply UInt8.toNat_inj.1
              simp at e ⊢
              omega
            have hz2 : (y :: z : Str).dropWhile (· == 48) = y :: z := by rw [List.dropWhile_cons, if_neg (by simpa using h0)]
            rw [← hz, hz2] at hd2
            rw [hd2]
            refine pw_seq (pw_seq (pw_region (yMd rfl (yNs rfl (yB rfl rfl rfl rfl (yMd rfl ?_))))))
            rw [hp2]
            refine yMd rfl (yIs hy0 (by omega) rfl rfl (yB rfl rfl rfl rfl (yPd rfl rfl (yQ (q_then ?_)))))
            rw [t0]
            refine pw_cf rfl (pw_exit (pw_seq (pw_region (yMd rfl (yMd rfl (yMd rfl (yMd rfl (yNs rfl (yB rfl rfl rfl rfl ?_))))))))); refine yPd rfl rfl (yAd rfl (yAd rfl (yQ (pw_ret ?_))))
            rw [hp2]
            skip
            exact q_ret _ (.tmp rfl (.tmp rfl .nil)) rfl
    | false =>
      have hl1 : b = x :: l := by simpa using hbn
      rw [← hl1]
      refine pw_cf rfl (pw_skip (pw_seq (pw_seq (pw_region (yAd rfl (yQ (pw_block ?_))))))); refine pw_loop (fun i : Nat => ⟨52, [(4, .d (dS b)), (5, .d (dB false)), (6, .d (dI i))], [], []⟩) (fun i => i ≤ b.length ∧ (b.take i).all isD = true) (fun i => b.length - i) 0 ⟨Nat.zero_le _, rfl⟩ ⟨rfl, ⟨.refl _, .refl _, .refl _, trivial⟩, trivial, trivial, rfl⟩ ?_
      rintro i ⟨hi, hal⟩
      refine pw_seq (pw_seq (pw_region (yMd rfl (yMd rfl (yNs rfl (yB rfl rfl rfl rfl (yQ (q_then ?_)))))))); refine pw_cond rfl (fun h => ?_) (fun h => ?_)
      · simp at h
        obtain ⟨y, hy⟩ : ∃ y, b[i]? = some y := ⟨_, List.getElem?_eq_getElem h⟩
        have hy' : b[(i : Int).toNat]? = some y := hy
        have hw := wrapI ((i : Int) + 1) (by omega)
        by_cases h1 : y.toNat < 48
        · have t1 : decide ((y.toNat : Int) < 48) = true := by simpa using by omega
          have hf := all_not hy (p := isD) (by rw [Bool.eq_false_iff, ne_eq, isD_iff]; omega)
          rw [hf] at hd
          rw [hd]
          refine pw_skip (pw_seq (pw_block (pw_seq (pw_region (yMd rfl (yMd rfl (yIs hy' (by omega) rfl rfl (yB rfl rfl rfl rfl (yMd rfl ?_)))))))))
          rw [t1]
          refine yO rfl (yO rfl (yO rfl (yO rfl (yPd rfl rfl (yQ (pw_ct rfl (pw_seq (pw_region (yAd rfl ?_))))))))); refine yAd rfl (yQ (pw_ret (q_blk_ret (q_then_ret (q_then_ret (q_blk_ret (q_then_ret ?_)))))))
          exact q_ret _ (.tmp rfl (.tmp rfl .nil)) rfl
        · have t1 : decide ((y.toNat : Int) < 48) = false := by simpa using by omega
          by_cases h2 : y.toNat > 57
          · have t2 : decide ((y.toNat : Int) > 57) = true := by simpa using by omega
            have hf := all_not hy (p := isD) (by rw [Bool.eq_false_iff, ne_eq, isD_iff]; omega)
            rw [hf] at hd
            rw [hd]
            refine pw_skip (pw_seq (pw_block (pw_seq (pw_region (yMd rfl (yMd rfl (yIs hy' (by omega) rfl rfl (yB rfl rfl rfl rfl (yMd rfl ?_)))))))))
            rw [t1]
            refine yMd rfl (yMd rfl (yIs hy' (by omega) rfl rfl (yB rfl rfl rfl rfl (yVd rfl rfl (yQ (q_then ?_))))))
            rw [t2]
            refine pw_ct rfl (pw_seq (pw_region (yAd rfl (yAd rfl (yQ (pw_ret (q_blk_ret (q_then_ret (q_then_ret ?_))))))))); refine q_blk_ret (q_then_ret ?_)
            exact q_ret _ (.tmp rfl (.tmp rfl .nil)) rfl
          · have t2 : decide ((y.toNat : Int) > 57) = false := by simpa using by omega
            refine pw_skip (pw_seq (pw_block (pw_seq (pw_region (yMd rfl (yMd rfl (yIs hy' (by omega) rfl rfl (yB rfl rfl rfl rfl (yMd rfl ?_)))))))))
            rw [t1]
            refine yMd rfl (yMd rfl (yIs hy' (by omega) rfl rfl (yB rfl rfl rfl rfl (yVd rfl rfl (yQ (q_then ?_))))))
            rw [t2]
            refine pw_cf rfl (pw_skip (pw_region (yMd rfl (yB rfl rfl rfl rfl (yAd rfl (yQ (q_then ?_)))))))
            refine ⟨i + 1, ⟨by omega, all_take hy hal ((isD_iff y).2 (by omega))⟩, by omega, rfl, ⟨.refl _, .refl _, .of_eq (congrArg (fun n => SV.d (dI n)) hw), trivial⟩, trivial, trivial, rfl⟩
      · simp at h
        have hall : b.all isD = true := by rw [List.take_of_length_le (by omega)] at hal; exact hal
        rw [hall] at hd
        have hd2 : r = (b.dropWhile (· == 48), false) := by rw [hd]; simp
        refine pw_exit (pw_seq (pw_block ?_)); refine pw_loop (fun z : Str => ⟨52, [(4, .d (dS z)), (5, .d (dB false))], [], []⟩) (fun z => z.dropWhile (· == 48) = b.dropWhile (· == 48) ∧ z.length ≤ b.length) (fun z => z.length) b ⟨rfl, Nat.le_refl _⟩ ⟨rfl, ⟨.refl _, .refl _, trivial⟩, trivial, trivial, rfl⟩ ?_
        rintro z ⟨hz, hzl⟩
        cases z with
        | nil =>
          rw [← hz] at hd2
          rw [hd2]
          refine pw_seq (pw_seq (pw_region (yMd rfl (yNs rfl (yB rfl rfl rfl rfl (yMd rfl (yO rfl (yO rfl (yO rfl ?_))))))))); refine yVd rfl rfl (yQ (pw_cf rfl (pw_exit (pw_seq (pw_region (yMd rfl (yMd rfl (yMd rfl (yO rfl ?_))))))))); refine yO rfl (yO rfl (yVd rfl rfl (yAd rfl (yAd rfl (yQ (pw_ret ?_))))))
          exact q_ret _ (.tmp rfl (.tmp rfl .nil)) rfl
        | cons y z =>
          have hp2 : decide (((y :: z : Str).length : Int) > 0) = true := by simp
          have hy0 : (y :: z : Str)[(0 : Int).toNat]? = some y := rfl
          by_cases h0 : y = 48
          · subst h0
            refine pw_seq (pw_seq (pw_region (yMd rfl (yNs rfl (yB rfl rfl rfl rfl (yMd rfl ?_))))))
            rw [hp2]
            refine yMd rfl (yIs hy0 (by omega) rfl rfl (yB rfl rfl rfl rfl (yPd rfl rfl (yQ (pw_ct rfl (pw_skip (pw_block (pw_region (yMd rfl ?_))))))))); refine ySl0 (l' := z) (by omega) (by simp; omega) rfl rfl rfl (yAd rfl (yQ (q_blk (q_then ?_))))
            refine ⟨z, ⟨by rw [← hz]; rfl, by simp at hzl; omega⟩, by simp, rfl, ⟨.refl _, .refl _, trivial⟩, trivial, trivial, rfl⟩
          · have t0 : ((y.toNat : Int) == 48) = false := by
              rw [Bool.eq_false_iff]
              intro e
              apply h0
              apply UInt8.toNat_inj.1
              simp at e ⊢
              omega
            have hz2 : (y :: z : Str).dropWhile (· == 48) = y :: z := by rw [List.dropWhile_cons, if_neg (by simpa using h0)]
            rw [← hz, hz2] at hd2
            rw [hd2]
            refine pw_seq (pw_seq (pw_region (yMd rfl (yNs rfl (yB rfl rfl rfl rfl (yMd rfl ?_))))))
            rw [hp2]
            refine yMd rfl (yIs hy0 (by omega) rfl rfl (yB rfl rfl rfl rfl (yPd rfl rfl (yQ (q_then ?_)))))
            rw [t0]
            refine pw_cf rfl (pw_exit (pw_seq (pw_region (yMd rfl (yMd rfl (yMd rfl (yO rfl (yO rfl (yO rfl ?_))))))))); refine yVd rfl rfl (yAd rfl (yAd rfl (yQ (pw_ret ?_))))
            exact q_ret _ (.tmp rfl (.tmp rfl .nil)) rfl
end Go.Proofs.YtdkpmnefoobipaaGreatDoor
namespace Go.Proofs.YtdkpmnefoobipaaGreatDoor
open Go.RowKit Px

set_option maxRecDepth 20000 in
theorem wRCanonical (a : Str) (ha : a.length ≤ 1000000000) : PCalls Tryz.prog 94 [dS a] (.d (dS (canon (val a)))) := by
  have c1 := wRDigits a (by omega)
  have hc := canon_val a
  have hl := canon_len a
  obtain ⟨z, hz⟩ : ∃ z, z = canon (val a) := ⟨_, rfl⟩
  rw [← hz] at hc hl ⊢
  obtain ⟨⟨x, y⟩, hd⟩ : ∃ d, d = dgs a := ⟨_, rfl⟩
  rw [← hd] at c1 hc
  refine pcalls_of_pw Tryz.func94 rfl Tryz.ntmps94 Tryz.results94 (by simp) fun B w0 => ?_
  cases y with
  | false =>
    refine pw_seq (pw_region (yAd rfl (yQ (pw_seq (pw_region (yMd rfl (yC (c1) rfl rfl (yMp rfl (yX rfl rfl ?_))))))))); refine yX rfl rfl (yAd rfl (yAd rfl (yQ (pw_seq (pw_seq (pw_region (yMd rfl (yQ (pw_cf rfl ?_))))))))); refine pw_skip (pw_seq (pw_region (yMd rfl (yAd rfl (yQ (pw_ret ?_))))))
    exact q_ret _ (.tmp rfl .nil) (by rw [hc]; rfl)
  | true =>
    have hx : x.length + 1 ≤ 1000000000 := by rw [hc] at hl; simp at hl; omega
    refine pw_seq (pw_region (yAd rfl (yQ (pw_seq (pw_region (yMd rfl (yC (c1) rfl rfl (yMp rfl (yX rfl rfl ?_))))))))); refine yX rfl rfl (yAd rfl (yAd rfl (yQ (pw_seq (pw_seq (pw_region (yMd rfl (yQ (pw_ct rfl ?_))))))))); refine pw_seq (pw_region (yMd rfl (yBsa (l1 := [45]) (l2 := x) (by simp; omega) rfl rfl (yAd rfl (yQ (pw_ret (q_then_ret ?_)))))))
    exact q_ret _ (.tmp rfl .nil) (by rw [hc]; rfl)

theorem isC_beq (a : Str) : isC a = (canon (val a) == a) := by
  unfold isC
  rw [Bool.eq_iff_iff, decide_eq_true_eq, beq_iff_eq]
set_option maxRecDepth 20000 in
theorem wRCheck (a : Str) (ha : a.length ≤ 1000000000) : PCalls Tryz.prog 58 [dS a] (.d (dI (if isC a then 0 else 1))) := by
  have c1 := wRCanonical a ha
  have hi := isC_beq a
  obtain ⟨z, hz⟩ : ∃ z, z = canon (val a) := ⟨_, rfl⟩
  rw [← hz] at hi c1
  refine pcalls_of_pw Tryz.func58 rfl Tryz.ntmps58 Tryz.results58 (by simp) fun B w0 => ?_
  rw [hi]
  cases h : (z == a) with
  | true =>
    refine pw_seq (pw_region (yAd rfl (yQ (pw_seq (pw_seq (pw_region (yMd rfl (yC (c1) rfl rfl (yMd rfl ?_))))))))); refine yBsn rfl rfl ?_; rw [h]
    refine yQ (pw_cf rfl (pw_skip (pw_seq (pw_region (yAd rfl (yQ (pw_ret ?_)))))))
    exact q_ret _ (.tmp rfl .nil) rfl
  | false =>
    refine pw_seq (pw_region (yAd rfl (yQ (pw_seq (pw_seq (pw_region (yMd rfl (yC (c1) rfl rfl (yMd rfl ?_))))))))); refine yBsn rfl rfl ?_; rw [h]
    refine yQ (pw_ct rfl (pw_seq (pw_region (yAd rfl (yQ (pw_ret (q_then_ret ?_)))))))
    exact q_ret _ (.tmp rfl .nil) rfl

def ndig (a : Str) : Nat := if a.head? = some 45 then a.length - 1 else a.length
set_option maxRecDepth 20000 in
theorem wNdig (a : Str) (ha : a.length ≤ 1000000000) : PCalls Tryz.prog 59 [dS a] (.d (dI (ndig a))) := by
  refine pcalls_of_pw Tryz.func59 rfl Tryz.ntmps59 Tryz.results59 (by simp) fun B w0 => ?_
  cases a with
  | nil =>
    refine pw_seq (pw_region (yAd rfl (yQ (pw_seq (pw_seq (pw_region (yMd rfl (yNs rfl (yB rfl rfl rfl rfl ?_))))))))); refine yMd rfl (yO rfl (yO rfl (yO rfl (yVd rfl rfl (yQ (pw_cf rfl (pw_skip (pw_seq (pw_region ?_))))))))); refine yMd rfl (yNs rfl (yAd rfl (yQ (pw_ret ?_))))
    exact q_ret _ (.tmp rfl .nil) rfl
  | cons x l =>
    have hpos : decide (((x :: l : Str).length : Int) > 0) = true := by simp
    have hx0 : (x :: l : Str)[(0 : Int).toNat]? = some x := rfl
    have hw : IntKind.i64.wrap (((x :: l : Str).length : Int) - 1) = ((l.length : Nat) : Int) := by rw [wrapI _ (by simp at ha ⊢; omega)]; simp
    by_cases h : x = 45
    · subst h
      refine pw_seq (pw_region (yAd rfl (yQ (pw_seq (pw_seq (pw_region (yMd rfl (yNs rfl (yB rfl rfl rfl rfl ?_))))))))); rw [hpos]; refine yMd rfl (yMd rfl (yIs hx0 (by omega) rfl rfl (yB rfl rfl rfl rfl (yPd rfl rfl (yQ (pw_ct rfl (pw_seq (pw_region (yMd rfl ?_))))))))); refine yNs rfl (yB rfl rfl rfl rfl (yAd rfl (yQ (pw_ret (q_then_ret ?_)))))
      exact q_ret _ (.tmp rfl .nil) (congrArg (fun n => SV.d (dI n)) (by rw [hw]; rfl))
    · have t1 : ((x.toNat : Int) == 45) = false := by
        rw [Bool.eq_false_iff]
        intro e
        apply h
        apply UInt8.toNat_inj.1
        simp at e ⊢
        omega
      have e : ndig (x :: l) = (x :: l).length := by unfold ndig; rw [if_neg (by simpa using h)]
      rw [e]
      refine pw_seq (pw_region (yAd rfl (yQ (pw_seq (pw_seq (pw_region (yMd rfl (yNs rfl (yB rfl rfl rfl rfl ?_))))))))); rw [hpos]; refine yMd rfl (yMd rfl (yIs hx0 (by omega) rfl rfl (yB rfl rfl rfl rfl ?_))); rw [t1]; refine yPd rfl rfl (yQ (pw_cf rfl (pw_skip (pw_seq (pw_region (yMd rfl (yNs rfl (yAd rfl (yQ ?_))))))))); refine pw_ret ?_
      exact q_ret _ (.tmp rfl .nil) rfl

def vD (d : Int) : Bool := decide (-25567 ≤ d) && decide (d ≤ 84005)
set_option maxRecDepth 20000 in
theorem wValid (d : Int) : PCalls Tryz.prog 98 [dI d] (.d (dB (vD d))) := by
  refine pcalls_of_pw Tryz.func98 rfl Tryz.ntmps98 Tryz.results98 (by simp) fun B w0 => ?_
  by_cases h : -25567 ≤ d
  · have t1 : decide (d ≥ -25567) = true := by simpa using h
    refine pw_seq (pw_region (yAd rfl (yQ (pw_seq (pw_region (yMd rfl (yB rfl rfl rfl rfl ?_))))))); rw [t1]; refine yMd rfl (yMd rfl (yB rfl rfl rfl rfl (yPd rfl rfl (yAd rfl (yQ (pw_ret ?_))))))
    exact q_ret _ (.tmp rfl .nil) (by simp [vD, h, resSV])
  · have t1 : decide (d ≥ -25567) = false := by simpa using h
    refine pw_seq (pw_region (yAd rfl (yQ (pw_seq (pw_region (yMd rfl (yB rfl rfl rfl rfl ?_))))))); rw [t1]; refine yMd rfl (yO rfl (yO rfl (yVd rfl rfl (yAd rfl (yQ (pw_ret ?_))))))
    exact q_ret _ (.tmp rfl .nil) (by simp [vD, h, resSV])
set_option maxRecDepth 20000 in
theorem wRDay (d : Int) : PCalls Tryz.prog 56 [dI d] (.d (dI (if vD d then 0 else 13))) := by
  refine pcalls_of_pw Tryz.func56 rfl Tryz.ntmps56 Tryz.results56 (by simp) fun B w0 => ?_
  by_cases h : d < -25567
  · have t1 : decide (d < -25567) = true := by simpa using h
    have e : vD d = false := by simp [vD]; omega
    rw [e]
    refine pw_seq (pw_region (yAd rfl (yQ (pw_seq (pw_seq (pw_region (yMd rfl (yB rfl rfl rfl rfl ?_)))))))); rw [t1]; refine yMd rfl (yO rfl (yO rfl (yPd rfl rfl (yQ (pw_ct rfl (pw_seq (pw_region (yAd rfl (yQ ?_))))))))); refine pw_ret (q_then_ret ?_)
    exact q_ret _ (.tmp rfl .nil) rfl
  · have t1 : decide (d < -25567) = false := by simpa using h
    by_cases h2 : d > 84005
    · have t2 : decide (d > 84005) = true := by simpa using h2
      have e : vD d = false := by simp [vD]; omega
      rw [e]
      refine pw_seq (pw_region (yAd rfl (yQ (pw_seq (pw_seq (pw_region (yMd rfl (yB rfl rfl rfl rfl ?_)))))))); rw [t1]; refine yMd rfl (yMd rfl (yB rfl rfl rfl rfl ?_)); rw [t2]; refine yVd rfl rfl (yQ (pw_ct rfl (pw_seq (pw_region (yAd rfl (yQ (pw_ret (q_then_ret ?_))))))))
      exact q_ret _ (.tmp rfl .nil) rfl
    · have t2 : decide (d > 84005) = false := by simpa using h2
      have e : vD d = true := by simp [vD]; omega
      rw [e]
      refine pw_seq (pw_region (yAd rfl (yQ (pw_seq (pw_seq (pw_region (yMd rfl (yB rfl rfl rfl rfl ?_)))))))); rw [t1]; refine yMd rfl (yMd rfl (yB rfl rfl rfl rfl ?_)); rw [t2]; refine yVd rfl rfl (yQ (pw_cf rfl (pw_skip (pw_seq (pw_region (yAd rfl (yQ (pw_ret ?_))))))))
      exact q_ret _ (.tmp rfl .nil) rfl

def isN (b : UInt8) : Bool := (decide (97 ≤ b.toNat) && decide (b.toNat ≤ 122)) || isD b || b == 95
def nameB (s : Str) : Bool := decide (1 ≤ s.length) && decide (s.length ≤ 16) && s.all isN
theorem isN_yes {b : UInt8} (h : isN b = true) : (decide ((b.toNat : Int) < 97) = false ∧ decide ((b.toNat : Int) > 122) = false) ∨ (decide ((b.toNat : Int) < 97) = true ∧ decide ((b.toNat : Int) < 48) = false ∧ decide ((b.toNat : Int) > 57) = false) ∨
    (decide ((b.toNat : Int) < 97) = true ∧ decide ((b.toNat : Int) < 48) = false ∧ decide ((b.toNat : Int) > 57) = true ∧ ((b.toNat : Int) != 95) = false) := by
  simp only [isN, isD, Bool.or_eq_true, Bool.and_eq_true, decide_eq_true_eq, beq_iff_eq] at h
  rcases h with (h | h) | h
  · left; constructor <;> simp <;> omega
  · right; left; refine ⟨?_, ?_, ?_⟩ <;> simp <;> omega
  · subst h; right; right; decide
theorem isN_no {b : UInt8} (h : isN b = false) : (decide ((b.toNat : Int) < 97) = false ∧ decide ((b.toNat : Int) > 122) = true ∧ decide ((b.toNat : Int) < 48) = false ∧ decide ((b.toNat : Int) > 57) = true ∧ ((b.toNat : Int) != 95) = true) ∨
    (decide ((b.toNat : Int) < 97) = true ∧ decide ((b.toNat : Int) < 48) = true ∧ ((b.toNat : Int) != 95) = true) ∨ (decide ((b.toNat : Int) < 97) = true ∧ decide ((b.toNat : Int) < 48) = false ∧ decide ((b.toNat : Int) > 57) = true ∧ ((b.toNat : Int) != 95) = true) := by
  rw [Bool.eq_false_iff] at h
  simp only [isN, isD, Bool.or_eq_true, Bool.and_eq_true, decide_eq_true_eq, beq_iff_eq, ne_eq, not_or, not_and] at h
  obtain ⟨⟨h1, h2⟩, h3⟩ := h
  have h4 : b.toNat ≠ 95 := fun e => h3 (UInt8.toNat_inj.1 e)
  have h5 : ((b.toNat : Int) != 95) = true := by simp; omega
  by_cases k1 : b.toNat < 97
  · by_cases k2 : b.toNat < 48
    · right; left; refine ⟨?_, ?_, h5⟩ <;> simp <;> omega
    · right; right; refine ⟨?_, ?_, ?_, h5⟩ <;> simp <;> omega
  · left; refine ⟨?_, ?_, ?_, ?_, h5⟩ <;> simp <;> omega

set_option maxRecDepth 20000 in
set_option maxHeartbeats 1000000 in
theorem wRName (s : Str) (hs : s.length ≤ 9223372036854775806) : PCalls Tryz.prog 57 [dS s] (.d (dB (nameB s))) := by
  obtain ⟨r, hr⟩ : ∃ r, r = nameB s := ⟨_, rfl⟩
  rw [← hr]
  refine pcalls_of_pw Tryz.func57 rfl Tryz.ntmps57 Tryz.results57 (by simp) fun B w0 => ?_
  refine pw_seq (pw_region (yAd rfl (yQ (pw_seq (pw_seq (pw_region (yAd rfl (yQ (pw_block ?_))))))))); refine pw_loop (fun i : Nat => ⟨40, [(0, .d (dS s)), (3, .d (dI i))], [], []⟩) (fun i => i ≤ s.length ∧ (s.take i).all isN = true) (fun i => s.length - i) 0 ⟨Nat.zero_le _, rfl⟩ ⟨rfl, ⟨.refl _, .refl _, trivial⟩, trivial, trivial, rfl⟩ ?_
  rintro i ⟨hi, hal⟩
  refine pw_seq (pw_seq (pw_region (yMd rfl (yMd rfl (yNs rfl (yB rfl rfl rfl rfl (yQ (q_then ?_)))))))); refine pw_cond rfl (fun h => ?_) (fun h => ?_)
  · simp at h
    obtain ⟨y, hy⟩ : ∃ y, s[i]? = some y := ⟨_, List.getElem?_eq_getElem h⟩
    have hy' : s[(i : Int).toNat]? = some y := hy
    have hw := wrapI ((i : Int) + 1) (by omega)
    cases hN : isN y with
    | true =>
      rcases isN_yes hN with ⟨t1, t2⟩ | ⟨t1, t2, t3⟩ | ⟨t1, t2, t3, t4⟩
      · refine pw_skip (pw_seq (pw_block (pw_seq (pw_region (yMd rfl (yMd rfl (yIs hy' (by omega) rfl rfl (yAd rfl (yQ ?_))))))))); refine pw_seq ?_
        refine pw_region (yMd rfl (yB rfl rfl rfl rfl ?_)); rw [t1]; refine yMd rfl (yMd rfl (yB rfl rfl rfl rfl ?_)); rw [t2]; refine yVd rfl rfl (yMd rfl (yO rfl (yO rfl (yO rfl (yO rfl (yO rfl (yO rfl (yVd rfl rfl (yMd rfl ?_))))))))); refine yO rfl (yO rfl (yVd rfl rfl (yQ (pw_cf rfl (pw_skip (pw_region (yMd rfl (yB rfl rfl rfl rfl (yAd rfl ?_))))))))); refine yQ (q_then ?_)
        refine ⟨i + 1, ⟨by omega, all_take hy hal hN⟩, by omega, rfl, ⟨.refl _, .of_eq (congrArg (fun n => SV.d (dI n)) hw), trivial⟩, trivial, trivial, rfl⟩
      · refine pw_skip (pw_seq (pw_block (pw_seq (pw_region (yMd rfl (yMd rfl (yIs hy' (by omega) rfl rfl (yAd rfl (yQ ?_))))))))); refine pw_seq ?_
        refine pw_region (yMd rfl (yB rfl rfl rfl rfl ?_)); rw [t1]; refine yMd rfl (yO rfl (yO rfl (yPd rfl rfl (yMd rfl (yMd rfl (yB rfl rfl rfl rfl ?_)))))); rw [t2]
        refine yMd rfl (yMd rfl (yB rfl rfl rfl rfl ?_)); rw [t3]; refine yVd rfl rfl (yPd rfl rfl (yMd rfl (yO rfl (yO rfl (yVd rfl rfl (yQ (pw_cf rfl (pw_skip (pw_region ?_))))))))); refine yMd rfl (yB rfl rfl rfl rfl (yAd rfl (yQ (q_then ?_))))
        refine ⟨i + 1, ⟨by omega, all_take hy hal hN⟩, by omega, rfl, ⟨.refl _, .of_eq (congrArg (fun n => SV.d (dI n)) hw), trivial⟩, trivial, trivial, rfl⟩
      · refine pw_skip (pw_seq (pw_block (pw_seq (pw_region (yMd rfl (yMd rfl (yIs hy' (by omega) rfl rfl (yAd rfl (yQ ?_))))))))); refine pw_seq ?_
        refine pw_region (yMd rfl (yB rfl rfl rfl rfl ?_)); rw [t1]; refine yMd rfl (yO rfl (yO rfl (yPd rfl rfl (yMd rfl (yMd rfl (yB rfl rfl rfl rfl ?_)))))); rw [t2]
        refine yMd rfl (yMd rfl (yB rfl rfl rfl rfl ?_)); rw [t3]; refine yVd rfl rfl (yPd rfl rfl (yMd rfl (yMd rfl (yB rfl rfl rfl rfl ?_)))); rw [t4]; refine yPd rfl rfl (yQ (pw_cf rfl (pw_skip (pw_region (yMd rfl (yB rfl rfl rfl rfl (yAd rfl (yQ (q_then ?_)))))))))
        refine ⟨i + 1, ⟨by omega, all_take hy hal hN⟩, by omega, rfl, ⟨.refl _, .of_eq (congrArg (fun n => SV.d (dI n)) hw), trivial⟩, trivial, trivial, rfl⟩
    | false =>
      have hf := all_not hy hN
      have e : r = false := by rw [hr, nameB, hf]; simp
      rw [e]
      rcases isN_no hN with ⟨t1, t2, t3, t4, t5⟩ | ⟨t1, t2, t3⟩ | ⟨t1, t2, t3, t4⟩
      · refine pw_skip (pw_seq (pw_block (pw_seq (pw_region (yMd rfl (yMd rfl (yIs hy' (by omega) rfl rfl (yAd rfl (yQ ?_))))))))); refine pw_seq ?_
        refine pw_region (yMd rfl (yB rfl rfl rfl rfl ?_)); rw [t1]; refine yMd rfl (yMd rfl (yB rfl rfl rfl rfl ?_)); rw [t2]; refine yVd rfl rfl (yMd rfl (yMd rfl (yB rfl rfl rfl rfl ?_))); rw [t3]; refine yMd rfl (yMd rfl (yB rfl rfl rfl rfl ?_)); rw [t4]; refine yVd rfl rfl (yPd rfl rfl (yMd rfl (yMd rfl (yB rfl rfl rfl rfl ?_))))
        rw [t5]; refine yPd rfl rfl ?_; refine yQ ?_; refine pw_ct rfl ?_; refine pw_seq ?_; refine pw_region ?_; refine yAd rfl ?_; refine yQ ?_; refine pw_ret ?_; refine q_blk_ret ?_; refine q_then_ret ?_; refine q_then_ret ?_
        refine q_blk_ret ?_; refine q_then_ret ?_
        exact q_ret _ (.tmp rfl .nil) rfl
      · refine pw_skip (pw_seq (pw_block (pw_seq (pw_region (yMd rfl (yMd rfl (yIs hy' (by omega) rfl rfl (yAd rfl (yQ ?_))))))))); refine pw_seq ?_
        refine pw_region (yMd rfl (yB rfl rfl rfl rfl ?_)); rw [t1]; refine yMd rfl (yO rfl (yO rfl (yPd rfl rfl (yMd rfl (yMd rfl (yB rfl rfl rfl rfl ?_)))))); rw [t2]
        refine yMd rfl (yO rfl (yO rfl (yPd rfl rfl (yPd rfl rfl (yMd rfl (yMd rfl (yB rfl rfl rfl rfl ?_))))))); rw [t3]; refine yPd rfl rfl (yQ (pw_ct rfl (pw_seq (pw_region (yAd rfl (yQ (pw_ret (q_blk_ret (q_then_ret ?_))))))))); refine q_then_ret (q_blk_ret (q_then_ret ?_))
        exact q_ret _ (.tmp rfl .nil) rfl
      · refine pw_skip (pw_seq (pw_block (pw_seq (pw_region (yMd rfl (yMd rfl (yIs hy' (by omega) rfl rfl (yAd rfl (yQ ?_))))))))); refine pw_seq ?_
        refine pw_region (yMd rfl (yB rfl rfl rfl rfl ?_)); rw [t1]; refine yMd rfl (yO rfl (yO rfl (yPd rfl rfl (yMd rfl (yMd rfl (yB rfl rfl rfl rfl ?_)))))); rw [t2]
        refine yMd rfl (yMd rfl (yB rfl rfl rfl rfl ?_)); rw [t3]; refine yVd rfl rfl (yPd rfl rfl (yMd rfl (yMd rfl (yB rfl rfl rfl rfl ?_)))); rw [t4]; refine yPd rfl rfl (yQ (pw_ct rfl (pw_seq (pw_region (yAd rfl (yQ (pw_ret (q_blk_ret (q_then_ret ?_))))))))); refine q_then_ret (q_blk_ret (q_then_ret ?_))
        exact q_ret _ (.tmp rfl .nil) rfl
  · simp at h
    have hall : s.all isN = true := by rw [List.take_of_length_le (by omega)] at hal; exact hal
    by_cases h1 : 1 ≤ s.length
    · have t1 : decide ((s.length : Int) ≥ 1) = true := decide_eq_true (by omega)
      refine pw_exit (pw_seq (pw_region (yMd rfl (yNs rfl (yB rfl rfl rfl rfl ?_))))); rw [t1]; refine yMd rfl (yMd rfl (yNs rfl (yB rfl rfl rfl rfl (yPd rfl rfl (yAd rfl (yQ (pw_ret ?_)))))))
      exact q_ret _ (.tmp rfl .nil) (by rw [hr, nameB, hall]; simp [h1, resSV]; omega)
    · have t1 : decide ((s.length : Int) ≥ 1) = false := decide_eq_false (by omega)
      refine pw_exit (pw_seq (pw_region (yMd rfl (yNs rfl (yB rfl rfl rfl rfl ?_))))); rw [t1]; refine yMd rfl (yO rfl (yO rfl (yO rfl (yVd rfl rfl (yAd rfl (yQ (pw_ret ?_)))))))
      exact q_ret _ (.tmp rfl .nil) (by rw [hr, nameB]; simp [h1, resSV])

theorem dBy_at {s : Str} {i : Nat} {y : UInt8} (h : s[i]? = some y) : (dBy s)[(i : Int).toNat]? = some [.val (.int .u8 y.toNat)] := by
  rw [Int.toNat_natCast, List.getElem?_map, h]; rfl
set_option maxRecDepth 20000 in
set_option maxHeartbeats 1000000 in
theorem wName (s : Str) : PCalls Tryz.prog 141 [dS s] (.d (dB (nameB s))) := by
  obtain ⟨r, hr⟩ : ∃ r, r = nameB s := ⟨_, rfl⟩
  rw [← hr]
  refine pcalls_of_pw Tryz.func141 rfl Tryz.ntmps141 Tryz.results141 (by simp) fun B w0 => ?_
  by_cases h1 : s.length = 0
  · have t1 : ((s.length : Int) == 0) = true := by simp [h1]
    have e : r = false := by rw [hr, nameB, h1]; simp
    rw [e]
    refine pw_seq (pw_region (yAd rfl (yQ (pw_seq (pw_seq (pw_region (yMd rfl (yNs rfl (yB rfl rfl rfl rfl ?_))))))))); rw [t1]; refine yMd rfl (yO rfl (yO rfl (yO rfl (yPd rfl rfl (yQ (pw_ct rfl (pw_seq (pw_region (yAd rfl ?_))))))))); refine yQ (pw_ret (q_then_ret ?_))
    exact q_ret _ (.tmp rfl .nil) rfl
  have t1 : ((s.length : Int) == 0) = false := by simpa using fun e => h1 (by rw [e]; rfl)
  by_cases h2 : s.length > 16
  · have t2 : decide ((s.length : Int) > 16) = true := by simpa using by omega
    have e : r = false := by rw [hr, nameB]; simp; omega
    rw [e]
    refine pw_seq (pw_region (yAd rfl (yQ (pw_seq (pw_seq (pw_region (yMd rfl (yNs rfl (yB rfl rfl rfl rfl ?_))))))))); rw [t1]; refine yMd rfl (yMd rfl (yNs rfl (yB rfl rfl rfl rfl ?_))); rw [t2]; refine yVd rfl rfl (yQ (pw_ct rfl (pw_seq (pw_region (yAd rfl (yQ (pw_ret (q_then_ret ?_))))))))
    exact q_ret _ (.tmp rfl .nil) rfl
  have t2 : decide ((s.length : Int) > 16) = false := by simpa using by omega
  refine pw_seq (pw_region (yAd rfl (yQ (pw_seq (pw_seq (pw_region (yMd rfl (yNs rfl (yB rfl rfl rfl rfl ?_))))))))); rw [t1]; refine yMd rfl (yMd rfl (yNs rfl (yB rfl rfl rfl rfl ?_))); rw [t2]; refine yVd rfl rfl (yQ (pw_cf rfl (pw_skip (pw_seq (pw_seq (pw_region (yMd rfl ?_))))))); refine yTb (by omega) Tryz.underlying9 (by kernel_rfl) Tryz.underlying5 rfl ?_; refine yN rfl (yMd rfl (yQ (pw_block ?_))); refine pw_loop (fun i : Nat => ⟨39, [(14, .d (.sl 1 (dBy s))), (15, .d (dI s.length)), (16, .d (dI i))], [], []⟩) (fun i => i ≤ s.length ∧ (s.take i).all isN = true) (fun i => s.length - i) 0 ⟨Nat.zero_le _, rfl⟩ ⟨rfl, ⟨.refl _, .of_eq (congrArg (fun n : Nat => SV.d (dI n)) (by simp)), .refl _, trivial⟩, trivial, trivial, rfl⟩ ?_
  rintro i ⟨hi, hal⟩
  refine pw_seq (pw_region (yB rfl rfl rfl rfl (yQ (pw_seq ?_)))); refine pw_cond rfl (fun h => ?_) (fun h => ?_)
  · simp at h
    obtain ⟨y, hy⟩ : ∃ y, s[i]? = some y := ⟨_, List.getElem?_eq_getElem h⟩
    have hy' := dBy_at hy
    have hw := wrapI ((i : Int) + 1) (by omega)
    cases hN : isN y with
    | true =>
      rcases isN_yes hN with ⟨k1, k2⟩ | ⟨k1, k2, k3⟩ | ⟨k1, k2, k3, k4⟩
      · refine pw_skip (pw_seq (pw_block (pw_seq (pw_region (yW hy' (by omega) rfl rfl (yLr rfl rfl (yAd rfl (yQ (pw_seq ?_))))))))); refine pw_region ?_
        refine yMd rfl (yB rfl rfl rfl rfl ?_); rw [k1]; refine yMd rfl (yMd rfl (yB rfl rfl rfl rfl ?_)); rw [k2]; refine yVd rfl rfl (yMd rfl (yO rfl (yO rfl (yO rfl (yO rfl (yO rfl (yO rfl (yVd rfl rfl (yMd rfl ?_))))))))); refine yO rfl (yO rfl (yVd rfl rfl (yQ (pw_cf rfl (pw_skip (pw_region (yB rfl rfl rfl rfl (yMd rfl (yQ ?_))))))))); refine q_then ?_
        refine ⟨i + 1, ⟨by omega, all_take hy hal hN⟩, by omega, rfl, ⟨.refl _, .refl _, .of_eq (congrArg (fun n => SV.d (dI n)) hw), trivial⟩, trivial, trivial, rfl⟩
      · refine pw_skip (pw_seq (pw_block (pw_seq (pw_region (yW hy' (by omega) rfl rfl (yLr rfl rfl (yAd rfl (yQ (pw_seq ?_))))))))); refine pw_region ?_
        refine yMd rfl (yB rfl rfl rfl rfl ?_); rw [k1]; refine yMd rfl (yO rfl (yO rfl (yPd rfl rfl (yMd rfl (yMd rfl (yB rfl rfl rfl rfl ?_)))))); rw [k2]; refine yMd rfl (yMd rfl (yB rfl rfl rfl rfl ?_)); rw [k3]; refine yVd rfl rfl (yPd rfl rfl (yMd rfl (yO rfl (yO rfl (yVd rfl rfl (yQ (pw_cf rfl (pw_skip (pw_region ?_))))))))); refine yB rfl rfl rfl rfl (yMd rfl (yQ (q_then ?_)))
        refine ⟨i + 1, ⟨by omega, all_take hy hal hN⟩, by omega, rfl, ⟨.refl _, .refl _, .of_eq (congrArg (fun n => SV.d (dI n)) hw), trivial⟩, trivial, trivial, rfl⟩
      · refine pw_skip (pw_seq (pw_block (pw_seq (pw_region (yW hy' (by omega) rfl rfl (yLr rfl rfl (yAd rfl (yQ (pw_seq ?_))))))))); refine pw_region ?_
        refine yMd rfl (yB rfl rfl rfl rfl ?_); rw [k1]; refine yMd rfl (yO rfl (yO rfl (yPd rfl rfl (yMd rfl (yMd rfl (yB rfl rfl rfl rfl ?_)))))); rw [k2]; refine yMd rfl (yMd rfl (yB rfl rfl rfl rfl ?_)); rw [k3]; refine yVd rfl rfl (yPd rfl rfl (yMd rfl (yMd rfl (yB rfl rfl rfl rfl ?_)))); rw [k4]; refine yPd rfl rfl (yQ (pw_cf rfl (pw_skip (pw_region (yB rfl rfl rfl rfl (yMd rfl (yQ (q_then ?_))))))))
        refine ⟨i + 1, ⟨by omega, all_take hy hal hN⟩, by omega, rfl, ⟨.refl _, .refl _, .of_eq (congrArg (fun n => SV.d (dI n)) hw), trivial⟩, trivial, trivial, rfl⟩
    | false =>
      have hf := all_not hy hN
      have e : r = false := by rw [hr, nameB, hf]; simp
      rw [e]
      rcases isN_no hN with ⟨k1, k2, k3, k4, k5⟩ | ⟨k1, k2, k3⟩ | ⟨k1, k2, k3, k4⟩
      · refine pw_skip (pw_seq (pw_block (pw_seq (pw_region (yW hy' (by omega) rfl rfl (yLr rfl rfl (yAd rfl (yQ (pw_seq ?_))))))))); refine pw_region ?_
        refine yMd rfl (yB rfl rfl rfl rfl ?_); rw [k1]; refine yMd rfl (yMd rfl (yB rfl rfl rfl rfl ?_)); rw [k2]; refine yVd rfl rfl (yMd rfl (yMd rfl (yB rfl rfl rfl rfl ?_)))
        rw [k3]; refine yMd rfl ?_; refine yMd rfl ?_; refine yB rfl rfl rfl rfl ?_; rw [k4]; refine yVd rfl rfl ?_; refine yPd rfl rfl ?_; refine yMd rfl ?_; refine yMd rfl ?_; refine yB rfl rfl rfl rfl ?_; rw [k5]; refine yPd rfl rfl ?_
        refine yQ (pw_ct rfl (pw_seq (pw_region (yAd rfl (yQ (pw_ret (q_blk_ret (q_then_ret (q_then_ret ?_))))))))); refine q_blk_ret (q_then_ret ?_)
        exact q_ret _ (.tmp rfl .nil) rfl
      · refine pw_skip (pw_seq (pw_block (pw_seq (pw_region (yW hy' (by omega) rfl rfl (yLr rfl rfl (yAd rfl (yQ (pw_seq ?_))))))))); refine pw_region ?_
        refine yMd rfl (yB rfl rfl rfl rfl ?_); rw [k1]; refine yMd rfl (yO rfl (yO rfl (yPd rfl rfl (yMd rfl (yMd rfl (yB rfl rfl rfl rfl ?_)))))); rw [k2]; refine yMd rfl (yO rfl (yO rfl (yPd rfl rfl (yPd rfl rfl (yMd rfl (yMd rfl (yB rfl rfl rfl rfl ?_))))))); rw [k3]; refine yPd rfl rfl (yQ (pw_ct rfl (pw_seq (pw_region (yAd rfl (yQ (pw_ret (q_blk_ret (q_then_ret ?_))))))))); refine q_then_ret (q_blk_ret (q_then_ret ?_))
        exact q_ret _ (.tmp rfl .nil) rfl
      · refine pw_skip (pw_seq (pw_block (pw_seq (pw_region (yW hy' (by omega) rfl rfl (yLr rfl rfl (yAd rfl (yQ (pw_seq ?_))))))))); refine pw_region ?_
        refine yMd rfl (yB rfl rfl rfl rfl ?_); rw [k1]; refine yMd rfl (yO rfl (yO rfl (yPd rfl rfl (yMd rfl (yMd rfl (yB rfl rfl rfl rfl ?_)))))); rw [k2]; refine yMd rfl (yMd rfl (yB rfl rfl rfl rfl ?_)); rw [k3]; refine yVd rfl rfl (yPd rfl rfl (yMd rfl (yMd rfl (yB rfl rfl rfl rfl ?_)))); rw [k4]; refine yPd rfl rfl (yQ (pw_ct rfl (pw_seq (pw_region (yAd rfl (yQ (pw_ret (q_blk_ret (q_then_ret ?_))))))))); refine q_then_ret (q_blk_ret (q_then_ret ?_))
        exact q_ret _ (.tmp rfl .nil) rfl
  · simp at h
    have hall : s.all isN = true := by rw [List.take_of_length_le (by omega)] at hal; exact hal
    have e : r = true := by rw [hr, nameB, hall]; simp; omega
    rw [e]
    refine pw_exit (pw_seq (pw_region (yAd rfl (yQ (pw_ret ?_)))))
    exact q_ret _ (.tmp rfl .nil) rfl
end Go.Proofs.YtdkpmnefoobipaaGreatDoor
set_option maxHeartbeats 1000000
namespace Go.Proofs.YtdkpmnefoobipaaGreatDoor
open Go.RowKit Px

abbrev Hd := Str × Str
abbrev Mv := Str × Int × Str × Str × Str
abbrev dH (h : Hd) : List DV := [dS h.1, dS h.2]
abbrev dM (m : Mv) : List DV := [dS m.1, dI m.2.1, dS m.2.2.1, dS m.2.2.2.1, dS m.2.2.2.2]
structure Stm where
  d : Int
  hs : List Hd
  ms : List Mv
abbrev dSt (s : Stm) : List DV := [dI s.d, .sl 2 (s.hs.map dH), .sl 5 (s.ms.map dM)]
def okH (h : Hd) : Prop := h.1.length ≤ 1000000 ∧ h.2.length ≤ 1000000
def okM (m : Mv) : Prop := m.1.length ≤ 1000000 ∧ m.2.2.1.length ≤ 1000000 ∧ m.2.2.2.1.length ≤ 1000000 ∧ m.2.2.2.2.length ≤ 1000000
structure fitS (s : Stm) : Prop where
  hl : s.hs.length ≤ 64
  ml : s.ms.length ≤ 1000
  h : ∀ h ∈ s.hs, okH h
  m : ∀ m ∈ s.ms, okM m

def fstE (f : Nat → Int) : Nat → Int
  | 0 => 0
  | n + 1 => if fstE f n ≠ 0 then fstE f n else f n
theorem fstE_at {f : Nat → Int} {i : Nat} (h0 : fstE f i = 0) (hi : f i ≠ 0) (n : Nat) (hn : i < n) : fstE f n = f i := by
  induction n with
  | zero => omega
  | succ n ih =>
    unfold fstE
    by_cases e : i = n
    · subst e; rw [if_neg (by simp [h0])]
    · have := ih (by omega)
      rw [this, if_pos hi]
theorem fstE_next {f : Nat → Int} {i : Nat} (h0 : fstE f i = 0) (hi : f i = 0) : fstE f (i + 1) = 0 := by
  unfold fstE
  rw [if_neg (by simp [h0])]
  exact hi
theorem fstE_zero {f : Nat → Int} {n : Nat} : fstE f n = 0 ↔ ∀ i, i < n → f i = 0 := by
  induction n with
  | zero => simp [fstE]
  | succ n ih =>
    unfold fstE
    by_cases h : fstE f n = 0
    · rw [if_neg (by simp [h])]
      constructor
      · intro e i hi
        by_cases e2 : i = n
        · subst e2; exact e
        · exact ih.1 h i (by omega)
      · intro e; exact e n (by omega)
    · rw [if_pos h]
      constructor
      · intro e; exact absurd e h
      · intro e; exact ih.2 fun i hi => e i (by omega)

def numE (l : List Str) : Int := bif l.all isC then (bif l.any (fun a => decide (40 < ndig a)) then 4 else 0) else 1
def errH (p : Option Str) (h : Hd) : Int :=
  bif !nameB h.1 then 23 else bif !(numE [h.2] == 0) then numE [h.2] else bif h.2 == [] then 2 else bif (match p with | none => false | some p => !ltS p h.1) then 8 else 0
def hE (hs : List Hd) (i : Nat) : Int := match hs[i]? with
  | none => 0
  | some h => errH (if i = 0 then none else (hs[i - 1]?).map (·.1)) h
def errM (last : Int) (p : Option Int) (m : Mv) : Int :=
  bif !nameB m.1 then 23 else bif !vD m.2.1 || decide (last < m.2.1) then 13 else bif !nameB m.2.2.1 then 23 else bif !(numE [m.2.2.2.1, m.2.2.2.2] == 0) then numE [m.2.2.2.1, m.2.2.2.2] else bif m.2.2.2.1 == [] then 2 else
    bif (match p with | none => false | some p => decide (m.2.1 < p)) then 8 else 0
def mE (last : Int) (ms : List Mv) (i : Nat) : Int := match ms[i]? with
  | none => 0
  | some m => errM last (if i = 0 then none else (ms[i - 1]?).map (·.2.1)) m
def stE (s : Stm) : Int :=
  bif !vD s.d then 13 else bif !(fstE (hE s.hs) s.hs.length == 0) then fstE (hE s.hs) s.hs.length else fstE (mE s.d s.ms) s.ms.length
end Go.Proofs.YtdkpmnefoobipaaGreatDoor
set_option maxHeartbeats 1000000
namespace Go.Proofs.YtdkpmnefoobipaaGreatDoor
open Go.RowKit Px

theorem drop_cons {α : Type} {l : List α} {i : Nat} {x : α} (h : l[i]? = some x) : l.drop i = x :: l.drop (i + 1) := by
  obtain ⟨hi, rfl⟩ := List.getElem?_eq_some_iff.1 h
  exact List.drop_eq_getElem_cons hi
def hld (n : Str) : List Hd → Option Str
  | [] => none
  | h :: t => if h.1 == n then some h.2 else hld n t
def ixO : Option Nat → Int
  | none => -1
  | some k => k
def tkn (tk : List Bool) (k : Nat) : Bool := tk[k]?.getD false
def fRf (m : Mv) (tk : List Bool) : List Mv → Nat → Option Nat
  | [], _ => none
  | x :: l, k => if !tkn tk k && (x.1 == m.1 && x.2.2.1 == m.2.2.1) then some k else fRf m tk l (k + 1)
def apt (a b : Int) : Int := max (a - b) (b - a)
def sameC (days : Int) (x m : Mv) : Bool := x.2.2.1 == m.2.2.1 && (x.2.2.2.1 == m.2.2.2.1 && (x.2.2.2.2 == m.2.2.2.2 && decide (apt x.2.1 m.2.1 ≤ days)))
def cB (days : Int) (m : Mv) (tk : List Bool) (l : List Mv) : Nat → Option Nat
  | 0 => none
  | k + 1 => match l[k]? with
    | none => cB days m tk l k
    | some x => if !tkn tk k && sameC days x m then (match cB days m tk l k with
        | none => some k
        | some b => match l[b]? with
          | none => some b
          | some y => if apt x.2.1 m.2.1 < apt y.2.1 m.2.1 then some k else some b) else cB days m tk l k
theorem cB_lt {days : Int} {m : Mv} {tk : List Bool} {l : List Mv} {n b : Nat} (h : cB days m tk l n = some b) : b < n ∧ b < l.length := by
  induction n generalizing b with
  | zero => cases h
  | succ n ih =>
    unfold cB at h
    split at h
    · have := ih h; omega
    · rename_i x hx
      have hxl := (List.getElem?_eq_some_iff.1 hx).1
      split at h
      · split at h
        · cases h; omega
        · rename_i c hc
          have := ih hc
          split at h
          · cases h; omega
          · split at h
            · cases h; omega
            · cases h; omega
      · have := ih h; omega
theorem fRf_lt {m : Mv} {tk : List Bool} {l : List Mv} {k b : Nat} (h : fRf m tk l k = some b) : k ≤ b ∧ b < k + l.length := by
  induction l generalizing k with
  | nil => cases h
  | cons x l ih =>
    unfold fRf at h
    split at h
    · cases h; simp
    · have := ih h; simp; omega
abbrev PT := List (Option Nat) × List Bool
def rnd (f : Mv → List Bool → Option Nat) (ms : List Mv) (s0 : PT) : Nat → PT
  | 0 => s0
  | i + 1 => match ms[i]? with
    | none => rnd f ms s0 i
    | some m => if ((rnd f ms s0 i).1[i]?.getD none).isSome then rnd f ms s0 i else match f m (rnd f ms s0 i).2 with
      | none => rnd f ms s0 i
      | some k => ((rnd f ms s0 i).1.set i (some k), (rnd f ms s0 i).2.set k true)
theorem rnd_len (f : Mv → List Bool → Option Nat) (ms : List Mv) (s0 : PT) (i : Nat) : (rnd f ms s0 i).1.length = s0.1.length ∧ (rnd f ms s0 i).2.length = s0.2.length := by
  induction i with
  | zero => exact ⟨rfl, rfl⟩
  | succ i ih =>
    unfold rnd
    split
    · exact ih
    · split
      · exact ih
      · split
        · exact ih
        · simp [ih]
def byR (ts : List Mv) (m : Mv) (tk : List Bool) : Option Nat := fRf m tk ts 0
def byC (days : Int) (ts : List Mv) (m : Mv) (tk : List Bool) : Option Nat := cB days m tk ts ts.length
def pt0 (ms ts : List Mv) : PT := (List.replicate ms.length none, List.replicate ts.length false)
def pt1 (ms ts : List Mv) : PT := rnd (byR ts) ms (pt0 ms ts) ms.length
def pt2 (days : Int) (ms ts : List Mv) : PT := rnd (byC days ts) ms (pt1 ms ts) ms.length
theorem pt1_len (ms ts : List Mv) : (pt1 ms ts).1.length = ms.length ∧ (pt1 ms ts).2.length = ts.length := by
  have := rnd_len (byR ts) ms (pt0 ms ts) ms.length
  exact ⟨this.1.trans (List.length_replicate ..), this.2.trans (List.length_replicate ..)⟩
theorem pt2_len (days : Int) (ms ts : List Mv) : (pt2 days ms ts).1.length = ms.length ∧ (pt2 days ms ts).2.length = ts.length := by
  have := rnd_len (byC days ts) ms (pt1 ms ts) ms.length
  rw [(pt1_len ms ts).1, (pt1_len ms ts).2] at this
  exact this
end Go.Proofs.YtdkpmnefoobipaaGreatDoor
set_option maxHeartbeats 1000000
namespace Go.Proofs.YtdkpmnefoobipaaGreatDoor
open Go.RowKit Px

theorem rnd_above (f : Mv → List Bool → Option Nat) (ms : List Mv) (s0 : PT) {i j : Nat} (h : i ≤ j) : (rnd f ms s0 i).1[j]? = s0.1[j]? := by
  induction i with
  | zero => rfl
  | succ i ih =>
    have ih := ih (by omega)
    unfold rnd
    split
    · exact ih
    · split
      · exact ih
      · split
        · exact ih
        · rw [List.getElem?_set_ne (by omega)]; exact ih
def pr1 (ms ts : List Mv) (i : Nat) : PT := rnd (byR ts) ms (pt0 ms ts) i
theorem pr1_len (ms ts : List Mv) (i : Nat) : (pr1 ms ts i).1.length = ms.length ∧ (pr1 ms ts i).2.length = ts.length := by
  have := rnd_len (byR ts) ms (pt0 ms ts) i
  exact ⟨this.1.trans (List.length_replicate ..), this.2.trans (List.length_replicate ..)⟩
theorem pr1_none {ms ts : List Mv} {i : Nat} (h : i < ms.length) : (pr1 ms ts i).1[i]? = some none := by
  unfold pr1
  rw [rnd_above _ _ _ (Nat.le_refl i)]
  simp [pt0, List.getElem?_replicate, h]
theorem pr1_next {ms ts : List Mv} {i : Nat} {m : Mv} (hm : ms[i]? = some m) : pr1 ms ts (i + 1) = match fRf m (pr1 ms ts i).2 ts 0 with
    | none => pr1 ms ts i
    | some k => ((pr1 ms ts i).1.set i (some k), (pr1 ms ts i).2.set k true) := by
  have h := pr1_none (ts := ts) (List.getElem?_eq_some_iff.1 hm).1
  unfold pr1 at h ⊢
  rw [rnd, hm]
  simp only [h, Option.getD_some, Option.isSome_none, Bool.false_eq_true, if_false]
  rfl
theorem pr1_take {ms ts : List Mv} {i : Nat} {m : Mv} (hm : ms[i]? = some m) : (pr1 ms ts (i + 1)).1.take (i + 1) = (pr1 ms ts i).1.take i ++ [fRf m (pr1 ms ts i).2 ts 0] ∧
    (pr1 ms ts (i + 1)).2 = match fRf m (pr1 ms ts i).2 ts 0 with | none => (pr1 ms ts i).2 | some k => (pr1 ms ts i).2.set k true := by
  have hi := (List.getElem?_eq_some_iff.1 hm).1
  have h := pr1_none (ts := ts) hi
  have hl := (pr1_len ms ts i).1
  rw [pr1_next hm]
  have ht : ∀ l : List (Option Nat), l.length = ms.length → ∀ x, l[i]? = some x → l.take (i + 1) = l.take i ++ [x] := fun l _ x hx => by
    rw [List.take_add_one, hx]; rfl
  cases fRf m (pr1 ms ts i).2 ts 0 with
  | none => exact ⟨ht _ hl _ h, rfl⟩
  | some k =>
    refine ⟨?_, rfl⟩
    simp only
    rw [ht _ (by rw [List.length_set]; exact hl) (some k) (by rw [List.getElem?_set_self (by omega)]), List.take_set_of_le (Nat.le_refl _)]
theorem apt_comm (a b : Int) : apt a b = apt b a := by unfold apt; omega
end Go.Proofs.YtdkpmnefoobipaaGreatDoor
set_option maxHeartbeats 1000000
namespace Go.Proofs.YtdkpmnefoobipaaGreatDoor
open Go.RowKit Px

theorem errM_v {last : Int} {p : Option Int} {m : Mv} (h : errM last p m = 0) : vD m.2.1 = true := by
  unfold errM at h
  cases h1 : nameB m.1 with
  | false => rw [h1] at h; cases h
  | true =>
    cases h2 : vD m.2.1 with
    | true => rfl
    | false => rw [h1, h2] at h; cases h
theorem stE_split {s : Stm} (h : stE s = 0) : vD s.d = true ∧ fstE (hE s.hs) s.hs.length = 0 ∧ fstE (mE s.d s.ms) s.ms.length = 0 := by
  unfold stE at h
  cases h1 : vD s.d with
  | false => rw [h1] at h; cases h
  | true =>
    rw [h1] at h
    by_cases h2 : fstE (hE s.hs) s.hs.length = 0
    · refine ⟨rfl, h2, ?_⟩
      rw [h2] at h
      exact h
    · have h3 : (fstE (hE s.hs) s.hs.length == 0) = false := by simpa using h2
      rw [h3] at h
      exact absurd h h2
theorem stE_v {s : Stm} (h : stE s = 0) : ∀ m ∈ s.ms, vD m.2.1 = true := by
  intro m hm
  obtain ⟨i, hi, e⟩ := List.mem_iff_getElem.1 hm
  have h1 := fstE_zero.1 (stE_split h).2.2 i hi
  unfold mE at h1
  rw [List.getElem?_eq_getElem hi, e] at h1
  exact errM_v h1

def prsN (l : List (Option Nat)) : Nat → List (Int × Int)
  | 0 => []
  | i + 1 => match l[i]?.getD none with
    | none => prsN l i
    | some k => prsN l i ++ [((i : Int), (k : Int))]
theorem prsN_len (l : List (Option Nat)) (i : Nat) : (prsN l i).length ≤ i := by
  induction i with
  | zero => exact Nat.le_refl _
  | succ i ih =>
    unfold prsN
    split
    · omega
    · simp; omega
abbrev dP2 (p : Int × Int) : List DV := [dI p.1, dI p.2]
def prd (l : List Int) (k : Int) : Bool := l.any (fun x => x == k)
def dbN (p : Nat → Bool) (ts : List Mv) (y : Mv) : Nat → Bool
  | 0 => false
  | i + 1 => dbN p ts y i || (match ts[i]? with
    | none => false
    | some x => p i && (x.1 == y.1 && (x.2.2.1 == y.2.2.1 && (x.2.2.2.1 == y.2.2.2.1 && x.2.2.2.2 == y.2.2.2.2))))
theorem rnd_taken {f : Mv → List Bool → Option Nat} {ms : List Mv} {s0 : PT} {N : Nat} (hf : ∀ m tk k, tk.length = N → f m tk = some k → k < N) (hl : s0.1.length = ms.length) (hN : s0.2.length = N) (h0 : ∀ k, k < N → tkn s0.2 k = s0.1.any (fun o => o == some k)) :
    ∀ i k, k < N → tkn (rnd f ms s0 i).2 k = (rnd f ms s0 i).1.any (fun o => o == some k) := by
  intro i
  induction i with
  | zero => exact h0
  | succ i ih =>
    intro k hk
    have ih := ih k hk
    have hlen := rnd_len f ms s0 i
    obtain ⟨⟨pl, tk⟩, hc⟩ : ∃ c, c = rnd f ms s0 i := ⟨_, rfl⟩
    unfold rnd
    rw [← hc] at ih hlen ⊢
    cases hm : ms[i]? with
    | none => exact ih
    | some m =>
      have hi := (List.getElem?_eq_some_iff.1 hm).1
      simp only at ih hlen ⊢
      cases ho : pl[i]?.getD none with
      | some c => exact ih
      | none =>
        simp only [Option.isSome_none, Bool.false_eq_true, if_false]
        cases hfm : f m tk with
        | none => exact ih
        | some c =>
          have hcN := hf m tk c (by rw [hlen.2, hN]) hfm
          have hil : i < pl.length := by rw [hlen.1, hl]; exact hi
          simp only
          unfold tkn at ih ⊢
          by_cases e : c = k
          · subst e
            rw [List.getElem?_set_self (by rw [hlen.2, hN]; exact hk)]
            symm
            simp only [Option.getD_some, List.any_eq_true]
            exact ⟨some c, List.mem_iff_getElem.2 ⟨i, by simpa using hil, by simp⟩, by simp⟩
          · rw [List.getElem?_set_ne e, ih]
            rw [Bool.eq_iff_iff, List.any_eq_true, List.any_eq_true]
            have hpi : pl[i] = none := by
              rw [List.getElem?_eq_getElem hil] at ho
              exact ho
            constructor
            · rintro ⟨o, h1, h2⟩
              obtain ⟨j, hj, e2⟩ := List.mem_iff_getElem.1 h1
              refine ⟨o, List.mem_iff_getElem.2 ⟨j, by simpa using hj, ?_⟩, h2⟩
              rw [List.getElem_set_ne]
              · exact e2
              · intro e3
                subst e3
                rw [hpi] at e2
                subst e2
                simp at h2
            · rintro ⟨o, h1, h2⟩
              obtain ⟨j, hj, e2⟩ := List.mem_iff_getElem.1 h1
              refine ⟨o, List.mem_iff_getElem.2 ⟨j, by simpa using hj, ?_⟩, h2⟩
              by_cases e3 : i = j
              · subst e3
                rw [List.getElem_set_self] at e2
                subst e2
                simp at h2
                exact absurd h2 e
              · rw [List.getElem_set_ne e3] at e2
                exact e2
theorem pt2_taken (days : Int) (ms ts : List Mv) (k : Nat) (hk : k < ts.length) : tkn (pt2 days ms ts).2 k = (pt2 days ms ts).1.any (fun o => o == some k) := by
  have h1 : ∀ i k, k < ts.length → tkn (rnd (byR ts) ms (pt0 ms ts) i).2 k = (rnd (byR ts) ms (pt0 ms ts) i).1.any (fun o => o == some k) :=
    rnd_taken (fun m tk k _ h => by have := fRf_lt h; omega) (by simp [pt0]) (by simp [pt0]) fun k hk => by
      unfold tkn pt0
      simp [List.getElem?_replicate, hk]
  exact rnd_taken (fun m tk k _ h => (cB_lt h).2) (pt1_len ms ts).1 (pt1_len ms ts).2 (fun k hk => h1 ms.length k hk) ms.length k hk
theorem prd_eq (l : List (Option Nat)) (k : Nat) : prd (l.map ixO) k = l.any (fun o => o == some k) := by
  unfold prd
  rw [List.any_map]
  congr 1
  funext o
  cases o with
  | none => 
    have h1 : (ixO none == (k : Int)) = false := by
      rw [beq_eq_false_iff_ne]
      show (-1 : Int) ≠ k
      omega
    show (ixO none == (k : Int)) = _
    rw [h1]; rfl
  | some c =>
    show (((c : Nat) : Int) == (k : Int)) = (some c == some k)
    rw [Bool.eq_iff_iff]
    simp
    constructor <;> intro h <;> omega
end Go.Proofs.YtdkpmnefoobipaaGreatDoor
set_option maxHeartbeats 1000000
namespace Go.Proofs.YtdkpmnefoobipaaGreatDoor
open Go.RowKit Px

abbrev Bk := Int × Str × Str × Str
def brP (x y : Mv) : List Bk := (if x.2.2.2.1 == y.2.2.2.1 then [] else [(3, x.1, x.2.2.2.1, y.2.2.2.1)]) ++
  ((if x.2.2.2.2 == y.2.2.2.2 then [] else [(4, x.1, x.2.2.2.2, y.2.2.2.2)]) ++ (if x.2.1 == y.2.1 then [] else [(5, x.1, canon x.2.1, canon y.2.1)]))
def mbA (ms ts : List Mv) (pl : List (Option Nat)) : Nat → List Bk
  | 0 => []
  | i + 1 => match ms[i]? with
    | none => mbA ms ts pl i
    | some m => mbA ms ts pl i ++ (match pl[i]?.getD none with
      | none => [(1, m.1, m.2.2.2.1, [])]
      | some k => match ts[k]? with
        | none => []
        | some x => brP m x)
def mbB (ts : List Mv) (tk : Nat → Bool) : Nat → List Bk
  | 0 => []
  | k + 1 => match ts[k]? with
    | none => mbB ts tk k
    | some x => if tk k then mbB ts tk k else mbB ts tk k ++ [(if dbN tk ts x ts.length then 6 else 2, x.1, [], x.2.2.2.1)]
def mvB (ms ts : List Mv) (days : Int) : List Bk := mbA ms ts (pt2 days ms ts).1 ms.length ++ mbB ts (tkn (pt2 days ms ts).2) ts.length
theorem brP_len (x y : Mv) : (brP x y).length ≤ 3 := by
  unfold brP
  split <;> split <;> split <;> simp
theorem mbA_len (ms ts : List Mv) (pl : List (Option Nat)) (i : Nat) : (mbA ms ts pl i).length ≤ 3 * i := by
  induction i with
  | zero => exact Nat.le_refl _
  | succ i ih =>
    unfold mbA
    cases ms[i]? with
    | none => simp only; omega
    | some m =>
      simp only
      rw [List.length_append]
      cases pl[i]?.getD none with
      | none => simp; omega
      | some k =>
        simp only
        cases ts[k]? with
        | none => simp; omega
        | some x =>
          have := brP_len m x
          simp only
          omega
theorem mbB_len (ts : List Mv) (tk : Nat → Bool) (k : Nat) : (mbB ts tk k).length ≤ k := by
  induction k with
  | zero => exact Nat.le_refl _
  | succ k ih =>
    unfold mbB
    split
    · omega
    · split
      · omega
      · simp; omega
theorem pt2_lt (days : Int) (ms ts : List Mv) {i k : Nat} (h : (pt2 days ms ts).1[i]?.getD none = some k) : k < ts.length := by
  have key : ∀ (f : Mv → List Bool → Option Nat) (s0 : PT), (∀ m tk k, f m tk = some k → k < ts.length) → (∀ (i k : Nat), s0.1[i]?.getD none = some k → k < ts.length) → ∀ n (i k : Nat), (rnd f ms s0 n).1[i]?.getD none = some k → k < ts.length := by
    intro f s0 hf h0 n
    induction n with
    | zero => exact h0
    | succ n ih =>
      intro i k hk
      unfold rnd at hk
      cases hm : ms[n]? with
      | none => rw [hm] at hk; exact ih i k hk
      | some m =>
        rw [hm] at hk
        simp only at hk
        split at hk
        · exact ih i k hk
        · cases hfm : f m (rnd f ms s0 n).2 with
          | none => rw [hfm] at hk; exact ih i k hk
          | some c =>
            rw [hfm] at hk
            simp only at hk
            by_cases e : n = i
            · subst e
              rw [List.getElem?_set_self'] at hk
              cases hq : (rnd f ms s0 n).1[n]? with
              | none => rw [hq] at hk; simp at hk
              | some o => rw [hq] at hk; simp at hk; subst hk; exact hf m _ _ hfm
            · rw [List.getElem?_set_ne e] at hk
              exact ih i k hk
  have h1 : ∀ (i k : Nat), (pt1 ms ts).1[i]?.getD none = some k → k < ts.length :=
    key (byR ts) (pt0 ms ts) (fun m tk k h => by have := fRf_lt h; omega) (fun i k h => by
      unfold pt0 at h
      simp only [List.getElem?_replicate] at h
      split at h <;> cases h) ms.length
  exact key (byC days ts) (pt1 ms ts) (fun m tk k h => (cB_lt h).2) h1 ms.length i k h
end Go.Proofs.YtdkpmnefoobipaaGreatDoor
namespace Go.Proofs.YtdkpmnefoobipaaGreatDoor
open Go.RowKit Px
abbrev shH : Sh := .pr .s (.pr .s .un)
abbrev shM : Sh := .pr .s (.pr (.i .i64) (.pr .s (.pr .s (.pr .s .un))))
abbrev shS : Sh := .pr (.i .i64) (.pr (.sl shH) (.pr (.sl shM) .un))
abbrev shB : Sh := .sl (.pr (.i .i64) (.pr .s (.pr .s (.pr .s .un))))
theorem stm_dv (x : Dat shS) : ∃ s : Stm, Dat.dv shS x = .agg (dSt s) := by
  obtain ⟨d, hs, ms, u⟩ := x
  refine ⟨⟨d, hs.map fun h => (h.1, h.2.1), ms.map fun m => (m.1, m.2.1, m.2.2.1, m.2.2.2.1, m.2.2.2.2.1)⟩, ?_⟩
  show DV.agg [.val (.int .i64 d), .sl 2 (hs.map (Dat.cs shH)), .sl 5 (ms.map (Dat.cs shM))] = DV.agg [dI d, .sl 2 ((hs.map fun h => (h.1, h.2.1)).map dH), .sl 5 ((ms.map fun m => (m.1, m.2.1, m.2.2.1, m.2.2.2.1, m.2.2.2.2.1)).map dM)]
  rw [List.map_map, List.map_map]
  rfl
end Go.Proofs.YtdkpmnefoobipaaGreatDoor
set_option maxHeartbeats 1000000
namespace Go.Proofs.YtdkpmnefoobipaaGreatDoor
open Go.RowKit

theorem decDigits_dec {n : Nat} (h : n ≠ 0) : Lib.decDigits n = dec n := by
  induction n using Nat.strongRecOn with
  | _ n ih =>
    rw [Lib.decDigits, dec_pos h]
    by_cases h2 : n < 10
    · rw [dif_pos h2, show n / 10 = 0 by omega, dec_zero, show n % 10 = n by omega]
      rfl
    · rw [dif_neg h2, ih (n / 10) (by omega) (by omega)]
      rfl
theorem itoa_canon {n : Int} (h : n ≠ 0) : Lib.itoa n = canon n := by
  unfold Lib.itoa canon
  by_cases h2 : n < 0
  · rw [if_pos h2, if_pos h2, decDigits_dec (by omega)]
  · rw [if_neg h2, if_neg h2, decDigits_dec (by omega), show n.toNat = n.natAbs by omega]
theorem val_itoa (n : Int) : val (Lib.itoa n) = n := by
  by_cases h : n = 0
  · subst h
    have e : Lib.itoa 0 = [48] := by
      unfold Lib.itoa
      rw [if_neg (by omega), Lib.decDigits, dif_pos (by decide)]
      rfl
    rw [e]
    decide
  · rw [itoa_canon h, val_canon]
theorem decDigits_small (n k : Nat) (h : n < 10 ^ k) (hk : 0 < k) : (Lib.decDigits n).length ≤ k := by
  induction k generalizing n with
  | zero => omega
  | succ k ih =>
    rw [Lib.decDigits]
    by_cases h2 : n < 10
    · rw [dif_pos h2]; simp
    · rw [dif_neg h2]
      have h3 : 0 < k := by
        by_cases e : k = 0
        · subst e; simp at h; omega
        · omega
      have := ih (n / 10) (by rw [Nat.pow_succ] at h; omega) h3
      simp; omega
theorem itoa_len {n : Int} (h0 : -9223372036854775808 ≤ n) (h1 : n ≤ 9223372036854775807) : (Lib.itoa n).length ≤ 21 := by
  unfold Lib.itoa
  split
  · have := decDigits_small n.natAbs 20 (by omega) (by omega)
    simp; omega
  · have := decDigits_small n.toNat 20 (by omega) (by omega)
    omega
theorem dec_len20 {n : Nat} (h : n ≤ 9223372036854775808) : (dec n).length ≤ 20 := by
  by_cases e : n = 0
  · subst e; rw [dec_zero]; simp
  · rw [← decDigits_dec e]
    exact decDigits_small n 20 (by omega) (by omega)
def sg (b : Bool) (m : Nat) : Int := if b then -(m : Int) else m
theorem sg_quo (b : Bool) (m : Nat) : Int.tdiv (sg b m) 10 = sg b (m / 10) := by
  unfold sg
  cases b
  · simp
  · simp [Int.neg_tdiv]
theorem sg_rem (b : Bool) (m : Nat) : Int.tmod (sg b m) 10 = sg b (m % 10) := by
  unfold sg
  cases b
  · simp [Int.tmod_eq_emod_of_nonneg]
  · simp [Int.neg_tmod, Int.tmod_eq_emod_of_nonneg]
theorem sg_zero (b : Bool) (m : Nat) : sg b m = 0 ↔ m = 0 := by
  unfold sg
  cases b <;> simp
theorem sg_of (n : Int) : n = sg (decide (n < 0)) n.natAbs := by
  unfold sg
  by_cases h : n < 0
  · simp [h]; omega
  · simp [h]; omega
end Go.Proofs.YtdkpmnefoobipaaGreatDoor
namespace Go.Proofs.YtdkpmnefoobipaaGreatDoor
open Go.RowKit Px

theorem tab_is {F : Nat → Nat → Prop} {w : World} (hg : GlobOk F w) : Lib.TabIs Tryz.prog w "internal/strconv.uint64pow10" .u64 Lib.pow10Tab := by
  obtain ⟨-, vs, h1, T, z, h2⟩ := hg (2) ((Lib.pow10Tab.map fun z => Value.int .u64 z).map DV.val) (by kernel_rfl)
  have e : vs = Lib.pow10Tab.map fun z => Value.int .u64 z := ((List.map_inj_right (fun a b h => by cases h; rfl)).1 h1).symm
  have hn : Program.globalNamed Tryz.prog "internal/strconv.uint64pow10" = some (2) := by kernel_rfl
  show World.var? _ _ _ = _
  unfold World.var?
  rw [hn, Option.bind_some, h2, e]
theorem wItoa (n : Int) (h0 : -9223372036854775808 ≤ n) (h1 : n ≤ 9223372036854775807) : PCalls Tryz.prog 74 [dI n] (.d (dS (Lib.itoa n))) :=
  PCalls.of_any (us := [vS (Lib.itoa n)]) rfl (one_all _ rfl) fun F w vals hl hr hg => by
    obtain rfl : vals = [.int .i64 n] := vals_of (us := [.int .i64 n]) hl hr
    refine (Any.strconv_Itoa Tryz.itoa n h0 h1 w (tab_is hg)).mono ?_
    rintro e w' ⟨rfl, k, os, rfl⟩
    exact ⟨rfl, Lib.below_grow _ w (Nat.le_refl _) k os⟩
set_option maxRecDepth 20000 in
theorem wOf (n : Int) (h0 : -9223372036854775808 ≤ n) (h1 : n ≤ 9223372036854775807) : PCalls Tryz.prog 45 [dI n] (.d (dS (canon n))) := by
  have c1 := wItoa n h0 h1
  have c2 := wCanonical (Lib.itoa n) (by have := itoa_len h0 h1; omega)
  rw [val_itoa] at c2
  refine pcalls_of_pw Tryz.func45 rfl Tryz.ntmps45 Tryz.results45 (by simp) fun B w0 => ?_
  refine pw_seq (pw_region (yAd rfl (yQ (pw_seq (pw_region (yMd rfl (yC (c1) rfl rfl (yC (c2) rfl rfl (yAd rfl ?_))))))))); refine yQ (pw_ret ?_)
  exact q_ret _ (.tmp rfl .nil) rfl
theorem enc_dig {r : Nat} (h : r < 10) : Utf8.encode (48 + (r : Int)) = ByteArray.mk ([dig r] : Str).toArray := by
  have : r = 0 ∨ r = 1 ∨ r = 2 ∨ r = 3 ∨ r = 4 ∨ r = 5 ∨ r = 6 ∨ r = 7 ∨ r = 8 ∨ r = 9 := by omega
  rcases this with rfl | rfl | rfl | rfl | rfl | rfl | rfl | rfl | rfl | rfl <;> rfl
theorem wrap32 {r : Nat} (h : r < 10) : IntKind.i32.wrap (48 + (r : Int)) = 48 + (r : Int) := by
  have : r = 0 ∨ r = 1 ∨ r = 2 ∨ r = 3 ∨ r = 4 ∨ r = 5 ∨ r = 6 ∨ r = 7 ∨ r = 8 ∨ r = 9 := by omega
  rcases this with rfl | rfl | rfl | rfl | rfl | rfl | rfl | rfl | rfl | rfl <;> rfl
set_option maxRecDepth 20000 in
set_option maxHeartbeats 1000000 in
theorem wROf (n : Int) (h0 : -9223372036854775808 ≤ n) (h1 : n ≤ 9223372036854775807) : PCalls Tryz.prog 104 [dI n] (.d (dS (canon n))) := by
  refine pcalls_of_pw Tryz.func104 rfl Tryz.ntmps104 Tryz.results104 (by simp) fun B w0 => ?_
  cases t1 : (n == 0) with
  | true =>
    have e : n = 0 := by simpa using t1
    subst e
    rw [show canon 0 = [] from by unfold canon; simp [dec_zero]]
    refine pw_seq (pw_region (yAd rfl (yQ (pw_seq (pw_seq (pw_region (yMd rfl (yB rfl rfl rfl rfl (yQ ?_))))))))); refine pw_ct rfl (pw_seq (pw_region (yAd rfl (yQ (pw_ret (q_then_ret ?_))))))
    exact q_ret _ (.tmp rfl .nil) rfl
  | false =>
  have hn : n ≠ 0 := by simpa using t1
  refine pw_seq (pw_region (yAd rfl (yQ (pw_seq (pw_seq (pw_region (yMd rfl (yB rfl rfl rfl rfl (yQ ?_))))))))); refine q_then ?_; rw [t1]
  refine pw_cf rfl (pw_skip (pw_seq (pw_region (yAd rfl (yQ (pw_seq (pw_seq (pw_region (yMd rfl ?_))))))))); refine yAd rfl (yQ (pw_block ?_)); refine pw_loop (fun p : Nat × Str => ⟨30, [(0, .d (dI n)), (3, .d (dS p.2)), (4, .d (dI (sg (decide (n < 0)) p.1)))], [], []⟩) (fun p => p.1 ≤ n.natAbs ∧ dec n.natAbs = dec p.1 ++ p.2) (fun p => p.1) (n.natAbs, []) ⟨Nat.le_refl _, by simp⟩ ⟨rfl, ⟨.refl _, .refl _, .of_eq (congrArg (fun n => SV.d (dI n)) (sg_of n)), trivial⟩, trivial, trivial, rfl⟩ ?_
  rintro ⟨m, t⟩ ⟨hm, ht⟩
  simp only at hm ht
  have hlen : t.length ≤ 20 := by
    have h5 := dec_len20 (n := n.natAbs) (by omega)
    rw [ht] at h5
    simp at h5
    omega
  obtain ⟨b, hb⟩ : ∃ b, b = decide (n < 0) := ⟨_, rfl⟩
  have hq := sg_quo b m
  have hr := sg_rem b m
  simp only [← hb]
  by_cases h2 : m = 0
  · subst h2
    rw [dec_zero, List.nil_append] at ht
    have t2 : (sg b 0 != 0) = false := by cases b <;> rfl
    have hc : canon n = if n < 0 then 45 :: t else t := by unfold canon; rw [ht]
    by_cases h3 : n < 0
    · have t3 : decide (n < 0) = true := decide_eq_true h3
      rw [hc, if_pos h3]
      refine pw_seq (pw_seq (pw_region (yMd rfl (yB rfl rfl rfl rfl (yQ (q_then ?_)))))); rw [t2]; refine pw_cf rfl (pw_exit (pw_seq (pw_seq (pw_region (yMd rfl (yB rfl rfl rfl rfl (yQ (q_then ?_)))))))); rw [t3]; refine pw_ct rfl (pw_region (yMd rfl (yBsa (l1 := [45]) (by simp; omega) rfl rfl (yAd rfl (yQ (pw_seq (pw_region (yMd rfl (yAd rfl ?_))))))))); refine yQ (pw_ret ?_)
      exact q_ret _ (.tmp rfl .nil) rfl
    · have t3 : decide (n < 0) = false := decide_eq_false h3
      rw [hc, if_neg h3]
      refine pw_seq (pw_seq (pw_region (yMd rfl (yB rfl rfl rfl rfl (yQ (q_then ?_)))))); rw [t2]; refine pw_cf rfl (pw_exit (pw_seq (pw_seq (pw_region (yMd rfl (yB rfl rfl rfl rfl (yQ (q_then ?_)))))))); rw [t3]; refine pw_cf rfl (pw_skip (pw_seq (pw_region (yMd rfl (yAd rfl (yQ (pw_ret ?_)))))))
      exact q_ret _ (.tmp rfl .nil) rfl
  · have t2 : (sg b m != 0) = true := by
      have := (sg_zero b m)
      simp [this, h2]
    have hdec : dec n.natAbs = dec (m / 10) ++ (dig (m % 10) :: t) := by rw [ht, dec_pos h2]; simp
    have hr10 : m % 10 < 10 := Nat.mod_lt _ (by omega)
    obtain ⟨r, hr2⟩ : ∃ r, r = m % 10 := ⟨_, rfl⟩
    rw [← hr2] at hr hdec hr10
    have henc := enc_dig hr10
    have hw48 : IntKind.i64.wrap (48 + (r : Int)) = 48 + (r : Int) := wrapI _ (by omega)
    have hw32 : IntKind.i32.wrap (48 + (r : Int)) = 48 + (r : Int) := wrap32 hr10
    have hmu : m / 10 < m := by omega
    have hwq : IntKind.i64.wrap (sg b (m / 10)) = sg b (m / 10) := wrapI _ (by unfold sg; cases b <;> simp <;> omega)
    by_cases h3 : sg b r < 0
    · have hb2 : b = true := by
        cases b with
        | true => rfl
        | false => unfold sg at h3; simp at h3; omega
      have t3 : decide (sg b r < 0) = true := decide_eq_true h3
      have hneg : IntKind.i64.wrap (0 - sg b r) = (r : Int) := by
        rw [hb2]; unfold sg; simp only [if_true]; rw [Int.zero_sub, Int.neg_neg]; exact wrapI _ (by omega)
      refine pw_seq (pw_seq (pw_region (yMd rfl (yB rfl rfl rfl rfl (yQ (q_then ?_)))))); rw [t2]; refine pw_ct rfl (pw_skip (pw_seq (pw_block (pw_seq (pw_region (yMd rfl (yB rfl rfl rfl rfl (yAd rfl (yQ ?_))))))))); refine pw_seq (pw_seq (pw_region (yMd rfl (yB rfl rfl rfl rfl (yQ (q_then ?_)))))); rw [hr]; rw [t3]; refine pw_ct rfl (pw_region (yMd rfl (yU rfl rfl rfl (yAd rfl (yQ (pw_region (yMd rfl (yB rfl rfl rfl rfl (yJ rfl ?_))))))))); rw [hneg]; rw [hw48]; rw [hw32]; refine yJs henc rfl (yMd rfl (yBsa (l1 := [dig r]) (by simp; omega) rfl rfl (yAd rfl (yQ (pw_region (yMd rfl (yB rfl rfl rfl rfl (yAd rfl (yQ ?_))))))))); refine q_then ?_; rw [hq]; rw [hwq]
      refine ⟨(m / 10, dig r :: t), ⟨by simp only; omega, by rw [hdec]⟩, hmu, rfl, ⟨.refl _, .refl _, .refl _, trivial⟩, trivial, trivial, rfl⟩
    · have t3 : decide (sg b r < 0) = false := decide_eq_false h3
      have hpos : sg b r = (r : Int) := by
        cases b with
        | false => rfl
        | true => unfold sg at h3 ⊢; simp at h3 ⊢; omega
      refine pw_seq (pw_seq (pw_region (yMd rfl (yB rfl rfl rfl rfl (yQ (q_then ?_)))))); rw [t2]; refine pw_ct rfl (pw_skip (pw_seq (pw_block (pw_seq (pw_region (yMd rfl (yB rfl rfl rfl rfl (yAd rfl (yQ ?_))))))))); refine pw_seq (pw_seq (pw_region (yMd rfl (yB rfl rfl rfl rfl (yQ (q_then ?_)))))); rw [hr]; rw [t3]; refine pw_cf rfl (pw_skip (pw_region (yMd rfl (yB rfl rfl rfl rfl (yJ rfl ?_))))); rw [hpos]; rw [hw48]; rw [hw32]
      refine yJs henc rfl (yMd rfl (yBsa (l1 := [dig r]) (by simp; omega) rfl rfl (yAd rfl (yQ (pw_region (yMd rfl (yB rfl rfl rfl rfl (yAd rfl (yQ ?_))))))))); refine q_then ?_; rw [hq]; rw [hwq]
      refine ⟨(m / 10, dig r :: t), ⟨by simp only; omega, by rw [hdec]⟩, hmu, rfl, ⟨.refl _, .refl _, .refl _, trivial⟩, trivial, trivial, rfl⟩
end Go.Proofs.YtdkpmnefoobipaaGreatDoor
namespace Go.Proofs.YtdkpmnefoobipaaGreatDoor
open Go.RowKit Px

abbrev dBk (x : Bk) : List DV := [dI x.1, dS x.2.1, dS x.2.2.1, dS x.2.2.2]
theorem vD_b {d : Int} (h : vD d = true) : -9223372036854775808 ≤ d ∧ d ≤ 9223372036854775807 := by
  simp [vD] at h
  omega
end Go.Proofs.YtdkpmnefoobipaaGreatDoor
namespace Go.Proofs.YtdkpmnefoobipaaGreatDoor
open Go.RowKit Px

set_option maxRecDepth 20000 in
theorem wPaired (l : List Int) (k : Int) (hl : l.length ≤ 1000000) : PCalls Tryz.prog 76 [dIs l, dI k] (.d (dB (prd l k))) := by
  obtain ⟨r, hr⟩ : ∃ r, r = prd l k := ⟨_, rfl⟩
  rw [← hr]
  refine pcalls_of_pw Tryz.func76 rfl Tryz.ntmps76 Tryz.results76 (by simp) fun B w0 => ?_
  refine pw_seq (pw_region (yAd rfl (yQ (pw_seq (pw_seq (pw_region (yAd rfl (yQ (pw_block ?_))))))))); refine pw_loop (fun i : Nat => ⟨18, [(0, .d (dIs l)), (1, .d (dI k)), (5, .d (dI i))], [], []⟩) (fun i => i ≤ l.length ∧ prd (l.drop i) k = r) (fun i => l.length - i) 0 ⟨Nat.zero_le _, hr.symm⟩ ⟨rfl, ⟨.refl _, .refl _, .refl _, trivial⟩, trivial, trivial, rfl⟩ ?_
  rintro i ⟨hi, h0⟩
  refine pw_seq (pw_seq (pw_region (yMd rfl (yMd rfl (yN rfl (yB rfl rfl rfl rfl (yQ (q_then ?_)))))))); refine pw_cond rfl (fun h => ?_) (fun h => ?_)
  · simp at h
    obtain ⟨x, hx⟩ : ∃ a, l[i]? = some a := ⟨_, List.getElem?_eq_getElem h⟩
    have ei := ix dZ l i i x rfl hx
    have hw := wrapI ((i : Int) + 1) (by omega)
    rw [drop_cons hx, prd, List.any_cons] at h0
    cases t1 : (x == k) with
    | true =>
      rw [t1] at h0
      subst h0
      refine pw_skip (pw_seq (pw_block (pw_seq (pw_region (yMd rfl (yMd rfl (yW ei (by omega) rfl rfl (yLr rfl rfl (yMd rfl ?_))))))))); refine yB rfl rfl rfl rfl (yQ (q_then ?_)); rw [t1]; refine pw_ct rfl (pw_seq (pw_region (yAd rfl (yQ (pw_ret (q_blk_ret (q_then_ret (q_then_ret (q_blk_ret ?_))))))))); refine q_then_ret ?_
      exact q_ret _ (.tmp rfl .nil) rfl
    | false =>
      rw [t1, Bool.false_or] at h0
      refine pw_skip (pw_seq (pw_block (pw_seq (pw_region (yMd rfl (yMd rfl (yW ei (by omega) rfl rfl (yLr rfl rfl (yMd rfl ?_))))))))); refine yB rfl rfl rfl rfl (yQ (q_then ?_)); rw [t1]; refine pw_cf rfl (pw_skip (pw_region (yMd rfl (yB rfl rfl rfl rfl (yAd rfl (yQ (q_then ?_)))))))
      refine ⟨i + 1, ⟨by omega, h0⟩, by omega, rfl, ⟨.refl _, .refl _, .of_eq (congrArg (fun n => SV.d (dI n)) hw), trivial⟩, trivial, trivial, rfl⟩
  · simp at h
    rw [List.drop_of_length_le (by omega)] at h0
    subst h0
    refine pw_exit (pw_seq (pw_region (yAd rfl (yQ (pw_ret ?_)))))
    exact q_ret _ (.tmp rfl .nil) rfl
end Go.Proofs.YtdkpmnefoobipaaGreatDoor
namespace Go.Proofs.YtdkpmnefoobipaaGreatDoor
open Go.RowKit Px

end Go.Proofs.YtdkpmnefoobipaaGreatDoor
namespace Go.Proofs.YtdkpmnefoobipaaGreatDoor
open Go.RowKit Px

set_option maxRecDepth 20000 in
theorem wTrimPrefixL (s p : Str) : PCalls Tryz.prog 196 [dS s, dS p] (.d (dS (if hasP s p then s.drop p.length else s))) := by
  have c1 := wHasPrefixL s p
  refine pcalls_of_pw Tryz.func196 rfl Tryz.ntmps196 Tryz.results196 (by simp) fun B w0 => ?_
  cases h : hasP s p with
  | false =>
    rw [h] at c1
    refine pw_seq (pw_region (yAd rfl (yQ (pw_seq (pw_seq (pw_region (yMd rfl (yMd rfl (yC (c1) rfl rfl ?_))))))))); refine yQ (pw_cf rfl (pw_skip (pw_seq (pw_region (yMd rfl (yAd rfl (yQ (pw_ret ?_))))))))
    exact q_ret _ (.tmp rfl .nil) rfl
  | true =>
    rw [h] at c1
    have hl : p.length ≤ s.length := by simp [hasP] at h; exact h.1
    refine pw_seq (pw_region (yAd rfl (yQ (pw_seq (pw_seq (pw_region (yMd rfl (yMd rfl (yC (c1) rfl rfl ?_))))))))); refine yQ (pw_ct rfl (pw_seq (pw_region (yMd rfl (yMd rfl (yNs rfl (ySl0 (l' := s.drop p.length) (by omega) (by omega) (by simp) rfl rfl (yAd rfl (yQ ?_))))))))); refine pw_ret (q_then_ret ?_)
    exact q_ret _ (.tmp rfl .nil) rfl
set_option maxRecDepth 20000 in
theorem wTrimPrefix (s p : Str) : PCalls Tryz.prog 180 [dS s, dS p] (.d (dS (if hasP s p then s.drop p.length else s))) := by
  have c1 := wTrimPrefixL s p
  refine pcalls_of_pw Tryz.func180 rfl Tryz.ntmps180 Tryz.results180 (by simp) fun B w0 => ?_
  refine pw_seq (pw_region (yAd rfl (yQ (pw_seq (pw_region (yMd rfl (yMd rfl (yC (c1) rfl rfl (yAd rfl ?_))))))))); refine yQ (pw_ret ?_)
  exact q_ret _ (.tmp rfl .nil) rfl
theorem wTrimMinus (a : Str) : PCalls Tryz.prog 180 [dS a, dS [45]] (.d (dS (bod a))) := by
  have h := wTrimPrefix a [45]
  rw [show ([45] : Str).length = 1 from rfl, (hasP_minus a).2] at h
  exact h
theorem bod_ndig (a : Str) : (bod a).length = ndig a := by
  unfold bod ndig
  split
  · rw [List.length_tail]
  · rfl
theorem all_takeS {p : Str → Bool} {l : List Str} {i : Nat} {x : Str} (hx : l[i]? = some x) (h : (l.take i).all p = true) (hp : p x = true) : (l.take (i + 1)).all p = true := by
  rw [List.take_add_one, hx, List.all_append, h]; simp [hp]
theorem all_notS {p : Str → Bool} {l : List Str} {i : Nat} {x : Str} (hx : l[i]? = some x) (hp : p x = false) : l.all p = false := by
  rw [Bool.eq_false_iff]
  intro h
  rw [List.all_eq_true] at h
  have := h x (List.mem_of_getElem? hx)
  rw [hp] at this
  cases this

set_option maxRecDepth 20000 in
set_option maxHeartbeats 1000000 in
theorem wNumber (l : List Str) (hl : l.length ≤ 1000) (hs : ∀ a ∈ l, a.length ≤ 1000000) : PCalls Tryz.prog 142 [dCs l] (.d (dI (numE l))) := by
  obtain ⟨r, hr⟩ : ∃ r, r = numE l := ⟨_, rfl⟩
  rw [← hr]
  refine pcalls_of_pw Tryz.func142 rfl Tryz.ntmps142 Tryz.results142 (by simp) fun B w0 => ?_
  refine pw_seq (pw_region (yAd rfl (yQ (pw_seq (pw_seq (pw_region (yMd rfl (yN rfl (yMd rfl ?_))))))))); refine yQ (pw_block ?_); refine pw_loop (fun i : Nat => ⟨28, [(0, .d (dCs l)), (7, .d (dCs l)), (8, .d (dI l.length)), (9, .d (dI i))], [], []⟩) (fun i => i ≤ l.length ∧ (l.take i).all isC = true) (fun i => l.length - i) 0 ⟨Nat.zero_le _, rfl⟩ ⟨rfl, ⟨.refl _, .refl _, .of_eq (congrArg (fun n : Nat => SV.d (dI n)) (by simp)), .refl _, trivial⟩, trivial, trivial, rfl⟩ ?_
  rintro i ⟨hi, hal⟩
  refine pw_seq (pw_region (yB rfl rfl rfl rfl (yQ (pw_seq ?_)))); refine pw_cond rfl (fun h => ?_) (fun h => ?_)
  · simp at h
    obtain ⟨a, ha⟩ : ∃ a, l[i]? = some a := ⟨_, List.getElem?_eq_getElem h⟩
    have ei := ix dC l i i a rfl ha
    have hla := hs a (List.mem_of_getElem? ha)
    have hw := wrapI ((i : Int) + 1) (by omega)
    have c1 := wCheck a (by omega)
    cases hc : isC a with
    | true =>
      rw [hc] at c1
      refine pw_skip (pw_seq (pw_block (pw_seq (pw_region (yW ei (by omega) rfl rfl (yLr rfl rfl (yAd rfl (yQ (pw_seq ?_))))))))); refine pw_region (yMd rfl (yC (c1) rfl rfl (yB rfl rfl rfl rfl (yQ (pw_cf rfl (pw_skip (pw_region (yB rfl rfl rfl rfl (yMd rfl ?_))))))))); refine yQ (q_then ?_)
      refine ⟨i + 1, ⟨by omega, all_takeS ha hal hc⟩, by omega, rfl, ⟨.refl _, .refl _, .refl _, .of_eq (congrArg (fun n => SV.d (dI n)) hw), trivial⟩, trivial, trivial, rfl⟩
    | false =>
      rw [hc] at c1
      have e : r = 1 := by rw [hr, numE, all_notS ha hc]; rfl
      rw [e]
      refine pw_skip (pw_seq (pw_block (pw_seq (pw_region (yW ei (by omega) rfl rfl (yLr rfl rfl (yAd rfl (yQ (pw_seq ?_))))))))); refine pw_region (yMd rfl (yC (c1) rfl rfl (yB rfl rfl rfl rfl (yQ (pw_ct rfl (pw_seq (pw_region (yAd rfl (yQ ?_))))))))); refine pw_ret (q_blk_ret (q_then_ret (q_then_ret (q_blk_ret (q_then_ret ?_)))))
      exact q_ret _ (.tmp rfl .nil) rfl
  · simp at h
    have hall : l.all isC = true := by rw [List.take_of_length_le (by omega)] at hal; exact hal
    have hr2 : r = bif l.any (fun a => decide (40 < ndig a)) then 4 else 0 := by rw [hr, numE, hall]; rfl
    refine pw_exit (pw_seq (pw_seq (pw_region (yMd rfl (yN rfl (yMd rfl (yQ (pw_block ?_)))))))); refine pw_loop (fun i : Nat => ⟨28, [(17, .d (dCs l)), (18, .d (dI l.length)), (19, .d (dI i))], [], []⟩) (fun i => i ≤ l.length ∧ (l.take i).all (fun a => !decide (40 < ndig a)) = true) (fun i => l.length - i) 0 ⟨Nat.zero_le _, rfl⟩ ⟨rfl, ⟨.refl _, .of_eq (congrArg (fun n : Nat => SV.d (dI n)) (by simp)), .refl _, trivial⟩, trivial, trivial, rfl⟩ ?_
    rintro j ⟨hj, haj⟩
    refine pw_seq (pw_region (yB rfl rfl rfl rfl (yQ (pw_seq ?_)))); refine pw_cond rfl (fun h2 => ?_) (fun h2 => ?_)
    · simp at h2
      obtain ⟨a, ha⟩ : ∃ a, l[j]? = some a := ⟨_, List.getElem?_eq_getElem h2⟩
      have ei := ix dC l j j a rfl ha
      have hw := wrapI ((j : Int) + 1) (by omega)
      have c1 := wTrimMinus a
      have hb := bod_ndig a
      obtain ⟨b, hbb⟩ : ∃ b, b = bod a := ⟨_, rfl⟩
      rw [← hbb] at c1 hb
      by_cases hg : 40 < ndig a
      · have t1 : decide ((b.length : Int) > 40) = true := decide_eq_true (by omega)
        have e : r = 4 := by
          have : l.any (fun a => decide (40 < ndig a)) = true := List.any_eq_true.2 ⟨a, List.mem_of_getElem? ha, by simpa using hg⟩
          rw [hr2, this]; rfl
        rw [e]
        refine pw_skip (pw_seq (pw_block (pw_seq (pw_region (yW ei (by omega) rfl rfl (yLr rfl rfl (yAd rfl (yQ (pw_seq ?_))))))))); refine pw_region (yMd rfl (yC (c1) rfl rfl (yNs rfl (yB rfl rfl rfl rfl ?_)))); rw [t1]; refine yQ (pw_ct rfl (pw_seq (pw_region (yAd rfl (yQ (pw_ret (q_blk_ret (q_then_ret (q_then_ret ?_))))))))); refine q_blk_ret (q_then_ret ?_)
        exact q_ret _ (.tmp rfl .nil) rfl
      · have t1 : decide ((b.length : Int) > 40) = false := decide_eq_false (by omega)
        refine pw_skip (pw_seq (pw_block (pw_seq (pw_region (yW ei (by omega) rfl rfl (yLr rfl rfl (yAd rfl (yQ (pw_seq ?_))))))))); refine pw_region (yMd rfl (yC (c1) rfl rfl (yNs rfl (yB rfl rfl rfl rfl ?_)))); rw [t1]; refine yQ (pw_cf rfl (pw_skip (pw_region (yB rfl rfl rfl rfl (yMd rfl (yQ (q_then ?_)))))))
        refine ⟨j + 1, ⟨by omega, all_takeS ha haj (by simpa using by omega)⟩, by omega, rfl, ⟨.refl _, .refl _, .of_eq (congrArg (fun n => SV.d (dI n)) hw), trivial⟩, trivial, trivial, rfl⟩
    · simp at h2
      have e : r = 0 := by
        rw [List.take_of_length_le (by omega)] at haj
        have : l.any (fun a => decide (40 < ndig a)) = false := by
          rw [List.all_eq_true] at haj
          rw [Bool.eq_false_iff]
          intro e
          obtain ⟨a, h3, h4⟩ := List.any_eq_true.1 e
          have := haj a h3
          rw [h4] at this
          cases this
        rw [hr2, this]; rfl
      rw [e]
      refine pw_exit (pw_seq (pw_region (yAd rfl (yQ (pw_ret ?_)))))
      exact q_ret _ (.tmp rfl .nil) rfl

theorem prevI {i : Nat} (h : 0 < i) (hi : i ≤ 1000) : IntKind.i64.wrap ((i : Int) - 1) = ((i - 1 : Nat) : Int) := by rw [wrapI _ (by omega)]; omega

set_option maxRecDepth 20000 in
set_option maxHeartbeats 1000000 in
theorem wCheckHoldings (hs : List Hd) (hl : hs.length ≤ 64) (ho : ∀ h ∈ hs, okH h) : PCalls Tryz.prog 99 [.sl 2 (hs.map dH)] (.d (dI (fstE (hE hs) hs.length))) := by
  obtain ⟨r, hr⟩ : ∃ r, r = fstE (hE hs) hs.length := ⟨_, rfl⟩
  rw [← hr]
  refine pcalls_of_pw Tryz.func99 rfl Tryz.ntmps99 Tryz.results99 (by simp) fun B w0 => ?_
  have t0 : decide (((hs.map dH).length : Int) > 64) = false := decide_eq_false (by simp; omega)
  refine pw_seq (pw_region (yAd rfl (yQ (pw_seq (pw_seq (pw_region (yMd rfl (yN rfl (yB rfl rfl rfl rfl ?_))))))))); rw [t0]; refine yQ (pw_cf rfl (pw_skip (pw_seq (pw_seq (pw_region (yMd rfl (yN rfl (yMd rfl (yQ ?_))))))))); refine pw_block ?_; refine pw_loop (fun i : Nat => ⟨46, [(0, .d (.sl 2 (hs.map dH))), (9, .d (.sl 2 (hs.map dH))), (10, .d (dI hs.length)), (11, .d (dI i))], [], []⟩) (fun i => i ≤ hs.length ∧ fstE (hE hs) i = 0) (fun i => hs.length - i) 0 ⟨Nat.zero_le _, rfl⟩ ⟨rfl, ⟨.refl _, .refl _, .of_eq (congrArg (fun n : Nat => SV.d (dI n)) (by simp)), .refl _, trivial⟩, trivial, trivial, rfl⟩ ?_
  rintro i ⟨hi, h0⟩
  refine pw_seq (pw_region (yB rfl rfl rfl rfl (yQ (pw_seq ?_)))); refine pw_cond rfl (fun h => ?_) (fun h => ?_)
  · simp at h
    obtain ⟨⟨x, y⟩, hx⟩ : ∃ a, hs[i]? = some a := ⟨_, List.getElem?_eq_getElem h⟩
    have ei := ix dH hs i i (x, y) rfl hx
    obtain ⟨k1, k2⟩ := ho (x, y) (List.mem_of_getElem? hx)
    simp only at k1 k2
    have hw := wrapI ((i : Int) + 1) (by omega)
    have c1 := wName x
    have c2 := wNumber [y] (by simp) (fun a ha => by rw [List.mem_singleton.1 ha]; exact k2)
    have he : hE hs i = errH (if i = 0 then none else (hs[i - 1]?).map (·.1)) (x, y) := by unfold hE; rw [hx]
    have hat : hE hs i ≠ 0 → r = hE hs i := fun e => by rw [hr]; exact fstE_at h0 e _ h
    obtain ⟨nb, hnb⟩ : ∃ b, b = nameB x := ⟨_, rfl⟩
    obtain ⟨ne, hne⟩ : ∃ b, b = numE [y] := ⟨_, rfl⟩
    unfold errH at he
    simp only [← hnb, ← hne] at he
    rw [← hnb] at c1
    rw [← hne] at c2
    cases nb with
    | false =>
      have e : r = 23 := by
        have e1 : hE hs i = 23 := by rw [he]; rfl
        rw [hat (by rw [e1]; decide), e1]
      rw [e]
      refine pw_skip (pw_seq (pw_block (pw_seq (pw_region (yMd rfl (yW ei (by omega) rfl rfl (yLs (ys := [_, _]) rfl rfl rfl (yZ (cs := [_, _]) rfl rfl (yAd rfl ?_))))))))); refine yS (cs' := [_, _]) rfl rfl rfl rfl rfl (yQ (pw_seq (pw_seq (pw_region (yFb rfl (yLd rfl rfl rfl (yC (c1) rfl rfl (yU rfl rfl rfl (yQ ?_))))))))); refine pw_ct rfl (pw_seq (pw_region (yAd rfl (yQ (pw_ret (q_then_ret (q_blk_ret (q_then_ret (q_then_ret ?_))))))))); refine q_blk_ret (q_then_ret ?_)
      exact q_ret _ (.tmp rfl .nil) rfl
    | true =>
      by_cases hz : ne = 0
      rotate_left
      · have t1 : (ne != 0) = true := by simpa using hz
        have t2 : (ne == 0) = false := by simpa using hz
        have e : r = ne := by
          have e1 : hE hs i = ne := by rw [he, t2]; rfl
          rw [hat (by rw [e1]; exact hz), e1]
        rw [e]
        refine pw_skip (pw_seq (pw_block (pw_seq (pw_region (yMd rfl (yW ei (by omega) rfl rfl (yLs (ys := [_, _]) rfl rfl rfl (yZ (cs := [_, _]) rfl rfl (yAd rfl ?_))))))))); refine yS (cs' := [_, _]) rfl rfl rfl rfl rfl (yQ (pw_seq (pw_seq (pw_region (yFb rfl (yLd rfl rfl rfl (yC (c1) rfl rfl (yU rfl rfl rfl (yQ ?_))))))))); refine pw_cf rfl (pw_skip (pw_seq (pw_seq (pw_region (yFb rfl (yLd rfl rfl rfl (yR (es := [[_]]) rfl rfl rfl rfl rfl (yC (c2) rfl rfl (yAd rfl ?_))))))))); refine yQ (pw_seq (pw_region (yMd rfl (yB rfl rfl rfl rfl ?_)))); rw [t1]; refine yQ (pw_ct rfl (pw_seq (pw_region (yMd rfl (yAd rfl (yQ (pw_ret (q_then_ret (q_blk_ret ?_))))))))); refine q_then_ret (q_then_ret (q_blk_ret (q_then_ret ?_)))
        exact q_ret _ (.tmp rfl .nil) rfl
      subst hz
      have hyn : (y == ([] : Str)) = true ∨ (y == ([] : Str)) = false := by cases (y == ([] : Str)) <;> simp
      rcases hyn with t2 | t2
      · have e : r = 2 := by
          have e1 : hE hs i = 2 := by rw [he, t2]; rfl
          rw [hat (by rw [e1]; decide), e1]
        rw [e]
        refine pw_skip (pw_seq (pw_block (pw_seq (pw_region (yMd rfl (yW ei (by omega) rfl rfl (yLs (ys := [_, _]) rfl rfl rfl (yZ (cs := [_, _]) rfl rfl (yAd rfl ?_))))))))); refine yS (cs' := [_, _]) rfl rfl rfl rfl rfl (yQ (pw_seq (pw_seq (pw_region (yFb rfl (yLd rfl rfl rfl (yC (c1) rfl rfl (yU rfl rfl rfl (yQ ?_))))))))); refine pw_cf rfl (pw_skip (pw_seq (pw_seq (pw_region (yFb rfl (yLd rfl rfl rfl (yR (es := [[_]]) rfl rfl rfl rfl rfl (yC (c2) rfl rfl (yAd rfl ?_))))))))); refine yQ (pw_seq (pw_region (yMd rfl (yB rfl rfl rfl rfl (yQ (pw_cf rfl (pw_skip (pw_block (pw_seq ?_))))))))); refine pw_region (yFb rfl (yLd rfl rfl rfl (yBse rfl rfl ?_))); rw [t2]; refine yAd rfl (yQ (pw_ct rfl (pw_seq (pw_region (yAd rfl (yQ (pw_ret (q_blk_ret (q_blk_ret ?_))))))))); refine q_then_ret (q_then_ret (q_blk_ret (q_then_ret ?_)))
        exact q_ret _ (.tmp rfl .nil) rfl
      rw [t2] at he
      by_cases hi0 : i = 0
      · subst hi0
        have e1 : hE hs 0 = 0 := by rw [he]; rfl
        refine pw_skip (pw_seq (pw_block (pw_seq (pw_region (yMd rfl (yW ei (by omega) rfl rfl (yLs (ys := [_, _]) rfl rfl rfl (yZ (cs := [_, _]) rfl rfl (yAd rfl ?_))))))))); refine yS (cs' := [_, _]) rfl rfl rfl rfl rfl (yQ (pw_seq (pw_seq (pw_region (yFb rfl (yLd rfl rfl rfl (yC (c1) rfl rfl (yU rfl rfl rfl (yQ ?_))))))))); refine pw_cf rfl (pw_skip (pw_seq (pw_seq (pw_region (yFb rfl (yLd rfl rfl rfl (yR (es := [[_]]) rfl rfl rfl rfl rfl (yC (c2) rfl rfl (yAd rfl ?_))))))))); refine yQ (pw_seq (pw_region (yMd rfl (yB rfl rfl rfl rfl (yQ (pw_cf rfl (pw_skip (pw_block (pw_seq ?_))))))))); refine pw_region (yFb rfl (yLd rfl rfl rfl (yBse rfl rfl ?_))); rw [t2]; refine yAd rfl (yQ (pw_cf rfl (pw_seq ?_))); refine pw_draw Tryz.mixed (by kernel_rfl) ?_; refine yMd rfl (yB rfl rfl rfl rfl (yMd rfl (yO rfl (yO rfl (yO rfl (yO rfl (yO rfl (yO rfl (yO rfl ?_))))))))); refine yO rfl (yO rfl (yVd rfl rfl (yAd rfl (yQ (pw_cf rfl (pw_skip (pw_region (yB rfl rfl rfl rfl (yMd rfl ?_))))))))); refine yQ (q_then ?_)
        refine ⟨1, ⟨by omega, fstE_next h0 e1⟩, by omega, rfl, ⟨.refl _, .refl _, .refl _, .of_eq (congrArg (fun n => SV.d (dI n)) hw), trivial⟩, trivial, trivial, rfl⟩
      have t3 : decide ((i : Int) > 0) = true := decide_eq_true (by omega)
      obtain ⟨⟨px, py⟩, hp⟩ : ∃ a, hs[i - 1]? = some a := ⟨_, List.getElem?_eq_getElem (by omega)⟩
      have ep := ix dH hs _ (i - 1) (px, py) (prevI (by omega) (by omega)) hp
      rw [if_neg hi0, hp] at he
      have hle := leS_not x px
      obtain ⟨lb, hlb⟩ : ∃ b, b = ltS px x := ⟨_, rfl⟩
      simp only [Option.map_some, ← hlb] at he
      rw [← hlb] at hle
      have h0p : (0 : Int) ≤ IntKind.i64.wrap ((i : Int) - 1) := by rw [prevI (by omega) (by omega)]; omega
      cases lb with
      | true =>
        have e1 : hE hs i = 0 := by rw [he]; rfl
        refine pw_skip (pw_seq (pw_block (pw_seq (pw_region (yMd rfl (yW ei (by omega) rfl rfl (yLs (ys := [_, _]) rfl rfl rfl (yZ (cs := [_, _]) rfl rfl (yAd rfl ?_))))))))); refine yS (cs' := [_, _]) rfl rfl rfl rfl rfl (yQ (pw_seq (pw_seq (pw_region (yFb rfl (yLd rfl rfl rfl (yC (c1) rfl rfl (yU rfl rfl rfl (yQ ?_))))))))); refine pw_cf rfl (pw_skip (pw_seq (pw_seq (pw_region (yFb rfl (yLd rfl rfl rfl (yR (es := [[_]]) rfl rfl rfl rfl rfl (yC (c2) rfl rfl (yAd rfl ?_))))))))); refine yQ (pw_seq (pw_region (yMd rfl (yB rfl rfl rfl rfl (yQ (pw_cf rfl (pw_skip (pw_block (pw_seq ?_))))))))); refine pw_region (yFb rfl (yLd rfl rfl rfl (yBse rfl rfl ?_))); rw [t2]; refine yAd rfl (yQ (pw_cf rfl (pw_seq ?_))); refine pw_draw Tryz.mixed (by kernel_rfl) ?_; refine yMd rfl (yB rfl rfl rfl rfl ?_); rw [t3]; refine yMd rfl (yFb rfl (yLd rfl rfl rfl (yMd rfl (yMd rfl (yB rfl rfl rfl rfl (yW ep h0p rfl rfl (yFr rfl rfl (yLr rfl rfl (yBsm rfl rfl ?_))))))))); rw [hle]; refine yPd rfl rfl (yAd rfl (yQ (pw_cf rfl (pw_skip (pw_region (yB rfl rfl rfl rfl (yMd rfl (yQ (q_then ?_)))))))))
        refine ⟨i + 1, ⟨by omega, fstE_next h0 e1⟩, by omega, rfl, ⟨.refl _, .refl _, .refl _, .of_eq (congrArg (fun n => SV.d (dI n)) hw), trivial⟩, trivial, trivial, rfl⟩
      | false =>
        have e : r = 8 := by
          have e1 : hE hs i = 8 := by rw [he]; rfl
          rw [hat (by rw [e1]; decide), e1]
        rw [e]
        refine pw_skip (pw_seq (pw_block (pw_seq (pw_region (yMd rfl (yW ei (by omega) rfl rfl (yLs (ys := [_, _]) rfl rfl rfl (yZ (cs := [_, _]) rfl rfl (yAd rfl ?_))))))))); refine yS (cs' := [_, _]) rfl rfl rfl rfl rfl (yQ (pw_seq (pw_seq (pw_region (yFb rfl (yLd rfl rfl rfl (yC (c1) rfl rfl (yU rfl rfl rfl (yQ ?_))))))))); refine pw_cf rfl (pw_skip (pw_seq (pw_seq (pw_region (yFb rfl (yLd rfl rfl rfl (yR (es := [[_]]) rfl rfl rfl rfl rfl (yC (c2) rfl rfl (yAd rfl ?_))))))))); refine yQ (pw_seq (pw_region (yMd rfl (yB rfl rfl rfl rfl (yQ (pw_cf rfl (pw_skip (pw_block (pw_seq ?_))))))))); refine pw_region (yFb rfl (yLd rfl rfl rfl (yBse rfl rfl ?_))); rw [t2]; refine yAd rfl (yQ (pw_cf rfl (pw_seq ?_))); refine pw_draw Tryz.mixed (by kernel_rfl) ?_; refine yMd rfl (yB rfl rfl rfl rfl ?_); rw [t3]; refine yMd rfl (yFb rfl (yLd rfl rfl rfl (yMd rfl (yMd rfl (yB rfl rfl rfl rfl (yW ep h0p rfl rfl (yFr rfl rfl (yLr rfl rfl (yBsm rfl rfl ?_))))))))); rw [hle]; refine yPd rfl rfl (yAd rfl (yQ (pw_ct rfl (pw_seq (pw_region (yAd rfl (yQ (pw_ret (q_blk_ret ?_))))))))); refine q_blk_ret (q_then_ret (q_then_ret (q_blk_ret (q_then_ret ?_))))
        exact q_ret _ (.tmp rfl .nil) rfl
  · simp at h
    have e : r = 0 := by rw [hr, show hs.length = i by omega]; exact h0
    rw [e]
    refine pw_exit (pw_seq (pw_region (yAd rfl (yQ (pw_ret ?_)))))
    exact q_ret _ (.tmp rfl .nil) rfl
end Go.Proofs.YtdkpmnefoobipaaGreatDoor
namespace Go.Proofs.YtdkpmnefoobipaaGreatDoor
open Go.RowKit Px

set_option maxRecDepth 20000 in
theorem wHeld (s : Stm) (hl : s.hs.length ≤ 1000) (n : Str) : PCalls Tryz.prog 51 [.agg (dSt s), dS n] (.tup [dS ((hld n s.hs).getD []), dB (hld n s.hs).isSome]) := by
  obtain ⟨d, hs, ms⟩ := s
  simp only at hl ⊢
  obtain ⟨r, hr⟩ : ∃ r, r = hld n hs := ⟨_, rfl⟩
  rw [← hr]
  refine pcalls_of_pw Tryz.func51 rfl Tryz.ntmps51 Tryz.results51 (by simp) fun B w0 => ?_
  refine pw_seq (pw_region (yK (cs := [_, _, _]) rfl rfl (yAd rfl (yAd rfl (yQ (pw_seq (pw_seq (pw_region (yFb rfl ?_))))))))); refine yLd rfl rfl rfl (yN rfl (yMd rfl (yQ (pw_block ?_)))); refine pw_loop (fun i : Nat => ⟨22, [(1, .d (dS n)), (9, .d (.sl 2 (hs.map dH))), (10, .d (dI hs.length)), (11, .d (dI i))], [], []⟩) (fun i => i ≤ hs.length ∧ hld n (hs.drop i) = r) (fun i => hs.length - i) 0 ⟨Nat.zero_le _, hr.symm⟩ ⟨rfl, ⟨.refl _, .refl _, .of_eq (congrArg (fun n : Nat => SV.d (dI n)) (by simp)), .refl _, trivial⟩, trivial, trivial, rfl⟩ ?_
  rintro i ⟨hi, h0⟩
  refine pw_seq (pw_region (yB rfl rfl rfl rfl (yQ (pw_seq ?_)))); refine pw_cond rfl (fun h => ?_) (fun h => ?_)
  · simp at h
    obtain ⟨⟨x, y⟩, hx⟩ : ∃ a, hs[i]? = some a := ⟨_, List.getElem?_eq_getElem h⟩
    have ei := ix dH hs i i (x, y) rfl hx
    have hw := wrapI ((i : Int) + 1) (by omega)
    rw [drop_cons hx] at h0
    unfold hld at h0
    simp only at h0
    cases t1 : (x == n) with
    | true =>
      rw [t1, if_pos rfl] at h0
      subst h0
      refine pw_skip (pw_seq (pw_block (pw_seq (pw_region (yW ei (by omega) rfl rfl (yLs (ys := [_, _]) rfl rfl rfl (yZ (cs := [_, _]) rfl rfl (yS (cs' := [_, _]) rfl rfl rfl rfl rfl (yQ ?_))))))))); refine pw_seq (pw_region (yFb rfl (yLd rfl rfl rfl (yMd rfl (yBse rfl rfl (yQ (q_then ?_))))))); rw [t1]
      refine pw_ct rfl (pw_seq (pw_region (yFb rfl (yLd rfl rfl rfl (yAd rfl (yAd rfl (yQ (pw_ret (q_blk_ret ?_))))))))); refine q_then_ret (q_then_ret (q_blk_ret (q_then_ret ?_)))
      exact q_ret _ (.tmp rfl (.tmp rfl .nil)) rfl
    | false =>
      rw [t1, if_neg (by simp)] at h0
      refine pw_skip (pw_seq (pw_block (pw_seq (pw_region (yW ei (by omega) rfl rfl (yLs (ys := [_, _]) rfl rfl rfl (yZ (cs := [_, _]) rfl rfl (yS (cs' := [_, _]) rfl rfl rfl rfl rfl (yQ ?_))))))))); refine pw_seq (pw_region (yFb rfl (yLd rfl rfl rfl (yMd rfl (yBse rfl rfl (yQ (q_then ?_))))))); rw [t1]
      refine pw_cf rfl (pw_skip (pw_region (yB rfl rfl rfl rfl (yMd rfl (yQ (q_then ?_))))))
      refine ⟨i + 1, ⟨by omega, h0⟩, by omega, rfl, ⟨.refl _, .refl _, .refl _, .of_eq (congrArg (fun n => SV.d (dI n)) hw), trivial⟩, trivial, trivial, rfl⟩
  · simp at h
    rw [List.drop_of_length_le (by omega)] at h0
    subst h0
    refine pw_exit (pw_seq (pw_region (yAd rfl (yAd rfl (yQ (pw_ret ?_))))))
    exact q_ret _ (.tmp rfl (.tmp rfl .nil)) rfl

set_option maxRecDepth 20000 in
theorem wApart (m x : Mv) (hm : vD m.2.1 = true) (hx : vD x.2.1 = true) : PCalls Tryz.prog 102 [.agg (dM m), .agg (dM x)] (.d (dI (apt m.2.1 x.2.1))) := by
  obtain ⟨a, d, b, q, u⟩ := m
  obtain ⟨a', d', b', q', u'⟩ := x
  simp only [vD, Bool.and_eq_true, decide_eq_true_eq] at hm hx ⊢
  have w1 := wrapI (d - d') (by omega)
  have w2 := wrapI (d' - d) (by omega)
  refine pcalls_of_pw Tryz.func102 rfl Tryz.ntmps102 Tryz.results102 (by simp) fun B w0 => ?_
  refine pw_seq (pw_region (yK (cs := [_, _, _, _, _]) rfl rfl (yK (cs := [_, _, _, _, _]) rfl rfl (yAd rfl (yQ (pw_seq (pw_region (yFb rfl (yLd rfl rfl rfl ?_))))))))); refine yFb rfl (yLd rfl rfl rfl (yB rfl rfl rfl rfl (yFb rfl (yLd rfl rfl rfl (yFb rfl (yLd rfl rfl rfl (yB rfl rfl rfl rfl (yI rfl rfl rfl (yAd rfl ?_))))))))); refine yQ (pw_ret ?_); rw [w1]; rw [w2]
  exact q_ret _ (.tmp rfl .nil) (congrArg (fun n => SV.d (dI n)) (by unfold apt; split <;> omega))

set_option maxRecDepth 20000 in
theorem wRApart (m x : Mv) (hm : vD m.2.1 = true) (hx : vD x.2.1 = true) : PCalls Tryz.prog 72 [.agg (dM m), .agg (dM x)] (.d (dI (apt m.2.1 x.2.1))) := by
  obtain ⟨a, d, b, q, u⟩ := m
  obtain ⟨a', d', b', q', u'⟩ := x
  simp only [vD, Bool.and_eq_true, decide_eq_true_eq] at hm hx ⊢
  have w1 := wrapI (d - d') (by omega)
  have w2 := wrapI (d' - d) (by omega)
  refine pcalls_of_pw Tryz.func72 rfl Tryz.ntmps72 Tryz.results72 (by simp) fun B w0 => ?_
  by_cases h : d < d'
  · have t1 : decide (d < d') = true := decide_eq_true h
    refine pw_seq (pw_region (yK (cs := [_, _, _, _, _]) rfl rfl (yK (cs := [_, _, _, _, _]) rfl rfl (yAd rfl (yQ (pw_seq (pw_seq (pw_region (yFb rfl ?_))))))))); refine yLd rfl rfl rfl (yFb rfl (yLd rfl rfl rfl (yB rfl rfl rfl rfl (yQ (q_then ?_))))); rw [t1]; refine pw_ct rfl (pw_seq (pw_region (yFb rfl (yLd rfl rfl rfl (yFb rfl (yLd rfl rfl rfl (yB rfl rfl rfl rfl (yAd rfl (yQ ?_))))))))); refine pw_ret (q_then_ret ?_)
    exact q_ret _ (.tmp rfl .nil) (congrArg (fun n => SV.d (dI n)) (by rw [w2]; unfold apt; omega))
  · have t1 : decide (d < d') = false := decide_eq_false h
    refine pw_seq (pw_region (yK (cs := [_, _, _, _, _]) rfl rfl (yK (cs := [_, _, _, _, _]) rfl rfl (yAd rfl (yQ (pw_seq (pw_seq (pw_region (yFb rfl ?_))))))))); refine yLd rfl rfl rfl (yFb rfl (yLd rfl rfl rfl (yB rfl rfl rfl rfl (yQ (q_then ?_))))); rw [t1]; refine pw_cf rfl (pw_skip (pw_seq (pw_region (yFb rfl (yLd rfl rfl rfl (yFb rfl (yLd rfl rfl rfl (yB rfl rfl rfl rfl (yAd rfl ?_))))))))); refine yQ (pw_ret ?_)
    exact q_ret _ (.tmp rfl .nil) (congrArg (fun n => SV.d (dI n)) (by rw [w1]; unfold apt; omega))

def phF (tk : List Bool) (xs : List DV) (r : SV) : Prop := ∃ k : Nat, k < tk.length ∧ xs = [dI k] ∧ r = .d (dB (!tkn tk k))
theorem tk_at {tk : List Bool} {k : Nat} (h : k < tk.length) : (tk.map dBl)[(k : Int).toNat]? = some (dBl (tkn tk k)) := by
  rw [Int.toNat_natCast, List.getElem?_map]
  unfold tkn
  rw [List.getElem?_eq_getElem h]
  rfl
set_option maxRecDepth 20000 in
theorem wFree (tk : List Bool) (k : Nat) (h : k < tk.length) : PCalls Tryz.prog 69 [dI k, .ref [.sl 1 (tk.map dBl)]] (.d (dB (!tkn tk k))) := by
  have ek := tk_at h
  obtain ⟨b, hb⟩ : ∃ b, b = tkn tk k := ⟨_, rfl⟩
  rw [← hb] at ek ⊢
  refine pcalls_of_pw Tryz.func69 rfl Tryz.ntmps69 Tryz.results69 (by simp) fun B w0 => ?_
  refine pw_ref 1 rfl ?_
  refine pw_seq (pw_region (yAd rfl (yQ (pw_seq (pw_region (yLr rfl rfl (yMd rfl (yW ek (by omega) rfl rfl (yLr rfl rfl ?_))))))))); refine yU rfl rfl rfl (yAd rfl (yQ (pw_ret ?_)))
  exact q_ret _ (.tmp rfl .nil) rfl
theorem phF_free (tk : List Bool) : ∀ xs r, phF tk xs r → PCalls Tryz.prog 69 (xs ++ [[DV.sl 1 (tk.map dBl)]].map .ref) r := by
  rintro xs r ⟨k, hk, rfl, rfl⟩
  exact wFree tk k hk

set_option maxRecDepth 20000 in
set_option maxHeartbeats 1000000 in
theorem wByRef (m : Mv) (l : List Mv) (tk : List Bool) (hl : l.length ≤ 1000) (ht : l.length ≤ tk.length) : PCalls Tryz.prog 70 [.agg (dM m), .sl 5 (l.map dM), dF Tryz.prog (phF tk)] (.d (dI (ixO (fRf m tk l 0)))) := by
  obtain ⟨a, d, b, q, u⟩ := m
  obtain ⟨r, hr⟩ : ∃ r, r = fRf (a, d, b, q, u) tk l 0 := ⟨_, rfl⟩
  rw [← hr]
  refine pcalls_of_pw Tryz.func70 rfl Tryz.ntmps70 Tryz.results70 (by simp) fun B w0 => ?_
  refine pw_seq (pw_region (yK (cs := [_, _, _, _, _]) rfl rfl (yAd rfl (yQ (pw_seq (pw_seq (pw_region (yMd rfl (yN rfl ?_))))))))); refine yMd rfl (yQ (pw_block ?_)); refine pw_loop (fun i : Nat => ⟨35, [(2, .d (dF Tryz.prog (phF tk))), (3, .bx 3 0), (9, .d (.sl 5 (l.map dM))), (10, .d (dI l.length)), (11, .d (dI i))], [(3, [.d (dS a), .d (dI d), .d (dS b), .d (dS q), .d (dS u)])], []⟩) (fun i => i ≤ l.length ∧ fRf (a, d, b, q, u) tk (l.drop i) i = r) (fun i => l.length - i) 0 ⟨Nat.zero_le _, hr.symm⟩ ⟨rfl, ⟨.refl _, .refl _, .refl _, .of_eq (congrArg (fun n : Nat => SV.d (dI n)) (by simp)), .refl _, trivial⟩, ⟨⟨_, rfl, .refl _, .refl _, .refl _, .refl _, .refl _, trivial⟩, trivial⟩, trivial, rfl⟩ ?_
  rintro i ⟨hi, h0⟩
  refine pw_seq (pw_region (yB rfl rfl rfl rfl (yQ (pw_seq ?_)))); refine pw_cond rfl (fun h => ?_) (fun h => ?_)
  · simp at h
    obtain ⟨⟨x, xd, y, z, v⟩, hx⟩ : ∃ a, l[i]? = some a := ⟨_, List.getElem?_eq_getElem h⟩
    have ei := ix dM l i i (x, xd, y, z, v) rfl hx
    have hw := wrapI ((i : Int) + 1) (by omega)
    rw [drop_cons hx] at h0
    unfold fRf at h0
    simp only at h0
    obtain ⟨f, hf⟩ : ∃ f, f = !tkn tk i := ⟨_, rfl⟩
    rw [← hf] at h0
    have hph : phF tk [dI i] (.d (dB f)) := ⟨i, by omega, rfl, by rw [hf]⟩
    cases f with
    | false =>
      rw [if_neg (by simp)] at h0
      refine pw_skip (pw_seq (pw_block (pw_seq (pw_region (yMd rfl (yW ei (by omega) rfl rfl (yLs (ys := [_, _, _, _, _]) rfl rfl rfl (yZ (cs := [_, _, _, _, _]) rfl rfl (yAd rfl ?_))))))))); refine yS (cs' := [_, _, _, _, _]) rfl rfl rfl rfl rfl (yQ (pw_seq (pw_region (yMd rfl (yMd rfl (yCv hph rfl rfl rfl (yMd rfl (yO rfl (yO rfl ?_))))))))); refine yO rfl (yO rfl (yO rfl (yVd rfl rfl (yMd rfl (yO rfl (yO rfl (yO rfl (yO rfl (yO rfl ?_))))))))); refine yVd rfl rfl (yQ (pw_cf rfl (pw_skip (pw_region (yB rfl rfl rfl rfl (yMd rfl (yQ (q_then ?_))))))))
      refine ⟨i + 1, ⟨by omega, h0⟩, by omega, rfl, ⟨.refl _, .refl _, .refl _, .refl _, .of_eq (congrArg (fun n => SV.d (dI n)) hw), trivial⟩, ⟨⟨_, rfl, .refl _, .refl _, .refl _, .refl _, .refl _, trivial⟩, trivial⟩, trivial, rfl⟩
    | true =>
      cases t1 : (x == a) with
      | false =>
        rw [t1, if_neg (by simp)] at h0
        refine pw_skip (pw_seq (pw_block (pw_seq (pw_region (yMd rfl (yW ei (by omega) rfl rfl (yLs (ys := [_, _, _, _, _]) rfl rfl rfl (yZ (cs := [_, _, _, _, _]) rfl rfl (yAd rfl ?_))))))))); refine yS (cs' := [_, _, _, _, _]) rfl rfl rfl rfl rfl (yQ (pw_seq (pw_region (yMd rfl (yMd rfl (yCv hph rfl rfl rfl (yMd rfl (yFb rfl (yLd rfl rfl rfl ?_))))))))); refine yFb rfl (yLd rfl rfl rfl (yBse rfl rfl (yPd rfl rfl (yMd rfl ?_)))); rw [t1]
        refine yO rfl (yO rfl (yO rfl (yO rfl (yO rfl (yVd rfl rfl (yQ (pw_cf rfl (pw_skip (pw_region ?_))))))))); refine yB rfl rfl rfl rfl (yMd rfl (yQ (q_then ?_)))
        refine ⟨i + 1, ⟨by omega, h0⟩, by omega, rfl, ⟨.refl _, .refl _, .refl _, .refl _, .of_eq (congrArg (fun n => SV.d (dI n)) hw), trivial⟩, ⟨⟨_, rfl, .refl _, .refl _, .refl _, .refl _, .refl _, trivial⟩, trivial⟩, trivial, rfl⟩
      | true =>
        cases t2 : (y == b) with
        | false =>
          rw [t1, t2, if_neg (by simp)] at h0
          refine pw_skip (pw_seq (pw_block (pw_seq (pw_region (yMd rfl (yW ei (by omega) rfl rfl (yLs (ys := [_, _, _, _, _]) rfl rfl rfl (yZ (cs := [_, _, _, _, _]) rfl rfl (yAd rfl ?_))))))))); refine yS (cs' := [_, _, _, _, _]) rfl rfl rfl rfl rfl (yQ (pw_seq (pw_region (yMd rfl (yMd rfl (yCv hph rfl rfl rfl (yMd rfl (yFb rfl (yLd rfl rfl rfl ?_))))))))); refine yFb rfl (yLd rfl rfl rfl (yBse rfl rfl (yPd rfl rfl (yMd rfl ?_)))); rw [t1]
          refine yFb rfl (yLd rfl rfl rfl (yFb rfl (yLd rfl rfl rfl (yBse rfl rfl (yPd rfl rfl (yQ (q_then ?_))))))); rw [t2]; refine pw_cf rfl (pw_skip (pw_region (yB rfl rfl rfl rfl (yMd rfl (yQ (q_then ?_))))))
          refine ⟨i + 1, ⟨by omega, h0⟩, by omega, rfl, ⟨.refl _, .refl _, .refl _, .refl _, .of_eq (congrArg (fun n => SV.d (dI n)) hw), trivial⟩, ⟨⟨_, rfl, .refl _, .refl _, .refl _, .refl _, .refl _, trivial⟩, trivial⟩, trivial, rfl⟩
        | true =>
          rw [t1, t2, if_pos (by simp)] at h0
          subst h0
          refine pw_skip (pw_seq (pw_block (pw_seq (pw_region (yMd rfl (yW ei (by omega) rfl rfl (yLs (ys := [_, _, _, _, _]) rfl rfl rfl (yZ (cs := [_, _, _, _, _]) rfl rfl (yAd rfl ?_))))))))); refine yS (cs' := [_, _, _, _, _]) rfl rfl rfl rfl rfl (yQ (pw_seq (pw_region (yMd rfl (yMd rfl (yCv hph rfl rfl rfl (yMd rfl (yFb rfl (yLd rfl rfl rfl ?_))))))))); refine yFb rfl (yLd rfl rfl rfl (yBse rfl rfl (yPd rfl rfl (yMd rfl ?_)))); rw [t1]
          refine yFb rfl (yLd rfl rfl rfl (yFb rfl (yLd rfl rfl rfl (yBse rfl rfl (yPd rfl rfl (yQ (q_then ?_))))))); rw [t2]; refine pw_ct rfl (pw_seq (pw_region (yMd rfl (yAd rfl (yQ (pw_ret (q_blk_ret (q_then_ret (q_then_ret ?_))))))))); refine q_blk_ret (q_then_ret ?_)
          exact q_ret _ (.tmp rfl .nil) rfl
  · simp at h
    rw [List.drop_of_length_le (by omega)] at h0
    subst h0
    refine pw_exit (pw_seq (pw_region (yAd rfl (yQ (pw_ret ?_)))))
    exact q_ret _ (.tmp rfl .nil) rfl
end Go.Proofs.YtdkpmnefoobipaaGreatDoor
set_option maxHeartbeats 1000000
namespace Go.Proofs.YtdkpmnefoobipaaGreatDoor.Px
open Go.RowKit

theorem Rep.rebox {B : Nat} {w0 : Cx} {g : Gh} {st : PS} {a : Act} {w w' : World} (h : Rep B w0 g st a w) {i b b' T : Nat} (hlt : i < 500000) (hsm : smB i) (hbl : g.bl i = some b) (hb0 : Below 0 w w') (hne : ∀ k, k < w.heap.size → k ≠ b → w'.heap[k]? = w.heap[k]?) (hbb : b' = b ∨ w.heap.size ≤ b')
    (xs : Array Value) (hheap : w'.heap[b']? = some (.cells xs T (0, 0))) (vs : List Value) (hl : vs.length ≤ xs.size) (hx : ∀ (j : Nat) u, vs[j]? = some u → xs[j]? = some u ∧ u.oneCell' = true) :
    Rep B w0 (g.addb i b') ((st.kill i).bput i (vs.map fun u => .d (.val u))) a w' := by
  have hbs : b' < w'.heap.size := (Array.getElem?_eq_some_iff.1 hheap).1
  have hothers : ∀ j c, j ≠ i → g.bl j = some c → c ≠ b' ∧ w'.heap[c]? = w.heap[c]? := fun j c hj hc => by
    have h1 : c ≠ b := fun e => hj (h.inj j i b (by rw [hc, e]) hbl)
    have h2 := (h.blk j c hc).2
    refine ⟨fun e => ?_, hne c h2 h1⟩
    rcases hbb with e2 | e2
    · exact h1 (e.trans e2)
    · omega
  have ev : Evo g w (g.addb i b') w' := by
    refine ⟨hb0, rfl, fun c o hf hs => ?_, fun c hc => ?_, fun j c hj => ?_, fun _ T h => .inl ⟨T, h, .inl rfl⟩, fun t T _ h h' => .inr (.inr ⟨t, T, h, h'⟩), fun j c hj hc hc' => ?_⟩
    · have hcl := see_lt hs
      have hcb : c ≠ b := fun e => hf.2.1 i (by rw [hbl, e])
      refine ⟨⟨hf.1, fun j hj => ?_, hf.2.2⟩, see_of_block (hne c hcl hcb) o⟩
      simp only [Gh.addb] at hj
      split at hj
      · cases hj
        rcases hbb with e2 | e2
        · exact hcb e2
        · omega
      · exact hf.2.1 j hj
    · rcases Nat.lt_or_ge c w.heap.size with h1 | h1
      · exact hne c h1 fun e => hc (.inr (.inl ⟨i, e ▸ hbl⟩))
      · exact absurd (.inl h1) hc
    · simp only [Gh.addb] at hj
      split at hj
      · rename_i e
        cases hj
        refine .inr ⟨e ▸ hsm, ?_⟩
        rcases hbb with e2 | e2
        · exact .inr (.inl ⟨i, e2 ▸ hbl⟩)
        · exact .inl e2
      · exact .inl hj
    · have hji : j ≠ i := fun e => hj (e ▸ hsm)
      exact shape_of_block (hothers j c hji hc).2
  have srep : ∀ v x, SRep g w v x → SRep (g.addb i b') w' v (x.kill i) := fun v x hx =>
    (hx.le (kill_le i x)).extp ev.fx (fun j hj c hc => by
      simp only [Gh.addb]
      rw [if_neg (kill_ids hj).2]
      exact hc) (fun t' k' es e T' hT' => ⟨T', hT', .inl rfl⟩) fun j hj c hc => shape_of_block (hothers j c (kill_ids hj).2 hc).2
  obtain ⟨-, hk⟩ := h.kill i
  have hxs : ∀ (j : Nat) c, (vs.map fun u => SV.d (.val u))[j]? = some c → ∃ x, xs[j]? = some x ∧ SRep (g.addb i b') w' x c := fun j c hj => by
    rw [List.getElem?_map, Option.map_eq_some_iff] at hj
    obtain ⟨u, hu, rfl⟩ := hj
    obtain ⟨h1, h2⟩ := hx j u hu
    exact ⟨u, h1, DRep.val u h2⟩
  refine { hk with evo := h.evo.trans ev, base := Nat.le_trans h.base hb0.size, f0 := h.f0, lim := hk.lim, size := hk.size, glob := fun q cs hq => srep _ (.rd cs) (h.glob q cs hq), slots := fun j => ?_, boxes := fun j cs' hj hj5 => ?_, maps := fun j ms hj hge => ?_, blk := fun j c hj => ?_, dom := fun j c hj => ?_, inj := fun j k c hj hk => ?_, toks := fun t' T' hT' => ?_, tf0 := h.tf0, telt := h.telt, tdis := h.tdis, tdom := h.tdom, tlen := h.tlen }
  · show SRep _ w' _ ((st.kill i).get j)
    rw [kill_get]
    exact srep _ _ (h.slots j)
  · rw [bget_bput] at hj
    by_cases e : j = i
    · rw [if_pos e] at hj
      cases hj
      refine ⟨b', xs, T, by simp [Gh.addb, e], hheap, by simpa using hl, hxs, fun q u hq hu => ?_⟩
      rw [List.length_map] at hq
      have h1 := hx q _ (List.getElem?_eq_getElem hq)
      rw [h1.1] at hu
      cases hu
      exact h1.2
    · rw [if_neg e] at hj
      rw [kill_bget, if_neg e, Option.map_eq_some_iff] at hj
      obtain ⟨cs0, q1, rfl⟩ := hj
      obtain ⟨c, ys, T', q2, q3, q4, q5, q6⟩ := h.boxes j cs0 q1 hj5
      refine ⟨c, ys, T', by simp [Gh.addb, e, q2], (hothers j c e q2).2.trans q3, by simpa using q4, fun q c0 hq => ?_, fun q u hq hu => q6 q u (by simpa using hq) hu⟩
      rw [List.getElem?_map, Option.map_eq_some_iff] at hq
      obtain ⟨c1, q7, rfl⟩ := hq
      obtain ⟨x, q8, q9⟩ := q5 q c1 q7
      exact ⟨x, q8, srep _ _ q9⟩
  · have e : j ≠ i := by omega
    rw [bget_bput, if_neg e, kill_bget, if_neg e, Option.map_eq_some_iff] at hj
    obtain ⟨cs0, q1, q2⟩ := hj
    have q3 := kill_mc q2
    subst q3
    obtain ⟨c, es, c', q4, q5, q6⟩ := h.maps j ms q1 hge
    exact ⟨c, es, c', by simp [Gh.addb, e, q4], (hothers j c e q4).2.trans q5, q6.mono ev.fx⟩
  · simp only [Gh.addb] at hj
    split at hj
    · cases hj
      refine ⟨fun o => ?_, hbs⟩
      rcases hbb with e2 | e2
      · rw [e2]; exact (h.blk i b hbl).1 o
      · exact h.f0 _ o (Nat.le_trans h.base e2)
    · exact ⟨(h.blk j c hj).1, Nat.lt_of_lt_of_le (h.blk j c hj).2 hb0.size⟩
  · rw [bget_bput]
    simp only [Gh.addb] at hj
    split at hj
    · rename_i e; simp [e]
    · rename_i e
      rw [if_neg e, kill_bget, if_neg e]
      have := h.dom j c hj
      cases q : st.bget j with
      | none => exact absurd q this
      | some x => simp
  · simp only [Gh.addb] at hj hk
    split at hj <;> split at hk
    · omega
    · rename_i e1 e2; cases hj; exact absurd rfl (hothers k _ e2 hk).1
    · rename_i e1 e2; cases hk; exact absurd rfl (hothers j _ e1 hj).1
    · exact h.inj j k c hj hk
  · obtain ⟨⟨n, ys, h1⟩, h2⟩ := h.toks t' T' hT'
    have h3 : ∀ c, T'.v.ownBlock = some c → c ≠ b ∧ c < w.heap.size := fun c hc => ⟨fun e => h2 i b (e ▸ hc) hbl, (h1.lt c hc).2⟩
    refine ⟨⟨n, ys, ownsRow_of_same h1 fun c hc => hne c (h3 c hc).2 (h3 c hc).1⟩, fun j c hc hj => ?_⟩
    simp only [Gh.addb] at hj
    split at hj
    · cases hj
      have := h3 _ hc
      rcases hbb with e2 | e2
      · exact this.1 e2
      · omega
    · exact h2 j c hc hj

section
variable {P : Program} {ops : Array Oper} {K : PS → Prop} {rest : List Oper} {st : PS} {ty : TypeId} {pos : String} {af : Array Edge} {gd : Option (Nat × Bool)}
theorem news_vals {F : Nat → Nat → Prop} {w : World} {k m : Nat} {vs news : List Value} {es : List (List DV)} (hes : chunk k m (vs.map .val) = es) (hvl : vs.length = m * k) (hnl : news.length = es.length * k)
    (h : ∀ (i j : Nat) e z, es[i]? = some e → e[j]? = some z → ∃ u, news[i * k + j]? = some u ∧ DRep F w u z) : news = vs := by
  have hm : es.length = m := by rw [← hes, chunk_length]
  refine List.ext_getElem? fun j => ?_
  by_cases hj : j < m * k
  · have hk0 : 0 < k := by
      rcases Nat.eq_zero_or_pos k with h0 | h0
      · rw [h0, Nat.mul_zero] at hj; omega
      · exact h0
    have hq : j / k < es.length := by rw [hm]; exact Nat.div_lt_of_lt_mul (by rw [Nat.mul_comm]; exact hj)
    have hr : j % k < k := Nat.mod_lt _ hk0
    have he := List.getElem?_eq_getElem hq
    have hlen : es[j / k].length = k := by
      have := chunk_mem k m (vs.map .val) (by simpa using hvl)
      exact this _ (by rw [hes]; exact List.getElem_mem hq)
    have hx := List.getElem?_eq_getElem (l := es[j / k]) (i := j % k) (by omega)
    obtain ⟨u, t1, t2⟩ := h _ _ _ _ he hx
    have t3 := (chunk_get k m (vs.map .val) (j / k) (j % k) es[j / k] _ (by rw [hes]; exact he) hx (by simpa using hvl)).1
    have e : j / k * k + j % k = j := by rw [Nat.mul_comm]; exact Nat.div_add_mod j k
    rw [e] at t1 t3
    rw [List.getElem?_map, Option.map_eq_some_iff] at t3
    obtain ⟨u', t4, t5⟩ := t3
    rw [← t5] at t2
    rw [t1, t4, DRep.val_eq t2]
  · rw [List.getElem?_eq_none (by rw [hnl, hm]; omega), List.getElem?_eq_none (by omega)]

theorem yTn {T E k bytes m e : Nat} {x y : Operand} {vs : List Value} {es : List (List DV)} [hA : AppOf P T E k bytes] (h0 : 0 < m) (hk0 : 0 < k) (hb : m * bytes ≤ 140737488351232) (hm : m ≤ 140737488351232) (hes : chunk k m (vs.map .val) = es) (hvl : vs.length = m * k) (hx : st.ev x = .d (.val (.slice none 0 0))) (hy : asSl (st.ev y) = some (k, es)) (hi : st.bget e = none)
    (h : YR P true ops K rest ((st.bput e (vs.map fun u => .d (.val u))).put (some e) (.bs e m E k))) (hd : dstOk ⟨some e, .call { callee := .builtin .append, args := #[x, y], argTypes := #[T, T] }, ty, pos, af, gd⟩ st = true := by kernel_rfl) (hw : st.want ops ⟨some e, .call { callee := .builtin .append, args := #[x, y], argTypes := #[T, T] }, ty, pos, af, gd⟩ = some true := by rfl) :
    YR P true ops K (⟨some e, .call { callee := .builtin .append, args := #[x, y], argTypes := #[T, T] }, ty, pos, af, gd⟩ :: rest) st := by
  refine .any rfl fun B w0 Q hQ g a w hr => ?_
  have h1 := hr.eval x
  rw [hx] at h1
  have h1 := DRep.val_eq h1
  obtain ⟨A2, c2, news, hv2, hl2, hcell2, hone2, hrep2⟩ := asSl_cells hr hy
  have hel : es.length = m := by rw [← hes, chunk_length]
  obtain rfl := news_vals hes hvl hl2 hrep2
  obtain ⟨ti, z, q1, q2, q3, q4, q5⟩ := hA.inf
  obtain ⟨v', w', r1, r2, r3, r4, r5, r6, r7⟩ := run_app (P := P) w w.heap.size T ty E ti z k bytes hA.und q1 q2 q3 q4 q5 (.slice none 0 0) 0 [] (World.ownsRow_nil _ _ _ _) A2 es.length c2 news hl2 (fun h0 => by
    obtain ⟨b, off, rfl, hcell⟩ := hcell2 h0
    exact ⟨_, rfl, fun j u hj => by rw [Addr.add_lit]; exact hcell j u hj⟩) hone2 (by unfold maxLen; omega) (by rw [hel, Nat.zero_add]; omega) (Nat.le_refl _)
  rw [Nat.zero_add, List.nil_append, hel] at r2
  obtain ⟨hxl, (⟨-, q0⟩ | ⟨gb, cap, cur, rfl, t1, t2, t3, t4, t5, t6⟩)⟩ := r2
  · omega
  have hin : e < st.n := dstOk_spec hd e rfl
  have hcur : ∀ (j : Nat) (u : Value), news[j]? = some u → cur[j]? = some u ∧ u.oneCell' = true := fun j u hj => by
    refine ⟨?_, hone2 u (List.mem_of_getElem? hj)⟩
    rw [← t6] at hj
    have hj' : j < m * k := by have := (List.getElem?_eq_some_iff.1 hj).1; rw [List.length_take] at this; omega
    rw [List.getElem?_take_of_lt hj'] at hj
    simpa using hj
  have hbel : Below w.heap.size w w' := ⟨r3.os, r3.tape, r3.output, r3.size, fun k hk => r4 k hk (by simp [Value.ownBlock])⟩
  obtain ⟨ev, hr'⟩ := hr.adopt e gb E hi hin hbel t1 cur t2 (news.map fun u => .d (.val u)) (by rw [List.length_map, hvl, t5]; exact Nat.mul_le_mul_right _ t3) (fun _ j c hj => by
    rw [List.getElem?_map, Option.map_eq_some_iff] at hj
    obtain ⟨u, hu, rfl⟩ := hj
    exact ⟨u, (hcur j u hu).1, DRep.val u (hcur j u hu).2⟩) (fun j u hj hu => by
    rw [List.length_map] at hj
    have := hcur j _ (List.getElem?_eq_getElem hj)
    rw [this.1] at hu
    cases hu
    exact this.2)
  have hrun : (execOp a.eval ⟨some e, .call { callee := .builtin .append, args := #[x, y], argTypes := #[T, T] }, ty, pos, af, gd⟩).run P w = .ok (.value (.slice (some ⟨gb, 0, none⟩) m cap)) w' := by
    simp only [execOp, resolve, invoke, builtin, Sem.run_bind, Sem.run_pure, Result.andThen_ok, List.map_toArray, List.map_cons, List.map_nil, h1, hv2, r1]
  unfold wpList
  rw [if_pos (want_spec hr hw)]
  refine .inl ?_
  unfold Oper.wp
  rw [hrun]
  refine h.sound hQ (hr'.put (x := .bs e m E k) ⟨gb, cap, by simp [Gh.addb], rfl, t3, t4, by simp [World.shape?, t2, t5]⟩ _ ?_)
  intro j hj
  exact dstOk_spec (st := st) hd j hj

theorem bs_own {B : Nat} {w0 : Cx} {g : Gh} {a : Act} {w : World} (hr : Rep B w0 g st a w) {i n E k : Nat} {v : Value} {vs : List Value} (hlt : i < 500000) (hv : SRep g w v (.bs i n E k)) (hi : st.bget i = some (vs.map fun u => .d (.val u))) (hn : vs.length = n * k) :
    ∃ b c xs, g.bl i = some b ∧ v = .slice (some ⟨b, 0, none⟩) n c ∧ n ≤ c ∧ c ≤ maxLen ∧ w.heap[b]? = some (.cells xs E (0, 0)) ∧ xs.size = c * k ∧ w.ownsRow 0 E k v n vs ∧ ∀ u ∈ vs, u.oneCell' = true := by
  obtain ⟨b, c, q1, q2, q3, q4, q5⟩ := hv
  obtain ⟨b', xs, T, q6, q7, q8, q9, q10⟩ := hr.boxes i _ hi hlt
  rw [q1] at q6
  cases q6
  have hsh : T = E ∧ xs.size = c * k := by
    simp only [World.shape?, q7, Option.some.injEq, Prod.mk.injEq] at q5
    exact q5
  obtain ⟨rfl, hsz⟩ := hsh
  rw [List.length_map] at q8 q10
  have hxv : ∀ (j : Nat) u, vs[j]? = some u → xs[j]? = some u ∧ u.oneCell' = true := fun j u hj => by
    obtain ⟨u', t1, t2⟩ := q9 j (.d (.val u)) (by rw [List.getElem?_map, hj]; rfl)
    have t3 := DRep.val_eq t2
    subst t3
    exact ⟨t1, q10 j u' (List.getElem?_eq_some_iff.1 hj).1 t1⟩
  have hone : ∀ u ∈ vs, u.oneCell' = true := fun u hu => by
    obtain ⟨j, hj⟩ := List.mem_iff_getElem?.1 hu
    exact (hxv j u hj).2
  refine ⟨b, c, xs, q1, q2, q3, q4, q7, hsz, ?_, hone⟩
  rw [q2]
  refine ⟨hn, .inr ⟨b, c, xs, rfl, Nat.zero_le _, q7, q3, q4, hsz, ?_⟩⟩
  refine List.ext_getElem? fun j => ?_
  by_cases hj : j < n * k
  · rw [List.getElem?_take_of_lt hj]
    have hjv := List.getElem?_eq_getElem (l := vs) (i := j) (by omega)
    rw [hjv]
    simpa using (hxv j _ hjv).1
  · rw [List.getElem?_eq_none (by simp; omega), List.getElem?_eq_none (by omega)]
theorem yTw {T E k bytes n m i e : Nat} {x y : Operand} {us vs : List Value} {es : List (List DV)} [hA : AppOf P T E k bytes] (h0 : 0 < m) (hb : (n + m) * bytes ≤ 140737488351232) (hm : n + m ≤ 140737488351232) (hes : chunk k m (vs.map .val) = es) (hvl : vs.length = m * k) (hul : us.length = n * k) (hx : st.ev x = .bs i n E k) (hi : st.bget i = some (us.map fun u => .d (.val u))) (hy : asSl (st.ev y) = some (k, es))
    (h : YR P true ops K rest (((st.kill i).bput i ((us ++ vs).map fun u => .d (.val u))).put (some e) (.bs i (n + m) E k))) (hd : dstOk ⟨some e, .call { callee := .builtin .append, args := #[x, y], argTypes := #[T, T] }, ty, pos, af, gd⟩ st = true := by kernel_rfl) (hw : st.want ops ⟨some e, .call { callee := .builtin .append, args := #[x, y], argTypes := #[T, T] }, ty, pos, af, gd⟩ = some true := by rfl) (hlt : Nat.blt i 500000 = true := by rfl) (hsm : Nat.blt (i % 500000) 10000 = true := by rfl) :
    YR P true ops K (⟨some e, .call { callee := .builtin .append, args := #[x, y], argTypes := #[T, T] }, ty, pos, af, gd⟩ :: rest) st := by
  have hlt5 : i < 500000 := Nat.le_of_ble_eq_true hlt
  have hsm5 : smB i := Nat.le_of_ble_eq_true hsm
  clear hlt hsm
  refine .any rfl fun B w0 Q hQ g a w hr => ?_
  have h1 := hr.eval x
  rw [hx] at h1
  obtain ⟨b, c, xs, p1, p2, p3, p4, p5, p6, p7, p8⟩ := bs_own hr hlt5 h1 hi hul
  obtain ⟨A2, c2, news, hv2, hl2, hcell2, hone2, hrep2⟩ := asSl_cells hr hy
  have hel : es.length = m := by rw [← hes, chunk_length]
  obtain rfl := news_vals hes hvl hl2 hrep2
  obtain ⟨ti, z, q1, q2, q3, q4, q5⟩ := hA.inf
  obtain ⟨v', w', r1, r2, r3, r4, r5, r6, r7⟩ := run_app (P := P) w 0 T ty E ti z k bytes hA.und q1 q2 q3 q4 q5 (a.eval x) n us p7 A2 es.length c2 news hl2 (fun h0 => by
    obtain ⟨b, off, rfl, hcell⟩ := hcell2 h0
    exact ⟨_, rfl, fun j u hj => by rw [Addr.add_lit]; exact hcell j u hj⟩) hone2 (by unfold maxLen; omega) (by rw [hel]; omega) (Nat.zero_le _)
  rw [hel] at r2
  obtain ⟨hxl, (⟨-, q0⟩ | ⟨gb, cap, cur, rfl, t1, t2, t3, t4, t5, t6⟩)⟩ := r2
  · omega
  have hob : (a.eval x).ownBlock = some b := by rw [p2]; rfl
  have hbb : gb = b ∨ w.heap.size ≤ gb := by
    rcases r6 with r6 | r6
    · rw [hob] at r6; exact .inl (by simpa [Value.ownBlock] using r6)
    · exact .inr (by have : gb = w.heap.size := by simpa [Value.ownBlock] using r6
                     omega)
  have hcur : ∀ (j : Nat) (u : Value), (us ++ news)[j]? = some u → cur[j]? = some u ∧ u.oneCell' = true := fun j u hj => by
    refine ⟨?_, ?_⟩
    · rw [← t6] at hj
      have hj' : j < (n + m) * k := by have := (List.getElem?_eq_some_iff.1 hj).1; rw [List.length_take] at this; omega
      rw [List.getElem?_take_of_lt hj'] at hj
      simpa using hj
    · rcases List.mem_append.1 (List.mem_of_getElem? hj) with q | q
      · exact p8 u q
      · exact hone2 u q
  have hr' := hr.rebox hlt5 hsm5 p1 r3 (fun k hk hne => r4 k hk (by rw [hob]; exact fun e => hne (Option.some.inj e).symm)) hbb cur t2 (us ++ news) (by rw [hxl, t5]; exact Nat.mul_le_mul_right _ t3) hcur
  have hrun : (execOp a.eval ⟨some e, .call { callee := .builtin .append, args := #[x, y], argTypes := #[T, T] }, ty, pos, af, gd⟩).run P w = .ok (.value (.slice (some ⟨gb, 0, none⟩) (n + m) cap)) w' := by
    simp only [execOp, resolve, invoke, builtin, Sem.run_bind, Sem.run_pure, Result.andThen_ok, List.map_toArray, List.map_cons, List.map_nil, hv2, r1]
  unfold wpList
  rw [if_pos (want_spec hr hw)]
  refine .inl ?_
  unfold Oper.wp
  rw [hrun]
  refine h.sound hQ (hr'.put (x := .bs i (n + m) E k) ⟨gb, cap, by simp [Gh.addb], rfl, t3, t4, by simp [World.shape?, t2, t5]⟩ _ ?_)
  intro j hj
  exact dstOk_spec (st := st) hd j hj
def PRowC (P : Program) (f : FuncId) (E k : Nat) (vs vs' : List Value) : Prop :=
  ∀ (w : World) (A : Option Addr) (c n : Nat), w.ownsRow 0 E k (.slice A n c) n vs → 0 < n → (∀ u ∈ vs, u.oneCell' = true) → Calls P f #[.slice A n c] w fun e w' => ∃ n' rest, e = .returned (.slice A n' c) ∧ n' ≤ n ∧ vs'.length = n' * k ∧ w'.ownsRow 0 E k (.slice A n c) n (vs' ++ rest) ∧ (∀ u ∈ vs', u.oneCell' = true) ∧ w.grownBy w' (Value.slice A n c).ownBlock
theorem yRc {f E k i n n' e : Nat} {x : Operand} {ts : Array TypeId} {vs vs' : List Value} [hB : HasBody P f] (hc : PRowC P f E k vs vs') (h0 : 0 < n) (hk0 : 0 < k) (hn : vs.length = n * k) (hn' : vs'.length = n' * k) (hx : st.ev x = .bs i n E k) (hi : st.bget i = some (vs.map fun u => .d (.val u)))
    (h : YR P true ops K rest ((st.bput i (vs'.map fun u => .d (.val u))).put (some e) (.bs i n' E k))) (hd : dstOk ⟨some e, .call { callee := .value (.func f), args := #[x], argTypes := ts }, ty, pos, af, gd⟩ st = true := by kernel_rfl)
    (hw : st.want ops ⟨some e, .call { callee := .value (.func f), args := #[x], argTypes := ts }, ty, pos, af, gd⟩ = some true := by rfl) (hlt : Nat.blt i 500000 = true := by rfl) :
    YR P true ops K (⟨some e, .call { callee := .value (.func f), args := #[x], argTypes := ts }, ty, pos, af, gd⟩ :: rest) st := by
  have hlt5 : i < 500000 := Nat.le_of_ble_eq_true hlt
  clear hlt
  refine .any rfl fun B w0 Q hQ g a w hr => ?_
  have h1 := hr.eval x
  rw [hx] at h1
  obtain ⟨b, c, xs, p1, p2, p3, p4, p5, p6, p7, p8⟩ := bs_own hr hlt5 h1 hi hn
  rw [p2] at p7
  have hcall := hc w _ c n p7 h0 p8
  have hargs : ([x].map a.eval).toArray = #[.slice (some ⟨b, 0, none⟩) n c] := by simp [p2]
  have hrun : (execOp a.eval ⟨some e, .call { callee := .value (.func f), args := #[x], argTypes := ts }, ty, pos, af, gd⟩).run P w = .ok (.enter f #[.slice (some ⟨b, 0, none⟩) n c]) w := by
    rw [← hargs]; exact run_call (l := [x])
  unfold wpList
  rw [if_pos (want_spec hr hw)]
  refine .inl ?_
  unfold Oper.wp
  rw [hrun]
  show Calls P f _ w _
  refine hcall.mono ?_
  rintro e' w' ⟨n2, rest2, rfl, h2, h3, h4, h5, h6⟩
  obtain rfl : n2 = n' := Nat.eq_of_mul_eq_mul_right hk0 (h3.symm.trans hn')
  obtain ⟨hvl', (⟨t0, -⟩ | ⟨gb, cap, cur, t1, -, t2, t3, t4, t5, t6⟩)⟩ := h4
  · cases t0
  cases t1
  have hvs' : ∀ (j : Nat) u, vs'[j]? = some u → cur[j]? = some u := fun j u hj => by
    have hj2 : (vs' ++ rest2)[j]? = some u := by rw [List.getElem?_append_left (List.getElem?_eq_some_iff.1 hj).1]; exact hj
    rw [← t6] at hj2
    have hj' : j < n * k := by have := (List.getElem?_eq_some_iff.1 hj2).1; rw [List.length_take] at this; omega
    rw [List.getElem?_take_of_lt hj'] at hj2
    simpa using hj2
  have hr' : Rep B w0 g (st.bput i (vs'.map fun u => .d (.val u))) a w' := by
    refine hr.seto i b _ p1 ⟨h6.os, h6.tape, h6.output, h6.size, fun k hk => by omega⟩ (fun k hk hne => h6.block k hk (fun e => hne (by simpa [Value.ownBlock] using e))) ?_ (fun _ _ => ⟨cur, E, t2, ?_, fun j c hj => ?_, fun j u hj hu => ?_⟩) fun _ hge => by omega
    · simp [World.shape?, t2, p5, t5, p6]
    · rw [List.length_map, h3, t5]; exact Nat.mul_le_mul_right _ (by omega)
    · rw [List.getElem?_map, Option.map_eq_some_iff] at hj
      obtain ⟨u, hu, rfl⟩ := hj
      exact ⟨u, hvs' j u hu, DRep.val u (h5 u (List.mem_of_getElem? hu))⟩
    · have hjv := List.getElem?_eq_getElem (l := vs') (i := j) (by simpa using hj)
      have := hvs' j _ hjv
      rw [hu] at this
      cases this
      exact h5 _ (List.getElem_mem _)
  refine h.sound hQ (hr'.put (x := .bs i n2 E k) ⟨b, c, p1, rfl, by omega, p4, by simp [World.shape?, t2, t5]⟩ _ ?_)
  intro j hj
  exact dstOk_spec (st := st) hd j hj
end
end Go.Proofs.YtdkpmnefoobipaaGreatDoor.Px
set_option maxHeartbeats 1000000
namespace Go.Proofs.YtdkpmnefoobipaaGreatDoor.Px
open Go.RowKit

def Rcl (k : Nat) (es : List (List DV)) (F : Nat → Nat → Prop) (w : World) (v : Value) : Prop := DRep F w v (.sl k es) ∧ ∃ A, v = .slice A es.length es.length
abbrev dCl (k : Nat) (es : List (List DV)) : DV := .abs (Rcl k es)
theorem Rcl.mono {k : Nat} {es : List (List DV)} (F F' : Nat → Nat → Prop) (w w' : World) (v : Value) (h : Rcl k es F w v) (hk : Kp F w F' w') : Rcl k es F' w' v := ⟨h.1.mono hk, h.2⟩
theorem DRep.of_cl {F : Nat → Nat → Prop} {w : World} {v : Value} {k : Nat} {es : List (List DV)} (h : DRep F w v (.sl k es)) (h2 : ∃ A, v = .slice A es.length es.length) : DRep F w v (dCl k es) :=
  .abs Rcl.mono (by obtain ⟨A, rfl⟩ := h2; rfl) ⟨h, h2⟩
theorem DRep.cl {F : Nat → Nat → Prop} {w : World} {v : Value} {k : Nat} {es : List (List DV)} (h : DRep F w v (dCl k es)) : Rcl k es F w v := by
  generalize e : dCl k es = x at h
  cases h with
  | abs hR h1 h => cases e; exact h
  | _ => cases e
theorem DRep.cap {F : Nat → Nat → Prop} {w : World} {A A' : Option Addr} {n c c' k : Nat} {es : List (List DV)} (h : DRep F w (.slice A n c) (.sl k es)) (hc : n ≤ c') (hA : 0 < n → A' = A) : DRep F w (.slice A' n c') (.sl k es) := by
  obtain ⟨A0, c0, news, hv, h1, h2, h3, h4, h5, h6, h7⟩ := DRep.row h
  obtain ⟨e1, e2, e3⟩ := Value.slice.inj hv
  subst e1 e2 e3
  exact DRep.of_row (xs := news) hc h2 h3 (fun h0 => by rw [hA h0]; exact h5 h0) h6 h7
theorem add_zero (k : Nat) (A : Option Addr) : A.map (·.add (0 * k)) = A := by
  cases A with
  | none => rfl
  | some a => simp [Addr.add]

section
variable {P : Program} {sq : Bool} {ops : Array Oper} {K : PS → Prop} {rest : List Oper} {st : PS} {d : Option Nat} {op : Op} {ty : TypeId} {pos : String} {af : Array Edge} {gd : Option (Nat × Bool)} {q : Nat × Bool}
theorem ls_litc (T : TypeId) (n : Nat) (ps : List (Nat × Operand)) {E k : Nat} {zs : List Value} {qs : List (Nat × List DV)} {ys : List DV} {es : List (List DV)} [hB : LitOf P T E k zs] (hq : partDs st ps = some qs) (hf : dfill (fun i => some (i * k, k)) (zerosD zs n) qs = some ys) (he : chunk k n ys = es) (hsm : Nat.ble (n * k) 16777216 = true) (hsn : Nat.ble n 16777216 = true) (hd : dstOk ⟨d, .buildSlice T n ps.toArray, ty, pos, af, gd⟩ st = true) :
    LocS P ⟨d, .buildSlice T n ps.toArray, ty, pos, af, gd⟩ st (.d (dCl k es)) .no := fun st2 ha => by
  have hsm := Nat.le_of_ble_eq_true hsm
  have hsn := Nat.le_of_ble_eq_true hsn
  refine OpS.value (ha.dst hd) fun _ _ g a w h => ?_
  have hq2 : partDs st2 ps = some qs := by
    rw [partDs_congr fun p hp => ha.ev p.2 ?_]
    · exact hq
    · simp only [Op.operands, List.mem_toArray, List.mem_map]
      exact ⟨p, hp, rfl⟩
  obtain ⟨us, h1, -, h3⟩ := lit_core (P := P) (T := T) (d := d) (ty := ty) (pos := pos) (af := af) (gd := gd) hq2 hf he hsm hsn h
  have hl : es.length = n := by rw [← he, chunk_length]
  exact ⟨_, _, h1, (Below.refl _ _).alloc (Nat.le_refl _) _, DRep.of_cl h3 ⟨_, by rw [hl]⟩⟩
theorem yRl {T n : Nat} {ps : List (Nat × Operand)} {E k : Nat} {zs : List Value} {qs : List (Nat × List DV)} {ys : List DV} {es : List (List DV)} [LitOf P T E k zs] (hq : partDs st ps = some qs) (hf : dfill (fun i => some (i * k, k)) (zerosD zs n) qs = some ys) (he : chunk k n ys = es) (hs : Nat.ble (n * k) 16777216 = true) (hs' : Nat.ble n 16777216 = true) (h : YR P sq ops K rest (st.put d (.d (dCl k es)))) (hd : dstOk ⟨d, .buildSlice T n ps.toArray, ty, pos, af, gd⟩ st = true := by kernel_rfl) (hk : opOk ⟨d, .buildSlice T n ps.toArray, ty, pos, af, gd⟩ st .no = true := by kernel_rfl) (hw : st.want ops ⟨d, .buildSlice T n ps.toArray, ty, pos, af, gd⟩ = some true := by rfl) :
    YR P sq ops K (⟨d, .buildSlice T n ps.toArray, ty, pos, af, gd⟩ :: rest) st := yr_v (ls_litc T n ps hq hf he hs hs' hd) hk hw h
theorem ls_slice_c (T : TypeId) (x y z : Operand) {E k : Nat} {n : Int} {kd kd' : IntKind} {es es' : List (List DV)} [hS : SliceOf P T E k] (hx : asSl (st.ev x) = some (k, es)) (hy : st.ev y = .d (.val (.int kd n))) (hz : st.ev z = .d (.val (.int kd' n))) (h0 : 0 ≤ n) (he : n ≤ es.length) (hes : es.take n.toNat = es') (hd : dstOk ⟨d, .slice T x none (some y) (some z), ty, pos, af, gd⟩ st = true) :
    LocS P ⟨d, .slice T x none (some y) (some z), ty, pos, af, gd⟩ st (.d (dCl k es')) .no := fun st2 ha =>
  OpS.value (ha.dst hd) fun _ _ g a w h => by
    have h1 := h.eval x
    rw [ha.ev x (by simp [Op.operands])] at h1
    have h1 := h1.asSl hx
    obtain ⟨A, c, news, hv, hc, hm, -⟩ := DRep.row h1
    have h2 := h.eval y
    rw [ha.ev y (by simp [Op.operands]), hy] at h2
    have h3 := h.eval z
    rw [ha.ev z (by simp [Op.operands]), hz] at h3
    rw [hv] at h1
    have hp := h1.part 0 n.toNat (by omega) (by omega)
    rw [List.drop_zero, Nat.sub_zero, add_zero, ite_self] at hp
    have hel : es'.length = n.toNat := by rw [← hes, List.length_take]; omega
    refine ⟨.slice A n.toNat n.toNat, w, ?_, Below.refl _ _, DRep.of_cl ?_ ⟨A, by rw [hel]⟩⟩
    · have hn : 0 ≤ n ∧ n ≤ (c : Int) := ⟨h0, by omega⟩
      have hn2 : 0 ≤ n ∧ n ≤ ((n.toNat : Nat) : Int) := ⟨h0, by omega⟩
      simp only [execOp, Instr.sliceAt, Instr.slice, Instr.sliceBounds, Instr.sliceBound, hv, DRep.val_eq h2, DRep.val_eq h3, asIntOf, Sem.run_bind, Sem.run_pure, Result.andThen_ok, hS.und, hn, hn2, and_self, if_true, hS.size, Option.map_some, Option.map_none, Nat.sub_zero, add_zero, ite_self]
    · rw [← hes]; exact hp.cap (Nat.le_refl _) fun _ => rfl
theorem yDc {T E k : Nat} {x y z : Operand} {n : Int} {kd kd' : IntKind} {es es' : List (List DV)} [SliceOf P T E k] (h0 : 0 ≤ n) (he : n ≤ es.length) (hes : es.take n.toNat = es') (hx : asSl (st.ev x) = some (k, es)) (hy : st.ev y = .d (.val (.int kd n))) (hz : st.ev z = .d (.val (.int kd' n))) (h : YR P sq ops K rest (st.put d (.d (dCl k es')))) (hd : dstOk ⟨d, .slice T x none (some y) (some z), ty, pos, af, gd⟩ st = true := by kernel_rfl) (hk : opOk ⟨d, .slice T x none (some y) (some z), ty, pos, af, gd⟩ st .no = true := by kernel_rfl) (hw : st.want ops ⟨d, .slice T x none (some y) (some z), ty, pos, af, gd⟩ = some true := by rfl) :
    YR P sq ops K (⟨d, .slice T x none (some y) (some z), ty, pos, af, gd⟩ :: rest) st := yr_v (ls_slice_c T x y z hx hy hz h0 he hes hd) hk hw h
end
section
variable {P : Program} {ops : Array Oper} {K : PS → Prop} {rest : List Oper} {st : PS} {ty : TypeId} {pos : String} {af : Array Edge} {gd : Option (Nat × Bool)}
variable {B : Nat} {w0 : Cx} {Q : Exit → PS → Prop} {c : Code}
end
end Go.Proofs.YtdkpmnefoobipaaGreatDoor.Px
namespace Go.Proofs.YtdkpmnefoobipaaGreatDoor.Px
open Go.RowKit
section
variable {P : Program} {sq : Bool} {ops : Array Oper} {K : PS → Prop} {rest : List Oper} {st : PS} {d : Option Nat} {ty : TypeId} {pos : String} {af : Array Edge} {gd : Option (Nat × Bool)}
theorem ls_nil (x : Operand) {i off : Nat} (hx : st.ev x = .bx i off) (hd : dstOk ⟨d, .nilCheck x, ty, pos, af, gd⟩ st = true) : LocS P ⟨d, .nilCheck x, ty, pos, af, gd⟩ st (.bx i off) .no := fun st2 ha =>
  OpS.value (ha.dst hd) fun _ _ g a w h => by
    have h1 := h.eval x
    rw [ha.ev x (by simp [Op.operands]), hx] at h1
    obtain ⟨b, h2, h3⟩ := h1
    refine ⟨.pointer (some ⟨b, off, none⟩), w, ?_, Below.refl _ _, b, h2, rfl⟩
    simp [execOp, h3]
theorem yNil {x : Operand} {i off : Nat} (hx : st.ev x = .bx i off) (h : YR P sq ops K rest (st.put d (.bx i off))) (hd : dstOk ⟨d, .nilCheck x, ty, pos, af, gd⟩ st = true := by kernel_rfl) (hk : opOk ⟨d, .nilCheck x, ty, pos, af, gd⟩ st .no = true := by kernel_rfl) (hw : st.want ops ⟨d, .nilCheck x, ty, pos, af, gd⟩ = some true := by rfl) :
    YR P sq ops K (⟨d, .nilCheck x, ty, pos, af, gd⟩ :: rest) st := yr_v (ls_nil x hx hd) hk hw h
end
end Go.Proofs.YtdkpmnefoobipaaGreatDoor.Px
