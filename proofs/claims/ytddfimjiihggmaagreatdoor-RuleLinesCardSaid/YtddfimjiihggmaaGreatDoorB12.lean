/- Walks: lines joined. -/
import Derived.Test.YtddfimjiihggmaaGreatDoorB11
import Derived.Shelf.SlicesQ.Reverse
import Derived.Ground.SlgnProg
import Derived.Test.YtddfimjiihggmaaGreatDoorProg
import Derived.Shelf.SlicesE.Compact
import Derived.Test.YtddfimjiihggmaaGreatDoorB4
import Derived.Test.YtddfimjiihggmaaGreatDoorB6
import Derived.Shelf.SortM.Plain
import Derived.Shelf.SortM.SortNone
import Derived.Sort.OwnSorted
import Derived.Sort.Walk0
import Derived.Test.YtddfimjiihggmaaGreatDoorB2
import Derived.Test.YtddfimjiihggmaaGreatDoorB3
set_option maxHeartbeats 16000000
set_option maxRecDepth 20000
namespace Go.Proofs.YtddfimjiihggmaaGreatDoor
open Go.RowKit Px
namespace Px
section
variable {P : Program} {sq : Bool} {ops : Array Oper} {K : PS → Prop} {rest : List Oper} {st : PS} {d : Option Nat} {ty : TypeId} {pos : String} {af : Array Edge} {gd : Option (Nat × Bool)}
theorem run_rem (t : Nat) (o1 o2 : Operand) (x y : Int) (hy : y ≠ 0) (w : World) : (eqGuard .rem t o1 o2 (.int .i64 x) (.int .i64 y) >>= fun _ => binOp .rem t (.int .i64 x) (.int .i64 y)).run P w = .ok (.int .i64 (x.tmod y)) w := by
 simp [eqGuard, binOp, Op.intDiv, hy]
theorem yBm {t t' : Nat} {x y : Operand} {a b c : Int} (hb : b ≠ 0) (hc : a.tmod b = c) (hx : st.ev x = .d (.val (.int .i64 a))) (hy : st.ev y = .d (.val (.int .i64 b))) (h : YR P sq ops K rest (st.put d (.d (.val (.int .i64 c))))) (hd : dstOk ⟨d, .binOp .rem t x y t', ty, pos, af, gd⟩ st = true := by kernel_rfl) (hk : opOk ⟨d, .binOp .rem t x y t', ty, pos, af, gd⟩ st .no = true := by kernel_rfl) (hw : st.want ops ⟨d, .binOp .rem t x y t', ty, pos, af, gd⟩ = some true := by rfl) :
 YR P sq ops K (⟨d, .binOp .rem t x y t', ty, pos, af, gd⟩ :: rest) st := by
 subst hc
 exact yr_v (ls_bin_run .rem t t' x y hx hy (run_rem t x y a b hb) rfl hd) hk hw h
end
end Px
theorem wGrowL (n : Nat) (hn : n ≤ 1000000) : POwn Tryz.prog 69 [.val (.slice none 0 0), dI n] 53 3 [] := by
 have t1 : decide ((n : Int) < 0) = false := decide_eq_false (by omega)
 have hw : IntKind.i64.wrap ((n : Int) - IntKind.i64.wrap (0 - 0)) = n := by rw [show IntKind.i64.wrap (0 - 0) = 0 by decide, Int.sub_zero]; exact wrapI _ (by omega)
 rcases Nat.eq_zero_or_pos n with rfl | h0
 · refine own_nil ?_
   refine pcalls_of_pw Tryz.func69 rfl Tryz.ntmps69 Tryz.results69 (by simp) fun B w0 => ?_
   refine pzr (yAd rfl (yQ (pw_seq (pzr (yMd rfl (yB rfl rfl rfl rfl (yQ (pw_cf rfl (pw_skip ?_))))))))); refine pw_seq (pzr (yMd rfl (yMd rfl (yNc rfl (yMd rfl (yNl rfl (yB rfl rfl rfl rfl (yB rfl rfl rfl rfl (yAd rfl ?_))))))))); refine yQ (pzr (yMd rfl (yB rfl rfl rfl rfl (yQ (pw_cf rfl (pw_skip (pzr (yMd rfl (yAd rfl ?_))))))))); refine yQ (pw_ret ?_)
   exact q_ret _ (.tmp rfl .nil) rfl
 · have t2 : decide ((n : Int) > 0) = true := decide_eq_true (by omega)
   refine pown_of_pw (t := 53 * 100000 + 4) Tryz.func69 rfl Tryz.ntmps69 Tryz.results69 (by simp) rfl fun B w0 => ?_
   refine pzr (yAd rfl (yQ (pw_seq (pzr (yMd rfl (yB rfl rfl rfl rfl (yQ (pw_cf rfl (pw_skip ?_))))))))); refine pw_seq (pzr (yMd rfl (yMd rfl (yNc rfl (yMd rfl (yNl rfl (yB rfl rfl rfl rfl (yB rfl rfl rfl rfl (yAd rfl ?_))))))))); refine yQ (pzr (yMd rfl (yB rfl rfl rfl rfl (yQ (q_then ?_))))); rw [t1]; rw [hw]; rw [t2]; refine pw_ct rfl (pw_region (yMd rfl (yMd rfl (yNc rfl (ySz rfl rfl (yMd rfl (yAz (by omega) Tryz.underlying3 rfl rfl h0 (by omega) (by omega) rfl (yMd rfl (yNl rfl ?_))))))))); refine yDb (by omega) (by omega) rfl rfl (yAw rfl (yQ ?_)); refine pw_tkz 0 22 (53 * 100000 + 4) 3 rfl rfl rfl rfl rfl ?_; refine pzr (yMt rfl (yAt rfl (yQ (pw_ret ?_))))
   exact q_own rfl rfl
theorem wConcatL (css : List (List (List DV))) (hl : css.length ≤ 1000) (ht : (css.flatten).length ≤ 1000000) : POwn Tryz.prog 31 [.sl 1 (css.map fun c => [.sl 3 c])] 53 3 css.flatten := by
 refine pown_of_pw (t := 53 * 100000 + 6) Tryz.func31 rfl Tryz.ntmps31 Tryz.results31 (by simp) rfl fun B w0 => ?_
 refine pzr (yAd rfl (yQ (pzr (yAd rfl (yQ (pw_seq (pzr (yMd rfl (yN rfl ?_))))))))); refine yMd rfl (yQ (pw_block ?_)); refine pw_loop (fun k : Nat => ⟨36, [(0, .d (.sl 1 (css.map fun c => [.sl 3 c]))), (9, .d (.sl 1 (css.map fun c => [.sl 3 c]))), (10, .d (dI css.length)), (11, .d (dI k)), (3, .d (dI (tot css k)))], [], []⟩) (fun k => k ≤ css.length) (fun k => css.length - k) 0 (Nat.zero_le _) ⟨rfl, ⟨.refl _, .refl _, .of_eq ?_, .refl _, .refl _, trivial⟩, trivial, trivial, rfl⟩ ?_
 · exact congrArg (fun n : Nat => SV.d (dI n)) (by simp)
 intro k hk
 refine pzr (yB rfl rfl rfl rfl (yQ (pw_seq ?_))); refine pw_cond rfl (fun h => ?_) (fun h => ?_)
 · simp at h
   obtain ⟨c, gk⟩ : ∃ c, css[k]? = some c := ⟨_, List.getElem?_eq_getElem h⟩
   have ek := ix (fun c : List (List DV) => [DV.sl 3 c]) css k k c rfl gk
   have hts := tot_succ gk
   have htl := tot_le css (k + 1)
   have hw1 := wrapI ((k : Int) + 1) (by omega)
   have hw2 : IntKind.i64.wrap ((tot css k : Int) + (c.length : Int)) = (tot css (k + 1) : Int) := by rw [wrapI _ (by omega)]; omega
   have h0 : decide ((tot css (k + 1) : Int) < 0) = false := decide_eq_false (by omega)
   refine pw_skip (pw_seq (pw_block (pzr (yW ek (by omega) rfl rfl (yLr rfl rfl (yAd rfl (yQ (pzr (yMd rfl ?_))))))))); refine yMd rfl (yN rfl (yB rfl rfl rfl rfl (yAd rfl (yQ (pzr (yMd rfl (yB rfl rfl rfl rfl (yQ (q_then ?_))))))))); rw [hw2]; refine pw_cf rfl (pw_skip (pw_region (yB rfl rfl rfl rfl (yMd rfl (yQ (q_then ?_)))))); rw [h0]
   refine ⟨k + 1, by omega, by omega, rfl, ⟨.refl _, .refl _, .refl _, .of_eq (congrArg (fun n => SV.d (dI n)) hw1), .refl _, trivial⟩, trivial, trivial, rfl⟩
 · simp at h
   obtain rfl : k = css.length := by omega
   have ht2 : tot css css.length = css.flatten.length := by rw [tot, List.take_length]
   have c1 := wGrowL (tot css css.length) (by omega)
   refine pw_exit (pzr (yMd rfl (yCo (t := 53 * 100000 + 6) c1 rfl rfl rfl rfl (yAt rfl (yQ (pw_seq (pzr (yMd rfl (yN rfl ?_))))))))); refine yMd rfl (yQ (pw_block ?_)); refine pw_loop (fun k : Nat => ⟨36, [(25, .d (.sl 1 (css.map fun c => [.sl 3 c]))), (26, .d (dI css.length)), (27, .d (dI k)), (6, .ts (53 * 100000 + 6) 3 ((css.take k).flatten))], [], [(53 * 100000 + 6, ((css.take k).flatten).length)]⟩) (fun k => k ≤ css.length) (fun k => css.length - k) 0 (Nat.zero_le _) ⟨rfl, ⟨.refl _, .of_eq ?_, .refl _, .refl _, trivial⟩, trivial, ⟨rfl, trivial⟩, rfl⟩ ?_
   · exact congrArg (fun n : Nat => SV.d (dI n)) (by simp)
   intro k hk
   refine pzr (yB rfl rfl rfl rfl (yQ (pw_seq ?_))); refine pw_cond rfl (fun h => ?_) (fun h => ?_)
   · simp at h
     obtain ⟨c, gk⟩ : ∃ c, css[k]? = some c := ⟨_, List.getElem?_eq_getElem h⟩
     have ek := ix (fun c : List (List DV) => [DV.sl 3 c]) css k k c rfl gk
     have hts := tot_succ gk
     have htl := tot_le css (k + 1)
     have hw1 := wrapI ((k : Int) + 1) (by omega)
     have hfl : (css.take (k + 1)).flatten = (css.take k).flatten ++ c := by rw [List.take_add_one, gk]; simp
     have hln : ((css.take k).flatten).length = tot css k := rfl
     obtain ⟨zs, hz⟩ : ∃ zs, zs = (css.take k).flatten := ⟨_, rfl⟩
     rw [← hz] at hfl hln ⊢
     refine pw_skip (pw_seq (pw_block (pzr (yW ek (by omega) rfl rfl (yLr rfl rfl (yAd rfl (yQ (pw_region (yMt rfl ?_))))))))); refine yMd rfl ?_; refine yT (es' := zs ++ c) (m := (zs ++ c).length) (by omega) (by omega) rfl rfl rfl rfl rfl (by simp) (by simp) ?_; refine yAt rfl (yQ (pw_region (yB rfl rfl rfl rfl (yMd rfl (yQ (q_then ?_))))))
     refine ⟨k + 1, by omega, by omega, rfl, ⟨.refl _, .refl _, .of_eq (congrArg (fun n => SV.d (dI n)) hw1), .of_eq ?_, trivial⟩, trivial, ⟨?_, trivial⟩, rfl⟩
     · rw [hfl]; rfl
     · rw [hfl]; rfl
   · simp at h
     obtain rfl : k = css.length := by omega
     rw [List.take_length]
     refine pw_exit (pzr (yMt rfl (yAt rfl (yQ (pw_ret ?_)))))
     exact q_own rfl rfl
end Go.Proofs.YtddfimjiihggmaaGreatDoor
namespace Go.Proofs
open Go.Shelf
def Tryz.revLine_ren : Go.Shelf.Ren := ⟨fun | 35 => 32 | n => n, fun | 22 => 30 | 23 => 53 | 3 => 3 | 4 => 4 | 0 => 0 | n => n, fun | n => n⟩
theorem Tryz.revLine : Go.Proofs.SlLaysE0.n35 Tryz.prog Tryz.revLine_ren := {
 mixed := by kernel_rfl
 f35 := ⟨Tryz.f32.name, by decide, Tryz.func32.trans (congrArg some (by kernel_rfl))⟩
 t0 := Tryz.underlying0
 a0 := Tryz.isAgg0
 z0 := Tryz.sizeOf0
 v0 := Tryz.zeroValue0
 t3 := Tryz.underlying3
 a3 := Tryz.isAgg3
 z3 := Tryz.sizeOf3
 v3 := Tryz.zeroValue3
 t4 := Tryz.underlying4
 a4 := Tryz.isAgg4
 z4 := Tryz.sizeOf4
 v4 := Tryz.zeroValue4
 t22 := Tryz.underlying30
 a22 := Tryz.isAgg30
 z22 := Tryz.sizeOf30
 v22 := Tryz.zeroValue30 }
end Go.Proofs
namespace Go.Proofs.YtddfimjiihggmaaGreatDoor
open Go.RowKit Px Go.Sort Go.Lib
open Go.RowKit Px Go.Sort Go.Shelf Go.Lib
structure Cel where
 a : Value
 b : Value
 c : Value
 ha : a.oneCell' = true
 hb : b.oneCell' = true
 hc : c.oneCell' = true
instance : Inhabited Cel := ⟨⟨.int .i64 0, .int .i64 0, .int .i64 0, rfl, rfl, rfl⟩⟩
def encCel (s : Cel) : List Value := [s.a, s.b, s.c]
def vCel (l : List Cel) : List Value := l.flatMap encCel
theorem vCel_len (l : List Cel) : (vCel l).length = l.length * 3 := by
 induction l with
 | nil => rfl
 | cons x l ih => show (encCel x ++ vCel l).length = _; rw [List.length_append, ih, List.length_cons, show (encCel x).length = 3 from rfl]; omega
theorem vCel_at (l : List Cel) (t : Nat) : (vCel l)[t]? = (l[t / 3]?).bind fun s => (encCel s)[t % 3]? := by
 induction l generalizing t with
 | nil => simp [vCel]
 | cons x l ih =>
  have e : vCel (x :: l) = encCel x ++ vCel l := rfl
  rw [e]
  have hl : (encCel x).length = 3 := rfl
  by_cases h3 : t < 3
  · rw [List.getElem?_append_left (by omega), show t / 3 = 0 by omega, show t % 3 = t by omega]
    rfl
  · rw [List.getElem?_append_right (by omega), hl, ih, show t / 3 = (t - 3) / 3 + 1 by omega, show t % 3 = (t - 3) % 3 by omega]
    rfl
theorem vCel_get (l : List Cel) (t : Nat) (h : t < l.length * 3) : (vCel l)[t]? = some ((encCel l[t / 3]!)[t % 3]!) := by
 have h1 : t / 3 < l.length := by omega
 rw [vCel_at, List.getElem?_eq_getElem h1, getElem!_pos l (t / 3) h1]
 show (encCel l[t / 3])[t % 3]? = _
 have h2 : t % 3 < (encCel l[t / 3]).length := Nat.mod_lt _ (by omega)
 rw [List.getElem?_eq_getElem h2, getElem!_pos (encCel l[t / 3]) (t % 3) h2]
theorem flatC_list (l : List Cel) : flatK encCel 3 l.toArray = (vCel l).toArray := by
 refine ext_get! (by rw [size_flatK, List.size_toArray, List.size_toArray, vCel_len]) fun t ht => ?_
 have ht' : t < l.length * 3 := by simpa using ht
 rw [get_flatK encCel 3 l.toArray t (by simpa using ht')]
 have h1 := vCel_get l t ht'
 have h2 : t < (vCel l).length := by rw [vCel_len]; exact ht'
 rw [getElem!_pos (vCel l).toArray t (by simpa using h2)]
 rw [List.getElem?_eq_getElem h2] at h1
 have h3 : l.toArray[t / 3]! = l[t / 3]! := by simp
 rw [h3, List.getElem_toArray]
 exact (Option.some.inj h1).symm
def rvI (k m j : Nat) : Nat := if j < m * k then (m - 1 - j / k) * k + j % k else j
def PRev (P : Program) (f : FuncId) (E k : Nat) : Prop :=
 ∀ (w : World) (b c m : Nat) (cur : Array Value), w.heap[b]? = some (.cells cur E (0, 0)) → m ≤ 9223372036854775807 → m * k ≤ cur.size → (∀ (j : Nat) u, j < m * k → cur[j]? = some u → u.oneCell' = true) →
  Calls P f #[.slice (some ⟨b, 0, none⟩) m c] w fun e w' => e = .returned (.tuple #[]) ∧ (∃ cur', w'.heap[b]? = some (.cells cur' E (0, 0)) ∧ cur'.size = cur.size ∧ ∀ j, cur'[j]? = cur[rvI k m j]?) ∧ w.grownBy w' (some b)
theorem cels_of (cur : Array Value) : ∀ (m : Nat), m * 3 ≤ cur.size → (∀ (j : Nat) u, j < m * 3 → cur[j]? = some u → u.oneCell' = true) → ∃ l : List Cel, l.length = m ∧ ∀ j, j < m * 3 → (vCel l)[j]? = cur[j]?
 | 0, _, _ => ⟨[], rfl, fun j h => by omega⟩
 | m + 1, hs, ho => by
  obtain ⟨l, h1, h2⟩ := cels_of cur m (by omega) fun j u hj => ho j u (by omega)
  have g : ∀ d, d < 3 → ∃ u, cur[m * 3 + d]? = some u ∧ u.oneCell' = true := fun d hd => by
   have hlt : m * 3 + d < cur.size := by omega
   exact ⟨_, Array.getElem?_eq_getElem hlt, ho _ _ (by omega) (Array.getElem?_eq_getElem hlt)⟩
  obtain ⟨x, x1, x2⟩ := g 0 (by omega)
  obtain ⟨y, y1, y2⟩ := g 1 (by omega)
  obtain ⟨z, z1, z2⟩ := g 2 (by omega)
  refine ⟨l ++ [⟨x, y, z, x2, y2, z2⟩], by simp [h1], fun j hj => ?_⟩
  have hvl : (l.flatMap encCel).length = m * 3 := by rw [show l.flatMap encCel = vCel l from rfl, vCel_len, h1]
  rw [vCel, List.flatMap_append]
  by_cases hj3 : j < m * 3
  · rw [List.getElem?_append_left (by rw [hvl]; exact hj3)]
    exact h2 j hj3
  · rw [List.getElem?_append_right (by rw [hvl]; omega), hvl]
    have : j - m * 3 = 0 ∨ j - m * 3 = 1 ∨ j - m * 3 = 2 := by omega
    rcases this with e | e | e
    · rw [e, show j = m * 3 + 0 by omega, x1]; rfl
    · rw [e, show j = m * 3 + 1 by omega, y1]; rfl
    · rw [e, show j = m * 3 + 2 by omega, z1]; rfl
theorem rev_line : PRev Tryz.prog 32 53 3 := by
 intro w b c m cur hb hm hs ho
 obtain ⟨l, h1, h2⟩ := cels_of cur m hs ho
 have hH : HoldsK encCel 3 w b 0 l.toArray := by
  unfold HoldsK
  rw [flatC_list]
  intro j hj
  have hj' : j < (vCel l).length := by simpa using hj
  have hj3 : j < m * 3 := by rw [vCel_len, h1] at hj'; exact hj'
  refine ⟨?_, by simp [World.frozen?, hb]⟩
  have h3 := h2 j hj3
  simp only [World.cell?, hb, Nat.zero_add]
  simp only [Option.isSome_none, Bool.false_eq_true, if_false]
  rw [← h3, List.getElem?_eq_getElem hj', getElem!_pos (vCel l).toArray j (by simpa using hj')]
  simp
 have h := AnyQ.slices_Reverse Tryz.revLine 3 (fun w => Tryz.isAgg53 w) (fun w => Tryz.sizeOf53 w) encCel (fun _ => rfl) (fun x v hv => by
  simp only [encCel, List.mem_cons, List.not_mem_nil, or_false] at hv
  rcases hv with rfl | rfl | rfl
  · exact x.ha
  · exact x.hb
  · exact x.hc) b 0 c l.toArray w hH (by simp; omega)
 simp only [List.size_toArray] at h
 rw [h1] at h
 refine h.mono ?_
 rintro e w' ⟨rfl, q, rfl⟩
 have hfl : putRowK encCel 3 (Sort.ahead w q) b 0 l.toArray.reverse = putRow id (Sort.ahead w q) b 0 (vCel l.reverse).toArray := by
  unfold putRowK
  rw [← flatC_list]
  simp
 rw [hfl]
 have hlr : (vCel l.reverse).length = m * 3 := by rw [vCel_len, List.length_reverse, h1]
 have hheap : (putRow id (Sort.ahead w q) b 0 (vCel l.reverse).toArray).heap[b]? = some (.cells (putCells id 0 (vCel l.reverse).toArray cur) 53 (0, 0)) := by
  simp [putRow, mapBlock, Sort.ahead, Array.getElem?_modify, hb, onCells]
 refine ⟨rfl, ⟨_, hheap, by simp [putCells], fun j => ?_⟩, ?_⟩
 · by_cases hj : j < m * 3
   · have hjs : j < cur.size := by omega
     have e1 : (putCells id 0 (vCel l.reverse).toArray cur)[j]? = (vCel l.reverse)[j]? := by
      rw [List.getElem?_eq_getElem (by omega)]
      simp [putCells, hjs, hlr, hj]
     rw [e1, rvI, if_pos hj, vCel_at, List.getElem?_reverse (by omega), h1]
     have e2 := h2 ((m - 1 - j / 3) * 3 + j % 3) (by omega)
     rw [← e2, vCel_at, show ((m - 1 - j / 3) * 3 + j % 3) / 3 = m - 1 - j / 3 by omega, show ((m - 1 - j / 3) * 3 + j % 3) % 3 = j % 3 by omega]
   · rw [rvI, if_neg hj]
     rcases Nat.lt_or_ge j cur.size with hjs | hjs
     · rw [Array.getElem?_eq_getElem hjs]
       simp [putCells, hjs, hlr, hj]
     · rw [Array.getElem?_eq_none hjs, Array.getElem?_eq_none (by simp [putCells]; exact hjs)]
 · refine ⟨rfl, rfl, rfl, by simp, fun k hk hne => ?_⟩
   have : b ≠ k := fun e => hne (by rw [e])
   simp [putRow, mapBlock, Sort.ahead, Array.getElem?_modify, this]
end Go.Proofs.YtddfimjiihggmaaGreatDoor
namespace Go.Proofs.YtddfimjiihggmaaGreatDoor.Px
open Go.RowKit
def Corr (F : Nat → Nat → Prop) (w : World) (A B : List (List DV)) : Prop :=
 A.length = B.length ∧ ∀ (i : Nat) a b, A[i]? = some a → B[i]? = some b → a.length = b.length ∧ ∀ (j : Nat) x, b[j]? = some x → ∃ u, a[j]? = some (.val u) ∧ DRep F w u x ∧ u.oneCell' = true
theorem Corr.app {F : Nat → Nat → Prop} {w : World} {A B A' B' : List (List DV)} (h : Corr F w A B) (h' : Corr F w A' B') : Corr F w (A ++ A') (B ++ B') := by
 refine ⟨by rw [List.length_append, List.length_append, h.1, h'.1], fun i a b ha hb => ?_⟩
 by_cases hi : i < A.length
 · rw [List.getElem?_append_left hi] at ha
   rw [List.getElem?_append_left (by rw [← h.1]; exact hi)] at hb
   exact h.2 i a b ha hb
 · rw [List.getElem?_append_right (by omega)] at ha
   rw [List.getElem?_append_right (by rw [← h.1]; omega)] at hb
   rw [← h.1] at hb
   exact h'.2 _ a b ha hb
theorem DRep.exact {F : Nat → Nat → Prop} {w : World} {v : Value} {k : Nat} {es : List (List DV)} (h : DRep F w v (.sl k es)) : ∃ V : List (List DV), DRep F w v (.sl k V) ∧ Corr F w V es := by
 cases h with
 | @sl _ n c A _ f hn hc hm hk ha h1 h =>
  have hg : ∀ (i : Nat) a, ((List.range n).map fun i => (List.range k).map fun j => DV.val (f i j))[i]? = some a → i < n ∧ a = (List.range k).map fun j => DV.val (f i j) := fun i a he => by
   rw [List.getElem?_map, Option.map_eq_some_iff] at he
   obtain ⟨q, hq, rfl⟩ := he
   obtain ⟨q1, q2⟩ := List.getElem?_eq_some_iff.1 hq
   rw [List.length_range] at q1
   rw [List.getElem_range] at q2
   exact ⟨q1, by rw [q2]⟩
  have hg2 : ∀ (i j : Nat) x, ((List.range k).map fun j => DV.val (f i j))[j]? = some x → j < k ∧ x = .val (f i j) := fun i j x hx => by
   rw [List.getElem?_map, Option.map_eq_some_iff] at hx
   obtain ⟨q, hq, rfl⟩ := hx
   obtain ⟨q1, q2⟩ := List.getElem?_eq_some_iff.1 hq
   rw [List.length_range] at q1
   rw [List.getElem_range] at q2
   exact ⟨q1, by rw [q2]⟩
  refine ⟨(List.range n).map fun i => (List.range k).map fun j => .val (f i j), .sl f (by simp) hc hm (fun e he => ?_) ha h1 (fun i j e x he hx => ?_), by simp [hn], fun i a b ha' hb => ?_⟩
  · obtain ⟨i, -, rfl⟩ := List.mem_map.1 he; simp
  · obtain ⟨q1, rfl⟩ := hg i e he
    obtain ⟨q2, rfl⟩ := hg2 i j x hx
    exact DRep.val _ (h1 i j q1 q2)
  · obtain ⟨q1, rfl⟩ := hg i a ha'
    have hbl := hk b (List.mem_of_getElem? hb)
    refine ⟨by simp [hbl], fun j x hx => ?_⟩
    have hj : j < k := by have := (List.getElem?_eq_some_iff.1 hx).1; omega
    exact ⟨f i j, by simp [hj], h i j b x hb hx, h1 i j q1 hj⟩
theorem exact_list {F : Nat → Nat → Prop} {w : World} {k : Nat} : ∀ (L : List (List (List DV))) (vs : List Value), vs.length = L.length → (∀ (i : Nat) v c, vs[i]? = some v → L[i]? = some c → DRep F w v (.sl k c)) →
 ∃ V : List (List (List DV)), V.length = L.length ∧ (∀ (i : Nat) v c, vs[i]? = some v → V[i]? = some c → DRep F w v (.sl k c)) ∧ Corr F w V.flatten L.flatten
 | [], vs, hl, _ => ⟨[], rfl, fun i v c _ hc => by simp at hc, rfl, fun i a b ha => by simp at ha⟩
 | c :: L, [], hl, _ => by simp at hl
 | c :: L, v :: vs, hl, h => by
  obtain ⟨V, h1, h2, h3⟩ := exact_list L vs (by simpa using hl) fun i v' c' hv hc => h (i + 1) v' c' (by simpa using hv) (by simpa using hc)
  obtain ⟨V0, q1, q2⟩ := DRep.exact (h 0 v c rfl rfl)
  refine ⟨V0 :: V, by simp [h1], fun i v' c' hv hc => ?_, ?_⟩
  · cases i with
    | zero => simp at hv hc; subst hv hc; exact q1
    | succ i => exact h2 i v' c' (by simpa using hv) (by simpa using hc)
  · rw [List.flatten_cons, List.flatten_cons]
    exact q2.app h3
theorem DRep.exact2 {F : Nat → Nat → Prop} {w : World} {v : Value} {k : Nat} {L : List (List (List DV))} (h : DRep F w v (.sl 1 (L.map fun c => [.sl k c]))) : ∃ V : List (List (List DV)), V.length = L.length ∧ DRep F w v (.sl 1 (V.map fun c => [.sl k c])) ∧ Corr F w V.flatten L.flatten := by
 cases h with
 | @sl _ n c A _ f hn hc hm hk ha h1 h =>
  rw [List.length_map] at hn
  obtain ⟨V, q1, q2, q3⟩ := exact_list (F := F) (w := w) (k := k) L ((List.range n).map fun i => f i 0) (by simp [hn]) fun i v c hv hc' => by
   rw [List.getElem?_map, Option.map_eq_some_iff] at hv
   obtain ⟨q, hq, rfl⟩ := hv
   obtain ⟨p1, p2⟩ := List.getElem?_eq_some_iff.1 hq
   rw [List.getElem_range] at p2
   subst p2
   exact h i 0 [.sl k c] (.sl k c) (by rw [List.getElem?_map, hc']; rfl) rfl
  refine ⟨V, q1, .sl f (by rw [List.length_map, q1, hn]) hc hm (fun e he => ?_) ha h1 (fun i j e x he hx => ?_), q3⟩
  · obtain ⟨c', -, rfl⟩ := List.mem_map.1 he; rfl
  · rw [List.getElem?_map, Option.map_eq_some_iff] at he
    obtain ⟨c', hc', rfl⟩ := he
    have hi : i < n := by have := (List.getElem?_eq_some_iff.1 hc').1; omega
    cases j with
    | zero =>
     cases hx
     exact q2 i _ c' (by rw [List.getElem?_map, List.getElem?_range hi]; rfl) hc'
    | succ j => simp at hx
section
variable {P : Program} {ops : Array Oper} {K : PS → Prop} {rest : List Oper} {st : PS} {ty : TypeId} {pos : String} {af : Array Edge} {gd : Option (Nat × Bool)}
theorem yCcD {f e E k n : Nat} {x : Operand} {ts : Array TypeId} {L : List (List (List DV))} {ds : List DV} [hB : HasBody P f]
 (hc : ∀ css : List (List (List DV)), css.length = L.length → css.flatten.length = L.flatten.length → POwn P f [.sl 1 (css.map fun c => [.sl k c])] E k css.flatten)
 (h0 : 0 < n) (hn : L.flatten.length = n) (hds : chunk k n ds = L.flatten) (hdl : ds.length = n * k) (hx : st.ev x = .d (.sl 1 (L.map fun c => [.sl k c]))) (hi : st.bget e = none)
 (h : YR P true ops K rest ((st.bput e (ds.map .d)).put (some e) (.bs e n E k))) (hd : dstOk ⟨some e, .call { callee := .value (.func f), args := #[x], argTypes := ts }, ty, pos, af, gd⟩ st = true := by kernel_rfl)
 (hw : st.want ops ⟨some e, .call { callee := .value (.func f), args := #[x], argTypes := ts }, ty, pos, af, gd⟩ = some true := by rfl) :
 YR P true ops K (⟨some e, .call { callee := .value (.func f), args := #[x], argTypes := ts }, ty, pos, af, gd⟩ :: rest) st := by
 refine .any rfl fun B w0 Q hQ g a w hr => ?_
 have h1 := hr.eval x
 rw [hx] at h1
 obtain ⟨V, hVl, hVd, hVc⟩ := DRep.exact2 (F := Fx g) (w := w) h1
 have hVn : V.flatten.length = n := by rw [hVc.1, hn]
 have hcall := hc V hVl (by rw [hVn, hn]) (Fx g) w [a.eval x] rfl (fun i v y hv hy => by
  cases i with
  | zero => cases hv; cases hy; exact hVd
  | succ i => simp at hv) hr.gok
 unfold wpList
 rw [if_pos (want_spec hr hw)]
 refine .inl ?_
 unfold Oper.wp
 have hrun := run_call (P := P) (f := f) (d := some e) (l := [x]) (ts := ts) (ty := ty) (pos := pos) (af := af) (gd := gd) (a := a) (w := w)
 rw [hrun]
 show Calls P f _ w _
 refine hcall.mono ?_
 rintro e' w' ⟨v, xs, rfl, h3, h3o, h4, h5⟩
 rw [hVn] at h3
 obtain ⟨hxl, (⟨-, q0⟩ | ⟨gb, cap, cur, rfl, q1, q2, q3, q4, q5, q6⟩)⟩ := h3
 · omega
 have hin : e < st.n := dstOk_spec hd e rfl
 obtain ⟨A, c2, news, r1, -, -, r4, r5, r6, r7, r8⟩ := DRep.row h4
 rw [hVn] at r1 r5 r6
 obtain ⟨b2, off2, rfl, r9⟩ := r6 h0
 obtain ⟨e1, -, -⟩ := Value.slice.inj r1
 have e1' : gb = b2 ∧ off2 = 0 := by
  have := Option.some.inj e1
  exact ⟨congrArg Addr.block this, (congrArg Addr.off this).symm⟩
 obtain ⟨rfl, rfl⟩ := e1'
 have hcur : ∀ (q : Nat) (y : DV), ds[q]? = some y → ∃ u, cur[q]? = some u ∧ DRep (Fx g) w u y ∧ u.oneCell' = true := fun q y hq => by
  have hql : q < n * k := by rw [← hdl]; exact (List.getElem?_eq_some_iff.1 hq).1
  have hk0 : 0 < k := by
   rcases Nat.eq_zero_or_pos k with h | h
   · rw [h, Nat.mul_zero] at hql; omega
   · exact h
  have hqn : q / k < n := Nat.div_lt_of_lt_mul (by rw [Nat.mul_comm]; exact hql)
  have hqk : q % k < k := Nat.mod_lt _ hk0
  have hLg := List.getElem?_eq_getElem (l := L.flatten) (i := q / k) (by omega)
  obtain ⟨b, hb⟩ : ∃ b, b = L.flatten[q / k]'(by omega) := ⟨_, rfl⟩
  rw [← hb] at hLg
  have hVg := List.getElem?_eq_getElem (l := V.flatten) (i := q / k) (by omega)
  obtain ⟨hab, hcel⟩ := hVc.2 _ _ _ hVg hLg
  have hak := r4 _ (List.mem_of_getElem? hVg)
  have hbx := List.getElem?_eq_getElem (l := b) (i := q % k) (by omega)
  have t3 := (chunk_get k n ds (q / k) (q % k) b _ (by rw [hds]; exact hLg) hbx hdl).1
  rw [Nat.mul_comm (q / k), Nat.div_add_mod, hq] at t3
  have t3 := Option.some.inj t3
  obtain ⟨u, s1, s2, s3⟩ := hcel _ _ hbx
  rw [← t3] at s2
  obtain ⟨u', t1, t2⟩ := r8 _ _ _ _ hVg s1
  have t6 := DRep.val_eq t2
  subst t6
  rw [Nat.mul_comm (q / k), Nat.div_add_mod] at t1
  have t7 := (r9 q u' t1).1
  rw [Nat.zero_add] at t7
  exact ⟨u', by simpa [World.cell?, q2] using t7, s2, s3⟩
 have hvl : ds.length ≤ cur.size := by
  rw [hdl, q5]; exact Nat.mul_le_mul_right _ q3
 obtain ⟨ev, hr'⟩ := hr.adopt e gb E hi hin h5 q1 cur q2 (ds.map .d) (by simpa using hvl) (fun ev j c hj => by
  rw [List.getElem?_map, Option.map_eq_some_iff] at hj
  obtain ⟨y, hy, rfl⟩ := hj
  obtain ⟨u, t1, t2, -⟩ := hcur j y hy
  exact ⟨u, t1, t2.mono ev.fx⟩) (fun j u hj hu => by
  obtain ⟨u', t1, -, t3⟩ := hcur j _ (List.getElem?_eq_getElem (by simpa using hj))
  rw [hu] at t1
  cases t1
  exact t3)
 refine h.sound hQ (hr'.put ?_ (some e) fun i hi => by cases hi; exact hin)
 refine ⟨gb, cap, by simp [Gh.addb], rfl, q3, q4, ?_⟩
 simp [World.shape?, q2, q5]
theorem yRv {f E k i m : Nat} {e : Option Nat} {x : Operand} {ts : Array TypeId} {cs cs' : List SV} [hB : HasBody P f] (hc : PRev P f E k) (hx : st.ev x = .bs i m E k) (hi : st.bget i = some cs) (hm : m * k ≤ cs.length) (hm2 : m ≤ 1000000) (hl : cs'.length = cs.length) (hcs : ∀ j, cs'[j]? = cs[rvI k m j]?)
 (h : YR P true ops K rest ((st.bput i cs').put e (.tup []))) (hd : dstOk ⟨e, .call { callee := .value (.func f), args := #[x], argTypes := ts }, ty, pos, af, gd⟩ st = true := by kernel_rfl)
 (hw : st.want ops ⟨e, .call { callee := .value (.func f), args := #[x], argTypes := ts }, ty, pos, af, gd⟩ = some true := by rfl) (hlt : Nat.blt i 500000 = true := by rfl) :
 YR P true ops K (⟨e, .call { callee := .value (.func f), args := #[x], argTypes := ts }, ty, pos, af, gd⟩ :: rest) st := by
 refine .any rfl fun B w0 Q hQ g a w hr => ?_
 have h1 := hr.eval x
 rw [hx] at h1
 obtain ⟨b, c, q1, q2, q3, q4, q5⟩ := h1
 have hlt := Nat.le_of_ble_eq_true hlt
 obtain ⟨b', xs, T, q6, q7, q8, q9, q10⟩ := hr.boxes i _ hi hlt
 rw [q1] at q6
 cases q6
 have hsh : T = E ∧ xs.size = c * k := by
  simp only [World.shape?, q7, Option.some.injEq, Prod.mk.injEq] at q5
  exact q5
 obtain ⟨rfl, hsz⟩ := hsh
 have hcall := hc w b c m xs q7 (by omega) (by omega) fun j u hj hu => q10 j u (by omega) hu
 unfold wpList
 rw [if_pos (want_spec hr hw)]
 refine .inl ?_
 unfold Oper.wp
 have hrun := run_call (P := P) (f := f) (d := e) (l := [x]) (ts := ts) (ty := ty) (pos := pos) (af := af) (gd := gd) (a := a) (w := w)
 rw [hrun]
 show Calls P f _ w _
 simp only [List.map_cons, List.map_nil, q2]
 refine hcall.mono ?_
 rintro e' w' ⟨rfl, ⟨cur, h3, h4, h6⟩, h5⟩
 have hrv : ∀ j, j < cs.length → rvI k m j < cs.length := fun j hj => by
  unfold rvI
  split
  · rename_i hjm
    have hk0 : 0 < k := by
     rcases Nat.eq_zero_or_pos k with h | h
     · rw [h, Nat.mul_zero] at hjm; omega
     · exact h
    have h7 : j % k < k := Nat.mod_lt _ hk0
    have h8 : j / k < m := Nat.div_lt_of_lt_mul (by rw [Nat.mul_comm]; exact hjm)
    obtain ⟨q, hq⟩ : ∃ q, q = j / k := ⟨_, rfl⟩
    obtain ⟨r, hr7⟩ : ∃ r, r = j % k := ⟨_, rfl⟩
    rw [← hq] at h8 ⊢
    rw [← hr7] at h7 ⊢
    have h9 := Nat.mul_le_mul_right k (show m - 1 - q + 1 ≤ m by omega)
    rw [Nat.add_mul, Nat.one_mul] at h9
    omega
  · exact hj
 have hr' : Rep B w0 g (st.bput i cs') a w' := by
  refine hr.seto i b _ q1 ⟨h5.os, h5.tape, h5.output, h5.size, fun k hk => by omega⟩ (fun k hk hne => h5.block k hk (fun e => hne (Option.some.inj e))) ?_ (fun ev _ => ⟨cur, T, h3, ?_, fun j z hj => ?_, fun j u hj hu => ?_⟩) fun _ hge => by omega
  · simp [World.shape?, h3, q7, h4]
  · rw [hl, h4]; exact q8
  · rw [hcs j] at hj
    obtain ⟨u, t1, t2⟩ := q9 _ z hj
    exact ⟨u, by rw [h6 j]; exact t1, t2.ext ev⟩
  · rw [h6 j] at hu
    exact q10 _ u (hrv j (by omega)) hu
 exact h.sound hQ (hr'.put (x := .tup []) ⟨[], rfl, rfl, fun i y x hy => by simp at hy⟩ _ (dstOk_spec (st := st) hd))
theorem pure_dl {d : Option Nat} {T E k : Nat} {x y : Operand} {n : Int} {kd : IntKind} {es : List (List DV)} [hS : SliceOf P T E k] (h0 : 0 ≤ n) (he : n ≤ es.length) (hx : asSl (st.ev x) = some (k, es)) (hy : st.ev y = .d (.val (.int kd n))) (hd : dstOk ⟨d, .slice T x (some y) none none, ty, pos, af, none⟩ st = true := by kernel_rfl) :
 Pure P ⟨d, .slice T x (some y) none none, ty, pos, af, none⟩ st (.d (.sl k (es.drop n.toNat))) :=
 ⟨hd, rfl, fun _ _ g a w h => by
  have h1 := (h.eval x).asSl hx
  obtain ⟨A, c, news, hv, hc, hm, -⟩ := DRep.row h1
  have h2 := h.eval y
  rw [hy] at h2
  rw [hv] at h1
  have hp := h1.part n.toNat es.length (by omega) (Nat.le_refl _)
  rw [List.take_of_length_le (by simp)] at hp
  refine ⟨_, fun w' => ?_, hp⟩
  have hn : 0 ≤ n ∧ n ≤ (es.length : Int) := ⟨h0, he⟩
  simp only [execOp, Instr.sliceAt, Instr.slice, Instr.sliceBounds, Instr.sliceBound, hv, DRep.val_eq h2, asIntOf, Sem.run_bind, Sem.run_pure, Result.andThen_ok, hS.und, hn, and_self, if_true, hS.size, Option.map_some, Option.map_none]⟩
theorem pure_dh {d : Option Nat} {T E k : Nat} {x y : Operand} {n : Int} {kd : IntKind} {es : List (List DV)} [hS : SliceOf P T E k] (h0 : 0 ≤ n) (he : n ≤ es.length) (hx : asSl (st.ev x) = some (k, es)) (hy : st.ev y = .d (.val (.int kd n))) (hd : dstOk ⟨d, .slice T x none (some y) none, ty, pos, af, none⟩ st = true := by kernel_rfl) :
 Pure P ⟨d, .slice T x none (some y) none, ty, pos, af, none⟩ st (.d (.sl k (es.take n.toNat))) :=
 ⟨hd, rfl, fun _ _ g a w h => by
  have h1 := (h.eval x).asSl hx
  obtain ⟨A, c, news, hv, hc, hm, -⟩ := DRep.row h1
  have h2 := h.eval y
  rw [hy] at h2
  rw [hv] at h1
  have hp := h1.part 0 n.toNat (by omega) (by omega)
  rw [List.drop_zero, Nat.sub_zero] at hp
  refine ⟨_, fun w' => ?_, hp⟩
  have hn : 0 ≤ n ∧ n ≤ (c : Int) := ⟨h0, by omega⟩
  simp only [execOp, Instr.sliceAt, Instr.slice, Instr.sliceBounds, Instr.sliceBound, hv, DRep.val_eq h2, asIntOf, Sem.run_bind, Sem.run_pure, Result.andThen_ok, hS.und, hn, and_self, if_true, hS.size, Option.map_some, Option.map_none, Nat.sub_zero]⟩
end
end Go.Proofs.YtddfimjiihggmaaGreatDoor.Px
namespace Go.Proofs.YtddfimjiihggmaaGreatDoor
open Go.RowKit Px
theorem flat3 (l : List Ln) (t : Nat) : (l.flatMap dLn)[t]? = (l[t / 3]?).bind fun s => (dLn s)[t % 3]? := by
 induction l generalizing t with
 | nil => simp
 | cons x l ih =>
  rw [List.flatMap_cons]
  have hl : (dLn x).length = 3 := rfl
  by_cases h3 : t < 3
  · rw [List.getElem?_append_left (by omega), show t / 3 = 0 by omega, show t % 3 = t by omega]
    rfl
  · rw [List.getElem?_append_right (by omega), hl, ih, show t / 3 = (t - 3) / 3 + 1 by omega, show t % 3 = (t - 3) % 3 by omega]
    rfl
theorem flat3_len (l : List Ln) : (l.flatMap dLn).length = l.length * 3 := by
 induction l with
 | nil => rfl
 | cons x l ih => rw [List.flatMap_cons, List.length_append, ih, show (dLn x).length = 3 from rfl, List.length_cons]; omega
theorem chunk_ln (l : List Ln) : chunk 3 l.length (l.flatMap dLn) = l.map dLn := by
 induction l with
 | nil => rfl
 | cons x l ih =>
  rw [List.length_cons, chunk, List.flatMap_cons, List.take_left' (by rfl), List.drop_left' (by rfl), ih]
  rfl
theorem toDs_d (l : List DV) : toDs (l.map .d) = some l := by
 induction l with
 | nil => rfl
 | cons x l ih =>
  show toDs (SV.d x :: l.map .d) = _
  simp only [toDs, toD, ih]
def turL (m : Nat) (T : List Ln) : List Ln := (T.take m).reverse ++ T.drop m
theorem turL_len (m : Nat) (T : List Ln) : (turL m T).length = T.length := by simp [turL]; omega
theorem turL_perm (m : Nat) (T : List Ln) : (turL m T).Perm T := by
 refine ((List.reverse_perm _).append_right _).trans ?_
 rw [List.take_append_drop]
theorem turL_cells {m : Nat} {T : List Ln} (hm : m ≤ T.length) (j : Nat) : (((turL m T).flatMap dLn).map SV.d)[j]? = ((T.flatMap dLn).map SV.d)[rvI 3 m j]? := by
 rw [List.getElem?_map, List.getElem?_map, flat3, flat3, rvI]
 have hlr : ((T.take m).reverse).length = m := by simp; omega
 by_cases h : j < m * 3
 · rw [if_pos h, turL, List.getElem?_append_left (by omega), List.getElem?_reverse (by simp; omega), List.getElem?_take_of_lt (by simp; omega), show (T.take m).length = m by simp; omega, show ((m - 1 - j / 3) * 3 + j % 3) / 3 = m - 1 - j / 3 by omega, show ((m - 1 - j / 3) * 3 + j % 3) % 3 = j % 3 by omega]
 · rw [if_neg h, turL, List.getElem?_append_right (by omega), hlr, List.getElem?_drop, show m + (j / 3 - m) = j / 3 by omega]
theorem grt_two {r s : Ru} (h : grtL [r, s] = false) : (r.2.length ≤ 66 ∧ ∀ x ∈ r.2, x.1.length ≤ 60 ∧ x.2.2.length ≤ 18 ∧ ∀ c ∈ x.2.2, c.1.length ≤ 30 ∧ c.2.length ≤ 13) ∧ ∀ x ∈ s.2, x.1.length ≤ 60 ∧ x.2.2.length ≤ 18 ∧ ∀ c ∈ x.2.2, c.1.length ≤ 30 ∧ c.2.length ≤ 13 := by
 unfold grtL at h
 simp only [Bool.or_eq_false_iff, Bool.and_eq_false_iff, decide_eq_false_iff_not, List.any_cons, List.any_nil, Bool.or_false] at h
 have g : ∀ r : Ru, grtR r = false → r.2.length ≤ 66 ∧ ∀ x ∈ r.2, x.1.length ≤ 60 ∧ x.2.2.length ≤ 18 ∧ ∀ c ∈ x.2.2, c.1.length ≤ 30 ∧ c.2.length ≤ 13 := fun r hr => by
  unfold grtR at hr
  simp only [Bool.or_eq_false_iff, Bool.and_eq_false_iff, decide_eq_false_iff_not, List.any_eq_false] at hr
  refine ⟨by omega, fun x hx => ?_⟩
  have hn : grtN x = false := by simpa using hr.2 x hx
  unfold grtN at hn
  simp only [Bool.or_eq_false_iff, Bool.and_eq_false_iff, decide_eq_false_iff_not, List.any_eq_false] at hn
  refine ⟨by omega, by omega, fun c hc => ?_⟩
  have hcc : grtC c = false := by simpa using hn.2 c hc
  unfold grtC at hcc
  simp only [Bool.or_eq_false_iff, decide_eq_false_iff_not] at hcc
  omega
 exact ⟨g r h.2.1, (g s h.2.2).2⟩
theorem lawLines (r : Ru) (x : Ln) (u : Int) (hu0 : 0 ≤ u) (hu1 : u ≤ 255) : PCalls Tryz.prog 5 [.agg (dRu r), .agg (dLn x), .val (.int .u8 u)] (.d (dB true)) := by
 have k0 := wAwake
 have k1 := wGreatRs [[r, (3, [x])]] (by simp)
 simp only [List.map_cons, List.map_nil, List.any_cons, List.any_nil, Bool.or_false] at k1
 obtain ⟨n, ls⟩ := r
 obtain ⟨xa, xc, xe⟩ := x
 cases hg : grtL [(n, ls), (3, [(xa, xc, xe)])] with
 | true =>
  rw [hg] at k1
  refine pcalls_of_pw Tryz.func5 rfl Tryz.ntmps5 Tryz.results5 (by simp) fun B w0 => ?_
  refine pzr (yK (cs := [_, _]) rfl rfl (yK (cs := [_, _, _]) rfl rfl (yAd rfl (yQ (pw_seq (pzr (yLa (ys := [_, _]) rfl rfl rfl rfl (yLa (ys := [_, _, _]) rfl rfl rfl rfl ?_)))))))); refine yR (es := [[_, _, _]]) rfl rfl rfl rfl rfl ?_; refine yG (ys := [_, _]) rfl rfl ?_; refine yR (es := [[_, _], [_, _]]) rfl rfl rfl rfl rfl ?_; refine yR (es := [[_]]) rfl rfl rfl rfl rfl ?_; refine yC (k1) rfl rfl (yMd rfl (yO rfl (yO rfl (yO rfl (yO rfl (yPd rfl rfl (yMd rfl (yO rfl (yO rfl ?_))))))))); refine yO rfl (yO rfl (yPd rfl rfl (yQ (pw_ct rfl (pzr (yC (k0) rfl rfl (yAd rfl (yQ (pw_ret ?_))))))))); refine q_then_ret ?_
  exact q_ret _ (.tmp rfl .nil) rfl
 | false =>
 rw [hg] at k1
 obtain ⟨⟨g1, g2⟩, g3⟩ := grt_two hg
 simp only at g1 g2 g3
 clear hg
 by_cases hl0 : ls.length = 0
 · have t0 : (((ls.map dLn).length : Int) == 0) = true := by rw [List.length_map, hl0]; rfl
   refine pcalls_of_pw Tryz.func5 rfl Tryz.ntmps5 Tryz.results5 (by simp) fun B w0 => ?_
   refine pzr (yK (cs := [_, _]) rfl rfl (yK (cs := [_, _, _]) rfl rfl (yAd rfl (yQ (pw_seq (pzr (yLa (ys := [_, _]) rfl rfl rfl rfl (yLa (ys := [_, _, _]) rfl rfl rfl rfl ?_)))))))); refine yR (es := [[_, _, _]]) rfl rfl rfl rfl rfl ?_; refine yG (ys := [_, _]) rfl rfl ?_; refine yR (es := [[_, _], [_, _]]) rfl rfl rfl rfl rfl ?_; refine yR (es := [[_]]) rfl rfl rfl rfl rfl ?_; refine yC (k1) rfl rfl (yMd rfl (yFb rfl (yLd rfl rfl rfl (yN rfl (yB rfl rfl rfl rfl (yVd rfl rfl (yMd rfl ?_))))))); rw [t0]; refine yO rfl (yO rfl (yO rfl (yO rfl (yPd rfl rfl (yQ (pw_ct rfl (pzr (yC (k0) rfl rfl (yAd rfl ?_))))))))); refine yQ (pw_ret (q_then_ret ?_))
   exact q_ret _ (.tmp rfl .nil) rfl
 have t0 : (((ls.map dLn).length : Int) == 0) = false := beq_false_of_ne (by rw [List.length_map]; omega)
 by_cases hl6 : 6 < ls.length
 · have t1 : decide (((ls.map dLn).length : Int) > 6) = true := decide_eq_true (by rw [List.length_map]; omega)
   refine pcalls_of_pw Tryz.func5 rfl Tryz.ntmps5 Tryz.results5 (by simp) fun B w0 => ?_
   refine pzr (yK (cs := [_, _]) rfl rfl (yK (cs := [_, _, _]) rfl rfl (yAd rfl (yQ (pw_seq (pzr (yLa (ys := [_, _]) rfl rfl rfl rfl (yLa (ys := [_, _, _]) rfl rfl rfl rfl ?_)))))))); refine yR (es := [[_, _, _]]) rfl rfl rfl rfl rfl ?_; refine yG (ys := [_, _]) rfl rfl ?_; refine yR (es := [[_, _], [_, _]]) rfl rfl rfl rfl rfl ?_; refine yR (es := [[_]]) rfl rfl rfl rfl rfl ?_; refine yC (k1) rfl rfl (yMd rfl (yFb rfl (yLd rfl rfl rfl (yN rfl (yB rfl rfl rfl rfl (yVd rfl rfl (yMd rfl ?_))))))); rw [t0]; refine yFb rfl (yLd rfl rfl rfl (yN rfl (yB rfl rfl rfl rfl (yVd rfl rfl (yQ (q_then ?_))))))
   rw [t1]; refine pw_ct rfl ?_; refine pw_seq ?_; refine pw_region ?_; refine yC (k0) rfl rfl ?_; refine yAd rfl ?_; refine yQ ?_; refine pw_ret ?_; refine q_then_ret ?_
   exact q_ret _ (.tmp rfl .nil) rfl
 have t1 : decide (((ls.map dLn).length : Int) > 6) = false := decide_eq_false (by rw [List.length_map]; omega)
 have hbx : bdN (xa, xc, xe) := by
  have := g3 (xa, xc, xe) (by simp)
  exact ⟨by have := this.1; omega, by have := this.2.1; omega, fun c hc => by have := this.2.2 c hc; omega⟩
 have hbl : ∀ l ∈ ls, bdN l := fun l hl => ⟨by have := (g2 l hl).1; omega, by have := (g2 l hl).2.1; omega, fun c hc => by have := (g2 l hl).2.2 c hc; omega⟩
 have hB : bdR (n, ls) := ⟨by simp only; omega, hbl⟩
 have b0 := wBalanced (n, ls) hB
 by_cases he : rulE (n, ls) = 0
 rotate_left
 · have t2 : (rulE (n, ls) != 0) = true := by simp [he]
   obtain ⟨E, hE⟩ : ∃ E, E = rulE (n, ls) := ⟨_, rfl⟩
   obtain ⟨bb, hbb⟩ : ∃ b, b = (decide (rulE (n, ls) = 0) && balB (n, ls).2) := ⟨_, rfl⟩
   rw [← hbb, ← hE] at b0
   rw [← hE] at t2
   refine pcalls_of_pw Tryz.func5 rfl Tryz.ntmps5 Tryz.results5 (by simp) fun B w0 => ?_
   refine pzr (yK (cs := [_, _]) rfl rfl (yK (cs := [_, _, _]) rfl rfl (yAd rfl (yQ (pw_seq (pzr (yLa (ys := [_, _]) rfl rfl rfl rfl (yLa (ys := [_, _, _]) rfl rfl rfl rfl ?_)))))))); refine yR (es := [[_, _, _]]) rfl rfl rfl rfl rfl ?_; refine yG (ys := [_, _]) rfl rfl ?_; refine yR (es := [[_, _], [_, _]]) rfl rfl rfl rfl rfl ?_; refine yR (es := [[_]]) rfl rfl rfl rfl rfl ?_; refine yC (k1) rfl rfl (yMd rfl (yFb rfl (yLd rfl rfl rfl (yN rfl (yB rfl rfl rfl rfl (yVd rfl rfl (yMd rfl ?_))))))); rw [t0]; refine yFb rfl (yLd rfl rfl rfl (yN rfl (yB rfl rfl rfl rfl (yVd rfl rfl (yQ (q_then ?_))))))
   rw [t1]; refine pw_cf rfl ?_; refine pw_skip ?_; refine pw_seq ?_; refine pw_region ?_; refine yLa (ys := [_, _]) rfl rfl rfl rfl ?_; refine yC (b0) rfl rfl ?_; refine yMp rfl ?_; refine yX rfl rfl ?_; refine yX rfl rfl ?_
   refine yAd rfl (yAd rfl (yQ (pw_seq (pzr (yMd rfl (yB rfl rfl rfl rfl (yQ (q_then ?_)))))))); rw [t2]; refine pw_ct rfl (pzr (yC (k0) rfl rfl (yAd rfl (yQ (pw_ret (q_then_ret ?_))))))
   exact q_ret _ (.tmp rfl .nil) rfl
 rw [he, decide_eq_true rfl, Bool.true_and] at b0
 simp only at b0
 have hwu := wrapI u (by omega)
 obtain ⟨k, hk, hkl⟩ : ∃ k : Nat, u.tmod ((ls.map dLn).length : Int) = (k : Int) ∧ k < ls.length := by
  refine ⟨u.toNat % ls.length, ?_, Nat.mod_lt _ (by omega)⟩
  rw [List.length_map]
  obtain ⟨n, rfl⟩ : ∃ n : Nat, u = n := ⟨u.toNat, by omega⟩
  rfl
 obtain ⟨T, hT⟩ : ∃ T, T = ls.drop k ++ ls.take k := ⟨_, rfl⟩
 have hTl : T.length = ls.length := by rw [hT, List.length_append, List.length_drop, List.length_take]; omega
 have hTp : T.Perm ls := by
  rw [hT]
  refine List.perm_append_comm.trans ?_
  rw [List.take_append_drop]
 obtain ⟨m, hm⟩ : ∃ m, m = max (ls.length - 1) 1 := ⟨_, rfl⟩
 have hml : m ≤ T.length := by omega
 have hmi : (if (1 : Int) > (ls.length : Int) - 1 then 1 else (ls.length : Int) - 1) = (m : Int) := by
  split <;> omega
 have hws : IntKind.i64.wrap ((ls.length : Int) - 1) = (ls.length : Int) - 1 := wrapI _ (by omega)
 obtain ⟨T', hT'⟩ : ∃ T', T' = turL m T := ⟨_, rfl⟩
 have hT'l : T'.length = ls.length := by rw [hT', turL_len, hTl]
 have hT'p : T'.Perm ls := by rw [hT']; exact (turL_perm m T).trans hTp
 have hcells := fun j => turL_cells hml j
 rw [← hT'] at hcells
 have b1 := wBalanced (n, T') ⟨by simp only; omega, fun l hl => hbl l (hT'p.mem_iff.1 hl)⟩
 have he1 : rulE (n, T') = 0 := rE_perm hT'p.symm he
 rw [he1, decide_eq_true rfl, Bool.true_and] at b1
 simp only at b1
 rw [balB_perm hT'p] at b1
 obtain ⟨W, hW⟩ : ∃ W, W = (xa, xc, xe) :: ls ++ [(xa, !xc, xe)] := ⟨_, rfl⟩
 have b2 := wBalanced (n, W) (by
  rw [hW]
  refine ⟨by simp; omega, fun l hl => ?_⟩
  rcases List.mem_append.1 hl with hl | hl
  · rcases List.mem_cons.1 hl with rfl | hl
    · exact hbx
    · exact hbl l hl
  · rw [List.mem_singleton.1 hl]; exact hbx)
 have he2 : rulE (n, W) = rulE (n, [(xa, xc, xe)]) := by rw [hW]; exact rE_both (by omega) he
 have hbW : balB W = balB ls := by rw [hW]; exact balB_both xa xc xe ls
 simp only at b2
 rw [he2, hbW] at b2
 have b3 := wBalanced (n, [(xa, xc, xe)]) ⟨by simp, fun l hl => by rw [List.mem_singleton.1 hl]; exact hbx⟩
 have c2 := (wConcatL [[dLn (xa, xc, xe)], ls.map dLn, [dLn (xa, !xc, xe)]] (by simp) (by simp; omega)).pcalls
 have hWm : ([[dLn (xa, xc, xe)], ls.map dLn, [dLn (xa, !xc, xe)]] : List (List (List DV))).flatten = W.map dLn := by rw [hW]; simp
 rw [hWm] at c2
 simp only [List.map_cons, List.map_nil] at c2
 have c1 : ∀ css : List (List (List DV)), css.length = ([(ls.drop k).map dLn, (ls.take k).map dLn] : List (List (List DV))).length → css.flatten.length = ([(ls.drop k).map dLn, (ls.take k).map dLn] : List (List (List DV))).flatten.length → POwn Tryz.prog 31 [.sl 1 (css.map fun c => [.sl 3 c])] 53 3 css.flatten := fun css h1 h2 => wConcatL css (by rw [h1]; simp) (by rw [h2]; simp; omega)
 have hLf : ([(ls.drop k).map dLn, (ls.take k).map dLn] : List (List (List DV))).flatten = T.map dLn := by rw [hT]; simp
 have w1 : 0 < ls.length := by omega
 have w2 : ([(ls.drop k).map dLn, (ls.take k).map dLn] : List (List (List DV))).flatten.length = ls.length := by rw [hLf, List.length_map, hTl]
 have w3 : chunk 3 ls.length (T.flatMap dLn) = ([(ls.drop k).map dLn, (ls.take k).map dLn] : List (List (List DV))).flatten := by rw [hLf, ← hTl]; exact chunk_ln T
 have w4 : (T.flatMap dLn).length = ls.length * 3 := by rw [flat3_len, hTl]
 have w5 : m * 3 ≤ ((T.flatMap dLn).map SV.d).length := by rw [List.length_map, w4]; omega
 have w6 : ((T'.flatMap dLn).map SV.d).length = ((T.flatMap dLn).map SV.d).length := by rw [List.length_map, List.length_map, w4, flat3_len, hT'l]
 have w7 : (T'.flatMap dLn).length = ls.length * 3 := by rw [flat3_len, hT'l]
 have w8 : chunk 3 ls.length (T'.flatMap dLn) = T'.map dLn := by rw [← hT'l]; exact chunk_ln T'
 have hdr : (ls.map dLn).drop ((k : Int)).toNat = (ls.drop k).map dLn := by rw [Int.toNat_natCast, List.map_drop]
 have htk : (ls.map dLn).take ((k : Int)).toNat = (ls.take k).map dLn := by rw [Int.toNat_natCast, List.map_take]
 have gk : (k : Int) ≤ ((ls.map dLn).length : Int) := by rw [List.length_map]; omega
 have hl1 : ((ls.map dLn).length : Int) ≠ 0 := by rw [List.length_map]; omega
 have hmn : (m : Int) ≤ (ls.length : Int) := by omega
 have hmt : ((m : Nat) : Int).toNat = m := Int.toNat_natCast m
 obtain ⟨dk, hdk⟩ : ∃ d, d = (ls.drop k).map dLn := ⟨_, rfl⟩
 obtain ⟨tk, htk2⟩ : ∃ d, d = (ls.take k).map dLn := ⟨_, rfl⟩
 rw [← hdk, ← htk2] at c1 w2 w3
 rw [← hdk] at hdr
 rw [← htk2] at htk
 obtain ⟨is, his⟩ : ∃ b, b = balB ls := ⟨_, rfl⟩
 rw [← his] at b0 b1 b2
 obtain ⟨g, hgg⟩ : ∃ g, g = rulE (n, [(xa, xc, xe)]) := ⟨_, rfl⟩
 rw [← hgg] at b2 b3
 obtain ⟨b3b, hb3⟩ : ∃ b, b = (decide (g = 0) && balB (n, [(xa, xc, xe)]).2) := ⟨_, rfl⟩
 rw [← hb3] at b3
 obtain ⟨Q, hQ⟩ : ∃ q, q = ls.length := ⟨_, rfl⟩
 have hlm : (ls.map dLn).length = Q := by rw [List.length_map, hQ]
 obtain ⟨M, hM⟩ : ∃ q, q = ls.map dLn := ⟨_, rfl⟩
 have hgc : g = 0 ∨ g ≠ 0 := by omega
 have tii : (is != is) = false := by simp
 have tie : (is == is) = true := by simp
 have tgg : (g == g) = true := by simp
 have hQ100 : m ≤ 1000000 := by omega
 have hT'd := toDs_d (T'.flatMap dLn)
 rw [← hQ] at hmi hws hmn w1 w2 w3 w4 w7 w8
 clear hT hTl hTp hT' hT'l hT'p hW he2 hbW hWm hLf hdk htk2 his hgg hb3 he1 he hB hbl hbx g1 g2 g3 hl0 hl6 hkl
 rcases hgc with rfl | hg0
 · rw [decide_eq_true rfl, Bool.true_and] at b2
   refine pcalls_of_pw Tryz.func5 rfl Tryz.ntmps5 Tryz.results5 (by simp) fun B w0 => ?_
   refine pzr (yK (cs := [_, _]) rfl rfl (yK (cs := [_, _, _]) rfl rfl (yAd rfl (yQ (pw_seq (pzr (yLa (ys := [_, _]) rfl rfl rfl rfl (yLa (ys := [_, _, _]) rfl rfl rfl rfl ?_)))))))); refine yR (es := [[_, _, _]]) rfl rfl rfl rfl rfl ?_; refine yG (ys := [_, _]) rfl rfl ?_; refine yR (es := [[_, _], [_, _]]) rfl rfl rfl rfl rfl ?_; refine yR (es := [[_]]) rfl rfl rfl rfl rfl ?_; refine yC (k1) rfl rfl (yMd rfl (yFb rfl (yLd rfl rfl rfl (yN rfl (yB rfl rfl rfl rfl (yVd rfl rfl (yMd rfl ?_))))))); rw [t0]; refine yFb rfl (yLd rfl rfl rfl (yN rfl (yB rfl rfl rfl rfl (yVd rfl rfl (yQ (q_then ?_))))))
   rw [t1]; refine pw_cf rfl ?_; refine pw_skip ?_; refine pw_seq ?_; refine pw_region ?_; refine yLa (ys := [_, _]) rfl rfl rfl rfl ?_; refine yC (b0) rfl rfl ?_; refine yMp rfl ?_; refine yX rfl rfl ?_; refine yX rfl rfl ?_
   refine yAd rfl (yAd rfl (yQ (pw_seq (pzr (yMd rfl (yB rfl rfl rfl rfl (yQ (pw_cf rfl (pw_skip ?_))))))))); refine pzr (yMd rfl (yJ rfl (yFb rfl (yLd rfl rfl rfl (yN rfl ?_))))); rw [hwu]; refine yBm hl1 hk rfl rfl (yAd rfl (yQ (pw_seq ?_))); refine pw_any (id := 7) ⟨127, [(3, .bx 3 0), (4, .bx 4 0), (7, .d (dB is)), (10, .bs 61 Q 53 3)], [(3, [.d (dI n), .d (.sl 3 (ls.map dLn))]), (4, [.d (dS xa), .d (dB xc), .d (.sl 2 (xe.map dCf))]), (61, (T.flatMap dLn).map SV.d)], []⟩ Tryz.mixed ?_ ?_
   refine pa_pure 0 rfl rfl (by kernel_rfl) (by kernel_rfl) (pure_fa rfl) ?_; refine pa_pure 2 rfl rfl (by kernel_rfl) (by kernel_rfl) pure_move ?_; refine pa_pure 4 rfl rfl (by kernel_rfl) (by kernel_rfl) (pure_fa rfl) ?_
   refine pa_pure 6 rfl rfl (by kernel_rfl) (by kernel_rfl) pure_move ?_; refine pa_step [_, _] rfl rfl ⟨⟨_, rfl, ?_⟩, ⟨_, rfl, ?_⟩, trivial⟩; refine yLd rfl rfl rfl (yQ ?_)
   refine pa_pure 3 rfl rfl (by kernel_rfl) (by kernel_rfl) (pure_dl (by omega) gk rfl rfl) ?_; refine pa_step [_] rfl rfl ⟨⟨_, rfl, ?_⟩, trivial⟩; refine yLd rfl rfl rfl (yQ ?_)
   refine pa_pure 7 rfl rfl (by kernel_rfl) (by kernel_rfl) (pure_dh (by omega) gk rfl rfl) ?_; refine pa_step [_] rfl rfl ⟨⟨_, rfl, ?_⟩, trivial⟩; refine yR (es := [[_], [_]]) rfl rfl rfl rfl rfl ?_; refine yQ ?_
   refine pa_step [_] rfl rfl ⟨⟨_, rfl, ?_⟩, trivial⟩; rw [hdr]; rw [htk]; refine yCcD (L := [dk, tk]) (ds := T.flatMap dLn) c1 w1 w2 w3 w4 rfl rfl (yQ ?_); refine pa_step [_] rfl rfl ⟨⟨_, rfl, ?_⟩, trivial⟩; refine yAw rfl ?_
   refine yQ ?_; refine pa_fin rfl ⟨rfl, ⟨.refl _, .refl _, .refl _, .refl _, trivial⟩, ⟨⟨_, rfl, lesC_refl _⟩, ⟨_, rfl, lesC_refl _⟩, ⟨_, rfl, lesC_refl _⟩, trivial⟩, trivial, (by simp [PS.closed, SV.ok, aget, Nat.beq])⟩
   refine yLd rfl rfl rfl (yQ ?_); refine pa_pure 7 rfl rfl (by kernel_rfl) (by kernel_rfl) (pure_dh (by omega) gk rfl rfl) ?_; refine pa_step [_] rfl rfl ⟨⟨_, rfl, ?_⟩, trivial⟩; refine yLd rfl rfl rfl (yQ ?_)
   refine pa_pure 3 rfl rfl (by kernel_rfl) (by kernel_rfl) (pure_dl (by omega) gk rfl rfl) ?_; refine pa_step [_] rfl rfl ⟨⟨_, rfl, ?_⟩, trivial⟩; refine yR (es := [[_], [_]]) rfl rfl rfl rfl rfl ?_; refine yQ ?_
   refine pa_step [_] rfl rfl ⟨⟨_, rfl, ?_⟩, trivial⟩; rw [hdr]; rw [htk]; refine yCcD (L := [dk, tk]) (ds := T.flatMap dLn) c1 w1 w2 w3 w4 rfl rfl (yQ ?_); refine pa_step [_] rfl rfl ⟨⟨_, rfl, ?_⟩, trivial⟩; refine yAw rfl ?_
   refine yQ ?_; refine pa_fin rfl ⟨rfl, ⟨.refl _, .refl _, .refl _, .refl _, trivial⟩, ⟨⟨_, rfl, lesC_refl _⟩, ⟨_, rfl, lesC_refl _⟩, ⟨_, rfl, lesC_refl _⟩, trivial⟩, trivial, (by simp [PS.closed, SV.ok, aget, Nat.beq])⟩
   refine pzr (yMw rfl (yMw rfl (yNb rfl (yB rfl rfl rfl rfl (yI rfl rfl rfl ?_))))); rw [hws]; rw [hmi]; refine yDb (by omega) hmn rfl rfl (yRv (cs' := (T'.flatMap dLn).map SV.d) rev_line rfl rfl w5 hQ100 w6 hcells (yQ ?_)); refine pw_frz 10 61 (es := T'.map dLn) (ds := T'.flatMap dLn) (n := Q) w7 w8 hT'd rfl rfl ?_; refine pzr (yFb rfl (yLd rfl rfl rfl (yMd rfl (yG (ys := [_, _]) rfl rfl (yC (b1) rfl rfl (yMp rfl (yX rfl rfl (yX rfl rfl (yAd rfl ?_))))))))); refine yAd rfl (yQ (pzr (yLa (ys := [_, _, _]) rfl rfl rfl rfl (yZ (cs := [_, _, _]) rfl rfl (yS (cs' := [_, _, _]) rfl rfl rfl rfl rfl (yQ (pzr (yFb rfl (yLd rfl rfl rfl ?_))))))))); refine yU rfl rfl rfl (yFb rfl (ySd (cs' := [_, _, _]) rfl rfl rfl rfl (yQ (pw_seq ?_)))); refine pw_draw Tryz.mixed (by kernel_rfl) ?_; refine yFb rfl (yLd rfl rfl rfl (yLa (ys := [_, _, _]) rfl rfl rfl rfl ?_)); refine yR (es := [[_, _, _]]) rfl rfl rfl rfl rfl ?_; refine yFb rfl (yLd rfl rfl rfl (yLa (ys := [_, _, _]) rfl rfl rfl rfl ?_)); refine yR (es := [[_, _, _]]) rfl rfl rfl rfl rfl ?_; refine yR (es := [[_], [_], [_]]) rfl rfl rfl rfl rfl ?_; refine yC (c2) rfl rfl (yG (ys := [_, _]) rfl rfl (yC (b2) rfl rfl (yMp rfl (yX rfl rfl (yX rfl rfl (yAd rfl (yAd rfl (yQ (pw_seq ?_))))))))); refine pzr (yMd rfl (yB rfl rfl rfl rfl (yMd rfl (yMd rfl (yMd rfl (yBbn (c := false) Tryz.underlying4 tii rfl rfl (yVd rfl rfl (yQ (pw_cf rfl ?_))))))))); refine pw_skip (pw_seq (pzr (yMd rfl (yB rfl rfl rfl rfl (yQ (pw_cf rfl (pw_skip (pzr (yMd rfl ?_))))))))); refine yMd rfl (yBb (c := true) Tryz.underlying4 tie rfl rfl (yMd rfl (yC (k0) rfl rfl (yPd rfl rfl (yAd rfl (yQ (pw_ret ?_))))))); rw [hmt]
   exact q_ret _ (.tmp rfl .nil) rfl
 · have t3 : (g != 0) = true := by simp [hg0]
   rw [decide_eq_false hg0, Bool.false_and] at b2
   refine pcalls_of_pw Tryz.func5 rfl Tryz.ntmps5 Tryz.results5 (by simp) fun B w0 => ?_
   refine pzr (yK (cs := [_, _]) rfl rfl (yK (cs := [_, _, _]) rfl rfl (yAd rfl (yQ (pw_seq (pzr (yLa (ys := [_, _]) rfl rfl rfl rfl (yLa (ys := [_, _, _]) rfl rfl rfl rfl ?_)))))))); refine yR (es := [[_, _, _]]) rfl rfl rfl rfl rfl ?_; refine yG (ys := [_, _]) rfl rfl ?_; refine yR (es := [[_, _], [_, _]]) rfl rfl rfl rfl rfl ?_; refine yR (es := [[_]]) rfl rfl rfl rfl rfl ?_; refine yC (k1) rfl rfl (yMd rfl (yFb rfl (yLd rfl rfl rfl (yN rfl (yB rfl rfl rfl rfl (yVd rfl rfl (yMd rfl ?_))))))); rw [t0]; refine yFb rfl (yLd rfl rfl rfl (yN rfl (yB rfl rfl rfl rfl (yVd rfl rfl (yQ (q_then ?_))))))
   rw [t1]; refine pw_cf rfl ?_; refine pw_skip ?_; refine pw_seq ?_; refine pw_region ?_; refine yLa (ys := [_, _]) rfl rfl rfl rfl ?_; refine yC (b0) rfl rfl ?_; refine yMp rfl ?_; refine yX rfl rfl ?_; refine yX rfl rfl ?_
   refine yAd rfl (yAd rfl (yQ (pw_seq (pzr (yMd rfl (yB rfl rfl rfl rfl (yQ (pw_cf rfl (pw_skip ?_))))))))); refine pzr (yMd rfl (yJ rfl (yFb rfl (yLd rfl rfl rfl (yN rfl ?_))))); rw [hwu]; refine yBm hl1 hk rfl rfl (yAd rfl (yQ (pw_seq ?_))); refine pw_any (id := 7) ⟨127, [(3, .bx 3 0), (4, .bx 4 0), (7, .d (dB is)), (10, .bs 61 Q 53 3)], [(3, [.d (dI n), .d (.sl 3 (ls.map dLn))]), (4, [.d (dS xa), .d (dB xc), .d (.sl 2 (xe.map dCf))]), (61, (T.flatMap dLn).map SV.d)], []⟩ Tryz.mixed ?_ ?_
   refine pa_pure 0 rfl rfl (by kernel_rfl) (by kernel_rfl) (pure_fa rfl) ?_; refine pa_pure 2 rfl rfl (by kernel_rfl) (by kernel_rfl) pure_move ?_; refine pa_pure 4 rfl rfl (by kernel_rfl) (by kernel_rfl) (pure_fa rfl) ?_
   refine pa_pure 6 rfl rfl (by kernel_rfl) (by kernel_rfl) pure_move ?_; refine pa_step [_, _] rfl rfl ⟨⟨_, rfl, ?_⟩, ⟨_, rfl, ?_⟩, trivial⟩; refine yLd rfl rfl rfl (yQ ?_)
   refine pa_pure 3 rfl rfl (by kernel_rfl) (by kernel_rfl) (pure_dl (by omega) gk rfl rfl) ?_; refine pa_step [_] rfl rfl ⟨⟨_, rfl, ?_⟩, trivial⟩; refine yLd rfl rfl rfl (yQ ?_)
   refine pa_pure 7 rfl rfl (by kernel_rfl) (by kernel_rfl) (pure_dh (by omega) gk rfl rfl) ?_; refine pa_step [_] rfl rfl ⟨⟨_, rfl, ?_⟩, trivial⟩; refine yR (es := [[_], [_]]) rfl rfl rfl rfl rfl ?_; refine yQ ?_
   refine pa_step [_] rfl rfl ⟨⟨_, rfl, ?_⟩, trivial⟩; rw [hdr]; rw [htk]; refine yCcD (L := [dk, tk]) (ds := T.flatMap dLn) c1 w1 w2 w3 w4 rfl rfl (yQ ?_); refine pa_step [_] rfl rfl ⟨⟨_, rfl, ?_⟩, trivial⟩; refine yAw rfl ?_
   refine yQ ?_; refine pa_fin rfl ⟨rfl, ⟨.refl _, .refl _, .refl _, .refl _, trivial⟩, ⟨⟨_, rfl, lesC_refl _⟩, ⟨_, rfl, lesC_refl _⟩, ⟨_, rfl, lesC_refl _⟩, trivial⟩, trivial, (by simp [PS.closed, SV.ok, aget, Nat.beq])⟩
   refine yLd rfl rfl rfl (yQ ?_); refine pa_pure 7 rfl rfl (by kernel_rfl) (by kernel_rfl) (pure_dh (by omega) gk rfl rfl) ?_; refine pa_step [_] rfl rfl ⟨⟨_, rfl, ?_⟩, trivial⟩; refine yLd rfl rfl rfl (yQ ?_)
   refine pa_pure 3 rfl rfl (by kernel_rfl) (by kernel_rfl) (pure_dl (by omega) gk rfl rfl) ?_; refine pa_step [_] rfl rfl ⟨⟨_, rfl, ?_⟩, trivial⟩; refine yR (es := [[_], [_]]) rfl rfl rfl rfl rfl ?_; refine yQ ?_
   refine pa_step [_] rfl rfl ⟨⟨_, rfl, ?_⟩, trivial⟩; rw [hdr]; rw [htk]; refine yCcD (L := [dk, tk]) (ds := T.flatMap dLn) c1 w1 w2 w3 w4 rfl rfl (yQ ?_); refine pa_step [_] rfl rfl ⟨⟨_, rfl, ?_⟩, trivial⟩; refine yAw rfl ?_
   refine yQ ?_; refine pa_fin rfl ⟨rfl, ⟨.refl _, .refl _, .refl _, .refl _, trivial⟩, ⟨⟨_, rfl, lesC_refl _⟩, ⟨_, rfl, lesC_refl _⟩, ⟨_, rfl, lesC_refl _⟩, trivial⟩, trivial, (by simp [PS.closed, SV.ok, aget, Nat.beq])⟩
   refine pzr (yMw rfl (yMw rfl (yNb rfl (yB rfl rfl rfl rfl (yI rfl rfl rfl ?_))))); rw [hws]; rw [hmi]; refine yDb (by omega) hmn rfl rfl (yRv (cs' := (T'.flatMap dLn).map SV.d) rev_line rfl rfl w5 hQ100 w6 hcells (yQ ?_)); refine pw_frz 10 61 (es := T'.map dLn) (ds := T'.flatMap dLn) (n := Q) w7 w8 hT'd rfl rfl ?_; refine pzr (yFb rfl (yLd rfl rfl rfl (yMd rfl (yG (ys := [_, _]) rfl rfl (yC (b1) rfl rfl (yMp rfl (yX rfl rfl (yX rfl rfl (yAd rfl ?_))))))))); refine yAd rfl (yQ (pzr (yLa (ys := [_, _, _]) rfl rfl rfl rfl (yZ (cs := [_, _, _]) rfl rfl (yS (cs' := [_, _, _]) rfl rfl rfl rfl rfl (yQ (pzr (yFb rfl (yLd rfl rfl rfl ?_))))))))); refine yU rfl rfl rfl (yFb rfl (ySd (cs' := [_, _, _]) rfl rfl rfl rfl (yQ (pw_seq ?_)))); refine pw_draw Tryz.mixed (by kernel_rfl) ?_; refine yFb rfl (yLd rfl rfl rfl (yLa (ys := [_, _, _]) rfl rfl rfl rfl ?_)); refine yR (es := [[_, _, _]]) rfl rfl rfl rfl rfl ?_; refine yFb rfl (yLd rfl rfl rfl (yLa (ys := [_, _, _]) rfl rfl rfl rfl ?_)); refine yR (es := [[_, _, _]]) rfl rfl rfl rfl rfl ?_; refine yR (es := [[_], [_], [_]]) rfl rfl rfl rfl rfl ?_; refine yC (c2) rfl rfl (yG (ys := [_, _]) rfl rfl (yC (b2) rfl rfl (yMp rfl (yX rfl rfl (yX rfl rfl (yAd rfl (yAd rfl (yQ (pw_seq ?_))))))))); refine pzr (yMd rfl (yB rfl rfl rfl rfl (yMd rfl (yMd rfl (yMd rfl (yBbn (c := false) Tryz.underlying4 tii rfl rfl (yVd rfl rfl (yQ (pw_cf rfl ?_))))))))); refine pw_skip (pw_seq (pzr (yMd rfl (yB rfl rfl rfl rfl (yQ (q_then ?_)))))); rw [t3]; refine pw_ct rfl (pzr (yFb rfl (yLd rfl rfl rfl (yLa (ys := [_, _, _]) rfl rfl rfl rfl ?_)))); refine yR (es := [[_, _, _]]) rfl rfl rfl rfl rfl ?_; refine yG (ys := [_, _]) rfl rfl (yC (b3) rfl rfl (yMp rfl (yX rfl rfl (yX rfl rfl (yAd rfl (yAd rfl (yQ (pzr (yMd rfl ?_))))))))); refine yMd rfl (yB rfl rfl rfl rfl (yMd rfl ?_)); rw [tgg]; refine yC (k0) rfl rfl (yPd rfl rfl (yAd rfl (yQ (pw_ret (q_then_ret ?_))))); rw [hmt]
   exact q_ret _ (.tmp rfl .nil) rfl
end Go.Proofs.YtddfimjiihggmaaGreatDoor