/- Plain law of the numbers of breaks, and of exchanged statements. -/
import Derived.Test.YtdkpmnefoobipaaGreatDoorB8
set_option maxHeartbeats 1000000
namespace Go.Proofs.YtdkpmnefoobipaaGreatDoor
open Go.RowKit Px

def clsB (x : Bk) : Bool := decide (1 ≤ x.1) && decide (x.1 ≤ 6)
/-- how many breaks of a class there are -/
def cnt1 (l : List Bk) (c : Nat) : Int := ((l.countP fun x => x.1 == (c : Int) + 1 : Nat) : Int)
def cntL (l : List Bk) : List Int := (List.range 6).map (cnt1 l)
theorem cnt1_snoc (l : List Bk) (x : Bk) (c : Nat) : cnt1 (l ++ [x]) c = cnt1 l c + if x.1 = (c : Int) + 1 then 1 else 0 := by
  unfold cnt1
  rw [List.countP_append]
  by_cases h : x.1 = (c : Int) + 1
  · simp [h]
  · simp [h]
theorem cntL_len (l : List Bk) : (cntL l).length = 6 := by simp [cntL]
theorem cntL_get {l : List Bk} {c : Nat} (h : c < 6) : (cntL l)[c]? = some (cnt1 l c) := by
  unfold cntL
  rw [List.getElem?_map, List.getElem?_range h]; rfl
theorem cntL_snoc {l : List Bk} {x : Bk} {c : Nat} (hc : c < 6) (hx : x.1 = (c : Int) + 1) : (cntL l).set c (cnt1 l c + 1) = cntL (l ++ [x]) := by
  apply List.ext_getElem?
  intro j
  by_cases hj : j < 6
  · by_cases e : c = j
    · subst e
      rw [List.getElem?_set_self (by rw [cntL_len]; exact hj), cntL_get hj, cnt1_snoc, if_pos hx]
    · rw [List.getElem?_set_ne e, cntL_get hj, cntL_get hj, cnt1_snoc, if_neg (by omega), Int.add_zero]
  · rw [List.getElem?_eq_none (by rw [List.length_set, cntL_len]; omega), List.getElem?_eq_none (by rw [cntL_len]; omega)]
theorem cnt1_bd (l : List Bk) (c : Nat) : 0 ≤ cnt1 l c ∧ cnt1 l c ≤ l.length := by
  unfold cnt1
  have := List.countP_le_length (p := fun x : Bk => x.1 == (c : Int) + 1) (l := l)
  omega
theorem cnt_sum {l : List Bk} (h : ∀ x ∈ l, clsB x = true) : cnt1 l 0 + cnt1 l 1 + cnt1 l 2 + cnt1 l 3 + cnt1 l 4 + cnt1 l 5 = l.length := by
  induction l with
  | nil => rfl
  | cons x l ih =>
    have ih := ih fun y hy => h y (by simp [hy])
    have hx := h x (by simp)
    unfold clsB at hx
    simp only [Bool.and_eq_true, decide_eq_true_eq] at hx
    have hc : ∀ c : Nat, cnt1 (x :: l) c = cnt1 l c + if x.1 = (c : Int) + 1 then 1 else 0 := fun c => by
      unfold cnt1
      by_cases h : x.1 = (c : Int) + 1
      · simp [h]
      · simp [h]
    rw [hc, hc, hc, hc, hc, hc, List.length_cons]
    have : x.1 = 1 ∨ x.1 = 2 ∨ x.1 = 3 ∨ x.1 = 4 ∨ x.1 = 5 ∨ x.1 = 6 := by omega
    rcases this with e | e | e | e | e | e <;> simp [e] <;> omega
theorem hbr_cls {n : Str} {a b : Option Str} {x : Bk} (h : x ∈ hbr n a b) : x.1 = 1 ∨ x.1 = 2 ∨ x.1 = 3 := by
  unfold hbr at h
  split at h
  · rw [List.mem_singleton.1 h]; exact .inl rfl
  · split at h
    · rw [List.mem_singleton.1 h]; exact .inr (.inl rfl)
    · split at h
      · cases h
      · rw [List.mem_singleton.1 h]; exact .inr (.inr rfl)
theorem hdB_cls {h1 h2 : List Hd} {x : Bk} (h : x ∈ hdB h1 h2) : x.1 = 1 ∨ x.1 = 2 ∨ x.1 = 3 := by
  rw [hdB_eq] at h
  obtain ⟨n, -, hx⟩ := List.mem_flatMap.1 h
  exact hbr_cls hx
theorem brP_cls {x y : Mv} {b : Bk} (h : b ∈ brP x y) : clsB b = true := by
  unfold brP at h
  simp only [List.mem_append] at h
  rcases h with h | h | h <;> split at h <;> first | (cases h; done) | (rw [List.mem_singleton.1 h]; rfl)
theorem mbA_cls {ms ts : List Mv} {pl : List (Option Nat)} {i : Nat} {b : Bk} (h : b ∈ mbA ms ts pl i) : clsB b = true := by
  induction i with
  | zero => cases h
  | succ i ih =>
    unfold mbA at h
    cases hm : ms[i]? with
    | none => rw [hm] at h; exact ih h
    | some m =>
      rw [hm] at h
      simp only [List.mem_append] at h
      rcases h with h | h
      · exact ih h
      · cases ho : pl[i]?.getD none with
        | none => rw [ho] at h; rw [List.mem_singleton.1 h]; rfl
        | some k =>
          rw [ho] at h
          simp only at h
          cases ht : ts[k]? with
          | none => rw [ht] at h; cases h
          | some x => rw [ht] at h; exact brP_cls h
theorem mbB_cls {ts : List Mv} {tk : Nat → Bool} {k : Nat} {b : Bk} (h : b ∈ mbB ts tk k) : clsB b = true := by
  induction k with
  | zero => cases h
  | succ k ih =>
    unfold mbB at h
    cases hm : ts[k]? with
    | none => rw [hm] at h; exact ih h
    | some x =>
      rw [hm] at h
      simp only at h
      split at h
      · exact ih h
      · rw [List.mem_append] at h
        rcases h with h | h
        · exact ih h
        · rw [List.mem_singleton.1 h]
          split <;> rfl
theorem all_cls {h1 h2 : List Hd} {ms ts : List Mv} {days : Int} {b : Bk} (h : b ∈ hdB h1 h2 ++ mvB ms ts days) : clsB b = true := by
  rw [List.mem_append] at h
  rcases h with h | h
  · unfold clsB
    rcases hdB_cls h with e | e | e <;> rw [e] <;> rfl
  · unfold mvB at h
    rw [List.mem_append] at h
    rcases h with h | h
    · exact mbA_cls h
    · exact mbB_cls h
theorem asc_at {l : List Str} (h : ascS l) {i : Nat} {x y : Str} (hx : l[i]? = some x) (hy : l[i + 1]? = some y) : ltS x y = true := by
  induction l generalizing i with
  | nil => simp at hx
  | cons a l ih =>
    cases i with
    | zero => simp at hx hy; subst hx; exact h.1 y (List.mem_of_getElem? hy)
    | succ i => exact ih h.2 (by simpa using hx) (by simpa using hy)
end Go.Proofs.YtdkpmnefoobipaaGreatDoor
namespace Go.Proofs.YtdkpmnefoobipaaGreatDoor
open Go.RowKit Px

abbrev cc (zs : List Int) : List SV := zs.map fun z => SV.d (dI z)
theorem cc_at {l : List Bk} {c : Nat} (h : c < 6) : (cc (cntL l))[(c : Int).toNat * 1]? = some (.d (dI (cnt1 l c))) := by
  rw [Int.toNat_natCast, Nat.mul_one, List.getElem?_map, cntL_get h]; rfl
theorem cc_set {l : List Bk} {x : Bk} {c : Nat} (hc : c < 6) (hx : x.1 = (c : Int) + 1) : (cc (cntL l)).set ((c : Int).toNat * 1) (.d (dI (cnt1 l c + 1))) = cc (cntL (l ++ [x])) := by
  rw [Int.toNat_natCast, Nat.mul_one, ← cntL_snoc hc hx]
  exact (List.map_set ..).symm
theorem toDs_cc (l : List Int) : toDs (cc l) = some (l.map dI) := by
  induction l with
  | nil => rfl
  | cons x l ih =>
    show toDs (SV.d (dI x) :: cc l) = _
    simp only [toDs, toD, ih, List.map_cons]
def cntR (l : List Bk) : List Int := if l.all clsB then cntL l else []
def cntE (l : List Bk) : Int := if l.all clsB then 0 else 7
set_option maxRecDepth 20000 in
set_option maxHeartbeats 4000000 in
theorem wCounts (l : List Bk) (hl : l.length ≤ 100000) : PCalls Tryz.prog 23 [.sl 4 (l.map dBk)] (.tup [dIs (cntR l), dI (cntE l)]) := by
  obtain ⟨r, hr⟩ : ∃ r, r = cntR l := ⟨_, rfl⟩
  obtain ⟨e, he⟩ : ∃ r, r = cntE l := ⟨_, rfl⟩
  rw [← hr, ← he]
  refine pcalls_of_pw Tryz.func23 rfl Tryz.ntmps23 Tryz.results23 (by simp) fun B w0 => ?_
  refine pw_seq ?_; refine pw_region ?_; refine yAd rfl ?_; refine yAd rfl ?_; refine yQ ?_; refine pw_seq ?_; refine pw_region ?_; refine yMk (by omega) (by omega) (by omega) (by omega) rfl rfl rfl ?_; refine yAw rfl ?_; refine yQ ?_
  refine pw_seq ?_; refine pw_seq ?_; refine pw_region ?_; refine yMd rfl ?_; refine yN rfl ?_; refine yMd rfl ?_; refine yQ ?_; refine pw_block ?_
  refine pw_loop (fun i : Nat => ⟨32, [(4, .bs 7 6 3 1), (8, .d (.sl 4 (l.map dBk))), (9, .d (dI l.length)), (10, .d (dI i))], [(7, cc (cntL (l.take i)))], []⟩) (fun i => i ≤ l.length ∧ (l.take i).all clsB = true) (fun i => l.length - i) 0 ⟨Nat.zero_le _, rfl⟩
    ⟨rfl, ⟨.refl _, .refl _, .of_eq (congrArg (fun n : Nat => SV.d (dI n)) (by simp)), .refl _, trivial⟩, ⟨⟨_, rfl, lesC_eq rfl⟩, trivial⟩, trivial, rfl⟩ ?_
  rintro i ⟨hi, h0⟩
  refine pw_seq ?_; refine pw_region ?_; refine yB rfl rfl rfl rfl ?_; refine yQ ?_; refine pw_seq ?_
  refine pw_cond rfl (fun h => ?_) (fun h => ?_)
  · simp at h
    obtain ⟨⟨x0, x1, x2, x3⟩, hx⟩ : ∃ a, l[i]? = some a := ⟨_, List.getElem?_eq_getElem h⟩
    have ex := ix dBk l i i (x0, x1, x2, x3) rfl hx
    have hw := wrapI ((i : Int) + 1) (by omega)
    have hbad : clsB (x0, x1, x2, x3) = false → r = [] ∧ e = 7 := fun hc => by
      have : l.all clsB = false := by
        rw [← Bool.not_eq_true, List.all_eq_true]
        intro h2
        have := h2 _ (List.mem_of_getElem? hx)
        rw [hc] at this
        cases this
      rw [hr, he, cntR, cntE, this]
      exact ⟨rfl, rfl⟩
    by_cases h1 : x0 < 1
    · obtain ⟨rfl, rfl⟩ := hbad (by unfold clsB; simp; omega)
      have u1 : decide (x0 < 1) = true := decide_eq_true h1
      refine pw_skip ?_; refine pw_seq ?_; refine pw_block ?_; refine pw_seq ?_; refine pw_region ?_; refine yW ex (by omega) rfl rfl ?_; refine yLs (ys := [_, _, _, _]) rfl rfl rfl ?_; refine yZ (cs := [_, _, _, _]) rfl rfl ?_
      refine yS (cs' := [_, _, _, _]) rfl rfl rfl rfl rfl ?_; refine yQ ?_; refine pw_seq ?_; refine pw_seq ?_; refine pw_region ?_; refine yFb rfl ?_; refine yLd rfl rfl rfl ?_; refine yB rfl rfl rfl rfl ?_; refine yMd rfl ?_; rw [u1]
      refine yO rfl ?_; refine yO rfl ?_; refine yO rfl ?_; refine yPd rfl rfl ?_; refine yQ ?_; refine pw_ct rfl ?_; refine pw_seq ?_; refine pw_region ?_; refine yAd rfl ?_; refine yAd rfl ?_; refine yQ ?_; refine pw_ret ?_
      refine q_then_ret ?_; refine q_blk_ret ?_; refine q_then_ret ?_; refine q_then_ret ?_; refine q_blk_ret ?_; refine q_then_ret ?_
      exact q_ret _ (.tnil 1 rfl (.tmp rfl .nil)) rfl
    have u1 : decide (x0 < 1) = false := decide_eq_false h1
    by_cases h2 : x0 > 6
    · obtain ⟨rfl, rfl⟩ := hbad (by unfold clsB; simp; omega)
      have u2 : decide (x0 > 6) = true := decide_eq_true h2
      refine pw_skip ?_; refine pw_seq ?_; refine pw_block ?_; refine pw_seq ?_; refine pw_region ?_; refine yW ex (by omega) rfl rfl ?_; refine yLs (ys := [_, _, _, _]) rfl rfl rfl ?_; refine yZ (cs := [_, _, _, _]) rfl rfl ?_
      refine yS (cs' := [_, _, _, _]) rfl rfl rfl rfl rfl ?_; refine yQ ?_; refine pw_seq ?_; refine pw_seq ?_; refine pw_region ?_; refine yFb rfl ?_; refine yLd rfl rfl rfl ?_; refine yB rfl rfl rfl rfl ?_; refine yMd rfl ?_; rw [u1]
      refine yFb rfl ?_; refine yLd rfl rfl rfl ?_; refine yB rfl rfl rfl rfl ?_; refine yVd rfl rfl ?_; refine yQ ?_; refine q_then ?_; rw [u2]; refine pw_ct rfl ?_; refine pw_seq ?_; refine pw_region ?_; refine yAd rfl ?_
      refine yAd rfl ?_; refine yQ ?_; refine pw_ret ?_; refine q_then_ret ?_; refine q_blk_ret ?_; refine q_then_ret ?_; refine q_then_ret ?_; refine q_blk_ret ?_; refine q_then_ret ?_
      exact q_ret _ (.tnil 1 rfl (.tmp rfl .nil)) rfl
    have u2 : decide (x0 > 6) = false := decide_eq_false h2
    obtain ⟨c, hc⟩ : ∃ c : Nat, x0 = (c : Int) + 1 := ⟨(x0 - 1).toNat, by omega⟩
    have hc6 : c < 6 := by omega
    have hw2 : IntKind.i64.wrap (x0 - 1) = (c : Int) := by rw [wrapI _ (by omega)]; omega
    have hbd := cnt1_bd (l.take i) c
    rw [List.length_take] at hbd
    have hw3 := wrapI (cnt1 (l.take i) c + 1) (by omega)
    have hat := cc_at (l := l.take i) hc6
    have hset := cc_set (l := l.take i) (x := (x0, x1, x2, x3)) hc6 hc
    have htk : l.take (i + 1) = l.take i ++ [(x0, x1, x2, x3)] := by rw [List.take_add_one, hx]; rfl
    refine pw_skip ?_; refine pw_seq ?_; refine pw_block ?_; refine pw_seq ?_; refine pw_region ?_; refine yW ex (by omega) rfl rfl ?_; refine yLs (ys := [_, _, _, _]) rfl rfl rfl ?_; refine yZ (cs := [_, _, _, _]) rfl rfl ?_
    refine yS (cs' := [_, _, _, _]) rfl rfl rfl rfl rfl ?_; refine yQ ?_; refine pw_seq ?_; refine pw_seq ?_; refine pw_region ?_; refine yFb rfl ?_; refine yLd rfl rfl rfl ?_; refine yB rfl rfl rfl rfl ?_; refine yMd rfl ?_; rw [u1]
    refine yFb rfl ?_; refine yLd rfl rfl rfl ?_; refine yB rfl rfl rfl rfl ?_; refine yVd rfl rfl ?_; refine yQ ?_; refine q_then ?_; rw [u2]; refine pw_cf rfl ?_; refine pw_skip ?_; refine pw_region ?_; refine yMw rfl ?_
    refine yFb rfl ?_; refine yLd rfl rfl rfl ?_; refine yB rfl rfl rfl rfl ?_; rw [hw2]; refine yWb (by omega) (by omega) rfl rfl rfl ?_; refine yLd rfl rfl hat ?_; refine yB rfl rfl rfl rfl ?_
    refine yWb (by omega) (by omega) rfl rfl rfl ?_; rw [hw3]; refine ySd rfl rfl rfl hset ?_ (by refine Nat.ble_eq_true_of_le ?_; simp [cc, cntL]; omega); refine yQ ?_; refine pw_region ?_; refine yB rfl rfl rfl rfl ?_
    refine yMd rfl ?_; refine yQ ?_; refine q_then ?_
    refine ⟨i + 1, ⟨by omega, by rw [htk, List.all_append, h0]; simp [clsB]; omega⟩, by omega, rfl, ⟨.refl _, .refl _, .refl _, .of_eq (congrArg (fun n => SV.d (dI n)) hw), trivial⟩, ⟨⟨_, rfl, lesC_eq (by rw [htk])⟩, trivial⟩, trivial, by simp [PS.closed, SV.ok, aget, Nat.beq, -List.map_take, -List.map_set]⟩
  · simp at h
    rw [List.take_of_length_le (by omega)] at h0 ⊢
    rw [cntR, h0, if_pos rfl] at hr
    rw [cntE, h0, if_pos rfl] at he
    subst hr he
    have hch := chunk_one dI (cntL l)
    rw [cntL_len] at hch
    refine pw_frz 4 7 (es := (cntL l).map dZ) (ds := (cntL l).map dI) (by simp [cntL_len]) hch (toDs_cc _) rfl rfl ?_; refine pw_exit ?_; refine pw_seq ?_; refine pw_region ?_; refine yMd rfl ?_; refine yAd rfl ?_; refine yAd rfl ?_
    refine yQ ?_; refine pw_ret ?_
    exact q_ret _ (.tmp rfl (.tmp rfl .nil)) rfl
end Go.Proofs.YtdkpmnefoobipaaGreatDoor
namespace Go.Proofs.YtdkpmnefoobipaaGreatDoor
open Go.RowKit Px

theorem sum_next {l : List Int} {k : Nat} {c : Int} (h : l[k]? = some c) : (l.take (k + 1)).sum = (l.take k).sum + c := by
  obtain ⟨hk, rfl⟩ := List.getElem?_eq_some_iff.1 h
  rw [List.take_add_one, h, List.sum_append]
  simp
theorem cnt_total {l : List Bk} (h : ∀ x ∈ l, clsB x = true) {k : Nat} (hk : 6 ≤ k) : ((cntL l).take k).sum = l.length := by
  rw [List.take_of_length_le (by rw [cntL_len]; exact hk), ← cnt_sum h]
  simp [cntL, List.range, List.range.loop]
  omega
theorem cnt_mem {l : List Bk} {k : Nat} {c : Int} (h : (cntL l)[k]? = some c) : 0 ≤ c ∧ c ≤ l.length := by
  have hk : k < 6 := by have := (List.getElem?_eq_some_iff.1 h).1; rwa [cntL_len] at this
  rw [cntL_get hk] at h
  cases h
  exact cnt1_bd l k
set_option maxRecDepth 20000 in
set_option maxHeartbeats 8000000 in
theorem law5 (s t : Stm) (n : Int) (hn0 : 0 ≤ n) (hn1 : n ≤ 255) : PCalls Tryz.prog 5 [.agg (dSt s), .agg (dSt t), .val (.int .u8 n)] (.d (dB true)) := by
  have c1 := wFine s t
  have c0 := wAwake
  have hwn := wrapI n (by omega)
  cases hg : fineB s t with
  | false =>
    rw [hg] at c1
    obtain ⟨d1, h1, ms⟩ := s
    obtain ⟨d2, h2, ts⟩ := t
    refine pcalls_of_pw Tryz.func5 rfl Tryz.ntmps5 Tryz.results5 (by simp) fun B w0 => ?_
    refine pw_seq ?_; refine pw_region ?_; refine yK (cs := [_, _, _]) rfl rfl ?_; refine yK (cs := [_, _, _]) rfl rfl ?_; refine yAd rfl ?_; refine yQ ?_; refine pw_seq ?_; refine pw_seq ?_; refine pw_region ?_
    refine yLa (ys := [_, _, _]) rfl rfl rfl rfl ?_; refine yLa (ys := [_, _, _]) rfl rfl rfl rfl ?_; refine yC (c1) rfl rfl ?_; refine yU rfl rfl rfl ?_; refine yQ ?_; refine pw_ct rfl ?_; refine pw_seq ?_; refine pw_region ?_
    refine yC (c0) rfl rfl ?_; refine yAd rfl ?_; refine yQ ?_; refine pw_ret ?_; refine q_then_ret ?_
    exact q_ret _ (.tmp rfl .nil) rfl
  | true =>
  rw [hg] at c1
  obtain ⟨f1, f2, a1, a2, b1, b2, k1, k2, k3⟩ := fine_of hg
  have c2 := wHoldings s t f1 f2
  have c3 := wHoldings t s f2 f1
  have c4 := wAll s t n f1 f2
  have c5 := wMovements s t n f1 f2
  have e1 := ckE_fine k1 k2 k3 (Int.le_refl 0) (by omega : (0 : Int) ≤ 366)
  have e2 := ckE_fine k2 k1 k3.symm (Int.le_refl 0) (by omega : (0 : Int) ≤ 366)
  have e3 := ckE_fine k1 k2 k3 hn0 (by omega : n ≤ 366)
  rw [holdR, if_pos e1, e1] at c2
  rw [holdR, if_pos e2, e2, hdB_swp] at c3
  rw [allR', if_pos e3, e3] at c4
  rw [movsR, if_pos e3, e3] at c5
  have hR := hdB_len s.hs t.hs
  have hM := mvB_len s.ms t.ms n
  have hcl : ∀ x ∈ hdB s.hs t.hs, x.1 = 1 ∨ x.1 = 2 ∨ x.1 = 3 := fun x h => hdB_cls h
  have hal : ∀ x ∈ hdB s.hs t.hs ++ mvB s.ms t.ms n, clsB x = true := fun x h => all_cls h
  have hasc := hdB_asc s.hs t.hs
  have c6 := wCounts (hdB s.hs t.hs ++ mvB s.ms t.ms n) (by rw [List.length_append]; omega)
  rw [cntR, cntE, if_pos (List.all_eq_true.2 hal), if_pos (List.all_eq_true.2 hal)] at c6
  have c7 := wConcatB [hdB s.hs t.hs, mvB s.ms t.ms n] (by simp) (by simp; omega)
  simp only [List.map_cons, List.map_nil, List.flatten_cons, List.flatten_nil, List.append_nil] at c7
  have c8 := wEqB (hdB s.hs t.hs ++ mvB s.ms t.ms n) (hdB s.hs t.hs ++ mvB s.ms t.ms n) (by rw [List.length_append]; omega) (by rw [List.length_append]; omega)
  rw [decide_eq_true rfl] at c8
  have htot := fun k (h : 6 ≤ k) => cnt_total hal h
  have hmem := fun k c (h : (cntL (hdB s.hs t.hs ++ mvB s.ms t.ms n))[k]? = some c) => cnt_mem h
  have hCl := cntL_len (hdB s.hs t.hs ++ mvB s.ms t.ms n)
  have hall : (hdB s.hs t.hs ++ mvB s.ms t.ms n).length = (hdB s.hs t.hs).length + (mvB s.ms t.ms n).length := List.length_append
  obtain ⟨C, hC⟩ : ∃ l, l = cntL (hdB s.hs t.hs ++ mvB s.ms t.ms n) := ⟨_, rfl⟩
  rw [← hC] at c6 hCl
  simp only [← hC] at htot hmem
  clear hC
  obtain ⟨al, ha⟩ : ∃ l, l = hdB s.hs t.hs ++ mvB s.ms t.ms n := ⟨_, rfl⟩
  rw [← ha] at c4 c6 c7 c8 hall
  simp only [← ha] at htot hmem
  clear ha hal
  obtain ⟨R, hr⟩ : ∃ l, l = hdB s.hs t.hs := ⟨_, rfl⟩
  rw [← hr] at c2 c3 c7 hR hasc hall
  simp only [← hr] at hcl
  clear hr
  obtain ⟨M, hm⟩ : ∃ l, l = mvB s.ms t.ms n := ⟨_, rfl⟩
  rw [← hm] at c5 c7 hM hall
  clear hm e1 e2 e3 k1 k2 k3 f1 f2 hg
  obtain ⟨W, hW⟩ : ∃ l, l = R.map swpB := ⟨_, rfl⟩
  rw [← hW] at c3
  have hWl : W.length = R.length := by rw [hW, List.length_map]
  obtain ⟨d1, h1, ms⟩ := s
  obtain ⟨d2, h2, ts⟩ := t
  simp only at c1 c2 c3 c4 c5 a1 a2 b1 b2 hR hM
  have v1 : (((R.map dBk).length : Int) != ((W.map dBk).length : Int)) = false := by simp [hWl]
  have v2 : (((C.map dZ).length : Int) != 6) = false := by simp [hCl]
  refine pcalls_of_pw Tryz.func5 rfl Tryz.ntmps5 Tryz.results5 (by simp) fun B w0 => ?_
  refine pw_seq ?_; refine pw_region ?_; refine yK (cs := [_, _, _]) rfl rfl ?_; refine yK (cs := [_, _, _]) rfl rfl ?_; refine yAd rfl ?_; refine yQ ?_; refine pw_seq ?_; refine pw_seq ?_; refine pw_region ?_
  refine yLa (ys := [_, _, _]) rfl rfl rfl rfl ?_; refine yLa (ys := [_, _, _]) rfl rfl rfl rfl ?_; refine yC (c1) rfl rfl ?_; refine yU rfl rfl rfl ?_; refine yQ ?_; refine pw_cf rfl ?_; refine pw_skip ?_; refine pw_seq ?_
  refine pw_region ?_; refine yLa (ys := [_, _, _]) rfl rfl rfl rfl ?_; refine yLa (ys := [_, _, _]) rfl rfl rfl rfl ?_; refine yC (c2) rfl rfl ?_; refine yMp rfl ?_; refine yX rfl rfl ?_; refine yX rfl rfl ?_; refine yAd rfl ?_
  refine yAd rfl ?_; refine yQ ?_; refine pw_seq ?_; refine pw_region ?_; refine yLa (ys := [_, _, _]) rfl rfl rfl rfl ?_; refine yLa (ys := [_, _, _]) rfl rfl rfl rfl ?_; refine yC (c3) rfl rfl ?_; refine yMp rfl ?_
  refine yX rfl rfl ?_; refine yX rfl rfl ?_; refine yAd rfl ?_; refine yAd rfl ?_; refine yQ ?_; refine pw_seq ?_; refine pw_region ?_; refine yLa (ys := [_, _, _]) rfl rfl rfl rfl ?_; refine yLa (ys := [_, _, _]) rfl rfl rfl rfl ?_
  refine yMd rfl ?_; refine yJ rfl ?_; rw [hwn]; refine yC (c4) rfl rfl ?_; refine yMp rfl ?_; refine yX rfl rfl ?_; refine yX rfl rfl ?_; refine yAd rfl ?_; refine yAd rfl ?_; refine yQ ?_; refine pw_seq ?_; refine pw_region ?_
  refine yLa (ys := [_, _, _]) rfl rfl rfl rfl ?_; refine yLa (ys := [_, _, _]) rfl rfl rfl rfl ?_; refine yMd rfl ?_; refine yJ rfl ?_; rw [hwn]; refine yC (c5) rfl rfl ?_; refine yMp rfl ?_; refine yX rfl rfl ?_
  refine yX rfl rfl ?_; refine yAd rfl ?_; refine yAd rfl ?_; refine yQ ?_; refine pw_seq ?_; refine pw_region ?_; refine yMd rfl ?_; refine yC (c6) rfl rfl ?_; refine yMp rfl ?_; refine yX rfl rfl ?_; refine yX rfl rfl ?_
  refine yAd rfl ?_; refine yAd rfl ?_; refine yQ ?_; refine pw_seq ?_; refine pw_seq ?_; refine pw_region ?_; refine yMd rfl ?_; refine yB rfl rfl rfl rfl ?_; refine yMd rfl ?_; refine yMd rfl ?_; refine yB rfl rfl rfl rfl ?_
  refine yVd rfl rfl ?_; refine yMd rfl ?_; refine yMd rfl ?_; refine yB rfl rfl rfl rfl ?_; refine yVd rfl rfl ?_; refine yMd rfl ?_; refine yMd rfl ?_; refine yB rfl rfl rfl rfl ?_; refine yVd rfl rfl ?_; refine yMd rfl ?_
  refine yMd rfl ?_; refine yB rfl rfl rfl rfl ?_; refine yVd rfl rfl ?_; refine yMd rfl ?_; refine yMd rfl ?_; refine yN rfl ?_; refine yMd rfl ?_; refine yN rfl ?_; refine yB rfl rfl rfl rfl ?_; refine yVd rfl rfl ?_
  refine yMd rfl ?_; rw [v1]; refine yMd rfl ?_; refine yN rfl ?_; refine yB rfl rfl rfl rfl ?_; refine yVd rfl rfl ?_; refine yMd rfl ?_; rw [v2]; refine yMd rfl ?_; refine yMd rfl ?_; refine yMd rfl ?_
  refine yR (es := [[_], [_]]) rfl rfl rfl rfl rfl ?_; refine yC (c7) rfl rfl ?_; refine yC (c8) rfl rfl ?_; refine yU rfl rfl rfl ?_; refine yVd rfl rfl ?_; refine yQ ?_; refine pw_cf rfl ?_; refine pw_skip ?_; refine pw_seq ?_
  refine pw_seq ?_; refine pw_region ?_; refine yMd rfl ?_; refine yN rfl ?_; refine yMd rfl ?_; refine yQ ?_; refine pw_block ?_
  refine pw_loop (fun i : Nat => ⟨185, [(3, .bx 3 0), (4, .bx 4 0), (7, .d (.sl 4 (R.map dBk))), (9, .d (.sl 4 (W.map dBk))), (11, .d (.sl 4 (al.map dBk))), (15, .d (dIs C)), (100, .d (.sl 4 (R.map dBk))), (101, .d (dI R.length)), (102, .d (dI i))], [(3, [.d (dI d1), .d (.sl 2 (h1.map dH)), .d (.sl 5 (ms.map dM))]), (4, [.d (dI d2), .d (.sl 2 (h2.map dH)), .d (.sl 5 (ts.map dM))])], []⟩) (fun i => i ≤ R.length) (fun i => R.length - i) 0 (Nat.zero_le _)
    ⟨rfl, ⟨.refl _, .refl _, .refl _, .refl _, .refl _, .refl _, .refl _, .of_eq (congrArg (fun n : Nat => SV.d (dI n)) (by simp)), .refl _, trivial⟩, ⟨⟨_, rfl, .refl _, .refl _, .refl _, trivial⟩, ⟨_, rfl, .refl _, .refl _, .refl _, trivial⟩, trivial⟩, trivial, rfl⟩ ?_
  intro i hi
  refine pw_seq ?_; refine pw_region ?_; refine yB rfl rfl rfl rfl ?_; refine yQ ?_; refine pw_seq ?_
  refine pw_cond rfl (fun h => ?_) (fun h => ?_)
  · simp at h
    obtain ⟨⟨x0, x1, x2, x3⟩, hx⟩ : ∃ a, R[i]? = some a := ⟨_, List.getElem?_eq_getElem h⟩
    have ex := ix dBk R i i (x0, x1, x2, x3) rfl hx
    have hw := wrapI ((i : Int) + 1) (by omega)
    have hy0 : W[i]? = some (swpB (x0, x1, x2, x3)) := by rw [hW, List.getElem?_map, hx]; rfl
    have hc := hcl _ (List.mem_of_getElem? hx)
    simp only at hc
    have hprev : ∀ z, 0 < i → R[i - 1]? = some z → lt8 z.2.1 x1 = true := fun z hz hp => by
      refine asc_at hasc (i := i - 1) (by rw [List.getElem?_map, hp]; rfl) ?_
      rw [(by omega : i - 1 + 1 = i), List.getElem?_map, hx]; rfl
    rcases hc with rfl | rfl | rfl
    · have ey := ix dBk W i i (2, x1, x3, x2) rfl hy0
      have hv : veqs (vBk (2, x1, x3, x2)) (vBk (2, x1, x3, x2)) = true := by rw [veq_bk]; exact decide_eq_true rfl
      rcases Nat.eq_zero_or_pos i with hi0 | hi0
      · have u5 : decide ((i : Int) > 0) = false := decide_eq_false (by omega)
        refine pw_skip ?_; refine pw_seq ?_; refine pw_block ?_; refine pw_seq ?_; refine pw_region ?_; refine yMd rfl ?_; refine yW ex (by omega) rfl rfl ?_; refine yLs (ys := [_, _, _, _]) rfl rfl rfl ?_
        refine yZ (cs := [_, _, _, _]) rfl rfl ?_; refine yAd rfl ?_; refine yS (cs' := [_, _, _, _]) rfl rfl rfl rfl rfl ?_; refine yQ ?_; refine pw_seq ?_; refine pw_region ?_; refine yFb rfl ?_; refine yLd rfl rfl rfl ?_
        refine yFb rfl ?_; refine yLd rfl rfl rfl ?_; refine yFb rfl ?_; refine ySd (cs' := [_, _, _, _]) rfl rfl rfl rfl ?_; refine yFb rfl ?_; refine ySd (cs' := [_, _, _, _]) rfl rfl rfl rfl ?_; refine yQ ?_; refine pw_seq ?_
        refine pw_seq ?_; refine pw_region ?_; refine yFb rfl ?_; refine yLd rfl rfl rfl ?_; refine yQ ?_; refine pw_block ?_; refine pw_seq ?_; refine pw_region ?_; refine yB rfl rfl rfl rfl ?_; refine yAd rfl ?_; refine yQ ?_
        refine pw_ct rfl ?_; refine pw_region ?_; refine yFb rfl ?_; refine ySd (cs' := [_, _, _, _]) rfl rfl rfl rfl ?_; refine yQ ?_; refine pw_seq ?_; refine pw_draw Tryz.mixed (by kernel_rfl) ?_; refine yMd rfl ?_; refine yMd rfl ?_
        refine yW ey (by omega) rfl rfl ?_; refine yLs (ys := [_, _, _, _]) rfl rfl rfl ?_; refine yLa (ys := [_, _, _, _]) rfl rfl rfl rfl ?_; refine yBx (vs := vBk (2, x1, x3, x2)) (us := vBk (2, x1, x3, x2)) rfl rfl rfl rfl rfl rfl ?_
        refine yMd rfl ?_; rw [hv]; refine yMd rfl ?_; refine yB rfl rfl rfl rfl ?_; refine yMd rfl ?_; rw [u5]; refine yO rfl ?_; refine yO rfl ?_; refine yO rfl ?_; refine yO rfl ?_; refine yO rfl ?_; refine yO rfl ?_; refine yO rfl ?_
        refine yO rfl ?_; refine yO rfl ?_; refine yO rfl ?_; refine yO rfl ?_; refine yO rfl ?_; refine yVd rfl rfl ?_; refine yVd rfl rfl ?_; refine yQ ?_; refine pw_cf rfl ?_; refine pw_skip ?_; refine pw_region ?_
        refine yB rfl rfl rfl rfl ?_; refine yMd rfl ?_; refine yQ ?_; refine q_then ?_
        refine ⟨i + 1, by omega, by omega, rfl, ⟨.refl _, .refl _, .refl _, .refl _, .refl _, .refl _, .refl _, .refl _, .of_eq (congrArg (fun n => SV.d (dI n)) hw), trivial⟩, ⟨⟨_, rfl, .refl _, .refl _, .refl _, trivial⟩, ⟨_, rfl, .refl _, .refl _, .refl _, trivial⟩, trivial⟩, trivial, rfl⟩
      · obtain ⟨⟨z0, z1, z2, z3⟩, hz⟩ : ∃ q, R[i - 1]? = some q := ⟨_, List.getElem?_eq_getElem (by omega)⟩
        have u5 : decide ((i : Int) > 0) = true := decide_eq_true (by omega)
        have hw2 : IntKind.i64.wrap ((i : Int) - 1) = ((i - 1 : Nat) : Int) := by rw [wrapI _ (by omega)]; omega
        have ez := ix dBk R ((i - 1 : Nat) : Int) (i - 1) (z0, z1, z2, z3) rfl hz
        have u6 : lt8 z1 x1 = true := hprev _ hi0 hz
        refine pw_skip ?_; refine pw_seq ?_; refine pw_block ?_; refine pw_seq ?_; refine pw_region ?_; refine yMd rfl ?_; refine yW ex (by omega) rfl rfl ?_; refine yLs (ys := [_, _, _, _]) rfl rfl rfl ?_
        refine yZ (cs := [_, _, _, _]) rfl rfl ?_; refine yAd rfl ?_; refine yS (cs' := [_, _, _, _]) rfl rfl rfl rfl rfl ?_; refine yQ ?_; refine pw_seq ?_; refine pw_region ?_; refine yFb rfl ?_; refine yLd rfl rfl rfl ?_
        refine yFb rfl ?_; refine yLd rfl rfl rfl ?_; refine yFb rfl ?_; refine ySd (cs' := [_, _, _, _]) rfl rfl rfl rfl ?_; refine yFb rfl ?_; refine ySd (cs' := [_, _, _, _]) rfl rfl rfl rfl ?_; refine yQ ?_; refine pw_seq ?_
        refine pw_seq ?_; refine pw_region ?_; refine yFb rfl ?_; refine yLd rfl rfl rfl ?_; refine yQ ?_; refine pw_block ?_; refine pw_seq ?_; refine pw_region ?_; refine yB rfl rfl rfl rfl ?_; refine yAd rfl ?_; refine yQ ?_
        refine pw_ct rfl ?_; refine pw_region ?_; refine yFb rfl ?_; refine ySd (cs' := [_, _, _, _]) rfl rfl rfl rfl ?_; refine yQ ?_; refine pw_seq ?_; refine pw_draw Tryz.mixed (by kernel_rfl) ?_; refine yMd rfl ?_; refine yMd rfl ?_
        refine yW ey (by omega) rfl rfl ?_; refine yLs (ys := [_, _, _, _]) rfl rfl rfl ?_; refine yLa (ys := [_, _, _, _]) rfl rfl rfl rfl ?_; refine yBx (vs := vBk (2, x1, x3, x2)) (us := vBk (2, x1, x3, x2)) rfl rfl rfl rfl rfl rfl ?_
        refine yMd rfl ?_; rw [hv]; refine yMd rfl ?_; refine yB rfl rfl rfl rfl ?_; refine yMd rfl ?_; rw [u5]; refine yMd rfl ?_; refine yMd rfl ?_; refine yB rfl rfl rfl rfl ?_; rw [hw2]; refine yW ez (by omega) rfl rfl ?_
        refine yFr rfl rfl ?_; refine yLr rfl rfl ?_; refine yMd rfl ?_; refine yMd rfl ?_; refine yW ex (by omega) rfl rfl ?_; refine yFr rfl rfl ?_; refine yLr rfl rfl ?_; refine yBsh rfl rfl ?_; refine yPd rfl rfl ?_
        refine yVd rfl rfl ?_; refine yQ ?_; refine q_then ?_; rw [u6]; refine pw_cf rfl ?_; refine pw_skip ?_; refine pw_region ?_; refine yB rfl rfl rfl rfl ?_; refine yMd rfl ?_; refine yQ ?_; refine q_then ?_
        refine ⟨i + 1, by omega, by omega, rfl, ⟨.refl _, .refl _, .refl _, .refl _, .refl _, .refl _, .refl _, .refl _, .of_eq (congrArg (fun n => SV.d (dI n)) hw), trivial⟩, ⟨⟨_, rfl, .refl _, .refl _, .refl _, trivial⟩, ⟨_, rfl, .refl _, .refl _, .refl _, trivial⟩, trivial⟩, trivial, rfl⟩
    · have ey := ix dBk W i i (1, x1, x3, x2) rfl hy0
      have hv : veqs (vBk (1, x1, x3, x2)) (vBk (1, x1, x3, x2)) = true := by rw [veq_bk]; exact decide_eq_true rfl
      rcases Nat.eq_zero_or_pos i with hi0 | hi0
      · have u5 : decide ((i : Int) > 0) = false := decide_eq_false (by omega)
        refine pw_skip ?_; refine pw_seq ?_; refine pw_block ?_; refine pw_seq ?_; refine pw_region ?_; refine yMd rfl ?_; refine yW ex (by omega) rfl rfl ?_; refine yLs (ys := [_, _, _, _]) rfl rfl rfl ?_
        refine yZ (cs := [_, _, _, _]) rfl rfl ?_; refine yAd rfl ?_; refine yS (cs' := [_, _, _, _]) rfl rfl rfl rfl rfl ?_; refine yQ ?_; refine pw_seq ?_; refine pw_region ?_; refine yFb rfl ?_; refine yLd rfl rfl rfl ?_
        refine yFb rfl ?_; refine yLd rfl rfl rfl ?_; refine yFb rfl ?_; refine ySd (cs' := [_, _, _, _]) rfl rfl rfl rfl ?_; refine yFb rfl ?_; refine ySd (cs' := [_, _, _, _]) rfl rfl rfl rfl ?_; refine yQ ?_; refine pw_seq ?_
        refine pw_seq ?_; refine pw_region ?_; refine yFb rfl ?_; refine yLd rfl rfl rfl ?_; refine yQ ?_; refine pw_block ?_; refine pw_seq ?_; refine pw_region ?_; refine yB rfl rfl rfl rfl ?_; refine yAd rfl ?_; refine yQ ?_
        refine pw_cf rfl ?_; refine pw_seq ?_; refine pw_region ?_; refine yB rfl rfl rfl rfl ?_; refine yAd rfl ?_; refine yQ ?_; refine pw_ct rfl ?_; refine pw_region ?_; refine yFb rfl ?_
        refine ySd (cs' := [_, _, _, _]) rfl rfl rfl rfl ?_; refine yQ ?_; refine pw_seq ?_; refine pw_draw Tryz.mixed (by kernel_rfl) ?_; refine yMd rfl ?_; refine yMd rfl ?_; refine yW ey (by omega) rfl rfl ?_
        refine yLs (ys := [_, _, _, _]) rfl rfl rfl ?_; refine yLa (ys := [_, _, _, _]) rfl rfl rfl rfl ?_; refine yBx (vs := vBk (1, x1, x3, x2)) (us := vBk (1, x1, x3, x2)) rfl rfl rfl rfl rfl rfl ?_; refine yMd rfl ?_; rw [hv]
        refine yMd rfl ?_; refine yB rfl rfl rfl rfl ?_; refine yMd rfl ?_; rw [u5]; refine yO rfl ?_; refine yO rfl ?_; refine yO rfl ?_; refine yO rfl ?_; refine yO rfl ?_; refine yO rfl ?_; refine yO rfl ?_; refine yO rfl ?_
        refine yO rfl ?_; refine yO rfl ?_; refine yO rfl ?_; refine yO rfl ?_; refine yVd rfl rfl ?_; refine yVd rfl rfl ?_; refine yQ ?_; refine pw_cf rfl ?_; refine pw_skip ?_; refine pw_region ?_; refine yB rfl rfl rfl rfl ?_
        refine yMd rfl ?_; refine yQ ?_; refine q_then ?_
        refine ⟨i + 1, by omega, by omega, rfl, ⟨.refl _, .refl _, .refl _, .refl _, .refl _, .refl _, .refl _, .refl _, .of_eq (congrArg (fun n => SV.d (dI n)) hw), trivial⟩, ⟨⟨_, rfl, .refl _, .refl _, .refl _, trivial⟩, ⟨_, rfl, .refl _, .refl _, .refl _, trivial⟩, trivial⟩, trivial, rfl⟩
      · obtain ⟨⟨z0, z1, z2, z3⟩, hz⟩ : ∃ q, R[i - 1]? = some q := ⟨_, List.getElem?_eq_getElem (by omega)⟩
        have u5 : decide ((i : Int) > 0) = true := decide_eq_true (by omega)
        have hw2 : IntKind.i64.wrap ((i : Int) - 1) = ((i - 1 : Nat) : Int) := by rw [wrapI _ (by omega)]; omega
        have ez := ix dBk R ((i - 1 : Nat) : Int) (i - 1) (z0, z1, z2, z3) rfl hz
        have u6 : lt8 z1 x1 = true := hprev _ hi0 hz
        refine pw_skip ?_; refine pw_seq ?_; refine pw_block ?_; refine pw_seq ?_; refine pw_region ?_; refine yMd rfl ?_; refine yW ex (by omega) rfl rfl ?_; refine yLs (ys := [_, _, _, _]) rfl rfl rfl ?_
        refine yZ (cs := [_, _, _, _]) rfl rfl ?_; refine yAd rfl ?_; refine yS (cs' := [_, _, _, _]) rfl rfl rfl rfl rfl ?_; refine yQ ?_; refine pw_seq ?_; refine pw_region ?_; refine yFb rfl ?_; refine yLd rfl rfl rfl ?_
        refine yFb rfl ?_; refine yLd rfl rfl rfl ?_; refine yFb rfl ?_; refine ySd (cs' := [_, _, _, _]) rfl rfl rfl rfl ?_; refine yFb rfl ?_; refine ySd (cs' := [_, _, _, _]) rfl rfl rfl rfl ?_; refine yQ ?_; refine pw_seq ?_
        refine pw_seq ?_; refine pw_region ?_; refine yFb rfl ?_; refine yLd rfl rfl rfl ?_; refine yQ ?_; refine pw_block ?_; refine pw_seq ?_; refine pw_region ?_; refine yB rfl rfl rfl rfl ?_; refine yAd rfl ?_; refine yQ ?_
        refine pw_cf rfl ?_; refine pw_seq ?_; refine pw_region ?_; refine yB rfl rfl rfl rfl ?_; refine yAd rfl ?_; refine yQ ?_; refine pw_ct rfl ?_; refine pw_region ?_; refine yFb rfl ?_
        refine ySd (cs' := [_, _, _, _]) rfl rfl rfl rfl ?_; refine yQ ?_; refine pw_seq ?_; refine pw_draw Tryz.mixed (by kernel_rfl) ?_; refine yMd rfl ?_; refine yMd rfl ?_; refine yW ey (by omega) rfl rfl ?_
        refine yLs (ys := [_, _, _, _]) rfl rfl rfl ?_; refine yLa (ys := [_, _, _, _]) rfl rfl rfl rfl ?_; refine yBx (vs := vBk (1, x1, x3, x2)) (us := vBk (1, x1, x3, x2)) rfl rfl rfl rfl rfl rfl ?_; refine yMd rfl ?_; rw [hv]
        refine yMd rfl ?_; refine yB rfl rfl rfl rfl ?_; refine yMd rfl ?_; rw [u5]; refine yMd rfl ?_; refine yMd rfl ?_; refine yB rfl rfl rfl rfl ?_; rw [hw2]; refine yW ez (by omega) rfl rfl ?_; refine yFr rfl rfl ?_
        refine yLr rfl rfl ?_; refine yMd rfl ?_; refine yMd rfl ?_; refine yW ex (by omega) rfl rfl ?_; refine yFr rfl rfl ?_; refine yLr rfl rfl ?_; refine yBsh rfl rfl ?_; refine yPd rfl rfl ?_; refine yVd rfl rfl ?_; refine yQ ?_
        refine q_then ?_; rw [u6]; refine pw_cf rfl ?_; refine pw_skip ?_; refine pw_region ?_; refine yB rfl rfl rfl rfl ?_; refine yMd rfl ?_; refine yQ ?_; refine q_then ?_
        refine ⟨i + 1, by omega, by omega, rfl, ⟨.refl _, .refl _, .refl _, .refl _, .refl _, .refl _, .refl _, .refl _, .of_eq (congrArg (fun n => SV.d (dI n)) hw), trivial⟩, ⟨⟨_, rfl, .refl _, .refl _, .refl _, trivial⟩, ⟨_, rfl, .refl _, .refl _, .refl _, trivial⟩, trivial⟩, trivial, rfl⟩
    · have ey := ix dBk W i i (3, x1, x3, x2) rfl hy0
      have hv : veqs (vBk (3, x1, x3, x2)) (vBk (3, x1, x3, x2)) = true := by rw [veq_bk]; exact decide_eq_true rfl
      rcases Nat.eq_zero_or_pos i with hi0 | hi0
      · have u5 : decide ((i : Int) > 0) = false := decide_eq_false (by omega)
        refine pw_skip ?_; refine pw_seq ?_; refine pw_block ?_; refine pw_seq ?_; refine pw_region ?_; refine yMd rfl ?_; refine yW ex (by omega) rfl rfl ?_; refine yLs (ys := [_, _, _, _]) rfl rfl rfl ?_
        refine yZ (cs := [_, _, _, _]) rfl rfl ?_; refine yAd rfl ?_; refine yS (cs' := [_, _, _, _]) rfl rfl rfl rfl rfl ?_; refine yQ ?_; refine pw_seq ?_; refine pw_region ?_; refine yFb rfl ?_; refine yLd rfl rfl rfl ?_
        refine yFb rfl ?_; refine yLd rfl rfl rfl ?_; refine yFb rfl ?_; refine ySd (cs' := [_, _, _, _]) rfl rfl rfl rfl ?_; refine yFb rfl ?_; refine ySd (cs' := [_, _, _, _]) rfl rfl rfl rfl ?_; refine yQ ?_; refine pw_seq ?_
        refine pw_seq ?_; refine pw_region ?_; refine yFb rfl ?_; refine yLd rfl rfl rfl ?_; refine yQ ?_; refine pw_block ?_; refine pw_seq ?_; refine pw_region ?_; refine yB rfl rfl rfl rfl ?_; refine yAd rfl ?_; refine yQ ?_
        refine pw_cf rfl ?_; refine pw_seq ?_; refine pw_region ?_; refine yB rfl rfl rfl rfl ?_; refine yAd rfl ?_; refine yQ ?_; refine pw_cf rfl ?_; refine pw_skip ?_; refine pw_seq ?_; refine pw_draw Tryz.mixed (by kernel_rfl) ?_
        refine yMd rfl ?_; refine yMd rfl ?_; refine yW ey (by omega) rfl rfl ?_; refine yLs (ys := [_, _, _, _]) rfl rfl rfl ?_; refine yLa (ys := [_, _, _, _]) rfl rfl rfl rfl ?_
        refine yBx (vs := vBk (3, x1, x3, x2)) (us := vBk (3, x1, x3, x2)) rfl rfl rfl rfl rfl rfl ?_; refine yMd rfl ?_; rw [hv]; refine yMd rfl ?_; refine yB rfl rfl rfl rfl ?_; refine yMd rfl ?_; rw [u5]; refine yO rfl ?_
        refine yO rfl ?_; refine yO rfl ?_; refine yO rfl ?_; refine yO rfl ?_; refine yO rfl ?_; refine yO rfl ?_; refine yO rfl ?_; refine yO rfl ?_; refine yO rfl ?_; refine yO rfl ?_; refine yO rfl ?_; refine yVd rfl rfl ?_
        refine yVd rfl rfl ?_; refine yQ ?_; refine pw_cf rfl ?_; refine pw_skip ?_; refine pw_region ?_; refine yB rfl rfl rfl rfl ?_; refine yMd rfl ?_; refine yQ ?_; refine q_then ?_
        refine ⟨i + 1, by omega, by omega, rfl, ⟨.refl _, .refl _, .refl _, .refl _, .refl _, .refl _, .refl _, .refl _, .of_eq (congrArg (fun n => SV.d (dI n)) hw), trivial⟩, ⟨⟨_, rfl, .refl _, .refl _, .refl _, trivial⟩, ⟨_, rfl, .refl _, .refl _, .refl _, trivial⟩, trivial⟩, trivial, rfl⟩
      · obtain ⟨⟨z0, z1, z2, z3⟩, hz⟩ : ∃ q, R[i - 1]? = some q := ⟨_, List.getElem?_eq_getElem (by omega)⟩
        have u5 : decide ((i : Int) > 0) = true := decide_eq_true (by omega)
        have hw2 : IntKind.i64.wrap ((i : Int) - 1) = ((i - 1 : Nat) : Int) := by rw [wrapI _ (by omega)]; omega
        have ez := ix dBk R ((i - 1 : Nat) : Int) (i - 1) (z0, z1, z2, z3) rfl hz
        have u6 : lt8 z1 x1 = true := hprev _ hi0 hz
        refine pw_skip ?_; refine pw_seq ?_; refine pw_block ?_; refine pw_seq ?_; refine pw_region ?_; refine yMd rfl ?_; refine yW ex (by omega) rfl rfl ?_; refine yLs (ys := [_, _, _, _]) rfl rfl rfl ?_
        refine yZ (cs := [_, _, _, _]) rfl rfl ?_; refine yAd rfl ?_; refine yS (cs' := [_, _, _, _]) rfl rfl rfl rfl rfl ?_; refine yQ ?_; refine pw_seq ?_; refine pw_region ?_; refine yFb rfl ?_; refine yLd rfl rfl rfl ?_
        refine yFb rfl ?_; refine yLd rfl rfl rfl ?_; refine yFb rfl ?_; refine ySd (cs' := [_, _, _, _]) rfl rfl rfl rfl ?_; refine yFb rfl ?_; refine ySd (cs' := [_, _, _, _]) rfl rfl rfl rfl ?_; refine yQ ?_; refine pw_seq ?_
        refine pw_seq ?_; refine pw_region ?_; refine yFb rfl ?_; refine yLd rfl rfl rfl ?_; refine yQ ?_; refine pw_block ?_; refine pw_seq ?_; refine pw_region ?_; refine yB rfl rfl rfl rfl ?_; refine yAd rfl ?_; refine yQ ?_
        refine pw_cf rfl ?_; refine pw_seq ?_; refine pw_region ?_; refine yB rfl rfl rfl rfl ?_; refine yAd rfl ?_; refine yQ ?_; refine pw_cf rfl ?_; refine pw_skip ?_; refine pw_seq ?_; refine pw_draw Tryz.mixed (by kernel_rfl) ?_
        refine yMd rfl ?_; refine yMd rfl ?_; refine yW ey (by omega) rfl rfl ?_; refine yLs (ys := [_, _, _, _]) rfl rfl rfl ?_; refine yLa (ys := [_, _, _, _]) rfl rfl rfl rfl ?_
        refine yBx (vs := vBk (3, x1, x3, x2)) (us := vBk (3, x1, x3, x2)) rfl rfl rfl rfl rfl rfl ?_; refine yMd rfl ?_; rw [hv]; refine yMd rfl ?_; refine yB rfl rfl rfl rfl ?_; refine yMd rfl ?_; rw [u5]; refine yMd rfl ?_
        refine yMd rfl ?_; refine yB rfl rfl rfl rfl ?_; rw [hw2]; refine yW ez (by omega) rfl rfl ?_; refine yFr rfl rfl ?_; refine yLr rfl rfl ?_; refine yMd rfl ?_; refine yMd rfl ?_; refine yW ex (by omega) rfl rfl ?_
        refine yFr rfl rfl ?_; refine yLr rfl rfl ?_; refine yBsh rfl rfl ?_; refine yPd rfl rfl ?_; refine yVd rfl rfl ?_; refine yQ ?_; refine q_then ?_; rw [u6]; refine pw_cf rfl ?_; refine pw_skip ?_; refine pw_region ?_
        refine yB rfl rfl rfl rfl ?_; refine yMd rfl ?_; refine yQ ?_; refine q_then ?_
        refine ⟨i + 1, by omega, by omega, rfl, ⟨.refl _, .refl _, .refl _, .refl _, .refl _, .refl _, .refl _, .refl _, .of_eq (congrArg (fun n => SV.d (dI n)) hw), trivial⟩, ⟨⟨_, rfl, .refl _, .refl _, .refl _, trivial⟩, ⟨_, rfl, .refl _, .refl _, .refl _, trivial⟩, trivial⟩, trivial, rfl⟩
  simp at h
  clear hcl hasc
  refine pw_exit ?_; refine pw_seq ?_; refine pw_region ?_; refine yAd rfl ?_; refine yQ ?_; refine pw_seq ?_; refine pw_seq ?_; refine pw_region ?_; refine yMd rfl ?_; refine yN rfl ?_; refine yMd rfl ?_; refine yQ ?_
  refine pw_block ?_
  refine pw_loop (fun k : Nat => ⟨185, [(3, .bx 3 0), (4, .bx 4 0), (11, .d (.sl 4 (al.map dBk))), (19, .d (dI (C.take k).sum)), (146, .d (dIs C)), (147, .d (dI C.length)), (148, .d (dI k))], [(3, [.d (dI d1), .d (.sl 2 (h1.map dH)), .d (.sl 5 (ms.map dM))]), (4, [.d (dI d2), .d (.sl 2 (h2.map dH)), .d (.sl 5 (ts.map dM))])], []⟩) (fun k => k ≤ 6 ∧ 0 ≤ (C.take k).sum ∧ (C.take k).sum ≤ 100 * (k : Int)) (fun k => 6 - k) 0 ⟨by omega, by simp, by simp⟩
    ⟨rfl, ⟨.refl _, .refl _, .refl _, .refl _, .refl _, .of_eq (congrArg (fun n : Nat => SV.d (dI n)) (by simp)), .refl _, trivial⟩, ⟨⟨_, rfl, .refl _, .refl _, .refl _, trivial⟩, ⟨_, rfl, .refl _, .refl _, .refl _, trivial⟩, trivial⟩, trivial, rfl⟩ ?_
  rintro k ⟨hk, hs0, hs1⟩
  refine pw_seq ?_; refine pw_region ?_; refine yB rfl rfl rfl rfl ?_; refine yQ ?_; refine pw_seq ?_
  refine pw_cond rfl (fun hq => ?_) (fun hq => ?_)
  · simp at hq
    rw [hCl] at hq
    obtain ⟨c, hc⟩ : ∃ a, C[k]? = some a := ⟨_, List.getElem?_eq_getElem (by omega)⟩
    have ec := ix dZ C k k c rfl hc
    have hb := hmem k c hc
    have hn := sum_next hc
    have hw := wrapI ((k : Int) + 1) (by omega)
    have hw2 := wrapI ((C.take k).sum + c) (by omega)
    refine pw_skip ?_; refine pw_seq ?_; refine pw_block ?_; refine pw_seq ?_; refine pw_region ?_; refine yW ec (by omega) rfl rfl ?_; refine yLr rfl rfl ?_; refine yAd rfl ?_; refine yQ ?_; refine pw_region ?_; refine yMd rfl ?_
    refine yMd rfl ?_; refine yB rfl rfl rfl rfl ?_; refine yAd rfl ?_; refine yQ ?_; refine pw_region ?_; refine yB rfl rfl rfl rfl ?_; refine yMd rfl ?_; refine yQ ?_; refine q_then ?_
    refine ⟨k + 1, ⟨by omega, by omega, by omega⟩, by omega, rfl, ⟨.refl _, .refl _, .refl _, .of_eq (congrArg (fun n => SV.d (dI n)) (hw2.trans hn.symm)), .refl _, .refl _, .of_eq (congrArg (fun n => SV.d (dI n)) hw), trivial⟩, ⟨⟨_, rfl, .refl _, .refl _, .refl _, trivial⟩, ⟨_, rfl, .refl _, .refl _, .refl _, trivial⟩, trivial⟩, trivial, rfl⟩
  · simp at hq
    rw [hCl] at hq
    have u1 : ((C.take k).sum == ((al.map dBk).length : Int)) = true := by rw [htot k (by omega), List.length_map]; exact beq_self_eq_true _
    have u2 : decide (((al.map dBk).length : Int) ≤ IntKind.i64.wrap (IntKind.i64.wrap (((h1.map dH).length : Int) + ((h2.map dH).length : Int)) + IntKind.i64.wrap (3 * IntKind.i64.wrap (((ms.map dM).length : Int) + ((ts.map dM).length : Int))))) = true := by
      simp only [List.length_map]
      refine decide_eq_true ?_
      rw [wrapI ((h1.length : Int) + h2.length) (by omega), wrapI ((ms.length : Int) + ts.length) (by omega), wrapI (3 * ((ms.length : Int) + ts.length)) (by omega), wrapI _ (by omega)]
      omega
    refine pw_exit ?_; refine pw_seq ?_; refine pw_region ?_; refine yFb rfl ?_; refine yLd rfl rfl rfl ?_; refine yN rfl ?_; refine yFb rfl ?_; refine yLd rfl rfl rfl ?_; refine yN rfl ?_; refine yB rfl rfl rfl rfl ?_
    refine yFb rfl ?_; refine yLd rfl rfl rfl ?_; refine yN rfl ?_; refine yFb rfl ?_; refine yLd rfl rfl rfl ?_; refine yN rfl ?_; refine yB rfl rfl rfl rfl ?_; refine yB rfl rfl rfl rfl ?_; refine yB rfl rfl rfl rfl ?_
    refine yAd rfl ?_; refine yQ ?_; refine pw_seq ?_; refine pw_region ?_; refine yMd rfl ?_; refine yMd rfl ?_; refine yN rfl ?_; refine yB rfl rfl rfl rfl ?_; refine yMd rfl ?_; rw [u1]; refine yMd rfl ?_; refine yN rfl ?_
    refine yMd rfl ?_; refine yB rfl rfl rfl rfl ?_; refine yPd rfl rfl ?_; refine yMd rfl ?_; rw [u2]; refine yC (c0) rfl rfl ?_; refine yPd rfl rfl ?_; refine yAd rfl ?_; refine yQ ?_; refine pw_ret ?_
    exact q_ret _ (.tmp rfl .nil) rfl
end Go.Proofs.YtdkpmnefoobipaaGreatDoor
