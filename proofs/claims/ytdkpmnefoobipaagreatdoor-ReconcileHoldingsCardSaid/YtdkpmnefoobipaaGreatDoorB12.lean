/- Plain: the sum of one instrument, step by step; its size. -/
import Derived.Test.YtdkpmnefoobipaaGreatDoorB10
import Derived.Test.YtdkpmnefoobipaaGreatDoorB4
import Derived.Test.YtdkpmnefoobipaaGreatDoorB5
import Derived.Test.YtdkpmnefoobipaaGreatDoorB9
namespace Go.Proofs.YtdkpmnefoobipaaGreatDoor
open Go.RowKit Px

theorem g1_other {ms ts : List Mv} {P : List (Option Nat)} {i : Nat} {m : Mv} {n : Str} (hm : ms[i]? = some m) (h : m.2.2.1 ≠ n) : getS n (ex1 ms ts P (i + 1)) = getS n (ex1 ms ts P i) := by
  have h' : ¬ n = m.2.2.1 := fun e => h e.symm
  rw [ex1, hm]
  simp only
  split
  · rw [getS_set, if_neg h']
  · rw [getS_set, if_neg h', getS_set, if_neg h']
theorem g1_none {ms ts : List Mv} {P : List (Option Nat)} {i : Nat} {m : Mv} (hm : ms[i]? = some m) (ho : P[i]?.getD none = none) : getS m.2.2.1 (ex1 ms ts P (i + 1)) = addI (getS m.2.2.1 (ex1 ms ts P i)) m.2.2.2.1 := by
  rw [ex1, hm, ho]
  simp only [Option.bind_none]
  rw [getS_set, if_pos rfl]
theorem g1_some {ms ts : List Mv} {P : List (Option Nat)} {i k : Nat} {m y : Mv} (hm : ms[i]? = some m) (ho : P[i]?.getD none = some k) (hy : ts[k]? = some y) : getS m.2.2.1 (ex1 ms ts P (i + 1)) = subI (addI (getS m.2.2.1 (ex1 ms ts P i)) m.2.2.2.1) y.2.2.2.1 := by
  rw [ex1, hm, ho, Option.bind_some, hy]
  simp only
  rw [getS_set, if_pos rfl, getS_set, if_pos rfl]
theorem g2_other {ts : List Mv} {T : List Bool} {M : List (Str × Str)} {k : Nat} {y : Mv} {n : Str} (hy : ts[k]? = some y) (h : y.2.2.1 ≠ n ∨ tkn T k = true) : getS n (ex2 ts T M (k + 1)) = getS n (ex2 ts T M k) := by
  rw [ex2, hy]
  simp only
  rcases h with h | h
  · split
    · rfl
    · rw [getS_set, if_neg fun e => h e.symm]
  · rw [if_pos h]
theorem g2_some {ts : List Mv} {T : List Bool} {M : List (Str × Str)} {k : Nat} {y : Mv} (hy : ts[k]? = some y) (h : tkn T k = false) : getS y.2.2.1 (ex2 ts T M (k + 1)) = subI (getS y.2.2.1 (ex2 ts T M k)) y.2.2.2.1 := by
  rw [ex2, hy]
  simp only
  rw [if_neg (by rw [h]; decide), getS_set, if_pos rfl]
theorem val_q {a : Str} (h : a.length ≤ 13) : (val a).natAbs < 10000000000000 := by
  have := val_lt h
  have e : (10 : Nat) ^ 13 = 10000000000000 := by decide
  omega
theorem val_nil : val [] = 0 := by
  have := val_canon 0
  rwa [canon_zero] at this
theorem ex1_val {ms ts : List Mv} {P : List (Option Nat)} (hm : ∀ m ∈ ms, m.2.2.2.1.length ≤ 13) (ht : ∀ m ∈ ts, m.2.2.2.1.length ≤ 13) (i : Nat) (n : Str) : (val (getS n (ex1 ms ts P i))).natAbs ≤ 20000000000000 * i := by
  induction i with
  | zero =>
    show (val []).natAbs ≤ _
    rw [val_nil]; simp
  | succ i ih =>
    cases hx : ms[i]? with
    | none => rw [ex1, hx]; simp only; omega
    | some m =>
      by_cases hn : m.2.2.1 = n
      · subst hn
        have q1 := val_q (hm m (List.mem_of_getElem? hx))
        cases ho : P[i]?.getD none with
        | none =>
          rw [g1_none hx ho, addI, val_canon]
          omega
        | some k =>
          cases hy : ts[k]? with
          | none =>
            have : getS m.2.2.1 (ex1 ms ts P (i + 1)) = addI (getS m.2.2.1 (ex1 ms ts P i)) m.2.2.2.1 := by
              rw [ex1, hx, ho, Option.bind_some, hy]
              simp only
              rw [getS_set, if_pos rfl]
            rw [this, addI, val_canon]
            omega
          | some y =>
            have q2 := val_q (ht y (List.mem_of_getElem? hy))
            rw [g1_some hx ho hy, subI, val_canon, addI, val_canon]
            omega
      · rw [g1_other hx hn]
        omega
theorem ex2_val {ts : List Mv} {T : List Bool} {M : List (Str × Str)} {B : Nat} (ht : ∀ m ∈ ts, m.2.2.2.1.length ≤ 13) (n : Str) (hM : (val (getS n M)).natAbs ≤ B) (k : Nat) : (val (getS n (ex2 ts T M k))).natAbs ≤ B + 10000000000000 * k := by
  induction k with
  | zero => exact hM
  | succ k ih =>
    cases hx : ts[k]? with
    | none => rw [ex2, hx]; simp only; omega
    | some y =>
      cases hT : tkn T k with
      | true => rw [g2_other hx (.inr hT)]; omega
      | false =>
        by_cases hn : y.2.2.1 = n
        · subst hn
          have q1 := val_q (ht y (List.mem_of_getElem? hx))
          rw [g2_some hx hT, subI, val_canon]
          omega
        · rw [g2_other hx (.inl hn)]
          omega
end Go.Proofs.YtdkpmnefoobipaaGreatDoor
namespace Go.Proofs.YtdkpmnefoobipaaGreatDoor
open Go.RowKit Px

theorem natOf_take {t : Str} (h : t.all isD = true) (h17 : t.length ≤ 17) (i : Nat) : natOf (t.take i) < 100000000000000000 := by
  have h1 : (t.take i).all isD = true := by
    rw [List.all_eq_true] at h ⊢
    exact fun x hx => h x (List.mem_of_mem_take hx)
  have h2 := natOf_lt h1
  have h3 : (10 : Nat) ^ (t.take i).length ≤ 10 ^ 17 := Nat.pow_le_pow_right (by decide) (by rw [List.length_take]; omega)
  have e17 : (10 : Nat) ^ 17 = 100000000000000000 := by decide
  omega
set_option maxRecDepth 20000 in
set_option maxHeartbeats 1000000 in
theorem wRShort (a : Str) (ha : a.length ≤ 1000000) (h17 : (dgs a).1.length ≤ 17) : PCalls Tryz.prog 129 [dS a] (.tup [dI (val a), dB true]) := by
  have c1 := wRDigits a (by omega)
  have hD := dgs_all a
  have hv : val a = if (dgs a).2 then -(natOf (dgs a).1 : Int) else natOf (dgs a).1 := rfl
  obtain ⟨r, hr⟩ : ∃ r, r = val a := ⟨_, rfl⟩
  obtain ⟨⟨t, b⟩, ht⟩ : ∃ p, p = dgs a := ⟨_, rfl⟩
  rw [← hr] at hv ⊢
  rw [← ht] at c1 hD hv h17
  simp only at c1 hD hv h17
  have hnt := natOf_take hD h17
  have hdv : ∀ (i : Nat) c, t[i]? = some c → 48 ≤ c.toNat ∧ c.toNat ≤ 57 := fun i c hc => by
    rw [List.all_eq_true] at hD
    have := hD c (List.mem_of_getElem? hc)
    unfold isD at this
    simpa using this
  clear ht hr
  have u0 : decide ((t.length : Int) > 17) = false := decide_eq_false (by omega)
  refine pcalls_of_pw Tryz.func129 rfl Tryz.ntmps129 Tryz.results129 (by simp) fun B w0 => ?_
  refine pw_seq (pw_region (yAd rfl (yAd rfl (yQ (pw_seq (pw_region (yMd rfl (yC (c1) rfl rfl (yMp rfl ?_))))))))); refine yX rfl rfl (yX rfl rfl (yAd rfl (yAd rfl (yQ (pw_seq (pw_seq (pw_region (yMd rfl (yNs rfl ?_))))))))); refine yB rfl rfl rfl rfl (yQ (q_then ?_))
  rw [u0]; refine pw_cf rfl ?_; refine pw_skip ?_; refine pw_seq ?_; refine pw_region ?_; refine yAd rfl ?_; refine yQ ?_; refine pw_seq ?_; refine pw_seq ?_; refine pw_region ?_; refine yAd rfl ?_; refine yQ ?_; refine pw_block ?_
  refine pw_loop (fun i : Nat => ⟨34, [(4, .d (dS t)), (5, .d (dB b)), (6, .d (dI (natOf (t.take i)))), (7, .d (dI i))], [], []⟩) (fun i => i ≤ t.length) (fun i => t.length - i) 0 (Nat.zero_le _) ⟨rfl, ⟨.refl _, .refl _, .refl _, .refl _, trivial⟩, trivial, trivial, rfl⟩ ?_
  intro i hi
  rcases Nat.lt_or_ge i t.length with h | h
  · have u1 : decide ((i : Int) < (t.length : Int)) = true := decide_eq_true (by omega)
    obtain ⟨c, hc⟩ : ∃ c, t[i]? = some c := ⟨_, List.getElem?_eq_getElem h⟩
    have hci : t[((i : Int)).toNat]? = some c := by rw [Int.toNat_natCast]; exact hc
    obtain ⟨d1, d2⟩ := hdv i c hc
    have hn := hnt i
    have hnx : natOf (t.take (i + 1)) = 10 * natOf (t.take i) + dv c := by rw [List.take_add_one, hc]; exact natOf_snoc _ _
    obtain ⟨n, hnn⟩ : ∃ n, n = natOf (t.take i) := ⟨_, rfl⟩
    rw [← hnn] at hn hnx ⊢
    have w1 : IntKind.i64.wrap (10 * (n : Int)) = 10 * (n : Int) := wrapI _ (by omega)
    have w2 : IntKind.u8.wrap ((c.toNat : Int) - 48) = (dv c : Int) := by
      rw [IntKind.wrap_u8]
      unfold dv
      omega
    have hd9 : dv c ≤ 9 := by unfold dv; omega
    have w3 : IntKind.i64.wrap (dv c : Int) = (dv c : Int) := wrapI _ (by omega)
    have w4 : IntKind.i64.wrap (10 * (n : Int) + (dv c : Int)) = ((10 * n + dv c : Nat) : Int) := by rw [wrapI _ (by omega)]; omega
    have w5 := wrapI ((i : Int) + 1) (by omega)
    refine pw_seq (pw_seq (pw_region (yMd rfl (yMd rfl (yNs rfl (yB rfl rfl rfl rfl (yQ (q_then ?_)))))))); rw [u1]; refine pw_ct rfl (pw_skip (pw_seq (pw_block (pw_region (yMd rfl (yB rfl rfl rfl rfl (yMd rfl (yMd rfl (yIs hci (by omega) rfl rfl ?_))))))))); refine yB rfl rfl rfl rfl (yJ rfl (yB rfl rfl rfl rfl (yAd rfl (yQ (pw_region (yMd rfl (yB rfl rfl rfl rfl (yAd rfl (yQ ?_))))))))); refine q_then ?_; rw [w1]; rw [w2]; rw [w3]; rw [w4]
    exact ⟨i + 1, by omega, by omega, rfl, ⟨.refl _, .refl _, .of_eq (by rw [hnx]; rfl), .of_eq (congrArg (fun n => SV.d (dI n)) w5), trivial⟩, trivial, trivial, rfl⟩
  have u1 : decide ((i : Int) < (t.length : Int)) = false := decide_eq_false (by omega)
  have hn := hnt i
  obtain rfl : i = t.length := by omega
  rw [List.take_length] at hn ⊢
  cases b with
  | true =>
    rw [if_pos rfl] at hv
    have w1 : IntKind.i64.wrap (0 - (natOf t : Int)) = -(natOf t : Int) := by rw [wrapI _ (by omega)]; omega
    refine pw_seq (pw_seq (pw_region (yMd rfl (yMd rfl (yNs rfl (yB rfl rfl rfl rfl (yQ (q_then ?_)))))))); rw [u1]; refine pw_cf rfl (pw_exit (pw_seq (pw_seq (pw_region (yMd rfl (yQ (pw_ct rfl (pw_region (yMd rfl ?_))))))))); refine yU rfl rfl rfl (yAd rfl (yQ (pw_seq (pw_region (yMd rfl (yAd rfl (yAd rfl (yQ (pw_ret ?_))))))))); rw [w1]
    rw [hv]
    exact q_ret _ (.tmp rfl (.tmp rfl .nil)) rfl
  | false =>
    rw [if_neg (by decide)] at hv
    refine pw_seq (pw_seq (pw_region (yMd rfl (yMd rfl (yNs rfl (yB rfl rfl rfl rfl (yQ (q_then ?_)))))))); rw [u1]; refine pw_cf rfl (pw_exit (pw_seq (pw_seq (pw_region (yMd rfl (yQ (pw_cf rfl (pw_skip (pw_seq ?_))))))))); refine pw_region (yMd rfl (yAd rfl (yAd rfl (yQ (pw_ret ?_)))))
    rw [hv]
    exact q_ret _ (.tmp rfl (.tmp rfl .nil)) rfl
set_option maxRecDepth 20000 in
set_option maxHeartbeats 1000000 in
theorem wRNeg (a : Str) (ha : a.length ≤ 1000000) : PCalls Tryz.prog 96 [dS a] (.d (dS (canon (-val a)))) := by
  have c1 := wRDigits a (by omega)
  have hv : val a = if (dgs a).2 then -(natOf (dgs a).1 : Int) else natOf (dgs a).1 := rfl
  have hd : dec (natOf (dgs a).1) = (dgs a).1 := dec_natOf (dgs_all a) (dgs_head a)
  have hdn : (dgs a).2 = true → (dgs a).1 ≠ [] := dgs_neg
  have hl : (dgs a).1.length ≤ 1000000 := by
    have hb : (bod a).length ≤ a.length := by unfold bod; split <;> simp
    have h2 : (dgs a).1.length ≤ a.length := by
      unfold dgs
      split
      · exact Nat.le_trans (List.dropWhile_suffix _).length_le hb
      · simp
    omega
  obtain ⟨r, hr⟩ : ∃ r, r = canon (-val a) := ⟨_, rfl⟩
  obtain ⟨⟨t, b⟩, ht⟩ : ∃ p, p = dgs a := ⟨_, rfl⟩
  rw [← hr]
  rw [← ht] at c1 hv hd hdn hl
  simp only at c1 hv hd hdn hl
  refine pcalls_of_pw Tryz.func96 rfl Tryz.ntmps96 Tryz.results96 (by simp) fun B w0 => ?_
  cases b with
  | true =>
    rw [if_pos rfl] at hv
    have : r = t := by
      rw [hr, hv, Int.neg_neg]
      unfold canon
      rw [if_neg (by omega), Int.natAbs_natCast, hd]
    rw [this]
    refine pw_seq (pw_region (yAd rfl (yQ (pw_seq (pw_region (yMd rfl (yC (c1) rfl rfl (yMp rfl (yX rfl rfl ?_))))))))); refine yX rfl rfl (yAd rfl (yAd rfl (yQ (pw_seq (pw_seq (pw_region (yMd rfl (yMd rfl (yO rfl ?_))))))))); refine yO rfl (yPd rfl rfl (yQ (pw_ct rfl (pw_seq (pw_region (yMd rfl (yAd rfl (yQ (pw_ret ?_))))))))); refine q_then_ret ?_
    exact q_ret _ (.tmp rfl .nil) rfl
  | false =>
    rw [if_neg (by decide)] at hv
    cases t with
    | nil =>
      have : r = [] := by
        rw [hr, hv]
        exact canon_zero
      rw [this]
      refine pw_seq (pw_region (yAd rfl (yQ (pw_seq (pw_region (yMd rfl (yC (c1) rfl rfl (yMp rfl (yX rfl rfl ?_))))))))); refine yX rfl rfl (yAd rfl (yAd rfl (yQ (pw_seq (pw_seq (pw_region (yMd rfl (yMd rfl (yMd rfl ?_))))))))); refine yBse rfl rfl (yVd rfl rfl (yQ (pw_ct rfl (pw_seq (pw_region (yMd rfl (yAd rfl (yQ (pw_ret ?_))))))))); refine q_then_ret ?_
      exact q_ret _ (.tmp rfl .nil) rfl
    | cons x l =>
      have hn0 : natOf (x :: l) ≠ 0 := fun e => by
        rw [e, dec_zero] at hd
        cases hd
      have : r = [45] ++ (x :: l) := by
        rw [hr, hv]
        unfold canon
        rw [if_pos (by omega), Int.natAbs_neg, Int.natAbs_natCast, hd]
        rfl
      rw [this]
      refine pw_seq (pw_region (yAd rfl (yQ (pw_seq (pw_region (yMd rfl (yC (c1) rfl rfl (yMp rfl (yX rfl rfl ?_))))))))); refine yX rfl rfl (yAd rfl (yAd rfl (yQ (pw_seq (pw_seq (pw_region (yMd rfl (yMd rfl (yMd rfl ?_))))))))); refine yBse rfl rfl (yVd rfl rfl (yQ (pw_cf rfl (pw_skip (pw_seq (pw_region (yMd rfl (yBsa (l1 := [45]) (l2 := x :: l) (by simp only [List.length_cons, List.length_nil] at hl ⊢; omega) rfl rfl (yAd rfl ?_))))))))); refine yQ (pw_ret ?_)
      exact q_ret _ (.tmp rfl .nil) rfl
theorem dgs_short {a : Str} {k : Nat} (h : (val a).natAbs < 10 ^ k) : (dgs a).1.length ≤ k := by
  rw [← dec_dgs]
  exact dec_le h
set_option maxRecDepth 20000 in
set_option maxHeartbeats 1000000 in
theorem wRAddT (a b : Str) (ha : a.length ≤ 100000) (hb : b.length ≤ 100000) (va : (val a).natAbs < 100000000000000000) (vb : (val b).natAbs < 100000000000000000) : PCalls Tryz.prog 95 [dS a, dS b] (.d (dS (canon (val a + val b)))) := by
  have e17 : (10 : Nat) ^ 17 = 100000000000000000 := by decide
  have c1 := wRShort a (by omega) (dgs_short (by omega))
  have c2 := wRShort b (by omega) (dgs_short (by omega))
  have c3 := wROf (val a + val b) (by omega) (by omega)
  have w1 : IntKind.i64.wrap (val a + val b) = val a + val b := wrapI _ (by omega)
  obtain ⟨r, hr⟩ : ∃ r, r = canon (val a + val b) := ⟨_, rfl⟩
  rw [← hr] at c3 ⊢
  obtain ⟨x, hx⟩ : ∃ x, x = val a := ⟨_, rfl⟩
  obtain ⟨y, hy⟩ : ∃ x, x = val b := ⟨_, rfl⟩
  rw [← hx] at c1 c3 w1
  rw [← hy] at c2 c3 w1
  refine pcalls_of_pw Tryz.func95 rfl Tryz.ntmps95 Tryz.results95 (by simp) fun B w0 => ?_
  refine pw_seq (pw_region (yAd rfl (yQ (pw_seq (pw_region (yMd rfl (yC (c1) rfl rfl (yMp rfl (yX rfl rfl ?_))))))))); refine yX rfl rfl (yAd rfl (yAd rfl (yQ (pw_seq (pw_region (yMd rfl (yC (c2) rfl rfl (yMp rfl (yX rfl rfl ?_))))))))); refine yX rfl rfl (yAd rfl (yAd rfl (yQ (pw_seq (pw_seq (pw_region (yMd rfl (yMd rfl (yMd rfl ?_))))))))); refine yPd rfl rfl (yQ (pw_ct rfl (pw_seq (pw_region (yMd rfl (yMd rfl (yB rfl rfl rfl rfl ?_))))))); rw [w1]; refine yC (c3) rfl rfl (yAd rfl (yQ (pw_ret (q_then_ret ?_))))
  exact q_ret _ (.tmp rfl .nil) rfl
set_option maxRecDepth 20000 in
set_option maxHeartbeats 1000000 in
theorem wRSubT (a b : Str) (ha : a.length ≤ 100000) (hb : b.length ≤ 90000) (va : (val a).natAbs < 100000000000000000) (vb : (val b).natAbs < 100000000000000000) : PCalls Tryz.prog 63 [dS a, dS b] (.d (dS (canon (val a - val b)))) := by
  have e17 : (10 : Nat) ^ 17 = 100000000000000000 := by decide
  have c1 := wRNeg b (by omega)
  have hl := canon_le (z := -val b) (k := 17) (by omega)
  have c2 := wRAddT a (canon (-val b)) ha (by omega) va (by rw [val_canon]; omega)
  rw [val_canon, ← Int.sub_eq_add_neg] at c2
  obtain ⟨r, hr⟩ : ∃ r, r = canon (val a - val b) := ⟨_, rfl⟩
  rw [← hr] at c2 ⊢
  obtain ⟨x, hx⟩ : ∃ x, x = canon (-val b) := ⟨_, rfl⟩
  rw [← hx] at c1 c2
  refine pcalls_of_pw Tryz.func63 rfl Tryz.ntmps63 Tryz.results63 (by simp) fun B w0 => ?_
  refine pw_seq (pw_region (yAd rfl (yQ (pw_seq (pw_region (yMd rfl (yMd rfl (yC (c1) rfl rfl (yC (c2) rfl rfl ?_))))))))); refine yAd rfl (yQ (pw_ret ?_))
  exact q_ret _ (.tmp rfl .nil) rfl
end Go.Proofs.YtdkpmnefoobipaaGreatDoor
namespace Go.Proofs.YtdkpmnefoobipaaGreatDoor
open Go.RowKit Px

set_option maxRecDepth 20000 in
set_option maxHeartbeats 8000000 in
theorem wDiff (ms ts : List Mv) (days : Int) (n : Str) (hms : ms.length ≤ 8) (hts : ts.length ≤ 8) (hv1 : ∀ m ∈ ms, vD m.2.1 = true) (hv2 : ∀ m ∈ ts, vD m.2.1 = true) (q1 : ∀ m ∈ ms, m.2.2.2.1.length ≤ 13) (q2 : ∀ m ∈ ts, m.2.2.2.1.length ≤ 13) :
    PCalls Tryz.prog 64 [.sl 5 (ms.map dM), .sl 5 (ts.map dM), dI days, dS n] (.d (dS (getS n (ex2 ts (pt2 days ms ts).2 (ex1 ms ts (pt2 days ms ts).1 ms.length) ts.length)))) := by
  have c1 := wPartners ms ts days (by omega) (by omega) hv1 hv2
  obtain ⟨l1, l2⟩ := pt2_len days ms ts
  have hlk : ∀ (i k : Nat), (pt2 days ms ts).1[i]?.getD none = some k → k < ts.length := fun i k h => pt2_lt days ms ts h
  have htk : ∀ k, k < ts.length → tkn (pt2 days ms ts).2 k = prd ((pt2 days ms ts).1.map ixO) k := fun k hk => by rw [pt2_taken days ms ts k hk, prd_eq]
  obtain ⟨r, hr⟩ : ∃ r, r = getS n (ex2 ts (pt2 days ms ts).2 (ex1 ms ts (pt2 days ms ts).1 ms.length) ts.length) := ⟨_, rfl⟩
  rw [← hr]
  obtain ⟨⟨P, T⟩, hp⟩ : ∃ p, p = pt2 days ms ts := ⟨_, rfl⟩
  rw [← hp] at c1 l1 l2 hlk hr htk
  simp only at c1 l1 l2 hlk hr htk
  have hx1 := ex1_len (pl := P) q1 q2
  have hy1 := ex1_val (P := P) q1 q2
  have hpl : (P.map ixO).length ≤ 1000000 := by rw [List.length_map]; omega
  clear hp
  refine pcalls_of_pw Tryz.func64 rfl Tryz.ntmps64 Tryz.results64 (by simp) fun B w0 => ?_
  refine pw_seq (pw_region (yAd rfl (yQ (pw_seq (pw_region (yAd rfl (yQ (pw_seq (pw_region ?_))))))))); refine yMd rfl (yMd rfl (yMd rfl (yC (c1) rfl rfl (yAd rfl (yQ (pw_seq (pw_seq (pw_region (yAd rfl ?_))))))))); refine yQ (pw_block ?_); refine pw_loop (fun i : Nat => ⟨79, [(0, .d (.sl 5 (ms.map dM))), (1, .d (.sl 5 (ts.map dM))), (3, .d (dS n)), (9, .d (dS (getS n (ex1 ms ts P i)))), (10, .d (dIs (P.map ixO))), (11, .d (dI i))], [], []⟩) (fun i => i ≤ ms.length) (fun i => ms.length - i) 0 (Nat.zero_le _)
    ⟨rfl, ⟨.refl _, .refl _, .refl _, .refl _, .refl _, .refl _, trivial⟩, trivial, trivial, rfl⟩ ?_
  intro i hi
  rcases Nat.lt_or_ge i ms.length with h | h
  · have u1 : decide ((i : Int) < ((ms.map dM).length : Int)) = true := decide_eq_true (by rw [List.length_map]; omega)
    obtain ⟨⟨m0, m1, m2, m3, m4⟩, hm⟩ : ∃ a, ms[i]? = some a := ⟨_, List.getElem?_eq_getElem h⟩
    have em := ix dM ms i i (m0, m1, m2, m3, m4) rfl hm
    have hw := wrapI ((i : Int) + 1) (by omega)
    have hq := q1 _ (List.mem_of_getElem? hm)
    simp only at hq
    by_cases hn : m2 = n
    · subst hn
      have t1 : (!(m2 == m2)) = false := by simp
      have hln := hx1 i m2
      have hvn := hy1 i m2
      have hvq := val_q hq
      have n0 := g1_none (ts := ts) (P := P) hm
      have n1 := fun k y ho hy => g1_some (ts := ts) (P := P) (k := k) (y := y) hm ho hy
      simp only at n0 n1
      obtain ⟨v, hv⟩ : ∃ v, v = getS m2 (ex1 ms ts P i) := ⟨_, rfl⟩
      rw [← hv] at hln hvn n0 n1 ⊢
      have c2 := wRAddT v m3 (by omega) (by omega) (by omega) (by omega)
      have ha : (canon (val v + val m3)).length ≤ 100 := by
        have := addI_len (a := v) (b := m3) (k := 13 + 4 * i) hln (by omega)
        have : (canon (val v + val m3)).length ≤ 13 + 4 * i + 2 := this
        omega
      have hva : (val (canon (val v + val m3))).natAbs < 100000000000000000 := by rw [val_canon]; omega
      have n0 : P[i]?.getD none = none → getS m2 (ex1 ms ts P (i + 1)) = canon (val v + val m3) := n0
      have n1 : ∀ k y, P[i]?.getD none = some k → ts[k]? = some y → getS m2 (ex1 ms ts P (i + 1)) = canon (val (canon (val v + val m3)) - val y.2.2.2.1) := n1
      obtain ⟨a, haa⟩ : ∃ a, a = canon (val v + val m3) := ⟨_, rfl⟩
      rw [← haa] at c2 ha hva n0 n1
      obtain ⟨o, ho⟩ : ∃ o, P[i]?.getD none = o := ⟨_, rfl⟩
      have ep := exP_at ho (by omega)
      cases o with
      | none =>
        have u2 : decide (ixO none ≥ 0) = false := rfl
        have hnx := n0 ho
        refine pw_seq (pw_seq (pw_region (yMd rfl (yMd rfl (yN rfl (yB rfl rfl rfl rfl (yQ (q_then ?_)))))))); rw [u1]; refine pw_ct rfl (pw_skip (pw_seq (pw_block (pw_seq (pw_seq (pw_region (yMd rfl (yMd rfl (yW em (by omega) rfl rfl ?_))))))))); refine yFr rfl rfl (yLr rfl rfl (yMd rfl (yBsn rfl rfl (yQ (q_then ?_))))); rw [t1]; refine pw_cf rfl (pw_skip (pw_seq (pw_region (yMd rfl (yMd rfl (yMd rfl (yW em (by omega) rfl rfl (yFr rfl rfl (yLr rfl rfl ?_))))))))); refine yC (c2) rfl rfl (yAd rfl (yQ (pw_seq (pw_region (yMd rfl (yMd rfl (yW ep (by omega) rfl rfl (yLr rfl rfl (yB rfl rfl rfl rfl ?_))))))))); refine yQ (pw_cf rfl (pw_skip (pw_region (yMd rfl (yB rfl rfl rfl rfl (yAd rfl (yQ (q_then ?_)))))))); rw [u2]
        exact ⟨i + 1, by omega, by omega, rfl, ⟨.refl _, .refl _, .refl _, .of_eq (by rw [hnx]; rfl), .refl _, .of_eq (congrArg (fun n => SV.d (dI n)) hw), trivial⟩, trivial, trivial, rfl⟩
      | some k =>
        have hk := hlk i k ho
        obtain ⟨⟨x0, x1, x2, x3, x4⟩, hx⟩ : ∃ a, ts[k]? = some a := ⟨_, List.getElem?_eq_getElem hk⟩
        have eo := ix dM ts k k (x0, x1, x2, x3, x4) rfl hx
        have hqx := q2 _ (List.mem_of_getElem? hx)
        simp only at hqx
        have hvx := val_q hqx
        have hnx := n1 k _ ho hx
        simp only at hnx
        have u2 : decide (ixO (some k) ≥ 0) = true := decide_eq_true (by show (0 : Int) ≤ k; omega)
        have c3 := wRSubT a x3 (by omega) (by omega) hva (by omega)
        obtain ⟨b, hb⟩ : ∃ b, b = canon (val a - val x3) := ⟨_, rfl⟩
        rw [← hb] at c3 hnx
        refine pw_seq (pw_seq (pw_region (yMd rfl (yMd rfl (yN rfl (yB rfl rfl rfl rfl (yQ (q_then ?_)))))))); rw [u1]; refine pw_ct rfl (pw_skip (pw_seq (pw_block (pw_seq (pw_seq (pw_region (yMd rfl (yMd rfl (yW em (by omega) rfl rfl ?_))))))))); refine yFr rfl rfl (yLr rfl rfl (yMd rfl (yBsn rfl rfl (yQ (q_then ?_))))); rw [t1]; refine pw_cf rfl (pw_skip (pw_seq (pw_region (yMd rfl (yMd rfl (yMd rfl (yW em (by omega) rfl rfl (yFr rfl rfl (yLr rfl rfl ?_))))))))); refine yC (c2) rfl rfl (yAd rfl (yQ (pw_seq (pw_region (yMd rfl (yMd rfl (yW ep (by omega) rfl rfl (yLr rfl rfl (yB rfl rfl rfl rfl ?_))))))))); refine yQ (pw_ct rfl (pw_region (yMd rfl (yMd rfl (yMd rfl (yMd rfl (yW ep (by omega) rfl rfl (yLr rfl rfl (yW eo (by show (0 : Int) ≤ k; omega) rfl rfl ?_))))))))); refine yFr rfl rfl (yLr rfl rfl (yC (c3) rfl rfl (yAd rfl (yQ (pw_region (yMd rfl (yB rfl rfl rfl rfl (yAd rfl (yQ ?_))))))))); refine q_then ?_; rw [u2]
        exact ⟨i + 1, by omega, by omega, rfl, ⟨.refl _, .refl _, .refl _, .of_eq (by rw [hnx]; rfl), .refl _, .of_eq (congrArg (fun n => SV.d (dI n)) hw), trivial⟩, trivial, trivial, rfl⟩
    · have t1 : (!(m2 == n)) = true := by simpa using hn
      have hnx := g1_other (ts := ts) (P := P) hm hn
      obtain ⟨v, hv⟩ : ∃ v, v = getS n (ex1 ms ts P i) := ⟨_, rfl⟩
      rw [← hv] at hnx ⊢
      refine pw_seq (pw_seq (pw_region (yMd rfl (yMd rfl (yN rfl (yB rfl rfl rfl rfl (yQ (q_then ?_)))))))); rw [u1]; refine pw_ct rfl (pw_skip (pw_seq (pw_block (pw_seq (pw_seq (pw_region (yMd rfl (yMd rfl (yW em (by omega) rfl rfl ?_))))))))); refine yFr rfl rfl (yLr rfl rfl (yMd rfl (yBsn rfl rfl (yQ (q_then ?_))))); rw [t1]; refine pw_ct rfl (pw_exit (pw_region (yMd rfl (yB rfl rfl rfl rfl (yAd rfl (yQ (q_then ?_)))))))
      exact ⟨i + 1, by omega, by omega, rfl, ⟨.refl _, .refl _, .refl _, .of_eq (by rw [hnx]; rfl), .refl _, .of_eq (congrArg (fun n => SV.d (dI n)) hw), trivial⟩, trivial, trivial, rfl⟩
  have u1 : decide ((i : Int) < ((ms.map dM).length : Int)) = false := decide_eq_false (by rw [List.length_map]; omega)
  obtain rfl : i = ms.length := by omega
  have hx2 := ex2_len (tk := T) (M := ex1 ms ts P ms.length) (B := 13 + 4 * ms.length) (fun m hm => by have := q2 m hm; omega) (hx1 ms.length)
  have hy2 := ex2_val (T := T) q2 n (hy1 ms.length n)
  obtain ⟨M0, hM0⟩ : ∃ M, M = ex1 ms ts P ms.length := ⟨_, rfl⟩
  rw [← hM0] at hx2 hy2 hr ⊢
  clear hM0 hx1 hy1
  refine pw_seq (pw_seq (pw_region (yMd rfl (yMd rfl (yN rfl (yB rfl rfl rfl rfl (yQ (q_then ?_)))))))); rw [u1]; refine pw_cf rfl (pw_exit (pw_seq (pw_seq (pw_region (yAd rfl (yQ (pw_block ?_))))))); refine pw_loop (fun k : Nat => ⟨79, [(1, .d (.sl 5 (ts.map dM))), (3, .d (dS n)), (9, .d (dS (getS n (ex2 ts T M0 k)))), (10, .d (dIs (P.map ixO))), (12, .d (dI k))], [], []⟩) (fun k => k ≤ ts.length) (fun k => ts.length - k) 0 (Nat.zero_le _)
    ⟨rfl, ⟨.refl _, .refl _, .refl _, .refl _, .refl _, trivial⟩, trivial, trivial, rfl⟩ ?_
  intro k hk
  rcases Nat.lt_or_ge k ts.length with h | h
  · have u2 : decide ((k : Int) < ((ts.map dM).length : Int)) = true := decide_eq_true (by rw [List.length_map]; omega)
    obtain ⟨⟨x0, x1, x2, x3, x4⟩, hx⟩ : ∃ a, ts[k]? = some a := ⟨_, List.getElem?_eq_getElem h⟩
    have ex := ix dM ts k k (x0, x1, x2, x3, x4) rfl hx
    have hw := wrapI ((k : Int) + 1) (by omega)
    have hq := q2 _ (List.mem_of_getElem? hx)
    simp only at hq
    have hvq := val_q hq
    have c2 := wPaired (P.map ixO) k hpl
    have htk2 := htk k h
    obtain ⟨b, hb⟩ : ∃ b, b = prd (P.map ixO) k := ⟨_, rfl⟩
    rw [← hb] at c2 htk2
    by_cases hn : x2 = n
    · have t1 : (x2 == n) = true := by simpa using hn
      cases b with
      | true =>
        have hnx := g2_other (M := M0) (n := n) hx (.inr htk2)
        obtain ⟨v, hv⟩ : ∃ v, v = getS n (ex2 ts T M0 k) := ⟨_, rfl⟩
        rw [← hv] at hnx ⊢
        refine pw_seq (pw_seq (pw_region (yMd rfl (yMd rfl (yN rfl (yB rfl rfl rfl rfl (yQ (q_then ?_)))))))); rw [u2]; refine pw_ct rfl (pw_skip (pw_seq (pw_block (pw_seq (pw_region (yMd rfl (yMd rfl (yW ex (by omega) rfl rfl (yFr rfl rfl ?_))))))))); refine yLr rfl rfl (yMd rfl (yBse rfl rfl (yMd rfl ?_))); rw [t1]; refine yMd rfl (yMd rfl (yC (c2) rfl rfl (yU rfl rfl rfl (yPd rfl rfl (yQ (pw_cf rfl (pw_skip (pw_region (yMd rfl ?_))))))))); refine yB rfl rfl rfl rfl (yAd rfl (yQ (q_then ?_)))
        exact ⟨k + 1, by omega, by omega, rfl, ⟨.refl _, .refl _, .of_eq (by rw [hnx]; rfl), .refl _, .of_eq (congrArg (fun n => SV.d (dI n)) hw), trivial⟩, trivial, trivial, rfl⟩
      | false =>
        have hnx := g2_some (M := M0) hx htk2
        simp only at hnx
        rw [hn] at hnx
        have hln := hx2 k n
        have hvn := hy2 k
        obtain ⟨v, hv⟩ : ∃ v, v = getS n (ex2 ts T M0 k) := ⟨_, rfl⟩
        rw [← hv] at hnx hln hvn ⊢
        have c3 := wRSubT v x3 (by omega) (by omega) (by omega) (by omega)
        have hnx : getS n (ex2 ts T M0 (k + 1)) = canon (val v - val x3) := hnx
        obtain ⟨a, ha⟩ : ∃ b, b = canon (val v - val x3) := ⟨_, rfl⟩
        rw [← ha] at c3 hnx
        refine pw_seq (pw_seq (pw_region (yMd rfl (yMd rfl (yN rfl (yB rfl rfl rfl rfl (yQ (q_then ?_)))))))); rw [u2]; refine pw_ct rfl (pw_skip (pw_seq (pw_block (pw_seq (pw_region (yMd rfl (yMd rfl (yW ex (by omega) rfl rfl (yFr rfl rfl ?_))))))))); refine yLr rfl rfl (yMd rfl (yBse rfl rfl (yMd rfl ?_))); rw [t1]; refine yMd rfl (yMd rfl (yC (c2) rfl rfl (yU rfl rfl rfl (yPd rfl rfl (yQ (pw_ct rfl (pw_region (yMd rfl (yMd rfl ?_))))))))); refine yMd rfl (yW ex (by omega) rfl rfl (yFr rfl rfl (yLr rfl rfl (yC (c3) rfl rfl (yAd rfl (yQ (pw_region (yMd rfl (yB rfl rfl rfl rfl ?_))))))))); refine yAd rfl (yQ (q_then ?_))
        exact ⟨k + 1, by omega, by omega, rfl, ⟨.refl _, .refl _, .of_eq (by rw [hnx]; rfl), .refl _, .of_eq (congrArg (fun n => SV.d (dI n)) hw), trivial⟩, trivial, trivial, rfl⟩
    · have t1 : (x2 == n) = false := by simpa using hn
      have hnx := g2_other (T := T) (M := M0) (n := n) hx (.inl hn)
      obtain ⟨v, hv⟩ : ∃ v, v = getS n (ex2 ts T M0 k) := ⟨_, rfl⟩
      rw [← hv] at hnx ⊢
      refine pw_seq (pw_seq (pw_region (yMd rfl (yMd rfl (yN rfl (yB rfl rfl rfl rfl (yQ (q_then ?_)))))))); rw [u2]; refine pw_ct rfl (pw_skip (pw_seq (pw_block (pw_seq (pw_region (yMd rfl (yMd rfl (yW ex (by omega) rfl rfl (yFr rfl rfl ?_))))))))); refine yLr rfl rfl (yMd rfl (yBse rfl rfl (yMd rfl ?_))); rw [t1]; refine yO rfl (yO rfl (yO rfl (yO rfl (yVd rfl rfl (yQ (pw_cf rfl (pw_skip (pw_region (yMd rfl ?_))))))))); refine yB rfl rfl rfl rfl (yAd rfl (yQ (q_then ?_)))
      exact ⟨k + 1, by omega, by omega, rfl, ⟨.refl _, .refl _, .of_eq (by rw [hnx]; rfl), .refl _, .of_eq (congrArg (fun n => SV.d (dI n)) hw), trivial⟩, trivial, trivial, rfl⟩
  have u2 : decide ((k : Int) < ((ts.map dM).length : Int)) = false := decide_eq_false (by rw [List.length_map]; omega)
  obtain rfl : k = ts.length := by omega
  rw [← hr]
  refine pw_seq (pw_seq (pw_region (yMd rfl (yMd rfl (yN rfl (yB rfl rfl rfl rfl (yQ (q_then ?_)))))))); rw [u2]; refine pw_cf rfl (pw_exit (pw_seq (pw_region (yMd rfl (yAd rfl (yQ (pw_ret ?_)))))))
  exact q_ret _ (.tmp rfl .nil) rfl
abbrev reT : Nat := 9 * 100000 + 9
set_option maxRecDepth 20000 in
set_option maxHeartbeats 8000000 in
theorem wRExplained (s t : Stm) (days : Int) (hs : fitS s) (ht : fitS t) (h1 : s.ms.length ≤ 8) (h2 : t.ms.length ≤ 8) (q1 : ∀ m ∈ s.ms, m.2.2.2.1.length ≤ 13) (q2 : ∀ m ∈ t.ms, m.2.2.2.1.length ≤ 13) (q3 : ∀ b ∈ hdB s.hs t.hs, b.2.2.1.length ≤ 13 ∧ b.2.2.2.length ≤ 13) : PCalls Tryz.prog 33 [.agg (dSt s), .agg (dSt t), dI days] (.tup [.sl 1 ((explR s t days).map dC), dI (ckE s t days)]) := by
  have c1 := wRChk s t days hs ht
  obtain ⟨ck, hck⟩ : ∃ e, e = ckE s t days := ⟨_, rfl⟩
  obtain ⟨r, hr⟩ : ∃ e, e = explR s t days := ⟨_, rfl⟩
  rw [← hck] at c1 ⊢
  rw [← hr]
  rw [explR, ← hck] at hr
  by_cases h0 : ck = 0
  rotate_left
  · have t1 : (ck != 0) = true := by simpa using h0
    rw [if_neg h0] at hr
    subst hr
    refine pcalls_of_pw Tryz.func33 rfl Tryz.ntmps33 Tryz.results33 (by simp) fun B w0 => ?_
    refine pw_seq (pw_region (yK (cs := [_, _, _]) rfl rfl (yK (cs := [_, _, _]) rfl rfl (yAd rfl (yAd rfl (yQ (pw_seq (pw_seq (pw_region ?_))))))))); refine yLa (ys := [_, _, _]) rfl rfl rfl rfl (yLa (ys := [_, _, _]) rfl rfl rfl rfl (yMd rfl (yC (c1) rfl rfl (yAd rfl (yQ (pw_seq (pw_region (yMd rfl (yB rfl rfl rfl rfl ?_))))))))); refine yQ (q_then ?_); rw [t1]; refine pw_ct rfl (pw_seq (pw_region (yR (es := []) rfl rfl rfl rfl rfl (yMd rfl (yAd rfl (yAd rfl (yQ (pw_ret (q_then_ret ?_)))))))))
    exact q_ret _ (.tmp rfl (.tmp rfl .nil)) rfl
  rw [if_pos h0] at hr
  have t1 : (ck != 0) = false := by simpa using h0
  obtain ⟨k1, k2, -⟩ := ckE_s (hck ▸ h0 : ckE s t days = 0)
  have c2 := wRHolds s t (by have := hs.hl; omega) (by have := ht.hl; omega)
  have c3 := fun n => wDiff s.ms t.ms days n h1 h2 (stE_v k1) (stE_v k2) q1 q2
  obtain ⟨L, hL⟩ : ∃ l, l = hdB s.hs t.hs := ⟨_, rfl⟩
  rw [← hL] at c2 q3 hr
  have hLl : L.length ≤ 1000000 := by
    have := hdB_len s.hs t.hs
    have h1 := hs.hl
    have h2 := ht.hl
    rw [hL]; omega
  obtain ⟨M, hM⟩ : ∃ M, M = ex2 t.ms (pt2 days s.ms t.ms).2 (ex1 s.ms t.ms (pt2 days s.ms t.ms).1 s.ms.length) t.ms.length := ⟨_, rfl⟩
  rw [← hM] at hr
  simp only [← hM] at c3
  clear hck hL hM k1 k2 hs ht q1 q2 h1 h2
  obtain ⟨d1, hs1, ms⟩ := s
  obtain ⟨d2, hs2, ts⟩ := t
  simp only at c1 c2 c3
  refine pcalls_of_pw Tryz.func33 rfl Tryz.ntmps33 Tryz.results33 (by simp) fun B w0 => ?_
  refine pw_seq (pw_region (yK (cs := [_, _, _]) rfl rfl (yK (cs := [_, _, _]) rfl rfl (yAd rfl (yAd rfl (yQ (pw_seq (pw_seq (pw_region ?_))))))))); refine yLa (ys := [_, _, _]) rfl rfl rfl rfl (yLa (ys := [_, _, _]) rfl rfl rfl rfl (yMd rfl (yC (c1) rfl rfl (yAd rfl (yQ (pw_seq (pw_region (yMd rfl (yB rfl rfl rfl rfl ?_))))))))); refine yQ (q_then ?_); rw [t1]; refine pw_cf rfl (pw_skip (pw_seq (pw_region (yRt (t := reT) (es := []) rfl rfl rfl rfl rfl rfl rfl rfl (yAt rfl (yQ (pw_seq (pw_region (yLa (ys := [_, _, _]) rfl rfl rfl rfl ?_))))))))); refine yLa (ys := [_, _, _]) rfl rfl rfl rfl (yC (c2) rfl rfl (yAd rfl (yQ (pw_seq (pw_seq (pw_region (yAd rfl (yQ (pw_block ?_))))))))); refine pw_loop (fun j : Nat => ⟨62, [(2, .d (dI days)), (3, .bx 3 0), (4, .bx 4 0), (9, .ts reT 1 ((exN L M j).map dC)), (10, .d (.sl 4 (L.map dBk))), (11, .d (dI j))], [(3, [.d (dI d1), .d (.sl 2 (hs1.map dH)), .d (.sl 5 (ms.map dM))]), (4, [.d (dI d2), .d (.sl 2 (hs2.map dH)), .d (.sl 5 (ts.map dM))])], [(reT, ((exN L M j).map dC).length)]⟩) (fun j => j ≤ L.length) (fun j => L.length - j) 0 (Nat.zero_le _)
    ⟨rfl, ⟨.refl _, .refl _, .refl _, .refl _, .refl _, .refl _, trivial⟩, ⟨⟨_, rfl, .refl _, .refl _, .refl _, trivial⟩, ⟨_, rfl, .refl _, .refl _, .refl _, trivial⟩, trivial⟩, ⟨rfl, trivial⟩, rfl⟩ ?_
  intro j hj
  rcases Nat.lt_or_ge j L.length with h | h
  · have u3 : decide ((j : Int) < ((L.map dBk).length : Int)) = true := decide_eq_true (by rw [List.length_map]; omega)
    obtain ⟨⟨b0, b1, b2, b3⟩, hb⟩ : ∃ a, L[j]? = some a := ⟨_, List.getElem?_eq_getElem h⟩
    have eb := ix dBk L j j (b0, b1, b2, b3) rfl hb
    have hw := wrapI ((j : Int) + 1) (by omega)
    obtain ⟨hq1, hq2⟩ := q3 _ (List.mem_of_getElem? hb)
    simp only at hq1 hq2
    have hv1 := val_q hq1
    have hv2 := val_q hq2
    have c4 := wRSubT b2 b3 (by omega) (by omega) (by omega) (by omega)
    have c5 := c3 b1
    have hnx : exN L M (j + 1) = exN L M (j + 1) := rfl
    conv at hnx => rhs; rw [exN, hb]
    simp only at hnx
    have hzl := exN_len L M j
    obtain ⟨zs, hz⟩ : ∃ z, z = exN L M j := ⟨_, rfl⟩
    obtain ⟨v, hv⟩ : ∃ v, v = getS b1 M := ⟨_, rfl⟩
    rw [← hz, ← hv] at hnx
    rw [← hz] at hzl ⊢
    rw [← hv] at c5
    have hnx : exN L M (j + 1) = if canon (val b2 - val b3) = v then zs ++ [b1] else zs := hnx
    obtain ⟨a2, ha2⟩ : ∃ w, w = canon (val b2 - val b3) := ⟨_, rfl⟩
    rw [← ha2] at c4 hnx
    clear ha2 hv hz c3
    by_cases he : a2 = v
    · have t2 : (a2 == v) = true := by simpa using he
      rw [if_pos he] at hnx
      refine pw_seq (pw_seq (pw_region (yMd rfl (yMd rfl (yN rfl (yB rfl rfl rfl rfl (yQ (q_then ?_)))))))); rw [u3]; refine pw_ct rfl (pw_skip (pw_seq (pw_block (pw_seq ?_)))); refine pw_draw Tryz.mixed (by kernel_rfl) ?_; refine yMd rfl (yMd rfl (yW eb (by omega) rfl rfl (yFr rfl rfl (yLr rfl rfl (yMd rfl (yMd rfl (yW eb (by omega) rfl rfl (yFr rfl rfl (yLr rfl rfl ?_))))))))); refine yC (c4) rfl rfl (yFb rfl (yLd rfl rfl rfl (yFb rfl (yLd rfl rfl rfl (yMd rfl (yMd rfl (yMd rfl (yW eb (by omega) rfl rfl (yFr rfl rfl ?_))))))))); refine yLr rfl rfl (yC (c5) rfl rfl (yBse rfl rfl (yQ (q_then ?_)))); rw [t2]; refine pw_ct rfl (pw_region (yMt rfl (yMd rfl (yMd rfl (yW eb (by omega) rfl rfl (yFr rfl rfl (yLr rfl rfl (yR (es := [[_]]) rfl rfl rfl rfl rfl (yT (es' := (zs ++ [b1]).map dC) (m := ((zs ++ [b1]).map dC).length) (by simp; omega) (by simp; omega) rfl rfl rfl rfl rfl (by simp) (by simp) ?_))))))))); refine yAt rfl (yQ (pw_region (yMd rfl (yB rfl rfl rfl rfl (yAd rfl (yQ (q_then ?_)))))))
      exact ⟨j + 1, by omega, by omega, rfl, ⟨.refl _, .refl _, .refl _, .of_eq (by rw [hnx]; rfl), .refl _, .of_eq (congrArg (fun n => SV.d (dI n)) hw), trivial⟩, ⟨⟨_, rfl, .refl _, .refl _, .refl _, trivial⟩, ⟨_, rfl, .refl _, .refl _, .refl _, trivial⟩, trivial⟩, ⟨(by rw [hnx]; rfl), trivial⟩, rfl⟩
    · have t2 : (a2 == v) = false := by simpa using he
      rw [if_neg he] at hnx
      refine pw_seq (pw_seq (pw_region (yMd rfl (yMd rfl (yN rfl (yB rfl rfl rfl rfl (yQ (q_then ?_)))))))); rw [u3]; refine pw_ct rfl (pw_skip (pw_seq (pw_block (pw_seq ?_)))); refine pw_draw Tryz.mixed (by kernel_rfl) ?_; refine yMd rfl (yMd rfl (yW eb (by omega) rfl rfl (yFr rfl rfl (yLr rfl rfl (yMd rfl (yMd rfl (yW eb (by omega) rfl rfl (yFr rfl rfl (yLr rfl rfl ?_))))))))); refine yC (c4) rfl rfl (yFb rfl (yLd rfl rfl rfl (yFb rfl (yLd rfl rfl rfl (yMd rfl (yMd rfl (yMd rfl (yW eb (by omega) rfl rfl (yFr rfl rfl ?_))))))))); refine yLr rfl rfl (yC (c5) rfl rfl (yBse rfl rfl (yQ (q_then ?_)))); rw [t2]; refine pw_cf rfl (pw_skip (pw_region (yMd rfl (yB rfl rfl rfl rfl (yAd rfl (yQ (q_then ?_)))))))
      exact ⟨j + 1, by omega, by omega, rfl, ⟨.refl _, .refl _, .refl _, .of_eq (by rw [hnx]; rfl), .refl _, .of_eq (congrArg (fun n => SV.d (dI n)) hw), trivial⟩, ⟨⟨_, rfl, .refl _, .refl _, .refl _, trivial⟩, ⟨_, rfl, .refl _, .refl _, .refl _, trivial⟩, trivial⟩, ⟨(by rw [hnx]; rfl), trivial⟩, rfl⟩
  have u3 : decide ((j : Int) < ((L.map dBk).length : Int)) = false := decide_eq_false (by rw [List.length_map]; omega)
  obtain rfl : j = L.length := by omega
  rw [← hr]
  refine pw_seq (pw_seq (pw_region (yMd rfl (yMd rfl (yN rfl (yB rfl rfl rfl rfl (yQ (q_then ?_)))))))); rw [u3]; refine pw_cf rfl (pw_exit (pw_seq (pw_region (yMt rfl (yAt rfl (yAd rfl (yQ (pw_ret ?_))))))))
  rw [h0]
  exact q_ret _ (.tmp rfl (.tmp rfl .nil)) rfl
end Go.Proofs.YtdkpmnefoobipaaGreatDoor
namespace Go.Proofs.YtdkpmnefoobipaaGreatDoor
open Go.RowKit Px

set_option maxRecDepth 20000 in
set_option maxHeartbeats 2000000 in
theorem wEqS (l r : List Str) (hl : l.length ≤ 1000000) (hr : r.length ≤ 1000000) : PCalls Tryz.prog 35 [.sl 1 (l.map dC), .sl 1 (r.map dC)] (.d (dB (decide (l = r)))) := by
  refine pcalls_of_pw Tryz.func35 rfl Tryz.ntmps35 Tryz.results35 (by simp) fun B w0 => ?_
  by_cases hn : l.length = r.length
  rotate_left
  · have t1 : (((l.map dC).length : Int) != ((r.map dC).length : Int)) = true := by simp; omega
    rw [decide_eq_false fun e => hn (by rw [e])]
    refine pw_seq (pw_region (yAd rfl (yQ (pw_seq (pw_seq (pw_region (yMd rfl (yN rfl (yMd rfl ?_))))))))); refine yN rfl (yB rfl rfl rfl rfl (yQ (q_then ?_))); rw [t1]; refine pw_ct rfl (pw_seq (pw_region (yAd rfl (yQ (pw_ret (q_then_ret ?_))))))
    exact q_ret _ (.tmp rfl .nil) rfl
  have t1 : (((l.map dC).length : Int) != ((r.map dC).length : Int)) = false := by simp; omega
  refine pw_seq (pw_region (yAd rfl (yQ (pw_seq (pw_seq (pw_region (yMd rfl (yN rfl (yMd rfl ?_))))))))); refine yN rfl (yB rfl rfl rfl rfl (yQ (q_then ?_))); rw [t1]; refine pw_cf rfl (pw_skip (pw_seq (pw_seq (pw_region (yMd rfl (yN rfl (yMd rfl (yQ (pw_block ?_))))))))); refine pw_loop (fun i : Nat => ⟨26, [(0, .d (.sl 1 (l.map dC))), (1, .d (.sl 1 (r.map dC))), (12, .d (dI l.length)), (13, .d (dI i))], [], []⟩) (fun i => i ≤ l.length ∧ l.take i = r.take i) (fun i => l.length - i) 0 ⟨Nat.zero_le _, rfl⟩ ⟨rfl, ⟨.refl _, .refl _, .of_eq (congrArg (fun n : Nat => SV.d (dI n)) (by simp)), .refl _, trivial⟩, trivial, trivial, rfl⟩ ?_
  rintro i ⟨hi, h0⟩
  rcases Nat.lt_or_ge i l.length with h | h
  · have u1 : decide ((i : Int) < (l.length : Int)) = true := decide_eq_true (by omega)
    obtain ⟨x, hx⟩ : ∃ a, l[i]? = some a := ⟨_, List.getElem?_eq_getElem h⟩
    obtain ⟨y, hy⟩ : ∃ a, r[i]? = some a := ⟨_, List.getElem?_eq_getElem (by omega)⟩
    have ex := ix dC l i i x rfl hx
    have ey := ix dC r i i y rfl hy
    have hw := wrapI ((i : Int) + 1) (by omega)
    by_cases e : x = y
    · have hv : (!(x == y)) = false := by simp [e]
      refine pw_seq (pw_region (yB rfl rfl rfl rfl (yQ (pw_seq ?_)))); rw [u1]; refine pw_ct rfl (pw_skip (pw_seq (pw_block (pw_seq (pw_region (yMd rfl (yAd rfl (yQ (pw_seq ?_))))))))); refine pw_draw Tryz.mixed (by kernel_rfl) ?_; refine yMd rfl (yMd rfl (yW ex (by omega) rfl rfl (yLr rfl rfl (yMd rfl (yMd rfl (yW ey (by omega) rfl rfl (yLr rfl rfl (yBsn rfl rfl (yQ ?_))))))))); refine q_then ?_; rw [hv]; refine pw_cf rfl (pw_skip (pw_region (yB rfl rfl rfl rfl (yMd rfl (yQ (q_then ?_))))))
      exact ⟨i + 1, ⟨by omega, take_next h0 hx (e ▸ hy)⟩, by omega, rfl, ⟨.refl _, .refl _, .refl _, .of_eq (congrArg (fun n => SV.d (dI n)) hw), trivial⟩, trivial, trivial, rfl⟩
    · have hv : (!(x == y)) = true := by simpa using e
      rw [decide_eq_false fun e2 => e (by subst e2; rw [hx] at hy; exact Option.some.inj hy)]
      refine pw_seq (pw_region (yB rfl rfl rfl rfl (yQ (pw_seq ?_)))); rw [u1]; refine pw_ct rfl (pw_skip (pw_seq (pw_block (pw_seq (pw_region (yMd rfl (yAd rfl (yQ (pw_seq ?_))))))))); refine pw_draw Tryz.mixed (by kernel_rfl) ?_; refine yMd rfl (yMd rfl (yW ex (by omega) rfl rfl (yLr rfl rfl (yMd rfl (yMd rfl (yW ey (by omega) rfl rfl (yLr rfl rfl (yBsn rfl rfl (yQ ?_))))))))); refine q_then ?_; rw [hv]; refine pw_ct rfl (pw_seq (pw_region (yAd rfl (yQ (pw_ret (q_blk_ret (q_then_ret (q_then_ret (q_blk_ret ?_))))))))); refine q_then_ret ?_
      exact q_ret _ (.tmp rfl .nil) rfl
  · have u1 : decide ((i : Int) < (l.length : Int)) = false := decide_eq_false (by omega)
    rw [List.take_of_length_le (by omega), List.take_of_length_le (by omega)] at h0
    rw [decide_eq_true h0]
    refine pw_seq (pw_region (yB rfl rfl rfl rfl (yQ (pw_seq ?_)))); rw [u1]; refine pw_cf rfl (pw_exit (pw_seq (pw_region (yAd rfl (yQ (pw_ret ?_))))))
    exact q_ret _ (.tmp rfl .nil) rfl
set_option maxRecDepth 20000 in
set_option maxHeartbeats 2000000 in
theorem wEqI (l r : List Int) (hl : l.length ≤ 1000000) (hr : r.length ≤ 1000000) : PCalls Tryz.prog 36 [.sl 1 (l.map dZ), .sl 1 (r.map dZ)] (.d (dB (decide (l = r)))) := by
  refine pcalls_of_pw Tryz.func36 rfl Tryz.ntmps36 Tryz.results36 (by simp) fun B w0 => ?_
  by_cases hn : l.length = r.length
  rotate_left
  · have t1 : (((l.map dZ).length : Int) != ((r.map dZ).length : Int)) = true := by simp; omega
    rw [decide_eq_false fun e => hn (by rw [e])]
    refine pw_seq (pw_region (yAd rfl (yQ (pw_seq (pw_seq (pw_region (yMd rfl (yN rfl (yMd rfl ?_))))))))); refine yN rfl (yB rfl rfl rfl rfl (yQ (q_then ?_))); rw [t1]; refine pw_ct rfl (pw_seq (pw_region (yAd rfl (yQ (pw_ret (q_then_ret ?_))))))
    exact q_ret _ (.tmp rfl .nil) rfl
  have t1 : (((l.map dZ).length : Int) != ((r.map dZ).length : Int)) = false := by simp; omega
  refine pw_seq (pw_region (yAd rfl (yQ (pw_seq (pw_seq (pw_region (yMd rfl (yN rfl (yMd rfl ?_))))))))); refine yN rfl (yB rfl rfl rfl rfl (yQ (q_then ?_))); rw [t1]; refine pw_cf rfl (pw_skip (pw_seq (pw_seq (pw_region (yMd rfl (yN rfl (yMd rfl (yQ (pw_block ?_))))))))); refine pw_loop (fun i : Nat => ⟨26, [(0, .d (.sl 1 (l.map dZ))), (1, .d (.sl 1 (r.map dZ))), (12, .d (dI l.length)), (13, .d (dI i))], [], []⟩) (fun i => i ≤ l.length ∧ l.take i = r.take i) (fun i => l.length - i) 0 ⟨Nat.zero_le _, rfl⟩ ⟨rfl, ⟨.refl _, .refl _, .of_eq (congrArg (fun n : Nat => SV.d (dI n)) (by simp)), .refl _, trivial⟩, trivial, trivial, rfl⟩ ?_
  rintro i ⟨hi, h0⟩
  rcases Nat.lt_or_ge i l.length with h | h
  · have u1 : decide ((i : Int) < (l.length : Int)) = true := decide_eq_true (by omega)
    obtain ⟨x, hx⟩ : ∃ a, l[i]? = some a := ⟨_, List.getElem?_eq_getElem h⟩
    obtain ⟨y, hy⟩ : ∃ a, r[i]? = some a := ⟨_, List.getElem?_eq_getElem (by omega)⟩
    have ex := ix dZ l i i x rfl hx
    have ey := ix dZ r i i y rfl hy
    have hw := wrapI ((i : Int) + 1) (by omega)
    by_cases e : x = y
    · have hv : (x != y) = false := by simp [e]
      refine pw_seq (pw_region (yB rfl rfl rfl rfl (yQ (pw_seq ?_)))); rw [u1]; refine pw_ct rfl (pw_skip (pw_seq (pw_block (pw_seq (pw_region (yMd rfl (yAd rfl (yQ (pw_seq ?_))))))))); refine pw_draw Tryz.mixed (by kernel_rfl) ?_; refine yMd rfl (yMd rfl (yW ex (by omega) rfl rfl (yLr rfl rfl (yMd rfl (yMd rfl (yW ey (by omega) rfl rfl (yLr rfl rfl (yB rfl rfl rfl rfl (yQ ?_))))))))); refine q_then ?_; rw [hv]; refine pw_cf rfl (pw_skip (pw_region (yB rfl rfl rfl rfl (yMd rfl (yQ (q_then ?_))))))
      exact ⟨i + 1, ⟨by omega, take_next h0 hx (e ▸ hy)⟩, by omega, rfl, ⟨.refl _, .refl _, .refl _, .of_eq (congrArg (fun n => SV.d (dI n)) hw), trivial⟩, trivial, trivial, rfl⟩
    · have hv : (x != y) = true := by simpa using e
      rw [decide_eq_false fun e2 => e (by subst e2; rw [hx] at hy; exact Option.some.inj hy)]
      refine pw_seq (pw_region (yB rfl rfl rfl rfl (yQ (pw_seq ?_)))); rw [u1]; refine pw_ct rfl (pw_skip (pw_seq (pw_block (pw_seq (pw_region (yMd rfl (yAd rfl (yQ (pw_seq ?_))))))))); refine pw_draw Tryz.mixed (by kernel_rfl) ?_; refine yMd rfl (yMd rfl (yW ex (by omega) rfl rfl (yLr rfl rfl (yMd rfl (yMd rfl (yW ey (by omega) rfl rfl (yLr rfl rfl (yB rfl rfl rfl rfl (yQ ?_))))))))); refine q_then ?_; rw [hv]; refine pw_ct rfl (pw_seq (pw_region (yAd rfl (yQ (pw_ret (q_blk_ret (q_then_ret (q_then_ret (q_blk_ret ?_))))))))); refine q_then_ret ?_
      exact q_ret _ (.tmp rfl .nil) rfl
  · have u1 : decide ((i : Int) < (l.length : Int)) = false := decide_eq_false (by omega)
    rw [List.take_of_length_le (by omega), List.take_of_length_le (by omega)] at h0
    rw [decide_eq_true h0]
    refine pw_seq (pw_region (yB rfl rfl rfl rfl (yQ (pw_seq ?_)))); rw [u1]; refine pw_cf rfl (pw_exit (pw_seq (pw_region (yAd rfl (yQ (pw_ret ?_))))))
    exact q_ret _ (.tmp rfl .nil) rfl
set_option maxRecDepth 20000 in
set_option maxHeartbeats 4000000 in
theorem wRCounts (l : List Bk) (hl : l.length ≤ 100000) : PCalls Tryz.prog 34 [.sl 4 (l.map dBk)] (.tup [dIs (cntR l), dI (cntE l)]) := by
  obtain ⟨r, hr⟩ : ∃ r, r = cntR l := ⟨_, rfl⟩
  obtain ⟨e, he⟩ : ∃ r, r = cntE l := ⟨_, rfl⟩
  rw [← hr, ← he]
  refine pcalls_of_pw Tryz.func34 rfl Tryz.ntmps34 Tryz.results34 (by simp) fun B w0 => ?_
  refine pw_seq (pw_region (yAd rfl (yAd rfl (yQ (pw_seq (pw_region (yMk (by omega) (by omega) (by omega) (by omega) rfl rfl rfl (yAw rfl (yQ ?_))))))))); refine pw_seq (pw_seq (pw_region (yAd rfl (yQ (pw_block ?_))))); refine pw_loop (fun i : Nat => ⟨40, [(0, .d (.sl 4 (l.map dBk))), (4, .bs 6 6 3 1), (5, .d (dI i))], [(6, cc (cntL (l.take i)))], []⟩) (fun i => i ≤ l.length ∧ (l.take i).all clsB = true) (fun i => l.length - i) 0 ⟨Nat.zero_le _, rfl⟩
    ⟨rfl, ⟨.refl _, .refl _, .refl _, trivial⟩, ⟨⟨_, rfl, lesC_eq rfl⟩, trivial⟩, trivial, rfl⟩ ?_
  rintro i ⟨hi, h0⟩
  rcases Nat.lt_or_ge i l.length with h | h
  · have u0 : decide ((i : Int) < ((l.map dBk).length : Int)) = true := decide_eq_true (by rw [List.length_map]; omega)
    obtain ⟨⟨x0, x1, x2, x3⟩, hx⟩ : ∃ a, l[i]? = some a := ⟨_, List.getElem?_eq_getElem h⟩
    have ex := ix dBk l i i (x0, x1, x2, x3) rfl hx
    have hw := wrapI ((i : Int) + 1) (by omega)
    have hbad : clsB (x0, x1, x2, x3) = false → r = [] ∧ e = 7 := fun hc => by
      have : l.all clsB = false := by
        rw [← Bool.not_eq_true, List.all_eq_true]
        intro h2
        have := h2 _ (List.mem_of_getElem? hx)
        rw [hc] at this
        cases this
      rw [hr, he, cntR, cntE, this]
      exact ⟨rfl, rfl⟩
    by_cases h1 : x0 < 1
    · obtain ⟨rfl, rfl⟩ := hbad (by unfold clsB; simp; omega)
      have u1 : decide (x0 < 1) = true := decide_eq_true h1
      refine pw_seq (pw_seq (pw_region (yMd rfl (yMd rfl (yN rfl (yB rfl rfl rfl rfl (yQ (q_then ?_)))))))); rw [u0]; refine pw_ct rfl (pw_skip (pw_seq (pw_block (pw_seq (pw_seq (pw_region (yMd rfl (yMd rfl (yW ex (by omega) rfl rfl ?_))))))))); refine yFr rfl rfl (yLr rfl rfl (yB rfl rfl rfl rfl (yMd rfl ?_))); rw [u1]; refine yO rfl (yO rfl (yO rfl (yO rfl (yO rfl (yO rfl (yPd rfl rfl (yQ (pw_ct rfl (pw_seq ?_))))))))); refine pw_region (yR (es := []) rfl rfl rfl rfl rfl (yAd rfl (yAd rfl (yQ (pw_ret (q_then_ret (q_blk_ret (q_then_ret (q_then_ret ?_))))))))); refine q_blk_ret (q_then_ret ?_)
      exact q_ret _ (.tmp rfl (.tmp rfl .nil)) rfl
    have u1 : decide (x0 < 1) = false := decide_eq_false h1
    by_cases h2 : x0 > 6
    · obtain ⟨rfl, rfl⟩ := hbad (by unfold clsB; simp; omega)
      have u2 : decide (x0 > 6) = true := decide_eq_true h2
      refine pw_seq (pw_seq (pw_region (yMd rfl (yMd rfl (yN rfl (yB rfl rfl rfl rfl (yQ (q_then ?_)))))))); rw [u0]; refine pw_ct rfl (pw_skip (pw_seq (pw_block (pw_seq (pw_seq (pw_region (yMd rfl (yMd rfl (yW ex (by omega) rfl rfl ?_))))))))); refine yFr rfl rfl (yLr rfl rfl (yB rfl rfl rfl rfl (yMd rfl ?_))); rw [u1]; refine yMd rfl (yMd rfl (yW ex (by omega) rfl rfl (yFr rfl rfl (yLr rfl rfl (yB rfl rfl rfl rfl (yVd rfl rfl (yQ (q_then ?_)))))))); rw [u2]; refine pw_ct rfl (pw_seq (pw_region (yR (es := []) rfl rfl rfl rfl rfl (yAd rfl (yAd rfl (yQ (pw_ret (q_then_ret (q_blk_ret ?_))))))))); refine q_then_ret (q_then_ret (q_blk_ret (q_then_ret ?_)))
      exact q_ret _ (.tmp rfl (.tmp rfl .nil)) rfl
    have u2 : decide (x0 > 6) = false := decide_eq_false h2
    obtain ⟨c, hc⟩ : ∃ c : Nat, x0 = (c : Int) + 1 := ⟨(x0 - 1).toNat, by omega⟩
    have hc6 : c < 6 := by omega
    have hw2 : IntKind.i64.wrap (x0 - 1) = (c : Int) := by rw [wrapI _ (by omega)]; omega
    have hbd := cnt1_bd (l.take i) c
    rw [List.length_take] at hbd
    have hw3 := wrapI (cnt1 (l.take i) c + 1) (by omega)
    have hat := cc_at (l := l.take i) hc6
    have hset := cc_set (l := l.take i) (x := (x0, x1, x2, x3)) hc6 hc
    have htk : l.take (i + 1) = l.take i ++ [(x0, x1, x2, x3)] := by rw [List.take_add_one, hx]; rfl
    refine pw_seq (pw_seq (pw_region (yMd rfl (yMd rfl (yN rfl (yB rfl rfl rfl rfl (yQ (q_then ?_)))))))); rw [u0]; refine pw_ct rfl (pw_skip (pw_seq (pw_block (pw_seq (pw_seq (pw_region (yMd rfl (yMd rfl (yW ex (by omega) rfl rfl ?_))))))))); refine yFr rfl rfl (yLr rfl rfl (yB rfl rfl rfl rfl (yMd rfl ?_))); rw [u1]; refine yMd rfl (yMd rfl (yW ex (by omega) rfl rfl (yFr rfl rfl (yLr rfl rfl (yB rfl rfl rfl rfl (yVd rfl rfl (yQ (q_then ?_)))))))); rw [u2]; refine pw_cf rfl (pw_skip (pw_region (yMw rfl (yMd rfl (yMd rfl (yW ex (by omega) rfl rfl (yFr rfl rfl (yLr rfl rfl (yB rfl rfl rfl rfl ?_))))))))); rw [hw2]; refine yWb (by omega) (by omega) rfl rfl rfl (yLd rfl rfl hat (yB rfl rfl rfl rfl (yWb (by omega) (by omega) rfl rfl rfl ?_))); rw [hw3]
    refine ySd rfl rfl rfl hset ?_ (by refine Nat.ble_eq_true_of_le ?_; simp [cc, cntL]; omega); refine yQ (pw_region (yMd rfl (yB rfl rfl rfl rfl (yAd rfl (yQ (q_then ?_))))))
    refine ⟨i + 1, ⟨by omega, by rw [htk, List.all_append, h0]; simp [clsB]; omega⟩, by omega, rfl, ⟨.refl _, .refl _, .of_eq (congrArg (fun n => SV.d (dI n)) hw), trivial⟩, ⟨⟨_, rfl, lesC_eq (by rw [htk])⟩, trivial⟩, trivial, by simp [PS.closed, SV.ok, aget, Nat.beq, -List.map_take, -List.map_set]⟩
  · have u0 : decide ((i : Int) < ((l.map dBk).length : Int)) = false := decide_eq_false (by rw [List.length_map]; omega)
    rw [List.take_of_length_le (by omega)] at h0 ⊢
    rw [cntR, h0, if_pos rfl] at hr
    rw [cntE, h0, if_pos rfl] at he
    subst hr he
    have hch := chunk_one dI (cntL l)
    rw [cntL_len] at hch
    refine pw_seq (pw_seq (pw_region (yMd rfl (yMd rfl (yN rfl (yB rfl rfl rfl rfl (yQ (q_then ?_)))))))); rw [u0]; refine pw_cf rfl (pw_exit (pw_seq (pw_region (yMw rfl (yAw rfl (yAd rfl (yQ ?_))))))); refine pw_frz 2 6 (es := (cntL l).map dZ) (ds := (cntL l).map dI) (by simp [cntL_len]) hch (toDs_cc _) rfl rfl ?_
    refine pw_ret ?_
    exact q_ret _ (.tmp rfl (.tmp rfl .nil)) rfl
theorem hld_in {n q : Str} {hs : List Hd} (h : hld n hs = some q) : ∃ x ∈ hs, x.2 = q := by
  induction hs with
  | nil => cases h
  | cons x l ih =>
    rw [hld] at h
    split at h
    · cases h; exact ⟨x, by simp, rfl⟩
    · obtain ⟨y, h1, h2⟩ := ih h
      exact ⟨y, List.mem_cons_of_mem _ h1, h2⟩
theorem hdB_small {h1 h2 : List Hd} {k : Nat} (a : ∀ h ∈ h1, h.2.length ≤ k) (b : ∀ h ∈ h2, h.2.length ≤ k) : ∀ x ∈ hdB h1 h2, x.2.2.1.length ≤ k ∧ x.2.2.2.length ≤ k := by
  intro x hx
  rw [hdB_eq, List.mem_flatMap] at hx
  obtain ⟨n, -, hx⟩ := hx
  have s1 : ∀ q, hld n h1 = some q → q.length ≤ k := fun q hq => by
    obtain ⟨y, h3, rfl⟩ := hld_in hq
    exact a y h3
  have s2 : ∀ q, hld n h2 = some q → q.length ≤ k := fun q hq => by
    obtain ⟨y, h3, rfl⟩ := hld_in hq
    exact b y h3
  unfold hbr at hx
  cases hb : hld n h2 with
  | none =>
    rw [hb] at hx
    obtain rfl := List.mem_singleton.1 hx
    refine ⟨?_, by simp⟩
    cases ha : hld n h1 with
    | none => simp
    | some q => exact s1 q ha
  | some q2 =>
    rw [hb] at hx
    have := s2 q2 hb
    cases ha : hld n h1 with
    | none =>
      rw [ha] at hx
      obtain rfl := List.mem_singleton.1 hx
      exact ⟨by simp, this⟩
    | some q =>
      rw [ha] at hx
      have h4 := s1 q ha
      simp only at hx
      split at hx
      · cases hx
      · obtain rfl := List.mem_singleton.1 hx
        exact ⟨h4, this⟩
set_option maxRecDepth 20000 in
set_option maxHeartbeats 8000000 in
theorem law8 (s t : Stm) (days : Int) (l : List Bk) : PCalls Tryz.prog 8 [.agg (dSt s), .agg (dSt t), dI days, .sl 4 (l.map dBk)] (.d (dB true)) := by
  have c0 := wAwake
  have c1 := wGreat s t
  cases hg : grtS s || grtS t with
  | true =>
    rw [hg] at c1
    obtain ⟨d1, h1, ms⟩ := s
    obtain ⟨d2, h2, ts⟩ := t
    refine pcalls_of_pw Tryz.func8 rfl Tryz.ntmps8 Tryz.results8 (by simp) fun B w0 => ?_
    refine pw_seq (pw_region (yK (cs := [_, _, _]) rfl rfl (yK (cs := [_, _, _]) rfl rfl (yAd rfl (yQ (pw_seq (pw_seq (pw_region (yLa (ys := [_, _, _]) rfl rfl rfl rfl ?_))))))))); refine yLa (ys := [_, _, _]) rfl rfl rfl rfl (yC (c1) rfl rfl (yMd rfl (yO rfl (yO rfl (yO rfl (yPd rfl rfl (yQ (pw_ct rfl (pw_seq ?_))))))))); refine pw_region (yC (c0) rfl rfl (yAd rfl (yQ (pw_ret (q_then_ret ?_)))))
    exact q_ret _ (.tmp rfl .nil) rfl
  | false =>
  rw [hg] at c1
  by_cases hl : l.length > 40
  · have u1 : decide (((l.map dBk).length : Int) > 40) = true := decide_eq_true (by rw [List.length_map]; omega)
    obtain ⟨d1, h1, ms⟩ := s
    obtain ⟨d2, h2, ts⟩ := t
    refine pcalls_of_pw Tryz.func8 rfl Tryz.ntmps8 Tryz.results8 (by simp) fun B w0 => ?_
    refine pw_seq (pw_region (yK (cs := [_, _, _]) rfl rfl (yK (cs := [_, _, _]) rfl rfl (yAd rfl (yQ (pw_seq (pw_seq (pw_region (yLa (ys := [_, _, _]) rfl rfl rfl rfl ?_))))))))); refine yLa (ys := [_, _, _]) rfl rfl rfl rfl (yC (c1) rfl rfl (yMd rfl (yMd rfl (yN rfl (yB rfl rfl rfl rfl (yVd rfl rfl (yQ (q_then ?_)))))))); rw [u1]; refine pw_ct rfl (pw_seq (pw_region (yC (c0) rfl rfl (yAd rfl (yQ (pw_ret (q_then_ret ?_)))))))
    exact q_ret _ (.tmp rfl .nil) rfl
  have u1 : decide (((l.map dBk).length : Int) > 40) = false := decide_eq_false (by rw [List.length_map]; omega)
  rw [Bool.or_eq_false_iff] at hg
  obtain ⟨f1, a1, a2, a3, a4⟩ := fit_of hg.1
  obtain ⟨f2, b1, b2, b3, b4⟩ := fit_of hg.2
  have qm : ∀ {x : Mv}, lngM x = false → x.2.2.2.1.length ≤ 13 := fun h => by simp [lngM] at h; omega
  have qh : ∀ {x : Hd}, lngH x = false → x.2.length ≤ 13 := fun h => by simp [lngH] at h; omega
  have q1 : ∀ m ∈ s.ms, m.2.2.2.1.length ≤ 13 := fun m hm => qm (a4 m hm)
  have q2 : ∀ m ∈ t.ms, m.2.2.2.1.length ≤ 13 := fun m hm => qm (b4 m hm)
  have q3 := hdB_small (h1 := s.hs) (h2 := t.hs) (k := 13) (fun h hh => qh (a3 h hh)) (fun h hh => qh (b3 h hh))
  have c2 := wHoldings s t f1 f2
  have c3 := wRHoldings s t f1 f2
  have c4 := wExplained s t days f1 f2 (fun m hm => by have := q1 m hm; omega) (fun m hm => by have := q2 m hm; omega) (fun b hb => by have := q3 b hb; omega)
  have c5 := wRExplained s t days f1 f2 a2 b2 q1 q2 q3
  have c6 := wCounts l (by omega)
  have c7 := wRCounts l (by omega)
  have hH : (holdR s t).length ≤ 1000000 := by
    unfold holdR
    split
    · have := hdB_len s.hs t.hs
      omega
    · simp
  have hX : (explR s t days).length ≤ 1000000 := by
    unfold explR
    split
    · have := exN_len (hdB s.hs t.hs) (ex2 t.ms (pt2 days s.ms t.ms).2 (ex1 s.ms t.ms (pt2 days s.ms t.ms).1 s.ms.length) t.ms.length) (hdB s.hs t.hs).length
      have := hdB_len s.hs t.hs
      omega
    · simp
  have hC : (cntR l).length ≤ 1000000 := by
    unfold cntR
    split
    · rw [cntL_len]; omega
    · simp
  obtain ⟨H, hH1⟩ : ∃ x, x = holdR s t := ⟨_, rfl⟩
  obtain ⟨X, hX1⟩ : ∃ x, x = explR s t days := ⟨_, rfl⟩
  obtain ⟨C, hC1⟩ : ∃ x, x = cntR l := ⟨_, rfl⟩
  obtain ⟨e1, he1⟩ : ∃ x, x = ckE s t 0 := ⟨_, rfl⟩
  obtain ⟨e2, he2⟩ : ∃ x, x = ckE s t days := ⟨_, rfl⟩
  obtain ⟨e3, he3⟩ : ∃ x, x = cntE l := ⟨_, rfl⟩
  rw [← hH1] at c2 c3 hH
  rw [← hX1] at c4 c5 hX
  rw [← hC1] at c6 c7 hC
  rw [← he1] at c2 c3
  rw [← he2] at c4 c5
  rw [← he3] at c6 c7
  have d1 := wEqB H H hH hH
  have d2 := wEqS X X hX hX
  have d3 := wEqI C C hC hC
  rw [decide_eq_true rfl] at d1 d2 d3
  have v1 : (e1 == e1) = true := beq_self_eq_true _
  have v2 : (e2 == e2) = true := beq_self_eq_true _
  have v3 : (e3 == e3) = true := beq_self_eq_true _
  clear hH1 hX1 hC1 he1 he2 he3 hH hX hC q1 q2 q3 f1 f2
  obtain ⟨d1', h1, ms⟩ := s
  obtain ⟨d2', h2, ts⟩ := t
  refine pcalls_of_pw Tryz.func8 rfl Tryz.ntmps8 Tryz.results8 (by simp) fun B w0 => ?_
  refine pw_seq (pw_region (yK (cs := [_, _, _]) rfl rfl (yK (cs := [_, _, _]) rfl rfl (yAd rfl (yQ (pw_seq (pw_seq (pw_region (yLa (ys := [_, _, _]) rfl rfl rfl rfl ?_))))))))); refine yLa (ys := [_, _, _]) rfl rfl rfl rfl (yC (c1) rfl rfl (yMd rfl (yMd rfl (yN rfl (yB rfl rfl rfl rfl (yVd rfl rfl (yQ (q_then ?_)))))))); rw [u1]; refine pw_cf rfl (pw_skip (pw_seq (pw_region (yLa (ys := [_, _, _]) rfl rfl rfl rfl (yLa (ys := [_, _, _]) rfl rfl rfl rfl (yC (c2) rfl rfl (yMp rfl (yX rfl rfl (yX rfl rfl ?_))))))))); refine yAd rfl (yAd rfl (yQ (pw_seq (pw_region (yLa (ys := [_, _, _]) rfl rfl rfl rfl (yLa (ys := [_, _, _]) rfl rfl rfl rfl (yC (c3) rfl rfl (yMp rfl (yX rfl rfl ?_))))))))); refine yX rfl rfl (yAd rfl (yAd rfl (yQ (pw_seq (pw_region (yLa (ys := [_, _, _]) rfl rfl rfl rfl (yLa (ys := [_, _, _]) rfl rfl rfl rfl (yMd rfl (yC (c4) rfl rfl ?_))))))))); refine yMp rfl (yX rfl rfl (yX rfl rfl (yAd rfl (yAd rfl (yQ (pw_seq (pw_region (yLa (ys := [_, _, _]) rfl rfl rfl rfl (yLa (ys := [_, _, _]) rfl rfl rfl rfl ?_))))))))); refine yMd rfl (yC (c5) rfl rfl (yMp rfl (yX rfl rfl (yX rfl rfl (yAd rfl (yAd rfl (yQ (pw_seq (pw_region ?_))))))))); refine yMd rfl (yC (c6) rfl rfl (yMp rfl (yX rfl rfl (yX rfl rfl (yAd rfl (yAd rfl (yQ (pw_seq (pw_region ?_))))))))); refine yMd rfl (yC (c7) rfl rfl (yMp rfl (yX rfl rfl (yX rfl rfl (yAd rfl (yAd rfl (yQ (pw_seq (pw_region ?_))))))))); refine yMd rfl (yMd rfl (yC (d1) rfl rfl (yMd rfl (yMd rfl (yMd rfl (yB rfl rfl rfl rfl (yPd rfl rfl (yMd rfl ?_)))))))); rw [v1]; refine yMd rfl (yMd rfl (yC (d2) rfl rfl (yPd rfl rfl (yMd rfl (yMd rfl (yMd rfl (yB rfl rfl rfl rfl (yPd rfl rfl (yMd rfl ?_))))))))); rw [v2]; refine yMd rfl (yMd rfl (yC (d3) rfl rfl (yPd rfl rfl (yMd rfl (yMd rfl (yMd rfl (yB rfl rfl rfl rfl (yPd rfl rfl (yMd rfl ?_))))))))); rw [v3]; refine yC (c0) rfl rfl (yPd rfl rfl (yAd rfl (yQ (pw_ret ?_))))
  exact q_ret _ (.tmp rfl .nil) rfl
end Go.Proofs.YtdkpmnefoobipaaGreatDoor
