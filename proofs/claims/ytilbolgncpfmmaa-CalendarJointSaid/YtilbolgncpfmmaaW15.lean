/- Walks of sort.Search and first, for this seat. -/
import Derived.Test.YtilbolgncpfmmaaW13
namespace Go.Proofs.Ytilbolgncpfmmaa
open Go.RowKit Px

/-- a function value that is a predicate of the numbers below n -/
def srB (p : Nat → Bool) (n : Nat) (xs : List DV) (r : SV) : Prop := ∃ i : Nat, i < n ∧ xs = [dI i] ∧ r = .d (dB (p i))

set_option maxRecDepth 20000 in
set_option maxHeartbeats 1000000 in
theorem p118 (p : Nat → Bool) (n k : Nat) (hn : n ≤ 1000000) (hk : k ≤ n) (h0 : ∀ i, i < k → p i = false) (h1 : ∀ i, k ≤ i → i < n → p i = true) : PCalls Try.prog 118 [dI n, Px.dF Try.prog (srB p n)] (.d (dI k)) := by
  refine pcalls_of_pw Try.func118 rfl Try.ntmps118 Try.results118 (by simp) fun B w0 => ?_
  refine pw_seq ?_; refine pw_region ?_; refine yAd rfl ?_; refine yQ ?_; refine pw_seq ?_; refine pw_region ?_; refine yMd rfl ?_; refine yAd rfl ?_; refine yAd rfl ?_; refine yQ ?_; refine pw_seq ?_; refine pw_block ?_
  refine pw_loop (fun q : Nat × Nat => ⟨26, [(1, .d (Px.dF Try.prog (srB p n))), (5, .d (dI q.1)), (6, .d (dI q.2))], [], []⟩) (fun q => q.1 ≤ k ∧ k ≤ q.2 ∧ q.2 ≤ n) (fun q => q.2 - q.1) (0, n) ⟨Nat.zero_le _, hk, Nat.le_refl _⟩ ⟨rfl, ⟨.refl _, .refl _, .refl _, trivial⟩, trivial, trivial, rfl⟩ ?_
  rintro ⟨i, j⟩ ⟨hi, hj, hjn⟩
  refine pw_seq ?_; refine pw_seq ?_; refine pw_region ?_; refine yMd rfl ?_; refine yMd rfl ?_; refine yB rfl rfl rfl rfl ?_; refine yQ ?_; refine q_then ?_
  refine pw_cond rfl (fun h => ?_) (fun h => ?_)
  · simp at h
    simp at hi hj hjn
    obtain ⟨c, hc⟩ : ∃ c, c = (i + j) / 2 := ⟨_, rfl⟩
    have hmid : IntKind.i64.wrap ((IntKind.u64.wrap (IntKind.i64.wrap ((((i, j) : Nat × Nat).1 : Int) + (((i, j) : Nat × Nat).2 : Int)))).fdiv (2 ^ min (Int.toNat 1) IntKind.u64.bits)) = (c : Nat) := by
      show IntKind.i64.wrap ((IntKind.u64.wrap (IntKind.i64.wrap ((i : Int) + (j : Int)))).fdiv (2 ^ min (Int.toNat 1) IntKind.u64.bits)) = (c : Nat)
      rw [wrapI ((i : Int) + j) (by omega), IntWalk.u64_in ((i : Int) + j) (by omega), show (2 ^ min (Int.toNat 1) IntKind.u64.bits : Int) = 2 from by decide, Int.fdiv_eq_ediv_of_nonneg _ (by omega), wrapI _ (by omega), hc]
      simp
    have hw := wrapI ((c : Int) + 1) (by omega)
    refine pw_skip ?_; refine pw_block ?_; refine pw_seq ?_; refine pw_region ?_; refine yMd rfl ?_; refine yMd rfl ?_; refine yB rfl rfl rfl rfl ?_; refine yJ rfl ?_; refine yB rfl rfl rfl rfl ?_; refine yJ rfl ?_; refine yAd rfl ?_
    refine yQ ?_; refine pw_seq ?_; refine pw_region ?_; refine yMd rfl ?_; refine yMd rfl ?_
    rw [hmid]
    cases hb : p c
    · refine yCv (r := .d (dB false)) ⟨c, by omega, rfl, by rw [hb]⟩ rfl rfl rfl ?_; refine yU rfl rfl rfl ?_; refine yQ ?_; refine pw_ct rfl ?_; refine pw_region ?_; refine yMd rfl ?_; refine yB rfl rfl rfl rfl ?_; refine yAd rfl ?_
      refine yQ ?_; refine q_blk ?_; refine q_then ?_
      have hck : c < k := by
        rcases Nat.lt_or_ge c k with h5 | h5
        · exact h5
        · rw [h1 c h5 (by omega)] at hb; cases hb
      refine ⟨(c + 1, j), ⟨by simp; omega, by simp; omega, by simp; omega⟩, by simp; omega, rfl, ⟨.refl _, .of_eq ?_, .refl _, trivial⟩, trivial, trivial, rfl⟩
      exact congrArg (fun n => SV.d (dI n)) (by rw [hw]; simp)
    · refine yCv (r := .d (dB true)) ⟨c, by omega, rfl, by rw [hb]⟩ rfl rfl rfl ?_; refine yU rfl rfl rfl ?_; refine yQ ?_; refine pw_cf rfl ?_; refine pw_region ?_; refine yMd rfl ?_; refine yAd rfl ?_; refine yQ ?_; refine q_blk ?_
      refine q_then ?_
      have hck : k ≤ c := by
        rcases Nat.lt_or_ge c k with h5 | h5
        · rw [h0 c h5] at hb; cases hb
        · exact h5
      exact ⟨(i, c), ⟨by simp; omega, by simp; omega, by simp; omega⟩, by simp; omega, rfl, ⟨.refl _, .refl _, .refl _, trivial⟩, trivial, trivial, rfl⟩
  · refine pw_exit ?_; refine pw_seq ?_; refine pw_region ?_; refine yMd rfl ?_; refine yAd rfl ?_; refine yQ ?_; refine pw_ret ?_
    simp at h
    obtain rfl : i = k := by simp at hi hj; omega
    exact q_ret _ (.tmp rfl .nil) rfl
set_option maxRecDepth 20000 in
theorem p119 (p : Int × Int → Bool) (ps : List (Int × Int)) (i : Nat) (hi : i < ps.length) : PCalls Try.prog 119 [dI i, .ref [Px.dF Try.prog (prB p)], .ref [dPs ps]] (.d (dB (p (getP ps i)))) := by
  obtain ⟨⟨x, y⟩, hp⟩ : ∃ p, p = getP ps i := ⟨_, rfl⟩
  have gi := getP_at (ps := ps) (i := i) hi
  rw [← hp] at gi ⊢
  have ei := ix dP ps i i (x, y) rfl gi
  obtain ⟨b, hb⟩ : ∃ b, b = p (x, y) := ⟨_, rfl⟩
  rw [← hb]
  refine pcalls_of_pw Try.func119 rfl Try.ntmps119 Try.results119 (by simp) fun B w0 => ?_
  refine pw_ref 1 rfl ?_
  refine pw_ref 2 rfl ?_
  refine pw_seq ?_; refine pw_region ?_; refine yAd rfl ?_; refine yQ ?_; refine pw_seq ?_; refine pw_draw Try.mixed (by kernel_rfl) ?_; refine yLr rfl rfl ?_; refine yLr rfl rfl ?_; refine yMd rfl ?_
  refine yW ei (by omega) rfl rfl ?_; refine yLs (ys := [_, _]) rfl rfl rfl ?_; refine yCv (r := .d (dB b)) ⟨(x, y), rfl, by rw [hb]⟩ rfl rfl rfl ?_; refine yAd rfl ?_; refine yQ ?_; refine pw_ret ?_
  exact q_ret _ (.tmp rfl .nil) rfl
set_option maxRecDepth 20000 in
theorem p93 (p : Int × Int → Bool) (ps : List (Int × Int)) (k : Nat) (hn : ps.length ≤ 1000000) (hk : k ≤ ps.length) (h0 : ∀ i, i < k → p (getP ps i) = false) (h1 : ∀ i, k ≤ i → i < ps.length → p (getP ps i) = true) : PCalls Try.prog 93 [dPs ps, Px.dF Try.prog (prB p)] (.tup [dI k, dB (decide (k < ps.length))]) := by
  have c1 : PCalls Try.prog 118 [dI (ps.map dP).length, Px.dF Try.prog (srB (fun i => p (getP ps i)) ps.length)] (.d (dI k)) := by rw [List.length_map]; exact p118 (fun i => p (getP ps i)) ps.length k hn hk h0 h1
  have f1 : ∀ xs r, srB (fun i => p (getP ps i)) ps.length xs r → PCalls Try.prog 119 (xs ++ [[Px.dF Try.prog (prB p)], [dPs ps]].map .ref) r := by rintro _ _ ⟨i, hi, rfl, rfl⟩; exact p119 p ps i hi
  refine pcalls_of_pw Try.func93 rfl Try.ntmps93 Try.results93 (by simp) fun B w0 => ?_
  refine pw_seq ?_; refine pw_region ?_; refine yK (cs := [_]) rfl rfl ?_; refine yK (cs := [_]) rfl rfl ?_; refine yAd rfl ?_; refine yAd rfl ?_; refine yQ ?_; refine pw_seq ?_; refine pw_region ?_; refine yLd rfl rfl rfl ?_
  refine yN rfl ?_; refine yCm rfl ?_; refine yCf c1 (.d rfl (.fn inferInstance rfl rfl f1 .nil)) rfl ?_; refine yAd rfl ?_; refine yQ ?_; refine pw_seq ?_; refine pw_draw Try.mixed (by kernel_rfl) ?_; refine yMd rfl ?_
  refine yMd rfl ?_; refine yLd rfl rfl rfl ?_; refine yN rfl ?_; refine yB rfl rfl rfl rfl ?_; refine yAd rfl ?_; refine yAd rfl ?_; refine yQ ?_; refine pw_ret ?_
  refine q_ret _ (.tmp rfl (.tmp rfl .nil)) ?_
  simp
  rfl
end Go.Proofs.Ytilbolgncpfmmaa
