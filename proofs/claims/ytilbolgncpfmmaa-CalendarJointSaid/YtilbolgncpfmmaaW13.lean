/- Walks of ContainsFunc and IndexFunc at Period, for this seat. -/
import Derived.Test.YtilbolgncpfmmaaW12
import Derived.Test.YtilbolgncpfmmaaPxF
namespace Go.Proofs.Ytilbolgncpfmmaa
open Go.RowKit Px

/-- a function value that is a predicate of periods -/
def prB (p : Int × Int → Bool) (xs : List DV) (r : SV) : Prop := ∃ q, xs = [.agg (dP q)] ∧ r = .d (dB (p q))
/-- what IndexFunc returns -/
def ixF (p : Int × Int → Bool) (ps : List (Int × Int)) : Int := match ps.findIdx? p with | some i => i | none => -1
theorem ixF_at {p : Int × Int → Bool} {ps : List (Int × Int)} {k : Nat} (hk : k < ps.length) (h0 : ∀ j, j < k → p (getP ps j) = false) (h : p (getP ps k) = true) : ixF p ps = k := by
  have e : ps.findIdx? p = some k := by
    rw [List.findIdx?_eq_some_iff_getElem]
    refine ⟨hk, ?_, fun j hj => ?_⟩
    · have := getP_at hk; rw [List.getElem?_eq_getElem hk] at this; rw [Option.some.inj this]; exact h
    · have hj' : j < ps.length := by omega
      have := getP_at hj'; rw [List.getElem?_eq_getElem hj'] at this; rw [Option.some.inj this, h0 j hj]; simp
  rw [ixF, e]
theorem ixF_no {p : Int × Int → Bool} {ps : List (Int × Int)} (h0 : ∀ j, j < ps.length → p (getP ps j) = false) : ixF p ps = -1 := by
  have e : ps.findIdx? p = none := by
    rw [List.findIdx?_eq_none_iff]
    intro x hx
    obtain ⟨j, hj, rfl⟩ := List.getElem_of_mem hx
    have := getP_at hj; rw [List.getElem?_eq_getElem hj] at this; rw [Option.some.inj this]; exact h0 j hj
  rw [ixF, e]
theorem ixF_any (p : Int × Int → Bool) (ps : List (Int × Int)) : decide (ixF p ps ≥ 0) = ps.any p := by
  rw [ixF]
  cases e : ps.findIdx? p with
  | none =>
    rw [List.findIdx?_eq_none_iff] at e
    have : ps.any p = false := by rw [List.any_eq_false]; intro x hx; rw [e x hx]; simp
    rw [this]; rfl
  | some i =>
    rw [List.findIdx?_eq_some_iff_getElem] at e
    obtain ⟨h1, h2, -⟩ := e
    have : ps.any p = true := List.any_eq_true.2 ⟨_, List.getElem_mem h1, h2⟩
    rw [this]; simp

set_option maxRecDepth 20000 in
set_option maxHeartbeats 1000000 in
theorem p91 (ps : List (Int × Int)) (p : Int × Int → Bool) (hl : ps.length ≤ 1000000) : PCalls Try.prog 91 [dPs ps, Px.dF Try.prog (prB p)] (.d (dI (ixF p ps))) := by
  refine pcalls_of_pw Try.func91 rfl Try.ntmps91 Try.results91 (by simp) fun B w0 => ?_
  refine pw_seq ?_; refine pw_region ?_; refine yAd rfl ?_; refine yQ ?_; refine pw_seq ?_; refine pw_seq ?_; refine pw_region ?_; refine yMd rfl ?_; refine yN rfl ?_; refine yMd rfl ?_; refine yQ ?_; refine pw_block ?_
  refine pw_loop (fun k : Nat => ⟨19, [(0, .d (dPs ps)), (1, .d (Px.dF Try.prog (prB p))), (6, .d (dPs ps)), (7, .d (dI ps.length)), (8, .d (dI k))], [], []⟩) (fun k => k ≤ ps.length ∧ ∀ j, j < k → p (getP ps j) = false) (fun k => ps.length - k) 0 ⟨Nat.zero_le _, fun j hj => by omega⟩ ⟨rfl, ⟨.refl _, .refl _, .refl _, .of_eq ?_, .refl _, trivial⟩, trivial, trivial, rfl⟩ ?_
  · exact congrArg (fun n : Nat => SV.d (dI n)) (by simp)
  rintro k ⟨hk, h0⟩
  refine pw_seq ?_; refine pw_region ?_; refine yB rfl rfl rfl rfl ?_; refine yQ ?_; refine pw_seq ?_
  refine pw_cond rfl (fun h => ?_) (fun h => ?_)
  · simp at h
    obtain ⟨⟨x, y⟩, hp⟩ : ∃ p, p = getP ps k := ⟨_, rfl⟩
    have gk := getP_at (ps := ps) (i := k) h
    rw [← hp] at gk
    have ek := ix dP ps k k (x, y) rfl gk
    have hw1 := wrapI ((k : Int) + 1) (by omega)
    cases hb : p (x, y)
    · refine pw_skip ?_; refine pw_seq ?_; refine pw_block ?_; refine pw_seq ?_; refine pw_region ?_; refine yMd rfl ?_; refine yAd rfl ?_; refine yQ ?_; refine pw_seq ?_; refine pw_region ?_; refine yMd rfl ?_; refine yMd rfl ?_
      refine yMd rfl ?_; refine yW ek (by omega) rfl rfl ?_; refine yLs (ys := [_, _]) rfl rfl rfl ?_; refine yCv (r := .d (dB false)) ⟨(x, y), rfl, by rw [hb]⟩ rfl rfl rfl ?_; refine yQ ?_; refine pw_cf rfl ?_; refine pw_skip ?_
      refine pw_region ?_; refine yB rfl rfl rfl rfl ?_; refine yMd rfl ?_; refine yQ ?_; refine q_then ?_
      refine ⟨k + 1, ⟨by omega, fun j hj => ?_⟩, by omega, rfl, ⟨.refl _, .refl _, .refl _, .refl _, .of_eq ?_, trivial⟩, trivial, trivial, rfl⟩
      · by_cases e : j = k
        · subst e; rw [← hp]; exact hb
        · exact h0 j (by omega)
      · exact congrArg (fun n => SV.d (dI n)) (by rw [hw1]; simp)
    · refine pw_skip ?_; refine pw_seq ?_; refine pw_block ?_; refine pw_seq ?_; refine pw_region ?_; refine yMd rfl ?_; refine yAd rfl ?_; refine yQ ?_; refine pw_seq ?_; refine pw_region ?_; refine yMd rfl ?_; refine yMd rfl ?_
      refine yMd rfl ?_; refine yW ek (by omega) rfl rfl ?_; refine yLs (ys := [_, _]) rfl rfl rfl ?_; refine yCv (r := .d (dB true)) ⟨(x, y), rfl, by rw [hb]⟩ rfl rfl rfl ?_; refine yQ ?_; refine pw_ct rfl ?_; refine pw_seq ?_
      refine pw_region ?_; refine yMd rfl ?_; refine yAd rfl ?_; refine yQ ?_; refine pw_ret ?_; refine q_blk_ret ?_; refine q_then_ret ?_; refine q_then_ret ?_; refine q_blk_ret ?_; refine q_then_ret ?_
      exact q_ret _ (.tmp rfl .nil) (congrArg (fun n => SV.d (dI n)) (ixF_at h h0 (by rw [← hp]; exact hb)))
  · refine pw_exit ?_; refine pw_seq ?_; refine pw_region ?_; refine yAd rfl ?_; refine yQ ?_; refine pw_ret ?_
    have e := ixF_no (p := p) (ps := ps) fun j hj => h0 j (by simp at h; omega)
    rw [e]
    exact q_ret _ (.tmp rfl .nil) rfl
set_option maxRecDepth 20000 in
set_option maxHeartbeats 1000000 in
theorem p47 (ps : List (Int × Int)) (p : Int × Int → Bool) (hl : ps.length ≤ 1000000) : PCalls Try.prog 47 [dPs ps, Px.dF Try.prog (prB p)] (.d (dB (ps.any p))) := by
  have c1 := p91 ps p hl
  rw [← ixF_any]
  obtain ⟨n, hn⟩ : ∃ n, n = ixF p ps := ⟨_, rfl⟩
  rw [← hn] at c1 ⊢
  refine pcalls_of_pw Try.func47 rfl Try.ntmps47 Try.results47 (by simp) fun B w0 => ?_
  refine pw_seq ?_; refine pw_region ?_; refine yAd rfl ?_; refine yQ ?_; refine pw_seq ?_; refine pw_region ?_; refine yMd rfl ?_; refine yMd rfl ?_; refine yC (c1) rfl rfl ?_; refine yB rfl rfl rfl rfl ?_; refine yAd rfl ?_
  refine yQ ?_; refine pw_ret ?_
  exact q_ret _ (.tmp rfl .nil) rfl
set_option maxRecDepth 20000 in
theorem p48 (q x : Int × Int) : PCalls Try.prog 48 [.agg (dP q), .ref (dP x)] (.d (dB (q.2 == x.2))) := by
  refine pcalls_of_pw Try.func48 rfl Try.ntmps48 Try.results48 (by simp) fun B w0 => ?_
  refine pw_ref 1 rfl ?_
  refine pw_seq ?_; refine pw_region ?_; refine yK (cs := [_, _]) rfl rfl ?_; refine yAd rfl ?_; refine yQ ?_; refine pw_seq ?_; refine pw_region ?_; refine yFb rfl ?_; refine yLd rfl rfl rfl ?_; refine yFr rfl rfl ?_
  refine yLr rfl rfl ?_; refine yB rfl rfl rfl rfl ?_; refine yAd rfl ?_; refine yQ ?_; refine pw_ret ?_
  exact q_ret _ (.tmp rfl .nil) rfl
set_option maxRecDepth 20000 in
theorem p49 (q x : Int × Int) : PCalls Try.prog 49 [.agg (dP q), .ref (dP x)] (.d (dB (q.1 == x.1))) := by
  refine pcalls_of_pw Try.func49 rfl Try.ntmps49 Try.results49 (by simp) fun B w0 => ?_
  refine pw_ref 1 rfl ?_
  refine pw_seq ?_; refine pw_region ?_; refine yK (cs := [_, _]) rfl rfl ?_; refine yAd rfl ?_; refine yQ ?_; refine pw_seq ?_; refine pw_region ?_; refine yFb rfl ?_; refine yLd rfl rfl rfl ?_; refine yFr rfl rfl ?_
  refine yLr rfl rfl ?_; refine yB rfl rfl rfl rfl ?_; refine yAd rfl ?_; refine yQ ?_; refine pw_ret ?_
  exact q_ret _ (.tmp rfl .nil) rfl
end Go.Proofs.Ytilbolgncpfmmaa
