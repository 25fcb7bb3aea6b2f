/- Walk: the law on the order of terms. -/
import Derived.Test.YtmfeinilbjfnpaaGreatDoorB6
namespace Go.Proofs.YtmfeinilbjfnpaaGreatDoor
open Go.RowKit Px

namespace Px
section
variable {P : Program} {sq : Bool} {ops : Array Oper} {K : PS → Prop} {rest : List Oper} {st : PS} {d : Option Nat} {ty : TypeId} {pos : String} {af : Array Edge} {gd : Option (Nat × Bool)}
end
end Px
theorem manyB_small {L : List Cf} (h : manyB L = false) : L.length ≤ 12 ∧ ∀ c ∈ L, c.1.length ≤ 20 ∧ c.2.length ≤ 20 := by
  unfold manyB at h
  simp only [Bool.or_eq_false_iff, decide_eq_false_iff_not, List.any_eq_false] at h
  refine ⟨by omega, fun c hc => ?_⟩
  have := h.2 c hc
  unfold bigC at this
  simp only [Bool.or_eq_true, decide_eq_true_eq, not_or] at this
  omega
end Go.Proofs.YtmfeinilbjfnpaaGreatDoor
namespace Go.Proofs.YtmfeinilbjfnpaaGreatDoor
open Go.RowKit Px

theorem evOK_mem {e L : List Cf} (h : evOK (nf e) L = true) {k : Str} (hk : cf k e ≠ 0) : inL L k = true :=
  List.all_eq_true.1 h (k, canon (cf k e)) ((nf_mem e (k, canon (cf k e))).2 ⟨hk, rfl⟩)
theorem evOK_of {e L : List Cf} (h : ∀ k, cf k e ≠ 0 → inL L k = true) : evOK (nf e) L = true :=
  List.all_eq_true.2 fun c hc => h c.1 ((nf_mem e c).1 hc).1
theorem evE_zero {e L : List Cf} : evE e L = 0 ↔ chE e = 0 ∧ amE L = 0 ∧ evOK (nf e) L = true := by
  unfold evE
  by_cases h1 : chE e = 0
  · by_cases h2 : amE L = 0
    · cases h3 : evOK (nf e) L <;> simp [h1, h2]
    · simp [h1, h2]
  · simp [h1]
theorem evV_eq {e L : List Cf} (h : evE e L = 0) : evV e L = canon (evA (aL L) e) := by rw [evV, if_pos h, evA_nf]
theorem evV_len {e L : List Cf} {B C n : Nat} (h : evE e L = 0) (he : ∀ c ∈ e, c.2.length ≤ B) (hL : ∀ c ∈ L, c.2.length ≤ C) (hn : B + 2 * e.length + C + 1 + 2 * e.length ≤ n) : (evV e L).length ≤ n := by
  have h1 := evA_len (n := nf e) (B := B + 2 * e.length) (fun c hc => nf_flen he hc) hL (nf e).length
  have h2 := nf_len e
  rw [List.take_length] at h1
  rw [evV, if_pos h]
  omega
theorem lin_add {a b L : List Cf} (ha : evE a L = 0) (hb : evE b L = 0) (h : adE a b = 0) : evE (nf (a ++ b)) L = 0 ∧ evV (nf (a ++ b)) L = canon (val (evV a L) + val (evV b L)) := by
  obtain ⟨a1, a2, a3⟩ := evE_zero.1 ha
  obtain ⟨b1, -, b3⟩ := evE_zero.1 hb
  obtain ⟨-, -, h3⟩ := adE_zero.1 h
  have hc : chE (nf (a ++ b)) = 0 := chE_nf (names_app (chE_names a1) (chE_names b1)) h3
  have he : evE (nf (a ++ b)) L = 0 := evE_zero.2 ⟨hc, a2, by
    rw [nf_nf]
    refine evOK_of fun k hk => ?_
    rw [cf, evA_append] at hk
    by_cases h4 : cf k a = 0
    · exact evOK_mem b3 (k := k) fun h5 => hk (by show cf k a + cf k b = 0; rw [h4, h5]; rfl)
    · exact evOK_mem a3 h4⟩
  refine ⟨he, ?_⟩
  rw [evV_eq he, evV_eq ha, evV_eq hb, val_canon, val_canon, evA_nf, evA_append]
theorem lin_scl {a L : List Cf} {n : Str} (ha : evE a L = 0) : evE (nf (scl n a)) L = 0 ∧ evV (nf (scl n a)) L = canon (val (evV a L) * val n) := by
  obtain ⟨a1, a2, a3⟩ := evE_zero.1 ha
  have hl : (nf (scl n a)).length ≤ 16 := by
    have h1 := nf_len (scl n a)
    have h2 : (scl n a).length = a.length := List.length_map _
    have := chE_len a1
    omega
  have hc : chE (nf (scl n a)) = 0 := chE_nf (scl_names (chE_names a1)) hl
  have he : evE (nf (scl n a)) L = 0 := evE_zero.2 ⟨hc, a2, by
    rw [nf_nf]
    refine evOK_of fun k hk => evOK_mem a3 (k := k) fun h5 => hk ?_
    have : cf k (scl n a) = cf k a * val n := evA_scale _ _ _
    rw [this, h5, Int.zero_mul]⟩
  refine ⟨he, ?_⟩
  rw [evV_eq he, evV_eq ha, val_canon, evA_nf]
  exact congrArg canon (evA_scale _ _ _)
set_option maxRecDepth 20000 in
set_option maxHeartbeats 8000000 in
theorem lawLin (a b : List Cf) (n : Str) (L : List Cf) : PCalls Tryz.prog 6 [.sl 2 (a.map dCf), .sl 2 (b.map dCf), dS n, .sl 2 (L.map dCf)] (.d (dB true)) := by
  have k0 := wAwake
  have k1 := wGreatE [a, b] (by simp)
  simp only [List.map_cons, List.map_nil] at k1
  have k2 := wMany L
  cases hg : [a, b].any bigE with
  | true =>
    rw [hg] at k1
    refine pcalls_of_pw Tryz.func6 rfl Tryz.ntmps6 Tryz.results6 (by simp) fun B w0 => ?_
    refine pw_seq ?_; refine pw_region ?_; refine yAd rfl ?_; refine yQ ?_; refine pw_seq ?_; refine pw_seq ?_; refine pw_region ?_; refine yMd rfl ?_; refine yMd rfl ?_; refine yR (es := [[_], [_]]) rfl rfl rfl rfl rfl ?_
    refine yC (k1) rfl rfl ?_; refine yMd rfl ?_; refine yO rfl ?_; refine yO rfl ?_; refine yPd rfl rfl ?_; refine yMd rfl ?_; refine yO rfl ?_; refine yO rfl ?_; refine yO rfl ?_; refine yPd rfl rfl ?_; refine yQ ?_
    refine pw_ct rfl ?_; refine pw_seq ?_; refine pw_region ?_; refine yC (k0) rfl rfl ?_; refine yAd rfl ?_; refine yQ ?_; refine pw_ret ?_; refine q_then_ret ?_
    exact q_ret _ (.tmp rfl .nil) rfl
  | false =>
  rw [hg] at k1
  simp only [List.any_cons, List.any_nil, Bool.or_eq_false_iff] at hg
  obtain ⟨g1, g2, -⟩ := hg
  obtain ⟨a1, -, a2⟩ := bigE_small g1
  obtain ⟨b1, -, b2⟩ := bigE_small g2
  cases hm : manyB L with
  | true =>
    rw [hm] at k2
    refine pcalls_of_pw Tryz.func6 rfl Tryz.ntmps6 Tryz.results6 (by simp) fun B w0 => ?_
    refine pw_seq ?_; refine pw_region ?_; refine yAd rfl ?_; refine yQ ?_; refine pw_seq ?_; refine pw_seq ?_; refine pw_region ?_; refine yMd rfl ?_; refine yMd rfl ?_; refine yR (es := [[_], [_]]) rfl rfl rfl rfl rfl ?_
    refine yC (k1) rfl rfl ?_; refine yMd rfl ?_; refine yMd rfl ?_; refine yC (k2) rfl rfl ?_; refine yVd rfl rfl ?_; refine yMd rfl ?_; refine yO rfl ?_; refine yO rfl ?_; refine yO rfl ?_; refine yPd rfl rfl ?_; refine yQ ?_
    refine pw_ct rfl ?_; refine pw_seq ?_; refine pw_region ?_; refine yC (k0) rfl rfl ?_; refine yAd rfl ?_; refine yQ ?_; refine pw_ret ?_; refine q_then_ret ?_
    exact q_ret _ (.tmp rfl .nil) rfl
  | false =>
  rw [hm] at k2
  obtain ⟨l1, l2⟩ := manyB_small hm
  by_cases hn : 20 < n.length
  · have t0 : decide ((n.length : Int) > 20) = true := decide_eq_true (by omega)
    refine pcalls_of_pw Tryz.func6 rfl Tryz.ntmps6 Tryz.results6 (by simp) fun B w0 => ?_
    refine pw_seq ?_; refine pw_region ?_; refine yAd rfl ?_; refine yQ ?_; refine pw_seq ?_; refine pw_seq ?_; refine pw_region ?_; refine yMd rfl ?_; refine yMd rfl ?_; refine yR (es := [[_], [_]]) rfl rfl rfl rfl rfl ?_
    refine yC (k1) rfl rfl ?_; refine yMd rfl ?_; refine yMd rfl ?_; refine yC (k2) rfl rfl ?_; refine yVd rfl rfl ?_; refine yMd rfl ?_; refine yMd rfl ?_; refine yNs rfl ?_; refine yB rfl rfl rfl rfl ?_; refine yVd rfl rfl ?_
    refine yQ ?_; refine q_then ?_; rw [t0]; refine pw_ct rfl ?_; refine pw_seq ?_; refine pw_region ?_; refine yC (k0) rfl rfl ?_; refine yAd rfl ?_; refine yQ ?_; refine pw_ret ?_; refine q_then_ret ?_
    exact q_ret _ (.tmp rfl .nil) rfl
  have t0 : decide ((n.length : Int) > 20) = false := decide_eq_false (by omega)
  have ha : ∀ c ∈ a, c.2.length ≤ 20 := fun c hc => (a2 c hc).2
  have hb : ∀ c ∈ b, c.2.length ≤ 20 := fun c hc => (b2 c hc).2
  have hL : ∀ c ∈ L, c.2.length ≤ 20 := fun c hc => (l2 c hc).2
  have ha4 : ∀ c ∈ a, c.2.length ≤ 400 := fun c hc => by have := ha c hc; omega
  have hb4 : ∀ c ∈ b, c.2.length ≤ 400 := fun c hc => by have := hb c hc; omega
  have hL4 : ∀ c ∈ L, c.2.length ≤ 400 := fun c hc => by have := hL c hc; omega
  have k3 := wEval a L (by omega) ha4 (by omega) hL4
  have k4 := wEval b L (by omega) hb4 (by omega) hL4
  by_cases e1 : evE a L = 0
  rotate_left
  · have t1 : (evE a L != 0) = true := by simpa using e1
    obtain ⟨x, hx⟩ : ∃ x, x = evE a L := ⟨_, rfl⟩
    obtain ⟨y, hy⟩ : ∃ x, x = evE b L := ⟨_, rfl⟩
    obtain ⟨u, hu⟩ : ∃ x, x = evV a L := ⟨_, rfl⟩
    obtain ⟨v, hv⟩ : ∃ x, x = evV b L := ⟨_, rfl⟩
    rw [← hx] at k3 t1
    rw [← hu] at k3
    rw [← hy, ← hv] at k4
    refine pcalls_of_pw Tryz.func6 rfl Tryz.ntmps6 Tryz.results6 (by simp) fun B w0 => ?_
    refine pw_seq ?_; refine pw_region ?_; refine yAd rfl ?_; refine yQ ?_; refine pw_seq ?_; refine pw_seq ?_; refine pw_region ?_; refine yMd rfl ?_; refine yMd rfl ?_; refine yR (es := [[_], [_]]) rfl rfl rfl rfl rfl ?_
    refine yC (k1) rfl rfl ?_; refine yMd rfl ?_; refine yMd rfl ?_; refine yC (k2) rfl rfl ?_; refine yVd rfl rfl ?_; refine yMd rfl ?_; refine yMd rfl ?_; refine yNs rfl ?_; refine yB rfl rfl rfl rfl ?_; refine yVd rfl rfl ?_
    refine yQ ?_; refine q_then ?_; rw [t0]; refine pw_cf rfl ?_; refine pw_skip ?_; refine pw_seq ?_; refine pw_region ?_; refine yMd rfl ?_; refine yMd rfl ?_; refine yC (k3) rfl rfl ?_; refine yMp rfl ?_; refine yX rfl rfl ?_
    refine yX rfl rfl ?_; refine yAd rfl ?_; refine yAd rfl ?_; refine yQ ?_; refine pw_seq ?_; refine pw_region ?_; refine yMd rfl ?_; refine yMd rfl ?_; refine yC (k4) rfl rfl ?_; refine yMp rfl ?_; refine yX rfl rfl ?_
    refine yX rfl rfl ?_; refine yAd rfl ?_; refine yAd rfl ?_; refine yQ ?_; refine pw_seq ?_; refine pw_seq ?_; refine pw_region ?_; refine yMd rfl ?_; refine yB rfl rfl rfl rfl ?_; refine yMd rfl ?_; rw [t1]; refine yO rfl ?_
    refine yO rfl ?_; refine yPd rfl rfl ?_; refine yQ ?_; refine pw_ct rfl ?_; refine pw_seq ?_; refine pw_region ?_; refine yC (k0) rfl rfl ?_; refine yAd rfl ?_; refine yQ ?_; refine pw_ret ?_; refine q_then_ret ?_
    exact q_ret _ (.tmp rfl .nil) rfl
  by_cases e2 : evE b L = 0
  rotate_left
  · have t1 : (evE b L != 0) = true := by simpa using e2
    rw [e1] at k3
    obtain ⟨y, hy⟩ : ∃ x, x = evE b L := ⟨_, rfl⟩
    obtain ⟨u, hu⟩ : ∃ x, x = evV a L := ⟨_, rfl⟩
    obtain ⟨v, hv⟩ : ∃ x, x = evV b L := ⟨_, rfl⟩
    rw [← hu] at k3
    rw [← hy] at k4 t1
    rw [← hv] at k4
    refine pcalls_of_pw Tryz.func6 rfl Tryz.ntmps6 Tryz.results6 (by simp) fun B w0 => ?_
    refine pw_seq ?_; refine pw_region ?_; refine yAd rfl ?_; refine yQ ?_; refine pw_seq ?_; refine pw_seq ?_; refine pw_region ?_; refine yMd rfl ?_; refine yMd rfl ?_; refine yR (es := [[_], [_]]) rfl rfl rfl rfl rfl ?_
    refine yC (k1) rfl rfl ?_; refine yMd rfl ?_; refine yMd rfl ?_; refine yC (k2) rfl rfl ?_; refine yVd rfl rfl ?_; refine yMd rfl ?_; refine yMd rfl ?_; refine yNs rfl ?_; refine yB rfl rfl rfl rfl ?_; refine yVd rfl rfl ?_
    refine yQ ?_; refine q_then ?_; rw [t0]; refine pw_cf rfl ?_; refine pw_skip ?_; refine pw_seq ?_; refine pw_region ?_; refine yMd rfl ?_; refine yMd rfl ?_; refine yC (k3) rfl rfl ?_; refine yMp rfl ?_; refine yX rfl rfl ?_
    refine yX rfl rfl ?_; refine yAd rfl ?_; refine yAd rfl ?_; refine yQ ?_; refine pw_seq ?_; refine pw_region ?_; refine yMd rfl ?_; refine yMd rfl ?_; refine yC (k4) rfl rfl ?_; refine yMp rfl ?_; refine yX rfl rfl ?_
    refine yX rfl rfl ?_; refine yAd rfl ?_; refine yAd rfl ?_; refine yQ ?_; refine pw_seq ?_; refine pw_seq ?_; refine pw_region ?_; refine yMd rfl ?_; refine yB rfl rfl rfl rfl ?_; refine yMd rfl ?_; refine yMd rfl ?_
    refine yB rfl rfl rfl rfl ?_; refine yVd rfl rfl ?_; refine yQ ?_; refine q_then ?_; rw [t1]; refine pw_ct rfl ?_; refine pw_seq ?_; refine pw_region ?_; refine yC (k0) rfl rfl ?_; refine yAd rfl ?_; refine yQ ?_; refine pw_ret ?_
    refine q_then_ret ?_
    exact q_ret _ (.tmp rfl .nil) rfl
  rw [e1] at k3
  rw [e2] at k4
  obtain ⟨c1, c2, -⟩ := evE_zero.1 e1
  obtain ⟨d1, -, -⟩ := evE_zero.1 e2
  have al := chE_len c1
  have bl := chE_len d1
  have k5 := wAddE a b (by omega) (by omega) (fun c hc => by have := ha c hc; omega) (fun c hc => by have := hb c hc; omega)
  have k6 := wScale a n (by omega) ha4 (by omega)
  have k7 := wCheck n (by omega)
  have hvl := evV_len e1 ha hL (n := 200) (by omega)
  have hvm := evV_len e2 hb hL (n := 200) (by omega)
  have e3 : adE a b = if 16 < (nf (a ++ b)).length then 4 else 0 := by rw [adE, if_neg (fun h => h c1), if_neg (fun h => h d1)]
  have e4 : scE a n = if isC n then 0 else 1 := by rw [scE, if_neg (fun h => h c1)]
  have hab : ∀ c ∈ a ++ b, c.2.length ≤ 20 := app_len ha hb
  have hsl : ∀ c ∈ scl n a, c.2.length ≤ 50 := fun c hc => by
    obtain ⟨q, hq, rfl⟩ := List.mem_map.1 hc
    have := mul_len (ha q hq) (show n.length ≤ 20 by omega)
    show (canon (val q.2 * val n)).length ≤ 50
    omega
  have hscl : (scl n a).length = a.length := List.length_map _
  have hnl := nf_len (scl n a)
  rw [adR] at k5
  rw [scR] at k6
  by_cases h3 : 16 < (nf (a ++ b)).length
  · rw [if_pos h3] at e3
    rw [e3, if_neg (by decide), List.map_nil] at k5
    cases h4 : isC n with
    | true =>
      rw [h4, if_pos rfl] at e4
      rw [e4, if_pos rfl] at k6
      rw [h4] at k7
      obtain ⟨D, hD⟩ : ∃ D, D = (nf (scl n a)).map dCf := ⟨_, rfl⟩
      obtain ⟨u, hu⟩ : ∃ x, x = evV a L := ⟨_, rfl⟩
      obtain ⟨v, hv⟩ : ∃ x, x = evV b L := ⟨_, rfl⟩
      rw [← hD] at k6
      rw [← hu] at k3
      rw [← hv] at k4
      refine pcalls_of_pw Tryz.func6 rfl Tryz.ntmps6 Tryz.results6 (by simp) fun B w0 => ?_
      refine pw_seq ?_; refine pw_region ?_; refine yAd rfl ?_; refine yQ ?_; refine pw_seq ?_; refine pw_seq ?_; refine pw_region ?_; refine yMd rfl ?_; refine yMd rfl ?_; refine yR (es := [[_], [_]]) rfl rfl rfl rfl rfl ?_
      refine yC (k1) rfl rfl ?_; refine yMd rfl ?_; refine yMd rfl ?_; refine yC (k2) rfl rfl ?_; refine yVd rfl rfl ?_; refine yMd rfl ?_; refine yMd rfl ?_; refine yNs rfl ?_; refine yB rfl rfl rfl rfl ?_; refine yVd rfl rfl ?_
      refine yQ ?_; refine q_then ?_; rw [t0]; refine pw_cf rfl ?_; refine pw_skip ?_; refine pw_seq ?_; refine pw_region ?_; refine yMd rfl ?_; refine yMd rfl ?_; refine yC (k3) rfl rfl ?_; refine yMp rfl ?_; refine yX rfl rfl ?_
      refine yX rfl rfl ?_; refine yAd rfl ?_; refine yAd rfl ?_; refine yQ ?_; refine pw_seq ?_; refine pw_region ?_; refine yMd rfl ?_; refine yMd rfl ?_; refine yC (k4) rfl rfl ?_; refine yMp rfl ?_; refine yX rfl rfl ?_
      refine yX rfl rfl ?_; refine yAd rfl ?_; refine yAd rfl ?_; refine yQ ?_; refine pw_seq ?_; refine pw_seq ?_; refine pw_region ?_; refine yMd rfl ?_; refine yB rfl rfl rfl rfl ?_; refine yMd rfl ?_; refine yMd rfl ?_
      refine yB rfl rfl rfl rfl ?_; refine yVd rfl rfl ?_; refine yQ ?_; refine pw_cf rfl ?_; refine pw_skip ?_; refine pw_seq ?_; refine pw_region ?_; refine yMd rfl ?_; refine yMd rfl ?_; refine yC (k5) rfl rfl ?_; refine yMp rfl ?_
      refine yX rfl rfl ?_; refine yX rfl rfl ?_; refine yAd rfl ?_; refine yAd rfl ?_; refine yQ ?_; refine pw_seq ?_; refine pw_region ?_; refine yMd rfl ?_; refine yMd rfl ?_; refine yC (k6) rfl rfl ?_; refine yMp rfl ?_
      refine yX rfl rfl ?_; refine yX rfl rfl ?_; refine yAd rfl ?_; refine yAd rfl ?_; refine yQ ?_; refine pw_seq ?_; refine pw_seq ?_; refine pw_region ?_; refine yMd rfl ?_; refine yB rfl rfl rfl rfl ?_; refine yMd rfl ?_
      refine yO rfl ?_; refine yO rfl ?_; refine yPd rfl rfl ?_; refine yQ ?_; refine pw_ct rfl ?_; refine pw_seq ?_; refine pw_region ?_; refine yMd rfl ?_; refine yB rfl rfl rfl rfl ?_; refine yMd rfl ?_; refine yMd rfl ?_
      refine yB rfl rfl rfl rfl ?_; refine yVd rfl rfl ?_; refine yMd rfl ?_; refine yMd rfl ?_; refine yB rfl rfl rfl rfl ?_; refine yMd rfl ?_; refine yO rfl ?_; refine yO rfl ?_; refine yO rfl ?_; refine yO rfl ?_; refine yO rfl ?_
      refine yO rfl ?_; refine yO rfl ?_; refine yPd rfl rfl ?_; refine yPd rfl rfl ?_; refine yMd rfl ?_; refine yC (k0) rfl rfl ?_; refine yPd rfl rfl ?_; refine yAd rfl ?_; refine yQ ?_; refine pw_ret ?_; refine q_then_ret ?_
      exact q_ret _ (.tmp rfl .nil) rfl
    | false =>
      rw [h4, if_neg (by decide)] at e4
      rw [e4, if_neg (by decide), List.map_nil] at k6
      rw [h4] at k7
      obtain ⟨u, hu⟩ : ∃ x, x = evV a L := ⟨_, rfl⟩
      obtain ⟨v, hv⟩ : ∃ x, x = evV b L := ⟨_, rfl⟩
      rw [← hu] at k3
      rw [← hv] at k4
      refine pcalls_of_pw Tryz.func6 rfl Tryz.ntmps6 Tryz.results6 (by simp) fun B w0 => ?_
      refine pw_seq ?_; refine pw_region ?_; refine yAd rfl ?_; refine yQ ?_; refine pw_seq ?_; refine pw_seq ?_; refine pw_region ?_; refine yMd rfl ?_; refine yMd rfl ?_; refine yR (es := [[_], [_]]) rfl rfl rfl rfl rfl ?_
      refine yC (k1) rfl rfl ?_; refine yMd rfl ?_; refine yMd rfl ?_; refine yC (k2) rfl rfl ?_; refine yVd rfl rfl ?_; refine yMd rfl ?_; refine yMd rfl ?_; refine yNs rfl ?_; refine yB rfl rfl rfl rfl ?_; refine yVd rfl rfl ?_
      refine yQ ?_; refine q_then ?_; rw [t0]; refine pw_cf rfl ?_; refine pw_skip ?_; refine pw_seq ?_; refine pw_region ?_; refine yMd rfl ?_; refine yMd rfl ?_; refine yC (k3) rfl rfl ?_; refine yMp rfl ?_; refine yX rfl rfl ?_
      refine yX rfl rfl ?_; refine yAd rfl ?_; refine yAd rfl ?_; refine yQ ?_; refine pw_seq ?_; refine pw_region ?_; refine yMd rfl ?_; refine yMd rfl ?_; refine yC (k4) rfl rfl ?_; refine yMp rfl ?_; refine yX rfl rfl ?_
      refine yX rfl rfl ?_; refine yAd rfl ?_; refine yAd rfl ?_; refine yQ ?_; refine pw_seq ?_; refine pw_seq ?_; refine pw_region ?_; refine yMd rfl ?_; refine yB rfl rfl rfl rfl ?_; refine yMd rfl ?_; refine yMd rfl ?_
      refine yB rfl rfl rfl rfl ?_; refine yVd rfl rfl ?_; refine yQ ?_; refine pw_cf rfl ?_; refine pw_skip ?_; refine pw_seq ?_; refine pw_region ?_; refine yMd rfl ?_; refine yMd rfl ?_; refine yC (k5) rfl rfl ?_; refine yMp rfl ?_
      refine yX rfl rfl ?_; refine yX rfl rfl ?_; refine yAd rfl ?_; refine yAd rfl ?_; refine yQ ?_; refine pw_seq ?_; refine pw_region ?_; refine yMd rfl ?_; refine yMd rfl ?_; refine yC (k6) rfl rfl ?_; refine yMp rfl ?_
      refine yX rfl rfl ?_; refine yX rfl rfl ?_; refine yAd rfl ?_; refine yAd rfl ?_; refine yQ ?_; refine pw_seq ?_; refine pw_seq ?_; refine pw_region ?_; refine yMd rfl ?_; refine yB rfl rfl rfl rfl ?_; refine yMd rfl ?_
      refine yO rfl ?_; refine yO rfl ?_; refine yPd rfl rfl ?_; refine yQ ?_; refine pw_ct rfl ?_; refine pw_seq ?_; refine pw_region ?_; refine yMd rfl ?_; refine yB rfl rfl rfl rfl ?_; refine yMd rfl ?_; refine yMd rfl ?_
      refine yB rfl rfl rfl rfl ?_; refine yVd rfl rfl ?_; refine yMd rfl ?_; refine yMd rfl ?_; refine yB rfl rfl rfl rfl ?_; refine yMd rfl ?_; refine yMd rfl ?_; refine yB rfl rfl rfl rfl ?_; refine yMd rfl ?_; refine yMd rfl ?_
      refine yC (k7) rfl rfl ?_; refine yB rfl rfl rfl rfl ?_; refine yPd rfl rfl ?_; refine yVd rfl rfl ?_; refine yPd rfl rfl ?_; refine yMd rfl ?_; refine yC (k0) rfl rfl ?_; refine yPd rfl rfl ?_; refine yAd rfl ?_; refine yQ ?_
      refine pw_ret ?_; refine q_then_ret ?_
      exact q_ret _ (.tmp rfl .nil) rfl
  rw [if_neg h3] at e3
  rw [e3, if_pos rfl] at k5
  cases h4 : isC n with
  | false =>
    rw [h4, if_neg (by decide)] at e4
    rw [e4, if_neg (by decide), List.map_nil] at k6
    rw [h4] at k7
    obtain ⟨D, hD⟩ : ∃ D, D = (nf (a ++ b)).map dCf := ⟨_, rfl⟩
    obtain ⟨u, hu⟩ : ∃ x, x = evV a L := ⟨_, rfl⟩
    obtain ⟨v, hv⟩ : ∃ x, x = evV b L := ⟨_, rfl⟩
    rw [← hD] at k5
    rw [← hu] at k3
    rw [← hv] at k4
    refine pcalls_of_pw Tryz.func6 rfl Tryz.ntmps6 Tryz.results6 (by simp) fun B w0 => ?_
    refine pw_seq ?_; refine pw_region ?_; refine yAd rfl ?_; refine yQ ?_; refine pw_seq ?_; refine pw_seq ?_; refine pw_region ?_; refine yMd rfl ?_; refine yMd rfl ?_; refine yR (es := [[_], [_]]) rfl rfl rfl rfl rfl ?_
    refine yC (k1) rfl rfl ?_; refine yMd rfl ?_; refine yMd rfl ?_; refine yC (k2) rfl rfl ?_; refine yVd rfl rfl ?_; refine yMd rfl ?_; refine yMd rfl ?_; refine yNs rfl ?_; refine yB rfl rfl rfl rfl ?_; refine yVd rfl rfl ?_
    refine yQ ?_; refine q_then ?_; rw [t0]; refine pw_cf rfl ?_; refine pw_skip ?_; refine pw_seq ?_; refine pw_region ?_; refine yMd rfl ?_; refine yMd rfl ?_; refine yC (k3) rfl rfl ?_; refine yMp rfl ?_; refine yX rfl rfl ?_
    refine yX rfl rfl ?_; refine yAd rfl ?_; refine yAd rfl ?_; refine yQ ?_; refine pw_seq ?_; refine pw_region ?_; refine yMd rfl ?_; refine yMd rfl ?_; refine yC (k4) rfl rfl ?_; refine yMp rfl ?_; refine yX rfl rfl ?_
    refine yX rfl rfl ?_; refine yAd rfl ?_; refine yAd rfl ?_; refine yQ ?_; refine pw_seq ?_; refine pw_seq ?_; refine pw_region ?_; refine yMd rfl ?_; refine yB rfl rfl rfl rfl ?_; refine yMd rfl ?_; refine yMd rfl ?_
    refine yB rfl rfl rfl rfl ?_; refine yVd rfl rfl ?_; refine yQ ?_; refine pw_cf rfl ?_; refine pw_skip ?_; refine pw_seq ?_; refine pw_region ?_; refine yMd rfl ?_; refine yMd rfl ?_; refine yC (k5) rfl rfl ?_; refine yMp rfl ?_
    refine yX rfl rfl ?_; refine yX rfl rfl ?_; refine yAd rfl ?_; refine yAd rfl ?_; refine yQ ?_; refine pw_seq ?_; refine pw_region ?_; refine yMd rfl ?_; refine yMd rfl ?_; refine yC (k6) rfl rfl ?_; refine yMp rfl ?_
    refine yX rfl rfl ?_; refine yX rfl rfl ?_; refine yAd rfl ?_; refine yAd rfl ?_; refine yQ ?_; refine pw_seq ?_; refine pw_seq ?_; refine pw_region ?_; refine yMd rfl ?_; refine yB rfl rfl rfl rfl ?_; refine yMd rfl ?_
    refine yMd rfl ?_; refine yB rfl rfl rfl rfl ?_; refine yVd rfl rfl ?_; refine yQ ?_; refine pw_ct rfl ?_; refine pw_seq ?_; refine pw_region ?_; refine yMd rfl ?_; refine yB rfl rfl rfl rfl ?_; refine yMd rfl ?_; refine yO rfl ?_
    refine yO rfl ?_; refine yPd rfl rfl ?_; refine yMd rfl ?_; refine yMd rfl ?_; refine yB rfl rfl rfl rfl ?_; refine yMd rfl ?_; refine yMd rfl ?_; refine yB rfl rfl rfl rfl ?_; refine yMd rfl ?_; refine yMd rfl ?_
    refine yC (k7) rfl rfl ?_; refine yB rfl rfl rfl rfl ?_; refine yPd rfl rfl ?_; refine yVd rfl rfl ?_; refine yPd rfl rfl ?_; refine yMd rfl ?_; refine yC (k0) rfl rfl ?_; refine yPd rfl rfl ?_; refine yAd rfl ?_; refine yQ ?_
    refine pw_ret ?_; refine q_then_ret ?_
    exact q_ret _ (.tmp rfl .nil) rfl
  | true =>
    rw [h4, if_pos rfl] at e4
    rw [e4, if_pos rfl] at k6
    obtain ⟨p1, p2⟩ := lin_add e1 e2 e3
    obtain ⟨q1, q2⟩ := lin_scl (n := n) e1
    have habl := nf_len (a ++ b)
    rw [List.length_append] at habl
    have k8 := wEval (nf (a ++ b)) L (by omega) (flen hab 400 (by rw [List.length_append]; omega)) (by omega) hL4
    have k9 := wEval (nf (scl n a)) L (by omega) (flen hsl 400 (by omega)) (by omega) hL4
    have k10 := wAddT (evV a L) (evV b L) (by omega) (by omega)
    have k11 := wMulT (evV a L) n (by omega) (by omega)
    rw [p1, p2] at k8
    rw [q1, q2] at k9
    obtain ⟨u, hu⟩ : ∃ x, x = evV a L := ⟨_, rfl⟩
    obtain ⟨v, hv⟩ : ∃ x, x = evV b L := ⟨_, rfl⟩
    rw [← hu] at k3 k8 k9 k10 k11
    rw [← hv] at k4 k8 k10
    obtain ⟨s, hs⟩ : ∃ x, x = canon (val u + val v) := ⟨_, rfl⟩
    obtain ⟨m, hm2⟩ : ∃ x, x = canon (val u * val n) := ⟨_, rfl⟩
    rw [← hs] at k8 k10
    rw [← hm2] at k9 k11
    obtain ⟨C, hC⟩ : ∃ D, D = (nf (a ++ b)).map dCf := ⟨_, rfl⟩
    obtain ⟨D, hD⟩ : ∃ D, D = (nf (scl n a)).map dCf := ⟨_, rfl⟩
    rw [← hC] at k5 k8
    rw [← hD] at k6 k9
    have t1 : (s == s) = true := by simp
    have t2 : (m == m) = true := by simp
    refine pcalls_of_pw Tryz.func6 rfl Tryz.ntmps6 Tryz.results6 (by simp) fun B w0 => ?_
    refine pw_seq ?_; refine pw_region ?_; refine yAd rfl ?_; refine yQ ?_; refine pw_seq ?_; refine pw_seq ?_; refine pw_region ?_; refine yMd rfl ?_; refine yMd rfl ?_; refine yR (es := [[_], [_]]) rfl rfl rfl rfl rfl ?_
    refine yC (k1) rfl rfl ?_; refine yMd rfl ?_; refine yMd rfl ?_; refine yC (k2) rfl rfl ?_; refine yVd rfl rfl ?_; refine yMd rfl ?_; refine yMd rfl ?_; refine yNs rfl ?_; refine yB rfl rfl rfl rfl ?_; refine yVd rfl rfl ?_
    refine yQ ?_; refine q_then ?_; rw [t0]; refine pw_cf rfl ?_; refine pw_skip ?_; refine pw_seq ?_; refine pw_region ?_; refine yMd rfl ?_; refine yMd rfl ?_; refine yC (k3) rfl rfl ?_; refine yMp rfl ?_; refine yX rfl rfl ?_
    refine yX rfl rfl ?_; refine yAd rfl ?_; refine yAd rfl ?_; refine yQ ?_; refine pw_seq ?_; refine pw_region ?_; refine yMd rfl ?_; refine yMd rfl ?_; refine yC (k4) rfl rfl ?_; refine yMp rfl ?_; refine yX rfl rfl ?_
    refine yX rfl rfl ?_; refine yAd rfl ?_; refine yAd rfl ?_; refine yQ ?_; refine pw_seq ?_; refine pw_seq ?_; refine pw_region ?_; refine yMd rfl ?_; refine yB rfl rfl rfl rfl ?_; refine yMd rfl ?_; refine yMd rfl ?_
    refine yB rfl rfl rfl rfl ?_; refine yVd rfl rfl ?_; refine yQ ?_; refine pw_cf rfl ?_; refine pw_skip ?_; refine pw_seq ?_; refine pw_region ?_; refine yMd rfl ?_; refine yMd rfl ?_; refine yC (k5) rfl rfl ?_; refine yMp rfl ?_
    refine yX rfl rfl ?_; refine yX rfl rfl ?_; refine yAd rfl ?_; refine yAd rfl ?_; refine yQ ?_; refine pw_seq ?_; refine pw_region ?_; refine yMd rfl ?_; refine yMd rfl ?_; refine yC (k6) rfl rfl ?_; refine yMp rfl ?_
    refine yX rfl rfl ?_; refine yX rfl rfl ?_; refine yAd rfl ?_; refine yAd rfl ?_; refine yQ ?_; refine pw_seq ?_; refine pw_seq ?_; refine pw_region ?_; refine yMd rfl ?_; refine yB rfl rfl rfl rfl ?_; refine yMd rfl ?_
    refine yMd rfl ?_; refine yB rfl rfl rfl rfl ?_; refine yVd rfl rfl ?_; refine yQ ?_; refine pw_cf rfl ?_; refine pw_skip ?_; refine pw_seq ?_; refine pw_region ?_; refine yMd rfl ?_; refine yMd rfl ?_; refine yC (k8) rfl rfl ?_
    refine yMp rfl ?_; refine yX rfl rfl ?_; refine yX rfl rfl ?_; refine yAd rfl ?_; refine yAd rfl ?_; refine yQ ?_; refine pw_seq ?_; refine pw_region ?_; refine yMd rfl ?_; refine yMd rfl ?_; refine yC (k9) rfl rfl ?_
    refine yMp rfl ?_; refine yX rfl rfl ?_; refine yX rfl rfl ?_; refine yAd rfl ?_; refine yAd rfl ?_; refine yQ ?_; refine pw_seq ?_; refine pw_region ?_; refine yMd rfl ?_; refine yB rfl rfl rfl rfl ?_; refine yMd rfl ?_
    refine yMd rfl ?_; refine yB rfl rfl rfl rfl ?_; refine yPd rfl rfl ?_; refine yMd rfl ?_; refine yMd rfl ?_; refine yMd rfl ?_; refine yMd rfl ?_; refine yC (k10) rfl rfl ?_; refine yBse rfl rfl ?_; refine yPd rfl rfl ?_
    refine yMd rfl ?_; rw [t1]; refine yMd rfl ?_; refine yMd rfl ?_; refine yMd rfl ?_; refine yC (k11) rfl rfl ?_; refine yBse rfl rfl ?_; refine yPd rfl rfl ?_; refine yMd rfl ?_; rw [t2]; refine yC (k0) rfl rfl ?_
    refine yPd rfl rfl ?_; refine yAd rfl ?_; refine yQ ?_; refine pw_ret ?_
    exact q_ret _ (.tmp rfl .nil) rfl
end Go.Proofs.YtmfeinilbjfnpaaGreatDoor
