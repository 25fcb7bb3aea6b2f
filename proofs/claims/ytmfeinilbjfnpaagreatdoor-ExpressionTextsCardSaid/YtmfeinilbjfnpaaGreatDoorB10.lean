/- Walk: the reference reads texts of expressions. -/
import Derived.Test.YtmfeinilbjfnpaaGreatDoorB9
import Derived.Test.YtmfeinilbjfnpaaGreatDoorB6
namespace Go.Proofs.YtmfeinilbjfnpaaGreatDoor
namespace Px
open Go.RowKit
section
variable {P : Program} {B : Nat} {w0 : Cx} {Q Q' : Exit → PS → Prop} {st : PS} {sq : Bool} {ops : Array Oper} {K K' : PS → Prop} {rest : List Oper}
theorem YR.mono (h : YR P sq ops K rest st) (hk : ∀ s, K s → K' s) : YR P sq ops K' rest st := by
  induction h with
  | nil h => exact .nil (hk _ h)
  | op x ef hs ho hw _ ih => exact .op x ef hs ho hw ih
  | skip hd hw _ ih => exact .skip hd hw ih
  | any hq h => exact .any hq fun B w0 Q hQ => h B w0 Q fun s hs => hQ s (hk s hs)
theorem yr_join {b y : Code} (J : PS) (h2 : PW P B w0 y Q J) (h1 : YR P sq ops (PW P B w0 b (QThen (fun s => Le s J) Q)) rest st) : YR P sq ops (QThen (PW P B w0 (.seq b y) Q) Q' .normal) rest st := h1.mono fun _ hs => pw_seq (pw_join J h2 hs)
theorem yr_join2 {b y : Code} (J : PS) (h2 : PW P B w0 y Q J) (h1 : YR P sq ops (PW P B w0 b (QThen (fun s => Le s J) Q)) rest st) : YR P sq ops (QThen (PW P B w0 b (QThen (PW P B w0 y Q) Q)) Q' .normal) rest st := h1.mono fun _ hs => pw_join J h2 hs
end
end Px
open Go.RowKit Px
abbrev rpT : Nat := 36 * 100000 + 11
abbrev rpS (zs : List Cf) (b : Bool) (r : Str) : PS := ⟨83, [(4, .ts rpT 2 (zs.map dCf)), (5, .d (dS r)), (6, .d (dB b))], [], [(rpT, (zs.map dCf).length)]⟩
abbrev rpS2 (zs : List Cf) (b : Bool) (r : Str) (j : Nat) : PS := ⟨83, [(4, .ts rpT 2 (zs.map dCf)), (5, .d (dS r)), (6, .d (dB b)), (7, .d (dI j))], [], [(rpT, (zs.map dCf).length)]⟩
set_option maxRecDepth 20000 in
set_option maxHeartbeats 8000000 in
theorem wRParse (s : Str) (hs : s.length ≤ 900) : PCalls Tryz.prog 35 [dS s] (.tup [.sl 2 ((paR s).map dCf), dI (paE s)]) := by
  have t0 : decide ((s.length : Int) > 65536) = false := decide_eq_false (by omega)
  by_cases h0 : s = [48]
  · have t1 : (s == [48]) = true := by simp [h0]
    rw [paR, paE, if_pos h0, if_pos h0]
    refine pcalls_of_pw Tryz.func35 rfl Tryz.ntmps35 Tryz.results35 (by simp) fun B w0 => ?_
    refine pw_seq ?_; refine pw_region ?_; refine yAd rfl ?_; refine yAd rfl ?_; refine yQ ?_; refine pw_seq ?_; refine pw_seq ?_; refine pw_region ?_; refine yMd rfl ?_; refine yNs rfl ?_; refine yB rfl rfl rfl rfl ?_; refine yQ ?_
    refine q_then ?_; rw [t0]; refine pw_cf rfl ?_; refine pw_skip ?_; refine pw_seq ?_; refine pw_seq ?_; refine pw_region ?_; refine yMd rfl ?_; refine yBse rfl rfl ?_; refine yQ ?_; refine q_then ?_; rw [t1]; refine pw_ct rfl ?_
    refine pw_seq ?_; refine pw_region ?_; refine yAd rfl ?_; refine yAd rfl ?_; refine yQ ?_; refine pw_ret ?_; refine q_then_ret ?_
    exact q_ret _ (.tnil 2 rfl (.tmp rfl .nil)) rfl
  have t1 : (s == [48]) = false := by simp [h0]
  have hfin := finP_paE s h0
  have hcl : (cpS 45 s).length ≤ 900 := cpS_len s hs
  obtain ⟨R, hR⟩ : ∃ R, R = paR s := ⟨_, rfl⟩
  obtain ⟨E, hE⟩ : ∃ E, E = paE s := ⟨_, rfl⟩
  rw [← hR, ← hE] at hfin ⊢
  clear hR hE
  refine pcalls_of_pw Tryz.func35 rfl Tryz.ntmps35 Tryz.results35 (by simp) fun B w0 => ?_
  refine pw_seq ?_; refine pw_region ?_; refine yAd rfl ?_; refine yAd rfl ?_; refine yQ ?_; refine pw_seq ?_; refine pw_seq ?_; refine pw_region ?_; refine yMd rfl ?_; refine yNs rfl ?_; refine yB rfl rfl rfl rfl ?_; refine yQ ?_
  refine q_then ?_; rw [t0]; refine pw_cf rfl ?_; refine pw_skip ?_; refine pw_seq ?_; refine pw_seq ?_; refine pw_region ?_; refine yMd rfl ?_; refine yBse rfl rfl ?_; refine yQ ?_; refine q_then ?_; rw [t1]; refine pw_cf rfl ?_
  refine pw_skip ?_; refine pw_seq ?_; refine pw_region ?_; refine yAd rfl ?_; refine yQ ?_; refine pw_seq ?_; refine pw_region ?_; refine yMd rfl ?_; refine yAd rfl ?_; refine yAd rfl ?_; refine yQ ?_; refine pw_seq ?_
  refine pw_seq ?_; refine pw_region ?_; refine yMd rfl ?_; refine yBsn rfl rfl ?_; refine yMd rfl ?_
  first | refine yr_join ⟨83, [(4, .d (.val (.slice none 0 0))), (5, .d (dS (cpS 45 s))), (6, .d (dB (cpB 45 s)))], [], []⟩ ?_ ?_ | refine yr_join2 ⟨83, [(4, .d (.val (.slice none 0 0))), (5, .d (dS (cpS 45 s))), (6, .d (dB (cpB 45 s)))], [], []⟩ ?_ ?_
  rotate_left
  · cases s with
    | nil =>
      refine yO rfl ?_; refine yO rfl ?_; refine yO rfl ?_; refine yVd rfl rfl ?_; refine yQ ?_; refine pw_cf rfl ?_; refine pw_skip ?_; refine q_then ?_
      exact ⟨rfl, ⟨.refl _, .refl _, .refl _, trivial⟩, trivial, trivial, rfl⟩
    | cons x l =>
    have u0 : (x :: l == []) = false := rfl
    have hx : (x :: l : Str)[(0 : Int).toNat]? = some x := rfl
    by_cases h45 : x = 45
    · have t2 : ((x.toNat : Int) == 45) = true := by rw [h45]; rfl
      have e1 : cpS 45 (x :: l) = l := by rw [cpS, if_pos h45]
      have e2 : cpB 45 (x :: l) = true := by rw [h45]; rfl
      rw [e1, e2]
      have h1 : (x :: l : Str).drop ((1 : Int)).toNat = l := rfl
      have hl1 : (1 : Int) ≤ ((x :: l : Str).length : Int) := by simp; omega
      obtain ⟨y, hy⟩ : ∃ y, y = (x :: l : Str) := ⟨_, rfl⟩
      rw [← hy] at u0 hx h1 hl1 ⊢
      clear hy e1 e2 hs t0 h0 t1 hfin hcl
      rw [u0]; refine yMd rfl ?_; refine yIs hx (by omega) rfl rfl ?_; refine yB rfl rfl rfl rfl ?_; refine yPd rfl rfl ?_; refine yQ ?_; rw [t2]; refine pw_ct rfl ?_; refine pw_region ?_; refine yMd rfl ?_
      refine ySl0 (by omega) hl1 h1 rfl rfl ?_; refine yAd rfl ?_; refine yAd rfl ?_; refine yQ ?_; refine q_then ?_
      exact ⟨rfl, ⟨.refl _, .refl _, .refl _, trivial⟩, trivial, trivial, rfl⟩
    · have t2 : ((x.toNat : Int) == 45) = false := beq_false_of_ne fun h => h45 (UInt8.toNat_inj.1 (by have : (45 : UInt8).toNat = 45 := rfl; omega))
      have e1 : cpS 45 (x :: l) = x :: l := by rw [cpS, if_neg h45]
      have e2 : cpB 45 (x :: l) = false := by simp [cpB, h45]
      rw [e1, e2]
      refine yMd rfl ?_; refine yIs hx (by omega) rfl rfl ?_; refine yB rfl rfl rfl rfl ?_; refine yPd rfl rfl ?_; refine yQ ?_; rw [u0]; rw [t2]; refine pw_cf rfl ?_; refine pw_skip ?_; refine q_then ?_
      exact ⟨rfl, ⟨.refl _, .refl _, .refl _, trivial⟩, trivial, trivial, rfl⟩
  refine pw_tok 4 rpT 2 rfl rfl rfl ?_; refine pw_seq ?_; refine pw_block ?_
  refine pw_loop (fun p : List Cf × Bool × Str => rpS p.1 p.2.1 p.2.2) (fun p => p.1.length + p.2.2.length ≤ 900 ∧ (∀ c ∈ p.1, isC c.2 = true ∧ c.2.length ≤ 1000) ∧ finP (parL p.2.1 p.2.2) p.1 = (E, R)) (fun p => p.2.2.length) ([], cpB 45 s, cpS 45 s) ⟨by simp only [List.length_nil]; omega, fun c hc => by simp at hc, hfin⟩
    ⟨rfl, ⟨.refl _, .refl _, .refl _, trivial⟩, trivial, ⟨rfl, trivial⟩, rfl⟩ ?_
  clear hfin hcl t0 t1 h0 hs
  rintro ⟨zs, neg, r⟩ ⟨hln, hzs, hfin⟩
  simp only at hln hzs hfin ⊢
  refine pw_block ?_; refine pw_seq ?_; refine pw_region ?_; refine yAd rfl ?_; refine yQ ?_; refine pw_seq ?_; refine pw_block ?_
  refine pw_loop (fun j : Nat => rpS2 zs neg r j) (fun j => j ≤ r.length ∧ ∀ x ∈ r.take j, x ≠ 32) (fun j => r.length - j) 0 ⟨Nat.zero_le _, fun x hx => by simp at hx⟩
    ⟨rfl, ⟨.refl _, .refl _, .refl _, .refl _, trivial⟩, trivial, ⟨rfl, trivial⟩, rfl⟩ ?_
  rintro j ⟨hj, hno⟩
  unfold rpS2
  have hjn : ((j : Nat) : Int).toNat = j := Int.toNat_natCast j
  rcases Nat.lt_or_ge j r.length with h | h
  rotate_left
  · -- the last term
    have t1 : decide ((j : Int) < (r.length : Int)) = false := decide_eq_false (by omega)
    obtain rfl : j = r.length := by omega
    rw [List.take_length] at hno
    have hcb := cutB_none hno
    have eB : ctB 32 r = false := by rw [ctB, hcb]; rfl
    have eT : ctT 32 r = r := by rw [ctT, hcb]
    have hT : r.take ((r.length : Int)).toNat = r := by rw [hjn, List.take_length]
    have hD : r.drop ((r.length : Int)).toNat = [] := by rw [hjn, List.drop_length]
    have hle : (r.length : Int) ≤ r.length := Int.le_refl _
    have k2 := wRTerm r (by omega)
    have htm := rtm_tmP r
    have hln2 : zs.length ≤ 900 := by omega
    have hrl : r.length ≤ 900 := by omega
    obtain ⟨n, hn⟩ : ∃ n : Int, n = (r.length : Int) := ⟨_, rfl⟩
    rw [← hn] at hT hD ⊢
    clear hle t1
    have hn0 : 0 ≤ n := by omega
    have t1 : decide (n < (r.length : Int)) = false := decide_eq_false (by omega)
    obtain ⟨⟨⟨c0, c1⟩, ok⟩, hc⟩ : ∃ q, q = rtm r := ⟨_, rfl⟩
    rw [← hc] at k2 htm
    clear hc hno hj hcb h
    have hle : n ≤ (r.length : Int) := by omega
    cases ok with
    | false =>
      rw [if_neg (by simp)] at htm
      have hts : tmS (neg, ctT 32 r) = none := by rw [eT, tmS, htm]; rfl
      rw [parL_eq, finP_no hts] at hfin
      cases hfin
      refine pw_seq ?_; refine pw_seq ?_; refine pw_region ?_; refine yMd rfl ?_; refine yMd rfl ?_; refine yNs rfl ?_; refine yB rfl rfl rfl rfl ?_; refine yMd rfl ?_; rw [t1]; refine yO rfl ?_; refine yO rfl ?_; refine yO rfl ?_
      refine yO rfl ?_; refine yVd rfl rfl ?_; refine yQ ?_; refine pw_cf rfl ?_; refine pw_exit ?_; refine pw_seq ?_; refine pw_region ?_; refine yMd rfl ?_; refine yMd rfl ?_; refine yS0h hn0 hle hT rfl rfl ?_; refine yC (k2) rfl rfl ?_
      refine yMp rfl ?_; refine yX rfl rfl ?_; refine yX rfl rfl ?_; refine yZ (cs := [_, _]) rfl rfl ?_; refine yS (cs' := [_, _]) rfl rfl rfl rfl rfl ?_; refine yAd rfl ?_; refine yQ ?_; refine pw_seq ?_; refine pw_seq ?_
      refine pw_region ?_; refine yMd rfl ?_; refine yU rfl rfl rfl ?_; refine yQ ?_; refine pw_ct rfl ?_; refine pw_seq ?_; refine pw_region ?_; refine yAd rfl ?_; refine yAd rfl ?_; refine yQ ?_; refine pw_ret ?_; refine q_then_ret ?_
      refine q_blk_ret ?_; refine q_then_ret ?_; refine q_blk_ret ?_; refine q_then_ret ?_
      exact q_ret _ (.tnil 2 rfl (.tmp rfl .nil)) rfl
    | true =>
    rw [if_pos rfl] at htm
    cases neg with
    | false =>
      have hts : tmS (false, ctT 32 r) = some (c0, c1) := by rw [eT, tmS, htm]; rfl
      rw [fin_end eB hts] at hfin
      have hzl : (zs ++ [(c0, c1)]).length ≤ 901 := by simp; omega
      have hz2 : ∀ c ∈ zs ++ [(c0, c1)], isC c.2 = true ∧ c.2.length ≤ 1000 := fun c hc => by
        rcases List.mem_append.1 hc with h1 | h1
        · exact hzs c h1
        · rw [List.mem_singleton.1 h1]
          have h5 := tmS_len hts
          rw [eT] at h5
          exact ⟨tmS_isC hts, by have := h5.2; simp only at this ⊢; omega⟩
      have k4 := wRNormalI (zs ++ [(c0, c1)]) (by omega) (fun c hc => (hz2 c hc).2)
      rw [rn_nf2 (fun c hc => (hz2 c hc).1)] at k4
      unfold finP at hfin
      rw [if_pos (by rfl), List.filterMap_nil, List.append_nil] at hfin
      by_cases h16 : 16 < (zs ++ [(c0, c1)]).length
      · have t5 : decide ((((zs ++ [(c0, c1)]).map dCf).length : Int) > 16) = true := decide_eq_true (by rw [List.length_map]; omega)
        rw [if_pos h16] at hfin
        cases hfin
        refine pw_seq ?_; refine pw_seq ?_; refine pw_region ?_; refine yMd rfl ?_; refine yMd rfl ?_; refine yNs rfl ?_; refine yB rfl rfl rfl rfl ?_; refine yMd rfl ?_; rw [t1]; refine yO rfl ?_; refine yO rfl ?_; refine yO rfl ?_
        refine yO rfl ?_; refine yVd rfl rfl ?_; refine yQ ?_; refine pw_cf rfl ?_; refine pw_exit ?_; refine pw_seq ?_; refine pw_region ?_; refine yMd rfl ?_; refine yMd rfl ?_; refine yS0h hn0 hle hT rfl rfl ?_; refine yC (k2) rfl rfl ?_
        refine yMp rfl ?_; refine yX rfl rfl ?_; refine yX rfl rfl ?_; refine yZ (cs := [_, _]) rfl rfl ?_; refine yS (cs' := [_, _]) rfl rfl rfl rfl rfl ?_; refine yAd rfl ?_; refine yQ ?_; refine pw_seq ?_; refine pw_seq ?_
        refine pw_region ?_; refine yMd rfl ?_; refine yU rfl rfl rfl ?_; refine yQ ?_; refine pw_cf rfl ?_; refine pw_skip ?_; refine pw_seq ?_; refine pw_seq ?_; refine pw_region ?_; refine yMd rfl ?_; refine yQ ?_; refine pw_cf rfl ?_
        refine pw_skip ?_; refine pw_seq ?_; refine pw_region ?_; refine yMt rfl ?_; refine yLa (ys := [_, _]) rfl rfl rfl rfl ?_; refine yR (es := [[_, _]]) rfl rfl rfl rfl rfl ?_
        refine yT (es' := (zs ++ [(c0, c1)]).map dCf) (m := ((zs ++ [(c0, c1)]).map dCf).length) (by simp; omega) (by simp; omega) rfl rfl rfl rfl rfl (by simp) (by simp) ?_; refine yAt rfl ?_; refine yQ ?_; refine pw_seq ?_
        refine pw_region ?_; refine yMd rfl ?_; refine yMd rfl ?_; refine ySl0 hn0 hle hD rfl rfl ?_; refine yAd rfl ?_; refine yQ ?_; refine pw_seq ?_; refine pw_seq ?_; refine pw_region ?_; refine yMd rfl ?_; refine yBse rfl rfl ?_
        refine yQ ?_; refine pw_ct rfl ?_; refine pw_exit ?_; refine pw_seq ?_; refine pw_seq ?_; refine pw_region ?_; refine yMt rfl ?_; refine yN rfl ?_; refine yB rfl rfl rfl rfl ?_; refine yQ ?_; refine q_then ?_; rw [t5]
        refine pw_ct rfl ?_; refine pw_seq ?_; refine pw_region ?_; refine yAd rfl ?_; refine yAd rfl ?_; refine yQ ?_; refine pw_ret ?_; refine q_then_ret ?_
        exact q_ret _ (.tnil 2 rfl (.tmp rfl .nil)) rfl
      · have t5 : decide ((((zs ++ [(c0, c1)]).map dCf).length : Int) > 16) = false := decide_eq_false (by rw [List.length_map]; omega)
        rw [if_neg h16] at hfin
        obtain ⟨hE1, hR1⟩ := Prod.mk.inj hfin
        subst hE1
        rw [hR1] at k4
        refine pw_seq ?_; refine pw_seq ?_; refine pw_region ?_; refine yMd rfl ?_; refine yMd rfl ?_; refine yNs rfl ?_; refine yB rfl rfl rfl rfl ?_; refine yMd rfl ?_; rw [t1]; refine yO rfl ?_; refine yO rfl ?_; refine yO rfl ?_
        refine yO rfl ?_; refine yVd rfl rfl ?_; refine yQ ?_; refine pw_cf rfl ?_; refine pw_exit ?_; refine pw_seq ?_; refine pw_region ?_; refine yMd rfl ?_; refine yMd rfl ?_; refine yS0h hn0 hle hT rfl rfl ?_; refine yC (k2) rfl rfl ?_
        refine yMp rfl ?_; refine yX rfl rfl ?_; refine yX rfl rfl ?_; refine yZ (cs := [_, _]) rfl rfl ?_; refine yS (cs' := [_, _]) rfl rfl rfl rfl rfl ?_; refine yAd rfl ?_; refine yQ ?_; refine pw_seq ?_; refine pw_seq ?_
        refine pw_region ?_; refine yMd rfl ?_; refine yU rfl rfl rfl ?_; refine yQ ?_; refine pw_cf rfl ?_; refine pw_skip ?_; refine pw_seq ?_; refine pw_seq ?_; refine pw_region ?_; refine yMd rfl ?_; refine yQ ?_; refine pw_cf rfl ?_
        refine pw_skip ?_; refine pw_seq ?_; refine pw_region ?_; refine yMt rfl ?_; refine yLa (ys := [_, _]) rfl rfl rfl rfl ?_; refine yR (es := [[_, _]]) rfl rfl rfl rfl rfl ?_
        refine yT (es' := (zs ++ [(c0, c1)]).map dCf) (m := ((zs ++ [(c0, c1)]).map dCf).length) (by simp; omega) (by simp; omega) rfl rfl rfl rfl rfl (by simp) (by simp) ?_; refine yAt rfl ?_; refine yQ ?_; refine pw_seq ?_
        refine pw_region ?_; refine yMd rfl ?_; refine yMd rfl ?_; refine ySl0 hn0 hle hD rfl rfl ?_; refine yAd rfl ?_; refine yQ ?_; refine pw_seq ?_; refine pw_seq ?_; refine pw_region ?_; refine yMd rfl ?_; refine yBse rfl rfl ?_
        refine yQ ?_; refine pw_ct rfl ?_; refine pw_exit ?_; refine pw_seq ?_; refine pw_seq ?_; refine pw_region ?_; refine yMt rfl ?_; refine yN rfl ?_; refine yB rfl rfl rfl rfl ?_; refine yQ ?_; refine q_then ?_; rw [t5]
        refine pw_cf rfl ?_; refine pw_skip ?_; refine pw_seq ?_; refine pw_region ?_; refine yMt rfl ?_; refine yC (k4) rfl rfl ?_; refine yAd rfl ?_; refine yAd rfl ?_; refine yQ ?_; refine pw_ret ?_
        exact q_ret _ (.tmp rfl (.tmp rfl .nil)) rfl
    | true =>
      have k3 := wRNeg c1 (by have := (tmP_len htm).2; simp only at this; omega)
      obtain ⟨q, hq⟩ : ∃ q, q = canon (- val c1) := ⟨_, rfl⟩
      rw [← hq] at k3
      have hts : tmS (true, ctT 32 r) = some (c0, q) := by rw [eT, tmS, htm, hq]; rfl
      rw [fin_end eB hts] at hfin
      have hzl : (zs ++ [(c0, q)]).length ≤ 901 := by simp; omega
      have hz2 : ∀ c ∈ zs ++ [(c0, q)], isC c.2 = true ∧ c.2.length ≤ 1000 := fun c hc => by
        rcases List.mem_append.1 hc with h1 | h1
        · exact hzs c h1
        · rw [List.mem_singleton.1 h1]
          have h5 := tmS_len hts
          rw [eT] at h5
          exact ⟨tmS_isC hts, by have := h5.2; simp only at this ⊢; omega⟩
      have k4 := wRNormalI (zs ++ [(c0, q)]) (by omega) (fun c hc => (hz2 c hc).2)
      rw [rn_nf2 (fun c hc => (hz2 c hc).1)] at k4
      unfold finP at hfin
      rw [if_pos (by rfl), List.filterMap_nil, List.append_nil] at hfin
      clear hq
      by_cases h16 : 16 < (zs ++ [(c0, q)]).length
      · have t5 : decide ((((zs ++ [(c0, q)]).map dCf).length : Int) > 16) = true := decide_eq_true (by rw [List.length_map]; omega)
        rw [if_pos h16] at hfin
        cases hfin
        refine pw_seq ?_; refine pw_seq ?_; refine pw_region ?_; refine yMd rfl ?_; refine yMd rfl ?_; refine yNs rfl ?_; refine yB rfl rfl rfl rfl ?_; refine yMd rfl ?_; rw [t1]; refine yO rfl ?_; refine yO rfl ?_; refine yO rfl ?_
        refine yO rfl ?_; refine yVd rfl rfl ?_; refine yQ ?_; refine pw_cf rfl ?_; refine pw_exit ?_; refine pw_seq ?_; refine pw_region ?_; refine yMd rfl ?_; refine yMd rfl ?_; refine yS0h hn0 hle hT rfl rfl ?_; refine yC (k2) rfl rfl ?_
        refine yMp rfl ?_; refine yX rfl rfl ?_; refine yX rfl rfl ?_; refine yZ (cs := [_, _]) rfl rfl ?_; refine yS (cs' := [_, _]) rfl rfl rfl rfl rfl ?_; refine yAd rfl ?_; refine yQ ?_; refine pw_seq ?_; refine pw_seq ?_
        refine pw_region ?_; refine yMd rfl ?_; refine yU rfl rfl rfl ?_; refine yQ ?_; refine pw_cf rfl ?_; refine pw_skip ?_; refine pw_seq ?_; refine pw_seq ?_; refine pw_region ?_; refine yMd rfl ?_; refine yQ ?_; refine pw_ct rfl ?_
        refine pw_region ?_; refine yFb rfl ?_; refine yLd rfl rfl rfl ?_; refine yC (k3) rfl rfl ?_; refine yFb rfl ?_; refine ySd (cs' := [_, _]) rfl rfl rfl rfl ?_; refine yQ ?_; refine pw_seq ?_; refine pw_region ?_; refine yMt rfl ?_
        refine yLa (ys := [_, _]) rfl rfl rfl rfl ?_; refine yR (es := [[_, _]]) rfl rfl rfl rfl rfl ?_
        refine yT (es' := (zs ++ [(c0, q)]).map dCf) (m := ((zs ++ [(c0, q)]).map dCf).length) (by simp; omega) (by simp; omega) rfl rfl rfl rfl rfl (by simp) (by simp) ?_; refine yAt rfl ?_; refine yQ ?_; refine pw_seq ?_
        refine pw_region ?_; refine yMd rfl ?_; refine yMd rfl ?_; refine ySl0 hn0 hle hD rfl rfl ?_; refine yAd rfl ?_; refine yQ ?_; refine pw_seq ?_; refine pw_seq ?_; refine pw_region ?_; refine yMd rfl ?_; refine yBse rfl rfl ?_
        refine yQ ?_; refine pw_ct rfl ?_; refine pw_exit ?_; refine pw_seq ?_; refine pw_seq ?_; refine pw_region ?_; refine yMt rfl ?_; refine yN rfl ?_; refine yB rfl rfl rfl rfl ?_; refine yQ ?_; refine q_then ?_; rw [t5]
        refine pw_ct rfl ?_; refine pw_seq ?_; refine pw_region ?_; refine yAd rfl ?_; refine yAd rfl ?_; refine yQ ?_; refine pw_ret ?_; refine q_then_ret ?_
        exact q_ret _ (.tnil 2 rfl (.tmp rfl .nil)) rfl
      · have t5 : decide ((((zs ++ [(c0, q)]).map dCf).length : Int) > 16) = false := decide_eq_false (by rw [List.length_map]; omega)
        rw [if_neg h16] at hfin
        obtain ⟨hE1, hR1⟩ := Prod.mk.inj hfin
        subst hE1
        rw [hR1] at k4
        refine pw_seq ?_; refine pw_seq ?_; refine pw_region ?_; refine yMd rfl ?_; refine yMd rfl ?_; refine yNs rfl ?_; refine yB rfl rfl rfl rfl ?_; refine yMd rfl ?_; rw [t1]; refine yO rfl ?_; refine yO rfl ?_; refine yO rfl ?_
        refine yO rfl ?_; refine yVd rfl rfl ?_; refine yQ ?_; refine pw_cf rfl ?_; refine pw_exit ?_; refine pw_seq ?_; refine pw_region ?_; refine yMd rfl ?_; refine yMd rfl ?_; refine yS0h hn0 hle hT rfl rfl ?_; refine yC (k2) rfl rfl ?_
        refine yMp rfl ?_; refine yX rfl rfl ?_; refine yX rfl rfl ?_; refine yZ (cs := [_, _]) rfl rfl ?_; refine yS (cs' := [_, _]) rfl rfl rfl rfl rfl ?_; refine yAd rfl ?_; refine yQ ?_; refine pw_seq ?_; refine pw_seq ?_
        refine pw_region ?_; refine yMd rfl ?_; refine yU rfl rfl rfl ?_; refine yQ ?_; refine pw_cf rfl ?_; refine pw_skip ?_; refine pw_seq ?_; refine pw_seq ?_; refine pw_region ?_; refine yMd rfl ?_; refine yQ ?_; refine pw_ct rfl ?_
        refine pw_region ?_; refine yFb rfl ?_; refine yLd rfl rfl rfl ?_; refine yC (k3) rfl rfl ?_; refine yFb rfl ?_; refine ySd (cs' := [_, _]) rfl rfl rfl rfl ?_; refine yQ ?_; refine pw_seq ?_; refine pw_region ?_; refine yMt rfl ?_
        refine yLa (ys := [_, _]) rfl rfl rfl rfl ?_; refine yR (es := [[_, _]]) rfl rfl rfl rfl rfl ?_
        refine yT (es' := (zs ++ [(c0, q)]).map dCf) (m := ((zs ++ [(c0, q)]).map dCf).length) (by simp; omega) (by simp; omega) rfl rfl rfl rfl rfl (by simp) (by simp) ?_; refine yAt rfl ?_; refine yQ ?_; refine pw_seq ?_
        refine pw_region ?_; refine yMd rfl ?_; refine yMd rfl ?_; refine ySl0 hn0 hle hD rfl rfl ?_; refine yAd rfl ?_; refine yQ ?_; refine pw_seq ?_; refine pw_seq ?_; refine pw_region ?_; refine yMd rfl ?_; refine yBse rfl rfl ?_
        refine yQ ?_; refine pw_ct rfl ?_; refine pw_exit ?_; refine pw_seq ?_; refine pw_seq ?_; refine pw_region ?_; refine yMt rfl ?_; refine yN rfl ?_; refine yB rfl rfl rfl rfl ?_; refine yQ ?_; refine q_then ?_; rw [t5]
        refine pw_cf rfl ?_; refine pw_skip ?_; refine pw_seq ?_; refine pw_region ?_; refine yMt rfl ?_; refine yC (k4) rfl rfl ?_; refine yAd rfl ?_; refine yAd rfl ?_; refine yQ ?_; refine pw_ret ?_
        exact q_ret _ (.tmp rfl (.tmp rfl .nil)) rfl
  have t1 : decide ((j : Int) < (r.length : Int)) = true := decide_eq_true (by omega)
  obtain ⟨x, hx⟩ : ∃ x, r[j]? = some x := ⟨_, List.getElem?_eq_getElem h⟩
  have hxj : r[((j : Nat) : Int).toNat]? = some x := by rw [hjn]; exact hx
  have hwj := wrapI ((j : Int) + 1) (by omega)
  by_cases h32 : x = 32
  rotate_left
  · have t2 : (!((x.toNat : Int) == 32)) = true := by
      have : ((x.toNat : Int) == 32) = false := beq_false_of_ne fun h => h32 (UInt8.toNat_inj.1 (by have : (32 : UInt8).toNat = 32 := rfl; omega))
      rw [this]; rfl
    have t2' : ((x.toNat : Int) != 32) = true := t2
    have hn2 := take_ne hno hx h32
    refine pw_seq ?_; refine pw_seq ?_; refine pw_region ?_; refine yMd rfl ?_; refine yMd rfl ?_; refine yNs rfl ?_; refine yB rfl rfl rfl rfl ?_; refine yMd rfl ?_; rw [t1]; refine yMd rfl ?_; refine yMd rfl ?_
    refine yIs hxj (by omega) rfl rfl ?_; refine yB rfl rfl rfl rfl ?_; refine yPd rfl rfl ?_; refine yQ ?_; refine q_then ?_; rw [t2']; refine pw_ct rfl ?_; refine pw_skip ?_; refine pw_block ?_; refine pw_region ?_; refine yMd rfl ?_
    refine yB rfl rfl rfl rfl ?_; refine yAd rfl ?_; refine yQ ?_; refine q_blk ?_; refine q_then ?_
    exact ⟨j + 1, ⟨by omega, hn2⟩, by omega, rfl, ⟨.refl _, .refl _, .refl _, .of_eq (congrArg (fun n => SV.d (dI n)) hwj), trivial⟩, trivial, ⟨rfl, trivial⟩, rfl⟩
  subst h32
  have t2 : (!(((32 : UInt8).toNat : Int) == 32)) = false := rfl
  have t2' : (((32 : UInt8).toNat : Int) != 32) = false := rfl
  have hcb := cutB_at hno hx
  have eB : ctB 32 r = true := by rw [ctB, hcb]; rfl
  obtain ⟨T, eT⟩ : ∃ T, T = ctT 32 r := ⟨_, rfl⟩
  obtain ⟨S, eR⟩ : ∃ T, T = ctR 32 r := ⟨_, rfl⟩
  have eT2 : T = r.take j := by rw [eT, ctT, hcb]
  have eR2 : S = r.drop (j + 1) := by rw [eR, ctR, hcb]
  have hT : r.take ((j : Int)).toNat = T := by rw [hjn, eT2]
  have hD : r.drop ((j : Int)).toNat = 32 :: S := by
    obtain ⟨q1, q2⟩ := List.getElem?_eq_some_iff.1 hx
    rw [hjn, eR2, List.drop_eq_getElem_cons q1, q2]
  have hTl : T.length ≤ 900 := by rw [eT2, List.length_take]; omega
  have hSl : S.length + 1 ≤ r.length := by rw [eR2, List.length_drop]; omega
  have k2 := wRTerm T (by omega)
  have htm := rtm_tmP T
  have hle : (j : Int) ≤ r.length := by omega
  obtain ⟨⟨⟨c0, c1⟩, ok⟩, hc⟩ : ∃ q, q = rtm T := ⟨_, rfl⟩
  rw [← hc] at k2 htm
  obtain ⟨n, hn⟩ : ∃ n : Int, n = (j : Int) := ⟨_, rfl⟩
  rw [← hn] at t1 hxj hT hD hle ⊢
  have hn0 : 0 ≤ n := by omega
  clear hc hno hcb eT2 eR2 hx hj hjn hwj hn
  cases ok with
  | false =>
    rw [if_neg (by simp)] at htm
    have hts : tmS (neg, ctT 32 r) = none := by rw [← eT, tmS, htm]; rfl
    rw [parL_eq, finP_no hts] at hfin
    cases hfin
    refine pw_seq ?_; refine pw_seq ?_; refine pw_region ?_; refine yMd rfl ?_; refine yMd rfl ?_; refine yNs rfl ?_; refine yB rfl rfl rfl rfl ?_; refine yMd rfl ?_; rw [t1]; refine yMd rfl ?_; refine yMd rfl ?_
    refine yIs hxj hn0 rfl rfl ?_; refine yB rfl rfl rfl rfl ?_; refine yPd rfl rfl ?_; refine yQ ?_; refine pw_cf rfl ?_; refine pw_exit ?_; refine pw_seq ?_; refine pw_region ?_; refine yMd rfl ?_; refine yMd rfl ?_
    refine yS0h hn0 hle hT rfl rfl ?_; refine yC (k2) rfl rfl ?_; refine yMp rfl ?_; refine yX rfl rfl ?_; refine yX rfl rfl ?_; refine yZ (cs := [_, _]) rfl rfl ?_; refine yS (cs' := [_, _]) rfl rfl rfl rfl rfl ?_; refine yAd rfl ?_
    refine yQ ?_; refine pw_seq ?_; refine pw_seq ?_; refine pw_region ?_; refine yMd rfl ?_; refine yU rfl rfl rfl ?_; refine yQ ?_; refine pw_ct rfl ?_; refine pw_seq ?_; refine pw_region ?_; refine yAd rfl ?_; refine yAd rfl ?_
    refine yQ ?_; refine pw_ret ?_; refine q_then_ret ?_; refine q_blk_ret ?_; refine q_then_ret ?_; refine q_blk_ret ?_; refine q_then_ret ?_; rw [t2']
    exact q_ret _ (.tnil 2 rfl (.tmp rfl .nil)) rfl
  | true =>
  rw [if_pos rfl] at htm
  have u0 : ((32 :: S : Str) == []) = false := rfl
  cases neg with
  | false =>
    have hts : tmS (false, ctT 32 r) = some (c0, c1) := by rw [← eT, tmS, htm]; rfl
    have hz2 : ∀ c ∈ zs ++ [(c0, c1)], isC c.2 = true ∧ c.2.length ≤ 1000 := fun c hc => by
      rcases List.mem_append.1 hc with h1 | h1
      · exact hzs c h1
      · rw [List.mem_singleton.1 h1]
        have h5 := tmS_len hts
        rw [← eT] at h5
        exact ⟨tmS_isC hts, by have := h5.2; simp only at this ⊢; omega⟩
    cases hS : S with
    | nil =>
      subst hS
      rw [fin_bad eB (fun a X h => by rw [← eR] at h; cases h) hts] at hfin
      cases hfin
      have u1 : decide (((([32] : Str).length : Nat) : Int) < 3) = true := rfl
      refine pw_seq ?_; refine pw_seq ?_; refine pw_region ?_; refine yMd rfl ?_; refine yMd rfl ?_; refine yNs rfl ?_; refine yB rfl rfl rfl rfl ?_; refine yMd rfl ?_; rw [t1]; refine yMd rfl ?_; refine yMd rfl ?_
      refine yIs hxj hn0 rfl rfl ?_; refine yB rfl rfl rfl rfl ?_; refine yPd rfl rfl ?_; refine yQ ?_; refine pw_cf rfl ?_; refine pw_exit ?_; refine pw_seq ?_; refine pw_region ?_; refine yMd rfl ?_; refine yMd rfl ?_
      refine yS0h hn0 hle hT rfl rfl ?_; refine yC (k2) rfl rfl ?_; refine yMp rfl ?_; refine yX rfl rfl ?_; refine yX rfl rfl ?_; refine yZ (cs := [_, _]) rfl rfl ?_; refine yS (cs' := [_, _]) rfl rfl rfl rfl rfl ?_; refine yAd rfl ?_
      refine yQ ?_; refine pw_seq ?_; refine pw_seq ?_; refine pw_region ?_; refine yMd rfl ?_; refine yU rfl rfl rfl ?_; refine yQ ?_; refine pw_cf rfl ?_; refine pw_skip ?_; refine pw_seq ?_; refine pw_seq ?_; refine pw_region ?_
      refine yMd rfl ?_; refine yQ ?_; refine pw_cf rfl ?_; refine pw_skip ?_; refine pw_seq ?_; refine pw_region ?_; refine yMt rfl ?_; refine yLa (ys := [_, _]) rfl rfl rfl rfl ?_; refine yR (es := [[_, _]]) rfl rfl rfl rfl rfl ?_
      refine yT (es' := (zs ++ [(c0, c1)]).map dCf) (m := ((zs ++ [(c0, c1)]).map dCf).length) (by simp; omega) (by simp; omega) rfl rfl rfl rfl rfl (by simp) (by simp) ?_; refine yAt rfl ?_; refine yQ ?_; refine pw_seq ?_
      refine pw_region ?_; refine yMd rfl ?_; refine yMd rfl ?_; refine ySl0 hn0 hle hD rfl rfl ?_; refine yAd rfl ?_; refine yQ ?_; refine pw_seq ?_; refine pw_seq ?_; refine pw_region ?_; refine yMd rfl ?_; refine yBse rfl rfl ?_
      refine yQ ?_; refine pw_cf rfl ?_; refine pw_skip ?_; refine pw_seq ?_; refine pw_seq ?_; refine pw_region ?_; refine yMd rfl ?_; refine yNs rfl ?_; refine yB rfl rfl rfl rfl ?_; refine yMd rfl ?_; refine yO rfl ?_; refine yO rfl ?_
      refine yO rfl ?_; refine yO rfl ?_; refine yO rfl ?_; refine yO rfl ?_; refine yO rfl ?_; refine yO rfl ?_; refine yPd rfl rfl ?_; refine yQ ?_; refine pw_ct rfl ?_; refine pw_seq ?_; refine pw_region ?_; refine yAd rfl ?_
      refine yAd rfl ?_; refine yQ ?_; refine pw_ret ?_; refine q_then_ret ?_; refine q_blk_ret ?_; refine q_then_ret ?_; refine q_blk_ret ?_; refine q_then_ret ?_; rw [t2']; rw [u0]; rw [u1]
      exact q_ret _ (.tnil 2 rfl (.tmp rfl .nil)) rfl
    | cons a S1 =>
    cases hS1 : S1 with
    | nil =>
      subst hS1
      subst hS
      rw [fin_bad eB (fun a X h => by rw [← eR] at h; cases h) hts] at hfin
      cases hfin
      have u1 : decide (((([32, a] : Str).length : Nat) : Int) < 3) = true := rfl
      refine pw_seq ?_; refine pw_seq ?_; refine pw_region ?_; refine yMd rfl ?_; refine yMd rfl ?_; refine yNs rfl ?_; refine yB rfl rfl rfl rfl ?_; refine yMd rfl ?_; rw [t1]; refine yMd rfl ?_; refine yMd rfl ?_
      refine yIs hxj hn0 rfl rfl ?_; refine yB rfl rfl rfl rfl ?_; refine yPd rfl rfl ?_; refine yQ ?_; refine pw_cf rfl ?_; refine pw_exit ?_; refine pw_seq ?_; refine pw_region ?_; refine yMd rfl ?_; refine yMd rfl ?_
      refine yS0h hn0 hle hT rfl rfl ?_; refine yC (k2) rfl rfl ?_; refine yMp rfl ?_; refine yX rfl rfl ?_; refine yX rfl rfl ?_; refine yZ (cs := [_, _]) rfl rfl ?_; refine yS (cs' := [_, _]) rfl rfl rfl rfl rfl ?_; refine yAd rfl ?_
      refine yQ ?_; refine pw_seq ?_; refine pw_seq ?_; refine pw_region ?_; refine yMd rfl ?_; refine yU rfl rfl rfl ?_; refine yQ ?_; refine pw_cf rfl ?_; refine pw_skip ?_; refine pw_seq ?_; refine pw_seq ?_; refine pw_region ?_
      refine yMd rfl ?_; refine yQ ?_; refine pw_cf rfl ?_; refine pw_skip ?_; refine pw_seq ?_; refine pw_region ?_; refine yMt rfl ?_; refine yLa (ys := [_, _]) rfl rfl rfl rfl ?_; refine yR (es := [[_, _]]) rfl rfl rfl rfl rfl ?_
      refine yT (es' := (zs ++ [(c0, c1)]).map dCf) (m := ((zs ++ [(c0, c1)]).map dCf).length) (by simp; omega) (by simp; omega) rfl rfl rfl rfl rfl (by simp) (by simp) ?_; refine yAt rfl ?_; refine yQ ?_; refine pw_seq ?_
      refine pw_region ?_; refine yMd rfl ?_; refine yMd rfl ?_; refine ySl0 hn0 hle hD rfl rfl ?_; refine yAd rfl ?_; refine yQ ?_; refine pw_seq ?_; refine pw_seq ?_; refine pw_region ?_; refine yMd rfl ?_; refine yBse rfl rfl ?_
      refine yQ ?_; refine pw_cf rfl ?_; refine pw_skip ?_; refine pw_seq ?_; refine pw_seq ?_; refine pw_region ?_; refine yMd rfl ?_; refine yNs rfl ?_; refine yB rfl rfl rfl rfl ?_; refine yMd rfl ?_; refine yO rfl ?_; refine yO rfl ?_
      refine yO rfl ?_; refine yO rfl ?_; refine yO rfl ?_; refine yO rfl ?_; refine yO rfl ?_; refine yO rfl ?_; refine yPd rfl rfl ?_; refine yQ ?_; refine pw_ct rfl ?_; refine pw_seq ?_; refine pw_region ?_; refine yAd rfl ?_
      refine yAd rfl ?_; refine yQ ?_; refine pw_ret ?_; refine q_then_ret ?_; refine q_blk_ret ?_; refine q_then_ret ?_; refine q_blk_ret ?_; refine q_then_ret ?_; rw [t2']; rw [u0]; rw [u1]
      exact q_ret _ (.tnil 2 rfl (.tmp rfl .nil)) rfl
    | cons b X =>
    subst hS1
    subst hS
    have u1 : decide ((((32 :: a :: b :: X : Str).length : Nat) : Int) < 3) = false := decide_eq_false (by simp only [List.length_cons]; omega)
    have h3 : (32 :: a :: b :: X : Str).take ((3 : Int)).toNat = [32, a, b] := rfl
    have h3d : (32 :: a :: b :: X : Str).drop ((3 : Int)).toNat = X := rfl
    have h3l : (3 : Int) ≤ ((32 :: a :: b :: X : Str).length : Int) := by simp only [List.length_cons]; omega
    have h1a : (32 :: a :: b :: X : Str)[((1 : Int)).toNat]? = some a := rfl
    have hXl : X.length + 3 ≤ r.length := by simp only [List.length_cons] at hSl; omega
    by_cases hg : b = 32 ∧ (a = 43 ∨ a = 45)
    · obtain ⟨rfl, hg⟩ := hg
      rw [fin_sign eB eR.symm hg hts] at hfin
      have hln2 : (zs ++ [(c0, c1)]).length + X.length ≤ 900 := by rw [List.length_append]; simp only [List.length_cons, List.length_nil]; omega
      clear eR
      rcases hg with rfl | rfl
      · obtain ⟨Y, hY⟩ : ∃ Y, Y = (32 :: 43 :: 32 :: X : Str) := ⟨_, rfl⟩
        rw [← hY] at u0 u1 h3 h3d h3l h1a hD
        clear hY
        refine pw_seq ?_; refine pw_seq ?_; refine pw_region ?_; refine yMd rfl ?_; refine yMd rfl ?_; refine yNs rfl ?_; refine yB rfl rfl rfl rfl ?_; refine yMd rfl ?_; rw [t1]; refine yMd rfl ?_; refine yMd rfl ?_
        refine yIs hxj hn0 rfl rfl ?_; refine yB rfl rfl rfl rfl ?_; refine yPd rfl rfl ?_; refine yQ ?_; refine pw_cf rfl ?_; refine pw_exit ?_; refine pw_seq ?_; refine pw_region ?_; refine yMd rfl ?_; refine yMd rfl ?_
        refine yS0h hn0 hle hT rfl rfl ?_; refine yC (k2) rfl rfl ?_; refine yMp rfl ?_; refine yX rfl rfl ?_; refine yX rfl rfl ?_; refine yZ (cs := [_, _]) rfl rfl ?_; refine yS (cs' := [_, _]) rfl rfl rfl rfl rfl ?_; refine yAd rfl ?_
        refine yQ ?_; refine pw_seq ?_; refine pw_seq ?_; refine pw_region ?_; refine yMd rfl ?_; refine yU rfl rfl rfl ?_; refine yQ ?_; refine pw_cf rfl ?_; refine pw_skip ?_; refine pw_seq ?_; refine pw_seq ?_; refine pw_region ?_
        refine yMd rfl ?_; refine yQ ?_; refine pw_cf rfl ?_; refine pw_skip ?_; refine pw_seq ?_; refine pw_region ?_; refine yMt rfl ?_; refine yLa (ys := [_, _]) rfl rfl rfl rfl ?_; refine yR (es := [[_, _]]) rfl rfl rfl rfl rfl ?_
        refine yT (es' := (zs ++ [(c0, c1)]).map dCf) (m := ((zs ++ [(c0, c1)]).map dCf).length) (by simp; omega) (by simp; omega) rfl rfl rfl rfl rfl (by simp) (by simp) ?_; refine yAt rfl ?_; refine yQ ?_; refine pw_seq ?_
        refine pw_region ?_; refine yMd rfl ?_; refine yMd rfl ?_; refine ySl0 hn0 hle hD rfl rfl ?_; refine yAd rfl ?_; refine yQ ?_; refine pw_seq ?_; refine pw_seq ?_; refine pw_region ?_; refine yMd rfl ?_; refine yBse rfl rfl ?_
        refine yQ ?_; refine q_then ?_; rw [t2']; rw [u0]; refine pw_cf rfl ?_; refine pw_skip ?_; refine pw_seq ?_; refine pw_seq ?_; refine pw_region ?_; refine yMd rfl ?_; refine yNs rfl ?_; refine yB rfl rfl rfl rfl ?_
        refine yMd rfl ?_; rw [u1]; refine yMd rfl ?_; refine yS0h (by omega) h3l h3 rfl rfl ?_; refine yBsn rfl rfl ?_; refine yMd rfl ?_; refine yO rfl ?_; refine yO rfl ?_; refine yO rfl ?_; refine yVd rfl rfl ?_; refine yVd rfl rfl ?_
        refine yQ ?_; refine pw_cf rfl ?_; refine pw_skip ?_; refine pw_draw Tryz.mixed (by kernel_rfl) ?_; refine yMd rfl ?_; refine ySl0 (by omega) h3l h3d rfl rfl ?_; refine yMd rfl ?_; refine yIs h1a (by omega) rfl rfl ?_
        refine yB rfl rfl rfl rfl ?_; refine yAd rfl ?_; refine yAd rfl ?_; refine yQ ?_; refine q_blk ?_; refine q_then ?_
        exact ⟨(zs ++ [(c0, c1)], false, X), ⟨hln2, hz2, hfin⟩, by simp only; omega, rfl, ⟨.refl _, .refl _, .refl _, trivial⟩, trivial, ⟨rfl, trivial⟩, rfl⟩
      · obtain ⟨Y, hY⟩ : ∃ Y, Y = (32 :: 45 :: 32 :: X : Str) := ⟨_, rfl⟩
        rw [← hY] at u0 u1 h3 h3d h3l h1a hD
        clear hY
        refine pw_seq ?_; refine pw_seq ?_; refine pw_region ?_; refine yMd rfl ?_; refine yMd rfl ?_; refine yNs rfl ?_; refine yB rfl rfl rfl rfl ?_; refine yMd rfl ?_; rw [t1]; refine yMd rfl ?_; refine yMd rfl ?_
        refine yIs hxj hn0 rfl rfl ?_; refine yB rfl rfl rfl rfl ?_; refine yPd rfl rfl ?_; refine yQ ?_; refine pw_cf rfl ?_; refine pw_exit ?_; refine pw_seq ?_; refine pw_region ?_; refine yMd rfl ?_; refine yMd rfl ?_
        refine yS0h hn0 hle hT rfl rfl ?_; refine yC (k2) rfl rfl ?_; refine yMp rfl ?_; refine yX rfl rfl ?_; refine yX rfl rfl ?_; refine yZ (cs := [_, _]) rfl rfl ?_; refine yS (cs' := [_, _]) rfl rfl rfl rfl rfl ?_; refine yAd rfl ?_
        refine yQ ?_; refine pw_seq ?_; refine pw_seq ?_; refine pw_region ?_; refine yMd rfl ?_; refine yU rfl rfl rfl ?_; refine yQ ?_; refine pw_cf rfl ?_; refine pw_skip ?_; refine pw_seq ?_; refine pw_seq ?_; refine pw_region ?_
        refine yMd rfl ?_; refine yQ ?_; refine pw_cf rfl ?_; refine pw_skip ?_; refine pw_seq ?_; refine pw_region ?_; refine yMt rfl ?_; refine yLa (ys := [_, _]) rfl rfl rfl rfl ?_; refine yR (es := [[_, _]]) rfl rfl rfl rfl rfl ?_
        refine yT (es' := (zs ++ [(c0, c1)]).map dCf) (m := ((zs ++ [(c0, c1)]).map dCf).length) (by simp; omega) (by simp; omega) rfl rfl rfl rfl rfl (by simp) (by simp) ?_; refine yAt rfl ?_; refine yQ ?_; refine pw_seq ?_
        refine pw_region ?_; refine yMd rfl ?_; refine yMd rfl ?_; refine ySl0 hn0 hle hD rfl rfl ?_; refine yAd rfl ?_; refine yQ ?_; refine pw_seq ?_; refine pw_seq ?_; refine pw_region ?_; refine yMd rfl ?_; refine yBse rfl rfl ?_
        refine yQ ?_; refine q_then ?_; rw [t2']; rw [u0]; refine pw_cf rfl ?_; refine pw_skip ?_; refine pw_seq ?_; refine pw_seq ?_; refine pw_region ?_; refine yMd rfl ?_; refine yNs rfl ?_; refine yB rfl rfl rfl rfl ?_
        refine yMd rfl ?_; rw [u1]; refine yMd rfl ?_; refine yS0h (by omega) h3l h3 rfl rfl ?_; refine yBsn rfl rfl ?_; refine yMd rfl ?_; refine yMd rfl ?_; refine yS0h (by omega) h3l h3 rfl rfl ?_; refine yBsn rfl rfl ?_
        refine yPd rfl rfl ?_; refine yVd rfl rfl ?_; refine yQ ?_; refine pw_cf rfl ?_; refine pw_skip ?_; refine pw_draw Tryz.mixed (by kernel_rfl) ?_; refine yMd rfl ?_; refine ySl0 (by omega) h3l h3d rfl rfl ?_; refine yMd rfl ?_
        refine yIs h1a (by omega) rfl rfl ?_; refine yB rfl rfl rfl rfl ?_; refine yAd rfl ?_; refine yAd rfl ?_; refine yQ ?_; refine q_blk ?_; refine q_then ?_
        exact ⟨(zs ++ [(c0, c1)], true, X), ⟨hln2, hz2, hfin⟩, by simp only; omega, rfl, ⟨.refl _, .refl _, .refl _, trivial⟩, trivial, ⟨rfl, trivial⟩, rfl⟩
    · rw [fin_bad eB (fun a' X' h h2 => by rw [← eR] at h; cases h; exact hg ⟨rfl, h2⟩) hts] at hfin
      cases hfin
      have v1 : (!(([32, a, b] : Str) == [32, 43, 32])) = true := by
        rw [Bool.not_eq_true', beq_eq_false_iff_ne]
        intro e
        cases e
        exact hg ⟨rfl, .inl rfl⟩
      have v2 : (!(([32, a, b] : Str) == [32, 45, 32])) = true := by
        rw [Bool.not_eq_true', beq_eq_false_iff_ne]
        intro e
        cases e
        exact hg ⟨rfl, .inr rfl⟩
      obtain ⟨Y, hY⟩ : ∃ Y, Y = (32 :: a :: b :: X : Str) := ⟨_, rfl⟩
      rw [← hY] at u0 u1 h3 h3d h3l h1a hD
      clear hY
      refine pw_seq ?_; refine pw_seq ?_; refine pw_region ?_; refine yMd rfl ?_; refine yMd rfl ?_; refine yNs rfl ?_; refine yB rfl rfl rfl rfl ?_; refine yMd rfl ?_; rw [t1]; refine yMd rfl ?_; refine yMd rfl ?_
      refine yIs hxj hn0 rfl rfl ?_; refine yB rfl rfl rfl rfl ?_; refine yPd rfl rfl ?_; refine yQ ?_; refine pw_cf rfl ?_; refine pw_exit ?_; refine pw_seq ?_; refine pw_region ?_; refine yMd rfl ?_; refine yMd rfl ?_
      refine yS0h hn0 hle hT rfl rfl ?_; refine yC (k2) rfl rfl ?_; refine yMp rfl ?_; refine yX rfl rfl ?_; refine yX rfl rfl ?_; refine yZ (cs := [_, _]) rfl rfl ?_; refine yS (cs' := [_, _]) rfl rfl rfl rfl rfl ?_; refine yAd rfl ?_
      refine yQ ?_; refine pw_seq ?_; refine pw_seq ?_; refine pw_region ?_; refine yMd rfl ?_; refine yU rfl rfl rfl ?_; refine yQ ?_; refine pw_cf rfl ?_; refine pw_skip ?_; refine pw_seq ?_; refine pw_seq ?_; refine pw_region ?_
      refine yMd rfl ?_; refine yQ ?_; refine pw_cf rfl ?_; refine pw_skip ?_; refine pw_seq ?_; refine pw_region ?_; refine yMt rfl ?_; refine yLa (ys := [_, _]) rfl rfl rfl rfl ?_; refine yR (es := [[_, _]]) rfl rfl rfl rfl rfl ?_
      refine yT (es' := (zs ++ [(c0, c1)]).map dCf) (m := ((zs ++ [(c0, c1)]).map dCf).length) (by simp; omega) (by simp; omega) rfl rfl rfl rfl rfl (by simp) (by simp) ?_; refine yAt rfl ?_; refine yQ ?_; refine pw_seq ?_
      refine pw_region ?_; refine yMd rfl ?_; refine yMd rfl ?_; refine ySl0 hn0 hle hD rfl rfl ?_; refine yAd rfl ?_; refine yQ ?_; refine pw_seq ?_; refine pw_seq ?_; refine pw_region ?_; refine yMd rfl ?_; refine yBse rfl rfl ?_
      refine yQ ?_; refine q_then ?_; rw [t2']; rw [u0]; refine pw_cf rfl ?_; refine pw_skip ?_; refine pw_seq ?_; refine pw_seq ?_; refine pw_region ?_; refine yMd rfl ?_; refine yNs rfl ?_; refine yB rfl rfl rfl rfl ?_
      refine yMd rfl ?_; rw [u1]; refine yMd rfl ?_; refine yS0h (by omega) h3l h3 rfl rfl ?_; refine yBsn rfl rfl ?_; refine yMd rfl ?_; rw [v1]; refine yMd rfl ?_; refine yS0h (by omega) h3l h3 rfl rfl ?_; refine yBsn rfl rfl ?_
      refine yPd rfl rfl ?_; refine yVd rfl rfl ?_; refine yQ ?_; refine q_then ?_; rw [v2]; refine pw_ct rfl ?_; refine pw_seq ?_; refine pw_region ?_; refine yAd rfl ?_; refine yAd rfl ?_; refine yQ ?_; refine pw_ret ?_
      refine q_then_ret ?_; refine q_blk_ret ?_; refine q_then_ret ?_; refine q_blk_ret ?_; refine q_then_ret ?_
      exact q_ret _ (.tnil 2 rfl (.tmp rfl .nil)) rfl
  | true =>
    have k3 := wRNeg c1 (by have := (tmP_len htm).2; simp only at this; omega)
    obtain ⟨q, hq⟩ : ∃ q, q = canon (- val c1) := ⟨_, rfl⟩
    rw [← hq] at k3
    have hts : tmS (true, ctT 32 r) = some (c0, q) := by rw [← eT, tmS, htm, hq]; rfl
    have hz2 : ∀ c ∈ zs ++ [(c0, q)], isC c.2 = true ∧ c.2.length ≤ 1000 := fun c hc => by
      rcases List.mem_append.1 hc with h1 | h1
      · exact hzs c h1
      · rw [List.mem_singleton.1 h1]
        have h5 := tmS_len hts
        rw [← eT] at h5
        exact ⟨tmS_isC hts, by have := h5.2; simp only at this ⊢; omega⟩
    clear hq
    cases hS : S with
    | nil =>
      subst hS
      rw [fin_bad eB (fun a X h => by rw [← eR] at h; cases h) hts] at hfin
      cases hfin
      have u1 : decide (((([32] : Str).length : Nat) : Int) < 3) = true := rfl
      refine pw_seq ?_; refine pw_seq ?_; refine pw_region ?_; refine yMd rfl ?_; refine yMd rfl ?_; refine yNs rfl ?_; refine yB rfl rfl rfl rfl ?_; refine yMd rfl ?_; rw [t1]; refine yMd rfl ?_; refine yMd rfl ?_
      refine yIs hxj hn0 rfl rfl ?_; refine yB rfl rfl rfl rfl ?_; refine yPd rfl rfl ?_; refine yQ ?_; refine pw_cf rfl ?_; refine pw_exit ?_; refine pw_seq ?_; refine pw_region ?_; refine yMd rfl ?_; refine yMd rfl ?_
      refine yS0h hn0 hle hT rfl rfl ?_; refine yC (k2) rfl rfl ?_; refine yMp rfl ?_; refine yX rfl rfl ?_; refine yX rfl rfl ?_; refine yZ (cs := [_, _]) rfl rfl ?_; refine yS (cs' := [_, _]) rfl rfl rfl rfl rfl ?_; refine yAd rfl ?_
      refine yQ ?_; refine pw_seq ?_; refine pw_seq ?_; refine pw_region ?_; refine yMd rfl ?_; refine yU rfl rfl rfl ?_; refine yQ ?_; refine pw_cf rfl ?_; refine pw_skip ?_; refine pw_seq ?_; refine pw_seq ?_; refine pw_region ?_
      refine yMd rfl ?_; refine yQ ?_; refine pw_ct rfl ?_; refine pw_region ?_; refine yFb rfl ?_; refine yLd rfl rfl rfl ?_; refine yC (k3) rfl rfl ?_; refine yFb rfl ?_; refine ySd (cs' := [_, _]) rfl rfl rfl rfl ?_; refine yQ ?_
      refine pw_seq ?_; refine pw_region ?_; refine yMt rfl ?_; refine yLa (ys := [_, _]) rfl rfl rfl rfl ?_; refine yR (es := [[_, _]]) rfl rfl rfl rfl rfl ?_
      refine yT (es' := (zs ++ [(c0, q)]).map dCf) (m := ((zs ++ [(c0, q)]).map dCf).length) (by simp; omega) (by simp; omega) rfl rfl rfl rfl rfl (by simp) (by simp) ?_; refine yAt rfl ?_; refine yQ ?_; refine pw_seq ?_
      refine pw_region ?_; refine yMd rfl ?_; refine yMd rfl ?_; refine ySl0 hn0 hle hD rfl rfl ?_; refine yAd rfl ?_; refine yQ ?_; refine pw_seq ?_; refine pw_seq ?_; refine pw_region ?_; refine yMd rfl ?_; refine yBse rfl rfl ?_
      refine yQ ?_; refine pw_cf rfl ?_; refine pw_skip ?_; refine pw_seq ?_; refine pw_seq ?_; refine pw_region ?_; refine yMd rfl ?_; refine yNs rfl ?_; refine yB rfl rfl rfl rfl ?_; refine yMd rfl ?_; refine yO rfl ?_; refine yO rfl ?_
      refine yO rfl ?_; refine yO rfl ?_; refine yO rfl ?_; refine yO rfl ?_; refine yO rfl ?_; refine yO rfl ?_; refine yPd rfl rfl ?_; refine yQ ?_; refine pw_ct rfl ?_; refine pw_seq ?_; refine pw_region ?_; refine yAd rfl ?_
      refine yAd rfl ?_; refine yQ ?_; refine pw_ret ?_; refine q_then_ret ?_; refine q_blk_ret ?_; refine q_then_ret ?_; refine q_blk_ret ?_; refine q_then_ret ?_; rw [t2']; rw [u0]; rw [u1]
      exact q_ret _ (.tnil 2 rfl (.tmp rfl .nil)) rfl
    | cons a S1 =>
    cases hS1 : S1 with
    | nil =>
      subst hS1
      subst hS
      rw [fin_bad eB (fun a X h => by rw [← eR] at h; cases h) hts] at hfin
      cases hfin
      have u1 : decide (((([32, a] : Str).length : Nat) : Int) < 3) = true := rfl
      refine pw_seq ?_; refine pw_seq ?_; refine pw_region ?_; refine yMd rfl ?_; refine yMd rfl ?_; refine yNs rfl ?_; refine yB rfl rfl rfl rfl ?_; refine yMd rfl ?_; rw [t1]; refine yMd rfl ?_; refine yMd rfl ?_
      refine yIs hxj hn0 rfl rfl ?_; refine yB rfl rfl rfl rfl ?_; refine yPd rfl rfl ?_; refine yQ ?_; refine pw_cf rfl ?_; refine pw_exit ?_; refine pw_seq ?_; refine pw_region ?_; refine yMd rfl ?_; refine yMd rfl ?_
      refine yS0h hn0 hle hT rfl rfl ?_; refine yC (k2) rfl rfl ?_; refine yMp rfl ?_; refine yX rfl rfl ?_; refine yX rfl rfl ?_; refine yZ (cs := [_, _]) rfl rfl ?_; refine yS (cs' := [_, _]) rfl rfl rfl rfl rfl ?_; refine yAd rfl ?_
      refine yQ ?_; refine pw_seq ?_; refine pw_seq ?_; refine pw_region ?_; refine yMd rfl ?_; refine yU rfl rfl rfl ?_; refine yQ ?_; refine pw_cf rfl ?_; refine pw_skip ?_; refine pw_seq ?_; refine pw_seq ?_; refine pw_region ?_
      refine yMd rfl ?_; refine yQ ?_; refine pw_ct rfl ?_; refine pw_region ?_; refine yFb rfl ?_; refine yLd rfl rfl rfl ?_; refine yC (k3) rfl rfl ?_; refine yFb rfl ?_; refine ySd (cs' := [_, _]) rfl rfl rfl rfl ?_; refine yQ ?_
      refine pw_seq ?_; refine pw_region ?_; refine yMt rfl ?_; refine yLa (ys := [_, _]) rfl rfl rfl rfl ?_; refine yR (es := [[_, _]]) rfl rfl rfl rfl rfl ?_
      refine yT (es' := (zs ++ [(c0, q)]).map dCf) (m := ((zs ++ [(c0, q)]).map dCf).length) (by simp; omega) (by simp; omega) rfl rfl rfl rfl rfl (by simp) (by simp) ?_; refine yAt rfl ?_; refine yQ ?_; refine pw_seq ?_
      refine pw_region ?_; refine yMd rfl ?_; refine yMd rfl ?_; refine ySl0 hn0 hle hD rfl rfl ?_; refine yAd rfl ?_; refine yQ ?_; refine pw_seq ?_; refine pw_seq ?_; refine pw_region ?_; refine yMd rfl ?_; refine yBse rfl rfl ?_
      refine yQ ?_; refine pw_cf rfl ?_; refine pw_skip ?_; refine pw_seq ?_; refine pw_seq ?_; refine pw_region ?_; refine yMd rfl ?_; refine yNs rfl ?_; refine yB rfl rfl rfl rfl ?_; refine yMd rfl ?_; refine yO rfl ?_; refine yO rfl ?_
      refine yO rfl ?_; refine yO rfl ?_; refine yO rfl ?_; refine yO rfl ?_; refine yO rfl ?_; refine yO rfl ?_; refine yPd rfl rfl ?_; refine yQ ?_; refine pw_ct rfl ?_; refine pw_seq ?_; refine pw_region ?_; refine yAd rfl ?_
      refine yAd rfl ?_; refine yQ ?_; refine pw_ret ?_; refine q_then_ret ?_; refine q_blk_ret ?_; refine q_then_ret ?_; refine q_blk_ret ?_; refine q_then_ret ?_; rw [t2']; rw [u0]; rw [u1]
      exact q_ret _ (.tnil 2 rfl (.tmp rfl .nil)) rfl
    | cons b X =>
    subst hS1
    subst hS
    have u1 : decide ((((32 :: a :: b :: X : Str).length : Nat) : Int) < 3) = false := decide_eq_false (by simp only [List.length_cons]; omega)
    have h3 : (32 :: a :: b :: X : Str).take ((3 : Int)).toNat = [32, a, b] := rfl
    have h3d : (32 :: a :: b :: X : Str).drop ((3 : Int)).toNat = X := rfl
    have h3l : (3 : Int) ≤ ((32 :: a :: b :: X : Str).length : Int) := by simp only [List.length_cons]; omega
    have h1a : (32 :: a :: b :: X : Str)[((1 : Int)).toNat]? = some a := rfl
    have hXl : X.length + 3 ≤ r.length := by simp only [List.length_cons] at hSl; omega
    by_cases hg : b = 32 ∧ (a = 43 ∨ a = 45)
    · obtain ⟨rfl, hg⟩ := hg
      rw [fin_sign eB eR.symm hg hts] at hfin
      have hln2 : (zs ++ [(c0, q)]).length + X.length ≤ 900 := by rw [List.length_append]; simp only [List.length_cons, List.length_nil]; omega
      clear eR
      rcases hg with rfl | rfl
      · obtain ⟨Y, hY⟩ : ∃ Y, Y = (32 :: 43 :: 32 :: X : Str) := ⟨_, rfl⟩
        rw [← hY] at u0 u1 h3 h3d h3l h1a hD
        clear hY
        refine pw_seq ?_; refine pw_seq ?_; refine pw_region ?_; refine yMd rfl ?_; refine yMd rfl ?_; refine yNs rfl ?_; refine yB rfl rfl rfl rfl ?_; refine yMd rfl ?_; rw [t1]; refine yMd rfl ?_; refine yMd rfl ?_
        refine yIs hxj hn0 rfl rfl ?_; refine yB rfl rfl rfl rfl ?_; refine yPd rfl rfl ?_; refine yQ ?_; refine pw_cf rfl ?_; refine pw_exit ?_; refine pw_seq ?_; refine pw_region ?_; refine yMd rfl ?_; refine yMd rfl ?_
        refine yS0h hn0 hle hT rfl rfl ?_; refine yC (k2) rfl rfl ?_; refine yMp rfl ?_; refine yX rfl rfl ?_; refine yX rfl rfl ?_; refine yZ (cs := [_, _]) rfl rfl ?_; refine yS (cs' := [_, _]) rfl rfl rfl rfl rfl ?_; refine yAd rfl ?_
        refine yQ ?_; refine pw_seq ?_; refine pw_seq ?_; refine pw_region ?_; refine yMd rfl ?_; refine yU rfl rfl rfl ?_; refine yQ ?_; refine pw_cf rfl ?_; refine pw_skip ?_; refine pw_seq ?_; refine pw_seq ?_; refine pw_region ?_
        refine yMd rfl ?_; refine yQ ?_; refine pw_ct rfl ?_; refine pw_region ?_; refine yFb rfl ?_; refine yLd rfl rfl rfl ?_; refine yC (k3) rfl rfl ?_; refine yFb rfl ?_; refine ySd (cs' := [_, _]) rfl rfl rfl rfl ?_; refine yQ ?_
        refine pw_seq ?_; refine pw_region ?_; refine yMt rfl ?_; refine yLa (ys := [_, _]) rfl rfl rfl rfl ?_; refine yR (es := [[_, _]]) rfl rfl rfl rfl rfl ?_
        refine yT (es' := (zs ++ [(c0, q)]).map dCf) (m := ((zs ++ [(c0, q)]).map dCf).length) (by simp; omega) (by simp; omega) rfl rfl rfl rfl rfl (by simp) (by simp) ?_; refine yAt rfl ?_; refine yQ ?_; refine pw_seq ?_
        refine pw_region ?_; refine yMd rfl ?_; refine yMd rfl ?_; refine ySl0 hn0 hle hD rfl rfl ?_; refine yAd rfl ?_; refine yQ ?_; refine pw_seq ?_; refine pw_seq ?_; refine pw_region ?_; refine yMd rfl ?_; refine yBse rfl rfl ?_
        refine yQ ?_; refine q_then ?_; rw [t2']; rw [u0]; refine pw_cf rfl ?_; refine pw_skip ?_; refine pw_seq ?_; refine pw_seq ?_; refine pw_region ?_; refine yMd rfl ?_; refine yNs rfl ?_; refine yB rfl rfl rfl rfl ?_
        refine yMd rfl ?_; rw [u1]; refine yMd rfl ?_; refine yS0h (by omega) h3l h3 rfl rfl ?_; refine yBsn rfl rfl ?_; refine yMd rfl ?_; refine yO rfl ?_; refine yO rfl ?_; refine yO rfl ?_; refine yVd rfl rfl ?_; refine yVd rfl rfl ?_
        refine yQ ?_; refine pw_cf rfl ?_; refine pw_skip ?_; refine pw_draw Tryz.mixed (by kernel_rfl) ?_; refine yMd rfl ?_; refine ySl0 (by omega) h3l h3d rfl rfl ?_; refine yMd rfl ?_; refine yIs h1a (by omega) rfl rfl ?_
        refine yB rfl rfl rfl rfl ?_; refine yAd rfl ?_; refine yAd rfl ?_; refine yQ ?_; refine q_blk ?_; refine q_then ?_
        exact ⟨(zs ++ [(c0, q)], false, X), ⟨hln2, hz2, hfin⟩, by simp only; omega, rfl, ⟨.refl _, .refl _, .refl _, trivial⟩, trivial, ⟨rfl, trivial⟩, rfl⟩
      · obtain ⟨Y, hY⟩ : ∃ Y, Y = (32 :: 45 :: 32 :: X : Str) := ⟨_, rfl⟩
        rw [← hY] at u0 u1 h3 h3d h3l h1a hD
        clear hY
        refine pw_seq ?_; refine pw_seq ?_; refine pw_region ?_; refine yMd rfl ?_; refine yMd rfl ?_; refine yNs rfl ?_; refine yB rfl rfl rfl rfl ?_; refine yMd rfl ?_; rw [t1]; refine yMd rfl ?_; refine yMd rfl ?_
        refine yIs hxj hn0 rfl rfl ?_; refine yB rfl rfl rfl rfl ?_; refine yPd rfl rfl ?_; refine yQ ?_; refine pw_cf rfl ?_; refine pw_exit ?_; refine pw_seq ?_; refine pw_region ?_; refine yMd rfl ?_; refine yMd rfl ?_
        refine yS0h hn0 hle hT rfl rfl ?_; refine yC (k2) rfl rfl ?_; refine yMp rfl ?_; refine yX rfl rfl ?_; refine yX rfl rfl ?_; refine yZ (cs := [_, _]) rfl rfl ?_; refine yS (cs' := [_, _]) rfl rfl rfl rfl rfl ?_; refine yAd rfl ?_
        refine yQ ?_; refine pw_seq ?_; refine pw_seq ?_; refine pw_region ?_; refine yMd rfl ?_; refine yU rfl rfl rfl ?_; refine yQ ?_; refine pw_cf rfl ?_; refine pw_skip ?_; refine pw_seq ?_; refine pw_seq ?_; refine pw_region ?_
        refine yMd rfl ?_; refine yQ ?_; refine pw_ct rfl ?_; refine pw_region ?_; refine yFb rfl ?_; refine yLd rfl rfl rfl ?_; refine yC (k3) rfl rfl ?_; refine yFb rfl ?_; refine ySd (cs' := [_, _]) rfl rfl rfl rfl ?_; refine yQ ?_
        refine pw_seq ?_; refine pw_region ?_; refine yMt rfl ?_; refine yLa (ys := [_, _]) rfl rfl rfl rfl ?_; refine yR (es := [[_, _]]) rfl rfl rfl rfl rfl ?_
        refine yT (es' := (zs ++ [(c0, q)]).map dCf) (m := ((zs ++ [(c0, q)]).map dCf).length) (by simp; omega) (by simp; omega) rfl rfl rfl rfl rfl (by simp) (by simp) ?_; refine yAt rfl ?_; refine yQ ?_; refine pw_seq ?_
        refine pw_region ?_; refine yMd rfl ?_; refine yMd rfl ?_; refine ySl0 hn0 hle hD rfl rfl ?_; refine yAd rfl ?_; refine yQ ?_; refine pw_seq ?_; refine pw_seq ?_; refine pw_region ?_; refine yMd rfl ?_; refine yBse rfl rfl ?_
        refine yQ ?_; refine q_then ?_; rw [t2']; rw [u0]; refine pw_cf rfl ?_; refine pw_skip ?_; refine pw_seq ?_; refine pw_seq ?_; refine pw_region ?_; refine yMd rfl ?_; refine yNs rfl ?_; refine yB rfl rfl rfl rfl ?_
        refine yMd rfl ?_; rw [u1]; refine yMd rfl ?_; refine yS0h (by omega) h3l h3 rfl rfl ?_; refine yBsn rfl rfl ?_; refine yMd rfl ?_; refine yMd rfl ?_; refine yS0h (by omega) h3l h3 rfl rfl ?_; refine yBsn rfl rfl ?_
        refine yPd rfl rfl ?_; refine yVd rfl rfl ?_; refine yQ ?_; refine pw_cf rfl ?_; refine pw_skip ?_; refine pw_draw Tryz.mixed (by kernel_rfl) ?_; refine yMd rfl ?_; refine ySl0 (by omega) h3l h3d rfl rfl ?_; refine yMd rfl ?_
        refine yIs h1a (by omega) rfl rfl ?_; refine yB rfl rfl rfl rfl ?_; refine yAd rfl ?_; refine yAd rfl ?_; refine yQ ?_; refine q_blk ?_; refine q_then ?_
        exact ⟨(zs ++ [(c0, q)], true, X), ⟨hln2, hz2, hfin⟩, by simp only; omega, rfl, ⟨.refl _, .refl _, .refl _, trivial⟩, trivial, ⟨rfl, trivial⟩, rfl⟩
    · rw [fin_bad eB (fun a' X' h h2 => by rw [← eR] at h; cases h; exact hg ⟨rfl, h2⟩) hts] at hfin
      cases hfin
      have v1 : (!(([32, a, b] : Str) == [32, 43, 32])) = true := by
        rw [Bool.not_eq_true', beq_eq_false_iff_ne]
        intro e
        cases e
        exact hg ⟨rfl, .inl rfl⟩
      have v2 : (!(([32, a, b] : Str) == [32, 45, 32])) = true := by
        rw [Bool.not_eq_true', beq_eq_false_iff_ne]
        intro e
        cases e
        exact hg ⟨rfl, .inr rfl⟩
      obtain ⟨Y, hY⟩ : ∃ Y, Y = (32 :: a :: b :: X : Str) := ⟨_, rfl⟩
      rw [← hY] at u0 u1 h3 h3d h3l h1a hD
      clear hY
      refine pw_seq ?_; refine pw_seq ?_; refine pw_region ?_; refine yMd rfl ?_; refine yMd rfl ?_; refine yNs rfl ?_; refine yB rfl rfl rfl rfl ?_; refine yMd rfl ?_; rw [t1]; refine yMd rfl ?_; refine yMd rfl ?_
      refine yIs hxj hn0 rfl rfl ?_; refine yB rfl rfl rfl rfl ?_; refine yPd rfl rfl ?_; refine yQ ?_; refine pw_cf rfl ?_; refine pw_exit ?_; refine pw_seq ?_; refine pw_region ?_; refine yMd rfl ?_; refine yMd rfl ?_
      refine yS0h hn0 hle hT rfl rfl ?_; refine yC (k2) rfl rfl ?_; refine yMp rfl ?_; refine yX rfl rfl ?_; refine yX rfl rfl ?_; refine yZ (cs := [_, _]) rfl rfl ?_; refine yS (cs' := [_, _]) rfl rfl rfl rfl rfl ?_; refine yAd rfl ?_
      refine yQ ?_; refine pw_seq ?_; refine pw_seq ?_; refine pw_region ?_; refine yMd rfl ?_; refine yU rfl rfl rfl ?_; refine yQ ?_; refine pw_cf rfl ?_; refine pw_skip ?_; refine pw_seq ?_; refine pw_seq ?_; refine pw_region ?_
      refine yMd rfl ?_; refine yQ ?_; refine pw_ct rfl ?_; refine pw_region ?_; refine yFb rfl ?_; refine yLd rfl rfl rfl ?_; refine yC (k3) rfl rfl ?_; refine yFb rfl ?_; refine ySd (cs' := [_, _]) rfl rfl rfl rfl ?_; refine yQ ?_
      refine pw_seq ?_; refine pw_region ?_; refine yMt rfl ?_; refine yLa (ys := [_, _]) rfl rfl rfl rfl ?_; refine yR (es := [[_, _]]) rfl rfl rfl rfl rfl ?_
      refine yT (es' := (zs ++ [(c0, q)]).map dCf) (m := ((zs ++ [(c0, q)]).map dCf).length) (by simp; omega) (by simp; omega) rfl rfl rfl rfl rfl (by simp) (by simp) ?_; refine yAt rfl ?_; refine yQ ?_; refine pw_seq ?_
      refine pw_region ?_; refine yMd rfl ?_; refine yMd rfl ?_; refine ySl0 hn0 hle hD rfl rfl ?_; refine yAd rfl ?_; refine yQ ?_; refine pw_seq ?_; refine pw_seq ?_; refine pw_region ?_; refine yMd rfl ?_; refine yBse rfl rfl ?_
      refine yQ ?_; refine q_then ?_; rw [t2']; rw [u0]; refine pw_cf rfl ?_; refine pw_skip ?_; refine pw_seq ?_; refine pw_seq ?_; refine pw_region ?_; refine yMd rfl ?_; refine yNs rfl ?_; refine yB rfl rfl rfl rfl ?_
      refine yMd rfl ?_; rw [u1]; refine yMd rfl ?_; refine yS0h (by omega) h3l h3 rfl rfl ?_; refine yBsn rfl rfl ?_; refine yMd rfl ?_; rw [v1]; refine yMd rfl ?_; refine yS0h (by omega) h3l h3 rfl rfl ?_; refine yBsn rfl rfl ?_
      refine yPd rfl rfl ?_; refine yVd rfl rfl ?_; refine yQ ?_; refine q_then ?_; rw [v2]; refine pw_ct rfl ?_; refine pw_seq ?_; refine pw_region ?_; refine yAd rfl ?_; refine yAd rfl ?_; refine yQ ?_; refine pw_ret ?_
      refine q_then_ret ?_; refine q_blk_ret ?_; refine q_then_ret ?_; refine q_blk_ret ?_; refine q_then_ret ?_
      exact q_ret _ (.tnil 2 rfl (.tmp rfl .nil)) rfl
end Go.Proofs.YtmfeinilbjfnpaaGreatDoor
namespace Go.Proofs.YtmfeinilbjfnpaaGreatDoor
open Go.RowKit Px

theorem paR_len (s : Str) : (paR s).length ≤ s.length + 1 := by
  have h : (lsT s).length ≤ s.length + 1 := Nat.le_trans (List.length_filterMap_le _ _) (ptsL_len s).1
  have h2 := Nat.le_trans (nf_len (lsT s)) h
  unfold paR
  split
  · simp
  · split
    · split
      · simp
      · exact h2
    · simp
set_option maxRecDepth 20000 in
set_option maxHeartbeats 8000000 in
theorem lawText (s : Str) (e : List Cf) : PCalls Tryz.prog 9 [dS s, .sl 2 (e.map dCf)] (.d (dB true)) := by
  have k0 := wAwake
  by_cases hn : 300 < s.length
  · have t0 : decide ((s.length : Int) > 300) = true := decide_eq_true (by omega)
    refine pcalls_of_pw Tryz.func9 rfl Tryz.ntmps9 Tryz.results9 (by simp) fun B w0 => ?_
    refine pw_seq ?_; refine pw_region ?_; refine yAd rfl ?_; refine yQ ?_; refine pw_seq ?_; refine pw_seq ?_; refine pw_region ?_; refine yMd rfl ?_; refine yNs rfl ?_; refine yB rfl rfl rfl rfl ?_; refine yMd rfl ?_; rw [t0]
    refine yO rfl ?_; refine yO rfl ?_; refine yO rfl ?_; refine yPd rfl rfl ?_; refine yQ ?_; refine pw_ct rfl ?_; refine pw_seq ?_; refine pw_region ?_; refine yC (k0) rfl rfl ?_; refine yAd rfl ?_; refine yQ ?_; refine pw_ret ?_
    refine q_then_ret ?_
    exact q_ret _ (.tmp rfl .nil) rfl
  have t0 : decide ((s.length : Int) > 300) = false := decide_eq_false (by omega)
  have k1 := wGreatE [e] (by simp)
  simp only [List.map_cons, List.map_nil] at k1
  cases hg : [e].any bigE with
  | true =>
    rw [hg] at k1
    refine pcalls_of_pw Tryz.func9 rfl Tryz.ntmps9 Tryz.results9 (by simp) fun B w0 => ?_
    refine pw_seq ?_; refine pw_region ?_; refine yAd rfl ?_; refine yQ ?_; refine pw_seq ?_; refine pw_seq ?_; refine pw_region ?_; refine yMd rfl ?_; refine yNs rfl ?_; refine yB rfl rfl rfl rfl ?_; refine yMd rfl ?_; rw [t0]
    refine yMd rfl ?_; refine yR (es := [[_]]) rfl rfl rfl rfl rfl ?_; refine yC (k1) rfl rfl ?_; refine yVd rfl rfl ?_; refine yQ ?_; refine pw_ct rfl ?_; refine pw_seq ?_; refine pw_region ?_; refine yC (k0) rfl rfl ?_
    refine yAd rfl ?_; refine yQ ?_; refine pw_ret ?_; refine q_then_ret ?_
    exact q_ret _ (.tmp rfl .nil) rfl
  | false =>
  rw [hg] at k1
  simp only [List.any_cons, List.any_nil, Bool.or_eq_false_iff] at hg
  obtain ⟨g1, -⟩ := hg
  obtain ⟨a1, -, a2⟩ := bigE_small g1
  have hf : ∀ c ∈ e, c.2.length ≤ 400 := fun c hc => by have := (a2 c hc).2; omega
  have m1 := wPrintE e (by omega) hf
  have m2 := wRPrintE e (by omega) (fun c hc => by have := (a2 c hc).1; omega) hf
  have m3 := wParse s (by omega)
  have m4 := wRParse s (by omega)
  have hpl := paR_len s
  have q1 := wEqC (paR s) (paR s) (by omega) (by omega)
  rw [decide_eq_true rfl] at q1
  obtain ⟨l, hl⟩ : ∃ n, n = (paR s).map dCf := ⟨_, rfl⟩
  obtain ⟨i, hi⟩ : ∃ n, n = paE s := ⟨_, rfl⟩
  obtain ⟨t, ht⟩ : ∃ n, n = prV e := ⟨_, rfl⟩
  obtain ⟨j, hj⟩ : ∃ n, n = chE e := ⟨_, rfl⟩
  rw [← hl] at m3 m4 q1
  rw [← hi] at m3 m4
  rw [← ht, ← hj] at m1 m2
  have t1 : (i == i) = true := by simp
  have t2 : (t == t) = true := by simp
  have t3 : (j == j) = true := by simp
  clear hl hi ht hj hpl
  refine pcalls_of_pw Tryz.func9 rfl Tryz.ntmps9 Tryz.results9 (by simp) fun B w0 => ?_
  refine pw_seq ?_; refine pw_region ?_; refine yAd rfl ?_; refine yQ ?_; refine pw_seq ?_; refine pw_seq ?_; refine pw_region ?_; refine yMd rfl ?_; refine yNs rfl ?_; refine yB rfl rfl rfl rfl ?_; refine yMd rfl ?_; rw [t0]
  refine yMd rfl ?_; refine yR (es := [[_]]) rfl rfl rfl rfl rfl ?_; refine yC (k1) rfl rfl ?_; refine yVd rfl rfl ?_; refine yQ ?_; refine pw_cf rfl ?_; refine pw_skip ?_; refine pw_seq ?_; refine pw_region ?_; refine yMd rfl ?_
  refine yC (m3) rfl rfl ?_; refine yMp rfl ?_; refine yX rfl rfl ?_; refine yX rfl rfl ?_; refine yAd rfl ?_; refine yAd rfl ?_; refine yQ ?_; refine pw_seq ?_; refine pw_region ?_; refine yMd rfl ?_; refine yC (m4) rfl rfl ?_
  refine yMp rfl ?_; refine yX rfl rfl ?_; refine yX rfl rfl ?_; refine yAd rfl ?_; refine yAd rfl ?_; refine yQ ?_; refine pw_seq ?_; refine pw_region ?_; refine yMd rfl ?_; refine yC (m1) rfl rfl ?_; refine yMp rfl ?_
  refine yX rfl rfl ?_; refine yX rfl rfl ?_; refine yAd rfl ?_; refine yAd rfl ?_; refine yQ ?_; refine pw_seq ?_; refine pw_region ?_; refine yMd rfl ?_; refine yC (m2) rfl rfl ?_; refine yMp rfl ?_; refine yX rfl rfl ?_
  refine yX rfl rfl ?_; refine yAd rfl ?_; refine yAd rfl ?_; refine yQ ?_; refine pw_seq ?_; refine pw_region ?_; refine yMd rfl ?_; refine yMd rfl ?_; refine yC (q1) rfl rfl ?_; refine yMd rfl ?_; refine yMd rfl ?_
  refine yMd rfl ?_; refine yB rfl rfl rfl rfl ?_; refine yPd rfl rfl ?_; refine yMd rfl ?_; rw [t1]; refine yMd rfl ?_; refine yMd rfl ?_; refine yBse rfl rfl ?_; refine yPd rfl rfl ?_; refine yMd rfl ?_; rw [t2]; refine yMd rfl ?_
  refine yMd rfl ?_; refine yB rfl rfl rfl rfl ?_; refine yPd rfl rfl ?_; refine yMd rfl ?_; rw [t3]; refine yC (k0) rfl rfl ?_; refine yPd rfl rfl ?_; refine yAd rfl ?_; refine yQ ?_; refine pw_ret ?_
  exact q_ret _ (.tmp rfl .nil) rfl
end Go.Proofs.YtmfeinilbjfnpaaGreatDoor
