/- The walk of the law SchedulePaid, for this seat. -/
import Derived.Test.YtilbolgncpfmmaaPlainG
namespace Go.Proofs.Ytilbolgncpfmmaa
open Go.RowKit Px

set_option maxRecDepth 20000 in
set_option maxHeartbeats 4000000 in
theorem p19 (ps : List (Int × Int)) (we hs : List Int) (c : Int) : PCalls Try.prog 19 [dPs ps, .agg (dC we hs), dI c] (.d (dB true)) := by
  obtain ⟨gr, hgr⟩ : ∃ g, g = grtP ps := ⟨_, rfl⟩
  obtain ⟨gc, hgc⟩ : ∃ g, g = great we hs := ⟨_, rfl⟩
  have c1 := p51 ps
  have c2 := p20 we hs
  rw [← hgr] at c1
  rw [← hgc] at c2
  refine pcalls_of_pw Try.func19 rfl Try.ntmps19 Try.results19 (by simp) fun B w0 => ?_
  cases gr
  rotate_left
  · refine pw_seq ?_; refine pw_region ?_; refine yK (cs := [_, _]) rfl rfl ?_; refine yAd rfl ?_; refine yQ ?_; refine pw_seq ?_; refine pw_seq ?_; refine pw_region ?_; refine yMd rfl ?_; refine yC (c1) rfl rfl ?_; refine yMd rfl ?_
    refine yO rfl ?_; refine yO rfl ?_; refine yO rfl ?_; refine yPd rfl rfl ?_; refine yMd rfl ?_; refine yO rfl ?_; refine yO rfl ?_; refine yPd rfl rfl ?_; refine yQ ?_; refine pw_ct rfl ?_; refine pw_seq ?_; refine pw_region ?_
    refine yC (p43) rfl rfl ?_; refine yAd rfl ?_; refine yQ ?_; refine pw_ret ?_; refine q_then_ret ?_
    exact q_ret _ (.tmp rfl .nil) rfl
  refine pw_seq ?_; refine pw_region ?_; refine yK (cs := [_, _]) rfl rfl ?_; refine yAd rfl ?_; refine yQ ?_; refine pw_seq ?_; refine pw_seq ?_; refine pw_region ?_; refine yMd rfl ?_; refine yC (c1) rfl rfl ?_; refine yMd rfl ?_
  refine yMd rfl ?_; refine yN rfl ?_; refine yB rfl rfl rfl rfl ?_; refine yVd rfl rfl ?_; refine yMd rfl ?_
  by_cases hl : ps.length > 60
  · have h1 : decide (((ps.map dP).length : Int) > 60) = true := by simp; omega
    rw [h1]
    refine yO rfl ?_; refine yO rfl ?_; refine yPd rfl rfl ?_; refine yQ ?_; refine pw_ct rfl ?_; refine pw_seq ?_; refine pw_region ?_; refine yC (p43) rfl rfl ?_; refine yAd rfl ?_; refine yQ ?_; refine pw_ret ?_; refine q_then_ret ?_
    exact q_ret _ (.tmp rfl .nil) rfl
  have h1 : decide (((ps.map dP).length : Int) > 60) = false := by simp; omega
  rw [h1]
  cases gc
  rotate_left
  · refine yLa (ys := [_, _]) rfl rfl rfl rfl ?_; refine yC (c2) rfl rfl ?_; refine yVd rfl rfl ?_; refine yQ ?_; refine pw_ct rfl ?_; refine pw_seq ?_; refine pw_region ?_; refine yC (p43) rfl rfl ?_; refine yAd rfl ?_; refine yQ ?_
    refine pw_ret ?_; refine q_then_ret ?_
    exact q_ret _ (.tmp rfl .nil) rfl
  have d1 := p65 ps we hs c
  have hpa := paid_all (ps := ps) (we := we) (hs := hs) (c := c)
  have hno : pyE ps we hs c ≠ 0 → pyL ps we hs c = [] := fun h => by rw [pyL, if_neg h]
  obtain ⟨zs, hz⟩ : ∃ f, f = pyL ps we hs c := ⟨_, rfl⟩
  obtain ⟨e, he⟩ : ∃ f, f = pyE ps we hs c := ⟨_, rfl⟩
  rw [← hz, ← he] at d1 hpa hno
  refine yLa (ys := [_, _]) rfl rfl rfl rfl ?_; refine yC (c2) rfl rfl ?_; refine yVd rfl rfl ?_; refine yQ ?_; refine pw_cf rfl ?_; refine pw_skip ?_; refine pw_seq ?_; refine pw_region ?_; refine yMd rfl ?_
  refine yLa (ys := [_, _]) rfl rfl rfl rfl ?_; refine yMd rfl ?_; refine yC (d1) rfl rfl ?_; refine yMp rfl ?_; refine yX rfl rfl ?_; refine yX rfl rfl ?_; refine yAd rfl ?_; refine yAd rfl ?_; refine yQ ?_; refine pw_seq ?_
  refine pw_seq ?_; refine pw_region ?_; refine yMd rfl ?_; refine yB rfl rfl rfl rfl ?_; refine yQ ?_; refine q_then ?_
  by_cases h0 : e = 0
  rotate_left
  · have h2 : (e != 0) = true := by simpa using h0
    obtain rfl := hno h0
    rw [h2]
    refine pw_ct rfl ?_; refine pw_seq ?_; refine pw_region ?_; refine yMd rfl ?_; refine yN rfl ?_; refine yB rfl rfl rfl rfl ?_; refine yMd rfl ?_; refine yC (p43) rfl rfl ?_; refine yPd rfl rfl ?_; refine yAd rfl ?_; refine yQ ?_
    refine pw_ret ?_; refine q_then_ret ?_
    exact q_ret _ (.tmp rfl .nil) rfl
  subst h0
  obtain ⟨hlen, hzs, hpay⟩ := hpa rfl
  have hzl : zs.length = ps.length := by rw [hzs, pyG_len]
  have hget : ∀ j, j < ps.length → zs[j]? = some (adjV we hs (getP ps j).2 c) := fun j hj => by rw [hzs, pyG, List.getElem?_map, List.getElem?_range hj]; rfl
  have e1 : (((zs.map dZ).length : Int) != ((ps.map dP).length : Int)) = false := by simp [hzl]
  refine pw_cf rfl ?_; refine pw_skip ?_; refine pw_seq ?_; refine pw_seq ?_; refine pw_region ?_; refine yMd rfl ?_; refine yN rfl ?_; refine yMd rfl ?_; refine yN rfl ?_; refine yB rfl rfl rfl rfl ?_; refine yQ ?_; refine q_then ?_
  rw [e1]
  refine pw_cf rfl ?_; refine pw_skip ?_; refine pw_seq ?_; refine pw_seq ?_; refine pw_region ?_; refine yMd rfl ?_; refine yN rfl ?_; refine yMd rfl ?_; refine yQ ?_; refine pw_block ?_
  refine pw_loop (fun j : Nat => ⟨120, [(0, .d (dPs ps)), (2, .d (dI c)), (4, .bx 4 0), (7, .d (dIs zs)), (45, .d (dIs zs)), (46, .d (dI zs.length)), (47, .d (dI j))], [(4, [.d (dIs we), .d (dIs hs)])], []⟩) (fun j => j ≤ ps.length) (fun j => ps.length - j) 0 (Nat.zero_le _) ⟨rfl, ⟨.refl _, .refl _, .refl _, .refl _, .refl _, .of_eq ?_, .refl _, trivial⟩, ⟨⟨_, rfl, .refl _, .refl _, trivial⟩, trivial⟩, trivial, rfl⟩ ?_
  · exact congrArg (fun n : Nat => SV.d (dI n)) (by simp)
  intro j hj
  refine pw_seq ?_; refine pw_region ?_; refine yB rfl rfl rfl rfl ?_; refine yQ ?_; refine pw_seq ?_
  refine pw_cond rfl (fun h => ?_) (fun h => ?_)
  · simp at h
    have hjl : j < ps.length := by omega
    obtain ⟨q1, q2, q3, q4, q5, q6⟩ := hpay j hjl
    have ge := hget j hjl
    obtain ⟨⟨x, y⟩, hp⟩ : ∃ p, p = getP ps j := ⟨_, rfl⟩
    have gj := getP_at (ps := ps) (i := j) hjl
    rw [← hp] at gj q1 q2 q3 q4 q5 q6 ge
    obtain ⟨u, hu⟩ : ∃ u, u = adjV we hs y c := ⟨_, rfl⟩
    simp only [← hu] at q1 q2 q3 q4 q5 q6 ge
    have d2 := p30 we hs u
    rw [q1] at d2
    obtain ⟨bz, hbz⟩ : ∃ b, b = bizV we hs u := ⟨_, rfl⟩
    rw [← hbz] at d2 q2
    have ej := ix dP ps j j (x, y) rfl gj
    have eu := ix dZ zs j j u rfl ge
    have hw1 := wrapI ((j : Int) + 1) (by omega)
    refine pw_skip ?_; refine pw_seq ?_; refine pw_block ?_; refine pw_seq ?_; refine pw_region ?_; refine yMd rfl ?_; refine yW eu (by omega) rfl rfl ?_; refine yLr rfl rfl ?_; refine yAd rfl ?_; refine yAd rfl ?_; refine yQ ?_
    refine pw_seq ?_; refine pw_region ?_; refine yLa (ys := [_, _]) rfl rfl rfl rfl ?_; refine yMd rfl ?_; refine yC (d2) rfl rfl ?_; refine yMp rfl ?_; refine yX rfl rfl ?_; refine yX rfl rfl ?_; refine yAd rfl ?_; refine yAd rfl ?_
    refine yQ ?_; refine pw_seq ?_; refine pw_seq ?_; refine pw_region ?_; refine yMd rfl ?_; refine yB rfl rfl rfl rfl ?_; refine yMd rfl ?_; refine yMd rfl ?_; refine yB rfl rfl rfl rfl ?_; refine yMd rfl ?_
    by_cases hj0 : 0 < j
    · have t0 : decide ((j : Int) > 0) = true := decide_eq_true (by omega)
      have ge' := hget (j - 1) (by omega)
      have q7 := q6 (j - 1) (by omega)
      obtain ⟨u', hu'⟩ : ∃ u, u = adjV we hs (getP ps (j - 1)).2 c := ⟨_, rfl⟩
      rw [← hu'] at ge' q7
      have hw2 : IntKind.i64.wrap ((j : Int) - 1) = ((j - 1 : Nat) : Int) := by rw [wrapI _ (by omega)]; omega
      have eu' := ix dZ zs (IntKind.i64.wrap ((j : Int) - 1)) (j - 1) u' hw2 ge'
      have t2 : decide (u < u') = false := decide_eq_false (by omega)
      rw [t0]
      refine yMd rfl ?_; refine yMd rfl ?_; refine yMd rfl ?_; refine yB rfl rfl rfl rfl ?_; refine yW eu' (by rw [hw2]; omega) rfl rfl ?_; refine yLr rfl rfl ?_; refine yB rfl rfl rfl rfl ?_; refine yPd rfl rfl ?_; refine yVd rfl rfl ?_
      refine yMd rfl ?_
      rw [t2]
      rcases Decidable.em (c = 1) with rfl | k1
      · have t1 : (u != y) = false := by simpa using q3 rfl
        refine yMd rfl ?_; refine yB rfl rfl rfl rfl ?_; refine yMd rfl ?_; refine yO rfl ?_; refine yO rfl ?_; refine yVd rfl rfl ?_; refine yVd rfl rfl ?_; refine yMd rfl ?_; refine yMd rfl ?_; refine yB rfl rfl rfl rfl ?_
        refine yMd rfl ?_; refine yMd rfl ?_; refine yMd rfl ?_; refine yMd rfl ?_; refine yW ej (by omega) rfl rfl ?_; refine yFr rfl rfl ?_; refine yLr rfl rfl ?_; refine yB rfl rfl rfl rfl ?_; refine yPd rfl rfl ?_; refine yVd rfl rfl ?_
        refine yQ ?_; refine q_then ?_
        rw [t1]
        refine pw_cf rfl ?_; refine pw_skip ?_; refine pw_seq ?_; refine pw_region ?_; refine yMd rfl ?_; refine yB rfl rfl rfl rfl ?_; refine yMd rfl ?_; refine yO rfl ?_; refine yO rfl ?_; refine yO rfl ?_; refine yO rfl ?_
        refine yO rfl ?_; refine yO rfl ?_; refine yO rfl ?_; refine yVd rfl rfl ?_; refine yMd rfl ?_; refine yMd rfl ?_; refine yB rfl rfl rfl rfl ?_; refine yMd rfl ?_; refine yO rfl ?_; refine yO rfl ?_; refine yO rfl ?_
        refine yO rfl ?_; refine yO rfl ?_; refine yO rfl ?_; refine yO rfl ?_; refine yVd rfl rfl ?_; refine yVd rfl rfl ?_; refine yQ ?_; refine pw_cf rfl ?_; refine pw_skip ?_; refine pw_region ?_; refine yB rfl rfl rfl rfl ?_
        refine yMd rfl ?_; refine yQ ?_; refine q_then ?_
        refine ⟨j + 1, by omega, by omega, rfl, ⟨.refl _, .refl _, .refl _, .refl _, .refl _, .refl _, .of_eq (congrArg (fun n => SV.d (dI n)) hw1), trivial⟩, ⟨⟨_, rfl, .refl _, .refl _, trivial⟩, trivial⟩, trivial, rfl⟩
      obtain rfl := q2 k1
      have b1 : (c != 1) = true := by simpa using k1
      have b2 : (c == 1) = false := by simpa using k1
      refine yMd rfl ?_; refine yB rfl rfl rfl rfl ?_; refine yMd rfl ?_
      rw [b1]
      refine yMd rfl ?_; refine yU rfl rfl rfl ?_; refine yPd rfl rfl ?_; refine yVd rfl rfl ?_; refine yMd rfl ?_; refine yMd rfl ?_; refine yB rfl rfl rfl rfl ?_; refine yMd rfl ?_
      rw [b2]
      refine yO rfl ?_; refine yO rfl ?_; refine yO rfl ?_; refine yO rfl ?_; refine yO rfl ?_; refine yO rfl ?_; refine yO rfl ?_; refine yVd rfl rfl ?_; refine yVd rfl rfl ?_; refine yQ ?_; refine pw_cf rfl ?_; refine pw_skip ?_
      refine pw_seq ?_; refine pw_region ?_; refine yMd rfl ?_; refine yB rfl rfl rfl rfl ?_; refine yMd rfl ?_
      rcases Decidable.em (c = 2) with rfl | k2
      · have t1 : decide (u < y) = false := decide_eq_false (by have := q4 rfl; omega)
        refine yMd rfl ?_; refine yMd rfl ?_; refine yMd rfl ?_; refine yW ej (by omega) rfl rfl ?_; refine yFr rfl rfl ?_; refine yLr rfl rfl ?_; refine yB rfl rfl rfl rfl ?_; refine yPd rfl rfl ?_; refine yMd rfl ?_
        rw [t1]
        refine yMd rfl ?_; refine yB rfl rfl rfl rfl ?_; refine yMd rfl ?_; refine yO rfl ?_; refine yO rfl ?_; refine yO rfl ?_; refine yO rfl ?_; refine yO rfl ?_; refine yO rfl ?_; refine yO rfl ?_; refine yVd rfl rfl ?_
        refine yVd rfl rfl ?_; refine yQ ?_; refine pw_cf rfl ?_; refine pw_skip ?_; refine pw_region ?_; refine yB rfl rfl rfl rfl ?_; refine yMd rfl ?_; refine yQ ?_; refine q_then ?_
        refine ⟨j + 1, by omega, by omega, rfl, ⟨.refl _, .refl _, .refl _, .refl _, .refl _, .refl _, .of_eq (congrArg (fun n => SV.d (dI n)) hw1), trivial⟩, ⟨⟨_, rfl, .refl _, .refl _, trivial⟩, trivial⟩, trivial, rfl⟩
      have b3 : (c == 2) = false := by simpa using k2
      rw [b3]
      refine yO rfl ?_; refine yO rfl ?_; refine yO rfl ?_; refine yO rfl ?_; refine yO rfl ?_; refine yO rfl ?_; refine yO rfl ?_; refine yVd rfl rfl ?_; refine yMd rfl ?_; refine yMd rfl ?_; refine yB rfl rfl rfl rfl ?_
      refine yMd rfl ?_
      rcases Decidable.em (c = 4) with rfl | k3
      · have t1 : decide (u > y) = false := decide_eq_false (by have := q5 rfl; omega)
        refine yMd rfl ?_; refine yMd rfl ?_; refine yMd rfl ?_; refine yW ej (by omega) rfl rfl ?_; refine yFr rfl rfl ?_; refine yLr rfl rfl ?_; refine yB rfl rfl rfl rfl ?_; refine yPd rfl rfl ?_; refine yVd rfl rfl ?_; refine yQ ?_
        refine q_then ?_
        rw [t1]
        refine pw_cf rfl ?_; refine pw_skip ?_; refine pw_region ?_; refine yB rfl rfl rfl rfl ?_; refine yMd rfl ?_; refine yQ ?_; refine q_then ?_
        refine ⟨j + 1, by omega, by omega, rfl, ⟨.refl _, .refl _, .refl _, .refl _, .refl _, .refl _, .of_eq (congrArg (fun n => SV.d (dI n)) hw1), trivial⟩, ⟨⟨_, rfl, .refl _, .refl _, trivial⟩, trivial⟩, trivial, rfl⟩
      have b4 : (c == 4) = false := by simpa using k3
      rw [b4]
      refine yO rfl ?_; refine yO rfl ?_; refine yO rfl ?_; refine yO rfl ?_; refine yO rfl ?_; refine yO rfl ?_; refine yO rfl ?_; refine yVd rfl rfl ?_; refine yVd rfl rfl ?_; refine yQ ?_; refine pw_cf rfl ?_; refine pw_skip ?_
      refine pw_region ?_; refine yB rfl rfl rfl rfl ?_; refine yMd rfl ?_; refine yQ ?_; refine q_then ?_
      refine ⟨j + 1, by omega, by omega, rfl, ⟨.refl _, .refl _, .refl _, .refl _, .refl _, .refl _, .of_eq (congrArg (fun n => SV.d (dI n)) hw1), trivial⟩, ⟨⟨_, rfl, .refl _, .refl _, trivial⟩, trivial⟩, trivial, rfl⟩
    · have t0 : decide ((j : Int) > 0) = false := decide_eq_false (by omega)
      rw [t0]
      rcases Decidable.em (c = 1) with rfl | k1
      · have t1 : (u != y) = false := by simpa using q3 rfl
        refine yO rfl ?_; refine yO rfl ?_; refine yO rfl ?_; refine yO rfl ?_; refine yO rfl ?_; refine yO rfl ?_; refine yO rfl ?_; refine yVd rfl rfl ?_; refine yVd rfl rfl ?_; refine yMd rfl ?_; refine yMd rfl ?_
        refine yB rfl rfl rfl rfl ?_; refine yMd rfl ?_; refine yO rfl ?_; refine yO rfl ?_; refine yVd rfl rfl ?_; refine yVd rfl rfl ?_; refine yMd rfl ?_; refine yMd rfl ?_; refine yB rfl rfl rfl rfl ?_; refine yMd rfl ?_
        refine yMd rfl ?_; refine yMd rfl ?_; refine yMd rfl ?_; refine yW ej (by omega) rfl rfl ?_; refine yFr rfl rfl ?_; refine yLr rfl rfl ?_; refine yB rfl rfl rfl rfl ?_; refine yPd rfl rfl ?_; refine yVd rfl rfl ?_; refine yQ ?_
        refine q_then ?_
        rw [t1]
        refine pw_cf rfl ?_; refine pw_skip ?_; refine pw_seq ?_; refine pw_region ?_; refine yMd rfl ?_; refine yB rfl rfl rfl rfl ?_; refine yMd rfl ?_; refine yO rfl ?_; refine yO rfl ?_; refine yO rfl ?_; refine yO rfl ?_
        refine yO rfl ?_; refine yO rfl ?_; refine yO rfl ?_; refine yVd rfl rfl ?_; refine yMd rfl ?_; refine yMd rfl ?_; refine yB rfl rfl rfl rfl ?_; refine yMd rfl ?_; refine yO rfl ?_; refine yO rfl ?_; refine yO rfl ?_
        refine yO rfl ?_; refine yO rfl ?_; refine yO rfl ?_; refine yO rfl ?_; refine yVd rfl rfl ?_; refine yVd rfl rfl ?_; refine yQ ?_; refine pw_cf rfl ?_; refine pw_skip ?_; refine pw_region ?_; refine yB rfl rfl rfl rfl ?_
        refine yMd rfl ?_; refine yQ ?_; refine q_then ?_
        refine ⟨j + 1, by omega, by omega, rfl, ⟨.refl _, .refl _, .refl _, .refl _, .refl _, .refl _, .of_eq (congrArg (fun n => SV.d (dI n)) hw1), trivial⟩, ⟨⟨_, rfl, .refl _, .refl _, trivial⟩, trivial⟩, trivial, rfl⟩
      obtain rfl := q2 k1
      have b1 : (c != 1) = true := by simpa using k1
      have b2 : (c == 1) = false := by simpa using k1
      refine yO rfl ?_; refine yO rfl ?_; refine yO rfl ?_; refine yO rfl ?_; refine yO rfl ?_; refine yO rfl ?_; refine yO rfl ?_; refine yVd rfl rfl ?_; refine yVd rfl rfl ?_; refine yMd rfl ?_; refine yMd rfl ?_
      refine yB rfl rfl rfl rfl ?_; refine yMd rfl ?_
      rw [b1]
      refine yMd rfl ?_; refine yU rfl rfl rfl ?_; refine yPd rfl rfl ?_; refine yVd rfl rfl ?_; refine yMd rfl ?_; refine yMd rfl ?_; refine yB rfl rfl rfl rfl ?_; refine yMd rfl ?_
      rw [b2]
      refine yO rfl ?_; refine yO rfl ?_; refine yO rfl ?_; refine yO rfl ?_; refine yO rfl ?_; refine yO rfl ?_; refine yO rfl ?_; refine yVd rfl rfl ?_; refine yVd rfl rfl ?_; refine yQ ?_; refine pw_cf rfl ?_; refine pw_skip ?_
      refine pw_seq ?_; refine pw_region ?_; refine yMd rfl ?_; refine yB rfl rfl rfl rfl ?_; refine yMd rfl ?_
      rcases Decidable.em (c = 2) with rfl | k2
      · have t1 : decide (u < y) = false := decide_eq_false (by have := q4 rfl; omega)
        refine yMd rfl ?_; refine yMd rfl ?_; refine yMd rfl ?_; refine yW ej (by omega) rfl rfl ?_; refine yFr rfl rfl ?_; refine yLr rfl rfl ?_; refine yB rfl rfl rfl rfl ?_; refine yPd rfl rfl ?_; refine yMd rfl ?_
        rw [t1]
        refine yMd rfl ?_; refine yB rfl rfl rfl rfl ?_; refine yMd rfl ?_; refine yO rfl ?_; refine yO rfl ?_; refine yO rfl ?_; refine yO rfl ?_; refine yO rfl ?_; refine yO rfl ?_; refine yO rfl ?_; refine yVd rfl rfl ?_
        refine yVd rfl rfl ?_; refine yQ ?_; refine pw_cf rfl ?_; refine pw_skip ?_; refine pw_region ?_; refine yB rfl rfl rfl rfl ?_; refine yMd rfl ?_; refine yQ ?_; refine q_then ?_
        refine ⟨j + 1, by omega, by omega, rfl, ⟨.refl _, .refl _, .refl _, .refl _, .refl _, .refl _, .of_eq (congrArg (fun n => SV.d (dI n)) hw1), trivial⟩, ⟨⟨_, rfl, .refl _, .refl _, trivial⟩, trivial⟩, trivial, rfl⟩
      have b3 : (c == 2) = false := by simpa using k2
      rw [b3]
      refine yO rfl ?_; refine yO rfl ?_; refine yO rfl ?_; refine yO rfl ?_; refine yO rfl ?_; refine yO rfl ?_; refine yO rfl ?_; refine yVd rfl rfl ?_; refine yMd rfl ?_; refine yMd rfl ?_; refine yB rfl rfl rfl rfl ?_
      refine yMd rfl ?_
      rcases Decidable.em (c = 4) with rfl | k3
      · have t1 : decide (u > y) = false := decide_eq_false (by have := q5 rfl; omega)
        refine yMd rfl ?_; refine yMd rfl ?_; refine yMd rfl ?_; refine yW ej (by omega) rfl rfl ?_; refine yFr rfl rfl ?_; refine yLr rfl rfl ?_; refine yB rfl rfl rfl rfl ?_; refine yPd rfl rfl ?_; refine yVd rfl rfl ?_; refine yQ ?_
        refine q_then ?_
        rw [t1]
        refine pw_cf rfl ?_; refine pw_skip ?_; refine pw_region ?_; refine yB rfl rfl rfl rfl ?_; refine yMd rfl ?_; refine yQ ?_; refine q_then ?_
        refine ⟨j + 1, by omega, by omega, rfl, ⟨.refl _, .refl _, .refl _, .refl _, .refl _, .refl _, .of_eq (congrArg (fun n => SV.d (dI n)) hw1), trivial⟩, ⟨⟨_, rfl, .refl _, .refl _, trivial⟩, trivial⟩, trivial, rfl⟩
      have b4 : (c == 4) = false := by simpa using k3
      rw [b4]
      refine yO rfl ?_; refine yO rfl ?_; refine yO rfl ?_; refine yO rfl ?_; refine yO rfl ?_; refine yO rfl ?_; refine yO rfl ?_; refine yVd rfl rfl ?_; refine yVd rfl rfl ?_; refine yQ ?_; refine pw_cf rfl ?_; refine pw_skip ?_
      refine pw_region ?_; refine yB rfl rfl rfl rfl ?_; refine yMd rfl ?_; refine yQ ?_; refine q_then ?_
      refine ⟨j + 1, by omega, by omega, rfl, ⟨.refl _, .refl _, .refl _, .refl _, .refl _, .refl _, .of_eq (congrArg (fun n => SV.d (dI n)) hw1), trivial⟩, ⟨⟨_, rfl, .refl _, .refl _, trivial⟩, trivial⟩, trivial, rfl⟩
  · refine pw_exit ?_; refine pw_seq ?_; refine pw_region ?_; refine yC (p43) rfl rfl ?_; refine yAd rfl ?_; refine yQ ?_; refine pw_ret ?_
    exact q_ret _ (.tmp rfl .nil) rfl
theorem paid_law (ps : List (Int × Int)) (we hs : List Int) (c : Int) (w : World) (v u : Value) (hv : DRep (fun _ _ => True) w v (dPs ps)) (hu : DRep (fun _ _ => True) w u (.agg (dC we hs))) : Calls Try.prog 19 #[v, u, .int .i64 c] w fun e w' => e = .returned (.bool true) ∧ Below w.heap.size w w' :=
  calls_of_true (p19 ps we hs c) w [v, u, .int .i64 c] rfl fun i v' x hv' hx => by
    match i, hv', hx with
    | 0, hv', hx => cases hv'; cases hx; exact hv
    | 1, hv', hx => cases hv'; cases hx; exact hu
    | 2, hv', hx => cases hv'; cases hx; exact .val _ rfl
    | i + 3, hv', hx => simp at hv'
end Go.Proofs.Ytilbolgncpfmmaa
