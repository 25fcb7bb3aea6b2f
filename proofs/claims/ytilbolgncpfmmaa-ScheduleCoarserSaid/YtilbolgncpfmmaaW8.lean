/- The walk of tranchelaw09's awake, for this seat. -/
import Derived.Test.YtilbolgncpfmmaaW7
namespace Go.Proofs.Ytilbolgncpfmmaa
open Go.RowKit Px

theorem aw_in1 : inR 19737 19966 3 1 3 = [19874, 19782] := by
  rw [inR_yes (by decide) (by decide) (by decide) (by decide) (by decide), inR_yes (by decide) (by decide) (by decide) (by decide) (by decide), inR_lo (by decide)]
  decide
theorem aw_in2 : inR 19737 19966 3 2 3 = [19828, 19919] := by
  rw [inR_yes (by decide) (by decide) (by decide) (by decide) (by decide), inR_yes (by decide) (by decide) (by decide) (by decide) (by decide), inR_hi (by decide)]
  decide
theorem aw_b1 : bE 19737 19966 3 1 = 0 ∧ bL 19737 19966 3 1 = [(19737, 19782), (19782, 19874), (19874, 19966)] := by
  have h1 : sRight 19737 19966 = true := by decide
  have h2 : sck true 3 1 = 0 := by decide
  refine ⟨by rw [bE_of h1 h2, aw_in1]; decide, ?_⟩
  rw [bL_of h1 h2 (by rw [aw_in1]; decide), eL, if_neg (by decide), aw_in1]
  decide
theorem aw_b2 : bE 19737 19966 3 2 = 0 ∧ bL 19737 19966 3 2 = [(19737, 19828), (19828, 19919), (19919, 19966)] := by
  have h1 : sRight 19737 19966 = true := by decide
  have h2 : sck true 3 2 = 0 := by decide
  refine ⟨by rw [bE_of h1 h2, aw_in2]; decide, ?_⟩
  rw [bL_of h1 h2 (by rw [aw_in2]; decide), eL, if_pos (by decide), aw_in2]
  decide
abbrev awL : List (Int × Int) := [(19737, 19782), (19782, 19874), (19874, 19966)]
abbrev awM : List (Int × Int) := [(19737, 19828), (19828, 19919), (19919, 19966)]

set_option maxRecDepth 40000 in
set_option maxHeartbeats 2000000 in
theorem p43 : PCalls Try.prog 43 [] (.d (dB true)) := by
  have d1 : PCalls Try.prog 89 [dI 2024, dI 1, dI 15] (.d (dI 19737)) := (show ofV 2024 1 15 = 19737 by decide) ▸ p89 2024 1 15
  have d2 : PCalls Try.prog 89 [dI 2024, dI 2, dI 29] (.d (dI 19782)) := (show ofV 2024 2 29 = 19782 by decide) ▸ p89 2024 2 29
  have d3 : PCalls Try.prog 89 [dI 2024, dI 5, dI 31] (.d (dI 19874)) := (show ofV 2024 5 31 = 19874 by decide) ▸ p89 2024 5 31
  have d4 : PCalls Try.prog 89 [dI 2024, dI 8, dI 31] (.d (dI 19966)) := (show ofV 2024 8 31 = 19966 by decide) ▸ p89 2024 8 31
  have d5 : PCalls Try.prog 89 [dI 2024, dI 4, dI 15] (.d (dI 19828)) := (show ofV 2024 4 15 = 19828 by decide) ▸ p89 2024 4 15
  have d6 : PCalls Try.prog 89 [dI 2024, dI 7, dI 15] (.d (dI 19919)) := (show ofV 2024 7 15 = 19919 by decide) ▸ p89 2024 7 15
  have d7 : PCalls Try.prog 89 [dI 2023, dI 11, dI 29] (.d (dI 19690)) := (show ofV 2023 11 29 = 19690 by decide) ▸ p89 2023 11 29
  have b1 : PCalls Try.prog 40 [.agg [dI 19737, dI 19966], dI 3, dI 1] (.tup [dPs awL, dI 0]) := by have := p40 19737 19966 3 1; rwa [aw_b1.1, aw_b1.2] at this
  have b2 : PCalls Try.prog 40 [.agg [dI 19737, dI 19966], dI 3, dI 2] (.tup [dPs awM, dI 0]) := by have := p40 19737 19966 3 2; rwa [aw_b2.1, aw_b2.2] at this
  have i1 : PCalls Try.prog 45 [dPs awL, dI 3] (.tup [dIs [0], dI 0]) := by have := p45 awL 3; rwa [show irE awL 3 = 0 by decide, show irL awL 3 = [0] by decide] at this
  have r1 : PCalls Try.prog 50 [dPs awL, dI 0, dI 3, dI 1] (.tup [.agg [dI 19690, dI 19782], dI 0]) := by have := p50 awL 0 3 1; rwa [show rgR awL 0 3 1 = ((19690, 19782), 0) by decide] at this
  have q1 : PCalls Try.prog 42 [dPs awL, dPs awL] (.d (dB true)) := by have := p42 awL awL; rwa [show (awL == awL) = true by decide] at this
  have q2 : PCalls Try.prog 42 [dPs awM, dPs awM] (.d (dB true)) := by have := p42 awM awM; rwa [show (awM == awM) = true by decide] at this
  have q3 : PCalls Try.prog 59 [dIs [0], dIs [0]] (.d (dB true)) := by have := p59 [0] [0] (by decide); rwa [show (([0] : List Int) == [0]) = true by decide] at this
  refine pcalls_of_pw Try.func43 rfl Try.ntmps43 Try.results43 (by simp) fun B w0 => ?_
  refine pw_seq ?_; refine pw_region ?_; refine yAd rfl ?_; refine yQ ?_; refine pw_seq ?_; refine pw_region ?_; refine yC (d1) rfl rfl ?_; refine yC (d2) rfl rfl ?_; refine yC (d3) rfl rfl ?_; refine yC (d4) rfl rfl ?_
  refine yAd rfl ?_; refine yAd rfl ?_; refine yAd rfl ?_; refine yAd rfl ?_; refine yQ ?_; refine pw_seq ?_; refine pw_region ?_; refine yMd rfl ?_; refine yMd rfl ?_; refine yG (ys := [_, _]) rfl rfl ?_
  refine yZ (cs := [_, _]) rfl rfl ?_; refine yS (cs' := [_, _]) rfl rfl rfl rfl rfl ?_; refine yQ ?_; refine pw_seq ?_; refine pw_region ?_; refine yLa (ys := [_, _]) rfl rfl rfl rfl ?_; refine yC (b1) rfl rfl ?_; refine yMp rfl ?_
  refine yX rfl rfl ?_; refine yX rfl rfl ?_; refine yAd rfl ?_; refine yAd rfl ?_; refine yQ ?_; refine pw_seq ?_; refine pw_region ?_; refine yLa (ys := [_, _]) rfl rfl rfl rfl ?_; refine yC (b2) rfl rfl ?_; refine yMp rfl ?_
  refine yX rfl rfl ?_; refine yX rfl rfl ?_; refine yAd rfl ?_; refine yAd rfl ?_; refine yQ ?_; refine pw_seq ?_; refine pw_region ?_; refine yMd rfl ?_; refine yC (i1) rfl rfl ?_; refine yMp rfl ?_; refine yX rfl rfl ?_
  refine yX rfl rfl ?_; refine yAd rfl ?_; refine yAd rfl ?_; refine yQ ?_; refine pw_seq ?_; refine pw_region ?_; refine yMd rfl ?_; refine yC (r1) rfl rfl ?_; refine yMp rfl ?_; refine yX rfl rfl ?_; refine yX rfl rfl ?_
  refine yZ (cs := [_, _]) rfl rfl ?_; refine yS (cs' := [_, _]) rfl rfl rfl rfl rfl ?_; refine yAd rfl ?_; refine yQ ?_; refine pw_seq ?_; refine pw_region ?_; refine yC (d5) rfl rfl ?_; refine yC (d6) rfl rfl ?_; refine yAd rfl ?_
  refine yAd rfl ?_; refine yQ ?_; refine pw_seq ?_; refine pw_draw Try.mixed (by kernel_rfl) ?_; refine yMd rfl ?_; refine yMd rfl ?_; refine yMd rfl ?_; refine yMd rfl ?_; refine yI rfl rfl rfl ?_; refine yB rfl rfl rfl rfl ?_
  refine yMd rfl ?_; refine yMd rfl ?_; refine yMd rfl ?_; refine yMd rfl ?_; refine yG (ys := [_, _]) rfl rfl ?_; refine yMd rfl ?_; refine yMd rfl ?_; refine yG (ys := [_, _]) rfl rfl ?_; refine yMd rfl ?_; refine yMd rfl ?_
  refine yG (ys := [_, _]) rfl rfl ?_; refine yR (es := [[_, _], [_, _], [_, _]]) rfl rfl rfl rfl rfl ?_; refine yC (q1) rfl rfl ?_; refine yPd rfl rfl ?_; refine yMd rfl ?_; refine yMd rfl ?_; refine yMd rfl ?_; refine yMd rfl ?_
  refine yG (ys := [_, _]) rfl rfl ?_; refine yMd rfl ?_; refine yMd rfl ?_; refine yG (ys := [_, _]) rfl rfl ?_; refine yMd rfl ?_; refine yMd rfl ?_; refine yG (ys := [_, _]) rfl rfl ?_
  refine yR (es := [[_, _], [_, _], [_, _]]) rfl rfl rfl rfl rfl ?_; refine yC (q2) rfl rfl ?_; refine yPd rfl rfl ?_; refine yMd rfl ?_; refine yMd rfl ?_; refine yR (es := [[_]]) rfl rfl rfl rfl rfl ?_; refine yC (q3) rfl rfl ?_
  refine yPd rfl rfl ?_; refine yMd rfl ?_; refine yLa (ys := [_, _]) rfl rfl rfl rfl ?_; refine yC (d7) rfl rfl ?_; refine yMd rfl ?_; refine yG (ys := [_, _]) rfl rfl ?_; refine yBA (eqlR _ _ _ _ _ _) rfl rfl rfl rfl rfl ?_
  refine yPd rfl rfl ?_; refine yAd rfl ?_; refine yQ ?_; refine pw_ret ?_
  exact q_end _ (.tmp rfl .nil) rfl
end Go.Proofs.Ytilbolgncpfmmaa
