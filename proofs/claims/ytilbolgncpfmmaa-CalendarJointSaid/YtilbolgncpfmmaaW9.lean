/- The walk of the law ScheduleBuilds, for this seat. -/
import Derived.Test.YtilbolgncpfmmaaWA
namespace Go.Proofs.Ytilbolgncpfmmaa
open Go.RowKit Px

/-- a law's walk out of its contract -/
theorem calls_of_true {P : Program} {f : FuncId} {args : List DV} (h : PCalls P f args (.d (dB true))) (w : World) (vals : List Value) (hl : vals.length = args.length) (hr : ∀ (i : Nat) v x, vals[i]? = some v → args[i]? = some x → DRep (fun _ _ => True) w v x) :
    Calls P f vals.toArray w fun e w' => e = .returned (.bool true) ∧ Below w.heap.size w w' :=
  (h (fun _ _ => True) w vals hl hr).mono fun e w' ⟨v, h1, h2, h3⟩ => ⟨by rw [h1]; exact congrArg Ending.returned (DRep.val_eq h2), h3⟩
theorem drep_per {F : Nat → Nat → Prop} {w : World} (a b : Int) : DRep F w (.agg #[.int .i64 a, .int .i64 b]) (.agg [dI a, dI b]) :=
  .agg (xs := [.int .i64 a, .int .i64 b]) rfl (by simp [Value.oneCell']) fun i x c hx hc => by
    match i, hx, hc with
    | 0, hx, hc => cases hx; cases hc; exact .val _ rfl
    | 1, hx, hc => cases hx; cases hc; exact .val _ rfl
    | i + 2, hx, hc => simp at hx

set_option maxRecDepth 20000 in
theorem p9 (a b m s : Int) : PCalls Try.prog 9 [.agg [dI a, dI b], dI m, dI s] (.d (dB true)) := by
  obtain ⟨ps, hps⟩ : ∃ ps, ps = bL a b m s := ⟨_, rfl⟩
  obtain ⟨e, he⟩ : ∃ e, e = bE a b m s := ⟨_, rfl⟩
  have c1 : PCalls Try.prog 40 [.agg [dI a, dI b], dI m, dI s] (.tup [dPs ps, dI e]) := by rw [hps, he]; exact p40 a b m s
  have c2 : PCalls Try.prog 41 [.agg [dI a, dI b], dI m, dI s] (.tup [dPs ps, dI e]) := by rw [hps, he]; exact p41 a b m s
  have c3 : PCalls Try.prog 42 [dPs ps, dPs ps] (.d (dB true)) := by have := p42 ps ps; rwa [show (ps == ps) = true by simp] at this
  refine pcalls_of_pw Try.func9 rfl Try.ntmps9 Try.results9 (by simp) fun B w0 => ?_
  refine pw_seq ?_; refine pw_region ?_; refine yK (cs := [_, _]) rfl rfl ?_; refine yAd rfl ?_; refine yQ ?_; refine pw_seq ?_; refine pw_region ?_; refine yLa (ys := [_, _]) rfl rfl rfl rfl ?_; refine yMd rfl ?_; refine yMd rfl ?_
  refine yC (c1) rfl rfl ?_; refine yMp rfl ?_; refine yX rfl rfl ?_; refine yX rfl rfl ?_; refine yAd rfl ?_; refine yAd rfl ?_; refine yQ ?_; refine pw_seq ?_; refine pw_region ?_; refine yLa (ys := [_, _]) rfl rfl rfl rfl ?_
  refine yMd rfl ?_; refine yMd rfl ?_; refine yC (c2) rfl rfl ?_; refine yMp rfl ?_; refine yX rfl rfl ?_; refine yX rfl rfl ?_; refine yAd rfl ?_; refine yAd rfl ?_; refine yQ ?_; refine pw_seq ?_; refine pw_region ?_
  refine yMd rfl ?_; refine yMd rfl ?_; refine yC (c3) rfl rfl ?_; refine yMd rfl ?_; refine yMd rfl ?_; refine yMd rfl ?_; refine yB rfl rfl rfl rfl ?_; refine yPd rfl rfl ?_; refine yMd rfl ?_
  cases h : (e == e)
  · simp at h
  refine yC (p43) rfl rfl ?_; refine yPd rfl rfl ?_; refine yAd rfl ?_; refine yQ ?_; refine pw_ret ?_
  exact q_end _ (.tmp rfl .nil) rfl
theorem builds_any (a b m s : Int) (w : World) : Calls Try.prog 9 #[.agg #[.int .i64 a, .int .i64 b], .int .i64 m, .int .i64 s] w fun e w' => e = .returned (.bool true) ∧ Below w.heap.size w w' :=
  calls_of_true (p9 a b m s) w [.agg #[.int .i64 a, .int .i64 b], .int .i64 m, .int .i64 s] rfl fun i v x hv hx => by
    match i, hv, hx with
    | 0, hv, hx => cases hv; cases hx; exact drep_per a b
    | 1, hv, hx => cases hv; cases hx; exact .val _ rfl
    | 2, hv, hx => cases hv; cases hx; exact .val _ rfl
    | i + 3, hv, hx => simp at hv
end Go.Proofs.Ytilbolgncpfmmaa
