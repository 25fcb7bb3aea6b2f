/- The walk of the law ScheduleChecks, for this seat. -/
import Derived.Test.YtilbolgncpfmmaaW17
namespace Go.Proofs.Ytilbolgncpfmmaa
open Go.RowKit Px

set_option maxRecDepth 20000 in
set_option maxHeartbeats 4000000 in
theorem p14 (ps : List (Int × Int)) (d i m s : Int) : PCalls Try.prog 14 [dPs ps, dI d, dI i, dI m, dI s] (.d (dB true)) := by
  obtain ⟨gr, hgr⟩ : ∃ g, g = grtP ps := ⟨_, rfl⟩
  have c1 := p51 ps
  rw [← hgr] at c1
  refine pcalls_of_pw Try.func14 rfl Try.ntmps14 Try.results14 (by simp) fun B w0 => ?_
  cases gr
  rotate_left
  · refine pw_seq ?_; refine pw_region ?_; refine yAd rfl ?_; refine yQ ?_; refine pw_seq ?_; refine pw_seq ?_; refine pw_region ?_; refine yMd rfl ?_; refine yC (c1) rfl rfl ?_; refine yQ ?_; refine pw_ct rfl ?_; refine pw_seq ?_
    refine pw_region ?_; refine yC (p43) rfl rfl ?_; refine yAd rfl ?_; refine yQ ?_; refine pw_ret ?_; refine q_then_ret ?_
    exact q_ret _ (.tmp rfl .nil) rfl
  obtain ⟨⟨f1, f2, f3⟩, hf⟩ : ∃ f, f = fdR ps d := ⟨_, rfl⟩
  obtain ⟨⟨n1, n2, n3⟩, hn⟩ : ∃ f, f = nxR ps d := ⟨_, rfl⟩
  obtain ⟨⟨⟨r1, r2⟩, r3⟩, hr⟩ : ∃ f, f = rgR ps i m s := ⟨_, rfl⟩
  obtain ⟨zs, hz⟩ : ∃ f, f = irL ps m := ⟨_, rfl⟩
  obtain ⟨ie, hie⟩ : ∃ f, f = irE ps m := ⟨_, rfl⟩
  obtain ⟨c, hc⟩ : ∃ f, f = sChk ps := ⟨_, rfl⟩
  have hzl : zs.length ≤ 1000000 := by
    rw [hz, irL]
    split
    · rename_i h0
      have h1 := sChk_len (irE_zero h0).1
      have h2 := irG_len ps m ps.length
      omega
    · simp
  have d1 := p52 ps d
  have d2 := p53 ps d
  have d3 := p54 ps d
  have d4 := p55 ps d
  have d5 := p45 ps m
  have d6 := p56 ps m
  have d7 := p50 ps i m s
  have d8 := p57 ps i m s
  have d9 := p44 ps
  have d10 := p58 ps
  have d11 : PCalls Try.prog 59 [dIs zs, dIs zs] (.d (dB true)) := by have := p59 zs zs hzl; rwa [beq_self_eq_true] at this
  rw [← hf] at d1 d2
  rw [← hn] at d3 d4
  rw [← hz, ← hie] at d5 d6
  rw [← hr] at d7 d8
  rw [← hc] at d9 d10
  have bI : ∀ x : Int, (x == x) = true := fun x => by simp
  have bB : ∀ (o1 o2 : Operand) (x : Bool) (w : World), (eqGuard .eql 4 o1 o2 (.bool x) (.bool x) >>= fun _ => binOp .eql 4 (.bool x) (.bool x)).run Try.prog w = .ok (.bool true) w := fun o1 o2 x w => by simp [eqGuard, binOp, go_sem, run_equal_bool w 4 x x Try.underlying4]
  refine pw_seq ?_; refine pw_region ?_; refine yAd rfl ?_; refine yQ ?_; refine pw_seq ?_; refine pw_seq ?_; refine pw_region ?_; refine yMd rfl ?_; refine yC (c1) rfl rfl ?_; refine yQ ?_; refine pw_cf rfl ?_; refine pw_skip ?_
  refine pw_seq ?_; refine pw_region ?_; refine yMd rfl ?_; refine yMd rfl ?_; refine yC (d1) rfl rfl ?_; refine yMp rfl ?_; refine yX rfl rfl ?_; refine yX rfl rfl ?_; refine yX rfl rfl ?_; refine yAd rfl ?_; refine yAd rfl ?_
  refine yAd rfl ?_; refine yQ ?_; refine pw_seq ?_; refine pw_region ?_; refine yMd rfl ?_; refine yMd rfl ?_; refine yC (d2) rfl rfl ?_; refine yMp rfl ?_; refine yX rfl rfl ?_; refine yX rfl rfl ?_; refine yX rfl rfl ?_
  refine yAd rfl ?_; refine yAd rfl ?_; refine yAd rfl ?_; refine yQ ?_; refine pw_seq ?_; refine pw_region ?_; refine yMd rfl ?_; refine yMd rfl ?_; refine yC (d3) rfl rfl ?_; refine yMp rfl ?_; refine yX rfl rfl ?_
  refine yX rfl rfl ?_; refine yX rfl rfl ?_; refine yAd rfl ?_; refine yAd rfl ?_; refine yAd rfl ?_; refine yQ ?_; refine pw_seq ?_; refine pw_region ?_; refine yMd rfl ?_; refine yMd rfl ?_; refine yC (d4) rfl rfl ?_
  refine yMp rfl ?_; refine yX rfl rfl ?_; refine yX rfl rfl ?_; refine yX rfl rfl ?_; refine yAd rfl ?_; refine yAd rfl ?_; refine yAd rfl ?_; refine yQ ?_; refine pw_seq ?_; refine pw_region ?_; refine yMd rfl ?_; refine yMd rfl ?_
  refine yC (d5) rfl rfl ?_; refine yMp rfl ?_; refine yX rfl rfl ?_; refine yX rfl rfl ?_; refine yAd rfl ?_; refine yAd rfl ?_; refine yQ ?_; refine pw_seq ?_; refine pw_region ?_; refine yMd rfl ?_; refine yMd rfl ?_
  refine yC (d6) rfl rfl ?_; refine yMp rfl ?_; refine yX rfl rfl ?_; refine yX rfl rfl ?_; refine yAd rfl ?_; refine yAd rfl ?_; refine yQ ?_; refine pw_seq ?_; refine pw_region ?_; refine yMd rfl ?_; refine yMd rfl ?_
  refine yMd rfl ?_; refine yMd rfl ?_; refine yC (d7) rfl rfl ?_; refine yMp rfl ?_; refine yX rfl rfl ?_; refine yX rfl rfl ?_; refine yZ (cs := [_, _]) rfl rfl ?_; refine yS (cs' := [_, _]) rfl rfl rfl rfl rfl ?_; refine yAd rfl ?_
  refine yQ ?_; refine pw_seq ?_; refine pw_region ?_; refine yMd rfl ?_; refine yMd rfl ?_; refine yMd rfl ?_; refine yMd rfl ?_; refine yC (d8) rfl rfl ?_; refine yMp rfl ?_; refine yX rfl rfl ?_; refine yX rfl rfl ?_
  refine yZ (cs := [_, _]) rfl rfl ?_; refine yS (cs' := [_, _]) rfl rfl rfl rfl rfl ?_; refine yAd rfl ?_; refine yQ ?_; refine pw_seq ?_; refine pw_region ?_; refine yMd rfl ?_; refine yC (d9) rfl rfl ?_; refine yMd rfl ?_
  refine yC (d10) rfl rfl ?_; refine yB rfl rfl rfl rfl ?_; refine yMd rfl ?_
  rw [bI c]
  refine yMd rfl ?_; refine yMd rfl ?_; refine yB rfl rfl rfl rfl ?_; refine yPd rfl rfl ?_; refine yMd rfl ?_
  rw [bI f1]
  refine yMd rfl ?_; refine yMd rfl ?_; refine yBr (vx := .bool f2) (vy := .bool f2) (u := .bool true) (bB _ _ f2) rfl rfl rfl ?_; refine yPd rfl rfl ?_; refine yMd rfl ?_; refine yMd rfl ?_; refine yMd rfl ?_
  refine yB rfl rfl rfl rfl ?_; refine yPd rfl rfl ?_; refine yMd rfl ?_
  rw [bI f3]
  refine yMd rfl ?_; refine yMd rfl ?_; refine yB rfl rfl rfl rfl ?_; refine yPd rfl rfl ?_; refine yMd rfl ?_
  rw [bI n1]
  refine yMd rfl ?_; refine yMd rfl ?_; refine yBr (vx := .bool n2) (vy := .bool n2) (u := .bool true) (bB _ _ n2) rfl rfl rfl ?_; refine yPd rfl rfl ?_; refine yMd rfl ?_; refine yMd rfl ?_; refine yMd rfl ?_
  refine yB rfl rfl rfl rfl ?_; refine yPd rfl rfl ?_; refine yMd rfl ?_
  rw [bI n3]
  refine yMd rfl ?_; refine yMd rfl ?_; refine yC (d11) rfl rfl ?_; refine yPd rfl rfl ?_; refine yMd rfl ?_; refine yMd rfl ?_; refine yMd rfl ?_; refine yB rfl rfl rfl rfl ?_; refine yPd rfl rfl ?_; refine yMd rfl ?_
  rw [bI ie]
  refine yLa (ys := [_, _]) rfl rfl rfl rfl ?_; refine yLa (ys := [_, _]) rfl rfl rfl rfl ?_; refine yBA (eqlR _ _ _ _ _ _) rfl rfl rfl rfl rfl ?_; refine yPd rfl rfl ?_; refine yMd rfl ?_
  rw [bI r1, bI r2]
  refine yMd rfl ?_; refine yMd rfl ?_; refine yB rfl rfl rfl rfl ?_; refine yPd rfl rfl ?_; refine yMd rfl ?_
  rw [bI r3]
  refine yC (p43) rfl rfl ?_; refine yPd rfl rfl ?_; refine yAd rfl ?_; refine yQ ?_; refine pw_ret ?_
  exact q_ret _ (.tmp rfl .nil) rfl
theorem checks_law (ps : List (Int × Int)) (d i m s : Int) (w : World) (v : Value) (hv : DRep (fun _ _ => True) w v (dPs ps)) : Calls Try.prog 14 #[v, .int .i64 d, .int .i64 i, .int .i64 m, .int .i64 s] w fun e w' => e = .returned (.bool true) ∧ Below w.heap.size w w' :=
  calls_of_true (p14 ps d i m s) w [v, .int .i64 d, .int .i64 i, .int .i64 m, .int .i64 s] rfl fun i v' x hv' hx => by
    match i, hv', hx with
    | 0, hv', hx => cases hv'; cases hx; exact hv
    | 1, hv', hx => cases hv'; cases hx; exact .val _ rfl
    | 2, hv', hx => cases hv'; cases hx; exact .val _ rfl
    | 3, hv', hx => cases hv'; cases hx; exact .val _ rfl
    | 4, hv', hx => cases hv'; cases hx; exact .val _ rfl
    | i + 5, hv', hx => simp at hv'
end Go.Proofs.Ytilbolgncpfmmaa
