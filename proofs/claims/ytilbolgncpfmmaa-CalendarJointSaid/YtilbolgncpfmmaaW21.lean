/- The walk of the reference's Pay and of the law SchedulePays, for this seat. -/
import Derived.Test.YtilbolgncpfmmaaW20
namespace Go.Proofs.Ytilbolgncpfmmaa
open Go.RowKit Px

set_option maxRecDepth 20000 in
set_option maxHeartbeats 1000000 in
theorem p66 (ps : List (Int × Int)) (we hs : List Int) (c : Int) : PCalls Try.prog 66 [dPs ps, .agg (dC we hs), dI c] (.tup [dIs (pyL ps we hs c), dI (pyE ps we hs c)]) := by
  obtain ⟨a, ha⟩ : ∃ c, c = sChk ps := ⟨_, rfl⟩
  obtain ⟨b, hb⟩ : ∃ b, b = chk we hs := ⟨_, rfl⟩
  have c1 : PCalls Try.prog 58 [dPs ps] (.d (dI a)) := ha ▸ p58 ps
  have c2 : PCalls Try.prog 24 [.agg (dC we hs)] (.d (dI b)) := hb ▸ p24 we hs
  have bad : ¬ (a = 0 ∧ b = 0) → pyE ps we hs c = 1 ∧ pyL ps we hs c = [] := fun h => by
    have h1 : pyE ps we hs c = 1 := by rw [pyE, if_neg (by rw [← ha, ← hb]; exact h)]
    exact ⟨h1, by rw [pyL, if_neg (by rw [h1]; decide)]⟩
  refine pcalls_of_pw Try.func66 rfl Try.ntmps66 Try.results66 (by simp) fun B w0 => ?_
  refine pw_seq ?_; refine pw_region ?_; refine yK (cs := [_, _]) rfl rfl ?_; refine yAd rfl ?_; refine yAd rfl ?_; refine yQ ?_; refine pw_seq ?_; refine pw_seq ?_; refine pw_region ?_; refine yMd rfl ?_; refine yC (c1) rfl rfl ?_
  refine yB rfl rfl rfl rfl ?_; refine yMd rfl ?_
  by_cases h0 : a = 0
  rotate_left
  · obtain ⟨e1, e2⟩ := bad fun h => h0 h.1
    have h1 : (a != 0) = true := by simpa using h0
    rw [h1, e1, e2]
    refine yO rfl ?_; refine yO rfl ?_; refine yO rfl ?_; refine yPd rfl rfl ?_; refine yQ ?_; refine pw_ct rfl ?_; refine pw_seq ?_; refine pw_region ?_; refine yAd rfl ?_; refine yAd rfl ?_; refine yQ ?_; refine pw_ret ?_
    refine q_then_ret ?_
    exact q_ret _ (.tnil 1 rfl (.tmp rfl .nil)) rfl
  subst h0
  refine yLa (ys := [_, _]) rfl rfl rfl rfl ?_; refine yC (c2) rfl rfl ?_; refine yB rfl rfl rfl rfl ?_; refine yVd rfl rfl ?_; refine yQ ?_; refine q_then ?_
  by_cases h0 : b = 0
  rotate_left
  · obtain ⟨e1, e2⟩ := bad fun h => h0 h.2
    have h1 : (b != 0) = true := by simpa using h0
    rw [h1, e1, e2]
    refine pw_ct rfl ?_; refine pw_seq ?_; refine pw_region ?_; refine yAd rfl ?_; refine yAd rfl ?_; refine yQ ?_; refine pw_ret ?_; refine q_then_ret ?_
    exact q_ret _ (.tnil 1 rfl (.tmp rfl .nil)) rfl
  subst h0
  have hE : pyE ps we hs c = fe (fun i => adjE we hs (getP ps i).2 c) ps.length := by rw [pyE, if_pos ⟨ha.symm, hb.symm⟩]
  have hlen := sChk_len ha.symm
  refine pw_cf rfl ?_; refine pw_skip ?_; refine pw_seq ?_; refine pw_region ?_; refine yRt (t := 2600008) (es := []) rfl rfl rfl rfl rfl rfl rfl rfl ?_; refine yAt rfl ?_; refine yQ ?_; refine pw_seq ?_; refine pw_seq ?_
  refine pw_region ?_; refine yAd rfl ?_; refine yQ ?_; refine pw_block ?_
  refine pw_loop (fun k : Nat => ⟨46, [(4, .bx 4 0), (2, .d (dI c)), (0, .d (dPs ps)), (9, .d (dI k)), (8, .ts 2600008 1 ((pyG ps we hs c k).map dZ))], [(4, [.d (dIs we), .d (dIs hs)])], [(2600008, ((pyG ps we hs c k).map dZ).length)]⟩) (fun k => k ≤ ps.length ∧ ∀ i, i < k → adjE we hs (getP ps i).2 c = 0) (fun k => ps.length - k) 0 ⟨Nat.zero_le _, fun i hi => by omega⟩ ⟨rfl, ⟨.refl _, .refl _, .refl _, .refl _, .refl _, trivial⟩, ⟨⟨_, rfl, .refl _, .refl _, trivial⟩, trivial⟩, ⟨rfl, trivial⟩, rfl⟩ ?_
  intro k hk
  obtain ⟨hk, hall⟩ := hk
  obtain ⟨⟨x, y⟩, hp⟩ : ∃ p, p = getP ps k := ⟨_, rfl⟩
  have hg1 := pyG_succ ps we hs c k
  have hgl := pyG_len ps we hs c k
  have hst := fe_stop (fun i => adjE we hs (getP ps i).2 c) ps.length k hall
  have hsn := fun h => all_snoc (f := fun i => adjE we hs (getP ps i).2 c) (k := k) hall h
  have c3 := p36 we hs y c
  simp only [← hp] at hg1 hst hsn
  obtain ⟨v, hv⟩ : ∃ v, v = adjV we hs y c := ⟨_, rfl⟩
  obtain ⟨e, he⟩ : ∃ v, v = adjE we hs y c := ⟨_, rfl⟩
  simp only [← hv, ← he] at c3 hg1 hst hsn
  have hw1 := wrapI ((k : Int) + 1) (by omega)
  obtain ⟨zs, hz⟩ : ∃ zs, zs = pyG ps we hs c k := ⟨_, rfl⟩
  rw [← hz] at hgl hg1 ⊢
  refine pw_seq ?_; refine pw_seq ?_; refine pw_region ?_; refine yMd rfl ?_; refine yMd rfl ?_; refine yN rfl ?_; refine yB rfl rfl rfl rfl ?_; refine yQ ?_; refine q_then ?_
  refine pw_cond rfl (fun h3 => ?_) (fun h3 => ?_)
  · simp at h3
    have e0 := ix dP ps k k (x, y) rfl (hp ▸ getP_at h3)
    refine pw_skip ?_; refine pw_seq ?_; refine pw_block ?_; refine pw_seq ?_; refine pw_draw Try.mixed (by kernel_rfl) ?_; refine yLa (ys := [_, _]) rfl rfl rfl rfl ?_; refine yMd rfl ?_; refine yMd rfl ?_
    refine yW e0 (by omega) rfl rfl ?_; refine yFr rfl rfl ?_; refine yLr rfl rfl ?_; refine yMd rfl ?_; refine yC (c3) rfl rfl ?_; refine yMp rfl ?_; refine yX rfl rfl ?_; refine yX rfl rfl ?_; refine yAd rfl ?_; refine yAd rfl ?_
    refine yQ ?_; refine pw_seq ?_; refine pw_seq ?_; refine pw_region ?_; refine yMd rfl ?_; refine yB rfl rfl rfl rfl ?_; refine yQ ?_; refine q_then ?_
    by_cases h0 : e = 0
    · subst h0
      refine pw_cf rfl ?_; refine pw_skip ?_; refine pw_region ?_; refine yMt rfl ?_; refine yMd rfl ?_; refine yR (es := [[_]]) rfl rfl rfl rfl rfl ?_
      refine yT (es' := (zs ++ [v]).map dZ) (m := ((zs ++ [v]).map dZ).length) (by simp; omega) (by simp; omega) rfl rfl rfl rfl rfl (by simp) (by simp) ?_; refine yAt rfl ?_; refine yQ ?_; refine pw_region ?_; refine yMd rfl ?_
      refine yB rfl rfl rfl rfl ?_; refine yAd rfl ?_; refine yQ ?_; refine q_then ?_
      refine ⟨k + 1, ⟨by omega, hsn rfl⟩, by omega, rfl, ⟨.refl _, .refl _, .refl _, .of_eq (congrArg (fun n => SV.d (dI n)) hw1), .of_eq ?_, trivial⟩, ⟨⟨_, rfl, .refl _, .refl _, trivial⟩, trivial⟩, ⟨?_, trivial⟩, rfl⟩
      · rw [hg1]; rfl
      · rw [hg1]; rfl
    · have h1 : (e != 0) = true := by simpa using h0
      have h2 : pyE ps we hs c = e := by rw [hE]; exact hst h3 h0
      have h4 : pyL ps we hs c = [] := by rw [pyL, if_neg (by rw [h2]; exact h0)]
      rw [h1, h2, h4]
      refine pw_ct rfl ?_; refine pw_seq ?_; refine pw_region ?_; refine yMd rfl ?_; refine yAd rfl ?_; refine yAd rfl ?_; refine yQ ?_; refine pw_ret ?_; refine q_then_ret ?_; refine q_blk_ret ?_; refine q_then_ret ?_
      refine q_then_ret ?_; refine q_blk_ret ?_; refine q_then_ret ?_
      exact q_ret _ (.tnil 1 rfl (.tmp rfl .nil)) rfl
  · simp at h3
    obtain rfl : k = ps.length := by omega
    have h2 : pyE ps we hs c = 0 := by rw [hE]; exact fe_all _ _ hall
    have hl : pyL ps we hs c = zs := by rw [pyL, if_pos h2, hz]
    rw [hl, h2]
    refine pw_exit ?_; refine pw_seq ?_; refine pw_region ?_; refine yMt rfl ?_; refine yAt rfl ?_; refine yAd rfl ?_; refine yQ ?_; refine pw_ret ?_
    exact q_ret _ (.tmp rfl (.tmp rfl .nil)) rfl

theorem pyL_len (ps : List (Int × Int)) (we hs : List Int) (c : Int) : (pyL ps we hs c).length ≤ 400 := by
  rw [pyL]
  split
  · rename_i h
    rw [pyE] at h
    split at h
    · rename_i h1
      have := sChk_len h1.1
      rw [pyG_len]; omega
    · omega
  · simp

set_option maxRecDepth 20000 in
set_option maxHeartbeats 4000000 in
theorem p18 (ps : List (Int × Int)) (we hs : List Int) (c : Int) : PCalls Try.prog 18 [dPs ps, .agg (dC we hs), dI c] (.d (dB true)) := by
  obtain ⟨gr, hgr⟩ : ∃ g, g = grtP ps := ⟨_, rfl⟩
  obtain ⟨gc, hgc⟩ : ∃ g, g = great we hs := ⟨_, rfl⟩
  have c1 := p51 ps
  have c2 := p20 we hs
  rw [← hgr] at c1
  rw [← hgc] at c2
  refine pcalls_of_pw Try.func18 rfl Try.ntmps18 Try.results18 (by simp) fun B w0 => ?_
  cases gr
  rotate_left
  · refine pw_seq ?_; refine pw_region ?_; refine yK (cs := [_, _]) rfl rfl ?_; refine yAd rfl ?_; refine yQ ?_; refine pw_seq ?_; refine pw_seq ?_; refine pw_region ?_; refine yMd rfl ?_; refine yC (c1) rfl rfl ?_; refine yMd rfl ?_
    refine yO rfl ?_; refine yO rfl ?_; refine yPd rfl rfl ?_; refine yQ ?_; refine pw_ct rfl ?_; refine pw_seq ?_; refine pw_region ?_; refine yC (p43) rfl rfl ?_; refine yAd rfl ?_; refine yQ ?_; refine pw_ret ?_; refine q_then_ret ?_
    exact q_ret _ (.tmp rfl .nil) rfl
  cases gc
  rotate_left
  · refine pw_seq ?_; refine pw_region ?_; refine yK (cs := [_, _]) rfl rfl ?_; refine yAd rfl ?_; refine yQ ?_; refine pw_seq ?_; refine pw_seq ?_; refine pw_region ?_; refine yMd rfl ?_; refine yC (c1) rfl rfl ?_; refine yMd rfl ?_
    refine yLa (ys := [_, _]) rfl rfl rfl rfl ?_; refine yC (c2) rfl rfl ?_; refine yVd rfl rfl ?_; refine yQ ?_; refine pw_ct rfl ?_; refine pw_seq ?_; refine pw_region ?_; refine yC (p43) rfl rfl ?_; refine yAd rfl ?_; refine yQ ?_
    refine pw_ret ?_; refine q_then_ret ?_
    exact q_ret _ (.tmp rfl .nil) rfl
  have d1 := p65 ps we hs c
  have d2 := p66 ps we hs c
  have hl := pyL_len ps we hs c
  obtain ⟨zs, hz⟩ : ∃ f, f = pyL ps we hs c := ⟨_, rfl⟩
  obtain ⟨e, he⟩ : ∃ f, f = pyE ps we hs c := ⟨_, rfl⟩
  rw [← hz, ← he] at d1 d2
  rw [← hz] at hl
  have d3 : PCalls Try.prog 67 [dIs zs, dIs zs] (.d (dB true)) := by have := p67 zs zs (by omega); rwa [beq_self_eq_true] at this
  have bI : ∀ x : Int, (x == x) = true := fun x => by simp
  refine pw_seq ?_; refine pw_region ?_; refine yK (cs := [_, _]) rfl rfl ?_; refine yAd rfl ?_; refine yQ ?_; refine pw_seq ?_; refine pw_seq ?_; refine pw_region ?_; refine yMd rfl ?_; refine yC (c1) rfl rfl ?_; refine yMd rfl ?_
  refine yLa (ys := [_, _]) rfl rfl rfl rfl ?_; refine yC (c2) rfl rfl ?_; refine yVd rfl rfl ?_; refine yQ ?_; refine pw_cf rfl ?_; refine pw_skip ?_; refine pw_seq ?_; refine pw_region ?_; refine yMd rfl ?_
  refine yLa (ys := [_, _]) rfl rfl rfl rfl ?_; refine yMd rfl ?_; refine yC (d1) rfl rfl ?_; refine yMp rfl ?_; refine yX rfl rfl ?_; refine yX rfl rfl ?_; refine yAd rfl ?_; refine yAd rfl ?_; refine yQ ?_; refine pw_seq ?_
  refine pw_region ?_; refine yMd rfl ?_; refine yLa (ys := [_, _]) rfl rfl rfl rfl ?_; refine yMd rfl ?_; refine yC (d2) rfl rfl ?_; refine yMp rfl ?_; refine yX rfl rfl ?_; refine yX rfl rfl ?_; refine yAd rfl ?_; refine yAd rfl ?_
  refine yQ ?_; refine pw_seq ?_; refine pw_region ?_; refine yMd rfl ?_; refine yMd rfl ?_; refine yC (d3) rfl rfl ?_; refine yMd rfl ?_; refine yMd rfl ?_; refine yMd rfl ?_; refine yB rfl rfl rfl rfl ?_; refine yPd rfl rfl ?_
  refine yMd rfl ?_
  rw [bI e]
  refine yC (p43) rfl rfl ?_; refine yPd rfl rfl ?_; refine yAd rfl ?_; refine yQ ?_; refine pw_ret ?_
  exact q_ret _ (.tmp rfl .nil) rfl
theorem drep_ints {w : World} {v : Value} {zs : List Int} {B : Nat} (h : IntsAt w B v zs) (hc : ∀ A n c, v = .slice A n c → n ≤ c) : DRep (fun _ _ => True) w v (dIs zs) := by
  obtain ⟨A, c, rfl, hm, hcell⟩ := h
  have e : zs.length = (zs.map dZ).length := by simp
  rw [e]
  refine DRep.of_row (xs := zs.map fun z => .int .i64 z) (by rw [← e]; exact hc _ _ _ rfl) (by rw [← e]; exact hm) (fun x hx => by obtain ⟨p, -, rfl⟩ := List.mem_map.1 hx; rfl) (fun h0 => ?_) (fun u hu => ?_) fun i j x y hx hy => ?_
  · rw [← e] at h0
    obtain ⟨b, off, rfl, hb, h1⟩ := hcell h0
    refine ⟨b, off, rfl, fun j u hj => ⟨?_, trivial⟩⟩
    rw [List.getElem?_map, Option.map_eq_some_iff] at hj
    obtain ⟨z, hz, rfl⟩ := hj
    have := h1 j (List.getElem?_eq_some_iff.1 hz).1
    rw [hz] at this
    exact this
  · obtain ⟨z, -, rfl⟩ := List.mem_map.1 hu; rfl
  · rw [List.getElem?_map, Option.map_eq_some_iff] at hx
    obtain ⟨z, hz, rfl⟩ := hx
    match j, hy with
    | 0, hy => cases hy; exact ⟨_, by rw [Nat.mul_one, Nat.add_zero, List.getElem?_map, hz]; rfl, .val _ rfl⟩
    | j + 1, hy => simp at hy
theorem drep_cal {w : World} {v0 v1 : Value} {we hs : List Int} (h0 : DRep (fun _ _ => True) w v0 (dIs we)) (h1 : DRep (fun _ _ => True) w v1 (dIs hs)) (o0 : v0.oneCell' = true) (o1 : v1.oneCell' = true) : DRep (fun _ _ => True) w (.agg #[v0, v1]) (.agg (dC we hs)) :=
  .agg (xs := [v0, v1]) rfl (by simp [o0, o1]) fun i x c hx hc => by
    match i, hx, hc with
    | 0, hx, hc => cases hx; cases hc; exact h0
    | 1, hx, hc => cases hx; cases hc; exact h1
    | i + 2, hx, hc => simp at hx
theorem pays_law (ps : List (Int × Int)) (we hs : List Int) (c : Int) (w : World) (v u : Value) (hv : DRep (fun _ _ => True) w v (dPs ps)) (hu : DRep (fun _ _ => True) w u (.agg (dC we hs))) : Calls Try.prog 18 #[v, u, .int .i64 c] w fun e w' => e = .returned (.bool true) ∧ Below w.heap.size w w' :=
  calls_of_true (p18 ps we hs c) w [v, u, .int .i64 c] rfl fun i v' x hv' hx => by
    match i, hv', hx with
    | 0, hv', hx => cases hv'; cases hx; exact hv
    | 1, hv', hx => cases hv'; cases hx; exact hu
    | 2, hv', hx => cases hv'; cases hx; exact .val _ rfl
    | i + 3, hv', hx => simp at hv'
end Go.Proofs.Ytilbolgncpfmmaa
