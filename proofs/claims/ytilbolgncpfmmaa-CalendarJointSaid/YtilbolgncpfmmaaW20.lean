/- Walks of Pay and of the reference's, for this seat. -/
import Derived.Test.YtilbolgncpfmmaaW17
import Derived.Test.YtilbolgncpfmmaaRefDays
namespace Go.Proofs.Ytilbolgncpfmmaa
open Go.RowKit Px

abbrev dC (we hs : List Int) : List DV := [dIs we, dIs hs]
theorem cal_of {F : Nat → Nat → Prop} {w : World} {v : Value} {we hs : List Int} (h : DRep F w v (.agg (dC we hs))) : ∃ v0 v1, v = .agg #[v0, v1] ∧ IntsAt w w.heap.size v0 we ∧ IntsAt w w.heap.size v1 hs := by
  generalize e : DV.agg (dC we hs) = x at h
  cases h with
  | val => cases e
  | sl => cases e
  | ref => cases e
  | abs => cases e
  | @agg xs cs hl h1 h2 =>
    cases e
    match xs, hl with
    | [x, y], _ => exact ⟨x, y, rfl, ints_of (h2 0 x _ rfl rfl), ints_of (h2 1 y _ rfl rfl)⟩
theorem below_al (w : World) (o : Obj) : Below w.heap.size w (w.alloc o) := (Below.refl _ _).alloc (Nat.le_refl _) _
theorem p62 (we hs : List Int) : PCalls Try.prog 62 [.agg (dC we hs)] (.d (dI (chk we hs))) :=
  PCalls.of_any (us := [.int .i64 (chk we hs)]) rfl (by simp [Value.oneCell']) fun F w vals hl hr => by
    obtain ⟨a, rfl⟩ := args1 hl
    obtain ⟨v0, v1, rfl, h0, h1⟩ := cal_of (hr 0 _ _ rfl rfl)
    exact (Check_any v0 v1 we hs w h0 h1).mono fun e w' ⟨h1, h2⟩ => ⟨h1, h2 ▸ below_al _ _⟩
theorem p24 (we hs : List Int) : PCalls Try.prog 24 [.agg (dC we hs)] (.d (dI (chk we hs))) :=
  PCalls.of_any (us := [.int .i64 (chk we hs)]) rfl (by simp [Value.oneCell']) fun F w vals hl hr => by
    obtain ⟨a, rfl⟩ := args1 hl
    obtain ⟨v0, v1, rfl, h0, h1⟩ := cal_of (hr 0 _ _ rfl rfl)
    exact rCheck_any v0 v1 we hs w h0 h1
theorem p20 (we hs : List Int) : PCalls Try.prog 20 [.agg (dC we hs)] (.d (dB (great we hs))) :=
  PCalls.of_any (us := [.bool (great we hs)]) rfl (by simp [Value.oneCell']) fun F w vals hl hr => by
    obtain ⟨a, rfl⟩ := args1 hl
    obtain ⟨v0, v1, rfl, h0, h1⟩ := cal_of (hr 0 _ _ rfl rfl)
    exact (Great_any v0 v1 we hs w h0 h1).mono fun e w' ⟨h1, h2⟩ => ⟨h1, h2 ▸ below_al _ _⟩
theorem p35 (we hs : List Int) (d c : Int) : PCalls Try.prog 35 [.agg (dC we hs), dI d, dI c] (.tup [dI (adjV we hs d c), dI (adjE we hs d c)]) :=
  PCalls.of_any (us := [.int .i64 (adjV we hs d c), .int .i64 (adjE we hs d c)]) rfl (by simp [Value.oneCell']) fun F w vals hl hr => by
    obtain ⟨a, b, x, rfl⟩ := args3 hl
    obtain ⟨v0, v1, rfl, h0, h1⟩ := cal_of (hr 0 _ _ rfl rfl)
    rw [DRep.val_eq (hr 1 _ _ rfl rfl), DRep.val_eq (hr 2 _ _ rfl rfl)]
    exact Adjust_any v0 v1 we hs d c w h0 h1
theorem p36 (we hs : List Int) (d c : Int) : PCalls Try.prog 36 [.agg (dC we hs), dI d, dI c] (.tup [dI (adjV we hs d c), dI (adjE we hs d c)]) :=
  PCalls.of_any (us := [.int .i64 (adjV we hs d c), .int .i64 (adjE we hs d c)]) rfl (by simp [Value.oneCell']) fun F w vals hl hr => by
    obtain ⟨a, b, x, rfl⟩ := args3 hl
    obtain ⟨v0, v1, rfl, h0, h1⟩ := cal_of (hr 0 _ _ rfl rfl)
    rw [DRep.val_eq (hr 1 _ _ rfl rfl), DRep.val_eq (hr 2 _ _ rfl rfl)]
    exact rAdjust_any v0 v1 we hs d c w h0 h1
theorem p30 (we hs : List Int) (d : Int) : PCalls Try.prog 30 [.agg (dC we hs), dI d] (.tup [dB (bizV we hs d), dI (chkD we hs [d])]) :=
  PCalls.of_any (us := [.bool (bizV we hs d), .int .i64 (chkD we hs [d])]) rfl (by simp [Value.oneCell']) fun F w vals hl hr => by
    obtain ⟨a, b, rfl⟩ := args2 hl
    obtain ⟨v0, v1, rfl, h0, h1⟩ := cal_of (hr 0 _ _ rfl rfl)
    rw [DRep.val_eq (hr 1 _ _ rfl rfl)]
    exact Business_any v0 v1 we hs d w h0 h1

/-- what Pay returns -/
def pyE (ps : List (Int × Int)) (we hs : List Int) (c : Int) : Int := if sChk ps = 0 ∧ chk we hs = 0 then fe (fun i => adjE we hs (getP ps i).2 c) ps.length else 1
def pyG (ps : List (Int × Int)) (we hs : List Int) (c : Int) (k : Nat) : List Int := (List.range k).map fun i => adjV we hs (getP ps i).2 c
def pyL (ps : List (Int × Int)) (we hs : List Int) (c : Int) : List Int := if pyE ps we hs c = 0 then pyG ps we hs c ps.length else []
theorem pyG_succ (ps : List (Int × Int)) (we hs : List Int) (c : Int) (k : Nat) : pyG ps we hs c (k + 1) = pyG ps we hs c k ++ [adjV we hs (getP ps k).2 c] := by
  simp [pyG, List.range_succ]
theorem pyG_len (ps : List (Int × Int)) (we hs : List Int) (c : Int) (k : Nat) : (pyG ps we hs c k).length = k := by simp [pyG]

set_option maxRecDepth 20000 in
set_option maxHeartbeats 1000000 in
theorem p65 (ps : List (Int × Int)) (we hs : List Int) (c : Int) : PCalls Try.prog 65 [dPs ps, .agg (dC we hs), dI c] (.tup [dIs (pyL ps we hs c), dI (pyE ps we hs c)]) := by
  obtain ⟨a, ha⟩ : ∃ c, c = sChk ps := ⟨_, rfl⟩
  obtain ⟨b, hb⟩ : ∃ b, b = chk we hs := ⟨_, rfl⟩
  have c1 : PCalls Try.prog 44 [dPs ps] (.d (dI a)) := ha ▸ p44 ps
  have c2 : PCalls Try.prog 62 [.agg (dC we hs)] (.d (dI b)) := hb ▸ p62 we hs
  have bad : ¬ (a = 0 ∧ b = 0) → pyE ps we hs c = 1 ∧ pyL ps we hs c = [] := fun h => by
    have h1 : pyE ps we hs c = 1 := by rw [pyE, if_neg (by rw [← ha, ← hb]; exact h)]
    exact ⟨h1, by rw [pyL, if_neg (by rw [h1]; decide)]⟩
  refine pcalls_of_pw Try.func65 rfl Try.ntmps65 Try.results65 (by simp) fun B w0 => ?_
  refine pw_seq ?_; refine pw_region ?_; refine yK (cs := [_, _]) rfl rfl ?_; refine yAd rfl ?_; refine yAd rfl ?_; refine yQ ?_; refine pw_seq ?_; refine pw_seq ?_; refine pw_region ?_; refine yMd rfl ?_; refine yC (c1) rfl rfl ?_
  refine yB rfl rfl rfl rfl ?_; refine yMd rfl ?_
  by_cases h0 : a = 0
  rotate_left
  · obtain ⟨e1, e2⟩ := bad fun h => h0 h.1
    have h1 : (a != 0) = true := by simpa using h0
    rw [h1, e1, e2]
    refine yO rfl ?_; refine yO rfl ?_; refine yO rfl ?_; refine yPd rfl rfl ?_; refine yQ ?_; refine pw_ct rfl ?_; refine pw_seq ?_; refine pw_region ?_; refine yAd rfl ?_; refine yAd rfl ?_; refine yQ ?_; refine pw_ret ?_
    refine q_then_ret ?_
    exact q_ret _ (.tnil 1 rfl (.tmp rfl .nil)) rfl
  subst h0
  refine yLa (ys := [_, _]) rfl rfl rfl rfl ?_; refine yC (c2) rfl rfl ?_; refine yB rfl rfl rfl rfl ?_; refine yVd rfl rfl ?_; refine yQ ?_; refine q_then ?_
  by_cases h0 : b = 0
  rotate_left
  · obtain ⟨e1, e2⟩ := bad fun h => h0 h.2
    have h1 : (b != 0) = true := by simpa using h0
    rw [h1, e1, e2]
    refine pw_ct rfl ?_; refine pw_seq ?_; refine pw_region ?_; refine yAd rfl ?_; refine yAd rfl ?_; refine yQ ?_; refine pw_ret ?_; refine q_then_ret ?_
    exact q_ret _ (.tnil 1 rfl (.tmp rfl .nil)) rfl
  subst h0
  have hE : pyE ps we hs c = fe (fun i => adjE we hs (getP ps i).2 c) ps.length := by rw [pyE, if_pos ⟨ha.symm, hb.symm⟩]
  have hlen := sChk_len ha.symm
  refine pw_cf rfl ?_; refine pw_skip ?_; refine pw_seq ?_; refine pw_region ?_; refine yAd rfl ?_; refine yQ ?_; refine pw_seq ?_; refine pw_seq ?_; refine pw_region ?_; refine yMd rfl ?_; refine yN rfl ?_; refine yMd rfl ?_
  refine yQ ?_; refine pw_block ?_
  refine pw_tok 8 2600008 1 rfl rfl rfl ?_
  refine pw_loop (fun k : Nat => ⟨44, [(4, .bx 4 0), (2, .d (dI c)), (21, .d (dPs ps)), (22, .d (dI ps.length)), (23, .d (dI k)), (8, .ts 2600008 1 ((pyG ps we hs c k).map dZ))], [(4, [.d (dIs we), .d (dIs hs)])], [(2600008, ((pyG ps we hs c k).map dZ).length)]⟩) (fun k => k ≤ ps.length ∧ ∀ i, i < k → adjE we hs (getP ps i).2 c = 0) (fun k => ps.length - k) 0 ⟨Nat.zero_le _, fun i hi => by omega⟩ ⟨rfl, ⟨.refl _, .refl _, .refl _, .of_eq ?_, .refl _, .refl _, trivial⟩, ⟨⟨_, rfl, .refl _, .refl _, trivial⟩, trivial⟩, ⟨rfl, trivial⟩, rfl⟩ ?_
  · exact congrArg (fun n : Nat => SV.d (dI n)) (by simp)
  intro k hk
  obtain ⟨hk, hall⟩ := hk
  obtain ⟨⟨x, y⟩, hp⟩ : ∃ p, p = getP ps k := ⟨_, rfl⟩
  have hg1 := pyG_succ ps we hs c k
  have hgl := pyG_len ps we hs c k
  have hst := fe_stop (fun i => adjE we hs (getP ps i).2 c) ps.length k hall
  have hsn := fun h => all_snoc (f := fun i => adjE we hs (getP ps i).2 c) (k := k) hall h
  have c3 := p35 we hs y c
  simp only [← hp] at hg1 hst hsn
  obtain ⟨v, hv⟩ : ∃ v, v = adjV we hs y c := ⟨_, rfl⟩
  obtain ⟨e, he⟩ : ∃ v, v = adjE we hs y c := ⟨_, rfl⟩
  simp only [← hv, ← he] at c3 hg1 hst hsn
  have hw1 := wrapI ((k : Int) + 1) (by omega)
  obtain ⟨zs, hz⟩ : ∃ zs, zs = pyG ps we hs c k := ⟨_, rfl⟩
  rw [← hz] at hgl hg1 ⊢
  refine pw_seq ?_; refine pw_region ?_; refine yB rfl rfl rfl rfl ?_; refine yQ ?_; refine pw_seq ?_
  refine pw_cond rfl (fun h3 => ?_) (fun h3 => ?_)
  · simp at h3
    have e0 := ix dP ps k k (x, y) rfl (hp ▸ getP_at h3)
    refine pw_skip ?_; refine pw_seq ?_; refine pw_block ?_; refine pw_seq ?_; refine pw_region ?_; refine yW e0 (by omega) rfl rfl ?_; refine yLs (ys := [_, _]) rfl rfl rfl ?_; refine yZ (cs := [_, _]) rfl rfl ?_
    refine yS (cs' := [_, _]) rfl rfl rfl rfl rfl ?_; refine yQ ?_; refine pw_seq ?_; refine pw_region ?_; refine yLa (ys := [_, _]) rfl rfl rfl rfl ?_; refine yFb rfl ?_; refine yLd rfl rfl rfl ?_; refine yMd rfl ?_
    refine yC (c3) rfl rfl ?_; refine yMp rfl ?_; refine yX rfl rfl ?_; refine yX rfl rfl ?_; refine yAd rfl ?_; refine yAd rfl ?_; refine yQ ?_; refine pw_seq ?_; refine pw_seq ?_; refine pw_region ?_; refine yMd rfl ?_
    refine yB rfl rfl rfl rfl ?_; refine yQ ?_; refine q_then ?_
    by_cases h0 : e = 0
    · subst h0
      refine pw_cf rfl ?_; refine pw_skip ?_; refine pw_region ?_; refine yMt rfl ?_; refine yMd rfl ?_; refine yR (es := [[_]]) rfl rfl rfl rfl rfl ?_
      refine yT (es' := (zs ++ [v]).map dZ) (m := ((zs ++ [v]).map dZ).length) (by simp; omega) (by simp; omega) rfl rfl rfl rfl rfl (by simp) (by simp) ?_; refine yAt rfl ?_; refine yQ ?_; refine pw_region ?_
      refine yB rfl rfl rfl rfl ?_; refine yMd rfl ?_; refine yQ ?_; refine q_then ?_
      refine ⟨k + 1, ⟨by omega, hsn rfl⟩, by omega, rfl, ⟨.refl _, .refl _, .refl _, .refl _, .of_eq (congrArg (fun n => SV.d (dI n)) hw1), .of_eq ?_, trivial⟩, ⟨⟨_, rfl, .refl _, .refl _, trivial⟩, trivial⟩, ⟨?_, trivial⟩, rfl⟩
      · rw [hg1]; rfl
      · rw [hg1]; rfl
    · have h1 : (e != 0) = true := by simpa using h0
      have h2 : pyE ps we hs c = e := by rw [hE]; exact hst h3 h0
      have h4 : pyL ps we hs c = [] := by rw [pyL, if_neg (by rw [h2]; exact h0)]
      rw [h1, h2, h4]
      refine pw_ct rfl ?_; refine pw_seq ?_; refine pw_region ?_; refine yMd rfl ?_; refine yAd rfl ?_; refine yAd rfl ?_; refine yQ ?_; refine pw_ret ?_; refine q_then_ret ?_; refine q_blk_ret ?_; refine q_then_ret ?_
      refine q_then_ret ?_; refine q_blk_ret ?_; refine q_then_ret ?_
      exact q_ret _ (.tnil 1 rfl (.tmp rfl .nil)) rfl
  · simp at h3
    obtain rfl : k = ps.length := by omega
    have h2 : pyE ps we hs c = 0 := by rw [hE]; exact fe_all _ _ hall
    have hl : pyL ps we hs c = zs := by rw [pyL, if_pos h2, hz]
    rw [hl, h2]
    refine pw_exit ?_; refine pw_seq ?_; refine pw_region ?_; refine yMt rfl ?_; refine yAt rfl ?_; refine yAd rfl ?_; refine yQ ?_; refine pw_ret ?_
    exact q_ret _ (.tmp rfl (.tmp rfl .nil)) rfl
end Go.Proofs.Ytilbolgncpfmmaa
