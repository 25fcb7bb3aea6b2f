/- Walks of the reference's Irregular, Find and Next, for this seat. -/
import Derived.Test.YtilbolgncpfmmaaW3
namespace Go.Proofs.Ytilbolgncpfmmaa
open Go.RowKit Px

theorem sck_bad {m s : Int} : sck false m s = 1 := by simp [sck]
set_option maxRecDepth 20000 in
set_option maxHeartbeats 1000000 in
theorem p56 (ps : List (Int × Int)) (m : Int) : PCalls Try.prog 56 [dPs ps, dI m] (.tup [dIs (irL ps m), dI (irE ps m)]) := by
  obtain ⟨c, hc⟩ : ∃ c, c = sChk ps := ⟨_, rfl⟩
  have c1 : PCalls Try.prog 58 [dPs ps] (.d (dI c)) := hc ▸ p58 ps
  have he : irE ps m = sck (c == 0) m 1 := by rw [irE, ← hc]
  refine pcalls_of_pw Try.func56 rfl Try.ntmps56 Try.results56 (by simp) fun B w0 => ?_
  refine pw_seq ?_; refine pw_region ?_; refine yAd rfl ?_; refine yAd rfl ?_; refine yQ ?_; refine pw_seq ?_; refine pw_seq ?_; refine pw_region ?_; refine yMd rfl ?_; refine yC (c1) rfl rfl ?_; refine yB rfl rfl rfl rfl ?_
  refine yQ ?_; refine q_then ?_
  refine pw_cond rfl (fun h => ?_) (fun h => ?_)
  · simp at h
    have he1 : irE ps m = 1 := by rw [he, show (c == 0) = false by simpa using h, sck_bad]
    have hl : irL ps m = [] := by rw [irL, if_neg (by rw [he1]; decide)]
    rw [hl, he1]
    refine pw_seq ?_; refine pw_region ?_; refine yAd rfl ?_; refine yAd rfl ?_; refine yQ ?_; refine pw_ret ?_; refine q_then_ret ?_
    exact q_ret _ (.tnil 1 rfl (.tmp rfl .nil)) rfl
  simp at h
  subst h
  refine pw_skip ?_; refine pw_seq ?_; refine pw_seq ?_; refine pw_region ?_; refine yMd rfl ?_; refine yB rfl rfl rfl rfl ?_; refine yMd rfl ?_
  cases h1 : decide (m < 1)
  rotate_left
  · simp at h1
    have he1 : irE ps m = 2 := by rw [he]; simp [sck]; omega
    have hl : irL ps m = [] := by rw [irL, if_neg (by rw [he1]; decide)]
    rw [hl, he1]
    refine yO rfl ?_; refine yO rfl ?_; refine yPd rfl rfl ?_; refine yQ ?_; refine pw_ct rfl ?_; refine pw_seq ?_; refine pw_region ?_; refine yAd rfl ?_; refine yAd rfl ?_; refine yQ ?_; refine pw_ret ?_; refine q_then_ret ?_
    exact q_ret _ (.tnil 1 rfl (.tmp rfl .nil)) rfl
  refine yMd rfl ?_; refine yB rfl rfl rfl rfl ?_; refine yVd rfl rfl ?_; refine yQ ?_; refine q_then ?_
  cases h2 : decide (m > 4800)
  rotate_left
  · simp at h2
    have he1 : irE ps m = 2 := by rw [he]; simp [sck]; omega
    have hl : irL ps m = [] := by rw [irL, if_neg (by rw [he1]; decide)]
    rw [hl, he1]
    refine pw_ct rfl ?_; refine pw_seq ?_; refine pw_region ?_; refine yAd rfl ?_; refine yAd rfl ?_; refine yQ ?_; refine pw_ret ?_; refine q_then_ret ?_
    exact q_ret _ (.tnil 1 rfl (.tmp rfl .nil)) rfl
  simp at h1 h2
  have he0 : irE ps m = 0 := by rw [he]; simp [sck]; omega
  have hlen := sChk_len hc.symm
  rw [he0]
  refine pw_cf rfl ?_; refine pw_skip ?_; refine pw_seq ?_; refine pw_region ?_; refine yRt (t := 300006) (es := []) rfl rfl rfl rfl rfl rfl rfl rfl ?_; refine yAt rfl ?_; refine yQ ?_; refine pw_seq ?_; refine pw_seq ?_
  refine pw_region ?_; refine yAd rfl ?_; refine yQ ?_; refine pw_block ?_
  refine pw_loop (fun k : Nat => ⟨36, [(0, .d (dPs ps)), (1, .d (dI m)), (7, .d (dI k)), (6, .ts 300006 1 ((irG ps m k).map dZ))], [], [(300006, ((irG ps m k).map dZ).length)]⟩) (fun k => k ≤ ps.length) (fun k => ps.length - k) 0 (Nat.zero_le _) ⟨rfl, ⟨.refl _, .refl _, .refl _, .refl _, trivial⟩, trivial, ⟨rfl, trivial⟩, rfl⟩ ?_
  intro k hk
  obtain ⟨⟨x, y⟩, hp⟩ : ∃ p, p = getP ps k := ⟨_, rfl⟩
  obtain ⟨r, hr⟩ : ∃ r, r = sReg x y m := ⟨_, rfl⟩
  have c3 : PCalls Try.prog 96 [.agg [dI x, dI y], dI m] (.d (dB r)) := hr ▸ p96 x y m (by omega) (by omega)
  have hgl := irG_len ps m k
  have hw1 := wrapI ((k : Int) + 1) (by omega)
  have hg1 := irG_succ ps m k
  rw [← hp] at hg1
  simp only [← hr] at hg1
  obtain ⟨zs, hz⟩ : ∃ zs, zs = irG ps m k := ⟨_, rfl⟩
  rw [← hz] at hgl hg1 ⊢
  refine pw_seq ?_; refine pw_seq ?_; refine pw_region ?_; refine yMd rfl ?_; refine yMd rfl ?_; refine yN rfl ?_; refine yB rfl rfl rfl rfl ?_; refine yQ ?_; refine q_then ?_
  refine pw_cond rfl (fun h3 => ?_) (fun h3 => ?_)
  · simp at h3
    have e0 := ix dP ps k k (x, y) rfl (hp ▸ getP_at h3)
    refine pw_skip ?_; refine pw_seq ?_; refine pw_block ?_; refine pw_seq ?_; refine pw_region ?_; refine yMd rfl ?_; refine yMd rfl ?_; refine yW e0 (by omega) rfl rfl ?_; refine yLs (ys := [_, _]) rfl rfl rfl ?_; refine yMd rfl ?_
    refine yC (c3) rfl rfl ?_; refine yU rfl rfl rfl ?_; refine yQ ?_; refine q_then ?_
    cases r
    · refine pw_ct rfl ?_; refine pw_region ?_; refine yMt rfl ?_; refine yMd rfl ?_; refine yR (es := [[_]]) rfl rfl rfl rfl rfl ?_
      refine yT (es' := (zs ++ [(k : Int)]).map dZ) (m := ((zs ++ [(k : Int)]).map dZ).length) (by simp; omega) (by simp; omega) rfl rfl rfl rfl rfl (by simp) (by simp) ?_; refine yAt rfl ?_; refine yQ ?_; refine pw_region ?_
      refine yMd rfl ?_; refine yB rfl rfl rfl rfl ?_; refine yAd rfl ?_; refine yQ ?_; refine q_then ?_
      refine ⟨k + 1, by omega, by omega, rfl, ⟨.refl _, .refl _, .of_eq (congrArg (fun n => SV.d (dI n)) hw1), .of_eq ?_, trivial⟩, trivial, ⟨?_, trivial⟩, rfl⟩
      · rw [hg1]; rfl
      · rw [hg1]; rfl
    · refine pw_cf rfl ?_; refine pw_skip ?_; refine pw_region ?_; refine yMd rfl ?_; refine yB rfl rfl rfl rfl ?_; refine yAd rfl ?_; refine yQ ?_; refine q_then ?_
      refine ⟨k + 1, by omega, by omega, rfl, ⟨.refl _, .refl _, .of_eq (congrArg (fun n => SV.d (dI n)) hw1), .of_eq ?_, trivial⟩, trivial, ⟨?_, trivial⟩, rfl⟩
      · rw [hg1, if_pos rfl, List.append_nil]; rfl
      · rw [hg1, if_pos rfl, List.append_nil]; rfl
  · simp at h3
    obtain rfl : k = ps.length := by omega
    have hl : irL ps m = zs := by rw [irL, if_pos he0, hz]
    rw [hl]
    refine pw_exit ?_; refine pw_seq ?_; refine pw_region ?_; refine yMt rfl ?_; refine yAt rfl ?_; refine yAd rfl ?_; refine yQ ?_; refine pw_ret ?_
    exact q_ret _ (.tmp rfl (.tmp rfl .nil)) rfl

/-- the first period of some kind -/
def fstP (q : Int × Int → Bool) (ps : List (Int × Int)) : Option Nat := ps.findIdx? q
theorem fstP_at {q : Int × Int → Bool} {ps : List (Int × Int)} {k : Nat} (hk : k < ps.length) (h : ∀ j, j < k → q (getP ps j) = false) (hq : q (getP ps k) = true) : fstP q ps = some k := by
  unfold fstP
  rw [List.findIdx?_eq_some_iff_getElem]
  have e : ∀ j (hj : j < ps.length), getP ps j = ps[j] := fun j hj => by unfold getP; rw [List.getElem?_eq_getElem hj]; rfl
  refine ⟨hk, by rw [← e k hk]; exact hq, fun j hj => ?_⟩
  rw [← e j (by omega)]
  simp [h j hj]
theorem fstP_no {q : Int × Int → Bool} {ps : List (Int × Int)} (h : ∀ j, j < ps.length → q (getP ps j) = false) : fstP q ps = none := by
  unfold fstP
  rw [List.findIdx?_eq_none_iff]
  intro x hx
  obtain ⟨j, hj⟩ := List.mem_iff_getElem?.1 hx
  have hlt := (List.getElem?_eq_some_iff.1 hj).1
  have := h j hlt
  unfold getP at this
  rw [hj] at this
  exact this
def fIn (d : Int) (p : Int × Int) : Bool := decide (p.1 ≤ d) && decide (d < p.2)
def fAf (d : Int) (p : Int × Int) : Bool := decide (d < p.2)
/-- what Find returns -/
def fdR (ps : List (Int × Int)) (d : Int) : Int × Bool × Int := if sChk ps = 0 then (match fstP (fIn d) ps with | some i => ((i : Int), true, 0) | none => (0, false, 0)) else (0, false, 1)
def nxR (ps : List (Int × Int)) (d : Int) : Int × Bool × Int := if sChk ps = 0 then (match fstP (fAf d) ps with | some i => ((getP ps i).2, true, 0) | none => (0, false, 0)) else (0, false, 1)
abbrev dF (r : Int × Bool × Int) : SV := .tup [dI r.1, dB r.2.1, dI r.2.2]
theorem fsnoc {q : Int × Int → Bool} {ps : List (Int × Int)} {k : Nat} (h : ∀ j, j < k → q (getP ps j) = false) (hk : q (getP ps k) = false) : ∀ j, j < k + 1 → q (getP ps j) = false := fun j hj => by
  rcases Nat.lt_succ_iff_lt_or_eq.1 hj with h1 | h1
  · exact h j h1
  · rw [h1]; exact hk

set_option maxRecDepth 20000 in
set_option maxHeartbeats 1000000 in
theorem p53 (ps : List (Int × Int)) (d : Int) : PCalls Try.prog 53 [dPs ps, dI d] (dF (fdR ps d)) := by
  obtain ⟨c, hc⟩ : ∃ c, c = sChk ps := ⟨_, rfl⟩
  have c1 : PCalls Try.prog 58 [dPs ps] (.d (dI c)) := hc ▸ p58 ps
  refine pcalls_of_pw Try.func53 rfl Try.ntmps53 Try.results53 (by simp) fun B w0 => ?_
  refine pw_seq ?_; refine pw_region ?_; refine yAd rfl ?_; refine yAd rfl ?_; refine yAd rfl ?_; refine yQ ?_; refine pw_seq ?_; refine pw_seq ?_; refine pw_region ?_; refine yMd rfl ?_; refine yC (c1) rfl rfl ?_
  refine yB rfl rfl rfl rfl ?_; refine yQ ?_; refine q_then ?_
  refine pw_cond rfl (fun h => ?_) (fun h => ?_)
  · simp at h
    rw [show fdR ps d = (0, false, 1) by rw [fdR, if_neg (by rw [← hc]; exact h)]]
    refine pw_seq ?_; refine pw_region ?_; refine yAd rfl ?_; refine yAd rfl ?_; refine yAd rfl ?_; refine yQ ?_; refine pw_ret ?_; refine q_then_ret ?_
    exact q_ret _ (.tmp rfl (.tmp rfl (.tmp rfl .nil))) rfl
  simp at h
  subst h
  have hlen := sChk_len hc.symm
  refine pw_skip ?_; refine pw_seq ?_; refine pw_seq ?_; refine pw_region ?_; refine yAd rfl ?_; refine yQ ?_; refine pw_block ?_
  refine pw_loop (fun k : Nat => ⟨34, [(0, .d (dPs ps)), (1, .d (dI d)), (7, .d (dI k))], [], []⟩) (fun k => k ≤ ps.length ∧ ∀ j, j < k → fIn d (getP ps j) = false) (fun k => ps.length - k) 0 ⟨Nat.zero_le _, fun j hj => by omega⟩ ⟨rfl, ⟨.refl _, .refl _, .refl _, trivial⟩, trivial, trivial, rfl⟩ ?_
  rintro k ⟨hk, hz⟩
  obtain ⟨⟨x, y⟩, hp⟩ : ∃ p, p = getP ps k := ⟨_, rfl⟩
  have hw1 := wrapI ((k : Int) + 1) (by omega)
  refine pw_seq ?_; refine pw_seq ?_; refine pw_region ?_; refine yMd rfl ?_; refine yMd rfl ?_; refine yN rfl ?_; refine yB rfl rfl rfl rfl ?_; refine yQ ?_; refine q_then ?_
  refine pw_cond rfl (fun h3 => ?_) (fun h3 => ?_)
  · simp at h3
    have e0 := ix dP ps k k (x, y) rfl (hp ▸ getP_at h3)
    refine pw_skip ?_; refine pw_seq ?_; refine pw_block ?_; refine pw_seq ?_; refine pw_region ?_; refine yMd rfl ?_; refine yMd rfl ?_; refine yW e0 (by omega) rfl rfl ?_; refine yFr rfl rfl ?_; refine yLr rfl rfl ?_
    refine yMd rfl ?_; refine yB rfl rfl rfl rfl ?_; refine yMd rfl ?_
    cases h4 : decide (x ≤ d)
    · refine yO rfl ?_; refine yO rfl ?_; refine yO rfl ?_; refine yO rfl ?_; refine yO rfl ?_; refine yO rfl ?_; refine yO rfl ?_; refine yVd rfl rfl ?_; refine yQ ?_; refine pw_cf rfl ?_; refine pw_skip ?_; refine pw_region ?_
      refine yMd rfl ?_; refine yB rfl rfl rfl rfl ?_; refine yAd rfl ?_; refine yQ ?_; refine q_then ?_
      exact ⟨k + 1, ⟨by omega, fsnoc hz (by rw [← hp]; simp [fIn, h4])⟩, by omega, rfl, ⟨.refl _, .refl _, .of_eq (congrArg (fun n => SV.d (dI n)) hw1), trivial⟩, trivial, trivial, rfl⟩
    · refine yMd rfl ?_; refine yMd rfl ?_; refine yMd rfl ?_; refine yW e0 (by omega) rfl rfl ?_; refine yFr rfl rfl ?_; refine yLr rfl rfl ?_; refine yB rfl rfl rfl rfl ?_; refine yPd rfl rfl ?_; refine yQ ?_; refine q_then ?_
      cases h5 : decide (d < y)
      · refine pw_cf rfl ?_; refine pw_skip ?_; refine pw_region ?_; refine yMd rfl ?_; refine yB rfl rfl rfl rfl ?_; refine yAd rfl ?_; refine yQ ?_; refine q_then ?_
        exact ⟨k + 1, ⟨by omega, fsnoc hz (by rw [← hp]; simp [fIn, h5])⟩, by omega, rfl, ⟨.refl _, .refl _, .of_eq (congrArg (fun n => SV.d (dI n)) hw1), trivial⟩, trivial, trivial, rfl⟩
      · rw [show fdR ps d = ((k : Int), true, 0) by rw [fdR, if_pos hc.symm, fstP_at h3 hz (by rw [← hp]; simp [fIn, h4, h5])]]
        refine pw_ct rfl ?_; refine pw_seq ?_; refine pw_region ?_; refine yMd rfl ?_; refine yAd rfl ?_; refine yAd rfl ?_; refine yAd rfl ?_; refine yQ ?_; refine pw_ret ?_; refine q_blk_ret ?_; refine q_then_ret ?_; refine q_then_ret ?_
        refine q_blk_ret ?_; refine q_then_ret ?_
        exact q_ret _ (.tmp rfl (.tmp rfl (.tmp rfl .nil))) rfl
  · simp at h3
    obtain rfl : k = ps.length := by omega
    rw [show fdR ps d = (0, false, 0) by rw [fdR, if_pos hc.symm, fstP_no hz]]
    refine pw_exit ?_; refine pw_seq ?_; refine pw_region ?_; refine yAd rfl ?_; refine yAd rfl ?_; refine yAd rfl ?_; refine yQ ?_; refine pw_ret ?_
    exact q_ret _ (.tmp rfl (.tmp rfl (.tmp rfl .nil))) rfl

set_option maxRecDepth 20000 in
set_option maxHeartbeats 1000000 in
theorem p55 (ps : List (Int × Int)) (d : Int) : PCalls Try.prog 55 [dPs ps, dI d] (dF (nxR ps d)) := by
  obtain ⟨c, hc⟩ : ∃ c, c = sChk ps := ⟨_, rfl⟩
  have c1 : PCalls Try.prog 58 [dPs ps] (.d (dI c)) := hc ▸ p58 ps
  refine pcalls_of_pw Try.func55 rfl Try.ntmps55 Try.results55 (by simp) fun B w0 => ?_
  refine pw_seq ?_; refine pw_region ?_; refine yAd rfl ?_; refine yAd rfl ?_; refine yAd rfl ?_; refine yQ ?_; refine pw_seq ?_; refine pw_seq ?_; refine pw_region ?_; refine yMd rfl ?_; refine yC (c1) rfl rfl ?_
  refine yB rfl rfl rfl rfl ?_; refine yQ ?_; refine q_then ?_
  refine pw_cond rfl (fun h => ?_) (fun h => ?_)
  · simp at h
    rw [show nxR ps d = (0, false, 1) by rw [nxR, if_neg (by rw [← hc]; exact h)]]
    refine pw_seq ?_; refine pw_region ?_; refine yAd rfl ?_; refine yAd rfl ?_; refine yAd rfl ?_; refine yQ ?_; refine pw_ret ?_; refine q_then_ret ?_
    exact q_ret _ (.tmp rfl (.tmp rfl (.tmp rfl .nil))) rfl
  simp at h
  subst h
  have hlen := sChk_len hc.symm
  refine pw_skip ?_; refine pw_seq ?_; refine pw_seq ?_; refine pw_region ?_; refine yAd rfl ?_; refine yQ ?_; refine pw_block ?_
  refine pw_loop (fun k : Nat => ⟨29, [(0, .d (dPs ps)), (1, .d (dI d)), (7, .d (dI k))], [], []⟩) (fun k => k ≤ ps.length ∧ ∀ j, j < k → fAf d (getP ps j) = false) (fun k => ps.length - k) 0 ⟨Nat.zero_le _, fun j hj => by omega⟩ ⟨rfl, ⟨.refl _, .refl _, .refl _, trivial⟩, trivial, trivial, rfl⟩ ?_
  rintro k ⟨hk, hz⟩
  obtain ⟨⟨x, y⟩, hp⟩ : ∃ p, p = getP ps k := ⟨_, rfl⟩
  have hw1 := wrapI ((k : Int) + 1) (by omega)
  refine pw_seq ?_; refine pw_seq ?_; refine pw_region ?_; refine yMd rfl ?_; refine yMd rfl ?_; refine yN rfl ?_; refine yB rfl rfl rfl rfl ?_; refine yQ ?_; refine q_then ?_
  refine pw_cond rfl (fun h3 => ?_) (fun h3 => ?_)
  · simp at h3
    have e0 := ix dP ps k k (x, y) rfl (hp ▸ getP_at h3)
    refine pw_skip ?_; refine pw_seq ?_; refine pw_block ?_; refine pw_seq ?_; refine pw_region ?_; refine yMd rfl ?_; refine yMd rfl ?_; refine yW e0 (by omega) rfl rfl ?_; refine yFr rfl rfl ?_; refine yLr rfl rfl ?_
    refine yMd rfl ?_; refine yB rfl rfl rfl rfl ?_; refine yQ ?_; refine q_then ?_
    refine pw_cond rfl (fun h4 => ?_) (fun h4 => ?_)
    · simp at h4
      rw [show nxR ps d = (y, true, 0) by rw [nxR, if_pos hc.symm, fstP_at h3 hz (by rw [← hp]; simp [fAf, h4])]; show ((getP ps k).2, true, (0 : Int)) = _; rw [← hp]]
      refine pw_seq ?_; refine pw_region ?_; refine yMd rfl ?_; refine yMd rfl ?_; refine yW e0 (by omega) rfl rfl ?_; refine yFr rfl rfl ?_; refine yLr rfl rfl ?_; refine yAd rfl ?_; refine yAd rfl ?_; refine yAd rfl ?_; refine yQ ?_
      refine pw_ret ?_; refine q_blk_ret ?_; refine q_then_ret ?_; refine q_then_ret ?_; refine q_blk_ret ?_; refine q_then_ret ?_
      exact q_ret _ (.tmp rfl (.tmp rfl (.tmp rfl .nil))) rfl
    · simp at h4
      refine pw_skip ?_; refine pw_region ?_; refine yMd rfl ?_; refine yB rfl rfl rfl rfl ?_; refine yAd rfl ?_; refine yQ ?_; refine q_then ?_
      exact ⟨k + 1, ⟨by omega, fsnoc hz (by rw [← hp]; simp [fAf]; omega)⟩, by omega, rfl, ⟨.refl _, .refl _, .of_eq (congrArg (fun n => SV.d (dI n)) hw1), trivial⟩, trivial, trivial, rfl⟩
  · simp at h3
    obtain rfl : k = ps.length := by omega
    rw [show nxR ps d = (0, false, 0) by rw [nxR, if_pos hc.symm, fstP_no hz]]
    refine pw_exit ?_; refine pw_seq ?_; refine pw_region ?_; refine yAd rfl ?_; refine yAd rfl ?_; refine yAd rfl ?_; refine yQ ?_; refine pw_ret ?_
    exact q_ret _ (.tmp rfl (.tmp rfl (.tmp rfl .nil))) rfl
end Go.Proofs.Ytilbolgncpfmmaa
