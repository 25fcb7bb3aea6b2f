/- The walk of the law ScheduleRegular, for this seat. -/
import Derived.Test.YtilbolgncpfmmaaW10
namespace Go.Proofs.Ytilbolgncpfmmaa
open Go.RowKit Px

section
variable {P : Program} {sq : Bool} {ops : Array Oper} {K : PS → Prop} {rest : List Oper} {st : PS} {d : Option Nat} {ty : TypeId} {pos : String} {af : Array Edge} {gd : Option (Nat × Bool)}
/-- an operation of two plain operands, by its run -/
theorem yBr {op : BinOp} {t t' : Nat} {x y : Operand} {vx vy u : Value} (hr : ∀ w, (eqGuard op t x y vx vy >>= fun _ => binOp op t vx vy).run P w = .ok u w) (hx : st.ev x = .d (.val vx)) (hy : st.ev y = .d (.val vy)) (hu : u.oneCell' = true) (h : YR P sq ops K rest (st.put d (.d (.val u)))) (hd : dstOk ⟨d, .binOp op t x y t', ty, pos, af, gd⟩ st = true := by kernel_rfl) (hk : opOk ⟨d, .binOp op t x y t', ty, pos, af, gd⟩ st .no = true := by kernel_rfl) (hw : st.want ops ⟨d, .binOp op t x y t', ty, pos, af, gd⟩ = some true := by rfl) : YR P sq ops K (⟨d, .binOp op t x y t', ty, pos, af, gd⟩ :: rest) st := yr_v (ls_bin_run op t t' x y hx hy hr hu hd) hk hw h
end
theorem remR {P : Program} (t : Nat) (o1 o2 : Operand) (x y : Int) (hy : y ≠ 0) (w : World) : (eqGuard .rem t o1 o2 (.int .i64 x) (.int .i64 y) >>= fun _ => binOp .rem t (.int .i64 x) (.int .i64 y)).run P w = .ok (.int .i64 (x.tmod y)) w := by
  simp [eqGuard, binOp, Op.intDiv, hy]

theorem sReg_one {x y m : Int} (h : amE x m = 0) (h' : amV x m = y) : sReg x y m = true := by unfold sReg; rw [h, h']; simp
theorem sReg_two {x y m : Int} (h : amE y (-m) = 0) (h' : amV y (-m) = x) : sReg x y m = true := by unfold sReg; rw [h, h']; simp
theorem ir_single {u v m : Int} (hu : vB u = true) (hv : vB v = true) (huv : u < v) (hm1 : 1 ≤ m) (hm2 : m ≤ 4800) (hr : sReg u v m = true) : irE [(u, v)] m = 0 ∧ irL [(u, v)] m = [] := by
  have hc : sChk [(u, v)] = 0 := by
    refine sChk_ok (by simp) (by simp) fun j hj => ?_
    have hj0 : j = 0 := by simpa using hj
    subst hj0
    have e : getP [(u, v)] 0 = (u, v) := rfl
    unfold errP
    rw [e, if_neg (by simp [hu, hv]), if_neg (by simp only; omega), if_neg (by omega)]
  have he : irE [(u, v)] m = 0 := by rw [irE, hc]; simp [sck]; omega
  refine ⟨he, ?_⟩
  rw [irL, if_pos he]
  have : irG [(u, v)] m 1 = _ := irG_succ [(u, v)] m 0
  rw [show ([(u, v)] : List (Int × Int)).length = 1 from rfl, this, show getP [(u, v)] 0 = (u, v) from rfl]
  simp only
  rw [hr, if_pos rfl]
  rfl
/-- Regular of a built schedule -/
theorem rgP_blt {a b m s : Int} (h : Blt a b m s) (j : Nat) (hj : j ≤ (inR a b m s m).length) {x y : Int} (hp : (x, y) = getP (prs (eL a b m s)) j) :
    rgP x y m s = ((0, 0), 13) ∨ ∃ u v, rgP x y m s = ((u, v), 0) ∧ irE [(u, v)] m = 0 ∧ irL [(u, v)] m = [] ∧ u ≤ x ∧ y ≤ v := by
  have hl := eL_length (a := a) (b := b) (m := m) h.st
  have e := prs_getP (eL a b m s) j (by omega)
  rw [← hp] at e
  obtain ⟨ex, ey⟩ := Prod.mk.inj e
  have hvx : vB x = true := by rw [ex]; exact eL_valid h _ (getZ_mem (by omega))
  have hvy : vB y = true := by rw [ey]; exact eL_valid h _ (getZ_mem (by omega))
  have hxy : x < y := by rw [ex, ey]; exact pw_lt (eL_sorted h.st h.ab) (by omega) (by omega)
  have hm1 := h.m1
  have hm2 := h.m2
  by_cases hr : sReg x y m = true
  · right
    obtain ⟨h1, h2⟩ := ir_single hvx hvy hxy hm1 hm2 hr
    exact ⟨x, y, by rw [rgP, if_pos hr], h1, h2, Int.le_refl _, Int.le_refl _⟩
  have hr' : sReg x y m = false := by simpa using hr
  rcases h.st with rfl | rfl
  · have hj0 : j = 0 := by
      rcases Nat.eq_zero_or_pos j with h0 | h0
      · exact h0
      · exact absurd (by rw [ex, ey]; exact blt_reg h j hj ⟨fun _ => by omega, fun e => by omega⟩) hr
    subst hj0
    by_cases he : amE y (-m) = 0
    · right
      have hxa : x = a := by rw [ex]; exact eL_zero (.inl rfl)
      have hst : amV y (-m) < a := by
        have := stub_one h
        rw [← ey, ← hxa] at this
        rw [← hxa]
        exact this hr' he
      have hlt := amV_ls he (by omega)
      obtain ⟨h1, h2⟩ := ir_single (amV_vB he) hvy hlt hm1 hm2 (sReg_two he rfl)
      exact ⟨amV y (-m), y, by rw [rgP, if_neg hr, if_pos rfl, if_pos he], h1, h2, by omega, Int.le_refl _⟩
    · left
      rw [rgP, if_neg hr, if_pos rfl, if_neg he]
  · have hjN : j = (inR a b m 2 m).length := by
      rcases Nat.lt_or_ge j (inR a b m 2 m).length with h0 | h0
      · exact absurd (by rw [ex, ey]; exact blt_reg h j hj ⟨fun e => by omega, fun _ => by omega⟩) hr
      · omega
    by_cases he : amE x m = 0
    · right
      have hyb : y = b := by rw [ey, hjN]; exact eL_last (.inr rfl)
      have hst : b < amV x m := by
        have := stub_two h
        rw [← hjN, ← ex, ← hyb] at this
        rw [← hyb]
        exact this hr' he
      have hlt := amV_gt he (by omega)
      obtain ⟨h1, h2⟩ := ir_single hvx (amV_vB he) hlt hm1 hm2 (sReg_one he rfl)
      exact ⟨x, amV x m, by rw [rgP, if_neg hr, if_neg (by decide), if_pos he], h1, h2, Int.le_refl _, by omega⟩
    · left
      rw [rgP, if_neg hr, if_neg (by decide), if_neg he]

set_option maxRecDepth 20000 in
set_option maxHeartbeats 4000000 in
theorem p13 (a b m s n : Int) (hn : 0 ≤ n ∧ n ≤ 255) : PCalls Try.prog 13 [.agg [dI a, dI b], dI m, dI s, .val (.int .u8 n)] (.d (dB true)) := by
  obtain ⟨e, he⟩ : ∃ e, e = bE a b m s := ⟨_, rfl⟩
  have c1 := p40 a b m s
  rw [← he] at c1
  by_cases h0 : e = 0
  rotate_left
  · have hb : (e != 0) = true := by simpa using h0
    refine pcalls_of_pw Try.func13 rfl Try.ntmps13 Try.results13 (by simp) fun B w0 => ?_
    refine pw_seq ?_; refine pw_region ?_; refine yK (cs := [_, _]) rfl rfl ?_; refine yAd rfl ?_; refine yQ ?_; refine pw_seq ?_; refine pw_region ?_; refine yLa (ys := [_, _]) rfl rfl rfl rfl ?_; refine yMd rfl ?_; refine yMd rfl ?_
    refine yC (c1) rfl rfl ?_; refine yMp rfl ?_; refine yX rfl rfl ?_; refine yX rfl rfl ?_; refine yAd rfl ?_; refine yAd rfl ?_; refine yQ ?_; refine pw_seq ?_; refine pw_seq ?_; refine pw_region ?_; refine yMd rfl ?_
    refine yB rfl rfl rfl rfl ?_; refine yMd rfl ?_
    rw [hb]
    refine yO rfl ?_; refine yO rfl ?_; refine yO rfl ?_; refine yPd rfl rfl ?_; refine yQ ?_; refine pw_ct rfl ?_; refine pw_seq ?_; refine pw_region ?_; refine yC (p43) rfl rfl ?_; refine yAd rfl ?_; refine yQ ?_; refine pw_ret ?_
    refine q_then_ret ?_
    exact q_ret _ (.tmp rfl .nil) rfl
  subst h0
  obtain ⟨hB, hL⟩ := blt_of he.symm
  rw [hL] at c1
  obtain ⟨hck, hpl⟩ := blt_chk hB
  have hm1 := hB.m1
  have hm2 := hB.m2
  have hfew := hB.few
  obtain ⟨N, hN⟩ : ∃ N, N = (inR a b m s m).length := ⟨_, rfl⟩
  obtain ⟨j, hj⟩ : ∃ j, j = n.toNat % (N + 1) := ⟨_, rfl⟩
  have hjN : j ≤ N := by rw [hj]; have := Nat.mod_lt n.toNat (show 0 < N + 1 by omega); omega
  obtain ⟨⟨x, y⟩, hp⟩ : ∃ p, p = getP (prs (eL a b m s)) j := ⟨_, rfl⟩
  have hrg := rgP_blt hB j (by omega) hp
  have c2 := p50 (prs (eL a b m s)) j m s
  have hsk : sck (sChk (prs (eL a b m s)) == 0) m s = 0 := by rw [hck]; have := hB.st; simp [sck]; omega
  rw [rgR, if_pos hsk, if_neg (by omega), Int.toNat_natCast, ← hp] at c2
  simp only at c2
  have g0 := getP_at (ps := prs (eL a b m s)) (i := j) (by omega)
  rw [← hp] at g0
  obtain ⟨ps, hps⟩ : ∃ ps, ps = prs (eL a b m s) := ⟨_, rfl⟩
  rw [← hps] at c1 c2 g0 hpl
  have hn0 : (((ps.map dP).length : Int) == 0) = false := by simp; intro h; rw [h] at hpl; simp at hpl
  have hmod : (IntKind.i64.wrap n).tmod ((ps.map dP).length : Int) = j := by
    rw [wrapI n (by omega), List.length_map, hpl, ← hN, hj]
    obtain ⟨k, rfl⟩ := Int.eq_ofNat_of_zero_le hn.1
    rw [Int.toNat_natCast, Int.ofNat_tmod]
  have hrem := fun o1 o2 w => remR (P := Try.prog) 3 o1 o2 (IntKind.i64.wrap n) ((ps.map dP).length : Int) (by simp; intro h; rw [h] at hpl; simp at hpl) w
  rw [hmod] at hrem
  have e0 := ix dP ps j j (x, y) rfl g0
  rcases hrg with hrg | ⟨u, v, hrg, hi1, hi2, hux, hyv⟩
  · rw [hrg] at c2
    refine pcalls_of_pw Try.func13 rfl Try.ntmps13 Try.results13 (by simp) fun B w0 => ?_
    refine pw_seq ?_; refine pw_region ?_; refine yK (cs := [_, _]) rfl rfl ?_; refine yAd rfl ?_; refine yQ ?_; refine pw_seq ?_; refine pw_region ?_; refine yLa (ys := [_, _]) rfl rfl rfl rfl ?_; refine yMd rfl ?_; refine yMd rfl ?_
    refine yC (c1) rfl rfl ?_; refine yMp rfl ?_; refine yX rfl rfl ?_; refine yX rfl rfl ?_; refine yAd rfl ?_; refine yAd rfl ?_; refine yQ ?_; refine pw_seq ?_; refine pw_seq ?_; refine pw_region ?_; refine yMd rfl ?_
    refine yB rfl rfl rfl rfl ?_; refine yMd rfl ?_; refine yMd rfl ?_; refine yN rfl ?_; refine yB rfl rfl rfl rfl ?_; refine yVd rfl rfl ?_; refine yQ ?_; refine q_then ?_
    rw [hn0]
    refine pw_cf rfl ?_; refine pw_skip ?_; refine pw_seq ?_; refine pw_region ?_; refine yMd rfl ?_; refine yJ rfl ?_; refine yMd rfl ?_; refine yN rfl ?_; refine yBr (hrem _ _) rfl rfl rfl ?_; refine yAd rfl ?_; refine yQ ?_
    refine pw_seq ?_; refine pw_region ?_; refine yMd rfl ?_; refine yMd rfl ?_; refine yMd rfl ?_; refine yMd rfl ?_; refine yC (c2) rfl rfl ?_; refine yMp rfl ?_; refine yX rfl rfl ?_; refine yX rfl rfl ?_
    refine yZ (cs := [_, _]) rfl rfl ?_; refine yS (cs' := [_, _]) rfl rfl rfl rfl rfl ?_; refine yAd rfl ?_; refine yQ ?_; refine pw_seq ?_; refine pw_seq ?_; refine pw_region ?_; refine yMd rfl ?_; refine yB rfl rfl rfl rfl ?_
    refine yQ ?_; refine pw_ct rfl ?_; refine pw_seq ?_; refine pw_region ?_; refine yMd rfl ?_; refine yB rfl rfl rfl rfl ?_; refine yMd rfl ?_; refine yLa (ys := [_, _]) rfl rfl rfl rfl ?_; refine yG (ys := [_, _]) rfl rfl ?_
    refine yBA (eqlR _ _ _ _ _ _) rfl rfl rfl rfl rfl ?_; refine yPd rfl rfl ?_; refine yMd rfl ?_; refine yC (p43) rfl rfl ?_; refine yPd rfl rfl ?_; refine yAd rfl ?_; refine yQ ?_; refine pw_ret ?_; refine q_then_ret ?_
    exact q_ret _ (.tmp rfl .nil) rfl
  · rw [hrg] at c2
    have c3 := p45 [(u, v)] m
    rw [hi1, hi2] at c3
    have hb1 : decide (u ≤ x) = true := decide_eq_true hux
    have hb2 : decide (y ≤ v) = true := decide_eq_true hyv
    refine pcalls_of_pw Try.func13 rfl Try.ntmps13 Try.results13 (by simp) fun B w0 => ?_
    refine pw_seq ?_; refine pw_region ?_; refine yK (cs := [_, _]) rfl rfl ?_; refine yAd rfl ?_; refine yQ ?_; refine pw_seq ?_; refine pw_region ?_; refine yLa (ys := [_, _]) rfl rfl rfl rfl ?_; refine yMd rfl ?_; refine yMd rfl ?_
    refine yC (c1) rfl rfl ?_; refine yMp rfl ?_; refine yX rfl rfl ?_; refine yX rfl rfl ?_; refine yAd rfl ?_; refine yAd rfl ?_; refine yQ ?_; refine pw_seq ?_; refine pw_seq ?_; refine pw_region ?_; refine yMd rfl ?_
    refine yB rfl rfl rfl rfl ?_; refine yMd rfl ?_; refine yMd rfl ?_; refine yN rfl ?_; refine yB rfl rfl rfl rfl ?_; refine yVd rfl rfl ?_; refine yQ ?_; refine q_then ?_
    rw [hn0]
    refine pw_cf rfl ?_; refine pw_skip ?_; refine pw_seq ?_; refine pw_region ?_; refine yMd rfl ?_; refine yJ rfl ?_; refine yMd rfl ?_; refine yN rfl ?_; refine yBr (hrem _ _) rfl rfl rfl ?_; refine yAd rfl ?_; refine yQ ?_
    refine pw_seq ?_; refine pw_region ?_; refine yMd rfl ?_; refine yMd rfl ?_; refine yMd rfl ?_; refine yMd rfl ?_; refine yC (c2) rfl rfl ?_; refine yMp rfl ?_; refine yX rfl rfl ?_; refine yX rfl rfl ?_
    refine yZ (cs := [_, _]) rfl rfl ?_; refine yS (cs' := [_, _]) rfl rfl rfl rfl rfl ?_; refine yAd rfl ?_; refine yQ ?_; refine pw_seq ?_; refine pw_seq ?_; refine pw_region ?_; refine yMd rfl ?_; refine yB rfl rfl rfl rfl ?_
    refine yQ ?_; refine pw_cf rfl ?_; refine pw_skip ?_; refine pw_seq ?_; refine pw_region ?_; refine yLa (ys := [_, _]) rfl rfl rfl rfl ?_; refine yR (es := [[_, _]]) rfl rfl rfl rfl rfl ?_; refine yMd rfl ?_
    refine yC (c3) rfl rfl ?_; refine yMp rfl ?_; refine yX rfl rfl ?_; refine yX rfl rfl ?_; refine yAd rfl ?_; refine yAd rfl ?_; refine yQ ?_; refine pw_seq ?_; refine pw_draw Try.mixed (by kernel_rfl) ?_; refine yMd rfl ?_
    refine yB rfl rfl rfl rfl ?_; refine yMd rfl ?_; refine yMd rfl ?_; refine yN rfl ?_; refine yB rfl rfl rfl rfl ?_; refine yPd rfl rfl ?_; refine yMd rfl ?_; refine yFb rfl ?_; refine yLd rfl rfl rfl ?_; refine yMd rfl ?_
    refine yMd rfl ?_; refine yW e0 (by omega) rfl rfl ?_; refine yFr rfl rfl ?_; refine yLr rfl rfl ?_; refine yB rfl rfl rfl rfl ?_; refine yPd rfl rfl ?_; refine yMd rfl ?_
    rw [hb1]
    refine yMd rfl ?_; refine yMd rfl ?_; refine yW e0 (by omega) rfl rfl ?_; refine yFr rfl rfl ?_; refine yLr rfl rfl ?_; refine yFb rfl ?_; refine yLd rfl rfl rfl ?_; refine yB rfl rfl rfl rfl ?_; refine yPd rfl rfl ?_
    refine yMd rfl ?_
    rw [hb2]
    refine yC (p43) rfl rfl ?_; refine yPd rfl rfl ?_; refine yAd rfl ?_; refine yQ ?_; refine pw_ret ?_
    exact q_end _ (.tmp rfl .nil) rfl
theorem regular_law (a b m s n : Int) (hn : 0 ≤ n ∧ n ≤ 255) (w : World) : Calls Try.prog 13 #[.agg #[.int .i64 a, .int .i64 b], .int .i64 m, .int .i64 s, .int .u8 n] w fun e w' => e = .returned (.bool true) ∧ Below w.heap.size w w' :=
  calls_of_true (p13 a b m s n hn) w [.agg #[.int .i64 a, .int .i64 b], .int .i64 m, .int .i64 s, .int .u8 n] rfl fun i v x hv hx => by
    match i, hv, hx with
    | 0, hv, hx => cases hv; cases hx; exact drep_per a b
    | 1, hv, hx => cases hv; cases hx; exact .val _ rfl
    | 2, hv, hx => cases hv; cases hx; exact .val _ rfl
    | 3, hv, hx => cases hv; cases hx; exact .val _ rfl
    | i + 4, hv, hx => simp at hv
end Go.Proofs.Ytilbolgncpfmmaa
