/- Walk: the law on the order of terms. -/
import Derived.Test.YtmfeinilbjfnpaaGreatDoorB6
namespace Go.Proofs.YtmfeinilbjfnpaaGreatDoor
open Go.RowKit Px

namespace Px
section
variable {P : Program} {sq : Bool} {ops : Array Oper} {K : PS → Prop} {rest : List Oper} {st : PS} {d : Option Nat} {ty : TypeId} {pos : String} {af : Array Edge} {gd : Option (Nat × Bool)}
theorem run_rem (t : Nat) (o1 o2 : Operand) (x y : Int) (hy : y ≠ 0) (w : World) : (eqGuard .rem t o1 o2 (.int .i64 x) (.int .i64 y) >>= fun _ => binOp .rem t (.int .i64 x) (.int .i64 y)).run P w = .ok (.int .i64 (x.tmod y)) w := by
  simp [eqGuard, binOp, Op.intDiv, hy]
theorem yBm {t t' : Nat} {x y : Operand} {a b c : Int} (hb : b ≠ 0) (hc : a.tmod b = c) (hx : st.ev x = .d (.val (.int .i64 a))) (hy : st.ev y = .d (.val (.int .i64 b))) (h : YR P sq ops K rest (st.put d (.d (.val (.int .i64 c))))) (hd : dstOk ⟨d, .binOp .rem t x y t', ty, pos, af, gd⟩ st = true := by kernel_rfl) (hk : opOk ⟨d, .binOp .rem t x y t', ty, pos, af, gd⟩ st .no = true := by kernel_rfl) (hw : st.want ops ⟨d, .binOp .rem t x y t', ty, pos, af, gd⟩ = some true := by rfl) :
    YR P sq ops K (⟨d, .binOp .rem t x y t', ty, pos, af, gd⟩ :: rest) st := by
  subst hc
  exact yr_v (ls_bin_run .rem t t' x y hx hy (run_rem t x y a b hb) rfl hd) hk hw h
end
end Px
theorem rot_mem {e : List Cf} (k : Nat) (c : Cf) : c ∈ e.drop k ++ e.take k ↔ c ∈ e := by
  rw [List.mem_append, or_comm, ← List.mem_append, List.take_append_drop]
theorem rot_len (e : List Cf) (k : Nat) : (e.drop k ++ e.take k).length = e.length := by
  rw [List.length_append, Nat.add_comm, ← List.length_append, List.take_append_drop]
theorem rot_chE (e : List Cf) (k : Nat) : chE (e.drop k ++ e.take k) = 0 ↔ chE e = 0 := by
  rw [chE_zero, chE_zero, rot_len]
  constructor
  · rintro ⟨h1, h2⟩; exact ⟨h1, fun c hc => h2 c ((rot_mem k c).2 hc)⟩
  · rintro ⟨h1, h2⟩; exact ⟨h1, fun c hc => h2 c ((rot_mem k c).1 hc)⟩
theorem rot_nf (e : List Cf) (k : Nat) : nf (e.drop k ++ e.take k) = nf e := nf_ext fun j => by
  rw [cf, evA_append, Int.add_comm, ← evA_append, List.take_append_drop]
theorem ev_nf {e : List Cf} (h : chE e = 0) (L : List Cf) : evE (nf e) L = evE e L ∧ evV (nf e) L = evV e L := by
  have h1 : chE (nf e) = 0 := chE_nf (chE_names h) (Nat.le_trans (nf_len e) (chE_len h))
  have h2 : evE (nf e) L = evE e L := by rw [evE, evE, h1, h, nf_nf]
  exact ⟨h2, by rw [evV, evV, h2, nf_nf]⟩
theorem manyB_small {L : List Cf} (h : manyB L = false) : L.length ≤ 12 ∧ ∀ c ∈ L, c.1.length ≤ 20 ∧ c.2.length ≤ 20 := by
  unfold manyB at h
  simp only [Bool.or_eq_false_iff, decide_eq_false_iff_not, List.any_eq_false] at h
  refine ⟨by omega, fun c hc => ?_⟩
  have := h.2 c hc
  unfold bigC at this
  simp only [Bool.or_eq_true, decide_eq_true_eq, not_or] at this
  omega
set_option maxRecDepth 20000 in
set_option maxHeartbeats 8000000 in
theorem lawOrd (e : List Cf) (u : Int) (hu0 : 0 ≤ u) (hu1 : u ≤ 255) (L : List Cf) : PCalls Tryz.prog 5 [.sl 2 (e.map dCf), .val (.int .u8 u), .sl 2 (L.map dCf)] (.d (dB true)) := by
  have k0 := wAwake
  have k1 := wGreatE [e] (by simp)
  simp only [List.map_cons, List.map_nil] at k1
  have k2 := wMany L
  cases hg : [e].any bigE with
  | true =>
    rw [hg] at k1
    refine pcalls_of_pw Tryz.func5 rfl Tryz.ntmps5 Tryz.results5 (by simp) fun B w0 => ?_
    refine pw_seq ?_; refine pw_region ?_; refine yAd rfl ?_; refine yQ ?_; refine pw_seq ?_; refine pw_seq ?_; refine pw_region ?_; refine yMd rfl ?_; refine yR (es := [[_]]) rfl rfl rfl rfl rfl ?_; refine yC (k1) rfl rfl ?_
    refine yMd rfl ?_; refine yO rfl ?_; refine yO rfl ?_; refine yPd rfl rfl ?_; refine yMd rfl ?_; refine yO rfl ?_; refine yO rfl ?_; refine yO rfl ?_; refine yPd rfl rfl ?_; refine yQ ?_; refine pw_ct rfl ?_; refine pw_seq ?_
    refine pw_region ?_; refine yC (k0) rfl rfl ?_; refine yAd rfl ?_; refine yQ ?_; refine pw_ret ?_; refine q_then_ret ?_
    exact q_ret _ (.tmp rfl .nil) rfl
  | false =>
  rw [hg] at k1
  simp only [List.any_cons, List.any_nil, Bool.or_eq_false_iff] at hg
  obtain ⟨a1, -, a2⟩ := bigE_small hg.1
  cases hm : manyB L with
  | true =>
    rw [hm] at k2
    refine pcalls_of_pw Tryz.func5 rfl Tryz.ntmps5 Tryz.results5 (by simp) fun B w0 => ?_
    refine pw_seq ?_; refine pw_region ?_; refine yAd rfl ?_; refine yQ ?_; refine pw_seq ?_; refine pw_seq ?_; refine pw_region ?_; refine yMd rfl ?_; refine yR (es := [[_]]) rfl rfl rfl rfl rfl ?_; refine yC (k1) rfl rfl ?_
    refine yMd rfl ?_; refine yMd rfl ?_; refine yC (k2) rfl rfl ?_; refine yVd rfl rfl ?_; refine yMd rfl ?_; refine yO rfl ?_; refine yO rfl ?_; refine yO rfl ?_; refine yPd rfl rfl ?_; refine yQ ?_; refine pw_ct rfl ?_
    refine pw_seq ?_; refine pw_region ?_; refine yC (k0) rfl rfl ?_; refine yAd rfl ?_; refine yQ ?_; refine pw_ret ?_; refine q_then_ret ?_
    exact q_ret _ (.tmp rfl .nil) rfl
  | false =>
  rw [hm] at k2
  obtain ⟨b1, b2⟩ := manyB_small hm
  rcases Nat.eq_zero_or_pos e.length with h0 | h0
  · have t0 : (((e.map dCf).length : Int) == 0) = true := by rw [List.length_map, h0]; rfl
    refine pcalls_of_pw Tryz.func5 rfl Tryz.ntmps5 Tryz.results5 (by simp) fun B w0 => ?_
    refine pw_seq ?_; refine pw_region ?_; refine yAd rfl ?_; refine yQ ?_; refine pw_seq ?_; refine pw_seq ?_; refine pw_region ?_; refine yMd rfl ?_; refine yR (es := [[_]]) rfl rfl rfl rfl rfl ?_; refine yC (k1) rfl rfl ?_
    refine yMd rfl ?_; refine yMd rfl ?_; refine yC (k2) rfl rfl ?_; refine yVd rfl rfl ?_; refine yMd rfl ?_; refine yMd rfl ?_; refine yN rfl ?_; refine yB rfl rfl rfl rfl ?_; refine yVd rfl rfl ?_; refine yQ ?_; refine q_then ?_
    rw [t0]; refine pw_ct rfl ?_; refine pw_seq ?_; refine pw_region ?_; refine yC (k0) rfl rfl ?_; refine yAd rfl ?_; refine yQ ?_; refine pw_ret ?_; refine q_then_ret ?_
    exact q_ret _ (.tmp rfl .nil) rfl
  have t0 : (((e.map dCf).length : Int) == 0) = false := by rw [List.length_map]; exact beq_false_of_ne (by omega)
  have hwu := wrapI u (by omega)
  obtain ⟨k, hk, hkl⟩ : ∃ k : Nat, u.tmod ((e.map dCf).length : Int) = (k : Int) ∧ k < e.length := by
    refine ⟨u.toNat % e.length, ?_, Nat.mod_lt _ h0⟩
    rw [List.length_map]
    obtain ⟨n, rfl⟩ : ∃ n : Nat, u = n := ⟨u.toNat, by omega⟩
    rfl
  have hl0 : ((e.map dCf).length : Int) ≠ 0 := by rw [List.length_map]; omega
  have gk : (k : Int) ≤ ((e.map dCf).length : Int) := by rw [List.length_map]; omega
  have ha : ∀ c ∈ e, c.2.length ≤ 400 := fun c hc => by have := (a2 c hc).2; omega
  have ha2 : ∀ c ∈ e, c.2.length ≤ 1000 := fun c hc => by have := (a2 c hc).2; omega
  have hb : ∀ c ∈ L, c.2.length ≤ 400 := fun c hc => by have := (b2 c hc).2; omega
  have k3 := wNormalE e (by omega) ha2
  have k4 := wConcatC [e.drop k, e.take k] (by simp) (by simp; omega)
  simp only [List.map_cons, List.map_nil, List.flatten_cons, List.flatten_nil, List.append_nil] at k4
  have k5 := wNormalE (e.drop k ++ e.take k) (by rw [rot_len]; omega) (fun c hc => ha2 c ((rot_mem k c).1 hc))
  have hrc := rot_chE e k
  have hrn := rot_nf e k
  rw [nmE, hrn] at k5
  rw [nmE] at k3
  obtain ⟨R, hR⟩ : ∃ R, R = (e.drop k ++ e.take k).map dCf := ⟨_, rfl⟩
  rw [← hR] at k4 k5
  rw [List.map_take, List.map_drop] at k4
  obtain ⟨g, hgg⟩ : ∃ g, g = chE (e.drop k ++ e.take k) := ⟨_, rfl⟩
  rw [← hgg] at k5 hrc
  clear hgg hR hrn
  by_cases h1 : chE e = 0
  rotate_left
  · have hg0 : g ≠ 0 := fun h => h1 (hrc.1 h)
    have t1 : (chE e != 0) = true := by simpa using h1
    have t2 : (g != 0) = true := by simpa using hg0
    rw [if_neg h1, List.map_nil] at k3
    rw [if_neg hg0, List.map_nil] at k5
    obtain ⟨f, hf⟩ : ∃ f, f = chE e := ⟨_, rfl⟩
    rw [← hf] at k3 t1
    refine pcalls_of_pw Tryz.func5 rfl Tryz.ntmps5 Tryz.results5 (by simp) fun B w0 => ?_
    refine pw_seq ?_; refine pw_region ?_; refine yAd rfl ?_; refine yQ ?_; refine pw_seq ?_; refine pw_seq ?_; refine pw_region ?_; refine yMd rfl ?_; refine yR (es := [[_]]) rfl rfl rfl rfl rfl ?_; refine yC (k1) rfl rfl ?_
    refine yMd rfl ?_; refine yMd rfl ?_; refine yC (k2) rfl rfl ?_; refine yVd rfl rfl ?_; refine yMd rfl ?_; refine yMd rfl ?_; refine yN rfl ?_; refine yB rfl rfl rfl rfl ?_; refine yVd rfl rfl ?_; refine yQ ?_; refine q_then ?_
    rw [t0]; refine pw_cf rfl ?_; refine pw_skip ?_; refine pw_seq ?_; refine pw_region ?_; refine yMd rfl ?_; refine yC (k3) rfl rfl ?_; refine yMp rfl ?_; refine yX rfl rfl ?_; refine yX rfl rfl ?_; refine yAd rfl ?_
    refine yAd rfl ?_; refine yQ ?_; refine pw_seq ?_; refine pw_region ?_; refine yMd rfl ?_; refine yJ rfl ?_; refine yMd rfl ?_; refine yN rfl ?_; rw [hwu]; refine yBm hl0 hk rfl rfl ?_; refine yAd rfl ?_; refine yQ ?_
    refine pw_seq ?_; refine pw_draw Tryz.mixed (by kernel_rfl) ?_; refine yMd rfl ?_; refine yMd rfl ?_; refine yDl (by omega) gk rfl rfl ?_; refine yMd rfl ?_; refine yMd rfl ?_; refine yDh (by omega) gk rfl rfl ?_
    refine yR (es := [[_], [_]]) rfl rfl rfl rfl rfl ?_; refine yC (k4) rfl rfl ?_; refine yC (k5) rfl rfl ?_; refine yMp rfl ?_; refine yX rfl rfl ?_; refine yX rfl rfl ?_; refine yAd rfl ?_; refine yAd rfl ?_; refine yQ ?_
    refine pw_seq ?_; refine pw_seq ?_; refine pw_region ?_; refine yMd rfl ?_; refine yB rfl rfl rfl rfl ?_; refine yQ ?_; refine q_then ?_; rw [t1]; refine pw_ct rfl ?_; refine pw_seq ?_; refine pw_region ?_; refine yMd rfl ?_
    refine yN rfl ?_; refine yB rfl rfl rfl rfl ?_; refine yMd rfl ?_; refine yMd rfl ?_; refine yN rfl ?_; refine yB rfl rfl rfl rfl ?_; refine yPd rfl rfl ?_; refine yMd rfl ?_; refine yMd rfl ?_; refine yB rfl rfl rfl rfl ?_
    refine yPd rfl rfl ?_; refine yMd rfl ?_; rw [t2]; refine yC (k0) rfl rfl ?_; refine yPd rfl rfl ?_; refine yAd rfl ?_; refine yQ ?_; refine pw_ret ?_; refine q_then_ret ?_
    exact q_ret _ (.tmp rfl .nil) rfl
  have hg0 : g = 0 := hrc.2 h1
  subst hg0
  rw [if_pos h1, h1] at k3
  rw [if_pos rfl] at k5
  have hnl := nf_len e
  have hel := chE_len h1
  have k6 := wNormalE (nf e) (by omega) (flen (B := 20) (fun c hc => (a2 c hc).2) 1000 (by omega))
  have hn0 : chE (nf e) = 0 := chE_nf (chE_names h1) (by omega)
  rw [nmE, if_pos hn0, hn0, nf_nf] at k6
  have k7 := wEval e L (by omega) ha (by omega) hb
  have k8 := wEval (nf e) L (by omega) (flen (B := 20) (fun c hc => (a2 c hc).2) 400 (by omega)) (by omega) hb
  obtain ⟨q1, q2⟩ := ev_nf h1 L
  rw [q1, q2] at k8
  have k9 := wEqC (nf e) (nf e) (by omega) (by omega)
  rw [decide_eq_true rfl] at k9
  have hasc := nf_asc e
  have hne : ∀ c ∈ nf e, c.2 ≠ [] := fun c hc h => by
    obtain ⟨h2, h3⟩ := (nf_mem e c).1 hc
    rw [h3] at h
    exact h2 (canon_nil.1 h)
  obtain ⟨n, hn⟩ : ∃ n, n = nf e := ⟨_, rfl⟩
  rw [← hn] at k3 k5 k6 k8 k9 hasc hne hnl
  obtain ⟨x, hx⟩ : ∃ x, x = evV e L := ⟨_, rfl⟩
  obtain ⟨i0, hi0⟩ : ∃ x, x = evE e L := ⟨_, rfl⟩
  rw [← hx, ← hi0] at k7 k8
  have t1 : (x == x) = true := by simp
  have t2 : (i0 != i0) = false := by simp
  clear hn hx hi0 q1 q2
  refine pcalls_of_pw Tryz.func5 rfl Tryz.ntmps5 Tryz.results5 (by simp) fun B w0 => ?_
  refine pw_seq ?_; refine pw_region ?_; refine yAd rfl ?_; refine yQ ?_; refine pw_seq ?_; refine pw_seq ?_; refine pw_region ?_; refine yMd rfl ?_; refine yR (es := [[_]]) rfl rfl rfl rfl rfl ?_; refine yC (k1) rfl rfl ?_
  refine yMd rfl ?_; refine yMd rfl ?_; refine yC (k2) rfl rfl ?_; refine yVd rfl rfl ?_; refine yMd rfl ?_; refine yMd rfl ?_; refine yN rfl ?_; refine yB rfl rfl rfl rfl ?_; refine yVd rfl rfl ?_; refine yQ ?_; refine q_then ?_
  rw [t0]; refine pw_cf rfl ?_; refine pw_skip ?_; refine pw_seq ?_; refine pw_region ?_; refine yMd rfl ?_; refine yC (k3) rfl rfl ?_; refine yMp rfl ?_; refine yX rfl rfl ?_; refine yX rfl rfl ?_; refine yAd rfl ?_
  refine yAd rfl ?_; refine yQ ?_; refine pw_seq ?_; refine pw_region ?_; refine yMd rfl ?_; refine yJ rfl ?_; refine yMd rfl ?_; refine yN rfl ?_; rw [hwu]; refine yBm hl0 hk rfl rfl ?_; refine yAd rfl ?_; refine yQ ?_
  refine pw_seq ?_; refine pw_draw Tryz.mixed (by kernel_rfl) ?_; refine yMd rfl ?_; refine yMd rfl ?_; refine yDl (by omega) gk rfl rfl ?_; refine yMd rfl ?_; refine yMd rfl ?_; refine yDh (by omega) gk rfl rfl ?_
  refine yR (es := [[_], [_]]) rfl rfl rfl rfl rfl ?_; refine yC (k4) rfl rfl ?_; refine yC (k5) rfl rfl ?_; refine yMp rfl ?_; refine yX rfl rfl ?_; refine yX rfl rfl ?_; refine yAd rfl ?_; refine yAd rfl ?_; refine yQ ?_
  refine pw_seq ?_; refine pw_seq ?_; refine pw_region ?_; refine yMd rfl ?_; refine yB rfl rfl rfl rfl ?_; refine yQ ?_; refine pw_cf rfl ?_; refine pw_skip ?_; refine pw_seq ?_; refine pw_region ?_; refine yMd rfl ?_
  refine yC (k6) rfl rfl ?_; refine yMp rfl ?_; refine yX rfl rfl ?_; refine yX rfl rfl ?_; refine yAd rfl ?_; refine yAd rfl ?_; refine yQ ?_; refine pw_seq ?_; refine pw_region ?_; refine yMd rfl ?_; refine yMd rfl ?_
  refine yC (k7) rfl rfl ?_; refine yMp rfl ?_; refine yX rfl rfl ?_; refine yX rfl rfl ?_; refine yAd rfl ?_; refine yAd rfl ?_; refine yQ ?_; refine pw_seq ?_; refine pw_region ?_; refine yMd rfl ?_; refine yMd rfl ?_
  refine yC (k8) rfl rfl ?_; refine yMp rfl ?_; refine yX rfl rfl ?_; refine yX rfl rfl ?_; refine yAd rfl ?_; refine yAd rfl ?_; refine yQ ?_; refine pw_seq ?_; refine pw_seq ?_; refine pw_region ?_; refine yMd rfl ?_
  refine yB rfl rfl rfl rfl ?_; refine yMd rfl ?_; refine yMd rfl ?_; refine yB rfl rfl rfl rfl ?_; refine yVd rfl rfl ?_; refine yMd rfl ?_; refine yMd rfl ?_; refine yMd rfl ?_; refine yC (k9) rfl rfl ?_; refine yU rfl rfl rfl ?_
  refine yVd rfl rfl ?_; refine yMd rfl ?_; refine yMd rfl ?_; refine yMd rfl ?_; refine yC (k9) rfl rfl ?_; refine yU rfl rfl rfl ?_; refine yVd rfl rfl ?_; refine yMd rfl ?_; refine yMd rfl ?_; refine yMd rfl ?_
  refine yBsn rfl rfl ?_; refine yVd rfl rfl ?_; refine yMd rfl ?_; rw [t1]; refine yMd rfl ?_; refine yMd rfl ?_; refine yB rfl rfl rfl rfl ?_; refine yVd rfl rfl ?_; refine yQ ?_; refine q_then ?_; rw [t2]; refine pw_cf rfl ?_
  refine pw_skip ?_; refine pw_seq ?_; refine pw_seq ?_; refine pw_region ?_; refine yMd rfl ?_; refine yN rfl ?_; refine yMd rfl ?_; refine yQ ?_; refine pw_block ?_
  refine pw_loop (fun i : Nat => ⟨144, [(7, .d (.sl 2 (n.map dCf))), (117, .d (.sl 2 (n.map dCf))), (118, .d (dI n.length)), (119, .d (dI i))], [], []⟩) (fun i => i ≤ n.length) (fun i => n.length - i) 0 (Nat.zero_le _)
    ⟨rfl, ⟨.refl _, .refl _, .of_eq (congrArg (fun n : Nat => SV.d (dI n)) (by simp)), .refl _, trivial⟩, trivial, trivial, rfl⟩ ?_
  intro i hi
  rcases Nat.lt_or_ge i n.length with h | h
  rotate_left
  · have u1 : decide ((i : Int) < (n.length : Int)) = false := decide_eq_false (by omega)
    refine pw_seq ?_; refine pw_region ?_; refine yB rfl rfl rfl rfl ?_; refine yQ ?_; refine pw_seq ?_; rw [u1]; refine pw_cf rfl ?_; refine pw_exit ?_; refine pw_seq ?_; refine pw_region ?_; refine yC (k0) rfl rfl ?_
    refine yAd rfl ?_; refine yQ ?_; refine pw_ret ?_
    exact q_ret _ (.tmp rfl .nil) rfl
  have u1 : decide ((i : Int) < (n.length : Int)) = true := decide_eq_true (by omega)
  obtain ⟨⟨c0, c1⟩, hc⟩ : ∃ a, n[i]? = some a := ⟨_, List.getElem?_eq_getElem h⟩
  have em := ix dCf n i i (c0, c1) rfl hc
  have hw := wrapI ((i : Int) + 1) (by omega)
  have hcn := hne _ (List.mem_of_getElem? hc)
  have u2 : (c1 == []) = false := by simpa using hcn
  rcases Nat.eq_zero_or_pos i with hi0 | hi0
  · subst hi0
    have u3 : decide (((0 : Nat) : Int) > 0) = false := rfl
    refine pw_seq ?_; refine pw_region ?_; refine yB rfl rfl rfl rfl ?_; refine yQ ?_; refine pw_seq ?_; rw [u1]; refine pw_ct rfl ?_; refine pw_skip ?_; refine pw_seq ?_; refine pw_block ?_; refine pw_seq ?_; refine pw_region ?_
    refine yMd rfl ?_; refine yW em (by omega) rfl rfl ?_; refine yLs (ys := [_, _]) rfl rfl rfl ?_; refine yZ (cs := [_, _]) rfl rfl ?_; refine yAd rfl ?_; refine yS (cs' := [_, _]) rfl rfl rfl rfl rfl ?_; refine yQ ?_
    refine pw_seq ?_; refine pw_draw Tryz.mixed (by kernel_rfl) ?_; refine yFb rfl ?_; refine yLd rfl rfl rfl ?_; refine yBse rfl rfl ?_; refine yMd rfl ?_; rw [u2]; refine yMd rfl ?_; refine yB rfl rfl rfl rfl ?_; refine yMd rfl ?_
    refine yO rfl ?_; refine yO rfl ?_; refine yO rfl ?_; refine yO rfl ?_; refine yO rfl ?_; refine yO rfl ?_; refine yO rfl ?_; refine yO rfl ?_; refine yO rfl ?_; refine yVd rfl rfl ?_; refine yVd rfl rfl ?_; refine yQ ?_
    refine pw_cf rfl ?_; refine pw_skip ?_; refine pw_region ?_; refine yB rfl rfl rfl rfl ?_; refine yMd rfl ?_; refine yQ ?_; refine q_then ?_; rw [u3]
    exact ⟨0 + 1, by omega, by omega, rfl, ⟨.refl _, .refl _, .refl _, .of_eq (congrArg (fun n => SV.d (dI n)) hw), trivial⟩, trivial, trivial, rfl⟩
  · have u3 : decide ((i : Int) > 0) = true := decide_eq_true (by omega)
    obtain ⟨⟨p0, p1⟩, hp⟩ : ∃ a, n[i - 1]? = some a := ⟨_, List.getElem?_eq_getElem (by omega)⟩
    have hw1 : IntKind.i64.wrap ((i : Int) - 1) = ((i - 1 : Nat) : Int) := by rw [wrapI _ (by omega)]; omega
    have ep := ix dCf n ((i - 1 : Nat) : Int) (i - 1) (p0, p1) rfl hp
    have hlt : ltS p0 c0 = true := by
      have h2 := List.pairwise_iff_getElem.1 hasc (i - 1) i (by omega) h (by omega)
      obtain ⟨q1, q2⟩ := List.getElem?_eq_some_iff.1 hc
      obtain ⟨q3, q4⟩ := List.getElem?_eq_some_iff.1 hp
      rw [q2, q4] at h2
      exact h2
    have hl8 : lt8 p0 c0 = true := hlt
    refine pw_seq ?_; refine pw_region ?_; refine yB rfl rfl rfl rfl ?_; refine yQ ?_; refine pw_seq ?_; rw [u1]; refine pw_ct rfl ?_; refine pw_skip ?_; refine pw_seq ?_; refine pw_block ?_; refine pw_seq ?_; refine pw_region ?_
    refine yMd rfl ?_; refine yW em (by omega) rfl rfl ?_; refine yLs (ys := [_, _]) rfl rfl rfl ?_; refine yZ (cs := [_, _]) rfl rfl ?_; refine yAd rfl ?_; refine yS (cs' := [_, _]) rfl rfl rfl rfl rfl ?_; refine yQ ?_
    refine pw_seq ?_; refine pw_draw Tryz.mixed (by kernel_rfl) ?_; refine yFb rfl ?_; refine yLd rfl rfl rfl ?_; refine yBse rfl rfl ?_; refine yMd rfl ?_; rw [u2]; refine yMd rfl ?_; refine yB rfl rfl rfl rfl ?_; refine yMd rfl ?_
    rw [u3]; refine yMd rfl ?_; refine yMd rfl ?_; refine yB rfl rfl rfl rfl ?_; rw [hw1]; refine yW ep (by omega) rfl rfl ?_; refine yFr rfl rfl ?_; refine yLr rfl rfl ?_; refine yFb rfl ?_; refine yLd rfl rfl rfl ?_
    refine yBsh rfl rfl ?_; refine yPd rfl rfl ?_; refine yVd rfl rfl ?_; refine yQ ?_; refine q_then ?_; rw [hl8]; refine pw_cf rfl ?_; refine pw_skip ?_; refine pw_region ?_; refine yB rfl rfl rfl rfl ?_; refine yMd rfl ?_
    refine yQ ?_; refine q_then ?_
    exact ⟨i + 1, by omega, by omega, rfl, ⟨.refl _, .refl _, .refl _, .of_eq (congrArg (fun n => SV.d (dI n)) hw), trivial⟩, trivial, trivial, rfl⟩
end Go.Proofs.YtmfeinilbjfnpaaGreatDoor
