/- Walk: the law on the order of terms. -/
import Derived.Test.YtmfeinilbjfnpaaGreatDoorB6
namespace Go.Proofs.YtmfeinilbjfnpaaGreatDoor
open Go.RowKit Px

namespace Px
section
variable {P : Program} {sq : Bool} {ops : Array Oper} {K : PS → Prop} {rest : List Oper} {st : PS} {d : Option Nat} {ty : TypeId} {pos : String} {af : Array Edge} {gd : Option (Nat × Bool)}
end
end Px
end Go.Proofs.YtmfeinilbjfnpaaGreatDoor
namespace Go.Proofs.YtmfeinilbjfnpaaGreatDoor
open Go.RowKit Px

theorem evOK_of {e L : List Cf} (h : ∀ k, cf k e ≠ 0 → inL L k = true) : evOK (nf e) L = true :=
  List.all_eq_true.2 fun c hc => h c.1 ((nf_mem e c).1 hc).1
theorem evE_zero {e L : List Cf} : evE e L = 0 ↔ chE e = 0 ∧ amE L = 0 ∧ evOK (nf e) L = true := by
  unfold evE
  by_cases h1 : chE e = 0
  · by_cases h2 : amE L = 0
    · cases h3 : evOK (nf e) L <;> simp [h1, h2]
    · simp [h1, h2]
  · simp [h1]
theorem evV_eq {e L : List Cf} (h : evE e L = 0) : evV e L = canon (evA (aL L) e) := by rw [evV, if_pos h, evA_nf]
end Go.Proofs.YtmfeinilbjfnpaaGreatDoor
namespace Go.Proofs.YtmfeinilbjfnpaaGreatDoor
open Go.RowKit Px

def ixS (s : Str) (l : List Str) : Int := match l.findIdx? (fun y => s == y) with | some i => i | none => -1
theorem ixS_any (s : Str) (l : List Str) : decide (ixS s l ≥ 0) = l.any fun y => s == y := by
  rw [ixS]
  cases e : l.findIdx? (fun y => s == y) with
  | none =>
    rw [List.findIdx?_eq_none_iff] at e
    have : (l.any fun y => s == y) = false := by rw [List.any_eq_false]; intro x hx; rw [e x hx]; simp
    rw [this]; rfl
  | some i =>
    rw [List.findIdx?_eq_some_iff_getElem] at e
    obtain ⟨h1, h2, -⟩ := e
    have : (l.any fun y => s == y) = true := List.any_eq_true.2 ⟨_, List.getElem_mem h1, h2⟩
    rw [this]; simp
set_option maxRecDepth 20000 in
set_option maxHeartbeats 1000000 in
theorem wIndexS (l : List Str) (s : Str) (hl : l.length ≤ 1000000) : PCalls Tryz.prog 48 [.sl 1 (l.map dC), dS s] (.d (dI (ixS s l))) := by
  refine pcalls_of_pw Tryz.func48 rfl Tryz.ntmps48 Tryz.results48 (by simp) fun B w0 => ?_
  refine pw_seq ?_; refine pw_region ?_; refine yAd rfl ?_; refine yQ ?_; refine pw_seq ?_; refine pw_seq ?_; refine pw_region ?_; refine yMd rfl ?_; refine yN rfl ?_; refine yMd rfl ?_; refine yQ ?_; refine pw_block ?_
  refine pw_loop (fun k : Nat => ⟨19, [(0, .d (.sl 1 (l.map dC))), (1, .d (dS s)), (7, .d (dI l.length)), (8, .d (dI k))], [], []⟩) (fun k => k ≤ l.length ∧ ∀ (j : Nat) x, j < k → l[j]? = some x → (s == x) = false) (fun k => l.length - k) 0 ⟨Nat.zero_le _, fun j x hj => by omega⟩ ⟨rfl, ⟨.refl _, .refl _, .of_eq (congrArg (fun n : Nat => SV.d (dI n)) (by simp)), .refl _, trivial⟩, trivial, trivial, rfl⟩ ?_
  rintro k ⟨hk, h0⟩
  rcases Nat.lt_or_ge k l.length with h | h
  · have u1 : decide ((k : Int) < (l.length : Int)) = true := decide_eq_true (by omega)
    obtain ⟨x, hx⟩ : ∃ a, l[k]? = some a := ⟨_, List.getElem?_eq_getElem h⟩
    have ek := ix dC l k k x rfl hx
    have hw1 := wrapI ((k : Int) + 1) (by omega)
    cases hb : (s == x) with
    | false =>
      refine pw_seq ?_; refine pw_region ?_; refine yB rfl rfl rfl rfl ?_; refine yQ ?_; refine pw_seq ?_; rw [u1]; refine pw_ct rfl ?_; refine pw_skip ?_; refine pw_seq ?_; refine pw_block ?_; refine pw_seq ?_; refine pw_region ?_
      refine yMd rfl ?_; refine yAd rfl ?_; refine yQ ?_; refine pw_seq ?_; refine pw_region ?_; refine yMd rfl ?_; refine yMd rfl ?_; refine yMd rfl ?_; refine yW ek (by omega) rfl rfl ?_; refine yLr rfl rfl ?_; refine yBse rfl rfl ?_
      refine yQ ?_; refine q_then ?_; rw [hb]; refine pw_cf rfl ?_; refine pw_skip ?_; refine pw_region ?_; refine yB rfl rfl rfl rfl ?_; refine yMd rfl ?_; refine yQ ?_; refine q_then ?_
      refine ⟨k + 1, ⟨by omega, fun j y hj hy => ?_⟩, by omega, rfl, ⟨.refl _, .refl _, .refl _, .of_eq (congrArg (fun n => SV.d (dI n)) hw1), trivial⟩, trivial, trivial, rfl⟩
      by_cases e : j = k
      · subst e; rw [hx] at hy; cases hy; exact hb
      · exact h0 j y (by omega) hy
    | true =>
      have e : ixS s l = k := by
        have : l.findIdx? (fun y => s == y) = some k := by
          rw [List.findIdx?_eq_some_iff_getElem]
          refine ⟨h, ?_, fun j hj => ?_⟩
          · rw [List.getElem?_eq_getElem h] at hx; rw [Option.some.inj hx]; exact hb
          · have := h0 j _ hj (List.getElem?_eq_getElem (by omega)); rw [this]; simp
        rw [ixS, this]
      rw [e]
      refine pw_seq ?_; refine pw_region ?_; refine yB rfl rfl rfl rfl ?_; refine yQ ?_; refine pw_seq ?_; rw [u1]; refine pw_ct rfl ?_; refine pw_skip ?_; refine pw_seq ?_; refine pw_block ?_; refine pw_seq ?_; refine pw_region ?_
      refine yMd rfl ?_; refine yAd rfl ?_; refine yQ ?_; refine pw_seq ?_; refine pw_region ?_; refine yMd rfl ?_; refine yMd rfl ?_; refine yMd rfl ?_; refine yW ek (by omega) rfl rfl ?_; refine yLr rfl rfl ?_; refine yBse rfl rfl ?_
      refine yQ ?_; refine q_then ?_; rw [hb]; refine pw_ct rfl ?_; refine pw_seq ?_; refine pw_region ?_; refine yMd rfl ?_; refine yAd rfl ?_; refine yQ ?_; refine pw_ret ?_; refine q_blk_ret ?_; refine q_then_ret ?_
      refine q_then_ret ?_; refine q_blk_ret ?_; refine q_then_ret ?_
      exact q_ret _ (.tmp rfl .nil) rfl
  · have u1 : decide ((k : Int) < (l.length : Int)) = false := decide_eq_false (by omega)
    have e : ixS s l = -1 := by
      have : l.findIdx? (fun y => s == y) = none := by
        rw [List.findIdx?_eq_none_iff]
        intro x hx
        obtain ⟨j, hj⟩ := List.mem_iff_getElem?.1 hx
        exact h0 j x (by have := (List.getElem?_eq_some_iff.1 hj).1; omega) hj
      rw [ixS, this]
    rw [e]
    refine pw_seq ?_; refine pw_region ?_; refine yB rfl rfl rfl rfl ?_; refine yQ ?_; refine pw_seq ?_; rw [u1]; refine pw_cf rfl ?_; refine pw_exit ?_; refine pw_seq ?_; refine pw_region ?_; refine yAd rfl ?_; refine yQ ?_
    refine pw_ret ?_
    exact q_ret _ (.tmp rfl .nil) rfl
set_option maxRecDepth 20000 in
theorem wContS (l : List Str) (s : Str) (hl : l.length ≤ 1000000) : PCalls Tryz.prog 17 [.sl 1 (l.map dC), dS s] (.d (dB (l.any fun y => s == y))) := by
  have c1 := wIndexS l s hl
  rw [← ixS_any]
  obtain ⟨n, hn⟩ : ∃ n, n = ixS s l := ⟨_, rfl⟩
  rw [← hn] at c1 ⊢
  refine pcalls_of_pw Tryz.func17 rfl Tryz.ntmps17 Tryz.results17 (by simp) fun B w0 => ?_
  refine pw_seq ?_; refine pw_region ?_; refine yAd rfl ?_; refine yQ ?_; refine pw_seq ?_; refine pw_region ?_; refine yMd rfl ?_; refine yMd rfl ?_; refine yC (c1) rfl rfl ?_; refine yB rfl rfl rfl rfl ?_; refine yAd rfl ?_
  refine yQ ?_; refine pw_ret ?_
  exact q_ret _ (.tmp rfl .nil) rfl

/-- the names of the first terms -/
def nms (e : List Cf) (i : Nat) : List Str := (sumM e i).map (·.1)
theorem nms_next {e : List Cf} {i : Nat} {c : Cf} (h : e[i]? = some c) : nms e (i + 1) = if (nms e i).any (fun y => c.1 == y) then nms e i else nms e i ++ [c.1] := by
  rw [nms, sumM, h]
  simp only
  rw [keys_setS]
  show (if c.1 ∈ nms e i then nms e i else nms e i ++ [c.1]) = _
  by_cases h1 : c.1 ∈ nms e i
  · rw [if_pos h1, if_pos (List.any_eq_true.2 ⟨_, h1, by simp⟩)]
  · rw [if_neg h1, if_neg]
    intro h2
    obtain ⟨y, hy, h3⟩ := List.any_eq_true.1 h2
    have : c.1 = y := by simpa using h3
    exact h1 (this ▸ hy)
theorem nms_len (e : List Cf) (i : Nat) : (nms e i).length ≤ i := by
  rw [nms, List.length_map]
  exact keys_len e i
theorem nms_of {e : List Cf} {k : Str} (h : cf k e ≠ 0) : k ∈ nms e e.length := by
  refine Decidable.byContradiction fun h1 => h ?_
  have := cf_notin h1
  rwa [cf, evA_sumM, List.take_length] at this
theorem nms_all {e : List Cf} {c : Cf} (h : c ∈ e) (i : Nat) (hi : c ∈ e.take i) : c.1 ∈ nms e i := by
  induction i with
  | zero => simp at hi
  | succ i ih =>
    cases hc : e[i]? with
    | none =>
      rw [List.getElem?_eq_none_iff] at hc
      have h2 : nms e (i + 1) = nms e i := by rw [nms, sumM, List.getElem?_eq_none hc]; rfl
      rw [h2]
      refine ih ?_
      rw [List.take_of_length_le hc]
      exact h
    | some d =>
      rw [nms_next hc]
      rw [List.take_add_one, hc] at hi
      rcases List.mem_append.1 hi with hi | hi
      · have := ih hi
        split
        · exact this
        · exact List.mem_append_left _ this
      · have hd : c = d := by simpa using hi
        subst hd
        split
        · rename_i h2
          obtain ⟨y, hy, h3⟩ := List.any_eq_true.1 h2
          have : c.1 = y := by simpa using h3
          exact this ▸ hy
        · exact List.mem_append_right _ (by simp)
/-- the amounts of which one is 1 -/
def oneL (ns : List Str) (k : Str) : List Cf := ns.map fun s => (s, if s = k then [49] else [])
theorem getS_one {ns : List Str} {k j : Str} (h : j ∈ ns) : getS j (oneL ns k) = if j = k then [49] else [] := by
  induction ns with
  | nil => cases h
  | cons s ns ih =>
    show (if s = j then (if s = k then [49] else []) else getS j (oneL ns k)) = _
    by_cases h1 : s = j
    · rw [if_pos h1, h1]
    · rw [if_neg h1]
      rcases List.mem_cons.1 h with h2 | h2
      · exact absurd h2.symm h1
      · exact ih h2
theorem val_one : val [49] = 1 := by decide
theorem aL_one {ns : List Str} {k j : Str} (h : j ∈ ns) : aL (oneL ns k) j = one k j := by
  rw [aL, getS_one h, one]
  split
  · exact val_one
  · exact val_nil
theorem evA_congr {A A' : Str → Int} {e : List Cf} (h : ∀ c ∈ e, A c.1 = A' c.1) : evA A e = evA A' e := by
  induction e with
  | nil => rfl
  | cons c e ih =>
    simp only [evA]
    rw [h c (by simp), ih fun d hd => h d (by simp [hd])]
theorem ev_one {e : List Cf} (h : chE e = 0) (k : Str) : evE e (oneL (nms e e.length) k) = 0 ∧ evV e (oneL (nms e e.length) k) = canon (cf k e) := by
  have hn := chE_names h
  have h1 : amE (oneL (nms e e.length) k) = 0 := by
    rw [amE_zero]
    constructor
    · intro t ht
      obtain ⟨s, hs, rfl⟩ := List.mem_map.1 ht
      obtain ⟨c, hc, h2⟩ := keys_mem e e.length s hs
      refine ⟨by show nmB s = true; rw [← h2]; exact hn c hc, ?_⟩
      show isC (if s = k then [49] else []) = true
      split
      · kernel_rfl
      · kernel_rfl
    · show ((oneL (nms e e.length) k).map (·.1)).Nodup
      rw [oneL, List.map_map]
      have : (List.map ((fun x : Cf => x.1) ∘ fun s => (s, if s = k then [49] else [])) (nms e e.length)) = nms e e.length := by
        conv => rhs; rw [← List.map_id (nms e e.length)]
        exact List.map_congr_left fun s _ => rfl
      rw [this]
      exact keys_nodup e e.length
  have h2 : evE e (oneL (nms e e.length) k) = 0 := evE_zero.2 ⟨h, h1, evOK_of fun j hj => by
    have := nms_of hj
    exact List.any_eq_true.2 ⟨(j, if j = k then [49] else []), List.mem_map.2 ⟨j, this, rfl⟩, by simp⟩⟩
  refine ⟨h2, ?_⟩
  rw [evV_eq h2]
  exact congrArg canon (evA_congr fun c hc => aL_one (nms_all hc e.length (by rw [List.take_length]; exact hc)))
theorem all_zero (e : List Cf) : ((nms e e.length).all fun k => decide (cf k e = 0)) = decide (nf e = []) := by
  rw [Bool.eq_iff_iff, List.all_eq_true, decide_eq_true_eq, nf_nil]
  constructor
  · intro h k
    refine Decidable.byContradiction fun h1 => h1 ?_
    simpa using h k (nms_of h1)
  · intro h k _
    simpa using h k
theorem pr_ne {n : List Cf} (h : ∀ c ∈ n, nmB c.1 = true) (h0 : n ≠ []) : prI n n.length ≠ [48] := fun e => by
  obtain ⟨j, hj⟩ : ∃ j, n.length = j + 1 := ⟨n.length - 1, by have := List.length_pos_iff.2 h0; omega⟩
  obtain ⟨c, hc⟩ : ∃ c, n[j]? = some c := ⟨_, List.getElem?_eq_getElem (by omega)⟩
  rw [hj, prI, hc] at e
  have hn := h c (List.mem_of_getElem? hc)
  simp only [prS] at e
  rw [← List.append_assoc, ← List.append_assoc] at e
  obtain ⟨P, hP⟩ : ∃ P, P = prI n j ++ sepS j (decide (val c.2 < 0)) ++ facS (absS c.2) := ⟨_, rfl⟩
  rw [← hP] at e
  cases h1 : c.1 with
  | nil => rw [h1] at hn; simp [nmB, nameB] at hn
  | cons x l =>
    rw [h1] at e hn
    cases P with
    | nil =>
      simp only [List.nil_append, List.cons.injEq] at e
      obtain ⟨rfl, -⟩ := e
      simp [nmB] at hn
    | cons y P =>
      have := congrArg List.length e
      simp at this
abbrev zT5 : Nat := 9 * 100000 + 5
abbrev zT11 : Nat := 39 * 100000 + 11
set_option maxRecDepth 20000 in
set_option maxHeartbeats 8000000 in
theorem lawZero (e : List Cf) : PCalls Tryz.prog 4 [.sl 2 (e.map dCf)] (.d (dB true)) := by
  have k0 := wAwake
  have k1 := wGreatE [e] (by simp)
  simp only [List.map_cons, List.map_nil] at k1
  cases hg : [e].any bigE with
  | true =>
    rw [hg] at k1
    refine pcalls_of_pw Tryz.func4 rfl Tryz.ntmps4 Tryz.results4 (by simp) fun B w0 => ?_
    refine pw_seq ?_; refine pw_region ?_; refine yAd rfl ?_; refine yQ ?_; refine pw_seq ?_; refine pw_seq ?_; refine pw_region ?_; refine yMd rfl ?_; refine yR (es := [[_]]) rfl rfl rfl rfl rfl ?_; refine yC (k1) rfl rfl ?_
    refine yQ ?_; refine pw_ct rfl ?_; refine pw_seq ?_; refine pw_region ?_; refine yC (k0) rfl rfl ?_; refine yAd rfl ?_; refine yQ ?_; refine pw_ret ?_; refine q_then_ret ?_
    exact q_ret _ (.tmp rfl .nil) rfl
  | false =>
  rw [hg] at k1
  simp only [List.any_cons, List.any_nil, Bool.or_eq_false_iff] at hg
  obtain ⟨a1, -, a2⟩ := bigE_small hg.1
  have ha4 : ∀ c ∈ e, c.2.length ≤ 400 := fun c hc => by have := (a2 c hc).2; omega
  have ha1 : ∀ c ∈ e, c.2.length ≤ 1000 := fun c hc => by have := (a2 c hc).2; omega
  have k2 := wZero e (by omega) ha1
  by_cases h1 : chE e = 0
  rotate_left
  · have t1 : (chE e != 0) = true := by simpa using h1
    rw [decide_eq_false fun h => h1 h.1] at k2
    obtain ⟨f, hf⟩ : ∃ f, f = chE e := ⟨_, rfl⟩
    rw [← hf] at k2 t1
    refine pcalls_of_pw Tryz.func4 rfl Tryz.ntmps4 Tryz.results4 (by simp) fun B w0 => ?_
    refine pw_seq ?_; refine pw_region ?_; refine yAd rfl ?_; refine yQ ?_; refine pw_seq ?_; refine pw_seq ?_; refine pw_region ?_; refine yMd rfl ?_; refine yR (es := [[_]]) rfl rfl rfl rfl rfl ?_; refine yC (k1) rfl rfl ?_
    refine yQ ?_; refine pw_cf rfl ?_; refine pw_skip ?_; refine pw_seq ?_; refine pw_region ?_; refine yMd rfl ?_; refine yC (k2) rfl rfl ?_; refine yMp rfl ?_; refine yX rfl rfl ?_; refine yX rfl rfl ?_; refine yAd rfl ?_
    refine yAd rfl ?_; refine yQ ?_; refine pw_seq ?_; refine pw_seq ?_; refine pw_region ?_; refine yMd rfl ?_; refine yB rfl rfl rfl rfl ?_; refine yQ ?_; refine q_then ?_; rw [t1]; refine pw_ct rfl ?_; refine pw_seq ?_
    refine pw_region ?_; refine yMd rfl ?_; refine yU rfl rfl rfl ?_; refine yMd rfl ?_; refine yC (k0) rfl rfl ?_; refine yPd rfl rfl ?_; refine yAd rfl ?_; refine yQ ?_; refine pw_ret ?_; refine q_then_ret ?_
    exact q_ret _ (.tmp rfl .nil) rfl
  have e1 : decide (chE e = 0 ∧ nf e = []) = decide (nf e = []) := decide_eq_decide.2 ⟨fun h => h.2, fun h => ⟨h1, h⟩⟩
  rw [e1, h1] at k2
  have hall := all_zero e
  have hev := ev_one h1
  have k3 := wNames e (by omega) ha1
  have k4 := wPrintE e (by omega) ha4
  rw [nmE, if_pos h1, h1] at k3
  rw [prV, if_pos h1, h1] at k4
  have hpn := pr_ne (n := nf e) fun c hc => by
    obtain ⟨d, hd, h2⟩ := nf_name hc
    rw [← h2]
    exact chE_names h1 d hd
  have hnl := nf_len e
  obtain ⟨z, hz⟩ : ∃ z, z = decide (nf e = []) := ⟨_, rfl⟩
  rw [← hz] at k2 hall
  clear e1
  refine pcalls_of_pw Tryz.func4 rfl Tryz.ntmps4 Tryz.results4 (by simp) fun B w0 => ?_
  refine pw_seq ?_; refine pw_region ?_; refine yAd rfl ?_; refine yQ ?_; refine pw_seq ?_; refine pw_seq ?_; refine pw_region ?_; refine yMd rfl ?_; refine yR (es := [[_]]) rfl rfl rfl rfl rfl ?_; refine yC (k1) rfl rfl ?_
  refine yQ ?_; refine pw_cf rfl ?_; refine pw_skip ?_; refine pw_seq ?_; refine pw_region ?_; refine yMd rfl ?_; refine yC (k2) rfl rfl ?_; refine yMp rfl ?_; refine yX rfl rfl ?_; refine yX rfl rfl ?_; refine yAd rfl ?_
  refine yAd rfl ?_; refine yQ ?_; refine pw_seq ?_; refine pw_seq ?_; refine pw_region ?_; refine yMd rfl ?_; refine yB rfl rfl rfl rfl ?_; refine yQ ?_; refine pw_cf rfl ?_; refine pw_skip ?_; refine pw_seq ?_; refine pw_region ?_
  refine yAd rfl ?_; refine yQ ?_; refine pw_tok 5 zT5 1 rfl rfl rfl ?_; refine pw_seq ?_; refine pw_seq ?_; refine pw_region ?_; refine yMd rfl ?_; refine yN rfl ?_; refine yMd rfl ?_; refine yQ ?_; refine pw_block ?_
  refine pw_loop (fun i : Nat => ⟨128, [(0, .d (.sl 2 (e.map dCf))), (3, .d (dB z)), (5, .ts zT5 1 ((nms e i).map dC)), (37, .d (.sl 2 (e.map dCf))), (38, .d (dI e.length)), (39, .d (dI i))], [], [(zT5, ((nms e i).map dC).length)]⟩) (fun i => i ≤ e.length) (fun i => e.length - i) 0 (Nat.zero_le _)
    ⟨rfl, ⟨.refl _, .refl _, .refl _, .refl _, .of_eq (congrArg (fun n : Nat => SV.d (dI n)) (by simp)), .refl _, trivial⟩, trivial, ⟨rfl, trivial⟩, rfl⟩ ?_
  intro i hi
  rcases Nat.lt_or_ge i e.length with h | h
  · have u1 : decide ((i : Int) < (e.length : Int)) = true := decide_eq_true (by omega)
    obtain ⟨⟨c0, c1⟩, hc⟩ : ∃ a, e[i]? = some a := ⟨_, List.getElem?_eq_getElem h⟩
    have em := ix dCf e i i (c0, c1) rfl hc
    have hw := wrapI ((i : Int) + 1) (by omega)
    have hnx := nms_next hc
    have hln := nms_len e i
    obtain ⟨zs, hzs⟩ : ∃ l, l = nms e i := ⟨_, rfl⟩
    rw [← hzs] at hnx hln ⊢
    have k5 := wContS zs c0 (by omega)
    obtain ⟨b, hb⟩ : ∃ b, b = (zs.any fun y => c0 == y) := ⟨_, rfl⟩
    simp only [← hb] at hnx
    rw [← hb] at k5
    clear hb hzs k2 k3 k4
    cases b with
    | true =>
      rw [if_pos rfl] at hnx
      refine pw_seq ?_; refine pw_region ?_; refine yB rfl rfl rfl rfl ?_; refine yQ ?_; refine pw_seq ?_; rw [u1]; refine pw_ct rfl ?_; refine pw_skip ?_; refine pw_seq ?_; refine pw_block ?_; refine pw_seq ?_; refine pw_region ?_
      refine yW em (by omega) rfl rfl ?_; refine yLs (ys := [_, _]) rfl rfl rfl ?_; refine yZ (cs := [_, _]) rfl rfl ?_; refine yS (cs' := [_, _]) rfl rfl rfl rfl rfl ?_; refine yQ ?_; refine pw_seq ?_; refine pw_region ?_
      refine yMt rfl ?_; refine yFb rfl ?_; refine yLd rfl rfl rfl ?_; refine yC (k5) rfl rfl ?_; refine yU rfl rfl rfl ?_; refine yQ ?_; refine pw_cf rfl ?_; refine pw_skip ?_; refine pw_region ?_; refine yB rfl rfl rfl rfl ?_
      refine yMd rfl ?_; refine yQ ?_; refine q_then ?_
      exact ⟨i + 1, by omega, by omega, rfl, ⟨.refl _, .refl _, .of_eq (by rw [hnx] <;> rfl), .refl _, .refl _, .of_eq (congrArg (fun n => SV.d (dI n)) hw), trivial⟩, trivial, ⟨(by rw [hnx] <;> rfl), trivial⟩, rfl⟩
    | false =>
      rw [if_neg (by decide)] at hnx
      refine pw_seq ?_; refine pw_region ?_; refine yB rfl rfl rfl rfl ?_; refine yQ ?_; refine pw_seq ?_; rw [u1]; refine pw_ct rfl ?_; refine pw_skip ?_; refine pw_seq ?_; refine pw_block ?_; refine pw_seq ?_; refine pw_region ?_
      refine yW em (by omega) rfl rfl ?_; refine yLs (ys := [_, _]) rfl rfl rfl ?_; refine yZ (cs := [_, _]) rfl rfl ?_; refine yS (cs' := [_, _]) rfl rfl rfl rfl rfl ?_; refine yQ ?_; refine pw_seq ?_; refine pw_region ?_
      refine yMt rfl ?_; refine yFb rfl ?_; refine yLd rfl rfl rfl ?_; refine yC (k5) rfl rfl ?_; refine yU rfl rfl rfl ?_; refine yQ ?_; refine pw_ct rfl ?_; refine pw_region ?_; refine yMt rfl ?_; refine yFb rfl ?_
      refine yLd rfl rfl rfl ?_; refine yR (es := [[_]]) rfl rfl rfl rfl rfl ?_; refine yT (es' := (zs ++ [c0]).map dC) (m := ((zs ++ [c0]).map dC).length) (by simp; omega) (by simp; omega) rfl rfl rfl rfl rfl (by simp) (by simp) ?_
      refine yAt rfl ?_; refine yQ ?_; refine pw_region ?_; refine yB rfl rfl rfl rfl ?_; refine yMd rfl ?_; refine yQ ?_; refine q_then ?_
      exact ⟨i + 1, by omega, by omega, rfl, ⟨.refl _, .refl _, .of_eq (by rw [hnx] <;> rfl), .refl _, .refl _, .of_eq (congrArg (fun n => SV.d (dI n)) hw), trivial⟩, trivial, ⟨(by rw [hnx] <;> rfl), trivial⟩, rfl⟩
  have u1 : decide ((i : Int) < (e.length : Int)) = false := decide_eq_false (by omega)
  obtain rfl : i = e.length := by omega
  have hnsl := nms_len e e.length
  obtain ⟨ns, hns⟩ : ∃ l, l = nms e e.length := ⟨_, rfl⟩
  rw [← hns] at hall hnsl ⊢
  simp only [← hns] at hev
  refine pw_seq ?_; refine pw_region ?_; refine yB rfl rfl rfl rfl ?_; refine yQ ?_; refine pw_seq ?_; rw [u1]; refine pw_cf rfl ?_; refine pw_exit ?_; refine pw_seq ?_; refine pw_region ?_; refine yAd rfl ?_; refine yQ ?_
  refine pw_seq ?_; refine pw_seq ?_; refine pw_region ?_; refine yMt rfl ?_; refine yN rfl ?_; refine yMd rfl ?_; refine yQ ?_; refine pw_block ?_
  refine pw_loop (fun j : Nat => ⟨128, [(0, .d (.sl 2 (e.map dCf))), (3, .d (dB z)), (5, .d (.sl 1 (ns.map dC))), (8, .d (dB ((ns.take j).all fun k => decide (cf k e = 0)))), (54, .d (.sl 1 (ns.map dC))), (55, .d (dI ns.length)), (56, .d (dI j))], [], []⟩) (fun j => j ≤ ns.length) (fun j => ns.length - j) 0 (Nat.zero_le _)
    ⟨rfl, ⟨.refl _, .refl _, .tok _ _ _, .refl _, .tok _ _ _, .of_eq (congrArg (fun n : Nat => SV.d (dI n)) (by simp)), .refl _, trivial⟩, trivial, trivial, rfl⟩ ?_
  intro j hj
  rcases Nat.lt_or_ge j ns.length with h | h
  rotate_left
  · have u2 : decide ((j : Int) < (ns.length : Int)) = false := decide_eq_false (by omega)
    obtain rfl : j = ns.length := by omega
    rw [List.take_length, hall]
    clear hev hns hall
    cases z with
    | true =>
      have hn0 : nf e = [] := by simpa using hz.symm
      rw [hn0, if_pos rfl] at k4
      rw [hn0] at k3
      simp only [List.map_nil] at k3
      refine pw_seq ?_; refine pw_region ?_; refine yB rfl rfl rfl rfl ?_; refine yQ ?_; refine pw_seq ?_; rw [u2]; refine pw_cf rfl ?_; refine pw_exit ?_; refine pw_seq ?_; refine pw_region ?_; refine yMd rfl ?_
      refine yC (k3) rfl rfl ?_; refine yMp rfl ?_; refine yX rfl rfl ?_; refine yX rfl rfl ?_; refine yAd rfl ?_; refine yAd rfl ?_; refine yQ ?_; refine pw_seq ?_; refine pw_region ?_; refine yMd rfl ?_; refine yC (k4) rfl rfl ?_
      refine yMp rfl ?_; refine yX rfl rfl ?_; refine yX rfl rfl ?_; refine yAd rfl ?_; refine yAd rfl ?_; refine yQ ?_; refine pw_seq ?_; refine pw_region ?_; refine yMd rfl ?_; refine yB rfl rfl rfl rfl ?_; refine yMd rfl ?_
      refine yMd rfl ?_; refine yB rfl rfl rfl rfl ?_; refine yPd rfl rfl ?_; refine yMd rfl ?_; refine yMd rfl ?_; refine yMd rfl ?_; refine yBb Tryz.underlying4 rfl rfl rfl ?_; refine yPd rfl rfl ?_; refine yMd rfl ?_; refine yMd rfl ?_
      refine yMd rfl ?_; refine yN rfl ?_; refine yB rfl rfl rfl rfl ?_; refine yBb Tryz.underlying4 rfl rfl rfl ?_; refine yPd rfl rfl ?_; refine yMd rfl ?_; refine yMd rfl ?_; refine yMd rfl ?_; refine yBse rfl rfl ?_
      refine yBb Tryz.underlying4 rfl rfl rfl ?_; refine yPd rfl rfl ?_; refine yMd rfl ?_; refine yC (k0) rfl rfl ?_; refine yPd rfl rfl ?_; refine yAd rfl ?_; refine yQ ?_; refine pw_ret ?_
      exact q_ret _ (.tmp rfl .nil) rfl
    | false =>
      have hn0 : nf e ≠ [] := by simpa using hz.symm
      rw [if_neg hn0] at k4
      have hpn := hpn hn0
      obtain ⟨l, hl⟩ : ∃ l, l = (nf e).map (·.1) := ⟨_, rfl⟩
      obtain ⟨s, hs⟩ : ∃ s, s = prI (nf e) (nf e).length := ⟨_, rfl⟩
      have t2 : (((l.map dC).length : Int) == 0) = false := by
        have := List.length_pos_iff.2 hn0
        rw [List.length_map, hl, List.length_map]
        exact beq_false_of_ne (by omega)
      rw [← hl] at k3
      rw [← hs] at k4 hpn
      have t3 : (s == [48]) = false := by simpa using hpn
      refine pw_seq ?_; refine pw_region ?_; refine yB rfl rfl rfl rfl ?_; refine yQ ?_; refine pw_seq ?_; rw [u2]; refine pw_cf rfl ?_; refine pw_exit ?_; refine pw_seq ?_; refine pw_region ?_; refine yMd rfl ?_
      refine yC (k3) rfl rfl ?_; refine yMp rfl ?_; refine yX rfl rfl ?_; refine yX rfl rfl ?_; refine yAd rfl ?_; refine yAd rfl ?_; refine yQ ?_; refine pw_seq ?_; refine pw_region ?_; refine yMd rfl ?_; refine yC (k4) rfl rfl ?_
      refine yMp rfl ?_; refine yX rfl rfl ?_; refine yX rfl rfl ?_; refine yAd rfl ?_; refine yAd rfl ?_; refine yQ ?_; refine pw_seq ?_; refine pw_region ?_; refine yMd rfl ?_; refine yB rfl rfl rfl rfl ?_; refine yMd rfl ?_
      refine yMd rfl ?_; refine yB rfl rfl rfl rfl ?_; refine yPd rfl rfl ?_; refine yMd rfl ?_; refine yMd rfl ?_; refine yMd rfl ?_; refine yBb Tryz.underlying4 rfl rfl rfl ?_; refine yPd rfl rfl ?_; refine yMd rfl ?_; refine yMd rfl ?_
      refine yMd rfl ?_; refine yN rfl ?_; refine yB rfl rfl rfl rfl ?_; refine yBb Tryz.underlying4 rfl rfl rfl ?_; refine yPd rfl rfl ?_; refine yMd rfl ?_; rw [t2]; refine yMd rfl ?_; refine yMd rfl ?_; refine yBse rfl rfl ?_
      refine yBb Tryz.underlying4 rfl rfl rfl ?_; refine yPd rfl rfl ?_; refine yMd rfl ?_; rw [t3]; refine yC (k0) rfl rfl ?_; refine yPd rfl rfl ?_; refine yAd rfl ?_; refine yQ ?_; refine pw_ret ?_
      exact q_ret _ (.tmp rfl .nil) rfl
  have u2 : decide ((j : Int) < (ns.length : Int)) = true := decide_eq_true (by omega)
  obtain ⟨k, hk⟩ : ∃ a, ns[j]? = some a := ⟨_, List.getElem?_eq_getElem h⟩
  have ek := ix dC ns j j k rfl hk
  have hw := wrapI ((j : Int) + 1) (by omega)
  have hnx : (ns.take (j + 1)).all (fun k => decide (cf k e = 0)) = ((ns.take j).all (fun k => decide (cf k e = 0)) && decide (cf k e = 0)) := by
    rw [List.take_add_one, hk, List.all_append]
    simp
  have holl : (oneL ns k).length = ns.length := List.length_map _
  have hol : ∀ c ∈ oneL ns k, c.2.length ≤ 400 := fun c hc => by
    obtain ⟨s, -, rfl⟩ := List.mem_map.1 hc
    show (if s = k then [49] else [] : Str).length ≤ 400
    split <;> simp
  have k5 := wEval e (oneL ns k) (by omega) ha4 (by omega) hol
  obtain ⟨q1, q2⟩ := hev k
  rw [q1, q2] at k5
  have hcv : (canon (cf k e) == []) = decide (cf k e = 0) := by
    rw [Bool.eq_iff_iff, beq_iff_eq, decide_eq_true_eq]
    exact canon_nil
  obtain ⟨v, hv⟩ : ∃ v, v = canon (cf k e) := ⟨_, rfl⟩
  rw [← hv] at k5 hcv
  obtain ⟨bz, hbz⟩ : ∃ b, b = decide (cf k e = 0) := ⟨_, rfl⟩
  rw [← hbz] at hcv hnx
  obtain ⟨al, hal⟩ : ∃ b, b = (ns.take j).all fun k => decide (cf k e = 0) := ⟨_, rfl⟩
  rw [← hal] at hnx ⊢
  clear hal hbz hv q1 q2 hall hev hns k3 k4 hpn hz k1 k2
  refine pw_seq ?_; refine pw_region ?_; refine yB rfl rfl rfl rfl ?_; refine yQ ?_; refine pw_seq ?_; rw [u2]; refine pw_ct rfl ?_; refine pw_skip ?_; refine pw_seq ?_; refine pw_block ?_; refine pw_seq ?_; refine pw_region ?_
  refine yW ek (by omega) rfl rfl ?_; refine yLr rfl rfl ?_; refine yAd rfl ?_; refine yQ ?_; refine pw_seq ?_; refine pw_region ?_; refine yAd rfl ?_; refine yQ ?_; refine pw_tok 11 zT11 2 rfl rfl rfl ?_; refine pw_seq ?_
  refine pw_seq ?_; refine pw_region ?_; refine yMd rfl ?_; refine yN rfl ?_; refine yMd rfl ?_; refine yQ ?_; refine pw_block ?_
  refine pw_loop (fun m : Nat => ⟨128, [(0, .d (.sl 2 (e.map dCf))), (3, .d (dB z)), (5, .d (.sl 1 (ns.map dC))), (8, .d (dB al)), (10, .d (dS k)), (11, .ts zT11 2 ((oneL (ns.take m) k).map dCf)), (54, .d (.sl 1 (ns.map dC))), (55, .d (dI ns.length)), (56, .d (dI j)), (60, .d (.sl 1 (ns.map dC))), (61, .d (dI ns.length)), (62, .d (dI m))], [], [(zT11, ((oneL (ns.take m) k).map dCf).length)]⟩) (fun m => m ≤ ns.length) (fun m => ns.length - m) 0 (Nat.zero_le _)
    ⟨rfl, ⟨.refl _, .refl _, .refl _, .refl _, .refl _, .refl _, .refl _, .refl _, .refl _, .refl _, .of_eq (congrArg (fun n : Nat => SV.d (dI n)) (by simp)), .refl _, trivial⟩, trivial, ⟨rfl, trivial⟩, rfl⟩ ?_
  intro m hm
  rcases Nat.lt_or_ge m ns.length with h3 | h3
  · have u3 : decide ((m : Int) < (ns.length : Int)) = true := decide_eq_true (by omega)
    obtain ⟨s, hs⟩ : ∃ a, ns[m]? = some a := ⟨_, List.getElem?_eq_getElem h3⟩
    have es := ix dC ns m m s rfl hs
    have hwm := wrapI ((m : Int) + 1) (by omega)
    have hnm : oneL (ns.take (m + 1)) k = oneL (ns.take m) k ++ [(s, if s = k then [49] else [])] := by
      rw [oneL, List.take_add_one, hs, List.map_append]; rfl
    have hzl : (oneL (ns.take m) k).length ≤ 1000 := by rw [oneL, List.length_map, List.length_take]; omega
    obtain ⟨zs, hzs⟩ : ∃ l, l = oneL (ns.take m) k := ⟨_, rfl⟩
    rw [← hzs] at hnm hzl ⊢
    clear hzs k5
    by_cases hsk : s = k
    · have u4 : (s == k) = true := by simp [hsk]
      rw [if_pos hsk] at hnm
      refine pw_seq ?_; refine pw_region ?_; refine yB rfl rfl rfl rfl ?_; refine yQ ?_; refine pw_seq ?_; rw [u3]; refine pw_ct rfl ?_; refine pw_skip ?_; refine pw_seq ?_; refine pw_block ?_; refine pw_seq ?_; refine pw_region ?_
      refine yW es (by omega) rfl rfl ?_; refine yLr rfl rfl ?_; refine yAd rfl ?_; refine yQ ?_; refine pw_seq ?_; refine pw_region ?_; refine yMd rfl ?_; refine yG (ys := [_, _]) rfl rfl ?_; refine yZ (cs := [_, _]) rfl rfl ?_
      refine yS (cs' := [_, _]) rfl rfl rfl rfl rfl ?_; refine yQ ?_; refine pw_seq ?_; refine pw_seq ?_; refine pw_region ?_; refine yMd rfl ?_; refine yMd rfl ?_; refine yBse rfl rfl ?_; refine yQ ?_; refine q_then ?_; rw [u4]
      refine pw_ct rfl ?_; refine pw_region ?_; refine yFb rfl ?_; refine ySd (cs' := [_, _]) rfl rfl rfl rfl ?_; refine yQ ?_; refine pw_region ?_; refine yMt rfl ?_; refine yLa (ys := [_, _]) rfl rfl rfl rfl ?_
      refine yR (es := [[_, _]]) rfl rfl rfl rfl rfl ?_; refine yT (es' := (zs ++ [(s, [49])]).map dCf) (m := ((zs ++ [(s, [49])]).map dCf).length) (by simp; omega) (by simp; omega) rfl rfl rfl rfl rfl (by simp) (by simp) ?_
      refine yAt rfl ?_; refine yQ ?_; refine pw_region ?_; refine yB rfl rfl rfl rfl ?_; refine yMd rfl ?_; refine yQ ?_; refine q_then ?_
      exact ⟨m + 1, by omega, by omega, rfl, ⟨.refl _, .refl _, .refl _, .refl _, .refl _, .of_eq (by rw [hnm] <;> rfl), .refl _, .refl _, .refl _, .refl _, .refl _, .of_eq (congrArg (fun n => SV.d (dI n)) hwm), trivial⟩, trivial, ⟨(by rw [hnm] <;> rfl), trivial⟩, rfl⟩
    · have u4 : (s == k) = false := by simpa using hsk
      rw [if_neg hsk] at hnm
      refine pw_seq ?_; refine pw_region ?_; refine yB rfl rfl rfl rfl ?_; refine yQ ?_; refine pw_seq ?_; rw [u3]; refine pw_ct rfl ?_; refine pw_skip ?_; refine pw_seq ?_; refine pw_block ?_; refine pw_seq ?_; refine pw_region ?_
      refine yW es (by omega) rfl rfl ?_; refine yLr rfl rfl ?_; refine yAd rfl ?_; refine yQ ?_; refine pw_seq ?_; refine pw_region ?_; refine yMd rfl ?_; refine yG (ys := [_, _]) rfl rfl ?_; refine yZ (cs := [_, _]) rfl rfl ?_
      refine yS (cs' := [_, _]) rfl rfl rfl rfl rfl ?_; refine yQ ?_; refine pw_seq ?_; refine pw_seq ?_; refine pw_region ?_; refine yMd rfl ?_; refine yMd rfl ?_; refine yBse rfl rfl ?_; refine yQ ?_; refine q_then ?_; rw [u4]
      refine pw_cf rfl ?_; refine pw_skip ?_; refine pw_region ?_; refine yMt rfl ?_; refine yLa (ys := [_, _]) rfl rfl rfl rfl ?_; refine yR (es := [[_, _]]) rfl rfl rfl rfl rfl ?_
      refine yT (es' := (zs ++ [(s, [])]).map dCf) (m := ((zs ++ [(s, [])]).map dCf).length) (by simp; omega) (by simp; omega) rfl rfl rfl rfl rfl (by simp) (by simp) ?_; refine yAt rfl ?_; refine yQ ?_; refine pw_region ?_
      refine yB rfl rfl rfl rfl ?_; refine yMd rfl ?_; refine yQ ?_; refine q_then ?_
      exact ⟨m + 1, by omega, by omega, rfl, ⟨.refl _, .refl _, .refl _, .refl _, .refl _, .of_eq (by rw [hnm] <;> rfl), .refl _, .refl _, .refl _, .refl _, .refl _, .of_eq (congrArg (fun n => SV.d (dI n)) hwm), trivial⟩, trivial, ⟨(by rw [hnm] <;> rfl), trivial⟩, rfl⟩
  · have u3 : decide ((m : Int) < (ns.length : Int)) = false := decide_eq_false (by omega)
    obtain rfl : m = ns.length := by omega
    rw [List.take_length]
    obtain ⟨O, hO⟩ : ∃ O, O = (oneL ns k).map dCf := ⟨_, rfl⟩
    rw [← hO] at k5 ⊢
    cases al with
    | true =>
      refine pw_seq ?_; refine pw_region ?_; refine yB rfl rfl rfl rfl ?_; refine yQ ?_; refine pw_seq ?_; rw [u3]; refine pw_cf rfl ?_; refine pw_exit ?_; refine pw_seq ?_; refine pw_region ?_; refine yMd rfl ?_; refine yMt rfl ?_
      refine yC (k5) rfl rfl ?_; refine yMp rfl ?_; refine yX rfl rfl ?_; refine yX rfl rfl ?_; refine yAd rfl ?_; refine yAd rfl ?_; refine yQ ?_; refine pw_seq ?_; refine pw_seq ?_; refine pw_region ?_; refine yMd rfl ?_
      refine yB rfl rfl rfl rfl ?_; refine yQ ?_; refine pw_cf rfl ?_; refine pw_skip ?_; refine pw_region ?_; refine yMd rfl ?_; refine yMd rfl ?_; refine yMd rfl ?_; refine yBse rfl rfl ?_; refine yPd rfl rfl ?_; refine yAd rfl ?_
      refine yQ ?_; refine pw_region ?_; refine yB rfl rfl rfl rfl ?_; refine yMd rfl ?_; refine yQ ?_; refine q_then ?_; rw [hcv]
      exact ⟨j + 1, by omega, by omega, rfl, ⟨.refl _, .refl _, .refl _, .of_eq (by rw [hnx] <;> rfl), .refl _, .refl _, .of_eq (congrArg (fun n => SV.d (dI n)) hw), trivial⟩, trivial, trivial, rfl⟩
    | false =>
      refine pw_seq ?_; refine pw_region ?_; refine yB rfl rfl rfl rfl ?_; refine yQ ?_; refine pw_seq ?_; rw [u3]; refine pw_cf rfl ?_; refine pw_exit ?_; refine pw_seq ?_; refine pw_region ?_; refine yMd rfl ?_; refine yMt rfl ?_
      refine yC (k5) rfl rfl ?_; refine yMp rfl ?_; refine yX rfl rfl ?_; refine yX rfl rfl ?_; refine yAd rfl ?_; refine yAd rfl ?_; refine yQ ?_; refine pw_seq ?_; refine pw_seq ?_; refine pw_region ?_; refine yMd rfl ?_
      refine yB rfl rfl rfl rfl ?_; refine yQ ?_; refine pw_cf rfl ?_; refine pw_skip ?_; refine pw_region ?_; refine yMd rfl ?_; refine yMd rfl ?_; refine yO rfl ?_; refine yO rfl ?_; refine yVd rfl rfl ?_; refine yAd rfl ?_
      refine yQ ?_; refine pw_region ?_; refine yB rfl rfl rfl rfl ?_; refine yMd rfl ?_; refine yQ ?_; refine q_then ?_
      exact ⟨j + 1, by omega, by omega, rfl, ⟨.refl _, .refl _, .refl _, .of_eq (by rw [hnx] <;> rfl), .refl _, .refl _, .of_eq (congrArg (fun n => SV.d (dI n)) hw), trivial⟩, trivial, trivial, rfl⟩
end Go.Proofs.YtmfeinilbjfnpaaGreatDoor
