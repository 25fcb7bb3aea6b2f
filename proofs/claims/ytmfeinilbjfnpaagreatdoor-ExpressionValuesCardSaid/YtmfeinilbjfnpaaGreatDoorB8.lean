/- Walk: the reference's values of expressions. -/
import Derived.Test.YtmfeinilbjfnpaaGreatDoorB7
import Derived.Test.YtmfeinilbjfnpaaGreatDoorB6
namespace Go.Proofs.YtmfeinilbjfnpaaGreatDoor
open Go.RowKit Px

theorem inL_step {L : List Cf} {k : Nat} {d : Cf} (h : L[k]? = some d) (c : Str) : inL (L.take (k + 1)) c = (inL (L.take k) c || d.1 == c) := by
  rw [inL, List.take_add_one, h, Option.toList, List.any_append]
  simp [inL]
theorem getS_at {L : List Cf} {k : Nat} {d : Cf} (h : L[k]? = some d) (hn : (L.map (·.1)).Nodup) : getS d.1 L = d.2 := get_mem hn (List.mem_of_getElem? h)
theorem inL_nodup {L : List Cf} {k : Nat} {d : Cf} (h : L[k]? = some d) (hn : (L.map (·.1)).Nodup) : inL (L.take k) d.1 = false := by
  rw [inL, List.any_eq_false]
  intro p hp e
  obtain ⟨j, hj⟩ := List.mem_iff_getElem?.1 hp
  have hjk : j < k := by have := (List.getElem?_eq_some_iff.1 hj).1; rw [List.length_take] at this; omega
  rw [List.getElem?_take_of_lt hjk] at hj
  have h1 : (L.map (·.1))[j]? = some p.1 := by rw [List.getElem?_map, hj]; rfl
  have h2 : (L.map (·.1))[k]? = some d.1 := by rw [List.getElem?_map, h]; rfl
  have e : p.1 = d.1 := by simpa using e
  rw [e] at h1
  have h3 := (List.getElem?_inj (by have := (List.getElem?_eq_some_iff.1 h1).1; exact this) hn).1 (h1.trans h2.symm)
  omega
set_option maxRecDepth 20000 in
set_option maxHeartbeats 4000000 in
theorem wREval (e L : List Cf) (hl : e.length ≤ 1000000) (hn0 : ∀ c ∈ e, c.1.length ≤ 1000000) (hf : ∀ c ∈ e, c.2.length ≤ 400) (hLl : L.length ≤ 1000000) (hLn : ∀ c ∈ L, c.1.length ≤ 1000000) (hL : ∀ c ∈ L, c.2.length ≤ 400) : PCalls Tryz.prog 15 [.sl 2 (e.map dCf), .sl 2 (L.map dCf)] (.tup [dS (evV e L), dI (evE e L)]) := by
  have k1 := wRNormalE e hl hn0 fun c hc => by have := hf c hc; omega
  by_cases h1 : chE e = 0
  rotate_left
  · have t1 : (chE e != 0) = true := by simpa using h1
    have e1 : evE e L = chE e := by rw [evE, if_pos h1]
    rw [evV, e1, if_neg h1]
    obtain ⟨x, hx⟩ : ∃ x, x = chE e := ⟨_, rfl⟩
    rw [← hx] at k1 t1 ⊢
    obtain ⟨l, hl⟩ : ∃ l, l = (nmE e).map dCf := ⟨_, rfl⟩
    rw [← hl] at k1
    refine pcalls_of_pw Tryz.func15 rfl Tryz.ntmps15 Tryz.results15 (by simp) fun B w0 => ?_
    refine pw_seq ?_; refine pw_region ?_; refine yAd rfl ?_; refine yAd rfl ?_; refine yQ ?_; refine pw_seq ?_; refine pw_region ?_; refine yMd rfl ?_; refine yC (k1) rfl rfl ?_; refine yMp rfl ?_; refine yX rfl rfl ?_
    refine yX rfl rfl ?_; refine yAd rfl ?_; refine yAd rfl ?_; refine yQ ?_; refine pw_seq ?_; refine pw_seq ?_; refine pw_region ?_; refine yMd rfl ?_; refine yB rfl rfl rfl rfl ?_; refine yQ ?_; refine q_then ?_; rw [t1]
    refine pw_ct rfl ?_; refine pw_seq ?_; refine pw_region ?_; refine yMd rfl ?_; refine yAd rfl ?_; refine yAd rfl ?_; refine yQ ?_; refine pw_ret ?_; refine q_then_ret ?_
    exact q_ret _ (.tmp rfl (.tmp rfl .nil)) rfl
  obtain ⟨a1, a2⟩ := chE_zero.1 h1
  rw [nmE, if_pos h1, h1] at k1
  have hnl := nf_len e
  have hnf := fun p hp => nf_flen hf (p := p) hp
  have hvl := fun i => evA_len (n := nf e) (B := 400 + 2 * e.length) hnf hL i
  have hev : evE e L = if amE L ≠ 0 then amE L else if evOK (nf e) L then 0 else 6 := by rw [evE, if_neg (fun h => h h1)]
  rw [evV, hev]
  obtain ⟨n, hn⟩ : ∃ n, n = nf e := ⟨_, rfl⟩
  rw [← hn] at k1 hnl hnf hvl ⊢
  clear hn hev h1
  obtain ⟨r, hr⟩ : ∃ r, r = amE L := ⟨_, rfl⟩
  have hr0 := hr
  rw [amE] at hr
  rw [← hr0]
  refine pcalls_of_pw Tryz.func15 rfl Tryz.ntmps15 Tryz.results15 (by simp) fun B w0 => ?_
  refine pw_seq ?_; refine pw_region ?_; refine yAd rfl ?_; refine yAd rfl ?_; refine yQ ?_; refine pw_seq ?_; refine pw_region ?_; refine yMd rfl ?_; refine yC (k1) rfl rfl ?_; refine yMp rfl ?_; refine yX rfl rfl ?_
  refine yX rfl rfl ?_; refine yAd rfl ?_; refine yAd rfl ?_; refine yQ ?_; refine pw_seq ?_; refine pw_seq ?_; refine pw_region ?_; refine yMd rfl ?_; refine yB rfl rfl rfl rfl ?_; refine yQ ?_; refine pw_cf rfl ?_; refine pw_skip ?_
  refine pw_seq ?_; refine pw_seq ?_; refine pw_region ?_; refine yAd rfl ?_; refine yQ ?_; refine pw_block ?_
  refine pw_loop (fun i : Nat => ⟨97, [(1, .d (.sl 2 (L.map dCf))), (6, .d (.sl 2 (n.map dCf))), (8, .d (dI i))], [], []⟩) (fun i => i ≤ L.length ∧ amR (L.take i) (L.drop i) = r) (fun i => L.length - i) 0 ⟨Nat.zero_le _, hr.symm⟩
    ⟨rfl, ⟨.refl _, .refl _, .refl _, trivial⟩, trivial, trivial, rfl⟩ ?_
  rintro i ⟨hi, hri⟩
  rcases Nat.lt_or_ge i L.length with h | h
  · -- the amounts are looked at
    have t1 : decide ((i : Int) < ((L.map dCf).length : Int)) = true := decide_eq_true (by rw [List.length_map]; omega)
    obtain ⟨⟨c0, c1⟩, hc⟩ : ∃ a, L[i]? = some a := ⟨_, List.getElem?_eq_getElem h⟩
    have em := ix dCf L i i (c0, c1) rfl hc
    have hw := wrapI ((i : Int) + 1) (by omega)
    have hq := hL _ (List.mem_of_getElem? hc)
    have hqn := hLn _ (List.mem_of_getElem? hc)
    simp only at hq hqn
    have k2 := wRNameE c0 (by omega)
    have k3 := wRCheck c1 (by omega)
    have hdr : L.drop i = (c0, c1) :: L.drop (i + 1) := by
      obtain ⟨q1, q2⟩ := List.getElem?_eq_some_iff.1 hc
      rw [List.drop_eq_getElem_cons q1, q2]
    have htk : L.take (i + 1) = L.take i ++ [(c0, c1)] := by rw [List.take_add_one, hc]; rfl
    rw [hdr, amR, ← htk] at hri
    simp only [tmE] at hri
    cases hnm : nmB c0 with
    | false =>
      rw [hnm] at k2 hri
      have hri : 23 = r := by simpa using hri
      subst hri
      have e0 : (if (23 : Int) ≠ 0 then (23 : Int) else if evOK n L = true then 0 else 6) = 23 := if_pos (by decide)
      rw [e0, if_neg (by decide)]
      refine pw_seq ?_; refine pw_seq ?_; refine pw_region ?_; refine yMd rfl ?_; refine yMd rfl ?_; refine yN rfl ?_; refine yB rfl rfl rfl rfl ?_; refine yQ ?_; refine q_then ?_; rw [t1]; refine pw_ct rfl ?_; refine pw_skip ?_
      refine pw_seq ?_; refine pw_block ?_; refine pw_seq ?_; refine pw_seq ?_; refine pw_region ?_; refine yMd rfl ?_; refine yMd rfl ?_; refine yW em (by omega) rfl rfl ?_; refine yFr rfl rfl ?_; refine yLr rfl rfl ?_
      refine yC (k2) rfl rfl ?_; refine yU rfl rfl rfl ?_; refine yQ ?_; refine pw_ct rfl ?_; refine pw_seq ?_; refine pw_region ?_; refine yAd rfl ?_; refine yAd rfl ?_; refine yQ ?_; refine pw_ret ?_; refine q_then_ret ?_
      refine q_blk_ret ?_; refine q_then_ret ?_; refine q_then_ret ?_; refine q_blk_ret ?_; refine q_then_ret ?_
      exact q_ret _ (.tmp rfl (.tmp rfl .nil)) rfl
    | true =>
    rw [hnm] at k2 hri
    cases hs : isC c1 with
    | false =>
      rw [hs] at k3 hri
      have hri : 1 = r := by simpa using hri
      subst hri
      have e0 : (if (1 : Int) ≠ 0 then (1 : Int) else if evOK n L = true then 0 else 6) = 1 := if_pos (by decide)
      rw [e0, if_neg (by decide)]
      refine pw_seq ?_; refine pw_seq ?_; refine pw_region ?_; refine yMd rfl ?_; refine yMd rfl ?_; refine yN rfl ?_; refine yB rfl rfl rfl rfl ?_; refine yQ ?_; refine q_then ?_; rw [t1]; refine pw_ct rfl ?_; refine pw_skip ?_
      refine pw_seq ?_; refine pw_block ?_; refine pw_seq ?_; refine pw_seq ?_; refine pw_region ?_; refine yMd rfl ?_; refine yMd rfl ?_; refine yW em (by omega) rfl rfl ?_; refine yFr rfl rfl ?_; refine yLr rfl rfl ?_
      refine yC (k2) rfl rfl ?_; refine yU rfl rfl rfl ?_; refine yQ ?_; refine pw_cf rfl ?_; refine pw_skip ?_; refine pw_seq ?_; refine pw_seq ?_; refine pw_region ?_; refine yMd rfl ?_; refine yMd rfl ?_
      refine yW em (by omega) rfl rfl ?_; refine yFr rfl rfl ?_; refine yLr rfl rfl ?_; refine yC (k3) rfl rfl ?_; refine yB rfl rfl rfl rfl ?_; refine yQ ?_; refine pw_ct rfl ?_; refine pw_seq ?_; refine pw_region ?_; refine yAd rfl ?_
      refine yAd rfl ?_; refine yQ ?_; refine pw_ret ?_; refine q_then_ret ?_; refine q_blk_ret ?_; refine q_then_ret ?_; refine q_then_ret ?_; refine q_blk_ret ?_; refine q_then_ret ?_
      exact q_ret _ (.tmp rfl (.tmp rfl .nil)) rfl
    | true =>
    rw [hs] at k3 hri
    refine pw_seq ?_; refine pw_seq ?_; refine pw_region ?_; refine yMd rfl ?_; refine yMd rfl ?_; refine yN rfl ?_; refine yB rfl rfl rfl rfl ?_; refine yQ ?_; refine q_then ?_; rw [t1]; refine pw_ct rfl ?_; refine pw_skip ?_
    refine pw_seq ?_; refine pw_block ?_; refine pw_seq ?_; refine pw_seq ?_; refine pw_region ?_; refine yMd rfl ?_; refine yMd rfl ?_; refine yW em (by omega) rfl rfl ?_; refine yFr rfl rfl ?_; refine yLr rfl rfl ?_
    refine yC (k2) rfl rfl ?_; refine yU rfl rfl rfl ?_; refine yQ ?_; refine pw_cf rfl ?_; refine pw_skip ?_; refine pw_seq ?_; refine pw_seq ?_; refine pw_region ?_; refine yMd rfl ?_; refine yMd rfl ?_
    refine yW em (by omega) rfl rfl ?_; refine yFr rfl rfl ?_; refine yLr rfl rfl ?_; refine yC (k3) rfl rfl ?_; refine yB rfl rfl rfl rfl ?_; refine yQ ?_; refine pw_cf rfl ?_; refine pw_skip ?_; refine pw_seq ?_; refine pw_region ?_
    refine yAd rfl ?_; refine yQ ?_; refine pw_block ?_
    refine pw_loop (fun k : Nat => ⟨97, [(1, .d (.sl 2 (L.map dCf))), (6, .d (.sl 2 (n.map dCf))), (8, .d (dI i)), (9, .d (dI k))], [], []⟩) (fun k => k ≤ i ∧ inL (L.take k) c0 = false) (fun k => i - k) 0 ⟨Nat.zero_le _, by rw [List.take_zero]; rfl⟩
      ⟨rfl, ⟨.refl _, .refl _, .refl _, .refl _, trivial⟩, trivial, trivial, rfl⟩ ?_
    rintro k ⟨hk, hno⟩
    rcases Nat.lt_or_ge k i with h2 | h2
    · have t2 : decide ((k : Int) < (i : Int)) = true := decide_eq_true (by omega)
      obtain ⟨⟨d0, d1⟩, hd⟩ : ∃ a, L[k]? = some a := ⟨_, List.getElem?_eq_getElem (by omega)⟩
      have ed := ix dCf L k k (d0, d1) rfl hd
      have hwk := wrapI ((k : Int) + 1) (by omega)
      have hst := inL_step hd c0
      rw [hno] at hst
      cases hb : (d0 == c0) with
      | true =>
        have hany : ((L.take i).any fun q => q.1 == c0) = true := List.any_eq_true.2 ⟨(d0, d1), List.mem_of_getElem? (by rw [List.getElem?_take_of_lt h2]; exact hd), hb⟩
        rw [hany] at hri
        have hri : 5 = r := by simpa using hri
        subst hri
        have e0 : (if (5 : Int) ≠ 0 then (5 : Int) else if evOK n L = true then 0 else 6) = 5 := if_pos (by decide)
        rw [e0, if_neg (by decide)]
        refine pw_seq ?_; refine pw_seq ?_; refine pw_region ?_; refine yMd rfl ?_; refine yMd rfl ?_; refine yB rfl rfl rfl rfl ?_; refine yQ ?_; refine q_then ?_; rw [t2]; refine pw_ct rfl ?_; refine pw_skip ?_; refine pw_seq ?_
        refine pw_block ?_; refine pw_seq ?_; refine pw_draw Tryz.mixed (by kernel_rfl) ?_; refine yMd rfl ?_; refine yMd rfl ?_; refine yW ed (by omega) rfl rfl ?_; refine yFr rfl rfl ?_; refine yLr rfl rfl ?_; refine yMd rfl ?_
        refine yMd rfl ?_; refine yW em (by omega) rfl rfl ?_; refine yFr rfl rfl ?_; refine yLr rfl rfl ?_; refine yBse rfl rfl ?_; refine yQ ?_; refine q_then ?_; rw [hb]; refine pw_ct rfl ?_; refine pw_seq ?_; refine pw_region ?_
        refine yAd rfl ?_; refine yAd rfl ?_; refine yQ ?_; refine pw_ret ?_; refine q_blk_ret ?_; refine q_then_ret ?_; refine q_then_ret ?_; refine q_blk_ret ?_; refine q_blk_ret ?_; refine q_then_ret ?_; refine q_then_ret ?_
        refine q_blk_ret ?_; refine q_then_ret ?_
        exact q_ret _ (.tmp rfl (.tmp rfl .nil)) rfl
      | false =>
        simp only at hst
        rw [hb] at hst
        refine pw_seq ?_; refine pw_seq ?_; refine pw_region ?_; refine yMd rfl ?_; refine yMd rfl ?_; refine yB rfl rfl rfl rfl ?_; refine yQ ?_; refine q_then ?_; rw [t2]; refine pw_ct rfl ?_; refine pw_skip ?_; refine pw_seq ?_
        refine pw_block ?_; refine pw_seq ?_; refine pw_draw Tryz.mixed (by kernel_rfl) ?_; refine yMd rfl ?_; refine yMd rfl ?_; refine yW ed (by omega) rfl rfl ?_; refine yFr rfl rfl ?_; refine yLr rfl rfl ?_; refine yMd rfl ?_
        refine yMd rfl ?_; refine yW em (by omega) rfl rfl ?_; refine yFr rfl rfl ?_; refine yLr rfl rfl ?_; refine yBse rfl rfl ?_; refine yQ ?_; refine q_then ?_; rw [hb]; refine pw_cf rfl ?_; refine pw_skip ?_; refine pw_region ?_
        refine yMd rfl ?_; refine yB rfl rfl rfl rfl ?_; refine yAd rfl ?_; refine yQ ?_; refine q_then ?_
        exact ⟨k + 1, ⟨by omega, hst⟩, by omega, rfl, ⟨.refl _, .refl _, .refl _, .of_eq (congrArg (fun n => SV.d (dI n)) hwk), trivial⟩, trivial, trivial, rfl⟩
    · have t2 : decide ((k : Int) < (i : Int)) = false := decide_eq_false (by omega)
      obtain rfl : k = i := by omega
      have hno2 : ((L.take k).any fun q => q.1 == c0) = false := hno
      rw [hno2] at hri
      have hri : amR (L.take (k + 1)) (L.drop (k + 1)) = r := by simpa using hri
      refine pw_seq ?_; refine pw_seq ?_; refine pw_region ?_; refine yMd rfl ?_; refine yMd rfl ?_; refine yB rfl rfl rfl rfl ?_; refine yQ ?_; refine q_then ?_; rw [t2]; refine pw_cf rfl ?_; refine pw_exit ?_; refine pw_region ?_
      refine yMd rfl ?_; refine yB rfl rfl rfl rfl ?_; refine yAd rfl ?_; refine yQ ?_; refine q_then ?_
      exact ⟨k + 1, ⟨by omega, hri⟩, by omega, rfl, ⟨.refl _, .refl _, .of_eq (congrArg (fun n => SV.d (dI n)) hw), trivial⟩, trivial, trivial, rfl⟩
  have t1 : decide ((i : Int) < ((L.map dCf).length : Int)) = false := decide_eq_false (by rw [List.length_map]; omega)
  obtain rfl : i = L.length := by omega
  rw [List.drop_length, amR] at hri
  subst hri
  have hnd := (amE_zero.1 hr0.symm).2
  have e1 : (if (0 : Int) ≠ 0 then (0 : Int) else if evOK n L = true then 0 else 6) = if evOK n L = true then 0 else 6 := rfl
  rw [e1]
  clear hr hr0 e1 h hi
  refine pw_seq ?_; refine pw_seq ?_; refine pw_region ?_; refine yMd rfl ?_; refine yMd rfl ?_; refine yN rfl ?_; refine yB rfl rfl rfl rfl ?_; refine yQ ?_; refine q_then ?_; rw [t1]; refine pw_cf rfl ?_; refine pw_exit ?_
  refine pw_seq ?_; refine pw_region ?_; refine yAd rfl ?_; refine yQ ?_; refine pw_seq ?_; refine pw_seq ?_; refine pw_region ?_; refine yAd rfl ?_; refine yQ ?_; refine pw_block ?_
  refine pw_loop (fun i : Nat => ⟨97, [(1, .d (.sl 2 (L.map dCf))), (6, .d (.sl 2 (n.map dCf))), (10, .d (dS (canon (evA (aL L) (n.take i))))), (11, .d (dI i))], [], []⟩) (fun i => i ≤ n.length ∧ ∀ c ∈ n.take i, inL L c.1 = true) (fun i => n.length - i) 0 ⟨Nat.zero_le _, fun c hc => by simp at hc⟩
    ⟨rfl, ⟨.refl _, .refl _, .of_eq (by rw [List.take_zero]; simp [evA, canon_zero]; rfl), .refl _, trivial⟩, trivial, trivial, rfl⟩ ?_
  rintro i ⟨hi, hok⟩
  rcases Nat.lt_or_ge i n.length with h | h
  rotate_left
  · have t1 : decide ((i : Int) < ((n.map dCf).length : Int)) = false := decide_eq_false (by rw [List.length_map]; omega)
    obtain rfl : i = n.length := by omega
    rw [List.take_length] at hok ⊢
    have e2 : evOK n L = true := List.all_eq_true.2 hok
    rw [e2, if_pos rfl, if_pos rfl]
    obtain ⟨r, hr⟩ : ∃ r, r = canon (evA (aL L) n) := ⟨_, rfl⟩
    rw [← hr]
    refine pw_seq ?_; refine pw_seq ?_; refine pw_region ?_; refine yMd rfl ?_; refine yMd rfl ?_; refine yN rfl ?_; refine yB rfl rfl rfl rfl ?_; refine yQ ?_; refine q_then ?_; rw [t1]; refine pw_cf rfl ?_; refine pw_exit ?_
    refine pw_seq ?_; refine pw_region ?_; refine yMd rfl ?_; refine yAd rfl ?_; refine yAd rfl ?_; refine yQ ?_; refine pw_ret ?_
    exact q_ret _ (.tmp rfl (.tmp rfl .nil)) rfl
  have t1 : decide ((i : Int) < ((n.map dCf).length : Int)) = true := decide_eq_true (by rw [List.length_map]; omega)
  obtain ⟨⟨c0, c1⟩, hc⟩ : ∃ a, n[i]? = some a := ⟨_, List.getElem?_eq_getElem h⟩
  have em := ix dCf n i i (c0, c1) rfl hc
  have hw := wrapI ((i : Int) + 1) (by omega)
  have hq := hnf _ (List.mem_of_getElem? hc)
  simp only at hq
  have hvi := hvl i
  have hgl := getS_len hL c0
  have hml := mul_len (k := 400 + 2 * e.length) (m := 400) hq hgl
  have hnx : evA (aL L) (n.take (i + 1)) = evA (aL L) (n.take i) + val c1 * val (getS c0 L) := by
    rw [List.take_add_one, hc, Option.toList, evA_append]
    simp only [evA, aL, Int.add_zero]
  have k4 := wRAddG (canon (evA (aL L) (n.take i))) (canon (val c1 * val (getS c0 L))) (by omega) (by omega)
  rw [val_canon, val_canon, ← hnx] at k4
  have hok2 := take_okC (p := fun c => inL L c.1 = true) hc hok
  have hfin : ∀ k, k ≤ L.length → ∀ d : Cf, L[k]? = some d → (d.1 == c0) = true → inL (L.take k) c0 = false ∧ getS c0 L = d.2 := fun k hk d hd hb => by
    have e : d.1 = c0 := by simpa using hb
    rw [← e]
    exact ⟨inL_nodup hd hnd, getS_at hd hnd⟩
  obtain ⟨s0, hs0⟩ : ∃ s, s = canon (evA (aL L) (n.take i)) := ⟨_, rfl⟩
  rw [← hs0] at k4 ⊢
  obtain ⟨s1, hs1⟩ : ∃ s, s = canon (evA (aL L) (n.take (i + 1))) := ⟨_, rfl⟩
  rw [← hs1] at k4
  refine pw_seq ?_; refine pw_seq ?_; refine pw_region ?_; refine yMd rfl ?_; refine yMd rfl ?_; refine yN rfl ?_; refine yB rfl rfl rfl rfl ?_; refine yQ ?_; refine q_then ?_; rw [t1]; refine pw_ct rfl ?_; refine pw_skip ?_
  refine pw_seq ?_; refine pw_block ?_; refine pw_seq ?_; refine pw_region ?_; refine yAd rfl ?_; refine yQ ?_; refine pw_seq ?_; refine pw_seq ?_; refine pw_region ?_; refine yAd rfl ?_; refine yQ ?_; refine pw_block ?_
  refine pw_loop (fun k : Nat => ⟨97, [(1, .d (.sl 2 (L.map dCf))), (6, .d (.sl 2 (n.map dCf))), (10, .d (dS (if inL (L.take k) c0 then s1 else s0))), (11, .d (dI i)), (12, .d (dB (inL (L.take k) c0))), (13, .d (dI k))], [], []⟩) (fun k => k ≤ L.length) (fun k => L.length - k) 0 (Nat.zero_le _)
    ⟨rfl, ⟨.refl _, .refl _, .of_eq (by rw [List.take_zero]; rfl), .refl _, .of_eq (by rw [List.take_zero]; rfl), .refl _, trivial⟩, trivial, trivial, rfl⟩ ?_
  intro k hk
  rcases Nat.lt_or_ge k L.length with h2 | h2
  · have t2 : decide ((k : Int) < ((L.map dCf).length : Int)) = true := decide_eq_true (by rw [List.length_map]; omega)
    obtain ⟨⟨d0, d1⟩, hd⟩ : ∃ a, L[k]? = some a := ⟨_, List.getElem?_eq_getElem h2⟩
    have ed := ix dCf L k k (d0, d1) rfl hd
    have hwk := wrapI ((k : Int) + 1) (by omega)
    have hst := inL_step hd c0
    have hfk := hfin k hk _ hd
    simp only at hst hfk
    have hdl := hL _ (List.mem_of_getElem? hd)
    simp only at hdl
    obtain ⟨b, hb⟩ : ∃ b, b = inL (L.take k) c0 := ⟨_, rfl⟩
    rw [← hb] at hst hfk ⊢
    cases hbb : (d0 == c0) with
    | false =>
      rw [hbb, Bool.or_false] at hst
      obtain ⟨s, hs⟩ : ∃ s, s = if b = true then s1 else s0 := ⟨_, rfl⟩
      rw [← hs]
      refine pw_seq ?_; refine pw_seq ?_; refine pw_region ?_; refine yMd rfl ?_; refine yMd rfl ?_; refine yN rfl ?_; refine yB rfl rfl rfl rfl ?_; refine yQ ?_; refine q_then ?_; rw [t2]; refine pw_ct rfl ?_; refine pw_skip ?_
      refine pw_seq ?_; refine pw_block ?_; refine pw_seq ?_; refine pw_draw Tryz.mixed (by kernel_rfl) ?_; refine yMd rfl ?_; refine yMd rfl ?_; refine yW ed (by omega) rfl rfl ?_; refine yFr rfl rfl ?_; refine yLr rfl rfl ?_
      refine yMd rfl ?_; refine yMd rfl ?_; refine yW em (by omega) rfl rfl ?_; refine yFr rfl rfl ?_; refine yLr rfl rfl ?_; refine yBse rfl rfl ?_; refine yQ ?_; refine q_then ?_; rw [hbb]; refine pw_cf rfl ?_; refine pw_skip ?_
      refine pw_region ?_; refine yMd rfl ?_; refine yB rfl rfl rfl rfl ?_; refine yAd rfl ?_; refine yQ ?_; refine q_then ?_
      exact ⟨k + 1, by omega, by omega, rfl, ⟨.refl _, .refl _, .of_eq (by rw [hst, ← hs]; rfl), .refl _, .of_eq (by rw [hst]; rfl), .of_eq (congrArg (fun n => SV.d (dI n)) hwk), trivial⟩, trivial, trivial, rfl⟩
    | true =>
      obtain ⟨q1, q2⟩ := hfk hbb
      subst q1
      rw [hbb, Bool.false_or] at hst
      rw [q2] at k4
      have k3 := wRMulG c1 d1 (by omega) (by omega)
      obtain ⟨m, hm⟩ : ∃ m, m = canon (val c1 * val d1) := ⟨_, rfl⟩
      rw [← hm] at k3 k4
      clear hm hs1 hs0 hnx hfin q2 hml hgl hvi hvl
      refine pw_seq ?_; refine pw_seq ?_; refine pw_region ?_; refine yMd rfl ?_; refine yMd rfl ?_; refine yN rfl ?_; refine yB rfl rfl rfl rfl ?_; refine yQ ?_; refine q_then ?_; rw [t2]; refine pw_ct rfl ?_; refine pw_skip ?_
      refine pw_seq ?_; refine pw_block ?_; refine pw_seq ?_; refine pw_draw Tryz.mixed (by kernel_rfl) ?_; refine yMd rfl ?_; refine yMd rfl ?_; refine yW ed (by omega) rfl rfl ?_; refine yFr rfl rfl ?_; refine yLr rfl rfl ?_
      refine yMd rfl ?_; refine yMd rfl ?_; refine yW em (by omega) rfl rfl ?_; refine yFr rfl rfl ?_; refine yLr rfl rfl ?_; refine yBse rfl rfl ?_; refine yQ ?_; refine q_then ?_; rw [hbb]; refine pw_ct rfl ?_; refine pw_seq ?_
      refine pw_draw Tryz.mixed (by kernel_rfl) ?_; refine yMd rfl ?_; refine yMd rfl ?_; refine yMd rfl ?_; refine yW em (by omega) rfl rfl ?_; refine yFr rfl rfl ?_; refine yLr rfl rfl ?_; refine yMd rfl ?_; refine yMd rfl ?_
      refine yW ed (by omega) rfl rfl ?_; refine yFr rfl rfl ?_; refine yLr rfl rfl ?_; refine yC (k3) rfl rfl ?_; refine yC (k4) rfl rfl ?_; refine yAd rfl ?_; refine yQ ?_; refine pw_region ?_; refine yAd rfl ?_; refine yQ ?_
      refine pw_region ?_; refine yMd rfl ?_; refine yB rfl rfl rfl rfl ?_; refine yAd rfl ?_; refine yQ ?_; refine q_then ?_
      exact ⟨k + 1, by omega, by omega, rfl, ⟨.refl _, .refl _, .of_eq (by rw [hst]; rfl), .refl _, .of_eq (by rw [hst]; rfl), .of_eq (congrArg (fun n => SV.d (dI n)) hwk), trivial⟩, trivial, trivial, rfl⟩
  · have t2 : decide ((k : Int) < ((L.map dCf).length : Int)) = false := decide_eq_false (by rw [List.length_map]; omega)
    obtain rfl : k = L.length := by omega
    rw [List.take_length]
    cases hin : inL L c0 with
    | false =>
      have e2 : evOK n L = false := by
        rw [evOK, List.all_eq_false]
        exact ⟨(c0, c1), List.mem_of_getElem? hc, by simp [hin]⟩
      rw [e2, if_neg (by decide)]
      refine pw_seq ?_; refine pw_seq ?_; refine pw_region ?_; refine yMd rfl ?_; refine yMd rfl ?_; refine yN rfl ?_; refine yB rfl rfl rfl rfl ?_; refine yQ ?_; refine q_then ?_; rw [t2]; refine pw_cf rfl ?_; refine pw_exit ?_
      refine pw_seq ?_; refine pw_region ?_; refine yMd rfl ?_; refine yU rfl rfl rfl ?_; refine yQ ?_; refine pw_ct rfl ?_; refine pw_seq ?_; refine pw_region ?_; refine yAd rfl ?_; refine yAd rfl ?_; refine yQ ?_; refine pw_ret ?_
      refine q_blk_ret ?_; refine q_then_ret ?_; refine q_then_ret ?_; refine q_blk_ret ?_; refine q_then_ret ?_
      exact q_ret _ (.tmp rfl (.tmp rfl .nil)) rfl
    | true =>
      have hok3 := hok2 hin
      rw [if_pos rfl]
      refine pw_seq ?_; refine pw_seq ?_; refine pw_region ?_; refine yMd rfl ?_; refine yMd rfl ?_; refine yN rfl ?_; refine yB rfl rfl rfl rfl ?_; refine yQ ?_; refine q_then ?_; rw [t2]; refine pw_cf rfl ?_; refine pw_exit ?_
      refine pw_seq ?_; refine pw_region ?_; refine yMd rfl ?_; refine yU rfl rfl rfl ?_; refine yQ ?_; refine pw_cf rfl ?_; refine pw_skip ?_; refine pw_region ?_; refine yMd rfl ?_; refine yB rfl rfl rfl rfl ?_; refine yAd rfl ?_
      refine yQ ?_; refine q_then ?_
      exact ⟨i + 1, ⟨by omega, hok3⟩, by omega, rfl, ⟨.refl _, .refl _, .of_eq (by rw [← hs1]; rfl), .of_eq (congrArg (fun n => SV.d (dI n)) hw), trivial⟩, trivial, trivial, rfl⟩
end Go.Proofs.YtmfeinilbjfnpaaGreatDoor
namespace Go.Proofs.YtmfeinilbjfnpaaGreatDoor
open Go.RowKit Px

namespace Px
section
variable {P : Program} {sq : Bool} {ops : Array Oper} {K : PS → Prop} {rest : List Oper} {st : PS} {d : Option Nat} {ty : TypeId} {pos : String} {af : Array Edge} {gd : Option (Nat × Bool)}
end
end Px
theorem manyB_small {L : List Cf} (h : manyB L = false) : L.length ≤ 12 ∧ ∀ c ∈ L, c.1.length ≤ 20 ∧ c.2.length ≤ 20 := by
  unfold manyB at h
  simp only [Bool.or_eq_false_iff, decide_eq_false_iff_not, List.any_eq_false] at h
  refine ⟨by omega, fun c hc => ?_⟩
  have := h.2 c hc
  unfold bigC at this
  simp only [Bool.or_eq_true, decide_eq_true_eq, not_or] at this
  omega
end Go.Proofs.YtmfeinilbjfnpaaGreatDoor
namespace Go.Proofs.YtmfeinilbjfnpaaGreatDoor
open Go.RowKit Px

set_option maxRecDepth 20000 in
set_option maxHeartbeats 8000000 in
theorem lawVal (e L : List Cf) : PCalls Tryz.prog 3 [.sl 2 (e.map dCf), .sl 2 (L.map dCf)] (.d (dB true)) := by
  have k0 := wAwake
  have k1 := wGreatE [e] (by simp)
  simp only [List.map_cons, List.map_nil] at k1
  have k2 := wMany L
  cases hg : [e].any bigE with
  | true =>
    rw [hg] at k1
    refine pcalls_of_pw Tryz.func3 rfl Tryz.ntmps3 Tryz.results3 (by simp) fun B w0 => ?_
    refine pw_seq ?_; refine pw_region ?_; refine yAd rfl ?_; refine yQ ?_; refine pw_seq ?_; refine pw_seq ?_; refine pw_region ?_; refine yMd rfl ?_; refine yR (es := [[_]]) rfl rfl rfl rfl rfl ?_; refine yC (k1) rfl rfl ?_
    refine yMd rfl ?_; refine yO rfl ?_; refine yO rfl ?_; refine yPd rfl rfl ?_; refine yQ ?_; refine pw_ct rfl ?_; refine pw_seq ?_; refine pw_region ?_; refine yC (k0) rfl rfl ?_; refine yAd rfl ?_; refine yQ ?_; refine pw_ret ?_
    refine q_then_ret ?_
    exact q_ret _ (.tmp rfl .nil) rfl
  | false =>
  rw [hg] at k1
  simp only [List.any_cons, List.any_nil, Bool.or_eq_false_iff] at hg
  obtain ⟨a1, -, a2⟩ := bigE_small hg.1
  cases hm : manyB L with
  | true =>
    rw [hm] at k2
    refine pcalls_of_pw Tryz.func3 rfl Tryz.ntmps3 Tryz.results3 (by simp) fun B w0 => ?_
    refine pw_seq ?_; refine pw_region ?_; refine yAd rfl ?_; refine yQ ?_; refine pw_seq ?_; refine pw_seq ?_; refine pw_region ?_; refine yMd rfl ?_; refine yR (es := [[_]]) rfl rfl rfl rfl rfl ?_; refine yC (k1) rfl rfl ?_
    refine yMd rfl ?_; refine yMd rfl ?_; refine yC (k2) rfl rfl ?_; refine yVd rfl rfl ?_; refine yQ ?_; refine pw_ct rfl ?_; refine pw_seq ?_; refine pw_region ?_; refine yC (k0) rfl rfl ?_; refine yAd rfl ?_; refine yQ ?_
    refine pw_ret ?_; refine q_then_ret ?_
    exact q_ret _ (.tmp rfl .nil) rfl
  | false =>
  rw [hm] at k2
  obtain ⟨b1, b2⟩ := manyB_small hm
  have ha : ∀ c ∈ e, c.2.length ≤ 400 := fun c hc => by have := (a2 c hc).2; omega
  have hb : ∀ c ∈ L, c.2.length ≤ 400 := fun c hc => by have := (b2 c hc).2; omega
  have k3 := wEval e L (by omega) ha (by omega) hb
  have k4 := wREval e L (by omega) (fun c hc => by have := (a2 c hc).1; omega) ha (by omega) (fun c hc => by have := (b2 c hc).1; omega) hb
  obtain ⟨x, hx⟩ : ∃ x, x = evV e L := ⟨_, rfl⟩
  obtain ⟨i, hi⟩ : ∃ x, x = evE e L := ⟨_, rfl⟩
  rw [← hx, ← hi] at k3 k4
  have t1 : (x == x) = true := by simp
  have t2 : (i == i) = true := by simp
  clear hx hi
  refine pcalls_of_pw Tryz.func3 rfl Tryz.ntmps3 Tryz.results3 (by simp) fun B w0 => ?_
  refine pw_seq ?_; refine pw_region ?_; refine yAd rfl ?_; refine yQ ?_; refine pw_seq ?_; refine pw_seq ?_; refine pw_region ?_; refine yMd rfl ?_; refine yR (es := [[_]]) rfl rfl rfl rfl rfl ?_; refine yC (k1) rfl rfl ?_
  refine yMd rfl ?_; refine yMd rfl ?_; refine yC (k2) rfl rfl ?_; refine yVd rfl rfl ?_; refine yQ ?_; refine pw_cf rfl ?_; refine pw_skip ?_; refine pw_seq ?_; refine pw_region ?_; refine yMd rfl ?_; refine yMd rfl ?_
  refine yC (k3) rfl rfl ?_; refine yMp rfl ?_; refine yX rfl rfl ?_; refine yX rfl rfl ?_; refine yAd rfl ?_; refine yAd rfl ?_; refine yQ ?_; refine pw_seq ?_; refine pw_region ?_; refine yMd rfl ?_; refine yMd rfl ?_
  refine yC (k4) rfl rfl ?_; refine yMp rfl ?_; refine yX rfl rfl ?_; refine yX rfl rfl ?_; refine yAd rfl ?_; refine yAd rfl ?_; refine yQ ?_; refine pw_seq ?_; refine pw_region ?_; refine yMd rfl ?_; refine yMd rfl ?_
  refine yBse rfl rfl ?_; refine yMd rfl ?_; rw [t1]; refine yMd rfl ?_; refine yMd rfl ?_; refine yB rfl rfl rfl rfl ?_; refine yPd rfl rfl ?_; refine yMd rfl ?_; rw [t2]; refine yC (k0) rfl rfl ?_; refine yPd rfl rfl ?_
  refine yAd rfl ?_; refine yQ ?_; refine pw_ret ?_
  exact q_ret _ (.tmp rfl .nil) rfl
end Go.Proofs.YtmfeinilbjfnpaaGreatDoor
