/- Walks: the nearest movement with the same content; a list of breaks that grows. -/
import Derived.Test.YtdkpmnefoobipaaGreatDoorB4
namespace Go.Proofs.YtdkpmnefoobipaaGreatDoor
open Go.RowKit Px

set_option maxRecDepth 20000 in
set_option maxHeartbeats 2000000 in
theorem wByContent1 (days : Int) (m : Mv) (l : List Mv) (tk : List Bool) (hl : l.length ≤ 1000) (ht : l.length ≤ tk.length) (hvm : vD m.2.1 = true) (hvl : ∀ x ∈ l, vD x.2.1 = true) :
    PCalls Tryz.prog 101 [.agg (dM m), .sl 5 (l.map dM), dF Tryz.prog (phF tk), .ref [dI days]] (.d (dI (ixO (cB days m tk l l.length)))) := by
  obtain ⟨a, d, b, q, u⟩ := m
  simp only at hvm
  obtain ⟨r, hr⟩ : ∃ r, r = cB days (a, d, b, q, u) tk l l.length := ⟨_, rfl⟩
  rw [← hr]
  refine pcalls_of_pw Tryz.func101 rfl Tryz.ntmps101 Tryz.results101 (by simp) fun B w0 => ?_
  refine pw_ref 3 rfl ?_
  refine pw_seq (pw_region (yK (cs := [_, _, _, _, _]) rfl rfl (yAd rfl (yQ (pw_seq (pw_region (yAd rfl (yQ (pw_seq ?_))))))))); refine pw_seq (pw_region (yMd rfl (yN rfl (yMd rfl (yQ (pw_block ?_)))))); refine pw_loop (fun i : Nat => ⟨67, [(1, .d (.sl 5 (l.map dM))), (2, .d (dF Tryz.prog (phF tk))), (3, .rd [dI days]), (4, .bx 4 0), (8, .d (dI (ixO (cB days (a, d, b, q, u) tk l i)))), (11, .d (.sl 5 (l.map dM))), (12, .d (dI l.length)), (13, .d (dI i))], [(4, [.d (dS a), .d (dI d), .d (dS b), .d (dS q), .d (dS u)])], []⟩) (fun i => i ≤ l.length) (fun i => l.length - i) 0 (Nat.zero_le _) ⟨rfl, ⟨.refl _, .refl _, .refl _, .refl _, .refl _, .refl _, .of_eq (congrArg (fun n : Nat => SV.d (dI n)) (by simp)), .refl _, trivial⟩, ⟨⟨_, rfl, .refl _, .refl _, .refl _, .refl _, .refl _, trivial⟩, trivial⟩, trivial, rfl⟩ ?_
  intro i hi
  have hnext : ∀ x, l[i]? = some x → cB days (a, d, b, q, u) tk l (i + 1) = if !tkn tk i && sameC days x (a, d, b, q, u) then (match cB days (a, d, b, q, u) tk l i with
        | none => some i
        | some b' => match l[b']? with
          | none => some b'
          | some y => if apt x.2.1 d < apt y.2.1 d then some i else some b') else cB days (a, d, b, q, u) tk l i := fun x hx => by rw [cB, hx]; rfl
  have hlt : ∀ b', cB days (a, d, b, q, u) tk l i = some b' → b' < i ∧ b' < l.length := fun b' hb => cB_lt hb
  have hend : l.length = i → cB days (a, d, b, q, u) tk l i = r := fun e => by rw [hr, e]
  obtain ⟨nx, hnx⟩ : ∃ o, o = cB days (a, d, b, q, u) tk l (i + 1) := ⟨_, rfl⟩
  obtain ⟨o, ho⟩ : ∃ o, o = cB days (a, d, b, q, u) tk l i := ⟨_, rfl⟩
  simp only [← ho, ← hnx] at hnext hlt hend
  rw [← ho]
  refine pw_seq (pw_region (yB rfl rfl rfl rfl (yQ (pw_seq ?_)))); refine pw_cond rfl (fun h => ?_) (fun h => ?_)
  · simp at h
    obtain ⟨⟨x, xd, y, z, v⟩, hx⟩ : ∃ a, l[i]? = some a := ⟨_, List.getElem?_eq_getElem h⟩
    have ei := ix dM l i i (x, xd, y, z, v) rfl hx
    have hw := wrapI ((i : Int) + 1) (by omega)
    have hn := hnext _ hx
    have hvx := hvl _ (List.mem_of_getElem? hx)
    have hsc : sameC days (x, xd, y, z, v) (a, d, b, q, u) = (y == b && (z == q && (v == u && decide (apt xd d ≤ days)))) := rfl
    rw [hsc] at hn
    simp only at hvx
    obtain ⟨f, hf⟩ : ∃ f, f = !tkn tk i := ⟨_, rfl⟩
    have hph : phF tk [dI i] (.d (dB f)) := ⟨i, by omega, rfl, by rw [hf]⟩
    rw [← hf] at hn
    have c1 := wApart (x, xd, y, z, v) (a, d, b, q, u) hvx hvm
    simp only at c1
    cases f with
    | false =>
      have e : nx = o := by rw [hn, if_neg (by simp)]
      refine pw_skip (pw_seq (pw_block (pw_seq (pw_region (yMd rfl (yW ei (by omega) rfl rfl (yLs (ys := [_, _, _, _, _]) rfl rfl rfl (yZ (cs := [_, _, _, _, _]) rfl rfl (yAd rfl ?_))))))))); refine yS (cs' := [_, _, _, _, _]) rfl rfl rfl rfl rfl (yQ (pw_seq (pw_seq ?_))); refine pw_draw Tryz.mixed (by kernel_rfl) ?_
      refine yMd rfl (yMd rfl (yCv hph rfl rfl rfl (yU rfl rfl rfl (yMd rfl (yO rfl (yO rfl (yO rfl (yO rfl (yO rfl ?_))))))))); refine yPd rfl rfl (yMd rfl (yO rfl (yO rfl (yO rfl (yO rfl (yO rfl (yPd rfl rfl (yMd rfl (yO rfl ?_))))))))); refine yO rfl (yO rfl (yO rfl (yO rfl (yPd rfl rfl (yMd rfl (yO rfl (yO rfl (yO rfl (yO rfl ?_))))))))); refine yO rfl (yPd rfl rfl (yQ (pw_ct rfl (pw_exit (pw_region (yB rfl rfl rfl rfl (yMd rfl (yQ (q_then ?_)))))))))
      refine ⟨i + 1, by omega, by omega, rfl, ⟨.refl _, .refl _, .refl _, .refl _, .of_eq (by rw [← hnx, e]; rfl), .refl _, .refl _, .of_eq (congrArg (fun n => SV.d (dI n)) hw), trivial⟩, ⟨⟨_, rfl, .refl _, .refl _, .refl _, .refl _, .refl _, trivial⟩, trivial⟩, trivial, rfl⟩
    | true =>
    cases t1 : (y == b) with
    | false =>
      have e : nx = o := by rw [hn, t1, if_neg (by simp)]
      refine pw_skip (pw_seq (pw_block (pw_seq (pw_region (yMd rfl (yW ei (by omega) rfl rfl (yLs (ys := [_, _, _, _, _]) rfl rfl rfl (yZ (cs := [_, _, _, _, _]) rfl rfl (yAd rfl ?_))))))))); refine yS (cs' := [_, _, _, _, _]) rfl rfl rfl rfl rfl (yQ (pw_seq (pw_seq ?_))); refine pw_draw Tryz.mixed (by kernel_rfl) ?_
      refine yMd rfl (yMd rfl (yCv hph rfl rfl rfl (yU rfl rfl rfl (yMd rfl (yFb rfl (yLd rfl rfl rfl (yFb rfl (yLd rfl rfl rfl (yBsn rfl rfl ?_))))))))); refine yVd rfl rfl (yMd rfl ?_); rw [t1]; refine yO rfl (yO rfl (yO rfl (yO rfl (yO rfl (yPd rfl rfl (yMd rfl (yO rfl (yO rfl (yO rfl ?_))))))))); refine yO rfl (yO rfl (yPd rfl rfl (yMd rfl (yO rfl (yO rfl (yO rfl (yO rfl (yO rfl (yPd rfl rfl ?_))))))))); refine yQ (pw_ct rfl (pw_exit (pw_region (yB rfl rfl rfl rfl (yMd rfl (yQ (q_then ?_)))))))
      refine ⟨i + 1, by omega, by omega, rfl, ⟨.refl _, .refl _, .refl _, .refl _, .of_eq (by rw [← hnx, e]; rfl), .refl _, .refl _, .of_eq (congrArg (fun n => SV.d (dI n)) hw), trivial⟩, ⟨⟨_, rfl, .refl _, .refl _, .refl _, .refl _, .refl _, trivial⟩, trivial⟩, trivial, rfl⟩
    | true =>
    cases t2 : (z == q) with
    | false =>
      have e : nx = o := by rw [hn, t1, t2, if_neg (by simp)]
      refine pw_skip (pw_seq (pw_block (pw_seq (pw_region (yMd rfl (yW ei (by omega) rfl rfl (yLs (ys := [_, _, _, _, _]) rfl rfl rfl (yZ (cs := [_, _, _, _, _]) rfl rfl (yAd rfl ?_))))))))); refine yS (cs' := [_, _, _, _, _]) rfl rfl rfl rfl rfl (yQ (pw_seq (pw_seq ?_))); refine pw_draw Tryz.mixed (by kernel_rfl) ?_
      refine yMd rfl (yMd rfl (yCv hph rfl rfl rfl (yU rfl rfl rfl (yMd rfl (yFb rfl (yLd rfl rfl rfl (yFb rfl (yLd rfl rfl rfl (yBsn rfl rfl ?_))))))))); refine yVd rfl rfl (yMd rfl ?_); rw [t1]; refine yFb rfl (yLd rfl rfl rfl (yFb rfl (yLd rfl rfl rfl (yBsn rfl rfl (yVd rfl rfl (yMd rfl ?_)))))); rw [t2]
      refine yO rfl (yO rfl (yO rfl (yO rfl (yO rfl (yPd rfl rfl (yMd rfl (yO rfl (yO rfl (yO rfl ?_))))))))); refine yO rfl (yO rfl (yPd rfl rfl (yQ (pw_ct rfl (pw_exit (pw_region (yB rfl rfl rfl rfl (yMd rfl (yQ ?_))))))))); refine q_then ?_
      refine ⟨i + 1, by omega, by omega, rfl, ⟨.refl _, .refl _, .refl _, .refl _, .of_eq (by rw [← hnx, e]; rfl), .refl _, .refl _, .of_eq (congrArg (fun n => SV.d (dI n)) hw), trivial⟩, ⟨⟨_, rfl, .refl _, .refl _, .refl _, .refl _, .refl _, trivial⟩, trivial⟩, trivial, rfl⟩
    | true =>
    cases t3 : (v == u) with
    | false =>
      have e : nx = o := by rw [hn, t1, t2, t3, if_neg (by simp)]
      refine pw_skip (pw_seq (pw_block (pw_seq (pw_region (yMd rfl (yW ei (by omega) rfl rfl (yLs (ys := [_, _, _, _, _]) rfl rfl rfl (yZ (cs := [_, _, _, _, _]) rfl rfl (yAd rfl ?_))))))))); refine yS (cs' := [_, _, _, _, _]) rfl rfl rfl rfl rfl (yQ (pw_seq (pw_seq ?_))); refine pw_draw Tryz.mixed (by kernel_rfl) ?_
      refine yMd rfl (yMd rfl (yCv hph rfl rfl rfl (yU rfl rfl rfl (yMd rfl (yFb rfl (yLd rfl rfl rfl (yFb rfl (yLd rfl rfl rfl (yBsn rfl rfl ?_))))))))); refine yVd rfl rfl (yMd rfl ?_); rw [t1]; refine yFb rfl (yLd rfl rfl rfl (yFb rfl (yLd rfl rfl rfl (yBsn rfl rfl (yVd rfl rfl (yMd rfl ?_)))))); rw [t2]
      refine yFb rfl (yLd rfl rfl rfl (yFb rfl (yLd rfl rfl rfl (yBsn rfl rfl (yVd rfl rfl (yMd rfl ?_)))))); rw [t3]; refine yO rfl (yO rfl (yO rfl (yO rfl (yO rfl (yPd rfl rfl (yQ (pw_ct rfl (pw_exit (pw_region ?_))))))))); refine yB rfl rfl rfl rfl (yMd rfl (yQ (q_then ?_)))
      refine ⟨i + 1, by omega, by omega, rfl, ⟨.refl _, .refl _, .refl _, .refl _, .of_eq (by rw [← hnx, e]; rfl), .refl _, .refl _, .of_eq (congrArg (fun n => SV.d (dI n)) hw), trivial⟩, ⟨⟨_, rfl, .refl _, .refl _, .refl _, .refl _, .refl _, trivial⟩, trivial⟩, trivial, rfl⟩
    | true =>
    obtain ⟨p, hp⟩ : ∃ p, p = apt xd d := ⟨_, rfl⟩
    rw [← hp] at c1 hn
    by_cases h4 : p ≤ days
    rotate_left
    · have t4 : decide (p > days) = true := decide_eq_true (by omega)
      have e : nx = o := by rw [hn, t1, t2, t3, decide_eq_false h4, if_neg (by simp)]
      refine pw_skip (pw_seq (pw_block (pw_seq (pw_region (yMd rfl (yW ei (by omega) rfl rfl (yLs (ys := [_, _, _, _, _]) rfl rfl rfl (yZ (cs := [_, _, _, _, _]) rfl rfl (yAd rfl ?_))))))))); refine yS (cs' := [_, _, _, _, _]) rfl rfl rfl rfl rfl (yQ (pw_seq (pw_seq ?_))); refine pw_draw Tryz.mixed (by kernel_rfl) ?_
      refine yMd rfl (yMd rfl (yCv hph rfl rfl rfl (yU rfl rfl rfl (yMd rfl (yFb rfl (yLd rfl rfl rfl (yFb rfl (yLd rfl rfl rfl (yBsn rfl rfl ?_))))))))); refine yVd rfl rfl (yMd rfl ?_); rw [t1]; refine yFb rfl (yLd rfl rfl rfl (yFb rfl (yLd rfl rfl rfl (yBsn rfl rfl (yVd rfl rfl (yMd rfl ?_)))))); rw [t2]
      refine yFb rfl (yLd rfl rfl rfl (yFb rfl (yLd rfl rfl rfl (yBsn rfl rfl (yVd rfl rfl (yMd rfl ?_)))))); rw [t3]; refine yLa (ys := [_, _, _, _, _]) rfl rfl rfl rfl (yLa (ys := [_, _, _, _, _]) rfl rfl rfl rfl (yC (c1) rfl rfl (yLr rfl rfl (yB rfl rfl rfl rfl (yVd rfl rfl (yQ (q_then ?_))))))); rw [t4]; refine pw_ct rfl (pw_exit (pw_region (yB rfl rfl rfl rfl (yMd rfl (yQ (q_then ?_))))))
      refine ⟨i + 1, by omega, by omega, rfl, ⟨.refl _, .refl _, .refl _, .refl _, .of_eq (by rw [← hnx, e]; rfl), .refl _, .refl _, .of_eq (congrArg (fun n => SV.d (dI n)) hw), trivial⟩, ⟨⟨_, rfl, .refl _, .refl _, .refl _, .refl _, .refl _, trivial⟩, trivial⟩, trivial, rfl⟩
    have t4 : decide (p > days) = false := decide_eq_false (by omega)
    rw [t1, t2, t3, decide_eq_true h4, if_pos (by simp)] at hn
    cases o with
    | none =>
      have e : nx = some i := hn
      refine pw_skip (pw_seq (pw_block (pw_seq (pw_region (yMd rfl (yW ei (by omega) rfl rfl (yLs (ys := [_, _, _, _, _]) rfl rfl rfl (yZ (cs := [_, _, _, _, _]) rfl rfl (yAd rfl ?_))))))))); refine yS (cs' := [_, _, _, _, _]) rfl rfl rfl rfl rfl (yQ (pw_seq (pw_seq ?_))); refine pw_draw Tryz.mixed (by kernel_rfl) ?_
      refine yMd rfl (yMd rfl (yCv hph rfl rfl rfl (yU rfl rfl rfl (yMd rfl (yFb rfl (yLd rfl rfl rfl (yFb rfl (yLd rfl rfl rfl (yBsn rfl rfl ?_))))))))); refine yVd rfl rfl (yMd rfl ?_); rw [t1]; refine yFb rfl (yLd rfl rfl rfl (yFb rfl (yLd rfl rfl rfl (yBsn rfl rfl (yVd rfl rfl (yMd rfl ?_)))))); rw [t2]
      refine yFb rfl (yLd rfl rfl rfl (yFb rfl (yLd rfl rfl rfl (yBsn rfl rfl (yVd rfl rfl (yMd rfl ?_)))))); rw [t3]; refine yLa (ys := [_, _, _, _, _]) rfl rfl rfl rfl (yLa (ys := [_, _, _, _, _]) rfl rfl rfl rfl (yC (c1) rfl rfl (yLr rfl rfl (yB rfl rfl rfl rfl (yVd rfl rfl (yQ (q_then ?_))))))); rw [t4]; refine pw_cf rfl (pw_skip (pw_seq ?_)); refine pw_draw Tryz.mixed (by kernel_rfl) ?_; refine yMd rfl (yB rfl rfl rfl rfl (yMd rfl (yO rfl (yO rfl (yO rfl (yO rfl (yO rfl (yO rfl (yO rfl ?_))))))))); refine yO rfl (yO rfl (yO rfl (yPd rfl rfl (yQ (pw_ct rfl (pw_region (yMd rfl (yAd rfl (yQ ?_))))))))); refine pw_region (yB rfl rfl rfl rfl (yMd rfl (yQ (q_then ?_))))
      refine ⟨i + 1, by omega, by omega, rfl, ⟨.refl _, .refl _, .refl _, .refl _, .of_eq (by rw [← hnx, e]; rfl), .refl _, .refl _, .of_eq (congrArg (fun n => SV.d (dI n)) hw), trivial⟩, ⟨⟨_, rfl, .refl _, .refl _, .refl _, .refl _, .refl _, trivial⟩, trivial⟩, trivial, rfl⟩
    | some c =>
      obtain ⟨hc1, hc2⟩ := hlt c rfl
      obtain ⟨⟨x2, xd2, y2, z2, v2⟩, hx2⟩ : ∃ a, l[c]? = some a := ⟨_, List.getElem?_eq_getElem hc2⟩
      have e2 := ix dM l c c (x2, xd2, y2, z2, v2) rfl hx2
      have hvx2 := hvl _ (List.mem_of_getElem? hx2)
      have c2 := wApart (x2, xd2, y2, z2, v2) (a, d, b, q, u) hvx2 hvm
      simp only [hx2] at hn c2
      obtain ⟨p2, hp2⟩ : ∃ p, p = apt xd2 d := ⟨_, rfl⟩
      rw [← hp2] at c2 hn
      have t5 : decide (ixO (some c) < 0) = false := decide_eq_false (by show ¬ ((c : Int) < 0); omega)
      have h0c : (0 : Int) ≤ ixO (some c) := by show (0 : Int) ≤ c; omega
      have e2' : (l.map dM)[(ixO (some c)).toNat]? = some (dM (x2, xd2, y2, z2, v2)) := e2
      by_cases h6 : p < p2
      · have t6 : decide (p < p2) = true := decide_eq_true h6
        have e : nx = some i := by rw [hn, if_pos h6]
        refine pw_skip (pw_seq (pw_block (pw_seq (pw_region (yMd rfl (yW ei (by omega) rfl rfl (yLs (ys := [_, _, _, _, _]) rfl rfl rfl (yZ (cs := [_, _, _, _, _]) rfl rfl (yAd rfl ?_))))))))); refine yS (cs' := [_, _, _, _, _]) rfl rfl rfl rfl rfl (yQ (pw_seq (pw_seq ?_))); refine pw_draw Tryz.mixed (by kernel_rfl) ?_
        refine yMd rfl (yMd rfl (yCv hph rfl rfl rfl (yU rfl rfl rfl (yMd rfl (yFb rfl (yLd rfl rfl rfl (yFb rfl (yLd rfl rfl rfl (yBsn rfl rfl ?_))))))))); refine yVd rfl rfl (yMd rfl ?_); rw [t1]; refine yFb rfl (yLd rfl rfl rfl (yFb rfl (yLd rfl rfl rfl (yBsn rfl rfl (yVd rfl rfl (yMd rfl ?_)))))); rw [t2]
        refine yFb rfl (yLd rfl rfl rfl (yFb rfl (yLd rfl rfl rfl (yBsn rfl rfl (yVd rfl rfl (yMd rfl ?_)))))); rw [t3]; refine yLa (ys := [_, _, _, _, _]) rfl rfl rfl rfl (yLa (ys := [_, _, _, _, _]) rfl rfl rfl rfl (yC (c1) rfl rfl (yLr rfl rfl (yB rfl rfl rfl rfl (yVd rfl rfl (yQ (q_then ?_))))))); rw [t4]; refine pw_cf rfl (pw_skip (pw_seq ?_)); refine pw_draw Tryz.mixed (by kernel_rfl) ?_; refine yMd rfl (yB rfl rfl rfl rfl (yMd rfl (yLa (ys := [_, _, _, _, _]) rfl rfl rfl rfl (yLa (ys := [_, _, _, _, _]) rfl rfl rfl rfl (yC (c1) rfl rfl (yMd rfl (yMd rfl (yW e2' h0c rfl rfl (yLs (ys := [_, _, _, _, _]) rfl rfl rfl ?_))))))))); refine yLa (ys := [_, _, _, _, _]) rfl rfl rfl rfl (yC c2 rfl rfl (yB rfl rfl rfl rfl (yVd rfl rfl (yQ (q_then ?_))))); rw [t5]; rw [t6]; refine pw_ct rfl (pw_region (yMd rfl (yAd rfl (yQ (pw_region (yB rfl rfl rfl rfl (yMd rfl (yQ (q_then ?_)))))))))
        refine ⟨i + 1, by omega, by omega, rfl, ⟨.refl _, .refl _, .refl _, .refl _, .of_eq (by rw [← hnx, e]; rfl), .refl _, .refl _, .of_eq (congrArg (fun n => SV.d (dI n)) hw), trivial⟩, ⟨⟨_, rfl, .refl _, .refl _, .refl _, .refl _, .refl _, trivial⟩, trivial⟩, trivial, rfl⟩
      · have t6 : decide (p < p2) = false := decide_eq_false h6
        have e : nx = some c := by rw [hn, if_neg h6]
        refine pw_skip (pw_seq (pw_block (pw_seq (pw_region (yMd rfl (yW ei (by omega) rfl rfl (yLs (ys := [_, _, _, _, _]) rfl rfl rfl (yZ (cs := [_, _, _, _, _]) rfl rfl (yAd rfl ?_))))))))); refine yS (cs' := [_, _, _, _, _]) rfl rfl rfl rfl rfl (yQ (pw_seq (pw_seq ?_))); refine pw_draw Tryz.mixed (by kernel_rfl) ?_
        refine yMd rfl (yMd rfl (yCv hph rfl rfl rfl (yU rfl rfl rfl (yMd rfl (yFb rfl (yLd rfl rfl rfl (yFb rfl (yLd rfl rfl rfl (yBsn rfl rfl ?_))))))))); refine yVd rfl rfl (yMd rfl ?_); rw [t1]; refine yFb rfl (yLd rfl rfl rfl (yFb rfl (yLd rfl rfl rfl (yBsn rfl rfl (yVd rfl rfl (yMd rfl ?_)))))); rw [t2]
        refine yFb rfl (yLd rfl rfl rfl (yFb rfl (yLd rfl rfl rfl (yBsn rfl rfl (yVd rfl rfl (yMd rfl ?_)))))); rw [t3]; refine yLa (ys := [_, _, _, _, _]) rfl rfl rfl rfl (yLa (ys := [_, _, _, _, _]) rfl rfl rfl rfl (yC (c1) rfl rfl (yLr rfl rfl (yB rfl rfl rfl rfl (yVd rfl rfl (yQ (q_then ?_))))))); rw [t4]; refine pw_cf rfl (pw_skip (pw_seq ?_)); refine pw_draw Tryz.mixed (by kernel_rfl) ?_; refine yMd rfl (yB rfl rfl rfl rfl (yMd rfl (yLa (ys := [_, _, _, _, _]) rfl rfl rfl rfl (yLa (ys := [_, _, _, _, _]) rfl rfl rfl rfl (yC (c1) rfl rfl (yMd rfl (yMd rfl (yW e2' h0c rfl rfl (yLs (ys := [_, _, _, _, _]) rfl rfl rfl ?_))))))))); refine yLa (ys := [_, _, _, _, _]) rfl rfl rfl rfl (yC c2 rfl rfl (yB rfl rfl rfl rfl (yVd rfl rfl (yQ (q_then ?_))))); rw [t5]; rw [t6]; refine pw_cf rfl (pw_skip (pw_region (yB rfl rfl rfl rfl (yMd rfl (yQ (q_then ?_))))))
        refine ⟨i + 1, by omega, by omega, rfl, ⟨.refl _, .refl _, .refl _, .refl _, .of_eq (by rw [← hnx, e]; rfl), .refl _, .refl _, .of_eq (congrArg (fun n => SV.d (dI n)) hw), trivial⟩, ⟨⟨_, rfl, .refl _, .refl _, .refl _, .refl _, .refl _, trivial⟩, trivial⟩, trivial, rfl⟩
  · simp at h
    have e : o = r := hend (by omega)
    subst e
    refine pw_exit (pw_seq (pw_region (yMd rfl (yAd rfl (yQ (pw_ret ?_))))))
    exact q_ret _ (.tmp rfl .nil) rfl

def phR (xs : List DV) (r : SV) : Prop := ∃ m l tk, l.length ≤ 1000 ∧ l.length ≤ tk.length ∧ xs = [.agg (dM m), .sl 5 (l.map dM), dF Tryz.prog (phF tk)] ∧ r = .d (dI (ixO (byR l m tk)))
def phC (days : Int) (xs : List DV) (r : SV) : Prop := ∃ m l tk, l.length ≤ 1000 ∧ l.length ≤ tk.length ∧ vD m.2.1 = true ∧ (∀ x ∈ l, vD x.2.1 = true) ∧ xs = [.agg (dM m), .sl 5 (l.map dM), dF Tryz.prog (phF tk)] ∧ r = .d (dI (ixO (byC days l m tk)))
theorem wPhR : ∀ xs r, phR xs r → PCalls Tryz.prog 70 xs r := by
  rintro xs r ⟨m, l, tk, h1, h2, rfl, rfl⟩
  exact wByRef m l tk h1 h2
theorem wPhC (days : Int) : ∀ xs r, phC days xs r → PCalls Tryz.prog 101 (xs ++ [.ref [dI days]]) r := by
  rintro xs r ⟨m, l, tk, h1, h2, h3, h4, rfl, rfl⟩
  exact wByContent1 days m l tk h1 h2 h3 h4
set_option maxRecDepth 20000 in
theorem wByContent (days : Int) : PCalls Tryz.prog 71 [dI days] (.d (dF Tryz.prog (phC days))) := by
  refine pcalls_of_pw Tryz.func71 rfl Tryz.ntmps71 Tryz.results71 (by simp) fun B w0 => ?_
  refine pw_seq (pw_region (yK (cs := [_]) rfl rfl (yAd rfl (yQ (pw_seq (pw_region (yCm rfl (yAf rfl (yQ ?_))))))))); refine pw_fn1 2 1 (phC days) (wPhC days) rfl rfl rfl ?_; refine pw_ret ?_
  exact q_ret _ (.tmp rfl .nil) rfl

abbrev Br := Int × Str × Str × Str
abbrev dBr (x : Br) : List DV := [dI x.1, dS x.2.1, dS x.2.2.1, dS x.2.2.2]
set_option maxRecDepth 20000 in
set_option maxHeartbeats 1000000 in
theorem wAdd10 (l : List Br) (x : Br) (hl : l.length ≤ 100000) : PCx Tryz.prog 44 [.bx 10 0, .d (dI x.1), .d (dS x.2.1), .d (dS x.2.2.1), .d (dS x.2.2.2)] [(10, [.ts (41 * 100000 + 10) 4 (l.map dBr)])] [(41 * 100000 + 10, (l.map dBr).length)] (.tup []) [(10, [.ts (41 * 100000 + 10) 4 ((l ++ [x]).map dBr)])] [(41 * 100000 + 10, ((l ++ [x]).map dBr).length)] := by
  obtain ⟨c, n, o, t⟩ := x
  refine pcx_of_pw Tryz.func44 rfl Tryz.ntmps44 Tryz.results44 (by simp) fun B w0 => ?_
  refine pw_region (yMb rfl (yMb rfl (yNil rfl (yFb rfl (yLt rfl rfl rfl (yMd rfl (yMd rfl (yMd rfl (yMd rfl ?_))))))))); refine yG (ys := [_, _, _, _]) rfl rfl (yR (es := [[_, _, _, _]]) rfl rfl rfl rfl rfl (yT (es' := (l ++ [(c, n, o, t)]).map dBr) (m := ((l ++ [(c, n, o, t)]).map dBr).length) (by simp; omega) (by simp; omega) rfl rfl rfl rfl rfl (by simp) (by simp) (yNil rfl (yFb rfl (ySt (cs' := [_]) rfl rfl rfl rfl (yQ ?_))))))
  exact q_x [] .nil rfl ⟨rfl, trivial⟩ ⟨rfl, trivial⟩
set_option maxRecDepth 20000 in
set_option maxHeartbeats 1000000 in
theorem wAdd9 (l : List Br) (x : Br) (hl : l.length ≤ 100000) : PCx Tryz.prog 44 [.bx 9 0, .d (dI x.1), .d (dS x.2.1), .d (dS x.2.2.1), .d (dS x.2.2.2)] [(9, [.ts (41 * 100000 + 9) 4 (l.map dBr)])] [(41 * 100000 + 9, (l.map dBr).length)] (.tup []) [(9, [.ts (41 * 100000 + 9) 4 ((l ++ [x]).map dBr)])] [(41 * 100000 + 9, ((l ++ [x]).map dBr).length)] := by
  obtain ⟨c, n, o, t⟩ := x
  refine pcx_of_pw Tryz.func44 rfl Tryz.ntmps44 Tryz.results44 (by simp) fun B w0 => ?_
  refine pw_region (yMb rfl (yMb rfl (yNil rfl (yFb rfl (yLt rfl rfl rfl (yMd rfl (yMd rfl (yMd rfl (yMd rfl ?_))))))))); refine yG (ys := [_, _, _, _]) rfl rfl (yR (es := [[_, _, _, _]]) rfl rfl rfl rfl rfl (yT (es' := (l ++ [(c, n, o, t)]).map dBr) (m := ((l ++ [(c, n, o, t)]).map dBr).length) (by simp; omega) (by simp; omega) rfl rfl rfl rfl rfl (by simp) (by simp) (yNil rfl (yFb rfl (ySt (cs' := [_]) rfl rfl rfl rfl (yQ ?_))))))
  exact q_x [] .nil rfl ⟨rfl, trivial⟩ ⟨rfl, trivial⟩
end Go.Proofs.YtdkpmnefoobipaaGreatDoor
namespace Go.Proofs.YtdkpmnefoobipaaGreatDoor
open Go.RowKit Px

abbrev pc (l : List (Option Nat)) : List SV := l.map fun o => SV.d (dI (ixO o))
abbrev tc (l : List Bool) : List SV := l.map fun b => SV.d (dB b)
abbrev zc (l : List Int) : List SV := l.map fun z => SV.d (dI z)
theorem lesC_eq {l l' : List SV} (h : l = l') : lesC l l' := h ▸ lesC_refl l
theorem toDs_map {α : Type} (f : α → DV) (l : List α) : toDs (l.map fun a => SV.d (f a)) = some (l.map f) := by
  induction l with
  | nil => rfl
  | cons x l ih => simp [toDs, toD, ih]
theorem kill_map {α : Type} (i : Nat) (f : α → DV) (l : List α) : (l.map fun a => SV.d (f a)).map (SV.kill i) = l.map fun a => SV.d (f a) := by
  rw [List.map_map]; rfl
theorem chunk_one {α : Type} (f : α → DV) (l : List α) : chunk 1 l.length (l.map f) = l.map fun a => [f a] := by
  induction l with
  | nil => rfl
  | cons x l ih => simp [chunk, ih]
def ini (n i : Nat) : List Int := List.replicate i (-1) ++ List.replicate (n - i) 0
theorem ini_set {n i : Nat} (h : i < n) : (zc (ini n i)).set ((i : Int).toNat * 1) (.d (.val (.int .i64 (-1)))) = zc (ini n (i + 1)) := by
  unfold zc ini
  have e : List.replicate (n - i) (0 : Int) = 0 :: List.replicate (n - (i + 1)) 0 := by
    rw [show n - i = (n - (i + 1)) + 1 by omega]; rfl
  rw [e, Int.toNat_natCast, Nat.mul_one, List.map_append, List.map_replicate, List.map_cons, List.set_append_right _ _ (by simp)]
  simp [List.replicate_succ', List.append_assoc]
theorem pc_at {l : List (Option Nat)} {i : Nat} (h : i < l.length) : (pc l)[(i : Int).toNat * 1]? = some (.d (dI (ixO (l[i]?.getD none)))) := by
  rw [Int.toNat_natCast, Nat.mul_one, List.getElem?_map, List.getElem?_eq_getElem h]; rfl
theorem pc_set (l : List (Option Nat)) (i k : Nat) : (pc l).set ((i : Int).toNat * 1) (.d (.val (.int .i64 (ixO (some k))))) = pc (l.set i (some k)) := by
  rw [Int.toNat_natCast, Nat.mul_one]; simp [pc]
theorem tc_set (l : List Bool) (k : Nat) : (tc l).set ((ixO (some k)).toNat * 1) (.d (.val (.bool true))) = tc (l.set k true) := by
  show (tc l).set ((k : Int).toNat * 1) _ = _
  rw [Int.toNat_natCast, Nat.mul_one]; simp [tc]
def ptS (days : Int) (ms ts : List Mv) : Nat → PT
  | 0 => pt0 ms ts
  | 1 => pt1 ms ts
  | _ => pt2 days ms ts

set_option maxRecDepth 20000 in
set_option maxHeartbeats 4000000 in
theorem wPair (s t : Stm) (days : Int) (hms : s.ms.length ≤ 1000) (hts : t.ms.length ≤ 1000) (hv1 : ∀ m ∈ s.ms, vD m.2.1 = true) (hv2 : ∀ m ∈ t.ms, vD m.2.1 = true) :
    PCalls Tryz.prog 41 [.agg (dSt s), .agg (dSt t), dI days] (.tup [dIs ((pt2 days s.ms t.ms).1.map ixO), .sl 1 ((pt2 days s.ms t.ms).2.map dBl)]) := by
  obtain ⟨d1, hs1, ms⟩ := s
  obtain ⟨d2, hs2, ts⟩ := t
  simp only at hms hts hv1 hv2 ⊢
  have c1 := wByContent days
  have hm0 : ((ms.map dM).length : Int) = (ms.length : Int) := by simp
  have ht0 : ((ts.map dM).length : Int) = (ts.length : Int) := by simp
  refine pcalls_of_pw Tryz.func41 rfl Tryz.ntmps41 Tryz.results41 (by simp) fun B w0 => ?_
  refine pw_seq (pw_region (yK (cs := [_, _, _]) rfl rfl (yK (cs := [_, _, _]) rfl rfl (yAd rfl (yAd rfl (yQ (pw_seq ?_))))))); refine pw_draw Tryz.mixed (by kernel_rfl) ?_; refine yFb rfl (yLd rfl rfl rfl (yN rfl (yMk (by omega) (Int.le_refl _) (by simp; omega) (by simp; omega) rfl rfl rfl (yFb rfl (yLd rfl rfl rfl (yN rfl (yMk (by omega) (Int.le_refl _) (by simp; omega) (by simp; omega) rfl rfl rfl (yZ (cs := [_]) rfl rfl (yAw rfl ?_))))))))); refine ySw (cs' := [_]) rfl rfl rfl rfl (yQ (pw_seq (pw_seq (pw_region (yMw rfl (yNb rfl (yMd rfl (yQ (pw_block ?_))))))))); refine pw_loop (fun i : Nat => ⟨75, [(2, .d (dI days)), (3, .bx 3 0), (4, .bx 4 0), (8, .bs 21 ms.length 3 1), (9, .bx 9 0), (27, .d (dI ms.length)), (28, .d (dI i))], [(3, [.d (dI d1), .d (.sl 2 (hs1.map dH)), .d (.sl 5 (ms.map dM))]), (4, [.d (dI d2), .d (.sl 2 (hs2.map dH)), .d (.sl 5 (ts.map dM))]), (9, [.bs 25 ts.length 4 1]), (21, zc (ini ms.length i)), (25, tc (List.replicate ts.length false))], []⟩) (fun i => i ≤ ms.length) (fun i => ms.length - i) 0 (Nat.zero_le _)
    ⟨rfl, ⟨.refl _, .refl _, .refl _, .of_eq (congrArg (fun n => SV.bs 21 n 3 1) (by simp)), .refl _, .of_eq (congrArg (fun n : Nat => SV.d (dI n)) (by simp)), .refl _, trivial⟩, ⟨⟨_, rfl, .refl _, .refl _, .refl _, trivial⟩, ⟨_, rfl, .refl _, .refl _, .refl _, trivial⟩, ⟨_, rfl, .of_eq (congrArg (fun n => SV.bs 25 n 4 1) (by simp)), trivial⟩, ⟨_, rfl, lesC_eq (by simp [zc, ini])⟩, ⟨_, rfl, lesC_eq (by simp [tc])⟩, trivial⟩, trivial, by simp [PS.closed, SV.ok, aget, Nat.beq]⟩ ?_
  intro i hi
  refine pw_seq (pw_region (yB rfl rfl rfl rfl (yQ (pw_seq ?_)))); refine pw_cond rfl (fun h => ?_) (fun h => ?_)
  · simp at h
    have hw := wrapI ((i : Int) + 1) (by omega)
    have hset := ini_set h
    refine pw_skip (pw_seq (pw_block (pw_seq (pw_region (yMd rfl (yAd rfl (yQ (pw_region (yMw rfl ?_))))))))); refine yMd rfl (yWb (by omega) (by omega) rfl rfl rfl ?_); refine ySd rfl rfl rfl hset ?_ (by show Nat.ble _ _ = true; simp [ini]; omega); refine yQ (pw_region (yB rfl rfl rfl rfl (yMd rfl (yQ (q_then ?_)))))
    refine ⟨i + 1, by omega, by omega, rfl, ⟨.refl _, .refl _, .refl _, .refl _, .refl _, .refl _, .of_eq (congrArg (fun n => SV.d (dI n)) hw), trivial⟩, ⟨⟨_, rfl, .refl _, .refl _, .refl _, trivial⟩, ⟨_, rfl, .refl _, .refl _, .refl _, trivial⟩, ⟨_, rfl, .refl _, trivial⟩, ⟨_, rfl, lesC_refl _⟩, ⟨_, rfl, lesC_refl _⟩, trivial⟩, trivial, by simp [PS.closed, SV.ok, aget, Nat.beq]⟩
  simp at h
  obtain rfl : i = ms.length := by omega
  refine pw_exit (pw_seq (pw_region (yCm rfl (yAf rfl (yQ (pw_seq (pw_region (yMd rfl (yC (c1) rfl rfl ?_))))))))); refine yGf (qs := [(0, [dF Tryz.prog phR]), (1, [dF Tryz.prog (phC days)])]) (.fn inferInstance wPhR rfl (.d rfl .nil)) rfl ?_; refine yZ (cs := [_, _]) rfl rfl (yS (cs' := [_, _]) rfl rfl rfl rfl rfl (yQ (pw_seq (pw_seq (pw_region (yLa (ys := [_, _]) rfl rfl rfl rfl (yMd rfl (yQ (pw_block ?_))))))))); refine pw_loop (fun r : Nat => ⟨75, [(3, .bx 3 0), (4, .bx 4 0), (8, .bs 21 ms.length 3 1), (9, .bx 9 0), (11, .fn 69 [9]), (39, .d (.agg [dF Tryz.prog phR, dF Tryz.prog (phC days)])), (40, .d (dI r))], [(3, [.d (dI d1), .d (.sl 2 (hs1.map dH)), .d (.sl 5 (ms.map dM))]), (4, [.d (dI d2), .d (.sl 2 (hs2.map dH)), .d (.sl 5 (ts.map dM))]), (9, [.bs 25 ts.length 4 1]), (21, pc (ptS days ms ts r).1), (25, tc (ptS days ms ts r).2)], []⟩) (fun r => r ≤ 2) (fun r => 2 - r) 0 (by omega)
    ⟨rfl, ⟨.refl _, .refl _, .refl _, .refl _, .refl _, .refl _, .refl _, trivial⟩, ⟨⟨_, rfl, .refl _, .refl _, .refl _, trivial⟩, ⟨_, rfl, .refl _, .refl _, .refl _, trivial⟩, ⟨_, rfl, .refl _, trivial⟩, ⟨_, rfl, lesC_eq (by simp [zc, ini, pc, ptS, pt0, ixO])⟩, ⟨_, rfl, lesC_eq (by simp [tc, ptS, pt0])⟩, trivial⟩, trivial, by simp [PS.closed, SV.ok, aget, Nat.beq]⟩ ?_
  intro r hr
  refine pw_seq (pw_region (yB rfl rfl rfl rfl (yQ (pw_seq ?_)))); refine pw_cond rfl (fun h => ?_) (fun h => ?_)
  · simp at h
    have hwr := wrapI ((r : Int) + 1) (by omega)
    obtain ⟨φ, f, s0, k1, k2, k3, k4, k5⟩ : ∃ (φ : List DV → SV → Prop) (f : Mv → List Bool → Option Nat) (s0 : PT), [dF Tryz.prog phR, dF Tryz.prog (phC days)][(r : Int).toNat]? = some (dF Tryz.prog φ) ∧ ptS days ms ts r = s0 ∧ ptS days ms ts (r + 1) = rnd f ms s0 ms.length ∧ (s0.1.length = ms.length ∧ s0.2.length = ts.length) ∧
        ((∀ m tk k, f m tk = some k → k < ts.length) ∧ ∀ m tk, vD m.2.1 = true → tk.length = ts.length → φ [.agg (dM m), .sl 5 (ts.map dM), dF Tryz.prog (phF tk)] (.d (dI (ixO (f m tk))))) := by
      have hr2 : r = 0 ∨ r = 1 := by omega
      rcases hr2 with rfl | rfl
      · refine ⟨phR, byR ts, pt0 ms ts, rfl, rfl, rfl, by simp [pt0], fun m tk k hk => ?_, fun m tk _ hl => ⟨m, ts, tk, hts, by omega, rfl, rfl⟩⟩
        have := fRf_lt hk
        omega
      · refine ⟨phC days, byC days ts, pt1 ms ts, rfl, rfl, rfl, pt1_len ms ts, fun m tk k hk => (cB_lt hk).2, fun m tk hvm hl => ⟨m, ts, tk, hts, by omega, hvm, hv2, rfl, rfl⟩⟩
    rw [k2]
    refine pw_skip (pw_seq (pw_block (pw_seq (pw_region (yIa (by omega) (by omega) k1 rfl rfl (yAd rfl (yQ (pw_seq (pw_region ?_))))))))); refine yFb rfl (yLd rfl rfl rfl (yN rfl (yMd rfl (yQ (pw_block ?_))))); refine pw_loop (fun i : Nat => ⟨75, [(3, .bx 3 0), (4, .bx 4 0), (8, .bs 21 ms.length 3 1), (9, .bx 9 0), (11, .fn 69 [9]), (14, .d (dF Tryz.prog φ)), (39, .d (.agg [dF Tryz.prog phR, dF Tryz.prog (phC days)])), (40, .d (dI r)), (44, .d (.sl 5 (ms.map dM))), (45, .d (dI ms.length)), (46, .d (dI i))], [(3, [.d (dI d1), .d (.sl 2 (hs1.map dH)), .d (.sl 5 (ms.map dM))]), (4, [.d (dI d2), .d (.sl 2 (hs2.map dH)), .d (.sl 5 (ts.map dM))]), (9, [.bs 25 ts.length 4 1]), (21, pc (rnd f ms s0 i).1), (25, tc (rnd f ms s0 i).2)], []⟩) (fun i => i ≤ ms.length) (fun i => ms.length - i) 0 (Nat.zero_le _)
      ⟨rfl, ⟨.refl _, .refl _, .refl _, .refl _, .refl _, .refl _, .refl _, .refl _, .refl _, .of_eq (congrArg (fun n : Nat => SV.d (dI n)) (by simp)), .refl _, trivial⟩, ⟨⟨_, rfl, .refl _, .refl _, .refl _, trivial⟩, ⟨_, rfl, .refl _, .refl _, .refl _, trivial⟩, ⟨_, rfl, .refl _, trivial⟩, ⟨_, rfl, lesC_refl _⟩, ⟨_, rfl, lesC_refl _⟩, trivial⟩, trivial, by simp [PS.closed, SV.ok, aget, Nat.beq]⟩ ?_
    intro i hi
    have hlen := rnd_len f ms s0 i
    rw [k4.1, k4.2] at hlen
    have hnext : ∀ m, ms[i]? = some m → rnd f ms s0 (i + 1) = if ((rnd f ms s0 i).1[i]?.getD none).isSome then rnd f ms s0 i else match f m (rnd f ms s0 i).2 with
      | none => rnd f ms s0 i
      | some k => ((rnd f ms s0 i).1.set i (some k), (rnd f ms s0 i).2.set k true) := fun m hm => by rw [rnd, hm]; rfl
    have hend : i = ms.length → ptS days ms ts (r + 1) = rnd f ms s0 i := fun e => by rw [k3, e]
    obtain ⟨nx, hnx⟩ : ∃ o, o = rnd f ms s0 (i + 1) := ⟨_, rfl⟩
    obtain ⟨⟨pl, tk⟩, hcur⟩ : ∃ o, o = rnd f ms s0 i := ⟨_, rfl⟩
    simp only [← hcur, ← hnx] at hnext hlen hend
    rw [← hcur]
    simp only
    refine pw_seq (pw_region (yB rfl rfl rfl rfl (yQ (pw_seq ?_)))); refine pw_cond rfl (fun h2 => ?_) (fun h2 => ?_)
    · simp at h2
      obtain ⟨⟨x, xd, y, z, v⟩, hx⟩ : ∃ a, ms[i]? = some a := ⟨_, List.getElem?_eq_getElem h2⟩
      have ei := ix dM ms i i (x, xd, y, z, v) rfl hx
      have hw := wrapI ((i : Int) + 1) (by omega)
      have hn := hnext _ hx
      have hpa := pc_at (l := pl) (i := i) (by omega)
      obtain ⟨o, ho⟩ : ∃ o, o = pl[i]?.getD none := ⟨_, rfl⟩
      rw [← ho] at hn hpa
      cases o with
      | some k =>
        have e : nx = (pl, tk) := hn
        have t1 : decide (ixO (some k) ≥ 0) = true := decide_eq_true (by show (k : Int) ≥ 0; omega)
        refine pw_skip (pw_seq (pw_block (pw_seq (pw_region (yMd rfl (yW ei (by omega) rfl rfl (yLs (ys := [_, _, _, _, _]) rfl rfl rfl (yZ (cs := [_, _, _, _, _]) rfl rfl (yAd rfl ?_))))))))); refine yS (cs' := [_, _, _, _, _]) rfl rfl rfl rfl rfl (yQ (pw_seq (pw_seq (pw_region (yMw rfl (yMd rfl (yWb (by omega) (by omega) rfl rfl rfl (yLd rfl rfl hpa (yB rfl rfl rfl rfl ?_))))))))); refine yQ (pw_ct rfl (pw_exit (pw_region (yB rfl rfl rfl rfl (yMd rfl (yQ (q_then ?_))))))); rw [t1]
        refine ⟨i + 1, by omega, by omega, rfl, ⟨.refl _, .refl _, .refl _, .refl _, .refl _, .refl _, .refl _, .refl _, .refl _, .refl _, .of_eq (congrArg (fun n => SV.d (dI n)) hw), trivial⟩, ⟨⟨_, rfl, .refl _, .refl _, .refl _, trivial⟩, ⟨_, rfl, .refl _, .refl _, .refl _, trivial⟩, ⟨_, rfl, .refl _, trivial⟩, ⟨_, rfl, lesC_eq (by rw [← hnx, e])⟩, ⟨_, rfl, lesC_eq (by rw [← hnx, e])⟩, trivial⟩, trivial, by simp [PS.closed, SV.ok, aget, Nat.beq]⟩
      | none =>
        have hφ := k5.2 (x, xd, y, z, v) tk (hv1 _ (List.mem_of_getElem? hx)) hlen.2
        have hkl := k5.1 (x, xd, y, z, v) tk
        have hn2 : nx = match f (x, xd, y, z, v) tk with
          | none => (pl, tk)
          | some k => (pl.set i (some k), tk.set k true) := hn
        obtain ⟨o2, ho2⟩ : ∃ o, o = f (x, xd, y, z, v) tk := ⟨_, rfl⟩
        rw [← ho2] at hφ hkl hn2
        cases o2 with
        | none =>
          have e : nx = (pl, tk) := hn2
          refine pw_skip (pw_seq (pw_block (pw_seq (pw_region (yMd rfl (yW ei (by omega) rfl rfl (yLs (ys := [_, _, _, _, _]) rfl rfl rfl (yZ (cs := [_, _, _, _, _]) rfl rfl (yAd rfl ?_))))))))); refine yS (cs' := [_, _, _, _, _]) rfl rfl rfl rfl rfl (yQ (pw_seq (pw_seq (pw_region (yMw rfl (yMd rfl (yWb (by omega) (by omega) rfl rfl rfl (yLd rfl rfl hpa (yB rfl rfl rfl rfl ?_))))))))); refine yQ (pw_cf rfl (pw_skip (pw_seq (pw_region (yMd rfl (yLa (ys := [_, _, _, _, _]) rfl rfl rfl rfl (yFb rfl (yLd rfl rfl rfl (yMf rfl ?_))))))))); refine yCgv hφ rfl (.d (.d rfl) (.d (.d rfl) (.fn inferInstance (.cons (by omega) rfl (.cons (.bs (by omega) rfl (toDs_map _ _) (by simp [hlen.2]) (by rw [← hlen.2]; exact chunk_one _ _)) .nil) .nil) (phF_free tk) .nil))) rfl ?_
          refine yAd rfl (yQ (pw_seq (pw_region (yMd rfl (yB rfl rfl rfl rfl (yQ (pw_cf rfl (pw_skip (pw_region ?_))))))))); refine yB rfl rfl rfl rfl (yMd rfl (yQ (q_then ?_)))
          refine ⟨i + 1, by omega, by omega, rfl, ⟨.refl _, .refl _, .refl _, .refl _, .refl _, .refl _, .refl _, .refl _, .refl _, .refl _, .of_eq (congrArg (fun n => SV.d (dI n)) hw), trivial⟩, ⟨⟨_, rfl, .refl _, .refl _, .refl _, trivial⟩, ⟨_, rfl, .refl _, .refl _, .refl _, trivial⟩, ⟨_, rfl, .refl _, trivial⟩, ⟨_, rfl, lesC_eq (by rw [← hnx, e])⟩, ⟨_, rfl, lesC_eq (by rw [← hnx, e])⟩, trivial⟩, trivial, by simp [PS.closed, SV.ok, aget, Nat.beq]⟩
        | some k =>
          have e : nx = (pl.set i (some k), tk.set k true) := hn2
          have hk := hkl k rfl
          have t2 : decide (ixO (some k) ≥ 0) = true := decide_eq_true (by show (k : Int) ≥ 0; omega)
          have hs1' := pc_set pl i k
          have hs2' := tc_set tk k
          refine pw_skip (pw_seq (pw_block (pw_seq (pw_region (yMd rfl (yW ei (by omega) rfl rfl (yLs (ys := [_, _, _, _, _]) rfl rfl rfl (yZ (cs := [_, _, _, _, _]) rfl rfl (yAd rfl ?_))))))))); refine yS (cs' := [_, _, _, _, _]) rfl rfl rfl rfl rfl (yQ (pw_seq (pw_seq (pw_region (yMw rfl (yMd rfl (yWb (by omega) (by omega) rfl rfl rfl (yLd rfl rfl hpa (yB rfl rfl rfl rfl ?_))))))))); refine yQ (pw_cf rfl (pw_skip (pw_seq (pw_region (yMd rfl (yLa (ys := [_, _, _, _, _]) rfl rfl rfl rfl (yFb rfl (yLd rfl rfl rfl (yMf rfl ?_))))))))); refine yCgv hφ rfl (.d (.d rfl) (.d (.d rfl) (.fn inferInstance (.cons (by omega) rfl (.cons (.bs (by omega) rfl (toDs_map _ _) (by simp [hlen.2]) (by rw [← hlen.2]; exact chunk_one _ _)) .nil) .nil) (phF_free tk) .nil))) rfl ?_
          refine yAd rfl (yQ (pw_seq (pw_region (yMd rfl (yB rfl rfl rfl rfl (yQ (pw_ct rfl ?_))))))); refine pw_draw2 (id := 18) Tryz.mixed (by kernel_rfl) ?_; refine yMw rfl (yMd rfl (yLw rfl rfl rfl (yMd rfl (yMd rfl (yWb (by omega) (by omega) rfl rfl rfl ?_))))); refine ySd rfl rfl rfl hs1' ?_ (by show Nat.ble _ _ = true; simp; omega)
          refine yWb (by show (0 : Int) ≤ k; omega) (by show (k : Int) < _; omega) rfl rfl rfl ?_; refine ySd rfl rfl rfl hs2' ?_ (by show Nat.ble _ _ = true; simp [ixO]; omega); refine yQ ?_; refine Px.Sep.mk (by kernel_rfl) ?_
          refine pw_region (yB rfl rfl rfl rfl (yMd rfl (yQ (q_then ?_)))); rw [t2]
          refine ⟨i + 1, by omega, by omega, rfl, ⟨.refl _, .refl _, .refl _, .refl _, .refl _, .refl _, .refl _, .refl _, .refl _, .refl _, .of_eq (congrArg (fun n => SV.d (dI n)) hw), trivial⟩, ⟨⟨_, rfl, .refl _, .refl _, .refl _, trivial⟩, ⟨_, rfl, .refl _, .refl _, .refl _, trivial⟩, ⟨_, rfl, .refl _, trivial⟩, ⟨_, rfl, lesC_eq (by rw [← hnx, e])⟩, ⟨_, rfl, lesC_eq (by rw [← hnx, e])⟩, trivial⟩, trivial, by simp [PS.closed, SV.ok, aget, Nat.beq]⟩
    · simp at h2
      have e := hend (by omega)
      refine pw_exit (pw_region (yB rfl rfl rfl rfl (yMd rfl (yQ (q_then ?_)))))
      refine ⟨r + 1, by omega, by omega, rfl, ⟨.refl _, .refl _, .refl _, .refl _, .refl _, .refl _, .of_eq (congrArg (fun n => SV.d (dI n)) hwr), trivial⟩, ⟨⟨_, rfl, .refl _, .refl _, .refl _, trivial⟩, ⟨_, rfl, .refl _, .refl _, .refl _, trivial⟩, ⟨_, rfl, .refl _, trivial⟩, ⟨_, rfl, lesC_eq (by rw [e])⟩, ⟨_, rfl, lesC_eq (by rw [e])⟩, trivial⟩, trivial, by simp [PS.closed, SV.ok, aget, Nat.beq]⟩
  · simp at h
    obtain rfl : r = 2 := by omega
    have hl := pt2_len days ms ts
    have e2 : ptS days ms ts 2 = pt2 days ms ts := rfl
    rw [e2]
    obtain ⟨⟨pl, tk⟩, hp⟩ : ∃ p, p = pt2 days ms ts := ⟨_, rfl⟩
    rw [← hp] at hl ⊢
    simp only at hl ⊢
    refine pw_exit (pw_seq ?_); refine pw_draw Tryz.mixed (by kernel_rfl) ?_; refine yMw rfl (yLw rfl rfl rfl (yAw rfl (yAw rfl (yQ ?_)))); refine pw_frz 6 21 (ds := pl.map fun o => dI (ixO o)) (es := (pl.map ixO).map dZ) (by simp [hl.1]) (by rw [← hl.1, chunk_one]; simp) (toDs_map _ _) rfl rfl ?_
    refine pw_frz 7 25 (ds := tk.map fun b => dB b) (es := tk.map dBl) (by simp [hl.2]) (by rw [← hl.2]; exact chunk_one _ _) (by show toDs ((tc tk).map (SV.kill 21)) = _; rw [kill_map]; exact toDs_map _ _) rfl rfl ?_; refine pw_ret ?_
    exact q_ret _ (.tmp rfl (.tmp rfl .nil)) rfl
end Go.Proofs.YtdkpmnefoobipaaGreatDoor
namespace Go.Proofs.YtdkpmnefoobipaaGreatDoor
open Go.RowKit Px

abbrev ivs (l : List (Option Nat)) : List Value := l.map fun o => Value.int .i64 (ixO o)
theorem pc_us (l : List (Option Nat)) : pc l = (ivs l).map fun u => SV.d (.val u) := by simp [pc, ivs]
theorem pc_app (l : List (Option Nat)) (o : Option Nat) : (ivs l ++ [Value.int .i64 (ixO o)]).map (fun u => SV.d (.val u)) = pc (l ++ [o]) := by simp [pc, ivs]
theorem pc_snoc_at {a : List (Option Nat)} {i : Nat} (h : a.length = i) (o : Option Nat) : (pc (a ++ [o]))[(i : Int).toNat * 1]? = some (.d (dI (ixO o))) := by
  rw [pc_at (by simp; omega)]
  subst h
  simp
theorem pc_snoc_set {a : List (Option Nat)} {i : Nat} (h : a.length = i) (o : Option Nat) (k : Nat) : (pc (a ++ [o])).set ((i : Int).toNat * 1) (.d (.val (.int .i64 (k : Int)))) = pc (a ++ [some k]) := by
  have := pc_set (a ++ [o]) i k
  rw [show (Value.int IntKind.i64 (ixO (some k))) = Value.int .i64 (k : Int) from rfl] at this
  rw [this]
  subst h
  simp
theorem tc_at {l : List Bool} {k : Nat} (h : k < l.length) : (tc l)[(k : Int).toNat * 1]? = some (.d (dB (tkn l k))) := by
  rw [Int.toNat_natCast, Nat.mul_one, List.getElem?_map]
  unfold tkn
  rw [List.getElem?_eq_getElem h]; rfl
theorem tc_set' (l : List Bool) (k : Nat) : (tc l).set ((k : Int).toNat * 1) (.d (.val (.bool true))) = tc (l.set k true) := tc_set l k
def bst (k : Nat) : Bool → Option Nat
  | true => some (k - 1)
  | false => none
def tkb (tk : List Bool) (k : Nat) : Bool → List Bool
  | true => tk.set (k - 1) true
  | false => tk
theorem set_none {l : List (Option Nat)} {i : Nat} (h : l[i]?.getD none = none) (hi : i < l.length) : l.set i none = l := by
  apply List.ext_getElem? 
  intro j
  by_cases e : i = j
  · subst e
    rw [List.getElem?_set_self hi]
    rw [List.getElem?_eq_getElem hi] at h ⊢
    simp only [Option.getD_some] at h
    rw [h]
  · rw [List.getElem?_set_ne e]
theorem pc_set_at {l : List (Option Nat)} {i : Nat} (h : i < l.length) (o : Option Nat) : (pc (l.set i o))[(i : Int).toNat * 1]? = some (.d (dI (ixO o))) := by
  rw [pc_at (by simpa using h), List.getElem?_set_self h]; rfl
theorem pc_set_set (l : List (Option Nat)) (i : Nat) (o : Option Nat) (k : Nat) : (pc (l.set i o)).set ((i : Int).toNat * 1) (.d (.val (.int .i64 (k : Int)))) = pc (l.set i (some k)) := by
  have := pc_set (l.set i o) i k
  rw [List.set_set] at this
  exact this

set_option maxRecDepth 20000 in
set_option maxHeartbeats 8000000 in
theorem wPartners (ms ts : List Mv) (days : Int) (hms : ms.length ≤ 1000) (hts : ts.length ≤ 1000) (hv1 : ∀ m ∈ ms, vD m.2.1 = true) (hv2 : ∀ m ∈ ts, vD m.2.1 = true) :
    PCalls Tryz.prog 43 [.sl 5 (ms.map dM), .sl 5 (ts.map dM), dI days] (.d (dIs ((pt2 days ms ts).1.map ixO))) := by
  refine pcalls_of_pw Tryz.func43 rfl Tryz.ntmps43 Tryz.results43 (by simp) fun B w0 => ?_
  refine pw_seq (pw_region (yAd rfl (yQ (pw_seq ?_)))); refine pw_draw Tryz.mixed (by kernel_rfl) ?_; refine yEb (e := 15) rfl (yMd rfl (yN rfl (yMk (by omega) (Int.le_refl _) (by simp; omega) (by simp; omega) rfl rfl rfl (yAw rfl (yAw rfl (yQ (pw_seq (pw_seq (pw_region ?_))))))))); refine yAd rfl (yQ (pw_block ?_)); refine pw_loop (fun i : Nat => ⟨172, [(0, .d (.sl 5 (ms.map dM))), (1, .d (.sl 5 (ts.map dM))), (2, .d (dI days)), (7, .bs 15 i 3 1), (8, .bs 18 ts.length 4 1), (9, .d (dI i))], [(15, pc ((pr1 ms ts i).1.take i)), (18, tc (pr1 ms ts i).2)], []⟩) (fun i => i ≤ ms.length) (fun i => ms.length - i) 0 (Nat.zero_le _)
    ⟨rfl, ⟨.refl _, .refl _, .refl _, .refl _, .of_eq (congrArg (fun n => SV.bs 18 n 4 1) (by simp)), .refl _, trivial⟩, ⟨⟨_, rfl, lesC_eq (by simp [pc])⟩, ⟨_, rfl, lesC_eq (by simp [tc, pr1, rnd, pt0])⟩, trivial⟩, trivial, by simp [PS.closed, SV.ok, aget, Nat.beq, -List.map_take, -List.map_set]⟩ ?_
  intro i hi
  refine pw_seq (pw_seq (pw_region (yMd rfl (yMd rfl (yN rfl (yB rfl rfl rfl rfl (yQ (q_then ?_)))))))); refine pw_cond rfl (fun h => ?_) (fun h => ?_)
  · simp at h
    obtain ⟨⟨m0, m1, m2, m3, m4⟩, hm⟩ : ∃ a, ms[i]? = some a := ⟨_, List.getElem?_eq_getElem h⟩
    have em := ix dM ms i i (m0, m1, m2, m3, m4) rfl hm
    have hwi := wrapI ((i : Int) + 1) (by omega)
    obtain ⟨hq1, hq2⟩ := pr1_take (ts := ts) hm
    have hla : ((pr1 ms ts i).1.take i).length = i := by rw [List.length_take, (pr1_len ms ts i).1]; omega
    have hlt := (pr1_len ms ts i).2
    obtain ⟨nx, hnx⟩ : ∃ o, o = pr1 ms ts (i + 1) := ⟨_, rfl⟩
    obtain ⟨a, ha⟩ : ∃ o, o = (pr1 ms ts i).1.take i := ⟨_, rfl⟩
    obtain ⟨tk, htk⟩ : ∃ o, o = (pr1 ms ts i).2 := ⟨_, rfl⟩
    simp only [← ha, ← htk, ← hnx] at hq1 hq2 hla hlt
    rw [← ha, ← htk]
    have hus : (ivs a).length = i * 1 := by simp [hla]
    obtain ⟨r0, hr0⟩ : ∃ r, r = fRf (m0, m1, m2, m3, m4) tk ts 0 := ⟨_, rfl⟩
    rw [← hr0] at hq1 hq2
    refine pw_skip (pw_seq (pw_block (pw_seq (pw_region (yMw rfl (yR (es := [[_]]) rfl rfl rfl rfl rfl (yTw (us := ivs a) (vs := [.int .i64 (-1)]) (by omega) (by omega) (by omega) rfl rfl hus rfl (congrArg some (pc_us a)) rfl (yAw rfl (yQ ?_))))))))); refine pw_seq (pw_region (yAd rfl (yQ (pw_block ?_)))); refine pw_loop (fun p : Nat × Bool => ⟨172, [(0, .d (.sl 5 (ms.map dM))), (1, .d (.sl 5 (ts.map dM))), (2, .d (dI days)), (7, .bs 15 (i + 1) 3 1), (8, .bs 18 ts.length 4 1), (9, .d (dI i)), (10, .d (dI p.1))], [(15, pc (a ++ [bst p.1 p.2])), (18, tc (tkb tk p.1 p.2))], []⟩) (fun p => p.1 ≤ ts.length ∧ (p.2 = false → r0 = fRf (m0, m1, m2, m3, m4) tk (ts.drop p.1) p.1) ∧ (p.2 = true → 1 ≤ p.1 ∧ r0 = some (p.1 - 1))) (fun p => ts.length - p.1) (0, false) ⟨Nat.zero_le _, fun _ => hr0, fun h => by cases h⟩
      ⟨rfl, ⟨.refl _, .refl _, .refl _, .refl _, .refl _, .refl _, .refl _, trivial⟩, ⟨⟨_, rfl, lesC_eq (pc_app a none)⟩, ⟨_, rfl, lesC_eq (kill_map _ _ _)⟩, trivial⟩, trivial, by simp [PS.closed, SV.ok, aget, Nat.beq, -List.map_take, -List.map_set]⟩ ?_
    rintro ⟨k, b⟩ ⟨hk, hf, ht⟩
    simp only at hk hf ht
    cases b with
    | true =>
      obtain ⟨hk1, hf1⟩ := ht rfl
      rw [hf1] at hq1 hq2
      have hat := pc_snoc_at hla (some (k - 1))
      have t1 : decide (ixO (some (k - 1)) < 0) = false := decide_eq_false (by show ¬ (((k - 1 : Nat) : Int) < 0); omega)
      by_cases hkl : k < ts.length
      · have t0 : decide ((k : Int) < ((ts.map dM).length : Int)) = true := decide_eq_true (by simp; omega)
        refine pw_seq (pw_seq (pw_region (yMd rfl (yMd rfl (yN rfl (yB rfl rfl rfl rfl (yMd rfl ?_))))))); rw [t0]; refine yMw rfl (yMd rfl (yWb (by omega) (by omega) rfl rfl rfl (yLd rfl rfl hat (yB rfl rfl rfl rfl (yPd rfl rfl (yQ (pw_cf rfl (pw_exit (pw_region ?_))))))))); refine yMd rfl (yB rfl rfl rfl rfl (yAd rfl (yQ (q_then ?_)))); rw [t1]
        refine ⟨i + 1, by omega, by omega, rfl, ⟨.refl _, .refl _, .refl _, .refl _, .refl _, .of_eq (congrArg (fun n => SV.d (dI n)) hwi), trivial⟩, ⟨⟨_, rfl, lesC_eq (by rw [← hnx, hq1]; rfl)⟩, ⟨_, rfl, lesC_eq (by rw [← hnx, hq2]; rfl)⟩, trivial⟩, trivial, by simp [PS.closed, SV.ok, aget, Nat.beq, -List.map_take, -List.map_set]⟩
      · have t0 : decide ((k : Int) < ((ts.map dM).length : Int)) = false := decide_eq_false (by simp; omega)
        refine pw_seq (pw_seq (pw_region (yMd rfl (yMd rfl (yN rfl (yB rfl rfl rfl rfl (yMd rfl ?_))))))); rw [t0]; refine yO rfl (yO rfl (yO rfl (yO rfl (yO rfl (yVd rfl rfl (yQ (pw_cf rfl (pw_exit (pw_region ?_))))))))); refine yMd rfl (yB rfl rfl rfl rfl (yAd rfl (yQ (q_then ?_))))
        refine ⟨i + 1, by omega, by omega, rfl, ⟨.refl _, .refl _, .refl _, .refl _, .refl _, .of_eq (congrArg (fun n => SV.d (dI n)) hwi), trivial⟩, ⟨⟨_, rfl, lesC_eq (by rw [← hnx, hq1]; rfl)⟩, ⟨_, rfl, lesC_eq (by rw [← hnx, hq2]; rfl)⟩, trivial⟩, trivial, by simp [PS.closed, SV.ok, aget, Nat.beq, -List.map_take, -List.map_set]⟩
    | false =>
      have hf1 := hf rfl
      have hat := pc_snoc_at hla none
      by_cases hkl : k < ts.length
      · have t0 : decide ((k : Int) < ((ts.map dM).length : Int)) = true := decide_eq_true (by simp; omega)
        obtain ⟨⟨x, xd, y, z, v⟩, hx⟩ : ∃ a, ts[k]? = some a := ⟨_, List.getElem?_eq_getElem hkl⟩
        have ei := ix dM ts k k (x, xd, y, z, v) rfl hx
        have hw := wrapI ((k : Int) + 1) (by omega)
        have hta := tc_at (l := tk) (k := k) (by omega)
        rw [drop_cons hx] at hf1
        unfold fRf at hf1
        simp only at hf1
        obtain ⟨f, hff⟩ : ∃ f, f = tkn tk k := ⟨_, rfl⟩
        rw [← hff] at hf1 hta
        cases f with
        | true =>
          rw [if_neg (by simp)] at hf1
          refine pw_seq (pw_seq (pw_region (yMd rfl (yMd rfl (yN rfl (yB rfl rfl rfl rfl (yMd rfl ?_))))))); rw [t0]; refine yMw rfl (yMd rfl (yWb (by omega) (by omega) rfl rfl rfl (yLd rfl rfl hat (yB rfl rfl rfl rfl (yPd rfl rfl (yQ (pw_ct rfl (pw_skip (pw_seq ?_))))))))); refine pw_block (pw_seq ?_); refine pw_draw Tryz.mixed (by kernel_rfl) ?_; refine yMw rfl (yMd rfl (yWb (by omega) (by omega) rfl rfl rfl (yLd rfl rfl hta (yU rfl rfl rfl (yMd rfl (yO rfl (yO rfl (yO rfl (yO rfl ?_))))))))); refine yO rfl (yO rfl (yO rfl (yO rfl (yO rfl (yO rfl (yO rfl (yVd rfl rfl (yMd rfl (yO rfl ?_))))))))); refine yO rfl (yO rfl (yO rfl (yO rfl (yO rfl (yO rfl (yO rfl (yO rfl (yO rfl (yO rfl ?_))))))))); refine yVd rfl rfl (yQ (pw_cf rfl (pw_skip (pw_region (yMd rfl (yB rfl rfl rfl rfl (yAd rfl (yQ (q_then ?_)))))))))
          refine ⟨(k + 1, false), ⟨by omega, fun _ => hf1, fun h => by cases h⟩, by simp only; omega, rfl, ⟨.refl _, .refl _, .refl _, .refl _, .refl _, .refl _, .of_eq (congrArg (fun n => SV.d (dI n)) hw), trivial⟩, ⟨⟨_, rfl, lesC_refl _⟩, ⟨_, rfl, lesC_refl _⟩, trivial⟩, trivial, by simp [PS.closed, SV.ok, aget, Nat.beq, -List.map_take, -List.map_set]⟩
        | false =>
        cases t1 : (x == m0) with
        | false =>
          rw [t1, if_neg (by simp)] at hf1
          refine pw_seq (pw_seq (pw_region (yMd rfl (yMd rfl (yN rfl (yB rfl rfl rfl rfl (yMd rfl ?_))))))); rw [t0]; refine yMw rfl (yMd rfl (yWb (by omega) (by omega) rfl rfl rfl (yLd rfl rfl hat (yB rfl rfl rfl rfl (yPd rfl rfl (yQ (pw_ct rfl (pw_skip (pw_seq ?_))))))))); refine pw_block (pw_seq ?_); refine pw_draw Tryz.mixed (by kernel_rfl) ?_; refine yMw rfl (yMd rfl (yWb (by omega) (by omega) rfl rfl rfl (yLd rfl rfl hta (yU rfl rfl rfl (yMd rfl (yMd rfl (yMd rfl (yW ei (by omega) rfl rfl (yFr rfl rfl ?_))))))))); refine yLr rfl rfl (yMd rfl (yMd rfl (yW em (by omega) rfl rfl (yFr rfl rfl (yLr rfl rfl (yBse rfl rfl (yPd rfl rfl (yMd rfl ?_)))))))); rw [t1]; refine yO rfl (yO rfl (yO rfl (yO rfl (yO rfl (yO rfl (yO rfl (yO rfl (yO rfl (yO rfl ?_))))))))); refine yO rfl (yVd rfl rfl (yQ (pw_cf rfl (pw_skip (pw_region (yMd rfl (yB rfl rfl rfl rfl (yAd rfl (yQ ?_))))))))); refine q_then ?_
          refine ⟨(k + 1, false), ⟨by omega, fun _ => hf1, fun h => by cases h⟩, by simp only; omega, rfl, ⟨.refl _, .refl _, .refl _, .refl _, .refl _, .refl _, .of_eq (congrArg (fun n => SV.d (dI n)) hw), trivial⟩, ⟨⟨_, rfl, lesC_refl _⟩, ⟨_, rfl, lesC_refl _⟩, trivial⟩, trivial, by simp [PS.closed, SV.ok, aget, Nat.beq, -List.map_take, -List.map_set]⟩
        | true =>
        cases t2 : (y == m2) with
        | false =>
          rw [t1, t2, if_neg (by simp)] at hf1
          refine pw_seq (pw_seq (pw_region (yMd rfl (yMd rfl (yN rfl (yB rfl rfl rfl rfl (yMd rfl ?_))))))); rw [t0]; refine yMw rfl (yMd rfl (yWb (by omega) (by omega) rfl rfl rfl (yLd rfl rfl hat (yB rfl rfl rfl rfl (yPd rfl rfl (yQ (pw_ct rfl (pw_skip (pw_seq ?_))))))))); refine pw_block (pw_seq ?_); refine pw_draw Tryz.mixed (by kernel_rfl) ?_; refine yMw rfl (yMd rfl (yWb (by omega) (by omega) rfl rfl rfl (yLd rfl rfl hta (yU rfl rfl rfl (yMd rfl (yMd rfl (yMd rfl (yW ei (by omega) rfl rfl (yFr rfl rfl ?_))))))))); refine yLr rfl rfl (yMd rfl (yMd rfl (yW em (by omega) rfl rfl (yFr rfl rfl (yLr rfl rfl (yBse rfl rfl (yPd rfl rfl (yMd rfl ?_)))))))); rw [t1]; refine yMd rfl (yMd rfl (yW ei (by omega) rfl rfl (yFr rfl rfl (yLr rfl rfl (yMd rfl (yMd rfl (yW em (by omega) rfl rfl (yFr rfl rfl (yLr rfl rfl ?_))))))))); refine yBse rfl rfl (yPd rfl rfl (yQ (q_then ?_))); rw [t2]; refine pw_cf rfl (pw_skip (pw_region (yMd rfl (yB rfl rfl rfl rfl (yAd rfl (yQ (q_then ?_)))))))
          refine ⟨(k + 1, false), ⟨by omega, fun _ => hf1, fun h => by cases h⟩, by simp only; omega, rfl, ⟨.refl _, .refl _, .refl _, .refl _, .refl _, .refl _, .of_eq (congrArg (fun n => SV.d (dI n)) hw), trivial⟩, ⟨⟨_, rfl, lesC_refl _⟩, ⟨_, rfl, lesC_refl _⟩, trivial⟩, trivial, by simp [PS.closed, SV.ok, aget, Nat.beq, -List.map_take, -List.map_set]⟩
        | true =>
          rw [t1, t2, if_pos (by simp)] at hf1
          have hs1 := pc_snoc_set hla none k
          have hs2 := tc_set' tk k
          refine pw_seq (pw_seq (pw_region (yMd rfl (yMd rfl (yN rfl (yB rfl rfl rfl rfl (yMd rfl ?_))))))); rw [t0]; refine yMw rfl (yMd rfl (yWb (by omega) (by omega) rfl rfl rfl (yLd rfl rfl hat (yB rfl rfl rfl rfl (yPd rfl rfl (yQ (pw_ct rfl (pw_skip (pw_seq ?_))))))))); refine pw_block (pw_seq ?_); refine pw_draw Tryz.mixed (by kernel_rfl) ?_; refine yMw rfl (yMd rfl (yWb (by omega) (by omega) rfl rfl rfl (yLd rfl rfl hta (yU rfl rfl rfl (yMd rfl (yMd rfl (yMd rfl (yW ei (by omega) rfl rfl (yFr rfl rfl ?_))))))))); refine yLr rfl rfl (yMd rfl (yMd rfl (yW em (by omega) rfl rfl (yFr rfl rfl (yLr rfl rfl (yBse rfl rfl (yPd rfl rfl (yMd rfl ?_)))))))); rw [t1]; refine yMd rfl (yMd rfl (yW ei (by omega) rfl rfl (yFr rfl rfl (yLr rfl rfl (yMd rfl (yMd rfl (yW em (by omega) rfl rfl (yFr rfl rfl (yLr rfl rfl ?_))))))))); refine yBse rfl rfl (yPd rfl rfl (yQ (q_then ?_))); rw [t2]; refine pw_ct rfl (pw_region (yMw rfl (yMd rfl (yMw rfl (yMd rfl (yMd rfl (yWb (by omega) (by omega) rfl rfl rfl ?_))))))); refine ySd rfl rfl rfl hs1 ?_ (by show Nat.ble _ _ = true; simp [bst]; omega); refine yWb (by omega) (by omega) rfl rfl rfl ?_; refine ySd rfl rfl rfl hs2 ?_ (by show Nat.ble _ _ = true; simp [tkb]; omega); refine yQ (pw_region (yMd rfl (yB rfl rfl rfl rfl (yAd rfl (yQ (q_then ?_))))))
          refine ⟨(k + 1, true), ⟨by omega, (fun h => by cases h), fun _ => ⟨by omega, hf1⟩⟩, by simp only; omega, rfl, ⟨.refl _, .refl _, .refl _, .refl _, .refl _, .refl _, .of_eq (congrArg (fun n => SV.d (dI n)) hw), trivial⟩, ⟨⟨_, rfl, lesC_refl _⟩, ⟨_, rfl, lesC_refl _⟩, trivial⟩, trivial, by simp [PS.closed, SV.ok, aget, Nat.beq, -List.map_take, -List.map_set]⟩
      · have t0 : decide ((k : Int) < ((ts.map dM).length : Int)) = false := decide_eq_false (by simp; omega)
        rw [List.drop_of_length_le (by omega)] at hf1
        have hf2 : r0 = none := hf1
        rw [hf2] at hq1 hq2
        refine pw_seq (pw_seq (pw_region (yMd rfl (yMd rfl (yN rfl (yB rfl rfl rfl rfl (yMd rfl ?_))))))); rw [t0]; refine yO rfl (yO rfl (yO rfl (yO rfl (yO rfl (yVd rfl rfl (yQ (pw_cf rfl (pw_exit (pw_region ?_))))))))); refine yMd rfl (yB rfl rfl rfl rfl (yAd rfl (yQ (q_then ?_))))
        refine ⟨i + 1, by omega, by omega, rfl, ⟨.refl _, .refl _, .refl _, .refl _, .refl _, .of_eq (congrArg (fun n => SV.d (dI n)) hwi), trivial⟩, ⟨⟨_, rfl, lesC_eq (by rw [← hnx, hq1]; rfl)⟩, ⟨_, rfl, lesC_eq (by rw [← hnx, hq2]; rfl)⟩, trivial⟩, trivial, by simp [PS.closed, SV.ok, aget, Nat.beq, -List.map_take, -List.map_set]⟩
  simp at h
  have hl1 : (pr1 ms ts i).1.take i = (rnd (byC days ts) ms (pt1 ms ts) 0).1 := by
    rw [List.take_of_length_le (by rw [(pr1_len ms ts i).1]; omega), show i = ms.length by omega]; rfl
  have hl2 : (pr1 ms ts i).2 = (rnd (byC days ts) ms (pt1 ms ts) 0).2 := by
    rw [show i = ms.length by omega]; rfl
  have hin : i = ms.length := by omega
  refine pw_exit (pw_seq (pw_seq (pw_region (yAd rfl (yQ (pw_block ?_)))))); refine pw_loop (fun i : Nat => ⟨172, [(0, .d (.sl 5 (ms.map dM))), (1, .d (.sl 5 (ts.map dM))), (2, .d (dI days)), (7, .bs 15 ms.length 3 1), (8, .bs 18 ts.length 4 1), (11, .d (dI i))], [(15, pc (rnd (byC days ts) ms (pt1 ms ts) i).1), (18, tc (rnd (byC days ts) ms (pt1 ms ts) i).2)], []⟩) (fun i => i ≤ ms.length) (fun i => ms.length - i) 0 (Nat.zero_le _)
    ⟨rfl, ⟨.refl _, .refl _, .refl _, .of_eq (congrArg (fun n => SV.bs 15 n 3 1) hin), .refl _, .refl _, trivial⟩, ⟨⟨_, rfl, lesC_eq (by rw [hl1])⟩, ⟨_, rfl, lesC_eq (by rw [hl2])⟩, trivial⟩, trivial, by simp [PS.closed, SV.ok, aget, Nat.beq, -List.map_take, -List.map_set]⟩ ?_
  clear hl1 hl2 hin h hi
  clear i
  intro i hi
  have hlen := rnd_len (byC days ts) ms (pt1 ms ts) i
  rw [(pt1_len ms ts).1, (pt1_len ms ts).2] at hlen
  have hnext : ∀ m, ms[i]? = some m → rnd (byC days ts) ms (pt1 ms ts) (i + 1) = if ((rnd (byC days ts) ms (pt1 ms ts) i).1[i]?.getD none).isSome then rnd (byC days ts) ms (pt1 ms ts) i else match cB days m (rnd (byC days ts) ms (pt1 ms ts) i).2 ts ts.length with
      | none => rnd (byC days ts) ms (pt1 ms ts) i
      | some k => ((rnd (byC days ts) ms (pt1 ms ts) i).1.set i (some k), (rnd (byC days ts) ms (pt1 ms ts) i).2.set k true) := fun m hm => by rw [rnd, hm]; rfl
  have hend : i = ms.length → pt2 days ms ts = rnd (byC days ts) ms (pt1 ms ts) i := fun e => by rw [e]; rfl
  obtain ⟨nx, hnx⟩ : ∃ o, o = rnd (byC days ts) ms (pt1 ms ts) (i + 1) := ⟨_, rfl⟩
  obtain ⟨⟨pl, tk⟩, hcur⟩ : ∃ o, o = rnd (byC days ts) ms (pt1 ms ts) i := ⟨_, rfl⟩
  simp only [← hcur, ← hnx] at hnext hlen hend
  rw [← hcur]
  simp only
  refine pw_seq (pw_seq (pw_region (yMd rfl (yMd rfl (yN rfl (yB rfl rfl rfl rfl (yQ (q_then ?_)))))))); refine pw_cond rfl (fun h => ?_) (fun h => ?_)
  · simp at h
    obtain ⟨⟨m0, m1, m2, m3, m4⟩, hm⟩ : ∃ a, ms[i]? = some a := ⟨_, List.getElem?_eq_getElem h⟩
    have em := ix dM ms i i (m0, m1, m2, m3, m4) rfl hm
    have hwi := wrapI ((i : Int) + 1) (by omega)
    have hn := hnext _ hm
    have hpa := pc_at (l := pl) (i := i) (by omega)
    obtain ⟨o, ho⟩ : ∃ o, o = pl[i]?.getD none := ⟨_, rfl⟩
    rw [← ho] at hn hpa
    cases o with
    | some k =>
      have e : nx = (pl, tk) := hn
      have t1 : decide (ixO (some k) ≥ 0) = true := decide_eq_true (by show (k : Int) ≥ 0; omega)
      refine pw_skip (pw_seq (pw_block (pw_seq (pw_seq (pw_region (yMw rfl (yMd rfl (yWb (by omega) (by omega) rfl rfl rfl (yLd rfl rfl hpa ?_))))))))); refine yB rfl rfl rfl rfl (yQ (pw_ct rfl (pw_exit (pw_region (yMd rfl (yB rfl rfl rfl rfl (yAd rfl (yQ (q_then ?_))))))))); rw [t1]
      refine ⟨i + 1, by omega, by omega, rfl, ⟨.refl _, .refl _, .refl _, .refl _, .refl _, .of_eq (congrArg (fun n => SV.d (dI n)) hwi), trivial⟩, ⟨⟨_, rfl, lesC_eq (by rw [← hnx, e])⟩, ⟨_, rfl, lesC_eq (by rw [← hnx, e])⟩, trivial⟩, trivial, by simp [PS.closed, SV.ok, aget, Nat.beq, -List.map_take, -List.map_set]⟩
    | none =>
    have hset0 : pl = pl.set i none := (set_none ho.symm (by omega)).symm
    have hvm := hv1 _ (List.mem_of_getElem? hm)
    have hn2 : nx = match cB days (m0, m1, m2, m3, m4) tk ts ts.length with
      | none => (pl, tk)
      | some k => (pl.set i (some k), tk.set k true) := hn
    refine pw_skip (pw_seq (pw_block (pw_seq (pw_seq (pw_region (yMw rfl (yMd rfl (yWb (by omega) (by omega) rfl rfl rfl (yLd rfl rfl hpa ?_))))))))); refine yB rfl rfl rfl rfl (yQ (pw_cf rfl (pw_skip (pw_seq (pw_seq (pw_region (yAd rfl (yQ (pw_block ?_))))))))); refine pw_loop (fun k : Nat => ⟨172, [(0, .d (.sl 5 (ms.map dM))), (1, .d (.sl 5 (ts.map dM))), (2, .d (dI days)), (7, .bs 15 ms.length 3 1), (8, .bs 18 ts.length 4 1), (11, .d (dI i)), (12, .d (dI k))], [(15, pc (pl.set i (cB days (m0, m1, m2, m3, m4) tk ts k))), (18, tc tk)], []⟩) (fun k => k ≤ ts.length) (fun k => ts.length - k) 0 (Nat.zero_le _)
      ⟨rfl, ⟨.refl _, .refl _, .refl _, .refl _, .refl _, .refl _, .refl _, trivial⟩, ⟨⟨_, rfl, lesC_eq (by rw [cB, ← hset0])⟩, ⟨_, rfl, lesC_refl _⟩, trivial⟩, trivial, by simp [PS.closed, SV.ok, aget, Nat.beq, -List.map_take, -List.map_set]⟩ ?_
    intro k hk
    have hnk : ∀ x, ts[k]? = some x → cB days (m0, m1, m2, m3, m4) tk ts (k + 1) = if !tkn tk k && sameC days x (m0, m1, m2, m3, m4) then (match cB days (m0, m1, m2, m3, m4) tk ts k with
          | none => some k
          | some b' => match ts[b']? with
            | none => some b'
            | some y => if apt x.2.1 m1 < apt y.2.1 m1 then some k else some b') else cB days (m0, m1, m2, m3, m4) tk ts k := fun x hx => by rw [cB, hx]; rfl
    have hltk : ∀ b', cB days (m0, m1, m2, m3, m4) tk ts k = some b' → b' < k ∧ b' < ts.length := fun b' hb => cB_lt hb
    have hendk : k = ts.length → cB days (m0, m1, m2, m3, m4) tk ts ts.length = cB days (m0, m1, m2, m3, m4) tk ts k := fun e => by rw [e]
    obtain ⟨nk, hnk2⟩ : ∃ o, o = cB days (m0, m1, m2, m3, m4) tk ts (k + 1) := ⟨_, rfl⟩
    obtain ⟨o, ho2⟩ : ∃ o, o = cB days (m0, m1, m2, m3, m4) tk ts k := ⟨_, rfl⟩
    simp only [← ho2, ← hnk2] at hnk hltk hendk
    rw [← ho2]
    have hpo := pc_set_at (l := pl) (i := i) (by omega) o
    have hps := pc_set_set pl i o k
    refine pw_seq (pw_seq (pw_region (yMd rfl (yMd rfl (yN rfl (yB rfl rfl rfl rfl (yQ (q_then ?_)))))))); refine pw_cond rfl (fun h2 => ?_) (fun h2 => ?_)
    · simp at h2
      obtain ⟨⟨x, xd, y, z, v⟩, hx⟩ : ∃ a, ts[k]? = some a := ⟨_, List.getElem?_eq_getElem h2⟩
      have ei := ix dM ts k k (x, xd, y, z, v) rfl hx
      have hw := wrapI ((k : Int) + 1) (by omega)
      have hn := hnk _ hx
      have hvx := hv2 _ (List.mem_of_getElem? hx)
      have hsc : sameC days (x, xd, y, z, v) (m0, m1, m2, m3, m4) = (y == m2 && (z == m3 && (v == m4 && decide (apt xd m1 ≤ days)))) := rfl
      rw [hsc] at hn
      have c1 := wRApart (m0, m1, m2, m3, m4) (x, xd, y, z, v) hvm hvx
      simp only at c1
      rw [apt_comm] at c1
      have hta := tc_at (l := tk) (k := k) (by omega)
      obtain ⟨f, hff⟩ : ∃ f, f = tkn tk k := ⟨_, rfl⟩
      rw [← hff] at hn hta
      cases f with
      | true =>
        have e : nk = o := by rw [hn, if_neg (by simp)]
        refine pw_skip (pw_seq (pw_block (pw_seq ?_))); refine pw_draw2 (id := 18) Tryz.mixed (by kernel_rfl) ?_; refine yMd rfl (yMd rfl (yW em (by omega) rfl rfl (yLs (ys := [_, _, _, _, _]) rfl rfl rfl (yMd rfl (yMd rfl (yW ei (by omega) rfl rfl (yLs (ys := [_, _, _, _, _]) rfl rfl rfl (yZ (cs := [_, _, _, _, _]) rfl rfl (yZ (cs := [_, _, _, _, _]) rfl rfl ?_))))))))); refine yS (cs' := [_, _, _, _, _]) rfl rfl rfl rfl rfl (yS (cs' := [_, _, _, _, _]) rfl rfl rfl rfl rfl (yQ ?_)); refine Px.Sep.mk (by kernel_rfl) ?_; refine pw_seq (pw_seq (pw_region (yMw rfl (yMd rfl (yWb (by omega) (by omega) rfl rfl rfl (yLd rfl rfl hta (yMd rfl (yO rfl (yO rfl ?_))))))))); refine yO rfl (yO rfl (yO rfl (yPd rfl rfl (yMd rfl (yO rfl (yO rfl (yO rfl (yO rfl (yO rfl ?_))))))))); refine yPd rfl rfl (yMd rfl (yO rfl (yO rfl (yO rfl (yO rfl (yO rfl (yPd rfl rfl (yMd rfl (yO rfl ?_))))))))); refine yO rfl (yO rfl (yO rfl (yO rfl (yPd rfl rfl (yQ (pw_ct rfl (pw_exit (pw_region (yMd rfl ?_))))))))); refine yB rfl rfl rfl rfl (yAd rfl (yQ (q_then ?_)))
        refine ⟨k + 1, by omega, by omega, rfl, ⟨.refl _, .refl _, .refl _, .refl _, .refl _, .refl _, .of_eq (congrArg (fun n => SV.d (dI n)) hw), trivial⟩, ⟨⟨_, rfl, lesC_eq (by rw [← hnk2, e])⟩, ⟨_, rfl, lesC_refl _⟩, trivial⟩, trivial, by simp [PS.closed, SV.ok, aget, Nat.beq, -List.map_take, -List.map_set]⟩
      | false =>
      cases t1 : (y == m2) with
      | false =>
        have s1 : (m2 == y) = false := by rw [BEq.comm]; exact t1
        have s1' : (m2 != y) = true := by rw [bne, s1]; rfl
        have e : nk = o := by rw [hn, t1, if_neg (by simp)]
        refine pw_skip (pw_seq (pw_block (pw_seq ?_))); refine pw_draw2 (id := 18) Tryz.mixed (by kernel_rfl) ?_; refine yMd rfl (yMd rfl (yW em (by omega) rfl rfl (yLs (ys := [_, _, _, _, _]) rfl rfl rfl (yMd rfl (yMd rfl (yW ei (by omega) rfl rfl (yLs (ys := [_, _, _, _, _]) rfl rfl rfl (yZ (cs := [_, _, _, _, _]) rfl rfl (yZ (cs := [_, _, _, _, _]) rfl rfl ?_))))))))); refine yS (cs' := [_, _, _, _, _]) rfl rfl rfl rfl rfl (yS (cs' := [_, _, _, _, _]) rfl rfl rfl rfl rfl (yQ ?_)); refine Px.Sep.mk (by kernel_rfl) ?_; refine pw_seq (pw_seq (pw_region (yMw rfl (yMd rfl (yWb (by omega) (by omega) rfl rfl rfl (yLd rfl rfl hta (yMd rfl (yFb rfl (yLd rfl rfl rfl ?_))))))))); refine yFb rfl (yLd rfl rfl rfl (yBsn rfl rfl (yVd rfl rfl (yMd rfl ?_)))); rw [s1]; refine yO rfl (yO rfl (yO rfl (yO rfl (yO rfl (yPd rfl rfl (yMd rfl (yO rfl (yO rfl (yO rfl ?_))))))))); refine yO rfl (yO rfl (yPd rfl rfl (yMd rfl (yO rfl (yO rfl (yO rfl (yO rfl (yO rfl (yPd rfl rfl ?_))))))))); refine yQ (pw_ct rfl (pw_exit (pw_region (yMd rfl (yB rfl rfl rfl rfl (yAd rfl (yQ (q_then ?_))))))))
        refine ⟨k + 1, by omega, by omega, rfl, ⟨.refl _, .refl _, .refl _, .refl _, .refl _, .refl _, .of_eq (congrArg (fun n => SV.d (dI n)) hw), trivial⟩, ⟨⟨_, rfl, lesC_eq (by rw [← hnk2, e])⟩, ⟨_, rfl, lesC_refl _⟩, trivial⟩, trivial, by simp [PS.closed, SV.ok, aget, Nat.beq, -List.map_take, -List.map_set]⟩
      | true =>
      have s1 : (m2 == y) = true := by rw [BEq.comm]; exact t1
      have s1' : (m2 != y) = false := by rw [bne, s1]; rfl
      cases t2 : (z == m3) with
      | false =>
        have s2 : (m3 == z) = false := by rw [BEq.comm]; exact t2
        have s2' : (m3 != z) = true := by rw [bne, s2]; rfl
        have e : nk = o := by rw [hn, t1, t2, if_neg (by simp)]
        refine pw_skip (pw_seq (pw_block (pw_seq ?_))); refine pw_draw2 (id := 18) Tryz.mixed (by kernel_rfl) ?_; refine yMd rfl (yMd rfl (yW em (by omega) rfl rfl (yLs (ys := [_, _, _, _, _]) rfl rfl rfl (yMd rfl (yMd rfl (yW ei (by omega) rfl rfl (yLs (ys := [_, _, _, _, _]) rfl rfl rfl (yZ (cs := [_, _, _, _, _]) rfl rfl (yZ (cs := [_, _, _, _, _]) rfl rfl ?_))))))))); refine yS (cs' := [_, _, _, _, _]) rfl rfl rfl rfl rfl (yS (cs' := [_, _, _, _, _]) rfl rfl rfl rfl rfl (yQ ?_)); refine Px.Sep.mk (by kernel_rfl) ?_; refine pw_seq (pw_seq (pw_region (yMw rfl (yMd rfl (yWb (by omega) (by omega) rfl rfl rfl (yLd rfl rfl hta (yMd rfl (yFb rfl (yLd rfl rfl rfl ?_))))))))); refine yFb rfl (yLd rfl rfl rfl (yBsn rfl rfl (yVd rfl rfl (yMd rfl ?_)))); rw [s1]; refine yFb rfl (yLd rfl rfl rfl (yFb rfl (yLd rfl rfl rfl (yBsn rfl rfl (yVd rfl rfl (yMd rfl ?_)))))); rw [s2]; refine yO rfl (yO rfl (yO rfl (yO rfl (yO rfl (yPd rfl rfl (yMd rfl (yO rfl (yO rfl (yO rfl ?_))))))))); refine yO rfl (yO rfl (yPd rfl rfl (yQ (pw_ct rfl (pw_exit (pw_region (yMd rfl (yB rfl rfl rfl rfl (yAd rfl ?_))))))))); refine yQ (q_then ?_)
        refine ⟨k + 1, by omega, by omega, rfl, ⟨.refl _, .refl _, .refl _, .refl _, .refl _, .refl _, .of_eq (congrArg (fun n => SV.d (dI n)) hw), trivial⟩, ⟨⟨_, rfl, lesC_eq (by rw [← hnk2, e])⟩, ⟨_, rfl, lesC_refl _⟩, trivial⟩, trivial, by simp [PS.closed, SV.ok, aget, Nat.beq, -List.map_take, -List.map_set]⟩
      | true =>
      have s2 : (m3 == z) = true := by rw [BEq.comm]; exact t2
      have s2' : (m3 != z) = false := by rw [bne, s2]; rfl
      cases t3 : (v == m4) with
      | false =>
        have s3 : (m4 == v) = false := by rw [BEq.comm]; exact t3
        have s3' : (m4 != v) = true := by rw [bne, s3]; rfl
        have e : nk = o := by rw [hn, t1, t2, t3, if_neg (by simp)]
        refine pw_skip (pw_seq (pw_block (pw_seq ?_))); refine pw_draw2 (id := 18) Tryz.mixed (by kernel_rfl) ?_; refine yMd rfl (yMd rfl (yW em (by omega) rfl rfl (yLs (ys := [_, _, _, _, _]) rfl rfl rfl (yMd rfl (yMd rfl (yW ei (by omega) rfl rfl (yLs (ys := [_, _, _, _, _]) rfl rfl rfl (yZ (cs := [_, _, _, _, _]) rfl rfl (yZ (cs := [_, _, _, _, _]) rfl rfl ?_))))))))); refine yS (cs' := [_, _, _, _, _]) rfl rfl rfl rfl rfl (yS (cs' := [_, _, _, _, _]) rfl rfl rfl rfl rfl (yQ ?_)); refine Px.Sep.mk (by kernel_rfl) ?_; refine pw_seq (pw_seq (pw_region (yMw rfl (yMd rfl (yWb (by omega) (by omega) rfl rfl rfl (yLd rfl rfl hta (yMd rfl (yFb rfl (yLd rfl rfl rfl ?_))))))))); refine yFb rfl (yLd rfl rfl rfl (yBsn rfl rfl (yVd rfl rfl (yMd rfl ?_)))); rw [s1]; refine yFb rfl (yLd rfl rfl rfl (yFb rfl (yLd rfl rfl rfl (yBsn rfl rfl (yVd rfl rfl (yMd rfl ?_)))))); rw [s2]; refine yFb rfl (yLd rfl rfl rfl (yFb rfl (yLd rfl rfl rfl (yBsn rfl rfl (yVd rfl rfl (yMd rfl ?_))))))
        rw [s3]; refine yO rfl ?_; refine yO rfl ?_; refine yO rfl ?_; refine yO rfl ?_; refine yO rfl ?_; refine yPd rfl rfl ?_; refine yQ ?_; refine pw_ct rfl ?_; refine pw_exit ?_; refine pw_region ?_; refine yMd rfl ?_
        refine yB rfl rfl rfl rfl (yAd rfl (yQ (q_then ?_)))
        refine ⟨k + 1, by omega, by omega, rfl, ⟨.refl _, .refl _, .refl _, .refl _, .refl _, .refl _, .of_eq (congrArg (fun n => SV.d (dI n)) hw), trivial⟩, ⟨⟨_, rfl, lesC_eq (by rw [← hnk2, e])⟩, ⟨_, rfl, lesC_refl _⟩, trivial⟩, trivial, by simp [PS.closed, SV.ok, aget, Nat.beq, -List.map_take, -List.map_set]⟩
      | true =>
      have s3 : (m4 == v) = true := by rw [BEq.comm]; exact t3
      have s3' : (m4 != v) = false := by rw [bne, s3]; rfl
      obtain ⟨p, hp⟩ : ∃ p, p = apt xd m1 := ⟨_, rfl⟩
      rw [← hp] at c1 hn
      by_cases h4 : p ≤ days
      rotate_left
      · have t4 : decide (p > days) = true := decide_eq_true (by omega)
        have e : nk = o := by rw [hn, t1, t2, t3, decide_eq_false h4, if_neg (by simp)]
        refine pw_skip (pw_seq (pw_block (pw_seq ?_))); refine pw_draw2 (id := 18) Tryz.mixed (by kernel_rfl) ?_; refine yMd rfl (yMd rfl (yW em (by omega) rfl rfl (yLs (ys := [_, _, _, _, _]) rfl rfl rfl (yMd rfl (yMd rfl (yW ei (by omega) rfl rfl (yLs (ys := [_, _, _, _, _]) rfl rfl rfl (yZ (cs := [_, _, _, _, _]) rfl rfl (yZ (cs := [_, _, _, _, _]) rfl rfl ?_))))))))); refine yS (cs' := [_, _, _, _, _]) rfl rfl rfl rfl rfl (yS (cs' := [_, _, _, _, _]) rfl rfl rfl rfl rfl (yQ ?_)); refine Px.Sep.mk (by kernel_rfl) ?_; refine pw_seq (pw_seq (pw_region (yMw rfl (yMd rfl (yWb (by omega) (by omega) rfl rfl rfl (yLd rfl rfl hta (yMd rfl (yFb rfl (yLd rfl rfl rfl ?_))))))))); refine yFb rfl (yLd rfl rfl rfl (yBsn rfl rfl (yVd rfl rfl (yMd rfl ?_)))); rw [s1]; refine yFb rfl (yLd rfl rfl rfl (yFb rfl (yLd rfl rfl rfl (yBsn rfl rfl (yVd rfl rfl (yMd rfl ?_)))))); rw [s2]; refine yFb rfl (yLd rfl rfl rfl (yFb rfl (yLd rfl rfl rfl (yBsn rfl rfl (yVd rfl rfl (yMd rfl ?_))))))
        rw [s3]; refine yLa (ys := [_, _, _, _, _]) rfl rfl rfl rfl ?_; refine yLa (ys := [_, _, _, _, _]) rfl rfl rfl rfl ?_; refine yC (c1) rfl rfl ?_; refine yMd rfl ?_; refine yB rfl rfl rfl rfl ?_; refine yVd rfl rfl ?_; refine yQ ?_
        refine q_then ?_; rw [t4]; refine pw_ct rfl (pw_exit (pw_region (yMd rfl (yB rfl rfl rfl rfl (yAd rfl (yQ (q_then ?_)))))))
        refine ⟨k + 1, by omega, by omega, rfl, ⟨.refl _, .refl _, .refl _, .refl _, .refl _, .refl _, .of_eq (congrArg (fun n => SV.d (dI n)) hw), trivial⟩, ⟨⟨_, rfl, lesC_eq (by rw [← hnk2, e])⟩, ⟨_, rfl, lesC_refl _⟩, trivial⟩, trivial, by simp [PS.closed, SV.ok, aget, Nat.beq, -List.map_take, -List.map_set]⟩
      have t4 : decide (p > days) = false := decide_eq_false (by omega)
      rw [t1, t2, t3, decide_eq_true h4, if_pos (by simp)] at hn
      cases o with
      | none =>
        have e : nk = some k := hn
        refine pw_skip (pw_seq (pw_block (pw_seq ?_))); refine pw_draw2 (id := 18) Tryz.mixed (by kernel_rfl) ?_; refine yMd rfl (yMd rfl (yW em (by omega) rfl rfl (yLs (ys := [_, _, _, _, _]) rfl rfl rfl (yMd rfl (yMd rfl (yW ei (by omega) rfl rfl (yLs (ys := [_, _, _, _, _]) rfl rfl rfl (yZ (cs := [_, _, _, _, _]) rfl rfl (yZ (cs := [_, _, _, _, _]) rfl rfl ?_))))))))); refine yS (cs' := [_, _, _, _, _]) rfl rfl rfl rfl rfl (yS (cs' := [_, _, _, _, _]) rfl rfl rfl rfl rfl (yQ ?_)); refine Px.Sep.mk (by kernel_rfl) ?_; refine pw_seq (pw_seq (pw_region (yMw rfl (yMd rfl (yWb (by omega) (by omega) rfl rfl rfl (yLd rfl rfl hta (yMd rfl (yFb rfl (yLd rfl rfl rfl ?_))))))))); refine yFb rfl (yLd rfl rfl rfl (yBsn rfl rfl (yVd rfl rfl (yMd rfl ?_)))); rw [s1]; refine yFb rfl (yLd rfl rfl rfl (yFb rfl (yLd rfl rfl rfl (yBsn rfl rfl (yVd rfl rfl (yMd rfl ?_)))))); rw [s2]; refine yFb rfl (yLd rfl rfl rfl (yFb rfl (yLd rfl rfl rfl (yBsn rfl rfl (yVd rfl rfl (yMd rfl ?_))))))
        rw [s3]; refine yLa (ys := [_, _, _, _, _]) rfl rfl rfl rfl ?_; refine yLa (ys := [_, _, _, _, _]) rfl rfl rfl rfl ?_; refine yC (c1) rfl rfl ?_; refine yMd rfl ?_; refine yB rfl rfl rfl rfl ?_; refine yVd rfl rfl ?_; refine yQ ?_
        refine q_then ?_; rw [t4]; refine pw_cf rfl (pw_skip (pw_seq ?_)); refine pw_draw Tryz.mixed (by kernel_rfl) ?_; refine yMw rfl (yMd rfl (yWb (by omega) (by omega) rfl rfl rfl (yLd rfl rfl hpo (yB rfl rfl rfl rfl (yMd rfl (yO rfl (yO rfl (yO rfl (yO rfl ?_))))))))); refine yO rfl (yO rfl (yO rfl (yO rfl (yO rfl (yO rfl (yO rfl (yO rfl (yO rfl (yPd rfl rfl ?_))))))))); refine yQ (pw_ct rfl (pw_region (yMw rfl (yMd rfl (yMd rfl (yWb (by omega) (by omega) rfl rfl rfl ?_)))))); refine ySd rfl rfl rfl hps ?_ (by show Nat.ble _ _ = true; simp; omega); refine yQ (pw_region (yMd rfl (yB rfl rfl rfl rfl (yAd rfl (yQ (q_then ?_))))))
        refine ⟨k + 1, by omega, by omega, rfl, ⟨.refl _, .refl _, .refl _, .refl _, .refl _, .refl _, .of_eq (congrArg (fun n => SV.d (dI n)) hw), trivial⟩, ⟨⟨_, rfl, lesC_eq (by rw [← hnk2, e])⟩, ⟨_, rfl, lesC_refl _⟩, trivial⟩, trivial, by simp [PS.closed, SV.ok, aget, Nat.beq, -List.map_take, -List.map_set]⟩
      | some c =>
        obtain ⟨hc1, hc2⟩ := hltk c rfl
        obtain ⟨⟨x2, xd2, y2, z2, v2⟩, hx2⟩ : ∃ a, ts[c]? = some a := ⟨_, List.getElem?_eq_getElem hc2⟩
        have e2 := ix dM ts c c (x2, xd2, y2, z2, v2) rfl hx2
        have hvx2 := hv2 _ (List.mem_of_getElem? hx2)
        have c2 := wRApart (m0, m1, m2, m3, m4) (x2, xd2, y2, z2, v2) hvm hvx2
        simp only [hx2] at hn c2
        rw [apt_comm] at c2
        obtain ⟨p2, hp2⟩ : ∃ p, p = apt xd2 m1 := ⟨_, rfl⟩
        rw [← hp2] at c2 hn
        have t5 : decide (ixO (some c) < 0) = false := decide_eq_false (by show ¬ ((c : Int) < 0); omega)
        have h0c : (0 : Int) ≤ ixO (some c) := by show (0 : Int) ≤ c; omega
        have e2' : (ts.map dM)[(ixO (some c)).toNat]? = some (dM (x2, xd2, y2, z2, v2)) := e2
        by_cases h6 : p < p2
        · have t6 : decide (p < p2) = true := decide_eq_true h6
          have e : nk = some k := by rw [hn, if_pos h6]
          refine pw_skip (pw_seq (pw_block (pw_seq ?_))); refine pw_draw2 (id := 18) Tryz.mixed (by kernel_rfl) ?_; refine yMd rfl (yMd rfl (yW em (by omega) rfl rfl (yLs (ys := [_, _, _, _, _]) rfl rfl rfl (yMd rfl (yMd rfl (yW ei (by omega) rfl rfl (yLs (ys := [_, _, _, _, _]) rfl rfl rfl (yZ (cs := [_, _, _, _, _]) rfl rfl (yZ (cs := [_, _, _, _, _]) rfl rfl ?_))))))))); refine yS (cs' := [_, _, _, _, _]) rfl rfl rfl rfl rfl (yS (cs' := [_, _, _, _, _]) rfl rfl rfl rfl rfl (yQ ?_)); refine Px.Sep.mk (by kernel_rfl) ?_; refine pw_seq (pw_seq (pw_region (yMw rfl (yMd rfl (yWb (by omega) (by omega) rfl rfl rfl (yLd rfl rfl hta (yMd rfl (yFb rfl (yLd rfl rfl rfl ?_))))))))); refine yFb rfl (yLd rfl rfl rfl (yBsn rfl rfl (yVd rfl rfl (yMd rfl ?_)))); rw [s1]; refine yFb rfl (yLd rfl rfl rfl (yFb rfl (yLd rfl rfl rfl (yBsn rfl rfl (yVd rfl rfl (yMd rfl ?_)))))); rw [s2]; refine yFb rfl (yLd rfl rfl rfl (yFb rfl (yLd rfl rfl rfl (yBsn rfl rfl (yVd rfl rfl (yMd rfl ?_))))))
          rw [s3]; refine yLa (ys := [_, _, _, _, _]) rfl rfl rfl rfl ?_; refine yLa (ys := [_, _, _, _, _]) rfl rfl rfl rfl ?_; refine yC (c1) rfl rfl ?_; refine yMd rfl ?_; refine yB rfl rfl rfl rfl ?_; refine yVd rfl rfl ?_; refine yQ ?_
          refine q_then ?_; rw [t4]; refine pw_cf rfl (pw_skip (pw_seq ?_)); refine pw_draw Tryz.mixed (by kernel_rfl) ?_; refine yMw rfl (yMd rfl (yWb (by omega) (by omega) rfl rfl rfl (yLd rfl rfl hpo (yB rfl rfl rfl rfl (yMd rfl (yLa (ys := [_, _, _, _, _]) rfl rfl rfl rfl (yLa (ys := [_, _, _, _, _]) rfl rfl rfl rfl (yC (c1) rfl rfl (yLa (ys := [_, _, _, _, _]) rfl rfl rfl rfl ?_))))))))); refine yMd rfl (yMw rfl (yMd rfl (yWb (by omega) (by omega) rfl rfl rfl (yLd rfl rfl hpo (yW e2' h0c rfl rfl (yLs (ys := [_, _, _, _, _]) rfl rfl rfl (yC c2 rfl rfl (yB rfl rfl rfl rfl (yVd rfl rfl ?_))))))))); refine yQ (q_then ?_); rw [t5]; rw [t6]; refine pw_ct rfl (pw_region (yMw rfl (yMd rfl (yMd rfl (yWb (by omega) (by omega) rfl rfl rfl ?_))))); refine ySd rfl rfl rfl hps ?_ (by show Nat.ble _ _ = true; simp; omega); refine yQ (pw_region (yMd rfl (yB rfl rfl rfl rfl (yAd rfl (yQ (q_then ?_))))))
          refine ⟨k + 1, by omega, by omega, rfl, ⟨.refl _, .refl _, .refl _, .refl _, .refl _, .refl _, .of_eq (congrArg (fun n => SV.d (dI n)) hw), trivial⟩, ⟨⟨_, rfl, lesC_eq (by rw [← hnk2, e])⟩, ⟨_, rfl, lesC_refl _⟩, trivial⟩, trivial, by simp [PS.closed, SV.ok, aget, Nat.beq, -List.map_take, -List.map_set]⟩
        · have t6 : decide (p < p2) = false := decide_eq_false h6
          have e : nk = some c := by rw [hn, if_neg h6]
          refine pw_skip (pw_seq (pw_block (pw_seq ?_))); refine pw_draw2 (id := 18) Tryz.mixed (by kernel_rfl) ?_; refine yMd rfl (yMd rfl (yW em (by omega) rfl rfl (yLs (ys := [_, _, _, _, _]) rfl rfl rfl (yMd rfl (yMd rfl (yW ei (by omega) rfl rfl (yLs (ys := [_, _, _, _, _]) rfl rfl rfl (yZ (cs := [_, _, _, _, _]) rfl rfl (yZ (cs := [_, _, _, _, _]) rfl rfl ?_))))))))); refine yS (cs' := [_, _, _, _, _]) rfl rfl rfl rfl rfl (yS (cs' := [_, _, _, _, _]) rfl rfl rfl rfl rfl (yQ ?_)); refine Px.Sep.mk (by kernel_rfl) ?_; refine pw_seq (pw_seq (pw_region (yMw rfl (yMd rfl (yWb (by omega) (by omega) rfl rfl rfl (yLd rfl rfl hta (yMd rfl (yFb rfl (yLd rfl rfl rfl ?_))))))))); refine yFb rfl (yLd rfl rfl rfl (yBsn rfl rfl (yVd rfl rfl (yMd rfl ?_)))); rw [s1]; refine yFb rfl (yLd rfl rfl rfl (yFb rfl (yLd rfl rfl rfl (yBsn rfl rfl (yVd rfl rfl (yMd rfl ?_)))))); rw [s2]; refine yFb rfl (yLd rfl rfl rfl (yFb rfl (yLd rfl rfl rfl (yBsn rfl rfl (yVd rfl rfl (yMd rfl ?_))))))
          rw [s3]; refine yLa (ys := [_, _, _, _, _]) rfl rfl rfl rfl ?_; refine yLa (ys := [_, _, _, _, _]) rfl rfl rfl rfl ?_; refine yC (c1) rfl rfl ?_; refine yMd rfl ?_; refine yB rfl rfl rfl rfl ?_; refine yVd rfl rfl ?_; refine yQ ?_
          refine q_then ?_; rw [t4]; refine pw_cf rfl (pw_skip (pw_seq ?_)); refine pw_draw Tryz.mixed (by kernel_rfl) ?_; refine yMw rfl (yMd rfl (yWb (by omega) (by omega) rfl rfl rfl (yLd rfl rfl hpo (yB rfl rfl rfl rfl (yMd rfl (yLa (ys := [_, _, _, _, _]) rfl rfl rfl rfl (yLa (ys := [_, _, _, _, _]) rfl rfl rfl rfl (yC (c1) rfl rfl (yLa (ys := [_, _, _, _, _]) rfl rfl rfl rfl ?_))))))))); refine yMd rfl (yMw rfl (yMd rfl (yWb (by omega) (by omega) rfl rfl rfl (yLd rfl rfl hpo (yW e2' h0c rfl rfl (yLs (ys := [_, _, _, _, _]) rfl rfl rfl (yC c2 rfl rfl (yB rfl rfl rfl rfl (yVd rfl rfl ?_))))))))); refine yQ (q_then ?_); rw [t5]; rw [t6]; refine pw_cf rfl (pw_skip (pw_region (yMd rfl (yB rfl rfl rfl rfl (yAd rfl (yQ (q_then ?_)))))))
          refine ⟨k + 1, by omega, by omega, rfl, ⟨.refl _, .refl _, .refl _, .refl _, .refl _, .refl _, .of_eq (congrArg (fun n => SV.d (dI n)) hw), trivial⟩, ⟨⟨_, rfl, lesC_eq (by rw [← hnk2, e])⟩, ⟨_, rfl, lesC_refl _⟩, trivial⟩, trivial, by simp [PS.closed, SV.ok, aget, Nat.beq, -List.map_take, -List.map_set]⟩
    · simp at h2
      have hek := hendk (by omega)
      rw [hek] at hn2
      cases o with
      | none =>
        have e : nx = (pl, tk) := hn2
        refine pw_exit (pw_seq (pw_region (yMw rfl (yMd rfl (yWb (by omega) (by omega) rfl rfl rfl (yLd rfl rfl hpo (yB rfl rfl rfl rfl (yQ (pw_cf rfl ?_))))))))); refine pw_skip (pw_region (yMd rfl (yB rfl rfl rfl rfl (yAd rfl (yQ (q_then ?_))))))
        refine ⟨i + 1, by omega, by omega, rfl, ⟨.refl _, .refl _, .refl _, .refl _, .refl _, .of_eq (congrArg (fun n => SV.d (dI n)) hwi), trivial⟩, ⟨⟨_, rfl, lesC_eq (by rw [← hnx, e, ← hset0])⟩, ⟨_, rfl, lesC_eq (by rw [← hnx, e])⟩, trivial⟩, trivial, by simp [PS.closed, SV.ok, aget, Nat.beq, -List.map_take, -List.map_set]⟩
      | some c =>
        obtain ⟨hc1, hc2⟩ := hltk c rfl
        have e : nx = (pl.set i (some c), tk.set c true) := hn2
        have t1 : decide (ixO (some c) ≥ 0) = true := decide_eq_true (by show (c : Int) ≥ 0; omega)
        have hs2' := tc_set tk c
        refine pw_exit (pw_seq (pw_region (yMw rfl (yMd rfl (yWb (by omega) (by omega) rfl rfl rfl (yLd rfl rfl hpo (yB rfl rfl rfl rfl (yQ (pw_ct rfl ?_))))))))); refine pw_region (yMw rfl (yMw rfl (yMd rfl (yWb (by omega) (by omega) rfl rfl rfl (yLd rfl rfl hpo (yWb (by show (0 : Int) ≤ c; omega) (by show (c : Int) < _; omega) rfl rfl rfl ?_)))))); refine ySd rfl rfl rfl hs2' ?_ (by show Nat.ble _ _ = true; simp [ixO]; omega); refine yQ (pw_region (yMd rfl (yB rfl rfl rfl rfl (yAd rfl (yQ (q_then ?_)))))); rw [t1]
        refine ⟨i + 1, by omega, by omega, rfl, ⟨.refl _, .refl _, .refl _, .refl _, .refl _, .of_eq (congrArg (fun n => SV.d (dI n)) hwi), trivial⟩, ⟨⟨_, rfl, lesC_eq (by rw [← hnx, e])⟩, ⟨_, rfl, lesC_eq (by rw [← hnx, e])⟩, trivial⟩, trivial, by simp [PS.closed, SV.ok, aget, Nat.beq, -List.map_take, -List.map_set]⟩
  · simp at h
    have e := hend (by omega)
    rw [e]
    simp only
    refine pw_frz 7 15 (ds := pl.map fun o => dI (ixO o)) (es := (pl.map ixO).map dZ) (by simp [hlen.1]) (by rw [← hlen.1, chunk_one]; simp) (toDs_map _ _) rfl rfl ?_; refine pw_exit (pw_seq (pw_region (yMd rfl (yAd rfl (yQ (pw_ret ?_))))))
    exact q_ret _ (.tmp rfl .nil) rfl
end Go.Proofs.YtdkpmnefoobipaaGreatDoor
namespace Go.Proofs.YtdkpmnefoobipaaGreatDoor
open Go.RowKit Px

theorem ixs' {l : List (Option Nat)} {i : Nat} (h : i < l.length) : ((l.map ixO).map dZ)[(i : Int).toNat]? = some (dZ (ixO (l[i]?.getD none))) := by
  rw [Int.toNat_natCast]
  simp [List.getElem?_eq_getElem h]
def ptk (l : List Int) (k : Nat) : Bool := prd l k
end Go.Proofs.YtdkpmnefoobipaaGreatDoor
namespace Go.Proofs.YtdkpmnefoobipaaGreatDoor
open Go.RowKit Px

set_option maxRecDepth 20000 in
set_option maxHeartbeats 2000000 in
theorem wCheckMovements (ms : List Mv) (d : Int) (hl : ms.length ≤ 1000) (ho : ∀ m ∈ ms, okM m) : PCalls Tryz.prog 100 [.sl 5 (ms.map dM), dI d] (.d (dI (fstE (mE d ms) ms.length))) := by
  obtain ⟨r, hr⟩ : ∃ r, r = fstE (mE d ms) ms.length := ⟨_, rfl⟩
  rw [← hr]
  refine pcalls_of_pw Tryz.func100 rfl Tryz.ntmps100 Tryz.results100 (by simp) fun B w0 => ?_
  have t0 : decide (((ms.map dM).length : Int) > 1000) = false := decide_eq_false (by simp; omega)
  refine pw_seq (pw_region (yAd rfl (yQ (pw_seq (pw_seq (pw_region (yMd rfl (yN rfl (yB rfl rfl rfl rfl ?_))))))))); rw [t0]; refine yQ (pw_cf rfl (pw_skip (pw_seq (pw_seq (pw_region (yMd rfl (yN rfl (yMd rfl (yQ ?_))))))))); refine pw_block ?_; refine pw_loop (fun i : Nat => ⟨67, [(0, .d (.sl 5 (ms.map dM))), (1, .d (dI d)), (11, .d (.sl 5 (ms.map dM))), (12, .d (dI ms.length)), (13, .d (dI i))], [], []⟩) (fun i => i ≤ ms.length ∧ fstE (mE d ms) i = 0) (fun i => ms.length - i) 0 ⟨Nat.zero_le _, rfl⟩ ⟨rfl, ⟨.refl _, .refl _, .refl _, .of_eq (congrArg (fun n : Nat => SV.d (dI n)) (by simp)), .refl _, trivial⟩, trivial, trivial, rfl⟩ ?_
  rintro i ⟨hi, h0⟩
  refine pw_seq (pw_region (yB rfl rfl rfl rfl (yQ (pw_seq ?_)))); refine pw_cond rfl (fun h => ?_) (fun h => ?_)
  · simp at h
    obtain ⟨⟨x, q, y, z, u⟩, hx⟩ : ∃ a, ms[i]? = some a := ⟨_, List.getElem?_eq_getElem h⟩
    have ei := ix dM ms i i (x, q, y, z, u) rfl hx
    obtain ⟨k1, k2, k3, k4⟩ := ho (x, q, y, z, u) (List.mem_of_getElem? hx)
    simp only at k1 k2 k3 k4
    have hw := wrapI ((i : Int) + 1) (by omega)
    have c1 := wName x
    have c2 := wName y
    have c3 := wNumber [z, u] (by simp) (fun a ha => by
      rcases List.mem_cons.1 ha with e | e
      · rw [e]; exact k3
      · rw [List.mem_singleton.1 e]; exact k4)
    have c4 := wValid q
    have he : mE d ms i = errM d (if i = 0 then none else (ms[i - 1]?).map (·.2.1)) (x, q, y, z, u) := by unfold mE; rw [hx]
    have hat : mE d ms i ≠ 0 → r = mE d ms i := fun e => by rw [hr]; exact fstE_at h0 e _ h
    obtain ⟨na, hna⟩ : ∃ b, b = nameB x := ⟨_, rfl⟩
    obtain ⟨nb, hnb⟩ : ∃ b, b = nameB y := ⟨_, rfl⟩
    obtain ⟨ne, hne⟩ : ∃ b, b = numE [z, u] := ⟨_, rfl⟩
    obtain ⟨vq, hvq⟩ : ∃ b, b = vD q := ⟨_, rfl⟩
    unfold errM at he
    simp only [← hna, ← hnb, ← hne, ← hvq] at he
    rw [← hna] at c1
    rw [← hnb] at c2
    rw [← hne] at c3
    rw [← hvq] at c4
    cases na with
    | false =>
      have e : r = 23 := by
        have e1 : mE d ms i = 23 := by rw [he]; rfl
        rw [hat (by rw [e1]; decide), e1]
      rw [e]
      refine pw_skip (pw_seq (pw_block (pw_seq (pw_region (yMd rfl (yW ei (by omega) rfl rfl (yLs (ys := [_, _, _, _, _]) rfl rfl rfl (yZ (cs := [_, _, _, _, _]) rfl rfl (yAd rfl ?_))))))))); refine yS (cs' := [_, _, _, _, _]) rfl rfl rfl rfl rfl (yQ (pw_seq (pw_block (pw_seq (pw_region (yFb rfl (yLd rfl rfl rfl (yC (c1) rfl rfl (yU rfl rfl rfl ?_))))))))); refine yAd rfl (yQ (pw_ct rfl (pw_seq (pw_region (yAd rfl (yQ (pw_ret (q_blk_ret (q_then_ret ?_))))))))); refine q_blk_ret (q_then_ret (q_then_ret (q_blk_ret (q_then_ret ?_))))
      exact q_ret _ (.tmp rfl .nil) rfl
    | true =>
      cases vq with
      | false =>
        have e : r = 13 := by
          have e1 : mE d ms i = 13 := by rw [he]; rfl
          rw [hat (by rw [e1]; decide), e1]
        rw [e]
        refine pw_skip (pw_seq (pw_block (pw_seq (pw_region (yMd rfl (yW ei (by omega) rfl rfl (yLs (ys := [_, _, _, _, _]) rfl rfl rfl (yZ (cs := [_, _, _, _, _]) rfl rfl (yAd rfl ?_))))))))); refine yS (cs' := [_, _, _, _, _]) rfl rfl rfl rfl rfl (yQ (pw_seq (pw_block (pw_seq (pw_region (yFb rfl (yLd rfl rfl rfl (yC (c1) rfl rfl (yU rfl rfl rfl ?_))))))))); refine yAd rfl (yQ (pw_cf rfl (pw_seq (pw_region (yFb rfl (yLd rfl rfl rfl (yC (c4) rfl rfl (yU rfl rfl rfl (yMd rfl ?_))))))))); refine yO rfl (yO rfl (yO rfl (yO rfl (yPd rfl rfl (yAd rfl (yQ (pw_ct rfl (pw_seq (pw_region ?_))))))))); refine yAd rfl (yQ (pw_ret (q_blk_ret (q_then_ret (q_blk_ret (q_then_ret (q_then_ret (q_blk_ret (q_then_ret ?_)))))))))
        exact q_ret _ (.tmp rfl .nil) rfl
      | true =>
      by_cases hq : d < q
      · have t1 : decide (q > d) = true := decide_eq_true hq
        have e : r = 13 := by
          have e1 : mE d ms i = 13 := by rw [he, decide_eq_true hq]; rfl
          rw [hat (by rw [e1]; decide), e1]
        rw [e]
        refine pw_skip (pw_seq (pw_block (pw_seq (pw_region (yMd rfl (yW ei (by omega) rfl rfl (yLs (ys := [_, _, _, _, _]) rfl rfl rfl (yZ (cs := [_, _, _, _, _]) rfl rfl (yAd rfl ?_))))))))); refine yS (cs' := [_, _, _, _, _]) rfl rfl rfl rfl rfl (yQ (pw_seq (pw_block (pw_seq (pw_region (yFb rfl (yLd rfl rfl rfl (yC (c1) rfl rfl (yU rfl rfl rfl ?_))))))))); refine yAd rfl (yQ (pw_cf rfl (pw_seq (pw_region (yFb rfl (yLd rfl rfl rfl (yC (c4) rfl rfl (yU rfl rfl rfl (yMd rfl ?_))))))))); refine yFb rfl (yLd rfl rfl rfl (yMd rfl (yB rfl rfl rfl rfl ?_))); rw [t1]; refine yVd rfl rfl (yAd rfl (yQ (pw_ct rfl (pw_seq (pw_region (yAd rfl (yQ (pw_ret (q_blk_ret ?_))))))))); refine q_then_ret (q_blk_ret (q_then_ret (q_then_ret (q_blk_ret (q_then_ret ?_)))))
        exact q_ret _ (.tmp rfl .nil) rfl
      have t1 : decide (q > d) = false := decide_eq_false hq
      rw [decide_eq_false hq] at he
      cases nb with
      | false =>
        have e : r = 23 := by
          have e1 : mE d ms i = 23 := by rw [he]; rfl
          rw [hat (by rw [e1]; decide), e1]
        rw [e]
        refine pw_skip (pw_seq (pw_block (pw_seq (pw_region (yMd rfl (yW ei (by omega) rfl rfl (yLs (ys := [_, _, _, _, _]) rfl rfl rfl (yZ (cs := [_, _, _, _, _]) rfl rfl (yAd rfl ?_))))))))); refine yS (cs' := [_, _, _, _, _]) rfl rfl rfl rfl rfl (yQ (pw_seq (pw_block (pw_seq (pw_region (yFb rfl (yLd rfl rfl rfl (yC (c1) rfl rfl (yU rfl rfl rfl ?_))))))))); refine yAd rfl (yQ (pw_cf rfl (pw_seq (pw_region (yFb rfl (yLd rfl rfl rfl (yC (c4) rfl rfl (yU rfl rfl rfl (yMd rfl ?_))))))))); refine yFb rfl (yLd rfl rfl rfl (yMd rfl (yB rfl rfl rfl rfl ?_))); rw [t1]; refine yVd rfl rfl (yAd rfl (yQ (pw_cf rfl (pw_seq (pw_region (yFb rfl (yLd rfl rfl rfl (yC c2 rfl rfl (yU rfl rfl rfl ?_))))))))); refine yAd rfl (yQ (pw_ct rfl (pw_seq (pw_region (yAd rfl (yQ (pw_ret (q_blk_ret (q_then_ret ?_))))))))); refine q_blk_ret (q_then_ret (q_then_ret (q_blk_ret (q_then_ret ?_))))
        exact q_ret _ (.tmp rfl .nil) rfl
      | true =>
      by_cases hz : ne = 0
      rotate_left
      · have t2 : (ne != 0) = true := by simpa using hz
        have t3 : (ne == 0) = false := by simpa using hz
        have e : r = ne := by
          have e1 : mE d ms i = ne := by rw [he, t3]; rfl
          rw [hat (by rw [e1]; exact hz), e1]
        rw [e]
        refine pw_skip (pw_seq (pw_block (pw_seq (pw_region (yMd rfl (yW ei (by omega) rfl rfl (yLs (ys := [_, _, _, _, _]) rfl rfl rfl (yZ (cs := [_, _, _, _, _]) rfl rfl (yAd rfl ?_))))))))); refine yS (cs' := [_, _, _, _, _]) rfl rfl rfl rfl rfl (yQ (pw_seq (pw_block (pw_seq (pw_region (yFb rfl (yLd rfl rfl rfl (yC (c1) rfl rfl (yU rfl rfl rfl ?_))))))))); refine yAd rfl (yQ (pw_cf rfl (pw_seq (pw_region (yFb rfl (yLd rfl rfl rfl (yC (c4) rfl rfl (yU rfl rfl rfl (yMd rfl ?_))))))))); refine yFb rfl (yLd rfl rfl rfl (yMd rfl (yB rfl rfl rfl rfl ?_))); rw [t1]; refine yVd rfl rfl (yAd rfl (yQ (pw_cf rfl (pw_seq (pw_region (yFb rfl (yLd rfl rfl rfl (yC (c2) rfl rfl (yU rfl rfl rfl ?_))))))))); refine yAd rfl (yQ (pw_cf rfl (pw_skip (pw_seq (pw_seq (pw_region (yFb rfl (yLd rfl rfl rfl (yFb rfl ?_))))))))); refine yLd rfl rfl rfl (yR (es := [[_], [_]]) rfl rfl rfl rfl rfl (yC (c3) rfl rfl (yAd rfl (yQ (pw_seq (pw_region (yMd rfl (yB rfl rfl rfl rfl ?_)))))))); rw [t2]; refine yQ (pw_ct rfl (pw_seq (pw_region (yMd rfl (yAd rfl (yQ (pw_ret (q_then_ret (q_blk_ret ?_))))))))); refine q_then_ret (q_then_ret (q_blk_ret (q_then_ret ?_)))
        exact q_ret _ (.tmp rfl .nil) rfl
      subst hz
      have hyn : (z == ([] : Str)) = true ∨ (z == ([] : Str)) = false := by cases (z == ([] : Str)) <;> simp
      rcases hyn with t2 | t2
      · have e : r = 2 := by
          have e1 : mE d ms i = 2 := by rw [he, t2]; rfl
          rw [hat (by rw [e1]; decide), e1]
        rw [e]
        refine pw_skip (pw_seq (pw_block (pw_seq (pw_region (yMd rfl (yW ei (by omega) rfl rfl (yLs (ys := [_, _, _, _, _]) rfl rfl rfl (yZ (cs := [_, _, _, _, _]) rfl rfl (yAd rfl ?_))))))))); refine yS (cs' := [_, _, _, _, _]) rfl rfl rfl rfl rfl (yQ (pw_seq (pw_block (pw_seq (pw_region (yFb rfl (yLd rfl rfl rfl (yC (c1) rfl rfl (yU rfl rfl rfl ?_))))))))); refine yAd rfl (yQ (pw_cf rfl (pw_seq (pw_region (yFb rfl (yLd rfl rfl rfl (yC (c4) rfl rfl (yU rfl rfl rfl (yMd rfl ?_))))))))); refine yFb rfl (yLd rfl rfl rfl (yMd rfl (yB rfl rfl rfl rfl ?_))); rw [t1]; refine yVd rfl rfl (yAd rfl (yQ (pw_cf rfl (pw_seq (pw_region (yFb rfl (yLd rfl rfl rfl (yC (c2) rfl rfl (yU rfl rfl rfl ?_))))))))); refine yAd rfl (yQ (pw_cf rfl (pw_skip (pw_seq (pw_seq (pw_region (yFb rfl (yLd rfl rfl rfl (yFb rfl ?_))))))))); refine yLd rfl rfl rfl (yR (es := [[_], [_]]) rfl rfl rfl rfl rfl (yC (c3) rfl rfl (yAd rfl (yQ (pw_seq (pw_region (yMd rfl (yB rfl rfl rfl rfl (yQ ?_))))))))); refine pw_cf rfl (pw_skip (pw_block (pw_seq (pw_region (yFb rfl (yLd rfl rfl rfl (yBse rfl rfl ?_))))))); rw [t2]; refine yAd rfl (yQ (pw_ct rfl (pw_seq (pw_region (yAd rfl (yQ (pw_ret (q_blk_ret (q_blk_ret ?_))))))))); refine q_then_ret (q_then_ret (q_blk_ret (q_then_ret ?_)))
        exact q_ret _ (.tmp rfl .nil) rfl
      rw [t2] at he
      by_cases hi0 : i = 0
      · subst hi0
        have e1 : mE d ms 0 = 0 := by rw [he]; rfl
        refine pw_skip (pw_seq (pw_block (pw_seq (pw_region (yMd rfl (yW ei (by omega) rfl rfl (yLs (ys := [_, _, _, _, _]) rfl rfl rfl (yZ (cs := [_, _, _, _, _]) rfl rfl (yAd rfl ?_))))))))); refine yS (cs' := [_, _, _, _, _]) rfl rfl rfl rfl rfl (yQ (pw_seq (pw_block (pw_seq (pw_region (yFb rfl (yLd rfl rfl rfl (yC (c1) rfl rfl (yU rfl rfl rfl ?_))))))))); refine yAd rfl (yQ (pw_cf rfl (pw_seq (pw_region (yFb rfl (yLd rfl rfl rfl (yC (c4) rfl rfl (yU rfl rfl rfl (yMd rfl ?_))))))))); refine yFb rfl (yLd rfl rfl rfl (yMd rfl (yB rfl rfl rfl rfl ?_))); rw [t1]; refine yVd rfl rfl (yAd rfl (yQ (pw_cf rfl (pw_seq (pw_region (yFb rfl (yLd rfl rfl rfl (yC (c2) rfl rfl (yU rfl rfl rfl ?_))))))))); refine yAd rfl (yQ (pw_cf rfl (pw_skip (pw_seq (pw_seq (pw_region (yFb rfl (yLd rfl rfl rfl (yFb rfl ?_))))))))); refine yLd rfl rfl rfl (yR (es := [[_], [_]]) rfl rfl rfl rfl rfl (yC (c3) rfl rfl (yAd rfl (yQ (pw_seq (pw_region (yMd rfl (yB rfl rfl rfl rfl (yQ ?_))))))))); refine pw_cf rfl (pw_skip (pw_block (pw_seq (pw_region (yFb rfl (yLd rfl rfl rfl (yBse rfl rfl ?_))))))); rw [t2]; refine yAd rfl (yQ (pw_cf rfl (pw_seq ?_))); refine pw_draw Tryz.mixed (by kernel_rfl) ?_; refine yMd rfl (yB rfl rfl rfl rfl (yMd rfl (yO rfl (yO rfl (yO rfl (yO rfl (yO rfl (yO rfl (yO rfl ?_))))))))); refine yO rfl (yO rfl (yVd rfl rfl (yAd rfl (yQ (pw_cf rfl (pw_skip (pw_region (yB rfl rfl rfl rfl (yMd rfl ?_))))))))); refine yQ (q_then ?_)
        refine ⟨1, ⟨by omega, fstE_next h0 e1⟩, by omega, rfl, ⟨.refl _, .refl _, .refl _, .refl _, .of_eq (congrArg (fun n => SV.d (dI n)) hw), trivial⟩, trivial, trivial, rfl⟩
      have t3 : decide ((i : Int) > 0) = true := decide_eq_true (by omega)
      obtain ⟨⟨px, pq, py, pz, pu⟩, hp⟩ : ∃ a, ms[i - 1]? = some a := ⟨_, List.getElem?_eq_getElem (by omega)⟩
      have ep := ix dM ms _ (i - 1) (px, pq, py, pz, pu) (prevI (by omega) (by omega)) hp
      rw [if_neg hi0, hp] at he
      simp only [Option.map_some] at he
      have h0p : (0 : Int) ≤ IntKind.i64.wrap ((i : Int) - 1) := by rw [prevI (by omega) (by omega)]; omega
      by_cases hlt : q < pq
      · have t4 : decide (q < pq) = true := decide_eq_true hlt
        have e : r = 8 := by
          have e1 : mE d ms i = 8 := by rw [he, t4]; rfl
          rw [hat (by rw [e1]; decide), e1]
        rw [e]
        refine pw_skip (pw_seq (pw_block (pw_seq (pw_region (yMd rfl (yW ei (by omega) rfl rfl (yLs (ys := [_, _, _, _, _]) rfl rfl rfl (yZ (cs := [_, _, _, _, _]) rfl rfl (yAd rfl ?_))))))))); refine yS (cs' := [_, _, _, _, _]) rfl rfl rfl rfl rfl (yQ (pw_seq (pw_block (pw_seq (pw_region (yFb rfl (yLd rfl rfl rfl (yC (c1) rfl rfl (yU rfl rfl rfl ?_))))))))); refine yAd rfl (yQ (pw_cf rfl (pw_seq (pw_region (yFb rfl (yLd rfl rfl rfl (yC (c4) rfl rfl (yU rfl rfl rfl (yMd rfl ?_))))))))); refine yFb rfl (yLd rfl rfl rfl (yMd rfl (yB rfl rfl rfl rfl ?_))); rw [t1]; refine yVd rfl rfl (yAd rfl (yQ (pw_cf rfl (pw_seq (pw_region (yFb rfl (yLd rfl rfl rfl (yC (c2) rfl rfl (yU rfl rfl rfl ?_))))))))); refine yAd rfl (yQ (pw_cf rfl (pw_skip (pw_seq (pw_seq (pw_region (yFb rfl (yLd rfl rfl rfl (yFb rfl ?_))))))))); refine yLd rfl rfl rfl (yR (es := [[_], [_]]) rfl rfl rfl rfl rfl (yC (c3) rfl rfl (yAd rfl (yQ (pw_seq (pw_region (yMd rfl (yB rfl rfl rfl rfl (yQ ?_))))))))); refine pw_cf rfl (pw_skip (pw_block (pw_seq (pw_region (yFb rfl (yLd rfl rfl rfl (yBse rfl rfl ?_))))))); rw [t2]; refine yAd rfl (yQ (pw_cf rfl (pw_seq ?_))); refine pw_draw Tryz.mixed (by kernel_rfl) ?_; refine yMd rfl (yB rfl rfl rfl rfl ?_); rw [t3]; refine yMd rfl (yFb rfl (yLd rfl rfl rfl (yMd rfl (yMd rfl (yB rfl rfl rfl rfl (yW ep h0p rfl rfl (yFr rfl rfl (yLr rfl rfl (yB rfl rfl rfl rfl ?_))))))))); rw [t4]; refine yPd rfl rfl (yAd rfl (yQ (pw_ct rfl (pw_seq (pw_region (yAd rfl (yQ (pw_ret (q_blk_ret ?_))))))))); refine q_blk_ret (q_then_ret (q_then_ret (q_blk_ret (q_then_ret ?_))))
        exact q_ret _ (.tmp rfl .nil) rfl
      · have t4 : decide (q < pq) = false := decide_eq_false hlt
        have e1 : mE d ms i = 0 := by rw [he, t4]; rfl
        refine pw_skip (pw_seq (pw_block (pw_seq (pw_region (yMd rfl (yW ei (by omega) rfl rfl (yLs (ys := [_, _, _, _, _]) rfl rfl rfl (yZ (cs := [_, _, _, _, _]) rfl rfl (yAd rfl ?_))))))))); refine yS (cs' := [_, _, _, _, _]) rfl rfl rfl rfl rfl (yQ (pw_seq (pw_block (pw_seq (pw_region (yFb rfl (yLd rfl rfl rfl (yC (c1) rfl rfl (yU rfl rfl rfl ?_))))))))); refine yAd rfl (yQ (pw_cf rfl (pw_seq (pw_region (yFb rfl (yLd rfl rfl rfl (yC (c4) rfl rfl (yU rfl rfl rfl (yMd rfl ?_))))))))); refine yFb rfl (yLd rfl rfl rfl (yMd rfl (yB rfl rfl rfl rfl ?_))); rw [t1]; refine yVd rfl rfl (yAd rfl (yQ (pw_cf rfl (pw_seq (pw_region (yFb rfl (yLd rfl rfl rfl (yC (c2) rfl rfl (yU rfl rfl rfl ?_))))))))); refine yAd rfl (yQ (pw_cf rfl (pw_skip (pw_seq (pw_seq (pw_region (yFb rfl (yLd rfl rfl rfl (yFb rfl ?_))))))))); refine yLd rfl rfl rfl (yR (es := [[_], [_]]) rfl rfl rfl rfl rfl (yC (c3) rfl rfl (yAd rfl (yQ (pw_seq (pw_region (yMd rfl (yB rfl rfl rfl rfl (yQ ?_))))))))); refine pw_cf rfl (pw_skip (pw_block (pw_seq (pw_region (yFb rfl (yLd rfl rfl rfl (yBse rfl rfl ?_))))))); rw [t2]; refine yAd rfl (yQ (pw_cf rfl (pw_seq ?_))); refine pw_draw Tryz.mixed (by kernel_rfl) ?_; refine yMd rfl (yB rfl rfl rfl rfl ?_); rw [t3]; refine yMd rfl (yFb rfl (yLd rfl rfl rfl (yMd rfl (yMd rfl (yB rfl rfl rfl rfl (yW ep h0p rfl rfl (yFr rfl rfl (yLr rfl rfl (yB rfl rfl rfl rfl ?_))))))))); rw [t4]; refine yPd rfl rfl (yAd rfl (yQ (pw_cf rfl (pw_skip (pw_region (yB rfl rfl rfl rfl (yMd rfl (yQ (q_then ?_)))))))))
        refine ⟨i + 1, ⟨by omega, fstE_next h0 e1⟩, by omega, rfl, ⟨.refl _, .refl _, .refl _, .refl _, .of_eq (congrArg (fun n => SV.d (dI n)) hw), trivial⟩, trivial, trivial, rfl⟩
  · simp at h
    have e : r = 0 := by rw [hr, show ms.length = i by omega]; exact h0
    rw [e]
    refine pw_exit (pw_seq (pw_region (yAd rfl (yQ (pw_ret ?_)))))
    exact q_ret _ (.tmp rfl .nil) rfl

set_option maxRecDepth 20000 in
set_option maxHeartbeats 1000000 in
theorem wStCheck (s : Stm) (hs : fitS s) : PCalls Tryz.prog 68 [.agg (dSt s)] (.d (dI (stE s))) := by
  obtain ⟨d, hs', ms⟩ := s
  have c1 := wValid d
  have c2 := wCheckHoldings hs' hs.hl hs.h
  have c3 := wCheckMovements ms d hs.ml hs.m
  have he : stE ⟨d, hs', ms⟩ = bif !vD d then 13 else bif !(fstE (hE hs') hs'.length == 0) then fstE (hE hs') hs'.length else fstE (mE d ms) ms.length := rfl
  obtain ⟨r, hr⟩ : ∃ r, r = stE ⟨d, hs', ms⟩ := ⟨_, rfl⟩
  obtain ⟨vq, hvq⟩ : ∃ b, b = vD d := ⟨_, rfl⟩
  obtain ⟨e2, he2⟩ : ∃ b, b = fstE (hE hs') hs'.length := ⟨_, rfl⟩
  obtain ⟨e3, he3⟩ : ∃ b, b = fstE (mE d ms) ms.length := ⟨_, rfl⟩
  rw [← hr, ← hvq, ← he2, ← he3] at he
  rw [← hr]
  rw [← hvq] at c1
  rw [← he2] at c2
  rw [← he3] at c3
  refine pcalls_of_pw Tryz.func68 rfl Tryz.ntmps68 Tryz.results68 (by simp) fun B w0 => ?_
  cases vq with
  | false =>
    rw [he]
    refine pw_seq (pw_region (yK (cs := [_, _, _]) rfl rfl (yAd rfl (yQ (pw_seq (pw_seq (pw_region (yFb rfl (yLd rfl rfl rfl ?_))))))))); refine yC (c1) rfl rfl (yU rfl rfl rfl (yQ (pw_ct rfl (pw_seq (pw_region (yAd rfl (yQ (pw_ret (q_then_ret ?_)))))))))
    exact q_ret _ (.tmp rfl .nil) rfl
  | true =>
    by_cases hz : e2 = 0
    · subst hz
      rw [he]
      refine pw_seq (pw_region (yK (cs := [_, _, _]) rfl rfl (yAd rfl (yQ (pw_seq (pw_seq (pw_region (yFb rfl (yLd rfl rfl rfl ?_))))))))); refine yC (c1) rfl rfl (yU rfl rfl rfl (yQ (pw_cf rfl (pw_skip (pw_seq (pw_seq (pw_region (yFb rfl (yLd rfl rfl rfl ?_))))))))); refine yC (c2) rfl rfl (yAd rfl (yQ (pw_seq (pw_region (yMd rfl (yB rfl rfl rfl rfl (yQ (pw_cf rfl (pw_skip ?_))))))))); refine pw_seq (pw_region (yFb rfl (yLd rfl rfl rfl (yFb rfl (yLd rfl rfl rfl (yC (c3) rfl rfl (yAd rfl (yQ (pw_ret ?_)))))))))
      exact q_ret _ (.tmp rfl .nil) rfl
    · have t2 : (e2 != 0) = true := by simpa using hz
      have t3 : (e2 == 0) = false := by simpa using hz
      rw [he, t3]
      refine pw_seq (pw_region (yK (cs := [_, _, _]) rfl rfl (yAd rfl (yQ (pw_seq (pw_seq (pw_region (yFb rfl (yLd rfl rfl rfl ?_))))))))); refine yC (c1) rfl rfl (yU rfl rfl rfl (yQ (pw_cf rfl (pw_skip (pw_seq (pw_seq (pw_region (yFb rfl (yLd rfl rfl rfl ?_))))))))); refine yC (c2) rfl rfl (yAd rfl (yQ (pw_seq (pw_region (yMd rfl (yB rfl rfl rfl rfl ?_)))))); rw [t2]; refine yQ (pw_ct rfl (pw_seq (pw_region (yMd rfl (yAd rfl (yQ (pw_ret (q_then_ret ?_))))))))
      exact q_ret _ (.tmp rfl .nil) rfl
end Go.Proofs.YtdkpmnefoobipaaGreatDoor
namespace Go.Proofs.YtdkpmnefoobipaaGreatDoor
open Go.RowKit Px

theorem numE1 (y : Str) : numE [y] = bif isC y then (bif decide (40 < ndig y) then 4 else 0) else 1 := by
  simp [numE]
theorem numE2 (y z : Str) : numE [y, z] = bif isC y && isC z then (bif decide (40 < ndig y) || decide (40 < ndig z) then 4 else 0) else 1 := by
  simp [numE]

set_option maxRecDepth 20000 in
set_option maxHeartbeats 4000000 in
theorem wRStCheck (s : Stm) (hs : fitS s) : PCalls Tryz.prog 27 [.agg (dSt s)] (.d (dI (stE s))) := by
  obtain ⟨d, hs', ms⟩ := s
  obtain ⟨hl, ml, hoH, hoM⟩ := hs
  simp only at hl ml hoH hoM
  have cd := wRDay d
  have he0 : stE ⟨d, hs', ms⟩ = bif !vD d then 13 else bif !(fstE (hE hs') hs'.length == 0) then fstE (hE hs') hs'.length else fstE (mE d ms) ms.length := rfl
  obtain ⟨r, hr⟩ : ∃ r, r = stE ⟨d, hs', ms⟩ := ⟨_, rfl⟩
  obtain ⟨vd, hvd⟩ : ∃ b, b = vD d := ⟨_, rfl⟩
  rw [← hr, ← hvd] at he0
  rw [← hr]
  rw [← hvd] at cd
  refine pcalls_of_pw Tryz.func27 rfl Tryz.ntmps27 Tryz.results27 (by simp) fun B w0 => ?_
  cases vd with
  | false =>
    rw [he0]
    refine pw_seq (pw_region (yK (cs := [_, _, _]) rfl rfl (yAd rfl (yQ (pw_seq (pw_seq (pw_region (yFb rfl (yLd rfl rfl rfl ?_))))))))); refine yC (cd) rfl rfl (yB rfl rfl rfl rfl (yQ (pw_ct rfl (pw_seq (pw_region (yAd rfl (yQ (pw_ret (q_then_ret ?_)))))))))
    exact q_ret _ (.tmp rfl .nil) rfl
  | true =>
  have t0 : decide (((hs'.map dH).length : Int) > 64) = false := decide_eq_false (by simp; omega)
  refine pw_seq (pw_region (yK (cs := [_, _, _]) rfl rfl (yAd rfl (yQ (pw_seq (pw_seq (pw_region (yFb rfl (yLd rfl rfl rfl ?_))))))))); refine yC (cd) rfl rfl (yB rfl rfl rfl rfl (yQ (pw_cf rfl (pw_skip (pw_seq (pw_seq (pw_region (yFb rfl (yLd rfl rfl rfl ?_))))))))); refine yN rfl (yB rfl rfl rfl rfl ?_); rw [t0]; refine yQ (pw_cf rfl (pw_skip (pw_seq (pw_seq (pw_region (yAd rfl (yQ (pw_block ?_)))))))); refine pw_loop (fun i : Nat => ⟨128, [(1, .bx 1 0), (3, .d (dI i))], [(1, [.d (dI d), .d (.sl 2 (hs'.map dH)), .d (.sl 5 (ms.map dM))])], []⟩) (fun i => i ≤ hs'.length ∧ fstE (hE hs') i = 0) (fun i => hs'.length - i) 0 ⟨Nat.zero_le _, rfl⟩ ⟨rfl, ⟨.refl _, .refl _, trivial⟩, ⟨⟨_, rfl, .refl _, .refl _, .refl _, trivial⟩, trivial⟩, trivial, rfl⟩ ?_
  rintro i ⟨hi, h0⟩
  refine pw_seq (pw_seq (pw_region (yMd rfl (yFb rfl (yLd rfl rfl rfl (yN rfl (yB rfl rfl rfl rfl (yQ (q_then ?_))))))))); refine pw_cond rfl (fun h => ?_) (fun h => ?_)
  · simp at h
    obtain ⟨⟨x, y⟩, hx⟩ : ∃ a, hs'[i]? = some a := ⟨_, List.getElem?_eq_getElem h⟩
    have ei := ix dH hs' i i (x, y) rfl hx
    obtain ⟨k1, k2⟩ := hoH (x, y) (List.mem_of_getElem? hx)
    simp only at k1 k2
    have hw := wrapI ((i : Int) + 1) (by omega)
    have c1 := wRName x (by omega)
    have c2 := wRCheck y (by omega)
    have c3 := wNdig y (by omega)
    have hne := numE1 y
    have he : hE hs' i = errH (if i = 0 then none else (hs'[i - 1]?).map (·.1)) (x, y) := by unfold hE; rw [hx]
    have hat : hE hs' i ≠ 0 → r = hE hs' i := fun e => by
      have := fstE_at h0 e _ h
      rw [he0, this]
      have : (hE hs' i == 0) = false := by simpa using e
      rw [this]
      rfl
    obtain ⟨nb, hnb⟩ : ∃ b, b = nameB x := ⟨_, rfl⟩
    obtain ⟨cb, hcb⟩ : ∃ b, b = isC y := ⟨_, rfl⟩
    unfold errH at he
    rw [← hcb] at hne c2
    simp only [← hnb, hne] at he
    rw [← hnb] at c1
    cases nb with
    | false =>
      have e : r = 23 := by
        have e1 : hE hs' i = 23 := by rw [he]; rfl
        rw [hat (by rw [e1]; decide), e1]
      rw [e]
      refine pw_skip (pw_seq (pw_block (pw_seq (pw_region (yFb rfl (yLd rfl rfl rfl (yMd rfl (yW ei (by omega) rfl rfl (yLs (ys := [_, _]) rfl rfl rfl ?_))))))))); refine yZ (cs := [_, _]) rfl rfl (yS (cs' := [_, _]) rfl rfl rfl rfl rfl (yQ (pw_seq (pw_seq (pw_region (yFb rfl (yLd rfl rfl rfl (yC (c1) rfl rfl (yU rfl rfl rfl ?_))))))))); refine yQ (pw_ct rfl (pw_seq (pw_region (yAd rfl (yQ (pw_ret (q_then_ret (q_blk_ret (q_then_ret ?_))))))))); refine q_then_ret (q_blk_ret (q_then_ret ?_))
      exact q_ret _ (.tmp rfl .nil) rfl
    | true =>
      cases cb with
      | false =>
        have e : r = 1 := by
          have e1 : hE hs' i = 1 := by rw [he]; rfl
          rw [hat (by rw [e1]; decide), e1]
        rw [e]
        refine pw_skip (pw_seq (pw_block (pw_seq (pw_region (yFb rfl (yLd rfl rfl rfl (yMd rfl (yW ei (by omega) rfl rfl (yLs (ys := [_, _]) rfl rfl rfl ?_))))))))); refine yZ (cs := [_, _]) rfl rfl (yS (cs' := [_, _]) rfl rfl rfl rfl rfl (yQ (pw_seq (pw_seq (pw_region (yFb rfl (yLd rfl rfl rfl (yC (c1) rfl rfl (yU rfl rfl rfl ?_))))))))); refine yQ (pw_cf rfl (pw_skip (pw_seq (pw_seq (pw_region (yFb rfl (yLd rfl rfl rfl (yC (c2) rfl rfl (yB rfl rfl rfl rfl ?_))))))))); refine yQ (pw_ct rfl (pw_seq (pw_region (yAd rfl (yQ (pw_ret (q_then_ret (q_blk_ret (q_then_ret ?_))))))))); refine q_then_ret (q_blk_ret (q_then_ret ?_))
        exact q_ret _ (.tmp rfl .nil) rfl
      | true =>
      by_cases hg : 40 < ndig y
      · have t1 : decide ((ndig y : Int) > 40) = true := decide_eq_true (by omega)
        have e : r = 4 := by
          have e1 : hE hs' i = 4 := by rw [he, decide_eq_true hg]; rfl
          rw [hat (by rw [e1]; decide), e1]
        rw [e]
        refine pw_skip (pw_seq (pw_block (pw_seq (pw_region (yFb rfl (yLd rfl rfl rfl (yMd rfl (yW ei (by omega) rfl rfl (yLs (ys := [_, _]) rfl rfl rfl ?_))))))))); refine yZ (cs := [_, _]) rfl rfl (yS (cs' := [_, _]) rfl rfl rfl rfl rfl (yQ (pw_seq (pw_seq (pw_region (yFb rfl (yLd rfl rfl rfl (yC (c1) rfl rfl (yU rfl rfl rfl ?_))))))))); refine yQ (pw_cf rfl (pw_skip (pw_seq (pw_seq (pw_region (yFb rfl (yLd rfl rfl rfl (yC (c2) rfl rfl (yB rfl rfl rfl rfl ?_))))))))); refine yQ (pw_cf rfl (pw_skip (pw_seq (pw_seq (pw_region (yFb rfl (yLd rfl rfl rfl (yC (c3) rfl rfl (yB rfl rfl rfl rfl ?_))))))))); rw [t1]; refine yQ (pw_ct rfl (pw_seq (pw_region (yAd rfl (yQ (pw_ret (q_then_ret (q_blk_ret (q_then_ret ?_))))))))); refine q_then_ret (q_blk_ret (q_then_ret ?_))
        exact q_ret _ (.tmp rfl .nil) rfl
      have t1 : decide ((ndig y : Int) > 40) = false := decide_eq_false (by omega)
      rw [decide_eq_false hg] at he
      have hyn : (y == ([] : Str)) = true ∨ (y == ([] : Str)) = false := by cases (y == ([] : Str)) <;> simp
      rcases hyn with t2 | t2
      · have e : r = 2 := by
          have e1 : hE hs' i = 2 := by rw [he, t2]; rfl
          rw [hat (by rw [e1]; decide), e1]
        rw [e]
        refine pw_skip (pw_seq (pw_block (pw_seq (pw_region (yFb rfl (yLd rfl rfl rfl (yMd rfl (yW ei (by omega) rfl rfl (yLs (ys := [_, _]) rfl rfl rfl ?_))))))))); refine yZ (cs := [_, _]) rfl rfl (yS (cs' := [_, _]) rfl rfl rfl rfl rfl (yQ (pw_seq (pw_seq (pw_region (yFb rfl (yLd rfl rfl rfl (yC (c1) rfl rfl (yU rfl rfl rfl ?_))))))))); refine yQ (pw_cf rfl (pw_skip (pw_seq (pw_seq (pw_region (yFb rfl (yLd rfl rfl rfl (yC (c2) rfl rfl (yB rfl rfl rfl rfl ?_))))))))); refine yQ (pw_cf rfl (pw_skip (pw_seq (pw_seq (pw_region (yFb rfl (yLd rfl rfl rfl (yC (c3) rfl rfl (yB rfl rfl rfl rfl ?_))))))))); rw [t1]; refine yQ (pw_cf rfl (pw_skip (pw_seq (pw_seq (pw_region (yFb rfl (yLd rfl rfl rfl (yBse rfl rfl ?_)))))))); rw [t2]; refine yQ (pw_ct rfl (pw_seq (pw_region (yAd rfl (yQ (pw_ret (q_then_ret (q_blk_ret (q_then_ret ?_))))))))); refine q_then_ret (q_blk_ret (q_then_ret ?_))
        exact q_ret _ (.tmp rfl .nil) rfl
      rw [t2] at he
      by_cases hi0 : i = 0
      · subst hi0
        have e1 : hE hs' 0 = 0 := by rw [he]; rfl
        refine pw_skip (pw_seq (pw_block (pw_seq (pw_region (yFb rfl (yLd rfl rfl rfl (yMd rfl (yW ei (by omega) rfl rfl (yLs (ys := [_, _]) rfl rfl rfl ?_))))))))); refine yZ (cs := [_, _]) rfl rfl (yS (cs' := [_, _]) rfl rfl rfl rfl rfl (yQ (pw_seq (pw_seq (pw_region (yFb rfl (yLd rfl rfl rfl (yC (c1) rfl rfl (yU rfl rfl rfl ?_))))))))); refine yQ (pw_cf rfl (pw_skip (pw_seq (pw_seq (pw_region (yFb rfl (yLd rfl rfl rfl (yC (c2) rfl rfl (yB rfl rfl rfl rfl ?_))))))))); refine yQ (pw_cf rfl (pw_skip (pw_seq (pw_seq (pw_region (yFb rfl (yLd rfl rfl rfl (yC (c3) rfl rfl (yB rfl rfl rfl rfl ?_))))))))); rw [t1]; refine yQ (pw_cf rfl (pw_skip (pw_seq (pw_seq (pw_region (yFb rfl (yLd rfl rfl rfl (yBse rfl rfl ?_)))))))); rw [t2]; refine yQ (pw_cf rfl (pw_skip (pw_seq ?_))); refine pw_draw Tryz.mixed (by kernel_rfl) ?_; refine yMd rfl (yB rfl rfl rfl rfl (yMd rfl (yO rfl (yO rfl (yO rfl (yO rfl (yO rfl (yO rfl (yO rfl ?_))))))))); refine yO rfl (yO rfl (yO rfl (yVd rfl rfl (yQ (pw_cf rfl (pw_skip (pw_region (yMd rfl (yB rfl rfl rfl rfl ?_))))))))); refine yAd rfl (yQ (q_then ?_))
        refine ⟨1, ⟨by omega, fstE_next h0 e1⟩, by omega, rfl, ⟨.refl _, .of_eq (congrArg (fun n => SV.d (dI n)) hw), trivial⟩, ⟨⟨_, rfl, .refl _, .refl _, .refl _, trivial⟩, trivial⟩, trivial, rfl⟩
      have t3 : decide ((i : Int) > 0) = true := decide_eq_true (by omega)
      obtain ⟨⟨px, py⟩, hp⟩ : ∃ a, hs'[i - 1]? = some a := ⟨_, List.getElem?_eq_getElem (by omega)⟩
      have ep := ix dH hs' _ (i - 1) (px, py) (prevI (by omega) (by omega)) hp
      rw [if_neg hi0, hp] at he
      have hlb : (!lt8 px x) = (!ltS px x) := rfl
      obtain ⟨lb, hlb2⟩ : ∃ b, b = ltS px x := ⟨_, rfl⟩
      simp only [Option.map_some, ← hlb2] at he
      rw [← hlb2] at hlb
      have h0p : (0 : Int) ≤ IntKind.i64.wrap ((i : Int) - 1) := by rw [prevI (by omega) (by omega)]; omega
      cases lb with
      | true =>
        have e1 : hE hs' i = 0 := by rw [he]; rfl
        refine pw_skip (pw_seq (pw_block (pw_seq (pw_region (yFb rfl (yLd rfl rfl rfl (yMd rfl (yW ei (by omega) rfl rfl (yLs (ys := [_, _]) rfl rfl rfl ?_))))))))); refine yZ (cs := [_, _]) rfl rfl (yS (cs' := [_, _]) rfl rfl rfl rfl rfl (yQ (pw_seq (pw_seq (pw_region (yFb rfl (yLd rfl rfl rfl (yC (c1) rfl rfl (yU rfl rfl rfl ?_))))))))); refine yQ (pw_cf rfl (pw_skip (pw_seq (pw_seq (pw_region (yFb rfl (yLd rfl rfl rfl (yC (c2) rfl rfl (yB rfl rfl rfl rfl ?_))))))))); refine yQ (pw_cf rfl (pw_skip (pw_seq (pw_seq (pw_region (yFb rfl (yLd rfl rfl rfl (yC (c3) rfl rfl (yB rfl rfl rfl rfl ?_))))))))); rw [t1]; refine yQ (pw_cf rfl (pw_skip (pw_seq (pw_seq (pw_region (yFb rfl (yLd rfl rfl rfl (yBse rfl rfl ?_)))))))); rw [t2]; refine yQ (pw_cf rfl (pw_skip (pw_seq ?_))); refine pw_draw Tryz.mixed (by kernel_rfl) ?_; refine yMd rfl (yB rfl rfl rfl rfl ?_)
        rw [t3]; refine yMd rfl ?_; refine yFb rfl ?_; refine yLd rfl rfl rfl ?_; refine yMd rfl ?_; refine yB rfl rfl rfl rfl ?_; refine yW ep h0p rfl rfl ?_; refine yFr rfl rfl ?_; refine yLr rfl rfl ?_; refine yFb rfl ?_
        refine yLd rfl rfl rfl (yBsh rfl rfl ?_); rw [hlb]; refine yPd rfl rfl (yQ (pw_cf rfl (pw_skip (pw_region (yMd rfl (yB rfl rfl rfl rfl (yAd rfl (yQ (q_then ?_)))))))))
        refine ⟨i + 1, ⟨by omega, fstE_next h0 e1⟩, by omega, rfl, ⟨.refl _, .of_eq (congrArg (fun n => SV.d (dI n)) hw), trivial⟩, ⟨⟨_, rfl, .refl _, .refl _, .refl _, trivial⟩, trivial⟩, trivial, rfl⟩
      | false =>
        have e : r = 8 := by
          have e1 : hE hs' i = 8 := by rw [he]; rfl
          rw [hat (by rw [e1]; decide), e1]
        rw [e]
        refine pw_skip (pw_seq (pw_block (pw_seq (pw_region (yFb rfl (yLd rfl rfl rfl (yMd rfl (yW ei (by omega) rfl rfl (yLs (ys := [_, _]) rfl rfl rfl ?_))))))))); refine yZ (cs := [_, _]) rfl rfl (yS (cs' := [_, _]) rfl rfl rfl rfl rfl (yQ (pw_seq (pw_seq (pw_region (yFb rfl (yLd rfl rfl rfl (yC (c1) rfl rfl (yU rfl rfl rfl ?_))))))))); refine yQ (pw_cf rfl (pw_skip (pw_seq (pw_seq (pw_region (yFb rfl (yLd rfl rfl rfl (yC (c2) rfl rfl (yB rfl rfl rfl rfl ?_))))))))); refine yQ (pw_cf rfl (pw_skip (pw_seq (pw_seq (pw_region (yFb rfl (yLd rfl rfl rfl (yC (c3) rfl rfl (yB rfl rfl rfl rfl ?_))))))))); rw [t1]; refine yQ (pw_cf rfl (pw_skip (pw_seq (pw_seq (pw_region (yFb rfl (yLd rfl rfl rfl (yBse rfl rfl ?_)))))))); rw [t2]; refine yQ (pw_cf rfl (pw_skip (pw_seq ?_))); refine pw_draw Tryz.mixed (by kernel_rfl) ?_; refine yMd rfl (yB rfl rfl rfl rfl ?_)
        rw [t3]; refine yMd rfl ?_; refine yFb rfl ?_; refine yLd rfl rfl rfl ?_; refine yMd rfl ?_; refine yB rfl rfl rfl rfl ?_; refine yW ep h0p rfl rfl ?_; refine yFr rfl rfl ?_; refine yLr rfl rfl ?_; refine yFb rfl ?_
        refine yLd rfl rfl rfl (yBsh rfl rfl ?_); rw [hlb]; refine yPd rfl rfl (yQ (pw_ct rfl (pw_seq (pw_region (yAd rfl (yQ (pw_ret (q_blk_ret (q_then_ret ?_))))))))); refine q_then_ret (q_blk_ret (q_then_ret ?_))
        exact q_ret _ (.tmp rfl .nil) rfl
  simp at h
  have hE0 : fstE (hE hs') hs'.length = 0 := by rw [show hs'.length = i by omega]; exact h0
  have he1 : r = fstE (mE d ms) ms.length := by rw [he0, hE0]; rfl
  clear he0 h0 hi h
  have t0 : decide (((ms.map dM).length : Int) > 1000) = false := decide_eq_false (by simp; omega)
  refine pw_exit (pw_seq (pw_seq (pw_region (yFb rfl (yLd rfl rfl rfl (yN rfl (yB rfl rfl rfl rfl ?_))))))); rw [t0]; refine yQ (pw_cf rfl (pw_skip (pw_seq (pw_seq (pw_region (yAd rfl (yQ (pw_block ?_)))))))); refine pw_loop (fun i : Nat => ⟨128, [(1, .bx 1 0), (5, .d (dI i))], [(1, [.d (dI d), .d (.sl 2 (hs'.map dH)), .d (.sl 5 (ms.map dM))])], []⟩) (fun i => i ≤ ms.length ∧ fstE (mE d ms) i = 0) (fun i => ms.length - i) 0 ⟨Nat.zero_le _, rfl⟩ ⟨rfl, ⟨.refl _, .refl _, trivial⟩, ⟨⟨_, rfl, .refl _, .refl _, .refl _, trivial⟩, trivial⟩, trivial, rfl⟩ ?_
  rintro i ⟨hi, h0⟩
  refine pw_seq (pw_seq (pw_region (yMd rfl (yFb rfl (yLd rfl rfl rfl (yN rfl (yB rfl rfl rfl rfl (yQ (q_then ?_))))))))); refine pw_cond rfl (fun h => ?_) (fun h => ?_)
  · simp at h
    obtain ⟨⟨x, q, y, z, u⟩, hx⟩ : ∃ a, ms[i]? = some a := ⟨_, List.getElem?_eq_getElem h⟩
    have ei := ix dM ms i i (x, q, y, z, u) rfl hx
    obtain ⟨k1, k2, k3, k4⟩ := hoM (x, q, y, z, u) (List.mem_of_getElem? hx)
    simp only at k1 k2 k3 k4
    have hw := wrapI ((i : Int) + 1) (by omega)
    have c1 := wRName x (by omega)
    have c2 := wRName y (by omega)
    have c3 := wRCheck z (by omega)
    have c4 := wRCheck u (by omega)
    have c5 := wNdig z (by omega)
    have c6 := wNdig u (by omega)
    have c7 := wRDay q
    have hne := numE2 z u
    have he : mE d ms i = errM d (if i = 0 then none else (ms[i - 1]?).map (·.2.1)) (x, q, y, z, u) := by unfold mE; rw [hx]
    have hat : mE d ms i ≠ 0 → r = mE d ms i := fun e => by rw [he1]; exact fstE_at h0 e _ h
    obtain ⟨na, hna⟩ : ∃ b, b = nameB x := ⟨_, rfl⟩
    obtain ⟨nb, hnb⟩ : ∃ b, b = nameB y := ⟨_, rfl⟩
    obtain ⟨ca, hca⟩ : ∃ b, b = isC z := ⟨_, rfl⟩
    obtain ⟨cb, hcb⟩ : ∃ b, b = isC u := ⟨_, rfl⟩
    obtain ⟨vq, hvq⟩ : ∃ b, b = vD q := ⟨_, rfl⟩
    unfold errM at he
    rw [← hca, ← hcb] at hne
    simp only [← hna, ← hnb, hne, ← hvq] at he
    rw [← hna] at c1
    rw [← hnb] at c2
    rw [← hca] at c3
    rw [← hcb] at c4
    rw [← hvq] at c7
    cases na with
    | false =>
      have e : r = 23 := by
        have e1 : mE d ms i = 23 := by rw [he]; rfl
        rw [hat (by rw [e1]; decide), e1]
      rw [e]
      refine pw_skip (pw_seq (pw_block (pw_seq (pw_region (yFb rfl (yLd rfl rfl rfl (yMd rfl (yW ei (by omega) rfl rfl (yLs (ys := [_, _, _, _, _]) rfl rfl rfl ?_))))))))); refine yZ (cs := [_, _, _, _, _]) rfl rfl (yS (cs' := [_, _, _, _, _]) rfl rfl rfl rfl rfl (yQ (pw_seq (pw_seq (pw_region (yFb rfl (yLd rfl rfl rfl (yC (c1) rfl rfl (yU rfl rfl rfl ?_))))))))); refine yQ (pw_ct rfl (pw_seq (pw_region (yAd rfl (yQ (pw_ret (q_then_ret (q_blk_ret (q_then_ret ?_))))))))); refine q_then_ret (q_blk_ret (q_then_ret ?_))
      exact q_ret _ (.tmp rfl .nil) rfl
    | true =>
      cases vq with
      | false =>
        have e : r = 13 := by
          have e1 : mE d ms i = 13 := by rw [he]; rfl
          rw [hat (by rw [e1]; decide), e1]
        rw [e]
        refine pw_skip (pw_seq (pw_block (pw_seq (pw_region (yFb rfl (yLd rfl rfl rfl (yMd rfl (yW ei (by omega) rfl rfl (yLs (ys := [_, _, _, _, _]) rfl rfl rfl ?_))))))))); refine yZ (cs := [_, _, _, _, _]) rfl rfl (yS (cs' := [_, _, _, _, _]) rfl rfl rfl rfl rfl (yQ (pw_seq (pw_seq (pw_region (yFb rfl (yLd rfl rfl rfl (yC (c1) rfl rfl (yU rfl rfl rfl ?_))))))))); refine yQ (pw_cf rfl (pw_skip (pw_seq (pw_seq (pw_region (yFb rfl (yLd rfl rfl rfl (yC (c7) rfl rfl (yB rfl rfl rfl rfl ?_))))))))); refine yMd rfl (yO rfl (yO rfl (yO rfl (yO rfl (yO rfl (yPd rfl rfl (yQ (pw_ct rfl (pw_seq ?_))))))))); refine pw_region (yAd rfl (yQ (pw_ret (q_then_ret (q_blk_ret (q_then_ret (q_then_ret (q_blk_ret (q_then_ret ?_)))))))))
        exact q_ret _ (.tmp rfl .nil) rfl
      | true =>
      by_cases hq : d < q
      · have t1 : decide (q > d) = true := decide_eq_true hq
        have e : r = 13 := by
          have e1 : mE d ms i = 13 := by rw [he, decide_eq_true hq]; rfl
          rw [hat (by rw [e1]; decide), e1]
        rw [e]
        refine pw_skip (pw_seq (pw_block (pw_seq (pw_region (yFb rfl (yLd rfl rfl rfl (yMd rfl (yW ei (by omega) rfl rfl (yLs (ys := [_, _, _, _, _]) rfl rfl rfl ?_))))))))); refine yZ (cs := [_, _, _, _, _]) rfl rfl (yS (cs' := [_, _, _, _, _]) rfl rfl rfl rfl rfl (yQ (pw_seq (pw_seq (pw_region (yFb rfl (yLd rfl rfl rfl (yC (c1) rfl rfl (yU rfl rfl rfl ?_))))))))); refine yQ (pw_cf rfl (pw_skip (pw_seq (pw_seq (pw_region (yFb rfl (yLd rfl rfl rfl (yC (c7) rfl rfl (yB rfl rfl rfl rfl ?_))))))))); refine yMd rfl (yFb rfl (yLd rfl rfl rfl (yFb rfl (yLd rfl rfl rfl (yB rfl rfl rfl rfl ?_))))); rw [t1]
        refine yVd rfl rfl (yQ (pw_ct rfl (pw_seq (pw_region (yAd rfl (yQ (pw_ret (q_then_ret (q_blk_ret ?_))))))))); refine q_then_ret (q_then_ret (q_blk_ret (q_then_ret ?_)))
        exact q_ret _ (.tmp rfl .nil) rfl
      have t1 : decide (q > d) = false := decide_eq_false hq
      rw [decide_eq_false hq] at he
      cases nb with
      | false =>
        have e : r = 23 := by
          have e1 : mE d ms i = 23 := by rw [he]; rfl
          rw [hat (by rw [e1]; decide), e1]
        rw [e]
        refine pw_skip (pw_seq (pw_block (pw_seq (pw_region (yFb rfl (yLd rfl rfl rfl (yMd rfl (yW ei (by omega) rfl rfl (yLs (ys := [_, _, _, _, _]) rfl rfl rfl ?_))))))))); refine yZ (cs := [_, _, _, _, _]) rfl rfl (yS (cs' := [_, _, _, _, _]) rfl rfl rfl rfl rfl (yQ (pw_seq (pw_seq (pw_region (yFb rfl (yLd rfl rfl rfl (yC (c1) rfl rfl (yU rfl rfl rfl ?_))))))))); refine yQ (pw_cf rfl (pw_skip (pw_seq (pw_seq (pw_region (yFb rfl (yLd rfl rfl rfl (yC (c7) rfl rfl (yB rfl rfl rfl rfl ?_))))))))); refine yMd rfl (yFb rfl (yLd rfl rfl rfl (yFb rfl (yLd rfl rfl rfl (yB rfl rfl rfl rfl ?_))))); rw [t1]
        refine yVd rfl rfl (yQ (pw_cf rfl (pw_skip (pw_seq (pw_seq (pw_region (yFb rfl (yLd rfl rfl rfl (yC (c2) rfl rfl ?_))))))))); refine yU rfl rfl rfl (yQ (pw_ct rfl (pw_seq (pw_region (yAd rfl (yQ (pw_ret (q_then_ret (q_blk_ret ?_))))))))); refine q_then_ret (q_then_ret (q_blk_ret (q_then_ret ?_)))
        exact q_ret _ (.tmp rfl .nil) rfl
      | true =>
      cases ca with
      | false =>
        have e : r = 1 := by
          have e1 : mE d ms i = 1 := by rw [he]; rfl
          rw [hat (by rw [e1]; decide), e1]
        rw [e]
        refine pw_skip (pw_seq (pw_block (pw_seq (pw_region (yFb rfl (yLd rfl rfl rfl (yMd rfl (yW ei (by omega) rfl rfl (yLs (ys := [_, _, _, _, _]) rfl rfl rfl ?_))))))))); refine yZ (cs := [_, _, _, _, _]) rfl rfl (yS (cs' := [_, _, _, _, _]) rfl rfl rfl rfl rfl (yQ (pw_seq (pw_seq (pw_region (yFb rfl (yLd rfl rfl rfl (yC (c1) rfl rfl (yU rfl rfl rfl ?_))))))))); refine yQ (pw_cf rfl (pw_skip (pw_seq (pw_seq (pw_region (yFb rfl (yLd rfl rfl rfl (yC (c7) rfl rfl (yB rfl rfl rfl rfl ?_))))))))); refine yMd rfl (yFb rfl (yLd rfl rfl rfl (yFb rfl (yLd rfl rfl rfl (yB rfl rfl rfl rfl ?_))))); rw [t1]
        refine yVd rfl rfl (yQ (pw_cf rfl (pw_skip (pw_seq (pw_seq (pw_region (yFb rfl (yLd rfl rfl rfl (yC (c2) rfl rfl ?_))))))))); refine yU rfl rfl rfl (yQ (pw_cf rfl (pw_skip (pw_seq (pw_seq (pw_region (yFb rfl (yLd rfl rfl rfl (yC (c3) rfl rfl ?_))))))))); refine yB rfl rfl rfl rfl (yMd rfl (yO rfl (yO rfl (yO rfl (yO rfl (yPd rfl rfl (yQ (pw_ct rfl (pw_seq ?_))))))))); refine pw_region (yAd rfl (yQ (pw_ret (q_then_ret (q_blk_ret (q_then_ret (q_then_ret (q_blk_ret (q_then_ret ?_)))))))))
        exact q_ret _ (.tmp rfl .nil) rfl
      | true =>
      cases cb with
      | false =>
        have e : r = 1 := by
          have e1 : mE d ms i = 1 := by rw [he]; rfl
          rw [hat (by rw [e1]; decide), e1]
        rw [e]
        refine pw_skip (pw_seq (pw_block (pw_seq (pw_region (yFb rfl (yLd rfl rfl rfl (yMd rfl (yW ei (by omega) rfl rfl (yLs (ys := [_, _, _, _, _]) rfl rfl rfl ?_))))))))); refine yZ (cs := [_, _, _, _, _]) rfl rfl (yS (cs' := [_, _, _, _, _]) rfl rfl rfl rfl rfl (yQ (pw_seq (pw_seq (pw_region (yFb rfl (yLd rfl rfl rfl (yC (c1) rfl rfl (yU rfl rfl rfl ?_))))))))); refine yQ (pw_cf rfl (pw_skip (pw_seq (pw_seq (pw_region (yFb rfl (yLd rfl rfl rfl (yC (c7) rfl rfl (yB rfl rfl rfl rfl ?_))))))))); refine yMd rfl (yFb rfl (yLd rfl rfl rfl (yFb rfl (yLd rfl rfl rfl (yB rfl rfl rfl rfl ?_))))); rw [t1]
        refine yVd rfl rfl (yQ (pw_cf rfl (pw_skip (pw_seq (pw_seq (pw_region (yFb rfl (yLd rfl rfl rfl (yC (c2) rfl rfl ?_))))))))); refine yU rfl rfl rfl (yQ (pw_cf rfl (pw_skip (pw_seq (pw_seq (pw_region (yFb rfl (yLd rfl rfl rfl (yC (c3) rfl rfl ?_))))))))); refine yB rfl rfl rfl rfl (yMd rfl (yFb rfl (yLd rfl rfl rfl (yC (c4) rfl rfl (yB rfl rfl rfl rfl (yVd rfl rfl (yQ (pw_ct rfl (pw_seq ?_))))))))); refine pw_region (yAd rfl (yQ (pw_ret (q_then_ret (q_blk_ret (q_then_ret (q_then_ret (q_blk_ret (q_then_ret ?_)))))))))
        exact q_ret _ (.tmp rfl .nil) rfl
      | true =>
      by_cases hg : 40 < ndig z
      · have t2 : decide ((ndig z : Int) > 40) = true := decide_eq_true (by omega)
        have e : r = 4 := by
          have e1 : mE d ms i = 4 := by rw [he, decide_eq_true hg]; rfl
          rw [hat (by rw [e1]; decide), e1]
        rw [e]
        refine pw_skip (pw_seq (pw_block (pw_seq (pw_region (yFb rfl (yLd rfl rfl rfl (yMd rfl (yW ei (by omega) rfl rfl (yLs (ys := [_, _, _, _, _]) rfl rfl rfl ?_))))))))); refine yZ (cs := [_, _, _, _, _]) rfl rfl (yS (cs' := [_, _, _, _, _]) rfl rfl rfl rfl rfl (yQ (pw_seq (pw_seq (pw_region (yFb rfl (yLd rfl rfl rfl (yC (c1) rfl rfl (yU rfl rfl rfl ?_))))))))); refine yQ (pw_cf rfl (pw_skip (pw_seq (pw_seq (pw_region (yFb rfl (yLd rfl rfl rfl (yC (c7) rfl rfl (yB rfl rfl rfl rfl ?_))))))))); refine yMd rfl (yFb rfl (yLd rfl rfl rfl (yFb rfl (yLd rfl rfl rfl (yB rfl rfl rfl rfl ?_))))); rw [t1]
        refine yVd rfl rfl (yQ (pw_cf rfl (pw_skip (pw_seq (pw_seq (pw_region (yFb rfl (yLd rfl rfl rfl (yC (c2) rfl rfl ?_))))))))); refine yU rfl rfl rfl (yQ (pw_cf rfl (pw_skip (pw_seq (pw_seq (pw_region (yFb rfl (yLd rfl rfl rfl (yC (c3) rfl rfl ?_))))))))); refine yB rfl rfl rfl rfl (yMd rfl (yFb rfl (yLd rfl rfl rfl (yC (c4) rfl rfl (yB rfl rfl rfl rfl (yVd rfl rfl (yQ (pw_cf rfl (pw_skip ?_))))))))); refine pw_seq (pw_seq (pw_region (yFb rfl (yLd rfl rfl rfl (yC (c5) rfl rfl (yB rfl rfl rfl rfl ?_)))))); rw [t2]; refine yMd rfl (yO rfl (yO rfl (yO rfl (yO rfl (yPd rfl rfl (yQ (pw_ct rfl (pw_seq (pw_region ?_))))))))); refine yAd rfl (yQ (pw_ret (q_then_ret (q_blk_ret (q_then_ret (q_then_ret (q_blk_ret (q_then_ret ?_))))))))
        exact q_ret _ (.tmp rfl .nil) rfl
      have t2 : decide ((ndig z : Int) > 40) = false := decide_eq_false (by omega)
      rw [decide_eq_false hg] at he
      by_cases hg2 : 40 < ndig u
      · have t3 : decide ((ndig u : Int) > 40) = true := decide_eq_true (by omega)
        have e : r = 4 := by
          have e1 : mE d ms i = 4 := by rw [he, decide_eq_true hg2]; rfl
          rw [hat (by rw [e1]; decide), e1]
        rw [e]
        refine pw_skip (pw_seq (pw_block (pw_seq (pw_region (yFb rfl (yLd rfl rfl rfl (yMd rfl (yW ei (by omega) rfl rfl (yLs (ys := [_, _, _, _, _]) rfl rfl rfl ?_))))))))); refine yZ (cs := [_, _, _, _, _]) rfl rfl (yS (cs' := [_, _, _, _, _]) rfl rfl rfl rfl rfl (yQ (pw_seq (pw_seq (pw_region (yFb rfl (yLd rfl rfl rfl (yC (c1) rfl rfl (yU rfl rfl rfl ?_))))))))); refine yQ (pw_cf rfl (pw_skip (pw_seq (pw_seq (pw_region (yFb rfl (yLd rfl rfl rfl (yC (c7) rfl rfl (yB rfl rfl rfl rfl ?_))))))))); refine yMd rfl (yFb rfl (yLd rfl rfl rfl (yFb rfl (yLd rfl rfl rfl (yB rfl rfl rfl rfl ?_))))); rw [t1]
        refine yVd rfl rfl (yQ (pw_cf rfl (pw_skip (pw_seq (pw_seq (pw_region (yFb rfl (yLd rfl rfl rfl (yC (c2) rfl rfl ?_))))))))); refine yU rfl rfl rfl (yQ (pw_cf rfl (pw_skip (pw_seq (pw_seq (pw_region (yFb rfl (yLd rfl rfl rfl (yC (c3) rfl rfl ?_))))))))); refine yB rfl rfl rfl rfl (yMd rfl (yFb rfl (yLd rfl rfl rfl (yC (c4) rfl rfl (yB rfl rfl rfl rfl (yVd rfl rfl (yQ (pw_cf rfl (pw_skip ?_))))))))); refine pw_seq (pw_seq (pw_region (yFb rfl (yLd rfl rfl rfl (yC (c5) rfl rfl (yB rfl rfl rfl rfl ?_)))))); rw [t2]; refine yMd rfl (yFb rfl (yLd rfl rfl rfl (yC (c6) rfl rfl (yB rfl rfl rfl rfl ?_)))); rw [t3]; refine yVd rfl rfl (yQ (pw_ct rfl (pw_seq (pw_region (yAd rfl (yQ (pw_ret (q_then_ret (q_blk_ret ?_))))))))); refine q_then_ret (q_then_ret (q_blk_ret (q_then_ret ?_)))
        exact q_ret _ (.tmp rfl .nil) rfl
      have t3 : decide ((ndig u : Int) > 40) = false := decide_eq_false (by omega)
      rw [decide_eq_false hg2] at he
      have hyn : (z == ([] : Str)) = true ∨ (z == ([] : Str)) = false := by cases (z == ([] : Str)) <;> simp
      rcases hyn with t4 | t4
      · have e : r = 2 := by
          have e1 : mE d ms i = 2 := by rw [he, t4]; rfl
          rw [hat (by rw [e1]; decide), e1]
        rw [e]
        refine pw_skip (pw_seq (pw_block (pw_seq (pw_region (yFb rfl (yLd rfl rfl rfl (yMd rfl (yW ei (by omega) rfl rfl (yLs (ys := [_, _, _, _, _]) rfl rfl rfl ?_))))))))); refine yZ (cs := [_, _, _, _, _]) rfl rfl (yS (cs' := [_, _, _, _, _]) rfl rfl rfl rfl rfl (yQ (pw_seq (pw_seq (pw_region (yFb rfl (yLd rfl rfl rfl (yC (c1) rfl rfl (yU rfl rfl rfl ?_))))))))); refine yQ (pw_cf rfl (pw_skip (pw_seq (pw_seq (pw_region (yFb rfl (yLd rfl rfl rfl (yC (c7) rfl rfl (yB rfl rfl rfl rfl ?_))))))))); refine yMd rfl (yFb rfl (yLd rfl rfl rfl (yFb rfl (yLd rfl rfl rfl (yB rfl rfl rfl rfl ?_))))); rw [t1]
        refine yVd rfl rfl (yQ (pw_cf rfl (pw_skip (pw_seq (pw_seq (pw_region (yFb rfl (yLd rfl rfl rfl (yC (c2) rfl rfl ?_))))))))); refine yU rfl rfl rfl (yQ (pw_cf rfl (pw_skip (pw_seq (pw_seq (pw_region (yFb rfl (yLd rfl rfl rfl (yC (c3) rfl rfl ?_))))))))); refine yB rfl rfl rfl rfl (yMd rfl (yFb rfl (yLd rfl rfl rfl (yC (c4) rfl rfl (yB rfl rfl rfl rfl (yVd rfl rfl (yQ (pw_cf rfl (pw_skip ?_))))))))); refine pw_seq (pw_seq (pw_region (yFb rfl (yLd rfl rfl rfl (yC (c5) rfl rfl (yB rfl rfl rfl rfl ?_)))))); rw [t2]; refine yMd rfl (yFb rfl (yLd rfl rfl rfl (yC (c6) rfl rfl (yB rfl rfl rfl rfl ?_)))); rw [t3]; refine yVd rfl rfl (yQ (pw_cf rfl (pw_skip (pw_seq (pw_seq (pw_region (yFb rfl (yLd rfl rfl rfl (yBse rfl rfl ?_))))))))); rw [t4]; refine yQ (pw_ct rfl (pw_seq (pw_region (yAd rfl (yQ (pw_ret (q_then_ret (q_blk_ret (q_then_ret ?_))))))))); refine q_then_ret (q_blk_ret (q_then_ret ?_))
        exact q_ret _ (.tmp rfl .nil) rfl
      rw [t4] at he
      by_cases hi0 : i = 0
      · subst hi0
        have e1 : mE d ms 0 = 0 := by rw [he]; rfl
        refine pw_skip (pw_seq (pw_block (pw_seq (pw_region (yFb rfl (yLd rfl rfl rfl (yMd rfl (yW ei (by omega) rfl rfl (yLs (ys := [_, _, _, _, _]) rfl rfl rfl ?_))))))))); refine yZ (cs := [_, _, _, _, _]) rfl rfl (yS (cs' := [_, _, _, _, _]) rfl rfl rfl rfl rfl (yQ (pw_seq (pw_seq (pw_region (yFb rfl (yLd rfl rfl rfl (yC (c1) rfl rfl (yU rfl rfl rfl ?_))))))))); refine yQ (pw_cf rfl (pw_skip (pw_seq (pw_seq (pw_region (yFb rfl (yLd rfl rfl rfl (yC (c7) rfl rfl (yB rfl rfl rfl rfl ?_))))))))); refine yMd rfl (yFb rfl (yLd rfl rfl rfl (yFb rfl (yLd rfl rfl rfl (yB rfl rfl rfl rfl ?_))))); rw [t1]
        refine yVd rfl rfl (yQ (pw_cf rfl (pw_skip (pw_seq (pw_seq (pw_region (yFb rfl (yLd rfl rfl rfl (yC (c2) rfl rfl ?_))))))))); refine yU rfl rfl rfl (yQ (pw_cf rfl (pw_skip (pw_seq (pw_seq (pw_region (yFb rfl (yLd rfl rfl rfl (yC (c3) rfl rfl ?_))))))))); refine yB rfl rfl rfl rfl (yMd rfl (yFb rfl (yLd rfl rfl rfl (yC (c4) rfl rfl (yB rfl rfl rfl rfl (yVd rfl rfl (yQ (pw_cf rfl (pw_skip ?_))))))))); refine pw_seq (pw_seq (pw_region (yFb rfl (yLd rfl rfl rfl (yC (c5) rfl rfl (yB rfl rfl rfl rfl ?_)))))); rw [t2]; refine yMd rfl (yFb rfl (yLd rfl rfl rfl (yC (c6) rfl rfl (yB rfl rfl rfl rfl ?_)))); rw [t3]; refine yVd rfl rfl (yQ (pw_cf rfl (pw_skip (pw_seq (pw_seq (pw_region (yFb rfl (yLd rfl rfl rfl (yBse rfl rfl ?_))))))))); rw [t4]; refine yQ (pw_cf rfl (pw_skip (pw_seq ?_))); refine pw_draw Tryz.mixed (by kernel_rfl) ?_; refine yMd rfl (yB rfl rfl rfl rfl (yMd rfl (yO rfl (yO rfl (yO rfl (yO rfl (yO rfl (yO rfl (yO rfl ?_))))))))); refine yO rfl (yO rfl (yO rfl (yVd rfl rfl (yQ (pw_cf rfl (pw_skip (pw_region (yMd rfl (yB rfl rfl rfl rfl ?_))))))))); refine yAd rfl (yQ (q_then ?_))
        refine ⟨1, ⟨by omega, fstE_next h0 e1⟩, by omega, rfl, ⟨.refl _, .of_eq (congrArg (fun n => SV.d (dI n)) hw), trivial⟩, ⟨⟨_, rfl, .refl _, .refl _, .refl _, trivial⟩, trivial⟩, trivial, rfl⟩
      have t5 : decide ((i : Int) > 0) = true := decide_eq_true (by omega)
      obtain ⟨⟨px, pq, py, pz, pu⟩, hp⟩ : ∃ a, ms[i - 1]? = some a := ⟨_, List.getElem?_eq_getElem (by omega)⟩
      have ep := ix dM ms _ (i - 1) (px, pq, py, pz, pu) (prevI (by omega) (by omega)) hp
      rw [if_neg hi0, hp] at he
      simp only [Option.map_some] at he
      have h0p : (0 : Int) ≤ IntKind.i64.wrap ((i : Int) - 1) := by rw [prevI (by omega) (by omega)]; omega
      by_cases hlt : q < pq
      · have t6 : decide (pq > q) = true := decide_eq_true hlt
        have e : r = 8 := by
          have e1 : mE d ms i = 8 := by rw [he, decide_eq_true hlt]; rfl
          rw [hat (by rw [e1]; decide), e1]
        rw [e]
        refine pw_skip (pw_seq (pw_block (pw_seq (pw_region (yFb rfl (yLd rfl rfl rfl (yMd rfl (yW ei (by omega) rfl rfl (yLs (ys := [_, _, _, _, _]) rfl rfl rfl ?_))))))))); refine yZ (cs := [_, _, _, _, _]) rfl rfl (yS (cs' := [_, _, _, _, _]) rfl rfl rfl rfl rfl (yQ (pw_seq (pw_seq (pw_region (yFb rfl (yLd rfl rfl rfl (yC (c1) rfl rfl (yU rfl rfl rfl ?_))))))))); refine yQ (pw_cf rfl (pw_skip (pw_seq (pw_seq (pw_region (yFb rfl (yLd rfl rfl rfl (yC (c7) rfl rfl (yB rfl rfl rfl rfl ?_))))))))); refine yMd rfl (yFb rfl (yLd rfl rfl rfl (yFb rfl (yLd rfl rfl rfl (yB rfl rfl rfl rfl ?_))))); rw [t1]
        refine yVd rfl rfl (yQ (pw_cf rfl (pw_skip (pw_seq (pw_seq (pw_region (yFb rfl (yLd rfl rfl rfl (yC (c2) rfl rfl ?_))))))))); refine yU rfl rfl rfl (yQ (pw_cf rfl (pw_skip (pw_seq (pw_seq (pw_region (yFb rfl (yLd rfl rfl rfl (yC (c3) rfl rfl ?_))))))))); refine yB rfl rfl rfl rfl (yMd rfl (yFb rfl (yLd rfl rfl rfl (yC (c4) rfl rfl (yB rfl rfl rfl rfl (yVd rfl rfl (yQ (pw_cf rfl (pw_skip ?_))))))))); refine pw_seq (pw_seq (pw_region (yFb rfl (yLd rfl rfl rfl (yC (c5) rfl rfl (yB rfl rfl rfl rfl ?_)))))); rw [t2]; refine yMd rfl (yFb rfl (yLd rfl rfl rfl (yC (c6) rfl rfl (yB rfl rfl rfl rfl ?_)))); rw [t3]; refine yVd rfl rfl (yQ (pw_cf rfl (pw_skip (pw_seq (pw_seq (pw_region (yFb rfl (yLd rfl rfl rfl (yBse rfl rfl ?_))))))))); rw [t4]; refine yQ (pw_cf rfl (pw_skip (pw_seq ?_))); refine pw_draw Tryz.mixed (by kernel_rfl) ?_; refine yMd rfl (yB rfl rfl rfl rfl ?_); rw [t5]; refine yMd rfl (yFb rfl (yLd rfl rfl rfl (yMd rfl (yB rfl rfl rfl rfl (yW ep h0p rfl rfl (yFr rfl rfl (yLr rfl rfl (yFb rfl (yLd rfl rfl rfl ?_))))))))); refine yB rfl rfl rfl rfl ?_; rw [t6]; refine yPd rfl rfl (yQ (pw_ct rfl (pw_seq (pw_region (yAd rfl (yQ (pw_ret (q_blk_ret (q_then_ret ?_))))))))); refine q_then_ret (q_blk_ret (q_then_ret ?_))
        exact q_ret _ (.tmp rfl .nil) rfl
      · have t6 : decide (pq > q) = false := decide_eq_false hlt
        have e1 : mE d ms i = 0 := by rw [he, decide_eq_false hlt]; rfl
        refine pw_skip (pw_seq (pw_block (pw_seq (pw_region (yFb rfl (yLd rfl rfl rfl (yMd rfl (yW ei (by omega) rfl rfl (yLs (ys := [_, _, _, _, _]) rfl rfl rfl ?_))))))))); refine yZ (cs := [_, _, _, _, _]) rfl rfl (yS (cs' := [_, _, _, _, _]) rfl rfl rfl rfl rfl (yQ (pw_seq (pw_seq (pw_region (yFb rfl (yLd rfl rfl rfl (yC (c1) rfl rfl (yU rfl rfl rfl ?_))))))))); refine yQ (pw_cf rfl (pw_skip (pw_seq (pw_seq (pw_region (yFb rfl (yLd rfl rfl rfl (yC (c7) rfl rfl (yB rfl rfl rfl rfl ?_))))))))); refine yMd rfl (yFb rfl (yLd rfl rfl rfl (yFb rfl (yLd rfl rfl rfl (yB rfl rfl rfl rfl ?_))))); rw [t1]
        refine yVd rfl rfl (yQ (pw_cf rfl (pw_skip (pw_seq (pw_seq (pw_region (yFb rfl (yLd rfl rfl rfl (yC (c2) rfl rfl ?_))))))))); refine yU rfl rfl rfl (yQ (pw_cf rfl (pw_skip (pw_seq (pw_seq (pw_region (yFb rfl (yLd rfl rfl rfl (yC (c3) rfl rfl ?_))))))))); refine yB rfl rfl rfl rfl (yMd rfl (yFb rfl (yLd rfl rfl rfl (yC (c4) rfl rfl (yB rfl rfl rfl rfl (yVd rfl rfl (yQ (pw_cf rfl (pw_skip ?_))))))))); refine pw_seq (pw_seq (pw_region (yFb rfl (yLd rfl rfl rfl (yC (c5) rfl rfl (yB rfl rfl rfl rfl ?_)))))); rw [t2]; refine yMd rfl (yFb rfl (yLd rfl rfl rfl (yC (c6) rfl rfl (yB rfl rfl rfl rfl ?_)))); rw [t3]; refine yVd rfl rfl (yQ (pw_cf rfl (pw_skip (pw_seq (pw_seq (pw_region (yFb rfl (yLd rfl rfl rfl (yBse rfl rfl ?_))))))))); rw [t4]; refine yQ (pw_cf rfl (pw_skip (pw_seq ?_))); refine pw_draw Tryz.mixed (by kernel_rfl) ?_; refine yMd rfl (yB rfl rfl rfl rfl ?_); rw [t5]; refine yMd rfl (yFb rfl (yLd rfl rfl rfl (yMd rfl (yB rfl rfl rfl rfl (yW ep h0p rfl rfl (yFr rfl rfl (yLr rfl rfl (yFb rfl (yLd rfl rfl rfl ?_))))))))); refine yB rfl rfl rfl rfl ?_; rw [t6]; refine yPd rfl rfl (yQ (pw_cf rfl (pw_skip (pw_region (yMd rfl (yB rfl rfl rfl rfl (yAd rfl (yQ (q_then ?_)))))))))
        refine ⟨i + 1, ⟨by omega, fstE_next h0 e1⟩, by omega, rfl, ⟨.refl _, .of_eq (congrArg (fun n => SV.d (dI n)) hw), trivial⟩, ⟨⟨_, rfl, .refl _, .refl _, .refl _, trivial⟩, trivial⟩, trivial, rfl⟩
  · simp at h
    have e : r = 0 := by rw [he1, show ms.length = i by omega]; exact h0
    rw [e]
    refine pw_exit (pw_seq (pw_region (yAd rfl (yQ (pw_ret ?_)))))
    exact q_ret _ (.tmp rfl .nil) rfl
end Go.Proofs.YtdkpmnefoobipaaGreatDoor
namespace Go.Proofs.YtdkpmnefoobipaaGreatDoor
open Go.RowKit Px

def ckE (s t : Stm) (days : Int) : Int :=
  if stE s != 0 || stE t != 0 then 1 else if s.d != t.d then 9 else if decide (days < 0) || decide (days > 366) then 2 else 0
set_option maxRecDepth 20000 in
theorem wChk (s t : Stm) (days : Int) (hs : fitS s) (ht : fitS t) : PCalls Tryz.prog 40 [.agg (dSt s), .agg (dSt t), dI days] (.d (dI (ckE s t days))) := by
  have c1 := wStCheck s hs
  have c2 := wStCheck t ht
  obtain ⟨r, hr⟩ : ∃ r, r = ckE s t days := ⟨_, rfl⟩
  unfold ckE at hr
  obtain ⟨e1, h1⟩ : ∃ r, r = stE s := ⟨_, rfl⟩
  obtain ⟨e2, h2⟩ : ∃ r, r = stE t := ⟨_, rfl⟩
  rw [← h1] at c1 hr
  rw [← h2] at c2 hr
  rw [show ckE s t days = r by rw [hr, h1, h2]; rfl]
  obtain ⟨d1, hs1, ms⟩ := s
  obtain ⟨d2, hs2, ts⟩ := t
  simp only at hr
  refine pcalls_of_pw Tryz.func40 rfl Tryz.ntmps40 Tryz.results40 (by simp) fun B w0 => ?_
  cases t1 : (e1 != 0) with
  | true =>
    rw [t1] at hr
    subst hr
    refine pw_seq (pw_region (yK (cs := [_, _, _]) rfl rfl (yK (cs := [_, _, _]) rfl rfl (yAd rfl (yQ (pw_seq (pw_seq (pw_region (yLa (ys := [_, _, _]) rfl rfl rfl rfl ?_))))))))); refine yC (c1) rfl rfl (yB rfl rfl rfl rfl (yMd rfl ?_)); rw [t1]; refine yO rfl (yO rfl (yO rfl (yPd rfl rfl (yQ (pw_ct rfl (pw_seq (pw_region (yAd rfl (yQ ?_))))))))); refine pw_ret (q_then_ret ?_)
    exact q_ret _ (.tmp rfl .nil) rfl
  | false =>
  cases t2 : (e2 != 0) with
  | true =>
    rw [t1, t2] at hr
    subst hr
    refine pw_seq (pw_region (yK (cs := [_, _, _]) rfl rfl (yK (cs := [_, _, _]) rfl rfl (yAd rfl (yQ (pw_seq (pw_seq (pw_region (yLa (ys := [_, _, _]) rfl rfl rfl rfl ?_))))))))); refine yC (c1) rfl rfl (yB rfl rfl rfl rfl (yMd rfl ?_)); rw [t1]; refine yLa (ys := [_, _, _]) rfl rfl rfl rfl (yC (c2) rfl rfl (yB rfl rfl rfl rfl (yVd rfl rfl (yQ (q_then ?_))))); rw [t2]; refine pw_ct rfl (pw_seq (pw_region (yAd rfl (yQ (pw_ret (q_then_ret ?_))))))
    exact q_ret _ (.tmp rfl .nil) rfl
  | false =>
  rw [t1, t2] at hr
  cases t3 : (d1 != d2) with
  | true =>
    rw [t3] at hr
    subst hr
    refine pw_seq (pw_region (yK (cs := [_, _, _]) rfl rfl (yK (cs := [_, _, _]) rfl rfl (yAd rfl (yQ (pw_seq (pw_seq (pw_region (yLa (ys := [_, _, _]) rfl rfl rfl rfl ?_))))))))); refine yC (c1) rfl rfl (yB rfl rfl rfl rfl (yMd rfl ?_)); rw [t1]; refine yLa (ys := [_, _, _]) rfl rfl rfl rfl (yC (c2) rfl rfl (yB rfl rfl rfl rfl (yVd rfl rfl (yQ (q_then ?_))))); rw [t2]; refine pw_cf rfl (pw_skip (pw_seq (pw_seq (pw_region (yFb rfl (yLd rfl rfl rfl (yFb rfl (yLd rfl rfl rfl (yB rfl rfl rfl rfl ?_))))))))); refine yQ (q_then ?_); rw [t3]; refine pw_ct rfl (pw_seq (pw_region (yAd rfl (yQ (pw_ret (q_then_ret ?_))))))
    exact q_ret _ (.tmp rfl .nil) rfl
  | false =>
  rw [t3] at hr
  cases t4 : decide (days < 0) with
  | true =>
    rw [t4] at hr
    subst hr
    refine pw_seq (pw_region (yK (cs := [_, _, _]) rfl rfl (yK (cs := [_, _, _]) rfl rfl (yAd rfl (yQ (pw_seq (pw_seq (pw_region (yLa (ys := [_, _, _]) rfl rfl rfl rfl ?_))))))))); refine yC (c1) rfl rfl (yB rfl rfl rfl rfl (yMd rfl ?_)); rw [t1]; refine yLa (ys := [_, _, _]) rfl rfl rfl rfl (yC (c2) rfl rfl (yB rfl rfl rfl rfl (yVd rfl rfl (yQ (q_then ?_))))); rw [t2]; refine pw_cf rfl (pw_skip (pw_seq (pw_seq (pw_region (yFb rfl (yLd rfl rfl rfl (yFb rfl (yLd rfl rfl rfl (yB rfl rfl rfl rfl ?_))))))))); refine yQ (q_then ?_); rw [t3]; refine pw_cf rfl (pw_skip (pw_seq (pw_seq (pw_region (yMd rfl (yB rfl rfl rfl rfl (yMd rfl ?_))))))); rw [t4]; refine yO rfl (yO rfl (yPd rfl rfl (yQ (pw_ct rfl (pw_seq (pw_region (yAd rfl (yQ (pw_ret ?_))))))))); refine q_then_ret ?_
    exact q_ret _ (.tmp rfl .nil) rfl
  | false =>
  rw [t4] at hr
  cases t5 : decide (days > 366) with
  | true =>
    rw [t5] at hr
    subst hr
    refine pw_seq (pw_region (yK (cs := [_, _, _]) rfl rfl (yK (cs := [_, _, _]) rfl rfl (yAd rfl (yQ (pw_seq (pw_seq (pw_region (yLa (ys := [_, _, _]) rfl rfl rfl rfl ?_))))))))); refine yC (c1) rfl rfl (yB rfl rfl rfl rfl (yMd rfl ?_)); rw [t1]; refine yLa (ys := [_, _, _]) rfl rfl rfl rfl (yC (c2) rfl rfl (yB rfl rfl rfl rfl (yVd rfl rfl (yQ (q_then ?_))))); rw [t2]; refine pw_cf rfl (pw_skip (pw_seq (pw_seq (pw_region (yFb rfl (yLd rfl rfl rfl (yFb rfl (yLd rfl rfl rfl (yB rfl rfl rfl rfl ?_))))))))); refine yQ (q_then ?_); rw [t3]; refine pw_cf rfl (pw_skip (pw_seq (pw_seq (pw_region (yMd rfl (yB rfl rfl rfl rfl (yMd rfl ?_))))))); rw [t4]; refine yMd rfl (yB rfl rfl rfl rfl (yVd rfl rfl (yQ (q_then ?_)))); rw [t5]; refine pw_ct rfl (pw_seq (pw_region (yAd rfl (yQ (pw_ret (q_then_ret ?_))))))
    exact q_ret _ (.tmp rfl .nil) rfl
  | false =>
    rw [t5] at hr
    subst hr
    refine pw_seq (pw_region (yK (cs := [_, _, _]) rfl rfl (yK (cs := [_, _, _]) rfl rfl (yAd rfl (yQ (pw_seq (pw_seq (pw_region (yLa (ys := [_, _, _]) rfl rfl rfl rfl ?_))))))))); refine yC (c1) rfl rfl (yB rfl rfl rfl rfl (yMd rfl ?_)); rw [t1]; refine yLa (ys := [_, _, _]) rfl rfl rfl rfl (yC (c2) rfl rfl (yB rfl rfl rfl rfl (yVd rfl rfl (yQ (q_then ?_))))); rw [t2]; refine pw_cf rfl (pw_skip (pw_seq (pw_seq (pw_region (yFb rfl (yLd rfl rfl rfl (yFb rfl (yLd rfl rfl rfl (yB rfl rfl rfl rfl ?_))))))))); refine yQ (q_then ?_); rw [t3]; refine pw_cf rfl (pw_skip (pw_seq (pw_seq (pw_region (yMd rfl (yB rfl rfl rfl rfl (yMd rfl ?_))))))); rw [t4]; refine yMd rfl (yB rfl rfl rfl rfl (yVd rfl rfl (yQ (q_then ?_)))); rw [t5]; refine pw_cf rfl (pw_skip (pw_seq (pw_region (yAd rfl (yQ (pw_ret ?_))))))
    exact q_ret _ (.tmp rfl .nil) rfl

set_option maxRecDepth 20000 in
theorem wRChk (s t : Stm) (days : Int) (hs : fitS s) (ht : fitS t) : PCalls Tryz.prog 42 [.agg (dSt s), .agg (dSt t), dI days] (.d (dI (ckE s t days))) := by
  have c1 := wRStCheck s hs
  have c2 := wRStCheck t ht
  obtain ⟨r, hr⟩ : ∃ r, r = ckE s t days := ⟨_, rfl⟩
  unfold ckE at hr
  obtain ⟨e1, h1⟩ : ∃ r, r = stE s := ⟨_, rfl⟩
  obtain ⟨e2, h2⟩ : ∃ r, r = stE t := ⟨_, rfl⟩
  rw [← h1] at c1 hr
  rw [← h2] at c2 hr
  rw [show ckE s t days = r by rw [hr, h1, h2]; rfl]
  obtain ⟨d1, hs1, ms⟩ := s
  obtain ⟨d2, hs2, ts⟩ := t
  simp only at hr
  refine pcalls_of_pw Tryz.func42 rfl Tryz.ntmps42 Tryz.results42 (by simp) fun B w0 => ?_
  cases t1 : (e1 != 0) with
  | true =>
    rw [t1] at hr
    subst hr
    refine pw_seq (pw_region (yK (cs := [_, _, _]) rfl rfl (yK (cs := [_, _, _]) rfl rfl (yAd rfl (yQ (pw_seq (pw_seq (pw_region (yLa (ys := [_, _, _]) rfl rfl rfl rfl ?_))))))))); refine yC (c1) rfl rfl (yB rfl rfl rfl rfl (yMd rfl ?_)); rw [t1]; refine yO rfl (yO rfl (yO rfl (yPd rfl rfl (yQ (pw_ct rfl (pw_seq (pw_region (yAd rfl (yQ ?_))))))))); refine pw_ret (q_then_ret ?_)
    exact q_ret _ (.tmp rfl .nil) rfl
  | false =>
  cases t2 : (e2 != 0) with
  | true =>
    rw [t1, t2] at hr
    subst hr
    refine pw_seq (pw_region (yK (cs := [_, _, _]) rfl rfl (yK (cs := [_, _, _]) rfl rfl (yAd rfl (yQ (pw_seq (pw_seq (pw_region (yLa (ys := [_, _, _]) rfl rfl rfl rfl ?_))))))))); refine yC (c1) rfl rfl (yB rfl rfl rfl rfl (yMd rfl ?_)); rw [t1]; refine yLa (ys := [_, _, _]) rfl rfl rfl rfl (yC (c2) rfl rfl (yB rfl rfl rfl rfl (yVd rfl rfl (yQ (q_then ?_))))); rw [t2]; refine pw_ct rfl (pw_seq (pw_region (yAd rfl (yQ (pw_ret (q_then_ret ?_))))))
    exact q_ret _ (.tmp rfl .nil) rfl
  | false =>
  rw [t1, t2] at hr
  cases t3 : (d1 != d2) with
  | true =>
    rw [t3] at hr
    subst hr
    refine pw_seq (pw_region (yK (cs := [_, _, _]) rfl rfl (yK (cs := [_, _, _]) rfl rfl (yAd rfl (yQ (pw_seq (pw_seq (pw_region (yLa (ys := [_, _, _]) rfl rfl rfl rfl ?_))))))))); refine yC (c1) rfl rfl (yB rfl rfl rfl rfl (yMd rfl ?_)); rw [t1]; refine yLa (ys := [_, _, _]) rfl rfl rfl rfl (yC (c2) rfl rfl (yB rfl rfl rfl rfl (yVd rfl rfl (yQ (q_then ?_))))); rw [t2]; refine pw_cf rfl (pw_skip (pw_seq (pw_seq (pw_region (yFb rfl (yLd rfl rfl rfl (yFb rfl (yLd rfl rfl rfl (yB rfl rfl rfl rfl ?_))))))))); refine yQ (q_then ?_); rw [t3]; refine pw_ct rfl (pw_seq (pw_region (yAd rfl (yQ (pw_ret (q_then_ret ?_))))))
    exact q_ret _ (.tmp rfl .nil) rfl
  | false =>
  rw [t3] at hr
  cases t4 : decide (days < 0) with
  | true =>
    rw [t4] at hr
    subst hr
    refine pw_seq (pw_region (yK (cs := [_, _, _]) rfl rfl (yK (cs := [_, _, _]) rfl rfl (yAd rfl (yQ (pw_seq (pw_seq (pw_region (yLa (ys := [_, _, _]) rfl rfl rfl rfl ?_))))))))); refine yC (c1) rfl rfl (yB rfl rfl rfl rfl (yMd rfl ?_)); rw [t1]; refine yLa (ys := [_, _, _]) rfl rfl rfl rfl (yC (c2) rfl rfl (yB rfl rfl rfl rfl (yVd rfl rfl (yQ (q_then ?_))))); rw [t2]; refine pw_cf rfl (pw_skip (pw_seq (pw_seq (pw_region (yFb rfl (yLd rfl rfl rfl (yFb rfl (yLd rfl rfl rfl (yB rfl rfl rfl rfl ?_))))))))); refine yQ (q_then ?_); rw [t3]; refine pw_cf rfl (pw_skip (pw_seq (pw_seq (pw_region (yMd rfl (yB rfl rfl rfl rfl (yMd rfl ?_))))))); rw [t4]; refine yO rfl (yO rfl (yPd rfl rfl (yQ (pw_ct rfl (pw_seq (pw_region (yAd rfl (yQ (pw_ret ?_))))))))); refine q_then_ret ?_
    exact q_ret _ (.tmp rfl .nil) rfl
  | false =>
  rw [t4] at hr
  cases t5 : decide (days > 366) with
  | true =>
    rw [t5] at hr
    subst hr
    refine pw_seq (pw_region (yK (cs := [_, _, _]) rfl rfl (yK (cs := [_, _, _]) rfl rfl (yAd rfl (yQ (pw_seq (pw_seq (pw_region (yLa (ys := [_, _, _]) rfl rfl rfl rfl ?_))))))))); refine yC (c1) rfl rfl (yB rfl rfl rfl rfl (yMd rfl ?_)); rw [t1]; refine yLa (ys := [_, _, _]) rfl rfl rfl rfl (yC (c2) rfl rfl (yB rfl rfl rfl rfl (yVd rfl rfl (yQ (q_then ?_))))); rw [t2]; refine pw_cf rfl (pw_skip (pw_seq (pw_seq (pw_region (yFb rfl (yLd rfl rfl rfl (yFb rfl (yLd rfl rfl rfl (yB rfl rfl rfl rfl ?_))))))))); refine yQ (q_then ?_); rw [t3]; refine pw_cf rfl (pw_skip (pw_seq (pw_seq (pw_region (yMd rfl (yB rfl rfl rfl rfl (yMd rfl ?_))))))); rw [t4]; refine yMd rfl (yB rfl rfl rfl rfl (yVd rfl rfl (yQ (q_then ?_)))); rw [t5]; refine pw_ct rfl (pw_seq (pw_region (yAd rfl (yQ (pw_ret (q_then_ret ?_))))))
    exact q_ret _ (.tmp rfl .nil) rfl
  | false =>
    rw [t5] at hr
    subst hr
    refine pw_seq (pw_region (yK (cs := [_, _, _]) rfl rfl (yK (cs := [_, _, _]) rfl rfl (yAd rfl (yQ (pw_seq (pw_seq (pw_region (yLa (ys := [_, _, _]) rfl rfl rfl rfl ?_))))))))); refine yC (c1) rfl rfl (yB rfl rfl rfl rfl (yMd rfl ?_)); rw [t1]; refine yLa (ys := [_, _, _]) rfl rfl rfl rfl (yC (c2) rfl rfl (yB rfl rfl rfl rfl (yVd rfl rfl (yQ (q_then ?_))))); rw [t2]; refine pw_cf rfl (pw_skip (pw_seq (pw_seq (pw_region (yFb rfl (yLd rfl rfl rfl (yFb rfl (yLd rfl rfl rfl (yB rfl rfl rfl rfl ?_))))))))); refine yQ (q_then ?_); rw [t3]; refine pw_cf rfl (pw_skip (pw_seq (pw_seq (pw_region (yMd rfl (yB rfl rfl rfl rfl (yMd rfl ?_))))))); rw [t4]; refine yMd rfl (yB rfl rfl rfl rfl (yVd rfl rfl (yQ (q_then ?_)))); rw [t5]; refine pw_cf rfl (pw_skip (pw_seq (pw_region (yAd rfl (yQ (pw_ret ?_))))))
    exact q_ret _ (.tmp rfl .nil) rfl

end Go.Proofs.YtdkpmnefoobipaaGreatDoor
namespace Go.Proofs.YtdkpmnefoobipaaGreatDoor
open Go.RowKit Px

theorem ckE_s {s t : Stm} {days : Int} (h : ckE s t days = 0) : stE s = 0 ∧ stE t = 0 ∧ s.d = t.d ∧ 0 ≤ days ∧ days ≤ 366 := by
  unfold ckE at h
  by_cases h1 : (stE s != 0 || stE t != 0) = true
  · rw [if_pos h1] at h; cases h
  · rw [if_neg h1] at h
    by_cases h2 : (s.d != t.d) = true
    · rw [if_pos h2] at h; cases h
    · rw [if_neg h2] at h
      by_cases h3 : (decide (days < 0) || decide (days > 366)) = true
      · rw [if_pos h3] at h; cases h
      · simp at h1 h2 h3
        exact ⟨h1.1, h1.2, h2, h3⟩
def pairsR (s t : Stm) (days : Int) : List (Int × Int) := if ckE s t days = 0 then prsN (pt2 days s.ms t.ms).1 s.ms.length else []
theorem ixs {l : List (Option Nat)} {i : Nat} (h : i < l.length) : ((l.map ixO).map dZ)[(i : Int).toNat]? = some (dZ (ixO (l[i]?.getD none))) := by
  rw [Int.toNat_natCast]
  simp [List.getElem?_eq_getElem h]
set_option maxRecDepth 20000 in
set_option maxHeartbeats 2000000 in
theorem wPairs (s t : Stm) (days : Int) (hs : fitS s) (ht : fitS t) : PCalls Tryz.prog 12 [.agg (dSt s), .agg (dSt t), dI days] (.tup [.sl 2 ((pairsR s t days).map dP2), dI (ckE s t days)]) := by
  have c1 := wChk s t days hs ht
  obtain ⟨ck, hck⟩ : ∃ e, e = ckE s t days := ⟨_, rfl⟩
  have hp : pairsR s t days = if ck = 0 then prsN (pt2 days s.ms t.ms).1 s.ms.length else [] := by rw [pairsR, hck]
  rw [← hck] at c1 ⊢
  rw [hp]
  by_cases h0 : ck = 0
  rotate_left
  · have t1 : (ck != 0) = true := by simpa using h0
    rw [if_neg h0]
    obtain ⟨d1, hs1, ms⟩ := s
    obtain ⟨d2, hs2, ts⟩ := t
    refine pcalls_of_pw Tryz.func12 rfl Tryz.ntmps12 Tryz.results12 (by simp) fun B w0 => ?_
    refine pw_seq (pw_region (yK (cs := [_, _, _]) rfl rfl (yK (cs := [_, _, _]) rfl rfl (yAd rfl (yAd rfl (yQ (pw_seq (pw_seq (pw_region ?_))))))))); refine yLa (ys := [_, _, _]) rfl rfl rfl rfl (yLa (ys := [_, _, _]) rfl rfl rfl rfl (yMd rfl (yC (c1) rfl rfl (yAd rfl (yQ (pw_seq (pw_region (yMd rfl (yB rfl rfl rfl rfl ?_))))))))); refine yQ (q_then ?_); rw [t1]; refine pw_ct rfl (pw_seq (pw_region (yMd rfl (yAd rfl (yAd rfl (yQ (pw_ret (q_then_ret ?_))))))))
    exact q_ret _ (.tnil 2 rfl (.tmp rfl .nil)) rfl
  · rw [if_pos h0]
    have hv := ckE_s (hck.symm.trans h0)
    have c2 := wPair s t days hs.ml ht.ml (stE_v hv.1) (stE_v hv.2.1)
    have hl := pt2_len days s.ms t.ms
    have hml := hs.ml
    subst h0
    obtain ⟨⟨pl, tk⟩, hp⟩ : ∃ p, p = pt2 days s.ms t.ms := ⟨_, rfl⟩
    rw [← hp] at hl c2 ⊢
    obtain ⟨d1, hs1, ms⟩ := s
    obtain ⟨d2, hs2, ts⟩ := t
    simp only at hl c2 hml ⊢
    refine pcalls_of_pw Tryz.func12 rfl Tryz.ntmps12 Tryz.results12 (by simp) fun B w0 => ?_
    refine pw_seq (pw_region (yK (cs := [_, _, _]) rfl rfl (yK (cs := [_, _, _]) rfl rfl (yAd rfl (yAd rfl (yQ (pw_seq (pw_seq (pw_region ?_))))))))); refine yLa (ys := [_, _, _]) rfl rfl rfl rfl (yLa (ys := [_, _, _]) rfl rfl rfl rfl (yMd rfl (yC (c1) rfl rfl (yAd rfl (yQ (pw_seq (pw_region (yMd rfl (yB rfl rfl rfl rfl ?_))))))))); refine yQ (pw_cf rfl (pw_skip (pw_seq (pw_region (yAd rfl (yQ ?_)))))); refine pw_tok 9 (37 * 100000 + 9) 2 rfl rfl rfl ?_
    refine pw_seq (pw_region (yLa (ys := [_, _, _]) rfl rfl rfl rfl (yLa (ys := [_, _, _]) rfl rfl rfl rfl (yMd rfl (yC (c2) rfl rfl (yMp rfl (yX rfl rfl (yX rfl rfl (yAd rfl ?_))))))))); refine yAd rfl (yQ (pw_seq (pw_seq (pw_region (yMd rfl (yN rfl (yMd rfl (yQ (pw_block ?_))))))))); refine pw_loop (fun i : Nat => ⟨45, [(9, .ts (37 * 100000 + 9) 2 ((prsN pl i).map dP2)), (28, .d (dIs (pl.map ixO))), (29, .d (dI pl.length)), (30, .d (dI i))], [], [(37 * 100000 + 9, ((prsN pl i).map dP2).length)]⟩) (fun i => i ≤ pl.length) (fun i => pl.length - i) 0 (Nat.zero_le _)
      ⟨rfl, ⟨.refl _, .refl _, .of_eq (congrArg (fun n : Nat => SV.d (dI n)) (by simp)), .refl _, trivial⟩, trivial, ⟨rfl, trivial⟩, rfl⟩ ?_
    intro i hi
    have hnx : prsN pl (i + 1) = match pl[i]?.getD none with
      | none => prsN pl i
      | some k => prsN pl i ++ [((i : Int), (k : Int))] := rfl
    have hpn := prsN_len pl i
    obtain ⟨nx, hnx2⟩ : ∃ o, o = prsN pl (i + 1) := ⟨_, rfl⟩
    have hend : i = pl.length → prsN pl ms.length = prsN pl i := fun e => by rw [e, hl.1]
    obtain ⟨zs, hzs⟩ : ∃ o, o = prsN pl i := ⟨_, rfl⟩
    rw [← hzs] at hnx hpn hend ⊢
    rw [← hnx2] at hnx
    refine pw_seq (pw_region (yB rfl rfl rfl rfl (yQ (pw_seq ?_)))); refine pw_cond rfl (fun h => ?_) (fun h => ?_)
    · simp at h
      have ei := ixs h
      have hw := wrapI ((i : Int) + 1) (by omega)
      obtain ⟨o, ho⟩ : ∃ o, o = pl[i]?.getD none := ⟨_, rfl⟩
      rw [← ho] at ei hnx
      cases o with
      | none =>
        have e : nx = zs := hnx
        refine pw_skip (pw_seq (pw_block (pw_seq (pw_region (yMd rfl (yW ei (by omega) rfl rfl (yLr rfl rfl (yAd rfl (yAd rfl ?_))))))))); refine yQ (pw_seq (pw_region (yMd rfl (yB rfl rfl rfl rfl (yQ (pw_cf rfl (pw_skip (pw_region (yB rfl rfl rfl rfl ?_))))))))); refine yMd rfl (yQ (q_then ?_))
        refine ⟨i + 1, by omega, by omega, rfl, ⟨.of_eq (by rw [← hnx2, e]; rfl), .refl _, .refl _, .of_eq (congrArg (fun n => SV.d (dI n)) hw), trivial⟩, trivial, ⟨(by rw [← hnx2, e]; rfl), trivial⟩, rfl⟩
      | some k =>
        have e : nx = zs ++ [((i : Int), (k : Int))] := hnx
        have t1 : decide (ixO (some k) ≥ 0) = true := decide_eq_true (by show (k : Int) ≥ 0; omega)
        refine pw_skip (pw_seq (pw_block (pw_seq (pw_region (yMd rfl (yW ei (by omega) rfl rfl (yLr rfl rfl (yAd rfl (yAd rfl ?_))))))))); refine yQ (pw_seq (pw_region (yMd rfl (yB rfl rfl rfl rfl (yQ (pw_ct rfl (pw_region (yMt rfl (yMd rfl ?_))))))))); refine yMd rfl (yG (ys := [_, _]) rfl rfl (yR (es := [[_, _]]) rfl rfl rfl rfl rfl (yT (es' := (zs ++ [((i : Int), (k : Int))]).map dP2) (m := ((zs ++ [((i : Int), (k : Int))]).map dP2).length) (by simp; omega) (by simp; omega) rfl rfl rfl rfl rfl (by simp [ixO]) (by simp) (yAt rfl (yQ (pw_region (yB rfl rfl rfl rfl (yMd rfl (yQ ?_))))))))); refine q_then ?_; rw [t1]
        refine ⟨i + 1, by omega, by omega, rfl, ⟨.of_eq (by rw [← hnx2, e]; rfl), .refl _, .refl _, .of_eq (congrArg (fun n => SV.d (dI n)) hw), trivial⟩, trivial, ⟨(by rw [← hnx2, e]; rfl), trivial⟩, rfl⟩
    · simp at h
      rw [hend (by omega)]
      refine pw_exit (pw_seq (pw_region (yMt rfl (yAt rfl (yAd rfl (yQ (pw_ret ?_)))))))
      exact q_ret _ (.tmp rfl (.tmp rfl .nil)) rfl
end Go.Proofs.YtdkpmnefoobipaaGreatDoor
namespace Go.Proofs.YtdkpmnefoobipaaGreatDoor
open Go.RowKit Px

def movsR (s t : Stm) (days : Int) : List Bk := if ckE s t days = 0 then mvB s.ms t.ms days else []
end Go.Proofs.YtdkpmnefoobipaaGreatDoor
