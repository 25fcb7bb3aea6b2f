/- Walk: Movements. -/
import Derived.Test.YtdkpmnefoobipaaGreatDoorB5
import Derived.Test.YtdkpmnefoobipaaGreatDoorB4
import Derived.Test.YtdkpmnefoobipaaGreatDoorB3
import Derived.Laws.Append
import Derived.ChangeKeysEq
import Derived.Sort.OwnSorted
import Derived.Shelf.SlicesE.Compact
import Derived.Sort.Walk0
namespace Go.Proofs.YtdkpmnefoobipaaGreatDoor
open Go.RowKit Px

theorem tk_at' {tk : List Bool} {k : Nat} (h : k < tk.length) : (tk.map dBl)[(k : Int).toNat]? = some (dBl (tkn tk k)) := tk_at h
abbrev bkT : Nat := 41 * 100000 + 9
def dcl (b : Bool) : Int := if b then 6 else 2
set_option maxRecDepth 20000 in
set_option maxHeartbeats 8000000 in
theorem wMovements (s t : Stm) (days : Int) (hs : fitS s) (ht : fitS t) : PCalls Tryz.prog 14 [.agg (dSt s), .agg (dSt t), dI days] (.tup [.sl 4 ((movsR s t days).map dBk), dI (ckE s t days)]) := by
  have c1 := wChk s t days hs ht
  obtain ⟨ck, hck⟩ : ∃ e, e = ckE s t days := ⟨_, rfl⟩
  have hp : movsR s t days = if ck = 0 then mvB s.ms t.ms days else [] := by rw [movsR, hck]
  rw [← hck] at c1 ⊢
  rw [hp]
  by_cases h0 : ck = 0
  rotate_left
  · have t1 : (ck != 0) = true := by simpa using h0
    rw [if_neg h0]
    obtain ⟨d1, hs1, ms⟩ := s
    obtain ⟨d2, hs2, ts⟩ := t
    refine pcalls_of_pw Tryz.func14 rfl Tryz.ntmps14 Tryz.results14 (by simp) fun B w0 => ?_
    refine pw_seq (pw_region (yK (cs := [_, _, _]) rfl rfl (yK (cs := [_, _, _]) rfl rfl (yAd rfl (yAd rfl (yQ (pw_seq (pw_seq (pw_region ?_))))))))); refine yLa (ys := [_, _, _]) rfl rfl rfl rfl (yLa (ys := [_, _, _]) rfl rfl rfl rfl (yMd rfl (yC (c1) rfl rfl (yAd rfl (yQ (pw_seq (pw_region (yMd rfl (yB rfl rfl rfl rfl ?_))))))))); refine yQ (q_then ?_); rw [t1]; refine pw_ct rfl (pw_seq (pw_region (yMd rfl (yAd rfl (yAd rfl (yQ (pw_ret (q_then_ret ?_))))))))
    exact q_ret _ (.tnil 4 rfl (.tmp rfl .nil)) rfl
  rw [if_pos h0]
  have hv := ckE_s (hck.symm.trans h0)
  have hv1 := stE_v hv.1
  have hv2 := stE_v hv.2.1
  have c2 := wPair s t days hs.ml ht.ml hv1 hv2
  have hl := pt2_len days s.ms t.ms
  have hml := hs.ml
  have htl := ht.ml
  have hlk : ∀ (i k : Nat), (pt2 days s.ms t.ms).1[i]?.getD none = some k → k < t.ms.length := fun i k h => pt2_lt days s.ms t.ms h
  obtain ⟨r, hr⟩ : ∃ r, r = mvB s.ms t.ms days := ⟨_, rfl⟩
  rw [← hr]
  unfold mvB at hr
  subst h0
  obtain ⟨⟨pl, tk⟩, hp⟩ : ∃ p, p = pt2 days s.ms t.ms := ⟨_, rfl⟩
  rw [← hp] at hl c2 hlk hr
  obtain ⟨d1, hs1, ms⟩ := s
  obtain ⟨d2, hs2, ts⟩ := t
  simp only at hl c2 hml htl hlk hr hv1 hv2 ⊢
  refine pcalls_of_pw Tryz.func14 rfl Tryz.ntmps14 Tryz.results14 (by simp) fun B w0 => ?_
  refine pw_seq (pw_region (yK (cs := [_, _, _]) rfl rfl (yK (cs := [_, _, _]) rfl rfl (yAd rfl (yAd rfl (yQ (pw_seq (pw_seq (pw_region ?_))))))))); refine yLa (ys := [_, _, _]) rfl rfl rfl rfl (yLa (ys := [_, _, _]) rfl rfl rfl rfl (yMd rfl (yC (c1) rfl rfl (yAd rfl (yQ (pw_seq (pw_region (yMd rfl (yB rfl rfl rfl rfl ?_))))))))); refine yQ (pw_cf rfl (pw_skip (pw_seq (pw_region (yZ (cs := [_]) rfl rfl (yQ ?_)))))); refine pw_tokb 9 0 bkT 4 rfl rfl rfl rfl ?_; refine pw_seq (pw_region (yCmb rfl (yAg rfl (yQ (pw_seq (pw_region (yLa (ys := [_, _, _]) rfl rfl rfl rfl (yLa (ys := [_, _, _]) rfl rfl rfl rfl (yMd rfl ?_))))))))); refine yC (c2) rfl rfl (yMp rfl (yX rfl rfl (yX rfl rfl (yAd rfl (yAd rfl (yQ (pw_seq (pw_seq (pw_region ?_))))))))); refine yFb rfl (yLd rfl rfl rfl (yN rfl (yMd rfl (yQ (pw_block ?_))))); refine pw_loop (fun i : Nat => ⟨168, [(3, .bx 3 0), (4, .bx 4 0), (9, .bx 9 0), (10, .fb 44 9 0), (11, .d (dIs (pl.map ixO))), (12, .d (.sl 1 (tk.map dBl))), (37, .d (.sl 5 (ms.map dM))), (38, .d (dI ms.length)), (39, .d (dI i))], [(3, [.d (dI d1), .d (.sl 2 (hs1.map dH)), .d (.sl 5 (ms.map dM))]), (4, [.d (dI d2), .d (.sl 2 (hs2.map dH)), .d (.sl 5 (ts.map dM))]), (9, [.ts bkT 4 ((mbA ms ts pl i).map dBk)])], [(bkT, ((mbA ms ts pl i).map dBk).length)]⟩) (fun i => i ≤ ms.length) (fun i => ms.length - i) 0 (Nat.zero_le _)
    ⟨rfl, ⟨.refl _, .refl _, .refl _, .refl _, .refl _, .refl _, .refl _, .of_eq (congrArg (fun n : Nat => SV.d (dI n)) (by simp)), .refl _, trivial⟩, ⟨⟨_, rfl, .refl _, .refl _, .refl _, trivial⟩, ⟨_, rfl, .refl _, .refl _, .refl _, trivial⟩, ⟨_, rfl, .refl _, trivial⟩, trivial⟩, ⟨rfl, trivial⟩, rfl⟩ ?_
  intro i hi
  have hnx : ∀ m, ms[i]? = some m → mbA ms ts pl (i + 1) = mbA ms ts pl i ++ (match pl[i]?.getD none with
      | none => [(1, m.1, m.2.2.2.1, [])]
      | some k => match ts[k]? with
        | none => []
        | some x => brP m x) := fun m hm => by rw [mbA, hm]; rfl
  have hln := mbA_len ms ts pl i
  obtain ⟨nx, hnx2⟩ : ∃ o, o = mbA ms ts pl (i + 1) := ⟨_, rfl⟩
  have hend : i = ms.length → mbA ms ts pl ms.length = mbA ms ts pl i := fun e => by rw [e]
  obtain ⟨zs, hzs⟩ : ∃ o, o = mbA ms ts pl i := ⟨_, rfl⟩
  simp only [← hzs, ← hnx2] at hnx hln hend
  rw [← hzs]
  refine pw_seq (pw_region (yB rfl rfl rfl rfl (yQ (pw_seq ?_)))); refine pw_cond rfl (fun h => ?_) (fun h => ?_)
  · simp at h
    obtain ⟨⟨m0, m1, m2, m3, m4⟩, hm⟩ : ∃ a, ms[i]? = some a := ⟨_, List.getElem?_eq_getElem h⟩
    have em := ix dM ms i i (m0, m1, m2, m3, m4) rfl hm
    have ep := ixs' (l := pl) (i := i) (by omega)
    have hw := wrapI ((i : Int) + 1) (by omega)
    have hn := hnx _ hm
    have hvm := hv1 _ (List.mem_of_getElem? hm)
    have hlki := hlk i
    obtain ⟨o, ho⟩ : ∃ o, o = pl[i]?.getD none := ⟨_, rfl⟩
    rw [← ho] at ep hn hlki
    cases o with
    | none =>
      have e : nx = zs ++ [(1, m0, m3, [])] := hn
      refine pw_skip (pw_seq (pw_block (pw_seq (pw_region (yMd rfl (yW em (by omega) rfl rfl (yLs (ys := [_, _, _, _, _]) rfl rfl rfl (yZ (cs := [_, _, _, _, _]) rfl rfl (yAd rfl ?_))))))))); refine yS (cs' := [_, _, _, _, _]) rfl rfl rfl rfl rfl (yQ (pw_seq (pw_seq (pw_region (yMd rfl (yMd rfl (yW ep (by omega) rfl rfl (yLr rfl rfl (yB rfl rfl rfl rfl ?_))))))))); refine yQ (pw_ct rfl (pw_seq (pw_region (yMg rfl (yFb rfl (yLd rfl rfl rfl (yFb rfl (yLd rfl rfl rfl ?_)))))))); refine yCxb (wAdd9 _ (1, m0, m3, []) (by first | omega | (simp; omega))) rfl rfl ⟨rfl, trivial⟩ ⟨rfl, trivial⟩ ?_ (hfit := by kernel_rfl); refine yQ (pw_exit (pw_region (yB rfl rfl rfl rfl (yMd rfl (yQ (q_then ?_))))))
      refine ⟨i + 1, by omega, by omega, rfl, ⟨.refl _, .refl _, .refl _, .refl _, .refl _, .refl _, .refl _, .refl _, .of_eq (congrArg (fun n => SV.d (dI n)) hw), trivial⟩, ⟨⟨_, rfl, .refl _, .refl _, .refl _, trivial⟩, ⟨_, rfl, .refl _, .refl _, .refl _, trivial⟩, ⟨_, rfl, .of_eq (by rw [← hnx2, e] <;> rfl), trivial⟩, trivial⟩, ⟨(by rw [← hnx2, e] <;> rfl), trivial⟩, rfl⟩
    | some k =>
      have hk := hlki k rfl
      obtain ⟨⟨x0, x1, x2, x3, x4⟩, hx⟩ : ∃ a, ts[k]? = some a := ⟨_, List.getElem?_eq_getElem hk⟩
      obtain ⟨b1, b2⟩ := vD_b hvm
      obtain ⟨b3, b4⟩ := vD_b (hv2 _ (List.mem_of_getElem? hx))
      simp only at b1 b2 b3 b4
      have c3 := wOf m1 b1 b2
      have c4 := wOf x1 b3 b4
      have ex : (ts.map dM)[(ixO (some k)).toNat]? = some (dM (x0, x1, x2, x3, x4)) := ix dM ts k k _ rfl hx
      have h0k : (0 : Int) ≤ ixO (some k) := by show (0 : Int) ≤ k; omega
      have t0 : decide (ixO (some k) < 0) = false := decide_eq_false (by show ¬ ((k : Int) < 0); omega)
      simp only [hx] at hn
      cases t1 : (m3 == x3) <;> cases t2 : (m4 == x4) <;> cases t3 : (m1 == x1)
      · have u3 : (m1 != x1) = true := by rw [bne, t3]; rfl
        have e : nx = zs ++ [(3, m0, m3, x3)] ++ [(4, m0, m4, x4)] ++ [(5, m0, canon m1, canon x1)] := by rw [hn]; simp [brP, t1, t2, t3]
        refine pw_skip (pw_seq (pw_block (pw_seq (pw_region (yMd rfl (yW em (by omega) rfl rfl (yLs (ys := [_, _, _, _, _]) rfl rfl rfl (yZ (cs := [_, _, _, _, _]) rfl rfl (yAd rfl ?_))))))))); refine yS (cs' := [_, _, _, _, _]) rfl rfl rfl rfl rfl (yQ (pw_seq (pw_seq (pw_region (yMd rfl (yMd rfl (yW ep (by omega) rfl rfl (yLr rfl rfl (yB rfl rfl rfl rfl ?_))))))))); refine yQ (pw_cf rfl (pw_skip (pw_seq ?_))); refine pw_draw Tryz.mixed (by kernel_rfl) ?_; refine yFb rfl (yLd rfl rfl rfl (yMd rfl (yMd rfl (yW ep (by omega) rfl rfl (yLr rfl rfl (yW ex h0k rfl rfl (yLs (ys := [_, _, _, _, _]) rfl rfl rfl (yZ (cs := [_, _, _, _, _]) rfl rfl (yS (cs' := [_, _, _, _, _]) rfl rfl rfl rfl rfl ?_))))))))); refine yQ (pw_seq (pw_seq (pw_region (yFb rfl (yLd rfl rfl rfl (yFb rfl (yLd rfl rfl rfl (yBsn rfl rfl (yQ ?_))))))))); refine q_then ?_; rw [t0]; rw [t1]; refine pw_ct rfl (pw_region (yMg rfl (yFb rfl (yLd rfl rfl rfl (yFb rfl (yLd rfl rfl rfl (yFb rfl (yLd rfl rfl rfl ?_)))))))); refine yCxb (wAdd9 _ (3, m0, m3, x3) (by first | omega | (simp; omega))) rfl rfl ⟨rfl, trivial⟩ ⟨rfl, trivial⟩ ?_ (hfit := by kernel_rfl)
        refine yQ (pw_seq (pw_seq (pw_region (yFb rfl (yLd rfl rfl rfl (yFb rfl (yLd rfl rfl rfl (yBsn rfl rfl (yQ ?_))))))))); refine q_then ?_; rw [t2]
        refine pw_ct rfl (pw_region (yMg rfl (yFb rfl (yLd rfl rfl rfl (yFb rfl (yLd rfl rfl rfl (yFb rfl (yLd rfl rfl rfl ?_)))))))); refine yCxb (wAdd9 _ (4, m0, m4, x4) (by first | omega | (simp; omega))) rfl rfl ⟨rfl, trivial⟩ ⟨rfl, trivial⟩ ?_ (hfit := by kernel_rfl); refine yQ (pw_seq (pw_region (yFb rfl (yLd rfl rfl rfl (yFb rfl (yLd rfl rfl rfl (yB rfl rfl rfl rfl (yQ (q_then ?_))))))))); rw [u3]; refine pw_ct rfl ?_; refine pw_drawl (id := 18) [_, _, _, _, _, _, _, _, _] _ rfl Tryz.mixed (by kernel_rfl) (by kernel_rfl) ?_; refine yMg rfl (yFb rfl (yLd rfl rfl rfl (yFb rfl (yLd rfl rfl rfl (yC (c3) rfl rfl (yFb rfl (yLd rfl rfl rfl (yC (c4) rfl rfl (yQ ?_))))))))); refine yCxb (wAdd9 _ (5, m0, canon m1, canon x1) (by first | omega | (simp; omega))) rfl rfl ⟨rfl, trivial⟩ ⟨rfl, trivial⟩ ?_ (hfit := by kernel_rfl); refine yQ (pw_region (yB rfl rfl rfl rfl (yMd rfl (yQ (q_then ?_)))))
        refine ⟨i + 1, by omega, by omega, rfl, ⟨.refl _, .refl _, .refl _, .refl _, .refl _, .refl _, .refl _, .refl _, .of_eq (congrArg (fun n => SV.d (dI n)) hw), trivial⟩, ⟨⟨_, rfl, .refl _, .refl _, .refl _, trivial⟩, ⟨_, rfl, .refl _, .refl _, .refl _, trivial⟩, ⟨_, rfl, .of_eq (by rw [← hnx2, e] <;> rfl), trivial⟩, trivial⟩, ⟨(by rw [← hnx2, e] <;> rfl), trivial⟩, rfl⟩
      · have u3 : (m1 != x1) = false := by rw [bne, t3]; rfl
        have e : nx = zs ++ [(3, m0, m3, x3)] ++ [(4, m0, m4, x4)] := by rw [hn]; simp [brP, t1, t2, t3]
        refine pw_skip (pw_seq (pw_block (pw_seq (pw_region (yMd rfl (yW em (by omega) rfl rfl (yLs (ys := [_, _, _, _, _]) rfl rfl rfl (yZ (cs := [_, _, _, _, _]) rfl rfl (yAd rfl ?_))))))))); refine yS (cs' := [_, _, _, _, _]) rfl rfl rfl rfl rfl (yQ (pw_seq (pw_seq (pw_region (yMd rfl (yMd rfl (yW ep (by omega) rfl rfl (yLr rfl rfl (yB rfl rfl rfl rfl ?_))))))))); refine yQ (pw_cf rfl (pw_skip (pw_seq ?_))); refine pw_draw Tryz.mixed (by kernel_rfl) ?_; refine yFb rfl (yLd rfl rfl rfl (yMd rfl (yMd rfl (yW ep (by omega) rfl rfl (yLr rfl rfl (yW ex h0k rfl rfl (yLs (ys := [_, _, _, _, _]) rfl rfl rfl (yZ (cs := [_, _, _, _, _]) rfl rfl (yS (cs' := [_, _, _, _, _]) rfl rfl rfl rfl rfl ?_))))))))); refine yQ (pw_seq (pw_seq (pw_region (yFb rfl (yLd rfl rfl rfl (yFb rfl (yLd rfl rfl rfl (yBsn rfl rfl (yQ ?_))))))))); refine q_then ?_; rw [t0]; rw [t1]; refine pw_ct rfl (pw_region (yMg rfl (yFb rfl (yLd rfl rfl rfl (yFb rfl (yLd rfl rfl rfl (yFb rfl (yLd rfl rfl rfl ?_)))))))); refine yCxb (wAdd9 _ (3, m0, m3, x3) (by first | omega | (simp; omega))) rfl rfl ⟨rfl, trivial⟩ ⟨rfl, trivial⟩ ?_ (hfit := by kernel_rfl)
        refine yQ (pw_seq (pw_seq (pw_region (yFb rfl (yLd rfl rfl rfl (yFb rfl (yLd rfl rfl rfl (yBsn rfl rfl (yQ ?_))))))))); refine q_then ?_; rw [t2]
        refine pw_ct rfl (pw_region (yMg rfl (yFb rfl (yLd rfl rfl rfl (yFb rfl (yLd rfl rfl rfl (yFb rfl (yLd rfl rfl rfl ?_)))))))); refine yCxb (wAdd9 _ (4, m0, m4, x4) (by first | omega | (simp; omega))) rfl rfl ⟨rfl, trivial⟩ ⟨rfl, trivial⟩ ?_ (hfit := by kernel_rfl); refine yQ (pw_seq (pw_region (yFb rfl (yLd rfl rfl rfl (yFb rfl (yLd rfl rfl rfl (yB rfl rfl rfl rfl (yQ (q_then ?_))))))))); rw [u3]; refine pw_cf rfl (pw_skip (pw_region (yB rfl rfl rfl rfl (yMd rfl (yQ (q_then ?_))))))
        refine ⟨i + 1, by omega, by omega, rfl, ⟨.refl _, .refl _, .refl _, .refl _, .refl _, .refl _, .refl _, .refl _, .of_eq (congrArg (fun n => SV.d (dI n)) hw), trivial⟩, ⟨⟨_, rfl, .refl _, .refl _, .refl _, trivial⟩, ⟨_, rfl, .refl _, .refl _, .refl _, trivial⟩, ⟨_, rfl, .of_eq (by rw [← hnx2, e] <;> rfl), trivial⟩, trivial⟩, ⟨(by rw [← hnx2, e] <;> rfl), trivial⟩, rfl⟩
      · have u3 : (m1 != x1) = true := by rw [bne, t3]; rfl
        have e : nx = zs ++ [(3, m0, m3, x3)] ++ [(5, m0, canon m1, canon x1)] := by rw [hn]; simp [brP, t1, t2, t3]
        refine pw_skip (pw_seq (pw_block (pw_seq (pw_region (yMd rfl (yW em (by omega) rfl rfl (yLs (ys := [_, _, _, _, _]) rfl rfl rfl (yZ (cs := [_, _, _, _, _]) rfl rfl (yAd rfl ?_))))))))); refine yS (cs' := [_, _, _, _, _]) rfl rfl rfl rfl rfl (yQ (pw_seq (pw_seq (pw_region (yMd rfl (yMd rfl (yW ep (by omega) rfl rfl (yLr rfl rfl (yB rfl rfl rfl rfl ?_))))))))); refine yQ (pw_cf rfl (pw_skip (pw_seq ?_))); refine pw_draw Tryz.mixed (by kernel_rfl) ?_; refine yFb rfl (yLd rfl rfl rfl (yMd rfl (yMd rfl (yW ep (by omega) rfl rfl (yLr rfl rfl (yW ex h0k rfl rfl (yLs (ys := [_, _, _, _, _]) rfl rfl rfl (yZ (cs := [_, _, _, _, _]) rfl rfl (yS (cs' := [_, _, _, _, _]) rfl rfl rfl rfl rfl ?_))))))))); refine yQ (pw_seq (pw_seq (pw_region (yFb rfl (yLd rfl rfl rfl (yFb rfl (yLd rfl rfl rfl (yBsn rfl rfl (yQ ?_))))))))); refine q_then ?_; rw [t0]; rw [t1]; refine pw_ct rfl (pw_region (yMg rfl (yFb rfl (yLd rfl rfl rfl (yFb rfl (yLd rfl rfl rfl (yFb rfl (yLd rfl rfl rfl ?_)))))))); refine yCxb (wAdd9 _ (3, m0, m3, x3) (by first | omega | (simp; omega))) rfl rfl ⟨rfl, trivial⟩ ⟨rfl, trivial⟩ ?_ (hfit := by kernel_rfl)
        refine yQ (pw_seq (pw_seq (pw_region (yFb rfl (yLd rfl rfl rfl (yFb rfl (yLd rfl rfl rfl (yBsn rfl rfl (yQ ?_))))))))); refine q_then ?_; rw [t2]
        refine pw_cf rfl (pw_skip (pw_seq (pw_region (yFb rfl (yLd rfl rfl rfl (yFb rfl (yLd rfl rfl rfl (yB rfl rfl rfl rfl (yQ ?_))))))))); refine q_then ?_
        rw [u3]; refine pw_ct rfl ?_; refine pw_drawl (id := 18) [_, _, _, _, _, _, _, _, _] _ rfl Tryz.mixed (by kernel_rfl) (by kernel_rfl) ?_; refine yMg rfl ?_; refine yFb rfl ?_; refine yLd rfl rfl rfl ?_; refine yFb rfl ?_
        refine yLd rfl rfl rfl (yC (c3) rfl rfl (yFb rfl (yLd rfl rfl rfl (yC (c4) rfl rfl (yQ ?_))))); refine yCxb (wAdd9 _ (5, m0, canon m1, canon x1) (by first | omega | (simp; omega))) rfl rfl ⟨rfl, trivial⟩ ⟨rfl, trivial⟩ ?_ (hfit := by kernel_rfl); refine yQ (pw_region (yB rfl rfl rfl rfl (yMd rfl (yQ (q_then ?_)))))
        refine ⟨i + 1, by omega, by omega, rfl, ⟨.refl _, .refl _, .refl _, .refl _, .refl _, .refl _, .refl _, .refl _, .of_eq (congrArg (fun n => SV.d (dI n)) hw), trivial⟩, ⟨⟨_, rfl, .refl _, .refl _, .refl _, trivial⟩, ⟨_, rfl, .refl _, .refl _, .refl _, trivial⟩, ⟨_, rfl, .of_eq (by rw [← hnx2, e] <;> rfl), trivial⟩, trivial⟩, ⟨(by rw [← hnx2, e] <;> rfl), trivial⟩, rfl⟩
      · have u3 : (m1 != x1) = false := by rw [bne, t3]; rfl
        have e : nx = zs ++ [(3, m0, m3, x3)] := by rw [hn]; simp [brP, t1, t2, t3]
        refine pw_skip (pw_seq (pw_block (pw_seq (pw_region (yMd rfl (yW em (by omega) rfl rfl (yLs (ys := [_, _, _, _, _]) rfl rfl rfl (yZ (cs := [_, _, _, _, _]) rfl rfl (yAd rfl ?_))))))))); refine yS (cs' := [_, _, _, _, _]) rfl rfl rfl rfl rfl (yQ (pw_seq (pw_seq (pw_region (yMd rfl (yMd rfl (yW ep (by omega) rfl rfl (yLr rfl rfl (yB rfl rfl rfl rfl ?_))))))))); refine yQ (pw_cf rfl (pw_skip (pw_seq ?_))); refine pw_draw Tryz.mixed (by kernel_rfl) ?_; refine yFb rfl (yLd rfl rfl rfl (yMd rfl (yMd rfl (yW ep (by omega) rfl rfl (yLr rfl rfl (yW ex h0k rfl rfl (yLs (ys := [_, _, _, _, _]) rfl rfl rfl (yZ (cs := [_, _, _, _, _]) rfl rfl (yS (cs' := [_, _, _, _, _]) rfl rfl rfl rfl rfl ?_))))))))); refine yQ (pw_seq (pw_seq (pw_region (yFb rfl (yLd rfl rfl rfl (yFb rfl (yLd rfl rfl rfl (yBsn rfl rfl (yQ ?_))))))))); refine q_then ?_; rw [t0]; rw [t1]; refine pw_ct rfl (pw_region (yMg rfl (yFb rfl (yLd rfl rfl rfl (yFb rfl (yLd rfl rfl rfl (yFb rfl (yLd rfl rfl rfl ?_)))))))); refine yCxb (wAdd9 _ (3, m0, m3, x3) (by first | omega | (simp; omega))) rfl rfl ⟨rfl, trivial⟩ ⟨rfl, trivial⟩ ?_ (hfit := by kernel_rfl)
        refine yQ (pw_seq (pw_seq (pw_region (yFb rfl (yLd rfl rfl rfl (yFb rfl (yLd rfl rfl rfl (yBsn rfl rfl (yQ ?_))))))))); refine q_then ?_; rw [t2]
        refine pw_cf rfl (pw_skip (pw_seq (pw_region (yFb rfl (yLd rfl rfl rfl (yFb rfl (yLd rfl rfl rfl (yB rfl rfl rfl rfl (yQ ?_))))))))); refine q_then ?_
        rw [u3]; refine pw_cf rfl ?_; refine pw_skip ?_; refine pw_region ?_; refine yB rfl rfl rfl rfl ?_; refine yMd rfl ?_; refine yQ ?_; refine q_then ?_
        refine ⟨i + 1, by omega, by omega, rfl, ⟨.refl _, .refl _, .refl _, .refl _, .refl _, .refl _, .refl _, .refl _, .of_eq (congrArg (fun n => SV.d (dI n)) hw), trivial⟩, ⟨⟨_, rfl, .refl _, .refl _, .refl _, trivial⟩, ⟨_, rfl, .refl _, .refl _, .refl _, trivial⟩, ⟨_, rfl, .of_eq (by rw [← hnx2, e] <;> rfl), trivial⟩, trivial⟩, ⟨(by rw [← hnx2, e] <;> rfl), trivial⟩, rfl⟩
      · have u3 : (m1 != x1) = true := by rw [bne, t3]; rfl
        have e : nx = zs ++ [(4, m0, m4, x4)] ++ [(5, m0, canon m1, canon x1)] := by rw [hn]; simp [brP, t1, t2, t3]
        refine pw_skip (pw_seq (pw_block (pw_seq (pw_region (yMd rfl (yW em (by omega) rfl rfl (yLs (ys := [_, _, _, _, _]) rfl rfl rfl (yZ (cs := [_, _, _, _, _]) rfl rfl (yAd rfl ?_))))))))); refine yS (cs' := [_, _, _, _, _]) rfl rfl rfl rfl rfl (yQ (pw_seq (pw_seq (pw_region (yMd rfl (yMd rfl (yW ep (by omega) rfl rfl (yLr rfl rfl (yB rfl rfl rfl rfl ?_))))))))); refine yQ (pw_cf rfl (pw_skip (pw_seq ?_))); refine pw_draw Tryz.mixed (by kernel_rfl) ?_; refine yFb rfl (yLd rfl rfl rfl (yMd rfl (yMd rfl (yW ep (by omega) rfl rfl (yLr rfl rfl (yW ex h0k rfl rfl (yLs (ys := [_, _, _, _, _]) rfl rfl rfl (yZ (cs := [_, _, _, _, _]) rfl rfl (yS (cs' := [_, _, _, _, _]) rfl rfl rfl rfl rfl ?_))))))))); refine yQ (pw_seq (pw_seq (pw_region (yFb rfl (yLd rfl rfl rfl (yFb rfl (yLd rfl rfl rfl (yBsn rfl rfl (yQ ?_))))))))); refine q_then ?_; rw [t0]; rw [t1]; refine pw_cf rfl (pw_skip (pw_seq (pw_seq (pw_region (yFb rfl (yLd rfl rfl rfl (yFb rfl (yLd rfl rfl rfl (yBsn rfl rfl ?_))))))))); refine yQ (q_then ?_); rw [t2]; refine pw_ct rfl (pw_region (yMg rfl (yFb rfl (yLd rfl rfl rfl (yFb rfl (yLd rfl rfl rfl (yFb rfl (yLd rfl rfl rfl ?_)))))))); refine yCxb (wAdd9 _ (4, m0, m4, x4) (by first | omega | (simp; omega))) rfl rfl ⟨rfl, trivial⟩ ⟨rfl, trivial⟩ ?_ (hfit := by kernel_rfl); refine yQ (pw_seq (pw_region (yFb rfl (yLd rfl rfl rfl (yFb rfl (yLd rfl rfl rfl (yB rfl rfl rfl rfl (yQ (q_then ?_))))))))); rw [u3]; refine pw_ct rfl ?_; refine pw_drawl (id := 18) [_, _, _, _, _, _, _, _, _] _ rfl Tryz.mixed (by kernel_rfl) (by kernel_rfl) ?_; refine yMg rfl (yFb rfl (yLd rfl rfl rfl (yFb rfl (yLd rfl rfl rfl (yC (c3) rfl rfl (yFb rfl (yLd rfl rfl rfl (yC (c4) rfl rfl (yQ ?_))))))))); refine yCxb (wAdd9 _ (5, m0, canon m1, canon x1) (by first | omega | (simp; omega))) rfl rfl ⟨rfl, trivial⟩ ⟨rfl, trivial⟩ ?_ (hfit := by kernel_rfl); refine yQ (pw_region (yB rfl rfl rfl rfl (yMd rfl (yQ (q_then ?_)))))
        refine ⟨i + 1, by omega, by omega, rfl, ⟨.refl _, .refl _, .refl _, .refl _, .refl _, .refl _, .refl _, .refl _, .of_eq (congrArg (fun n => SV.d (dI n)) hw), trivial⟩, ⟨⟨_, rfl, .refl _, .refl _, .refl _, trivial⟩, ⟨_, rfl, .refl _, .refl _, .refl _, trivial⟩, ⟨_, rfl, .of_eq (by rw [← hnx2, e] <;> rfl), trivial⟩, trivial⟩, ⟨(by rw [← hnx2, e] <;> rfl), trivial⟩, rfl⟩
      · have u3 : (m1 != x1) = false := by rw [bne, t3]; rfl
        have e : nx = zs ++ [(4, m0, m4, x4)] := by rw [hn]; simp [brP, t1, t2, t3]
        refine pw_skip (pw_seq (pw_block (pw_seq (pw_region (yMd rfl (yW em (by omega) rfl rfl (yLs (ys := [_, _, _, _, _]) rfl rfl rfl (yZ (cs := [_, _, _, _, _]) rfl rfl (yAd rfl ?_))))))))); refine yS (cs' := [_, _, _, _, _]) rfl rfl rfl rfl rfl (yQ (pw_seq (pw_seq (pw_region (yMd rfl (yMd rfl (yW ep (by omega) rfl rfl (yLr rfl rfl (yB rfl rfl rfl rfl ?_))))))))); refine yQ (pw_cf rfl (pw_skip (pw_seq ?_))); refine pw_draw Tryz.mixed (by kernel_rfl) ?_; refine yFb rfl (yLd rfl rfl rfl (yMd rfl (yMd rfl (yW ep (by omega) rfl rfl (yLr rfl rfl (yW ex h0k rfl rfl (yLs (ys := [_, _, _, _, _]) rfl rfl rfl (yZ (cs := [_, _, _, _, _]) rfl rfl (yS (cs' := [_, _, _, _, _]) rfl rfl rfl rfl rfl ?_))))))))); refine yQ (pw_seq (pw_seq (pw_region (yFb rfl (yLd rfl rfl rfl (yFb rfl (yLd rfl rfl rfl (yBsn rfl rfl (yQ ?_))))))))); refine q_then ?_; rw [t0]; rw [t1]; refine pw_cf rfl (pw_skip (pw_seq (pw_seq (pw_region (yFb rfl (yLd rfl rfl rfl (yFb rfl (yLd rfl rfl rfl (yBsn rfl rfl ?_))))))))); refine yQ (q_then ?_); rw [t2]; refine pw_ct rfl (pw_region (yMg rfl (yFb rfl (yLd rfl rfl rfl (yFb rfl (yLd rfl rfl rfl (yFb rfl (yLd rfl rfl rfl ?_)))))))); refine yCxb (wAdd9 _ (4, m0, m4, x4) (by first | omega | (simp; omega))) rfl rfl ⟨rfl, trivial⟩ ⟨rfl, trivial⟩ ?_ (hfit := by kernel_rfl); refine yQ (pw_seq (pw_region (yFb rfl (yLd rfl rfl rfl (yFb rfl (yLd rfl rfl rfl (yB rfl rfl rfl rfl (yQ (q_then ?_))))))))); rw [u3]; refine pw_cf rfl (pw_skip (pw_region (yB rfl rfl rfl rfl (yMd rfl (yQ (q_then ?_))))))
        refine ⟨i + 1, by omega, by omega, rfl, ⟨.refl _, .refl _, .refl _, .refl _, .refl _, .refl _, .refl _, .refl _, .of_eq (congrArg (fun n => SV.d (dI n)) hw), trivial⟩, ⟨⟨_, rfl, .refl _, .refl _, .refl _, trivial⟩, ⟨_, rfl, .refl _, .refl _, .refl _, trivial⟩, ⟨_, rfl, .of_eq (by rw [← hnx2, e] <;> rfl), trivial⟩, trivial⟩, ⟨(by rw [← hnx2, e] <;> rfl), trivial⟩, rfl⟩
      · have u3 : (m1 != x1) = true := by rw [bne, t3]; rfl
        have e : nx = zs ++ [(5, m0, canon m1, canon x1)] := by rw [hn]; simp [brP, t1, t2, t3]
        refine pw_skip (pw_seq (pw_block (pw_seq (pw_region (yMd rfl (yW em (by omega) rfl rfl (yLs (ys := [_, _, _, _, _]) rfl rfl rfl (yZ (cs := [_, _, _, _, _]) rfl rfl (yAd rfl ?_))))))))); refine yS (cs' := [_, _, _, _, _]) rfl rfl rfl rfl rfl (yQ (pw_seq (pw_seq (pw_region (yMd rfl (yMd rfl (yW ep (by omega) rfl rfl (yLr rfl rfl (yB rfl rfl rfl rfl ?_))))))))); refine yQ (pw_cf rfl (pw_skip (pw_seq ?_))); refine pw_draw Tryz.mixed (by kernel_rfl) ?_; refine yFb rfl (yLd rfl rfl rfl (yMd rfl (yMd rfl (yW ep (by omega) rfl rfl (yLr rfl rfl (yW ex h0k rfl rfl (yLs (ys := [_, _, _, _, _]) rfl rfl rfl (yZ (cs := [_, _, _, _, _]) rfl rfl (yS (cs' := [_, _, _, _, _]) rfl rfl rfl rfl rfl ?_))))))))); refine yQ (pw_seq (pw_seq (pw_region (yFb rfl (yLd rfl rfl rfl (yFb rfl (yLd rfl rfl rfl (yBsn rfl rfl (yQ ?_))))))))); refine q_then ?_; rw [t0]; rw [t1]; refine pw_cf rfl (pw_skip (pw_seq (pw_seq (pw_region (yFb rfl (yLd rfl rfl rfl (yFb rfl (yLd rfl rfl rfl (yBsn rfl rfl ?_))))))))); refine yQ (q_then ?_); rw [t2]; refine pw_cf rfl (pw_skip (pw_seq (pw_region (yFb rfl (yLd rfl rfl rfl (yFb rfl (yLd rfl rfl rfl (yB rfl rfl rfl rfl (yQ ?_))))))))); refine q_then ?_; rw [u3]; refine pw_ct rfl ?_; refine pw_drawl (id := 18) [_, _, _, _, _, _, _, _, _] _ rfl Tryz.mixed (by kernel_rfl) (by kernel_rfl) ?_; refine yMg rfl (yFb rfl (yLd rfl rfl rfl (yFb rfl (yLd rfl rfl rfl (yC (c3) rfl rfl (yFb rfl (yLd rfl rfl rfl (yC (c4) rfl rfl (yQ ?_))))))))); refine yCxb (wAdd9 _ (5, m0, canon m1, canon x1) (by first | omega | (simp; omega))) rfl rfl ⟨rfl, trivial⟩ ⟨rfl, trivial⟩ ?_ (hfit := by kernel_rfl); refine yQ (pw_region (yB rfl rfl rfl rfl (yMd rfl (yQ (q_then ?_)))))
        refine ⟨i + 1, by omega, by omega, rfl, ⟨.refl _, .refl _, .refl _, .refl _, .refl _, .refl _, .refl _, .refl _, .of_eq (congrArg (fun n => SV.d (dI n)) hw), trivial⟩, ⟨⟨_, rfl, .refl _, .refl _, .refl _, trivial⟩, ⟨_, rfl, .refl _, .refl _, .refl _, trivial⟩, ⟨_, rfl, .of_eq (by rw [← hnx2, e] <;> rfl), trivial⟩, trivial⟩, ⟨(by rw [← hnx2, e] <;> rfl), trivial⟩, rfl⟩
      · have u3 : (m1 != x1) = false := by rw [bne, t3]; rfl
        have e : nx = zs := by rw [hn]; simp [brP, t1, t2, t3]
        refine pw_skip (pw_seq (pw_block (pw_seq (pw_region (yMd rfl (yW em (by omega) rfl rfl (yLs (ys := [_, _, _, _, _]) rfl rfl rfl (yZ (cs := [_, _, _, _, _]) rfl rfl (yAd rfl ?_))))))))); refine yS (cs' := [_, _, _, _, _]) rfl rfl rfl rfl rfl (yQ (pw_seq (pw_seq (pw_region (yMd rfl (yMd rfl (yW ep (by omega) rfl rfl (yLr rfl rfl (yB rfl rfl rfl rfl ?_))))))))); refine yQ (pw_cf rfl (pw_skip (pw_seq ?_))); refine pw_draw Tryz.mixed (by kernel_rfl) ?_; refine yFb rfl (yLd rfl rfl rfl (yMd rfl (yMd rfl (yW ep (by omega) rfl rfl (yLr rfl rfl (yW ex h0k rfl rfl (yLs (ys := [_, _, _, _, _]) rfl rfl rfl (yZ (cs := [_, _, _, _, _]) rfl rfl (yS (cs' := [_, _, _, _, _]) rfl rfl rfl rfl rfl ?_))))))))); refine yQ (pw_seq (pw_seq (pw_region (yFb rfl (yLd rfl rfl rfl (yFb rfl (yLd rfl rfl rfl (yBsn rfl rfl (yQ ?_))))))))); refine q_then ?_; rw [t0]; rw [t1]; refine pw_cf rfl (pw_skip (pw_seq (pw_seq (pw_region (yFb rfl (yLd rfl rfl rfl (yFb rfl (yLd rfl rfl rfl (yBsn rfl rfl ?_))))))))); refine yQ (q_then ?_); rw [t2]; refine pw_cf rfl (pw_skip (pw_seq (pw_region (yFb rfl (yLd rfl rfl rfl (yFb rfl (yLd rfl rfl rfl (yB rfl rfl rfl rfl (yQ ?_))))))))); refine q_then ?_; rw [u3]; refine pw_cf rfl (pw_skip (pw_region (yB rfl rfl rfl rfl (yMd rfl (yQ (q_then ?_))))))
        refine ⟨i + 1, by omega, by omega, rfl, ⟨.refl _, .refl _, .refl _, .refl _, .refl _, .refl _, .refl _, .refl _, .of_eq (congrArg (fun n => SV.d (dI n)) hw), trivial⟩, ⟨⟨_, rfl, .refl _, .refl _, .refl _, trivial⟩, ⟨_, rfl, .refl _, .refl _, .refl _, trivial⟩, ⟨_, rfl, .of_eq (by rw [← hnx2, e] <;> rfl), trivial⟩, trivial⟩, ⟨(by rw [← hnx2, e] <;> rfl), trivial⟩, rfl⟩
  simp at h
  have hA := hend (by omega)
  rw [hA] at hr
  clear hA hend hnx
  refine pw_exit (pw_seq (pw_seq (pw_region (yFb rfl (yLd rfl rfl rfl (yN rfl (yMd rfl (yQ (pw_block ?_))))))))); refine pw_loop (fun k : Nat => ⟨168, [(4, .bx 4 0), (9, .bx 9 0), (10, .fb 44 9 0), (12, .d (.sl 1 (tk.map dBl))), (106, .d (.sl 5 (ts.map dM))), (107, .d (dI ts.length)), (108, .d (dI k))], [(4, [.d (dI d2), .d (.sl 2 (hs2.map dH)), .d (.sl 5 (ts.map dM))]), (9, [.ts bkT 4 ((zs ++ mbB ts (tkn tk) k).map dBk)])], [(bkT, ((zs ++ mbB ts (tkn tk) k).map dBk).length)]⟩) (fun k => k ≤ ts.length) (fun k => ts.length - k) 0 (Nat.zero_le _)
    ⟨rfl, ⟨.refl _, .refl _, .refl _, .refl _, .refl _, .of_eq (congrArg (fun n : Nat => SV.d (dI n)) (by simp)), .refl _, trivial⟩, ⟨⟨_, rfl, .refl _, .refl _, .refl _, trivial⟩, ⟨_, rfl, .of_eq (by simp [mbB]), trivial⟩, trivial⟩, ⟨(by simp [mbB]; rfl), trivial⟩, rfl⟩ ?_
  intro k hk
  have hnx : ∀ x, ts[k]? = some x → mbB ts (tkn tk) (k + 1) = if tkn tk k then mbB ts (tkn tk) k else mbB ts (tkn tk) k ++ [(dcl (dbN (tkn tk) ts x ts.length), x.1, [], x.2.2.2.1)] := fun x hx => by rw [mbB, hx]; rfl
  have hlb := mbB_len ts (tkn tk) k
  obtain ⟨nx, hnx2⟩ : ∃ o, o = mbB ts (tkn tk) (k + 1) := ⟨_, rfl⟩
  have hend : k = ts.length → r = zs ++ mbB ts (tkn tk) k := fun e => by rw [hr, e]
  obtain ⟨ys, hys⟩ : ∃ o, o = mbB ts (tkn tk) k := ⟨_, rfl⟩
  simp only [← hys, ← hnx2] at hnx hlb hend
  rw [← hys]
  refine pw_seq (pw_region (yB rfl rfl rfl rfl (yQ (pw_seq ?_)))); refine pw_cond rfl (fun h => ?_) (fun h => ?_)
  · simp at h
    obtain ⟨⟨x0, x1, x2, x3, x4⟩, hx⟩ : ∃ a, ts[k]? = some a := ⟨_, List.getElem?_eq_getElem h⟩
    have ex := ix dM ts k k (x0, x1, x2, x3, x4) rfl hx
    have hw := wrapI ((k : Int) + 1) (by omega)
    have hn := hnx _ hx
    have et := tk_at' (tk := tk) (k := k) (by omega)
    obtain ⟨b, hb⟩ : ∃ b, b = tkn tk k := ⟨_, rfl⟩
    rw [← hb] at et hn
    cases b with
    | true =>
      have e : nx = ys := hn
      refine pw_skip (pw_seq (pw_block (pw_seq (pw_region (yMd rfl (yW ex (by omega) rfl rfl (yLs (ys := [_, _, _, _, _]) rfl rfl rfl (yZ (cs := [_, _, _, _, _]) rfl rfl (yAd rfl ?_))))))))); refine yS (cs' := [_, _, _, _, _]) rfl rfl rfl rfl rfl (yQ (pw_seq (pw_seq (pw_region (yMd rfl (yMd rfl (yW et (by omega) rfl rfl (yLr rfl rfl (yQ ?_))))))))); refine pw_ct rfl (pw_exit (pw_region (yB rfl rfl rfl rfl (yMd rfl (yQ (q_then ?_))))))
      refine ⟨k + 1, by omega, by omega, rfl, ⟨.refl _, .refl _, .refl _, .refl _, .refl _, .refl _, .of_eq (congrArg (fun n => SV.d (dI n)) hw), trivial⟩, ⟨⟨_, rfl, .refl _, .refl _, .refl _, trivial⟩, ⟨_, rfl, .of_eq (by rw [← hnx2, e] <;> rfl), trivial⟩, trivial⟩, ⟨(by rw [← hnx2, e] <;> rfl), trivial⟩, rfl⟩
    | false =>
      have e : nx = ys ++ [(dcl (dbN (tkn tk) ts (x0, x1, x2, x3, x4) ts.length), x0, [], x3)] := hn
      refine pw_skip (pw_seq (pw_block (pw_seq (pw_region (yMd rfl (yW ex (by omega) rfl rfl (yLs (ys := [_, _, _, _, _]) rfl rfl rfl (yZ (cs := [_, _, _, _, _]) rfl rfl (yAd rfl ?_))))))))); refine yS (cs' := [_, _, _, _, _]) rfl rfl rfl rfl rfl (yQ (pw_seq (pw_seq (pw_region (yMd rfl (yMd rfl (yW et (by omega) rfl rfl (yLr rfl rfl (yQ ?_))))))))); refine pw_cf rfl (pw_skip (pw_seq (pw_region (yAd rfl (yQ (pw_seq (pw_seq (pw_region (yFb rfl ?_))))))))); refine yLd rfl rfl rfl (yN rfl (yMd rfl (yQ (pw_block ?_)))); refine pw_loop (fun n : Nat => ⟨168, [(4, .bx 4 0), (9, .bx 9 0), (10, .fb 44 9 0), (12, .d (.sl 1 (tk.map dBl))), (17, .bx 17 0), (18, .d (dI (dcl (dbN (tkn tk) ts (x0, x1, x2, x3, x4) n)))), (106, .d (.sl 5 (ts.map dM))), (107, .d (dI ts.length)), (108, .d (dI k)), (118, .d (.sl 5 (ts.map dM))), (119, .d (dI ts.length)), (120, .d (dI n))], [(4, [.d (dI d2), .d (.sl 2 (hs2.map dH)), .d (.sl 5 (ts.map dM))]), (9, [.ts bkT 4 ((zs ++ ys).map dBk)]), (17, [.d (dS x0), .d (dI x1), .d (dS x2), .d (dS x3), .d (dS x4)])], [(bkT, ((zs ++ ys).map dBk).length)]⟩) (fun n => n ≤ ts.length) (fun n => ts.length - n) 0 (Nat.zero_le _)
        ⟨rfl, ⟨.refl _, .refl _, .refl _, .refl _, .refl _, .refl _, .refl _, .refl _, .refl _, .refl _, .of_eq (congrArg (fun n : Nat => SV.d (dI n)) (by simp)), .refl _, trivial⟩, ⟨⟨_, rfl, .refl _, .refl _, .refl _, trivial⟩, ⟨_, rfl, .refl _, trivial⟩, ⟨_, rfl, .refl _, .refl _, .refl _, .refl _, .refl _, trivial⟩, trivial⟩, ⟨rfl, trivial⟩, rfl⟩ ?_
      intro n hn1
      have hd : ∀ y, ts[n]? = some y → dbN (tkn tk) ts (x0, x1, x2, x3, x4) (n + 1) = (dbN (tkn tk) ts (x0, x1, x2, x3, x4) n || (tkn tk n && (y.1 == x0 && (y.2.2.1 == x2 && (y.2.2.2.1 == x3 && y.2.2.2.2 == x4))))) := fun y hy => by rw [dbN, hy]
      obtain ⟨q2, hq2⟩ : ∃ o, o = dbN (tkn tk) ts (x0, x1, x2, x3, x4) (n + 1) := ⟨_, rfl⟩
      have hen : n = ts.length → dbN (tkn tk) ts (x0, x1, x2, x3, x4) ts.length = dbN (tkn tk) ts (x0, x1, x2, x3, x4) n := fun e => by rw [e]
      obtain ⟨q, hq⟩ : ∃ o, o = dbN (tkn tk) ts (x0, x1, x2, x3, x4) n := ⟨_, rfl⟩
      simp only [← hq, ← hq2] at hd hen
      rw [← hq]
      refine pw_seq (pw_region (yB rfl rfl rfl rfl (yQ (pw_seq ?_)))); refine pw_cond rfl (fun h2 => ?_) (fun h2 => ?_)
      · simp at h2
        obtain ⟨⟨y0, y1, y2, y3, y4⟩, hy⟩ : ∃ a, ts[n]? = some a := ⟨_, List.getElem?_eq_getElem h2⟩
        have ey := ix dM ts n n (y0, y1, y2, y3, y4) rfl hy
        have hwn := wrapI ((n : Int) + 1) (by omega)
        have hd := hd _ hy
        have eb := tk_at' (tk := tk) (k := n) (by omega)
        obtain ⟨b, hb2⟩ : ∃ b, b = tkn tk n := ⟨_, rfl⟩
        rw [← hb2] at eb hd
        cases b with
        | false =>
          have e : dcl q = dcl q2 := by rw [hd]; simp
          refine pw_skip (pw_seq (pw_block (pw_seq (pw_region (yMd rfl (yW ey (by omega) rfl rfl (yLs (ys := [_, _, _, _, _]) rfl rfl rfl (yZ (cs := [_, _, _, _, _]) rfl rfl (yAd rfl ?_))))))))); refine yS (cs' := [_, _, _, _, _]) rfl rfl rfl rfl rfl (yQ (pw_seq (pw_region (yMd rfl (yMd rfl (yW eb (by omega) rfl rfl (yLr rfl rfl (yMd rfl (yO rfl ?_))))))))); refine yO rfl (yO rfl (yO rfl (yO rfl (yVd rfl rfl (yMd rfl (yO rfl (yO rfl (yO rfl (yO rfl ?_))))))))); refine yO rfl (yVd rfl rfl (yMd rfl (yO rfl (yO rfl (yO rfl (yO rfl (yO rfl (yVd rfl rfl (yMd rfl ?_))))))))); refine yO rfl (yO rfl (yO rfl (yO rfl (yO rfl (yVd rfl rfl (yQ (pw_cf rfl (pw_skip (pw_region ?_))))))))); refine yB rfl rfl rfl rfl (yMd rfl (yQ (q_then ?_)))
          refine ⟨n + 1, by omega, by omega, rfl, ⟨.refl _, .refl _, .refl _, .refl _, .refl _, .of_eq (congrArg (fun n => SV.d (dI n)) (by rw [← hq2]; exact e)), .refl _, .refl _, .refl _, .refl _, .refl _, .of_eq (congrArg (fun n => SV.d (dI n)) hwn), trivial⟩, ⟨⟨_, rfl, .refl _, .refl _, .refl _, trivial⟩, ⟨_, rfl, .refl _, trivial⟩, ⟨_, rfl, .refl _, .refl _, .refl _, .refl _, .refl _, trivial⟩, trivial⟩, ⟨rfl, trivial⟩, rfl⟩
        | true =>
        cases t1 : (y0 == x0) with
        | false =>
          have e : dcl q = dcl q2 := by rw [hd, t1]; simp
          refine pw_skip (pw_seq (pw_block (pw_seq (pw_region (yMd rfl (yW ey (by omega) rfl rfl (yLs (ys := [_, _, _, _, _]) rfl rfl rfl (yZ (cs := [_, _, _, _, _]) rfl rfl (yAd rfl ?_))))))))); refine yS (cs' := [_, _, _, _, _]) rfl rfl rfl rfl rfl (yQ (pw_seq (pw_region (yMd rfl (yMd rfl (yW eb (by omega) rfl rfl (yLr rfl rfl (yMd rfl (yFb rfl ?_))))))))); refine yLd rfl rfl rfl (yFb rfl (yLd rfl rfl rfl (yBse rfl rfl (yPd rfl rfl (yMd rfl ?_))))); rw [t1]; refine yO rfl (yO rfl (yO rfl (yO rfl (yO rfl (yVd rfl rfl (yMd rfl (yO rfl (yO rfl (yO rfl ?_))))))))); refine yO rfl (yO rfl (yVd rfl rfl (yMd rfl (yO rfl (yO rfl (yO rfl (yO rfl (yO rfl (yVd rfl rfl ?_))))))))); refine yQ (pw_cf rfl (pw_skip (pw_region (yB rfl rfl rfl rfl (yMd rfl (yQ (q_then ?_)))))))
          refine ⟨n + 1, by omega, by omega, rfl, ⟨.refl _, .refl _, .refl _, .refl _, .refl _, .of_eq (congrArg (fun n => SV.d (dI n)) (by rw [← hq2]; exact e)), .refl _, .refl _, .refl _, .refl _, .refl _, .of_eq (congrArg (fun n => SV.d (dI n)) hwn), trivial⟩, ⟨⟨_, rfl, .refl _, .refl _, .refl _, trivial⟩, ⟨_, rfl, .refl _, trivial⟩, ⟨_, rfl, .refl _, .refl _, .refl _, .refl _, .refl _, trivial⟩, trivial⟩, ⟨rfl, trivial⟩, rfl⟩
        | true =>
        cases t2 : (y2 == x2) with
        | false =>
          have e : dcl q = dcl q2 := by rw [hd, t1, t2]; simp
          refine pw_skip (pw_seq (pw_block (pw_seq (pw_region (yMd rfl (yW ey (by omega) rfl rfl (yLs (ys := [_, _, _, _, _]) rfl rfl rfl (yZ (cs := [_, _, _, _, _]) rfl rfl (yAd rfl ?_))))))))); refine yS (cs' := [_, _, _, _, _]) rfl rfl rfl rfl rfl (yQ (pw_seq (pw_region (yMd rfl (yMd rfl (yW eb (by omega) rfl rfl (yLr rfl rfl (yMd rfl (yFb rfl ?_))))))))); refine yLd rfl rfl rfl (yFb rfl (yLd rfl rfl rfl (yBse rfl rfl (yPd rfl rfl (yMd rfl ?_))))); rw [t1]; refine yFb rfl (yLd rfl rfl rfl (yFb rfl (yLd rfl rfl rfl (yBse rfl rfl (yPd rfl rfl (yMd rfl ?_)))))); rw [t2]; refine yO rfl (yO rfl (yO rfl (yO rfl (yO rfl (yVd rfl rfl (yMd rfl (yO rfl (yO rfl (yO rfl ?_))))))))); refine yO rfl (yO rfl (yVd rfl rfl (yQ (pw_cf rfl (pw_skip (pw_region (yB rfl rfl rfl rfl (yMd rfl (yQ ?_))))))))); refine q_then ?_
          refine ⟨n + 1, by omega, by omega, rfl, ⟨.refl _, .refl _, .refl _, .refl _, .refl _, .of_eq (congrArg (fun n => SV.d (dI n)) (by rw [← hq2]; exact e)), .refl _, .refl _, .refl _, .refl _, .refl _, .of_eq (congrArg (fun n => SV.d (dI n)) hwn), trivial⟩, ⟨⟨_, rfl, .refl _, .refl _, .refl _, trivial⟩, ⟨_, rfl, .refl _, trivial⟩, ⟨_, rfl, .refl _, .refl _, .refl _, .refl _, .refl _, trivial⟩, trivial⟩, ⟨rfl, trivial⟩, rfl⟩
        | true =>
        cases t3 : (y3 == x3) with
        | false =>
          have e : dcl q = dcl q2 := by rw [hd, t1, t2, t3]; simp
          refine pw_skip (pw_seq (pw_block (pw_seq (pw_region (yMd rfl (yW ey (by omega) rfl rfl (yLs (ys := [_, _, _, _, _]) rfl rfl rfl (yZ (cs := [_, _, _, _, _]) rfl rfl (yAd rfl ?_))))))))); refine yS (cs' := [_, _, _, _, _]) rfl rfl rfl rfl rfl (yQ (pw_seq (pw_region (yMd rfl (yMd rfl (yW eb (by omega) rfl rfl (yLr rfl rfl (yMd rfl (yFb rfl ?_))))))))); refine yLd rfl rfl rfl (yFb rfl (yLd rfl rfl rfl (yBse rfl rfl (yPd rfl rfl (yMd rfl ?_))))); rw [t1]; refine yFb rfl (yLd rfl rfl rfl (yFb rfl (yLd rfl rfl rfl (yBse rfl rfl (yPd rfl rfl (yMd rfl ?_)))))); rw [t2]; refine yFb rfl (yLd rfl rfl rfl (yFb rfl (yLd rfl rfl rfl (yBse rfl rfl (yPd rfl rfl (yMd rfl ?_)))))); rw [t3]; refine yO rfl (yO rfl (yO rfl (yO rfl (yO rfl (yVd rfl rfl (yQ (pw_cf rfl (pw_skip (pw_region ?_))))))))); refine yB rfl rfl rfl rfl (yMd rfl (yQ (q_then ?_)))
          refine ⟨n + 1, by omega, by omega, rfl, ⟨.refl _, .refl _, .refl _, .refl _, .refl _, .of_eq (congrArg (fun n => SV.d (dI n)) (by rw [← hq2]; exact e)), .refl _, .refl _, .refl _, .refl _, .refl _, .of_eq (congrArg (fun n => SV.d (dI n)) hwn), trivial⟩, ⟨⟨_, rfl, .refl _, .refl _, .refl _, trivial⟩, ⟨_, rfl, .refl _, trivial⟩, ⟨_, rfl, .refl _, .refl _, .refl _, .refl _, .refl _, trivial⟩, trivial⟩, ⟨rfl, trivial⟩, rfl⟩
        | true =>
        cases t4 : (y4 == x4) with
        | false =>
          have e : dcl q = dcl q2 := by rw [hd, t1, t2, t3, t4]; simp
          refine pw_skip (pw_seq (pw_block (pw_seq (pw_region (yMd rfl (yW ey (by omega) rfl rfl (yLs (ys := [_, _, _, _, _]) rfl rfl rfl (yZ (cs := [_, _, _, _, _]) rfl rfl (yAd rfl ?_))))))))); refine yS (cs' := [_, _, _, _, _]) rfl rfl rfl rfl rfl (yQ (pw_seq (pw_region (yMd rfl (yMd rfl (yW eb (by omega) rfl rfl (yLr rfl rfl (yMd rfl (yFb rfl ?_))))))))); refine yLd rfl rfl rfl (yFb rfl (yLd rfl rfl rfl (yBse rfl rfl (yPd rfl rfl (yMd rfl ?_))))); rw [t1]; refine yFb rfl (yLd rfl rfl rfl (yFb rfl (yLd rfl rfl rfl (yBse rfl rfl (yPd rfl rfl (yMd rfl ?_)))))); rw [t2]; refine yFb rfl (yLd rfl rfl rfl (yFb rfl (yLd rfl rfl rfl (yBse rfl rfl (yPd rfl rfl (yMd rfl ?_)))))); rw [t3]; refine yFb rfl (yLd rfl rfl rfl (yFb rfl (yLd rfl rfl rfl (yBse rfl rfl (yPd rfl rfl (yQ (q_then ?_))))))); rw [t4]; refine pw_cf rfl (pw_skip (pw_region (yB rfl rfl rfl rfl (yMd rfl (yQ (q_then ?_))))))
          refine ⟨n + 1, by omega, by omega, rfl, ⟨.refl _, .refl _, .refl _, .refl _, .refl _, .of_eq (congrArg (fun n => SV.d (dI n)) (by rw [← hq2]; exact e)), .refl _, .refl _, .refl _, .refl _, .refl _, .of_eq (congrArg (fun n => SV.d (dI n)) hwn), trivial⟩, ⟨⟨_, rfl, .refl _, .refl _, .refl _, trivial⟩, ⟨_, rfl, .refl _, trivial⟩, ⟨_, rfl, .refl _, .refl _, .refl _, .refl _, .refl _, trivial⟩, trivial⟩, ⟨rfl, trivial⟩, rfl⟩
        | true =>
          have e : (6 : Int) = dcl q2 := by rw [hd, t1, t2, t3, t4]; simp [dcl]
          refine pw_skip (pw_seq (pw_block (pw_seq (pw_region (yMd rfl (yW ey (by omega) rfl rfl (yLs (ys := [_, _, _, _, _]) rfl rfl rfl (yZ (cs := [_, _, _, _, _]) rfl rfl (yAd rfl ?_))))))))); refine yS (cs' := [_, _, _, _, _]) rfl rfl rfl rfl rfl (yQ (pw_seq (pw_region (yMd rfl (yMd rfl (yW eb (by omega) rfl rfl (yLr rfl rfl (yMd rfl (yFb rfl ?_))))))))); refine yLd rfl rfl rfl (yFb rfl (yLd rfl rfl rfl (yBse rfl rfl (yPd rfl rfl (yMd rfl ?_))))); rw [t1]; refine yFb rfl (yLd rfl rfl rfl (yFb rfl (yLd rfl rfl rfl (yBse rfl rfl (yPd rfl rfl (yMd rfl ?_)))))); rw [t2]; refine yFb rfl (yLd rfl rfl rfl (yFb rfl (yLd rfl rfl rfl (yBse rfl rfl (yPd rfl rfl (yMd rfl ?_)))))); rw [t3]; refine yFb rfl (yLd rfl rfl rfl (yFb rfl (yLd rfl rfl rfl (yBse rfl rfl (yPd rfl rfl (yQ (q_then ?_))))))); rw [t4]; refine pw_ct rfl (pw_region (yAd rfl (yQ (pw_region (yB rfl rfl rfl rfl (yMd rfl (yQ (q_then ?_))))))))
          refine ⟨n + 1, by omega, by omega, rfl, ⟨.refl _, .refl _, .refl _, .refl _, .refl _, .of_eq (congrArg (fun n => SV.d (dI n)) (by rw [← hq2]; exact e)), .refl _, .refl _, .refl _, .refl _, .refl _, .of_eq (congrArg (fun n => SV.d (dI n)) hwn), trivial⟩, ⟨⟨_, rfl, .refl _, .refl _, .refl _, trivial⟩, ⟨_, rfl, .refl _, trivial⟩, ⟨_, rfl, .refl _, .refl _, .refl _, .refl _, .refl _, trivial⟩, trivial⟩, ⟨rfl, trivial⟩, rfl⟩
      · simp at h2
        have hen := hen (by omega)
        have e : zs ++ nx = (zs ++ ys) ++ [(dcl q, x0, [], x3)] := by rw [e, hen, List.append_assoc]
        refine pw_exit (pw_region (yMg rfl (yMd rfl (yFb rfl (yLd rfl rfl rfl (yFb rfl (yLd rfl rfl rfl ?_))))))); refine yCxb (wAdd9 _ (dcl q, x0, [], x3) (by first | omega | (simp; omega))) rfl rfl ⟨rfl, trivial⟩ ⟨rfl, trivial⟩ ?_ (hfit := by kernel_rfl); refine yQ (pw_region (yB rfl rfl rfl rfl (yMd rfl (yQ (q_then ?_)))))
        refine ⟨k + 1, by omega, by omega, rfl, ⟨.refl _, .refl _, .refl _, .refl _, .refl _, .refl _, .of_eq (congrArg (fun n => SV.d (dI n)) hw), trivial⟩, ⟨⟨_, rfl, .refl _, .refl _, .refl _, trivial⟩, ⟨_, rfl, .of_eq (by rw [← hnx2, e] <;> rfl), trivial⟩, trivial⟩, ⟨(by rw [← hnx2, e] <;> rfl), trivial⟩, rfl⟩
  · simp at h
    rw [hend (by omega)]
    refine pw_exit (pw_seq (pw_region (yFb rfl (yLt rfl rfl rfl (yAt rfl (yAd rfl (yQ (pw_ret ?_))))))))
    exact q_ret _ (.tmp rfl (.tmp rfl .nil)) rfl
end Go.Proofs.YtdkpmnefoobipaaGreatDoor
set_option maxHeartbeats 1000000
namespace Go.Proofs.YtdkpmnefoobipaaGreatDoor.Px
open Go.RowKit

section
variable {P : Program} {sq : Bool} {ops : Array Oper} {K : PS → Prop} {rest : List Oper} {st : PS} {d : Option Nat} {op : Op} {ty : TypeId} {pos : String} {af : Array Edge} {gd : Option (Nat × Bool)} {q : Nat × Bool}
theorem DRep.fresh {B : Nat} {w0 : Cx} {g : Gh} {a : Act} {w w' : World} (h : Rep B w0 g st a w) (hb : Below w.heap.size w w') {E k n : Nat} {v : Value} {xs : List Value} {es : List (List DV)} (hown : w'.ownsRow w.heap.size E k v n xs) (hn : es.length = n) (h0 : 0 < n) (hm : n ≤ 9223372036854775807) (hk : ∀ e ∈ es, e.length = k) (h1 : ∀ u ∈ xs, u.oneCell' = true)
    (hrep : ∀ (i j : Nat) e x, es[i]? = some e → e[j]? = some x → ∃ u, xs[i * k + j]? = some u ∧ DRep (Fx g) w u x) : DRep (Fx g) w' v (.sl k es) := by
  subst hn
  have e0 := (Ext.grow h hb).fx
  obtain ⟨A, c, h2, h3, h4⟩ := own_form hown
  rcases hown.2 with ⟨e6, e7⟩ | ⟨gb, cap, cur, e6, e7, e8, -⟩
  · rw [e6] at h2
    have := (Value.slice.inj h2).2.1
    omega
  · have e9 : A = some ⟨gb, 0, none⟩ := (Value.slice.inj (h2.symm.trans e6)).1
    rw [h2]
    refine DRep.of_row (xs := xs) h3 hm hk (fun _ => ⟨gb, 0, e9, fun j u hj => ⟨?_, ?_⟩⟩) h1 fun i j e x he hx => ?_
    · rw [Nat.zero_add]; exact own_cell hown (by rw [e6]; rfl) j u hj
    · refine ⟨h.f0 _ _ (Nat.le_trans h.base e7), fun i' hi' => ?_, fun t T n' c' hT hv => ?_⟩
      · have := (h.blk i' _ hi').2; omega
      · obtain ⟨⟨n'', ys, h8⟩, -⟩ := h.toks t T hT
        have := (h8.lt gb (by rw [hv]; rfl)).2
        omega
    · obtain ⟨u, h8, h9⟩ := hrep i j e x he hx
      exact ⟨u, h8, h9.mono e0⟩
theorem ls_app_c (T : TypeId) (x y : Operand) {E k bytes : Nat} {es es2 : List (List DV)} [hA : AppOf P T E k bytes] (hk0 : 0 < k) (hb : (es.length + es2.length) * bytes ≤ 140737488351232) (hm : es.length + es2.length ≤ 140737488351232) (hx : st.ev x = .d (dCl k es)) (hy : asSl (st.ev y) = some (k, es2)) (hd : dstOk ⟨d, .call { callee := .builtin .append, args := #[x, y], argTypes := #[T, T] }, ty, pos, af, gd⟩ st = true) :
    LocS P ⟨d, .call { callee := .builtin .append, args := #[x, y], argTypes := #[T, T] }, ty, pos, af, gd⟩ st (.d (.sl k (es ++ es2))) .no := fun st2 ha =>
  OpS.value (ha.dst hd) fun _ _ g a w hr => by
    have h1 := hr.eval x
    rw [ha.ev x (by simp [Op.operands, Call.operands]), hx] at h1
    obtain ⟨h1, A0, h1v⟩ := DRep.cl h1
    have h3 := hr.eval y
    rw [ha.ev y (by simp [Op.operands, Call.operands])] at h3
    obtain ⟨A2, c2, news, hv2, hc2, hm2, hk2, hl2, hcell2, hone2, hrep2⟩ := DRep.row (h3.asSl hy)
    obtain ⟨A1, c1, olds, hv1, hc1, hm1, hk1, hl1, hcell1, hone1, hrep1⟩ := DRep.row h1
    obtain ⟨ti, z, q1, q2, q3, q4, q5⟩ := hA.inf
    have hrun : ∀ v' w', (Builtin.append_ #[T, T] ty #[a.eval x, .slice A2 es2.length c2]).run P w = .ok v' w' → (execOp a.eval ⟨d, .call { callee := .builtin .append, args := #[x, y], argTypes := #[T, T] }, ty, pos, af, gd⟩).run P w = .ok (.value v') w' := fun v' w' r => by
      simp only [execOp, resolve, invoke, builtin, Sem.run_bind, Sem.run_pure, Result.andThen_ok, List.map_toArray, List.map_cons, List.map_nil, hv2, r]
    rcases Nat.eq_zero_or_pos es2.length with h0 | h0
    · have he2 : es2 = [] := List.eq_nil_of_length_eq_zero h0
      subst he2
      refine ⟨a.eval x, w, hrun _ _ ?_, Below.refl _ _, by rw [List.append_nil]; exact h1⟩
      rw [h1v]
      cases A0 <;> cases A2 <;> simp [Builtin.append_, run_underlying hA.und, sizeOf, typeInfo, q1, Builtin.lenOf, Builtin.firstCells, loadCells, loadCellsFrom, storeCells]
    · obtain ⟨b2, off2, rfl, hcell⟩ := hcell2 h0
      have happ : ∃ v' w', (Builtin.append_ #[T, T] ty #[a.eval x, .slice (some ⟨b2, off2, none⟩) es2.length c2]).run P w = .ok v' w' ∧ w'.ownsRow w.heap.size E k v' (es.length + es2.length) (olds ++ news) ∧ Below w.heap.size w w' := by
        rw [h1v]
        cases A0 with
        | none =>
          have hn0 : es.length = 0 := by
            rcases Nat.eq_zero_or_pos es.length with e | e
            · exact e
            · obtain ⟨b, off, e2, -⟩ := hcell1 e
              rw [h1v] at hv1
              have := (Value.slice.inj hv1).1
              rw [e2] at this
              cases this
          have ho : olds = [] := List.eq_nil_of_length_eq_zero (by rw [hl1, hn0, Nat.zero_mul])
          subst ho
          rw [hn0]
          obtain ⟨v', w', r1, r2, r3, r4, r5, r6, r7⟩ := run_app (P := P) w w.heap.size T ty E ti z k bytes hA.und q1 q2 q3 q4 q5 (.slice none 0 0) 0 [] (World.ownsRow_nil _ _ _ _) (some ⟨b2, off2, none⟩) es2.length c2 news hl2 (fun _ => ⟨_, rfl, fun j u hj => by rw [Addr.add_lit]; exact (hcell j u hj).1⟩) hone2 (by unfold maxLen; omega) (by rw [hn0] at hb; exact Nat.le_trans hb (by decide)) (Nat.le_refl _)
          exact ⟨v', w', r1, r2, r3.os, r3.tape, r3.output, r3.size, fun k hk => r4 k hk (by simp [Value.ownBlock])⟩
        | some ad =>
          obtain ⟨v', w', r1, r2, r3⟩ := run_append_arg_grows (P := P) (w := w) T ty E ti z k bytes hA.und q1 q2 q3 q4 q5 hk0 ad es.length es.length olds hl1 (fun j u hj => by
            have hn0 : 0 < es.length := by
              rcases Nat.eq_zero_or_pos es.length with e | e
              · have := (List.getElem?_eq_some_iff.1 hj).1
                rw [hl1, e, Nat.zero_mul] at this
                omega
              · exact e
            obtain ⟨b, off, e2, hc⟩ := hcell1 hn0
            rw [h1v] at hv1
            have := (Value.slice.inj hv1).1
            rw [e2] at this
            cases this
            rw [Addr.add_lit]
            exact (hc j u hj).1) ⟨b2, off2, none⟩ es2.length c2 news hl2 (fun j u hj => by rw [Addr.add_lit]; exact (hcell j u hj).1) (by omega) (by unfold maxLen; omega) (by omega)
          exact ⟨v', w', r1, r2, r3.os, r3.tape, r3.output, r3.size, fun k hk => r3.block k hk (fun e => by cases e)⟩
      obtain ⟨v', w', r1, r2, hbel⟩ := happ
      refine ⟨v', w', hrun _ _ r1, hbel, DRep.fresh hr hbel r2 (List.length_append ..) (by omega) (by omega) (fun e he => ?_) (fun u hu => ?_) fun i j e z he hz => ?_⟩
      · rcases List.mem_append.1 he with he | he
        · exact hk1 e he
        · exact hk2 e he
      · rcases List.mem_append.1 hu with hu | hu
        · exact hone1 u hu
        · exact hone2 u hu
      · by_cases hi : i < es.length
        · rw [List.getElem?_append_left hi] at he
          obtain ⟨u, e6, e7⟩ := hrep1 i j e z he hz
          refine ⟨u, ?_, e7⟩
          rw [List.getElem?_append_left (List.getElem?_eq_some_iff.1 e6).1]
          exact e6
        · rw [List.getElem?_append_right (by omega)] at he
          obtain ⟨u, e6, e7⟩ := hrep2 (i - es.length) j e z he hz
          refine ⟨u, ?_, e7⟩
          have : i * k + j - olds.length = (i - es.length) * k + j := by
            rw [hl1, Nat.sub_mul]
            have := Nat.mul_le_mul_right k (show es.length ≤ i by omega)
            omega
          rw [List.getElem?_append_right (by rw [hl1]; have := Nat.mul_le_mul_right k (show es.length ≤ i by omega); omega), this]
          exact e6
theorem yTf {T E k bytes : Nat} {x y : Operand} {es es2 es' : List (List DV)} [hA : AppOf P T E k bytes] (hk0 : 0 < k) (hb : (es.length + es2.length) * bytes ≤ 140737488351232) (hm : es.length + es2.length ≤ 140737488351232) (hes : es ++ es2 = es') (hx : st.ev x = .d (dCl k es)) (hy : asSl (st.ev y) = some (k, es2)) (h : YR P sq ops K rest (st.put d (.d (.sl k es')))) (hd : dstOk ⟨d, .call { callee := .builtin .append, args := #[x, y], argTypes := #[T, T] }, ty, pos, af, gd⟩ st = true := by kernel_rfl) (hk : opOk ⟨d, .call { callee := .builtin .append, args := #[x, y], argTypes := #[T, T] }, ty, pos, af, gd⟩ st .no = true := by kernel_rfl) (hw : st.want ops ⟨d, .call { callee := .builtin .append, args := #[x, y], argTypes := #[T, T] }, ty, pos, af, gd⟩ = some true := by rfl) :
    YR P sq ops K (⟨d, .call { callee := .builtin .append, args := #[x, y], argTypes := #[T, T] }, ty, pos, af, gd⟩ :: rest) st := yr_v (hes ▸ ls_app_c T x y hk0 hb hm hx hy hd) hk hw h
end
end Go.Proofs.YtdkpmnefoobipaaGreatDoor.Px
set_option maxHeartbeats 1000000
namespace Go.Proofs.YtdkpmnefoobipaaGreatDoor
open Go.RowKit Px

theorem run_append_zeros {P : Program} (w : World) (t u ty e : TypeId) (i : TypeInfo) (z : Value) (bytes : Nat) (ht : P.underlying t = some (.slice e)) (hu : P.underlying u = some (.int .i64)) (hi : P.info? e = some i) (hz : i.zero = some z) (n : Nat) (h0 : 0 < n) (hk0 : 0 < i.size) (hby : i.bytes = bytes) (hb : n * bytes ≤ 140737488355328) (h63 : n ≤ 140737488355328) :
    (Builtin.append_ #[t, u] ty #[.slice none 0 0, .int .i64 n]).run P w =
      .ok (.slice (some ⟨w.heap.size, 0, none⟩) n (grownCap w n 0 e)) (w.drew.alloc (.cells (Builtin.zeroCells z.cells n ++ Builtin.zeroCells z.cells (grownCap w n 0 e - n)) e)) := by
  have hn : n ≠ 0 := by omega
  have h63' : ¬ (9223372036854775807 < (n : Int)) := by omega
  have h48' : ¬ (281474976710656 < Builtin.nextslicecap n 0 * bytes) := by rw [nextslicecap_zero h0]; omega
  have hw : IntKind.i64.wrap (n : Int) = n := wrapI _ (by omega)
  have h1 : ¬ ((n : Int) < 0) := by omega
  have h2 : ¬ (281474976710656 < (n : Int) * (bytes : Int)) := by
    have : ((n * bytes : Nat) : Int) = (n : Int) * (bytes : Int) := by push_cast; rfl
    omega
  have hk2 : i.size ≠ 0 := by omega
  have hk1 : n * i.size ≠ 0 := Nat.mul_ne_zero hn hk2
  simp [Builtin.append_, run_underlying ht, run_underlying hu, sizeOf, typeInfo, zeroValue, hi, hz, Builtin.lenOf, hn, h63', h48', Question.forced, run_firstCells_none, newRow, grownCap, asInt, asIntOf, hw, h1, h2, hk1, hk2, hby]

theorem own_nil {P : Program} {f E k : Nat} {args : List DV} (h : PCalls P f args (.d (.val (.slice none 0 0)))) : POwn P f args E k [] := fun F w vals hl hr hg =>
  (h F w vals hl hr hg).mono fun _ _ ⟨v, h1, h2, h3⟩ => by
    have hv : v = .slice none 0 0 := DRep.val_eq h2
    subst hv
    exact ⟨_, [], h1, World.ownsRow_nil _ _ _ _, fun u hu => (by cases hu), DRep.nil, h3⟩

section
variable {P : Program} {sq : Bool} {ops : Array Oper} {K : PS → Prop} {rest : List Oper} {st : PS} {d : Option Nat} {ty : TypeId} {pos : String} {af : Array Edge} {gd : Option (Nat × Bool)}
theorem ls_slice_nil (T : TypeId) (x y : Operand) {E k : Nat} {kd : IntKind} [hS : SliceOf P T E k] (hx : st.ev x = .d (.val (.slice none 0 0))) (hy : st.ev y = .d (.val (.int kd 0))) (hd : dstOk ⟨d, .slice T x none (some y) none, ty, pos, af, gd⟩ st = true) :
    LocS P ⟨d, .slice T x none (some y) none, ty, pos, af, gd⟩ st (.d (.val (.slice none 0 0))) .no := fun st2 ha =>
  OpS.value (ha.dst hd) fun _ _ g a w h => by
    have h1 := h.eval x
    rw [ha.ev x (by simp [Op.operands]), hx] at h1
    have h2 := h.eval y
    rw [ha.ev y (by simp [Op.operands]), hy] at h2
    refine ⟨.slice none 0 0, w, ?_, Below.refl _ _, DRep.val _ rfl⟩
    simp [execOp, Instr.sliceAt, Instr.slice, Instr.sliceBounds, Instr.sliceBound, DRep.val_eq h1, DRep.val_eq h2, asIntOf, hS.und, hS.size]
theorem ls_cap_nil (T : TypeId) (x : Operand) {E k : Nat} [hS : SliceOf P T E k] (hx : st.ev x = .d (.val (.slice none 0 0))) (hd : dstOk ⟨d, .call { callee := .builtin .cap, args := #[x], argTypes := #[T] }, ty, pos, af, gd⟩ st = true) :
    LocS P ⟨d, .call { callee := .builtin .cap, args := #[x], argTypes := #[T] }, ty, pos, af, gd⟩ st (.d (.val (.int .i64 0))) .no := fun st2 ha =>
  OpS.value (ha.dst hd) fun _ _ g a w h => by
    have h1 := h.eval x
    rw [ha.ev x (by simp [Op.operands, Call.operands]), hx] at h1
    refine ⟨.int .i64 0, w, ?_, Below.refl _ _, DRep.val _ rfl⟩
    simp [execOp, resolve, invoke, builtin, Builtin.cap_, DRep.val_eq h1, hS.und, goInt]
theorem ls_len_nil (T : TypeId) (x : Operand) {E k : Nat} [hS : SliceOf P T E k] (hx : st.ev x = .d (.val (.slice none 0 0))) (hd : dstOk ⟨d, .call { callee := .builtin .len, args := #[x], argTypes := #[T] }, ty, pos, af, gd⟩ st = true) :
    LocS P ⟨d, .call { callee := .builtin .len, args := #[x], argTypes := #[T] }, ty, pos, af, gd⟩ st (.d (.val (.int .i64 0))) .no := fun st2 ha =>
  OpS.value (ha.dst hd) fun _ _ g a w h => by
    have h1 := h.eval x
    rw [ha.ev x (by simp [Op.operands, Call.operands]), hx] at h1
    refine ⟨.int .i64 0, w, ?_, Below.refl _ _, DRep.val _ rfl⟩
    simp [execOp, resolve, invoke, builtin, Builtin.len_, DRep.val_eq h1, hS.und, goInt]
theorem ySz {T E k : Nat} {x y : Operand} {kd : IntKind} [SliceOf P T E k] (hx : st.ev x = .d (.val (.slice none 0 0))) (hy : st.ev y = .d (.val (.int kd 0))) (h : YR P sq ops K rest (st.put d (.d (.val (.slice none 0 0))))) (hd : dstOk ⟨d, .slice T x none (some y) none, ty, pos, af, gd⟩ st = true := by kernel_rfl) (hk : opOk ⟨d, .slice T x none (some y) none, ty, pos, af, gd⟩ st .no = true := by kernel_rfl) (hw : st.want ops ⟨d, .slice T x none (some y) none, ty, pos, af, gd⟩ = some true := by rfl) :
    YR P sq ops K (⟨d, .slice T x none (some y) none, ty, pos, af, gd⟩ :: rest) st := yr_v (ls_slice_nil T x y hx hy hd) hk hw h
theorem yNc {T E k : Nat} {x : Operand} [SliceOf P T E k] (hx : st.ev x = .d (.val (.slice none 0 0))) (h : YR P sq ops K rest (st.put d (.d (.val (.int .i64 0))))) (hd : dstOk ⟨d, .call { callee := .builtin .cap, args := #[x], argTypes := #[T] }, ty, pos, af, gd⟩ st = true := by kernel_rfl) (hk : opOk ⟨d, .call { callee := .builtin .cap, args := #[x], argTypes := #[T] }, ty, pos, af, gd⟩ st .no = true := by kernel_rfl) (hw : st.want ops ⟨d, .call { callee := .builtin .cap, args := #[x], argTypes := #[T] }, ty, pos, af, gd⟩ = some true := by rfl) :
    YR P sq ops K (⟨d, .call { callee := .builtin .cap, args := #[x], argTypes := #[T] }, ty, pos, af, gd⟩ :: rest) st := yr_v (ls_cap_nil T x hx hd) hk hw h
theorem yNl {T E k : Nat} {x : Operand} [SliceOf P T E k] (hx : st.ev x = .d (.val (.slice none 0 0))) (h : YR P sq ops K rest (st.put d (.d (.val (.int .i64 0))))) (hd : dstOk ⟨d, .call { callee := .builtin .len, args := #[x], argTypes := #[T] }, ty, pos, af, gd⟩ st = true := by kernel_rfl) (hk : opOk ⟨d, .call { callee := .builtin .len, args := #[x], argTypes := #[T] }, ty, pos, af, gd⟩ st .no = true := by kernel_rfl) (hw : st.want ops ⟨d, .call { callee := .builtin .len, args := #[x], argTypes := #[T] }, ty, pos, af, gd⟩ = some true := by rfl) :
    YR P sq ops K (⟨d, .call { callee := .builtin .len, args := #[x], argTypes := #[T] }, ty, pos, af, gd⟩ :: rest) st := yr_v (ls_len_nil T x hx hd) hk hw h
end
section
variable {P : Program} {ops : Array Oper} {K : PS → Prop} {rest : List Oper} {st : PS} {ty : TypeId} {pos : String} {af : Array Edge} {gd : Option (Nat × Bool)}
theorem yAz {T U E k bytes e n : Nat} {zs : List Value} {x y : Operand} [hA : AppOf P T E k bytes] [hL : LitOf P T E k zs] (hk0 : 0 < k) (hU : P.underlying U = some (.int .i64)) (hx : st.ev x = .d (.val (.slice none 0 0))) (hy : st.ev y = .d (.val (.int .i64 n))) (h0 : 0 < n) (hn : n * bytes ≤ 140737488351232) (hn2 : n ≤ 140737488351232) (hi : st.bget e = none)
    (h : YR P true ops K rest ((st.bput e []).put (some e) (.bs e n E k))) (hd : dstOk ⟨some e, .call { callee := .builtin .append, args := #[x, y], argTypes := #[T, U] }, ty, pos, af, gd⟩ st = true := by kernel_rfl)
    (hw : st.want ops ⟨some e, .call { callee := .builtin .append, args := #[x, y], argTypes := #[T, U] }, ty, pos, af, gd⟩ = some true := by rfl) :
    YR P true ops K (⟨some e, .call { callee := .builtin .append, args := #[x, y], argTypes := #[T, U] }, ty, pos, af, gd⟩ :: rest) st := by
  refine .any rfl fun B w0 Q hQ g a w hr => ?_
  obtain ⟨i, z, q1, q2, q3, q4, q5⟩ := hA.inf
  have h1 := hr.eval x
  rw [hx] at h1
  have h2 := hr.eval y
  rw [hy] at h2
  obtain ⟨z', hz1, hz2⟩ := hL.zero w
  have hzz : z' = z := by
    have hE : P.info? E = some i := q1
    simp [zeroValue, typeInfo, hE, q2] at hz1
    exact hz1.symm
  subst hzz
  have hrun0 := run_append_zeros w T U ty E i z' bytes hA.und hU q1 q2 n h0 (by rw [q3]; exact hk0) q4 (by omega) (by omega)
  have hrun : (execOp a.eval ⟨some e, .call { callee := .builtin .append, args := #[x, y], argTypes := #[T, U] }, ty, pos, af, gd⟩).run P w = .ok (.value (.slice (some ⟨w.heap.size, 0, none⟩) n (grownCap w n 0 E))) (w.drew.alloc (.cells (Builtin.zeroCells z'.cells n ++ Builtin.zeroCells z'.cells (grownCap w n 0 E - n)) E)) := by
    simp only [execOp, resolve, Sem.run_bind, Sem.run_pure, Result.andThen_ok, invoke]
    simp only [List.map_toArray, List.map_cons, List.map_nil, DRep.val_eq h1, DRep.val_eq h2, builtin, Sem.run_bind, hrun0, Result.andThen_ok, Sem.run_pure]
  have hge := grownCap_ge w n 0 E
  have hle := grownCap_le_maxLen w n 0 E (by unfold maxLen; omega)
  obtain ⟨w', hw'⟩ : ∃ w', w' = w.drew.alloc (.cells (Builtin.zeroCells z'.cells n ++ Builtin.zeroCells z'.cells (grownCap w n 0 E - n)) E) := ⟨_, rfl⟩
  have hheap : w'.heap[w.heap.size]? = some (.cells (Builtin.zeroCells z'.cells n ++ Builtin.zeroCells z'.cells (grownCap w n 0 E - n)) E (0, 0)) := by rw [hw']; exact heap_alloc_new w.drew _
  have hbel : Below w.heap.size w w' := by
    rw [hw']
    exact ⟨rfl, rfl, rfl, by simp, fun k hk => Below.heap_alloc w.drew _ k hk⟩
  have hzs : z'.cells.size = k := by rw [q5]
  have hsz : (Builtin.zeroCells z'.cells n ++ Builtin.zeroCells z'.cells (grownCap w n 0 E - n)).size = grownCap w n 0 E * k := by
    simp only [Array.size_append, size_zeroCells, hzs, ← Nat.add_mul]
    congr 1; omega
  have hin : e < st.n := dstOk_spec hd e rfl
  obtain ⟨ev, hr'⟩ := hr.adopt e w.heap.size E hi hin hbel (Nat.le_refl _) _ hheap [] (Nat.zero_le _) (fun _ j c hj => by simp at hj) (fun j u hj => by simp at hj)
  unfold wpList
  rw [if_pos (want_spec hr hw)]
  refine .inl ?_
  unfold Oper.wp
  rw [hrun, ← hw']
  refine h.sound hQ (hr'.put (x := .bs e n E k) ⟨w.heap.size, grownCap w n 0 E, by simp [Gh.addb], rfl, hge, hle, by simp only [World.shape?, hheap, hsz]⟩ _ ?_)
  intro j hj
  exact dstOk_spec (st := st) hd j hj
variable {B : Nat} {w0 : Cx} {Q : Exit → PS → Prop} {c : Code}
theorem pw_tkz (s i t k : Nat) {E : Nat} {cs : List SV} (hs : st.get s = .bs i 0 E k) (hi : st.bget i = some cs) (hE : t / 100000 = E) (ht : st.tget t = none) (hno : st.noTs t = true) (h : PW P B w0 c Q (((st.kill i).tput t 0).put (some s) (.ts t k []))) (hlt : Nat.blt i 500000 = true := by rfl) (hsm : Nat.blt (t % 100000) 10000 = true := by rfl) : PW P B w0 c Q st := fun g a w hr => by
  have hv := hr.slots s
  rw [hs] at hv
  have hlt := Nat.le_of_ble_eq_true hlt
  obtain ⟨g', q1, q2, q3, q4, hr'⟩ := hr.tkb (n := 0) hlt hi (by omega) hv hE (Nat.le_of_ble_eq_true hsm) ht hno
  refine h _ a w { hr' with lim := hr'.lim, size := hr'.size, boxes := hr'.boxes, maps := hr'.maps, dom := hr'.dom, tdom := hr'.tdom, tlen := hr'.tlen, glob := hr'.glob, slots := fun j => ?_ }
  rw [get_put]
  by_cases e : j = s
  · rw [if_pos e, e]
    obtain ⟨b2, c2, -, hvv, -, h4, -⟩ := hv
    refine ⟨?_, fun T hT => ?_⟩
    · rw [hvv]
      exact DRep.of_row (es := ([] : List (List DV))) (xs := []) (Nat.zero_le _) (Nat.zero_le _) (fun e he => by cases he) (fun h0 => by simp at h0) (fun u hu => by cases hu) fun i j e x he => by simp at he
    · rw [q3] at hT
      simp only [Gh.sett, if_pos] at hT
      cases hT
      refine ⟨rfl, fun A n' c' h1 => ?_⟩
      obtain ⟨-, e2, -⟩ := Value.slice.inj (h1.symm.trans hvv)
      exact ⟨Nat.zero_le _, fun _ => rfl⟩
  · rw [if_neg e]; exact hr'.slots j
end
end Go.Proofs.YtdkpmnefoobipaaGreatDoor
set_option maxHeartbeats 1000000
namespace Go.Proofs.YtdkpmnefoobipaaGreatDoor.Px
open Go.RowKit Go.ChangeShapes

inductive CK where
  | i (k : IntKind)
  | s
  | b
def CK.is : CK → Value → Bool
  | .i k, .int k' _ => decide (k' = k)
  | .s, .string _ => true
  | .b, .bool _ => true
  | _, _ => false
def CK.ty (P : Program) (c : CK) (t : TypeId) : Bool := match c, P.underlying t with
  | .i k, some (.int k') => decide (k = k')
  | .s, some .string => true
  | .b, some .bool => true
  | _, _ => false
def veq : Value → Value → Bool
  | .int _ a, .int _ b => a == b
  | .string a, .string b => a.toList == b.toList
  | .bool a, .bool b => a == b
  | _, _ => false
def veqs : List Value → List Value → Bool
  | [], [] => true
  | x :: xs, y :: ys => veq x y && veqs xs ys
  | _, _ => false
def fits : List CK → List Value → Bool
  | [], [] => true
  | c :: cs, x :: xs => c.is x && fits cs xs
  | _, _ => false
section
variable {P : Program} (w : World)
theorem CK.plain {c : CK} {t : TypeId} (h : c.ty P t = true) : P.plainKey t = true := by
  unfold CK.ty at h
  unfold Program.plainKey
  cases e : P.underlying t with
  | none => rw [e] at h; cases c <;> simp at h
  | some d => rw [e] at h; cases c <;> cases d <;> simp at h ⊢
theorem run_veq {c : CK} {t : TypeId} (h : c.ty P t = true) {x y : Value} (hx : c.is x = true) (hy : c.is y = true) (d : Nat) : (Op.equalIn (d + 1) t x y).run P w = .ok (veq x y) w := by
  unfold CK.ty at h
  cases e : P.underlying t with
  | none => rw [e] at h; cases c <;> simp at h
  | some u =>
    rw [e] at h
    cases c with
    | i k =>
      cases u <;> simp at h
      subst h
      cases x <;> simp [CK.is] at hx
      cases y <;> simp [CK.is] at hy
      subst hx hy
      exact run_equalIn_int w d t _ _ _ _ e
    | s =>
      cases u <;> simp at h
      cases x <;> simp [CK.is] at hx
      cases y <;> simp [CK.is] at hy
      exact run_equalIn_string w d t _ _ e
    | b =>
      cases u <;> simp at h
      cases x <;> simp [CK.is] at hx
      cases y <;> simp [CK.is] at hy
      exact run_equalIn_bool' w d t _ _ e
def fieldsB (P : Program) : Nat → List CK → List Field → Bool
  | _, [], [] => true
  | off, c :: cs, f :: fs => c.ty P f.type && Nat.beq f.offset off && !(f.name == "_") && fieldsB P (off + 1) cs fs
  | _, _, _ => false
theorem run_eqFieldsV (d : Nat) (xs ys : Array Value) : ∀ (cs : List CK) (fs : List Field) (off : Nat), fieldsB P off cs fs = true → ∀ la lb : List Value, fits cs la = true → fits cs lb = true → (∀ (j : Nat) v, la[j]? = some v → xs[off + j]? = some v) → (∀ (j : Nat) v, lb[j]? = some v → ys[off + j]? = some v) →
    (Op.eqFields (d + 1) xs ys fs).run P w = .ok (veqs la lb) w
  | [], [], off, _, la, lb, ha, hb, _, _ => by
    cases la with
    | nil => cases lb with
      | nil => simp [Op.eqFields, veqs]
      | cons => cases hb
    | cons => cases ha
  | [], _ :: _, _, h, _, _, _, _, _, _ => by cases h
  | _ :: _, [], _, h, _, _, _, _, _, _ => by cases h
  | c :: cs, f :: fs, off, h, la, lb, ha, hb, hxs, hys => by
    cases la with
    | nil => cases ha
    | cons a la =>
      cases lb with
      | nil => cases hb
      | cons b lb =>
        simp only [fieldsB, fits, Bool.and_eq_true] at h ha hb
        obtain ⟨⟨⟨h1, h2⟩, h3⟩, h4⟩ := h
        have h2 := Nat.eq_of_beq_eq_true h2
        have hn : f.name ≠ "_" := by simpa using h3
        have p1 := run_part_plain w (CK.plain h1) (xs := xs) (off := f.offset) (v := a) (by rw [h2]; exact hxs 0 a rfl)
        have p2 := run_part_plain w (CK.plain h1) (xs := ys) (off := f.offset) (v := b) (by rw [h2]; exact hys 0 b rfl)
        have p3 := run_veq w h1 ha.1 hb.1 d
        have ih := run_eqFieldsV d xs ys cs fs (off + 1) h4 la lb ha.2 hb.2 (fun j v hj => by rw [show off + 1 + j = off + (j + 1) by omega]; exact hxs (j + 1) v hj) fun j v hj => by rw [show off + 1 + j = off + (j + 1) by omega]; exact hys (j + 1) v hj
        simp only [Op.eqFields, hn, ne_eq, not_false_eq_true, if_true, Sem.run_bind, p1, p2, p3, Result.andThen_ok, veqs]
        cases veq a b
        · simp
        · simpa using ih
theorem run_eqItemsV (d : Nat) {e : TypeId} {c : CK} (he : c.ty P e = true) (xs ys : Array Value) : ∀ (n off : Nat) (la lb : List Value), fits (List.replicate n c) la = true → fits (List.replicate n c) lb = true → (∀ (j : Nat) v, la[j]? = some v → xs[off + j]? = some v) → (∀ (j : Nat) v, lb[j]? = some v → ys[off + j]? = some v) →
    (Op.eqItems (d + 1) e 1 xs ys (List.range' off n)).run P w = .ok (veqs la lb) w
  | 0, off, la, lb, ha, hb, _, _ => by
    cases la with
    | nil => cases lb with
      | nil => simp [Op.eqItems, veqs]
      | cons => cases hb
    | cons => cases ha
  | n + 1, off, la, lb, ha, hb, hxs, hys => by
    cases la with
    | nil => cases ha
    | cons a la =>
      cases lb with
      | nil => cases hb
      | cons b lb =>
        simp only [List.replicate_succ, fits, Bool.and_eq_true] at ha hb
        have p1 := run_part_plain w (CK.plain he) (xs := xs) (off := off * 1) (v := a) (by rw [Nat.mul_one]; exact hxs 0 a rfl)
        have p2 := run_part_plain w (CK.plain he) (xs := ys) (off := off * 1) (v := b) (by rw [Nat.mul_one]; exact hys 0 b rfl)
        have p3 := run_veq w he ha.1 hb.1 d
        have ih := run_eqItemsV d he xs ys n (off + 1) la lb ha.2 hb.2 (fun j v hj => by rw [show off + 1 + j = off + (j + 1) by omega]; exact hxs (j + 1) v hj) fun j v hj => by rw [show off + 1 + j = off + (j + 1) by omega]; exact hys (j + 1) v hj
        simp only [List.range'_succ, Op.eqItems, Sem.run_bind, p1, p2, p3, Result.andThen_ok, veqs]
        cases veq a b
        · simp
        · simpa using ih
end
class EqOf (P : Program) (T : TypeId) (cs : outParam (List CK)) : Prop where
  run : ∀ (w : World) (la lb : List Value), fits cs la = true → fits cs lb = true → (Op.equalIn 10000 T (.agg la.toArray) (.agg lb.toArray)).run P w = .ok (veqs la lb) w
  guard : P.eqGuardType P.depth T = false
theorem eqOf_struct {P : Program} {T : TypeId} {cs : List CK} (h : (match P.underlying T with | some (.struct fs) => fieldsB P 0 cs fs.toList | _ => false) = true) (hp : P.stoodInHeld T = false) (hg : P.eqGuardType P.depth T = false) : EqOf P T cs := by
  refine ⟨fun w la lb ha hb => ?_, hg⟩
  cases hu : P.underlying T with
  | none => rw [hu] at h; cases h
  | some u =>
    rw [hu] at h
    cases u with
    | struct fs =>
      have hf : P.fieldsOf T = fs := by simp [Program.fieldsOf, hu]
      rw [show (10000 : Nat) = 9999 + 1 from rfl, run_equalIn_agg w 9999 T _ _ (by rw [hf]; exact hu) hp, hf]
      exact run_eqFieldsV w 9998 _ _ cs fs.toList 0 h la lb ha hb (fun j v hj => by simpa using hj) fun j v hj => by simpa using hj
    | _ => cases h
theorem eqOf_array {P : Program} {T e n : Nat} {c : CK} (hu : P.underlying T = some (.array n e)) (hi : (P.info? e).isSome = true) (h1 : P.cellsOf e = 1) (he : c.ty P e = true) (hg : P.eqGuardType P.depth T = false) : EqOf P T (List.replicate n c) := by
  refine ⟨fun w la lb ha hb => ?_, hg⟩
  obtain ⟨i, hi⟩ := Option.isSome_iff_exists.1 hi
  rw [show (10000 : Nat) = 9999 + 1 from rfl, run_equalIn_array w 9999 _ _ hu hi, h1, List.range_eq_range']
  exact run_eqItemsV w 9998 he _ _ n 0 la lb ha hb (fun j v hj => by simpa using hj) fun j v hj => by simpa using hj
section
variable {P : Program} {sq : Bool} {ops : Array Oper} {K : PS → Prop} {rest : List Oper} {st : PS} {d : Option Nat} {ty : TypeId} {pos : String} {af : Array Edge} {gd : Option (Nat × Bool)}
theorem yBx {t t' : Nat} {x y : Operand} {cs ds : List DV} {vs us : List Value} {ks : List CK} [hE : EqOf P t ks] (hv : fits ks vs = true) (hu : fits ks us = true) (hx : st.ev x = .d (.agg cs)) (hcx : valsOf cs = some vs) (hy : st.ev y = .d (.agg ds)) (hcy : valsOf ds = some us)
    (h : YR P sq ops K rest (st.put d (.d (.val (.bool (!veqs vs us)))))) (hd : dstOk ⟨d, .binOp .neq t x y t', ty, pos, af, gd⟩ st = true := by kernel_rfl) (hk : opOk ⟨d, .binOp .neq t x y t', ty, pos, af, gd⟩ st .no = true := by kernel_rfl) (hw : st.want ops ⟨d, .binOp .neq t x y t', ty, pos, af, gd⟩ = some true := by rfl) : YR P sq ops K (⟨d, .binOp .neq t x y t', ty, pos, af, gd⟩ :: rest) st :=
  yBA (fun w => by rw [Sem.run_bind, run_eqGuard_agg w _ _ _ _ _ _ hE.guard, Result.andThen_ok, run_neq_struct, hE.run w vs us hv hu]; rfl) rfl hx hcx hy hcy h hd hk hw
end
theorem veq_str (a b : List UInt8) : veq (vS a) (vS b) = (a == b) := by
  show ((ByteArray.mk a.toArray).toList == (ByteArray.mk b.toArray).toList) = (a == b)
  rw [str_list, str_list]
theorem veq_int (k k' : IntKind) (a b : Int) : veq (.int k a) (.int k' b) = (a == b) := rfl
end Go.Proofs.YtdkpmnefoobipaaGreatDoor.Px
namespace Go.Proofs.YtdkpmnefoobipaaGreatDoor
open Go.RowKit Px

instance : EqOf Tryz.prog 37 [.i .i64, .i .i64] := eqOf_array (n := 2) (e := 3) (c := .i .i64) (by kernel_rfl) (by kernel_rfl) (by kernel_rfl) (by kernel_rfl) (by kernel_rfl)
instance : EqOf Tryz.prog 41 [.i .i64, .s, .s, .s] := eqOf_struct (by kernel_rfl) (by kernel_rfl) (by kernel_rfl)
theorem take_next {α : Type} {l r : List α} {i : Nat} {x : α} (h : l.take i = r.take i) (hx : l[i]? = some x) (hy : r[i]? = some x) : l.take (i + 1) = r.take (i + 1) := by
  rw [List.take_add_one, List.take_add_one, h, hx, hy]
set_option maxRecDepth 20000 in
set_option maxHeartbeats 2000000 in
theorem wEqP (l r : List (Int × Int)) (hl : l.length ≤ 1000000) (hr : r.length ≤ 1000000) : PCalls Tryz.prog 18 [.sl 2 (l.map dP2), .sl 2 (r.map dP2)] (.d (dB (decide (l = r)))) := by
  refine pcalls_of_pw Tryz.func18 rfl Tryz.ntmps18 Tryz.results18 (by simp) fun B w0 => ?_
  by_cases hn : l.length = r.length
  rotate_left
  · have t1 : (((l.map dP2).length : Int) != ((r.map dP2).length : Int)) = true := by simp; omega
    rw [decide_eq_false fun e => hn (by rw [e])]
    refine pw_seq (pw_region (yAd rfl (yQ (pw_seq (pw_seq (pw_region (yMd rfl (yN rfl (yMd rfl ?_))))))))); refine yN rfl (yB rfl rfl rfl rfl (yQ (q_then ?_))); rw [t1]; refine pw_ct rfl (pw_seq (pw_region (yAd rfl (yQ (pw_ret (q_then_ret ?_))))))
    exact q_ret _ (.tmp rfl .nil) rfl
  have t1 : (((l.map dP2).length : Int) != ((r.map dP2).length : Int)) = false := by simp; omega
  refine pw_seq (pw_region (yAd rfl (yQ (pw_seq (pw_seq (pw_region (yMd rfl (yN rfl (yMd rfl ?_))))))))); refine yN rfl (yB rfl rfl rfl rfl (yQ (q_then ?_))); rw [t1]; refine pw_cf rfl (pw_skip (pw_seq (pw_seq (pw_region (yMd rfl (yN rfl (yMd rfl (yQ (pw_block ?_))))))))); refine pw_loop (fun i : Nat => ⟨26, [(0, .d (.sl 2 (l.map dP2))), (1, .d (.sl 2 (r.map dP2))), (12, .d (dI l.length)), (13, .d (dI i))], [], []⟩) (fun i => i ≤ l.length ∧ l.take i = r.take i) (fun i => l.length - i) 0 ⟨Nat.zero_le _, rfl⟩ ⟨rfl, ⟨.refl _, .refl _, .of_eq (congrArg (fun n : Nat => SV.d (dI n)) (by simp)), .refl _, trivial⟩, trivial, trivial, rfl⟩ ?_
  rintro i ⟨hi, h0⟩
  refine pw_seq (pw_region (yB rfl rfl rfl rfl (yQ (pw_seq ?_)))); refine pw_cond rfl (fun h => ?_) (fun h => ?_)
  · simp at h
    obtain ⟨⟨x0, x1⟩, hx⟩ : ∃ a, l[i]? = some a := ⟨_, List.getElem?_eq_getElem h⟩
    obtain ⟨⟨y0, y1⟩, hy⟩ : ∃ a, r[i]? = some a := ⟨_, List.getElem?_eq_getElem (by omega)⟩
    have ex := ix dP2 l i i (x0, x1) rfl hx
    have ey := ix dP2 r i i (y0, y1) rfl hy
    have hw := wrapI ((i : Int) + 1) (by omega)
    have hv : veqs [.int .i64 x0, .int .i64 x1] [.int .i64 y0, .int .i64 y1] = (x0 == y0 && (x1 == y1 && true)) := rfl
    by_cases e : (x0, x1) = (y0, y1)
    · cases e
      have t2 : veqs [.int .i64 x0, .int .i64 x1] [.int .i64 x0, .int .i64 x1] = true := by rw [hv]; simp
      refine pw_skip (pw_seq (pw_block (pw_seq (pw_region (yMd rfl (yAd rfl (yQ (pw_seq ?_)))))))); refine pw_draw Tryz.mixed (by kernel_rfl) ?_; refine yMd rfl (yMd rfl (yW ex (by omega) rfl rfl (yLs (ys := [_, _]) rfl rfl rfl (yMd rfl (yMd rfl (yW ey (by omega) rfl rfl (yLs (ys := [_, _]) rfl rfl rfl (yBx (vs := [.int .i64 x0, .int .i64 x1]) (us := [.int .i64 x0, .int .i64 x1]) rfl rfl rfl rfl rfl rfl (yQ ?_))))))))); refine q_then ?_; rw [t2]; refine pw_cf rfl (pw_skip (pw_region (yB rfl rfl rfl rfl (yMd rfl (yQ (q_then ?_))))))
      refine ⟨i + 1, ⟨by omega, take_next h0 hx hy⟩, by omega, rfl, ⟨.refl _, .refl _, .refl _, .of_eq (congrArg (fun n => SV.d (dI n)) hw), trivial⟩, trivial, trivial, rfl⟩
    · have t2 : veqs [.int .i64 x0, .int .i64 x1] [.int .i64 y0, .int .i64 y1] = false := by
        rw [hv]
        cases h1 : (x0 == y0) with
        | false => rfl
        | true => cases h2 : (x1 == y1) with
          | false => rfl
          | true => exact absurd (by rw [eq_of_beq h1, eq_of_beq h2]) e
      rw [decide_eq_false fun e2 => e (by subst e2; rw [hx] at hy; exact Option.some.inj hy)]
      refine pw_skip (pw_seq (pw_block (pw_seq (pw_region (yMd rfl (yAd rfl (yQ (pw_seq ?_)))))))); refine pw_draw Tryz.mixed (by kernel_rfl) ?_; refine yMd rfl (yMd rfl (yW ex (by omega) rfl rfl (yLs (ys := [_, _]) rfl rfl rfl (yMd rfl (yMd rfl (yW ey (by omega) rfl rfl (yLs (ys := [_, _]) rfl rfl rfl (yBx (vs := [.int .i64 x0, .int .i64 x1]) (us := [.int .i64 y0, .int .i64 y1]) rfl rfl rfl rfl rfl rfl (yQ ?_))))))))); refine q_then ?_; rw [t2]; refine pw_ct rfl (pw_seq (pw_region (yAd rfl (yQ (pw_ret (q_blk_ret (q_then_ret (q_then_ret (q_blk_ret ?_))))))))); refine q_then_ret ?_
      exact q_ret _ (.tmp rfl .nil) rfl
  · simp at h
    rw [List.take_of_length_le (by omega), List.take_of_length_le (by omega)] at h0
    rw [decide_eq_true h0]
    refine pw_exit (pw_seq (pw_region (yAd rfl (yQ (pw_ret ?_)))))
    exact q_ret _ (.tmp rfl .nil) rfl
abbrev vBk (x : Bk) : List Value := [.int .i64 x.1, vS x.2.1, vS x.2.2.1, vS x.2.2.2]
theorem veq_bk (x y : Bk) : veqs (vBk x) (vBk y) = decide (x = y) := by
  obtain ⟨x0, x1, x2, x3⟩ := x
  obtain ⟨y0, y1, y2, y3⟩ := y
  show (veq (.int .i64 x0) (.int .i64 y0) && (veq (vS x1) (vS y1) && (veq (vS x2) (vS y2) && (veq (vS x3) (vS y3) && true)))) = _
  rw [veq_str, veq_str, veq_str, veq_int, Bool.eq_iff_iff]
  simp
set_option maxRecDepth 20000 in
set_option maxHeartbeats 2000000 in
theorem wEqB (l r : List Bk) (hl : l.length ≤ 1000000) (hr : r.length ≤ 1000000) : PCalls Tryz.prog 19 [.sl 4 (l.map dBk), .sl 4 (r.map dBk)] (.d (dB (decide (l = r)))) := by
  refine pcalls_of_pw Tryz.func19 rfl Tryz.ntmps19 Tryz.results19 (by simp) fun B w0 => ?_
  by_cases hn : l.length = r.length
  rotate_left
  · have t1 : (((l.map dBk).length : Int) != ((r.map dBk).length : Int)) = true := by simp; omega
    rw [decide_eq_false fun e => hn (by rw [e])]
    refine pw_seq (pw_region (yAd rfl (yQ (pw_seq (pw_seq (pw_region (yMd rfl (yN rfl (yMd rfl ?_))))))))); refine yN rfl (yB rfl rfl rfl rfl (yQ (q_then ?_))); rw [t1]; refine pw_ct rfl (pw_seq (pw_region (yAd rfl (yQ (pw_ret (q_then_ret ?_))))))
    exact q_ret _ (.tmp rfl .nil) rfl
  have t1 : (((l.map dBk).length : Int) != ((r.map dBk).length : Int)) = false := by simp; omega
  refine pw_seq (pw_region (yAd rfl (yQ (pw_seq (pw_seq (pw_region (yMd rfl (yN rfl (yMd rfl ?_))))))))); refine yN rfl (yB rfl rfl rfl rfl (yQ (q_then ?_))); rw [t1]; refine pw_cf rfl (pw_skip (pw_seq (pw_seq (pw_region (yMd rfl (yN rfl (yMd rfl (yQ (pw_block ?_))))))))); refine pw_loop (fun i : Nat => ⟨26, [(0, .d (.sl 4 (l.map dBk))), (1, .d (.sl 4 (r.map dBk))), (12, .d (dI l.length)), (13, .d (dI i))], [], []⟩) (fun i => i ≤ l.length ∧ l.take i = r.take i) (fun i => l.length - i) 0 ⟨Nat.zero_le _, rfl⟩ ⟨rfl, ⟨.refl _, .refl _, .of_eq (congrArg (fun n : Nat => SV.d (dI n)) (by simp)), .refl _, trivial⟩, trivial, trivial, rfl⟩ ?_
  rintro i ⟨hi, h0⟩
  refine pw_seq (pw_region (yB rfl rfl rfl rfl (yQ (pw_seq ?_)))); refine pw_cond rfl (fun h => ?_) (fun h => ?_)
  · simp at h
    obtain ⟨x, hx⟩ : ∃ a, l[i]? = some a := ⟨_, List.getElem?_eq_getElem h⟩
    obtain ⟨y, hy⟩ : ∃ a, r[i]? = some a := ⟨_, List.getElem?_eq_getElem (by omega)⟩
    have ex := ix dBk l i i x rfl hx
    have ey := ix dBk r i i y rfl hy
    have hw := wrapI ((i : Int) + 1) (by omega)
    have hv := veq_bk x y
    by_cases e : x = y
    · rw [decide_eq_true e] at hv
      refine pw_skip (pw_seq (pw_block (pw_seq (pw_region (yMd rfl (yAd rfl (yQ (pw_seq ?_)))))))); refine pw_draw Tryz.mixed (by kernel_rfl) ?_; refine yMd rfl (yMd rfl (yW ex (by omega) rfl rfl (yLs (ys := [_, _, _, _]) rfl rfl rfl (yMd rfl (yMd rfl (yW ey (by omega) rfl rfl (yLs (ys := [_, _, _, _]) rfl rfl rfl (yBx (vs := vBk x) (us := vBk y) rfl rfl rfl rfl rfl rfl (yQ ?_))))))))); refine q_then ?_; rw [hv]; refine pw_cf rfl (pw_skip (pw_region (yB rfl rfl rfl rfl (yMd rfl (yQ (q_then ?_))))))
      refine ⟨i + 1, ⟨by omega, take_next h0 hx (e ▸ hy)⟩, by omega, rfl, ⟨.refl _, .refl _, .refl _, .of_eq (congrArg (fun n => SV.d (dI n)) hw), trivial⟩, trivial, trivial, rfl⟩
    · rw [decide_eq_false e] at hv
      rw [decide_eq_false fun e2 => e (by subst e2; rw [hx] at hy; exact Option.some.inj hy)]
      refine pw_skip (pw_seq (pw_block (pw_seq (pw_region (yMd rfl (yAd rfl (yQ (pw_seq ?_)))))))); refine pw_draw Tryz.mixed (by kernel_rfl) ?_; refine yMd rfl (yMd rfl (yW ex (by omega) rfl rfl (yLs (ys := [_, _, _, _]) rfl rfl rfl (yMd rfl (yMd rfl (yW ey (by omega) rfl rfl (yLs (ys := [_, _, _, _]) rfl rfl rfl (yBx (vs := vBk x) (us := vBk y) rfl rfl rfl rfl rfl rfl (yQ ?_))))))))); refine q_then ?_; rw [hv]; refine pw_ct rfl (pw_seq (pw_region (yAd rfl (yQ (pw_ret (q_blk_ret (q_then_ret (q_then_ret (q_blk_ret ?_))))))))); refine q_then_ret ?_
      exact q_ret _ (.tmp rfl .nil) rfl
  · simp at h
    rw [List.take_of_length_le (by omega), List.take_of_length_le (by omega)] at h0
    rw [decide_eq_true h0]
    refine pw_exit (pw_seq (pw_region (yAd rfl (yQ (pw_ret ?_)))))
    exact q_ret _ (.tmp rfl .nil) rfl
end Go.Proofs.YtdkpmnefoobipaaGreatDoor
namespace Go.Proofs.YtdkpmnefoobipaaGreatDoor
open Go.RowKit Px

def tot {α : Type} (css : List (List α)) (k : Nat) : Nat := ((css.take k).flatten).length
theorem tot_succ {α : Type} {css : List (List α)} {k : Nat} {c : List α} (h : css[k]? = some c) : tot css (k + 1) = tot css k + c.length := by
  unfold tot
  rw [List.take_add_one, h]
  simp
theorem tot_le {α : Type} (css : List (List α)) (k : Nat) : tot css k ≤ css.flatten.length := by
  unfold tot
  have : css.flatten = (css.take k).flatten ++ (css.drop k).flatten := by rw [← List.flatten_append, List.take_append_drop]
  rw [this, List.length_append]
  omega

set_option maxRecDepth 20000 in
set_option maxHeartbeats 1000000 in
theorem wGrowH (n : Nat) (hn : n ≤ 1000000) : POwn Tryz.prog 80 [.val (.slice none 0 0), dI n] 55 2 [] := by
  have t1 : decide ((n : Int) < 0) = false := decide_eq_false (by omega)
  have hw : IntKind.i64.wrap ((n : Int) - IntKind.i64.wrap (0 - 0)) = n := by rw [show IntKind.i64.wrap (0 - 0) = 0 by decide, Int.sub_zero]; exact wrapI _ (by omega)
  rcases Nat.eq_zero_or_pos n with rfl | h0
  · refine own_nil ?_
    refine pcalls_of_pw Tryz.func80 rfl Tryz.ntmps80 Tryz.results80 (by simp) fun B w0 => ?_
    refine pw_seq (pw_region (yAd rfl (yQ (pw_seq (pw_seq (pw_region (yMd rfl (yB rfl rfl rfl rfl (yQ ?_))))))))); refine pw_cf rfl (pw_skip (pw_seq (pw_seq (pw_region (yMd rfl (yMd rfl (yNc rfl (yMd rfl (yNl rfl ?_))))))))); refine yB rfl rfl rfl rfl (yB rfl rfl rfl rfl (yAd rfl (yQ (pw_seq (pw_region (yMd rfl (yB rfl rfl rfl rfl (yQ (pw_cf rfl ?_))))))))); refine pw_skip (pw_seq (pw_region (yMd rfl (yAd rfl (yQ (pw_ret ?_))))))
    exact q_ret _ (.tmp rfl .nil) rfl
  · have t2 : decide ((n : Int) > 0) = true := decide_eq_true (by omega)
    refine pown_of_pw (t := 55 * 100000 + 4) Tryz.func80 rfl Tryz.ntmps80 Tryz.results80 (by simp) rfl fun B w0 => ?_
    refine pw_seq (pw_region (yAd rfl (yQ (pw_seq (pw_seq (pw_region (yMd rfl (yB rfl rfl rfl rfl (yQ ?_))))))))); refine pw_cf rfl (pw_skip (pw_seq (pw_seq (pw_region (yMd rfl (yMd rfl (yNc rfl (yMd rfl (yNl rfl ?_))))))))); refine yB rfl rfl rfl rfl (yB rfl rfl rfl rfl (yAd rfl (yQ (pw_seq (pw_region (yMd rfl (yB rfl rfl rfl rfl (yQ (q_then ?_))))))))); rw [t1]; rw [hw]; rw [t2]; refine pw_ct rfl (pw_region (yMd rfl (yMd rfl (yNc rfl (ySz rfl rfl (yMd rfl (yAz (by omega) Tryz.underlying3 rfl rfl h0 (by omega) (by omega) rfl (yMd rfl (yNl rfl ?_))))))))); refine yDb (by omega) (by omega) rfl rfl (yAw rfl (yQ ?_)); refine pw_tkz 0 22 (55 * 100000 + 4) 2 rfl rfl rfl rfl rfl ?_; refine pw_seq (pw_region (yMt rfl (yAt rfl (yQ (pw_ret ?_)))))
    exact q_own rfl rfl
set_option maxRecDepth 20000 in
set_option maxHeartbeats 1000000 in
theorem wConcatH (css : List (List Hd)) (hl : css.length ≤ 1000) (ht : (css.flatten).length ≤ 1000000) : PCalls Tryz.prog 48 [.sl 1 (css.map fun c => [.sl 2 (c.map dH)])] (.d (.sl 2 (css.flatten.map dH))) := by
  refine pcalls_of_pw Tryz.func48 rfl Tryz.ntmps48 Tryz.results48 (by simp) fun B w0 => ?_
  refine pw_seq (pw_region (yAd rfl (yQ (pw_seq (pw_region (yAd rfl (yQ (pw_seq (pw_seq ?_))))))))); refine pw_region (yMd rfl (yN rfl (yMd rfl (yQ (pw_block ?_))))); refine pw_loop (fun k : Nat => ⟨36, [(0, .d (.sl 1 (css.map fun c => [.sl 2 (c.map dH)]))), (9, .d (.sl 1 (css.map fun c => [.sl 2 (c.map dH)]))), (10, .d (dI css.length)), (11, .d (dI k)), (3, .d (dI (tot css k)))], [], []⟩) (fun k => k ≤ css.length) (fun k => css.length - k) 0 (Nat.zero_le _) ⟨rfl, ⟨.refl _, .refl _, .of_eq ?_, .refl _, .refl _, trivial⟩, trivial, trivial, rfl⟩ ?_
  · exact congrArg (fun n : Nat => SV.d (dI n)) (by simp)
  intro k hk
  refine pw_seq (pw_region (yB rfl rfl rfl rfl (yQ (pw_seq ?_)))); refine pw_cond rfl (fun h => ?_) (fun h => ?_)
  · simp at h
    obtain ⟨c, gk⟩ : ∃ c, css[k]? = some c := ⟨_, List.getElem?_eq_getElem h⟩
    have ek := ix (fun c => [.sl 2 (c.map dH)]) css k k c rfl gk
    have hts := tot_succ gk
    have htl := tot_le css (k + 1)
    have hw1 := wrapI ((k : Int) + 1) (by omega)
    have hw2 : IntKind.i64.wrap ((tot css k : Int) + ((c.map dH).length : Int)) = (tot css (k + 1) : Int) := by rw [List.length_map, wrapI _ (by omega)]; omega
    have h0 : decide ((tot css (k + 1) : Int) < 0) = false := decide_eq_false (by omega)
    refine pw_skip (pw_seq (pw_block (pw_seq (pw_region (yW ek (by omega) rfl rfl (yLr rfl rfl (yAd rfl (yQ (pw_seq ?_))))))))); refine pw_region (yMd rfl (yMd rfl (yN rfl (yB rfl rfl rfl rfl (yAd rfl (yQ (pw_seq (pw_region (yMd rfl ?_))))))))); refine yB rfl rfl rfl rfl (yQ (q_then ?_)); rw [hw2]; refine pw_cf rfl (pw_skip (pw_region (yB rfl rfl rfl rfl (yMd rfl (yQ (q_then ?_)))))); rw [h0]
    refine ⟨k + 1, by omega, by omega, rfl, ⟨.refl _, .refl _, .refl _, .of_eq (congrArg (fun n => SV.d (dI n)) hw1), .refl _, trivial⟩, trivial, trivial, rfl⟩
  · simp at h
    obtain rfl : k = css.length := by omega
    have ht2 : tot css css.length = css.flatten.length := by rw [tot, List.take_length]
    have c1 := wGrowH (tot css css.length) (by omega)
    refine pw_exit (pw_seq (pw_region (yMd rfl (yCo (t := 55 * 100000 + 6) c1 rfl rfl rfl rfl (yAt rfl (yQ (pw_seq (pw_seq (pw_region ?_))))))))); refine yMd rfl (yN rfl (yMd rfl (yQ (pw_block ?_)))); refine pw_loop (fun k : Nat => ⟨36, [(25, .d (.sl 1 (css.map fun c => [.sl 2 (c.map dH)]))), (26, .d (dI css.length)), (27, .d (dI k)), (6, .ts (55 * 100000 + 6) 2 (((css.take k).flatten).map dH))], [], [(55 * 100000 + 6, (((css.take k).flatten).map dH).length)]⟩) (fun k => k ≤ css.length) (fun k => css.length - k) 0 (Nat.zero_le _) ⟨rfl, ⟨.refl _, .of_eq ?_, .refl _, .refl _, trivial⟩, trivial, ⟨rfl, trivial⟩, rfl⟩ ?_
    · exact congrArg (fun n : Nat => SV.d (dI n)) (by simp)
    intro k hk
    refine pw_seq (pw_region (yB rfl rfl rfl rfl (yQ (pw_seq ?_)))); refine pw_cond rfl (fun h => ?_) (fun h => ?_)
    · simp at h
      obtain ⟨c, gk⟩ : ∃ c, css[k]? = some c := ⟨_, List.getElem?_eq_getElem h⟩
      have ek := ix (fun c => [.sl 2 (c.map dH)]) css k k c rfl gk
      have hts := tot_succ gk
      have htl := tot_le css (k + 1)
      have hw1 := wrapI ((k : Int) + 1) (by omega)
      have hfl : (css.take (k + 1)).flatten = (css.take k).flatten ++ c := by rw [List.take_add_one, gk]; simp
      have hln : ((css.take k).flatten).length = tot css k := rfl
      obtain ⟨zs, hz⟩ : ∃ zs, zs = (css.take k).flatten := ⟨_, rfl⟩
      rw [← hz] at hfl hln ⊢
      refine pw_skip (pw_seq (pw_block (pw_seq (pw_region (yW ek (by omega) rfl rfl (yLr rfl rfl (yAd rfl (yQ (pw_region ?_))))))))); refine yMt rfl (yMd rfl (yT (es' := (zs ++ c).map dH) (m := ((zs ++ c).map dH).length) (by simp; omega) (by simp; omega) rfl rfl rfl rfl rfl (by simp) (by simp) (yAt rfl (yQ (pw_region (yB rfl rfl rfl rfl (yMd rfl (yQ (q_then ?_)))))))))
      refine ⟨k + 1, by omega, by omega, rfl, ⟨.refl _, .refl _, .of_eq (congrArg (fun n => SV.d (dI n)) hw1), .of_eq ?_, trivial⟩, trivial, ⟨?_, trivial⟩, rfl⟩
      · rw [hfl]; rfl
      · rw [hfl]; rfl
    · simp at h
      obtain rfl : k = css.length := by omega
      rw [List.take_length]
      refine pw_exit (pw_seq (pw_region (yMt rfl (yAt rfl (yQ (pw_ret ?_))))))
      exact q_ret _ (.tmp rfl .nil) rfl

set_option maxRecDepth 20000 in
set_option maxHeartbeats 1000000 in
theorem wGrowB (n : Nat) (hn : n ≤ 1000000) : POwn Tryz.prog 52 [.val (.slice none 0 0), dI n] 41 4 [] := by
  have t1 : decide ((n : Int) < 0) = false := decide_eq_false (by omega)
  have hw : IntKind.i64.wrap ((n : Int) - IntKind.i64.wrap (0 - 0)) = n := by rw [show IntKind.i64.wrap (0 - 0) = 0 by decide, Int.sub_zero]; exact wrapI _ (by omega)
  rcases Nat.eq_zero_or_pos n with rfl | h0
  · refine own_nil ?_
    refine pcalls_of_pw Tryz.func52 rfl Tryz.ntmps52 Tryz.results52 (by simp) fun B w0 => ?_
    refine pw_seq (pw_region (yAd rfl (yQ (pw_seq (pw_seq (pw_region (yMd rfl (yB rfl rfl rfl rfl (yQ ?_))))))))); refine pw_cf rfl (pw_skip (pw_seq (pw_seq (pw_region (yMd rfl (yMd rfl (yNc rfl (yMd rfl (yNl rfl ?_))))))))); refine yB rfl rfl rfl rfl (yB rfl rfl rfl rfl (yAd rfl (yQ (pw_seq (pw_region (yMd rfl (yB rfl rfl rfl rfl (yQ (pw_cf rfl ?_))))))))); refine pw_skip (pw_seq (pw_region (yMd rfl (yAd rfl (yQ (pw_ret ?_))))))
    exact q_ret _ (.tmp rfl .nil) rfl
  · have t2 : decide ((n : Int) > 0) = true := decide_eq_true (by omega)
    refine pown_of_pw (t := 41 * 100000 + 4) Tryz.func52 rfl Tryz.ntmps52 Tryz.results52 (by simp) rfl fun B w0 => ?_
    refine pw_seq (pw_region (yAd rfl (yQ (pw_seq (pw_seq (pw_region (yMd rfl (yB rfl rfl rfl rfl (yQ ?_))))))))); refine pw_cf rfl (pw_skip (pw_seq (pw_seq (pw_region (yMd rfl (yMd rfl (yNc rfl (yMd rfl (yNl rfl ?_))))))))); refine yB rfl rfl rfl rfl (yB rfl rfl rfl rfl (yAd rfl (yQ (pw_seq (pw_region (yMd rfl (yB rfl rfl rfl rfl (yQ (q_then ?_))))))))); rw [t1]; rw [hw]; rw [t2]; refine pw_ct rfl (pw_region (yMd rfl (yMd rfl (yNc rfl (ySz rfl rfl (yMd rfl (yAz (by omega) Tryz.underlying3 rfl rfl h0 (by omega) (by omega) rfl (yMd rfl (yNl rfl ?_))))))))); refine yDb (by omega) (by omega) rfl rfl (yAw rfl (yQ ?_)); refine pw_tkz 0 22 (41 * 100000 + 4) 4 rfl rfl rfl rfl rfl ?_; refine pw_seq (pw_region (yMt rfl (yAt rfl (yQ (pw_ret ?_)))))
    exact q_own rfl rfl
set_option maxRecDepth 20000 in
set_option maxHeartbeats 1000000 in
theorem wConcatB (css : List (List Bk)) (hl : css.length ≤ 1000) (ht : (css.flatten).length ≤ 1000000) : PCalls Tryz.prog 24 [.sl 1 (css.map fun c => [.sl 4 (c.map dBk)])] (.d (.sl 4 (css.flatten.map dBk))) := by
  refine pcalls_of_pw Tryz.func24 rfl Tryz.ntmps24 Tryz.results24 (by simp) fun B w0 => ?_
  refine pw_seq (pw_region (yAd rfl (yQ (pw_seq (pw_region (yAd rfl (yQ (pw_seq (pw_seq ?_))))))))); refine pw_region (yMd rfl (yN rfl (yMd rfl (yQ (pw_block ?_))))); refine pw_loop (fun k : Nat => ⟨36, [(0, .d (.sl 1 (css.map fun c => [.sl 4 (c.map dBk)]))), (9, .d (.sl 1 (css.map fun c => [.sl 4 (c.map dBk)]))), (10, .d (dI css.length)), (11, .d (dI k)), (3, .d (dI (tot css k)))], [], []⟩) (fun k => k ≤ css.length) (fun k => css.length - k) 0 (Nat.zero_le _) ⟨rfl, ⟨.refl _, .refl _, .of_eq ?_, .refl _, .refl _, trivial⟩, trivial, trivial, rfl⟩ ?_
  · exact congrArg (fun n : Nat => SV.d (dI n)) (by simp)
  intro k hk
  refine pw_seq (pw_region (yB rfl rfl rfl rfl (yQ (pw_seq ?_)))); refine pw_cond rfl (fun h => ?_) (fun h => ?_)
  · simp at h
    obtain ⟨c, gk⟩ : ∃ c, css[k]? = some c := ⟨_, List.getElem?_eq_getElem h⟩
    have ek := ix (fun c => [.sl 4 (c.map dBk)]) css k k c rfl gk
    have hts := tot_succ gk
    have htl := tot_le css (k + 1)
    have hw1 := wrapI ((k : Int) + 1) (by omega)
    have hw2 : IntKind.i64.wrap ((tot css k : Int) + ((c.map dBk).length : Int)) = (tot css (k + 1) : Int) := by rw [List.length_map, wrapI _ (by omega)]; omega
    have h0 : decide ((tot css (k + 1) : Int) < 0) = false := decide_eq_false (by omega)
    refine pw_skip (pw_seq (pw_block (pw_seq (pw_region (yW ek (by omega) rfl rfl (yLr rfl rfl (yAd rfl (yQ (pw_seq ?_))))))))); refine pw_region (yMd rfl (yMd rfl (yN rfl (yB rfl rfl rfl rfl (yAd rfl (yQ (pw_seq (pw_region (yMd rfl ?_))))))))); refine yB rfl rfl rfl rfl (yQ (q_then ?_)); rw [hw2]; refine pw_cf rfl (pw_skip (pw_region (yB rfl rfl rfl rfl (yMd rfl (yQ (q_then ?_)))))); rw [h0]
    refine ⟨k + 1, by omega, by omega, rfl, ⟨.refl _, .refl _, .refl _, .of_eq (congrArg (fun n => SV.d (dI n)) hw1), .refl _, trivial⟩, trivial, trivial, rfl⟩
  · simp at h
    obtain rfl : k = css.length := by omega
    have ht2 : tot css css.length = css.flatten.length := by rw [tot, List.take_length]
    have c1 := wGrowB (tot css css.length) (by omega)
    refine pw_exit (pw_seq (pw_region (yMd rfl (yCo (t := 41 * 100000 + 6) c1 rfl rfl rfl rfl (yAt rfl (yQ (pw_seq (pw_seq (pw_region ?_))))))))); refine yMd rfl (yN rfl (yMd rfl (yQ (pw_block ?_)))); refine pw_loop (fun k : Nat => ⟨36, [(25, .d (.sl 1 (css.map fun c => [.sl 4 (c.map dBk)]))), (26, .d (dI css.length)), (27, .d (dI k)), (6, .ts (41 * 100000 + 6) 4 (((css.take k).flatten).map dBk))], [], [(41 * 100000 + 6, (((css.take k).flatten).map dBk).length)]⟩) (fun k => k ≤ css.length) (fun k => css.length - k) 0 (Nat.zero_le _) ⟨rfl, ⟨.refl _, .of_eq ?_, .refl _, .refl _, trivial⟩, trivial, ⟨rfl, trivial⟩, rfl⟩ ?_
    · exact congrArg (fun n : Nat => SV.d (dI n)) (by simp)
    intro k hk
    refine pw_seq (pw_region (yB rfl rfl rfl rfl (yQ (pw_seq ?_)))); refine pw_cond rfl (fun h => ?_) (fun h => ?_)
    · simp at h
      obtain ⟨c, gk⟩ : ∃ c, css[k]? = some c := ⟨_, List.getElem?_eq_getElem h⟩
      have ek := ix (fun c => [.sl 4 (c.map dBk)]) css k k c rfl gk
      have hts := tot_succ gk
      have htl := tot_le css (k + 1)
      have hw1 := wrapI ((k : Int) + 1) (by omega)
      have hfl : (css.take (k + 1)).flatten = (css.take k).flatten ++ c := by rw [List.take_add_one, gk]; simp
      have hln : ((css.take k).flatten).length = tot css k := rfl
      obtain ⟨zs, hz⟩ : ∃ zs, zs = (css.take k).flatten := ⟨_, rfl⟩
      rw [← hz] at hfl hln ⊢
      refine pw_skip (pw_seq (pw_block (pw_seq (pw_region (yW ek (by omega) rfl rfl (yLr rfl rfl (yAd rfl (yQ (pw_region ?_))))))))); refine yMt rfl (yMd rfl (yT (es' := (zs ++ c).map dBk) (m := ((zs ++ c).map dBk).length) (by simp; omega) (by simp; omega) rfl rfl rfl rfl rfl (by simp) (by simp) (yAt rfl (yQ (pw_region (yB rfl rfl rfl rfl (yMd rfl (yQ (q_then ?_)))))))))
      refine ⟨k + 1, by omega, by omega, rfl, ⟨.refl _, .refl _, .of_eq (congrArg (fun n => SV.d (dI n)) hw1), .of_eq ?_, trivial⟩, trivial, ⟨?_, trivial⟩, rfl⟩
      · rw [hfl]; rfl
      · rw [hfl]; rfl
    · simp at h
      obtain rfl : k = css.length := by omega
      rw [List.take_length]
      refine pw_exit (pw_seq (pw_region (yMt rfl (yAt rfl (yQ (pw_ret ?_))))))
      exact q_ret _ (.tmp rfl .nil) rfl

end Go.Proofs.YtdkpmnefoobipaaGreatDoor
set_option maxHeartbeats 1000000
namespace Go.Proofs.YtdkpmnefoobipaaGreatDoor
open Go.RowKit Px

def hbr (n : Str) (a b : Option Str) : List Bk := match b with
  | none => [(1, n, a.getD [], [])]
  | some r => match a with
    | none => [(2, n, [], r)]
    | some q => if q == r then [] else [(3, n, q, r)]
def hdN (h1 h2 : List Hd) (l : List Str) : Nat → List Bk
  | 0 => []
  | i + 1 => match l[i]? with
    | none => hdN h1 h2 l i
    | some n => hdN h1 h2 l i ++ hbr n (hld n h1) (hld n h2)
def nms (h1 h2 : List Hd) : List Str := uniS ((h1 ++ h2).map (·.1))
def hdB (h1 h2 : List Hd) : List Bk := hdN h1 h2 (nms h1 h2) (nms h1 h2).length
theorem hbr_len (n : Str) (a b : Option Str) : (hbr n a b).length ≤ 1 := by
  unfold hbr
  split
  · simp
  · split
    · simp
    · split <;> simp
theorem hdN_len (h1 h2 : List Hd) (l : List Str) (i : Nat) : (hdN h1 h2 l i).length ≤ i := by
  induction i with
  | zero => exact Nat.le_refl _
  | succ i ih =>
    unfold hdN
    split
    · omega
    · rename_i n _
      have := hbr_len n (hld n h1) (hld n h2)
      rw [List.length_append]
      omega
theorem hdN_eq (h1 h2 : List Hd) (l : List Str) (i : Nat) : hdN h1 h2 l i = (l.take i).flatMap fun n => hbr n (hld n h1) (hld n h2) := by
  induction i with
  | zero => simp [hdN]
  | succ i ih =>
    unfold hdN
    cases e : l[i]? with
    | none =>
      have h := List.getElem?_eq_none_iff.1 e
      simp only
      rw [ih, List.take_of_length_le (by omega), List.take_of_length_le (by omega)]
    | some n =>
      simp only
      rw [ih, List.take_add_one, e, Option.toList_some, List.flatMap_append]
      simp
theorem hdB_eq (h1 h2 : List Hd) : hdB h1 h2 = (nms h1 h2).flatMap fun n => hbr n (hld n h1) (hld n h2) := by
  rw [hdB, hdN_eq, List.take_length]
theorem nms_mem {h1 h2 : List Hd} {n : Str} : n ∈ nms h1 h2 ↔ n ∈ h1.map (·.1) ∨ n ∈ h2.map (·.1) := by
  rw [nms, (uniS_spec _).2, List.map_append, List.mem_append]
theorem nms_len (h1 h2 : List Hd) : (nms h1 h2).length ≤ h1.length + h2.length := by
  have := uniS_length ((h1 ++ h2).map (·.1))
  rw [List.length_map, List.length_append] at this
  exact this
theorem hld_some {n : Str} {hs : List Hd} (h : n ∈ hs.map (·.1)) : ∃ q, hld n hs = some q := by
  induction hs with
  | nil => cases h
  | cons x hs ih =>
    unfold hld
    split
    · exact ⟨_, rfl⟩
    · rename_i e
      rw [List.map_cons, List.mem_cons] at h
      rcases h with h | h
      · rw [h] at e; simp at e
      · exact ih h
theorem nms_held {h1 h2 : List Hd} {n : Str} (h : n ∈ nms h1 h2) : ¬ (hld n h1 = none ∧ hld n h2 = none) := by
  rintro ⟨h3, h4⟩
  rcases nms_mem.1 h with h5 | h5
  · obtain ⟨q, h6⟩ := hld_some h5; rw [h6] at h3; cases h3
  · obtain ⟨q, h6⟩ := hld_some h5; rw [h6] at h4; cases h4
theorem hdB_len (h1 h2 : List Hd) : (hdB h1 h2).length ≤ h1.length + h2.length := Nat.le_trans (hdN_len h1 h2 _ _) (nms_len h1 h2)
def swpB (x : Bk) : Bk := (if x.1 = 1 then 2 else if x.1 = 2 then 1 else x.1, x.2.1, x.2.2.2, x.2.2.1)
theorem foldl_ins (l : List Str) : ∀ r : List Str, ascS r → ascS (l.foldl (fun out x => insS x out) r) ∧ ∀ x, x ∈ l.foldl (fun out x => insS x out) r ↔ x ∈ r ∨ x ∈ l := by
  induction l with
  | nil => intro r h; exact ⟨h, fun x => by simp⟩
  | cons y l ih =>
    intro r h
    obtain ⟨h1, h2⟩ := ih (insS y r) (insS_asc h)
    refine ⟨h1, fun x => ?_⟩
    rw [List.foldl_cons, h2, insS_mem, List.mem_cons]
    constructor
    · rintro ((h | h) | h) <;> simp [h]
    · rintro (h | h | h) <;> simp [h]
theorem foldl_uni (l : List Str) : l.foldl (fun out x => insS x out) [] = uniS l := by
  obtain ⟨h1, h2⟩ := foldl_ins l [] trivial
  exact uniS_of h1 fun x => by rw [h2]; simp
def ltN (x : Str) : List Str → Nat
  | [] => 0
  | y :: l => if ltS y x then ltN x l + 1 else 0
theorem ltN_le (x : Str) (l : List Str) : ltN x l ≤ l.length := by
  induction l with
  | nil => exact Nat.le_refl _
  | cons y l ih => unfold ltN; split <;> simp; omega
theorem ltN_lt {x : Str} {l : List Str} {i : Nat} {y : Str} (h : i < ltN x l) (hy : l[i]? = some y) : ltS y x = true := by
  induction l generalizing i with
  | nil => cases hy
  | cons z l ih =>
    unfold ltN at h
    split at h
    · rename_i hz
      cases i with
      | zero => cases hy; exact hz
      | succ i => exact ih (by omega) hy
    · omega
theorem ltN_at {x : Str} {l : List Str} {y : Str} (hy : l[ltN x l]? = some y) : ltS y x = false := by
  induction l with
  | nil => cases hy
  | cons z l ih =>
    unfold ltN at hy
    split at hy
    · exact ih hy
    · rename_i hz; cases hy; simpa using hz
theorem insS_ltN (x : Str) (l : List Str) : insS x l = if l[ltN x l]? = some x then l else l.take (ltN x l) ++ (x :: l.drop (ltN x l)) := by
  induction l with
  | nil => rfl
  | cons y l ih =>
    unfold insS ltN
    by_cases h : ltS y x = true
    · rw [if_pos h, if_pos h, ih]
      simp only [List.getElem?_cons_succ, List.take_succ_cons, List.drop_succ_cons]
      split <;> simp
    · rw [if_neg h, if_neg h]
      simp only [List.getElem?_cons_zero, Option.some.injEq, List.take_zero, List.drop_zero, List.nil_append]
end Go.Proofs.YtdkpmnefoobipaaGreatDoor
set_option maxHeartbeats 1000000
namespace Go.Proofs.YtdkpmnefoobipaaGreatDoor
open Go.RowKit Px

structure GoodP (s : PT) : Prop where
  tk : ∀ (i k : Nat), s.1[i]?.getD none = some k → tkn s.2 k = true
  inj : ∀ (i j k : Nat), s.1[i]?.getD none = some k → s.1[j]?.getD none = some k → i = j
def canP (days : Int) (x y : Mv) : Prop := x.2.2.1 = y.2.2.1 ∧ (x.1 = y.1 ∨ (x.2.2.2.1 = y.2.2.2.1 ∧ x.2.2.2.2 = y.2.2.2.2 ∧ apt x.2.1 y.2.1 ≤ days))
end Go.Proofs.YtdkpmnefoobipaaGreatDoor
set_option maxHeartbeats 1000000
namespace Go.Proofs.YtdkpmnefoobipaaGreatDoor
open Go.RowKit Px

end Go.Proofs.YtdkpmnefoobipaaGreatDoor
set_option maxHeartbeats 1000000
namespace Go.Proofs.YtdkpmnefoobipaaGreatDoor
open Go.RowKit Px

section
variable {ms : List Mv} {k : Nat} {x : Mv}
def outS (k i : Nat) : Option Nat := if i < k then some i else if i = k then none else some (i - 1)
def inS (k i : Nat) : Option Nat := some (if i < k then i else i + 1)
end
end Go.Proofs.YtdkpmnefoobipaaGreatDoor
set_option maxHeartbeats 1000000
namespace Go.Proofs.YtdkpmnefoobipaaGreatDoor.Px
open Go.RowKit

theorem wp_q {P : Program} {o : Oper} {a : Act} {w : World} {K K' : Act → World → Prop} {Q Q' : Exit → Act → World → Prop} (h : ∀ a w, K a w → K' a w) (hq : ∀ e a w, e ≠ .normal → Q e a w → Q' e a w) (hh : o.wp P a w K Q) : o.wp P a w K' Q' := by
  have hl : LetsOut Q → LetsOut Q' := fun ⟨a, w, h⟩ => ⟨a, w, hq _ _ _ (by simp) h⟩
  unfold Oper.wp at *
  generalize (execOp a.eval o).run P w = r at *
  cases r with
  | ok n w' =>
    cases n <;> simp only [Oper.upon] at hh ⊢ <;>
      first
        | exact h _ _ hh
        | exact Calls.mono hh (fun e w'' he => by cases e <;> first | exact h _ _ he | exact hl he | exact hq _ _ _ (by simp) he)
        | exact Rows.mono hh (fun _ _ he => h _ _ he)
  | halt x w' => cases x <;> simp only [Oper.upon] at hh ⊢ <;> first | exact hq _ _ _ (by simp) hh | exact hh
def allR : List Nat → (Nat → Prop) → Prop
  | [], _ => True
  | i :: l, p => p i ∧ allR l p
theorem allR_mem {l : List Nat} {p : Nat → Prop} (h : allR l p) {i : Nat} (hi : i ∈ l) : p i := by
  induction l with
  | nil => cases hi
  | cons j l ih =>
    rcases List.mem_cons.1 hi with rfl | hi
    · exact h.1
    · exact ih h.2 hi
def gt (dflt : Bool) : List Bool → Nat → Bool
  | [], _ => dflt
  | b :: _, 0 => b
  | _ :: l, n + 1 => gt dflt l n
theorem gt_eq (dflt : Bool) (l : List Bool) (n : Nat) : l.toArray.getD n dflt = gt dflt l n := by
  induction l generalizing n with
  | nil => simp [gt, Array.getD]
  | cons b l ih =>
    cases n with
    | zero => simp [gt, Array.getD]
    | succ n => simpa [gt, Array.getD] using ih n
def rdy (listed : List Bool) : Nat → List Oper → List Nat
  | _, [] => []
  | k, o :: l => bif !(gt true listed k) && o.after.toList.all (fun e => !Region.binds .any e || gt false listed e.on) then k :: rdy listed (k + 1) l else rdy listed (k + 1) l
theorem mem_rdy {listed : List Bool} {l : List Oper} {k j : Nat} : j ∈ rdy listed k l ↔ k ≤ j ∧ gt true listed j = false ∧ ∃ o, l[j - k]? = some o ∧ ∀ e ∈ o.after, Region.binds .any e = true → gt false listed e.on = true := by
  induction l generalizing k with
  | nil => simp [rdy]
  | cons o l ih =>
    have hc : (!(gt true listed k) && o.after.toList.all (fun e => !Region.binds .any e || gt false listed e.on)) = true ↔ gt true listed k = false ∧ ∀ e ∈ o.after, Region.binds .any e = true → gt false listed e.on = true := by
      rw [Bool.and_eq_true, Bool.not_eq_true', List.all_eq_true]
      refine and_congr Iff.rfl ⟨fun h e he hb => ?_, fun h e he => ?_⟩
      · have := h e (Array.mem_toList_iff.2 he)
        rw [hb] at this
        simpa using this
      · have := h e (Array.mem_toList_iff.1 he)
        cases hb : Region.binds .any e with
        | false => rfl
        | true => rw [this hb]; rfl
    unfold rdy
    have tail : (j ∈ rdy listed (k + 1) l) ↔ k + 1 ≤ j ∧ gt true listed j = false ∧ ∃ o', (o :: l)[j - k]? = some o' ∧ ∀ e ∈ o'.after, Region.binds .any e = true → gt false listed e.on = true := by
      rw [ih]
      refine and_congr_right fun h => ?_
      rw [show j - k = (j - (k + 1)) + 1 by omega, List.getElem?_cons_succ]
    cases hb : (!(gt true listed k) && o.after.toList.all (fun e => !Region.binds .any e || gt false listed e.on)) with
    | true =>
      rw [cond_true, List.mem_cons, tail]
      obtain ⟨h1, h2⟩ := hc.1 hb
      constructor
      · rintro (rfl | ⟨h3, h4⟩)
        · exact ⟨Nat.le_refl _, h1, o, by simp, h2⟩
        · exact ⟨by omega, h4⟩
      · rintro ⟨h3, h4⟩
        by_cases e : j = k
        · exact .inl e
        · exact .inr ⟨by omega, h4⟩
    | false =>
      rw [cond_false, tail]
      constructor
      · rintro ⟨h3, h4⟩; exact ⟨by omega, h4⟩
      · rintro ⟨h3, h4, o', h5, h6⟩
        by_cases e : j = k
        · subst e
          simp only [Nat.sub_self, List.getElem?_cons_zero, Option.some.injEq] at h5
          subst h5
          rw [hc.2 ⟨h4, h6⟩] at hb
          cases hb
        · exact ⟨by omega, h4, o', h5, h6⟩
theorem rdy_ready {listed : List Bool} {l : List Oper} {j : Nat} : j ∈ Region.ready .any l.toArray listed.toArray ↔ j ∈ rdy listed 0 l := by
  rw [mem_ready, mem_rdy, gt_eq]
  simp only [Nat.zero_le, true_and, Nat.sub_zero, List.getElem?_toArray, gt_eq]
section
variable {P : Program} {B : Nat} {w0 : Cx} {l : List Oper} {J st : PS}
def PA (P : Program) (B : Nat) (w0 : Cx) (l : List Oper) (J : PS) (fuel : Nat) (listed : List Bool) (st : PS) : Prop :=
  ∀ (Q : Exit → PS → Prop), (∀ s, Le s J → Q .normal s) → (∀ c s, ¬ Q (.panic c) s) → ∀ g a w, Rep B w0 g st a w → wpAny P .any l.toArray (Post B w0 Q) fuel listed.toArray a w
theorem pa_fin {fuel : Nat} {listed : List Bool} (hr0 : rdy listed 0 l = []) (hl : Le st J) : PA P B w0 l J fuel listed st := fun Q hQ hp0 g a w h => by
  have hp : Post B w0 Q .normal a w := ⟨g, st, h, hQ st hl⟩
  have hr : Region.ready .any l.toArray listed.toArray = [] := by
    rw [List.eq_nil_iff_forall_not_mem]
    intro j hj
    rw [rdy_ready, hr0] at hj
    cases hj
  cases fuel with
  | zero => exact ⟨hr, hp⟩
  | succ n => exact ⟨fun _ => hp, fun i hi => by rw [hr] at hi; cases hi⟩
theorem pa_step {fuel : Nat} {listed : List Bool} (rs : List Nat) (hr : rdy listed 0 l = rs) (hne : rs.isEmpty = false) (h : allR rs fun i => ∃ o, l[i]? = some o ∧ YR P true l.toArray (PA P B w0 l J fuel (listed.set i true)) [o] st) : PA P B w0 l J (fuel + 1) listed st := fun Q hQ hp0 g a w hrep => by
  refine ⟨fun he => ?_, fun i hi => ?_⟩
  · exfalso
    cases rs with
    | nil => cases hne
    | cons j rs =>
      have hj : j ∈ Region.ready .any l.toArray listed.toArray := rdy_ready.2 (by rw [hr]; simp)
      rw [he] at hj
      cases hj
  · rw [rdy_ready, hr] at hi
    obtain ⟨o, ho, hy⟩ := allR_mem h hi
    have hs := hy.sound (B := B) (w0 := w0) (Q := QThen (fun s => PA P B w0 l J fuel (listed.set i true) s) Q) (fun s hk => hk) hrep
    have hset : (listed.toArray.setIfInBounds i true) = (listed.set i true).toArray := by simp
    have hk : ∀ a w, Post B w0 (QThen (fun s => PA P B w0 l J fuel (listed.set i true) s) Q) .normal a w → wpAny P .any l.toArray (Post B w0 Q) fuel (listed.toArray.setIfInBounds i true) a w := by
      rintro a w ⟨g, s, h1, h2⟩
      rw [hset]
      exact h2 Q hQ hp0 g a w h1
    have hq : ∀ e a w, e ≠ .normal → Post B w0 (QThen (fun s => PA P B w0 l J fuel (listed.set i true) s) Q) e a w → Post B w0 Q e a w := by
      rintro e a w he ⟨g, s, h1, h2⟩
      refine ⟨g, s, h1, ?_⟩
      cases e <;> first | exact absurd rfl he | exact h2
    unfold wpOp
    rw [show l.toArray[i]? = some o by simpa using ho]
    simp only
    unfold wpList at hs
    split
    · rename_i hw
      rw [if_pos hw] at hs
      rcases hs with hs | ⟨hs, a', w', hl⟩
      · exact .inl (wp_q hk hq hs)
      · exact .inr ⟨hs, a', w', hq _ _ _ (by simp) hl⟩
    · rename_i hw
      rw [if_neg hw] at hs
      exact hk _ _ hs
def Pure (P : Program) (o : Oper) (st : PS) (x : SV) : Prop :=
  dstOk o st = true ∧ o.guard = none ∧ ∀ B w0 g a w, Rep B w0 g st a w → ∃ v, (∀ w', (execOp a.eval o).run P w' = .ok (.value v) w') ∧ SRep g w v x
def noSel (l : List Oper) : Bool := l.all fun o => match o.op with | .select .. => false | _ => true
def apartB (l : List Oper) (listed : List Bool) (i : Nat) (oi : Oper) : Bool := allIx (fun j oj => Nat.beq j i || gt true listed j || oj.after.toList.any (fun e => Region.binds .any e && Nat.beq e.on i) || oi.apart l.toArray oj) 0 l
theorem pw_any {Q : Exit → PS → Prop} {y : Code} {id : Nat} (J : PS) (hm : P.follows .mixedOrders = true) (h : PA P B w0 l J l.length (List.replicate l.length false) st) (hj : PW P B w0 y Q J) (hp : ∀ c s, ¬ Q (.panic c) s := by exact fun _ _ h => h) : PW P B w0 (.region id l.toArray true) (QThen (PW P B w0 y Q) Q) st := fun g a w hr => by
  have hw : Rep B w0 g st a { w with drawn := w.drawn + 1 } := hr.grow ⟨rfl, rfl, rfl, Nat.le_refl _, fun _ _ => rfl⟩
  have := h (QThen (PW P B w0 y Q) Q) (fun s hs => pw_le hs hj) (fun c s => hp c s) g a _ hw
  refine wp_region_any hm ?_
  have e : (List.replicate l.length false).toArray = Array.replicate l.toArray.size false := by simp
  rw [e] at this
  simpa using this
end
section
variable {P : Program} {sq : Bool} {ops : Array Oper} {K : PS → Prop} {rest : List Oper} {st : PS} {d : Option Nat} {op : Op} {ty : TypeId} {pos : String} {af : Array Edge} {gd : Option (Nat × Bool)} {q : Nat × Bool}
end
end Go.Proofs.YtdkpmnefoobipaaGreatDoor.Px
namespace Go.Proofs.YtdkpmnefoobipaaGreatDoor
open Go.RowKit Px

set_option maxRecDepth 20000 in
theorem wRHeld (s : Stm) (hl : s.hs.length ≤ 1000) (n : Str) : PCalls Tryz.prog 79 [.agg (dSt s), dS n] (.tup [dS ((hld n s.hs).getD []), dB (hld n s.hs).isSome]) := by
  obtain ⟨d, hs, ms⟩ := s
  simp only at hl ⊢
  obtain ⟨r, hr⟩ : ∃ r, r = hld n hs := ⟨_, rfl⟩
  rw [← hr]
  refine pcalls_of_pw Tryz.func79 rfl Tryz.ntmps79 Tryz.results79 (by simp) fun B w0 => ?_
  refine pw_seq (pw_region (yK (cs := [_, _, _]) rfl rfl (yAd rfl (yAd rfl (yQ (pw_seq (pw_seq (pw_region (yAd rfl ?_))))))))); refine yQ (pw_block ?_); refine pw_loop (fun i : Nat => ⟨28, [(1, .d (dS n)), (2, .bx 2 0), (6, .d (dI i))], [(2, [.d (dI d), .d (.sl 2 (hs.map dH)), .d (.sl 5 (ms.map dM))])], []⟩) (fun i => i ≤ hs.length ∧ hld n (hs.drop i) = r) (fun i => hs.length - i) 0 ⟨Nat.zero_le _, hr.symm⟩ ⟨rfl, ⟨.refl _, .refl _, .refl _, trivial⟩, ⟨⟨_, rfl, .refl _, .refl _, .refl _, trivial⟩, trivial⟩, trivial, rfl⟩ ?_
  rintro i ⟨hi, h0⟩
  refine pw_seq (pw_seq (pw_region (yMd rfl (yFb rfl (yLd rfl rfl rfl (yN rfl (yB rfl rfl rfl rfl (yQ (q_then ?_))))))))); refine pw_cond rfl (fun h => ?_) (fun h => ?_)
  · simp at h
    obtain ⟨⟨x, y⟩, hx⟩ : ∃ a, hs[i]? = some a := ⟨_, List.getElem?_eq_getElem h⟩
    have ei := ix dH hs i i (x, y) rfl hx
    have hw := wrapI ((i : Int) + 1) (by omega)
    rw [drop_cons hx] at h0
    unfold hld at h0
    simp only at h0
    cases t1 : (x == n) with
    | true =>
      rw [t1, if_pos rfl] at h0
      subst h0
      refine pw_skip (pw_seq (pw_block (pw_seq (pw_region (yFb rfl (yLd rfl rfl rfl (yMd rfl (yW ei (by omega) rfl rfl (yFr rfl rfl ?_))))))))); refine yLr rfl rfl (yMd rfl (yBse rfl rfl (yQ (q_then ?_)))); rw [t1]; refine pw_ct rfl (pw_seq (pw_region (yFb rfl (yLd rfl rfl rfl (yMd rfl (yW ei (by omega) rfl rfl (yFr rfl rfl (yLr rfl rfl (yAd rfl ?_))))))))); refine yAd rfl (yQ (pw_ret (q_blk_ret (q_then_ret (q_then_ret (q_blk_ret (q_then_ret ?_)))))))
      exact q_ret _ (.tmp rfl (.tmp rfl .nil)) rfl
    | false =>
      rw [t1, if_neg (by simp)] at h0
      refine pw_skip (pw_seq (pw_block (pw_seq (pw_region (yFb rfl (yLd rfl rfl rfl (yMd rfl (yW ei (by omega) rfl rfl (yFr rfl rfl ?_))))))))); refine yLr rfl rfl (yMd rfl (yBse rfl rfl (yQ (q_then ?_)))); rw [t1]; refine pw_cf rfl (pw_skip (pw_region (yMd rfl (yB rfl rfl rfl rfl (yAd rfl (yQ (q_then ?_)))))))
      refine ⟨i + 1, ⟨by omega, h0⟩, by omega, rfl, ⟨.refl _, .refl _, .of_eq (congrArg (fun n => SV.d (dI n)) hw), trivial⟩, ⟨⟨_, rfl, .refl _, .refl _, .refl _, trivial⟩, trivial⟩, trivial, rfl⟩
  · simp at h
    rw [List.drop_of_length_le (by omega)] at h0
    subst h0
    refine pw_exit (pw_seq (pw_region (yAd rfl (yAd rfl (yQ (pw_ret ?_))))))
    exact q_ret _ (.tmp rfl (.tmp rfl .nil)) rfl

def nmN (l : List Hd) (i : Nat) : List Str := ((l.take i).map (·.1)).foldl (fun out x => insS x out) []
theorem nmN_next {l : List Hd} {i : Nat} {x : Hd} (h : l[i]? = some x) : nmN l (i + 1) = insS x.1 (nmN l i) := by
  unfold nmN
  rw [List.take_add_one, h]
  simp
theorem nmN_len (l : List Hd) (i : Nat) : (nmN l i).length ≤ i := by
  induction i with
  | zero => simp [nmN]
  | succ i ih =>
    cases h : l[i]? with
    | none =>
      have := List.getElem?_eq_none_iff.1 h
      have e : nmN l (i + 1) = nmN l i := by unfold nmN; rw [List.take_of_length_le (by omega), List.take_of_length_le (by omega)]
      rw [e]; omega
    | some x =>
      rw [nmN_next h]
      have := insS_length x.1 (nmN l i)
      omega
theorem nmN_end (h1 h2 : List Hd) : nmN (h1 ++ h2) (h1 ++ h2).length = nms h1 h2 := by
  unfold nmN nms
  rw [List.take_length, foldl_uni]
abbrev hdT : Nat := 55 * 100000 + 9
set_option maxRecDepth 20000 in
set_option maxHeartbeats 4000000 in
theorem wNames (s t : Stm) (hs : s.hs.length ≤ 1000) (ht : t.hs.length ≤ 1000) : PCalls Tryz.prog 78 [.agg (dSt s), .agg (dSt t)] (.d (dCs (nms s.hs t.hs))) := by
  obtain ⟨d1, h1, ms⟩ := s
  obtain ⟨d2, h2, ts⟩ := t
  simp only at hs ht ⊢
  rw [← nmN_end]
  refine pcalls_of_pw Tryz.func78 rfl Tryz.ntmps78 Tryz.results78 (by simp) fun B w0 => ?_
  refine pw_seq (pw_region (yK (cs := [_, _, _]) rfl rfl (yK (cs := [_, _, _]) rfl rfl (yAd rfl (yQ (pw_seq ?_)))))); refine pw_any ⟨73, [(5, .d (.sl 2 (h1.map dH ++ h2.map dH)))], [], []⟩ Tryz.mixed ?_ ?_; refine pa_step [_, _, _] rfl rfl ⟨⟨_, rfl, ?_⟩, ⟨_, rfl, ?_⟩, ⟨_, rfl, ?_⟩, trivial⟩
  refine yRt (E := 55) (t := hdT) (es := []) rfl rfl rfl rfl rfl rfl rfl rfl (yQ ?_); refine pa_step [_, _] rfl rfl ⟨⟨_, rfl, ?_⟩, ⟨_, rfl, ?_⟩, trivial⟩; refine yFb rfl (yQ ?_)
  refine pa_step [_, _] rfl rfl ⟨⟨_, rfl, ?_⟩, ⟨_, rfl, ?_⟩, trivial⟩; refine yLd rfl rfl rfl (yQ ?_); refine pa_step [_, _] rfl rfl ⟨⟨_, rfl, ?_⟩, ⟨_, rfl, ?_⟩, trivial⟩
  refine yT (by simp; omega) (by simp; omega) rfl rfl rfl rfl rfl rfl List.length_append.symm (yQ ?_); refine pa_step [_] rfl rfl ⟨⟨_, rfl, ?_⟩, trivial⟩; refine yFb rfl (yQ ?_)
  refine pa_step [_] rfl rfl ⟨⟨_, rfl, ?_⟩, trivial⟩; refine yLd rfl rfl rfl (yQ ?_); refine pa_step [_] rfl rfl ⟨⟨_, rfl, ?_⟩, trivial⟩
  refine yT (by simp; omega) (by simp; omega) rfl rfl rfl rfl rfl rfl List.length_append.symm (yQ ?_); refine pa_step [_] rfl rfl ⟨⟨_, rfl, ?_⟩, trivial⟩; refine yAt rfl (yQ ?_)
  refine pa_fin rfl ⟨rfl, ⟨.tok _ _ _, trivial⟩, trivial, trivial, rfl⟩; refine yFb rfl (yQ ?_); refine pa_step [_, _] rfl rfl ⟨⟨_, rfl, ?_⟩, ⟨_, rfl, ?_⟩, trivial⟩
  refine yT (by simp; omega) (by simp; omega) rfl rfl rfl rfl rfl rfl List.length_append.symm (yQ ?_); refine pa_step [_] rfl rfl ⟨⟨_, rfl, ?_⟩, trivial⟩; refine yLd rfl rfl rfl (yQ ?_)
  refine pa_step [_] rfl rfl ⟨⟨_, rfl, ?_⟩, trivial⟩; refine yT (by simp; omega) (by simp; omega) rfl rfl rfl rfl rfl rfl List.length_append.symm (yQ ?_); refine pa_step [_] rfl rfl ⟨⟨_, rfl, ?_⟩, trivial⟩; refine yAt rfl ?_
  refine yQ ?_; refine pa_fin rfl ⟨rfl, ⟨.tok _ _ _, trivial⟩, trivial, trivial, rfl⟩; refine yLd rfl rfl rfl (yQ ?_); refine pa_step [_] rfl rfl ⟨⟨_, rfl, ?_⟩, trivial⟩
  refine yT (by simp; omega) (by simp; omega) rfl rfl rfl rfl rfl rfl List.length_append.symm (yQ ?_); refine pa_step [_] rfl rfl ⟨⟨_, rfl, ?_⟩, trivial⟩
  refine yT (by simp; omega) (by simp; omega) rfl rfl rfl rfl rfl rfl List.length_append.symm (yQ ?_); refine pa_step [_] rfl rfl ⟨⟨_, rfl, ?_⟩, trivial⟩; refine yAt rfl (yQ ?_)
  refine pa_fin rfl ⟨rfl, ⟨.tok _ _ _, trivial⟩, trivial, trivial, rfl⟩; refine yFb rfl (yQ ?_); refine pa_step [_, _] rfl rfl ⟨⟨_, rfl, ?_⟩, ⟨_, rfl, ?_⟩, trivial⟩; refine yLd rfl rfl rfl (yQ ?_)
  refine pa_step [_, _] rfl rfl ⟨⟨_, rfl, ?_⟩, ⟨_, rfl, ?_⟩, trivial⟩; refine yT (by simp; omega) (by simp; omega) rfl rfl rfl rfl rfl rfl List.length_append.symm (yQ ?_); refine pa_step [_] rfl rfl ⟨⟨_, rfl, ?_⟩, trivial⟩
  refine yLd rfl rfl rfl (yQ ?_); refine pa_step [_] rfl rfl ⟨⟨_, rfl, ?_⟩, trivial⟩; refine yT (by simp; omega) (by simp; omega) rfl rfl rfl rfl rfl rfl List.length_append.symm (yQ ?_)
  refine pa_step [_] rfl rfl ⟨⟨_, rfl, ?_⟩, trivial⟩; refine yAt rfl (yQ ?_); refine pa_fin rfl ⟨rfl, ⟨.tok _ _ _, trivial⟩, trivial, trivial, rfl⟩; refine yLd rfl rfl rfl (yQ ?_)
  refine pa_step [_] rfl rfl ⟨⟨_, rfl, ?_⟩, trivial⟩; refine yT (by simp; omega) (by simp; omega) rfl rfl rfl rfl rfl rfl List.length_append.symm (yQ ?_); refine pa_step [_] rfl rfl ⟨⟨_, rfl, ?_⟩, trivial⟩
  refine yT (by simp; omega) (by simp; omega) rfl rfl rfl rfl rfl rfl List.length_append.symm (yQ ?_); refine pa_step [_] rfl rfl ⟨⟨_, rfl, ?_⟩, trivial⟩; refine yAt rfl (yQ ?_)
  refine pa_fin rfl ⟨rfl, ⟨.tok _ _ _, trivial⟩, trivial, trivial, rfl⟩; refine yLd rfl rfl rfl (yQ ?_); refine pa_step [_] rfl rfl ⟨⟨_, rfl, ?_⟩, trivial⟩; refine yLd rfl rfl rfl (yQ ?_)
  refine pa_step [_] rfl rfl ⟨⟨_, rfl, ?_⟩, trivial⟩; refine yT (by simp; omega) (by simp; omega) rfl rfl rfl rfl rfl rfl List.length_append.symm (yQ ?_); refine pa_step [_] rfl rfl ⟨⟨_, rfl, ?_⟩, trivial⟩
  refine yT (by simp; omega) (by simp; omega) rfl rfl rfl rfl rfl rfl List.length_append.symm (yQ ?_); refine pa_step [_] rfl rfl ⟨⟨_, rfl, ?_⟩, trivial⟩; refine yAt rfl (yQ ?_)
  refine pa_fin rfl ⟨rfl, ⟨.tok _ _ _, trivial⟩, trivial, trivial, rfl⟩; refine yFb rfl (yQ ?_); refine pa_step [_, _] rfl rfl ⟨⟨_, rfl, ?_⟩, ⟨_, rfl, ?_⟩, trivial⟩; refine yFb rfl (yQ ?_)
  refine pa_step [_, _] rfl rfl ⟨⟨_, rfl, ?_⟩, ⟨_, rfl, ?_⟩, trivial⟩; refine yLd rfl rfl rfl (yQ ?_); refine pa_step [_, _] rfl rfl ⟨⟨_, rfl, ?_⟩, ⟨_, rfl, ?_⟩, trivial⟩
  refine yT (by simp; omega) (by simp; omega) rfl rfl rfl rfl rfl rfl List.length_append.symm (yQ ?_); refine pa_step [_] rfl rfl ⟨⟨_, rfl, ?_⟩, trivial⟩; refine yLd rfl rfl rfl (yQ ?_)
  refine pa_step [_] rfl rfl ⟨⟨_, rfl, ?_⟩, trivial⟩; refine yT (by simp; omega) (by simp; omega) rfl rfl rfl rfl rfl rfl List.length_append.symm (yQ ?_); refine pa_step [_] rfl rfl ⟨⟨_, rfl, ?_⟩, trivial⟩; refine yAt rfl ?_
  refine yQ ?_; refine pa_fin rfl ⟨rfl, ⟨.tok _ _ _, trivial⟩, trivial, trivial, rfl⟩; refine yLd rfl rfl rfl (yQ ?_); refine pa_step [_] rfl rfl ⟨⟨_, rfl, ?_⟩, trivial⟩
  refine yT (by simp; omega) (by simp; omega) rfl rfl rfl rfl rfl rfl List.length_append.symm (yQ ?_); refine pa_step [_] rfl rfl ⟨⟨_, rfl, ?_⟩, trivial⟩
  refine yT (by simp; omega) (by simp; omega) rfl rfl rfl rfl rfl rfl List.length_append.symm (yQ ?_); refine pa_step [_] rfl rfl ⟨⟨_, rfl, ?_⟩, trivial⟩; refine yAt rfl (yQ ?_)
  refine pa_fin rfl ⟨rfl, ⟨.tok _ _ _, trivial⟩, trivial, trivial, rfl⟩; refine yLd rfl rfl rfl (yQ ?_); refine pa_step [_] rfl rfl ⟨⟨_, rfl, ?_⟩, trivial⟩; refine yLd rfl rfl rfl (yQ ?_)
  refine pa_step [_] rfl rfl ⟨⟨_, rfl, ?_⟩, trivial⟩; refine yT (by simp; omega) (by simp; omega) rfl rfl rfl rfl rfl rfl List.length_append.symm (yQ ?_); refine pa_step [_] rfl rfl ⟨⟨_, rfl, ?_⟩, trivial⟩
  refine yT (by simp; omega) (by simp; omega) rfl rfl rfl rfl rfl rfl List.length_append.symm (yQ ?_); refine pa_step [_] rfl rfl ⟨⟨_, rfl, ?_⟩, trivial⟩; refine yAt rfl (yQ ?_)
  refine pa_fin rfl ⟨rfl, ⟨.tok _ _ _, trivial⟩, trivial, trivial, rfl⟩; refine yLd rfl rfl rfl (yQ ?_); refine pa_step [_] rfl rfl ⟨⟨_, rfl, ?_⟩, trivial⟩; refine yFb rfl (yQ ?_)
  refine pa_step [_] rfl rfl ⟨⟨_, rfl, ?_⟩, trivial⟩; refine yLd rfl rfl rfl (yQ ?_); refine pa_step [_] rfl rfl ⟨⟨_, rfl, ?_⟩, trivial⟩
  refine yT (by simp; omega) (by simp; omega) rfl rfl rfl rfl rfl rfl List.length_append.symm (yQ ?_); refine pa_step [_] rfl rfl ⟨⟨_, rfl, ?_⟩, trivial⟩
  refine yT (by simp; omega) (by simp; omega) rfl rfl rfl rfl rfl rfl List.length_append.symm (yQ ?_); refine pa_step [_] rfl rfl ⟨⟨_, rfl, ?_⟩, trivial⟩; refine yAt rfl (yQ ?_)
  refine pa_fin rfl ⟨rfl, ⟨.tok _ _ _, trivial⟩, trivial, trivial, rfl⟩; refine yFb rfl (yQ ?_); refine pa_step [_, _, _] rfl rfl ⟨⟨_, rfl, ?_⟩, ⟨_, rfl, ?_⟩, ⟨_, rfl, ?_⟩, trivial⟩
  refine yRt (E := 55) (t := hdT) (es := []) rfl rfl rfl rfl rfl rfl rfl rfl (yQ ?_); refine pa_step [_, _] rfl rfl ⟨⟨_, rfl, ?_⟩, ⟨_, rfl, ?_⟩, trivial⟩; refine yLd rfl rfl rfl (yQ ?_)
  refine pa_step [_, _] rfl rfl ⟨⟨_, rfl, ?_⟩, ⟨_, rfl, ?_⟩, trivial⟩; refine yT (by simp; omega) (by simp; omega) rfl rfl rfl rfl rfl rfl List.length_append.symm (yQ ?_); refine pa_step [_] rfl rfl ⟨⟨_, rfl, ?_⟩, trivial⟩
  refine yFb rfl (yQ ?_); refine pa_step [_] rfl rfl ⟨⟨_, rfl, ?_⟩, trivial⟩; refine yLd rfl rfl rfl (yQ ?_); refine pa_step [_] rfl rfl ⟨⟨_, rfl, ?_⟩, trivial⟩
  refine yT (by simp; omega) (by simp; omega) rfl rfl rfl rfl rfl rfl List.length_append.symm (yQ ?_); refine pa_step [_] rfl rfl ⟨⟨_, rfl, ?_⟩, trivial⟩; refine yAt rfl (yQ ?_)
  refine pa_fin rfl ⟨rfl, ⟨.tok _ _ _, trivial⟩, trivial, trivial, rfl⟩; refine yFb rfl (yQ ?_); refine pa_step [_, _] rfl rfl ⟨⟨_, rfl, ?_⟩, ⟨_, rfl, ?_⟩, trivial⟩
  refine yT (by simp; omega) (by simp; omega) rfl rfl rfl rfl rfl rfl List.length_append.symm (yQ ?_); refine pa_step [_] rfl rfl ⟨⟨_, rfl, ?_⟩, trivial⟩; refine yLd rfl rfl rfl (yQ ?_)
  refine pa_step [_] rfl rfl ⟨⟨_, rfl, ?_⟩, trivial⟩; refine yT (by simp; omega) (by simp; omega) rfl rfl rfl rfl rfl rfl List.length_append.symm (yQ ?_); refine pa_step [_] rfl rfl ⟨⟨_, rfl, ?_⟩, trivial⟩; refine yAt rfl ?_
  refine yQ ?_; refine pa_fin rfl ⟨rfl, ⟨.tok _ _ _, trivial⟩, trivial, trivial, rfl⟩; refine yLd rfl rfl rfl (yQ ?_); refine pa_step [_] rfl rfl ⟨⟨_, rfl, ?_⟩, trivial⟩
  refine yT (by simp; omega) (by simp; omega) rfl rfl rfl rfl rfl rfl List.length_append.symm (yQ ?_); refine pa_step [_] rfl rfl ⟨⟨_, rfl, ?_⟩, trivial⟩
  refine yT (by simp; omega) (by simp; omega) rfl rfl rfl rfl rfl rfl List.length_append.symm (yQ ?_); refine pa_step [_] rfl rfl ⟨⟨_, rfl, ?_⟩, trivial⟩; refine yAt rfl (yQ ?_)
  refine pa_fin rfl ⟨rfl, ⟨.tok _ _ _, trivial⟩, trivial, trivial, rfl⟩; refine yFb rfl (yQ ?_); refine pa_step [_, _] rfl rfl ⟨⟨_, rfl, ?_⟩, ⟨_, rfl, ?_⟩, trivial⟩; refine yLd rfl rfl rfl (yQ ?_)
  refine pa_step [_, _] rfl rfl ⟨⟨_, rfl, ?_⟩, ⟨_, rfl, ?_⟩, trivial⟩; refine yT (by simp; omega) (by simp; omega) rfl rfl rfl rfl rfl rfl List.length_append.symm (yQ ?_); refine pa_step [_] rfl rfl ⟨⟨_, rfl, ?_⟩, trivial⟩
  refine yLd rfl rfl rfl (yQ ?_); refine pa_step [_] rfl rfl ⟨⟨_, rfl, ?_⟩, trivial⟩; refine yT (by simp; omega) (by simp; omega) rfl rfl rfl rfl rfl rfl List.length_append.symm (yQ ?_)
  refine pa_step [_] rfl rfl ⟨⟨_, rfl, ?_⟩, trivial⟩; refine yAt rfl (yQ ?_); refine pa_fin rfl ⟨rfl, ⟨.tok _ _ _, trivial⟩, trivial, trivial, rfl⟩; refine yLd rfl rfl rfl (yQ ?_)
  refine pa_step [_] rfl rfl ⟨⟨_, rfl, ?_⟩, trivial⟩; refine yT (by simp; omega) (by simp; omega) rfl rfl rfl rfl rfl rfl List.length_append.symm (yQ ?_); refine pa_step [_] rfl rfl ⟨⟨_, rfl, ?_⟩, trivial⟩
  refine yT (by simp; omega) (by simp; omega) rfl rfl rfl rfl rfl rfl List.length_append.symm (yQ ?_); refine pa_step [_] rfl rfl ⟨⟨_, rfl, ?_⟩, trivial⟩; refine yAt rfl (yQ ?_)
  refine pa_fin rfl ⟨rfl, ⟨.tok _ _ _, trivial⟩, trivial, trivial, rfl⟩; refine yLd rfl rfl rfl (yQ ?_); refine pa_step [_] rfl rfl ⟨⟨_, rfl, ?_⟩, trivial⟩; refine yLd rfl rfl rfl (yQ ?_)
  refine pa_step [_] rfl rfl ⟨⟨_, rfl, ?_⟩, trivial⟩; refine yT (by simp; omega) (by simp; omega) rfl rfl rfl rfl rfl rfl List.length_append.symm (yQ ?_); refine pa_step [_] rfl rfl ⟨⟨_, rfl, ?_⟩, trivial⟩
  refine yT (by simp; omega) (by simp; omega) rfl rfl rfl rfl rfl rfl List.length_append.symm (yQ ?_); refine pa_step [_] rfl rfl ⟨⟨_, rfl, ?_⟩, trivial⟩; refine yAt rfl (yQ ?_)
  refine pa_fin rfl ⟨rfl, ⟨.tok _ _ _, trivial⟩, trivial, trivial, rfl⟩; refine yLd rfl rfl rfl (yQ ?_); refine pa_step [_, _] rfl rfl ⟨⟨_, rfl, ?_⟩, ⟨_, rfl, ?_⟩, trivial⟩
  refine yRt (E := 55) (t := hdT) (es := []) rfl rfl rfl rfl rfl rfl rfl rfl (yQ ?_); refine pa_step [_, _] rfl rfl ⟨⟨_, rfl, ?_⟩, ⟨_, rfl, ?_⟩, trivial⟩
  refine yT (by simp; omega) (by simp; omega) rfl rfl rfl rfl rfl rfl List.length_append.symm (yQ ?_); refine pa_step [_] rfl rfl ⟨⟨_, rfl, ?_⟩, trivial⟩; refine yFb rfl (yQ ?_)
  refine pa_step [_] rfl rfl ⟨⟨_, rfl, ?_⟩, trivial⟩; refine yLd rfl rfl rfl (yQ ?_); refine pa_step [_] rfl rfl ⟨⟨_, rfl, ?_⟩, trivial⟩
  refine yT (by simp; omega) (by simp; omega) rfl rfl rfl rfl rfl rfl List.length_append.symm (yQ ?_); refine pa_step [_] rfl rfl ⟨⟨_, rfl, ?_⟩, trivial⟩; refine yAt rfl (yQ ?_)
  refine pa_fin rfl ⟨rfl, ⟨.tok _ _ _, trivial⟩, trivial, trivial, rfl⟩; refine yFb rfl (yQ ?_); refine pa_step [_, _] rfl rfl ⟨⟨_, rfl, ?_⟩, ⟨_, rfl, ?_⟩, trivial⟩
  refine yT (by simp; omega) (by simp; omega) rfl rfl rfl rfl rfl rfl List.length_append.symm (yQ ?_); refine pa_step [_] rfl rfl ⟨⟨_, rfl, ?_⟩, trivial⟩; refine yLd rfl rfl rfl (yQ ?_)
  refine pa_step [_] rfl rfl ⟨⟨_, rfl, ?_⟩, trivial⟩; refine yT (by simp; omega) (by simp; omega) rfl rfl rfl rfl rfl rfl List.length_append.symm (yQ ?_); refine pa_step [_] rfl rfl ⟨⟨_, rfl, ?_⟩, trivial⟩; refine yAt rfl ?_
  refine yQ ?_; refine pa_fin rfl ⟨rfl, ⟨.tok _ _ _, trivial⟩, trivial, trivial, rfl⟩; refine yLd rfl rfl rfl (yQ ?_); refine pa_step [_] rfl rfl ⟨⟨_, rfl, ?_⟩, trivial⟩
  refine yT (by simp; omega) (by simp; omega) rfl rfl rfl rfl rfl rfl List.length_append.symm (yQ ?_); refine pa_step [_] rfl rfl ⟨⟨_, rfl, ?_⟩, trivial⟩
  refine yT (by simp; omega) (by simp; omega) rfl rfl rfl rfl rfl rfl List.length_append.symm (yQ ?_); refine pa_step [_] rfl rfl ⟨⟨_, rfl, ?_⟩, trivial⟩; refine yAt rfl (yQ ?_)
  refine pa_fin rfl ⟨rfl, ⟨.tok _ _ _, trivial⟩, trivial, trivial, rfl⟩; refine yFb rfl (yQ ?_); refine pa_step [_, _] rfl rfl ⟨⟨_, rfl, ?_⟩, ⟨_, rfl, ?_⟩, trivial⟩
  refine yRt (E := 55) (t := hdT) (es := []) rfl rfl rfl rfl rfl rfl rfl rfl (yQ ?_); refine pa_step [_, _] rfl rfl ⟨⟨_, rfl, ?_⟩, ⟨_, rfl, ?_⟩, trivial⟩
  refine yT (by simp; omega) (by simp; omega) rfl rfl rfl rfl rfl rfl List.length_append.symm (yQ ?_); refine pa_step [_] rfl rfl ⟨⟨_, rfl, ?_⟩, trivial⟩; refine yLd rfl rfl rfl (yQ ?_)
  refine pa_step [_] rfl rfl ⟨⟨_, rfl, ?_⟩, trivial⟩; refine yT (by simp; omega) (by simp; omega) rfl rfl rfl rfl rfl rfl List.length_append.symm (yQ ?_); refine pa_step [_] rfl rfl ⟨⟨_, rfl, ?_⟩, trivial⟩; refine yAt rfl ?_
  refine yQ ?_; refine pa_fin rfl ⟨rfl, ⟨.tok _ _ _, trivial⟩, trivial, trivial, rfl⟩; refine yLd rfl rfl rfl (yQ ?_); refine pa_step [_] rfl rfl ⟨⟨_, rfl, ?_⟩, trivial⟩
  refine yT (by simp; omega) (by simp; omega) rfl rfl rfl rfl rfl rfl List.length_append.symm (yQ ?_); refine pa_step [_] rfl rfl ⟨⟨_, rfl, ?_⟩, trivial⟩
  refine yT (by simp; omega) (by simp; omega) rfl rfl rfl rfl rfl rfl List.length_append.symm (yQ ?_); refine pa_step [_] rfl rfl ⟨⟨_, rfl, ?_⟩, trivial⟩; refine yAt rfl (yQ ?_)
  refine pa_fin rfl ⟨rfl, ⟨.tok _ _ _, trivial⟩, trivial, trivial, rfl⟩; refine yLd rfl rfl rfl (yQ ?_); refine pa_step [_] rfl rfl ⟨⟨_, rfl, ?_⟩, trivial⟩
  refine yRt (E := 55) (t := hdT) (es := []) rfl rfl rfl rfl rfl rfl rfl rfl (yQ ?_); refine pa_step [_] rfl rfl ⟨⟨_, rfl, ?_⟩, trivial⟩
  refine yT (by simp; omega) (by simp; omega) rfl rfl rfl rfl rfl rfl List.length_append.symm (yQ ?_); refine pa_step [_] rfl rfl ⟨⟨_, rfl, ?_⟩, trivial⟩
  refine yT (by simp; omega) (by simp; omega) rfl rfl rfl rfl rfl rfl List.length_append.symm (yQ ?_); refine pa_step [_] rfl rfl ⟨⟨_, rfl, ?_⟩, trivial⟩; refine yAt rfl (yQ ?_)
  refine pa_fin rfl ⟨rfl, ⟨.tok _ _ _, trivial⟩, trivial, trivial, rfl⟩; refine yFb rfl (yQ ?_); refine pa_step [_, _, _] rfl rfl ⟨⟨_, rfl, ?_⟩, ⟨_, rfl, ?_⟩, ⟨_, rfl, ?_⟩, trivial⟩
  refine yRt (E := 55) (t := hdT) (es := []) rfl rfl rfl rfl rfl rfl rfl rfl (yQ ?_); refine pa_step [_, _] rfl rfl ⟨⟨_, rfl, ?_⟩, ⟨_, rfl, ?_⟩, trivial⟩; refine yLd rfl rfl rfl (yQ ?_)
  refine pa_step [_, _] rfl rfl ⟨⟨_, rfl, ?_⟩, ⟨_, rfl, ?_⟩, trivial⟩; refine yT (by simp; omega) (by simp; omega) rfl rfl rfl rfl rfl rfl List.length_append.symm (yQ ?_); refine pa_step [_] rfl rfl ⟨⟨_, rfl, ?_⟩, trivial⟩
  refine yLd rfl rfl rfl (yQ ?_); refine pa_step [_] rfl rfl ⟨⟨_, rfl, ?_⟩, trivial⟩; refine yT (by simp; omega) (by simp; omega) rfl rfl rfl rfl rfl rfl List.length_append.symm (yQ ?_)
  refine pa_step [_] rfl rfl ⟨⟨_, rfl, ?_⟩, trivial⟩; refine yAt rfl (yQ ?_); refine pa_fin rfl ⟨rfl, ⟨.tok _ _ _, trivial⟩, trivial, trivial, rfl⟩; refine yLd rfl rfl rfl (yQ ?_)
  refine pa_step [_] rfl rfl ⟨⟨_, rfl, ?_⟩, trivial⟩; refine yT (by simp; omega) (by simp; omega) rfl rfl rfl rfl rfl rfl List.length_append.symm (yQ ?_); refine pa_step [_] rfl rfl ⟨⟨_, rfl, ?_⟩, trivial⟩
  refine yT (by simp; omega) (by simp; omega) rfl rfl rfl rfl rfl rfl List.length_append.symm (yQ ?_); refine pa_step [_] rfl rfl ⟨⟨_, rfl, ?_⟩, trivial⟩; refine yAt rfl (yQ ?_)
  refine pa_fin rfl ⟨rfl, ⟨.tok _ _ _, trivial⟩, trivial, trivial, rfl⟩; refine yLd rfl rfl rfl (yQ ?_); refine pa_step [_] rfl rfl ⟨⟨_, rfl, ?_⟩, trivial⟩; refine yLd rfl rfl rfl (yQ ?_)
  refine pa_step [_] rfl rfl ⟨⟨_, rfl, ?_⟩, trivial⟩; refine yT (by simp; omega) (by simp; omega) rfl rfl rfl rfl rfl rfl List.length_append.symm (yQ ?_); refine pa_step [_] rfl rfl ⟨⟨_, rfl, ?_⟩, trivial⟩
  refine yT (by simp; omega) (by simp; omega) rfl rfl rfl rfl rfl rfl List.length_append.symm (yQ ?_); refine pa_step [_] rfl rfl ⟨⟨_, rfl, ?_⟩, trivial⟩; refine yAt rfl (yQ ?_)
  refine pa_fin rfl ⟨rfl, ⟨.tok _ _ _, trivial⟩, trivial, trivial, rfl⟩; refine yLd rfl rfl rfl (yQ ?_); refine pa_step [_, _] rfl rfl ⟨⟨_, rfl, ?_⟩, ⟨_, rfl, ?_⟩, trivial⟩
  refine yRt (E := 55) (t := hdT) (es := []) rfl rfl rfl rfl rfl rfl rfl rfl (yQ ?_); refine pa_step [_, _] rfl rfl ⟨⟨_, rfl, ?_⟩, ⟨_, rfl, ?_⟩, trivial⟩
  refine yT (by simp; omega) (by simp; omega) rfl rfl rfl rfl rfl rfl List.length_append.symm (yQ ?_); refine pa_step [_] rfl rfl ⟨⟨_, rfl, ?_⟩, trivial⟩; refine yLd rfl rfl rfl (yQ ?_)
  refine pa_step [_] rfl rfl ⟨⟨_, rfl, ?_⟩, trivial⟩; refine yT (by simp; omega) (by simp; omega) rfl rfl rfl rfl rfl rfl List.length_append.symm (yQ ?_); refine pa_step [_] rfl rfl ⟨⟨_, rfl, ?_⟩, trivial⟩; refine yAt rfl ?_
  refine yQ ?_; refine pa_fin rfl ⟨rfl, ⟨.tok _ _ _, trivial⟩, trivial, trivial, rfl⟩; refine yLd rfl rfl rfl (yQ ?_); refine pa_step [_] rfl rfl ⟨⟨_, rfl, ?_⟩, trivial⟩
  refine yT (by simp; omega) (by simp; omega) rfl rfl rfl rfl rfl rfl List.length_append.symm (yQ ?_); refine pa_step [_] rfl rfl ⟨⟨_, rfl, ?_⟩, trivial⟩
  refine yT (by simp; omega) (by simp; omega) rfl rfl rfl rfl rfl rfl List.length_append.symm (yQ ?_); refine pa_step [_] rfl rfl ⟨⟨_, rfl, ?_⟩, trivial⟩; refine yAt rfl (yQ ?_)
  refine pa_fin rfl ⟨rfl, ⟨.tok _ _ _, trivial⟩, trivial, trivial, rfl⟩; refine yLd rfl rfl rfl (yQ ?_); refine pa_step [_] rfl rfl ⟨⟨_, rfl, ?_⟩, trivial⟩
  refine yRt (E := 55) (t := hdT) (es := []) rfl rfl rfl rfl rfl rfl rfl rfl (yQ ?_); refine pa_step [_] rfl rfl ⟨⟨_, rfl, ?_⟩, trivial⟩
  refine yT (by simp; omega) (by simp; omega) rfl rfl rfl rfl rfl rfl List.length_append.symm (yQ ?_); refine pa_step [_] rfl rfl ⟨⟨_, rfl, ?_⟩, trivial⟩
  refine yT (by simp; omega) (by simp; omega) rfl rfl rfl rfl rfl rfl List.length_append.symm (yQ ?_); refine pa_step [_] rfl rfl ⟨⟨_, rfl, ?_⟩, trivial⟩; refine yAt rfl (yQ ?_)
  refine pa_fin rfl ⟨rfl, ⟨.tok _ _ _, trivial⟩, trivial, trivial, rfl⟩; refine yLd rfl rfl rfl (yQ ?_); refine pa_step [_, _] rfl rfl ⟨⟨_, rfl, ?_⟩, ⟨_, rfl, ?_⟩, trivial⟩
  refine yRt (E := 55) (t := hdT) (es := []) rfl rfl rfl rfl rfl rfl rfl rfl (yQ ?_); refine pa_step [_] rfl rfl ⟨⟨_, rfl, ?_⟩, trivial⟩; refine yLd rfl rfl rfl (yQ ?_)
  refine pa_step [_] rfl rfl ⟨⟨_, rfl, ?_⟩, trivial⟩; refine yT (by simp; omega) (by simp; omega) rfl rfl rfl rfl rfl rfl List.length_append.symm (yQ ?_); refine pa_step [_] rfl rfl ⟨⟨_, rfl, ?_⟩, trivial⟩
  refine yT (by simp; omega) (by simp; omega) rfl rfl rfl rfl rfl rfl List.length_append.symm (yQ ?_); refine pa_step [_] rfl rfl ⟨⟨_, rfl, ?_⟩, trivial⟩; refine yAt rfl (yQ ?_)
  refine pa_fin rfl ⟨rfl, ⟨.tok _ _ _, trivial⟩, trivial, trivial, rfl⟩; refine yLd rfl rfl rfl (yQ ?_); refine pa_step [_] rfl rfl ⟨⟨_, rfl, ?_⟩, trivial⟩
  refine yRt (E := 55) (t := hdT) (es := []) rfl rfl rfl rfl rfl rfl rfl rfl (yQ ?_); refine pa_step [_] rfl rfl ⟨⟨_, rfl, ?_⟩, trivial⟩
  refine yT (by simp; omega) (by simp; omega) rfl rfl rfl rfl rfl rfl List.length_append.symm (yQ ?_); refine pa_step [_] rfl rfl ⟨⟨_, rfl, ?_⟩, trivial⟩
  refine yT (by simp; omega) (by simp; omega) rfl rfl rfl rfl rfl rfl List.length_append.symm (yQ ?_); refine pa_step [_] rfl rfl ⟨⟨_, rfl, ?_⟩, trivial⟩; refine yAt rfl (yQ ?_)
  refine pa_fin rfl ⟨rfl, ⟨.tok _ _ _, trivial⟩, trivial, trivial, rfl⟩; refine yFb rfl (yQ ?_); refine pa_step [_, _, _] rfl rfl ⟨⟨_, rfl, ?_⟩, ⟨_, rfl, ?_⟩, ⟨_, rfl, ?_⟩, trivial⟩
  refine yRt (E := 55) (t := hdT) (es := []) rfl rfl rfl rfl rfl rfl rfl rfl (yQ ?_); refine pa_step [_, _] rfl rfl ⟨⟨_, rfl, ?_⟩, ⟨_, rfl, ?_⟩, trivial⟩; refine yFb rfl (yQ ?_)
  refine pa_step [_, _] rfl rfl ⟨⟨_, rfl, ?_⟩, ⟨_, rfl, ?_⟩, trivial⟩; refine yLd rfl rfl rfl (yQ ?_); refine pa_step [_, _] rfl rfl ⟨⟨_, rfl, ?_⟩, ⟨_, rfl, ?_⟩, trivial⟩
  refine yT (by simp; omega) (by simp; omega) rfl rfl rfl rfl rfl rfl List.length_append.symm (yQ ?_); refine pa_step [_] rfl rfl ⟨⟨_, rfl, ?_⟩, trivial⟩; refine yLd rfl rfl rfl (yQ ?_)
  refine pa_step [_] rfl rfl ⟨⟨_, rfl, ?_⟩, trivial⟩; refine yT (by simp; omega) (by simp; omega) rfl rfl rfl rfl rfl rfl List.length_append.symm (yQ ?_); refine pa_step [_] rfl rfl ⟨⟨_, rfl, ?_⟩, trivial⟩; refine yAt rfl ?_
  refine yQ ?_; refine pa_fin rfl ⟨rfl, ⟨.tok _ _ _, trivial⟩, trivial, trivial, rfl⟩; refine yLd rfl rfl rfl (yQ ?_); refine pa_step [_] rfl rfl ⟨⟨_, rfl, ?_⟩, trivial⟩
  refine yT (by simp; omega) (by simp; omega) rfl rfl rfl rfl rfl rfl List.length_append.symm (yQ ?_); refine pa_step [_] rfl rfl ⟨⟨_, rfl, ?_⟩, trivial⟩
  refine yT (by simp; omega) (by simp; omega) rfl rfl rfl rfl rfl rfl List.length_append.symm (yQ ?_); refine pa_step [_] rfl rfl ⟨⟨_, rfl, ?_⟩, trivial⟩; refine yAt rfl (yQ ?_)
  refine pa_fin rfl ⟨rfl, ⟨.tok _ _ _, trivial⟩, trivial, trivial, rfl⟩; refine yLd rfl rfl rfl (yQ ?_); refine pa_step [_] rfl rfl ⟨⟨_, rfl, ?_⟩, trivial⟩; refine yLd rfl rfl rfl (yQ ?_)
  refine pa_step [_] rfl rfl ⟨⟨_, rfl, ?_⟩, trivial⟩; refine yT (by simp; omega) (by simp; omega) rfl rfl rfl rfl rfl rfl List.length_append.symm (yQ ?_); refine pa_step [_] rfl rfl ⟨⟨_, rfl, ?_⟩, trivial⟩
  refine yT (by simp; omega) (by simp; omega) rfl rfl rfl rfl rfl rfl List.length_append.symm (yQ ?_); refine pa_step [_] rfl rfl ⟨⟨_, rfl, ?_⟩, trivial⟩; refine yAt rfl (yQ ?_)
  refine pa_fin rfl ⟨rfl, ⟨.tok _ _ _, trivial⟩, trivial, trivial, rfl⟩; refine yLd rfl rfl rfl (yQ ?_); refine pa_step [_] rfl rfl ⟨⟨_, rfl, ?_⟩, trivial⟩; refine yFb rfl (yQ ?_)
  refine pa_step [_] rfl rfl ⟨⟨_, rfl, ?_⟩, trivial⟩; refine yLd rfl rfl rfl (yQ ?_); refine pa_step [_] rfl rfl ⟨⟨_, rfl, ?_⟩, trivial⟩
  refine yT (by simp; omega) (by simp; omega) rfl rfl rfl rfl rfl rfl List.length_append.symm (yQ ?_); refine pa_step [_] rfl rfl ⟨⟨_, rfl, ?_⟩, trivial⟩
  refine yT (by simp; omega) (by simp; omega) rfl rfl rfl rfl rfl rfl List.length_append.symm (yQ ?_); refine pa_step [_] rfl rfl ⟨⟨_, rfl, ?_⟩, trivial⟩; refine yAt rfl (yQ ?_)
  refine pa_fin rfl ⟨rfl, ⟨.tok _ _ _, trivial⟩, trivial, trivial, rfl⟩; refine yFb rfl (yQ ?_); refine pa_step [_, _, _] rfl rfl ⟨⟨_, rfl, ?_⟩, ⟨_, rfl, ?_⟩, ⟨_, rfl, ?_⟩, trivial⟩
  refine yRt (E := 55) (t := hdT) (es := []) rfl rfl rfl rfl rfl rfl rfl rfl (yQ ?_); refine pa_step [_, _] rfl rfl ⟨⟨_, rfl, ?_⟩, ⟨_, rfl, ?_⟩, trivial⟩; refine yLd rfl rfl rfl (yQ ?_)
  refine pa_step [_, _] rfl rfl ⟨⟨_, rfl, ?_⟩, ⟨_, rfl, ?_⟩, trivial⟩; refine yT (by simp; omega) (by simp; omega) rfl rfl rfl rfl rfl rfl List.length_append.symm (yQ ?_); refine pa_step [_] rfl rfl ⟨⟨_, rfl, ?_⟩, trivial⟩
  refine yLd rfl rfl rfl (yQ ?_); refine pa_step [_] rfl rfl ⟨⟨_, rfl, ?_⟩, trivial⟩; refine yT (by simp; omega) (by simp; omega) rfl rfl rfl rfl rfl rfl List.length_append.symm (yQ ?_)
  refine pa_step [_] rfl rfl ⟨⟨_, rfl, ?_⟩, trivial⟩; refine yAt rfl (yQ ?_); refine pa_fin rfl ⟨rfl, ⟨.tok _ _ _, trivial⟩, trivial, trivial, rfl⟩; refine yLd rfl rfl rfl (yQ ?_)
  refine pa_step [_] rfl rfl ⟨⟨_, rfl, ?_⟩, trivial⟩; refine yT (by simp; omega) (by simp; omega) rfl rfl rfl rfl rfl rfl List.length_append.symm (yQ ?_); refine pa_step [_] rfl rfl ⟨⟨_, rfl, ?_⟩, trivial⟩
  refine yT (by simp; omega) (by simp; omega) rfl rfl rfl rfl rfl rfl List.length_append.symm (yQ ?_); refine pa_step [_] rfl rfl ⟨⟨_, rfl, ?_⟩, trivial⟩; refine yAt rfl (yQ ?_)
  refine pa_fin rfl ⟨rfl, ⟨.tok _ _ _, trivial⟩, trivial, trivial, rfl⟩; refine yLd rfl rfl rfl (yQ ?_); refine pa_step [_] rfl rfl ⟨⟨_, rfl, ?_⟩, trivial⟩; refine yLd rfl rfl rfl (yQ ?_)
  refine pa_step [_] rfl rfl ⟨⟨_, rfl, ?_⟩, trivial⟩; refine yT (by simp; omega) (by simp; omega) rfl rfl rfl rfl rfl rfl List.length_append.symm (yQ ?_); refine pa_step [_] rfl rfl ⟨⟨_, rfl, ?_⟩, trivial⟩
  refine yT (by simp; omega) (by simp; omega) rfl rfl rfl rfl rfl rfl List.length_append.symm (yQ ?_); refine pa_step [_] rfl rfl ⟨⟨_, rfl, ?_⟩, trivial⟩; refine yAt rfl (yQ ?_)
  refine pa_fin rfl ⟨rfl, ⟨.tok _ _ _, trivial⟩, trivial, trivial, rfl⟩; refine yLd rfl rfl rfl (yQ ?_); refine pa_step [_, _] rfl rfl ⟨⟨_, rfl, ?_⟩, ⟨_, rfl, ?_⟩, trivial⟩
  refine yRt (E := 55) (t := hdT) (es := []) rfl rfl rfl rfl rfl rfl rfl rfl (yQ ?_); refine pa_step [_, _] rfl rfl ⟨⟨_, rfl, ?_⟩, ⟨_, rfl, ?_⟩, trivial⟩
  refine yT (by simp; omega) (by simp; omega) rfl rfl rfl rfl rfl rfl List.length_append.symm (yQ ?_); refine pa_step [_] rfl rfl ⟨⟨_, rfl, ?_⟩, trivial⟩; refine yLd rfl rfl rfl (yQ ?_)
  refine pa_step [_] rfl rfl ⟨⟨_, rfl, ?_⟩, trivial⟩; refine yT (by simp; omega) (by simp; omega) rfl rfl rfl rfl rfl rfl List.length_append.symm (yQ ?_); refine pa_step [_] rfl rfl ⟨⟨_, rfl, ?_⟩, trivial⟩; refine yAt rfl ?_
  refine yQ ?_; refine pa_fin rfl ⟨rfl, ⟨.tok _ _ _, trivial⟩, trivial, trivial, rfl⟩; refine yLd rfl rfl rfl (yQ ?_); refine pa_step [_] rfl rfl ⟨⟨_, rfl, ?_⟩, trivial⟩
  refine yT (by simp; omega) (by simp; omega) rfl rfl rfl rfl rfl rfl List.length_append.symm (yQ ?_); refine pa_step [_] rfl rfl ⟨⟨_, rfl, ?_⟩, trivial⟩
  refine yT (by simp; omega) (by simp; omega) rfl rfl rfl rfl rfl rfl List.length_append.symm (yQ ?_); refine pa_step [_] rfl rfl ⟨⟨_, rfl, ?_⟩, trivial⟩; refine yAt rfl (yQ ?_)
  refine pa_fin rfl ⟨rfl, ⟨.tok _ _ _, trivial⟩, trivial, trivial, rfl⟩; refine yLd rfl rfl rfl (yQ ?_); refine pa_step [_] rfl rfl ⟨⟨_, rfl, ?_⟩, trivial⟩
  refine yRt (E := 55) (t := hdT) (es := []) rfl rfl rfl rfl rfl rfl rfl rfl (yQ ?_); refine pa_step [_] rfl rfl ⟨⟨_, rfl, ?_⟩, trivial⟩
  refine yT (by simp; omega) (by simp; omega) rfl rfl rfl rfl rfl rfl List.length_append.symm (yQ ?_); refine pa_step [_] rfl rfl ⟨⟨_, rfl, ?_⟩, trivial⟩
  refine yT (by simp; omega) (by simp; omega) rfl rfl rfl rfl rfl rfl List.length_append.symm (yQ ?_); refine pa_step [_] rfl rfl ⟨⟨_, rfl, ?_⟩, trivial⟩; refine yAt rfl (yQ ?_)
  refine pa_fin rfl ⟨rfl, ⟨.tok _ _ _, trivial⟩, trivial, trivial, rfl⟩; refine yLd rfl rfl rfl (yQ ?_); refine pa_step [_, _] rfl rfl ⟨⟨_, rfl, ?_⟩, ⟨_, rfl, ?_⟩, trivial⟩
  refine yRt (E := 55) (t := hdT) (es := []) rfl rfl rfl rfl rfl rfl rfl rfl (yQ ?_); refine pa_step [_] rfl rfl ⟨⟨_, rfl, ?_⟩, trivial⟩; refine yLd rfl rfl rfl (yQ ?_)
  refine pa_step [_] rfl rfl ⟨⟨_, rfl, ?_⟩, trivial⟩; refine yT (by simp; omega) (by simp; omega) rfl rfl rfl rfl rfl rfl List.length_append.symm (yQ ?_); refine pa_step [_] rfl rfl ⟨⟨_, rfl, ?_⟩, trivial⟩
  refine yT (by simp; omega) (by simp; omega) rfl rfl rfl rfl rfl rfl List.length_append.symm (yQ ?_); refine pa_step [_] rfl rfl ⟨⟨_, rfl, ?_⟩, trivial⟩; refine yAt rfl (yQ ?_)
  refine pa_fin rfl ⟨rfl, ⟨.tok _ _ _, trivial⟩, trivial, trivial, rfl⟩; refine yLd rfl rfl rfl (yQ ?_); refine pa_step [_] rfl rfl ⟨⟨_, rfl, ?_⟩, trivial⟩
  refine yRt (E := 55) (t := hdT) (es := []) rfl rfl rfl rfl rfl rfl rfl rfl (yQ ?_); refine pa_step [_] rfl rfl ⟨⟨_, rfl, ?_⟩, trivial⟩
  refine yT (by simp; omega) (by simp; omega) rfl rfl rfl rfl rfl rfl List.length_append.symm (yQ ?_); refine pa_step [_] rfl rfl ⟨⟨_, rfl, ?_⟩, trivial⟩
  refine yT (by simp; omega) (by simp; omega) rfl rfl rfl rfl rfl rfl List.length_append.symm (yQ ?_); refine pa_step [_] rfl rfl ⟨⟨_, rfl, ?_⟩, trivial⟩; refine yAt rfl (yQ ?_)
  refine pa_fin rfl ⟨rfl, ⟨.tok _ _ _, trivial⟩, trivial, trivial, rfl⟩; refine yLd rfl rfl rfl (yQ ?_); refine pa_step [_, _] rfl rfl ⟨⟨_, rfl, ?_⟩, ⟨_, rfl, ?_⟩, trivial⟩
  refine yRt (E := 55) (t := hdT) (es := []) rfl rfl rfl rfl rfl rfl rfl rfl (yQ ?_); refine pa_step [_] rfl rfl ⟨⟨_, rfl, ?_⟩, trivial⟩; refine yFb rfl (yQ ?_); refine pa_step [_] rfl rfl ⟨⟨_, rfl, ?_⟩, trivial⟩
  refine yLd rfl rfl rfl (yQ ?_); refine pa_step [_] rfl rfl ⟨⟨_, rfl, ?_⟩, trivial⟩; refine yT (by simp; omega) (by simp; omega) rfl rfl rfl rfl rfl rfl List.length_append.symm (yQ ?_)
  refine pa_step [_] rfl rfl ⟨⟨_, rfl, ?_⟩, trivial⟩; refine yT (by simp; omega) (by simp; omega) rfl rfl rfl rfl rfl rfl List.length_append.symm (yQ ?_); refine pa_step [_] rfl rfl ⟨⟨_, rfl, ?_⟩, trivial⟩; refine yAt rfl ?_
  refine yQ ?_; refine pa_fin rfl ⟨rfl, ⟨.tok _ _ _, trivial⟩, trivial, trivial, rfl⟩; refine yFb rfl (yQ ?_); refine pa_step [_, _] rfl rfl ⟨⟨_, rfl, ?_⟩, ⟨_, rfl, ?_⟩, trivial⟩
  refine yRt (E := 55) (t := hdT) (es := []) rfl rfl rfl rfl rfl rfl rfl rfl (yQ ?_); refine pa_step [_] rfl rfl ⟨⟨_, rfl, ?_⟩, trivial⟩; refine yLd rfl rfl rfl (yQ ?_)
  refine pa_step [_] rfl rfl ⟨⟨_, rfl, ?_⟩, trivial⟩; refine yT (by simp; omega) (by simp; omega) rfl rfl rfl rfl rfl rfl List.length_append.symm (yQ ?_); refine pa_step [_] rfl rfl ⟨⟨_, rfl, ?_⟩, trivial⟩
  refine yT (by simp; omega) (by simp; omega) rfl rfl rfl rfl rfl rfl List.length_append.symm (yQ ?_); refine pa_step [_] rfl rfl ⟨⟨_, rfl, ?_⟩, trivial⟩; refine yAt rfl (yQ ?_)
  refine pa_fin rfl ⟨rfl, ⟨.tok _ _ _, trivial⟩, trivial, trivial, rfl⟩; refine yLd rfl rfl rfl (yQ ?_); refine pa_step [_] rfl rfl ⟨⟨_, rfl, ?_⟩, trivial⟩
  refine yRt (E := 55) (t := hdT) (es := []) rfl rfl rfl rfl rfl rfl rfl rfl (yQ ?_); refine pa_step [_] rfl rfl ⟨⟨_, rfl, ?_⟩, trivial⟩
  refine yT (by simp; omega) (by simp; omega) rfl rfl rfl rfl rfl rfl List.length_append.symm (yQ ?_); refine pa_step [_] rfl rfl ⟨⟨_, rfl, ?_⟩, trivial⟩
  refine yT (by simp; omega) (by simp; omega) rfl rfl rfl rfl rfl rfl List.length_append.symm (yQ ?_); refine pa_step [_] rfl rfl ⟨⟨_, rfl, ?_⟩, trivial⟩; refine yAt rfl (yQ ?_)
  refine pa_fin rfl ⟨rfl, ⟨.tok _ _ _, trivial⟩, trivial, trivial, rfl⟩; refine pw_seq (pw_region (yR (es := []) rfl rfl rfl rfl rfl (yAd rfl (yQ (pw_seq (pw_seq ?_))))))
  refine pw_region (yAd rfl (yQ (pw_block ?_)))
  obtain ⟨l, hl⟩ : ∃ l, l = h1 ++ h2 := ⟨_, rfl⟩
  have hll : l.length ≤ 2000 := by rw [hl, List.length_append]; omega
  have hlm : h1.map dH ++ h2.map dH = l.map dH := by rw [hl, List.map_append]
  rw [← hl, hlm]
  clear hl hlm
  refine pw_loop (fun i : Nat => ⟨73, [(5, .d (.sl 2 (l.map dH))), (6, .d (dCs (nmN l i))), (7, .d (dI i))], [], []⟩) (fun i => i ≤ l.length) (fun i => l.length - i) 0 (Nat.zero_le _) ⟨rfl, ⟨.refl _, .refl _, .refl _, trivial⟩, trivial, trivial, rfl⟩ ?_
  intro i hi
  have hzl := nmN_len l i
  have hend : i = l.length → nmN l l.length = nmN l i := fun e => by rw [e]
  have hnx : ∀ x, l[i]? = some x → nmN l (i + 1) = insS x.1 (nmN l i) := fun x h => nmN_next h
  obtain ⟨nx, hnx2⟩ : ∃ o, o = nmN l (i + 1) := ⟨_, rfl⟩
  obtain ⟨zs, hzs⟩ : ∃ o, o = nmN l i := ⟨_, rfl⟩
  simp only [← hzs, ← hnx2] at hnx hzl hend
  rw [← hzs]
  refine pw_seq (pw_seq (pw_region (yMd rfl (yMd rfl (yN rfl (yB rfl rfl rfl rfl (yQ (q_then ?_)))))))); refine pw_cond rfl (fun h => ?_) (fun h => ?_)
  · simp at h
    obtain ⟨⟨x, y⟩, hx⟩ : ∃ a, l[i]? = some a := ⟨_, List.getElem?_eq_getElem h⟩
    have ei := ix dH l i i (x, y) rfl hx
    have hw := wrapI ((i : Int) + 1) (by omega)
    have hn := hnx _ hx
    simp only at hn
    rw [insS_ltN] at hn
    have hkl := ltN_le x zs
    refine pw_skip (pw_seq (pw_block (pw_seq (pw_region (yAd rfl (yQ (pw_seq (pw_block ?_)))))))); refine pw_loop (fun k : Nat => ⟨73, [(5, .d (.sl 2 (l.map dH))), (6, .d (dCs zs)), (7, .d (dI i)), (8, .d (dI k))], [], []⟩) (fun k => k ≤ ltN x zs) (fun k => zs.length - k) 0 (Nat.zero_le _) ⟨rfl, ⟨.refl _, .refl _, .refl _, .refl _, trivial⟩, trivial, trivial, rfl⟩ ?_
    intro k hk
    have hwk := wrapI ((k : Int) + 1) (by omega)
    by_cases hkz : k < zs.length
    · obtain ⟨z, hz⟩ : ∃ z, zs[k]? = some z := ⟨_, List.getElem?_eq_getElem hkz⟩
      have ez := ix dC zs k k z rfl hz
      have u1 : decide ((k : Int) < ((zs.map dC).length : Int)) = true := by simpa using hkz
      have u2 : ((k : Int) == ((zs.map dC).length : Int)) = false := by simp; omega
      by_cases hlt : k < ltN x zs
      · have t1 : lt8 z x = true := ltN_lt hlt hz
        refine pw_seq (pw_seq ?_); refine pw_draw Tryz.mixed (by kernel_rfl) ?_; refine yMd rfl (yMd rfl (yN rfl (yB rfl rfl rfl rfl (yMd rfl ?_)))); rw [u1]; refine yMd rfl (yMd rfl (yW ez (by omega) rfl rfl (yLr rfl rfl (yMd rfl (yMd rfl (yW ei (by omega) rfl rfl (yFr rfl rfl (yLr rfl rfl (yBsl rfl rfl ?_))))))))); refine yPd rfl rfl (yQ (q_then ?_)); rw [t1]; refine pw_ct rfl (pw_skip (pw_block (pw_region (yMd rfl (yB rfl rfl rfl rfl (yAd rfl (yQ (q_blk (q_then ?_)))))))))
        refine ⟨k + 1, by omega, by omega, rfl, ⟨.refl _, .refl _, .refl _, .of_eq (congrArg (fun n => SV.d (dI n)) hwk), trivial⟩, trivial, trivial, rfl⟩
      · obtain rfl : k = ltN x zs := by omega
        have t1 : lt8 z x = false := ltN_at hz
        by_cases e : z = x
        · have t2 : (z == x) = true := by simpa using e
          rw [if_pos (by rw [hz, e])] at hn
          refine pw_seq (pw_seq ?_); refine pw_draw Tryz.mixed (by kernel_rfl) ?_; refine yMd rfl (yMd rfl (yN rfl (yB rfl rfl rfl rfl (yMd rfl ?_)))); rw [u1]; refine yMd rfl (yMd rfl (yW ez (by omega) rfl rfl (yLr rfl rfl (yMd rfl (yMd rfl (yW ei (by omega) rfl rfl (yFr rfl rfl (yLr rfl rfl (yBsl rfl rfl ?_))))))))); refine yPd rfl rfl (yQ (q_then ?_)); rw [t1]; refine pw_cf rfl (pw_exit (pw_seq ?_)); refine pw_draw Tryz.mixed (by kernel_rfl) ?_; refine yMd rfl (yMd rfl (yN rfl (yB rfl rfl rfl rfl (yMd rfl ?_)))); rw [u2]; refine yMd rfl (yMd rfl (yW ez (by omega) rfl rfl (yLr rfl rfl (yMd rfl (yMd rfl (yW ei (by omega) rfl rfl (yFr rfl rfl (yLr rfl rfl (yBsn rfl rfl ?_))))))))); refine yVd rfl rfl (yQ (q_then ?_)); rw [t2]; refine pw_cf rfl (pw_skip (pw_region (yMd rfl (yB rfl rfl rfl rfl (yAd rfl (yQ (q_then ?_)))))))
          refine ⟨i + 1, by omega, by omega, rfl, ⟨.refl _, .of_eq (by rw [← hnx2, hn]; rfl), .of_eq (congrArg (fun n => SV.d (dI n)) hw), trivial⟩, trivial, trivial, rfl⟩
        · have t2 : (z == x) = false := by simpa using e
          rw [if_neg (by rw [hz]; simpa using e)] at hn
          refine pw_seq (pw_seq ?_); refine pw_draw Tryz.mixed (by kernel_rfl) ?_; refine yMd rfl (yMd rfl (yN rfl (yB rfl rfl rfl rfl (yMd rfl ?_)))); rw [u1]; refine yMd rfl (yMd rfl (yW ez (by omega) rfl rfl (yLr rfl rfl (yMd rfl (yMd rfl (yW ei (by omega) rfl rfl (yFr rfl rfl (yLr rfl rfl (yBsl rfl rfl ?_))))))))); refine yPd rfl rfl (yQ (q_then ?_)); rw [t1]; refine pw_cf rfl (pw_exit (pw_seq ?_)); refine pw_draw Tryz.mixed (by kernel_rfl) ?_; refine yMd rfl (yMd rfl (yN rfl (yB rfl rfl rfl rfl (yMd rfl ?_)))); rw [u2]; refine yMd rfl (yMd rfl (yW ez (by omega) rfl rfl (yLr rfl rfl (yMd rfl (yMd rfl (yW ei (by omega) rfl rfl (yFr rfl rfl (yLr rfl rfl (yBsn rfl rfl ?_))))))))); refine yVd rfl rfl (yQ (q_then ?_)); rw [t2]; refine pw_ct rfl ?_; refine pw_draw Tryz.mixed (by kernel_rfl) ?_; refine yMd rfl (yMd rfl (yMd rfl (yDc (es' := (zs.take (ltN x zs)).map dC) (by omega) (by simp; omega) (by rw [Int.toNat_natCast, List.map_take]) rfl rfl rfl (yMd rfl (yMd rfl (yW ei (by omega) rfl rfl (yFr rfl rfl (yLr rfl rfl (yRl (es := [dC x]) rfl rfl rfl rfl rfl ?_))))))))); refine yMd rfl (yMd rfl (yDl (by omega) (by simp; omega) rfl rfl (yTf (es := [dC x]) (es' := (x :: zs.drop (ltN x zs)).map dC) (by omega) (by simp; omega) (by simp; omega) (by simp) rfl rfl (yTf (es := (zs.take (ltN x zs)).map dC) (es' := (zs.take (ltN x zs) ++ x :: zs.drop (ltN x zs)).map dC) (by omega) (by simp; omega) (by simp; omega) (by simp) rfl rfl (yAd rfl (yQ (pw_region (yMd rfl (yB rfl rfl rfl rfl ?_))))))))); refine yAd rfl (yQ (q_then ?_))
          refine ⟨i + 1, by omega, by omega, rfl, ⟨.refl _, .of_eq (by rw [← hnx2, hn]; rfl), .of_eq (congrArg (fun n => SV.d (dI n)) hw), trivial⟩, trivial, trivial, rfl⟩
    · obtain rfl : k = ltN x zs := by omega
      have u1 : decide ((ltN x zs : Int) < ((zs.map dC).length : Int)) = false := by simp; omega
      have u2 : ((ltN x zs : Int) == ((zs.map dC).length : Int)) = true := by simp; omega
      rw [if_neg (by rw [List.getElem?_eq_none (by omega)]; simp)] at hn
      refine pw_seq (pw_seq ?_); refine pw_draw Tryz.mixed (by kernel_rfl) ?_; refine yMd rfl (yMd rfl (yN rfl (yB rfl rfl rfl rfl (yMd rfl ?_)))); rw [u1]; refine yO rfl (yO rfl (yO rfl (yO rfl (yO rfl (yO rfl (yO rfl (yO rfl (yO rfl (yO rfl ?_))))))))); refine yVd rfl rfl (yQ (pw_cf rfl (pw_exit (pw_seq ?_)))); refine pw_draw Tryz.mixed (by kernel_rfl) ?_; refine yMd rfl (yMd rfl (yN rfl (yB rfl rfl rfl rfl (yMd rfl ?_)))); rw [u2]; refine yO rfl (yO rfl (yO rfl (yO rfl (yO rfl (yO rfl (yO rfl (yO rfl (yO rfl (yO rfl ?_))))))))); refine yPd rfl rfl (yQ (pw_ct rfl ?_)); refine pw_draw Tryz.mixed (by kernel_rfl) ?_
      refine yMd rfl (yMd rfl (yMd rfl (yDc (es' := (zs.take (ltN x zs)).map dC) (by omega) (by simp; omega) (by rw [Int.toNat_natCast, List.map_take]) rfl rfl rfl (yMd rfl (yMd rfl (yW ei (by omega) rfl rfl (yFr rfl rfl (yLr rfl rfl (yRl (es := [dC x]) rfl rfl rfl rfl rfl ?_))))))))); refine yMd rfl (yMd rfl (yDl (by omega) (by simp; omega) rfl rfl (yTf (es := [dC x]) (es' := (x :: zs.drop (ltN x zs)).map dC) (by omega) (by simp; omega) (by simp; omega) (by simp) rfl rfl (yTf (es := (zs.take (ltN x zs)).map dC) (es' := (zs.take (ltN x zs) ++ x :: zs.drop (ltN x zs)).map dC) (by omega) (by simp; omega) (by simp; omega) (by simp) rfl rfl (yAd rfl (yQ (pw_region (yMd rfl (yB rfl rfl rfl rfl ?_))))))))); refine yAd rfl (yQ (q_then ?_))
      refine ⟨i + 1, by omega, by omega, rfl, ⟨.refl _, .of_eq (by rw [← hnx2, hn]; rfl), .of_eq (congrArg (fun n => SV.d (dI n)) hw), trivial⟩, trivial, trivial, rfl⟩
  · simp at h
    rw [hend (by omega)]
    refine pw_exit (pw_seq (pw_region (yMd rfl (yAd rfl (yQ (pw_ret ?_))))))
    exact q_ret _ (.tmp rfl .nil) rfl
end Go.Proofs.YtdkpmnefoobipaaGreatDoor
set_option maxHeartbeats 1000000
namespace Go.Proofs.YtdkpmnefoobipaaGreatDoor
open Go.RowKit Px Go.Sort Go.Lib

theorem beq_dec (x y : Str) : (x == y) = decide (x = y) := by rw [Bool.eq_iff_iff]; simp
theorem ltS_dec (a b : Str) : ltS a b = decide (a < b) := bytesLess_eq a b
theorem leS_dec (a b : Str) : decide (a ≤ b) = !ltS b a := by
  rw [ltS_dec, Bool.eq_iff_iff]
  simp
abbrev mSort (ss : List Str) : List Str := ss.mergeSort fun x y => decide (x ≤ y)
theorem mSort_up (ss : List Str) : (mSort ss).Pairwise fun x y => ltS y x = false := by
  have h := List.pairwise_mergeSort (le := fun x y : Str => decide (x ≤ y)) (fun a b c h1 h2 => by
    rw [leS_dec, Bool.not_eq_true'] at h1 h2 ⊢
    rcases ltS_total a b with e | e | e
    · rcases ltS_total b c with e2 | e2 | e2
      · exact ltS_asymm (ltS_trans e e2)
      · subst e2; exact ltS_asymm e
      · rw [h2] at e2; cases e2
    · subst e; exact h2
    · rw [h1] at e; cases e) (fun a b => by
    rw [leS_dec, leS_dec]
    rcases ltS_total a b with e | e | e
    · rw [ltS_asymm e]; rfl
    · subst e; rw [ltS_irrefl]; rfl
    · rw [ltS_asymm e]; simp) ss
  refine h.imp fun h => ?_
  rw [leS_dec] at h
  simpa using h
theorem mSort_len (ss : List Str) : (mSort ss).length = ss.length := List.length_mergeSort ss
theorem comp_up {d : Array Str} (hd : ∀ i j, i ≤ j → j < d.size → ltS d[j]! d[i]! = false) : ∀ m, m ≤ d.size → ascS (compactUpTo d m) ∧ (∀ x, x ∈ compactUpTo d m ↔ ∃ j, j < m ∧ d[j]! = x)
  | 0, _ => by simp [compactUpTo, ascS]
  | m + 1, hm => by
    obtain ⟨h1, h2⟩ := comp_up hd m (by omega)
    rw [compactUpTo_succ]
    cases hk : keeps d m
    · simp only [keeps, decide_eq_false_iff_not, not_or, Decidable.not_not] at hk
      simp only [Bool.false_eq_true, if_false, List.append_nil]
      refine ⟨h1, fun x => ?_⟩
      rw [h2]
      constructor
      · rintro ⟨j, hj, rfl⟩; exact ⟨j, by omega, rfl⟩
      · rintro ⟨j, hj, rfl⟩
        by_cases e : j = m
        · subst e; exact ⟨j - 1, by omega, hk.2.symm⟩
        · exact ⟨j, by omega, rfl⟩
    · simp only [keeps, decide_eq_true_eq] at hk
      simp only [if_true]
      refine ⟨?_, fun x => ?_⟩
      · rw [ascS_append]
        refine ⟨h1, ⟨fun y hy => (by cases hy), trivial⟩, fun x hx y hy => ?_⟩
        obtain ⟨j, hj, rfl⟩ := (h2 x).1 hx
        have e : y = d[m]! := by simpa using hy
        subst e
        rcases hk with hk | hk
        · omega
        · have h3 := hd j (m - 1) (by omega) (by omega)
          have h4 := hd (m - 1) m (by omega) (by omega)
          have h5 := hd j m (by omega) (by omega)
          rcases ltS_total d[j]! d[m]! with e | e | e
          · exact e
          · exfalso
            rcases ltS_total d[m - 1]! d[m]! with e2 | e2 | e2
            · rw [← e, h3] at e2; cases e2
            · exact hk e2.symm
            · rw [h4] at e2; cases e2
          · rw [h5] at e; cases e
      · rw [List.mem_append, h2]
        constructor
        · rintro (⟨j, hj, rfl⟩ | h)
          · exact ⟨j, by omega, rfl⟩
          · exact ⟨m, by omega, (List.mem_singleton.1 h).symm⟩
        · rintro ⟨j, hj, rfl⟩
          by_cases e : j = m
          · subst e; exact .inr (by simp)
          · exact .inl ⟨j, by omega, rfl⟩
theorem comp_sort (ss : List Str) : compact (mSort ss) = uniS ss := by
  obtain ⟨s, hs⟩ : ∃ s, s = mSort ss := ⟨_, rfl⟩
  have hsort := mSort_up ss
  have hmem : ∀ x, x ∈ s ↔ x ∈ ss := fun x => by rw [hs, List.mem_mergeSort]
  rw [← hs] at hsort ⊢
  have hd : ∀ i j, i ≤ j → j < s.toArray.size → ltS s.toArray[j]! s.toArray[i]! = false := fun i j hij hj => by
    have hj' : j < s.length := by simpa using hj
    have hi' : i < s.length := by omega
    rw [getElem!_pos s.toArray i (by simpa using hi'), getElem!_pos s.toArray j hj]
    simp only [List.getElem_toArray]
    rcases Nat.lt_or_ge i j with h | h
    · exact List.pairwise_iff_getElem.1 hsort i j hi' hj' h
    · have : i = j := by omega
      subst this; exact ltS_irrefl _
  obtain ⟨h1, h2⟩ := comp_up hd s.length (by simp)
  unfold compact
  refine uniS_of h1 fun x => ?_
  rw [h2, ← hmem]
  constructor
  · rintro ⟨j, hj, rfl⟩
    rw [getElem!_pos s.toArray j (by simpa using hj)]
    simp
  · intro hx
    obtain ⟨j, hj, rfl⟩ := List.mem_iff_getElem.1 hx
    exact ⟨j, hj, by rw [getElem!_pos s.toArray j (by simpa using hj)]; simp⟩

theorem sort_row (ss : List Str) (hl : ss.length ≤ 1000000) : PRow Tryz.prog 49 9 1 [] (ss.map encStr) ((mSort ss).map encStr) := by
  intro w v n hown hone
  have hn : n = ss.length := by have := hown.1; simpa using this.symm
  subst hn
  rcases hown.2 with ⟨rfl, h0⟩ | ⟨g, cap, cur, rfl, hg, hb, hn, hcap, hsz, ht⟩
  · have hz : ss = [] := List.eq_nil_of_length_eq_zero h0
    subst hz
    refine (AnyG.slices_Sort_string_none Tryz.sortStr none 0 w).mono ?_
    rintro e w' ⟨rfl, rfl⟩
    have e : mSort [] = [] := List.eq_nil_of_length_eq_zero (mSort_len [])
    rw [e]
    exact ⟨rfl, hown, hone, rfl, rfl, rfl, Nat.le_refl _, fun _ _ _ => rfl⟩
  · refine (AnyG.slices_Sort_string Tryz.sortStr g 0 cap ss w (holds_of_block hb (by simpa using ht)) (Array.getElem?_eq_some_iff.1 hb).1 (by omega)).mono ?_
    rintro e w' ⟨rfl, n, os, rfl⟩
    refine ⟨rfl, ?_, fun u hu => by obtain ⟨z, -, rfl⟩ := List.mem_map.1 hu; rfl, grownBy_sorted _⟩
    exact ownsRow_sorted (n := n) (os := os) (ts := mSort ss) (ss := ss) (mSort_len ss) hg hb hn hcap hsz
theorem comp_row (ss : List Str) (hl : ss.length ≤ 1000000) : PRowC Tryz.prog 50 9 1 (ss.map encStr) ((compact ss).map encStr) := by
  intro w A c n hown h0 hone
  have hn0 : n = ss.length := by have := hown.1; simpa using this.symm
  subst hn0
  rcases hown.2 with ⟨e0, h1⟩ | ⟨g, cap, cur, e0, hg, hb, hn, hcap, hsz, ht⟩
  · omega
  obtain ⟨rfl, -, rfl⟩ := Value.slice.inj e0
  have h1 := AnyE.slices_Compact Tryz.compStr encStr (fun _ => rfl) ⟨fun x y w => by
      have : (binOp .eql (Tryz.compStr_ren.t 23) (encStr x) (encStr y)) = pure (.bool ((ByteArray.mk x.toArray).toList == (ByteArray.mk y.toArray).toList)) := rfl
      rw [this, str_list, str_list, beq_dec]; rfl, fun op a b x y w => GuardAt.string _ _ op a b _ _ w⟩ ⟨fun x y w => by
      have : (binOp .neq (Tryz.compStr_ren.t 23) (encStr x) (encStr y)) = pure (.bool (!((ByteArray.mk x.toArray).toList == (ByteArray.mk y.toArray).toList))) := rfl
      rw [this, str_list, str_list, beq_dec]; rfl, fun op a b x y w => GuardAt.string _ _ op a b _ _ w⟩ [] Tryz.zeroValue9 g 0 c ss.toArray w (holds_of_block hb (by simpa using ht)) (by simp; omega) (by simpa using hn)
  simp only [List.size_toArray] at h1
  refine h1.mono ?_
  rintro e w' ⟨rfl, q, rfl⟩
  have hcl : (compactUpTo ss.toArray ss.length).length ≤ ss.length := by
    unfold compactUpTo
    rw [List.length_map]
    exact Nat.le_trans (List.length_filter_le _ _) (by simp)
  obtain ⟨ts, hts⟩ : ∃ ts, ts = compactUpTo ss.toArray ss.length ++ List.replicate (ss.length - (compactUpTo ss.toArray ss.length).length) ([] : Str) := ⟨_, rfl⟩
  have htl : ts.length = ss.length := by rw [hts]; simp; omega
  have hheap : (putRow encStr (Sort.ahead w q) g 0 ts.toArray).heap[g]? = some (.cells (putCells encStr 0 ts.toArray cur) 9 (0, 0)) := by
    simp [putRow, mapBlock, Sort.ahead, Array.getElem?_modify, hb, onCells]
  rw [← hts]
  refine ⟨(compactUpTo ss.toArray ss.length).length, (List.replicate (ss.length - (compactUpTo ss.toArray ss.length).length) ([] : Str)).map encStr, rfl, hcl, by unfold compact; simp, ?_, fun u hu => by obtain ⟨z, -, rfl⟩ := List.mem_map.1 hu; rfl, ?_⟩
  · have e : (compact ss).map encStr ++ (List.replicate (ss.length - (compactUpTo ss.toArray ss.length).length) ([] : Str)).map encStr = ts.map encStr := by rw [hts, List.map_append]; rfl
    rw [e]
    refine ⟨by simp [htl], .inr ⟨g, c, _, rfl, hg, hheap, hn, hcap, by simp [putCells, hsz], ?_⟩⟩
    rw [Nat.mul_one, ← htl]
    exact take_putCells cur ts (by omega)
  · refine ⟨rfl, rfl, rfl, by simp, fun k hk hne => ?_⟩
    have : g ≠ k := fun e => hne (by rw [e]; rfl)
    simp [putRow, mapBlock, Sort.ahead, Array.getElem?_modify, this]
end Go.Proofs.YtdkpmnefoobipaaGreatDoor
namespace Go.Proofs.YtdkpmnefoobipaaGreatDoor
open Go.RowKit Px Go.Sort Go.Lib

abbrev bkT13 : Nat := 41 * 100000 + 13
theorem hdN_next {h1 h2 : List Hd} {l : List Str} {i : Nat} {n : Str} (h : l[i]? = some n) : hdN h1 h2 l (i + 1) = hdN h1 h2 l i ++ hbr n (hld n h1) (hld n h2) := by rw [hdN, h]
set_option maxRecDepth 20000 in
set_option maxHeartbeats 4000000 in
theorem wRHoldsO (s t : Stm) (hs : s.hs.length ≤ 1000) (ht : t.hs.length ≤ 1000) : POwn Tryz.prog 47 [.agg (dSt s), .agg (dSt t)] 41 4 ((hdB s.hs t.hs).map dBk) := by
  have c1 := wNames s t hs ht
  have hc2 := wRHeld s hs
  have hc3 := wRHeld t ht
  have hnl := nms_len s.hs t.hs
  have hne : ∀ n, n ∈ nms s.hs t.hs → ¬ (hld n s.hs = none ∧ hld n t.hs = none) := fun n h => nms_held h
  unfold hdB
  obtain ⟨l, hl⟩ : ∃ l, l = nms s.hs t.hs := ⟨_, rfl⟩
  rw [← hl] at c1 hnl hne ⊢
  clear hl
  obtain ⟨d1, h1, ms⟩ := s
  obtain ⟨d2, h2, ts⟩ := t
  simp only at hs ht hc2 hc3 hnl hne ⊢
  obtain ⟨r, hr⟩ : ∃ r, r = hdN h1 h2 l l.length := ⟨_, rfl⟩
  rw [← hr]
  refine pown_of_pw (t := bkT13) Tryz.func47 rfl Tryz.ntmps47 Tryz.results47 (by simp) rfl fun B w0 => ?_
  refine pw_seq (pw_region (yK (cs := [_, _, _]) rfl rfl (yK (cs := [_, _, _]) rfl rfl (yAd rfl (yQ (pw_seq (pw_region (yRt (E := 41) (t := bkT13) (es := []) rfl rfl rfl rfl rfl rfl rfl rfl (yAt rfl ?_))))))))); refine yQ (pw_seq (pw_region (yLa (ys := [_, _, _]) rfl rfl rfl rfl (yLa (ys := [_, _, _]) rfl rfl rfl rfl (yC (c1) rfl rfl (yAd rfl (yQ (pw_seq (pw_seq ?_))))))))); refine pw_region (yAd rfl (yQ (pw_block ?_))); refine pw_loop (fun i : Nat => ⟨68, [(2, .bx 2 0), (3, .bx 3 0), (5, .ts bkT13 4 ((hdN h1 h2 l i).map dBk)), (6, .d (dCs l)), (7, .d (dI i))], [(2, [.d (dI d1), .d (.sl 2 (h1.map dH)), .d (.sl 5 (ms.map dM))]), (3, [.d (dI d2), .d (.sl 2 (h2.map dH)), .d (.sl 5 (ts.map dM))])], [(bkT13, ((hdN h1 h2 l i).map dBk).length)]⟩) (fun i => i ≤ l.length) (fun i => l.length - i) 0 (Nat.zero_le _)
    ⟨rfl, ⟨.refl _, .refl _, .refl _, .refl _, .refl _, trivial⟩, ⟨⟨_, rfl, .refl _, .refl _, .refl _, trivial⟩, ⟨_, rfl, .refl _, .refl _, .refl _, trivial⟩, trivial⟩, ⟨rfl, trivial⟩, rfl⟩ ?_
  intro i hi
  have hnx : ∀ n, l[i]? = some n → hdN h1 h2 l (i + 1) = hdN h1 h2 l i ++ hbr n (hld n h1) (hld n h2) := fun n h => hdN_next h
  have hln := hdN_len h1 h2 l i
  have hend : i = l.length → r = hdN h1 h2 l i := fun e => by rw [hr, e]
  obtain ⟨nx, hnx2⟩ : ∃ o, o = hdN h1 h2 l (i + 1) := ⟨_, rfl⟩
  obtain ⟨zs, hzs⟩ : ∃ o, o = hdN h1 h2 l i := ⟨_, rfl⟩
  simp only [← hzs, ← hnx2] at hnx hln hend
  rw [← hzs]
  refine pw_seq (pw_seq (pw_region (yMd rfl (yMd rfl (yN rfl (yB rfl rfl rfl rfl (yQ (q_then ?_)))))))); refine pw_cond rfl (fun h => ?_) (fun h => ?_)
  · simp at h
    obtain ⟨n, hn⟩ : ∃ a, l[i]? = some a := ⟨_, List.getElem?_eq_getElem h⟩
    have en := ix dC l i i n rfl hn
    have hw := wrapI ((i : Int) + 1) (by omega)
    have hn2 := hnx _ hn
    have hnn := hne n (List.mem_of_getElem? hn)
    have c2 := hc2 n
    have c3 := hc3 n
    obtain ⟨o1, ho1⟩ : ∃ o, o = hld n h1 := ⟨_, rfl⟩
    obtain ⟨o2, ho2⟩ : ∃ o, o = hld n h2 := ⟨_, rfl⟩
    rw [← ho1] at c2 hn2 hnn
    rw [← ho2] at c3 hn2 hnn
    clear hc2 hc3 hne hnx
    cases o2 with
    | none =>
      cases o1 with
      | none => exact absurd ⟨rfl, rfl⟩ hnn
      | some q =>
        have e : nx = zs ++ [(1, n, q, [])] := hn2
        refine pw_skip (pw_seq (pw_block (pw_seq ?_))); refine pw_draw Tryz.mixed (by kernel_rfl) ?_; refine yLa (ys := [_, _, _]) rfl rfl rfl rfl (yMd rfl (yMd rfl (yW en (by omega) rfl rfl (yLr rfl rfl (yC (c2) rfl rfl (yMp rfl (yX rfl rfl (yX rfl rfl (yAd rfl ?_))))))))); refine yAd rfl (yQ (pw_seq ?_)); refine pw_draw Tryz.mixed (by kernel_rfl) ?_; refine yLa (ys := [_, _, _]) rfl rfl rfl rfl (yMd rfl (yMd rfl (yW en (by omega) rfl rfl (yLr rfl rfl (yC (c3) rfl rfl (yMp rfl (yX rfl rfl (yX rfl rfl (yAd rfl ?_))))))))); refine yAd rfl (yQ (pw_seq (pw_region (yAd rfl (yQ (pw_seq (pw_seq (pw_region (yMd rfl ?_))))))))); refine yMd rfl (yMd rfl (yU rfl rfl rfl (yPd rfl rfl (yQ (pw_ct rfl (pw_region (yAd rfl (yQ (pw_seq ?_))))))))); refine pw_region (yMd rfl (yB rfl rfl rfl rfl (yQ (pw_ct rfl (pw_region (yMt rfl (yMd rfl (yMd rfl (yMd rfl ?_))))))))); refine yW en (by omega) rfl rfl (yLr rfl rfl (yMd rfl (yMd rfl (yG (ys := [_, _, _, _]) rfl rfl (yR (es := [[_, _, _, _]]) rfl rfl rfl rfl rfl (yT (es' := (zs ++ [(1, n, q, [])]).map dBk) (m := ((zs ++ [(1, n, q, [])]).map dBk).length) (by simp; omega) (by simp; omega) rfl rfl rfl rfl rfl (by simp) (by simp) (yAt rfl (yQ (pw_region ?_))))))))); refine yMd rfl (yB rfl rfl rfl rfl (yAd rfl (yQ (q_then ?_))))
        refine ⟨i + 1, by omega, by omega, rfl, ⟨.refl _, .refl _, .of_eq (by rw [← hnx2, e]; rfl), .refl _, .of_eq (congrArg (fun n => SV.d (dI n)) hw), trivial⟩, ⟨⟨_, rfl, .refl _, .refl _, .refl _, trivial⟩, ⟨_, rfl, .refl _, .refl _, .refl _, trivial⟩, trivial⟩, ⟨(by rw [← hnx2, e]; rfl), trivial⟩, rfl⟩
    | some q2 =>
      cases o1 with
      | none =>
        have e : nx = zs ++ [(2, n, [], q2)] := hn2
        refine pw_skip (pw_seq (pw_block (pw_seq ?_))); refine pw_draw Tryz.mixed (by kernel_rfl) ?_; refine yLa (ys := [_, _, _]) rfl rfl rfl rfl (yMd rfl (yMd rfl (yW en (by omega) rfl rfl (yLr rfl rfl (yC (c2) rfl rfl (yMp rfl (yX rfl rfl (yX rfl rfl (yAd rfl ?_))))))))); refine yAd rfl (yQ (pw_seq ?_)); refine pw_draw Tryz.mixed (by kernel_rfl) ?_; refine yLa (ys := [_, _, _]) rfl rfl rfl rfl (yMd rfl (yMd rfl (yW en (by omega) rfl rfl (yLr rfl rfl (yC (c3) rfl rfl (yMp rfl (yX rfl rfl (yX rfl rfl (yAd rfl ?_))))))))); refine yAd rfl (yQ (pw_seq (pw_region (yAd rfl (yQ (pw_seq (pw_seq (pw_region (yMd rfl ?_))))))))); refine yMd rfl (yO rfl (yO rfl (yVd rfl rfl (yQ (pw_cf rfl (pw_seq (pw_region (yMd rfl (yMd rfl ?_))))))))); refine yMd rfl (yU rfl rfl rfl (yPd rfl rfl (yQ (pw_ct rfl (pw_region (yAd rfl (yQ (pw_seq (pw_region ?_))))))))); refine yMd rfl (yB rfl rfl rfl rfl (yQ (pw_ct rfl (pw_region (yMt rfl (yMd rfl (yMd rfl (yMd rfl (yW en (by omega) rfl rfl ?_))))))))); refine yLr rfl rfl (yMd rfl (yMd rfl (yG (ys := [_, _, _, _]) rfl rfl (yR (es := [[_, _, _, _]]) rfl rfl rfl rfl rfl (yT (es' := (zs ++ [(2, n, [], q2)]).map dBk) (m := ((zs ++ [(2, n, [], q2)]).map dBk).length) (by simp; omega) (by simp; omega) rfl rfl rfl rfl rfl (by simp) (by simp) (yAt rfl (yQ (pw_region (yMd rfl ?_))))))))); refine yB rfl rfl rfl rfl (yAd rfl (yQ (q_then ?_)))
        refine ⟨i + 1, by omega, by omega, rfl, ⟨.refl _, .refl _, .of_eq (by rw [← hnx2, e]; rfl), .refl _, .of_eq (congrArg (fun n => SV.d (dI n)) hw), trivial⟩, ⟨⟨_, rfl, .refl _, .refl _, .refl _, trivial⟩, ⟨_, rfl, .refl _, .refl _, .refl _, trivial⟩, trivial⟩, ⟨(by rw [← hnx2, e]; rfl), trivial⟩, rfl⟩
      | some q =>
        simp only [Option.getD_some, Option.isSome_some] at c2 c3
        cases t1 : (q == q2) with
        | true =>
          have e : nx = zs := by rw [hn2]; simp [hbr, t1]
          refine pw_skip (pw_seq (pw_block (pw_seq ?_))); refine pw_draw Tryz.mixed (by kernel_rfl) ?_; refine yLa (ys := [_, _, _]) rfl rfl rfl rfl (yMd rfl (yMd rfl (yW en (by omega) rfl rfl (yLr rfl rfl (yC (c2) rfl rfl (yMp rfl (yX rfl rfl (yX rfl rfl (yAd rfl ?_))))))))); refine yAd rfl (yQ (pw_seq ?_)); refine pw_draw Tryz.mixed (by kernel_rfl) ?_; refine yLa (ys := [_, _, _]) rfl rfl rfl rfl (yMd rfl (yMd rfl (yW en (by omega) rfl rfl (yLr rfl rfl (yC (c3) rfl rfl (yMp rfl (yX rfl rfl (yX rfl rfl (yAd rfl ?_))))))))); refine yAd rfl (yQ (pw_seq (pw_region (yAd rfl (yQ (pw_seq (pw_seq (pw_region (yMd rfl ?_))))))))); refine yMd rfl (yMd rfl (yU rfl rfl rfl (yPd rfl rfl (yQ (pw_cf rfl (pw_seq (pw_region (yMd rfl (yMd rfl ?_))))))))); refine yMd rfl (yU rfl rfl rfl (yPd rfl rfl (yQ (pw_cf rfl (pw_seq (pw_region (yMd rfl (yMd rfl (yBsn rfl rfl ?_))))))))); refine yQ (q_then ?_); rw [t1]; refine pw_cf rfl (pw_skip (pw_seq (pw_region (yMd rfl (yB rfl rfl rfl rfl (yQ (pw_cf rfl (pw_skip (pw_region ?_))))))))); refine yMd rfl (yB rfl rfl rfl rfl (yAd rfl (yQ (q_then ?_))))
          refine ⟨i + 1, by omega, by omega, rfl, ⟨.refl _, .refl _, .of_eq (by rw [← hnx2, e]; rfl), .refl _, .of_eq (congrArg (fun n => SV.d (dI n)) hw), trivial⟩, ⟨⟨_, rfl, .refl _, .refl _, .refl _, trivial⟩, ⟨_, rfl, .refl _, .refl _, .refl _, trivial⟩, trivial⟩, ⟨(by rw [← hnx2, e]; rfl), trivial⟩, rfl⟩
        | false =>
          have e : nx = zs ++ [(3, n, q, q2)] := by rw [hn2]; simp [hbr, t1]
          refine pw_skip (pw_seq (pw_block (pw_seq ?_))); refine pw_draw Tryz.mixed (by kernel_rfl) ?_; refine yLa (ys := [_, _, _]) rfl rfl rfl rfl (yMd rfl (yMd rfl (yW en (by omega) rfl rfl (yLr rfl rfl (yC (c2) rfl rfl (yMp rfl (yX rfl rfl (yX rfl rfl (yAd rfl ?_))))))))); refine yAd rfl (yQ (pw_seq ?_)); refine pw_draw Tryz.mixed (by kernel_rfl) ?_; refine yLa (ys := [_, _, _]) rfl rfl rfl rfl (yMd rfl (yMd rfl (yW en (by omega) rfl rfl (yLr rfl rfl (yC (c3) rfl rfl (yMp rfl (yX rfl rfl (yX rfl rfl (yAd rfl ?_))))))))); refine yAd rfl (yQ (pw_seq (pw_region (yAd rfl (yQ (pw_seq (pw_seq (pw_region (yMd rfl ?_))))))))); refine yMd rfl (yMd rfl (yU rfl rfl rfl (yPd rfl rfl (yQ (pw_cf rfl (pw_seq (pw_region (yMd rfl (yMd rfl ?_))))))))); refine yMd rfl (yU rfl rfl rfl (yPd rfl rfl (yQ (pw_cf rfl (pw_seq (pw_region (yMd rfl (yMd rfl (yBsn rfl rfl ?_))))))))); refine yQ (q_then ?_); rw [t1]; refine pw_ct rfl (pw_region (yAd rfl (yQ (pw_seq (pw_region (yMd rfl (yB rfl rfl rfl rfl (yQ (pw_ct rfl ?_))))))))); refine pw_region (yMt rfl (yMd rfl (yMd rfl (yMd rfl (yW en (by omega) rfl rfl (yLr rfl rfl (yMd rfl (yMd rfl (yG (ys := [_, _, _, _]) rfl rfl ?_))))))))); refine yR (es := [[_, _, _, _]]) rfl rfl rfl rfl rfl (yT (es' := (zs ++ [(3, n, q, q2)]).map dBk) (m := ((zs ++ [(3, n, q, q2)]).map dBk).length) (by simp; omega) (by simp; omega) rfl rfl rfl rfl rfl (by simp) (by simp) (yAt rfl (yQ (pw_region (yMd rfl (yB rfl rfl rfl rfl (yAd rfl (yQ (q_then ?_)))))))))
          refine ⟨i + 1, by omega, by omega, rfl, ⟨.refl _, .refl _, .of_eq (by rw [← hnx2, e]; rfl), .refl _, .of_eq (congrArg (fun n => SV.d (dI n)) hw), trivial⟩, ⟨⟨_, rfl, .refl _, .refl _, .refl _, trivial⟩, ⟨_, rfl, .refl _, .refl _, .refl _, trivial⟩, trivial⟩, ⟨(by rw [← hnx2, e]; rfl), trivial⟩, rfl⟩
  · simp at h
    rw [hend (by omega)]
    refine pw_exit (pw_seq (pw_region (yMt rfl (yAt rfl (yQ (pw_ret ?_))))))
    exact q_own rfl rfl
theorem wRHolds (s t : Stm) (hs : s.hs.length ≤ 1000) (ht : t.hs.length ≤ 1000) : PCalls Tryz.prog 47 [.agg (dSt s), .agg (dSt t)] (.d (.sl 4 ((hdB s.hs t.hs).map dBk))) := (wRHoldsO s t hs ht).pcalls
def holdR (s t : Stm) : List Bk := if ckE s t 0 = 0 then hdB s.hs t.hs else []
set_option maxRecDepth 20000 in
set_option maxHeartbeats 2000000 in
theorem wRHoldings (s t : Stm) (hs : fitS s) (ht : fitS t) : PCalls Tryz.prog 32 [.agg (dSt s), .agg (dSt t)] (.tup [.sl 4 ((holdR s t).map dBk), dI (ckE s t 0)]) := by
  have c1 := wRChk s t 0 hs ht
  obtain ⟨ck, hck⟩ : ∃ e, e = ckE s t 0 := ⟨_, rfl⟩
  have hp : holdR s t = if ck = 0 then hdB s.hs t.hs else [] := by rw [holdR, hck]
  rw [← hck] at c1 ⊢
  rw [hp]
  by_cases h0 : ck = 0
  rotate_left
  · have t1 : (ck != 0) = true := by simpa using h0
    rw [if_neg h0]
    obtain ⟨d1, hs1, ms⟩ := s
    obtain ⟨d2, hs2, ts⟩ := t
    refine pcalls_of_pw Tryz.func32 rfl Tryz.ntmps32 Tryz.results32 (by simp) fun B w0 => ?_
    refine pw_seq (pw_region (yK (cs := [_, _, _]) rfl rfl (yK (cs := [_, _, _]) rfl rfl (yAd rfl (yAd rfl (yQ (pw_seq (pw_seq (pw_region ?_))))))))); refine yLa (ys := [_, _, _]) rfl rfl rfl rfl (yLa (ys := [_, _, _]) rfl rfl rfl rfl (yC (c1) rfl rfl (yAd rfl (yQ (pw_seq (pw_region (yMd rfl (yB rfl rfl rfl rfl (yQ ?_))))))))); refine q_then ?_; rw [t1]; refine pw_ct rfl (pw_seq (pw_region (yR (es := []) rfl rfl rfl rfl rfl (yMd rfl (yAd rfl (yAd rfl (yQ (pw_ret (q_then_ret ?_)))))))))
    exact q_ret _ (.tmp rfl (.tmp rfl .nil)) rfl
  · rw [if_pos h0]
    have c2 := wRHolds s t (by have := hs.hl; omega) (by have := ht.hl; omega)
    subst h0
    obtain ⟨d1, hs1, ms⟩ := s
    obtain ⟨d2, hs2, ts⟩ := t
    simp only at c2 ⊢
    refine pcalls_of_pw Tryz.func32 rfl Tryz.ntmps32 Tryz.results32 (by simp) fun B w0 => ?_
    refine pw_seq (pw_region (yK (cs := [_, _, _]) rfl rfl (yK (cs := [_, _, _]) rfl rfl (yAd rfl (yAd rfl (yQ (pw_seq (pw_seq (pw_region ?_))))))))); refine yLa (ys := [_, _, _]) rfl rfl rfl rfl (yLa (ys := [_, _, _]) rfl rfl rfl rfl (yC (c1) rfl rfl (yAd rfl (yQ (pw_seq (pw_region (yMd rfl (yB rfl rfl rfl rfl (yQ ?_))))))))); refine pw_cf rfl (pw_skip (pw_seq (pw_region (yLa (ys := [_, _, _]) rfl rfl rfl rfl (yLa (ys := [_, _, _]) rfl rfl rfl rfl (yC (c2) rfl rfl (yAd rfl (yAd rfl (yQ ?_))))))))); refine pw_ret ?_
    exact q_ret _ (.tmp rfl (.tmp rfl .nil)) rfl
end Go.Proofs.YtdkpmnefoobipaaGreatDoor
