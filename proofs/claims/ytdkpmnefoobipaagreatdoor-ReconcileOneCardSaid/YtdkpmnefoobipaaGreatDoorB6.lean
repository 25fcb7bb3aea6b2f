/- Walk: Movements. -/
import Derived.Test.YtdkpmnefoobipaaGreatDoorB5
import Derived.Test.YtdkpmnefoobipaaGreatDoorB4
import Derived.Test.YtdkpmnefoobipaaGreatDoorB3
import Derived.Laws.Append
import Derived.ChangeKeysEq
import Derived.Sort.OwnSorted
import Derived.Shelf.SlicesE.Compact
import Derived.Sort.Walk0
namespace Go.Proofs.YtdkpmnefoobipaaGreatDoor
open Go.RowKit Px

theorem tk_at' {tk : List Bool} {k : Nat} (h : k < tk.length) : (tk.map dBl)[(k : Int).toNat]? = some (dBl (tkn tk k)) := tk_at h
abbrev bkT : Nat := 41 * 100000 + 9
/-- the class of a movement of theirs that remains alone -/
def dcl (b : Bool) : Int := if b then 6 else 2
set_option maxRecDepth 20000 in
set_option maxHeartbeats 8000000 in
theorem wMovements (s t : Stm) (days : Int) (hs : fitS s) (ht : fitS t) : PCalls Tryz.prog 14 [.agg (dSt s), .agg (dSt t), dI days] (.tup [.sl 4 ((movsR s t days).map dBk), dI (ckE s t days)]) := by
  have c1 := wChk s t days hs ht
  obtain ⟨ck, hck⟩ : ∃ e, e = ckE s t days := ⟨_, rfl⟩
  have hp : movsR s t days = if ck = 0 then mvB s.ms t.ms days else [] := by rw [movsR, hck]
  rw [← hck] at c1 ⊢
  rw [hp]
  by_cases h0 : ck = 0
  rotate_left
  · have t1 : (ck != 0) = true := by simpa using h0
    rw [if_neg h0]
    obtain ⟨d1, hs1, ms⟩ := s
    obtain ⟨d2, hs2, ts⟩ := t
    refine pcalls_of_pw Tryz.func14 rfl Tryz.ntmps14 Tryz.results14 (by simp) fun B w0 => ?_
    refine pw_seq ?_; refine pw_region ?_; refine yK (cs := [_, _, _]) rfl rfl ?_; refine yK (cs := [_, _, _]) rfl rfl ?_; refine yAd rfl ?_; refine yAd rfl ?_; refine yQ ?_; refine pw_seq ?_; refine pw_seq ?_; refine pw_region ?_
    refine yLa (ys := [_, _, _]) rfl rfl rfl rfl ?_; refine yLa (ys := [_, _, _]) rfl rfl rfl rfl ?_; refine yMd rfl ?_; refine yC (c1) rfl rfl ?_; refine yAd rfl ?_; refine yQ ?_; refine pw_seq ?_; refine pw_region ?_
    refine yMd rfl ?_; refine yB rfl rfl rfl rfl ?_; refine yQ ?_; refine q_then ?_; rw [t1]; refine pw_ct rfl ?_; refine pw_seq ?_; refine pw_region ?_; refine yMd rfl ?_; refine yAd rfl ?_; refine yAd rfl ?_; refine yQ ?_
    refine pw_ret ?_; refine q_then_ret ?_
    exact q_ret _ (.tnil 4 rfl (.tmp rfl .nil)) rfl
  rw [if_pos h0]
  have hv := ckE_s (hck.symm.trans h0)
  have hv1 := stE_v hv.1
  have hv2 := stE_v hv.2.1
  have c2 := wPair s t days hs.ml ht.ml hv1 hv2
  have hl := pt2_len days s.ms t.ms
  have hml := hs.ml
  have htl := ht.ml
  have hlk : ∀ (i k : Nat), (pt2 days s.ms t.ms).1[i]?.getD none = some k → k < t.ms.length := fun i k h => pt2_lt days s.ms t.ms h
  obtain ⟨r, hr⟩ : ∃ r, r = mvB s.ms t.ms days := ⟨_, rfl⟩
  rw [← hr]
  unfold mvB at hr
  subst h0
  obtain ⟨⟨pl, tk⟩, hp⟩ : ∃ p, p = pt2 days s.ms t.ms := ⟨_, rfl⟩
  rw [← hp] at hl c2 hlk hr
  obtain ⟨d1, hs1, ms⟩ := s
  obtain ⟨d2, hs2, ts⟩ := t
  simp only at hl c2 hml htl hlk hr hv1 hv2 ⊢
  refine pcalls_of_pw Tryz.func14 rfl Tryz.ntmps14 Tryz.results14 (by simp) fun B w0 => ?_
  refine pw_seq ?_; refine pw_region ?_; refine yK (cs := [_, _, _]) rfl rfl ?_; refine yK (cs := [_, _, _]) rfl rfl ?_; refine yAd rfl ?_; refine yAd rfl ?_; refine yQ ?_; refine pw_seq ?_; refine pw_seq ?_; refine pw_region ?_
  refine yLa (ys := [_, _, _]) rfl rfl rfl rfl ?_; refine yLa (ys := [_, _, _]) rfl rfl rfl rfl ?_; refine yMd rfl ?_; refine yC (c1) rfl rfl ?_; refine yAd rfl ?_; refine yQ ?_; refine pw_seq ?_; refine pw_region ?_
  refine yMd rfl ?_; refine yB rfl rfl rfl rfl ?_; refine yQ ?_; refine pw_cf rfl ?_; refine pw_skip ?_; refine pw_seq ?_; refine pw_region ?_; refine yZ (cs := [_]) rfl rfl ?_; refine yQ ?_
  refine pw_tokb 9 0 bkT 4 rfl rfl rfl rfl ?_; refine pw_seq ?_; refine pw_region ?_; refine yCmb rfl ?_; refine yAg rfl ?_; refine yQ ?_; refine pw_seq ?_; refine pw_region ?_; refine yLa (ys := [_, _, _]) rfl rfl rfl rfl ?_
  refine yLa (ys := [_, _, _]) rfl rfl rfl rfl ?_; refine yMd rfl ?_; refine yC (c2) rfl rfl ?_; refine yMp rfl ?_; refine yX rfl rfl ?_; refine yX rfl rfl ?_; refine yAd rfl ?_; refine yAd rfl ?_; refine yQ ?_; refine pw_seq ?_
  refine pw_seq ?_; refine pw_region ?_; refine yFb rfl ?_; refine yLd rfl rfl rfl ?_; refine yN rfl ?_; refine yMd rfl ?_; refine yQ ?_; refine pw_block ?_
  refine pw_loop (fun i : Nat => ⟨168, [(3, .bx 3 0), (4, .bx 4 0), (9, .bx 9 0), (10, .fb 44 9 0), (11, .d (dIs (pl.map ixO))), (12, .d (.sl 1 (tk.map dBl))), (37, .d (.sl 5 (ms.map dM))), (38, .d (dI ms.length)), (39, .d (dI i))], [(3, [.d (dI d1), .d (.sl 2 (hs1.map dH)), .d (.sl 5 (ms.map dM))]), (4, [.d (dI d2), .d (.sl 2 (hs2.map dH)), .d (.sl 5 (ts.map dM))]), (9, [.ts bkT 4 ((mbA ms ts pl i).map dBk)])], [(bkT, ((mbA ms ts pl i).map dBk).length)]⟩) (fun i => i ≤ ms.length) (fun i => ms.length - i) 0 (Nat.zero_le _)
    ⟨rfl, ⟨.refl _, .refl _, .refl _, .refl _, .refl _, .refl _, .refl _, .of_eq (congrArg (fun n : Nat => SV.d (dI n)) (by simp)), .refl _, trivial⟩, ⟨⟨_, rfl, .refl _, .refl _, .refl _, trivial⟩, ⟨_, rfl, .refl _, .refl _, .refl _, trivial⟩, ⟨_, rfl, .refl _, trivial⟩, trivial⟩, ⟨rfl, trivial⟩, rfl⟩ ?_
  intro i hi
  have hnx : ∀ m, ms[i]? = some m → mbA ms ts pl (i + 1) = mbA ms ts pl i ++ (match pl[i]?.getD none with
      | none => [(1, m.1, m.2.2.2.1, [])]
      | some k => match ts[k]? with
        | none => []
        | some x => brP m x) := fun m hm => by rw [mbA, hm]; rfl
  have hln := mbA_len ms ts pl i
  obtain ⟨nx, hnx2⟩ : ∃ o, o = mbA ms ts pl (i + 1) := ⟨_, rfl⟩
  have hend : i = ms.length → mbA ms ts pl ms.length = mbA ms ts pl i := fun e => by rw [e]
  obtain ⟨zs, hzs⟩ : ∃ o, o = mbA ms ts pl i := ⟨_, rfl⟩
  simp only [← hzs, ← hnx2] at hnx hln hend
  rw [← hzs]
  refine pw_seq ?_; refine pw_region ?_; refine yB rfl rfl rfl rfl ?_; refine yQ ?_; refine pw_seq ?_
  refine pw_cond rfl (fun h => ?_) (fun h => ?_)
  · simp at h
    obtain ⟨⟨m0, m1, m2, m3, m4⟩, hm⟩ : ∃ a, ms[i]? = some a := ⟨_, List.getElem?_eq_getElem h⟩
    have em := ix dM ms i i (m0, m1, m2, m3, m4) rfl hm
    have ep := ixs' (l := pl) (i := i) (by omega)
    have hw := wrapI ((i : Int) + 1) (by omega)
    have hn := hnx _ hm
    have hvm := hv1 _ (List.mem_of_getElem? hm)
    have hlki := hlk i
    obtain ⟨o, ho⟩ : ∃ o, o = pl[i]?.getD none := ⟨_, rfl⟩
    rw [← ho] at ep hn hlki
    cases o with
    | none =>
      have e : nx = zs ++ [(1, m0, m3, [])] := hn
      refine pw_skip ?_; refine pw_seq ?_; refine pw_block ?_; refine pw_seq ?_; refine pw_region ?_; refine yMd rfl ?_; refine yW em (by omega) rfl rfl ?_; refine yLs (ys := [_, _, _, _, _]) rfl rfl rfl ?_
      refine yZ (cs := [_, _, _, _, _]) rfl rfl ?_; refine yAd rfl ?_; refine yS (cs' := [_, _, _, _, _]) rfl rfl rfl rfl rfl ?_; refine yQ ?_; refine pw_seq ?_; refine pw_seq ?_; refine pw_region ?_; refine yMd rfl ?_; refine yMd rfl ?_
      refine yW ep (by omega) rfl rfl ?_; refine yLr rfl rfl ?_; refine yB rfl rfl rfl rfl ?_; refine yQ ?_; refine pw_ct rfl ?_; refine pw_seq ?_; refine pw_region ?_; refine yMg rfl ?_; refine yFb rfl ?_; refine yLd rfl rfl rfl ?_
      refine yFb rfl ?_; refine yLd rfl rfl rfl ?_; refine yCxb (wAdd9 _ (1, m0, m3, []) (by first | omega | (simp; omega))) rfl rfl ⟨rfl, trivial⟩ ⟨rfl, trivial⟩ ?_ (hfit := by kernel_rfl); refine yQ ?_; refine pw_exit ?_
      refine pw_region ?_; refine yB rfl rfl rfl rfl ?_; refine yMd rfl ?_; refine yQ ?_; refine q_then ?_
      refine ⟨i + 1, by omega, by omega, rfl, ⟨.refl _, .refl _, .refl _, .refl _, .refl _, .refl _, .refl _, .refl _, .of_eq (congrArg (fun n => SV.d (dI n)) hw), trivial⟩, ⟨⟨_, rfl, .refl _, .refl _, .refl _, trivial⟩, ⟨_, rfl, .refl _, .refl _, .refl _, trivial⟩, ⟨_, rfl, .of_eq (by rw [← hnx2, e] <;> rfl), trivial⟩, trivial⟩, ⟨(by rw [← hnx2, e] <;> rfl), trivial⟩, rfl⟩
    | some k =>
      have hk := hlki k rfl
      obtain ⟨⟨x0, x1, x2, x3, x4⟩, hx⟩ : ∃ a, ts[k]? = some a := ⟨_, List.getElem?_eq_getElem hk⟩
      obtain ⟨b1, b2⟩ := vD_b hvm
      obtain ⟨b3, b4⟩ := vD_b (hv2 _ (List.mem_of_getElem? hx))
      simp only at b1 b2 b3 b4
      have c3 := wOf m1 b1 b2
      have c4 := wOf x1 b3 b4
      have ex : (ts.map dM)[(ixO (some k)).toNat]? = some (dM (x0, x1, x2, x3, x4)) := ix dM ts k k _ rfl hx
      have h0k : (0 : Int) ≤ ixO (some k) := by show (0 : Int) ≤ k; omega
      have t0 : decide (ixO (some k) < 0) = false := decide_eq_false (by show ¬ ((k : Int) < 0); omega)
      simp only [hx] at hn
      cases t1 : (m3 == x3) <;> cases t2 : (m4 == x4) <;> cases t3 : (m1 == x1)
      · have u3 : (m1 != x1) = true := by rw [bne, t3]; rfl
        have e : nx = zs ++ [(3, m0, m3, x3)] ++ [(4, m0, m4, x4)] ++ [(5, m0, canon m1, canon x1)] := by rw [hn]; simp [brP, t1, t2, t3]
        refine pw_skip ?_; refine pw_seq ?_; refine pw_block ?_; refine pw_seq ?_; refine pw_region ?_; refine yMd rfl ?_; refine yW em (by omega) rfl rfl ?_; refine yLs (ys := [_, _, _, _, _]) rfl rfl rfl ?_
        refine yZ (cs := [_, _, _, _, _]) rfl rfl ?_; refine yAd rfl ?_; refine yS (cs' := [_, _, _, _, _]) rfl rfl rfl rfl rfl ?_; refine yQ ?_; refine pw_seq ?_; refine pw_seq ?_; refine pw_region ?_; refine yMd rfl ?_; refine yMd rfl ?_
        refine yW ep (by omega) rfl rfl ?_; refine yLr rfl rfl ?_; refine yB rfl rfl rfl rfl ?_; refine yQ ?_; refine pw_cf rfl ?_; refine pw_skip ?_; refine pw_seq ?_; refine pw_draw Tryz.mixed (by kernel_rfl) ?_; refine yFb rfl ?_
        refine yLd rfl rfl rfl ?_; refine yMd rfl ?_; refine yMd rfl ?_; refine yW ep (by omega) rfl rfl ?_; refine yLr rfl rfl ?_; refine yW ex h0k rfl rfl ?_; refine yLs (ys := [_, _, _, _, _]) rfl rfl rfl ?_
        refine yZ (cs := [_, _, _, _, _]) rfl rfl ?_; refine yS (cs' := [_, _, _, _, _]) rfl rfl rfl rfl rfl ?_; refine yQ ?_; refine pw_seq ?_; refine pw_seq ?_; refine pw_region ?_; refine yFb rfl ?_; refine yLd rfl rfl rfl ?_
        refine yFb rfl ?_; refine yLd rfl rfl rfl ?_; refine yBsn rfl rfl ?_; refine yQ ?_; refine q_then ?_; rw [t0]; rw [t1]; refine pw_ct rfl ?_; refine pw_region ?_; refine yMg rfl ?_; refine yFb rfl ?_; refine yLd rfl rfl rfl ?_
        refine yFb rfl ?_; refine yLd rfl rfl rfl ?_; refine yFb rfl ?_; refine yLd rfl rfl rfl ?_; refine yCxb (wAdd9 _ (3, m0, m3, x3) (by first | omega | (simp; omega))) rfl rfl ⟨rfl, trivial⟩ ⟨rfl, trivial⟩ ?_ (hfit := by kernel_rfl)
        refine yQ ?_; refine pw_seq ?_; refine pw_seq ?_; refine pw_region ?_; refine yFb rfl ?_; refine yLd rfl rfl rfl ?_; refine yFb rfl ?_; refine yLd rfl rfl rfl ?_; refine yBsn rfl rfl ?_; refine yQ ?_; refine q_then ?_; rw [t2]
        refine pw_ct rfl ?_; refine pw_region ?_; refine yMg rfl ?_; refine yFb rfl ?_; refine yLd rfl rfl rfl ?_; refine yFb rfl ?_; refine yLd rfl rfl rfl ?_; refine yFb rfl ?_; refine yLd rfl rfl rfl ?_
        refine yCxb (wAdd9 _ (4, m0, m4, x4) (by first | omega | (simp; omega))) rfl rfl ⟨rfl, trivial⟩ ⟨rfl, trivial⟩ ?_ (hfit := by kernel_rfl); refine yQ ?_; refine pw_seq ?_; refine pw_region ?_; refine yFb rfl ?_
        refine yLd rfl rfl rfl ?_; refine yFb rfl ?_; refine yLd rfl rfl rfl ?_; refine yB rfl rfl rfl rfl ?_; refine yQ ?_; refine q_then ?_; rw [u3]; refine pw_ct rfl ?_
        refine pw_drawl (id := 18) [_, _, _, _, _, _, _, _, _] _ rfl Tryz.mixed (by kernel_rfl) (by kernel_rfl) ?_; refine yMg rfl ?_; refine yFb rfl ?_; refine yLd rfl rfl rfl ?_; refine yFb rfl ?_; refine yLd rfl rfl rfl ?_
        refine yC (c3) rfl rfl ?_; refine yFb rfl ?_; refine yLd rfl rfl rfl ?_; refine yC (c4) rfl rfl ?_; refine yQ ?_
        refine yCxb (wAdd9 _ (5, m0, canon m1, canon x1) (by first | omega | (simp; omega))) rfl rfl ⟨rfl, trivial⟩ ⟨rfl, trivial⟩ ?_ (hfit := by kernel_rfl); refine yQ ?_; refine pw_region ?_; refine yB rfl rfl rfl rfl ?_
        refine yMd rfl ?_; refine yQ ?_; refine q_then ?_
        refine ⟨i + 1, by omega, by omega, rfl, ⟨.refl _, .refl _, .refl _, .refl _, .refl _, .refl _, .refl _, .refl _, .of_eq (congrArg (fun n => SV.d (dI n)) hw), trivial⟩, ⟨⟨_, rfl, .refl _, .refl _, .refl _, trivial⟩, ⟨_, rfl, .refl _, .refl _, .refl _, trivial⟩, ⟨_, rfl, .of_eq (by rw [← hnx2, e] <;> rfl), trivial⟩, trivial⟩, ⟨(by rw [← hnx2, e] <;> rfl), trivial⟩, rfl⟩
      · have u3 : (m1 != x1) = false := by rw [bne, t3]; rfl
        have e : nx = zs ++ [(3, m0, m3, x3)] ++ [(4, m0, m4, x4)] := by rw [hn]; simp [brP, t1, t2, t3]
        refine pw_skip ?_; refine pw_seq ?_; refine pw_block ?_; refine pw_seq ?_; refine pw_region ?_; refine yMd rfl ?_; refine yW em (by omega) rfl rfl ?_; refine yLs (ys := [_, _, _, _, _]) rfl rfl rfl ?_
        refine yZ (cs := [_, _, _, _, _]) rfl rfl ?_; refine yAd rfl ?_; refine yS (cs' := [_, _, _, _, _]) rfl rfl rfl rfl rfl ?_; refine yQ ?_; refine pw_seq ?_; refine pw_seq ?_; refine pw_region ?_; refine yMd rfl ?_; refine yMd rfl ?_
        refine yW ep (by omega) rfl rfl ?_; refine yLr rfl rfl ?_; refine yB rfl rfl rfl rfl ?_; refine yQ ?_; refine pw_cf rfl ?_; refine pw_skip ?_; refine pw_seq ?_; refine pw_draw Tryz.mixed (by kernel_rfl) ?_; refine yFb rfl ?_
        refine yLd rfl rfl rfl ?_; refine yMd rfl ?_; refine yMd rfl ?_; refine yW ep (by omega) rfl rfl ?_; refine yLr rfl rfl ?_; refine yW ex h0k rfl rfl ?_; refine yLs (ys := [_, _, _, _, _]) rfl rfl rfl ?_
        refine yZ (cs := [_, _, _, _, _]) rfl rfl ?_; refine yS (cs' := [_, _, _, _, _]) rfl rfl rfl rfl rfl ?_; refine yQ ?_; refine pw_seq ?_; refine pw_seq ?_; refine pw_region ?_; refine yFb rfl ?_; refine yLd rfl rfl rfl ?_
        refine yFb rfl ?_; refine yLd rfl rfl rfl ?_; refine yBsn rfl rfl ?_; refine yQ ?_; refine q_then ?_; rw [t0]; rw [t1]; refine pw_ct rfl ?_; refine pw_region ?_; refine yMg rfl ?_; refine yFb rfl ?_; refine yLd rfl rfl rfl ?_
        refine yFb rfl ?_; refine yLd rfl rfl rfl ?_; refine yFb rfl ?_; refine yLd rfl rfl rfl ?_; refine yCxb (wAdd9 _ (3, m0, m3, x3) (by first | omega | (simp; omega))) rfl rfl ⟨rfl, trivial⟩ ⟨rfl, trivial⟩ ?_ (hfit := by kernel_rfl)
        refine yQ ?_; refine pw_seq ?_; refine pw_seq ?_; refine pw_region ?_; refine yFb rfl ?_; refine yLd rfl rfl rfl ?_; refine yFb rfl ?_; refine yLd rfl rfl rfl ?_; refine yBsn rfl rfl ?_; refine yQ ?_; refine q_then ?_; rw [t2]
        refine pw_ct rfl ?_; refine pw_region ?_; refine yMg rfl ?_; refine yFb rfl ?_; refine yLd rfl rfl rfl ?_; refine yFb rfl ?_; refine yLd rfl rfl rfl ?_; refine yFb rfl ?_; refine yLd rfl rfl rfl ?_
        refine yCxb (wAdd9 _ (4, m0, m4, x4) (by first | omega | (simp; omega))) rfl rfl ⟨rfl, trivial⟩ ⟨rfl, trivial⟩ ?_ (hfit := by kernel_rfl); refine yQ ?_; refine pw_seq ?_; refine pw_region ?_; refine yFb rfl ?_
        refine yLd rfl rfl rfl ?_; refine yFb rfl ?_; refine yLd rfl rfl rfl ?_; refine yB rfl rfl rfl rfl ?_; refine yQ ?_; refine q_then ?_; rw [u3]; refine pw_cf rfl ?_; refine pw_skip ?_; refine pw_region ?_
        refine yB rfl rfl rfl rfl ?_; refine yMd rfl ?_; refine yQ ?_; refine q_then ?_
        refine ⟨i + 1, by omega, by omega, rfl, ⟨.refl _, .refl _, .refl _, .refl _, .refl _, .refl _, .refl _, .refl _, .of_eq (congrArg (fun n => SV.d (dI n)) hw), trivial⟩, ⟨⟨_, rfl, .refl _, .refl _, .refl _, trivial⟩, ⟨_, rfl, .refl _, .refl _, .refl _, trivial⟩, ⟨_, rfl, .of_eq (by rw [← hnx2, e] <;> rfl), trivial⟩, trivial⟩, ⟨(by rw [← hnx2, e] <;> rfl), trivial⟩, rfl⟩
      · have u3 : (m1 != x1) = true := by rw [bne, t3]; rfl
        have e : nx = zs ++ [(3, m0, m3, x3)] ++ [(5, m0, canon m1, canon x1)] := by rw [hn]; simp [brP, t1, t2, t3]
        refine pw_skip ?_; refine pw_seq ?_; refine pw_block ?_; refine pw_seq ?_; refine pw_region ?_; refine yMd rfl ?_; refine yW em (by omega) rfl rfl ?_; refine yLs (ys := [_, _, _, _, _]) rfl rfl rfl ?_
        refine yZ (cs := [_, _, _, _, _]) rfl rfl ?_; refine yAd rfl ?_; refine yS (cs' := [_, _, _, _, _]) rfl rfl rfl rfl rfl ?_; refine yQ ?_; refine pw_seq ?_; refine pw_seq ?_; refine pw_region ?_; refine yMd rfl ?_; refine yMd rfl ?_
        refine yW ep (by omega) rfl rfl ?_; refine yLr rfl rfl ?_; refine yB rfl rfl rfl rfl ?_; refine yQ ?_; refine pw_cf rfl ?_; refine pw_skip ?_; refine pw_seq ?_; refine pw_draw Tryz.mixed (by kernel_rfl) ?_; refine yFb rfl ?_
        refine yLd rfl rfl rfl ?_; refine yMd rfl ?_; refine yMd rfl ?_; refine yW ep (by omega) rfl rfl ?_; refine yLr rfl rfl ?_; refine yW ex h0k rfl rfl ?_; refine yLs (ys := [_, _, _, _, _]) rfl rfl rfl ?_
        refine yZ (cs := [_, _, _, _, _]) rfl rfl ?_; refine yS (cs' := [_, _, _, _, _]) rfl rfl rfl rfl rfl ?_; refine yQ ?_; refine pw_seq ?_; refine pw_seq ?_; refine pw_region ?_; refine yFb rfl ?_; refine yLd rfl rfl rfl ?_
        refine yFb rfl ?_; refine yLd rfl rfl rfl ?_; refine yBsn rfl rfl ?_; refine yQ ?_; refine q_then ?_; rw [t0]; rw [t1]; refine pw_ct rfl ?_; refine pw_region ?_; refine yMg rfl ?_; refine yFb rfl ?_; refine yLd rfl rfl rfl ?_
        refine yFb rfl ?_; refine yLd rfl rfl rfl ?_; refine yFb rfl ?_; refine yLd rfl rfl rfl ?_; refine yCxb (wAdd9 _ (3, m0, m3, x3) (by first | omega | (simp; omega))) rfl rfl ⟨rfl, trivial⟩ ⟨rfl, trivial⟩ ?_ (hfit := by kernel_rfl)
        refine yQ ?_; refine pw_seq ?_; refine pw_seq ?_; refine pw_region ?_; refine yFb rfl ?_; refine yLd rfl rfl rfl ?_; refine yFb rfl ?_; refine yLd rfl rfl rfl ?_; refine yBsn rfl rfl ?_; refine yQ ?_; refine q_then ?_; rw [t2]
        refine pw_cf rfl ?_; refine pw_skip ?_; refine pw_seq ?_; refine pw_region ?_; refine yFb rfl ?_; refine yLd rfl rfl rfl ?_; refine yFb rfl ?_; refine yLd rfl rfl rfl ?_; refine yB rfl rfl rfl rfl ?_; refine yQ ?_; refine q_then ?_
        rw [u3]; refine pw_ct rfl ?_; refine pw_drawl (id := 18) [_, _, _, _, _, _, _, _, _] _ rfl Tryz.mixed (by kernel_rfl) (by kernel_rfl) ?_; refine yMg rfl ?_; refine yFb rfl ?_; refine yLd rfl rfl rfl ?_; refine yFb rfl ?_
        refine yLd rfl rfl rfl ?_; refine yC (c3) rfl rfl ?_; refine yFb rfl ?_; refine yLd rfl rfl rfl ?_; refine yC (c4) rfl rfl ?_; refine yQ ?_
        refine yCxb (wAdd9 _ (5, m0, canon m1, canon x1) (by first | omega | (simp; omega))) rfl rfl ⟨rfl, trivial⟩ ⟨rfl, trivial⟩ ?_ (hfit := by kernel_rfl); refine yQ ?_; refine pw_region ?_; refine yB rfl rfl rfl rfl ?_
        refine yMd rfl ?_; refine yQ ?_; refine q_then ?_
        refine ⟨i + 1, by omega, by omega, rfl, ⟨.refl _, .refl _, .refl _, .refl _, .refl _, .refl _, .refl _, .refl _, .of_eq (congrArg (fun n => SV.d (dI n)) hw), trivial⟩, ⟨⟨_, rfl, .refl _, .refl _, .refl _, trivial⟩, ⟨_, rfl, .refl _, .refl _, .refl _, trivial⟩, ⟨_, rfl, .of_eq (by rw [← hnx2, e] <;> rfl), trivial⟩, trivial⟩, ⟨(by rw [← hnx2, e] <;> rfl), trivial⟩, rfl⟩
      · have u3 : (m1 != x1) = false := by rw [bne, t3]; rfl
        have e : nx = zs ++ [(3, m0, m3, x3)] := by rw [hn]; simp [brP, t1, t2, t3]
        refine pw_skip ?_; refine pw_seq ?_; refine pw_block ?_; refine pw_seq ?_; refine pw_region ?_; refine yMd rfl ?_; refine yW em (by omega) rfl rfl ?_; refine yLs (ys := [_, _, _, _, _]) rfl rfl rfl ?_
        refine yZ (cs := [_, _, _, _, _]) rfl rfl ?_; refine yAd rfl ?_; refine yS (cs' := [_, _, _, _, _]) rfl rfl rfl rfl rfl ?_; refine yQ ?_; refine pw_seq ?_; refine pw_seq ?_; refine pw_region ?_; refine yMd rfl ?_; refine yMd rfl ?_
        refine yW ep (by omega) rfl rfl ?_; refine yLr rfl rfl ?_; refine yB rfl rfl rfl rfl ?_; refine yQ ?_; refine pw_cf rfl ?_; refine pw_skip ?_; refine pw_seq ?_; refine pw_draw Tryz.mixed (by kernel_rfl) ?_; refine yFb rfl ?_
        refine yLd rfl rfl rfl ?_; refine yMd rfl ?_; refine yMd rfl ?_; refine yW ep (by omega) rfl rfl ?_; refine yLr rfl rfl ?_; refine yW ex h0k rfl rfl ?_; refine yLs (ys := [_, _, _, _, _]) rfl rfl rfl ?_
        refine yZ (cs := [_, _, _, _, _]) rfl rfl ?_; refine yS (cs' := [_, _, _, _, _]) rfl rfl rfl rfl rfl ?_; refine yQ ?_; refine pw_seq ?_; refine pw_seq ?_; refine pw_region ?_; refine yFb rfl ?_; refine yLd rfl rfl rfl ?_
        refine yFb rfl ?_; refine yLd rfl rfl rfl ?_; refine yBsn rfl rfl ?_; refine yQ ?_; refine q_then ?_; rw [t0]; rw [t1]; refine pw_ct rfl ?_; refine pw_region ?_; refine yMg rfl ?_; refine yFb rfl ?_; refine yLd rfl rfl rfl ?_
        refine yFb rfl ?_; refine yLd rfl rfl rfl ?_; refine yFb rfl ?_; refine yLd rfl rfl rfl ?_; refine yCxb (wAdd9 _ (3, m0, m3, x3) (by first | omega | (simp; omega))) rfl rfl ⟨rfl, trivial⟩ ⟨rfl, trivial⟩ ?_ (hfit := by kernel_rfl)
        refine yQ ?_; refine pw_seq ?_; refine pw_seq ?_; refine pw_region ?_; refine yFb rfl ?_; refine yLd rfl rfl rfl ?_; refine yFb rfl ?_; refine yLd rfl rfl rfl ?_; refine yBsn rfl rfl ?_; refine yQ ?_; refine q_then ?_; rw [t2]
        refine pw_cf rfl ?_; refine pw_skip ?_; refine pw_seq ?_; refine pw_region ?_; refine yFb rfl ?_; refine yLd rfl rfl rfl ?_; refine yFb rfl ?_; refine yLd rfl rfl rfl ?_; refine yB rfl rfl rfl rfl ?_; refine yQ ?_; refine q_then ?_
        rw [u3]; refine pw_cf rfl ?_; refine pw_skip ?_; refine pw_region ?_; refine yB rfl rfl rfl rfl ?_; refine yMd rfl ?_; refine yQ ?_; refine q_then ?_
        refine ⟨i + 1, by omega, by omega, rfl, ⟨.refl _, .refl _, .refl _, .refl _, .refl _, .refl _, .refl _, .refl _, .of_eq (congrArg (fun n => SV.d (dI n)) hw), trivial⟩, ⟨⟨_, rfl, .refl _, .refl _, .refl _, trivial⟩, ⟨_, rfl, .refl _, .refl _, .refl _, trivial⟩, ⟨_, rfl, .of_eq (by rw [← hnx2, e] <;> rfl), trivial⟩, trivial⟩, ⟨(by rw [← hnx2, e] <;> rfl), trivial⟩, rfl⟩
      · have u3 : (m1 != x1) = true := by rw [bne, t3]; rfl
        have e : nx = zs ++ [(4, m0, m4, x4)] ++ [(5, m0, canon m1, canon x1)] := by rw [hn]; simp [brP, t1, t2, t3]
        refine pw_skip ?_; refine pw_seq ?_; refine pw_block ?_; refine pw_seq ?_; refine pw_region ?_; refine yMd rfl ?_; refine yW em (by omega) rfl rfl ?_; refine yLs (ys := [_, _, _, _, _]) rfl rfl rfl ?_
        refine yZ (cs := [_, _, _, _, _]) rfl rfl ?_; refine yAd rfl ?_; refine yS (cs' := [_, _, _, _, _]) rfl rfl rfl rfl rfl ?_; refine yQ ?_; refine pw_seq ?_; refine pw_seq ?_; refine pw_region ?_; refine yMd rfl ?_; refine yMd rfl ?_
        refine yW ep (by omega) rfl rfl ?_; refine yLr rfl rfl ?_; refine yB rfl rfl rfl rfl ?_; refine yQ ?_; refine pw_cf rfl ?_; refine pw_skip ?_; refine pw_seq ?_; refine pw_draw Tryz.mixed (by kernel_rfl) ?_; refine yFb rfl ?_
        refine yLd rfl rfl rfl ?_; refine yMd rfl ?_; refine yMd rfl ?_; refine yW ep (by omega) rfl rfl ?_; refine yLr rfl rfl ?_; refine yW ex h0k rfl rfl ?_; refine yLs (ys := [_, _, _, _, _]) rfl rfl rfl ?_
        refine yZ (cs := [_, _, _, _, _]) rfl rfl ?_; refine yS (cs' := [_, _, _, _, _]) rfl rfl rfl rfl rfl ?_; refine yQ ?_; refine pw_seq ?_; refine pw_seq ?_; refine pw_region ?_; refine yFb rfl ?_; refine yLd rfl rfl rfl ?_
        refine yFb rfl ?_; refine yLd rfl rfl rfl ?_; refine yBsn rfl rfl ?_; refine yQ ?_; refine q_then ?_; rw [t0]; rw [t1]; refine pw_cf rfl ?_; refine pw_skip ?_; refine pw_seq ?_; refine pw_seq ?_; refine pw_region ?_
        refine yFb rfl ?_; refine yLd rfl rfl rfl ?_; refine yFb rfl ?_; refine yLd rfl rfl rfl ?_; refine yBsn rfl rfl ?_; refine yQ ?_; refine q_then ?_; rw [t2]; refine pw_ct rfl ?_; refine pw_region ?_; refine yMg rfl ?_
        refine yFb rfl ?_; refine yLd rfl rfl rfl ?_; refine yFb rfl ?_; refine yLd rfl rfl rfl ?_; refine yFb rfl ?_; refine yLd rfl rfl rfl ?_
        refine yCxb (wAdd9 _ (4, m0, m4, x4) (by first | omega | (simp; omega))) rfl rfl ⟨rfl, trivial⟩ ⟨rfl, trivial⟩ ?_ (hfit := by kernel_rfl); refine yQ ?_; refine pw_seq ?_; refine pw_region ?_; refine yFb rfl ?_
        refine yLd rfl rfl rfl ?_; refine yFb rfl ?_; refine yLd rfl rfl rfl ?_; refine yB rfl rfl rfl rfl ?_; refine yQ ?_; refine q_then ?_; rw [u3]; refine pw_ct rfl ?_
        refine pw_drawl (id := 18) [_, _, _, _, _, _, _, _, _] _ rfl Tryz.mixed (by kernel_rfl) (by kernel_rfl) ?_; refine yMg rfl ?_; refine yFb rfl ?_; refine yLd rfl rfl rfl ?_; refine yFb rfl ?_; refine yLd rfl rfl rfl ?_
        refine yC (c3) rfl rfl ?_; refine yFb rfl ?_; refine yLd rfl rfl rfl ?_; refine yC (c4) rfl rfl ?_; refine yQ ?_
        refine yCxb (wAdd9 _ (5, m0, canon m1, canon x1) (by first | omega | (simp; omega))) rfl rfl ⟨rfl, trivial⟩ ⟨rfl, trivial⟩ ?_ (hfit := by kernel_rfl); refine yQ ?_; refine pw_region ?_; refine yB rfl rfl rfl rfl ?_
        refine yMd rfl ?_; refine yQ ?_; refine q_then ?_
        refine ⟨i + 1, by omega, by omega, rfl, ⟨.refl _, .refl _, .refl _, .refl _, .refl _, .refl _, .refl _, .refl _, .of_eq (congrArg (fun n => SV.d (dI n)) hw), trivial⟩, ⟨⟨_, rfl, .refl _, .refl _, .refl _, trivial⟩, ⟨_, rfl, .refl _, .refl _, .refl _, trivial⟩, ⟨_, rfl, .of_eq (by rw [← hnx2, e] <;> rfl), trivial⟩, trivial⟩, ⟨(by rw [← hnx2, e] <;> rfl), trivial⟩, rfl⟩
      · have u3 : (m1 != x1) = false := by rw [bne, t3]; rfl
        have e : nx = zs ++ [(4, m0, m4, x4)] := by rw [hn]; simp [brP, t1, t2, t3]
        refine pw_skip ?_; refine pw_seq ?_; refine pw_block ?_; refine pw_seq ?_; refine pw_region ?_; refine yMd rfl ?_; refine yW em (by omega) rfl rfl ?_; refine yLs (ys := [_, _, _, _, _]) rfl rfl rfl ?_
        refine yZ (cs := [_, _, _, _, _]) rfl rfl ?_; refine yAd rfl ?_; refine yS (cs' := [_, _, _, _, _]) rfl rfl rfl rfl rfl ?_; refine yQ ?_; refine pw_seq ?_; refine pw_seq ?_; refine pw_region ?_; refine yMd rfl ?_; refine yMd rfl ?_
        refine yW ep (by omega) rfl rfl ?_; refine yLr rfl rfl ?_; refine yB rfl rfl rfl rfl ?_; refine yQ ?_; refine pw_cf rfl ?_; refine pw_skip ?_; refine pw_seq ?_; refine pw_draw Tryz.mixed (by kernel_rfl) ?_; refine yFb rfl ?_
        refine yLd rfl rfl rfl ?_; refine yMd rfl ?_; refine yMd rfl ?_; refine yW ep (by omega) rfl rfl ?_; refine yLr rfl rfl ?_; refine yW ex h0k rfl rfl ?_; refine yLs (ys := [_, _, _, _, _]) rfl rfl rfl ?_
        refine yZ (cs := [_, _, _, _, _]) rfl rfl ?_; refine yS (cs' := [_, _, _, _, _]) rfl rfl rfl rfl rfl ?_; refine yQ ?_; refine pw_seq ?_; refine pw_seq ?_; refine pw_region ?_; refine yFb rfl ?_; refine yLd rfl rfl rfl ?_
        refine yFb rfl ?_; refine yLd rfl rfl rfl ?_; refine yBsn rfl rfl ?_; refine yQ ?_; refine q_then ?_; rw [t0]; rw [t1]; refine pw_cf rfl ?_; refine pw_skip ?_; refine pw_seq ?_; refine pw_seq ?_; refine pw_region ?_
        refine yFb rfl ?_; refine yLd rfl rfl rfl ?_; refine yFb rfl ?_; refine yLd rfl rfl rfl ?_; refine yBsn rfl rfl ?_; refine yQ ?_; refine q_then ?_; rw [t2]; refine pw_ct rfl ?_; refine pw_region ?_; refine yMg rfl ?_
        refine yFb rfl ?_; refine yLd rfl rfl rfl ?_; refine yFb rfl ?_; refine yLd rfl rfl rfl ?_; refine yFb rfl ?_; refine yLd rfl rfl rfl ?_
        refine yCxb (wAdd9 _ (4, m0, m4, x4) (by first | omega | (simp; omega))) rfl rfl ⟨rfl, trivial⟩ ⟨rfl, trivial⟩ ?_ (hfit := by kernel_rfl); refine yQ ?_; refine pw_seq ?_; refine pw_region ?_; refine yFb rfl ?_
        refine yLd rfl rfl rfl ?_; refine yFb rfl ?_; refine yLd rfl rfl rfl ?_; refine yB rfl rfl rfl rfl ?_; refine yQ ?_; refine q_then ?_; rw [u3]; refine pw_cf rfl ?_; refine pw_skip ?_; refine pw_region ?_
        refine yB rfl rfl rfl rfl ?_; refine yMd rfl ?_; refine yQ ?_; refine q_then ?_
        refine ⟨i + 1, by omega, by omega, rfl, ⟨.refl _, .refl _, .refl _, .refl _, .refl _, .refl _, .refl _, .refl _, .of_eq (congrArg (fun n => SV.d (dI n)) hw), trivial⟩, ⟨⟨_, rfl, .refl _, .refl _, .refl _, trivial⟩, ⟨_, rfl, .refl _, .refl _, .refl _, trivial⟩, ⟨_, rfl, .of_eq (by rw [← hnx2, e] <;> rfl), trivial⟩, trivial⟩, ⟨(by rw [← hnx2, e] <;> rfl), trivial⟩, rfl⟩
      · have u3 : (m1 != x1) = true := by rw [bne, t3]; rfl
        have e : nx = zs ++ [(5, m0, canon m1, canon x1)] := by rw [hn]; simp [brP, t1, t2, t3]
        refine pw_skip ?_; refine pw_seq ?_; refine pw_block ?_; refine pw_seq ?_; refine pw_region ?_; refine yMd rfl ?_; refine yW em (by omega) rfl rfl ?_; refine yLs (ys := [_, _, _, _, _]) rfl rfl rfl ?_
        refine yZ (cs := [_, _, _, _, _]) rfl rfl ?_; refine yAd rfl ?_; refine yS (cs' := [_, _, _, _, _]) rfl rfl rfl rfl rfl ?_; refine yQ ?_; refine pw_seq ?_; refine pw_seq ?_; refine pw_region ?_; refine yMd rfl ?_; refine yMd rfl ?_
        refine yW ep (by omega) rfl rfl ?_; refine yLr rfl rfl ?_; refine yB rfl rfl rfl rfl ?_; refine yQ ?_; refine pw_cf rfl ?_; refine pw_skip ?_; refine pw_seq ?_; refine pw_draw Tryz.mixed (by kernel_rfl) ?_; refine yFb rfl ?_
        refine yLd rfl rfl rfl ?_; refine yMd rfl ?_; refine yMd rfl ?_; refine yW ep (by omega) rfl rfl ?_; refine yLr rfl rfl ?_; refine yW ex h0k rfl rfl ?_; refine yLs (ys := [_, _, _, _, _]) rfl rfl rfl ?_
        refine yZ (cs := [_, _, _, _, _]) rfl rfl ?_; refine yS (cs' := [_, _, _, _, _]) rfl rfl rfl rfl rfl ?_; refine yQ ?_; refine pw_seq ?_; refine pw_seq ?_; refine pw_region ?_; refine yFb rfl ?_; refine yLd rfl rfl rfl ?_
        refine yFb rfl ?_; refine yLd rfl rfl rfl ?_; refine yBsn rfl rfl ?_; refine yQ ?_; refine q_then ?_; rw [t0]; rw [t1]; refine pw_cf rfl ?_; refine pw_skip ?_; refine pw_seq ?_; refine pw_seq ?_; refine pw_region ?_
        refine yFb rfl ?_; refine yLd rfl rfl rfl ?_; refine yFb rfl ?_; refine yLd rfl rfl rfl ?_; refine yBsn rfl rfl ?_; refine yQ ?_; refine q_then ?_; rw [t2]; refine pw_cf rfl ?_; refine pw_skip ?_; refine pw_seq ?_
        refine pw_region ?_; refine yFb rfl ?_; refine yLd rfl rfl rfl ?_; refine yFb rfl ?_; refine yLd rfl rfl rfl ?_; refine yB rfl rfl rfl rfl ?_; refine yQ ?_; refine q_then ?_; rw [u3]; refine pw_ct rfl ?_
        refine pw_drawl (id := 18) [_, _, _, _, _, _, _, _, _] _ rfl Tryz.mixed (by kernel_rfl) (by kernel_rfl) ?_; refine yMg rfl ?_; refine yFb rfl ?_; refine yLd rfl rfl rfl ?_; refine yFb rfl ?_; refine yLd rfl rfl rfl ?_
        refine yC (c3) rfl rfl ?_; refine yFb rfl ?_; refine yLd rfl rfl rfl ?_; refine yC (c4) rfl rfl ?_; refine yQ ?_
        refine yCxb (wAdd9 _ (5, m0, canon m1, canon x1) (by first | omega | (simp; omega))) rfl rfl ⟨rfl, trivial⟩ ⟨rfl, trivial⟩ ?_ (hfit := by kernel_rfl); refine yQ ?_; refine pw_region ?_; refine yB rfl rfl rfl rfl ?_
        refine yMd rfl ?_; refine yQ ?_; refine q_then ?_
        refine ⟨i + 1, by omega, by omega, rfl, ⟨.refl _, .refl _, .refl _, .refl _, .refl _, .refl _, .refl _, .refl _, .of_eq (congrArg (fun n => SV.d (dI n)) hw), trivial⟩, ⟨⟨_, rfl, .refl _, .refl _, .refl _, trivial⟩, ⟨_, rfl, .refl _, .refl _, .refl _, trivial⟩, ⟨_, rfl, .of_eq (by rw [← hnx2, e] <;> rfl), trivial⟩, trivial⟩, ⟨(by rw [← hnx2, e] <;> rfl), trivial⟩, rfl⟩
      · have u3 : (m1 != x1) = false := by rw [bne, t3]; rfl
        have e : nx = zs := by rw [hn]; simp [brP, t1, t2, t3]
        refine pw_skip ?_; refine pw_seq ?_; refine pw_block ?_; refine pw_seq ?_; refine pw_region ?_; refine yMd rfl ?_; refine yW em (by omega) rfl rfl ?_; refine yLs (ys := [_, _, _, _, _]) rfl rfl rfl ?_
        refine yZ (cs := [_, _, _, _, _]) rfl rfl ?_; refine yAd rfl ?_; refine yS (cs' := [_, _, _, _, _]) rfl rfl rfl rfl rfl ?_; refine yQ ?_; refine pw_seq ?_; refine pw_seq ?_; refine pw_region ?_; refine yMd rfl ?_; refine yMd rfl ?_
        refine yW ep (by omega) rfl rfl ?_; refine yLr rfl rfl ?_; refine yB rfl rfl rfl rfl ?_; refine yQ ?_; refine pw_cf rfl ?_; refine pw_skip ?_; refine pw_seq ?_; refine pw_draw Tryz.mixed (by kernel_rfl) ?_; refine yFb rfl ?_
        refine yLd rfl rfl rfl ?_; refine yMd rfl ?_; refine yMd rfl ?_; refine yW ep (by omega) rfl rfl ?_; refine yLr rfl rfl ?_; refine yW ex h0k rfl rfl ?_; refine yLs (ys := [_, _, _, _, _]) rfl rfl rfl ?_
        refine yZ (cs := [_, _, _, _, _]) rfl rfl ?_; refine yS (cs' := [_, _, _, _, _]) rfl rfl rfl rfl rfl ?_; refine yQ ?_; refine pw_seq ?_; refine pw_seq ?_; refine pw_region ?_; refine yFb rfl ?_; refine yLd rfl rfl rfl ?_
        refine yFb rfl ?_; refine yLd rfl rfl rfl ?_; refine yBsn rfl rfl ?_; refine yQ ?_; refine q_then ?_; rw [t0]; rw [t1]; refine pw_cf rfl ?_; refine pw_skip ?_; refine pw_seq ?_; refine pw_seq ?_; refine pw_region ?_
        refine yFb rfl ?_; refine yLd rfl rfl rfl ?_; refine yFb rfl ?_; refine yLd rfl rfl rfl ?_; refine yBsn rfl rfl ?_; refine yQ ?_; refine q_then ?_; rw [t2]; refine pw_cf rfl ?_; refine pw_skip ?_; refine pw_seq ?_
        refine pw_region ?_; refine yFb rfl ?_; refine yLd rfl rfl rfl ?_; refine yFb rfl ?_; refine yLd rfl rfl rfl ?_; refine yB rfl rfl rfl rfl ?_; refine yQ ?_; refine q_then ?_; rw [u3]; refine pw_cf rfl ?_; refine pw_skip ?_
        refine pw_region ?_; refine yB rfl rfl rfl rfl ?_; refine yMd rfl ?_; refine yQ ?_; refine q_then ?_
        refine ⟨i + 1, by omega, by omega, rfl, ⟨.refl _, .refl _, .refl _, .refl _, .refl _, .refl _, .refl _, .refl _, .of_eq (congrArg (fun n => SV.d (dI n)) hw), trivial⟩, ⟨⟨_, rfl, .refl _, .refl _, .refl _, trivial⟩, ⟨_, rfl, .refl _, .refl _, .refl _, trivial⟩, ⟨_, rfl, .of_eq (by rw [← hnx2, e] <;> rfl), trivial⟩, trivial⟩, ⟨(by rw [← hnx2, e] <;> rfl), trivial⟩, rfl⟩
  simp at h
  have hA := hend (by omega)
  rw [hA] at hr
  clear hA hend hnx
  refine pw_exit ?_; refine pw_seq ?_; refine pw_seq ?_; refine pw_region ?_; refine yFb rfl ?_; refine yLd rfl rfl rfl ?_; refine yN rfl ?_; refine yMd rfl ?_; refine yQ ?_; refine pw_block ?_
  refine pw_loop (fun k : Nat => ⟨168, [(4, .bx 4 0), (9, .bx 9 0), (10, .fb 44 9 0), (12, .d (.sl 1 (tk.map dBl))), (106, .d (.sl 5 (ts.map dM))), (107, .d (dI ts.length)), (108, .d (dI k))], [(4, [.d (dI d2), .d (.sl 2 (hs2.map dH)), .d (.sl 5 (ts.map dM))]), (9, [.ts bkT 4 ((zs ++ mbB ts (tkn tk) k).map dBk)])], [(bkT, ((zs ++ mbB ts (tkn tk) k).map dBk).length)]⟩) (fun k => k ≤ ts.length) (fun k => ts.length - k) 0 (Nat.zero_le _)
    ⟨rfl, ⟨.refl _, .refl _, .refl _, .refl _, .refl _, .of_eq (congrArg (fun n : Nat => SV.d (dI n)) (by simp)), .refl _, trivial⟩, ⟨⟨_, rfl, .refl _, .refl _, .refl _, trivial⟩, ⟨_, rfl, .of_eq (by simp [mbB]), trivial⟩, trivial⟩, ⟨(by simp [mbB]; rfl), trivial⟩, rfl⟩ ?_
  intro k hk
  have hnx : ∀ x, ts[k]? = some x → mbB ts (tkn tk) (k + 1) = if tkn tk k then mbB ts (tkn tk) k else mbB ts (tkn tk) k ++ [(dcl (dbN (tkn tk) ts x ts.length), x.1, [], x.2.2.2.1)] := fun x hx => by rw [mbB, hx]; rfl
  have hlb := mbB_len ts (tkn tk) k
  obtain ⟨nx, hnx2⟩ : ∃ o, o = mbB ts (tkn tk) (k + 1) := ⟨_, rfl⟩
  have hend : k = ts.length → r = zs ++ mbB ts (tkn tk) k := fun e => by rw [hr, e]
  obtain ⟨ys, hys⟩ : ∃ o, o = mbB ts (tkn tk) k := ⟨_, rfl⟩
  simp only [← hys, ← hnx2] at hnx hlb hend
  rw [← hys]
  refine pw_seq ?_; refine pw_region ?_; refine yB rfl rfl rfl rfl ?_; refine yQ ?_; refine pw_seq ?_
  refine pw_cond rfl (fun h => ?_) (fun h => ?_)
  · simp at h
    obtain ⟨⟨x0, x1, x2, x3, x4⟩, hx⟩ : ∃ a, ts[k]? = some a := ⟨_, List.getElem?_eq_getElem h⟩
    have ex := ix dM ts k k (x0, x1, x2, x3, x4) rfl hx
    have hw := wrapI ((k : Int) + 1) (by omega)
    have hn := hnx _ hx
    have et := tk_at' (tk := tk) (k := k) (by omega)
    obtain ⟨b, hb⟩ : ∃ b, b = tkn tk k := ⟨_, rfl⟩
    rw [← hb] at et hn
    cases b with
    | true =>
      have e : nx = ys := hn
      refine pw_skip ?_; refine pw_seq ?_; refine pw_block ?_; refine pw_seq ?_; refine pw_region ?_; refine yMd rfl ?_; refine yW ex (by omega) rfl rfl ?_; refine yLs (ys := [_, _, _, _, _]) rfl rfl rfl ?_
      refine yZ (cs := [_, _, _, _, _]) rfl rfl ?_; refine yAd rfl ?_; refine yS (cs' := [_, _, _, _, _]) rfl rfl rfl rfl rfl ?_; refine yQ ?_; refine pw_seq ?_; refine pw_seq ?_; refine pw_region ?_; refine yMd rfl ?_; refine yMd rfl ?_
      refine yW et (by omega) rfl rfl ?_; refine yLr rfl rfl ?_; refine yQ ?_; refine pw_ct rfl ?_; refine pw_exit ?_; refine pw_region ?_; refine yB rfl rfl rfl rfl ?_; refine yMd rfl ?_; refine yQ ?_; refine q_then ?_
      refine ⟨k + 1, by omega, by omega, rfl, ⟨.refl _, .refl _, .refl _, .refl _, .refl _, .refl _, .of_eq (congrArg (fun n => SV.d (dI n)) hw), trivial⟩, ⟨⟨_, rfl, .refl _, .refl _, .refl _, trivial⟩, ⟨_, rfl, .of_eq (by rw [← hnx2, e] <;> rfl), trivial⟩, trivial⟩, ⟨(by rw [← hnx2, e] <;> rfl), trivial⟩, rfl⟩
    | false =>
      have e : nx = ys ++ [(dcl (dbN (tkn tk) ts (x0, x1, x2, x3, x4) ts.length), x0, [], x3)] := hn
      refine pw_skip ?_; refine pw_seq ?_; refine pw_block ?_; refine pw_seq ?_; refine pw_region ?_; refine yMd rfl ?_; refine yW ex (by omega) rfl rfl ?_; refine yLs (ys := [_, _, _, _, _]) rfl rfl rfl ?_
      refine yZ (cs := [_, _, _, _, _]) rfl rfl ?_; refine yAd rfl ?_; refine yS (cs' := [_, _, _, _, _]) rfl rfl rfl rfl rfl ?_; refine yQ ?_; refine pw_seq ?_; refine pw_seq ?_; refine pw_region ?_; refine yMd rfl ?_; refine yMd rfl ?_
      refine yW et (by omega) rfl rfl ?_; refine yLr rfl rfl ?_; refine yQ ?_; refine pw_cf rfl ?_; refine pw_skip ?_; refine pw_seq ?_; refine pw_region ?_; refine yAd rfl ?_; refine yQ ?_; refine pw_seq ?_; refine pw_seq ?_
      refine pw_region ?_; refine yFb rfl ?_; refine yLd rfl rfl rfl ?_; refine yN rfl ?_; refine yMd rfl ?_; refine yQ ?_; refine pw_block ?_
      refine pw_loop (fun n : Nat => ⟨168, [(4, .bx 4 0), (9, .bx 9 0), (10, .fb 44 9 0), (12, .d (.sl 1 (tk.map dBl))), (17, .bx 17 0), (18, .d (dI (dcl (dbN (tkn tk) ts (x0, x1, x2, x3, x4) n)))), (106, .d (.sl 5 (ts.map dM))), (107, .d (dI ts.length)), (108, .d (dI k)), (118, .d (.sl 5 (ts.map dM))), (119, .d (dI ts.length)), (120, .d (dI n))], [(4, [.d (dI d2), .d (.sl 2 (hs2.map dH)), .d (.sl 5 (ts.map dM))]), (9, [.ts bkT 4 ((zs ++ ys).map dBk)]), (17, [.d (dS x0), .d (dI x1), .d (dS x2), .d (dS x3), .d (dS x4)])], [(bkT, ((zs ++ ys).map dBk).length)]⟩) (fun n => n ≤ ts.length) (fun n => ts.length - n) 0 (Nat.zero_le _)
        ⟨rfl, ⟨.refl _, .refl _, .refl _, .refl _, .refl _, .refl _, .refl _, .refl _, .refl _, .refl _, .of_eq (congrArg (fun n : Nat => SV.d (dI n)) (by simp)), .refl _, trivial⟩, ⟨⟨_, rfl, .refl _, .refl _, .refl _, trivial⟩, ⟨_, rfl, .refl _, trivial⟩, ⟨_, rfl, .refl _, .refl _, .refl _, .refl _, .refl _, trivial⟩, trivial⟩, ⟨rfl, trivial⟩, rfl⟩ ?_
      intro n hn1
      have hd : ∀ y, ts[n]? = some y → dbN (tkn tk) ts (x0, x1, x2, x3, x4) (n + 1) = (dbN (tkn tk) ts (x0, x1, x2, x3, x4) n || (tkn tk n && (y.1 == x0 && (y.2.2.1 == x2 && (y.2.2.2.1 == x3 && y.2.2.2.2 == x4))))) := fun y hy => by rw [dbN, hy]
      obtain ⟨q2, hq2⟩ : ∃ o, o = dbN (tkn tk) ts (x0, x1, x2, x3, x4) (n + 1) := ⟨_, rfl⟩
      have hen : n = ts.length → dbN (tkn tk) ts (x0, x1, x2, x3, x4) ts.length = dbN (tkn tk) ts (x0, x1, x2, x3, x4) n := fun e => by rw [e]
      obtain ⟨q, hq⟩ : ∃ o, o = dbN (tkn tk) ts (x0, x1, x2, x3, x4) n := ⟨_, rfl⟩
      simp only [← hq, ← hq2] at hd hen
      rw [← hq]
      refine pw_seq ?_; refine pw_region ?_; refine yB rfl rfl rfl rfl ?_; refine yQ ?_; refine pw_seq ?_
      refine pw_cond rfl (fun h2 => ?_) (fun h2 => ?_)
      · simp at h2
        obtain ⟨⟨y0, y1, y2, y3, y4⟩, hy⟩ : ∃ a, ts[n]? = some a := ⟨_, List.getElem?_eq_getElem h2⟩
        have ey := ix dM ts n n (y0, y1, y2, y3, y4) rfl hy
        have hwn := wrapI ((n : Int) + 1) (by omega)
        have hd := hd _ hy
        have eb := tk_at' (tk := tk) (k := n) (by omega)
        obtain ⟨b, hb2⟩ : ∃ b, b = tkn tk n := ⟨_, rfl⟩
        rw [← hb2] at eb hd
        cases b with
        | false =>
          have e : dcl q = dcl q2 := by rw [hd]; simp
          refine pw_skip ?_; refine pw_seq ?_; refine pw_block ?_; refine pw_seq ?_; refine pw_region ?_; refine yMd rfl ?_; refine yW ey (by omega) rfl rfl ?_; refine yLs (ys := [_, _, _, _, _]) rfl rfl rfl ?_
          refine yZ (cs := [_, _, _, _, _]) rfl rfl ?_; refine yAd rfl ?_; refine yS (cs' := [_, _, _, _, _]) rfl rfl rfl rfl rfl ?_; refine yQ ?_; refine pw_seq ?_; refine pw_region ?_; refine yMd rfl ?_; refine yMd rfl ?_
          refine yW eb (by omega) rfl rfl ?_; refine yLr rfl rfl ?_; refine yMd rfl ?_; refine yO rfl ?_; refine yO rfl ?_; refine yO rfl ?_; refine yO rfl ?_; refine yO rfl ?_; refine yVd rfl rfl ?_; refine yMd rfl ?_; refine yO rfl ?_
          refine yO rfl ?_; refine yO rfl ?_; refine yO rfl ?_; refine yO rfl ?_; refine yVd rfl rfl ?_; refine yMd rfl ?_; refine yO rfl ?_; refine yO rfl ?_; refine yO rfl ?_; refine yO rfl ?_; refine yO rfl ?_; refine yVd rfl rfl ?_
          refine yMd rfl ?_; refine yO rfl ?_; refine yO rfl ?_; refine yO rfl ?_; refine yO rfl ?_; refine yO rfl ?_; refine yVd rfl rfl ?_; refine yQ ?_; refine pw_cf rfl ?_; refine pw_skip ?_; refine pw_region ?_
          refine yB rfl rfl rfl rfl ?_; refine yMd rfl ?_; refine yQ ?_; refine q_then ?_
          refine ⟨n + 1, by omega, by omega, rfl, ⟨.refl _, .refl _, .refl _, .refl _, .refl _, .of_eq (congrArg (fun n => SV.d (dI n)) (by rw [← hq2]; exact e)), .refl _, .refl _, .refl _, .refl _, .refl _, .of_eq (congrArg (fun n => SV.d (dI n)) hwn), trivial⟩, ⟨⟨_, rfl, .refl _, .refl _, .refl _, trivial⟩, ⟨_, rfl, .refl _, trivial⟩, ⟨_, rfl, .refl _, .refl _, .refl _, .refl _, .refl _, trivial⟩, trivial⟩, ⟨rfl, trivial⟩, rfl⟩
        | true =>
        cases t1 : (y0 == x0) with
        | false =>
          have e : dcl q = dcl q2 := by rw [hd, t1]; simp
          refine pw_skip ?_; refine pw_seq ?_; refine pw_block ?_; refine pw_seq ?_; refine pw_region ?_; refine yMd rfl ?_; refine yW ey (by omega) rfl rfl ?_; refine yLs (ys := [_, _, _, _, _]) rfl rfl rfl ?_
          refine yZ (cs := [_, _, _, _, _]) rfl rfl ?_; refine yAd rfl ?_; refine yS (cs' := [_, _, _, _, _]) rfl rfl rfl rfl rfl ?_; refine yQ ?_; refine pw_seq ?_; refine pw_region ?_; refine yMd rfl ?_; refine yMd rfl ?_
          refine yW eb (by omega) rfl rfl ?_; refine yLr rfl rfl ?_; refine yMd rfl ?_; refine yFb rfl ?_; refine yLd rfl rfl rfl ?_; refine yFb rfl ?_; refine yLd rfl rfl rfl ?_; refine yBse rfl rfl ?_; refine yPd rfl rfl ?_
          refine yMd rfl ?_; rw [t1]; refine yO rfl ?_; refine yO rfl ?_; refine yO rfl ?_; refine yO rfl ?_; refine yO rfl ?_; refine yVd rfl rfl ?_; refine yMd rfl ?_; refine yO rfl ?_; refine yO rfl ?_; refine yO rfl ?_; refine yO rfl ?_
          refine yO rfl ?_; refine yVd rfl rfl ?_; refine yMd rfl ?_; refine yO rfl ?_; refine yO rfl ?_; refine yO rfl ?_; refine yO rfl ?_; refine yO rfl ?_; refine yVd rfl rfl ?_; refine yQ ?_; refine pw_cf rfl ?_; refine pw_skip ?_
          refine pw_region ?_; refine yB rfl rfl rfl rfl ?_; refine yMd rfl ?_; refine yQ ?_; refine q_then ?_
          refine ⟨n + 1, by omega, by omega, rfl, ⟨.refl _, .refl _, .refl _, .refl _, .refl _, .of_eq (congrArg (fun n => SV.d (dI n)) (by rw [← hq2]; exact e)), .refl _, .refl _, .refl _, .refl _, .refl _, .of_eq (congrArg (fun n => SV.d (dI n)) hwn), trivial⟩, ⟨⟨_, rfl, .refl _, .refl _, .refl _, trivial⟩, ⟨_, rfl, .refl _, trivial⟩, ⟨_, rfl, .refl _, .refl _, .refl _, .refl _, .refl _, trivial⟩, trivial⟩, ⟨rfl, trivial⟩, rfl⟩
        | true =>
        cases t2 : (y2 == x2) with
        | false =>
          have e : dcl q = dcl q2 := by rw [hd, t1, t2]; simp
          refine pw_skip ?_; refine pw_seq ?_; refine pw_block ?_; refine pw_seq ?_; refine pw_region ?_; refine yMd rfl ?_; refine yW ey (by omega) rfl rfl ?_; refine yLs (ys := [_, _, _, _, _]) rfl rfl rfl ?_
          refine yZ (cs := [_, _, _, _, _]) rfl rfl ?_; refine yAd rfl ?_; refine yS (cs' := [_, _, _, _, _]) rfl rfl rfl rfl rfl ?_; refine yQ ?_; refine pw_seq ?_; refine pw_region ?_; refine yMd rfl ?_; refine yMd rfl ?_
          refine yW eb (by omega) rfl rfl ?_; refine yLr rfl rfl ?_; refine yMd rfl ?_; refine yFb rfl ?_; refine yLd rfl rfl rfl ?_; refine yFb rfl ?_; refine yLd rfl rfl rfl ?_; refine yBse rfl rfl ?_; refine yPd rfl rfl ?_
          refine yMd rfl ?_; rw [t1]; refine yFb rfl ?_; refine yLd rfl rfl rfl ?_; refine yFb rfl ?_; refine yLd rfl rfl rfl ?_; refine yBse rfl rfl ?_; refine yPd rfl rfl ?_; refine yMd rfl ?_; rw [t2]; refine yO rfl ?_; refine yO rfl ?_
          refine yO rfl ?_; refine yO rfl ?_; refine yO rfl ?_; refine yVd rfl rfl ?_; refine yMd rfl ?_; refine yO rfl ?_; refine yO rfl ?_; refine yO rfl ?_; refine yO rfl ?_; refine yO rfl ?_; refine yVd rfl rfl ?_; refine yQ ?_
          refine pw_cf rfl ?_; refine pw_skip ?_; refine pw_region ?_; refine yB rfl rfl rfl rfl ?_; refine yMd rfl ?_; refine yQ ?_; refine q_then ?_
          refine ⟨n + 1, by omega, by omega, rfl, ⟨.refl _, .refl _, .refl _, .refl _, .refl _, .of_eq (congrArg (fun n => SV.d (dI n)) (by rw [← hq2]; exact e)), .refl _, .refl _, .refl _, .refl _, .refl _, .of_eq (congrArg (fun n => SV.d (dI n)) hwn), trivial⟩, ⟨⟨_, rfl, .refl _, .refl _, .refl _, trivial⟩, ⟨_, rfl, .refl _, trivial⟩, ⟨_, rfl, .refl _, .refl _, .refl _, .refl _, .refl _, trivial⟩, trivial⟩, ⟨rfl, trivial⟩, rfl⟩
        | true =>
        cases t3 : (y3 == x3) with
        | false =>
          have e : dcl q = dcl q2 := by rw [hd, t1, t2, t3]; simp
          refine pw_skip ?_; refine pw_seq ?_; refine pw_block ?_; refine pw_seq ?_; refine pw_region ?_; refine yMd rfl ?_; refine yW ey (by omega) rfl rfl ?_; refine yLs (ys := [_, _, _, _, _]) rfl rfl rfl ?_
          refine yZ (cs := [_, _, _, _, _]) rfl rfl ?_; refine yAd rfl ?_; refine yS (cs' := [_, _, _, _, _]) rfl rfl rfl rfl rfl ?_; refine yQ ?_; refine pw_seq ?_; refine pw_region ?_; refine yMd rfl ?_; refine yMd rfl ?_
          refine yW eb (by omega) rfl rfl ?_; refine yLr rfl rfl ?_; refine yMd rfl ?_; refine yFb rfl ?_; refine yLd rfl rfl rfl ?_; refine yFb rfl ?_; refine yLd rfl rfl rfl ?_; refine yBse rfl rfl ?_; refine yPd rfl rfl ?_
          refine yMd rfl ?_; rw [t1]; refine yFb rfl ?_; refine yLd rfl rfl rfl ?_; refine yFb rfl ?_; refine yLd rfl rfl rfl ?_; refine yBse rfl rfl ?_; refine yPd rfl rfl ?_; refine yMd rfl ?_; rw [t2]; refine yFb rfl ?_
          refine yLd rfl rfl rfl ?_; refine yFb rfl ?_; refine yLd rfl rfl rfl ?_; refine yBse rfl rfl ?_; refine yPd rfl rfl ?_; refine yMd rfl ?_; rw [t3]; refine yO rfl ?_; refine yO rfl ?_; refine yO rfl ?_; refine yO rfl ?_
          refine yO rfl ?_; refine yVd rfl rfl ?_; refine yQ ?_; refine pw_cf rfl ?_; refine pw_skip ?_; refine pw_region ?_; refine yB rfl rfl rfl rfl ?_; refine yMd rfl ?_; refine yQ ?_; refine q_then ?_
          refine ⟨n + 1, by omega, by omega, rfl, ⟨.refl _, .refl _, .refl _, .refl _, .refl _, .of_eq (congrArg (fun n => SV.d (dI n)) (by rw [← hq2]; exact e)), .refl _, .refl _, .refl _, .refl _, .refl _, .of_eq (congrArg (fun n => SV.d (dI n)) hwn), trivial⟩, ⟨⟨_, rfl, .refl _, .refl _, .refl _, trivial⟩, ⟨_, rfl, .refl _, trivial⟩, ⟨_, rfl, .refl _, .refl _, .refl _, .refl _, .refl _, trivial⟩, trivial⟩, ⟨rfl, trivial⟩, rfl⟩
        | true =>
        cases t4 : (y4 == x4) with
        | false =>
          have e : dcl q = dcl q2 := by rw [hd, t1, t2, t3, t4]; simp
          refine pw_skip ?_; refine pw_seq ?_; refine pw_block ?_; refine pw_seq ?_; refine pw_region ?_; refine yMd rfl ?_; refine yW ey (by omega) rfl rfl ?_; refine yLs (ys := [_, _, _, _, _]) rfl rfl rfl ?_
          refine yZ (cs := [_, _, _, _, _]) rfl rfl ?_; refine yAd rfl ?_; refine yS (cs' := [_, _, _, _, _]) rfl rfl rfl rfl rfl ?_; refine yQ ?_; refine pw_seq ?_; refine pw_region ?_; refine yMd rfl ?_; refine yMd rfl ?_
          refine yW eb (by omega) rfl rfl ?_; refine yLr rfl rfl ?_; refine yMd rfl ?_; refine yFb rfl ?_; refine yLd rfl rfl rfl ?_; refine yFb rfl ?_; refine yLd rfl rfl rfl ?_; refine yBse rfl rfl ?_; refine yPd rfl rfl ?_
          refine yMd rfl ?_; rw [t1]; refine yFb rfl ?_; refine yLd rfl rfl rfl ?_; refine yFb rfl ?_; refine yLd rfl rfl rfl ?_; refine yBse rfl rfl ?_; refine yPd rfl rfl ?_; refine yMd rfl ?_; rw [t2]; refine yFb rfl ?_
          refine yLd rfl rfl rfl ?_; refine yFb rfl ?_; refine yLd rfl rfl rfl ?_; refine yBse rfl rfl ?_; refine yPd rfl rfl ?_; refine yMd rfl ?_; rw [t3]; refine yFb rfl ?_; refine yLd rfl rfl rfl ?_; refine yFb rfl ?_
          refine yLd rfl rfl rfl ?_; refine yBse rfl rfl ?_; refine yPd rfl rfl ?_; refine yQ ?_; refine q_then ?_; rw [t4]; refine pw_cf rfl ?_; refine pw_skip ?_; refine pw_region ?_; refine yB rfl rfl rfl rfl ?_; refine yMd rfl ?_
          refine yQ ?_; refine q_then ?_
          refine ⟨n + 1, by omega, by omega, rfl, ⟨.refl _, .refl _, .refl _, .refl _, .refl _, .of_eq (congrArg (fun n => SV.d (dI n)) (by rw [← hq2]; exact e)), .refl _, .refl _, .refl _, .refl _, .refl _, .of_eq (congrArg (fun n => SV.d (dI n)) hwn), trivial⟩, ⟨⟨_, rfl, .refl _, .refl _, .refl _, trivial⟩, ⟨_, rfl, .refl _, trivial⟩, ⟨_, rfl, .refl _, .refl _, .refl _, .refl _, .refl _, trivial⟩, trivial⟩, ⟨rfl, trivial⟩, rfl⟩
        | true =>
          have e : (6 : Int) = dcl q2 := by rw [hd, t1, t2, t3, t4]; simp [dcl]
          refine pw_skip ?_; refine pw_seq ?_; refine pw_block ?_; refine pw_seq ?_; refine pw_region ?_; refine yMd rfl ?_; refine yW ey (by omega) rfl rfl ?_; refine yLs (ys := [_, _, _, _, _]) rfl rfl rfl ?_
          refine yZ (cs := [_, _, _, _, _]) rfl rfl ?_; refine yAd rfl ?_; refine yS (cs' := [_, _, _, _, _]) rfl rfl rfl rfl rfl ?_; refine yQ ?_; refine pw_seq ?_; refine pw_region ?_; refine yMd rfl ?_; refine yMd rfl ?_
          refine yW eb (by omega) rfl rfl ?_; refine yLr rfl rfl ?_; refine yMd rfl ?_; refine yFb rfl ?_; refine yLd rfl rfl rfl ?_; refine yFb rfl ?_; refine yLd rfl rfl rfl ?_; refine yBse rfl rfl ?_; refine yPd rfl rfl ?_
          refine yMd rfl ?_; rw [t1]; refine yFb rfl ?_; refine yLd rfl rfl rfl ?_; refine yFb rfl ?_; refine yLd rfl rfl rfl ?_; refine yBse rfl rfl ?_; refine yPd rfl rfl ?_; refine yMd rfl ?_; rw [t2]; refine yFb rfl ?_
          refine yLd rfl rfl rfl ?_; refine yFb rfl ?_; refine yLd rfl rfl rfl ?_; refine yBse rfl rfl ?_; refine yPd rfl rfl ?_; refine yMd rfl ?_; rw [t3]; refine yFb rfl ?_; refine yLd rfl rfl rfl ?_; refine yFb rfl ?_
          refine yLd rfl rfl rfl ?_; refine yBse rfl rfl ?_; refine yPd rfl rfl ?_; refine yQ ?_; refine q_then ?_; rw [t4]; refine pw_ct rfl ?_; refine pw_region ?_; refine yAd rfl ?_; refine yQ ?_; refine pw_region ?_
          refine yB rfl rfl rfl rfl ?_; refine yMd rfl ?_; refine yQ ?_; refine q_then ?_
          refine ⟨n + 1, by omega, by omega, rfl, ⟨.refl _, .refl _, .refl _, .refl _, .refl _, .of_eq (congrArg (fun n => SV.d (dI n)) (by rw [← hq2]; exact e)), .refl _, .refl _, .refl _, .refl _, .refl _, .of_eq (congrArg (fun n => SV.d (dI n)) hwn), trivial⟩, ⟨⟨_, rfl, .refl _, .refl _, .refl _, trivial⟩, ⟨_, rfl, .refl _, trivial⟩, ⟨_, rfl, .refl _, .refl _, .refl _, .refl _, .refl _, trivial⟩, trivial⟩, ⟨rfl, trivial⟩, rfl⟩
      · simp at h2
        have hen := hen (by omega)
        have e : zs ++ nx = (zs ++ ys) ++ [(dcl q, x0, [], x3)] := by rw [e, hen, List.append_assoc]
        refine pw_exit ?_; refine pw_region ?_; refine yMg rfl ?_; refine yMd rfl ?_; refine yFb rfl ?_; refine yLd rfl rfl rfl ?_; refine yFb rfl ?_; refine yLd rfl rfl rfl ?_
        refine yCxb (wAdd9 _ (dcl q, x0, [], x3) (by first | omega | (simp; omega))) rfl rfl ⟨rfl, trivial⟩ ⟨rfl, trivial⟩ ?_ (hfit := by kernel_rfl); refine yQ ?_; refine pw_region ?_; refine yB rfl rfl rfl rfl ?_; refine yMd rfl ?_
        refine yQ ?_; refine q_then ?_
        refine ⟨k + 1, by omega, by omega, rfl, ⟨.refl _, .refl _, .refl _, .refl _, .refl _, .refl _, .of_eq (congrArg (fun n => SV.d (dI n)) hw), trivial⟩, ⟨⟨_, rfl, .refl _, .refl _, .refl _, trivial⟩, ⟨_, rfl, .of_eq (by rw [← hnx2, e] <;> rfl), trivial⟩, trivial⟩, ⟨(by rw [← hnx2, e] <;> rfl), trivial⟩, rfl⟩
  · simp at h
    rw [hend (by omega)]
    refine pw_exit ?_; refine pw_seq ?_; refine pw_region ?_; refine yFb rfl ?_; refine yLt rfl rfl rfl ?_; refine yAt rfl ?_; refine yAd rfl ?_; refine yQ ?_; refine pw_ret ?_
    exact q_ret _ (.tmp rfl (.tmp rfl .nil)) rfl
end Go.Proofs.YtdkpmnefoobipaaGreatDoor
set_option maxHeartbeats 1000000
namespace Go.Proofs.YtdkpmnefoobipaaGreatDoor.Px
open Go.RowKit

section
variable {P : Program} {sq : Bool} {ops : Array Oper} {K : PS → Prop} {rest : List Oper} {st : PS} {d : Option Nat} {op : Op} {ty : TypeId} {pos : String} {af : Array Edge} {gd : Option (Nat × Bool)} {q : Nat × Bool}
/-- a row of one's own that was just made reads as a list -/
theorem DRep.fresh {B : Nat} {w0 : Cx} {g : Gh} {a : Act} {w w' : World} (h : Rep B w0 g st a w) (hb : Below w.heap.size w w') {E k n : Nat} {v : Value} {xs : List Value} {es : List (List DV)} (hown : w'.ownsRow w.heap.size E k v n xs) (hn : es.length = n) (h0 : 0 < n) (hm : n ≤ 9223372036854775807) (hk : ∀ e ∈ es, e.length = k) (h1 : ∀ u ∈ xs, u.oneCell' = true)
    (hrep : ∀ (i j : Nat) e x, es[i]? = some e → e[j]? = some x → ∃ u, xs[i * k + j]? = some u ∧ DRep (Fx g) w u x) : DRep (Fx g) w' v (.sl k es) := by
  subst hn
  have e0 := (Ext.grow h hb).fx
  obtain ⟨A, c, h2, h3, h4⟩ := own_form hown
  rcases hown.2 with ⟨e6, e7⟩ | ⟨gb, cap, cur, e6, e7, e8, -⟩
  · rw [e6] at h2
    have := (Value.slice.inj h2).2.1
    omega
  · have e9 : A = some ⟨gb, 0, none⟩ := (Value.slice.inj (h2.symm.trans e6)).1
    rw [h2]
    refine DRep.of_row (xs := xs) h3 hm hk (fun _ => ⟨gb, 0, e9, fun j u hj => ⟨?_, ?_⟩⟩) h1 fun i j e x he hx => ?_
    · rw [Nat.zero_add]; exact own_cell hown (by rw [e6]; rfl) j u hj
    · refine ⟨h.f0 _ _ (Nat.le_trans h.base e7), fun i' hi' => ?_, fun t T n' c' hT hv => ?_⟩
      · have := (h.blk i' _ hi').2; omega
      · obtain ⟨⟨n'', ys, h8⟩, -⟩ := h.toks t T hT
        have := (h8.lt gb (by rw [hv]; rfl)).2
        omega
    · obtain ⟨u, h8, h9⟩ := hrep i j e x he hx
      exact ⟨u, h8, h9.mono e0⟩
end
end Go.Proofs.YtdkpmnefoobipaaGreatDoor.Px
set_option maxHeartbeats 1000000
namespace Go.Proofs.YtdkpmnefoobipaaGreatDoor
open Go.RowKit Px

theorem run_append_zeros {P : Program} (w : World) (t u ty e : TypeId) (i : TypeInfo) (z : Value) (bytes : Nat) (ht : P.underlying t = some (.slice e)) (hu : P.underlying u = some (.int .i64)) (hi : P.info? e = some i) (hz : i.zero = some z) (n : Nat) (h0 : 0 < n) (hk0 : 0 < i.size) (hby : i.bytes = bytes) (hb : n * bytes ≤ 140737488355328) (h63 : n ≤ 140737488355328) :
    (Builtin.append_ #[t, u] ty #[.slice none 0 0, .int .i64 n]).run P w =
      .ok (.slice (some ⟨w.heap.size, 0, none⟩) n (grownCap w n 0 e)) (w.drew.alloc (.cells (Builtin.zeroCells z.cells n ++ Builtin.zeroCells z.cells (grownCap w n 0 e - n)) e)) := by
  have hn : n ≠ 0 := by omega
  have h63' : ¬ (9223372036854775807 < (n : Int)) := by omega
  have h48' : ¬ (281474976710656 < Builtin.nextslicecap n 0 * bytes) := by rw [nextslicecap_zero h0]; omega
  have hw : IntKind.i64.wrap (n : Int) = n := wrapI _ (by omega)
  have h1 : ¬ ((n : Int) < 0) := by omega
  have h2 : ¬ (281474976710656 < (n : Int) * (bytes : Int)) := by
    have : ((n * bytes : Nat) : Int) = (n : Int) * (bytes : Int) := by push_cast; rfl
    omega
  have hk2 : i.size ≠ 0 := by omega
  have hk1 : n * i.size ≠ 0 := Nat.mul_ne_zero hn hk2
  simp [Builtin.append_, run_underlying ht, run_underlying hu, sizeOf, typeInfo, zeroValue, hi, hz, Builtin.lenOf, hn, h63', h48', Question.forced, run_firstCells_none, newRow, grownCap, asInt, asIntOf, hw, h1, h2, hk1, hk2, hby]

theorem own_nil {P : Program} {f E k : Nat} {args : List DV} (h : PCalls P f args (.d (.val (.slice none 0 0)))) : POwn P f args E k [] := fun F w vals hl hr hg =>
  (h F w vals hl hr hg).mono fun _ _ ⟨v, h1, h2, h3⟩ => by
    have hv : v = .slice none 0 0 := DRep.val_eq h2
    subst hv
    exact ⟨_, [], h1, World.ownsRow_nil _ _ _ _, fun u hu => (by cases hu), DRep.nil, h3⟩

section
variable {P : Program} {sq : Bool} {ops : Array Oper} {K : PS → Prop} {rest : List Oper} {st : PS} {d : Option Nat} {ty : TypeId} {pos : String} {af : Array Edge} {gd : Option (Nat × Bool)}
theorem ls_slice_nil (T : TypeId) (x y : Operand) {E k : Nat} {kd : IntKind} [hS : SliceOf P T E k] (hx : st.ev x = .d (.val (.slice none 0 0))) (hy : st.ev y = .d (.val (.int kd 0))) (hd : dstOk ⟨d, .slice T x none (some y) none, ty, pos, af, gd⟩ st = true) :
    LocS P ⟨d, .slice T x none (some y) none, ty, pos, af, gd⟩ st (.d (.val (.slice none 0 0))) .no := fun st2 ha =>
  OpS.value (ha.dst hd) fun _ _ g a w h => by
    have h1 := h.eval x
    rw [ha.ev x (by simp [Op.operands]), hx] at h1
    have h2 := h.eval y
    rw [ha.ev y (by simp [Op.operands]), hy] at h2
    refine ⟨.slice none 0 0, w, ?_, Below.refl _ _, DRep.val _ rfl⟩
    simp [execOp, Instr.sliceAt, Instr.slice, Instr.sliceBounds, Instr.sliceBound, DRep.val_eq h1, DRep.val_eq h2, asIntOf, hS.und, hS.size]
theorem ls_cap_nil (T : TypeId) (x : Operand) {E k : Nat} [hS : SliceOf P T E k] (hx : st.ev x = .d (.val (.slice none 0 0))) (hd : dstOk ⟨d, .call { callee := .builtin .cap, args := #[x], argTypes := #[T] }, ty, pos, af, gd⟩ st = true) :
    LocS P ⟨d, .call { callee := .builtin .cap, args := #[x], argTypes := #[T] }, ty, pos, af, gd⟩ st (.d (.val (.int .i64 0))) .no := fun st2 ha =>
  OpS.value (ha.dst hd) fun _ _ g a w h => by
    have h1 := h.eval x
    rw [ha.ev x (by simp [Op.operands, Call.operands]), hx] at h1
    refine ⟨.int .i64 0, w, ?_, Below.refl _ _, DRep.val _ rfl⟩
    simp [execOp, resolve, invoke, builtin, Builtin.cap_, DRep.val_eq h1, hS.und, goInt]
theorem ls_len_nil (T : TypeId) (x : Operand) {E k : Nat} [hS : SliceOf P T E k] (hx : st.ev x = .d (.val (.slice none 0 0))) (hd : dstOk ⟨d, .call { callee := .builtin .len, args := #[x], argTypes := #[T] }, ty, pos, af, gd⟩ st = true) :
    LocS P ⟨d, .call { callee := .builtin .len, args := #[x], argTypes := #[T] }, ty, pos, af, gd⟩ st (.d (.val (.int .i64 0))) .no := fun st2 ha =>
  OpS.value (ha.dst hd) fun _ _ g a w h => by
    have h1 := h.eval x
    rw [ha.ev x (by simp [Op.operands, Call.operands]), hx] at h1
    refine ⟨.int .i64 0, w, ?_, Below.refl _ _, DRep.val _ rfl⟩
    simp [execOp, resolve, invoke, builtin, Builtin.len_, DRep.val_eq h1, hS.und, goInt]
theorem ySz {T E k : Nat} {x y : Operand} {kd : IntKind} [SliceOf P T E k] (hx : st.ev x = .d (.val (.slice none 0 0))) (hy : st.ev y = .d (.val (.int kd 0))) (h : YR P sq ops K rest (st.put d (.d (.val (.slice none 0 0))))) (hd : dstOk ⟨d, .slice T x none (some y) none, ty, pos, af, gd⟩ st = true := by kernel_rfl) (hk : opOk ⟨d, .slice T x none (some y) none, ty, pos, af, gd⟩ st .no = true := by kernel_rfl) (hw : st.want ops ⟨d, .slice T x none (some y) none, ty, pos, af, gd⟩ = some true := by rfl) :
    YR P sq ops K (⟨d, .slice T x none (some y) none, ty, pos, af, gd⟩ :: rest) st := yr_v (ls_slice_nil T x y hx hy hd) hk hw h
theorem yNc {T E k : Nat} {x : Operand} [SliceOf P T E k] (hx : st.ev x = .d (.val (.slice none 0 0))) (h : YR P sq ops K rest (st.put d (.d (.val (.int .i64 0))))) (hd : dstOk ⟨d, .call { callee := .builtin .cap, args := #[x], argTypes := #[T] }, ty, pos, af, gd⟩ st = true := by kernel_rfl) (hk : opOk ⟨d, .call { callee := .builtin .cap, args := #[x], argTypes := #[T] }, ty, pos, af, gd⟩ st .no = true := by kernel_rfl) (hw : st.want ops ⟨d, .call { callee := .builtin .cap, args := #[x], argTypes := #[T] }, ty, pos, af, gd⟩ = some true := by rfl) :
    YR P sq ops K (⟨d, .call { callee := .builtin .cap, args := #[x], argTypes := #[T] }, ty, pos, af, gd⟩ :: rest) st := yr_v (ls_cap_nil T x hx hd) hk hw h
theorem yNl {T E k : Nat} {x : Operand} [SliceOf P T E k] (hx : st.ev x = .d (.val (.slice none 0 0))) (h : YR P sq ops K rest (st.put d (.d (.val (.int .i64 0))))) (hd : dstOk ⟨d, .call { callee := .builtin .len, args := #[x], argTypes := #[T] }, ty, pos, af, gd⟩ st = true := by kernel_rfl) (hk : opOk ⟨d, .call { callee := .builtin .len, args := #[x], argTypes := #[T] }, ty, pos, af, gd⟩ st .no = true := by kernel_rfl) (hw : st.want ops ⟨d, .call { callee := .builtin .len, args := #[x], argTypes := #[T] }, ty, pos, af, gd⟩ = some true := by rfl) :
    YR P sq ops K (⟨d, .call { callee := .builtin .len, args := #[x], argTypes := #[T] }, ty, pos, af, gd⟩ :: rest) st := yr_v (ls_len_nil T x hx hd) hk hw h
end
section
variable {P : Program} {ops : Array Oper} {K : PS → Prop} {rest : List Oper} {st : PS} {ty : TypeId} {pos : String} {af : Array Edge} {gd : Option (Nat × Bool)}
/-- zero values appended to nil: a row that may be written -/
theorem yAz {T U E k bytes e n : Nat} {zs : List Value} {x y : Operand} [hA : AppOf P T E k bytes] [hL : LitOf P T E k zs] (hk0 : 0 < k) (hU : P.underlying U = some (.int .i64)) (hx : st.ev x = .d (.val (.slice none 0 0))) (hy : st.ev y = .d (.val (.int .i64 n))) (h0 : 0 < n) (hn : n * bytes ≤ 140737488351232) (hn2 : n ≤ 140737488351232) (hi : st.bget e = none)
    (h : YR P true ops K rest ((st.bput e []).put (some e) (.bs e n E k))) (hd : dstOk ⟨some e, .call { callee := .builtin .append, args := #[x, y], argTypes := #[T, U] }, ty, pos, af, gd⟩ st = true := by kernel_rfl)
    (hw : st.want ops ⟨some e, .call { callee := .builtin .append, args := #[x, y], argTypes := #[T, U] }, ty, pos, af, gd⟩ = some true := by rfl) :
    YR P true ops K (⟨some e, .call { callee := .builtin .append, args := #[x, y], argTypes := #[T, U] }, ty, pos, af, gd⟩ :: rest) st := by
  refine .any rfl fun B w0 Q hQ g a w hr => ?_
  obtain ⟨i, z, q1, q2, q3, q4, q5⟩ := hA.inf
  have h1 := hr.eval x
  rw [hx] at h1
  have h2 := hr.eval y
  rw [hy] at h2
  obtain ⟨z', hz1, hz2⟩ := hL.zero w
  have hzz : z' = z := by
    have hE : P.info? E = some i := q1
    simp [zeroValue, typeInfo, hE, q2] at hz1
    exact hz1.symm
  subst hzz
  have hrun0 := run_append_zeros w T U ty E i z' bytes hA.und hU q1 q2 n h0 (by rw [q3]; exact hk0) q4 (by omega) (by omega)
  have hrun : (execOp a.eval ⟨some e, .call { callee := .builtin .append, args := #[x, y], argTypes := #[T, U] }, ty, pos, af, gd⟩).run P w = .ok (.value (.slice (some ⟨w.heap.size, 0, none⟩) n (grownCap w n 0 E))) (w.drew.alloc (.cells (Builtin.zeroCells z'.cells n ++ Builtin.zeroCells z'.cells (grownCap w n 0 E - n)) E)) := by
    simp only [execOp, resolve, Sem.run_bind, Sem.run_pure, Result.andThen_ok, invoke]
    simp only [List.map_toArray, List.map_cons, List.map_nil, DRep.val_eq h1, DRep.val_eq h2, builtin, Sem.run_bind, hrun0, Result.andThen_ok, Sem.run_pure]
  have hge := grownCap_ge w n 0 E
  have hle := grownCap_le_maxLen w n 0 E (by unfold maxLen; omega)
  obtain ⟨w', hw'⟩ : ∃ w', w' = w.drew.alloc (.cells (Builtin.zeroCells z'.cells n ++ Builtin.zeroCells z'.cells (grownCap w n 0 E - n)) E) := ⟨_, rfl⟩
  have hheap : w'.heap[w.heap.size]? = some (.cells (Builtin.zeroCells z'.cells n ++ Builtin.zeroCells z'.cells (grownCap w n 0 E - n)) E (0, 0)) := by rw [hw']; exact heap_alloc_new w.drew _
  have hbel : Below w.heap.size w w' := by
    rw [hw']
    exact ⟨rfl, rfl, rfl, by simp, fun k hk => Below.heap_alloc w.drew _ k hk⟩
  have hzs : z'.cells.size = k := by rw [q5]
  have hsz : (Builtin.zeroCells z'.cells n ++ Builtin.zeroCells z'.cells (grownCap w n 0 E - n)).size = grownCap w n 0 E * k := by
    simp only [Array.size_append, size_zeroCells, hzs, ← Nat.add_mul]
    congr 1; omega
  have hin : e < st.n := dstOk_spec hd e rfl
  obtain ⟨ev, hr'⟩ := hr.adopt e w.heap.size E hi hin hbel (Nat.le_refl _) _ hheap [] (Nat.zero_le _) (fun _ j c hj => by simp at hj) (fun j u hj => by simp at hj)
  unfold wpList
  rw [if_pos (want_spec hr hw)]
  refine .inl ?_
  unfold Oper.wp
  rw [hrun, ← hw']
  refine h.sound hQ (hr'.put (x := .bs e n E k) ⟨w.heap.size, grownCap w n 0 E, by simp [Gh.addb], rfl, hge, hle, by simp only [World.shape?, hheap, hsz]⟩ _ ?_)
  intro j hj
  exact dstOk_spec (st := st) hd j hj
variable {B : Nat} {w0 : Cx} {Q : Exit → PS → Prop} {c : Code}
/-- a row that was cut to nothing only grows from now on -/
theorem pw_tkz (s i t k : Nat) {E : Nat} {cs : List SV} (hs : st.get s = .bs i 0 E k) (hi : st.bget i = some cs) (hE : t / 100000 = E) (ht : st.tget t = none) (hno : st.noTs t = true) (h : PW P B w0 c Q (((st.kill i).tput t 0).put (some s) (.ts t k []))) (hlt : Nat.blt i 500000 = true := by rfl) (hsm : Nat.blt (t % 100000) 10000 = true := by rfl) : PW P B w0 c Q st := fun g a w hr => by
  have hv := hr.slots s
  rw [hs] at hv
  have hlt := Nat.le_of_ble_eq_true hlt
  obtain ⟨g', q1, q2, q3, q4, hr'⟩ := hr.tkb (n := 0) hlt hi (by omega) hv hE (Nat.le_of_ble_eq_true hsm) ht hno
  refine h _ a w { hr' with lim := hr'.lim, size := hr'.size, boxes := hr'.boxes, maps := hr'.maps, dom := hr'.dom, tdom := hr'.tdom, tlen := hr'.tlen, glob := hr'.glob, slots := fun j => ?_ }
  rw [get_put]
  by_cases e : j = s
  · rw [if_pos e, e]
    obtain ⟨b2, c2, -, hvv, -, h4, -⟩ := hv
    refine ⟨?_, fun T hT => ?_⟩
    · rw [hvv]
      exact DRep.of_row (es := ([] : List (List DV))) (xs := []) (Nat.zero_le _) (Nat.zero_le _) (fun e he => by cases he) (fun h0 => by simp at h0) (fun u hu => by cases hu) fun i j e x he => by simp at he
    · rw [q3] at hT
      simp only [Gh.sett, if_pos] at hT
      cases hT
      refine ⟨rfl, fun A n' c' h1 => ?_⟩
      obtain ⟨-, e2, -⟩ := Value.slice.inj (h1.symm.trans hvv)
      exact ⟨Nat.zero_le _, fun _ => rfl⟩
  · rw [if_neg e]; exact hr'.slots j
end
end Go.Proofs.YtdkpmnefoobipaaGreatDoor
set_option maxHeartbeats 1000000
namespace Go.Proofs.YtdkpmnefoobipaaGreatDoor.Px
open Go.RowKit Go.ChangeShapes

/-- kinds of plain cells -/
inductive CK where
  | i (k : IntKind)
  | s
  | b
def CK.is : CK → Value → Bool
  | .i k, .int k' _ => decide (k' = k)
  | .s, .string _ => true
  | .b, .bool _ => true
  | _, _ => false
def CK.ty (P : Program) (c : CK) (t : TypeId) : Bool := match c, P.underlying t with
  | .i k, some (.int k') => decide (k = k')
  | .s, some .string => true
  | .b, some .bool => true
  | _, _ => false
def veq : Value → Value → Bool
  | .int _ a, .int _ b => a == b
  | .string a, .string b => a.toList == b.toList
  | .bool a, .bool b => a == b
  | _, _ => false
def veqs : List Value → List Value → Bool
  | [], [] => true
  | x :: xs, y :: ys => veq x y && veqs xs ys
  | _, _ => false
def fits : List CK → List Value → Bool
  | [], [] => true
  | c :: cs, x :: xs => c.is x && fits cs xs
  | _, _ => false
section
variable {P : Program} (w : World)
theorem CK.plain {c : CK} {t : TypeId} (h : c.ty P t = true) : P.plainKey t = true := by
  unfold CK.ty at h
  unfold Program.plainKey
  cases e : P.underlying t with
  | none => rw [e] at h; cases c <;> simp at h
  | some d => rw [e] at h; cases c <;> cases d <;> simp at h ⊢
theorem run_veq {c : CK} {t : TypeId} (h : c.ty P t = true) {x y : Value} (hx : c.is x = true) (hy : c.is y = true) (d : Nat) : (Op.equalIn (d + 1) t x y).run P w = .ok (veq x y) w := by
  unfold CK.ty at h
  cases e : P.underlying t with
  | none => rw [e] at h; cases c <;> simp at h
  | some u =>
    rw [e] at h
    cases c with
    | i k =>
      cases u <;> simp at h
      subst h
      cases x <;> simp [CK.is] at hx
      cases y <;> simp [CK.is] at hy
      subst hx hy
      exact run_equalIn_int w d t _ _ _ _ e
    | s =>
      cases u <;> simp at h
      cases x <;> simp [CK.is] at hx
      cases y <;> simp [CK.is] at hy
      exact run_equalIn_string w d t _ _ e
    | b =>
      cases u <;> simp at h
      cases x <;> simp [CK.is] at hx
      cases y <;> simp [CK.is] at hy
      exact run_equalIn_bool' w d t _ _ e
def fieldsB (P : Program) : Nat → List CK → List Field → Bool
  | _, [], [] => true
  | off, c :: cs, f :: fs => c.ty P f.type && Nat.beq f.offset off && !(f.name == "_") && fieldsB P (off + 1) cs fs
  | _, _, _ => false
theorem run_eqFieldsV (d : Nat) (xs ys : Array Value) : ∀ (cs : List CK) (fs : List Field) (off : Nat), fieldsB P off cs fs = true → ∀ la lb : List Value, fits cs la = true → fits cs lb = true → (∀ (j : Nat) v, la[j]? = some v → xs[off + j]? = some v) → (∀ (j : Nat) v, lb[j]? = some v → ys[off + j]? = some v) →
    (Op.eqFields (d + 1) xs ys fs).run P w = .ok (veqs la lb) w
  | [], [], off, _, la, lb, ha, hb, _, _ => by
    cases la with
    | nil => cases lb with
      | nil => simp [Op.eqFields, veqs]
      | cons => cases hb
    | cons => cases ha
  | [], _ :: _, _, h, _, _, _, _, _, _ => by cases h
  | _ :: _, [], _, h, _, _, _, _, _, _ => by cases h
  | c :: cs, f :: fs, off, h, la, lb, ha, hb, hxs, hys => by
    cases la with
    | nil => cases ha
    | cons a la =>
      cases lb with
      | nil => cases hb
      | cons b lb =>
        simp only [fieldsB, fits, Bool.and_eq_true] at h ha hb
        obtain ⟨⟨⟨h1, h2⟩, h3⟩, h4⟩ := h
        have h2 := Nat.eq_of_beq_eq_true h2
        have hn : f.name ≠ "_" := by simpa using h3
        have p1 := run_part_plain w (CK.plain h1) (xs := xs) (off := f.offset) (v := a) (by rw [h2]; exact hxs 0 a rfl)
        have p2 := run_part_plain w (CK.plain h1) (xs := ys) (off := f.offset) (v := b) (by rw [h2]; exact hys 0 b rfl)
        have p3 := run_veq w h1 ha.1 hb.1 d
        have ih := run_eqFieldsV d xs ys cs fs (off + 1) h4 la lb ha.2 hb.2 (fun j v hj => by rw [show off + 1 + j = off + (j + 1) by omega]; exact hxs (j + 1) v hj) fun j v hj => by rw [show off + 1 + j = off + (j + 1) by omega]; exact hys (j + 1) v hj
        simp only [Op.eqFields, hn, ne_eq, not_false_eq_true, if_true, Sem.run_bind, p1, p2, p3, Result.andThen_ok, veqs]
        cases veq a b
        · simp
        · simpa using ih
theorem run_eqItemsV (d : Nat) {e : TypeId} {c : CK} (he : c.ty P e = true) (xs ys : Array Value) : ∀ (n off : Nat) (la lb : List Value), fits (List.replicate n c) la = true → fits (List.replicate n c) lb = true → (∀ (j : Nat) v, la[j]? = some v → xs[off + j]? = some v) → (∀ (j : Nat) v, lb[j]? = some v → ys[off + j]? = some v) →
    (Op.eqItems (d + 1) e 1 xs ys (List.range' off n)).run P w = .ok (veqs la lb) w
  | 0, off, la, lb, ha, hb, _, _ => by
    cases la with
    | nil => cases lb with
      | nil => simp [Op.eqItems, veqs]
      | cons => cases hb
    | cons => cases ha
  | n + 1, off, la, lb, ha, hb, hxs, hys => by
    cases la with
    | nil => cases ha
    | cons a la =>
      cases lb with
      | nil => cases hb
      | cons b lb =>
        simp only [List.replicate_succ, fits, Bool.and_eq_true] at ha hb
        have p1 := run_part_plain w (CK.plain he) (xs := xs) (off := off * 1) (v := a) (by rw [Nat.mul_one]; exact hxs 0 a rfl)
        have p2 := run_part_plain w (CK.plain he) (xs := ys) (off := off * 1) (v := b) (by rw [Nat.mul_one]; exact hys 0 b rfl)
        have p3 := run_veq w he ha.1 hb.1 d
        have ih := run_eqItemsV d he xs ys n (off + 1) la lb ha.2 hb.2 (fun j v hj => by rw [show off + 1 + j = off + (j + 1) by omega]; exact hxs (j + 1) v hj) fun j v hj => by rw [show off + 1 + j = off + (j + 1) by omega]; exact hys (j + 1) v hj
        simp only [List.range'_succ, Op.eqItems, Sem.run_bind, p1, p2, p3, Result.andThen_ok, veqs]
        cases veq a b
        · simp
        · simpa using ih
end
/-- types whose values are compared cell by cell -/
class EqOf (P : Program) (T : TypeId) (cs : outParam (List CK)) : Prop where
  run : ∀ (w : World) (la lb : List Value), fits cs la = true → fits cs lb = true → (Op.equalIn 10000 T (.agg la.toArray) (.agg lb.toArray)).run P w = .ok (veqs la lb) w
  guard : P.eqGuardType P.depth T = false
theorem eqOf_struct {P : Program} {T : TypeId} {cs : List CK} (h : (match P.underlying T with | some (.struct fs) => fieldsB P 0 cs fs.toList | _ => false) = true) (hp : P.stoodInHeld T = false) (hg : P.eqGuardType P.depth T = false) : EqOf P T cs := by
  refine ⟨fun w la lb ha hb => ?_, hg⟩
  cases hu : P.underlying T with
  | none => rw [hu] at h; cases h
  | some u =>
    rw [hu] at h
    cases u with
    | struct fs =>
      have hf : P.fieldsOf T = fs := by simp [Program.fieldsOf, hu]
      rw [show (10000 : Nat) = 9999 + 1 from rfl, run_equalIn_agg w 9999 T _ _ (by rw [hf]; exact hu) hp, hf]
      exact run_eqFieldsV w 9998 _ _ cs fs.toList 0 h la lb ha hb (fun j v hj => by simpa using hj) fun j v hj => by simpa using hj
    | _ => cases h
theorem eqOf_array {P : Program} {T e n : Nat} {c : CK} (hu : P.underlying T = some (.array n e)) (hi : (P.info? e).isSome = true) (h1 : P.cellsOf e = 1) (he : c.ty P e = true) (hg : P.eqGuardType P.depth T = false) : EqOf P T (List.replicate n c) := by
  refine ⟨fun w la lb ha hb => ?_, hg⟩
  obtain ⟨i, hi⟩ := Option.isSome_iff_exists.1 hi
  rw [show (10000 : Nat) = 9999 + 1 from rfl, run_equalIn_array w 9999 _ _ hu hi, h1, List.range_eq_range']
  exact run_eqItemsV w 9998 he _ _ n 0 la lb ha hb (fun j v hj => by simpa using hj) fun j v hj => by simpa using hj
section
variable {P : Program} {sq : Bool} {ops : Array Oper} {K : PS → Prop} {rest : List Oper} {st : PS} {d : Option Nat} {ty : TypeId} {pos : String} {af : Array Edge} {gd : Option (Nat × Bool)}
theorem yBx {t t' : Nat} {x y : Operand} {cs ds : List DV} {vs us : List Value} {ks : List CK} [hE : EqOf P t ks] (hv : fits ks vs = true) (hu : fits ks us = true) (hx : st.ev x = .d (.agg cs)) (hcx : valsOf cs = some vs) (hy : st.ev y = .d (.agg ds)) (hcy : valsOf ds = some us)
    (h : YR P sq ops K rest (st.put d (.d (.val (.bool (!veqs vs us)))))) (hd : dstOk ⟨d, .binOp .neq t x y t', ty, pos, af, gd⟩ st = true := by kernel_rfl) (hk : opOk ⟨d, .binOp .neq t x y t', ty, pos, af, gd⟩ st .no = true := by kernel_rfl) (hw : st.want ops ⟨d, .binOp .neq t x y t', ty, pos, af, gd⟩ = some true := by rfl) : YR P sq ops K (⟨d, .binOp .neq t x y t', ty, pos, af, gd⟩ :: rest) st :=
  yBA (fun w => by rw [Sem.run_bind, run_eqGuard_agg w _ _ _ _ _ _ hE.guard, Result.andThen_ok, run_neq_struct, hE.run w vs us hv hu]; rfl) rfl hx hcx hy hcy h hd hk hw
end
theorem veq_str (a b : List UInt8) : veq (vS a) (vS b) = (a == b) := by
  show ((ByteArray.mk a.toArray).toList == (ByteArray.mk b.toArray).toList) = (a == b)
  rw [str_list, str_list]
theorem veq_int (k k' : IntKind) (a b : Int) : veq (.int k a) (.int k' b) = (a == b) := rfl
end Go.Proofs.YtdkpmnefoobipaaGreatDoor.Px
namespace Go.Proofs.YtdkpmnefoobipaaGreatDoor
open Go.RowKit Px

instance : EqOf Tryz.prog 37 [.i .i64, .i .i64] := eqOf_array (n := 2) (e := 3) (c := .i .i64) (by kernel_rfl) (by kernel_rfl) (by kernel_rfl) (by kernel_rfl) (by kernel_rfl)
instance : EqOf Tryz.prog 41 [.i .i64, .s, .s, .s] := eqOf_struct (by kernel_rfl) (by kernel_rfl) (by kernel_rfl)
theorem take_next {α : Type} {l r : List α} {i : Nat} {x : α} (h : l.take i = r.take i) (hx : l[i]? = some x) (hy : r[i]? = some x) : l.take (i + 1) = r.take (i + 1) := by
  rw [List.take_add_one, List.take_add_one, h, hx, hy]
set_option maxRecDepth 20000 in
set_option maxHeartbeats 2000000 in
theorem wEqP (l r : List (Int × Int)) (hl : l.length ≤ 1000000) (hr : r.length ≤ 1000000) : PCalls Tryz.prog 18 [.sl 2 (l.map dP2), .sl 2 (r.map dP2)] (.d (dB (decide (l = r)))) := by
  refine pcalls_of_pw Tryz.func18 rfl Tryz.ntmps18 Tryz.results18 (by simp) fun B w0 => ?_
  by_cases hn : l.length = r.length
  rotate_left
  · have t1 : (((l.map dP2).length : Int) != ((r.map dP2).length : Int)) = true := by simp; omega
    rw [decide_eq_false fun e => hn (by rw [e])]
    refine pw_seq ?_; refine pw_region ?_; refine yAd rfl ?_; refine yQ ?_; refine pw_seq ?_; refine pw_seq ?_; refine pw_region ?_; refine yMd rfl ?_; refine yN rfl ?_; refine yMd rfl ?_; refine yN rfl ?_; refine yB rfl rfl rfl rfl ?_
    refine yQ ?_; refine q_then ?_; rw [t1]; refine pw_ct rfl ?_; refine pw_seq ?_; refine pw_region ?_; refine yAd rfl ?_; refine yQ ?_; refine pw_ret ?_; refine q_then_ret ?_
    exact q_ret _ (.tmp rfl .nil) rfl
  have t1 : (((l.map dP2).length : Int) != ((r.map dP2).length : Int)) = false := by simp; omega
  refine pw_seq ?_; refine pw_region ?_; refine yAd rfl ?_; refine yQ ?_; refine pw_seq ?_; refine pw_seq ?_; refine pw_region ?_; refine yMd rfl ?_; refine yN rfl ?_; refine yMd rfl ?_; refine yN rfl ?_; refine yB rfl rfl rfl rfl ?_
  refine yQ ?_; refine q_then ?_; rw [t1]; refine pw_cf rfl ?_; refine pw_skip ?_; refine pw_seq ?_; refine pw_seq ?_; refine pw_region ?_; refine yMd rfl ?_; refine yN rfl ?_; refine yMd rfl ?_; refine yQ ?_; refine pw_block ?_
  refine pw_loop (fun i : Nat => ⟨26, [(0, .d (.sl 2 (l.map dP2))), (1, .d (.sl 2 (r.map dP2))), (12, .d (dI l.length)), (13, .d (dI i))], [], []⟩) (fun i => i ≤ l.length ∧ l.take i = r.take i) (fun i => l.length - i) 0 ⟨Nat.zero_le _, rfl⟩ ⟨rfl, ⟨.refl _, .refl _, .of_eq (congrArg (fun n : Nat => SV.d (dI n)) (by simp)), .refl _, trivial⟩, trivial, trivial, rfl⟩ ?_
  rintro i ⟨hi, h0⟩
  refine pw_seq ?_; refine pw_region ?_; refine yB rfl rfl rfl rfl ?_; refine yQ ?_; refine pw_seq ?_
  refine pw_cond rfl (fun h => ?_) (fun h => ?_)
  · simp at h
    obtain ⟨⟨x0, x1⟩, hx⟩ : ∃ a, l[i]? = some a := ⟨_, List.getElem?_eq_getElem h⟩
    obtain ⟨⟨y0, y1⟩, hy⟩ : ∃ a, r[i]? = some a := ⟨_, List.getElem?_eq_getElem (by omega)⟩
    have ex := ix dP2 l i i (x0, x1) rfl hx
    have ey := ix dP2 r i i (y0, y1) rfl hy
    have hw := wrapI ((i : Int) + 1) (by omega)
    have hv : veqs [.int .i64 x0, .int .i64 x1] [.int .i64 y0, .int .i64 y1] = (x0 == y0 && (x1 == y1 && true)) := rfl
    by_cases e : (x0, x1) = (y0, y1)
    · cases e
      have t2 : veqs [.int .i64 x0, .int .i64 x1] [.int .i64 x0, .int .i64 x1] = true := by rw [hv]; simp
      refine pw_skip ?_; refine pw_seq ?_; refine pw_block ?_; refine pw_seq ?_; refine pw_region ?_; refine yMd rfl ?_; refine yAd rfl ?_; refine yQ ?_; refine pw_seq ?_; refine pw_draw Tryz.mixed (by kernel_rfl) ?_; refine yMd rfl ?_
      refine yMd rfl ?_; refine yW ex (by omega) rfl rfl ?_; refine yLs (ys := [_, _]) rfl rfl rfl ?_; refine yMd rfl ?_; refine yMd rfl ?_; refine yW ey (by omega) rfl rfl ?_; refine yLs (ys := [_, _]) rfl rfl rfl ?_
      refine yBx (vs := [.int .i64 x0, .int .i64 x1]) (us := [.int .i64 x0, .int .i64 x1]) rfl rfl rfl rfl rfl rfl ?_; refine yQ ?_; refine q_then ?_; rw [t2]; refine pw_cf rfl ?_; refine pw_skip ?_; refine pw_region ?_
      refine yB rfl rfl rfl rfl ?_; refine yMd rfl ?_; refine yQ ?_; refine q_then ?_
      refine ⟨i + 1, ⟨by omega, take_next h0 hx hy⟩, by omega, rfl, ⟨.refl _, .refl _, .refl _, .of_eq (congrArg (fun n => SV.d (dI n)) hw), trivial⟩, trivial, trivial, rfl⟩
    · have t2 : veqs [.int .i64 x0, .int .i64 x1] [.int .i64 y0, .int .i64 y1] = false := by
        rw [hv]
        cases h1 : (x0 == y0) with
        | false => rfl
        | true => cases h2 : (x1 == y1) with
          | false => rfl
          | true => exact absurd (by rw [eq_of_beq h1, eq_of_beq h2]) e
      rw [decide_eq_false fun e2 => e (by subst e2; rw [hx] at hy; exact Option.some.inj hy)]
      refine pw_skip ?_; refine pw_seq ?_; refine pw_block ?_; refine pw_seq ?_; refine pw_region ?_; refine yMd rfl ?_; refine yAd rfl ?_; refine yQ ?_; refine pw_seq ?_; refine pw_draw Tryz.mixed (by kernel_rfl) ?_; refine yMd rfl ?_
      refine yMd rfl ?_; refine yW ex (by omega) rfl rfl ?_; refine yLs (ys := [_, _]) rfl rfl rfl ?_; refine yMd rfl ?_; refine yMd rfl ?_; refine yW ey (by omega) rfl rfl ?_; refine yLs (ys := [_, _]) rfl rfl rfl ?_
      refine yBx (vs := [.int .i64 x0, .int .i64 x1]) (us := [.int .i64 y0, .int .i64 y1]) rfl rfl rfl rfl rfl rfl ?_; refine yQ ?_; refine q_then ?_; rw [t2]; refine pw_ct rfl ?_; refine pw_seq ?_; refine pw_region ?_; refine yAd rfl ?_
      refine yQ ?_; refine pw_ret ?_; refine q_blk_ret ?_; refine q_then_ret ?_; refine q_then_ret ?_; refine q_blk_ret ?_; refine q_then_ret ?_
      exact q_ret _ (.tmp rfl .nil) rfl
  · simp at h
    rw [List.take_of_length_le (by omega), List.take_of_length_le (by omega)] at h0
    rw [decide_eq_true h0]
    refine pw_exit ?_; refine pw_seq ?_; refine pw_region ?_; refine yAd rfl ?_; refine yQ ?_; refine pw_ret ?_
    exact q_ret _ (.tmp rfl .nil) rfl
abbrev vBk (x : Bk) : List Value := [.int .i64 x.1, vS x.2.1, vS x.2.2.1, vS x.2.2.2]
theorem veq_bk (x y : Bk) : veqs (vBk x) (vBk y) = decide (x = y) := by
  obtain ⟨x0, x1, x2, x3⟩ := x
  obtain ⟨y0, y1, y2, y3⟩ := y
  show (veq (.int .i64 x0) (.int .i64 y0) && (veq (vS x1) (vS y1) && (veq (vS x2) (vS y2) && (veq (vS x3) (vS y3) && true)))) = _
  rw [veq_str, veq_str, veq_str, veq_int, Bool.eq_iff_iff]
  simp
set_option maxRecDepth 20000 in
set_option maxHeartbeats 2000000 in
theorem wEqB (l r : List Bk) (hl : l.length ≤ 1000000) (hr : r.length ≤ 1000000) : PCalls Tryz.prog 19 [.sl 4 (l.map dBk), .sl 4 (r.map dBk)] (.d (dB (decide (l = r)))) := by
  refine pcalls_of_pw Tryz.func19 rfl Tryz.ntmps19 Tryz.results19 (by simp) fun B w0 => ?_
  by_cases hn : l.length = r.length
  rotate_left
  · have t1 : (((l.map dBk).length : Int) != ((r.map dBk).length : Int)) = true := by simp; omega
    rw [decide_eq_false fun e => hn (by rw [e])]
    refine pw_seq ?_; refine pw_region ?_; refine yAd rfl ?_; refine yQ ?_; refine pw_seq ?_; refine pw_seq ?_; refine pw_region ?_; refine yMd rfl ?_; refine yN rfl ?_; refine yMd rfl ?_; refine yN rfl ?_; refine yB rfl rfl rfl rfl ?_
    refine yQ ?_; refine q_then ?_; rw [t1]; refine pw_ct rfl ?_; refine pw_seq ?_; refine pw_region ?_; refine yAd rfl ?_; refine yQ ?_; refine pw_ret ?_; refine q_then_ret ?_
    exact q_ret _ (.tmp rfl .nil) rfl
  have t1 : (((l.map dBk).length : Int) != ((r.map dBk).length : Int)) = false := by simp; omega
  refine pw_seq ?_; refine pw_region ?_; refine yAd rfl ?_; refine yQ ?_; refine pw_seq ?_; refine pw_seq ?_; refine pw_region ?_; refine yMd rfl ?_; refine yN rfl ?_; refine yMd rfl ?_; refine yN rfl ?_; refine yB rfl rfl rfl rfl ?_
  refine yQ ?_; refine q_then ?_; rw [t1]; refine pw_cf rfl ?_; refine pw_skip ?_; refine pw_seq ?_; refine pw_seq ?_; refine pw_region ?_; refine yMd rfl ?_; refine yN rfl ?_; refine yMd rfl ?_; refine yQ ?_; refine pw_block ?_
  refine pw_loop (fun i : Nat => ⟨26, [(0, .d (.sl 4 (l.map dBk))), (1, .d (.sl 4 (r.map dBk))), (12, .d (dI l.length)), (13, .d (dI i))], [], []⟩) (fun i => i ≤ l.length ∧ l.take i = r.take i) (fun i => l.length - i) 0 ⟨Nat.zero_le _, rfl⟩ ⟨rfl, ⟨.refl _, .refl _, .of_eq (congrArg (fun n : Nat => SV.d (dI n)) (by simp)), .refl _, trivial⟩, trivial, trivial, rfl⟩ ?_
  rintro i ⟨hi, h0⟩
  refine pw_seq ?_; refine pw_region ?_; refine yB rfl rfl rfl rfl ?_; refine yQ ?_; refine pw_seq ?_
  refine pw_cond rfl (fun h => ?_) (fun h => ?_)
  · simp at h
    obtain ⟨x, hx⟩ : ∃ a, l[i]? = some a := ⟨_, List.getElem?_eq_getElem h⟩
    obtain ⟨y, hy⟩ : ∃ a, r[i]? = some a := ⟨_, List.getElem?_eq_getElem (by omega)⟩
    have ex := ix dBk l i i x rfl hx
    have ey := ix dBk r i i y rfl hy
    have hw := wrapI ((i : Int) + 1) (by omega)
    have hv := veq_bk x y
    by_cases e : x = y
    · rw [decide_eq_true e] at hv
      refine pw_skip ?_; refine pw_seq ?_; refine pw_block ?_; refine pw_seq ?_; refine pw_region ?_; refine yMd rfl ?_; refine yAd rfl ?_; refine yQ ?_; refine pw_seq ?_; refine pw_draw Tryz.mixed (by kernel_rfl) ?_; refine yMd rfl ?_
      refine yMd rfl ?_; refine yW ex (by omega) rfl rfl ?_; refine yLs (ys := [_, _, _, _]) rfl rfl rfl ?_; refine yMd rfl ?_; refine yMd rfl ?_; refine yW ey (by omega) rfl rfl ?_; refine yLs (ys := [_, _, _, _]) rfl rfl rfl ?_
      refine yBx (vs := vBk x) (us := vBk y) rfl rfl rfl rfl rfl rfl ?_; refine yQ ?_; refine q_then ?_; rw [hv]; refine pw_cf rfl ?_; refine pw_skip ?_; refine pw_region ?_; refine yB rfl rfl rfl rfl ?_; refine yMd rfl ?_; refine yQ ?_
      refine q_then ?_
      refine ⟨i + 1, ⟨by omega, take_next h0 hx (e ▸ hy)⟩, by omega, rfl, ⟨.refl _, .refl _, .refl _, .of_eq (congrArg (fun n => SV.d (dI n)) hw), trivial⟩, trivial, trivial, rfl⟩
    · rw [decide_eq_false e] at hv
      rw [decide_eq_false fun e2 => e (by subst e2; rw [hx] at hy; exact Option.some.inj hy)]
      refine pw_skip ?_; refine pw_seq ?_; refine pw_block ?_; refine pw_seq ?_; refine pw_region ?_; refine yMd rfl ?_; refine yAd rfl ?_; refine yQ ?_; refine pw_seq ?_; refine pw_draw Tryz.mixed (by kernel_rfl) ?_; refine yMd rfl ?_
      refine yMd rfl ?_; refine yW ex (by omega) rfl rfl ?_; refine yLs (ys := [_, _, _, _]) rfl rfl rfl ?_; refine yMd rfl ?_; refine yMd rfl ?_; refine yW ey (by omega) rfl rfl ?_; refine yLs (ys := [_, _, _, _]) rfl rfl rfl ?_
      refine yBx (vs := vBk x) (us := vBk y) rfl rfl rfl rfl rfl rfl ?_; refine yQ ?_; refine q_then ?_; rw [hv]; refine pw_ct rfl ?_; refine pw_seq ?_; refine pw_region ?_; refine yAd rfl ?_; refine yQ ?_; refine pw_ret ?_
      refine q_blk_ret ?_; refine q_then_ret ?_; refine q_then_ret ?_; refine q_blk_ret ?_; refine q_then_ret ?_
      exact q_ret _ (.tmp rfl .nil) rfl
  · simp at h
    rw [List.take_of_length_le (by omega), List.take_of_length_le (by omega)] at h0
    rw [decide_eq_true h0]
    refine pw_exit ?_; refine pw_seq ?_; refine pw_region ?_; refine yAd rfl ?_; refine yQ ?_; refine pw_ret ?_
    exact q_ret _ (.tmp rfl .nil) rfl
end Go.Proofs.YtdkpmnefoobipaaGreatDoor
namespace Go.Proofs.YtdkpmnefoobipaaGreatDoor
open Go.RowKit Px

/-- how many elements the first lists have -/
def tot {α : Type} (css : List (List α)) (k : Nat) : Nat := ((css.take k).flatten).length
theorem tot_succ {α : Type} {css : List (List α)} {k : Nat} {c : List α} (h : css[k]? = some c) : tot css (k + 1) = tot css k + c.length := by
  unfold tot
  rw [List.take_add_one, h]
  simp
theorem tot_le {α : Type} (css : List (List α)) (k : Nat) : tot css k ≤ css.flatten.length := by
  unfold tot
  have : css.flatten = (css.take k).flatten ++ (css.drop k).flatten := by rw [← List.flatten_append, List.take_append_drop]
  rw [this, List.length_append]
  omega

set_option maxRecDepth 20000 in
set_option maxHeartbeats 1000000 in
theorem wGrowH (n : Nat) (hn : n ≤ 1000000) : POwn Tryz.prog 80 [.val (.slice none 0 0), dI n] 55 2 [] := by
  have t1 : decide ((n : Int) < 0) = false := decide_eq_false (by omega)
  have hw : IntKind.i64.wrap ((n : Int) - IntKind.i64.wrap (0 - 0)) = n := by rw [show IntKind.i64.wrap (0 - 0) = 0 by decide, Int.sub_zero]; exact wrapI _ (by omega)
  rcases Nat.eq_zero_or_pos n with rfl | h0
  · refine own_nil ?_
    refine pcalls_of_pw Tryz.func80 rfl Tryz.ntmps80 Tryz.results80 (by simp) fun B w0 => ?_
    refine pw_seq ?_; refine pw_region ?_; refine yAd rfl ?_; refine yQ ?_; refine pw_seq ?_; refine pw_seq ?_; refine pw_region ?_; refine yMd rfl ?_; refine yB rfl rfl rfl rfl ?_; refine yQ ?_; refine pw_cf rfl ?_; refine pw_skip ?_
    refine pw_seq ?_; refine pw_seq ?_; refine pw_region ?_; refine yMd rfl ?_; refine yMd rfl ?_; refine yNc rfl ?_; refine yMd rfl ?_; refine yNl rfl ?_; refine yB rfl rfl rfl rfl ?_; refine yB rfl rfl rfl rfl ?_; refine yAd rfl ?_
    refine yQ ?_; refine pw_seq ?_; refine pw_region ?_; refine yMd rfl ?_; refine yB rfl rfl rfl rfl ?_; refine yQ ?_; refine pw_cf rfl ?_; refine pw_skip ?_; refine pw_seq ?_; refine pw_region ?_; refine yMd rfl ?_; refine yAd rfl ?_
    refine yQ ?_; refine pw_ret ?_
    exact q_ret _ (.tmp rfl .nil) rfl
  · have t2 : decide ((n : Int) > 0) = true := decide_eq_true (by omega)
    refine pown_of_pw (t := 55 * 100000 + 4) Tryz.func80 rfl Tryz.ntmps80 Tryz.results80 (by simp) rfl fun B w0 => ?_
    refine pw_seq ?_; refine pw_region ?_; refine yAd rfl ?_; refine yQ ?_; refine pw_seq ?_; refine pw_seq ?_; refine pw_region ?_; refine yMd rfl ?_; refine yB rfl rfl rfl rfl ?_; refine yQ ?_; refine pw_cf rfl ?_; refine pw_skip ?_
    refine pw_seq ?_; refine pw_seq ?_; refine pw_region ?_; refine yMd rfl ?_; refine yMd rfl ?_; refine yNc rfl ?_; refine yMd rfl ?_; refine yNl rfl ?_; refine yB rfl rfl rfl rfl ?_; refine yB rfl rfl rfl rfl ?_; refine yAd rfl ?_
    refine yQ ?_; refine pw_seq ?_; refine pw_region ?_; refine yMd rfl ?_; refine yB rfl rfl rfl rfl ?_; refine yQ ?_; refine q_then ?_; rw [t1]; rw [hw]; rw [t2]; refine pw_ct rfl ?_; refine pw_region ?_; refine yMd rfl ?_
    refine yMd rfl ?_; refine yNc rfl ?_; refine ySz rfl rfl ?_; refine yMd rfl ?_; refine yAz (by omega) Tryz.underlying3 rfl rfl h0 (by omega) (by omega) rfl ?_; refine yMd rfl ?_; refine yNl rfl ?_
    refine yDb (by omega) (by omega) rfl rfl ?_; refine yAw rfl ?_; refine yQ ?_; refine pw_tkz 0 22 (55 * 100000 + 4) 2 rfl rfl rfl rfl rfl ?_; refine pw_seq ?_; refine pw_region ?_; refine yMt rfl ?_; refine yAt rfl ?_; refine yQ ?_
    refine pw_ret ?_
    exact q_own rfl rfl
set_option maxRecDepth 20000 in
set_option maxHeartbeats 1000000 in
theorem wConcatH (css : List (List Hd)) (hl : css.length ≤ 1000) (ht : (css.flatten).length ≤ 1000000) : PCalls Tryz.prog 48 [.sl 1 (css.map fun c => [.sl 2 (c.map dH)])] (.d (.sl 2 (css.flatten.map dH))) := by
  refine pcalls_of_pw Tryz.func48 rfl Tryz.ntmps48 Tryz.results48 (by simp) fun B w0 => ?_
  refine pw_seq ?_; refine pw_region ?_; refine yAd rfl ?_; refine yQ ?_; refine pw_seq ?_; refine pw_region ?_; refine yAd rfl ?_; refine yQ ?_; refine pw_seq ?_; refine pw_seq ?_; refine pw_region ?_; refine yMd rfl ?_
  refine yN rfl ?_; refine yMd rfl ?_; refine yQ ?_; refine pw_block ?_
  refine pw_loop (fun k : Nat => ⟨36, [(0, .d (.sl 1 (css.map fun c => [.sl 2 (c.map dH)]))), (9, .d (.sl 1 (css.map fun c => [.sl 2 (c.map dH)]))), (10, .d (dI css.length)), (11, .d (dI k)), (3, .d (dI (tot css k)))], [], []⟩) (fun k => k ≤ css.length) (fun k => css.length - k) 0 (Nat.zero_le _) ⟨rfl, ⟨.refl _, .refl _, .of_eq ?_, .refl _, .refl _, trivial⟩, trivial, trivial, rfl⟩ ?_
  · exact congrArg (fun n : Nat => SV.d (dI n)) (by simp)
  intro k hk
  refine pw_seq ?_; refine pw_region ?_; refine yB rfl rfl rfl rfl ?_; refine yQ ?_; refine pw_seq ?_
  refine pw_cond rfl (fun h => ?_) (fun h => ?_)
  · simp at h
    obtain ⟨c, gk⟩ : ∃ c, css[k]? = some c := ⟨_, List.getElem?_eq_getElem h⟩
    have ek := ix (fun c => [.sl 2 (c.map dH)]) css k k c rfl gk
    have hts := tot_succ gk
    have htl := tot_le css (k + 1)
    have hw1 := wrapI ((k : Int) + 1) (by omega)
    have hw2 : IntKind.i64.wrap ((tot css k : Int) + ((c.map dH).length : Int)) = (tot css (k + 1) : Int) := by rw [List.length_map, wrapI _ (by omega)]; omega
    have h0 : decide ((tot css (k + 1) : Int) < 0) = false := decide_eq_false (by omega)
    refine pw_skip ?_; refine pw_seq ?_; refine pw_block ?_; refine pw_seq ?_; refine pw_region ?_; refine yW ek (by omega) rfl rfl ?_; refine yLr rfl rfl ?_; refine yAd rfl ?_; refine yQ ?_; refine pw_seq ?_; refine pw_region ?_
    refine yMd rfl ?_; refine yMd rfl ?_; refine yN rfl ?_; refine yB rfl rfl rfl rfl ?_; refine yAd rfl ?_; refine yQ ?_; refine pw_seq ?_; refine pw_region ?_; refine yMd rfl ?_; refine yB rfl rfl rfl rfl ?_; refine yQ ?_
    refine q_then ?_; rw [hw2]; refine pw_cf rfl ?_; refine pw_skip ?_; refine pw_region ?_; refine yB rfl rfl rfl rfl ?_; refine yMd rfl ?_; refine yQ ?_; refine q_then ?_; rw [h0]
    refine ⟨k + 1, by omega, by omega, rfl, ⟨.refl _, .refl _, .refl _, .of_eq (congrArg (fun n => SV.d (dI n)) hw1), .refl _, trivial⟩, trivial, trivial, rfl⟩
  · simp at h
    obtain rfl : k = css.length := by omega
    have ht2 : tot css css.length = css.flatten.length := by rw [tot, List.take_length]
    have c1 := wGrowH (tot css css.length) (by omega)
    refine pw_exit ?_; refine pw_seq ?_; refine pw_region ?_; refine yMd rfl ?_; refine yCo (t := 55 * 100000 + 6) c1 rfl rfl rfl rfl ?_; refine yAt rfl ?_; refine yQ ?_; refine pw_seq ?_; refine pw_seq ?_; refine pw_region ?_
    refine yMd rfl ?_; refine yN rfl ?_; refine yMd rfl ?_; refine yQ ?_; refine pw_block ?_
    refine pw_loop (fun k : Nat => ⟨36, [(25, .d (.sl 1 (css.map fun c => [.sl 2 (c.map dH)]))), (26, .d (dI css.length)), (27, .d (dI k)), (6, .ts (55 * 100000 + 6) 2 (((css.take k).flatten).map dH))], [], [(55 * 100000 + 6, (((css.take k).flatten).map dH).length)]⟩) (fun k => k ≤ css.length) (fun k => css.length - k) 0 (Nat.zero_le _) ⟨rfl, ⟨.refl _, .of_eq ?_, .refl _, .refl _, trivial⟩, trivial, ⟨rfl, trivial⟩, rfl⟩ ?_
    · exact congrArg (fun n : Nat => SV.d (dI n)) (by simp)
    intro k hk
    refine pw_seq ?_; refine pw_region ?_; refine yB rfl rfl rfl rfl ?_; refine yQ ?_; refine pw_seq ?_
    refine pw_cond rfl (fun h => ?_) (fun h => ?_)
    · simp at h
      obtain ⟨c, gk⟩ : ∃ c, css[k]? = some c := ⟨_, List.getElem?_eq_getElem h⟩
      have ek := ix (fun c => [.sl 2 (c.map dH)]) css k k c rfl gk
      have hts := tot_succ gk
      have htl := tot_le css (k + 1)
      have hw1 := wrapI ((k : Int) + 1) (by omega)
      have hfl : (css.take (k + 1)).flatten = (css.take k).flatten ++ c := by rw [List.take_add_one, gk]; simp
      have hln : ((css.take k).flatten).length = tot css k := rfl
      obtain ⟨zs, hz⟩ : ∃ zs, zs = (css.take k).flatten := ⟨_, rfl⟩
      rw [← hz] at hfl hln ⊢
      refine pw_skip ?_; refine pw_seq ?_; refine pw_block ?_; refine pw_seq ?_; refine pw_region ?_; refine yW ek (by omega) rfl rfl ?_; refine yLr rfl rfl ?_; refine yAd rfl ?_; refine yQ ?_; refine pw_region ?_; refine yMt rfl ?_
      refine yMd rfl ?_; refine yT (es' := (zs ++ c).map dH) (m := ((zs ++ c).map dH).length) (by simp; omega) (by simp; omega) rfl rfl rfl rfl rfl (by simp) (by simp) ?_; refine yAt rfl ?_; refine yQ ?_; refine pw_region ?_
      refine yB rfl rfl rfl rfl ?_; refine yMd rfl ?_; refine yQ ?_; refine q_then ?_
      refine ⟨k + 1, by omega, by omega, rfl, ⟨.refl _, .refl _, .of_eq (congrArg (fun n => SV.d (dI n)) hw1), .of_eq ?_, trivial⟩, trivial, ⟨?_, trivial⟩, rfl⟩
      · rw [hfl]; rfl
      · rw [hfl]; rfl
    · simp at h
      obtain rfl : k = css.length := by omega
      rw [List.take_length]
      refine pw_exit ?_; refine pw_seq ?_; refine pw_region ?_; refine yMt rfl ?_; refine yAt rfl ?_; refine yQ ?_; refine pw_ret ?_
      exact q_ret _ (.tmp rfl .nil) rfl

set_option maxRecDepth 20000 in
set_option maxHeartbeats 1000000 in
theorem wGrowB (n : Nat) (hn : n ≤ 1000000) : POwn Tryz.prog 52 [.val (.slice none 0 0), dI n] 41 4 [] := by
  have t1 : decide ((n : Int) < 0) = false := decide_eq_false (by omega)
  have hw : IntKind.i64.wrap ((n : Int) - IntKind.i64.wrap (0 - 0)) = n := by rw [show IntKind.i64.wrap (0 - 0) = 0 by decide, Int.sub_zero]; exact wrapI _ (by omega)
  rcases Nat.eq_zero_or_pos n with rfl | h0
  · refine own_nil ?_
    refine pcalls_of_pw Tryz.func52 rfl Tryz.ntmps52 Tryz.results52 (by simp) fun B w0 => ?_
    refine pw_seq ?_; refine pw_region ?_; refine yAd rfl ?_; refine yQ ?_; refine pw_seq ?_; refine pw_seq ?_; refine pw_region ?_; refine yMd rfl ?_; refine yB rfl rfl rfl rfl ?_; refine yQ ?_; refine pw_cf rfl ?_; refine pw_skip ?_
    refine pw_seq ?_; refine pw_seq ?_; refine pw_region ?_; refine yMd rfl ?_; refine yMd rfl ?_; refine yNc rfl ?_; refine yMd rfl ?_; refine yNl rfl ?_; refine yB rfl rfl rfl rfl ?_; refine yB rfl rfl rfl rfl ?_; refine yAd rfl ?_
    refine yQ ?_; refine pw_seq ?_; refine pw_region ?_; refine yMd rfl ?_; refine yB rfl rfl rfl rfl ?_; refine yQ ?_; refine pw_cf rfl ?_; refine pw_skip ?_; refine pw_seq ?_; refine pw_region ?_; refine yMd rfl ?_; refine yAd rfl ?_
    refine yQ ?_; refine pw_ret ?_
    exact q_ret _ (.tmp rfl .nil) rfl
  · have t2 : decide ((n : Int) > 0) = true := decide_eq_true (by omega)
    refine pown_of_pw (t := 41 * 100000 + 4) Tryz.func52 rfl Tryz.ntmps52 Tryz.results52 (by simp) rfl fun B w0 => ?_
    refine pw_seq ?_; refine pw_region ?_; refine yAd rfl ?_; refine yQ ?_; refine pw_seq ?_; refine pw_seq ?_; refine pw_region ?_; refine yMd rfl ?_; refine yB rfl rfl rfl rfl ?_; refine yQ ?_; refine pw_cf rfl ?_; refine pw_skip ?_
    refine pw_seq ?_; refine pw_seq ?_; refine pw_region ?_; refine yMd rfl ?_; refine yMd rfl ?_; refine yNc rfl ?_; refine yMd rfl ?_; refine yNl rfl ?_; refine yB rfl rfl rfl rfl ?_; refine yB rfl rfl rfl rfl ?_; refine yAd rfl ?_
    refine yQ ?_; refine pw_seq ?_; refine pw_region ?_; refine yMd rfl ?_; refine yB rfl rfl rfl rfl ?_; refine yQ ?_; refine q_then ?_; rw [t1]; rw [hw]; rw [t2]; refine pw_ct rfl ?_; refine pw_region ?_; refine yMd rfl ?_
    refine yMd rfl ?_; refine yNc rfl ?_; refine ySz rfl rfl ?_; refine yMd rfl ?_; refine yAz (by omega) Tryz.underlying3 rfl rfl h0 (by omega) (by omega) rfl ?_; refine yMd rfl ?_; refine yNl rfl ?_
    refine yDb (by omega) (by omega) rfl rfl ?_; refine yAw rfl ?_; refine yQ ?_; refine pw_tkz 0 22 (41 * 100000 + 4) 4 rfl rfl rfl rfl rfl ?_; refine pw_seq ?_; refine pw_region ?_; refine yMt rfl ?_; refine yAt rfl ?_; refine yQ ?_
    refine pw_ret ?_
    exact q_own rfl rfl
set_option maxRecDepth 20000 in
set_option maxHeartbeats 1000000 in
theorem wConcatB (css : List (List Bk)) (hl : css.length ≤ 1000) (ht : (css.flatten).length ≤ 1000000) : PCalls Tryz.prog 24 [.sl 1 (css.map fun c => [.sl 4 (c.map dBk)])] (.d (.sl 4 (css.flatten.map dBk))) := by
  refine pcalls_of_pw Tryz.func24 rfl Tryz.ntmps24 Tryz.results24 (by simp) fun B w0 => ?_
  refine pw_seq ?_; refine pw_region ?_; refine yAd rfl ?_; refine yQ ?_; refine pw_seq ?_; refine pw_region ?_; refine yAd rfl ?_; refine yQ ?_; refine pw_seq ?_; refine pw_seq ?_; refine pw_region ?_; refine yMd rfl ?_
  refine yN rfl ?_; refine yMd rfl ?_; refine yQ ?_; refine pw_block ?_
  refine pw_loop (fun k : Nat => ⟨36, [(0, .d (.sl 1 (css.map fun c => [.sl 4 (c.map dBk)]))), (9, .d (.sl 1 (css.map fun c => [.sl 4 (c.map dBk)]))), (10, .d (dI css.length)), (11, .d (dI k)), (3, .d (dI (tot css k)))], [], []⟩) (fun k => k ≤ css.length) (fun k => css.length - k) 0 (Nat.zero_le _) ⟨rfl, ⟨.refl _, .refl _, .of_eq ?_, .refl _, .refl _, trivial⟩, trivial, trivial, rfl⟩ ?_
  · exact congrArg (fun n : Nat => SV.d (dI n)) (by simp)
  intro k hk
  refine pw_seq ?_; refine pw_region ?_; refine yB rfl rfl rfl rfl ?_; refine yQ ?_; refine pw_seq ?_
  refine pw_cond rfl (fun h => ?_) (fun h => ?_)
  · simp at h
    obtain ⟨c, gk⟩ : ∃ c, css[k]? = some c := ⟨_, List.getElem?_eq_getElem h⟩
    have ek := ix (fun c => [.sl 4 (c.map dBk)]) css k k c rfl gk
    have hts := tot_succ gk
    have htl := tot_le css (k + 1)
    have hw1 := wrapI ((k : Int) + 1) (by omega)
    have hw2 : IntKind.i64.wrap ((tot css k : Int) + ((c.map dBk).length : Int)) = (tot css (k + 1) : Int) := by rw [List.length_map, wrapI _ (by omega)]; omega
    have h0 : decide ((tot css (k + 1) : Int) < 0) = false := decide_eq_false (by omega)
    refine pw_skip ?_; refine pw_seq ?_; refine pw_block ?_; refine pw_seq ?_; refine pw_region ?_; refine yW ek (by omega) rfl rfl ?_; refine yLr rfl rfl ?_; refine yAd rfl ?_; refine yQ ?_; refine pw_seq ?_; refine pw_region ?_
    refine yMd rfl ?_; refine yMd rfl ?_; refine yN rfl ?_; refine yB rfl rfl rfl rfl ?_; refine yAd rfl ?_; refine yQ ?_; refine pw_seq ?_; refine pw_region ?_; refine yMd rfl ?_; refine yB rfl rfl rfl rfl ?_; refine yQ ?_
    refine q_then ?_; rw [hw2]; refine pw_cf rfl ?_; refine pw_skip ?_; refine pw_region ?_; refine yB rfl rfl rfl rfl ?_; refine yMd rfl ?_; refine yQ ?_; refine q_then ?_; rw [h0]
    refine ⟨k + 1, by omega, by omega, rfl, ⟨.refl _, .refl _, .refl _, .of_eq (congrArg (fun n => SV.d (dI n)) hw1), .refl _, trivial⟩, trivial, trivial, rfl⟩
  · simp at h
    obtain rfl : k = css.length := by omega
    have ht2 : tot css css.length = css.flatten.length := by rw [tot, List.take_length]
    have c1 := wGrowB (tot css css.length) (by omega)
    refine pw_exit ?_; refine pw_seq ?_; refine pw_region ?_; refine yMd rfl ?_; refine yCo (t := 41 * 100000 + 6) c1 rfl rfl rfl rfl ?_; refine yAt rfl ?_; refine yQ ?_; refine pw_seq ?_; refine pw_seq ?_; refine pw_region ?_
    refine yMd rfl ?_; refine yN rfl ?_; refine yMd rfl ?_; refine yQ ?_; refine pw_block ?_
    refine pw_loop (fun k : Nat => ⟨36, [(25, .d (.sl 1 (css.map fun c => [.sl 4 (c.map dBk)]))), (26, .d (dI css.length)), (27, .d (dI k)), (6, .ts (41 * 100000 + 6) 4 (((css.take k).flatten).map dBk))], [], [(41 * 100000 + 6, (((css.take k).flatten).map dBk).length)]⟩) (fun k => k ≤ css.length) (fun k => css.length - k) 0 (Nat.zero_le _) ⟨rfl, ⟨.refl _, .of_eq ?_, .refl _, .refl _, trivial⟩, trivial, ⟨rfl, trivial⟩, rfl⟩ ?_
    · exact congrArg (fun n : Nat => SV.d (dI n)) (by simp)
    intro k hk
    refine pw_seq ?_; refine pw_region ?_; refine yB rfl rfl rfl rfl ?_; refine yQ ?_; refine pw_seq ?_
    refine pw_cond rfl (fun h => ?_) (fun h => ?_)
    · simp at h
      obtain ⟨c, gk⟩ : ∃ c, css[k]? = some c := ⟨_, List.getElem?_eq_getElem h⟩
      have ek := ix (fun c => [.sl 4 (c.map dBk)]) css k k c rfl gk
      have hts := tot_succ gk
      have htl := tot_le css (k + 1)
      have hw1 := wrapI ((k : Int) + 1) (by omega)
      have hfl : (css.take (k + 1)).flatten = (css.take k).flatten ++ c := by rw [List.take_add_one, gk]; simp
      have hln : ((css.take k).flatten).length = tot css k := rfl
      obtain ⟨zs, hz⟩ : ∃ zs, zs = (css.take k).flatten := ⟨_, rfl⟩
      rw [← hz] at hfl hln ⊢
      refine pw_skip ?_; refine pw_seq ?_; refine pw_block ?_; refine pw_seq ?_; refine pw_region ?_; refine yW ek (by omega) rfl rfl ?_; refine yLr rfl rfl ?_; refine yAd rfl ?_; refine yQ ?_; refine pw_region ?_; refine yMt rfl ?_
      refine yMd rfl ?_; refine yT (es' := (zs ++ c).map dBk) (m := ((zs ++ c).map dBk).length) (by simp; omega) (by simp; omega) rfl rfl rfl rfl rfl (by simp) (by simp) ?_; refine yAt rfl ?_; refine yQ ?_; refine pw_region ?_
      refine yB rfl rfl rfl rfl ?_; refine yMd rfl ?_; refine yQ ?_; refine q_then ?_
      refine ⟨k + 1, by omega, by omega, rfl, ⟨.refl _, .refl _, .of_eq (congrArg (fun n => SV.d (dI n)) hw1), .of_eq ?_, trivial⟩, trivial, ⟨?_, trivial⟩, rfl⟩
      · rw [hfl]; rfl
      · rw [hfl]; rfl
    · simp at h
      obtain rfl : k = css.length := by omega
      rw [List.take_length]
      refine pw_exit ?_; refine pw_seq ?_; refine pw_region ?_; refine yMt rfl ?_; refine yAt rfl ?_; refine yQ ?_; refine pw_ret ?_
      exact q_ret _ (.tmp rfl .nil) rfl

set_option maxRecDepth 20000 in
set_option maxHeartbeats 1000000 in
theorem wGrowM (n : Nat) (hn : n ≤ 1000000) : POwn Tryz.prog 60 [.val (.slice none 0 0), dI n] 44 5 [] := by
  have t1 : decide ((n : Int) < 0) = false := decide_eq_false (by omega)
  have hw : IntKind.i64.wrap ((n : Int) - IntKind.i64.wrap (0 - 0)) = n := by rw [show IntKind.i64.wrap (0 - 0) = 0 by decide, Int.sub_zero]; exact wrapI _ (by omega)
  rcases Nat.eq_zero_or_pos n with rfl | h0
  · refine own_nil ?_
    refine pcalls_of_pw Tryz.func60 rfl Tryz.ntmps60 Tryz.results60 (by simp) fun B w0 => ?_
    refine pw_seq ?_; refine pw_region ?_; refine yAd rfl ?_; refine yQ ?_; refine pw_seq ?_; refine pw_seq ?_; refine pw_region ?_; refine yMd rfl ?_; refine yB rfl rfl rfl rfl ?_; refine yQ ?_; refine pw_cf rfl ?_; refine pw_skip ?_
    refine pw_seq ?_; refine pw_seq ?_; refine pw_region ?_; refine yMd rfl ?_; refine yMd rfl ?_; refine yNc rfl ?_; refine yMd rfl ?_; refine yNl rfl ?_; refine yB rfl rfl rfl rfl ?_; refine yB rfl rfl rfl rfl ?_; refine yAd rfl ?_
    refine yQ ?_; refine pw_seq ?_; refine pw_region ?_; refine yMd rfl ?_; refine yB rfl rfl rfl rfl ?_; refine yQ ?_; refine pw_cf rfl ?_; refine pw_skip ?_; refine pw_seq ?_; refine pw_region ?_; refine yMd rfl ?_; refine yAd rfl ?_
    refine yQ ?_; refine pw_ret ?_
    exact q_ret _ (.tmp rfl .nil) rfl
  · have t2 : decide ((n : Int) > 0) = true := decide_eq_true (by omega)
    refine pown_of_pw (t := 44 * 100000 + 4) Tryz.func60 rfl Tryz.ntmps60 Tryz.results60 (by simp) rfl fun B w0 => ?_
    refine pw_seq ?_; refine pw_region ?_; refine yAd rfl ?_; refine yQ ?_; refine pw_seq ?_; refine pw_seq ?_; refine pw_region ?_; refine yMd rfl ?_; refine yB rfl rfl rfl rfl ?_; refine yQ ?_; refine pw_cf rfl ?_; refine pw_skip ?_
    refine pw_seq ?_; refine pw_seq ?_; refine pw_region ?_; refine yMd rfl ?_; refine yMd rfl ?_; refine yNc rfl ?_; refine yMd rfl ?_; refine yNl rfl ?_; refine yB rfl rfl rfl rfl ?_; refine yB rfl rfl rfl rfl ?_; refine yAd rfl ?_
    refine yQ ?_; refine pw_seq ?_; refine pw_region ?_; refine yMd rfl ?_; refine yB rfl rfl rfl rfl ?_; refine yQ ?_; refine q_then ?_; rw [t1]; rw [hw]; rw [t2]; refine pw_ct rfl ?_; refine pw_region ?_; refine yMd rfl ?_
    refine yMd rfl ?_; refine yNc rfl ?_; refine ySz rfl rfl ?_; refine yMd rfl ?_; refine yAz (by omega) Tryz.underlying3 rfl rfl h0 (by omega) (by omega) rfl ?_; refine yMd rfl ?_; refine yNl rfl ?_
    refine yDb (by omega) (by omega) rfl rfl ?_; refine yAw rfl ?_; refine yQ ?_; refine pw_tkz 0 22 (44 * 100000 + 4) 5 rfl rfl rfl rfl rfl ?_; refine pw_seq ?_; refine pw_region ?_; refine yMt rfl ?_; refine yAt rfl ?_; refine yQ ?_
    refine pw_ret ?_
    exact q_own rfl rfl
set_option maxRecDepth 20000 in
set_option maxHeartbeats 1000000 in
theorem wConcatM (css : List (List Mv)) (hl : css.length ≤ 1000) (ht : (css.flatten).length ≤ 1000000) : PCalls Tryz.prog 28 [.sl 1 (css.map fun c => [.sl 5 (c.map dM)])] (.d (.sl 5 (css.flatten.map dM))) := by
  refine pcalls_of_pw Tryz.func28 rfl Tryz.ntmps28 Tryz.results28 (by simp) fun B w0 => ?_
  refine pw_seq ?_; refine pw_region ?_; refine yAd rfl ?_; refine yQ ?_; refine pw_seq ?_; refine pw_region ?_; refine yAd rfl ?_; refine yQ ?_; refine pw_seq ?_; refine pw_seq ?_; refine pw_region ?_; refine yMd rfl ?_
  refine yN rfl ?_; refine yMd rfl ?_; refine yQ ?_; refine pw_block ?_
  refine pw_loop (fun k : Nat => ⟨36, [(0, .d (.sl 1 (css.map fun c => [.sl 5 (c.map dM)]))), (9, .d (.sl 1 (css.map fun c => [.sl 5 (c.map dM)]))), (10, .d (dI css.length)), (11, .d (dI k)), (3, .d (dI (tot css k)))], [], []⟩) (fun k => k ≤ css.length) (fun k => css.length - k) 0 (Nat.zero_le _) ⟨rfl, ⟨.refl _, .refl _, .of_eq ?_, .refl _, .refl _, trivial⟩, trivial, trivial, rfl⟩ ?_
  · exact congrArg (fun n : Nat => SV.d (dI n)) (by simp)
  intro k hk
  refine pw_seq ?_; refine pw_region ?_; refine yB rfl rfl rfl rfl ?_; refine yQ ?_; refine pw_seq ?_
  refine pw_cond rfl (fun h => ?_) (fun h => ?_)
  · simp at h
    obtain ⟨c, gk⟩ : ∃ c, css[k]? = some c := ⟨_, List.getElem?_eq_getElem h⟩
    have ek := ix (fun c => [.sl 5 (c.map dM)]) css k k c rfl gk
    have hts := tot_succ gk
    have htl := tot_le css (k + 1)
    have hw1 := wrapI ((k : Int) + 1) (by omega)
    have hw2 : IntKind.i64.wrap ((tot css k : Int) + ((c.map dM).length : Int)) = (tot css (k + 1) : Int) := by rw [List.length_map, wrapI _ (by omega)]; omega
    have h0 : decide ((tot css (k + 1) : Int) < 0) = false := decide_eq_false (by omega)
    refine pw_skip ?_; refine pw_seq ?_; refine pw_block ?_; refine pw_seq ?_; refine pw_region ?_; refine yW ek (by omega) rfl rfl ?_; refine yLr rfl rfl ?_; refine yAd rfl ?_; refine yQ ?_; refine pw_seq ?_; refine pw_region ?_
    refine yMd rfl ?_; refine yMd rfl ?_; refine yN rfl ?_; refine yB rfl rfl rfl rfl ?_; refine yAd rfl ?_; refine yQ ?_; refine pw_seq ?_; refine pw_region ?_; refine yMd rfl ?_; refine yB rfl rfl rfl rfl ?_; refine yQ ?_
    refine q_then ?_; rw [hw2]; refine pw_cf rfl ?_; refine pw_skip ?_; refine pw_region ?_; refine yB rfl rfl rfl rfl ?_; refine yMd rfl ?_; refine yQ ?_; refine q_then ?_; rw [h0]
    refine ⟨k + 1, by omega, by omega, rfl, ⟨.refl _, .refl _, .refl _, .of_eq (congrArg (fun n => SV.d (dI n)) hw1), .refl _, trivial⟩, trivial, trivial, rfl⟩
  · simp at h
    obtain rfl : k = css.length := by omega
    have ht2 : tot css css.length = css.flatten.length := by rw [tot, List.take_length]
    have c1 := wGrowM (tot css css.length) (by omega)
    refine pw_exit ?_; refine pw_seq ?_; refine pw_region ?_; refine yMd rfl ?_; refine yCo (t := 44 * 100000 + 6) c1 rfl rfl rfl rfl ?_; refine yAt rfl ?_; refine yQ ?_; refine pw_seq ?_; refine pw_seq ?_; refine pw_region ?_
    refine yMd rfl ?_; refine yN rfl ?_; refine yMd rfl ?_; refine yQ ?_; refine pw_block ?_
    refine pw_loop (fun k : Nat => ⟨36, [(25, .d (.sl 1 (css.map fun c => [.sl 5 (c.map dM)]))), (26, .d (dI css.length)), (27, .d (dI k)), (6, .ts (44 * 100000 + 6) 5 (((css.take k).flatten).map dM))], [], [(44 * 100000 + 6, (((css.take k).flatten).map dM).length)]⟩) (fun k => k ≤ css.length) (fun k => css.length - k) 0 (Nat.zero_le _) ⟨rfl, ⟨.refl _, .of_eq ?_, .refl _, .refl _, trivial⟩, trivial, ⟨rfl, trivial⟩, rfl⟩ ?_
    · exact congrArg (fun n : Nat => SV.d (dI n)) (by simp)
    intro k hk
    refine pw_seq ?_; refine pw_region ?_; refine yB rfl rfl rfl rfl ?_; refine yQ ?_; refine pw_seq ?_
    refine pw_cond rfl (fun h => ?_) (fun h => ?_)
    · simp at h
      obtain ⟨c, gk⟩ : ∃ c, css[k]? = some c := ⟨_, List.getElem?_eq_getElem h⟩
      have ek := ix (fun c => [.sl 5 (c.map dM)]) css k k c rfl gk
      have hts := tot_succ gk
      have htl := tot_le css (k + 1)
      have hw1 := wrapI ((k : Int) + 1) (by omega)
      have hfl : (css.take (k + 1)).flatten = (css.take k).flatten ++ c := by rw [List.take_add_one, gk]; simp
      have hln : ((css.take k).flatten).length = tot css k := rfl
      obtain ⟨zs, hz⟩ : ∃ zs, zs = (css.take k).flatten := ⟨_, rfl⟩
      rw [← hz] at hfl hln ⊢
      refine pw_skip ?_; refine pw_seq ?_; refine pw_block ?_; refine pw_seq ?_; refine pw_region ?_; refine yW ek (by omega) rfl rfl ?_; refine yLr rfl rfl ?_; refine yAd rfl ?_; refine yQ ?_; refine pw_region ?_; refine yMt rfl ?_
      refine yMd rfl ?_; refine yT (es' := (zs ++ c).map dM) (m := ((zs ++ c).map dM).length) (by simp; omega) (by simp; omega) rfl rfl rfl rfl rfl (by simp) (by simp) ?_; refine yAt rfl ?_; refine yQ ?_; refine pw_region ?_
      refine yB rfl rfl rfl rfl ?_; refine yMd rfl ?_; refine yQ ?_; refine q_then ?_
      refine ⟨k + 1, by omega, by omega, rfl, ⟨.refl _, .refl _, .of_eq (congrArg (fun n => SV.d (dI n)) hw1), .of_eq ?_, trivial⟩, trivial, ⟨?_, trivial⟩, rfl⟩
      · rw [hfl]; rfl
      · rw [hfl]; rfl
    · simp at h
      obtain rfl : k = css.length := by omega
      rw [List.take_length]
      refine pw_exit ?_; refine pw_seq ?_; refine pw_region ?_; refine yMt rfl ?_; refine yAt rfl ?_; refine yQ ?_; refine pw_ret ?_
      exact q_ret _ (.tmp rfl .nil) rfl
end Go.Proofs.YtdkpmnefoobipaaGreatDoor
set_option maxHeartbeats 1000000
namespace Go.Proofs.YtdkpmnefoobipaaGreatDoor
open Go.RowKit Px

/-- the break of a holding -/
def hbr (n : Str) (a b : Option Str) : List Bk := match b with
  | none => [(1, n, a.getD [], [])]
  | some r => match a with
    | none => [(2, n, [], r)]
    | some q => if q == r then [] else [(3, n, q, r)]
def hdN (h1 h2 : List Hd) (l : List Str) : Nat → List Bk
  | 0 => []
  | i + 1 => match l[i]? with
    | none => hdN h1 h2 l i
    | some n => hdN h1 h2 l i ++ hbr n (hld n h1) (hld n h2)
/-- the names that are held in one of two lists, in order -/
def nms (h1 h2 : List Hd) : List Str := uniS ((h1 ++ h2).map (·.1))
def hdB (h1 h2 : List Hd) : List Bk := hdN h1 h2 (nms h1 h2) (nms h1 h2).length
theorem hbr_len (n : Str) (a b : Option Str) : (hbr n a b).length ≤ 1 := by
  unfold hbr
  split
  · simp
  · split
    · simp
    · split <;> simp
theorem hdN_len (h1 h2 : List Hd) (l : List Str) (i : Nat) : (hdN h1 h2 l i).length ≤ i := by
  induction i with
  | zero => exact Nat.le_refl _
  | succ i ih =>
    unfold hdN
    split
    · omega
    · rename_i n _
      have := hbr_len n (hld n h1) (hld n h2)
      rw [List.length_append]
      omega
theorem hdN_eq (h1 h2 : List Hd) (l : List Str) (i : Nat) : hdN h1 h2 l i = (l.take i).flatMap fun n => hbr n (hld n h1) (hld n h2) := by
  induction i with
  | zero => simp [hdN]
  | succ i ih =>
    unfold hdN
    cases e : l[i]? with
    | none =>
      have h := List.getElem?_eq_none_iff.1 e
      simp only
      rw [ih, List.take_of_length_le (by omega), List.take_of_length_le (by omega)]
    | some n =>
      simp only
      rw [ih, List.take_add_one, e, Option.toList_some, List.flatMap_append]
      simp
theorem hdB_eq (h1 h2 : List Hd) : hdB h1 h2 = (nms h1 h2).flatMap fun n => hbr n (hld n h1) (hld n h2) := by
  rw [hdB, hdN_eq, List.take_length]
theorem nms_mem {h1 h2 : List Hd} {n : Str} : n ∈ nms h1 h2 ↔ n ∈ h1.map (·.1) ∨ n ∈ h2.map (·.1) := by
  rw [nms, (uniS_spec _).2, List.map_append, List.mem_append]
theorem nms_len (h1 h2 : List Hd) : (nms h1 h2).length ≤ h1.length + h2.length := by
  have := uniS_length ((h1 ++ h2).map (·.1))
  rw [List.length_map, List.length_append] at this
  exact this
theorem nms_asc (h1 h2 : List Hd) : ascS (nms h1 h2) := (uniS_spec _).1
theorem hld_some {n : Str} {hs : List Hd} (h : n ∈ hs.map (·.1)) : ∃ q, hld n hs = some q := by
  induction hs with
  | nil => cases h
  | cons x hs ih =>
    unfold hld
    split
    · exact ⟨_, rfl⟩
    · rename_i e
      rw [List.map_cons, List.mem_cons] at h
      rcases h with h | h
      · rw [h] at e; simp at e
      · exact ih h
theorem nms_held {h1 h2 : List Hd} {n : Str} (h : n ∈ nms h1 h2) : ¬ (hld n h1 = none ∧ hld n h2 = none) := by
  rintro ⟨h3, h4⟩
  rcases nms_mem.1 h with h5 | h5
  · obtain ⟨q, h6⟩ := hld_some h5; rw [h6] at h3; cases h3
  · obtain ⟨q, h6⟩ := hld_some h5; rw [h6] at h4; cases h4
theorem hdB_len (h1 h2 : List Hd) : (hdB h1 h2).length ≤ h1.length + h2.length := Nat.le_trans (hdN_len h1 h2 _ _) (nms_len h1 h2)
/-- with both sides exchanged -/
def swpB (x : Bk) : Bk := (if x.1 = 1 then 2 else if x.1 = 2 then 1 else x.1, x.2.1, x.2.2.2, x.2.2.1)
/-- the number of names ahead of a name -/
def ltN (x : Str) : List Str → Nat
  | [] => 0
  | y :: l => if ltS y x then ltN x l + 1 else 0
end Go.Proofs.YtdkpmnefoobipaaGreatDoor
set_option maxHeartbeats 1000000
namespace Go.Proofs.YtdkpmnefoobipaaGreatDoor
open Go.RowKit Px

theorem tkn_set {tk : List Bool} {k j : Nat} : tkn (tk.set k true) j = true ↔ tkn tk j = true ∨ (j = k ∧ k < tk.length) := by
  unfold tkn
  by_cases e : k = j
  · subst e
    by_cases h : k < tk.length
    · simp [h]
    · simp [List.getElem?_eq_none (Nat.le_of_not_lt h), h]
  · rw [List.getElem?_set_ne e]
    constructor
    · exact .inl
    · rintro (h | ⟨h, -⟩)
      · exact h
      · exact absurd h.symm e
/-- each partner is the other's alone -/
structure GoodP (s : PT) : Prop where
  tk : ∀ (i k : Nat), s.1[i]?.getD none = some k → tkn s.2 k = true
  inj : ∀ (i j k : Nat), s.1[i]?.getD none = some k → s.1[j]?.getD none = some k → i = j
theorem fRf_some {m : Mv} {tk : List Bool} {l : List Mv} {j b : Nat} (h : fRf m tk l j = some b) : tkn tk b = false ∧ ∃ x, l[b - j]? = some x ∧ x.1 = m.1 ∧ x.2.2.1 = m.2.2.1 := by
  induction l generalizing j with
  | nil => cases h
  | cons x l ih =>
    unfold fRf at h
    split at h
    · rename_i hc
      cases h
      simp at hc
      exact ⟨hc.1, x, by simp, hc.2⟩
    · obtain ⟨h1, y, h2, h3⟩ := ih h
      have := fRf_lt h
      refine ⟨h1, y, ?_, h3⟩
      rw [show b - j = (b - (j + 1)) + 1 by omega, List.getElem?_cons_succ]
      exact h2
theorem cB_some {days : Int} {m : Mv} {tk : List Bool} {l : List Mv} {n b : Nat} (h : cB days m tk l n = some b) : tkn tk b = false ∧ ∃ x, l[b]? = some x ∧ sameC days x m = true := by
  induction n generalizing b with
  | zero => cases h
  | succ n ih =>
    unfold cB at h
    split at h
    · exact ih h
    · rename_i x hx
      split at h
      · rename_i hc
        simp at hc
        split at h
        · cases h; exact ⟨hc.1, x, hx, hc.2⟩
        · rename_i c hcb
          split at h
          · cases h; exact ih hcb
          · split at h
            · cases h; exact ⟨hc.1, x, hx, hc.2⟩
            · cases h; exact ih hcb
      · exact ih h
def canP (days : Int) (x y : Mv) : Prop := x.2.2.1 = y.2.2.1 ∧ (x.1 = y.1 ∨ (x.2.2.2.1 = y.2.2.2.1 ∧ x.2.2.2.2 = y.2.2.2.2 ∧ apt x.2.1 y.2.1 ≤ days))
end Go.Proofs.YtdkpmnefoobipaaGreatDoor
set_option maxHeartbeats 1000000
namespace Go.Proofs.YtdkpmnefoobipaaGreatDoor
open Go.RowKit Px

theorem fRf_first {m : Mv} {tk : List Bool} {l : List Mv} {j i : Nat} (ht : ∀ k, k < i → tkn tk (j + k) = true ∨ ∀ y, l[k]? = some y → ¬ (y.1 = m.1 ∧ y.2.2.1 = m.2.2.1)) (hi : ∃ x, l[i]? = some x ∧ x.1 = m.1 ∧ x.2.2.1 = m.2.2.1) (hf : tkn tk (j + i) = false) : fRf m tk l j = some (j + i) := by
  induction l generalizing j i with
  | nil => obtain ⟨x, hx, -⟩ := hi; simp at hx
  | cons y l ih =>
    unfold fRf
    cases i with
    | zero =>
      obtain ⟨x, hx, h1, h2⟩ := hi
      cases hx
      rw [Nat.add_zero] at hf
      simp [hf, h1, h2]
    | succ i =>
      have h0 := ht 0 (by omega)
      rw [Nat.add_zero] at h0
      have hno : ¬ (!tkn tk j && (y.1 == m.1 && y.2.2.1 == m.2.2.1)) = true := by
        rcases h0 with h0 | h0
        · simp [h0]
        · have := h0 y rfl
          simp only [Bool.and_eq_true, beq_iff_eq]
          exact fun h => this h.2
      rw [if_neg hno]
      have := ih (j := j + 1) (i := i) (fun k hk => by
        rw [show j + 1 + k = j + (k + 1) by omega]
        rcases ht (k + 1) (by omega) with h | h
        · exact .inl h
        · exact .inr fun y hy => h y (by simpa using hy)) (by simpa using hi) (by rw [show j + 1 + i = j + (i + 1) by omega]; exact hf)
      rw [this]
      congr 1
      omega
/-- a round in which everybody has a partner, or finds none -/
theorem rnd_idle {f : Mv → List Bool → Option Nat} {ms : List Mv} {s0 : PT} (h : ∀ (i : Nat) m, ms[i]? = some m → (s0.1[i]?.getD none).isSome = true ∨ f m s0.2 = none) (n : Nat) : rnd f ms s0 n = s0 := by
  induction n with
  | zero => rfl
  | succ n ih =>
    rw [rnd, ih]
    cases hm : ms[n]? with
    | none => rfl
    | some m =>
      simp only
      rcases h n m hm with h1 | h1
      · rw [if_pos h1]
      · rw [h1]
        split <;> rfl
/-- the first round of a statement with itself, or with a part of it: s tells where each finds its partner -/
theorem pt1_by {ms ts : List Mv} (s : Nat → Option Nat)
    (hs : ∀ (i k : Nat) m, ms[i]? = some m → s i = some k → (∃ x, ts[k]? = some x ∧ x.1 = m.1 ∧ x.2.2.1 = m.2.2.1) ∧ (∀ j, j < k → (∃ i', i' < i ∧ s i' = some j) ∨ ∀ y, ts[j]? = some y → ¬ (y.1 = m.1 ∧ y.2.2.1 = m.2.2.1)) ∧ ∀ i', i' < i → s i' ≠ some k)
    (hn : ∀ (i : Nat) m, ms[i]? = some m → s i = none → ∀ (k : Nat) y, ts[k]? = some y → ¬ (y.1 = m.1 ∧ y.2.2.1 = m.2.2.1)) :
    ∀ n, n ≤ ms.length → (∀ i, i < n → (pr1 ms ts n).1[i]?.getD none = s i) ∧ ∀ k, tkn (pr1 ms ts n).2 k = true ↔ ∃ i, i < n ∧ s i = some k := by
  intro n
  induction n with
  | zero =>
    intro _
    refine ⟨fun i hi => by omega, fun k => ⟨fun h => ?_, fun ⟨i, hi, _⟩ => by omega⟩⟩
    unfold pr1 rnd pt0 tkn at h
    simp only [List.getElem?_replicate] at h
    split at h <;> cases h
  | succ n ih =>
    intro hn1
    obtain ⟨h1, h2⟩ := ih (by omega)
    obtain ⟨m, hm⟩ : ∃ m, ms[n]? = some m := ⟨_, List.getElem?_eq_getElem (by omega)⟩
    have hl := pr1_len ms ts n
    rw [pr1_next hm]
    cases hsn : s n with
    | none =>
      have hfr : fRf m (pr1 ms ts n).2 ts 0 = none := by
        cases e : fRf m (pr1 ms ts n).2 ts 0 with
        | none => rfl
        | some b =>
          obtain ⟨-, x, h3, h4⟩ := fRf_some e
          exact absurd h4 (hn n m hm hsn _ x h3)
      rw [hfr]
      refine ⟨fun i hi => ?_, fun k => ?_⟩
      · by_cases e : i = n
        · subst e
          simp only
          rw [pr1_none (by omega), hsn]; rfl
        · exact h1 i (by omega)
      · simp only
        rw [h2]
        constructor
        · rintro ⟨i, h3, h4⟩; exact ⟨i, by omega, h4⟩
        · rintro ⟨i, h3, h4⟩
          refine ⟨i, ?_, h4⟩
          rcases Nat.lt_or_ge i n with h5 | h5
          · exact h5
          · obtain rfl : i = n := by omega
            rw [hsn] at h4; cases h4
    | some k =>
      obtain ⟨⟨x, hx, hxm⟩, h3, h4⟩ := hs n k m hm hsn
      have hfr : fRf m (pr1 ms ts n).2 ts 0 = some k := by
        have := fRf_first (m := m) (tk := (pr1 ms ts n).2) (l := ts) (j := 0) (i := k) (fun j hj => by
          rw [Nat.zero_add]
          rcases h3 j hj with h5 | h5
          · exact .inl ((h2 j).2 h5)
          · exact .inr h5) ⟨x, hx, hxm⟩ (by
          rw [Nat.zero_add]
          cases e : tkn (pr1 ms ts n).2 k with
          | false => rfl
          | true =>
            obtain ⟨i, h5, h6⟩ := (h2 k).1 e
            exact absurd h6 (h4 i h5))
        rw [Nat.zero_add] at this
        exact this
      rw [hfr]
      refine ⟨fun i hi => ?_, fun j => ?_⟩
      · simp only
        by_cases e : i = n
        · subst e
          rw [List.getElem?_set_self (by omega), hsn]; rfl
        · rw [List.getElem?_set_ne (by omega)]
          exact h1 i (by omega)
      · simp only
        rw [tkn_set, h2]
        have hkl := (List.getElem?_eq_some_iff.1 hx).1
        constructor
        · rintro (⟨i, h5, h6⟩ | ⟨h5, -⟩)
          · exact ⟨i, by omega, h6⟩
          · exact ⟨n, by omega, by rw [hsn, h5]⟩
        · rintro ⟨i, h5, h6⟩
          rcases Nat.lt_or_ge i n with h7 | h7
          · exact .inl ⟨i, h7, h6⟩
          · obtain rfl : i = n := by omega
            rw [hsn] at h6
            cases h6
            exact .inr ⟨rfl, by omega⟩
/-- a statement with itself -/
theorem pt1_self (ms : List Mv) : (∀ i, i < ms.length → (pt1 ms ms).1[i]?.getD none = some i) ∧ ∀ k, tkn (pt1 ms ms).2 k = true ↔ k < ms.length := by
  obtain ⟨h1, h2⟩ := pt1_by (ms := ms) (ts := ms) (fun i => some i) (fun i k m hm hk => by
    cases hk
    exact ⟨⟨m, hm, rfl, rfl⟩, fun j hj => .inl ⟨j, hj, rfl⟩, fun j hj e => by cases e; omega⟩) (fun i m _ h => by cases h) ms.length (Nat.le_refl _)
  refine ⟨h1, fun k => ?_⟩
  have := h2 k
  constructor
  · intro h
    obtain ⟨i, h3, h4⟩ := this.1 h
    cases h4; exact h3
  · intro h; exact this.2 ⟨k, h, rfl⟩
theorem pt2_self (days : Int) (ms : List Mv) : pt2 days ms ms = pt1 ms ms := rnd_idle (fun i m hm => .inl (by
  rw [(pt1_self ms).1 i (List.getElem?_eq_some_iff.1 hm).1]; rfl)) _
theorem brP_self (m : Mv) : brP m m = [] := by simp [brP]
theorem mbA_self {ms ts : List Mv} {pl : List (Option Nat)} (h : ∀ (i : Nat) m, ms[i]? = some m → ∃ k, pl[i]?.getD none = some k ∧ ts[k]? = some m) (n : Nat) : mbA ms ts pl n = [] := by
  induction n with
  | zero => rfl
  | succ n ih =>
    unfold mbA
    cases hm : ms[n]? with
    | none => exact ih
    | some m =>
      obtain ⟨k, h1, h2⟩ := h n m hm
      simp only [h1, h2, ih, brP_self, List.append_nil]
theorem mbB_all {ts : List Mv} {tk : Nat → Bool} (h : ∀ k, k < ts.length → tk k = true) (n : Nat) : mbB ts tk n = [] := by
  induction n with
  | zero => rfl
  | succ n ih =>
    unfold mbB
    cases hm : ts[n]? with
    | none => exact ih
    | some x =>
      simp only [h n (List.getElem?_eq_some_iff.1 hm).1, if_true]
      exact ih
theorem mvB_self (ms : List Mv) (days : Int) : mvB ms ms days = [] := by
  unfold mvB
  rw [pt2_self, mbA_self (fun i m hm => ⟨i, (pt1_self ms).1 i (List.getElem?_eq_some_iff.1 hm).1, hm⟩), mbB_all fun k hk => ((pt1_self ms).2 k).2 hk]
  rfl
theorem hbr_self {n : Str} {a : Option Str} (h : a ≠ none) : hbr n a a = [] := by
  cases a with
  | none => exact absurd rfl h
  | some q => simp [hbr]
theorem hdB_self (hs : List Hd) : hdB hs hs = [] := by
  rw [hdB_eq, List.flatMap_eq_nil_iff]
  intro n hn
  exact hbr_self fun h => nms_held hn ⟨h, h⟩
end Go.Proofs.YtdkpmnefoobipaaGreatDoor
set_option maxHeartbeats 1000000
namespace Go.Proofs.YtdkpmnefoobipaaGreatDoor
open Go.RowKit Px

theorem hld_at {hs : List Hd} (ha : ascS (hs.map (·.1))) {i : Nat} {x : Hd} (hx : hs[i]? = some x) : hld x.1 hs = some x.2 := by
  induction hs generalizing i with
  | nil => simp at hx
  | cons y hs ih =>
    cases i with
    | zero => cases hx; simp [hld]
    | succ i =>
      have hm : x.1 ∈ hs.map (·.1) := List.mem_map.2 ⟨x, List.mem_of_getElem? hx, rfl⟩
      have hne : (y.1 == x.1) = false := by rw [beq_eq_false_iff_ne]; exact ltS_ne (ha.1 _ hm)
      unfold hld
      rw [hne]
      exact ih ha.2 hx
theorem nms_same {h1 h2 : List Hd} (ha : ascS (h1.map (·.1))) (he : h2.map (·.1) = h1.map (·.1)) : nms h1 h2 = h1.map (·.1) :=
  ascS_ext (nms_asc h1 h2) ha fun n => by rw [nms_mem, he, or_self]
theorem hdB_set {hs : List Hd} {k : Nat} {x : Hd} {q : Str} (ha : ascS (hs.map (·.1))) (hx : hs[k]? = some x) (hq : x.2 ≠ q) : hdB hs (hs.set k (x.1, q)) = [(3, x.1, x.2, q)] := by
  have hk := (List.getElem?_eq_some_iff.1 hx).1
  have he : (hs.set k (x.1, q)).map (·.1) = hs.map (·.1) := by
    apply List.ext_getElem?
    intro i
    rw [List.getElem?_map, List.getElem?_map]
    by_cases e : k = i
    · subst e; rw [List.getElem?_set_self hk, hx]; rfl
    · rw [List.getElem?_set_ne e]
  have ha2 : ascS ((hs.set k (x.1, q)).map (·.1)) := he ▸ ha
  rw [hdB_eq, nms_same ha he, List.flatMap_map]
  have hs0 : hs = hs.take k ++ (x :: hs.drop (k + 1)) := by
    rw [← drop_cons hx, List.take_append_drop]
  have hother : ∀ y ∈ hs.take k ++ hs.drop (k + 1), hbr y.1 (hld y.1 hs) (hld y.1 (hs.set k (x.1, q))) = [] := by
    intro y hy
    obtain ⟨i, hi, hik⟩ : ∃ i, hs[i]? = some y ∧ k ≠ i := by
      rcases List.mem_append.1 hy with h | h
      · obtain ⟨i, h1⟩ := List.mem_iff_getElem?.1 h
        have h2 := (List.getElem?_eq_some_iff.1 h1).1
        rw [List.length_take] at h2
        rw [List.getElem?_take_of_lt (by omega)] at h1
        exact ⟨i, h1, by omega⟩
      · obtain ⟨i, h1⟩ := List.mem_iff_getElem?.1 h
        rw [List.getElem?_drop] at h1
        exact ⟨k + 1 + i, h1, by omega⟩
    rw [hld_at ha hi, hld_at ha2 (i := i) (x := y) (by rw [List.getElem?_set_ne hik]; exact hi)]
    simp [hbr]
  have hat : hbr x.1 (hld x.1 hs) (hld x.1 (hs.set k (x.1, q))) = [(3, x.1, x.2, q)] := by
    rw [hld_at ha hx]
    have := hld_at ha2 (i := k) (x := (x.1, q)) (by rw [List.getElem?_set_self hk])
    simp only at this
    rw [this]
    have hne : (x.2 == q) = false := by simpa using hq
    simp [hbr, hne]
  have key : ∀ (l r : List Hd) (f : Hd → List Bk), (∀ y ∈ l ++ r, f y = []) → (l ++ (x :: r)).flatMap f = f x := fun l r f hf => by
    rw [List.flatMap_append, List.flatMap_cons, List.flatMap_eq_nil_iff.2 fun y hy => hf y (List.mem_append.2 (.inl hy)), List.flatMap_eq_nil_iff.2 fun y hy => hf y (List.mem_append.2 (.inr hy))]
    simp
  have := key (hs.take k) (hs.drop (k + 1)) (fun y => hbr y.1 (hld y.1 hs) (hld y.1 (hs.set k (x.1, q)))) hother
  rw [← hs0] at this
  rw [this, hat]

section
variable {ms : List Mv} {k : Nat} {x : Mv}
theorem er_get (i : Nat) : (ms.eraseIdx k)[i]? = if i < k then ms[i]? else ms[i + 1]? := List.getElem?_eraseIdx ..
theorem cB_taken {days : Int} {m : Mv} {tk : List Bool} {l : List Mv} {n : Nat} (h : ∀ k, k < l.length → tkn tk k = true) : cB days m tk l n = none := by
  cases e : cB days m tk l n with
  | none => rfl
  | some b =>
    have h1 := (cB_some e).1
    rw [h b (cB_lt e).2] at h1
    cases h1
/-- where each movement finds its partner, if one is left out -/
def outS (k i : Nat) : Option Nat := if i < k then some i else if i = k then none else some (i - 1)
def inS (k i : Nat) : Option Nat := some (if i < k then i else i + 1)
theorem outS_at {i j : Nat} (h : outS k i = some j) {m : Mv} (hm : ms[i]? = some m) : (ms.eraseIdx k)[j]? = some m := by
  rw [er_get]
  unfold outS at h
  split at h
  · rename_i h1; cases h; rw [if_pos h1]; exact hm
  · split at h
    · cases h
    · cases h
      rw [if_neg (by omega), show i - 1 + 1 = i by omega]; exact hm
theorem pt1_out (hx : ms[k]? = some x) (hr : ∀ y ∈ ms.eraseIdx k, y.1 ≠ x.1) : (∀ i, i < ms.length → (pt1 ms (ms.eraseIdx k)).1[i]?.getD none = outS k i) ∧ ∀ j, tkn (pt1 ms (ms.eraseIdx k)).2 j = true ↔ j < (ms.eraseIdx k).length := by
  have hk := (List.getElem?_eq_some_iff.1 hx).1
  have hlen : (ms.eraseIdx k).length = ms.length - 1 := List.length_eraseIdx_of_lt hk
  obtain ⟨h1, h2⟩ := pt1_by (ms := ms) (ts := ms.eraseIdx k) (outS k) (fun i j m hm hj => by
    refine ⟨⟨m, outS_at hj hm, rfl, rfl⟩, fun c hc => ?_, fun i' hi' e => ?_⟩
    · unfold outS at hj
      split at hj
      · cases hj; exact .inl ⟨c, hc, by unfold outS; rw [if_pos (by omega)]⟩
      · split at hj
        · cases hj
        · cases hj
          rcases Nat.lt_or_ge c k with h3 | h3
          · exact .inl ⟨c, by omega, by unfold outS; rw [if_pos h3]⟩
          · exact .inl ⟨c + 1, by omega, by unfold outS; rw [if_neg (by omega), if_neg (by omega)]; rfl⟩
    · unfold outS at hj e
      split at hj <;> split at e
      · cases hj; cases e; omega
      · split at e
        · cases e
        · cases hj; cases e; omega
      · split at hj
        · cases hj
        · cases hj; cases e; omega
      · split at hj
        · cases hj
        · split at e
          · cases e
          · cases hj; have := Option.some.inj e; omega) (fun i m hm hs j y hy => by
    unfold outS at hs
    split at hs
    · cases hs
    · split at hs
      · rename_i e
        subst e
        rw [hx] at hm
        cases hm
        exact fun h => hr y (List.mem_of_getElem? hy) h.1
      · cases hs) ms.length (Nat.le_refl _)
  refine ⟨h1, fun j => (h2 j).trans ⟨?_, fun hj => ?_⟩⟩
  · rintro ⟨i, hi, h3⟩
    obtain ⟨m, hm⟩ : ∃ m, ms[i]? = some m := ⟨_, List.getElem?_eq_getElem hi⟩
    exact (List.getElem?_eq_some_iff.1 (outS_at h3 hm)).1
  · rcases Nat.lt_or_ge j k with h3 | h3
    · exact ⟨j, by omega, by unfold outS; rw [if_pos h3]⟩
    · exact ⟨j + 1, by omega, by unfold outS; rw [if_neg (by omega), if_neg (by omega)]; rfl⟩
theorem mvB_out (days : Int) (hx : ms[k]? = some x) (hr : ∀ y ∈ ms.eraseIdx k, y.1 ≠ x.1) : mvB ms (ms.eraseIdx k) days = [(1, x.1, x.2.2.2.1, [])] := by
  have hk := (List.getElem?_eq_some_iff.1 hx).1
  obtain ⟨h1, h2⟩ := pt1_out hx hr
  have hp : pt2 days ms (ms.eraseIdx k) = pt1 ms (ms.eraseIdx k) := rnd_idle (fun i m hm => by
    have hi := (List.getElem?_eq_some_iff.1 hm).1
    rw [h1 i hi]
    unfold outS
    by_cases e : i = k
    · exact .inr (cB_taken fun c hc => (h2 c).2 hc)
    · left
      split
      · rfl
      · rfl) _
  unfold mvB
  rw [hp, mbB_all fun c hc => (h2 c).2 hc, List.append_nil]
  have key : ∀ n, n ≤ ms.length → mbA ms (ms.eraseIdx k) (pt1 ms (ms.eraseIdx k)).1 n = if n ≤ k then [] else [(1, x.1, x.2.2.2.1, [])] := by
    intro n
    induction n with
    | zero => intro _; rw [if_pos (Nat.zero_le _)]; rfl
    | succ n ih =>
      intro hn
      obtain ⟨m, hm⟩ : ∃ m, ms[n]? = some m := ⟨_, List.getElem?_eq_getElem (by omega)⟩
      unfold mbA
      rw [hm, ih (by omega)]
      simp only [h1 n (by omega)]
      by_cases e : n = k
      · subst e
        rw [hx] at hm
        cases hm
        rw [if_pos (Nat.le_refl _), if_neg (by omega)]
        unfold outS
        rw [if_neg (by omega), if_pos rfl]
        rfl
      · obtain ⟨j, hj⟩ : ∃ j, outS k n = some j := by
          unfold outS
          split
          · exact ⟨_, rfl⟩
          · exact ⟨_, rfl⟩
        rw [hj]
        simp only [outS_at hj hm, brP_self, List.append_nil]
        by_cases h3 : n ≤ k
        · rw [if_pos h3, if_pos (by omega)]
        · rw [if_neg h3, if_neg (by omega)]
  rw [key _ (Nat.le_refl _), if_neg (by omega)]
theorem pt1_in (hx : ms[k]? = some x) (hr : ∀ y ∈ ms.eraseIdx k, y.1 ≠ x.1) : (∀ i, i < (ms.eraseIdx k).length → (pt1 (ms.eraseIdx k) ms).1[i]?.getD none = inS k i) ∧ ∀ j, tkn (pt1 (ms.eraseIdx k) ms).2 j = true ↔ j < ms.length ∧ j ≠ k := by
  have hk := (List.getElem?_eq_some_iff.1 hx).1
  have hlen : (ms.eraseIdx k).length = ms.length - 1 := List.length_eraseIdx_of_lt hk
  have hat : ∀ (i : Nat) (m : Mv), (ms.eraseIdx k)[i]? = some m → ms[if i < k then i else i + 1]? = some m := fun i m hm => by
    rw [er_get] at hm
    split at hm
    · rename_i h; rw [if_pos h]; exact hm
    · rename_i h; rw [if_neg h]; exact hm
  have hne : ∀ (i : Nat) (m : Mv), (ms.eraseIdx k)[i]? = some m → ∀ y, ms[k]? = some y → ¬ (y.1 = m.1 ∧ y.2.2.1 = m.2.2.1) := fun i m hm y hy h => by
    rw [hx] at hy
    cases hy
    exact hr m (List.mem_of_getElem? hm) h.1.symm
  obtain ⟨h1, h2⟩ := pt1_by (ms := ms.eraseIdx k) (ts := ms) (inS k) (fun i j m hm hj => by
    unfold inS at hj
    cases hj
    refine ⟨⟨m, hat i m hm, rfl, rfl⟩, fun c hc => ?_, fun i' hi' e => ?_⟩
    · by_cases e : c = k
      · subst e; exact .inr fun y hy => hne i m hm y hy
      · left
        rcases Nat.lt_or_ge c k with h3 | h3
        · refine ⟨c, ?_, by unfold inS; rw [if_pos h3]⟩
          split at hc <;> omega
        · refine ⟨c - 1, ?_, by unfold inS; rw [if_neg (by omega), show c - 1 + 1 = c by omega]⟩
          split at hc <;> omega
    · unfold inS at e
      have e := Option.some.inj e
      split at e <;> split at e <;> omega) (fun i m hm hs => by cases hs) (ms.eraseIdx k).length (Nat.le_refl _)
  refine ⟨h1, fun j => (h2 j).trans ⟨?_, fun hj => ?_⟩⟩
  · rintro ⟨i, hi, h3⟩
    have h3 := Option.some.inj h3
    split at h3 <;> omega
  · rcases Nat.lt_or_ge j k with h3 | h3
    · exact ⟨j, by omega, by unfold inS; rw [if_pos h3]⟩
    · exact ⟨j - 1, by omega, by unfold inS; rw [if_neg (by omega), show j - 1 + 1 = j by omega]⟩
theorem dbN_not {p : Nat → Bool} {ts : List Mv} {y : Mv} {n : Nat} (h : ∀ i z, ts[i]? = some z → p i = true → z.1 ≠ y.1) : dbN p ts y n = false := by
  induction n with
  | zero => rfl
  | succ n ih =>
    unfold dbN
    rw [ih, Bool.false_or]
    cases e : ts[n]? with
    | none => rfl
    | some z =>
      simp only
      cases e2 : p n with
      | false => rfl
      | true =>
        have := h n z e e2
        have e3 : (z.1 == y.1) = false := by simpa using this
        rw [e3]; rfl
theorem mvB_in (days : Int) (hx : ms[k]? = some x) (hr : ∀ y ∈ ms.eraseIdx k, y.1 ≠ x.1) : mvB (ms.eraseIdx k) ms days = [(2, x.1, [], x.2.2.2.1)] := by
  have hk := (List.getElem?_eq_some_iff.1 hx).1
  obtain ⟨h1, h2⟩ := pt1_in hx hr
  have hp : pt2 days (ms.eraseIdx k) ms = pt1 (ms.eraseIdx k) ms := rnd_idle (fun i m hm => by
    have hi := (List.getElem?_eq_some_iff.1 hm).1
    rw [h1 i hi]
    exact .inl rfl) _
  unfold mvB
  rw [hp, mbA_self (fun i m hm => by
    have hi := (List.getElem?_eq_some_iff.1 hm).1
    refine ⟨if i < k then i else i + 1, h1 i hi, ?_⟩
    rw [er_get] at hm
    split at hm
    · rename_i h; rw [if_pos h]; exact hm
    · rename_i h; rw [if_neg h]; exact hm), List.nil_append]
  have hdb : dbN (tkn (pt1 (ms.eraseIdx k) ms).2) ms x ms.length = false := dbN_not fun i z hz ht => by
    obtain ⟨h3, h4⟩ := (h2 i).1 ht
    rcases Nat.lt_or_ge i k with h5 | h5
    · exact hr z (List.mem_of_getElem? (i := i) (by rw [er_get, if_pos h5]; exact hz))
    · exact hr z (List.mem_of_getElem? (i := i - 1) (by rw [er_get, if_neg (by omega), show i - 1 + 1 = i by omega]; exact hz))
  have key : ∀ n, n ≤ ms.length → mbB ms (tkn (pt1 (ms.eraseIdx k) ms).2) n = if n ≤ k then [] else [(2, x.1, [], x.2.2.2.1)] := by
    intro n
    induction n with
    | zero => intro _; rw [if_pos (Nat.zero_le _)]; rfl
    | succ n ih =>
      intro hn
      obtain ⟨m, hm⟩ : ∃ m, ms[n]? = some m := ⟨_, List.getElem?_eq_getElem (by omega)⟩
      unfold mbB
      rw [hm, ih (by omega)]
      by_cases e : n = k
      · subst e
        have ht : tkn (pt1 (ms.eraseIdx n) ms).2 n = false := by
          cases h3 : tkn (pt1 (ms.eraseIdx n) ms).2 n with
          | false => rfl
          | true => exact absurd rfl ((h2 n).1 h3).2
        rw [hx] at hm
        cases hm
        simp only [ht, hdb, Bool.false_eq_true, if_false]
        rw [if_pos (Nat.le_refl _), if_neg (by omega)]
        rfl
      · have ht := (h2 n).2 ⟨by omega, e⟩
        simp only [ht, if_true]
        by_cases h3 : n ≤ k
        · rw [if_pos h3, if_pos (by omega)]
        · rw [if_neg h3, if_neg (by omega)]
  rw [key _ (Nat.le_refl _), if_neg (by omega)]
end
end Go.Proofs.YtdkpmnefoobipaaGreatDoor
set_option maxHeartbeats 1000000
namespace Go.Proofs.YtdkpmnefoobipaaGreatDoor.Px
open Go.RowKit

/-- what holds for each of some numbers -/
def allR : List Nat → (Nat → Prop) → Prop
  | [], _ => True
  | i :: l, p => p i ∧ allR l p
/-- what may come next, as lists tell it -/
def gt (dflt : Bool) : List Bool → Nat → Bool
  | [], _ => dflt
  | b :: _, 0 => b
  | _ :: l, n + 1 => gt dflt l n
def rdy (listed : List Bool) : Nat → List Oper → List Nat
  | _, [] => []
  | k, o :: l => bif !(gt true listed k) && o.after.toList.all (fun e => !Region.binds .any e || gt false listed e.on) then k :: rdy listed (k + 1) l else rdy listed (k + 1) l
section
variable {P : Program} {B : Nat} {w0 : Cx} {l : List Oper} {J st : PS}
/-- in whatever order the rest runs, it comes to J -/
def PA (P : Program) (B : Nat) (w0 : Cx) (l : List Oper) (J : PS) (fuel : Nat) (listed : List Bool) (st : PS) : Prop :=
  ∀ (Q : Exit → PS → Prop), (∀ s, Le s J → Q .normal s) → (∀ c s, ¬ Q (.panic c) s) → ∀ g a w, Rep B w0 g st a w → wpAny P .any l.toArray (Post B w0 Q) fuel listed.toArray a w
/-- an operation without memory -/
def Pure (P : Program) (o : Oper) (st : PS) (x : SV) : Prop :=
  dstOk o st = true ∧ o.guard = none ∧ ∀ B w0 g a w, Rep B w0 g st a w → ∃ v, (∀ w', (execOp a.eval o).run P w' = .ok (.value v) w') ∧ SRep g w v x
def noSel (l : List Oper) : Bool := l.all fun o => match o.op with | .select .. => false | _ => true
def apartB (l : List Oper) (listed : List Bool) (i : Nat) (oi : Oper) : Bool := allIx (fun j oj => Nat.beq j i || gt true listed j || oj.after.toList.any (fun e => Region.binds .any e && Nat.beq e.on i) || oi.apart l.toArray oj) 0 l
end
section
variable {P : Program} {sq : Bool} {ops : Array Oper} {K : PS → Prop} {rest : List Oper} {st : PS} {d : Option Nat} {op : Op} {ty : TypeId} {pos : String} {af : Array Edge} {gd : Option (Nat × Bool)} {q : Nat × Bool}
end
end Go.Proofs.YtdkpmnefoobipaaGreatDoor.Px
namespace Go.Proofs.YtdkpmnefoobipaaGreatDoor
open Go.RowKit Px

def nmN (l : List Hd) (i : Nat) : List Str := ((l.take i).map (·.1)).foldl (fun out x => insS x out) []
abbrev hdT : Nat := 55 * 100000 + 9
end Go.Proofs.YtdkpmnefoobipaaGreatDoor
set_option maxHeartbeats 1000000
namespace Go.Proofs.YtdkpmnefoobipaaGreatDoor
open Go.RowKit Px Go.Sort Go.Lib

theorem beq_dec (x y : Str) : (x == y) = decide (x = y) := by rw [Bool.eq_iff_iff]; simp
theorem ltS_dec (a b : Str) : ltS a b = decide (a < b) := bytesLess_eq a b
theorem leS_dec (a b : Str) : decide (a ≤ b) = !ltS b a := by
  rw [ltS_dec, Bool.eq_iff_iff]
  simp
abbrev mSort (ss : List Str) : List Str := ss.mergeSort fun x y => decide (x ≤ y)
theorem mSort_up (ss : List Str) : (mSort ss).Pairwise fun x y => ltS y x = false := by
  have h := List.pairwise_mergeSort (le := fun x y : Str => decide (x ≤ y)) (fun a b c h1 h2 => by
    rw [leS_dec, Bool.not_eq_true'] at h1 h2 ⊢
    rcases ltS_total a b with e | e | e
    · rcases ltS_total b c with e2 | e2 | e2
      · exact ltS_asymm (ltS_trans e e2)
      · subst e2; exact ltS_asymm e
      · rw [h2] at e2; cases e2
    · subst e; exact h2
    · rw [h1] at e; cases e) (fun a b => by
    rw [leS_dec, leS_dec]
    rcases ltS_total a b with e | e | e
    · rw [ltS_asymm e]; rfl
    · subst e; rw [ltS_irrefl]; rfl
    · rw [ltS_asymm e]; simp) ss
  refine h.imp fun h => ?_
  rw [leS_dec] at h
  simpa using h
theorem mSort_len (ss : List Str) : (mSort ss).length = ss.length := List.length_mergeSort ss
theorem comp_up {d : Array Str} (hd : ∀ i j, i ≤ j → j < d.size → ltS d[j]! d[i]! = false) : ∀ m, m ≤ d.size → ascS (compactUpTo d m) ∧ (∀ x, x ∈ compactUpTo d m ↔ ∃ j, j < m ∧ d[j]! = x)
  | 0, _ => by simp [compactUpTo, ascS]
  | m + 1, hm => by
    obtain ⟨h1, h2⟩ := comp_up hd m (by omega)
    rw [compactUpTo_succ]
    cases hk : keeps d m
    · simp only [keeps, decide_eq_false_iff_not, not_or, Decidable.not_not] at hk
      simp only [Bool.false_eq_true, if_false, List.append_nil]
      refine ⟨h1, fun x => ?_⟩
      rw [h2]
      constructor
      · rintro ⟨j, hj, rfl⟩; exact ⟨j, by omega, rfl⟩
      · rintro ⟨j, hj, rfl⟩
        by_cases e : j = m
        · subst e; exact ⟨j - 1, by omega, hk.2.symm⟩
        · exact ⟨j, by omega, rfl⟩
    · simp only [keeps, decide_eq_true_eq] at hk
      simp only [if_true]
      refine ⟨?_, fun x => ?_⟩
      · rw [ascS_append]
        refine ⟨h1, ⟨fun y hy => (by cases hy), trivial⟩, fun x hx y hy => ?_⟩
        obtain ⟨j, hj, rfl⟩ := (h2 x).1 hx
        have e : y = d[m]! := by simpa using hy
        subst e
        rcases hk with hk | hk
        · omega
        · have h3 := hd j (m - 1) (by omega) (by omega)
          have h4 := hd (m - 1) m (by omega) (by omega)
          have h5 := hd j m (by omega) (by omega)
          rcases ltS_total d[j]! d[m]! with e | e | e
          · exact e
          · exfalso
            rcases ltS_total d[m - 1]! d[m]! with e2 | e2 | e2
            · rw [← e, h3] at e2; cases e2
            · exact hk e2.symm
            · rw [h4] at e2; cases e2
          · rw [h5] at e; cases e
      · rw [List.mem_append, h2]
        constructor
        · rintro (⟨j, hj, rfl⟩ | h)
          · exact ⟨j, by omega, rfl⟩
          · exact ⟨m, by omega, (List.mem_singleton.1 h).symm⟩
        · rintro ⟨j, hj, rfl⟩
          by_cases e : j = m
          · subst e; exact .inr (by simp)
          · exact .inl ⟨j, by omega, rfl⟩
/-- sorted, and each once -/
theorem comp_sort (ss : List Str) : compact (mSort ss) = uniS ss := by
  obtain ⟨s, hs⟩ : ∃ s, s = mSort ss := ⟨_, rfl⟩
  have hsort := mSort_up ss
  have hmem : ∀ x, x ∈ s ↔ x ∈ ss := fun x => by rw [hs, List.mem_mergeSort]
  rw [← hs] at hsort ⊢
  have hd : ∀ i j, i ≤ j → j < s.toArray.size → ltS s.toArray[j]! s.toArray[i]! = false := fun i j hij hj => by
    have hj' : j < s.length := by simpa using hj
    have hi' : i < s.length := by omega
    rw [getElem!_pos s.toArray i (by simpa using hi'), getElem!_pos s.toArray j hj]
    simp only [List.getElem_toArray]
    rcases Nat.lt_or_ge i j with h | h
    · exact List.pairwise_iff_getElem.1 hsort i j hi' hj' h
    · have : i = j := by omega
      subst this; exact ltS_irrefl _
  obtain ⟨h1, h2⟩ := comp_up hd s.length (by simp)
  unfold compact
  refine uniS_of h1 fun x => ?_
  rw [h2, ← hmem]
  constructor
  · rintro ⟨j, hj, rfl⟩
    rw [getElem!_pos s.toArray j (by simpa using hj)]
    simp
  · intro hx
    obtain ⟨j, hj, rfl⟩ := List.mem_iff_getElem.1 hx
    exact ⟨j, hj, by rw [getElem!_pos s.toArray j (by simpa using hj)]; simp⟩

theorem sort_row (ss : List Str) (hl : ss.length ≤ 1000000) : PRow Tryz.prog 49 9 1 [] (ss.map encStr) ((mSort ss).map encStr) := by
  intro w v n hown hone
  have hn : n = ss.length := by have := hown.1; simpa using this.symm
  subst hn
  rcases hown.2 with ⟨rfl, h0⟩ | ⟨g, cap, cur, rfl, hg, hb, hn, hcap, hsz, ht⟩
  · have hz : ss = [] := List.eq_nil_of_length_eq_zero h0
    subst hz
    refine (AnyG.slices_Sort_string_none Tryz.sortStr none 0 w).mono ?_
    rintro e w' ⟨rfl, rfl⟩
    have e : mSort [] = [] := List.eq_nil_of_length_eq_zero (mSort_len [])
    rw [e]
    exact ⟨rfl, hown, hone, rfl, rfl, rfl, Nat.le_refl _, fun _ _ _ => rfl⟩
  · refine (AnyG.slices_Sort_string Tryz.sortStr g 0 cap ss w (holds_of_block hb (by simpa using ht)) (Array.getElem?_eq_some_iff.1 hb).1 (by omega)).mono ?_
    rintro e w' ⟨rfl, n, os, rfl⟩
    refine ⟨rfl, ?_, fun u hu => by obtain ⟨z, -, rfl⟩ := List.mem_map.1 hu; rfl, grownBy_sorted _⟩
    exact ownsRow_sorted (n := n) (os := os) (ts := mSort ss) (ss := ss) (mSort_len ss) hg hb hn hcap hsz
theorem comp_row (ss : List Str) (hl : ss.length ≤ 1000000) : PRowC Tryz.prog 50 9 1 (ss.map encStr) ((compact ss).map encStr) := by
  intro w A c n hown h0 hone
  have hn0 : n = ss.length := by have := hown.1; simpa using this.symm
  subst hn0
  rcases hown.2 with ⟨e0, h1⟩ | ⟨g, cap, cur, e0, hg, hb, hn, hcap, hsz, ht⟩
  · omega
  obtain ⟨rfl, -, rfl⟩ := Value.slice.inj e0
  have h1 := AnyE.slices_Compact Tryz.compStr encStr (fun _ => rfl) ⟨fun x y w => by
      have : (binOp .eql (Tryz.compStr_ren.t 23) (encStr x) (encStr y)) = pure (.bool ((ByteArray.mk x.toArray).toList == (ByteArray.mk y.toArray).toList)) := rfl
      rw [this, str_list, str_list, beq_dec]; rfl, fun op a b x y w => GuardAt.string _ _ op a b _ _ w⟩ ⟨fun x y w => by
      have : (binOp .neq (Tryz.compStr_ren.t 23) (encStr x) (encStr y)) = pure (.bool (!((ByteArray.mk x.toArray).toList == (ByteArray.mk y.toArray).toList))) := rfl
      rw [this, str_list, str_list, beq_dec]; rfl, fun op a b x y w => GuardAt.string _ _ op a b _ _ w⟩ [] Tryz.zeroValue9 g 0 c ss.toArray w (holds_of_block hb (by simpa using ht)) (by simp; omega) (by simpa using hn)
  simp only [List.size_toArray] at h1
  refine h1.mono ?_
  rintro e w' ⟨rfl, q, rfl⟩
  have hcl : (compactUpTo ss.toArray ss.length).length ≤ ss.length := by
    unfold compactUpTo
    rw [List.length_map]
    exact Nat.le_trans (List.length_filter_le _ _) (by simp)
  obtain ⟨ts, hts⟩ : ∃ ts, ts = compactUpTo ss.toArray ss.length ++ List.replicate (ss.length - (compactUpTo ss.toArray ss.length).length) ([] : Str) := ⟨_, rfl⟩
  have htl : ts.length = ss.length := by rw [hts]; simp; omega
  have hheap : (putRow encStr (Sort.ahead w q) g 0 ts.toArray).heap[g]? = some (.cells (putCells encStr 0 ts.toArray cur) 9 (0, 0)) := by
    simp [putRow, mapBlock, Sort.ahead, Array.getElem?_modify, hb, onCells]
  rw [← hts]
  refine ⟨(compactUpTo ss.toArray ss.length).length, (List.replicate (ss.length - (compactUpTo ss.toArray ss.length).length) ([] : Str)).map encStr, rfl, hcl, by unfold compact; simp, ?_, fun u hu => by obtain ⟨z, -, rfl⟩ := List.mem_map.1 hu; rfl, ?_⟩
  · have e : (compact ss).map encStr ++ (List.replicate (ss.length - (compactUpTo ss.toArray ss.length).length) ([] : Str)).map encStr = ts.map encStr := by rw [hts, List.map_append]; rfl
    rw [e]
    refine ⟨by simp [htl], .inr ⟨g, c, _, rfl, hg, hheap, hn, hcap, by simp [putCells, hsz], ?_⟩⟩
    rw [Nat.mul_one, ← htl]
    exact take_putCells cur ts (by omega)
  · refine ⟨rfl, rfl, rfl, by simp, fun k hk hne => ?_⟩
    have : g ≠ k := fun e => hne (by rw [e]; rfl)
    simp [putRow, mapBlock, Sort.ahead, Array.getElem?_modify, this]
end Go.Proofs.YtdkpmnefoobipaaGreatDoor
namespace Go.Proofs.YtdkpmnefoobipaaGreatDoor
open Go.RowKit Px Go.Sort Go.Lib

abbrev bkT13 : Nat := 41 * 100000 + 13
theorem hdN_next {h1 h2 : List Hd} {l : List Str} {i : Nat} {n : Str} (h : l[i]? = some n) : hdN h1 h2 l (i + 1) = hdN h1 h2 l i ++ hbr n (hld n h1) (hld n h2) := by rw [hdN, h]
def holdR (s t : Stm) : List Bk := if ckE s t 0 = 0 then hdB s.hs t.hs else []
end Go.Proofs.YtdkpmnefoobipaaGreatDoor
