/- Walks: the reference's Check, Parents, Heirs, Origins, Causes. -/
import Derived.Test.YtkfoogabijnamaaGreatDoorB7
import Derived.Test.YtkfoogabijnamaaGreatDoorB5
import Derived.Test.YtkfoogabijnamaaGreatDoorB4
import Derived.Test.YtkfoogabijnamaaGreatDoorRows
import Derived.JoinedOf
import Derived.KernelRfl
namespace Go.Proofs.YtkfoogabijnamaaGreatDoor
open Go.RowKit Px

set_option maxRecDepth 20000 in
set_option maxHeartbeats 8000000 in
theorem wRChk (l : List Stp) (hb : bdL 1000 l) : PCalls Tryz.prog 22 [dSl l] (.d (dI (chkE l))) := by
  obtain ⟨hl, hs⟩ := hb
  have c1 := wRLots l (by omega)
  obtain ⟨r, hr⟩ : ∃ r, r = chkE l := ⟨_, rfl⟩
  rw [← hr]
  rw [chkE] at hr
  by_cases h4 : 4000 < l.length
  · have a1 : decide (((l.map dSp).length : Int) > 4000) = true := by rw [List.length_map]; exact decide_eq_true (by omega)
    rw [if_pos h4] at hr
    subst hr
    refine pcalls_of_pw Tryz.func22 rfl Tryz.ntmps22 Tryz.results22 (by simp) fun B w0 => ?_
    refine pw_seq (pw_region (yAd rfl (yQ (pw_seq (pw_seq (pw_region (yMd rfl (yN rfl (yB rfl rfl rfl rfl ?_))))))))); refine yQ (q_then ?_)
    rw [a1]; refine pw_ct rfl ?_; refine pw_seq ?_; refine pw_region ?_; refine yAd rfl ?_; refine yQ ?_; refine pw_ret ?_; refine q_then_ret ?_
    exact q_ret _ (.tmp rfl .nil) rfl
  rw [if_neg h4] at hr
  have a1 : decide (((l.map dSp).length : Int) > 4000) = false := by rw [List.length_map]; exact decide_eq_false (by omega)
  refine pcalls_of_pw Tryz.func22 rfl Tryz.ntmps22 Tryz.results22 (by simp) fun B w0 => ?_
  refine pw_seq (pw_region (yAd rfl (yQ (pw_seq (pw_seq (pw_region (yMd rfl (yN rfl (yB rfl rfl rfl rfl ?_))))))))); refine yQ (q_then ?_)
  rw [a1]; refine pw_cf rfl ?_; refine pw_skip ?_; refine pw_seq ?_; refine pw_seq ?_; refine pw_region ?_; refine yAd rfl ?_; refine yQ ?_; refine pw_block ?_
  refine pw_loop (fun i : Nat => ⟨93, [(0, .d (dSl l)), (3, .d (dI i))], [], []⟩) (fun i => i ≤ l.length ∧ ∀ j x, j < i → l[j]? = some x → stE x = 0) (fun i => l.length - i) 0 ⟨Nat.zero_le _, fun j x hj => absurd hj (Nat.not_lt_zero _)⟩ ⟨rfl, ⟨.refl _, .refl _, trivial⟩, trivial, trivial, rfl⟩ ?_
  rintro i ⟨hi, h0⟩
  rcases Nat.lt_or_ge i l.length with h | h
  · have u1 : decide ((i : Int) < ((l.map dSp).length : Int)) = true := by simpa using h
    obtain ⟨s, hx⟩ : ∃ a, l[i]? = some a := ⟨_, List.getElem?_eq_getElem h⟩
    have ex := ix dSp l i i s rfl hx
    have hw := wrapI ((i : Int) + 1) (by omega)
    have hbs := hs s (List.mem_of_getElem? hx)
    have c2 := wRNum s.q (by have := hbs.2.2.2.1; omega)
    have c3 := wRNum s.m (by have := hbs.2.2.2.2.1; omega)
    have c4 := wRNum s.k (by have := hbs.2.2.2.2.2; omega)
    have bad : ∀ e : Int, e ≠ 0 → stE s = e → r = e := fun e he hse => by
      have hf := firstE_at hx h0 (by rw [hse]; exact he)
      rw [hf, hse, if_neg he] at hr
      exact hr
    have good : stE s = 0 → ∀ j x, j < i + 1 → l[j]? = some x → stE x = 0 := fun hse j y hj hy => by
      rcases Nat.lt_or_ge j i with h1 | h1
      · exact h0 j y h1 hy
      · obtain rfl : j = i := by omega
        rw [hx] at hy; cases hy; exact hse
    have arith : l.length - (i + 1) < l.length - i := by omega
    clear hr h0
    by_cases e0 : s.c = []
    · have a0 : (s.c == []) = true := by simp [e0]
      have hn : r = 11 := bad 11 (by omega) (by rw [stE, if_pos (.inl e0)])
      subst hn
      refine pw_seq (pw_seq (pw_region (yMd rfl (yMd rfl (yN rfl (yB rfl rfl rfl rfl (yQ (q_then ?_)))))))); rw [u1]; refine pw_ct rfl (pw_skip (pw_seq (pw_block (pw_seq (pw_region (yMd rfl (yMd rfl ?_))))))); refine yW ex (by omega) rfl rfl ?_; refine yLs (ys := [_, _, _, _, _, _]) rfl rfl rfl (yZ (cs := [_, _, _, _, _, _]) rfl rfl (yS (cs' := [_, _, _, _, _, _]) rfl rfl rfl rfl rfl (yQ (pw_seq (pw_seq (pw_region (yFb rfl (yLd rfl rfl rfl (yBse rfl rfl ?_))))))))); refine yMd rfl ?_; rw [a0]; refine yO rfl (yO rfl (yO rfl (yO rfl (yO rfl (yO rfl (yO rfl (yO rfl (yPd rfl rfl (yQ ?_))))))))); refine pw_ct rfl (pw_seq (pw_region (yAd rfl (yQ (pw_ret (q_then_ret (q_blk_ret (q_then_ret (q_then_ret ?_))))))))); refine q_blk_ret (q_then_ret ?_)
      exact q_ret _ (.tmp rfl .nil) rfl
    have a0 : (s.c == []) = false := by simp [e0]
    by_cases e3 : s.f = s.t
    · have a3 : (s.f == s.t) = true := by simp [e3]
      by_cases e1 : s.f = []
      · have a1 : (s.f == []) = true := by simp [e1]
        have e2 : s.t = [] := by rw [← e3]; exact e1
        have a2 : (s.t == []) = true := by simp [e2]
        have hn : r = 11 := bad 11 (by omega) (by rw [stE, if_pos (.inr ⟨e1, e2⟩)])
        subst hn
        refine pw_seq (pw_seq (pw_region (yMd rfl (yMd rfl (yN rfl (yB rfl rfl rfl rfl (yQ (q_then ?_)))))))); rw [u1]; refine pw_ct rfl (pw_skip (pw_seq (pw_block (pw_seq (pw_region (yMd rfl (yMd rfl ?_))))))); refine yW ex (by omega) rfl rfl ?_; refine yLs (ys := [_, _, _, _, _, _]) rfl rfl rfl (yZ (cs := [_, _, _, _, _, _]) rfl rfl (yS (cs' := [_, _, _, _, _, _]) rfl rfl rfl rfl rfl (yQ (pw_seq (pw_seq (pw_region (yFb rfl (yLd rfl rfl rfl (yBse rfl rfl ?_))))))))); refine yMd rfl ?_; rw [a0]; refine yFb rfl (yLd rfl rfl rfl (yBse rfl rfl (yMd rfl ?_))); rw [a1]; refine yFb rfl (yLd rfl rfl rfl (yBse rfl rfl (yPd rfl rfl (yVd rfl rfl (yQ (q_then ?_)))))); rw [a2]; refine pw_ct rfl (pw_seq (pw_region (yAd rfl (yQ (pw_ret (q_then_ret (q_blk_ret (q_then_ret (q_then_ret ?_))))))))); refine q_blk_ret (q_then_ret ?_)
        exact q_ret _ (.tmp rfl .nil) rfl
      · have a1 : (s.f == []) = false := by simp [e1]
        have hn : r = 18 := bad 18 (by omega) (by rw [stE, if_neg (by simp [e0, e1]), if_pos e3])
        subst hn
        refine pw_seq (pw_seq (pw_region (yMd rfl (yMd rfl (yN rfl (yB rfl rfl rfl rfl (yQ (q_then ?_)))))))); rw [u1]; refine pw_ct rfl (pw_skip (pw_seq (pw_block (pw_seq (pw_region (yMd rfl (yMd rfl ?_))))))); refine yW ex (by omega) rfl rfl ?_; refine yLs (ys := [_, _, _, _, _, _]) rfl rfl rfl (yZ (cs := [_, _, _, _, _, _]) rfl rfl (yS (cs' := [_, _, _, _, _, _]) rfl rfl rfl rfl rfl (yQ (pw_seq (pw_seq (pw_region (yFb rfl (yLd rfl rfl rfl (yBse rfl rfl ?_))))))))); refine yMd rfl ?_; rw [a0]; refine yFb rfl (yLd rfl rfl rfl (yBse rfl rfl (yMd rfl ?_))); rw [a1]; refine yO rfl (yO rfl (yO rfl (yVd rfl rfl (yVd rfl rfl (yQ (pw_cf rfl (pw_skip (pw_seq (pw_seq ?_))))))))); refine pw_region (yFb rfl (yLd rfl rfl rfl (yFb rfl (yLd rfl rfl rfl (yBse rfl rfl (yQ (q_then ?_))))))); rw [a3]; refine pw_ct rfl (pw_seq (pw_region (yAd rfl (yQ (pw_ret (q_then_ret (q_blk_ret (q_then_ret (q_then_ret ?_))))))))); refine q_blk_ret (q_then_ret ?_)
        exact q_ret _ (.tmp rfl .nil) rfl
    have a3 : (s.f == s.t) = false := by simp [e3]
    have hst : stE s = nmE s := by rw [stE, if_neg (by rintro (h | ⟨h1, h2⟩); exact e0 h; exact e3 (by rw [h1, h2])), if_neg e3]
    by_cases e1 : s.f = []
    · have a1 : (s.f == []) = true := by simp [e1]
      have e2 : s.t ≠ [] := fun h => e3 (by rw [e1, h])
      have a2 : (s.t == []) = false := by simp [e2]
      cases nq : numB s.q with
      | false =>
        rw [nq] at c2
        have hn : r = 1 := bad 1 (by omega) (by rw [hst, nmE, nq]; simp)
        subst hn
        refine pw_seq (pw_seq (pw_region (yMd rfl (yMd rfl (yN rfl (yB rfl rfl rfl rfl (yQ (q_then ?_)))))))); rw [u1]; refine pw_ct rfl (pw_skip (pw_seq (pw_block (pw_seq (pw_region (yMd rfl (yMd rfl ?_))))))); refine yW ex (by omega) rfl rfl ?_; refine yLs (ys := [_, _, _, _, _, _]) rfl rfl rfl (yZ (cs := [_, _, _, _, _, _]) rfl rfl (yS (cs' := [_, _, _, _, _, _]) rfl rfl rfl rfl rfl (yQ (pw_seq (pw_seq (pw_region (yFb rfl (yLd rfl rfl rfl (yBse rfl rfl ?_))))))))); refine yMd rfl ?_; rw [a0]; refine yFb rfl (yLd rfl rfl rfl (yBse rfl rfl (yMd rfl ?_))); rw [a1]; refine yFb rfl (yLd rfl rfl rfl (yBse rfl rfl (yPd rfl rfl (yVd rfl rfl (yQ (q_then ?_)))))); rw [a2]; refine pw_cf rfl (pw_skip (pw_seq (pw_seq (pw_region (yFb rfl (yLd rfl rfl rfl (yFb rfl (yLd rfl rfl rfl (yBse rfl rfl ?_))))))))); refine yQ (q_then ?_); rw [a3]; refine pw_cf rfl (pw_skip (pw_seq (pw_region (yFb rfl (yLd rfl rfl rfl (yC (c2) rfl rfl (yU rfl rfl rfl (yMd rfl (yO rfl ?_))))))))); refine yO rfl (yO rfl (yO rfl (yPd rfl rfl (yMd rfl (yO rfl (yO rfl (yO rfl (yO rfl (yPd rfl rfl ?_))))))))); refine yMd rfl (yO rfl (yO rfl (yO rfl (yO rfl (yO rfl (yO rfl (yO rfl (yO rfl (yPd rfl rfl ?_))))))))); refine yMd rfl (yO rfl (yO rfl (yO rfl (yO rfl (yO rfl (yO rfl (yO rfl (yO rfl (yPd rfl rfl ?_))))))))); refine yQ (pw_ct rfl (pw_seq (pw_region (yAd rfl (yQ (pw_ret (q_blk_ret (q_then_ret (q_then_ret ?_))))))))); refine q_blk_ret (q_then_ret ?_)
        exact q_ret _ (.tmp rfl .nil) rfl
      | true =>
      rw [nq] at c2
      cases nm : numB s.m with
      | false =>
        rw [nm] at c3
        have hn : r = 1 := bad 1 (by omega) (by rw [hst, nmE, nm]; simp)
        subst hn
        refine pw_seq (pw_seq (pw_region (yMd rfl (yMd rfl (yN rfl (yB rfl rfl rfl rfl (yQ (q_then ?_)))))))); rw [u1]; refine pw_ct rfl (pw_skip (pw_seq (pw_block (pw_seq (pw_region (yMd rfl (yMd rfl ?_))))))); refine yW ex (by omega) rfl rfl ?_; refine yLs (ys := [_, _, _, _, _, _]) rfl rfl rfl (yZ (cs := [_, _, _, _, _, _]) rfl rfl (yS (cs' := [_, _, _, _, _, _]) rfl rfl rfl rfl rfl (yQ (pw_seq (pw_seq (pw_region (yFb rfl (yLd rfl rfl rfl (yBse rfl rfl ?_))))))))); refine yMd rfl ?_; rw [a0]; refine yFb rfl (yLd rfl rfl rfl (yBse rfl rfl (yMd rfl ?_))); rw [a1]; refine yFb rfl (yLd rfl rfl rfl (yBse rfl rfl (yPd rfl rfl (yVd rfl rfl (yQ (q_then ?_)))))); rw [a2]; refine pw_cf rfl (pw_skip (pw_seq (pw_seq (pw_region (yFb rfl (yLd rfl rfl rfl (yFb rfl (yLd rfl rfl rfl (yBse rfl rfl ?_))))))))); refine yQ (q_then ?_); rw [a3]; refine pw_cf rfl (pw_skip (pw_seq (pw_region (yFb rfl (yLd rfl rfl rfl (yC (c2) rfl rfl (yU rfl rfl rfl (yMd rfl (yFb rfl ?_))))))))); refine yLd rfl rfl rfl (yC (c3) rfl rfl (yU rfl rfl rfl (yVd rfl rfl (yMd rfl (yO rfl (yO rfl (yO rfl (yO rfl (yPd rfl rfl ?_))))))))); refine yMd rfl (yO rfl (yO rfl (yO rfl (yO rfl (yO rfl (yO rfl (yO rfl (yO rfl (yPd rfl rfl ?_))))))))); refine yMd rfl (yO rfl (yO rfl (yO rfl (yO rfl (yO rfl (yO rfl (yO rfl (yO rfl (yPd rfl rfl ?_))))))))); refine yQ (pw_ct rfl (pw_seq (pw_region (yAd rfl (yQ (pw_ret (q_blk_ret (q_then_ret (q_then_ret ?_))))))))); refine q_blk_ret (q_then_ret ?_)
        exact q_ret _ (.tmp rfl .nil) rfl
      | true =>
      rw [nm] at c3
      cases nk : numB s.k with
      | false =>
        rw [nk] at c4
        have hn : r = 1 := bad 1 (by omega) (by rw [hst, nmE, nk]; simp)
        subst hn
        refine pw_seq (pw_seq (pw_region (yMd rfl (yMd rfl (yN rfl (yB rfl rfl rfl rfl (yQ (q_then ?_)))))))); rw [u1]; refine pw_ct rfl (pw_skip (pw_seq (pw_block (pw_seq (pw_region (yMd rfl (yMd rfl ?_))))))); refine yW ex (by omega) rfl rfl ?_; refine yLs (ys := [_, _, _, _, _, _]) rfl rfl rfl (yZ (cs := [_, _, _, _, _, _]) rfl rfl (yS (cs' := [_, _, _, _, _, _]) rfl rfl rfl rfl rfl (yQ (pw_seq (pw_seq (pw_region (yFb rfl (yLd rfl rfl rfl (yBse rfl rfl ?_))))))))); refine yMd rfl ?_; rw [a0]; refine yFb rfl (yLd rfl rfl rfl (yBse rfl rfl (yMd rfl ?_))); rw [a1]; refine yFb rfl (yLd rfl rfl rfl (yBse rfl rfl (yPd rfl rfl (yVd rfl rfl (yQ (q_then ?_)))))); rw [a2]; refine pw_cf rfl (pw_skip (pw_seq (pw_seq (pw_region (yFb rfl (yLd rfl rfl rfl (yFb rfl (yLd rfl rfl rfl (yBse rfl rfl ?_))))))))); refine yQ (q_then ?_); rw [a3]; refine pw_cf rfl (pw_skip (pw_seq (pw_region (yFb rfl (yLd rfl rfl rfl (yC (c2) rfl rfl (yU rfl rfl rfl (yMd rfl (yFb rfl ?_))))))))); refine yLd rfl rfl rfl (yC (c3) rfl rfl (yU rfl rfl rfl (yVd rfl rfl (yMd rfl (yFb rfl (yLd rfl rfl rfl (yC (c4) rfl rfl (yU rfl rfl rfl (yVd rfl rfl ?_))))))))); refine yMd rfl (yO rfl (yO rfl (yO rfl (yO rfl (yO rfl (yO rfl (yO rfl (yO rfl (yPd rfl rfl ?_))))))))); refine yMd rfl (yO rfl (yO rfl (yO rfl (yO rfl (yO rfl (yO rfl (yO rfl (yO rfl (yPd rfl rfl ?_))))))))); refine yQ (pw_ct rfl (pw_seq (pw_region (yAd rfl (yQ (pw_ret (q_blk_ret (q_then_ret (q_then_ret ?_))))))))); refine q_blk_ret (q_then_ret ?_)
        exact q_ret _ (.tmp rfl .nil) rfl
      | true =>
      rw [nk] at c4
      by_cases e4 : s.q = []
      · have a4 : (!s.q == []) = false := by simp [e4]
        have hse : stE s = 0 := by rw [hst, nmE, nq, nm, nk]; simp [e1, e2, e4]
        refine pw_seq (pw_seq (pw_region (yMd rfl (yMd rfl (yN rfl (yB rfl rfl rfl rfl (yQ (q_then ?_)))))))); rw [u1]; refine pw_ct rfl (pw_skip (pw_seq (pw_block (pw_seq (pw_region (yMd rfl (yMd rfl ?_))))))); refine yW ex (by omega) rfl rfl ?_; refine yLs (ys := [_, _, _, _, _, _]) rfl rfl rfl (yZ (cs := [_, _, _, _, _, _]) rfl rfl (yS (cs' := [_, _, _, _, _, _]) rfl rfl rfl rfl rfl (yQ (pw_seq (pw_seq (pw_region (yFb rfl (yLd rfl rfl rfl (yBse rfl rfl ?_))))))))); refine yMd rfl ?_; rw [a0]; refine yFb rfl (yLd rfl rfl rfl (yBse rfl rfl (yMd rfl ?_))); rw [a1]; refine yFb rfl (yLd rfl rfl rfl (yBse rfl rfl (yPd rfl rfl (yVd rfl rfl (yQ (q_then ?_)))))); rw [a2]; refine pw_cf rfl (pw_skip (pw_seq (pw_seq (pw_region (yFb rfl (yLd rfl rfl rfl (yFb rfl (yLd rfl rfl rfl (yBse rfl rfl ?_))))))))); refine yQ (q_then ?_); rw [a3]; refine pw_cf rfl (pw_skip (pw_seq (pw_region (yFb rfl (yLd rfl rfl rfl (yC (c2) rfl rfl (yU rfl rfl rfl (yMd rfl (yFb rfl ?_))))))))); refine yLd rfl rfl rfl (yC (c3) rfl rfl (yU rfl rfl rfl (yVd rfl rfl (yMd rfl (yFb rfl (yLd rfl rfl rfl (yC (c4) rfl rfl (yU rfl rfl rfl (yVd rfl rfl ?_))))))))); refine yMd rfl (yFb rfl (yLd rfl rfl rfl (yBse rfl rfl (yMd rfl ?_)))); rw [a1]; refine yFb rfl (yLd rfl rfl rfl (yBsn rfl rfl (yPd rfl rfl (yVd rfl rfl (yMd rfl ?_))))); rw [a4]; refine yFb rfl (yLd rfl rfl rfl (yBse rfl rfl (yMd rfl ?_))); rw [a2]; refine yO rfl (yO rfl (yO rfl (yVd rfl rfl (yVd rfl rfl (yQ (pw_cf rfl (pw_skip (pw_region (yMd rfl ?_))))))))); refine yB rfl rfl rfl rfl (yAd rfl (yQ (q_then ?_)))
        exact ⟨i + 1, ⟨h, good hse⟩, arith, rfl, ⟨.refl _, .of_eq (congrArg (fun n => SV.d (dI n)) hw), trivial⟩, trivial, trivial, rfl⟩
      · have a4 : (!s.q == []) = true := by simp [e4]
        have hn : r = 1 := bad 1 (by omega) (by rw [hst, nmE, nq, nm, nk]; simp [e1, e4])
        subst hn
        refine pw_seq (pw_seq (pw_region (yMd rfl (yMd rfl (yN rfl (yB rfl rfl rfl rfl (yQ (q_then ?_)))))))); rw [u1]; refine pw_ct rfl (pw_skip (pw_seq (pw_block (pw_seq (pw_region (yMd rfl (yMd rfl ?_))))))); refine yW ex (by omega) rfl rfl ?_; refine yLs (ys := [_, _, _, _, _, _]) rfl rfl rfl (yZ (cs := [_, _, _, _, _, _]) rfl rfl (yS (cs' := [_, _, _, _, _, _]) rfl rfl rfl rfl rfl (yQ (pw_seq (pw_seq (pw_region (yFb rfl (yLd rfl rfl rfl (yBse rfl rfl ?_))))))))); refine yMd rfl ?_; rw [a0]; refine yFb rfl (yLd rfl rfl rfl (yBse rfl rfl (yMd rfl ?_))); rw [a1]; refine yFb rfl (yLd rfl rfl rfl (yBse rfl rfl (yPd rfl rfl (yVd rfl rfl (yQ (q_then ?_)))))); rw [a2]; refine pw_cf rfl (pw_skip (pw_seq (pw_seq (pw_region (yFb rfl (yLd rfl rfl rfl (yFb rfl (yLd rfl rfl rfl (yBse rfl rfl ?_))))))))); refine yQ (q_then ?_); rw [a3]; refine pw_cf rfl (pw_skip (pw_seq (pw_region (yFb rfl (yLd rfl rfl rfl (yC (c2) rfl rfl (yU rfl rfl rfl (yMd rfl (yFb rfl ?_))))))))); refine yLd rfl rfl rfl (yC (c3) rfl rfl (yU rfl rfl rfl (yVd rfl rfl (yMd rfl (yFb rfl (yLd rfl rfl rfl (yC (c4) rfl rfl (yU rfl rfl rfl (yVd rfl rfl ?_))))))))); refine yMd rfl (yFb rfl (yLd rfl rfl rfl (yBse rfl rfl (yMd rfl ?_)))); rw [a1]; refine yFb rfl (yLd rfl rfl rfl (yBsn rfl rfl (yPd rfl rfl (yVd rfl rfl (yMd rfl ?_))))); rw [a4]; refine yO rfl (yO rfl (yO rfl (yO rfl (yO rfl (yO rfl (yO rfl (yO rfl (yPd rfl rfl (yQ ?_))))))))); refine pw_ct rfl (pw_seq (pw_region (yAd rfl (yQ (pw_ret (q_blk_ret (q_then_ret (q_then_ret (q_blk_ret ?_))))))))); refine q_then_ret ?_
        exact q_ret _ (.tmp rfl .nil) rfl
    · have a1 : (s.f == []) = false := by simp [e1]
      cases nq : numB s.q with
      | false =>
        rw [nq] at c2
        have hn : r = 1 := bad 1 (by omega) (by rw [hst, nmE, nq]; simp)
        subst hn
        refine pw_seq (pw_seq (pw_region (yMd rfl (yMd rfl (yN rfl (yB rfl rfl rfl rfl (yQ (q_then ?_)))))))); rw [u1]; refine pw_ct rfl (pw_skip (pw_seq (pw_block (pw_seq (pw_region (yMd rfl (yMd rfl ?_))))))); refine yW ex (by omega) rfl rfl ?_; refine yLs (ys := [_, _, _, _, _, _]) rfl rfl rfl (yZ (cs := [_, _, _, _, _, _]) rfl rfl (yS (cs' := [_, _, _, _, _, _]) rfl rfl rfl rfl rfl (yQ (pw_seq (pw_seq (pw_region (yFb rfl (yLd rfl rfl rfl (yBse rfl rfl ?_))))))))); refine yMd rfl ?_; rw [a0]; refine yFb rfl (yLd rfl rfl rfl (yBse rfl rfl (yMd rfl ?_))); rw [a1]; refine yO rfl (yO rfl (yO rfl (yVd rfl rfl (yVd rfl rfl (yQ (pw_cf rfl (pw_skip (pw_seq (pw_seq ?_))))))))); refine pw_region (yFb rfl (yLd rfl rfl rfl (yFb rfl (yLd rfl rfl rfl (yBse rfl rfl (yQ (q_then ?_))))))); rw [a3]; refine pw_cf rfl (pw_skip (pw_seq (pw_region (yFb rfl (yLd rfl rfl rfl (yC (c2) rfl rfl (yU rfl rfl rfl (yMd rfl (yO rfl ?_))))))))); refine yO rfl (yO rfl (yO rfl (yPd rfl rfl (yMd rfl (yO rfl (yO rfl (yO rfl (yO rfl (yPd rfl rfl ?_))))))))); refine yMd rfl (yO rfl (yO rfl (yO rfl (yO rfl (yO rfl (yO rfl (yO rfl (yO rfl (yPd rfl rfl ?_))))))))); refine yMd rfl (yO rfl (yO rfl (yO rfl (yO rfl (yO rfl (yO rfl (yO rfl (yO rfl (yPd rfl rfl ?_))))))))); refine yQ (pw_ct rfl (pw_seq (pw_region (yAd rfl (yQ (pw_ret (q_blk_ret (q_then_ret (q_then_ret ?_))))))))); refine q_blk_ret (q_then_ret ?_)
        exact q_ret _ (.tmp rfl .nil) rfl
      | true =>
      rw [nq] at c2
      cases nm : numB s.m with
      | false =>
        rw [nm] at c3
        have hn : r = 1 := bad 1 (by omega) (by rw [hst, nmE, nm]; simp)
        subst hn
        refine pw_seq (pw_seq (pw_region (yMd rfl (yMd rfl (yN rfl (yB rfl rfl rfl rfl (yQ (q_then ?_)))))))); rw [u1]; refine pw_ct rfl (pw_skip (pw_seq (pw_block (pw_seq (pw_region (yMd rfl (yMd rfl ?_))))))); refine yW ex (by omega) rfl rfl ?_; refine yLs (ys := [_, _, _, _, _, _]) rfl rfl rfl (yZ (cs := [_, _, _, _, _, _]) rfl rfl (yS (cs' := [_, _, _, _, _, _]) rfl rfl rfl rfl rfl (yQ (pw_seq (pw_seq (pw_region (yFb rfl (yLd rfl rfl rfl (yBse rfl rfl ?_))))))))); refine yMd rfl ?_; rw [a0]; refine yFb rfl (yLd rfl rfl rfl (yBse rfl rfl (yMd rfl ?_))); rw [a1]; refine yO rfl (yO rfl (yO rfl (yVd rfl rfl (yVd rfl rfl (yQ (pw_cf rfl (pw_skip (pw_seq (pw_seq ?_))))))))); refine pw_region (yFb rfl (yLd rfl rfl rfl (yFb rfl (yLd rfl rfl rfl (yBse rfl rfl (yQ (q_then ?_))))))); rw [a3]; refine pw_cf rfl (pw_skip (pw_seq (pw_region (yFb rfl (yLd rfl rfl rfl (yC (c2) rfl rfl (yU rfl rfl rfl (yMd rfl (yFb rfl ?_))))))))); refine yLd rfl rfl rfl (yC (c3) rfl rfl (yU rfl rfl rfl (yVd rfl rfl (yMd rfl (yO rfl (yO rfl (yO rfl (yO rfl (yPd rfl rfl ?_))))))))); refine yMd rfl (yO rfl (yO rfl (yO rfl (yO rfl (yO rfl (yO rfl (yO rfl (yO rfl (yPd rfl rfl ?_))))))))); refine yMd rfl (yO rfl (yO rfl (yO rfl (yO rfl (yO rfl (yO rfl (yO rfl (yO rfl (yPd rfl rfl ?_))))))))); refine yQ (pw_ct rfl (pw_seq (pw_region (yAd rfl (yQ (pw_ret (q_blk_ret (q_then_ret (q_then_ret ?_))))))))); refine q_blk_ret (q_then_ret ?_)
        exact q_ret _ (.tmp rfl .nil) rfl
      | true =>
      rw [nm] at c3
      cases nk : numB s.k with
      | false =>
        rw [nk] at c4
        have hn : r = 1 := bad 1 (by omega) (by rw [hst, nmE, nk]; simp)
        subst hn
        refine pw_seq (pw_seq (pw_region (yMd rfl (yMd rfl (yN rfl (yB rfl rfl rfl rfl (yQ (q_then ?_)))))))); rw [u1]; refine pw_ct rfl (pw_skip (pw_seq (pw_block (pw_seq (pw_region (yMd rfl (yMd rfl ?_))))))); refine yW ex (by omega) rfl rfl ?_; refine yLs (ys := [_, _, _, _, _, _]) rfl rfl rfl (yZ (cs := [_, _, _, _, _, _]) rfl rfl (yS (cs' := [_, _, _, _, _, _]) rfl rfl rfl rfl rfl (yQ (pw_seq (pw_seq (pw_region (yFb rfl (yLd rfl rfl rfl (yBse rfl rfl ?_))))))))); refine yMd rfl ?_; rw [a0]; refine yFb rfl (yLd rfl rfl rfl (yBse rfl rfl (yMd rfl ?_))); rw [a1]; refine yO rfl (yO rfl (yO rfl (yVd rfl rfl (yVd rfl rfl (yQ (pw_cf rfl (pw_skip (pw_seq (pw_seq ?_))))))))); refine pw_region (yFb rfl (yLd rfl rfl rfl (yFb rfl (yLd rfl rfl rfl (yBse rfl rfl (yQ (q_then ?_))))))); rw [a3]; refine pw_cf rfl (pw_skip (pw_seq (pw_region (yFb rfl (yLd rfl rfl rfl (yC (c2) rfl rfl (yU rfl rfl rfl (yMd rfl (yFb rfl ?_))))))))); refine yLd rfl rfl rfl (yC (c3) rfl rfl (yU rfl rfl rfl (yVd rfl rfl (yMd rfl (yFb rfl (yLd rfl rfl rfl (yC (c4) rfl rfl (yU rfl rfl rfl (yVd rfl rfl ?_))))))))); refine yMd rfl (yO rfl (yO rfl (yO rfl (yO rfl (yO rfl (yO rfl (yO rfl (yO rfl (yPd rfl rfl ?_))))))))); refine yMd rfl (yO rfl (yO rfl (yO rfl (yO rfl (yO rfl (yO rfl (yO rfl (yO rfl (yPd rfl rfl ?_))))))))); refine yQ (pw_ct rfl (pw_seq (pw_region (yAd rfl (yQ (pw_ret (q_blk_ret (q_then_ret (q_then_ret ?_))))))))); refine q_blk_ret (q_then_ret ?_)
        exact q_ret _ (.tmp rfl .nil) rfl
      | true =>
      rw [nk] at c4
      by_cases e2 : s.t = []
      · have a2 : (s.t == []) = true := by simp [e2]
        by_cases e4 : s.m = []
        · have a4 : (!s.m == []) = false := by simp [e4]
          have hse : stE s = 0 := by rw [hst, nmE, nq, nm, nk]; simp [e1, e2, e4]
          refine pw_seq (pw_seq (pw_region (yMd rfl (yMd rfl (yN rfl (yB rfl rfl rfl rfl (yQ (q_then ?_)))))))); rw [u1]; refine pw_ct rfl (pw_skip (pw_seq (pw_block (pw_seq (pw_region (yMd rfl (yMd rfl ?_))))))); refine yW ex (by omega) rfl rfl ?_; refine yLs (ys := [_, _, _, _, _, _]) rfl rfl rfl (yZ (cs := [_, _, _, _, _, _]) rfl rfl (yS (cs' := [_, _, _, _, _, _]) rfl rfl rfl rfl rfl (yQ (pw_seq (pw_seq (pw_region (yFb rfl (yLd rfl rfl rfl (yBse rfl rfl ?_))))))))); refine yMd rfl ?_; rw [a0]; refine yFb rfl (yLd rfl rfl rfl (yBse rfl rfl (yMd rfl ?_))); rw [a1]; refine yO rfl (yO rfl (yO rfl (yVd rfl rfl (yVd rfl rfl (yQ (pw_cf rfl (pw_skip (pw_seq (pw_seq ?_))))))))); refine pw_region (yFb rfl (yLd rfl rfl rfl (yFb rfl (yLd rfl rfl rfl (yBse rfl rfl (yQ (q_then ?_))))))); rw [a3]; refine pw_cf rfl (pw_skip (pw_seq (pw_region (yFb rfl (yLd rfl rfl rfl (yC (c2) rfl rfl (yU rfl rfl rfl (yMd rfl (yFb rfl ?_))))))))); refine yLd rfl rfl rfl (yC (c3) rfl rfl (yU rfl rfl rfl (yVd rfl rfl (yMd rfl (yFb rfl (yLd rfl rfl rfl (yC (c4) rfl rfl (yU rfl rfl rfl (yVd rfl rfl ?_))))))))); refine yMd rfl (yFb rfl (yLd rfl rfl rfl (yBse rfl rfl (yMd rfl ?_)))); rw [a1]; refine yO rfl (yO rfl (yO rfl (yVd rfl rfl (yVd rfl rfl (yMd rfl (yFb rfl (yLd rfl rfl rfl (yBse rfl rfl (yMd rfl ?_))))))))); rw [a2]; refine yFb rfl (yLd rfl rfl rfl (yBsn rfl rfl (yPd rfl rfl (yVd rfl rfl (yQ (q_then ?_)))))); rw [a4]; refine pw_cf rfl (pw_skip (pw_region (yMd rfl (yB rfl rfl rfl rfl (yAd rfl (yQ (q_then ?_)))))))
          exact ⟨i + 1, ⟨h, good hse⟩, arith, rfl, ⟨.refl _, .of_eq (congrArg (fun n => SV.d (dI n)) hw), trivial⟩, trivial, trivial, rfl⟩
        · have a4 : (!s.m == []) = true := by simp [e4]
          have hn : r = 1 := bad 1 (by omega) (by rw [hst, nmE, nq, nm, nk]; simp [e1, e2, e4])
          subst hn
          refine pw_seq (pw_seq (pw_region (yMd rfl (yMd rfl (yN rfl (yB rfl rfl rfl rfl (yQ (q_then ?_)))))))); rw [u1]; refine pw_ct rfl (pw_skip (pw_seq (pw_block (pw_seq (pw_region (yMd rfl (yMd rfl ?_))))))); refine yW ex (by omega) rfl rfl ?_; refine yLs (ys := [_, _, _, _, _, _]) rfl rfl rfl (yZ (cs := [_, _, _, _, _, _]) rfl rfl (yS (cs' := [_, _, _, _, _, _]) rfl rfl rfl rfl rfl (yQ (pw_seq (pw_seq (pw_region (yFb rfl (yLd rfl rfl rfl (yBse rfl rfl ?_))))))))); refine yMd rfl ?_; rw [a0]; refine yFb rfl (yLd rfl rfl rfl (yBse rfl rfl (yMd rfl ?_))); rw [a1]; refine yO rfl (yO rfl (yO rfl (yVd rfl rfl (yVd rfl rfl (yQ (pw_cf rfl (pw_skip (pw_seq (pw_seq ?_))))))))); refine pw_region (yFb rfl (yLd rfl rfl rfl (yFb rfl (yLd rfl rfl rfl (yBse rfl rfl (yQ (q_then ?_))))))); rw [a3]; refine pw_cf rfl (pw_skip (pw_seq (pw_region (yFb rfl (yLd rfl rfl rfl (yC (c2) rfl rfl (yU rfl rfl rfl (yMd rfl (yFb rfl ?_))))))))); refine yLd rfl rfl rfl (yC (c3) rfl rfl (yU rfl rfl rfl (yVd rfl rfl (yMd rfl (yFb rfl (yLd rfl rfl rfl (yC (c4) rfl rfl (yU rfl rfl rfl (yVd rfl rfl ?_))))))))); refine yMd rfl (yFb rfl (yLd rfl rfl rfl (yBse rfl rfl (yMd rfl ?_)))); rw [a1]; refine yO rfl (yO rfl (yO rfl (yVd rfl rfl (yVd rfl rfl (yMd rfl (yFb rfl (yLd rfl rfl rfl (yBse rfl rfl (yMd rfl ?_))))))))); rw [a2]; refine yFb rfl (yLd rfl rfl rfl (yBsn rfl rfl (yPd rfl rfl (yVd rfl rfl (yQ (q_then ?_)))))); rw [a4]; refine pw_ct rfl (pw_seq (pw_region (yAd rfl (yQ (pw_ret (q_blk_ret (q_then_ret (q_then_ret (q_blk_ret ?_))))))))); refine q_then_ret ?_
          exact q_ret _ (.tmp rfl .nil) rfl
      · have a2 : (s.t == []) = false := by simp [e2]
        have hse : stE s = 0 := by rw [hst, nmE, nq, nm, nk]; simp [e1, e2]
        refine pw_seq (pw_seq (pw_region (yMd rfl (yMd rfl (yN rfl (yB rfl rfl rfl rfl (yQ (q_then ?_)))))))); rw [u1]; refine pw_ct rfl (pw_skip (pw_seq (pw_block (pw_seq (pw_region (yMd rfl (yMd rfl ?_))))))); refine yW ex (by omega) rfl rfl ?_; refine yLs (ys := [_, _, _, _, _, _]) rfl rfl rfl (yZ (cs := [_, _, _, _, _, _]) rfl rfl (yS (cs' := [_, _, _, _, _, _]) rfl rfl rfl rfl rfl (yQ (pw_seq (pw_seq (pw_region (yFb rfl (yLd rfl rfl rfl (yBse rfl rfl ?_))))))))); refine yMd rfl ?_; rw [a0]; refine yFb rfl (yLd rfl rfl rfl (yBse rfl rfl (yMd rfl ?_))); rw [a1]; refine yO rfl (yO rfl (yO rfl (yVd rfl rfl (yVd rfl rfl (yQ (pw_cf rfl (pw_skip (pw_seq (pw_seq ?_))))))))); refine pw_region (yFb rfl (yLd rfl rfl rfl (yFb rfl (yLd rfl rfl rfl (yBse rfl rfl (yQ (q_then ?_))))))); rw [a3]; refine pw_cf rfl (pw_skip (pw_seq (pw_region (yFb rfl (yLd rfl rfl rfl (yC (c2) rfl rfl (yU rfl rfl rfl (yMd rfl (yFb rfl ?_))))))))); refine yLd rfl rfl rfl (yC (c3) rfl rfl (yU rfl rfl rfl (yVd rfl rfl (yMd rfl (yFb rfl (yLd rfl rfl rfl (yC (c4) rfl rfl (yU rfl rfl rfl (yVd rfl rfl ?_))))))))); refine yMd rfl (yFb rfl (yLd rfl rfl rfl (yBse rfl rfl (yMd rfl ?_)))); rw [a1]; refine yO rfl (yO rfl (yO rfl (yVd rfl rfl (yVd rfl rfl (yMd rfl (yFb rfl (yLd rfl rfl rfl (yBse rfl rfl (yMd rfl ?_))))))))); rw [a2]; refine yO rfl (yO rfl (yO rfl (yVd rfl rfl (yVd rfl rfl (yQ (pw_cf rfl (pw_skip (pw_region (yMd rfl ?_))))))))); refine yB rfl rfl rfl rfl (yAd rfl (yQ (q_then ?_)))
        exact ⟨i + 1, ⟨h, good hse⟩, arith, rfl, ⟨.refl _, .of_eq (congrArg (fun n => SV.d (dI n)) hw), trivial⟩, trivial, trivial, rfl⟩
  · have u1 : decide ((i : Int) < ((l.map dSp).length : Int)) = false := by simp; omega
    have hf : firstE l = 0 := firstE_ok fun j x hx => h0 j x (by have := (List.getElem?_eq_some_iff.1 hx).1; omega) hx
    rw [if_pos hf] at hr
    have hAl := lotU_len l
    have hAm : ∀ x, Rch (parG l) x x → x ∈ uniS (lotL l) := fun x hx => uniS_mem.2 (rch_lot hx)
    obtain ⟨A, hA⟩ : ∃ A, A = uniS (lotL l) := ⟨_, rfl⟩
    rw [← hA] at c1 hAl hAm
    refine pw_seq (pw_seq (pw_region (yMd rfl (yMd rfl (yN rfl (yB rfl rfl rfl rfl (yQ (q_then ?_)))))))); rw [u1]; refine pw_cf rfl (pw_exit (pw_seq (pw_region (yMd rfl (yC (c1) rfl rfl (yAd rfl (yQ (pw_seq (pw_seq ?_))))))))); refine pw_region (yAd rfl (yQ (pw_block ?_))); refine pw_loop (fun i : Nat => ⟨93, [(0, .d (dSl l)), (5, .d (dStrs A)), (6, .d (dI i))], [], []⟩) (fun i => i ≤ A.length ∧ ∀ j x, j < i → A[j]? = some x → ¬ Rch (parG l) x x) (fun i => A.length - i) 0 ⟨Nat.zero_le _, fun j x hj => absurd hj (Nat.not_lt_zero _)⟩ ⟨rfl, ⟨.refl _, .refl _, .refl _, trivial⟩, trivial, trivial, rfl⟩ ?_
    rintro k ⟨hk, hk0⟩
    rcases Nat.lt_or_ge k A.length with h | h
    · have u2 : decide ((k : Int) < ((A.map fun s => [dS s]).length : Int)) = true := by simpa using h
      obtain ⟨x, hx⟩ : ∃ a, A[k]? = some a := ⟨_, List.getElem?_eq_getElem h⟩
      have ex := ix (fun s => [dS s]) A k k x rfl hx
      have hw := wrapI ((k : Int) + 1) (by omega)
      have c2 := wAbove l x hl
      have hul := uniS_length (reach (parG l) x)
      have hrl := reach_le l x
      have c3 := wHas (uniS (reach (parG l) x)) x (by omega)
      rw [uniS_contains] at c3
      cases hc : (reach (parG l) x).contains x with
      | true =>
        have hcy : cycB (parG l) = true := (cycB_iff _).2 ⟨x, (reach_iff _ _ _).1 (by simpa using hc)⟩
        rw [hcy, if_pos rfl] at hr
        subst hr
        rw [hc] at c3
        refine pw_seq (pw_seq (pw_region (yMd rfl (yMd rfl (yN rfl (yB rfl rfl rfl rfl (yQ (q_then ?_)))))))); rw [u2]; refine pw_ct rfl (pw_skip (pw_seq (pw_block (pw_seq ?_)))); refine pw_draw Tryz.mixed (by kernel_rfl) ?_; refine yMd rfl (yMd rfl (yMd rfl ?_)); refine yW ex (by omega) rfl rfl ?_; refine yLr rfl rfl (yC (c2) rfl rfl (yMd rfl (yMd rfl ?_))); refine yW ex (by omega) rfl rfl ?_; refine yLr rfl rfl (yC (c3) rfl rfl (yQ (pw_ct rfl (pw_seq (pw_region (yAd rfl (yQ (pw_ret (q_blk_ret ?_))))))))); refine q_then_ret (q_then_ret (q_blk_ret (q_then_ret ?_)))
        exact q_ret _ (.tmp rfl .nil) rfl
      | false =>
        rw [hc] at c3
        refine pw_seq (pw_seq (pw_region (yMd rfl (yMd rfl (yN rfl (yB rfl rfl rfl rfl (yQ (q_then ?_)))))))); rw [u2]; refine pw_ct rfl (pw_skip (pw_seq (pw_block (pw_seq ?_)))); refine pw_draw Tryz.mixed (by kernel_rfl) ?_; refine yMd rfl (yMd rfl (yMd rfl ?_)); refine yW ex (by omega) rfl rfl ?_; refine yLr rfl rfl (yC (c2) rfl rfl (yMd rfl (yMd rfl ?_))); refine yW ex (by omega) rfl rfl ?_; refine yLr rfl rfl (yC (c3) rfl rfl (yQ (pw_cf rfl (pw_skip (pw_region (yMd rfl (yB rfl rfl rfl rfl (yAd rfl (yQ ?_))))))))); refine q_then ?_
        exact ⟨k + 1, ⟨h, fun j y hj hy => by
          rcases Nat.lt_or_ge j k with h1 | h1
          · exact hk0 j y h1 hy
          · obtain rfl : j = k := by omega
            rw [hx] at hy; cases hy
            intro hr2
            have : (reach (parG l) x).contains x = true := by simpa using (reach_iff _ _ _).2 hr2
            rw [hc] at this; cases this⟩, by omega, rfl, ⟨.refl _, .refl _, .of_eq (congrArg (fun n => SV.d (dI n)) hw), trivial⟩, trivial, trivial, rfl⟩
    · have u2 : decide ((k : Int) < ((A.map fun s => [dS s]).length : Int)) = false := by simp; omega
      have hcy : cycB (parG l) = false := by
        rw [← Bool.not_eq_true, cycB_iff]
        rintro ⟨x, hx⟩
        obtain ⟨j, hj⟩ := List.mem_iff_getElem?.1 (hAm x hx)
        exact hk0 j x (by have := (List.getElem?_eq_some_iff.1 hj).1; omega) hj hx
      rw [hcy, if_neg (by simp)] at hr
      subst hr
      refine pw_seq (pw_seq (pw_region (yMd rfl (yMd rfl (yN rfl (yB rfl rfl rfl rfl (yQ (q_then ?_)))))))); rw [u2]; refine pw_cf rfl (pw_exit (pw_seq (pw_region (yAd rfl (yQ (pw_ret ?_))))))
      exact q_ret _ (.tmp rfl .nil) rfl
abbrev hT : Nat := 9 * 100000 + 7
end Go.Proofs.YtkfoogabijnamaaGreatDoor
namespace Go.Proofs.YtkfoogabijnamaaGreatDoor
open Go.RowKit Px

set_option maxRecDepth 20000 in
set_option maxHeartbeats 4000000 in
theorem wThrough (l : List Stp) (id : Str) (hb : bdL 1000 l) : PCalls Tryz.prog 24 [dSl l, dS id] (.tup [dS (thI l id), dS (thO l id), dI (okE l)]) := by
  have c0 := wChk l hb
  have hl := hb.1
  by_cases h0 : chkE l = 0
  rotate_left
  · rw [thI, thO, okE, if_neg (fun h => h0 h.1), if_neg (fun h => h0 h.1), if_neg h0]
    have t1 : (chkE l != 0) = true := by simpa using h0
    refine pcalls_of_pw Tryz.func24 rfl Tryz.ntmps24 Tryz.results24 (by simp) fun B w0 => ?_
    refine pw_seq (pw_region (yAd rfl (yAd rfl (yAd rfl (yQ (pw_seq (pw_seq (pw_region (yMd rfl ?_))))))))); refine yC (c0) rfl rfl (yB rfl rfl rfl rfl (yQ (q_then ?_))); rw [t1]; refine pw_ct rfl (pw_seq (pw_region (yAd rfl (yAd rfl (yAd rfl (yQ (pw_ret (q_then_ret ?_))))))))
    exact q_ret _ (.tmp rfl (.tmp rfl (.tmp rfl .nil))) rfl
  have hok := chk_ok h0
  by_cases hid : id = []
  · rw [thI, thO, okE, if_neg (fun h => h.2 hid), if_neg (fun h => h.2 hid), if_pos h0]
    rw [h0] at c0
    have t1 : (id == []) = true := by simpa using hid
    refine pcalls_of_pw Tryz.func24 rfl Tryz.ntmps24 Tryz.results24 (by simp) fun B w0 => ?_
    refine pw_seq (pw_region (yAd rfl (yAd rfl (yAd rfl (yQ (pw_seq (pw_seq (pw_region (yMd rfl ?_))))))))); refine yC (c0) rfl rfl (yB rfl rfl rfl rfl (yQ (pw_cf rfl (pw_skip (pw_seq (pw_region (yAd rfl (yAd rfl (yQ ?_))))))))); refine pw_seq (pw_seq (pw_region (yMd rfl (yBse rfl rfl (yQ (q_then ?_)))))); rw [t1]; refine pw_ct rfl (pw_seq (pw_region (yMd rfl (yMd rfl (yAd rfl (yAd rfl (yAd rfl (yQ (pw_ret ?_))))))))); refine q_then_ret ?_
    exact q_ret _ (.tmp rfl (.tmp rfl (.tmp rfl .nil))) rfl
  rw [thI, thO, okE, if_pos ⟨h0, hid⟩, if_pos ⟨h0, hid⟩, if_pos h0]
  rw [h0] at c0
  have t1 : (id == []) = false := by simpa using hid
  refine pcalls_of_pw Tryz.func24 rfl Tryz.ntmps24 Tryz.results24 (by simp) fun B w0 => ?_
  refine pw_seq (pw_region (yAd rfl (yAd rfl (yAd rfl (yQ (pw_seq (pw_seq (pw_region (yMd rfl ?_))))))))); refine yC (c0) rfl rfl (yB rfl rfl rfl rfl (yQ (pw_cf rfl (pw_skip (pw_seq (pw_region (yAd rfl (yAd rfl (yQ ?_))))))))); refine pw_seq (pw_seq (pw_region (yMd rfl (yBse rfl rfl (yQ (q_then ?_)))))); rw [t1]; refine pw_cf rfl (pw_skip (pw_seq (pw_seq (pw_region (yMd rfl (yN rfl (yMd rfl (yQ (pw_block ?_))))))))); refine pw_loop (fun i : Nat => ⟨44, [(1, .d (dS id)), (7, .d (dS (canon (sumF (inF id) (l.take i))))), (8, .d (dS (canon (sumF (ouF id) (l.take i))))), (18, .d (dSl l)), (19, .d (dI l.length)), (20, .d (dI i))], [], []⟩) (fun i => i ≤ l.length) (fun i => l.length - i) 0 (Nat.zero_le _) ⟨rfl, ⟨.refl _, .of_eq (congrArg (fun n => SV.d (dS n)) canon_zero.symm), .of_eq (congrArg (fun n => SV.d (dS n)) canon_zero.symm), .refl _, .of_eq (congrArg (fun n : Nat => SV.d (dI n)) (by simp)), .refl _, trivial⟩, trivial, trivial, rfl⟩ ?_
  intro i hi
  rcases Nat.lt_or_ge i l.length with h | h
  · have u1 : decide ((i : Int) < (l.length : Int)) = true := decide_eq_true (by omega)
    obtain ⟨s, hx⟩ : ∃ a, l[i]? = some a := ⟨_, List.getElem?_eq_getElem h⟩
    have hs := List.mem_of_getElem? hx
    have ex := ix dSp l i i s rfl hx
    have hw := wrapI ((i : Int) + 1) (by omega)
    have n1 := sumF_next (g := inF id) hx
    have n2 := sumF_next (g := ouF id) hx
    have l1 := sumF_len (inF_le (id := id) hb.2) i
    have l2 := sumF_len (ouF_le (id := id) hb.2) i
    obtain ⟨X, hX⟩ : ∃ X, X = sumF (inF id) (l.take i) := ⟨_, rfl⟩
    obtain ⟨Y, hY⟩ : ∃ Y, Y = sumF (ouF id) (l.take i) := ⟨_, rfl⟩
    rw [← hX] at n1 l1 ⊢
    rw [← hY] at n2 l2 ⊢
    have hbk := (hb.2 s hs).2.2.2.2.2
    have c1 := wAddT (canon X) s.k (by omega) (by omega)
    have c2 := wAddT (canon Y) s.k (by omega) (by omega)
    rw [val_canon] at c1 c2
    by_cases e1 : s.t = id
    · have a1 : (id == s.t) = true := by simp [e1]
      have e2 : ¬ s.f = id := fun e => (hok s hs).ft (e.trans e1.symm)
      rw [inF, if_pos e1] at n1
      rw [ouF, if_neg e2, Int.add_zero] at n2
      rw [← n1] at c1
      refine pw_seq (pw_region (yB rfl rfl rfl rfl (yQ (pw_seq ?_)))); rw [u1]; refine pw_ct rfl (pw_skip (pw_seq (pw_block (pw_seq (pw_region ?_))))); refine yW ex (by omega) rfl rfl ?_; refine yLs (ys := [_, _, _, _, _, _]) rfl rfl rfl (yZ (cs := [_, _, _, _, _, _]) rfl rfl (yS (cs' := [_, _, _, _, _, _]) rfl rfl rfl rfl rfl (yQ (pw_seq (pw_region (yMd rfl (yQ (pw_block (pw_seq ?_))))))))); refine pw_region (yFb rfl (yLd rfl rfl rfl (yBse rfl rfl (yAd rfl (yQ (q_then ?_))))))
      rw [a1]; refine pw_ct rfl ?_; refine pw_region ?_; refine yMd rfl ?_; refine yFb rfl ?_; refine yLd rfl rfl rfl ?_; refine yC (c1) rfl rfl ?_; refine yAd rfl ?_; refine yQ ?_; refine pw_region ?_; refine yB rfl rfl rfl rfl ?_
      refine yMd rfl (yQ (q_then ?_))
      exact ⟨i + 1, h, by omega, rfl, ⟨.refl _, .refl _, .of_eq (by rw [n2]; rfl), .refl _, .refl _, .of_eq (congrArg (fun n => SV.d (dI n)) hw), trivial⟩, trivial, trivial, rfl⟩
    · have a1 : (id == s.t) = false := by simpa using fun e => e1 (Eq.symm e)
      rw [inF, if_neg e1, Int.add_zero] at n1
      by_cases e2 : s.f = id
      · have a2 : (id == s.f) = true := by simp [e2]
        rw [ouF, if_pos e2] at n2
        rw [← n2] at c2
        refine pw_seq (pw_region (yB rfl rfl rfl rfl (yQ (pw_seq ?_)))); rw [u1]; refine pw_ct rfl (pw_skip (pw_seq (pw_block (pw_seq (pw_region ?_))))); refine yW ex (by omega) rfl rfl ?_; refine yLs (ys := [_, _, _, _, _, _]) rfl rfl rfl (yZ (cs := [_, _, _, _, _, _]) rfl rfl (yS (cs' := [_, _, _, _, _, _]) rfl rfl rfl rfl rfl (yQ (pw_seq (pw_region (yMd rfl (yQ (pw_block (pw_seq ?_))))))))); refine pw_region (yFb rfl (yLd rfl rfl rfl (yBse rfl rfl (yAd rfl (yQ (q_then ?_))))))
        rw [a1]; refine pw_cf rfl ?_; refine pw_seq ?_; refine pw_region ?_; refine yFb rfl ?_; refine yLd rfl rfl rfl ?_; refine yBse rfl rfl ?_; refine yAd rfl ?_; refine yQ ?_; refine q_then ?_; rw [a2]; refine pw_ct rfl ?_
        refine pw_region (yMd rfl (yFb rfl (yLd rfl rfl rfl (yC (c2) rfl rfl (yAd rfl (yQ (pw_region (yB rfl rfl rfl rfl (yMd rfl ?_))))))))); refine yQ (q_then ?_)
        exact ⟨i + 1, h, by omega, rfl, ⟨.refl _, .of_eq (by rw [n1]; rfl), .refl _, .refl _, .refl _, .of_eq (congrArg (fun n => SV.d (dI n)) hw), trivial⟩, trivial, trivial, rfl⟩
      · have a2 : (id == s.f) = false := by simpa using fun e => e2 (Eq.symm e)
        rw [ouF, if_neg e2, Int.add_zero] at n2
        refine pw_seq (pw_region (yB rfl rfl rfl rfl (yQ (pw_seq ?_)))); rw [u1]; refine pw_ct rfl (pw_skip (pw_seq (pw_block (pw_seq (pw_region ?_))))); refine yW ex (by omega) rfl rfl ?_; refine yLs (ys := [_, _, _, _, _, _]) rfl rfl rfl (yZ (cs := [_, _, _, _, _, _]) rfl rfl (yS (cs' := [_, _, _, _, _, _]) rfl rfl rfl rfl rfl (yQ (pw_seq (pw_region (yMd rfl (yQ (pw_block (pw_seq ?_))))))))); refine pw_region (yFb rfl (yLd rfl rfl rfl (yBse rfl rfl (yAd rfl (yQ (q_then ?_))))))
        rw [a1]; refine pw_cf rfl ?_; refine pw_seq ?_; refine pw_region ?_; refine yFb rfl ?_; refine yLd rfl rfl rfl ?_; refine yBse rfl rfl ?_; refine yAd rfl ?_; refine yQ ?_; refine q_then ?_; rw [a2]; refine pw_cf rfl ?_
        refine pw_skip (pw_region (yB rfl rfl rfl rfl (yMd rfl (yQ (q_then ?_)))))
        exact ⟨i + 1, h, by omega, rfl, ⟨.refl _, .of_eq (by rw [n1]; rfl), .of_eq (by rw [n2]; rfl), .refl _, .refl _, .of_eq (congrArg (fun n => SV.d (dI n)) hw), trivial⟩, trivial, trivial, rfl⟩
  · have u1 : decide ((i : Int) < (l.length : Int)) = false := decide_eq_false (by omega)
    rw [List.take_of_length_le h]
    refine pw_seq (pw_region (yB rfl rfl rfl rfl (yQ (pw_seq ?_)))); rw [u1]; refine pw_cf rfl (pw_exit (pw_seq (pw_region (yMd rfl (yMd rfl (yAd rfl (yAd rfl (yAd rfl (yQ ?_))))))))); refine pw_ret ?_
    exact q_ret _ (.tmp rfl (.tmp rfl (.tmp rfl .nil))) rfl
set_option maxRecDepth 20000 in
set_option maxHeartbeats 4000000 in
theorem wRThrough (l : List Stp) (id : Str) (hb : bdL 1000 l) : PCalls Tryz.prog 25 [dSl l, dS id] (.tup [dS (thI l id), dS (thO l id), dI (okE l)]) := by
  have c0 := wRChk l hb
  have hl := hb.1
  by_cases h0 : chkE l = 0
  rotate_left
  · rw [thI, thO, okE, if_neg (fun h => h0 h.1), if_neg (fun h => h0 h.1), if_neg h0]
    have t1 : (chkE l != 0) = true := by simpa using h0
    refine pcalls_of_pw Tryz.func25 rfl Tryz.ntmps25 Tryz.results25 (by simp) fun B w0 => ?_
    refine pw_seq (pw_region (yAd rfl (yAd rfl (yAd rfl (yQ (pw_seq (pw_seq (pw_region (yMd rfl ?_))))))))); refine yC (c0) rfl rfl (yB rfl rfl rfl rfl (yQ (q_then ?_))); rw [t1]; refine pw_ct rfl (pw_seq (pw_region (yAd rfl (yAd rfl (yAd rfl (yQ (pw_ret (q_then_ret ?_))))))))
    exact q_ret _ (.tmp rfl (.tmp rfl (.tmp rfl .nil))) rfl
  have hok := chk_ok h0
  by_cases hid : id = []
  · rw [thI, thO, okE, if_neg (fun h => h.2 hid), if_neg (fun h => h.2 hid), if_pos h0]
    rw [h0] at c0
    have t1 : (!id == []) = false := by simpa using hid
    refine pcalls_of_pw Tryz.func25 rfl Tryz.ntmps25 Tryz.results25 (by simp) fun B w0 => ?_
    refine pw_seq (pw_region (yAd rfl (yAd rfl (yAd rfl (yQ (pw_seq (pw_seq (pw_region (yMd rfl ?_))))))))); refine yC (c0) rfl rfl (yB rfl rfl rfl rfl (yQ (pw_cf rfl (pw_skip (pw_seq (pw_region (yAd rfl (yAd rfl (yQ ?_))))))))); refine pw_seq (pw_seq (pw_region (yAd rfl (yQ (pw_block ?_))))); refine pw_loop (fun i : Nat => ⟨53, [(0, .d (dSl l)), (1, .d (dS id)), (7, .d (dS [])), (8, .d (dS [])), (9, .d (dI i))], [], []⟩) (fun i => i = 0) (fun i => l.length - i) 0 rfl ⟨rfl, ⟨.refl _, .refl _, .refl _, .refl _, .refl _, trivial⟩, trivial, trivial, rfl⟩ ?_
    rintro i rfl
    rcases Nat.lt_or_ge 0 l.length with h | h
    · have u1 : decide (((0 : Nat) : Int) < ((l.map dSp).length : Int)) = true := by simpa using h
      refine pw_seq (pw_seq (pw_region (yMd rfl (yMd rfl (yN rfl (yB rfl rfl rfl rfl (yMd rfl ?_))))))); rw [u1]; refine yMd rfl (yBsn rfl rfl (yPd rfl rfl (yQ (q_then ?_)))); rw [t1]; refine pw_cf rfl (pw_exit (pw_seq (pw_region (yMd rfl (yMd rfl (yAd rfl (yAd rfl (yAd rfl (yQ ?_))))))))); refine pw_ret ?_
      exact q_ret _ (.tmp rfl (.tmp rfl (.tmp rfl .nil))) rfl
    · have u1 : decide (((0 : Nat) : Int) < ((l.map dSp).length : Int)) = false := decide_eq_false (by rw [List.length_map]; omega)
      refine pw_seq (pw_seq (pw_region (yMd rfl (yMd rfl (yN rfl (yB rfl rfl rfl rfl (yMd rfl ?_))))))); rw [u1]; refine yO rfl (yO rfl (yVd rfl rfl (yQ (pw_cf rfl (pw_exit (pw_seq (pw_region (yMd rfl (yMd rfl ?_))))))))); refine yAd rfl (yAd rfl (yAd rfl (yQ (pw_ret ?_))))
      exact q_ret _ (.tmp rfl (.tmp rfl (.tmp rfl .nil))) rfl
  rw [thI, thO, okE, if_pos ⟨h0, hid⟩, if_pos ⟨h0, hid⟩, if_pos h0]
  rw [h0] at c0
  have t1 : (!id == []) = true := by simpa using hid
  refine pcalls_of_pw Tryz.func25 rfl Tryz.ntmps25 Tryz.results25 (by simp) fun B w0 => ?_
  refine pw_seq (pw_region (yAd rfl (yAd rfl (yAd rfl (yQ (pw_seq (pw_seq (pw_region (yMd rfl ?_))))))))); refine yC (c0) rfl rfl (yB rfl rfl rfl rfl (yQ (pw_cf rfl (pw_skip (pw_seq (pw_region (yAd rfl (yAd rfl (yQ ?_))))))))); refine pw_seq (pw_seq (pw_region (yAd rfl (yQ (pw_block ?_))))); refine pw_loop (fun i : Nat => ⟨53, [(0, .d (dSl l)), (1, .d (dS id)), (7, .d (dS (canon (sumF (inF id) (l.take i))))), (8, .d (dS (canon (sumF (ouF id) (l.take i))))), (9, .d (dI i))], [], []⟩) (fun i => i ≤ l.length) (fun i => l.length - i) 0 (Nat.zero_le _) ⟨rfl, ⟨.refl _, .refl _, .of_eq (congrArg (fun n => SV.d (dS n)) canon_zero.symm), .of_eq (congrArg (fun n => SV.d (dS n)) canon_zero.symm), .refl _, trivial⟩, trivial, trivial, rfl⟩ ?_
  intro i hi
  rcases Nat.lt_or_ge i l.length with h | h
  · have u1 : decide ((i : Int) < ((l.map dSp).length : Int)) = true := by simpa using h
    obtain ⟨s, hx⟩ : ∃ a, l[i]? = some a := ⟨_, List.getElem?_eq_getElem h⟩
    have hs := List.mem_of_getElem? hx
    have ex := ix dSp l i i s rfl hx
    have hw := wrapI ((i : Int) + 1) (by omega)
    have n1 := sumF_next (g := inF id) hx
    have n2 := sumF_next (g := ouF id) hx
    have l1 := sumF_len (inF_le (id := id) hb.2) i
    have l2 := sumF_len (ouF_le (id := id) hb.2) i
    obtain ⟨X, hX⟩ : ∃ X, X = sumF (inF id) (l.take i) := ⟨_, rfl⟩
    obtain ⟨Y, hY⟩ : ∃ Y, Y = sumF (ouF id) (l.take i) := ⟨_, rfl⟩
    rw [← hX] at n1 l1 ⊢
    rw [← hY] at n2 l2 ⊢
    have hbk := (hb.2 s hs).2.2.2.2.2
    have c1 := wRAddG (canon X) s.k (by omega) (by omega)
    have c2 := wRAddG (canon Y) s.k (by omega) (by omega)
    rw [val_canon] at c1 c2
    by_cases e1 : s.t = id
    · have a1 : (s.t == id) = true := by simp [e1]
      have e2 : ¬ s.f = id := fun e => (hok s hs).ft (e.trans e1.symm)
      have a2 : (s.f == id) = false := by simpa using e2
      rw [inF, if_pos e1] at n1
      rw [ouF, if_neg e2, Int.add_zero] at n2
      rw [← n1] at c1
      refine pw_seq (pw_seq (pw_region (yMd rfl (yMd rfl (yN rfl (yB rfl rfl rfl rfl (yMd rfl ?_))))))); rw [u1]; refine yMd rfl (yBsn rfl rfl (yPd rfl rfl (yQ (q_then ?_)))); rw [t1]; refine pw_ct rfl (pw_skip (pw_seq (pw_block (pw_seq (pw_seq (pw_region (yMd rfl (yMd rfl ?_)))))))); refine yW ex (by omega) rfl rfl ?_; refine yFr rfl rfl (yLr rfl rfl (yMd rfl (yBse rfl rfl (yQ (q_then ?_))))); rw [a1]; refine pw_ct rfl (pw_region (yMd rfl (yMd rfl (yMd rfl ?_)))); refine yW ex (by omega) rfl rfl ?_; refine yFr rfl rfl (yLr rfl rfl (yC (c1) rfl rfl (yAd rfl (yQ (pw_seq (pw_region (yMd rfl (yMd rfl ?_)))))))); refine yW ex (by omega) rfl rfl ?_; refine yFr rfl rfl (yLr rfl rfl (yMd rfl (yBse rfl rfl (yQ (q_then ?_))))); rw [a2]
      refine pw_cf rfl (pw_skip (pw_region (yMd rfl (yB rfl rfl rfl rfl (yAd rfl (yQ (q_then ?_)))))))
      exact ⟨i + 1, h, by omega, rfl, ⟨.refl _, .refl _, .refl _, .of_eq (by rw [n2]; rfl), .of_eq (congrArg (fun n => SV.d (dI n)) hw), trivial⟩, trivial, trivial, rfl⟩
    · have a1 : (s.t == id) = false := by simpa using e1
      rw [inF, if_neg e1, Int.add_zero] at n1
      by_cases e2 : s.f = id
      · have a2 : (s.f == id) = true := by simp [e2]
        rw [ouF, if_pos e2] at n2
        rw [← n2] at c2
        refine pw_seq (pw_seq (pw_region (yMd rfl (yMd rfl (yN rfl (yB rfl rfl rfl rfl (yMd rfl ?_))))))); rw [u1]; refine yMd rfl (yBsn rfl rfl (yPd rfl rfl (yQ (q_then ?_)))); rw [t1]; refine pw_ct rfl (pw_skip (pw_seq (pw_block (pw_seq (pw_seq (pw_region (yMd rfl (yMd rfl ?_)))))))); refine yW ex (by omega) rfl rfl ?_; refine yFr rfl rfl (yLr rfl rfl (yMd rfl (yBse rfl rfl (yQ (q_then ?_))))); rw [a1]; refine pw_cf rfl (pw_skip (pw_seq (pw_region (yMd rfl (yMd rfl ?_))))); refine yW ex (by omega) rfl rfl ?_; refine yFr rfl rfl (yLr rfl rfl (yMd rfl (yBse rfl rfl (yQ (q_then ?_)))))
        rw [a2]; refine pw_ct rfl ?_; refine pw_region ?_; refine yMd rfl ?_; refine yMd rfl ?_; refine yMd rfl ?_; refine yW ex (by omega) rfl rfl ?_; refine yFr rfl rfl ?_; refine yLr rfl rfl ?_; refine yC (c2) rfl rfl ?_
        refine yAd rfl (yQ (pw_region (yMd rfl (yB rfl rfl rfl rfl (yAd rfl (yQ (q_then ?_)))))))
        exact ⟨i + 1, h, by omega, rfl, ⟨.refl _, .refl _, .of_eq (by rw [n1]; rfl), .refl _, .of_eq (congrArg (fun n => SV.d (dI n)) hw), trivial⟩, trivial, trivial, rfl⟩
      · have a2 : (s.f == id) = false := by simpa using e2
        rw [ouF, if_neg e2, Int.add_zero] at n2
        refine pw_seq (pw_seq (pw_region (yMd rfl (yMd rfl (yN rfl (yB rfl rfl rfl rfl (yMd rfl ?_))))))); rw [u1]; refine yMd rfl (yBsn rfl rfl (yPd rfl rfl (yQ (q_then ?_)))); rw [t1]; refine pw_ct rfl (pw_skip (pw_seq (pw_block (pw_seq (pw_seq (pw_region (yMd rfl (yMd rfl ?_)))))))); refine yW ex (by omega) rfl rfl ?_; refine yFr rfl rfl (yLr rfl rfl (yMd rfl (yBse rfl rfl (yQ (q_then ?_))))); rw [a1]; refine pw_cf rfl (pw_skip (pw_seq (pw_region (yMd rfl (yMd rfl ?_))))); refine yW ex (by omega) rfl rfl ?_; refine yFr rfl rfl (yLr rfl rfl (yMd rfl (yBse rfl rfl (yQ (q_then ?_)))))
        rw [a2]; refine pw_cf rfl ?_; refine pw_skip ?_; refine pw_region ?_; refine yMd rfl ?_; refine yB rfl rfl rfl rfl ?_; refine yAd rfl ?_; refine yQ ?_; refine q_then ?_
        exact ⟨i + 1, h, by omega, rfl, ⟨.refl _, .refl _, .of_eq (by rw [n1]; rfl), .of_eq (by rw [n2]; rfl), .of_eq (congrArg (fun n => SV.d (dI n)) hw), trivial⟩, trivial, trivial, rfl⟩
  · have u1 : decide ((i : Int) < ((l.map dSp).length : Int)) = false := by simp; omega
    rw [List.take_of_length_le h]
    refine pw_seq (pw_seq (pw_region (yMd rfl (yMd rfl (yN rfl (yB rfl rfl rfl rfl (yMd rfl ?_))))))); rw [u1]; refine yO rfl (yO rfl (yVd rfl rfl (yQ (pw_cf rfl (pw_exit (pw_seq (pw_region (yMd rfl (yMd rfl ?_))))))))); refine yAd rfl (yAd rfl (yAd rfl (yQ (pw_ret ?_))))
    exact q_ret _ (.tmp rfl (.tmp rfl (.tmp rfl .nil))) rfl
end Go.Proofs.YtkfoogabijnamaaGreatDoor
namespace Go.Proofs.YtkfoogabijnamaaGreatDoor
open Go.RowKit Px

instance hMI : MapOf Tryz.prog 71 (dS []) := ⟨⟨9, 32, by kernel_rfl, by kernel_rfl, fun w => ⟨.string ⟨#[]⟩, by kernel_rfl, fun F w' => DRep.val _ rfl⟩⟩⟩
abbrev pT : Nat := 40 * 100000 + 7
def dPks (L : List (Str × Str)) : DV := .sl 2 (L.map dPk)
theorem sgn_canon (N : Int) : sgnT (canon N) = if N < 0 then -1 else if 0 < N then 1 else 0 := by rw [sgnT, val_canon]
theorem net_len {l : List Stp} (hb : bdL 1000 l) (x : Str) : (canon (net l x)).length ≤ 12000 := by
  have h := sumF_len (neF_le (id := x) hb.2) l.length
  rw [List.take_of_length_le (Nat.le_refl _)] at h
  have := hb.1
  have e : net l x = sumF (neF x) l := rfl
  rw [e]
  omega
set_option maxRecDepth 20000 in
set_option maxHeartbeats 8000000 in
theorem wLeft (l : List Stp) (hb : bdL 1000 l) : PCalls Tryz.prog 26 [dSl l] (.tup [dPks (lefR l), dI (lefE l)]) := by
  have c0 := wChk l hb
  have hl := hb.1
  by_cases h0 : chkE l = 0
  rotate_left
  · have e1 : lefE l = 1 := by rw [lefE, if_neg h0]
    rw [lefR, e1, if_neg (by omega)]
    have t1 : (chkE l != 0) = true := by simpa using h0
    refine pcalls_of_pw Tryz.func26 rfl Tryz.ntmps26 Tryz.results26 (by simp) fun B w0 => ?_
    refine pw_seq (pw_region (yAd rfl (yAd rfl (yQ (pw_seq (pw_seq (pw_region (yMd rfl (yC (c0) rfl rfl ?_))))))))); refine yB rfl rfl rfl rfl (yQ (q_then ?_)); rw [t1]; refine pw_ct rfl (pw_seq (pw_region (yAd rfl (yAd rfl (yQ (pw_ret (q_then_ret ?_)))))))
    exact q_ret _ (.tnil 2 rfl (.tmp rfl .nil)) rfl
  rw [h0] at c0
  obtain ⟨r1, hr1⟩ : ∃ r, r = lefR l := ⟨_, rfl⟩
  obtain ⟨r2, hr2⟩ : ∃ r, r = lefE l := ⟨_, rfl⟩
  rw [← hr1, ← hr2]
  have hr3 : r2 = if shoB l then 15 else 0 := by rw [hr2, lefE, if_pos h0]
  have hr4 : r1 = if r2 = 0 then lefP l else [] := by rw [hr1, hr2, lefR]
  clear hr1 hr2
  refine pcalls_of_pw Tryz.func26 rfl Tryz.ntmps26 Tryz.results26 (by simp) fun B w0 => ?_
  refine pw_seq (pw_region (yAd rfl (yAd rfl (yQ (pw_seq (pw_seq (pw_region (yMd rfl (yC (c0) rfl rfl ?_))))))))); refine yB rfl rfl rfl rfl (yQ (pw_cf rfl (pw_skip (pw_seq (pw_region (yKm rfl (yAm rfl (yQ (pw_seq ?_))))))))); refine pw_seq (pw_region (yMd rfl (yN rfl (yMd rfl (yQ (pw_block ?_)))))); refine pw_loop (fun i : Nat => ⟨73, [(4, .mb 500014), (15, .d (dSl l)), (16, .d (dI l.length)), (17, .d (dI i))], [(500014, [.mc (kmap (mapD (lefM (l.take i))))])], []⟩) (fun i => i ≤ l.length) (fun i => l.length - i) 0 (Nat.zero_le _) ⟨rfl, ⟨.refl _, .refl _, .of_eq (congrArg (fun n : Nat => SV.d (dI n)) (by simp)), .refl _, trivial⟩, ⟨⟨_, rfl, lesC_refl _⟩, trivial⟩, trivial, rfl⟩ ?_
  intro i hi
  rcases Nat.lt_or_ge i l.length with h | h
  · have u1 : decide ((i : Int) < (l.length : Int)) = true := decide_eq_true (by omega)
    obtain ⟨s, hx⟩ : ∃ a, l[i]? = some a := ⟨_, List.getElem?_eq_getElem h⟩
    have hs := List.mem_of_getElem? hx
    have ex := ix dSp l i i s rfl hx
    have hw := wrapI ((i : Int) + 1) (by omega)
    have hnx := lefM_next hx
    have hI := lefI (l.take i)
    have hlen : ∀ x, x ≠ [] → (getS x (lefM (l.take i))).length ≤ 12000 := fun x hx => by
      rw [hI.val x hx]
      have h2 := sumF_len (neF_le (id := x) hb.2) i
      have e : net (l.take i) x = sumF (neF x) (l.take i) := rfl
      rw [e]; omega
    obtain ⟨M, hM⟩ : ∃ M, M = lefM (l.take i) := ⟨_, rfl⟩
    rw [← hM] at hnx hlen ⊢
    have hbq := (hb.2 s hs).2.2.2.1
    have hbm := (hb.2 s hs).2.2.2.2.1
    have arith : l.length - (i + 1) < l.length - i := by omega
    have hg1 : mget (dS []) s.t (mapD M) = dS (getS s.t M) := mget_D _ _
    have fin : ∀ M', M' = lefS M s → lefM (l.take (i + 1)) = M' := fun M' h => by rw [hnx, h]
    rw [lefS, lefT] at fin
    by_cases e2 : s.t = []
    · have t2 : (!s.t == []) = false := by simp [e2]
      rw [if_pos e2] at fin
      by_cases e1 : s.f = []
      · have t1 : (!s.f == []) = false := by simp [e1]
        have hn := fin M (by rw [if_pos e1])
        refine pw_seq (pw_region (yB rfl rfl rfl rfl (yQ (pw_seq ?_)))); rw [u1]; refine pw_ct rfl (pw_skip (pw_seq (pw_block (pw_seq (pw_region ?_))))); refine yW ex (by omega) rfl rfl ?_; refine yLs (ys := [_, _, _, _, _, _]) rfl rfl rfl (yZ (cs := [_, _, _, _, _, _]) rfl rfl (yS (cs' := [_, _, _, _, _, _]) rfl rfl rfl rfl rfl (yQ (pw_seq (pw_seq (pw_region (yFb rfl (yLd rfl rfl rfl (yBsn rfl rfl ?_))))))))); refine yQ (q_then ?_); rw [t2]; refine pw_cf rfl (pw_skip (pw_seq (pw_region (yFb rfl (yLd rfl rfl rfl (yBsn rfl rfl (yQ (q_then ?_)))))))); rw [t1]; refine pw_cf rfl (pw_skip (pw_region (yB rfl rfl rfl rfl (yMd rfl (yQ (q_then ?_))))))
        exact ⟨i + 1, h, arith, rfl, ⟨.refl _, .refl _, .refl _, .of_eq (congrArg (fun n => SV.d (dI n)) hw), trivial⟩, ⟨⟨_, rfl, lesC_eq (by rw [hn])⟩, trivial⟩, trivial, rfl⟩
      · have t1 : (!s.f == []) = true := by simp [e1]
        have hg : mget (dS []) s.f (mapD M) = dS (getS s.f M) := mget_D _ _
        have c2 := wSubT (getS s.f M) s.q (by have := hlen s.f e1; omega) (by omega)
        have hn := fin (setS s.f (canon (val (getS s.f M) - val s.q)) M) (by rw [if_neg e1])
        have hst : mset s.f (dS (canon (val (getS s.f M) - val s.q))) (mapD M) = mapD (lefM (l.take (i + 1))) := by rw [mset_D, hn]
        refine pw_seq (pw_region (yB rfl rfl rfl rfl (yQ (pw_seq ?_)))); rw [u1]; refine pw_ct rfl (pw_skip (pw_seq (pw_block (pw_seq (pw_region ?_))))); refine yW ex (by omega) rfl rfl ?_; refine yLs (ys := [_, _, _, _, _, _]) rfl rfl rfl (yZ (cs := [_, _, _, _, _, _]) rfl rfl (yS (cs' := [_, _, _, _, _, _]) rfl rfl rfl rfl rfl (yQ (pw_seq (pw_seq (pw_region (yFb rfl (yLd rfl rfl rfl (yBsn rfl rfl ?_))))))))); refine yQ (q_then ?_); rw [t2]; refine pw_cf rfl (pw_skip (pw_seq (pw_region (yFb rfl (yLd rfl rfl rfl (yBsn rfl rfl (yQ (q_then ?_)))))))); rw [t1]; refine pw_ct rfl ?_; refine pw_draw Tryz.mixed (by kernel_rfl) ?_; refine yMm rfl (yFb rfl (yLd rfl rfl rfl (yMm rfl (yFb rfl (yLd rfl rfl rfl (yKl (hM := hMI) rfl rfl rfl hg (yFb rfl (yLd rfl rfl rfl (yC (c2) rfl rfl ?_))))))))); refine yKu (hM := hMI) rfl rfl rfl rfl hst (yQ (pw_region (yB rfl rfl rfl rfl (yMd rfl (yQ (q_then ?_))))))
        exact ⟨i + 1, h, arith, rfl, ⟨.refl _, .refl _, .refl _, .of_eq (congrArg (fun n => SV.d (dI n)) hw), trivial⟩, ⟨⟨_, rfl, lesC_refl _⟩, trivial⟩, trivial, rfl⟩
    · have t2 : (!s.t == []) = true := by simp [e2]
      have c1 := wAddT (getS s.t M) s.m (by have := hlen s.t e2; omega) (by omega)
      rw [if_neg e2] at fin
      have hlv : (canon (val (getS s.t M) + val s.m)).length ≤ 12002 := addI_len (k := 12000) (hlen s.t e2) (by omega)
      obtain ⟨v, hv⟩ : ∃ v, v = canon (val (getS s.t M) + val s.m) := ⟨_, rfl⟩
      rw [← hv] at c1 fin hlv
      have hst1 : mset s.t (dS v) (mapD M) = mapD (setS s.t v M) := mset_D _ _ _
      by_cases e1 : s.f = []
      · have t1 : (!s.f == []) = false := by simp [e1]
        have hn := fin (setS s.t v M) (by rw [if_pos e1])
        refine pw_seq (pw_region (yB rfl rfl rfl rfl (yQ (pw_seq ?_)))); rw [u1]; refine pw_ct rfl (pw_skip (pw_seq (pw_block (pw_seq (pw_region ?_))))); refine yW ex (by omega) rfl rfl ?_; refine yLs (ys := [_, _, _, _, _, _]) rfl rfl rfl (yZ (cs := [_, _, _, _, _, _]) rfl rfl (yS (cs' := [_, _, _, _, _, _]) rfl rfl rfl rfl rfl (yQ (pw_seq (pw_seq (pw_region (yFb rfl (yLd rfl rfl rfl (yBsn rfl rfl ?_))))))))); refine yQ (q_then ?_); rw [t2]; refine pw_ct rfl ?_; refine pw_draw Tryz.mixed (by kernel_rfl) ?_
        refine yMm rfl (yFb rfl (yLd rfl rfl rfl (yMm rfl (yFb rfl (yLd rfl rfl rfl (yKl (hM := hMI) rfl rfl rfl hg1 (yFb rfl (yLd rfl rfl rfl (yC (c1) rfl rfl ?_))))))))); refine yKu (hM := hMI) rfl rfl rfl rfl hst1 (yQ (pw_seq (pw_region (yFb rfl (yLd rfl rfl rfl (yBsn rfl rfl (yQ (q_then ?_))))))))
        rw [t1]; refine pw_cf rfl ?_; refine pw_skip ?_; refine pw_region ?_; refine yB rfl rfl rfl rfl ?_; refine yMd rfl ?_; refine yQ ?_; refine q_then ?_
        exact ⟨i + 1, h, arith, rfl, ⟨.refl _, .refl _, .refl _, .of_eq (congrArg (fun n => SV.d (dI n)) hw), trivial⟩, ⟨⟨_, rfl, lesC_eq (by rw [hn])⟩, trivial⟩, trivial, rfl⟩
      · have t1 : (!s.f == []) = true := by simp [e1]
        have hg : mget (dS []) s.f (mapD (setS s.t v M)) = dS (getS s.f (setS s.t v M)) := mget_D _ _
        have hl2 : (getS s.f (setS s.t v M)).length ≤ 12002 := by
          rw [getS_set]
          split
          · exact hlv
          · have := hlen s.f e1; omega
        have c2 := wSubT (getS s.f (setS s.t v M)) s.q (by omega) (by omega)
        have hn := fin (setS s.f (canon (val (getS s.f (setS s.t v M)) - val s.q)) (setS s.t v M)) (by rw [if_neg e1])
        have hst : mset s.f (dS (canon (val (getS s.f (setS s.t v M)) - val s.q))) (mapD (setS s.t v M)) = mapD (lefM (l.take (i + 1))) := by rw [mset_D, hn]
        refine pw_seq (pw_region (yB rfl rfl rfl rfl (yQ (pw_seq ?_)))); rw [u1]; refine pw_ct rfl (pw_skip (pw_seq (pw_block (pw_seq (pw_region ?_))))); refine yW ex (by omega) rfl rfl ?_; refine yLs (ys := [_, _, _, _, _, _]) rfl rfl rfl (yZ (cs := [_, _, _, _, _, _]) rfl rfl (yS (cs' := [_, _, _, _, _, _]) rfl rfl rfl rfl rfl (yQ (pw_seq (pw_seq (pw_region (yFb rfl (yLd rfl rfl rfl (yBsn rfl rfl ?_))))))))); refine yQ (q_then ?_); rw [t2]; refine pw_ct rfl ?_; refine pw_draw Tryz.mixed (by kernel_rfl) ?_
        refine yMm rfl (yFb rfl (yLd rfl rfl rfl (yMm rfl (yFb rfl (yLd rfl rfl rfl (yKl (hM := hMI) rfl rfl rfl hg1 (yFb rfl (yLd rfl rfl rfl (yC (c1) rfl rfl ?_))))))))); refine yKu (hM := hMI) rfl rfl rfl rfl hst1 (yQ (pw_seq (pw_region (yFb rfl (yLd rfl rfl rfl (yBsn rfl rfl (yQ (q_then ?_))))))))
        rw [t1]; refine pw_ct rfl ?_; refine pw_draw Tryz.mixed (by kernel_rfl) ?_; refine yMm rfl ?_; refine yFb rfl ?_; refine yLd rfl rfl rfl ?_; refine yMm rfl ?_; refine yFb rfl ?_; refine yLd rfl rfl rfl ?_
        refine yKl (hM := hMI) rfl rfl rfl hg (yFb rfl (yLd rfl rfl rfl (yC (c2) rfl rfl (yKu (hM := hMI) rfl rfl rfl rfl hst (yQ (pw_region (yB rfl rfl rfl rfl (yMd rfl (yQ ?_))))))))); refine q_then ?_
        exact ⟨i + 1, h, arith, rfl, ⟨.refl _, .refl _, .refl _, .of_eq (congrArg (fun n => SV.d (dI n)) hw), trivial⟩, ⟨⟨_, rfl, lesC_refl _⟩, trivial⟩, trivial, rfl⟩
  · have u1 : decide ((i : Int) < (l.length : Int)) = false := decide_eq_false (by omega)
    rw [List.take_of_length_le h]
    have hI := lefI l
    have hks : skeys (mapD (lefM l)) = uniS (lotL l) := by
      have e : (mapD (lefM l)).map (·.1) = (lefM l).map (·.1) := by simp [mapD]
      rw [skeys, e]
      exact (sort_uni hI.nd).trans (uniS_congr hI.mem)
    have hml : (mapD (lefM l)).length ≤ 10000 := by
      rw [mapD, List.length_map]
      have h1 := nodup_sub hI.nd fun x hx => (hI.mem x).1 hx
      rw [List.length_map] at h1
      have := lotL_len l
      omega
    have hmk : ∀ p ∈ mapD (lefM l), p.1.length ≤ 1000000 := fun p hp => by
      obtain ⟨q, hq, rfl⟩ := List.mem_map.1 hp
      obtain ⟨-, s, h1, h2⟩ := mem_lotL.1 ((hI.mem q.1).1 (List.mem_map.2 ⟨q, hq, rfl⟩))
      have h3 := hb.2 s h1
      rcases h2 with h2 | h2
      · show q.1.length ≤ 1000000; rw [← h2]; have := h3.2.1; omega
      · show q.1.length ≤ 1000000; rw [← h2]; have := h3.2.2.1; omega
    have hkl := lotU_len l
    have hkn : ∀ x ∈ uniS (lotL l), x ≠ [] := fun x hx => (mem_lotL.1 (uniS_mem.1 hx)).1
    have hval : ∀ x, x ≠ [] → getS x (lefM l) = canon (net l x) := hI.val
    have hP : lefP l = lefK l (uniS (lotL l)) := rfl
    rw [hP] at hr4
    unfold shoB at hr3
    obtain ⟨ks, hk⟩ : ∃ ks, ks = uniS (lotL l) := ⟨_, rfl⟩
    rw [← hk] at hks hkl hkn hr3 hr4
    obtain ⟨M, hM⟩ : ∃ M, M = lefM l := ⟨_, rfl⟩
    rw [← hM] at hks hml hmk hval ⊢
    refine pw_seq (pw_region (yB rfl rfl rfl rfl (yQ (pw_seq ?_)))); rw [u1]; refine pw_cf rfl (pw_exit (pw_seq (pw_region (yAd rfl (yQ ?_))))); refine pw_tok 7 pT 2 rfl rfl rfl ?_; refine pw_seq (pw_seq (pw_region (yMm rfl (yKk keysCI rfl rfl ?_)))); refine yKs sortedCI Tryz.underlying9 rfl rfl rfl (by omega) hmk hks ?_; refine yN rfl (yMd rfl (yQ (pw_block ?_))); refine pw_loop (fun j : Nat => ⟨73, [(4, .mb 500014), (7, .ts pT 2 ((lefK l (ks.take j)).map dPk)), (50, .d (dStrs ks)), (51, .d (dI ks.length)), (52, .d (dI j))], [(500014, [.mc (kmap (mapD M))])], [(pT, (lefK l (ks.take j)).length)]⟩) (fun j => j ≤ ks.length ∧ ∀ q x, q < j → ks[q]? = some x → ¬ net l x < 0) (fun j => ks.length - j) 0 ⟨Nat.zero_le _, fun q x hq => absurd hq (Nat.not_lt_zero _)⟩ ⟨rfl, ⟨.refl _, .refl _, .refl _, .of_eq (congrArg (fun n : Nat => SV.d (dI n)) (by simp)), .refl _, trivial⟩, ⟨⟨_, rfl, lesC_refl _⟩, trivial⟩, ⟨rfl, trivial⟩, rfl⟩ ?_
    rintro j ⟨hj, hj0⟩
    rcases Nat.lt_or_ge j ks.length with h2 | h2
    · have u2 : decide ((j : Int) < (ks.length : Int)) = true := decide_eq_true (by omega)
      obtain ⟨x, hx⟩ : ∃ a, ks[j]? = some a := ⟨_, List.getElem?_eq_getElem h2⟩
      have hxm := List.mem_of_getElem? hx
      have ex := ix (fun s => [dS s]) ks j j x rfl hx
      have hw := wrapI ((j : Int) + 1) (by omega)
      have hnl := net_len hb x
      have hg : mget (dS []) x (mapD M) = dS (canon (net l x)) := by rw [mget_D, hval x (hkn x hxm)]
      have c2 := wCmp0 (canon (net l x)) (by omega)
      rw [sgn_canon] at c2
      have hnx := lefK_next (l := l) hx
      have hzl := lefK_len l (ks.take j)
      rw [List.length_take] at hzl
      obtain ⟨zs, hzs⟩ : ∃ zs, zs = lefK l (ks.take j) := ⟨_, rfl⟩
      rw [← hzs] at hnx hzl ⊢
      have arith : ks.length - (j + 1) < ks.length - j := by omega
      have keep : ¬ net l x < 0 → ∀ q y, q < j + 1 → ks[q]? = some y → ¬ net l y < 0 := fun hn q y hq hy => by
        rcases Nat.lt_or_ge q j with h1 | h1
        · exact hj0 q y h1 hy
        · obtain rfl : q = j := by omega
          rw [hx] at hy; cases hy; exact hn
      by_cases n1 : net l x < 0
      · rw [if_pos n1] at c2
        have hany : (ks.any fun x => decide (net l x < 0)) = true := List.any_eq_true.2 ⟨x, hxm, decide_eq_true n1⟩
        rw [hany, if_pos rfl] at hr3
        rw [hr3, if_neg (by omega)] at hr4
        subst hr3 hr4
        refine pw_seq (pw_region (yB rfl rfl rfl rfl (yQ (pw_seq ?_)))); rw [u2]; refine pw_ct rfl (pw_skip (pw_seq (pw_block (pw_seq (pw_region ?_))))); refine yW ex (by omega) rfl rfl ?_; refine yLr rfl rfl (yAd rfl (yQ (pw_seq (pw_region (yMm rfl (yMd rfl (yKl (hM := hMI) rfl rfl rfl hg (yAd rfl (yQ ?_))))))))); refine pw_seq (pw_region (yMd rfl (yC (c2) rfl rfl (yQ (pw_block (pw_seq (pw_region (yB rfl rfl rfl rfl (yAd rfl ?_))))))))); refine yQ (pw_ct rfl (pw_seq (pw_region (yAd rfl (yAd rfl (yQ (pw_ret (q_blk_ret (q_blk_ret ?_))))))))); refine q_then_ret (q_then_ret (q_blk_ret (q_then_ret ?_)))
        exact q_ret _ (.tnil 2 rfl (.tmp rfl .nil)) rfl
      · rw [if_neg n1] at c2
        by_cases n2 : 0 < net l x
        · rw [if_pos n2] at c2
          rw [if_pos (by omega)] at hnx
          have hb1 : ((zs.map dPk).length + [dPk (x, canon (net l x))].length) * 32 ≤ 140737488351232 := by simp; omega
          have hb2 : (zs.map dPk).length + [dPk (x, canon (net l x))].length ≤ 140737488351232 := by simp; omega
          refine pw_seq (pw_region (yB rfl rfl rfl rfl (yQ (pw_seq ?_)))); rw [u2]; refine pw_ct rfl (pw_skip (pw_seq (pw_block (pw_seq (pw_region ?_))))); refine yW ex (by omega) rfl rfl ?_; refine yLr rfl rfl (yAd rfl (yQ (pw_seq (pw_region (yMm rfl (yMd rfl (yKl (hM := hMI) rfl rfl rfl hg (yAd rfl (yQ ?_))))))))); refine pw_seq (pw_region (yMd rfl (yC (c2) rfl rfl (yQ (pw_block (pw_seq (pw_region (yB rfl rfl rfl rfl (yAd rfl ?_))))))))); refine yQ (pw_cf rfl (pw_seq (pw_region (yB rfl rfl rfl rfl (yAd rfl (yQ (pw_ct rfl (pw_region (yMt rfl ?_))))))))); refine yMd rfl (yMd rfl (yG (ys := [_, _]) rfl rfl ?_)); refine yR (es := [[_, _]]) rfl rfl rfl rfl rfl ?_; refine yT (es2 := [dPk (x, canon (net l x))]) hb1 hb2 rfl rfl (by simp) rfl rfl rfl rfl ?_; refine yAt rfl (yQ (pw_region (yB rfl rfl rfl rfl (yMd rfl (yQ (q_then ?_))))))
          exact ⟨j + 1, ⟨h2, keep n1⟩, arith, rfl, ⟨.refl _, .of_eq (by rw [hnx, List.map_append]; rfl), .refl _, .refl _, .of_eq (congrArg (fun n => SV.d (dI n)) hw), trivial⟩, ⟨⟨_, rfl, lesC_refl _⟩, trivial⟩, ⟨(by rw [hnx]; show some ((zs.map dPk).length + [dPk (x, canon (net l x))].length) = _; simp), trivial⟩, rfl⟩
        · rw [if_neg n2] at c2
          rw [if_neg (by omega)] at hnx
          refine pw_seq (pw_region (yB rfl rfl rfl rfl (yQ (pw_seq ?_)))); rw [u2]; refine pw_ct rfl (pw_skip (pw_seq (pw_block (pw_seq (pw_region ?_))))); refine yW ex (by omega) rfl rfl ?_; refine yLr rfl rfl (yAd rfl (yQ (pw_seq (pw_region (yMm rfl (yMd rfl (yKl (hM := hMI) rfl rfl rfl hg (yAd rfl (yQ ?_))))))))); refine pw_seq (pw_region (yMd rfl (yC (c2) rfl rfl (yQ (pw_block (pw_seq (pw_region (yB rfl rfl rfl rfl (yAd rfl ?_))))))))); refine yQ (pw_cf rfl (pw_seq (pw_region (yB rfl rfl rfl rfl (yAd rfl (yQ (pw_cf rfl (pw_skip (pw_region ?_))))))))); refine yB rfl rfl rfl rfl (yMd rfl (yQ (q_then ?_)))
          exact ⟨j + 1, ⟨h2, keep n1⟩, arith, rfl, ⟨.refl _, .of_eq (by rw [hnx]; rfl), .refl _, .refl _, .of_eq (congrArg (fun n => SV.d (dI n)) hw), trivial⟩, ⟨⟨_, rfl, lesC_refl _⟩, trivial⟩, ⟨(by rw [hnx]; rfl), trivial⟩, rfl⟩
    · have u2 : decide ((j : Int) < (ks.length : Int)) = false := decide_eq_false (by omega)
      rw [List.take_of_length_le h2]
      have hany : (ks.any fun x => decide (net l x < 0)) = false := by
        rw [← Bool.not_eq_true, List.any_eq_true]
        rintro ⟨x, hx, hn⟩
        obtain ⟨q, hq⟩ := List.mem_iff_getElem?.1 hx
        exact hj0 q x (by have := (List.getElem?_eq_some_iff.1 hq).1; omega) hq (by simpa using hn)
      rw [hany, if_neg (by simp)] at hr3
      rw [hr3, if_pos rfl] at hr4
      subst hr3 hr4
      refine pw_seq (pw_region (yB rfl rfl rfl rfl (yQ (pw_seq ?_)))); rw [u2]; refine pw_cf rfl (pw_exit (pw_seq (pw_region (yMt rfl (yAt rfl (yAd rfl (yQ (pw_ret ?_))))))))
      exact q_ret _ (.tmp rfl (.tmp rfl .nil)) rfl
end Go.Proofs.YtkfoogabijnamaaGreatDoor
namespace Go.Proofs.YtkfoogabijnamaaGreatDoor
open Go.RowKit Px

abbrev qT : Nat := 40 * 100000 + 5
theorem canon_ne (N : Int) : (!canon N == []) = decide (N ≠ 0) := by
  by_cases h : N = 0
  · subst h; rw [canon_zero]; rfl
  · have : canon N ≠ [] := fun e => h (by have := val_canon N; rw [e] at this; rw [← this]; rfl)
    rw [decide_eq_true h]
    simpa using this
set_option maxRecDepth 20000 in
set_option maxHeartbeats 8000000 in
theorem wRLeft (l : List Stp) (hb : bdL 1000 l) : PCalls Tryz.prog 27 [dSl l] (.tup [dPks (lefR l), dI (lefE l)]) := by
  have c0 := wRChk l hb
  have hl := hb.1
  by_cases h0 : chkE l = 0
  rotate_left
  · have e1 : lefE l = 1 := by rw [lefE, if_neg h0]
    rw [lefR, e1, if_neg (by omega)]
    have t1 : (chkE l != 0) = true := by simpa using h0
    refine pcalls_of_pw Tryz.func27 rfl Tryz.ntmps27 Tryz.results27 (by simp) fun B w0 => ?_
    refine pw_seq (pw_region (yAd rfl (yAd rfl (yQ (pw_seq (pw_seq (pw_region (yMd rfl (yC (c0) rfl rfl ?_))))))))); refine yB rfl rfl rfl rfl (yQ (q_then ?_)); rw [t1]; refine pw_ct rfl (pw_seq (pw_region ?_)); refine yR (es := []) rfl rfl rfl rfl rfl ?_; refine yAd rfl (yAd rfl (yQ (pw_ret (q_then_ret ?_))))
    exact q_ret _ (.tmp rfl (.tmp rfl .nil)) rfl
  rw [h0] at c0
  have c9 := wRLots l (by omega)
  have hkl := lotU_len l
  have hkn : ∀ x ∈ uniS (lotL l), x ≠ [] := fun x hx => (mem_lotL.1 (uniS_mem.1 hx)).1
  obtain ⟨r1, hr1⟩ : ∃ r, r = lefR l := ⟨_, rfl⟩
  obtain ⟨r2, hr2⟩ : ∃ r, r = lefE l := ⟨_, rfl⟩
  rw [← hr1, ← hr2]
  have hr3 : r2 = if shoB l then 15 else 0 := by rw [hr2, lefE, if_pos h0]
  have hr4 : r1 = if r2 = 0 then lefP l else [] := by rw [hr1, hr2, lefR]
  clear hr1 hr2
  have hP : lefP l = lefK l (uniS (lotL l)) := rfl
  rw [hP] at hr4
  unfold shoB at hr3
  obtain ⟨ks, hk⟩ : ∃ ks, ks = uniS (lotL l) := ⟨_, rfl⟩
  rw [← hk] at c9 hkl hkn hr3 hr4
  refine pcalls_of_pw Tryz.func27 rfl Tryz.ntmps27 Tryz.results27 (by simp) fun B w0 => ?_
  refine pw_seq (pw_region (yAd rfl (yAd rfl (yQ (pw_seq (pw_seq (pw_region (yMd rfl (yC (c0) rfl rfl ?_))))))))); refine yB rfl rfl rfl rfl (yQ (pw_cf rfl (pw_skip (pw_seq (pw_region (yMd rfl (yC (c9) rfl rfl (yAd rfl (yQ ?_))))))))); refine pw_seq (pw_region (yRt (E := 40) (t := qT) (es := []) rfl rfl rfl rfl rfl rfl rfl rfl (yAt rfl (yQ (pw_seq (pw_seq (pw_region (yAd rfl (yQ ?_))))))))); refine pw_block ?_; refine pw_loop (fun j : Nat => ⟨78, [(0, .d (dSl l)), (4, .d (dStrs ks)), (5, .ts qT 2 ((lefK l (ks.take j)).map dPk)), (6, .d (dI j))], [], [(qT, (lefK l (ks.take j)).length)]⟩) (fun j => j ≤ ks.length ∧ ∀ q x, q < j → ks[q]? = some x → ¬ net l x < 0) (fun j => ks.length - j) 0 ⟨Nat.zero_le _, fun q x hq => absurd hq (Nat.not_lt_zero _)⟩ ⟨rfl, ⟨.refl _, .refl _, .refl _, .refl _, trivial⟩, trivial, ⟨rfl, trivial⟩, rfl⟩ ?_
  rintro j ⟨hj, hj0⟩
  rcases Nat.lt_or_ge j ks.length with h2 | h2
  · have u2 : decide ((j : Int) < ((ks.map fun s => [dS s]).length : Int)) = true := decide_eq_true (by rw [List.length_map]; omega)
    obtain ⟨x, hx⟩ : ∃ a, ks[j]? = some a := ⟨_, List.getElem?_eq_getElem h2⟩
    have hxm := List.mem_of_getElem? hx
    have ey := ix (fun s => [dS s]) ks j j x rfl hx
    have hw := wrapI ((j : Int) + 1) (by omega)
    have hnl := net_len hb x
    have c2 := wRSign (canon (net l x)) (by omega)
    rw [sgn_canon] at c2
    have t9 := canon_ne (net l x)
    have hnx := lefK_next (l := l) hx
    have hzl := lefK_len l (ks.take j)
    rw [List.length_take] at hzl
    obtain ⟨zs, hzs⟩ : ∃ zs, zs = lefK l (ks.take j) := ⟨_, rfl⟩
    rw [← hzs] at hnx hzl ⊢
    have arith : ks.length - (j + 1) < ks.length - j := by omega
    have keep : ¬ net l x < 0 → ∀ q y, q < j + 1 → ks[q]? = some y → ¬ net l y < 0 := fun hn q y hq hy => by
      rcases Nat.lt_or_ge q j with h1 | h1
      · exact hj0 q y h1 hy
      · obtain rfl : q = j := by omega
        rw [hx] at hy; cases hy; exact hn
    refine pw_seq (pw_seq (pw_region (yMd rfl (yMd rfl (yN rfl (yB rfl rfl rfl rfl (yQ (q_then ?_)))))))); rw [u2]; refine pw_ct rfl (pw_skip (pw_seq (pw_block (pw_seq (pw_region (yAd rfl (yQ (pw_seq (pw_seq ?_))))))))); refine pw_region (yAd rfl (yQ (pw_block ?_))); refine pw_loop (fun i : Nat => ⟨78, [(0, .d (dSl l)), (4, .d (dStrs ks)), (5, .ts qT 2 (zs.map dPk)), (6, .d (dI j)), (7, .d (dS (canon (sumF (neF x) (l.take i))))), (8, .d (dI i))], [], [(qT, zs.length)]⟩) (fun i => i ≤ l.length) (fun i => l.length - i) 0 (Nat.zero_le _) ⟨rfl, ⟨.refl _, .refl _, .refl _, .refl _, .of_eq (congrArg (fun n => SV.d (dS n)) canon_zero.symm), .refl _, trivial⟩, trivial, ⟨rfl, trivial⟩, rfl⟩ ?_
    intro i hi
    rcases Nat.lt_or_ge i l.length with h | h
    · have u1 : decide ((i : Int) < ((l.map dSp).length : Int)) = true := by simpa using h
      obtain ⟨s, hs⟩ : ∃ a, l[i]? = some a := ⟨_, List.getElem?_eq_getElem h⟩
      have hsm := List.mem_of_getElem? hs
      have ex := ix dSp l i i s rfl hs
      have hw := wrapI ((i : Int) + 1) (by omega)
      have n1 := sumF_next (g := neF x) hs
      have l1 := sumF_len (neF_le (id := x) hb.2) i
      obtain ⟨X, hX⟩ : ∃ X, X = sumF (neF x) (l.take i) := ⟨_, rfl⟩
      rw [← hX] at n1 l1 ⊢
      have hbq := (hb.2 s hsm).2.2.2.1
      have hbm := (hb.2 s hsm).2.2.2.2.1
      have arith2 : l.length - (i + 1) < l.length - i := by omega
      by_cases e1 : s.t = x
      · have a1 : (s.t == x) = true := by simp [e1]
        have c3 := wRAddG (canon X) s.m (by omega) (by omega)
        rw [val_canon] at c3
        by_cases e2 : s.f = x
        · have a2 : (s.f == x) = true := by simp [e2]
          have hl3 : (canon (X + val s.m)).length ≤ 13000 := by
            have := addI_len (a := canon X) (b := s.m) (k := 12000) (by omega) (by omega)
            rw [addI, val_canon] at this
            omega
          have c4 := wRSubG (canon (X + val s.m)) s.q (by omega) (by omega)
          rw [val_canon] at c4
          have n1 : sumF (neF x) (l.take (i + 1)) = X + val s.m - val s.q := by rw [n1, neF, if_pos e1, if_pos e2]; omega
          rw [← n1] at c4
          refine pw_seq (pw_seq (pw_region (yMd rfl (yMd rfl (yN rfl (yB rfl rfl rfl rfl (yQ (q_then ?_)))))))); rw [u1]; refine pw_ct rfl (pw_skip (pw_seq (pw_block (pw_seq (pw_seq ?_))))); refine pw_draw Tryz.mixed (by kernel_rfl) ?_; refine yMd rfl (yMd rfl ?_); refine yW ex (by omega) rfl rfl ?_; refine yFr rfl rfl (yLr rfl rfl (yMd rfl (yMd rfl ?_))); refine yW ey (by omega) rfl rfl ?_; refine yLr rfl rfl (yBse rfl rfl (yQ (q_then ?_))); rw [a1]; refine pw_ct rfl (pw_region (yMd rfl (yMd rfl (yMd rfl ?_)))); refine yW ex (by omega) rfl rfl ?_; refine yFr rfl rfl (yLr rfl rfl (yC (c3) rfl rfl (yAd rfl (yQ (pw_seq ?_))))); refine pw_draw Tryz.mixed (by kernel_rfl) ?_; refine yMd rfl (yMd rfl ?_); refine yW ex (by omega) rfl rfl ?_; refine yFr rfl rfl (yLr rfl rfl (yMd rfl (yMd rfl ?_))); refine yW ey (by omega) rfl rfl ?_; refine yLr rfl rfl (yBse rfl rfl (yQ (q_then ?_))); rw [a2]; refine pw_ct rfl (pw_region (yMd rfl (yMd rfl (yMd rfl ?_)))); refine yW ex (by omega) rfl rfl ?_; refine yFr rfl rfl (yLr rfl rfl (yC (c4) rfl rfl (yAd rfl (yQ (pw_region (yMd rfl (yB rfl rfl rfl rfl (yAd rfl (yQ ?_))))))))); refine q_then ?_
          exact ⟨i + 1, h, arith2, rfl, ⟨.refl _, .refl _, .refl _, .refl _, .refl _, .of_eq (congrArg (fun n => SV.d (dI n)) hw), trivial⟩, trivial, ⟨rfl, trivial⟩, rfl⟩
        · have a2 : (s.f == x) = false := by simpa using e2
          have n1 : sumF (neF x) (l.take (i + 1)) = X + val s.m := by rw [n1, neF, if_pos e1, if_neg e2]; omega
          rw [← n1] at c3
          refine pw_seq (pw_seq (pw_region (yMd rfl (yMd rfl (yN rfl (yB rfl rfl rfl rfl (yQ (q_then ?_)))))))); rw [u1]; refine pw_ct rfl (pw_skip (pw_seq (pw_block (pw_seq (pw_seq ?_))))); refine pw_draw Tryz.mixed (by kernel_rfl) ?_; refine yMd rfl (yMd rfl ?_); refine yW ex (by omega) rfl rfl ?_; refine yFr rfl rfl (yLr rfl rfl (yMd rfl (yMd rfl ?_))); refine yW ey (by omega) rfl rfl ?_; refine yLr rfl rfl (yBse rfl rfl (yQ (q_then ?_))); rw [a1]; refine pw_ct rfl (pw_region (yMd rfl (yMd rfl (yMd rfl ?_)))); refine yW ex (by omega) rfl rfl ?_; refine yFr rfl rfl (yLr rfl rfl (yC (c3) rfl rfl (yAd rfl (yQ (pw_seq ?_))))); refine pw_draw Tryz.mixed (by kernel_rfl) ?_; refine yMd rfl (yMd rfl ?_); refine yW ex (by omega) rfl rfl ?_; refine yFr rfl rfl (yLr rfl rfl (yMd rfl (yMd rfl ?_))); refine yW ey (by omega) rfl rfl ?_; refine yLr rfl rfl (yBse rfl rfl (yQ (q_then ?_))); rw [a2]; refine pw_cf rfl (pw_skip (pw_region (yMd rfl (yB rfl rfl rfl rfl (yAd rfl (yQ (q_then ?_)))))))
          exact ⟨i + 1, h, arith2, rfl, ⟨.refl _, .refl _, .refl _, .refl _, .refl _, .of_eq (congrArg (fun n => SV.d (dI n)) hw), trivial⟩, trivial, ⟨rfl, trivial⟩, rfl⟩
      · have a1 : (s.t == x) = false := by simpa using e1
        by_cases e2 : s.f = x
        · have a2 : (s.f == x) = true := by simp [e2]
          have c4 := wRSubG (canon X) s.q (by omega) (by omega)
          rw [val_canon] at c4
          have n1 : sumF (neF x) (l.take (i + 1)) = X - val s.q := by rw [n1, neF, if_neg e1, if_pos e2]; omega
          rw [← n1] at c4
          refine pw_seq (pw_seq (pw_region (yMd rfl (yMd rfl (yN rfl (yB rfl rfl rfl rfl (yQ (q_then ?_)))))))); rw [u1]; refine pw_ct rfl (pw_skip (pw_seq (pw_block (pw_seq (pw_seq ?_))))); refine pw_draw Tryz.mixed (by kernel_rfl) ?_; refine yMd rfl (yMd rfl ?_); refine yW ex (by omega) rfl rfl ?_; refine yFr rfl rfl (yLr rfl rfl (yMd rfl (yMd rfl ?_))); refine yW ey (by omega) rfl rfl ?_; refine yLr rfl rfl (yBse rfl rfl (yQ (q_then ?_))); rw [a1]; refine pw_cf rfl (pw_skip (pw_seq ?_)); refine pw_draw Tryz.mixed (by kernel_rfl) ?_; refine yMd rfl (yMd rfl ?_); refine yW ex (by omega) rfl rfl ?_; refine yFr rfl rfl (yLr rfl rfl (yMd rfl (yMd rfl ?_))); refine yW ey (by omega) rfl rfl ?_; refine yLr rfl rfl (yBse rfl rfl (yQ (q_then ?_))); rw [a2]; refine pw_ct rfl (pw_region (yMd rfl (yMd rfl (yMd rfl ?_)))); refine yW ex (by omega) rfl rfl ?_; refine yFr rfl rfl (yLr rfl rfl (yC (c4) rfl rfl (yAd rfl (yQ (pw_region (yMd rfl (yB rfl rfl rfl rfl (yAd rfl (yQ ?_))))))))); refine q_then ?_
          exact ⟨i + 1, h, arith2, rfl, ⟨.refl _, .refl _, .refl _, .refl _, .refl _, .of_eq (congrArg (fun n => SV.d (dI n)) hw), trivial⟩, trivial, ⟨rfl, trivial⟩, rfl⟩
        · have a2 : (s.f == x) = false := by simpa using e2
          have n1 : sumF (neF x) (l.take (i + 1)) = X := by rw [n1, neF, if_neg e1, if_neg e2]; omega
          refine pw_seq (pw_seq (pw_region (yMd rfl (yMd rfl (yN rfl (yB rfl rfl rfl rfl (yQ (q_then ?_)))))))); rw [u1]; refine pw_ct rfl (pw_skip (pw_seq (pw_block (pw_seq (pw_seq ?_))))); refine pw_draw Tryz.mixed (by kernel_rfl) ?_; refine yMd rfl (yMd rfl ?_); refine yW ex (by omega) rfl rfl ?_; refine yFr rfl rfl (yLr rfl rfl (yMd rfl (yMd rfl ?_))); refine yW ey (by omega) rfl rfl ?_; refine yLr rfl rfl (yBse rfl rfl (yQ (q_then ?_))); rw [a1]; refine pw_cf rfl (pw_skip (pw_seq ?_)); refine pw_draw Tryz.mixed (by kernel_rfl) ?_; refine yMd rfl (yMd rfl ?_); refine yW ex (by omega) rfl rfl ?_; refine yFr rfl rfl (yLr rfl rfl (yMd rfl (yMd rfl ?_))); refine yW ey (by omega) rfl rfl ?_; refine yLr rfl rfl (yBse rfl rfl (yQ (q_then ?_))); rw [a2]; refine pw_cf rfl (pw_skip (pw_region (yMd rfl (yB rfl rfl rfl rfl (yAd rfl (yQ (q_then ?_)))))))
          exact ⟨i + 1, h, arith2, rfl, ⟨.refl _, .refl _, .refl _, .refl _, .of_eq (by rw [n1]; rfl), .of_eq (congrArg (fun n => SV.d (dI n)) hw), trivial⟩, trivial, ⟨rfl, trivial⟩, rfl⟩
    · have u1 : decide ((i : Int) < ((l.map dSp).length : Int)) = false := by simp; omega
      rw [List.take_of_length_le h, show sumF (neF x) l = net l x from rfl]
      by_cases n1 : net l x < 0
      · rw [if_pos n1] at c2
        have hany : (ks.any fun x => decide (net l x < 0)) = true := List.any_eq_true.2 ⟨x, hxm, decide_eq_true n1⟩
        rw [hany, if_pos rfl] at hr3
        rw [hr3, if_neg (by omega)] at hr4
        subst hr3 hr4
        refine pw_seq (pw_seq (pw_region (yMd rfl (yMd rfl (yN rfl (yB rfl rfl rfl rfl (yQ (q_then ?_)))))))); rw [u1]; refine pw_cf rfl (pw_exit (pw_seq (pw_seq (pw_region (yMd rfl (yC (c2) rfl rfl (yB rfl rfl rfl rfl (yQ (pw_ct rfl ?_))))))))); refine pw_seq (pw_region ?_); refine yR (es := []) rfl rfl rfl rfl rfl ?_; refine yAd rfl (yAd rfl (yQ (pw_ret (q_then_ret (q_blk_ret (q_then_ret (q_then_ret (q_blk_ret (q_then_ret ?_)))))))))
        exact q_ret _ (.tmp rfl (.tmp rfl .nil)) rfl
      · rw [if_neg n1] at c2
        by_cases n2 : 0 < net l x
        · rw [if_pos n2] at c2
          rw [if_pos (by omega)] at hnx
          rw [decide_eq_true (by omega)] at t9
          have hb1 : ((zs.map dPk).length + [dPk (x, canon (net l x))].length) * 32 ≤ 140737488351232 := by simp; omega
          have hb2 : (zs.map dPk).length + [dPk (x, canon (net l x))].length ≤ 140737488351232 := by simp; omega
          refine pw_seq (pw_seq (pw_region (yMd rfl (yMd rfl (yN rfl (yB rfl rfl rfl rfl (yQ (q_then ?_)))))))); rw [u1]; refine pw_cf rfl (pw_exit (pw_seq (pw_seq (pw_region (yMd rfl (yC (c2) rfl rfl (yB rfl rfl rfl rfl (yQ (pw_cf rfl ?_))))))))); refine pw_skip (pw_seq (pw_region (yMd rfl (yBsn rfl rfl (yQ (q_then ?_)))))); rw [t9]; refine pw_ct rfl (pw_region (yMt rfl (yMd rfl (yMd rfl ?_)))); refine yW ey (by omega) rfl rfl ?_
          refine yLr rfl rfl (yMd rfl (yG (ys := [_, _]) rfl rfl ?_)); refine yR (es := [[_, _]]) rfl rfl rfl rfl rfl ?_; refine yT (es2 := [dPk (x, canon (net l x))]) hb1 hb2 rfl rfl (by simp) rfl rfl rfl rfl ?_
          refine yAt rfl (yQ (pw_region (yMd rfl (yB rfl rfl rfl rfl (yAd rfl (yQ (q_then ?_)))))))
          exact ⟨j + 1, ⟨h2, keep n1⟩, arith, rfl, ⟨.refl _, .refl _, .of_eq (by rw [hnx, List.map_append]; rfl), .of_eq (congrArg (fun n => SV.d (dI n)) hw), trivial⟩, trivial, ⟨(by rw [hnx]; show some ((zs.map dPk).length + [dPk (x, canon (net l x))].length) = _; simp), trivial⟩, rfl⟩
        · rw [if_neg n2] at c2
          rw [if_neg (by omega)] at hnx
          rw [decide_eq_false (by omega)] at t9
          refine pw_seq (pw_seq (pw_region (yMd rfl (yMd rfl (yN rfl (yB rfl rfl rfl rfl (yQ (q_then ?_)))))))); rw [u1]; refine pw_cf rfl (pw_exit (pw_seq (pw_seq (pw_region (yMd rfl (yC (c2) rfl rfl (yB rfl rfl rfl rfl (yQ (pw_cf rfl ?_))))))))); refine pw_skip (pw_seq (pw_region (yMd rfl (yBsn rfl rfl (yQ (q_then ?_)))))); rw [t9]; refine pw_cf rfl (pw_skip (pw_region (yMd rfl (yB rfl rfl rfl rfl (yAd rfl (yQ (q_then ?_)))))))
          exact ⟨j + 1, ⟨h2, keep n1⟩, arith, rfl, ⟨.refl _, .refl _, .of_eq (by rw [hnx]; rfl), .of_eq (congrArg (fun n => SV.d (dI n)) hw), trivial⟩, trivial, ⟨(by rw [hnx]; rfl), trivial⟩, rfl⟩
  · have u2 : decide ((j : Int) < ((ks.map fun s => [dS s]).length : Int)) = false := decide_eq_false (by rw [List.length_map]; omega)
    rw [List.take_of_length_le h2]
    have hany : (ks.any fun x => decide (net l x < 0)) = false := by
      rw [← Bool.not_eq_true, List.any_eq_true]
      rintro ⟨x, hx, hn⟩
      obtain ⟨q, hq⟩ := List.mem_iff_getElem?.1 hx
      exact hj0 q x (by have := (List.getElem?_eq_some_iff.1 hq).1; omega) hq (by simpa using hn)
    rw [hany, if_neg (by simp)] at hr3
    rw [hr3, if_pos rfl] at hr4
    subst hr3 hr4
    refine pw_seq (pw_seq (pw_region (yMd rfl (yMd rfl (yN rfl (yB rfl rfl rfl rfl (yQ (q_then ?_)))))))); rw [u2]; refine pw_cf rfl (pw_exit (pw_seq (pw_region (yMt rfl (yAt rfl (yAd rfl (yQ (pw_ret ?_))))))))
    exact q_ret _ (.tmp rfl (.tmp rfl .nil)) rfl
end Go.Proofs.YtkfoogabijnamaaGreatDoor
namespace Go.Proofs.YtkfoogabijnamaaGreatDoor
open Go.RowKit Px

theorem pcalls_sl {P : Program} {f : FuncId} {k : Nat} {es : List (List DV)} {rest : List DV} {r : SV} (h : es.length ≤ 9223372036854775807 → PCalls P f (.sl k es :: rest) r) : PCalls P f (.sl k es :: rest) r := fun F w vals hl hr hg => by
  refine h ?_ F w vals hl hr hg
  cases vals with
  | nil => simp at hl
  | cons v vals =>
    have h1 := hr 0 v _ rfl rfl
    obtain ⟨A, c, news, -, -, hm, -⟩ := DRep.row h1
    exact hm
theorem wRGr (a : Str) : PCalls Tryz.prog 46 [dS a] (.d (dB (decide (60 < a.length)))) := by
  have t1 : decide ((a.length : Int) > 60) = decide (60 < a.length) := by rw [Bool.eq_iff_iff]; simp; omega
  refine pcalls_of_pw Tryz.func46 rfl Tryz.ntmps46 Tryz.results46 (by simp) fun B w0 => ?_
  refine pw_seq (pw_region (yAd rfl (yQ (pw_seq (pw_region (yMd rfl (yNs rfl (yB rfl rfl rfl rfl (yAd rfl ?_))))))))); refine yQ (pw_ret ?_)
  rw [t1]
  exact q_ret _ (.tmp rfl .nil) rfl
set_option maxRecDepth 20000 in
set_option maxHeartbeats 8000000 in
theorem wBigL (l : List Stp) : PCalls Tryz.prog 11 [dSl l] (.d (dB (bigL l))) := by
  refine pcalls_sl fun hl => ?_
  rw [List.length_map] at hl
  obtain ⟨r, hr⟩ : ∃ r, r = bigL l := ⟨_, rfl⟩
  rw [← hr]
  rw [bigL] at hr
  refine pcalls_of_pw Tryz.func11 rfl Tryz.ntmps11 Tryz.results11 (by simp) fun B w0 => ?_
  refine pw_seq (pw_region (yAd rfl (yQ (pw_seq (pw_seq (pw_region (yAd rfl (yQ (pw_block ?_))))))))); refine pw_loop (fun i : Nat => ⟨59, [(0, .d (dSl l)), (3, .d (dI i))], [], []⟩) (fun i => i ≤ l.length ∧ ∀ j x, j < i → l[j]? = some x → bigS x = false) (fun i => l.length - i) 0 ⟨Nat.zero_le _, fun j x hj => absurd hj (Nat.not_lt_zero _)⟩ ⟨rfl, ⟨.refl _, .refl _, trivial⟩, trivial, trivial, rfl⟩ ?_
  rintro i ⟨hi, h0⟩
  rcases Nat.lt_or_ge i l.length with h | h
  · have u1 : decide ((i : Int) < ((l.map dSp).length : Int)) = true := by simpa using h
    obtain ⟨⟨c, f, t, q, m, k⟩, hx⟩ : ∃ a, l[i]? = some a := ⟨_, List.getElem?_eq_getElem h⟩
    have ex := ix dSp l i i ⟨c, f, t, q, m, k⟩ rfl hx
    have hw := wrapI ((i : Int) + 1) (by omega)
    have c4 := wRGr q
    have c5 := wRGr m
    have c6 := wRGr k
    have bad : bigS ⟨c, f, t, q, m, k⟩ = true → r = true := fun hh => by
      have : l.any bigS = true := List.any_eq_true.2 ⟨_, List.mem_of_getElem? hx, hh⟩
      rw [hr, this]; rfl
    have arith : l.length - (i + 1) < l.length - i := by omega
    have good : bigS ⟨c, f, t, q, m, k⟩ = false → ∀ j x, j < i + 1 → l[j]? = some x → bigS x = false := fun hse j y hj hy => by
      rcases Nat.lt_or_ge j i with h1 | h1
      · exact h0 j y h1 hy
      · obtain rfl : j = i := by omega
        rw [hx] at hy; cases hy; exact hse
    clear hr h0
    by_cases e1 : 60 < c.length
    · have hn : r = true := bad (by show bigS _ = true; unfold bigS; simp [e1])
      subst hn
      have t1 : decide ((c.length : Int) > 60) = true := decide_eq_true (by omega)
      refine pw_seq (pw_seq (pw_region (yMd rfl (yMd rfl (yN rfl (yB rfl rfl rfl rfl (yQ (q_then ?_)))))))); rw [u1]; refine pw_ct rfl (pw_skip (pw_seq (pw_block (pw_seq (pw_region (yMd rfl (yMd rfl ?_))))))); refine yW ex (by omega) rfl rfl ?_; refine yLs (ys := [_, _, _, _, _, _]) rfl rfl rfl (yZ (cs := [_, _, _, _, _, _]) rfl rfl (yS (cs' := [_, _, _, _, _, _]) rfl rfl rfl rfl rfl (yQ (pw_seq (pw_region (yFb rfl (yLd rfl rfl rfl (yNs rfl (yB rfl rfl rfl rfl ?_))))))))); refine yMd rfl ?_; rw [t1]; refine yO rfl (yO rfl (yO rfl (yO rfl (yPd rfl rfl (yMd rfl (yO rfl (yO rfl (yO rfl (yO rfl ?_))))))))); refine yPd rfl rfl (yMd rfl (yO rfl (yO rfl (yO rfl (yPd rfl rfl (yMd rfl (yO rfl (yO rfl (yO rfl ?_))))))))); refine yPd rfl rfl (yMd rfl (yO rfl (yO rfl (yO rfl (yPd rfl rfl (yQ (pw_ct rfl (pw_seq (pw_region ?_))))))))); refine yAd rfl (yQ (pw_ret (q_blk_ret (q_then_ret (q_then_ret (q_blk_ret (q_then_ret ?_)))))))
      exact q_ret _ (.tmp rfl .nil) rfl
    have t1 : decide ((c.length : Int) > 60) = false := decide_eq_false (by omega)
    by_cases e2 : 60 < f.length
    · have hn : r = true := bad (by show bigS _ = true; unfold bigS; simp [e2])
      subst hn
      have t2 : decide ((f.length : Int) > 60) = true := decide_eq_true (by omega)
      refine pw_seq (pw_seq (pw_region (yMd rfl (yMd rfl (yN rfl (yB rfl rfl rfl rfl (yQ (q_then ?_)))))))); rw [u1]; refine pw_ct rfl (pw_skip (pw_seq (pw_block (pw_seq (pw_region (yMd rfl (yMd rfl ?_))))))); refine yW ex (by omega) rfl rfl ?_; refine yLs (ys := [_, _, _, _, _, _]) rfl rfl rfl (yZ (cs := [_, _, _, _, _, _]) rfl rfl (yS (cs' := [_, _, _, _, _, _]) rfl rfl rfl rfl rfl (yQ (pw_seq (pw_region (yFb rfl (yLd rfl rfl rfl (yNs rfl (yB rfl rfl rfl rfl ?_))))))))); refine yMd rfl ?_; rw [t1]; refine yFb rfl (yLd rfl rfl rfl (yNs rfl (yB rfl rfl rfl rfl (yVd rfl rfl (yMd rfl ?_))))); rw [t2]; refine yO rfl (yO rfl (yO rfl (yO rfl (yPd rfl rfl (yMd rfl (yO rfl (yO rfl (yO rfl (yPd rfl rfl ?_))))))))); refine yMd rfl (yO rfl (yO rfl (yO rfl (yPd rfl rfl (yMd rfl (yO rfl (yO rfl (yO rfl (yPd rfl rfl ?_))))))))); refine yQ (pw_ct rfl (pw_seq (pw_region (yAd rfl (yQ (pw_ret (q_blk_ret (q_then_ret (q_then_ret ?_))))))))); refine q_blk_ret (q_then_ret ?_)
      exact q_ret _ (.tmp rfl .nil) rfl
    have t2 : decide ((f.length : Int) > 60) = false := decide_eq_false (by omega)
    by_cases e3 : 60 < t.length
    · have hn : r = true := bad (by show bigS _ = true; unfold bigS; simp [e3])
      subst hn
      have t3 : decide ((t.length : Int) > 60) = true := decide_eq_true (by omega)
      refine pw_seq (pw_seq (pw_region (yMd rfl (yMd rfl (yN rfl (yB rfl rfl rfl rfl (yQ (q_then ?_)))))))); rw [u1]; refine pw_ct rfl (pw_skip (pw_seq (pw_block (pw_seq (pw_region (yMd rfl (yMd rfl ?_))))))); refine yW ex (by omega) rfl rfl ?_; refine yLs (ys := [_, _, _, _, _, _]) rfl rfl rfl (yZ (cs := [_, _, _, _, _, _]) rfl rfl (yS (cs' := [_, _, _, _, _, _]) rfl rfl rfl rfl rfl (yQ (pw_seq (pw_region (yFb rfl (yLd rfl rfl rfl (yNs rfl (yB rfl rfl rfl rfl ?_))))))))); refine yMd rfl ?_; rw [t1]; refine yFb rfl (yLd rfl rfl rfl (yNs rfl (yB rfl rfl rfl rfl (yVd rfl rfl (yMd rfl ?_))))); rw [t2]; refine yFb rfl (yLd rfl rfl rfl (yNs rfl (yB rfl rfl rfl rfl (yVd rfl rfl (yMd rfl ?_))))); rw [t3]; refine yO rfl (yO rfl (yO rfl (yPd rfl rfl (yMd rfl (yO rfl (yO rfl (yO rfl (yPd rfl rfl (yMd rfl ?_))))))))); refine yO rfl (yO rfl (yO rfl (yPd rfl rfl (yQ (pw_ct rfl (pw_seq (pw_region (yAd rfl (yQ ?_))))))))); refine pw_ret (q_blk_ret (q_then_ret (q_then_ret (q_blk_ret (q_then_ret ?_)))))
      exact q_ret _ (.tmp rfl .nil) rfl
    have t3 : decide ((t.length : Int) > 60) = false := decide_eq_false (by omega)
    by_cases e4 : 60 < q.length
    · have hn : r = true := bad (by show bigS _ = true; unfold bigS; simp [e4])
      subst hn
      rw [decide_eq_true e4] at c4
      refine pw_seq (pw_seq (pw_region (yMd rfl (yMd rfl (yN rfl (yB rfl rfl rfl rfl (yQ (q_then ?_)))))))); rw [u1]; refine pw_ct rfl (pw_skip (pw_seq (pw_block (pw_seq (pw_region (yMd rfl (yMd rfl ?_))))))); refine yW ex (by omega) rfl rfl ?_; refine yLs (ys := [_, _, _, _, _, _]) rfl rfl rfl (yZ (cs := [_, _, _, _, _, _]) rfl rfl (yS (cs' := [_, _, _, _, _, _]) rfl rfl rfl rfl rfl (yQ (pw_seq (pw_region (yFb rfl (yLd rfl rfl rfl (yNs rfl (yB rfl rfl rfl rfl ?_))))))))); refine yMd rfl ?_; rw [t1]; refine yFb rfl (yLd rfl rfl rfl (yNs rfl (yB rfl rfl rfl rfl (yVd rfl rfl (yMd rfl ?_))))); rw [t2]; refine yFb rfl (yLd rfl rfl rfl (yNs rfl (yB rfl rfl rfl rfl (yVd rfl rfl (yMd rfl ?_))))); rw [t3]; refine yFb rfl (yLd rfl rfl rfl (yC (c4) rfl rfl (yVd rfl rfl (yMd rfl (yO rfl (yO rfl (yO rfl (yPd rfl rfl (yMd rfl ?_))))))))); refine yO rfl (yO rfl (yO rfl (yPd rfl rfl (yQ (pw_ct rfl (pw_seq (pw_region (yAd rfl (yQ ?_))))))))); refine pw_ret (q_blk_ret (q_then_ret (q_then_ret (q_blk_ret (q_then_ret ?_)))))
      exact q_ret _ (.tmp rfl .nil) rfl
    rw [decide_eq_false e4] at c4
    by_cases e5 : 60 < m.length
    · have hn : r = true := bad (by show bigS _ = true; unfold bigS; simp [e5])
      subst hn
      rw [decide_eq_true e5] at c5
      refine pw_seq (pw_seq (pw_region (yMd rfl (yMd rfl (yN rfl (yB rfl rfl rfl rfl (yQ (q_then ?_)))))))); rw [u1]; refine pw_ct rfl (pw_skip (pw_seq (pw_block (pw_seq (pw_region (yMd rfl (yMd rfl ?_))))))); refine yW ex (by omega) rfl rfl ?_; refine yLs (ys := [_, _, _, _, _, _]) rfl rfl rfl (yZ (cs := [_, _, _, _, _, _]) rfl rfl (yS (cs' := [_, _, _, _, _, _]) rfl rfl rfl rfl rfl (yQ (pw_seq (pw_region (yFb rfl (yLd rfl rfl rfl (yNs rfl (yB rfl rfl rfl rfl ?_))))))))); refine yMd rfl ?_; rw [t1]; refine yFb rfl (yLd rfl rfl rfl (yNs rfl (yB rfl rfl rfl rfl (yVd rfl rfl (yMd rfl ?_))))); rw [t2]; refine yFb rfl (yLd rfl rfl rfl (yNs rfl (yB rfl rfl rfl rfl (yVd rfl rfl (yMd rfl ?_))))); rw [t3]; refine yFb rfl (yLd rfl rfl rfl (yC (c4) rfl rfl (yVd rfl rfl (yMd rfl (yFb rfl (yLd rfl rfl rfl (yC (c5) rfl rfl (yVd rfl rfl (yMd rfl ?_))))))))); refine yO rfl (yO rfl (yO rfl (yPd rfl rfl (yQ (pw_ct rfl (pw_seq (pw_region (yAd rfl (yQ ?_))))))))); refine pw_ret (q_blk_ret (q_then_ret (q_then_ret (q_blk_ret (q_then_ret ?_)))))
      exact q_ret _ (.tmp rfl .nil) rfl
    rw [decide_eq_false e5] at c5
    by_cases e6 : 60 < k.length
    · have hn : r = true := bad (by show bigS _ = true; unfold bigS; simp [e6])
      subst hn
      rw [decide_eq_true e6] at c6
      refine pw_seq (pw_seq (pw_region (yMd rfl (yMd rfl (yN rfl (yB rfl rfl rfl rfl (yQ (q_then ?_)))))))); rw [u1]; refine pw_ct rfl (pw_skip (pw_seq (pw_block (pw_seq (pw_region (yMd rfl (yMd rfl ?_))))))); refine yW ex (by omega) rfl rfl ?_; refine yLs (ys := [_, _, _, _, _, _]) rfl rfl rfl (yZ (cs := [_, _, _, _, _, _]) rfl rfl (yS (cs' := [_, _, _, _, _, _]) rfl rfl rfl rfl rfl (yQ (pw_seq (pw_region (yFb rfl (yLd rfl rfl rfl (yNs rfl (yB rfl rfl rfl rfl ?_))))))))); refine yMd rfl ?_; rw [t1]; refine yFb rfl (yLd rfl rfl rfl (yNs rfl (yB rfl rfl rfl rfl (yVd rfl rfl (yMd rfl ?_))))); rw [t2]; refine yFb rfl (yLd rfl rfl rfl (yNs rfl (yB rfl rfl rfl rfl (yVd rfl rfl (yMd rfl ?_))))); rw [t3]; refine yFb rfl (yLd rfl rfl rfl (yC (c4) rfl rfl (yVd rfl rfl (yMd rfl (yFb rfl (yLd rfl rfl rfl (yC (c5) rfl rfl (yVd rfl rfl (yMd rfl ?_))))))))); refine yFb rfl (yLd rfl rfl rfl (yC (c6) rfl rfl (yVd rfl rfl (yQ (pw_ct rfl (pw_seq (pw_region (yAd rfl (yQ ?_))))))))); refine pw_ret (q_blk_ret (q_then_ret (q_then_ret (q_blk_ret (q_then_ret ?_)))))
      exact q_ret _ (.tmp rfl .nil) rfl
    rw [decide_eq_false e6] at c6
    have hg := good (by unfold bigS; simp [e1, e2, e3, e4, e5, e6])
    refine pw_seq (pw_seq (pw_region (yMd rfl (yMd rfl (yN rfl (yB rfl rfl rfl rfl (yQ (q_then ?_)))))))); rw [u1]; refine pw_ct rfl (pw_skip (pw_seq (pw_block (pw_seq (pw_region (yMd rfl (yMd rfl ?_))))))); refine yW ex (by omega) rfl rfl ?_; refine yLs (ys := [_, _, _, _, _, _]) rfl rfl rfl (yZ (cs := [_, _, _, _, _, _]) rfl rfl (yS (cs' := [_, _, _, _, _, _]) rfl rfl rfl rfl rfl (yQ (pw_seq (pw_region (yFb rfl (yLd rfl rfl rfl (yNs rfl (yB rfl rfl rfl rfl ?_))))))))); refine yMd rfl ?_; rw [t1]; refine yFb rfl (yLd rfl rfl rfl (yNs rfl (yB rfl rfl rfl rfl (yVd rfl rfl (yMd rfl ?_))))); rw [t2]; refine yFb rfl (yLd rfl rfl rfl (yNs rfl (yB rfl rfl rfl rfl (yVd rfl rfl (yMd rfl ?_))))); rw [t3]; refine yFb rfl (yLd rfl rfl rfl (yC (c4) rfl rfl (yVd rfl rfl (yMd rfl (yFb rfl (yLd rfl rfl rfl (yC (c5) rfl rfl (yVd rfl rfl (yMd rfl ?_))))))))); refine yFb rfl (yLd rfl rfl rfl (yC (c6) rfl rfl (yVd rfl rfl (yQ (pw_cf rfl (pw_skip (pw_region (yMd rfl (yB rfl rfl rfl rfl ?_))))))))); refine yAd rfl (yQ (q_then ?_))
    exact ⟨i + 1, ⟨h, hg⟩, arith, rfl, ⟨.refl _, .of_eq (congrArg (fun n => SV.d (dI n)) hw), trivial⟩, trivial, trivial, rfl⟩
  · have u1 : decide ((i : Int) < ((l.map dSp).length : Int)) = false := by simpa using h
    have hany : l.any bigS = false := by
      rw [List.any_eq_false]
      intro x hx
      obtain ⟨j, hj⟩ := List.mem_iff_getElem?.1 hx
      rw [h0 j x (by have := (List.getElem?_eq_some_iff.1 hj).1; omega) hj]
      simp
    rw [hany] at hr
    by_cases e1 : 16 < l.length
    · have t1 : decide (((l.map dSp).length : Int) > 16) = true := decide_eq_true (by rw [List.length_map]; omega)
      by_cases e2 : l.length ≤ 4000
      · have t2 : decide (((l.map dSp).length : Int) ≤ 4000) = true := decide_eq_true (by rw [List.length_map]; omega)
        have hn : r = true := by rw [hr]; simp [e1, e2]
        subst hn
        refine pw_seq (pw_seq (pw_region (yMd rfl (yMd rfl (yN rfl (yB rfl rfl rfl rfl (yQ (q_then ?_)))))))); rw [u1]; refine pw_cf rfl (pw_exit (pw_seq (pw_region (yMd rfl (yN rfl (yB rfl rfl rfl rfl (yMd rfl ?_))))))); rw [t1]; refine yMd rfl (yN rfl (yB rfl rfl rfl rfl (yPd rfl rfl (yMd rfl ?_)))); rw [t2]; refine yO rfl (yO rfl (yO rfl (yPd rfl rfl (yAd rfl (yQ (pw_ret ?_))))))
        exact q_ret _ (.tmp rfl .nil) rfl
      · have t2 : decide (((l.map dSp).length : Int) ≤ 4000) = false := decide_eq_false (by rw [List.length_map]; omega)
        have t3 : decide (((l.map dSp).length : Int) > 4003) = decide (4003 < l.length) := by rw [List.length_map]; exact decide_eq_decide.2 (by omega)
        have hn : r = decide (4003 < l.length) := by rw [hr]; simp [e2]
        obtain ⟨d, hd⟩ : ∃ d, d = decide (4003 < l.length) := ⟨_, rfl⟩
        rw [← hd] at t3 hn
        subst hn
        refine pw_seq (pw_seq (pw_region (yMd rfl (yMd rfl (yN rfl (yB rfl rfl rfl rfl (yQ (q_then ?_)))))))); rw [u1]; refine pw_cf rfl (pw_exit (pw_seq (pw_region (yMd rfl (yN rfl (yB rfl rfl rfl rfl (yMd rfl ?_))))))); rw [t1]; refine yMd rfl (yN rfl (yB rfl rfl rfl rfl (yPd rfl rfl (yMd rfl ?_)))); rw [t2]; refine yMd rfl (yN rfl (yB rfl rfl rfl rfl (yVd rfl rfl (yAd rfl (yQ (pw_ret ?_)))))); rw [t3]
        exact q_ret _ (.tmp rfl .nil) rfl
    · have t1 : decide (((l.map dSp).length : Int) > 16) = false := decide_eq_false (by rw [List.length_map]; omega)
      have t3 : decide (((l.map dSp).length : Int) > 4003) = false := decide_eq_false (by rw [List.length_map]; omega)
      have hn : r = false := by rw [hr]; simp; omega
      subst hn
      refine pw_seq (pw_seq (pw_region (yMd rfl (yMd rfl (yN rfl (yB rfl rfl rfl rfl (yQ (q_then ?_)))))))); rw [u1]; refine pw_cf rfl (pw_exit (pw_seq (pw_region (yMd rfl (yN rfl (yB rfl rfl rfl rfl (yMd rfl ?_))))))); rw [t1]; refine yO rfl (yO rfl (yO rfl (yVd rfl rfl (yMd rfl (yMd rfl (yN rfl (yB rfl rfl rfl rfl (yVd rfl rfl (yAd rfl ?_))))))))); refine yQ (pw_ret ?_); rw [t3]
      exact q_ret _ (.tmp rfl .nil) rfl

instance : EqOf Tryz.prog 40 [.s, .s] := eqOf_struct (by kernel_rfl) (by kernel_rfl) (by kernel_rfl)
theorem take_next {α : Type} {l r : List α} {i : Nat} {x : α} (h : l.take i = r.take i) (hx : l[i]? = some x) (hy : r[i]? = some x) : l.take (i + 1) = r.take (i + 1) := by
  rw [List.take_add_one, List.take_add_one, h, hx, hy]
abbrev vPk (x : Str × Str) : List Value := [vS x.1, vS x.2]
theorem veq_pk (x y : Str × Str) : veqs (vPk x) (vPk y) = decide (x = y) := by
  obtain ⟨x0, x1⟩ := x
  obtain ⟨y0, y1⟩ := y
  show (veq (vS x0) (vS y0) && (veq (vS x1) (vS y1) && true)) = _
  rw [veq_str, veq_str, Bool.eq_iff_iff]
  simp
set_option maxRecDepth 20000 in
set_option maxHeartbeats 2000000 in
theorem wEqP (l r : List (Str × Str)) (hl : l.length ≤ 1000000) (hr : r.length ≤ 1000000) : PCalls Tryz.prog 28 [dPks l, dPks r] (.d (dB (decide (l = r)))) := by
  refine pcalls_of_pw Tryz.func28 rfl Tryz.ntmps28 Tryz.results28 (by simp) fun B w0 => ?_
  by_cases hn : l.length = r.length
  rotate_left
  · have t1 : (((l.map dPk).length : Int) != ((r.map dPk).length : Int)) = true := by simp; omega
    rw [decide_eq_false fun e => hn (by rw [e])]
    refine pw_seq (pw_region (yAd rfl (yQ (pw_seq (pw_seq (pw_region (yMd rfl (yN rfl (yMd rfl ?_))))))))); refine yN rfl (yB rfl rfl rfl rfl (yQ (q_then ?_))); rw [t1]; refine pw_ct rfl (pw_seq (pw_region (yAd rfl (yQ (pw_ret (q_then_ret ?_))))))
    exact q_ret _ (.tmp rfl .nil) rfl
  have t1 : (((l.map dPk).length : Int) != ((r.map dPk).length : Int)) = false := by simp; omega
  refine pw_seq (pw_region (yAd rfl (yQ (pw_seq (pw_seq (pw_region (yMd rfl (yN rfl (yMd rfl ?_))))))))); refine yN rfl (yB rfl rfl rfl rfl (yQ (q_then ?_))); rw [t1]; refine pw_cf rfl (pw_skip (pw_seq (pw_seq (pw_region (yMd rfl (yN rfl (yMd rfl (yQ (pw_block ?_))))))))); refine pw_loop (fun i : Nat => ⟨26, [(0, .d (dPks l)), (1, .d (dPks r)), (12, .d (dI l.length)), (13, .d (dI i))], [], []⟩) (fun i => i ≤ l.length ∧ l.take i = r.take i) (fun i => l.length - i) 0 ⟨Nat.zero_le _, rfl⟩ ⟨rfl, ⟨.refl _, .refl _, .of_eq (congrArg (fun n : Nat => SV.d (dI n)) (by simp)), .refl _, trivial⟩, trivial, trivial, rfl⟩ ?_
  rintro i ⟨hi, h0⟩
  rcases Nat.lt_or_ge i l.length with h | h
  · have u1 : decide ((i : Int) < (l.length : Int)) = true := decide_eq_true (by omega)
    obtain ⟨x, hx⟩ : ∃ a, l[i]? = some a := ⟨_, List.getElem?_eq_getElem h⟩
    obtain ⟨y, hy⟩ : ∃ a, r[i]? = some a := ⟨_, List.getElem?_eq_getElem (by omega)⟩
    have ex := ix dPk l i i x rfl hx
    have ey := ix dPk r i i y rfl hy
    have hw := wrapI ((i : Int) + 1) (by omega)
    have hv := veq_pk x y
    by_cases e : x = y
    · rw [decide_eq_true e] at hv
      refine pw_seq (pw_region (yB rfl rfl rfl rfl (yQ (pw_seq ?_)))); rw [u1]; refine pw_ct rfl (pw_skip (pw_seq (pw_block (pw_seq (pw_region (yMd rfl (yAd rfl (yQ (pw_seq ?_))))))))); refine pw_draw Tryz.mixed (by kernel_rfl) ?_; refine yMd rfl (yMd rfl ?_); refine yW ex (by omega) rfl rfl ?_; refine yLs (ys := [_, _]) rfl rfl rfl (yMd rfl (yMd rfl ?_)); refine yW ey (by omega) rfl rfl ?_; refine yLs (ys := [_, _]) rfl rfl rfl (yBx (vs := vPk x) (us := vPk y) rfl rfl rfl rfl rfl rfl (yQ (q_then ?_))); rw [hv]
      refine pw_cf rfl (pw_skip (pw_region (yB rfl rfl rfl rfl (yMd rfl (yQ (q_then ?_))))))
      refine ⟨i + 1, ⟨by omega, take_next h0 hx (e ▸ hy)⟩, by omega, rfl, ⟨.refl _, .refl _, .refl _, .of_eq (congrArg (fun n => SV.d (dI n)) hw), trivial⟩, trivial, trivial, rfl⟩
    · rw [decide_eq_false e] at hv
      rw [decide_eq_false fun e2 => e (by subst e2; rw [hx] at hy; exact Option.some.inj hy)]
      refine pw_seq (pw_region (yB rfl rfl rfl rfl (yQ (pw_seq ?_)))); rw [u1]; refine pw_ct rfl (pw_skip (pw_seq (pw_block (pw_seq (pw_region (yMd rfl (yAd rfl (yQ (pw_seq ?_))))))))); refine pw_draw Tryz.mixed (by kernel_rfl) ?_; refine yMd rfl (yMd rfl ?_); refine yW ex (by omega) rfl rfl ?_; refine yLs (ys := [_, _]) rfl rfl rfl (yMd rfl (yMd rfl ?_)); refine yW ey (by omega) rfl rfl ?_; refine yLs (ys := [_, _]) rfl rfl rfl (yBx (vs := vPk x) (us := vPk y) rfl rfl rfl rfl rfl rfl (yQ (q_then ?_))); rw [hv]
      refine pw_ct rfl (pw_seq (pw_region (yAd rfl (yQ (pw_ret (q_blk_ret (q_then_ret (q_then_ret (q_blk_ret ?_))))))))); refine q_then_ret ?_
      exact q_ret _ (.tmp rfl .nil) rfl
  · have u1 : decide ((i : Int) < (l.length : Int)) = false := decide_eq_false (by omega)
    rw [List.take_of_length_le (by omega), List.take_of_length_le (by omega)] at h0
    rw [decide_eq_true h0]
    refine pw_seq (pw_region (yB rfl rfl rfl rfl (yQ (pw_seq ?_)))); rw [u1]; refine pw_cf rfl (pw_exit (pw_seq (pw_region (yAd rfl (yQ (pw_ret ?_))))))
    exact q_ret _ (.tmp rfl .nil) rfl
set_option maxRecDepth 20000 in
set_option maxHeartbeats 2000000 in
theorem wEqS (l r : List Str) (hl : l.length ≤ 1000000) (hr : r.length ≤ 1000000) : PCalls Tryz.prog 23 [dStrs l, dStrs r] (.d (dB (decide (l = r)))) := by
  refine pcalls_of_pw Tryz.func23 rfl Tryz.ntmps23 Tryz.results23 (by simp) fun B w0 => ?_
  by_cases hn : l.length = r.length
  rotate_left
  · have t1 : (((l.map fun s => [dS s]).length : Int) != ((r.map fun s => [dS s]).length : Int)) = true := by simp; omega
    rw [decide_eq_false fun e => hn (by rw [e])]
    refine pw_seq (pw_region (yAd rfl (yQ (pw_seq (pw_seq (pw_region (yMd rfl (yN rfl (yMd rfl ?_))))))))); refine yN rfl (yB rfl rfl rfl rfl (yQ (q_then ?_))); rw [t1]; refine pw_ct rfl (pw_seq (pw_region (yAd rfl (yQ (pw_ret (q_then_ret ?_))))))
    exact q_ret _ (.tmp rfl .nil) rfl
  have t1 : (((l.map fun s => [dS s]).length : Int) != ((r.map fun s => [dS s]).length : Int)) = false := by simp; omega
  refine pw_seq (pw_region (yAd rfl (yQ (pw_seq (pw_seq (pw_region (yMd rfl (yN rfl (yMd rfl ?_))))))))); refine yN rfl (yB rfl rfl rfl rfl (yQ (q_then ?_))); rw [t1]; refine pw_cf rfl (pw_skip (pw_seq (pw_seq (pw_region (yMd rfl (yN rfl (yMd rfl (yQ (pw_block ?_))))))))); refine pw_loop (fun i : Nat => ⟨26, [(0, .d (dStrs l)), (1, .d (dStrs r)), (12, .d (dI l.length)), (13, .d (dI i))], [], []⟩) (fun i => i ≤ l.length ∧ l.take i = r.take i) (fun i => l.length - i) 0 ⟨Nat.zero_le _, rfl⟩ ⟨rfl, ⟨.refl _, .refl _, .of_eq (congrArg (fun n : Nat => SV.d (dI n)) (by simp)), .refl _, trivial⟩, trivial, trivial, rfl⟩ ?_
  rintro i ⟨hi, h0⟩
  rcases Nat.lt_or_ge i l.length with h | h
  · have u1 : decide ((i : Int) < (l.length : Int)) = true := decide_eq_true (by omega)
    obtain ⟨x, hx⟩ : ∃ a, l[i]? = some a := ⟨_, List.getElem?_eq_getElem h⟩
    obtain ⟨y, hy⟩ : ∃ a, r[i]? = some a := ⟨_, List.getElem?_eq_getElem (by omega)⟩
    have ex := ix (fun s => [dS s]) l i i x rfl hx
    have ey := ix (fun s => [dS s]) r i i y rfl hy
    have hw := wrapI ((i : Int) + 1) (by omega)
    by_cases e : x = y
    · have hv : (!(x == y)) = false := by simp [e]
      refine pw_seq (pw_region (yB rfl rfl rfl rfl (yQ (pw_seq ?_)))); rw [u1]; refine pw_ct rfl (pw_skip (pw_seq (pw_block (pw_seq (pw_region (yMd rfl (yAd rfl (yQ (pw_seq ?_))))))))); refine pw_draw Tryz.mixed (by kernel_rfl) ?_; refine yMd rfl (yMd rfl ?_); refine yW ex (by omega) rfl rfl ?_; refine yLr rfl rfl (yMd rfl (yMd rfl ?_)); refine yW ey (by omega) rfl rfl ?_; refine yLr rfl rfl (yBsn rfl rfl (yQ (q_then ?_))); rw [hv]; refine pw_cf rfl (pw_skip (pw_region (yB rfl rfl rfl rfl (yMd rfl (yQ (q_then ?_))))))
      exact ⟨i + 1, ⟨by omega, take_next h0 hx (e ▸ hy)⟩, by omega, rfl, ⟨.refl _, .refl _, .refl _, .of_eq (congrArg (fun n => SV.d (dI n)) hw), trivial⟩, trivial, trivial, rfl⟩
    · have hv : (!(x == y)) = true := by simpa using e
      rw [decide_eq_false fun e2 => e (by subst e2; rw [hx] at hy; exact Option.some.inj hy)]
      refine pw_seq (pw_region (yB rfl rfl rfl rfl (yQ (pw_seq ?_)))); rw [u1]; refine pw_ct rfl (pw_skip (pw_seq (pw_block (pw_seq (pw_region (yMd rfl (yAd rfl (yQ (pw_seq ?_))))))))); refine pw_draw Tryz.mixed (by kernel_rfl) ?_; refine yMd rfl (yMd rfl ?_); refine yW ex (by omega) rfl rfl ?_; refine yLr rfl rfl (yMd rfl (yMd rfl ?_)); refine yW ey (by omega) rfl rfl ?_; refine yLr rfl rfl (yBsn rfl rfl (yQ (q_then ?_))); rw [hv]; refine pw_ct rfl (pw_seq (pw_region (yAd rfl (yQ (pw_ret (q_blk_ret (q_then_ret (q_then_ret (q_blk_ret ?_))))))))); refine q_then_ret ?_
      exact q_ret _ (.tmp rfl .nil) rfl
  · have u1 : decide ((i : Int) < (l.length : Int)) = false := decide_eq_false (by omega)
    rw [List.take_of_length_le (by omega), List.take_of_length_le (by omega)] at h0
    rw [decide_eq_true h0]
    refine pw_seq (pw_region (yB rfl rfl rfl rfl (yQ (pw_seq ?_)))); rw [u1]; refine pw_cf rfl (pw_exit (pw_seq (pw_region (yAd rfl (yQ (pw_ret ?_))))))
    exact q_ret _ (.tmp rfl .nil) rfl

/-! the example -/
def exL : List Stp := [⟨[98], [], [98, 47, 49], [], [49, 48], [49, 48, 48]⟩, ⟨[120], [98, 47, 49], [120, 47, 49], [52], [56], [52, 48]⟩, ⟨[115], [120, 47, 49], [], [51], [], [49, 53]⟩]
theorem exB : bdL 1000 exL := ⟨by simp [exL], fun s hs => by
  simp only [exL, List.mem_cons, List.not_mem_nil, or_false] at hs
  rcases hs with rfl | rfl | rfl <;> exact ⟨by simp, by simp, by simp, by simp, by simp, by simp⟩⟩
theorem ex0 : chkE exL = 0 := by kernel_rfl
theorem ex1 : parR exL [120, 47, 49] = [[98, 47, 49]] := by kernel_rfl
theorem ex2 : heiR exL [98, 47, 49] = [[120, 47, 49]] := by kernel_rfl
theorem ex3 : orgR exL [120, 47, 49] = [[98, 47, 49]] := by kernel_rfl
theorem ex4 : thI exL [120, 47, 49] = [52, 48] := by kernel_rfl
theorem ex5 : thO exL [120, 47, 49] = [49, 53] := by kernel_rfl
theorem ex6 : lefR exL = [([98, 47, 49], [54]), ([120, 47, 49], [53])] := by kernel_rfl
theorem ex7 : lefE exL = 0 := by kernel_rfl
theorem ex8 : cauR exL [120, 47, 49] = [[98], [120]] := by kernel_rfl
set_option maxRecDepth 20000 in
set_option maxHeartbeats 1000000 in
theorem wExample : PCalls Tryz.prog 47 [] (.d (dSl exL)) := by
  refine pcalls_of_pw Tryz.func47 rfl Tryz.ntmps47 Tryz.results47 (by simp) fun B w0 => ?_
  refine pw_seq (pw_region (yAd rfl (yQ (pw_seq (pw_region (yG (ys := [_, _, _, _, _, _]) rfl rfl (yG (ys := [_, _, _, _, _, _]) rfl rfl (yG (ys := [_, _, _, _, _, _]) rfl rfl ?_)))))))); refine yR (es := exL.map dSp) rfl rfl rfl rfl rfl ?_; refine yAd rfl (yQ (pw_ret ?_))
  exact q_ret _ (.tmp rfl .nil) rfl
set_option maxRecDepth 20000 in
set_option maxHeartbeats 1000000 in
theorem wAwake : PCalls Tryz.prog 12 [] (.d (dB true)) := by
  have c0 := wExample
  have c1 := wParents exL [120, 47, 49] exB
  have c2 := wHeirs exL [98, 47, 49] exB
  have c3 := wOrigins exL [120, 47, 49] exB
  have c4 := wThrough exL [120, 47, 49] exB
  have c5 := wLeft exL exB
  have c6 := wCauses exL [120, 47, 49] exB
  rw [okR, okE, if_pos ex0, if_pos ex0] at c1 c2 c3 c6
  rw [okE, if_pos ex0, ex4, ex5] at c4
  rw [ex1] at c1
  rw [ex2] at c2
  rw [ex3] at c3
  rw [ex6, ex7] at c5
  rw [ex8] at c6
  have d1 := wEqS [[98, 47, 49]] [[98, 47, 49]] (by simp) (by simp)
  have d2 := wEqS [[120, 47, 49]] [[120, 47, 49]] (by simp) (by simp)
  have d3 := wEqS [[98], [120]] [[98], [120]] (by simp) (by simp)
  have d4 := wEqP [([98, 47, 49], [54]), ([120, 47, 49], [53])] [([98, 47, 49], [54]), ([120, 47, 49], [53])] (by simp) (by simp)
  rw [decide_eq_true rfl] at d1 d2 d3 d4
  obtain ⟨L, hL⟩ : ∃ L, L = exL := ⟨_, rfl⟩
  rw [← hL] at c0 c1 c2 c3 c4 c5 c6
  clear hL
  refine pcalls_of_pw Tryz.func12 rfl Tryz.ntmps12 Tryz.results12 (by simp) fun B w0 => ?_
  refine pw_seq (pw_region (yAd rfl (yQ (pw_seq (pw_region (yC (c0) rfl rfl (yAd rfl (yQ (pw_seq ?_))))))))); refine pw_region (yMd rfl (yC (c1) rfl rfl (yMp rfl (yX rfl rfl (yX rfl rfl (yAd rfl (yAd rfl (yQ (pw_seq ?_))))))))); refine pw_region (yMd rfl (yC (c2) rfl rfl (yMp rfl (yX rfl rfl (yX rfl rfl (yAd rfl (yAd rfl (yQ (pw_seq ?_))))))))); refine pw_region (yMd rfl (yC (c3) rfl rfl (yMp rfl (yX rfl rfl (yX rfl rfl (yAd rfl (yAd rfl (yQ (pw_seq ?_))))))))); refine pw_region (yMd rfl (yC (c4) rfl rfl (yMp rfl (yX rfl rfl (yX rfl rfl (yX rfl rfl (yAd rfl (yAd rfl (yAd rfl ?_))))))))); refine yQ (pw_seq (pw_region (yMd rfl (yC (c5) rfl rfl (yMp rfl (yX rfl rfl (yX rfl rfl (yAd rfl (yAd rfl ?_))))))))); refine yQ (pw_seq (pw_region (yMd rfl (yC (c6) rfl rfl (yMp rfl (yX rfl rfl (yX rfl rfl (yAd rfl (yAd rfl ?_))))))))); refine yQ (pw_seq (pw_region (yMd rfl (yB rfl rfl rfl rfl (yMd rfl (yMd rfl (yB rfl rfl rfl rfl (yPd rfl rfl (yMd rfl ?_))))))))); refine yMd rfl (yB rfl rfl rfl rfl (yPd rfl rfl (yMd rfl (yMd rfl (yB rfl rfl rfl rfl (yPd rfl rfl (yMd rfl (yMd rfl (yB rfl rfl rfl rfl ?_))))))))); refine yPd rfl rfl (yMd rfl (yMd rfl (yB rfl rfl rfl rfl (yPd rfl rfl (yMd rfl (yMd rfl (yBse rfl rfl (yPd rfl rfl (yMd rfl ?_))))))))); refine yMd rfl (yBse rfl rfl (yPd rfl rfl (yAd rfl (yQ (pw_seq (pw_region (yMd rfl (yMd rfl (yMd rfl ?_))))))))); refine yR (es := [[_]]) rfl rfl rfl rfl rfl ?_; refine yC (d1) rfl rfl (yPd rfl rfl (yMd rfl (yMd rfl ?_))); refine yR (es := [[_]]) rfl rfl rfl rfl rfl ?_; refine yC (d2) rfl rfl (yPd rfl rfl (yMd rfl (yMd rfl ?_))); refine yR (es := [[_]]) rfl rfl rfl rfl rfl ?_; refine yC (d1) rfl rfl (yPd rfl rfl (yMd rfl (yMd rfl ?_))); refine yR (es := [[_], [_]]) rfl rfl rfl rfl rfl ?_; refine yC (d3) rfl rfl (yPd rfl rfl (yAd rfl (yQ (pw_seq (pw_region (yMd rfl (yMd rfl (yMd rfl (yG (ys := [_, _]) rfl rfl ?_))))))))); refine yG (ys := [_, _]) rfl rfl ?_; refine yR (es := [[_, _], [_, _]]) rfl rfl rfl rfl rfl ?_; refine yC (d4) rfl rfl (yPd rfl rfl (yAd rfl (yQ (pw_ret ?_))))
  exact q_ret _ (.tmp rfl .nil) rfl
end Go.Proofs.YtkfoogabijnamaaGreatDoor
namespace Go.Proofs.YtkfoogabijnamaaGreatDoor
open Go.RowKit Px

def ixF {α : Type} (b : α → Bool) (l : List α) : Int := match l.findIdx? b with | some i => i | none => -1
/-! lists searched by a function -/
def phS (b : Str → Bool) (xs : List DV) (r : SV) : Prop := ∃ x : Str, xs = [dS x] ∧ r = .d (dB (b x))
def phP (b : Stp → Bool) (xs : List DV) (r : SV) : Prop := ∃ s : Stp, xs = [.agg (dSp s)] ∧ r = .d (dB (b s))
/-! lists in order -/
/-! all lots -/
abbrev lT : Nat := 9 * 100000 + 3
def lot1 (A : List Str) (x : Str) : List Str := if x = [] then A else addB A x
end Go.Proofs.YtkfoogabijnamaaGreatDoor
namespace Go.Proofs.YtkfoogabijnamaaGreatDoor
open Go.RowKit Px

theorem lefR_len (l : List Stp) : (lefR l).length ≤ 2 * l.length := by
  unfold lefR
  split
  · exact lefP_len l
  · exact Nat.zero_le _
set_option maxRecDepth 20000 in
set_option maxHeartbeats 8000000 in
theorem lawAmounts (l : List Stp) (id : Str) : PCalls Tryz.prog 4 [dSl l, dS id] (.d (dB true)) := by
  have k0 := wAwake
  have k1 := wBigL l
  cases hg : bigL l with
  | true =>
    rw [hg] at k1
    refine pcalls_of_pw Tryz.func4 rfl Tryz.ntmps4 Tryz.results4 (by simp) fun B w0 => ?_
    refine pw_seq (pw_region (yAd rfl (yQ (pw_seq (pw_seq (pw_region (yMd rfl (yC (k1) rfl rfl (yMd rfl ?_))))))))); refine yO rfl (yO rfl (yO rfl (yPd rfl rfl (yQ (pw_ct rfl (pw_seq (pw_region (yC (k0) rfl rfl (yAd rfl ?_))))))))); refine yQ (pw_ret (q_then_ret ?_))
    exact q_ret _ (.tmp rfl .nil) rfl
  | false =>
  rw [hg] at k1
  by_cases hn : 60 < id.length
  · have t0 : decide ((id.length : Int) > 60) = true := decide_eq_true (by omega)
    refine pcalls_of_pw Tryz.func4 rfl Tryz.ntmps4 Tryz.results4 (by simp) fun B w0 => ?_
    refine pw_seq (pw_region (yAd rfl (yQ (pw_seq (pw_seq (pw_region (yMd rfl (yC (k1) rfl rfl (yMd rfl ?_))))))))); refine yMd rfl (yNs rfl (yB rfl rfl rfl rfl (yVd rfl rfl (yQ (q_then ?_))))); rw [t0]; refine pw_ct rfl (pw_seq (pw_region (yC (k0) rfl rfl (yAd rfl (yQ (pw_ret (q_then_ret ?_)))))))
    exact q_ret _ (.tmp rfl .nil) rfl
  have t0 : decide ((id.length : Int) > 60) = false := decide_eq_false (by omega)
  have hb := bigL_bd hg
  have hll := hb.1
  have m0 := wThrough l id hb
  have m1 := wRThrough l id hb
  have m2 := wLeft l hb
  have m3 := wRLeft l hb
  have z2 := lefR_len l
  obtain ⟨a, ha⟩ : ∃ n, n = thI l id := ⟨_, rfl⟩
  obtain ⟨b, hb'⟩ : ∃ n, n = thO l id := ⟨_, rfl⟩
  obtain ⟨c, hc⟩ : ∃ n, n = lefR l := ⟨_, rfl⟩
  obtain ⟨d, hd⟩ : ∃ n, n = lefE l := ⟨_, rfl⟩
  obtain ⟨e, he⟩ : ∃ n, n = okE l := ⟨_, rfl⟩
  rw [← ha, ← hb', ← he] at m0 m1
  rw [← hc, ← hd] at m2 m3
  rw [← hc] at z2
  clear ha hb' hc hd he
  have q1 := wEqP c c (by omega) (by omega)
  rw [decide_eq_true rfl] at q1
  have t1 : (a == a) = true := by simp
  have t2 : (b == b) = true := by simp
  have t3 : (d == d) = true := by simp
  have t4 : (e == e) = true := by simp
  refine pcalls_of_pw Tryz.func4 rfl Tryz.ntmps4 Tryz.results4 (by simp) fun B w0 => ?_
  refine pw_seq (pw_region (yAd rfl (yQ (pw_seq (pw_seq (pw_region (yMd rfl (yC (k1) rfl rfl (yMd rfl ?_))))))))); refine yMd rfl (yNs rfl (yB rfl rfl rfl rfl (yVd rfl rfl (yQ (q_then ?_))))); rw [t0]; refine pw_cf rfl (pw_skip (pw_seq (pw_region (yMd rfl (yMd rfl (yC (m0) rfl rfl (yMp rfl (yX rfl rfl (yX rfl rfl ?_))))))))); refine yX rfl rfl (yAd rfl (yAd rfl (yAd rfl (yQ (pw_seq (pw_region (yMd rfl (yMd rfl (yC (m1) rfl rfl ?_))))))))); refine yMp rfl (yX rfl rfl (yX rfl rfl (yX rfl rfl (yAd rfl (yAd rfl (yAd rfl (yQ (pw_seq (pw_region ?_))))))))); refine yMd rfl (yC (m2) rfl rfl (yMp rfl (yX rfl rfl (yX rfl rfl (yAd rfl (yAd rfl (yQ (pw_seq (pw_region ?_))))))))); refine yMd rfl (yC (m3) rfl rfl (yMp rfl (yX rfl rfl (yX rfl rfl (yAd rfl (yAd rfl (yQ (pw_seq (pw_region ?_))))))))); refine yMd rfl (yMd rfl (yBse rfl rfl (yMd rfl ?_))); rw [t1]; refine yMd rfl (yMd rfl (yBse rfl rfl (yPd rfl rfl (yMd rfl ?_)))); rw [t2]; refine yMd rfl (yMd rfl (yB rfl rfl rfl rfl (yPd rfl rfl (yMd rfl ?_)))); rw [t4]; refine yMd rfl (yMd rfl (yC (q1) rfl rfl (yPd rfl rfl (yMd rfl (yMd rfl (yMd rfl (yB rfl rfl rfl rfl (yPd rfl rfl (yMd rfl ?_))))))))); rw [t3]; refine yC (k0) rfl rfl (yPd rfl rfl (yAd rfl (yQ (pw_ret ?_))))
  exact q_ret _ (.tmp rfl .nil) rfl
end Go.Proofs.YtkfoogabijnamaaGreatDoor
namespace Go.Proofs.YtkfoogabijnamaaGreatDoor
theorem and_mk {a b : Bool} (h : a = true) (h' : b = true) : (a && b) = true := by rw [h, h']; rfl
theorem sharedfact1 : laidOutB Tryz.prog = true := by kernel_rfl
theorem sharedfact2 : mapsRowed Tryz.prog = true := by kernel_rfl
theorem sharedfact6 : (Tryz.prog.stops == []) = true := by kernel_rfl
theorem sharedfact8 : (Tryz.prog.stopKnobs == []) = true := by kernel_rfl
theorem sharedplainKeys : Tryz.prog.plainKeys = true := by kernel_rfl
theorem sharedfact24 : Tryz.prog.stopsHeard = true := by kernel_rfl
theorem sharedfact25 : Tryz.prog.mayEnter = true := by kernel_rfl
theorem sharedliftsFinal : Tryz.prog.liftsFinal = false := by kernel_rfl
end Go.Proofs.YtkfoogabijnamaaGreatDoor
