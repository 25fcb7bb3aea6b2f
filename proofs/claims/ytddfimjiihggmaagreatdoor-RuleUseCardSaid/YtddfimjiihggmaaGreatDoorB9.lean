/- Walk: charts. -/
import Derived.Test.YtddfimjiihggmaaGreatDoorB8
set_option maxHeartbeats 16000000
set_option maxRecDepth 20000
namespace Go.Proofs.YtddfimjiihggmaaGreatDoor
open Go.RowKit Px
theorem le_nlt (a b : Str) : (lt8 a b || a == b) = !lt8 b a := by
 show (ltS a b || a == b) = !ltS b a
 rcases ltS_total a b with h | h | h
 · rw [h, ltS_asymm h]; rfl
 · subst h; rw [ltS_irrefl]; simp
 · rw [h, ltS_asymm h]
   have := ltS_ne h
   simp [Ne.symm this]
def acJ (l : List Ac) (k : Nat) (a : Ac) : Int :=
 if acE a.1 ≠ 0 then 3 else if a.2 < 1 ∨ 5 < a.2 then 7
 else if k ≠ 0 ∧ lt8 ((l[k - 1]?).getD ([], 0)).1 a.1 = false then 8
 else if (l.take k).any (fun b => undB a.1 b.1 && !(a.2 == b.2)) = true then 18 else 0
def chJ (l : List Ac) : Nat → Nat → Int
 | 0, _ => 0
 | n + 1, k => match l[k]? with
  | none => 0
  | some a => if acJ l k a = 0 then chJ l n (k + 1) else acJ l k a
def ctE (l : List Ac) : Int := if 256 < l.length then 4 else chJ l l.length 0
theorem chJ_next {l : List Ac} {k : Nat} {a : Ac} (h : l[k]? = some a) : chJ l (l.length - k) k = if acJ l k a = 0 then chJ l (l.length - (k + 1)) (k + 1) else acJ l k a := by
 have h1 := (List.getElem?_eq_some_iff.1 h).1
 rw [show l.length - k = (l.length - (k + 1)) + 1 by omega, chJ, h]
theorem any_none {α : Type} {b : α → Bool} {l : List α} {m : Nat} (h : m ≥ l.length) (h0 : ∀ (j : Nat) x, j < m → l[j]? = some x → b x = false) : l.any b = false := by
 rw [List.any_eq_false]
 intro x hx
 obtain ⟨j, hj⟩ := List.mem_iff_getElem?.1 hx
 rw [h0 j x (by have := (List.getElem?_eq_some_iff.1 hj).1; omega) hj]
 simp
theorem wCheckAll (l : List Ac) (hl : l.length ≤ 1000000) (hb : ∀ a ∈ l, a.1.length ≤ 1000000) : PCalls Tryz.prog 33 [.sl 2 (l.map dAc)] (.d (dI (ctE l))) := by
 obtain ⟨E, hE⟩ : ∃ E, E = ctE l := ⟨_, rfl⟩
 rw [← hE]
 unfold ctE at hE
 by_cases h0 : 256 < l.length
 · have t1 : decide (((l.map dAc).length : Int) > 256) = true := decide_eq_true (by rw [List.length_map]; omega)
   rw [if_pos h0] at hE
   subst hE
   refine pcalls_of_pw Tryz.func33 rfl Tryz.ntmps33 Tryz.results33 (by simp) fun B w0 => ?_
   refine pzr (yAd rfl (yQ (pw_seq (pzr (yMd rfl (yN rfl (yB rfl rfl rfl rfl (yQ (q_then ?_)))))))))
   rw [t1]; refine pw_ct rfl ?_; refine pw_seq ?_; refine pw_region ?_; refine yAd rfl ?_; refine yQ ?_; refine pw_ret ?_; refine q_then_ret ?_
   exact q_ret _ (.tmp rfl .nil) rfl
 have t1 : decide (((l.map dAc).length : Int) > 256) = false := decide_eq_false (by rw [List.length_map]; omega)
 rw [if_neg h0] at hE
 refine pcalls_of_pw Tryz.func33 rfl Tryz.ntmps33 Tryz.results33 (by simp) fun B w0 => ?_
 refine pzr (yAd rfl (yQ (pw_seq (pzr (yMd rfl (yN rfl (yB rfl rfl rfl rfl (yQ (q_then ?_)))))))))
 rw [t1]; refine pw_cf rfl ?_; refine pw_skip ?_; refine pw_seq ?_; refine pw_seq ?_; refine pw_region ?_; refine yMd rfl ?_; refine yN rfl ?_; refine yMd rfl ?_; refine yQ ?_; refine pw_block ?_
 refine pw_loop (fun k : Nat => ⟨67, [(0, .d (.sl 2 (l.map dAc))), (10, .d (.sl 2 (l.map dAc))), (11, .d (dI l.length)), (12, .d (dI k))], [], []⟩) (fun k => k ≤ l.length ∧ chJ l (l.length - k) k = E) (fun k => l.length - k) 0 ⟨Nat.zero_le _, hE.symm⟩
  ⟨rfl, ⟨.refl _, .refl _, .of_eq (congrArg (fun n : Nat => SV.d (dI n)) (by simp)), .refl _, trivial⟩, trivial, trivial, rfl⟩ ?_
 rintro k ⟨hk, hI⟩
 clear hE
 rcases Nat.lt_or_ge k l.length with h | h
 rotate_left
 · have u1 : decide ((k : Int) < (l.length : Int)) = false := decide_eq_false (by omega)
   have : E = 0 := by rw [← hI, Nat.sub_eq_zero_of_le h]; rfl
   subst this
   refine pzr (yB rfl rfl rfl rfl (yQ (pw_seq ?_))); rw [u1]; refine pw_cf rfl (pw_exit (pzr (yAd rfl (yQ (pw_ret ?_)))))
   exact q_ret _ (.tmp rfl .nil) rfl
 have u1 : decide ((k : Int) < (l.length : Int)) = true := decide_eq_true (by omega)
 obtain ⟨⟨a0, a1⟩, ha⟩ : ∃ a, l[k]? = some a := ⟨_, List.getElem?_eq_getElem h⟩
 have ex := ix dAc l k k (a0, a1) rfl ha
 have hw := wrapI ((k : Int) + 1) (by omega)
 have hla := hb _ (List.mem_of_getElem? ha)
 simp only at hla
 have c1 := wAcCheck a0 hla
 rw [chJ_next ha] at hI
 have arith : l.length - (k + 1) < l.length - k := by omega
 obtain ⟨J, hJ⟩ : ∃ J, J = acJ l k (a0, a1) := ⟨_, rfl⟩
 rw [← hJ] at hI
 unfold acJ at hJ
 simp only at hJ
 by_cases e1 : acE a0 = 0
 rotate_left
 · rw [if_pos e1] at hJ
   rw [hJ, if_neg (by omega)] at hI
   subst hI
   have t2 : (acE a0 != 0) = true := by simp [e1]
   obtain ⟨x, hx⟩ : ∃ x, x = acE a0 := ⟨_, rfl⟩
   rw [← hx] at c1 t2
   refine pzr (yB rfl rfl rfl rfl (yQ (pw_seq ?_))); rw [u1]; refine pw_ct rfl (pw_skip (pw_seq (pw_block (pzr (yMd rfl (yW ex (by omega) rfl rfl (yLs (ys := [_, _]) rfl rfl rfl (yZ (cs := [_, _]) rfl rfl (yAd rfl ?_))))))))); refine yS (cs' := [_, _]) rfl rfl rfl rfl rfl (yQ (pw_seq (pw_block (pzr (yFb rfl (yLd rfl rfl rfl (yC (c1) rfl rfl (yB rfl rfl rfl rfl (yAd rfl ?_))))))))); refine yQ (q_then ?_)
   rw [t2]; refine pw_ct rfl ?_; refine pw_seq ?_; refine pw_region ?_; refine yAd rfl ?_; refine yQ ?_; refine pw_ret ?_; refine q_blk_ret ?_; refine q_then_ret ?_; refine q_blk_ret ?_; refine q_then_ret ?_; refine q_then_ret ?_
   refine q_blk_ret ?_; refine q_then_ret ?_
   exact q_ret _ (.tmp rfl .nil) rfl
 rw [e1] at c1
 rw [if_neg (by simp [e1])] at hJ
 by_cases e2 : a1 < 1 ∨ 5 < a1
 · rw [if_pos e2] at hJ
   rw [hJ, if_neg (by omega)] at hI
   subst hI
   by_cases e3 : a1 < 1
   · have t3 : decide (a1 < 1) = true := decide_eq_true e3
     refine pzr (yB rfl rfl rfl rfl (yQ (pw_seq ?_))); rw [u1]; refine pw_ct rfl (pw_skip (pw_seq (pw_block (pzr (yMd rfl (yW ex (by omega) rfl rfl (yLs (ys := [_, _]) rfl rfl rfl (yZ (cs := [_, _]) rfl rfl (yAd rfl ?_))))))))); refine yS (cs' := [_, _]) rfl rfl rfl rfl rfl (yQ (pw_seq (pw_block (pzr (yFb rfl (yLd rfl rfl rfl (yC (c1) rfl rfl (yB rfl rfl rfl rfl (yAd rfl ?_))))))))); refine yQ (pw_cf rfl (pzr (yFb rfl (yLd rfl rfl rfl (yB rfl rfl rfl rfl (yMd rfl ?_)))))); rw [t3]; refine yO rfl (yO rfl (yO rfl (yPd rfl rfl (yAd rfl (yQ (pw_ct rfl (pzr (yAd rfl (yQ ?_))))))))); refine pw_ret (q_blk_ret (q_then_ret (q_blk_ret (q_then_ret (q_then_ret (q_blk_ret (q_then_ret ?_)))))))
     exact q_ret _ (.tmp rfl .nil) rfl
   · have t3 : decide (a1 < 1) = false := decide_eq_false e3
     have t4 : decide (a1 > 5) = true := decide_eq_true (by omega)
     refine pzr (yB rfl rfl rfl rfl (yQ (pw_seq ?_))); rw [u1]; refine pw_ct rfl (pw_skip (pw_seq (pw_block (pzr (yMd rfl (yW ex (by omega) rfl rfl (yLs (ys := [_, _]) rfl rfl rfl (yZ (cs := [_, _]) rfl rfl (yAd rfl ?_))))))))); refine yS (cs' := [_, _]) rfl rfl rfl rfl rfl (yQ (pw_seq (pw_block (pzr (yFb rfl (yLd rfl rfl rfl (yC (c1) rfl rfl (yB rfl rfl rfl rfl (yAd rfl ?_))))))))); refine yQ (pw_cf rfl (pzr (yFb rfl (yLd rfl rfl rfl (yB rfl rfl rfl rfl (yMd rfl ?_)))))); rw [t3]; refine yFb rfl (yLd rfl rfl rfl (yB rfl rfl rfl rfl (yVd rfl rfl (yAd rfl (yQ (q_then ?_)))))); rw [t4]; refine pw_ct rfl (pzr (yAd rfl (yQ (pw_ret (q_blk_ret (q_then_ret (q_blk_ret (q_then_ret (q_then_ret ?_))))))))); refine q_blk_ret (q_then_ret ?_)
     exact q_ret _ (.tmp rfl .nil) rfl
 have t3 : decide (a1 < 1) = false := decide_eq_false (by omega)
 have t4 : decide (a1 > 5) = false := decide_eq_false (by omega)
 rw [if_neg e2] at hJ
 have inner : ∀ (B : Nat) (w0 : Cx) (Q : Exit → PS → Prop), True := fun _ _ _ => trivial
 clear inner
 rcases Nat.eq_zero_or_pos k with hk0 | hk0
 · subst hk0
   rw [if_neg (by simp), if_neg (by simp)] at hJ
   rw [hJ, if_pos rfl] at hI
   have t5 : decide (((0 : Nat) : Int) > 0) = false := rfl
   refine pzr (yB rfl rfl rfl rfl (yQ (pw_seq ?_))); rw [u1]; refine pw_ct rfl (pw_skip (pw_seq (pw_block (pzr (yMd rfl (yW ex (by omega) rfl rfl (yLs (ys := [_, _]) rfl rfl rfl (yZ (cs := [_, _]) rfl rfl (yAd rfl ?_))))))))); refine yS (cs' := [_, _]) rfl rfl rfl rfl rfl (yQ (pw_seq (pw_block (pzr (yFb rfl (yLd rfl rfl rfl (yC (c1) rfl rfl (yB rfl rfl rfl rfl (yAd rfl ?_))))))))); refine yQ (pw_cf rfl (pzr (yFb rfl (yLd rfl rfl rfl (yB rfl rfl rfl rfl (yMd rfl ?_)))))); rw [t3]; refine yFb rfl (yLd rfl rfl rfl (yB rfl rfl rfl rfl (yVd rfl rfl (yAd rfl (yQ (q_then ?_)))))); rw [t4]; refine pw_cf rfl (pw_seq ?_); refine pw_draw Tryz.mixed (by kernel_rfl) ?_; refine yMd rfl (yB rfl rfl rfl rfl (yMd rfl (yO rfl (yO rfl (yO rfl (yO rfl (yO rfl (yO rfl (yO rfl ?_))))))))); refine yO rfl (yO rfl (yVd rfl rfl (yAd rfl (yQ (pw_cf rfl (pw_skip (pzr (yMd rfl (yMd rfl ?_))))))))); refine yDh (by omega) (by simp) rfl rfl ?_; refine yN rfl (yMd rfl (yQ (pw_block ?_))); rw [t5]
   refine pw_loop (fun m : Nat => ⟨67, [(0, .d (.sl 2 (l.map dAc))), (10, .d (.sl 2 (l.map dAc))), (11, .d (dI l.length)), (12, .d (dI ((0 : Nat) : Int))), (48, .d (dI 0)), (49, .d (dI 0))], [], []⟩) (fun m => m = 0) (fun _ => 0) 0 rfl
    ⟨rfl, ⟨.refl _, .refl _, .refl _, .refl _, .of_eq (congrArg (fun n : Nat => SV.d (dI n)) (by simp)), .refl _, trivial⟩, trivial, trivial, rfl⟩ ?_
   rintro m rfl
   refine pzr (yB rfl rfl rfl rfl (yQ (pw_seq (pw_cf rfl (pw_exit (pw_region (yB rfl rfl rfl rfl (yMd rfl (yQ ?_))))))))); refine q_then ?_
   exact ⟨0 + 1, ⟨h, hI⟩, arith, rfl, ⟨.refl _, .refl _, .refl _, .of_eq (congrArg (fun n => SV.d (dI n)) hw), trivial⟩, trivial, trivial, rfl⟩
 have t5 : decide ((k : Int) > 0) = true := decide_eq_true (by omega)
 obtain ⟨⟨p0, p1⟩, hp⟩ : ∃ a, l[k - 1]? = some a := ⟨_, List.getElem?_eq_getElem (by omega)⟩
 have ep := ix dAc l ((k : Int) - 1) (k - 1) (p0, p1) (by omega) hp
 have hwk := wrapI ((k : Int) - 1) (by omega)
 have hle := le_nlt a0 p0
 rw [hp] at hJ
 simp only [Option.getD_some] at hJ
 cases hlt : lt8 p0 a0 with
 | false =>
  rw [hlt] at hle
  rw [if_pos ⟨by omega, hlt⟩] at hJ
  rw [hJ, if_neg (by omega)] at hI
  subst hI
  refine pzr (yB rfl rfl rfl rfl (yQ (pw_seq ?_))); rw [u1]; refine pw_ct rfl (pw_skip (pw_seq (pw_block (pzr (yMd rfl (yW ex (by omega) rfl rfl (yLs (ys := [_, _]) rfl rfl rfl (yZ (cs := [_, _]) rfl rfl (yAd rfl ?_))))))))); refine yS (cs' := [_, _]) rfl rfl rfl rfl rfl (yQ (pw_seq (pw_block (pzr (yFb rfl (yLd rfl rfl rfl (yC (c1) rfl rfl (yB rfl rfl rfl rfl (yAd rfl ?_))))))))); refine yQ (pw_cf rfl (pzr (yFb rfl (yLd rfl rfl rfl (yB rfl rfl rfl rfl (yMd rfl ?_)))))); rw [t3]; refine yFb rfl (yLd rfl rfl rfl (yB rfl rfl rfl rfl (yVd rfl rfl (yAd rfl (yQ (q_then ?_)))))); rw [t4]; refine pw_cf rfl (pw_seq ?_); refine pw_draw Tryz.mixed (by kernel_rfl) ?_; refine yMd rfl (yB rfl rfl rfl rfl (yMd rfl ?_)); rw [t5]; refine yFb rfl (yLd rfl rfl rfl (yMd rfl (yMd rfl (yB rfl rfl rfl rfl ?_)))); rw [hwk]; refine yW ep (by omega) rfl rfl (yFr rfl rfl (yLr rfl rfl (yBsm rfl rfl (yPd rfl rfl (yAd rfl (yQ (q_then ?_))))))); rw [hle]; refine pw_ct rfl (pzr (yAd rfl (yQ (pw_ret (q_blk_ret (q_then_ret (q_blk_ret (q_then_ret (q_then_ret ?_))))))))); refine q_blk_ret (q_then_ret ?_)
  exact q_ret _ (.tmp rfl .nil) rfl
 | true =>
 rw [hlt] at hle
 rw [if_neg (fun h => by rw [hlt] at h; exact absurd h.2 (by simp))] at hJ
 obtain ⟨P, hP⟩ : ∃ P, P = l.take k := ⟨_, rfl⟩
 have hPl : P.length = k := by rw [hP, List.length_take]; omega
 have htk : (l.map dAc).take (k : Int).toNat = P.map dAc := by rw [Int.toNat_natCast, hP, List.map_take]
 rw [← hP] at hJ
 refine pzr (yB rfl rfl rfl rfl (yQ (pw_seq ?_))); rw [u1]; refine pw_ct rfl (pw_skip (pw_seq (pw_block (pzr (yMd rfl (yW ex (by omega) rfl rfl (yLs (ys := [_, _]) rfl rfl rfl (yZ (cs := [_, _]) rfl rfl (yAd rfl ?_))))))))); refine yS (cs' := [_, _]) rfl rfl rfl rfl rfl (yQ (pw_seq (pw_block (pzr (yFb rfl (yLd rfl rfl rfl (yC (c1) rfl rfl (yB rfl rfl rfl rfl (yAd rfl ?_))))))))); refine yQ (pw_cf rfl (pzr (yFb rfl (yLd rfl rfl rfl (yB rfl rfl rfl rfl (yMd rfl ?_)))))); rw [t3]; refine yFb rfl (yLd rfl rfl rfl (yB rfl rfl rfl rfl (yVd rfl rfl (yAd rfl (yQ (q_then ?_)))))); rw [t4]; refine pw_cf rfl (pw_seq ?_); refine pw_draw Tryz.mixed (by kernel_rfl) ?_; refine yMd rfl (yB rfl rfl rfl rfl (yMd rfl ?_)); rw [t5]; refine yFb rfl (yLd rfl rfl rfl (yMd rfl (yMd rfl (yB rfl rfl rfl rfl ?_)))); rw [hwk]; refine yW ep (by omega) rfl rfl (yFr rfl rfl (yLr rfl rfl (yBsm rfl rfl (yPd rfl rfl (yAd rfl (yQ (q_then ?_))))))); rw [hle]; refine pw_cf rfl (pw_skip (pzr (yMd rfl (yMd rfl ?_)))); refine yDh (by omega) (by rw [List.length_map]; omega) rfl rfl ?_; refine yN rfl (yMd rfl (yQ (pw_block ?_))); rw [htk]
 refine pw_loop (fun m : Nat => ⟨67, [(0, .d (.sl 2 (l.map dAc))), (10, .d (.sl 2 (l.map dAc))), (11, .d (dI l.length)), (12, .d (dI k)), (4, .bx 4 0), (47, .d (.sl 2 (P.map dAc))), (48, .d (dI k)), (49, .d (dI m))], [(4, [.d (dS a0), .d (dI a1)])], []⟩) (fun m => m ≤ k ∧ ∀ (j : Nat) x, j < m → P[j]? = some x → (undB a0 x.1 && !(a1 == x.2)) = false) (fun m => k - m) 0 ⟨Nat.zero_le _, fun j x hj => absurd hj (Nat.not_lt_zero _)⟩
  ⟨rfl, ⟨.refl _, .refl _, .refl _, .refl _, .refl _, .refl _, .of_eq (congrArg (fun n : Nat => SV.d (dI n)) (by simp [hPl])), .refl _, trivial⟩, ⟨⟨_, rfl, lesC_refl _⟩, trivial⟩, trivial, rfl⟩ ?_
 rintro m ⟨hm, hno⟩
 rcases Nat.lt_or_ge m k with h2 | h2
 rotate_left
 · have u2 : decide ((m : Int) < (k : Int)) = false := decide_eq_false (by omega)
   rw [any_none (by omega) hno, if_neg (by simp)] at hJ
   rw [hJ, if_pos rfl] at hI
   refine pzr (yB rfl rfl rfl rfl (yQ (pw_seq ?_))); rw [u2]; refine pw_cf rfl (pw_exit (pw_region (yB rfl rfl rfl rfl (yMd rfl (yQ (q_then ?_))))))
   exact ⟨k + 1, ⟨h, hI⟩, arith, rfl, ⟨.refl _, .refl _, .refl _, .of_eq (congrArg (fun n => SV.d (dI n)) hw), trivial⟩, trivial, trivial, rfl⟩
 have u2 : decide ((m : Int) < (k : Int)) = true := decide_eq_true (by omega)
 obtain ⟨⟨b0, b1⟩, hbm⟩ : ∃ a, P[m]? = some a := ⟨_, List.getElem?_eq_getElem (by omega)⟩
 have eb := ix dAc P m m (b0, b1) rfl hbm
 have hw2 := wrapI ((m : Int) + 1) (by omega)
 have c2 := wUnder a0 b0
 have arith2 : k - (m + 1) < k - m := by omega
 have nxt : (undB a0 b0 && !(a1 == b1)) = false → ∀ (j : Nat) x, j < m + 1 → P[j]? = some x → (undB a0 x.1 && !(a1 == x.2)) = false := fun he j x hj hx => by
  rcases Nat.lt_or_ge j m with h3 | h3
  · exact hno j x h3 hx
  · obtain rfl : j = m := by omega
    rw [hbm] at hx; cases hx; exact he
 have bad : (undB a0 b0 && !(a1 == b1)) = true → E = 18 := fun he => by
  rw [if_pos (List.any_eq_true.2 ⟨_, List.mem_of_getElem? hbm, he⟩)] at hJ
  rw [hJ, if_neg (by omega)] at hI
  exact hI.symm
 clear hJ hI hno hP ep hle htk
 cases hu : undB a0 b0 with
 | false =>
  rw [hu] at c2 nxt
  have hn2 := nxt (by rfl)
  refine pzr (yB rfl rfl rfl rfl (yQ (pw_seq ?_))); rw [u2]; refine pw_ct rfl (pw_skip (pw_seq (pw_block (pzr (yW eb (by omega) rfl rfl (yLs (ys := [_, _]) rfl rfl rfl (yZ (cs := [_, _]) rfl rfl (yS (cs' := [_, _]) rfl rfl rfl rfl rfl (yQ ?_))))))))); refine pzr (yFb rfl (yLd rfl rfl rfl (yFb rfl (yLd rfl rfl rfl (yC (c2) rfl rfl (yMd rfl (yO rfl (yO rfl (yO rfl ?_))))))))); refine yO rfl (yO rfl (yVd rfl rfl (yQ (pw_cf rfl (pw_skip (pw_region (yB rfl rfl rfl rfl (yMd rfl (yQ ?_))))))))); refine q_then ?_
  exact ⟨m + 1, ⟨h2, hn2⟩, arith2, rfl, ⟨.refl _, .refl _, .refl _, .refl _, .refl _, .refl _, .refl _, .of_eq (congrArg (fun n => SV.d (dI n)) hw2), trivial⟩, ⟨⟨_, rfl, lesC_refl _⟩, trivial⟩, trivial, rfl⟩
 | true =>
  rw [hu] at c2 nxt bad
  by_cases he : a1 = b1
  · have t6 : (a1 != b1) = false := by simp [he]
    have hn2 := nxt (by simp [he])
    refine pzr (yB rfl rfl rfl rfl (yQ (pw_seq ?_))); rw [u2]; refine pw_ct rfl (pw_skip (pw_seq (pw_block (pzr (yW eb (by omega) rfl rfl (yLs (ys := [_, _]) rfl rfl rfl (yZ (cs := [_, _]) rfl rfl (yS (cs' := [_, _]) rfl rfl rfl rfl rfl (yQ ?_))))))))); refine pzr (yFb rfl (yLd rfl rfl rfl (yFb rfl (yLd rfl rfl rfl (yC (c2) rfl rfl (yMd rfl (yFb rfl (yLd rfl rfl rfl (yFb rfl ?_))))))))); refine yLd rfl rfl rfl (yB rfl rfl rfl rfl (yPd rfl rfl (yQ (q_then ?_)))); rw [t6]; refine pw_cf rfl (pw_skip (pw_region (yB rfl rfl rfl rfl (yMd rfl (yQ (q_then ?_))))))
    exact ⟨m + 1, ⟨h2, hn2⟩, arith2, rfl, ⟨.refl _, .refl _, .refl _, .refl _, .refl _, .refl _, .refl _, .of_eq (congrArg (fun n => SV.d (dI n)) hw2), trivial⟩, ⟨⟨_, rfl, lesC_refl _⟩, trivial⟩, trivial, rfl⟩
  · have t6 : (a1 != b1) = true := by simp [he]
    have hE := bad (by simp [he])
    subst hE
    refine pzr (yB rfl rfl rfl rfl (yQ (pw_seq ?_))); rw [u2]; refine pw_ct rfl (pw_skip (pw_seq (pw_block (pzr (yW eb (by omega) rfl rfl (yLs (ys := [_, _]) rfl rfl rfl (yZ (cs := [_, _]) rfl rfl (yS (cs' := [_, _]) rfl rfl rfl rfl rfl (yQ ?_))))))))); refine pzr (yFb rfl (yLd rfl rfl rfl (yFb rfl (yLd rfl rfl rfl (yC (c2) rfl rfl (yMd rfl (yFb rfl (yLd rfl rfl rfl (yFb rfl ?_))))))))); refine yLd rfl rfl rfl (yB rfl rfl rfl rfl (yPd rfl rfl (yQ (q_then ?_)))); rw [t6]; refine pw_ct rfl (pzr (yAd rfl (yQ (pw_ret (q_blk_ret (q_then_ret (q_then_ret (q_blk_ret (q_blk_ret ?_))))))))); refine q_then_ret (q_then_ret (q_blk_ret (q_then_ret ?_)))
    exact q_ret _ (.tmp rfl .nil) rfl
abbrev dKd (kw : Str) (nms : List Str) (sg : Str) : List DV := [dS kw, dStrs nms, dS sg]
def sgBad (sg s : Str) : Bool := (s == [42] && !sg.contains 42) || (s == [43] && !sg.contains 43)
theorem luE_eq (n : Int) (kw : Str) (nms : List Str) (sg : Str) (ch : List Ac) (x : Ln) : luE nf (n, kw, nms, sg) ch x = if (spl 46 x.1).any (sgBad sg) = true then 9 else if (nf x.2.2).any (fun c => !nms.contains c.1) = true then 6 else if (fndA x.1 ch).2 then 0 else 6 := rfl
theorem wCl1 (kw : Str) (nms : List Str) (sg : Str) (hn : nms.length ≤ 1000000) : ∀ xs r, phC (fun c => !nms.contains c.1) xs r → PCalls Tryz.prog 109 (xs ++ [dKd kw nms sg].map DV.ref) r := by
 rintro _ _ ⟨⟨c0, c1⟩, rfl, rfl⟩
 show PCalls Tryz.prog 109 [.agg [dS c0, dS c1], .ref [dS kw, dStrs nms, dS sg]] _
 have k1 := wContS nms c0 hn
 obtain ⟨b, hb⟩ : ∃ b, b = nms.contains c0 := ⟨_, rfl⟩
 rw [← hb] at k1
 show PCalls Tryz.prog 109 [.agg [dS c0, dS c1], .ref [dS kw, dStrs nms, dS sg]] (.d (dB (!nms.contains c0)))
 rw [← hb]
 refine pcalls_of_pw Tryz.func109 rfl Tryz.ntmps109 Tryz.results109 (by simp) fun B w0 => ?_
 refine pw_ref 1 rfl ?_; refine pzr (yK (cs := [_, _]) rfl rfl (yAd rfl (yQ (pzr (yFr rfl rfl (yLr rfl rfl (yFb rfl (yLd rfl rfl rfl (yC (k1) rfl rfl ?_))))))))); refine yU rfl rfl rfl (yAd rfl (yQ (pw_ret ?_)))
 exact q_ret _ (.tmp rfl .nil) rfl
theorem wCheckLine (n : Int) (kw : Str) (nms : List Str) (sg : Str) (ch : List Ac) (x : Ln) (hn : nms.length ≤ 1000000) (hx : bdN x) (h0 : chE x.2.2 = 0) : PCalls Tryz.prog 57 [.agg (dKd kw nms sg), .agg (dLn x), .sl 2 (ch.map dAc)] (.d (dI (luE nf (n, kw, nms, sg) ch x))) := by
 obtain ⟨a, c, e⟩ := x
 obtain ⟨b1, b2, b3⟩ := hx
 simp only at b1 b2 b3 h0
 obtain ⟨E, hE⟩ : ∃ E, E = luE nf (n, kw, nms, sg) ch (a, c, e) := ⟨_, rfl⟩
 rw [← hE]
 rw [luE_eq] at hE
 simp only at hE
 have k1 := wSplit a 46 b1
 have hsl : (spl 46 a).length ≤ 1000001 := Nat.le_trans (spl_length 46 a) (by omega)
 have k2 := wNormalE e b2 fun c hc => (b3 c hc).2
 rw [h0, nmE, if_pos h0] at k2
 have hnl := nf_len e
 have k3 := wHasC (fun c => !nms.contains c.1) (nf e) (by have := (chE_zero.1 h0).1; omega)
 have k4 := wFindA ch a
 have k5 := wContains sg 42
 have k6 := wContains sg 43
 have h1 := wCl1 kw nms sg hn
 obtain ⟨SS, hS⟩ : ∃ SS, SS = spl 46 a := ⟨_, rfl⟩
 rw [← hS] at hE k1 hsl
 obtain ⟨N, hN⟩ : ∃ N, N = nf e := ⟨_, rfl⟩
 rw [← hN] at hE k2 k3
 obtain ⟨⟨f0, f1⟩, hf⟩ : ∃ f, f = fndA a ch := ⟨_, rfl⟩
 obtain ⟨f00, f01⟩ := f0
 rw [← hf] at hE k4
 simp only at hE k4
 clear hS hN hf h0 b1 b2 b3 hnl
 refine pcalls_of_pw Tryz.func57 rfl Tryz.ntmps57 Tryz.results57 (by simp) fun B w0 => ?_
 refine pzr (yK (cs := [_, _, _]) rfl rfl (yK (cs := [_, _, _]) rfl rfl (yAd rfl (yQ (pw_seq (pzr (yFb rfl (yLd rfl rfl rfl (yC (k1) rfl rfl ?_))))))))); refine yN rfl (yMd rfl (yQ (pw_block ?_))); refine pw_loop (fun i : Nat => ⟨53, [(2, .d (.sl 2 (ch.map dAc))), (3, .bx 3 0), (4, .bx 4 0), (15, .d (.sl 1 (SS.map fun t => [dS t]))), (16, .d (dI SS.length)), (17, .d (dI i))], [(3, [.d (dS kw), .d (dStrs nms), .d (dS sg)]), (4, [.d (dS a), .d (dB c), .d (.sl 2 (e.map dCf))])], []⟩) (fun i => i ≤ SS.length ∧ ∀ (j : Nat) x, j < i → SS[j]? = some x → sgBad sg x = false) (fun i => SS.length - i) 0 ⟨Nat.zero_le _, fun j x hj => absurd hj (Nat.not_lt_zero _)⟩
  ⟨rfl, ⟨.refl _, .refl _, .refl _, .refl _, .of_eq (congrArg (fun n : Nat => SV.d (dI n)) (by simp)), .refl _, trivial⟩, ⟨⟨_, rfl, lesC_refl _⟩, ⟨_, rfl, lesC_refl _⟩, trivial⟩, trivial, rfl⟩ ?_
 rintro i ⟨hi, hno⟩
 rcases Nat.lt_or_ge i SS.length with h | h
 · have u1 : decide ((i : Int) < (SS.length : Int)) = true := decide_eq_true (by omega)
   obtain ⟨s, hs⟩ : ∃ s, SS[i]? = some s := ⟨_, List.getElem?_eq_getElem h⟩
   have es := ix (fun t => [dS t]) SS i i s rfl hs
   have hw := wrapI ((i : Int) + 1) (by omega)
   have arith : SS.length - (i + 1) < SS.length - i := by omega
   have bad : sgBad sg s = true → E = 9 := fun hb => by
    rw [if_pos (List.any_eq_true.2 ⟨s, List.mem_of_getElem? hs, hb⟩)] at hE
    exact hE
   have nxt : sgBad sg s = false → ∀ (j : Nat) x, j < i + 1 → SS[j]? = some x → sgBad sg x = false := fun hb => none_next hs hno hb
   clear hE hno
   by_cases h42 : s = [42]
   · subst h42
     have e1 : sgBad sg [42] = !sg.contains 42 := by simp [sgBad]
     rw [e1] at bad nxt
     cases hc : sg.contains 42 with
     | true =>
      rw [hc] at k5 nxt
      have hn2 := nxt rfl
      refine pzr (yB rfl rfl rfl rfl (yQ (pw_seq ?_))); rw [u1]; refine pw_ct rfl (pw_skip (pw_seq (pw_block (pzr (yW es (by omega) rfl rfl (yLr rfl rfl (yAd rfl (yQ (pzr ?_))))))))); refine yMd rfl (yBse rfl rfl (yMd rfl (yO rfl (yO rfl (yPd rfl rfl (yMd rfl (yFb rfl (yLd rfl rfl rfl (yMd rfl ?_))))))))); refine yC (k5) rfl rfl (yU rfl rfl rfl (yPd rfl rfl (yQ (pw_cf rfl (pw_skip (pw_region (yB rfl rfl rfl rfl (yMd rfl (yQ ?_))))))))); refine q_then ?_
      exact ⟨i + 1, ⟨h, hn2⟩, arith, rfl, ⟨.refl _, .refl _, .refl _, .refl _, .refl _, .of_eq (congrArg (fun n => SV.d (dI n)) hw), trivial⟩, ⟨⟨_, rfl, lesC_refl _⟩, ⟨_, rfl, lesC_refl _⟩, trivial⟩, trivial, rfl⟩
     | false =>
      rw [hc] at k5 bad
      have hE9 := bad rfl
      subst hE9
      refine pzr (yB rfl rfl rfl rfl (yQ (pw_seq ?_))); rw [u1]; refine pw_ct rfl (pw_skip (pw_seq (pw_block (pzr (yW es (by omega) rfl rfl (yLr rfl rfl (yAd rfl (yQ (pzr ?_))))))))); refine yMd rfl (yBse rfl rfl (yMd rfl (yO rfl (yO rfl (yPd rfl rfl (yMd rfl (yFb rfl (yLd rfl rfl rfl (yMd rfl ?_))))))))); refine yC (k5) rfl rfl (yU rfl rfl rfl (yPd rfl rfl (yQ (pw_ct rfl (pzr (yAd rfl (yQ (pw_ret (q_blk_ret ?_))))))))); refine q_then_ret (q_then_ret (q_blk_ret (q_then_ret ?_)))
      exact q_ret _ (.tmp rfl .nil) rfl
   have t42 : (s == [42]) = false := by simp [h42]
   by_cases h43 : s = [43]
   · subst h43
     have e1 : sgBad sg [43] = !sg.contains 43 := by simp [sgBad]
     rw [e1] at bad nxt
     cases hc : sg.contains 43 with
     | true =>
      rw [hc] at k6 nxt
      have hn2 := nxt rfl
      refine pzr (yB rfl rfl rfl rfl (yQ (pw_seq ?_))); rw [u1]; refine pw_ct rfl (pw_skip (pw_seq (pw_block (pzr (yW es (by omega) rfl rfl (yLr rfl rfl (yAd rfl (yQ (pzr ?_))))))))); refine yMd rfl (yBse rfl rfl (yMd rfl (yMd rfl (yBse rfl rfl (yVd rfl rfl (yMd rfl (yFb rfl (yLd rfl rfl rfl (yMd rfl ?_))))))))); refine yC (k6) rfl rfl (yU rfl rfl rfl (yPd rfl rfl (yQ (pw_cf rfl (pw_skip (pw_region (yB rfl rfl rfl rfl (yMd rfl (yQ ?_))))))))); refine q_then ?_
      exact ⟨i + 1, ⟨h, hn2⟩, arith, rfl, ⟨.refl _, .refl _, .refl _, .refl _, .refl _, .of_eq (congrArg (fun n => SV.d (dI n)) hw), trivial⟩, ⟨⟨_, rfl, lesC_refl _⟩, ⟨_, rfl, lesC_refl _⟩, trivial⟩, trivial, rfl⟩
     | false =>
      rw [hc] at k6 bad
      have hE9 := bad rfl
      subst hE9
      refine pzr (yB rfl rfl rfl rfl (yQ (pw_seq ?_))); rw [u1]; refine pw_ct rfl (pw_skip (pw_seq (pw_block (pzr (yW es (by omega) rfl rfl (yLr rfl rfl (yAd rfl (yQ (pzr ?_))))))))); refine yMd rfl (yBse rfl rfl (yMd rfl (yMd rfl (yBse rfl rfl (yVd rfl rfl (yMd rfl (yFb rfl (yLd rfl rfl rfl (yMd rfl ?_))))))))); refine yC (k6) rfl rfl (yU rfl rfl rfl (yPd rfl rfl (yQ (pw_ct rfl (pzr (yAd rfl (yQ (pw_ret (q_blk_ret ?_))))))))); refine q_then_ret (q_then_ret (q_blk_ret (q_then_ret ?_)))
      exact q_ret _ (.tmp rfl .nil) rfl
   have t43 : (s == [43]) = false := by simp [h43]
   have hn2 := nxt (by simp [sgBad, t42, t43])
   refine pzr (yB rfl rfl rfl rfl (yQ (pw_seq ?_))); rw [u1]; refine pw_ct rfl (pw_skip (pw_seq (pw_block (pzr (yW es (by omega) rfl rfl (yLr rfl rfl (yAd rfl (yQ (pzr ?_))))))))); refine yMd rfl (yBse rfl rfl (yMd rfl ?_)); rw [t42]; refine yMd rfl (yBse rfl rfl (yVd rfl rfl (yMd rfl ?_))); rw [t43]; refine yO rfl (yO rfl (yO rfl (yO rfl (yO rfl (yVd rfl rfl (yQ (pw_cf rfl (pw_skip (pw_region ?_))))))))); refine yB rfl rfl rfl rfl (yMd rfl (yQ (q_then ?_)))
   exact ⟨i + 1, ⟨h, hn2⟩, arith, rfl, ⟨.refl _, .refl _, .refl _, .refl _, .refl _, .of_eq (congrArg (fun n => SV.d (dI n)) hw), trivial⟩, ⟨⟨_, rfl, lesC_refl _⟩, ⟨_, rfl, lesC_refl _⟩, trivial⟩, trivial, rfl⟩
 · have u1 : decide ((i : Int) < (SS.length : Int)) = false := decide_eq_false (by omega)
   rw [any_none h hno, if_neg (by simp)] at hE
   clear hno
   cases hc : (N.any fun c => !nms.contains c.1) with
   | true =>
    rw [hc] at k3 hE
    rw [if_pos rfl] at hE
    subst hE
    refine pzr (yB rfl rfl rfl rfl (yQ (pw_seq ?_))); rw [u1]; refine pw_cf rfl (pw_exit (pzr (yFb rfl (yLd rfl rfl rfl (yC (k2) rfl rfl (yMp rfl (yX rfl rfl (yX rfl rfl (yAd rfl ?_))))))))); refine yAd rfl (yQ (pw_seq (pzr (yMd rfl (yCm rfl ?_))))); refine yCf k3 (.d rfl (.fn inferInstance rfl rfl h1 .nil)) rfl ?_; refine yQ (pw_ct rfl (pzr (yAd rfl (yQ (pw_ret (q_then_ret ?_))))))
    exact q_ret _ (.tmp rfl .nil) rfl
   | false =>
    rw [hc] at k3 hE
    rw [if_neg (by simp)] at hE
    cases f1 with
    | true =>
     rw [if_pos rfl] at hE
     subst hE
     refine pzr (yB rfl rfl rfl rfl (yQ (pw_seq ?_))); rw [u1]; refine pw_cf rfl (pw_exit (pzr (yFb rfl (yLd rfl rfl rfl (yC (k2) rfl rfl (yMp rfl (yX rfl rfl (yX rfl rfl (yAd rfl ?_))))))))); refine yAd rfl (yQ (pw_seq (pzr (yMd rfl (yCm rfl ?_))))); refine yCf k3 (.d rfl (.fn inferInstance rfl rfl h1 .nil)) rfl ?_; refine yQ (pw_cf rfl (pw_skip (pw_seq (pzr (yMd rfl (yFb rfl (yLd rfl rfl rfl (yC (k4) rfl rfl (yMp rfl ?_))))))))); refine yX rfl rfl (yX rfl rfl (yZ (cs := [_, _]) rfl rfl (yS (cs' := [_, _]) rfl rfl rfl rfl rfl (yAd rfl (yQ (pzr (yMd rfl (yU rfl rfl rfl (yQ ?_))))))))); refine pw_cf rfl (pw_skip (pzr (yAd rfl (yQ (pw_ret ?_)))))
     exact q_ret _ (.tmp rfl .nil) rfl
    | false =>
     rw [if_neg (by simp)] at hE
     subst hE
     refine pzr (yB rfl rfl rfl rfl (yQ (pw_seq ?_))); rw [u1]; refine pw_cf rfl (pw_exit (pzr (yFb rfl (yLd rfl rfl rfl (yC (k2) rfl rfl (yMp rfl (yX rfl rfl (yX rfl rfl (yAd rfl ?_))))))))); refine yAd rfl (yQ (pw_seq (pzr (yMd rfl (yCm rfl ?_))))); refine yCf k3 (.d rfl (.fn inferInstance rfl rfl h1 .nil)) rfl ?_; refine yQ (pw_cf rfl (pw_skip (pw_seq (pzr (yMd rfl (yFb rfl (yLd rfl rfl rfl (yC (k4) rfl rfl (yMp rfl ?_))))))))); refine yX rfl rfl (yX rfl rfl (yZ (cs := [_, _]) rfl rfl (yS (cs' := [_, _]) rfl rfl rfl rfl rfl (yAd rfl (yQ (pzr (yMd rfl (yU rfl rfl rfl (yQ ?_))))))))); refine pw_ct rfl (pzr (yAd rfl (yQ (pw_ret (q_then_ret ?_)))))
     exact q_ret _ (.tmp rfl .nil) rfl
def ruI (l : List Ru) (ch : List Ac) : Int × Int := if ctE ch ≠ 0 then (0, 1) else if 64 < l.length then (0, 4) else useI (tmpB nameB) chE nf ch 0 [] l
theorem lusE_next {nm : List Cf → List Cf} {kk : Knd} {ch : List Ac} {ls : List Ln} {k : Nat} {l : Ln} (h : ls[k]? = some l) : lusE nm kk ch (ls.drop k) = if luE nm kk ch l = 0 then lusE nm kk ch (ls.drop (k + 1)) else luE nm kk ch l := by
 obtain ⟨h1, h2⟩ := List.getElem?_eq_some_iff.1 h
 rw [List.drop_eq_getElem_cons h1, h2, lusE]
theorem useI_next {ch : List Ac} {l : List Ru} {k : Nat} {r : Ru} (h : l[k]? = some r) : useI (tmpB nameB) chE nf ch k (l.take k) (l.drop k) =
 if rulE r ≠ 0 then ((k : Int), rulE r)
 else if ((l.take k).any fun x => x.1 == r.1) = true then ((k : Int), 5)
 else match kndF r.1 with
  | none => (0, 0)
  | some kk => if lusE nf kk ch r.2 ≠ 0 then ((k : Int), lusE nf kk ch r.2) else if balB r.2 then useI (tmpB nameB) chE nf ch (k + 1) (l.take (k + 1)) (l.drop (k + 1)) else ((k : Int), 14) := by
 obtain ⟨h1, h2⟩ := List.getElem?_eq_some_iff.1 h
 rw [List.drop_eq_getElem_cons h1, h2, useI, List.take_add_one, h]
 rfl
theorem fndR_any (l : List Ru) (n : Int) : (fndR l n).isSome = l.any fun x => x.1 == n := by
 unfold fndR
 induction l with
 | nil => rfl
 | cons x l ih =>
  rw [List.find?_cons, List.any_cons]
  cases x.1 == n with
  | true => rfl
  | false => simpa using ih
theorem wCheckRu (l : List Ru) (ch : List Ac) (hl : l.length ≤ 1000000) (hb : ∀ r ∈ l, bdR r) (hc : ch.length ≤ 1000000) (hcb : ∀ a ∈ ch, a.1.length ≤ 1000000) : PCalls Tryz.prog 14 [dRus l, .sl 2 (ch.map dAc)] (.tup [dI (ruI l ch).1, dI (ruI l ch).2]) := by
 have c0 := wCheckAll ch hc hcb
 have k0 := wKinds
 obtain ⟨⟨E1, E2⟩, hE⟩ : ∃ E, E = ruI l ch := ⟨_, rfl⟩
 rw [← hE]
 unfold ruI at hE
 by_cases h0 : ctE ch = 0
 rotate_left
 · have t1 : (ctE ch != 0) = true := by simp [h0]
   rw [if_pos h0] at hE
   cases hE
   obtain ⟨x, hx⟩ : ∃ x, x = ctE ch := ⟨_, rfl⟩
   rw [← hx] at c0 t1
   refine pcalls_of_pw Tryz.func14 rfl Tryz.ntmps14 Tryz.results14 (by simp) fun B w0 => ?_
   refine pzr (yAd rfl (yAd rfl (yQ (pw_seq (pzr (yMd rfl (yC (c0) rfl rfl (yB rfl rfl rfl rfl (yQ ?_))))))))); refine q_then ?_; rw [t1]; refine pw_ct rfl (pzr (yAd rfl (yAd rfl (yQ (pw_ret (q_then_ret ?_))))))
   exact q_ret _ (.tmp rfl (.tmp rfl .nil)) rfl
 rw [if_neg (by simp [h0])] at hE
 rw [h0] at c0
 by_cases h1 : 64 < l.length
 · have t2 : decide (((l.map dRu).length : Int) > 64) = true := decide_eq_true (by rw [List.length_map]; omega)
   rw [if_pos h1] at hE
   cases hE
   refine pcalls_of_pw Tryz.func14 rfl Tryz.ntmps14 Tryz.results14 (by simp) fun B w0 => ?_
   refine pzr (yAd rfl (yAd rfl (yQ (pw_seq (pzr (yMd rfl (yC (c0) rfl rfl (yB rfl rfl rfl rfl (yQ ?_))))))))); refine pw_cf rfl (pw_skip (pw_seq (pzr (yMd rfl (yN rfl (yB rfl rfl rfl rfl (yQ (q_then ?_)))))))); rw [t2]
   refine pw_ct rfl (pzr (yAd rfl (yAd rfl (yQ (pw_ret (q_then_ret ?_))))))
   exact q_ret _ (.tmp rfl (.tmp rfl .nil)) rfl
 have t2 : decide (((l.map dRu).length : Int) > 64) = false := decide_eq_false (by rw [List.length_map]; omega)
 rw [if_neg h1] at hE
 refine pcalls_of_pw Tryz.func14 rfl Tryz.ntmps14 Tryz.results14 (by simp) fun B w0 => ?_
 refine pzr (yAd rfl (yAd rfl (yQ (pw_seq (pzr (yMd rfl (yC (c0) rfl rfl (yB rfl rfl rfl rfl (yQ ?_))))))))); refine pw_cf rfl (pw_skip (pw_seq (pzr (yMd rfl (yN rfl (yB rfl rfl rfl rfl (yQ (q_then ?_)))))))); rw [t2]
 refine pw_cf rfl (pw_skip (pw_seq (pzr (yMd rfl (yN rfl (yMd rfl (yQ (pw_block ?_))))))))
 clear c0 h0 hc hcb
 refine pw_loop (fun k : Nat => ⟨68, [(0, .d (dRus l)), (1, .d (.sl 2 (ch.map dAc))), (20, .d (dRus l)), (21, .d (dI l.length)), (22, .d (dI k))], [], []⟩) (fun k => k ≤ l.length ∧ useI (tmpB nameB) chE nf ch k (l.take k) (l.drop k) = (E1, E2)) (fun k => l.length - k) 0 ⟨Nat.zero_le _, hE.symm⟩
  ⟨rfl, ⟨.refl _, .refl _, .refl _, .of_eq (congrArg (fun n : Nat => SV.d (dI n)) (by simp)), .refl _, trivial⟩, trivial, trivial, rfl⟩ ?_
 rintro k ⟨hk, hI⟩
 clear hE
 rcases Nat.lt_or_ge k l.length with h | h
 rotate_left
 · have u1 : decide ((k : Int) < (l.length : Int)) = false := decide_eq_false (by omega)
   rw [List.drop_eq_nil_of_le h] at hI
   cases hI
   refine pzr (yB rfl rfl rfl rfl (yQ (pw_seq ?_))); rw [u1]; refine pw_cf rfl (pw_exit (pzr (yAd rfl (yAd rfl (yQ (pw_ret ?_))))))
   exact q_ret _ (.tmp rfl (.tmp rfl .nil)) rfl
 have u1 : decide ((k : Int) < (l.length : Int)) = true := decide_eq_true (by omega)
 obtain ⟨r, hr⟩ : ∃ a, l[k]? = some a := ⟨_, List.getElem?_eq_getElem h⟩
 have hbr := hb _ (List.mem_of_getElem? hr)
 rw [useI_next hr] at hI
 have ex := ix dRu l k k r rfl hr
 have hw := wrapI ((k : Int) + 1) (by omega)
 have c1 := wRCheckR r hbr
 have c2 := wFindR (l.take k) r.1 (by rw [List.length_take]; omega)
 have htk : (l.map dRu).take (k : Int).toNat = (l.take k).map dRu := by rw [Int.toNat_natCast, List.map_take]
 have arith : l.length - (k + 1) < l.length - k := by omega
 rw [fndR_any] at c2
 by_cases e1 : rulE r = 0
 rotate_left
 · have t3 : (rulE r != 0) = true := by simp [e1]
   rw [if_pos e1] at hI
   cases hI
   obtain ⟨x, hx⟩ : ∃ x, x = rulE r := ⟨_, rfl⟩
   rw [← hx] at c1 t3 ⊢
   obtain ⟨n, ls⟩ := r
   refine pzr (yB rfl rfl rfl rfl (yQ (pw_seq ?_))); rw [u1]; refine pw_ct rfl (pw_skip (pw_seq (pw_block (pzr (yMd rfl (yW ex (by omega) rfl rfl (yLs (ys := [_, _]) rfl rfl rfl (yZ (cs := [_, _]) rfl rfl (yAd rfl ?_))))))))); refine yS (cs' := [_, _]) rfl rfl rfl rfl rfl (yQ (pw_seq (pzr (yLa (ys := [_, _]) rfl rfl rfl rfl (yC (c1) rfl rfl (yAd rfl (yQ (pzr (yMd rfl ?_))))))))); refine yB rfl rfl rfl rfl (yQ (q_then ?_)); rw [t3]; refine pw_ct rfl (pzr (yMd rfl (yMd rfl (yAd rfl (yAd rfl (yQ (pw_ret (q_then_ret (q_blk_ret ?_))))))))); refine q_then_ret (q_then_ret (q_blk_ret (q_then_ret ?_)))
   exact q_ret _ (.tmp rfl (.tmp rfl .nil)) rfl
 have hwf := (rE_zero (tp := tmpB nameB) (ce := chE)).1 e1
 rw [if_neg (by simp [e1])] at hI
 rw [e1] at c1
 obtain ⟨P, hP⟩ : ∃ P, P = l.take k := ⟨_, rfl⟩
 rw [← hP] at c2 htk
 obtain ⟨o, ho⟩ : ∃ o, o = orR (fndR P r.1) := ⟨_, rfl⟩
 rw [← ho] at c2
 obtain ⟨o0, o1⟩ := o
 have hPl : (P.map dRu).length = k := by rw [hP, List.length_map, List.length_take]; omega
 rw [← hP] at hI
 clear hP ho hb
 cases e2 : (P.any fun x => x.1 == r.1) with
 | true =>
  rw [e2] at c2 hI
  rw [if_pos rfl] at hI
  cases hI
  obtain ⟨n, ls⟩ := r
  refine pzr (yB rfl rfl rfl rfl (yQ (pw_seq ?_))); rw [u1]; refine pw_ct rfl (pw_skip (pw_seq (pw_block (pzr (yMd rfl (yW ex (by omega) rfl rfl (yLs (ys := [_, _]) rfl rfl rfl (yZ (cs := [_, _]) rfl rfl (yAd rfl ?_))))))))); refine yS (cs' := [_, _]) rfl rfl rfl rfl rfl (yQ (pw_seq (pzr (yLa (ys := [_, _]) rfl rfl rfl rfl (yC (c1) rfl rfl (yAd rfl (yQ (pzr (yMd rfl ?_))))))))); refine yB rfl rfl rfl rfl (yQ (pw_cf rfl (pw_skip (pw_seq (pw_seq ?_))))); refine pw_draw Tryz.mixed (by kernel_rfl) ?_; refine yMd rfl (yMd rfl ?_); refine yDh (by omega) (by rw [List.length_map]; omega) rfl rfl ?_; refine yFb rfl (yLd rfl rfl rfl ?_); rw [htk]; refine yC (c2) rfl rfl (yMp rfl (yX rfl rfl (yX rfl rfl (yZ (cs := [_, _]) rfl rfl (yS (cs' := [_, _]) rfl rfl rfl rfl rfl (yAd rfl (yQ (pzr (yMd rfl ?_))))))))); refine yQ (pw_ct rfl (pzr (yMd rfl (yAd rfl (yAd rfl (yQ (pw_ret (q_then_ret (q_blk_ret ?_))))))))); refine q_then_ret (q_then_ret (q_blk_ret (q_then_ret ?_)))
  exact q_ret _ (.tmp rfl (.tmp rfl .nil)) rfl
 | false =>
 rw [e2] at c2 hI
 rw [if_neg (by simp)] at hI
 obtain ⟨n, ls⟩ := r
 obtain ⟨⟨kk, hkk⟩, hll, hlw⟩ := hwf
 simp only at hkk hll hlw hI
 rw [hkk] at hI
 simp only at hI
 obtain ⟨hg, hh⟩ := iget_knd n
 have hkeq : kk = (n, kwT n, nmsK n, sgK n) := by
  have h3 := (kndF_some hkk).2
  rw [kwT, nmsK, sgK, hkk]
  obtain ⟨q0, q1, q2, q3⟩ := kk
  simp only at h3
  subst h3
  rfl
 have hnl : (nmsK n).length ≤ 1000000 := by
  have h2 : ∀ k ∈ kndL, k.2.2.1.length ≤ 1000000 := by
   have : ∀ k ∈ kndL, k.2.2.1.length ≤ 4 := by decide
   exact fun k hk => Nat.le_trans (this k hk) (by omega)
  have := h2 kk (kndF_some hkk).1
  rw [hkeq] at this
  exact this
 rw [hkeq] at hI
 have k2 := fun x => wCheckLine n (kwT n) (nmsK n) (sgK n) ch x hnl
 obtain ⟨M, hM⟩ : ∃ M, M = kndM := ⟨_, rfl⟩
 rw [← hM] at k0 hg
 obtain ⟨kw, hkw⟩ : ∃ w, w = kwT n := ⟨_, rfl⟩
 obtain ⟨kg, hkg⟩ : ∃ w, w = sgK n := ⟨_, rfl⟩
 obtain ⟨kn, hkn⟩ : ∃ w, w = nmsK n := ⟨_, rfl⟩
 rw [← hkw, ← hkg, ← hkn] at hg hI k2
 clear hM hkw hkg hkn hkeq hnl hkk hh e2 e1
 have k3 := wBalances (n, ls) hll fun x hx => ⟨(chE_zero.1 (hlw x hx).2).1, fun c hc => ((hbr.2 x hx).2.2 c hc).2⟩
 simp only at k3
 refine pzr (yB rfl rfl rfl rfl (yQ (pw_seq ?_))); rw [u1]; refine pw_ct rfl (pw_skip (pw_seq (pw_block (pzr (yMd rfl (yW ex (by omega) rfl rfl (yLs (ys := [_, _]) rfl rfl rfl (yZ (cs := [_, _]) rfl rfl (yAd rfl ?_))))))))); refine yS (cs' := [_, _]) rfl rfl rfl rfl rfl (yQ (pw_seq (pzr (yLa (ys := [_, _]) rfl rfl rfl rfl (yC (c1) rfl rfl (yAd rfl (yQ (pzr (yMd rfl ?_))))))))); refine yB rfl rfl rfl rfl (yQ (pw_cf rfl (pw_skip (pw_seq (pw_seq ?_))))); refine pw_draw Tryz.mixed (by kernel_rfl) ?_; refine yMd rfl (yMd rfl ?_); refine yDh (by omega) (by rw [List.length_map]; omega) rfl rfl ?_; refine yFb rfl (yLd rfl rfl rfl ?_); rw [htk]; refine yC (c2) rfl rfl (yMp rfl (yX rfl rfl (yX rfl rfl (yZ (cs := [_, _]) rfl rfl (yS (cs' := [_, _]) rfl rfl rfl rfl rfl (yAd rfl (yQ (pzr (yMd rfl ?_))))))))); refine yQ (pw_cf rfl (pw_skip (pw_seq (pzr (yFb rfl (yLd rfl rfl rfl (yN rfl (yMd rfl (yQ ?_))))))))); refine pw_block ?_; refine pw_loop (fun j : Nat => ⟨68, [(0, .d (dRus l)), (1, .d (.sl 2 (ch.map dAc))), (20, .d (dRus l)), (21, .d (dI l.length)), (22, .d (dI k)), (6, .d (dI k)), (7, .bx 7 0), (45, .d (.sl 3 (ls.map dLn))), (46, .d (dI ls.length)), (47, .d (dI j))], [(7, [.d (dI n), .d (.sl 3 (ls.map dLn))])], []⟩) (fun j => j ≤ ls.length ∧ lusE nf (n, kw, kn, kg) ch (ls.drop j) = lusE nf (n, kw, kn, kg) ch ls) (fun j => ls.length - j) 0 ⟨Nat.zero_le _, rfl⟩
  ⟨rfl, ⟨.refl _, .refl _, .refl _, .refl _, .refl _, .refl _, .refl _, .refl _, .of_eq (congrArg (fun n : Nat => SV.d (dI n)) (by simp)), .refl _, trivial⟩, ⟨⟨_, rfl, lesC_refl _⟩, trivial⟩, trivial, rfl⟩ ?_
 rintro j ⟨hj, hJ⟩
 rcases Nat.lt_or_ge j ls.length with h2 | h2
 · have u2 : decide ((j : Int) < (ls.length : Int)) = true := decide_eq_true (by omega)
   obtain ⟨x, hx⟩ : ∃ a, ls[j]? = some a := ⟨_, List.getElem?_eq_getElem h2⟩
   have em := ix dLn ls j j x rfl hx
   have hw2 := wrapI ((j : Int) + 1) (by omega)
   have hxm := List.mem_of_getElem? hx
   have k4 := k2 x (hbr.2 x hxm) (hlw x hxm).2
   have arith2 : ls.length - (j + 1) < ls.length - j := by omega
   rw [lusE_next hx] at hJ
   obtain ⟨y, hy⟩ : ∃ y, y = luE nf (n, kw, kn, kg) ch x := ⟨_, rfl⟩
   rw [← hy] at k4 hJ
   obtain ⟨x0, x1, x2⟩ := x
   clear k2 k3 hy hxm hbr hll hlw
   by_cases hy0 : y = 0
   · have t4 : (y != 0) = false := by simp [hy0]
     rw [if_pos hy0] at hJ
     refine pzr (yB rfl rfl rfl rfl (yQ (pw_seq ?_))); rw [u2]; refine pw_ct rfl (pw_skip (pw_seq (pw_block (pzr (yW em (by omega) rfl rfl (yLs (ys := [_, _, _]) rfl rfl rfl (yZ (cs := [_, _, _]) rfl rfl (yS (cs' := [_, _, _]) rfl rfl rfl rfl rfl (yQ ?_))))))))); refine pw_seq ?_; refine pw_draw Tryz.mixed (by kernel_rfl) ?_; refine yC (k0) rfl rfl (yFb rfl (yLd rfl rfl rfl (yKeI rfl rfl hg (yLa (ys := [_, _, _]) rfl rfl rfl rfl (yMd rfl (yC (k4) rfl rfl (yAd rfl (yQ (pzr ?_))))))))); refine yMd rfl (yB rfl rfl rfl rfl (yQ (q_then ?_))); rw [t4]; refine pw_cf rfl (pw_skip (pw_region (yB rfl rfl rfl rfl (yMd rfl (yQ (q_then ?_))))))
     exact ⟨j + 1, ⟨h2, hJ⟩, arith2, rfl, ⟨.refl _, .refl _, .refl _, .refl _, .refl _, .refl _, .refl _, .refl _, .refl _, .of_eq (congrArg (fun n => SV.d (dI n)) hw2), trivial⟩, ⟨⟨_, rfl, lesC_refl _⟩, trivial⟩, trivial, rfl⟩
   · have t4 : (y != 0) = true := by simp [hy0]
     rw [if_neg hy0] at hJ
     rw [← hJ, if_pos hy0] at hI
     cases hI
     refine pzr (yB rfl rfl rfl rfl (yQ (pw_seq ?_))); rw [u2]; refine pw_ct rfl (pw_skip (pw_seq (pw_block (pzr (yW em (by omega) rfl rfl (yLs (ys := [_, _, _]) rfl rfl rfl (yZ (cs := [_, _, _]) rfl rfl (yS (cs' := [_, _, _]) rfl rfl rfl rfl rfl (yQ ?_))))))))); refine pw_seq ?_; refine pw_draw Tryz.mixed (by kernel_rfl) ?_; refine yC (k0) rfl rfl (yFb rfl (yLd rfl rfl rfl (yKeI rfl rfl hg (yLa (ys := [_, _, _]) rfl rfl rfl rfl (yMd rfl (yC (k4) rfl rfl (yAd rfl (yQ (pzr ?_))))))))); refine yMd rfl (yB rfl rfl rfl rfl (yQ (q_then ?_))); rw [t4]; refine pw_ct rfl (pzr (yMd rfl (yMd rfl (yAd rfl (yAd rfl (yQ (pw_ret (q_blk_ret (q_then_ret ?_))))))))); refine q_then_ret (q_blk_ret (q_then_ret (q_blk_ret (q_then_ret (q_then_ret (q_blk_ret (q_then_ret ?_)))))))
     exact q_ret _ (.tmp rfl (.tmp rfl .nil)) rfl
 · have u2 : decide ((j : Int) < (ls.length : Int)) = false := decide_eq_false (by omega)
   have hz : lusE nf (n, kw, kn, kg) ch ls = 0 := by rw [← hJ, List.drop_eq_nil_of_le h2]; rfl
   rw [hz, if_neg (by simp)] at hI
   clear k2 hbr hll hlw hJ hz
   cases hbal : balB ls with
   | true =>
    rw [hbal] at k3 hI
    rw [if_pos rfl] at hI
    refine pzr (yB rfl rfl rfl rfl (yQ (pw_seq ?_))); rw [u2]; refine pw_cf rfl (pw_exit (pzr (yLa (ys := [_, _]) rfl rfl rfl rfl (yC (k3) rfl rfl (yU rfl rfl rfl (yQ (pw_cf rfl (pw_skip (pw_region ?_))))))))); refine yB rfl rfl rfl rfl (yMd rfl (yQ (q_then ?_)))
    exact ⟨k + 1, ⟨h, hI⟩, arith, rfl, ⟨.refl _, .refl _, .refl _, .refl _, .of_eq (congrArg (fun n => SV.d (dI n)) hw), trivial⟩, trivial, trivial, rfl⟩
   | false =>
    rw [hbal] at k3 hI
    rw [if_neg (by simp)] at hI
    cases hI
    refine pzr (yB rfl rfl rfl rfl (yQ (pw_seq ?_))); rw [u2]; refine pw_cf rfl (pw_exit (pzr (yLa (ys := [_, _]) rfl rfl rfl rfl (yC (k3) rfl rfl (yU rfl rfl rfl (yQ (pw_ct rfl (pzr (yMd rfl ?_))))))))); refine yAd rfl (yAd rfl (yQ (pw_ret (q_blk_ret (q_then_ret (q_then_ret (q_blk_ret (q_then_ret ?_))))))))
    exact q_ret _ (.tmp rfl (.tmp rfl .nil)) rfl
def insI (x : Str) : List Str → List Str
 | [] => [x]
 | y :: l => if ltS y x then y :: insI x l else x :: y :: l
def iSort : List Str → List Str
 | [] => []
 | x :: l => insI x (iSort l)
theorem insI_perm (x : Str) (l : List Str) : (insI x l).Perm (x :: l) := by
 induction l with
 | nil => exact .refl _
 | cons y l ih =>
  rw [insI]
  split
  · exact (ih.cons y).trans (.swap x y l)
  · exact .refl _
theorem iSort_perm (l : List Str) : (iSort l).Perm l := by
 induction l with
 | nil => exact .refl _
 | cons x l ih => exact (insI_perm x _).trans (ih.cons x)
theorem ltS_no {a b : Str} (h : ltS a b = true) : ltS b a = false := by
 cases e : ltS b a with
 | false => rfl
 | true =>
  have := ltS_trans h e
  rw [ltS_irrefl] at this
  cases this
theorem insI_up {x : Str} {l : List Str} (h : l.Pairwise fun x y => ltS y x = false) : (insI x l).Pairwise fun x y => ltS y x = false := by
 induction l with
 | nil => exact List.pairwise_singleton _ _
 | cons y l ih =>
  rw [List.pairwise_cons] at h
  rw [insI]
  split
  · rename_i hy
    refine List.pairwise_cons.2 ⟨fun z hz => ?_, ih h.2⟩
    rcases List.mem_cons.1 ((insI_perm x l).mem_iff.1 hz) with rfl | hz
    · exact ltS_no hy
    · exact h.1 z hz
  · rename_i hy
    have hy : ltS y x = false := by simpa using hy
    refine List.pairwise_cons.2 ⟨fun z hz => ?_, List.pairwise_cons.2 h⟩
    rcases List.mem_cons.1 hz with rfl | hz
    · exact hy
    · have h1 := h.1 z hz
      cases e : ltS z x with
      | false => rfl
      | true =>
       rcases ltS_total x y with h2 | h2 | h2
       · rw [ltS_trans e h2] at h1; cases h1
       · subst h2; rw [e] at h1; cases h1
       · rw [h2] at hy; cases hy
theorem iSort_up (l : List Str) : (iSort l).Pairwise fun x y => ltS y x = false := by
 induction l with
 | nil => exact .nil
 | cons x l ih => exact insI_up ih
theorem mSort_i (l : List Str) : mSort l = iSort l := by
 refine List.Perm.eq_of_pairwise (le := fun x y : Str => ltS y x = false) (fun x y _ _ h1 h2 => ?_) (mSort_up l) (iSort_up l) ((List.mergeSort_perm l _).trans (iSort_perm l).symm)
 rcases ltS_total x y with h | h | h
 · rw [h] at h2; cases h2
 · exact h
 · rw [h] at h1; cases h1
def nfi (e : List Cf) : List Cf := (iSort ((sumM e e.length).map (·.1))).filterMap (keep (sumM e e.length))
theorem nf_i (e : List Cf) : nf e = nfi e := by rw [nf, mSort_i]; rfl
open Go.RowKit Go.Shelf Px
attribute [local go_sem] Oper.semAt_some
def parF : Nat → Bool → Str → List (Bool × Str)
 | 0, _, _ => []
 | n + 1, neg, s => (neg, ctT 32 s) :: if ctB 32 s then (if ctT 32 (ctR 32 s) = [43] ∨ ctT 32 (ctR 32 s) = [45] then parF n (ctT 32 (ctR 32 s) == [45]) (ctR 32 (ctR 32 s)) else [(false, [])]) else []
def parL (neg : Bool) (s : Str) : List (Bool × Str) := parF (s.length + 1) neg s
theorem parF_fuel : ∀ (n m : Nat) (neg : Bool) (s : Str), s.length < n → s.length < m → parF n neg s = parF m neg s
 | n + 1, m + 1, neg, s, h1, h2 => by
  rw [parF, parF]
  by_cases hb : ctB 32 s = true
  · have l1 := (ct_len 32 s).2.2 hb
    have l2 := (ct_len 32 (ctR 32 s)).2.1
    rw [parF_fuel n m _ _ (by omega) (by omega)]
  · rw [if_neg hb, if_neg hb]
theorem parL_eq (neg : Bool) (s : Str) : parL neg s = (neg, ctT 32 s) :: if ctB 32 s then (if ctT 32 (ctR 32 s) = [43] ∨ ctT 32 (ctR 32 s) = [45] then parL (ctT 32 (ctR 32 s) == [45]) (ctR 32 (ctR 32 s)) else [(false, [])]) else [] := by
 unfold parL
 rw [parF]
 by_cases hb : ctB 32 s = true
 · have l1 := (ct_len 32 s).2.2 hb
   have l2 := (ct_len 32 (ctR 32 s)).2.1
   rw [parF_fuel s.length ((ctR 32 (ctR 32 s)).length + 1) _ _ (by omega) (by omega)]
 · rw [if_neg hb, if_neg hb]
abbrev vPt (p : Bool × Str) : List Value := [.bool p.1, vS p.2]
def ptsL (s : Str) : List (Bool × Str) := parL (cpB 45 s) (cpS 45 s)
theorem pc_plain {P : Program} {f : FuncId} {vs us : List Value} (h : PCalls P f (vs.map .val) (.tup (us.map .val))) (h1 : ∀ v ∈ vs, v.oneCell' = true) {F : Nat → Nat → Prop} {W : World} (hg : GlobOk F W) : Calls P f vs.toArray W fun e W' => e = .returned (.tuple us.toArray) ∧ Below W.heap.size W W' := by
 refine (h F W vs (by simp) (fun i v x hv hx => ?_) hg).mono ?_
 · rw [List.getElem?_map, hv] at hx
   cases hx
   exact DRep.val v (h1 v (List.mem_of_getElem? hv))
 · rintro e W' ⟨v, rfl, ⟨ws, rfl, h3, h4⟩, h5⟩
   have : ws = us := by
    refine List.ext_getElem (by simpa using h3) fun i h6 h7 => ?_
    exact DRep.val_eq (h4 i _ _ (List.getElem?_eq_getElem h6) (by rw [List.getElem?_map, List.getElem?_eq_getElem h7]; rfl))
   rw [this]
   exact ⟨rfl, h5⟩
theorem glob_grow {F : Nat → Nat → Prop} {W W' : World} (h : GlobOk F W) (hb : Below W.heap.size W W') : GlobOk F W' := fun q cs hq => by
 obtain ⟨h1, vs, h2, T, z, h3⟩ := h q cs hq
 exact ⟨h1.mono fun b o hf hs => ⟨hf, see_of_block (hb.block b (see_lt hs)) o⟩, vs, h2, T, z, (hb.block q (Array.getElem?_eq_some_iff.1 h3).1).trans h3⟩
theorem cpS_len {c : UInt8} (s : Str) {n : Nat} (h : s.length ≤ n) : (cpS c s).length ≤ n := by
 cases s with
 | nil => exact h
 | cons x t =>
  rw [cpS]
  split
  · rw [List.length_cons] at h; omega
  · exact h
def lenV : Value → Nat
 | .string b => b.size
 | _ => 0
theorem lenV_vS (s : Str) : lenV (vS s) = s.length := by simp [lenV, ByteArray.size]
theorem parts1_spec (s : Str) (hs : s.length ≤ 1000000) (F : Nat → Nat → Prop) (w : World) (p : Value) (hp : DRep F w p (.ref [dS s])) : ItSpec Tryz.prog 177 #[p] ((ptsL s).map vPt) F w := by
 intro l J Jx hJ hJx hY hgo h0
 obtain ⟨b, off, rfl, hc⟩ : ∃ b off, p = .pointer (some ⟨b, off, none⟩) ∧ w.cell? ⟨b, off, none⟩ = some (vS s) := by
  cases hp with
  | @ref b off _ f hc h =>
   refine ⟨b, off, rfl, ?_⟩
   have := (hc 0 (by simp)).1
   rw [DRep.val_eq (h 0 (dS s) rfl)] at this
   exact this
 refine callsIn_of_wp Tryz.func177 rfl trivial ?_ rfl
 simp only [Tryz.ntmps177, List.size_toArray, List.length_cons, List.length_nil, Nat.reduceAdd, Nat.reduceSub, Array.replicate_succ, Array.replicate_zero, List.push_toArray, List.append_toArray, List.nil_append, List.cons_append]
 have HJ := Lib.hid hJ
 have HJX := Lib.hid hJx
 have HY := Lib.hid hY
 have HG := Lib.hid hgo
 have C1 : Hid (∀ W, GlobOk F W → Calls Tryz.prog 121 #[vS s, vS [45]] W fun e W' => e = .returned (.tuple #[vS (cpS 45 s), .bool (cpB 45 s)]) ∧ Below W.heap.size W W') :=
  Lib.hid fun W hg => pc_plain (vs := [vS s, vS [45]]) (us := [vS (cpS 45 s), .bool (cpB 45 s)]) (wCutP1 s 45 hs) (fun v hv => by simp at hv; rcases hv with rfl | rfl <;> rfl) hg
 have C2 : Hid (∀ t, t.length ≤ 1000000 → ∀ W, GlobOk F W → Calls Tryz.prog 79 #[vS t, vS [32]] W fun e W' => e = .returned (.tuple #[vS (ctT 32 t), vS (ctR 32 t), .bool (ctB 32 t)]) ∧ Below W.heap.size W W') :=
  Lib.hid fun t ht W hg => pc_plain (vs := [vS t, vS [32]]) (us := [vS (ctT 32 t), vS (ctR 32 t), .bool (ctB 32 t)]) (wCut1 t 32 ht) (fun v hv => by simp at hv; rcases hv with rfl | rfl <;> rfl) hg
 clear hJ hJx hY hgo
 have hpl : Hid ((cpS 45 s).length ≤ 1000000) := Lib.hid (cpS_len s hs)
 gi_wp2_with (refine ⟨trivial, rfl, ?_⟩; gi_at_call 121; refine (callsIn_wide.2 (C1.out _ HG.out)).mono ?_; rintro e w' ⟨rfl, hb1⟩)
 have HG1 := Lib.hid (glob_grow HG.out hb1)
 have J1 := HJ.out 0 _ _ h0 hb1
 clear hb1 HG h0
 gi_loopw [3, 4] (fun v3 v4 wr => ∃ (i : Nat) (neg : Bool) (s' : Str), v3 = vS s' ∧ v4 = .bool neg ∧ J i wr ∧ Hid (((ptsL s).map vPt).drop i = (parL neg s').map vPt ∧ s'.length ≤ 1000000 ∧ GlobOk F wr))
  (fun v3 _ _ => lenV v3)
 case atStart => exact ⟨0, _, _, rfl, rfl, J1, Lib.hid ⟨rfl, hpl.out, HG1.out⟩⟩
 case round =>
  obtain ⟨i, neg, s', rfl, rfl, hJi, HR⟩ := hrel
  have K2 := Lib.hid (C2.out s' HR.out.2.1 wr HR.out.2.2)
  have hcons := HR.out.1
  rw [parL_eq, List.map_cons] at hcons
  have HX : Hid (((ptsL s).map vPt)[i]? = some (vPt (neg, ctT 32 s')) ∧ ((ptsL s).map vPt).drop (i + 1) = (if ctB 32 s' then (if ctT 32 (ctR 32 s') = [43] ∨ ctT 32 (ctR 32 s') = [45] then parL (ctT 32 (ctR 32 s') == [45]) (ctR 32 (ctR 32 s')) else [(false, [])]) else []).map vPt) := Lib.hid ⟨by
   have := congrArg (fun l => l[0]?) hcons
   simpa using this, by
   have := congrArg (List.drop 1) hcons
   simpa using this⟩
  clear hcons
  gi_wp2_with (refine ⟨trivial, rfl, ?_⟩; gi_at_call 79; refine (callsIn_wide.2 K2.out).mono ?_; rintro e w' ⟨rfl, hb2⟩; obtain ⟨fn, tmps, assign, body, hy, hR⟩ := HY.out i _ w' HX.out.1 (HJ.out i _ _ hJi hb2); have HR2 := Lib.hid hR; have HG2 := Lib.hid (glob_grow HR.out.2.2 hb2); clear hR hb2)
  refine ⟨rfl, ?_⟩
  refine HR2.out.mono ?_
  rintro e W3 (⟨rfl, hJ3, -, hg3⟩ | ⟨rfl, hJx3⟩)
  · have HG3 := Lib.hid hg3
    have HD := Lib.hid HX.out.2
    clear hg3
    cases hb : ctB 32 s' with
    | false =>
     have HL : Hid (i + 1 = ((ptsL s).map vPt).length) := Lib.hid (by
      have h1 := HD.out
      rw [hb, if_neg (by simp), List.map_nil, List.drop_eq_nil_iff] at h1
      have h2 := (List.getElem?_eq_some_iff.1 HX.out.1).1
      omega)
     gi_wp2
     refine bodyPost_ret (results_none rfl _ _ _) rfl ?_
     exact ⟨⟨_, rfl⟩, .inl (by rw [← HL.out]; exact hJ3)⟩
    | true =>
     have l1 := ct_len 32 s'
     have l2 := ct_len 32 (ctR 32 s')
     have HB : Hid ((ctR 32 s').length ≤ 1000000 ∧ (ctR 32 (ctR 32 s')).length ≤ 1000000 ∧ (ctR 32 (ctR 32 s')).length < s'.length) := Lib.hid ⟨by have := HR.out.2.1; omega, by have := HR.out.2.1; omega, by have := l1.2.2 hb; omega⟩
     have K3 := Lib.hid (C2.out (ctR 32 s') HB.out.1 W3 HG3.out)
     clear l1 l2
     have HD2 : Hid (((ptsL s).map vPt).drop (i + 1) = (if ctT 32 (ctR 32 s') = [43] ∨ ctT 32 (ctR 32 s') = [45] then parL (ctT 32 (ctR 32 s') == [45]) (ctR 32 (ctR 32 s')) else [(false, [])]).map vPt) := Lib.hid (by have := HD.out; rwa [hb, if_pos rfl] at this)
     clear HD
     obtain ⟨sg, hsg⟩ : ∃ x, x = ctT 32 (ctR 32 s') := ⟨_, rfl⟩
     obtain ⟨nx, hnx⟩ : ∃ x, x = ctR 32 (ctR 32 s') := ⟨_, rfl⟩
     obtain ⟨mo, hmo⟩ : ∃ x, x = ctB 32 (ctR 32 s') := ⟨_, rfl⟩
     rw [← hsg, ← hnx, ← hmo] at K3
     rw [← hsg, ← hnx] at HD2
     rw [← hnx] at HB
     clear hsg hnx hmo
     by_cases h3 : sg = [43] ∨ sg = [45]
     · have HD3 := Lib.hid (show ((ptsL s).map vPt).drop (i + 1) = (parL (sg == [45]) nx).map vPt by have := HD2.out; rwa [if_pos h3] at this)
       clear HD2
       rcases h3 with rfl | rfl
       · gi_wp2_with (refine ⟨trivial, rfl, ?_⟩; gi_at_call 79; refine (callsIn_wide.2 K3.out).mono ?_; rintro e w4 ⟨rfl, hb4⟩)
         have HG4 := Lib.hid (glob_grow HG3.out hb4)
         have J4 := HJ.out _ _ _ hJ3 hb4
         go_roundw
         case rel => exact ⟨i + 1, false, nx, rfl, rfl, J4, Lib.hid ⟨HD3.out, HB.out.2.1, HG4.out⟩⟩
         case measure => rw [lenV_vS, lenV_vS]; exact HB.out.2.2
       · gi_wp2_with (refine ⟨trivial, rfl, ?_⟩; gi_at_call 79; refine (callsIn_wide.2 K3.out).mono ?_; rintro e w4 ⟨rfl, hb4⟩)
         have HG4 := Lib.hid (glob_grow HG3.out hb4)
         have J4 := HJ.out _ _ _ hJ3 hb4
         go_roundw
         case rel => exact ⟨i + 1, true, nx, rfl, rfl, J4, Lib.hid ⟨HD3.out, HB.out.2.1, HG4.out⟩⟩
         case measure => rw [lenV_vS, lenV_vS]; exact HB.out.2.2
     · have HD3 := Lib.hid (show ((ptsL s).map vPt).drop (i + 1) = [vPt (false, [])] by have := HD2.out; rwa [if_neg h3] at this)
       have HX3 : Hid (((ptsL s).map vPt)[i + 1]? = some (vPt (false, [])) ∧ i + 1 + 1 = ((ptsL s).map vPt).length) := Lib.hid ⟨by
        have := congrArg (fun l => l[0]?) HD3.out
        simpa using this, by
        have := congrArg List.length HD3.out
        simp at this
        simp
        omega⟩
       have b1 : (!sg == [43]) = true := by have : ¬ sg = [43] := fun e => h3 (.inl e); simp [this]
       have b2 : (!sg == [45]) = true := by have : ¬ sg = [45] := fun e => h3 (.inr e); simp [this]
       clear HD2 HD3 h3
       gi_wp2_with (refine ⟨trivial, rfl, ?_⟩; gi_at_call 79; refine (callsIn_wide.2 K3.out).mono ?_; rintro e w4 ⟨rfl, hb4⟩; obtain ⟨fn5, tmps5, assign5, body5, hy5, hR5⟩ := HY.out (i + 1) _ w4 HX3.out.1 (HJ.out _ _ _ hJ3 hb4); have HR5 := Lib.hid hR5; clear hR5 hb4)
       refine ⟨rfl, ?_⟩
       refine HR5.out.mono ?_
       rintro e W5 (⟨rfl, hJ5, -, -⟩ | ⟨rfl, hJx5⟩)
       · gi_wp2
         refine bodyPost_ret (results_none rfl _ _ _) rfl ?_
         exact ⟨⟨_, rfl⟩, .inl (by rw [← HX3.out.2]; exact hJ5)⟩
       · gi_wp2
         refine bodyPost_ret (results_none rfl _ _ _) rfl ?_
         exact ⟨⟨_, rfl⟩, .inr hJx5⟩
  · gi_wp2
    refine bodyPost_ret (results_none rfl _ _ _) rfl ?_
    exact ⟨⟨_, rfl⟩, .inr hJx3⟩
theorem prT_ne (d : Str) : prT d ≠ [] := by
 unfold prT
 split
 · simp
 · assumption
theorem wIParse (d : Str) (hd : d.length ≤ 65536) : PCalls Tryz.prog 178 [dS d] (.tup [dS (if prT d = d then canon (val d) else []), dI (if prT d = d then 0 else 3)]) := by
 have k1 := wPrintT d (by omega)
 have k2 := wCanonical d (by omega)
 have t0 : decide ((d.length : Int) > 65536) = false := decide_eq_false (by omega)
 obtain ⟨p, hp⟩ : ∃ p, p = prT d := ⟨_, rfl⟩
 obtain ⟨q, hq⟩ : ∃ p, p = canon (val d) := ⟨_, rfl⟩
 rw [← hp] at k1 ⊢
 rw [← hq] at k2 ⊢
 by_cases h : p = d
 · have t1 : (!(p == d)) = false := by simp [h]
   rw [if_pos h, if_pos h]
   refine pcalls_of_pw Tryz.func178 rfl Tryz.ntmps178 Tryz.results178 (by simp) fun B w0 => ?_
   refine pzr (yAd rfl (yAd rfl (yQ (pw_seq (pzr (yMd rfl (yNs rfl (yB rfl rfl rfl rfl (yQ ?_))))))))); refine q_then ?_; rw [t0]; refine pw_cf rfl (pw_skip (pw_seq (pzr (yMd rfl (yC (k1) rfl rfl (yMd rfl (yBsn rfl rfl (yQ (q_then ?_))))))))); rw [t1]; refine pw_cf rfl (pw_skip (pzr (yMd rfl (yC (k2) rfl rfl (yAd rfl (yAd rfl (yQ (pw_ret ?_))))))))
   exact q_ret _ (.tmp rfl (.tmp rfl .nil)) rfl
 · have t1 : (!(p == d)) = true := by simp [h]
   rw [if_neg h, if_neg h]
   refine pcalls_of_pw Tryz.func178 rfl Tryz.ntmps178 Tryz.results178 (by simp) fun B w0 => ?_
   refine pzr (yAd rfl (yAd rfl (yQ (pw_seq (pzr (yMd rfl (yNs rfl (yB rfl rfl rfl rfl (yQ ?_))))))))); refine q_then ?_; rw [t0]; refine pw_cf rfl (pw_skip (pw_seq (pzr (yMd rfl (yC (k1) rfl rfl (yMd rfl (yBsn rfl rfl (yQ (q_then ?_))))))))); rw [t1]; refine pw_ct rfl (pzr (yAd rfl (yAd rfl (yQ (pw_ret (q_then_ret ?_))))))
   exact q_ret _ (.tmp rfl (.tmp rfl .nil)) rfl
def tmR (d nm : Str) : Option Cf := if prT d = d ∧ d.head? ≠ some 45 ∧ nmB nm = true then some (nm, canon (val d)) else none
def tmP (t : Str) : Option Cf := if ctB 42 t then tmR (ctT 42 t) (ctR 42 t) else tmR [49] t
abbrev oCf (o : Option Cf) : Cf := o.getD ([], [])
theorem wParseTerm (t : Str) (ht : t.length ≤ 65536) : PCalls Tryz.prog 127 [dS t] (.tup [.agg (dCf (oCf (tmP t))), dB (tmP t).isSome]) := by
 have k1 := wCut1 t 42 (by omega)
 obtain ⟨hl1, hl2, -⟩ := ct_len 42 t
 unfold tmP
 cases hb : ctB 42 t with
 | true =>
  rw [hb] at k1
  rw [if_pos rfl]
  obtain ⟨d, hd⟩ : ∃ d, d = ctT 42 t := ⟨_, rfl⟩
  obtain ⟨nm, hnm⟩ : ∃ d, d = ctR 42 t := ⟨_, rfl⟩
  rw [← hd] at hl1
  rw [← hd, ← hnm] at k1 ⊢
  have k2 := wIParse d (by omega)
  have k3 := wIsName nm
  clear hd hnm hb
  unfold tmR
  by_cases h1 : prT d = d
  rotate_left
  · rw [if_neg h1, if_neg h1] at k2
    rw [if_neg (fun h => h1 h.1)]
    refine pcalls_of_pw Tryz.func127 rfl Tryz.ntmps127 Tryz.results127 (by simp) fun B w0 => ?_
    refine pzr (yZ (cs := [_, _]) rfl rfl (yAd rfl (yQ (pzr (yMd rfl (yC (k1) rfl rfl (yMp rfl (yX rfl rfl (yX rfl rfl ?_))))))))); refine yX rfl rfl (yAd rfl (yAd rfl (yAd rfl (yQ (pw_seq (pzr (yMd rfl (yU rfl rfl rfl (yQ ?_))))))))); refine pw_cf rfl (pw_skip (pzr (yMd rfl (yC (k2) rfl rfl (yMp rfl (yX rfl rfl (yX rfl rfl (yAd rfl (yAd rfl ?_))))))))); refine yQ (pw_seq (pzr (yMd rfl (yB rfl rfl rfl rfl (yMd rfl (yO rfl (yO rfl (yO rfl (yPd rfl rfl ?_))))))))); refine yMd rfl (yO rfl (yO rfl (yO rfl (yPd rfl rfl (yQ (pw_ct rfl (pzr (yG (ys := [_, _]) rfl rfl (yS (cs' := [_, _]) rfl rfl rfl rfl rfl ?_))))))))); refine yAd rfl (yQ (pw_ret (q_then_ret ?_)))
    exact q_ret _ (.agg inferInstance rfl rfl rfl rfl (.tmp rfl .nil)) rfl
  rw [if_pos h1, if_pos h1] at k2
  obtain ⟨x, d, rfl⟩ : ∃ x l, d = x :: l := by
   cases d with
   | nil => exact absurd h1 (prT_ne _)
   | cons x l => exact ⟨x, l, rfl⟩
  have hx : (x :: d : Str)[(0 : Int).toNat]? = some x := rfl
  obtain ⟨q, hq⟩ : ∃ q, q = canon (val (x :: d)) := ⟨_, rfl⟩
  rw [← hq] at k2 ⊢
  by_cases h2 : x = 45
  · have t2 : ((x.toNat : Int) == 45) = true := by rw [h2]; rfl
    rw [if_neg (fun h => h.2.1 (by rw [h2]; rfl))]
    refine pcalls_of_pw Tryz.func127 rfl Tryz.ntmps127 Tryz.results127 (by simp) fun B w0 => ?_
    refine pzr (yZ (cs := [_, _]) rfl rfl (yAd rfl (yQ (pzr (yMd rfl (yC (k1) rfl rfl (yMp rfl (yX rfl rfl (yX rfl rfl ?_))))))))); refine yX rfl rfl (yAd rfl (yAd rfl (yAd rfl (yQ (pw_seq (pzr (yMd rfl (yU rfl rfl rfl (yQ ?_))))))))); refine pw_cf rfl (pw_skip (pzr (yMd rfl (yC (k2) rfl rfl (yMp rfl (yX rfl rfl (yX rfl rfl (yAd rfl (yAd rfl ?_))))))))); refine yQ (pw_seq (pzr (yMd rfl (yB rfl rfl rfl rfl (yMd rfl (yMd rfl (yIs hx (by omega) rfl rfl (yB rfl rfl rfl rfl (yVd rfl rfl ?_))))))))); refine yMd rfl ?_; rw [t2]; refine yO rfl (yO rfl (yO rfl (yPd rfl rfl (yQ (pw_ct rfl (pzr (yG (ys := [_, _]) rfl rfl (yS (cs' := [_, _]) rfl rfl rfl rfl rfl (yAd rfl ?_))))))))); refine yQ (pw_ret (q_then_ret ?_))
    exact q_ret _ (.agg inferInstance rfl rfl rfl rfl (.tmp rfl .nil)) rfl
  have t2 : ((x.toNat : Int) == 45) = false := beq_false_of_ne fun h => h2 (UInt8.toNat_inj.1 (by have : (45 : UInt8).toNat = 45 := rfl; omega))
  cases h3 : nmB nm with
  | false =>
   rw [h3] at k3
   rw [if_neg (fun h => by simp at h)]
   refine pcalls_of_pw Tryz.func127 rfl Tryz.ntmps127 Tryz.results127 (by simp) fun B w0 => ?_
   refine pzr (yZ (cs := [_, _]) rfl rfl (yAd rfl (yQ (pzr (yMd rfl (yC (k1) rfl rfl (yMp rfl (yX rfl rfl (yX rfl rfl ?_))))))))); refine yX rfl rfl (yAd rfl (yAd rfl (yAd rfl (yQ (pw_seq (pzr (yMd rfl (yU rfl rfl rfl (yQ ?_))))))))); refine pw_cf rfl (pw_skip (pzr (yMd rfl (yC (k2) rfl rfl (yMp rfl (yX rfl rfl (yX rfl rfl (yAd rfl (yAd rfl ?_))))))))); refine yQ (pw_seq (pzr (yMd rfl (yB rfl rfl rfl rfl (yMd rfl (yMd rfl (yIs hx (by omega) rfl rfl (yB rfl rfl rfl rfl (yVd rfl rfl ?_))))))))); refine yMd rfl ?_; rw [t2]; refine yMd rfl (yC (k3) rfl rfl (yU rfl rfl rfl (yVd rfl rfl (yQ (pw_ct rfl (pzr (yG (ys := [_, _]) rfl rfl (yS (cs' := [_, _]) rfl rfl rfl rfl rfl (yAd rfl ?_))))))))); refine yQ (pw_ret (q_then_ret ?_))
   exact q_ret _ (.agg inferInstance rfl rfl rfl rfl (.tmp rfl .nil)) rfl
  | true =>
   rw [h3] at k3
   rw [if_pos ⟨h1, fun h => h2 (by simpa using h), rfl⟩]
   refine pcalls_of_pw Tryz.func127 rfl Tryz.ntmps127 Tryz.results127 (by simp) fun B w0 => ?_
   refine pzr (yZ (cs := [_, _]) rfl rfl (yAd rfl (yQ (pzr (yMd rfl (yC (k1) rfl rfl (yMp rfl (yX rfl rfl (yX rfl rfl ?_))))))))); refine yX rfl rfl (yAd rfl (yAd rfl (yAd rfl (yQ (pw_seq (pzr (yMd rfl (yU rfl rfl rfl (yQ ?_))))))))); refine pw_cf rfl (pw_skip (pzr (yMd rfl (yC (k2) rfl rfl (yMp rfl (yX rfl rfl (yX rfl rfl (yAd rfl (yAd rfl ?_))))))))); refine yQ (pw_seq (pzr (yMd rfl (yB rfl rfl rfl rfl (yMd rfl (yMd rfl (yIs hx (by omega) rfl rfl (yB rfl rfl rfl rfl (yVd rfl rfl ?_))))))))); refine yMd rfl ?_; rw [t2]; refine yMd rfl (yC (k3) rfl rfl (yU rfl rfl rfl (yVd rfl rfl (yQ (pw_cf rfl (pw_skip (pzr (yMd rfl (yMd rfl ?_))))))))); refine yG (ys := [_, _]) rfl rfl (yS (cs' := [_, _]) rfl rfl rfl rfl rfl (yAd rfl (yQ (pw_ret ?_))))
   exact q_ret _ (.agg inferInstance rfl rfl rfl rfl (.tmp rfl .nil)) rfl
 | false =>
  rw [hb] at k1
  rw [if_neg (by simp)]
  have e1 : prT [49] = [49] := by kernel_rfl
  have e2 : canon (val [49]) = [49] := by kernel_rfl
  have k2 := wIParse [49] (by simp)
  rw [if_pos e1, if_pos e1, e2] at k2
  have k3 := wIsName t
  obtain ⟨d, hd⟩ : ∃ d, d = ctT 42 t := ⟨_, rfl⟩
  obtain ⟨nm, hnm⟩ : ∃ d, d = ctR 42 t := ⟨_, rfl⟩
  rw [← hd, ← hnm] at k1
  clear hd hnm hb
  have hx : ([49] : Str)[(0 : Int).toNat]? = some 49 := rfl
  unfold tmR
  cases h3 : nmB t with
  | false =>
   rw [h3] at k3
   rw [if_neg (fun h => by simp at h)]
   refine pcalls_of_pw Tryz.func127 rfl Tryz.ntmps127 Tryz.results127 (by simp) fun B w0 => ?_
   refine pzr (yZ (cs := [_, _]) rfl rfl (yAd rfl (yQ (pzr (yMd rfl (yC (k1) rfl rfl (yMp rfl (yX rfl rfl (yX rfl rfl ?_))))))))); refine yX rfl rfl (yAd rfl (yAd rfl (yAd rfl (yQ (pw_seq (pzr (yMd rfl (yU rfl rfl rfl (yQ ?_))))))))); refine pw_ct rfl (pw_region (yMd rfl (yAd rfl (yAd rfl (yQ (pzr (yMd rfl (yC (k2) rfl rfl (yMp rfl ?_))))))))); refine yX rfl rfl (yX rfl rfl (yAd rfl (yAd rfl (yQ (pw_seq (pzr (yMd rfl (yB rfl rfl rfl rfl (yMd rfl ?_))))))))); refine yMd rfl (yIs hx (by omega) rfl rfl (yB rfl rfl rfl rfl (yVd rfl rfl (yMd rfl (yMd rfl (yC (k3) rfl rfl (yU rfl rfl rfl (yVd rfl rfl (yQ ?_))))))))); refine pw_ct rfl (pzr (yG (ys := [_, _]) rfl rfl (yS (cs' := [_, _]) rfl rfl rfl rfl rfl (yAd rfl (yQ (pw_ret (q_then_ret ?_)))))))
   exact q_ret _ (.agg inferInstance rfl rfl rfl rfl (.tmp rfl .nil)) rfl
  | true =>
   rw [h3] at k3
   rw [if_pos ⟨e1, by simp, rfl⟩, e2]
   refine pcalls_of_pw Tryz.func127 rfl Tryz.ntmps127 Tryz.results127 (by simp) fun B w0 => ?_
   refine pzr (yZ (cs := [_, _]) rfl rfl (yAd rfl (yQ (pzr (yMd rfl (yC (k1) rfl rfl (yMp rfl (yX rfl rfl (yX rfl rfl ?_))))))))); refine yX rfl rfl (yAd rfl (yAd rfl (yAd rfl (yQ (pw_seq (pzr (yMd rfl (yU rfl rfl rfl (yQ ?_))))))))); refine pw_ct rfl (pw_region (yMd rfl (yAd rfl (yAd rfl (yQ (pzr (yMd rfl (yC (k2) rfl rfl (yMp rfl ?_))))))))); refine yX rfl rfl (yX rfl rfl (yAd rfl (yAd rfl (yQ (pw_seq (pzr (yMd rfl (yB rfl rfl rfl rfl (yMd rfl ?_))))))))); refine yMd rfl (yIs hx (by omega) rfl rfl (yB rfl rfl rfl rfl (yVd rfl rfl (yMd rfl (yMd rfl (yC (k3) rfl rfl (yU rfl rfl rfl (yVd rfl rfl (yQ ?_))))))))); refine pw_cf rfl (pw_skip (pzr (yMd rfl (yMd rfl (yG (ys := [_, _]) rfl rfl (yS (cs' := [_, _]) rfl rfl rfl rfl rfl (yAd rfl (yQ (pw_ret ?_)))))))))
   exact q_ret _ (.agg inferInstance rfl rfl rfl rfl (.tmp rfl .nil)) rfl
def tmS (p : Bool × Str) : Option Cf := (tmP p.2).map fun c => if p.1 then (c.1, canon (- val c.2)) else c
def okT (s : Str) : Bool := (ptsL s).all fun p => (tmS p).isSome
def lsT (s : Str) : List Cf := (ptsL s).filterMap tmS
def paE (s : Str) : Int := if s = [48] then 0 else if okT s then (if 16 < (lsT s).length then 4 else 0) else 3
def paR (s : Str) : List Cf := if s = [48] then [] else if okT s then (if 16 < (lsT s).length then [] else nf (lsT s)) else []
theorem parF_len : ∀ (n : Nat) (neg : Bool) (s : Str), s.length < n → (parF n neg s).length ≤ s.length + 1 ∧ ∀ p ∈ parF n neg s, p.2.length ≤ s.length
 | 0, _, _, h => by omega
 | n + 1, neg, s, h => by
  rw [parF]
  have l0 := ct_len 32 s
  by_cases hb : ctB 32 s = true
  · have l1 := l0.2.2 hb
    have l2 := (ct_len 32 (ctR 32 s)).2.1
    rw [if_pos hb]
    by_cases hc : ctT 32 (ctR 32 s) = [43] ∨ ctT 32 (ctR 32 s) = [45]
    · rw [if_pos hc]
      obtain ⟨h1, h2⟩ := parF_len n (ctT 32 (ctR 32 s) == [45]) (ctR 32 (ctR 32 s)) (by omega)
      refine ⟨by rw [List.length_cons]; omega, fun p hp => ?_⟩
      rcases List.mem_cons.1 hp with rfl | hp
      · exact l0.1
      · have := h2 p hp; omega
    · rw [if_neg hc]
      refine ⟨by simp; omega, fun p hp => ?_⟩
      simp at hp
      rcases hp with rfl | rfl
      · exact l0.1
      · simp
  · rw [if_neg hb]
    refine ⟨by simp, fun p hp => ?_⟩
    simp at hp
    rw [hp]
    exact l0.1
theorem ptsL_len (s : Str) : (ptsL s).length ≤ s.length + 1 ∧ ∀ p ∈ ptsL s, p.2.length ≤ s.length := by
 have h := cpS_len (c := 45) s (Nat.le_refl _)
 obtain ⟨h1, h2⟩ := parF_len ((cpS 45 s).length + 1) (cpB 45 s) (cpS 45 s) (Nat.lt_succ_self _)
 exact ⟨Nat.le_trans h1 (by omega), fun p hp => Nat.le_trans (h2 p hp) h⟩
theorem tmP_len {t : Str} {c : Cf} (h : tmP t = some c) : nmB c.1 = true ∧ c.2.length ≤ t.length + 1 := by
 have hl := (ct_len 42 t).1
 have hR : ∀ d nm, tmR d nm = some c → nmB c.1 = true ∧ c.2.length ≤ d.length := fun d nm h => by
  unfold tmR at h
  split at h
  · rename_i h1
    cases h
    exact ⟨h1.2.2, canon_len d⟩
  · cases h
 unfold tmP at h
 split at h
 · have := hR _ _ h
   exact ⟨this.1, by omega⟩
 · have := hR _ _ h
   exact ⟨this.1, by have := this.2; simp at this; omega⟩
theorem tmS_len {p : Bool × Str} {c : Cf} (h : tmS p = some c) : nmB c.1 = true ∧ c.2.length ≤ p.2.length + 2 := by
 unfold tmS at h
 rw [Option.map_eq_some_iff] at h
 obtain ⟨d, h1, h2⟩ := h
 obtain ⟨h3, h4⟩ := tmP_len h1
 split at h2
 · rw [← h2]
   exact ⟨h3, Nat.le_trans (canon_le (k := p.2.length + 1) (by rw [Int.natAbs_neg]; exact val_lt h4)) (by omega)⟩
 · rw [← h2]
   exact ⟨h3, by omega⟩
abbrev pT : Nat := 113 * 100000 + 4
theorem itParts (s : Str) (hs : s.length ≤ 1000000) : PCalls Tryz.prog 126 [dS s] (.d (dIt Tryz.prog ((ptsL s).map vPt))) := by
 refine pcalls_of_pw Tryz.func126 rfl Tryz.ntmps126 Tryz.results126 (by simp) fun B w0 => ?_
 refine pzr (yK (cs := [_]) rfl rfl (yAd rfl (yQ (pzr (yCm rfl (yAf rfl (yQ ?_))))))); refine pw_it1 2 1 ((ptsL s).map vPt) (ds := [dS s]) (parts1_spec s hs) rfl rfl rfl ?_; refine pw_ret ?_
 exact q_ret _ (.tmp rfl .nil) rfl
theorem wParseG (s : Str) (hs : s.length ≤ 65536) (hpl : (ptsL s).length ≤ 65537) (hpt : ∀ p ∈ ptsL s, p.2.length ≤ 65536) : PCalls Tryz.prog 80 [dS s] (.tup [.sl 2 ((paR s).map dCf), dI (paE s)]) := by
 have t0 : decide ((s.length : Int) > 65536) = false := decide_eq_false (by omega)
 by_cases h0 : s = [48]
 · have t1 : (s == [48]) = true := by simp [h0]
   rw [paR, paE, if_pos h0, if_pos h0]
   refine pcalls_of_pw Tryz.func80 rfl Tryz.ntmps80 Tryz.results80 (by simp) fun B w0 => ?_
   refine pzr (yZ (cs := [_]) rfl rfl (yZ (cs := [_]) rfl rfl (yQ (pw_seq (pzr (yMd rfl (yNs rfl (yB rfl rfl rfl rfl (yQ ?_))))))))); refine q_then ?_; rw [t0]; refine pw_cf rfl (pw_skip (pw_seq (pzr (yMd rfl (yBse rfl rfl (yQ (q_then ?_))))))); rw [t1]; refine pw_ct rfl (pzr (ySd (cs' := [_]) rfl rfl rfl rfl (ySd (cs' := [_]) rfl rfl rfl rfl (yQ (pw_ret (q_then_ret ?_))))))
   exact q_ret _ (.onil 2 inferInstance rfl rfl (.one inferInstance rfl rfl rfl .nil)) rfl
 have t1 : (s == [48]) = false := by simp [h0]
 rw [paR, paE, if_neg h0, if_neg h0]
 have k1 := itParts s (by omega)
 obtain ⟨R, hR⟩ : ∃ R, R = (if okT s = true then (if 16 < (lsT s).length then [] else nf (lsT s)) else []) := ⟨_, rfl⟩
 obtain ⟨E, hE⟩ : ∃ E : Int, E = (if okT s = true then (if 16 < (lsT s).length then 4 else 0) else 3) := ⟨_, rfl⟩
 rw [← hR, ← hE]
 have hLl : ∀ i, (((ptsL s).take i).filterMap tmS).length ≤ 65537 := fun i => Nat.le_trans (List.length_filterMap_le _ _) (by rw [List.length_take]; omega)
 refine pcalls_of_pwN Tryz.func80 rfl Tryz.ntmps80 Tryz.results80 (by simp) fun B w0 hrl => ?_
 refine pzr (yZ (cs := [_]) rfl rfl (yZ (cs := [_]) rfl rfl (yQ (pw_seq (pzr (yMd rfl (yNs rfl (yB rfl rfl rfl rfl (yQ ?_))))))))); refine q_then ?_; rw [t0]; refine pw_cf rfl (pw_skip (pw_seq (pzr (yMd rfl (yBse rfl rfl (yQ (q_then ?_))))))); rw [t1]; refine pw_cf rfl (pw_skip (pzr (yZ (cs := [_]) rfl rfl (yQ ?_)))); refine pw_tokb 4 0 pT 2 rfl rfl rfl rfl ?_; refine pw_seq (pzr (yMd rfl (yC (k1) rfl rfl (yQ (pw_block ?_))))); refine pw_le (st' := ⟨39, [(2, .bx 2 0), (3, .bx 3 0), (4, .bx 4 0), (15, .d (dIt Tryz.prog ((ptsL s).map vPt)))], [(2, [.d (.val (.slice none 0 0))]), (3, [.d (dI 0)]), (4, [.ts pT 2 ((((ptsL s).take 0).filterMap tmS).map dCf)])], [(pT, ((((ptsL s).take 0).filterMap tmS).map dCf).length)]⟩) ⟨rfl, ⟨.refl _, .refl _, .refl _, .refl _, trivial⟩, ⟨⟨_, rfl, lesC_refl _⟩, ⟨_, rfl, lesC_refl _⟩, ⟨_, rfl, lesC_refl _⟩, trivial⟩, ⟨rfl, trivial⟩, rfl⟩ ?_; refine pw_rf ((ptsL s).map vPt) [(5, 16), (6, 17)] (fun i => ∀ p ∈ (ptsL s).take i, (tmS p).isSome = true)
  (fun i => [(2, [.d (.val (.slice none 0 0))]), (3, [.d (dI 0)]), (4, [.ts pT 2 ((((ptsL s).take i).filterMap tmS).map dCf)])])
  (fun i => [(pT, ((((ptsL s).take i).filterMap tmS).map dCf).length)]) (fun p hp => by simp at hp) hrl rfl (fun x hx => by obtain ⟨p, -, rfl⟩ := List.mem_map.1 hx; rfl) rfl rfl (by decide) ?_ ?_
 · intro i x hx hI
   rw [List.getElem?_map, Option.map_eq_some_iff] at hx
   obtain ⟨⟨neg, t⟩, hp, rfl⟩ := hx
   refine ⟨[.any, .any, .bx 2 0, .bx 3 0, .bx 4 0, .d (dB neg), .d (dS t)], of_decide_eq_true rfl, .any (.any (.keep rfl (.refl _) (.keep rfl (.refl _) (.keep rfl (.refl _) (.new rfl rfl (.new rfl rfl .nil)))))), rfl, rfl, by kernel_rfl, fun B w0 => ?_⟩
   have htl := hpt _ (List.mem_of_getElem? hp)
   simp only at htl
   have k2 := wParseTerm t (by omega)
   have hli := hLl i
   have htk : (ptsL s).take (i + 1) = (ptsL s).take i ++ [(neg, t)] := by rw [List.take_add_one, hp]; rfl
   cases ht : tmP t with
   | none =>
    rw [ht] at k2
    have hok : okT s = false := by
     rw [okT, List.all_eq_false]
     exact ⟨(neg, t), List.mem_of_getElem? hp, by simp [tmS, ht]⟩
    rw [hok, if_neg (by simp)] at hR hE
    subst hR hE
    obtain ⟨l, hl⟩ : ∃ l, l = (((ptsL s).take i).filterMap tmS).map dCf := ⟨_, rfl⟩
    rw [← hl]
    refine pw_block (pzr (yMd rfl (yC (k2) rfl rfl (yMp rfl (yX rfl rfl (yX rfl rfl (yZ (cs := [_, _]) rfl rfl (yS (cs' := [_, _]) rfl rfl rfl rfl rfl (yAd rfl ?_))))))))); refine yQ (pw_seq (pzr (yMd rfl (yU rfl rfl rfl (yQ (pw_ct rfl (pzr (ySd (cs' := [_]) rfl rfl rfl rfl (ySd (cs' := [_]) rfl rfl rfl rfl ?_))))))))); refine yQ (pw_ret (q_then_ret (q_blk_ret ?_)))
    exact ⟨[(2, [.d (.val (.slice none 0 0))]), (3, [.d (dI 3)]), (4, [.ts pT 2 l])], [(pT, l.length)], ⟨rfl, rfl, rfl, trivial⟩, ⟨rfl, trivial⟩, rfl, rfl, by kernel_rfl, q_ret _ (.onil 2 inferInstance rfl rfl (.one inferInstance rfl rfl rfl .nil)) rfl⟩
   | some c =>
    obtain ⟨c0, c1⟩ := c
    rw [ht] at k2
    have hcl := tmP_len ht
    simp only at hcl
    cases neg with
    | false =>
     have hnx : ((ptsL s).take (i + 1)).filterMap tmS = ((ptsL s).take i).filterMap tmS ++ [(c0, c1)] := by rw [htk, List.filterMap_append]; simp [tmS, ht]
     have hI2 : ∀ p ∈ (ptsL s).take (i + 1), (tmS p).isSome = true := fun p hp2 => by
      rw [htk] at hp2
      rcases List.mem_append.1 hp2 with h | h
      · exact hI p h
      · rw [List.mem_singleton.1 h]; simp [tmS, ht]
     obtain ⟨zs, hz⟩ : ∃ z, z = ((ptsL s).take i).filterMap tmS := ⟨_, rfl⟩
     rw [← hz] at hnx hli ⊢
     clear hz
     refine pw_block (pzr (yMd rfl (yC (k2) rfl rfl (yMp rfl (yX rfl rfl (yX rfl rfl (yZ (cs := [_, _]) rfl rfl (yS (cs' := [_, _]) rfl rfl rfl rfl rfl (yAd rfl ?_))))))))); refine yQ (pw_seq (pzr (yMd rfl (yU rfl rfl rfl (yQ (pw_cf rfl (pw_skip (pw_seq (pzr ?_))))))))); refine yMd rfl (yQ (pw_cf rfl (pw_skip (pw_region (yLt rfl rfl rfl (yLa (ys := [_, _]) rfl rfl rfl rfl ?_)))))); refine yR (es := [[_, _]]) rfl rfl rfl rfl rfl ?_; refine yT (es' := (zs ++ [(c0, c1)]).map dCf) (m := ((zs ++ [(c0, c1)]).map dCf).length) (by simp; omega) (by simp; omega) rfl rfl rfl rfl rfl (by simp) (by simp) ?_; refine ySt (cs' := [_]) rfl rfl rfl rfl (yQ (q_blk ?_))
     exact ⟨hI2, ⟨rfl, rfl, (by rw [hnx]; rfl), trivial⟩, ⟨(by rw [hnx]; rfl), trivial⟩⟩
    | true =>
     have hnx : ((ptsL s).take (i + 1)).filterMap tmS = ((ptsL s).take i).filterMap tmS ++ [(c0, canon (- val c1))] := by rw [htk, List.filterMap_append]; simp [tmS, ht]
     have hI2 : ∀ p ∈ (ptsL s).take (i + 1), (tmS p).isSome = true := fun p hp2 => by
      rw [htk] at hp2
      rcases List.mem_append.1 hp2 with h | h
      · exact hI p h
      · rw [List.mem_singleton.1 h]; simp [tmS, ht]
     have k3 := wNegT c1 (by omega)
     obtain ⟨zs, hz⟩ : ∃ z, z = ((ptsL s).take i).filterMap tmS := ⟨_, rfl⟩
     obtain ⟨q, hq⟩ : ∃ z, z = canon (- val c1) := ⟨_, rfl⟩
     rw [← hz, ← hq] at hnx
     rw [← hz] at hli ⊢
     rw [← hq] at k3
     clear hz hq
     refine pw_block (pzr (yMd rfl (yC (k2) rfl rfl (yMp rfl (yX rfl rfl (yX rfl rfl (yZ (cs := [_, _]) rfl rfl (yS (cs' := [_, _]) rfl rfl rfl rfl rfl (yAd rfl ?_))))))))); refine yQ (pw_seq (pzr (yMd rfl (yU rfl rfl rfl (yQ (pw_cf rfl (pw_skip (pw_seq (pzr ?_))))))))); refine yMd rfl (yQ (pw_ct rfl (pw_region (yFb rfl (yLd rfl rfl rfl (yC (k3) rfl rfl (yFb rfl (ySd (cs' := [_, _]) rfl rfl rfl rfl (yQ ?_))))))))); refine pw_region (yLt rfl rfl rfl (yLa (ys := [_, _]) rfl rfl rfl rfl ?_)); refine yR (es := [[_, _]]) rfl rfl rfl rfl rfl ?_; refine yT (es' := (zs ++ [(c0, q)]).map dCf) (m := ((zs ++ [(c0, q)]).map dCf).length) (by simp; omega) (by simp; omega) rfl rfl rfl rfl rfl (by simp) (by simp) ?_; refine ySt (cs' := [_]) rfl rfl rfl rfl (yQ (q_blk ?_))
     exact ⟨hI2, ⟨rfl, rfl, (by rw [hnx]; rfl), trivial⟩, ⟨(by rw [hnx]; rfl), trivial⟩⟩
 · intro hI
   rw [List.length_map, List.take_length] at hI
   have hok : okT s = true := List.all_eq_true.2 hI
   rw [hok, if_pos rfl] at hR hE
   rw [List.length_map, List.take_length]
   show QBlock 0 _ .normal ⟨39, _, [(2, [.d (.val (.slice none 0 0))]), (3, [.d (dI 0)]), (4, [.ts pT 2 ((lsT s).map dCf)])], [(pT, ((lsT s).map dCf).length)]⟩
   have hll : (lsT s).length ≤ 65537 := by have := hLl (ptsL s).length; rwa [List.take_length] at this
   by_cases h3 : 16 < (lsT s).length
   · have t2 : decide ((((lsT s).map dCf).length : Int) > 16) = true := decide_eq_true (by rw [List.length_map]; omega)
     rw [if_pos h3] at hR hE
     subst hR hE
     obtain ⟨l, hl⟩ : ∃ l, l = (lsT s).map dCf := ⟨_, rfl⟩
     rw [← hl] at t2 ⊢
     refine pw_seq (pzr (yLt rfl rfl rfl (yN rfl (yB rfl rfl rfl rfl (yQ (q_then ?_)))))); rw [t2]; refine pw_ct rfl (pzr (ySd (cs' := [_]) rfl rfl rfl rfl (ySd (cs' := [_]) rfl rfl rfl rfl (yQ (pw_ret (q_then_ret ?_))))))
     exact q_ret _ (.onil 2 inferInstance rfl rfl (.one inferInstance rfl rfl rfl .nil)) rfl
   · have t2 : decide ((((lsT s).map dCf).length : Int) > 16) = false := decide_eq_false (by rw [List.length_map]; omega)
     rw [if_neg h3] at hR hE
     subst hE
     have hm : ∀ c ∈ lsT s, nmB c.1 = true ∧ c.2.length ≤ 70000 := fun c hc => by
      obtain ⟨p, hp, h4⟩ := List.mem_filterMap.1 hc
      have h5 := tmS_len h4
      have h6 := hpt p hp
      exact ⟨h5.1, by omega⟩
     have k4 := wNormalI (lsT s) (by omega) (fun c hc => by have := nmB_len (hm c hc).1; omega) (fun c hc => (hm c hc).2)
     rw [← hR] at k4
     obtain ⟨l, hl⟩ : ∃ l, l = (lsT s).map dCf := ⟨_, rfl⟩
     rw [← hl] at t2 k4 ⊢
     refine pw_seq (pzr (yLt rfl rfl rfl (yN rfl (yB rfl rfl rfl rfl (yQ (q_then ?_)))))); rw [t2]; refine pw_cf rfl (pw_skip (pzr (yLt rfl rfl rfl (yC (k4) rfl rfl (ySl (cs' := [_]) rfl rfl rfl rfl (ySd (cs' := [_]) rfl rfl rfl rfl (yQ (pw_ret ?_))))))))
     exact q_ret _ (.one inferInstance rfl rfl rfl (.one inferInstance rfl rfl rfl .nil)) rfl
theorem wParse (s : Str) (hs : s.length ≤ 65536) : PCalls Tryz.prog 80 [dS s] (.tup [.sl 2 ((paR s).map dCf), dI (paE s)]) := by
 obtain ⟨hpl, hpt⟩ := ptsL_len s
 exact wParseG s (by omega) (by omega) fun p hp => Nat.le_trans (hpt p hp) hs
abbrev tyR : Nat := 32
abbrev tyL : Nat := 53
abbrev enR (l : List Ru) : List (Int × List (List DV)) := l.map fun r => (r.1, r.2.map dLn)
def paO (t : Str) : Option (List Cf) := if paE t = 0 then some (paR t) else none
def lnG (c : Bool) (out : List Ru) (t : Str) : Option (List Ru) :=
 if ctB 32 t && tmpB nameB (ctT 32 t) && !out.isEmpty then (paO (ctR 32 t)).map fun e => addR (ctT 32 t, c, e) out else none
def MRd (bo : Nat) (out : List Ru) (o : Option (List Ru)) (r : SV) (j : EI) : Prop := r = .d (dB o.isSome) ∧ RA j bo tyR tyL (enR (o.getD out))
theorem MRd.ok {bo : Nat} {out : List Ru} {o : Option (List Ru)} (r : SV) (j : EI) (h : MRd bo out o r j) : resOk r = true := by
 rw [h.1]; rfl
theorem hLine (c : Bool) (out : List Ru) (t : Str) (bo : Nat) (i : EI) (hi : RA i bo tyR tyL (enR out)) (ht : t.length ≤ 65536) (ho : out.length ≤ 100000) (hol : ∀ r ∈ out, r.2.length ≤ 100000) :
 HCE Tryz.prog 78 [dS t, .val (.pointer (some ⟨bo, 0, none⟩)), .ref [dB c]] i (MRd bo out (lnG c out t)) := by
 obtain ⟨hl1, hl2, -⟩ := ct_len 32 t
 have k1 := wCut1 t 32 (by omega)
 have k2 := wParse (ctR 32 t) (by omega)
 have k3 := wIsTmp (ctT 32 t) (by omega)
 obtain ⟨O, hO⟩ : ∃ O, O = lnG c out t := ⟨_, rfl⟩
 rw [← hO]
 unfold lnG paO at hO
 obtain ⟨T, hT⟩ : ∃ T, T = ctT 32 t := ⟨_, rfl⟩
 obtain ⟨R, hR⟩ : ∃ R, R = ctR 32 t := ⟨_, rfl⟩
 obtain ⟨b, hb⟩ : ∃ b, b = ctB 32 t := ⟨_, rfl⟩
 rw [← hT, ← hR, ← hb] at k1 hO
 rw [← hR] at k2
 rw [← hT] at k3
 obtain ⟨e, he⟩ : ∃ e, e = paR R := ⟨_, rfl⟩
 obtain ⟨x, hx⟩ : ∃ x, x = paE R := ⟨_, rfl⟩
 obtain ⟨tp, htp⟩ : ∃ x, x = tmpB nameB T := ⟨_, rfl⟩
 rw [← he, ← hx] at k2 hO
 rw [← htp] at k3 hO
 clear hT hR hb he hx htp hl1 hl2
 have fail : O = none → MRd bo out O (.d (dB false)) ⟨i.bs, i.fs, none⟩ := fun h => by rw [h]; exact ⟨rfl, hi⟩
 obtain ⟨xs0, To, v, cells, h1, h2, h3, h4, h5⟩ := hi
 have hv1 := h3.one
 cases b with
 | false =>
  have f1 := fail (by rw [hO]; simp)
  refine hce_of_pe Tryz.func78 rfl Tryz.ntmps78 Tryz.results78 (by simp) fun p d0 => ?_
  refine px_seq (px_rs (pe1 (yAd rfl (yQ (pl_nil (px_seq (px_rs (pe1 (yMd rfl ?_))))))))); refine yQ (pe1 (yC (k1) rfl rfl (yQ (pe1 (yMp rfl (yQ (pe1 (yX rfl rfl (yQ ?_))))))))); refine pe1 (yX rfl rfl (yQ (pe1 (yX rfl rfl (yQ (pe1 (yAd rfl (yQ (pe1 ?_))))))))); refine yAd rfl (yQ (pe1 (yAd rfl (yQ (pl_nil (px_seq (px_rs (pe1 (yMd rfl ?_))))))))); refine yQ (pe1 (yC (k2) rfl rfl (yQ (pe1 (yMp rfl (yQ (pe1 (yX rfl rfl (yQ ?_))))))))); refine pe1 (yX rfl rfl (yQ (pe1 (yAd rfl (yQ (pe1 (yAd rfl (yQ (pl_nil ?_))))))))); refine px_seq (px_seq (px_rs (pe1 (yMd rfl (yQ (pe1 (yU rfl rfl rfl (yQ (pe1 ?_))))))))); refine yMd rfl (yQ (pe1 (yO rfl (yQ (pe1 (yO rfl (yQ (pe1 (yPd rfl rfl ?_))))))))); refine yQ (pe1 (yMd rfl (yQ (pe1 (yO rfl (yQ (pe1 (yO rfl (yQ ?_))))))))); refine pe1 (yO rfl (yQ (pe1 (yPd rfl rfl (yQ (pe1 (yMd rfl (yQ (pe1 ?_))))))))); refine yO rfl (yQ (pe1 (yO rfl (yQ (pe1 (yO rfl (yQ (pe1 (yPd rfl rfl ?_))))))))); refine yQ (pl_nil (pe_ct rfl (px_seq (px_rs (pe1 (yAd rfl (yQ (pl_nil (px_ret ?_))))))))); refine qe_then_ret ?_
  exact qe_ret _ (.tmp rfl .nil) f1
 | true =>
 by_cases hx0 : x = 0
 rotate_left
 · have t1 : (x != 0) = true := by simp [hx0]
   have f1 := fail (by rw [hO]; split <;> simp)
   refine hce_of_pe Tryz.func78 rfl Tryz.ntmps78 Tryz.results78 (by simp) fun p d0 => ?_
   refine px_seq (px_rs (pe1 (yAd rfl (yQ (pl_nil (px_seq (px_rs (pe1 (yMd rfl ?_))))))))); refine yQ (pe1 (yC (k1) rfl rfl (yQ (pe1 (yMp rfl (yQ (pe1 (yX rfl rfl (yQ ?_))))))))); refine pe1 (yX rfl rfl (yQ (pe1 (yX rfl rfl (yQ (pe1 (yAd rfl (yQ (pe1 ?_))))))))); refine yAd rfl (yQ (pe1 (yAd rfl (yQ (pl_nil (px_seq (px_rs (pe1 (yMd rfl ?_))))))))); refine yQ (pe1 (yC (k2) rfl rfl (yQ (pe1 (yMp rfl (yQ (pe1 (yX rfl rfl (yQ ?_))))))))); refine pe1 (yX rfl rfl (yQ (pe1 (yAd rfl (yQ (pe1 (yAd rfl (yQ (pl_nil ?_))))))))); refine px_seq (px_seq (px_rs (pe1 (yMd rfl (yQ (pe1 (yU rfl rfl rfl (yQ (pe1 ?_))))))))); refine yMd rfl (yQ (pe1 (yMd rfl (yQ (pe1 (yB rfl rfl rfl rfl (yQ (pe1 (yVd rfl rfl ?_))))))))); refine yQ (pe1 (yMd rfl (yQ (pe1 ?_)))); rw [t1]; refine yO rfl (yQ (pe1 (yO rfl (yQ (pe1 (yO rfl (yQ (pe1 (yPd rfl rfl ?_))))))))); refine yQ (pe1 (yMd rfl (yQ (pe1 (yO rfl (yQ (pe1 (yO rfl (yQ ?_))))))))); refine pe1 (yO rfl (yQ (pe1 (yPd rfl rfl (yQ (pl_nil (pe_ct rfl (px_seq (px_rs ?_))))))))); refine pe1 (yAd rfl (yQ (pl_nil (px_ret (qe_then_ret ?_)))))
   exact qe_ret _ (.tmp rfl .nil) f1
 subst hx0
 cases tp with
 | false =>
  have f1 := fail (by rw [hO]; simp)
  refine hce_of_pe Tryz.func78 rfl Tryz.ntmps78 Tryz.results78 (by simp) fun p d0 => ?_
  refine px_seq (px_rs (pe1 (yAd rfl (yQ (pl_nil (px_seq (px_rs (pe1 (yMd rfl ?_))))))))); refine yQ (pe1 (yC (k1) rfl rfl (yQ (pe1 (yMp rfl (yQ (pe1 (yX rfl rfl (yQ ?_))))))))); refine pe1 (yX rfl rfl (yQ (pe1 (yX rfl rfl (yQ (pe1 (yAd rfl (yQ (pe1 ?_))))))))); refine yAd rfl (yQ (pe1 (yAd rfl (yQ (pl_nil (px_seq (px_rs (pe1 (yMd rfl ?_))))))))); refine yQ (pe1 (yC (k2) rfl rfl (yQ (pe1 (yMp rfl (yQ (pe1 (yX rfl rfl (yQ ?_))))))))); refine pe1 (yX rfl rfl (yQ (pe1 (yAd rfl (yQ (pe1 (yAd rfl (yQ (pl_nil ?_))))))))); refine px_seq (px_seq (px_rs (pe1 (yMd rfl (yQ (pe1 (yU rfl rfl rfl (yQ (pe1 ?_))))))))); refine yMd rfl (yQ (pe1 (yMd rfl (yQ (pe1 (yB rfl rfl rfl rfl (yQ (pe1 (yVd rfl rfl ?_))))))))); refine yQ (pe1 (yMd rfl (yQ (pe1 (yMd rfl (yQ (pe1 (yC (k3) rfl rfl (yQ ?_))))))))); refine pe1 (yU rfl rfl rfl (yQ (pe1 (yVd rfl rfl (yQ (pe1 (yMd rfl (yQ (pe1 ?_))))))))); refine yO rfl (yQ (pe1 (yO rfl (yQ (pe1 (yO rfl (yQ (pe1 (yPd rfl rfl ?_))))))))); refine yQ (pl_nil (pe_ct rfl (px_seq (px_rs (pe1 (yAd rfl (yQ (pl_nil (px_ret ?_))))))))); refine qe_then_ret ?_
  exact qe_ret _ (.tmp rfl .nil) f1
 | true =>
 rcases List.eq_nil_or_concat out with rfl | ⟨l', r, rfl⟩
 · have f1 := fail (by rw [hO]; simp)
   have hv : v = .slice none 0 0 := RowAt.zero h3
   subst hv
   refine hce_of_pe Tryz.func78 rfl Tryz.ntmps78 Tryz.results78 (by simp) fun p d0 => ?_
   refine px_seq (px_rs (pe1 (yAd rfl (yQ (pl_nil (px_seq (px_rs (pe1 (yMd rfl ?_))))))))); refine yQ (pe1 (yC (k1) rfl rfl (yQ (pe1 (yMp rfl (yQ (pe1 (yX rfl rfl (yQ ?_))))))))); refine pe1 (yX rfl rfl (yQ (pe1 (yX rfl rfl (yQ (pe1 (yAd rfl (yQ (pe1 ?_))))))))); refine yAd rfl (yQ (pe1 (yAd rfl (yQ (pl_nil (px_seq (px_rs (pe1 (yMd rfl ?_))))))))); refine yQ (pe1 (yC (k2) rfl rfl (yQ (pe1 (yMp rfl (yQ (pe1 (yX rfl rfl (yQ ?_))))))))); refine pe1 (yX rfl rfl (yQ (pe1 (yAd rfl (yQ (pe1 (yAd rfl (yQ (pl_nil ?_))))))))); refine px_seq (px_seq (px_rs (pe1 (yMd rfl (yQ (pe1 (yU rfl rfl rfl (yQ (pe1 ?_))))))))); refine yMd rfl (yQ (pe1 (yMd rfl (yQ (pe1 (yB rfl rfl rfl rfl (yQ (pe1 (yVd rfl rfl ?_))))))))); refine yQ (pe1 (yMd rfl (yQ (pe1 (yMd rfl (yQ (pe1 (yC (k3) rfl rfl (yQ ?_))))))))); refine pe1 (yU rfl rfl rfl (yQ (pe1 (yVd rfl rfl (yQ (pe1 (yMd rfl (yQ ?_)))))))); refine pl_cons ?_; refine pl_eld rfl h1 h2 hv1 ?_; refine pe1 (yNv rfl (yQ (pe1 (yB rfl rfl rfl rfl (yQ (pe1 (yVd rfl rfl (yQ (pl_nil ?_))))))))); refine pe_ct rfl (px_seq (px_rs (pe1 (yAd rfl (yQ (pl_nil (px_ret (qe_then_ret ?_))))))))
   exact qe_ret _ (.tmp rfl .nil) f1
 rw [List.concat_eq_append] at hO ho hol fail h3 h5 ⊢
 have hOs : O = some (l' ++ [(r.1, r.2 ++ [(T, c, e)])]) := by
  have hne : (l' ++ [r]).isEmpty = false := by cases l' <;> rfl
  rw [hO, hne]
  exact congrArg some (addR_last _ _ _)
 have hen : (enR (l' ++ [r])).length = l'.length + 1 := by simp
 obtain ⟨br, cp, xs, rfl, x2, x3, x1, x4, x5⟩ := h3.pos (by rw [hen]; omega)
 rw [hen] at h2 x2 x5 h5 h4 hv1
 have hn1 : ((l'.length + 1 : Nat) : Int) ≠ 0 := by omega
 have t1 : (((l'.length + 1 : Nat) : Int) == 0) = false := beq_false_of_ne hn1
 have hw : IntKind.i64.wrap (((l'.length + 1 : Nat) : Int) - 1) = (l'.length : Int) := by
  rw [List.length_append] at ho
  simp only [List.length_cons, List.length_nil] at ho
  rw [wrapI _ (by omega)]; omega
 have hoff : 0 + ((l'.length : Int)).toNat * 2 = l'.length * 2 := by rw [Int.toNat_natCast]; omega
 have hlt : (l'.length : Int) < ((l'.length + 1 : Nat) : Int) := by omega
 have hcl : cells.length = (l'.length + 1) * 2 := by rw [← x5, List.length_take]; omega
 have hen2 : enR (l' ++ [r]) = enR l' ++ [(r.1, r.2.map dLn)] := by simp
 rw [hen2] at h5
 have hel : (enR l').length = l'.length := by simp
 have hlast : (enR l' ++ [(r.1, r.2.map dLn)])[l'.length]? = some (r.1, r.2.map dLn) := by rw [List.getElem?_append_right (by omega), hel, Nat.sub_self]; rfl
 obtain ⟨-, lv, lc, q1, q2, q3, q4⟩ := h5.1 _ _ hlast
 have hlv1 := q2.one
 have hu : xs[l'.length * 2 + 1]? = some lv := by
  rw [← x5] at q1
  have := (List.getElem?_eq_some_iff.1 q1).1
  rw [List.length_take] at this
  rwa [List.getElem?_take_of_lt (by omega)] at q1
 have hbo : br ≠ bo := fun e => h4 (by rw [e]; rfl)
 have hrl : r.2.length ≤ 100000 := hol r (by simp)
 have hxl : l'.length * 2 + 1 + 1 ≤ xs.length := by omega
 simp only at q2 q4
 rw [List.length_map] at q2
 have hbr : ∀ (b' : Nat) (bs' : EB), (lv.ownBlock = some b' ∨ aget i.bs b' = none) → (∀ b, b ≠ b' → lv.ownBlock ≠ some b → aget bs' b = aget i.bs b) → aget bs' br = some (xs, tyR) := fun b' bs' w3 w4 => by
  have h6 : lv.ownBlock ≠ some br := fun e => (q3 br e).2 rfl
  have h7 : br ≠ b' := fun e => by
   rcases w3 with w3 | w3
   · exact h6 (e ▸ w3)
   · rw [← e, x1] at w3; cases w3
  rw [w4 br h7 h6]
  exact x1
 have done : ∀ (v' : Value) (b' : Nat) (bs' : EB) (news vs : List Value), v'.ownBlock = some b' → RowAt bs' tyL 3 v' (r.2.length + 1) (lc ++ news) → (lv.ownBlock = some b' ∨ aget i.bs b' = none) → (∀ b, b ≠ b' → lv.ownBlock ≠ some b → aget bs' b = aget i.bs b) → news.length = 3 → (∀ u ∈ news, u.oneCell' = true) → vs.length = 1 → ExV vs [.val v'] →
  MRd bo (l' ++ [r]) O (.d (dB true)) ⟨(br, (setL xs (l'.length * 2 + 1) vs, tyR)) :: bs', vs.zip [.val v'] ++ (news.zip [dS T, dB c, .sl 2 (e.map dCf)] ++ i.fs), none⟩ := fun v' b' bs' news vs w1 w2 w3 w4 w5 w6 w7 w8 => by
  have hra := RA.line (i := i) (bo := bo) (br := br) (Er := tyR) (El := tyL) (To := To) (c := cp) (b' := b') (rs := enR l') (r := (r.1, r.2.map dLn)) (e := [dS T, dB c, .sl 2 (e.map dCf)]) (xs0 := xs0) (xs := xs) (vs := vs) (news := news) (cells := cells) (lc := lc) (lv := lv) (v' := v') (bs' := bs') (fs' := vs.zip [.val v'] ++ (news.zip [dS T, dB c, .sl 2 (e.map dCf)] ++ i.fs)) (it' := none)
   h1 (by rw [hel]; exact h2) hbo (by rw [hel]; exact h5) (by rw [hel]; exact hcl) x1 (by rw [hel]; exact x2) x3 x4 (by rw [hel]; exact x5) (by rw [hel]; exact q1) (by simpa using q2) (fun m l hm => q4 m l hm) w1 (by simpa using w2) w3 w4 w5 rfl w6 w7 w8 (fun q hq => by simp [hq]) (fun q hq => List.mem_append_right _ (List.mem_append_left _ hq))
  rw [hel] at hra
  rw [hOs]
  refine ⟨rfl, ?_⟩
  have e3 : enR ((some (l' ++ [(r.1, r.2 ++ [(T, c, e)])])).getD (l' ++ [r])) = enR l' ++ [(r.1, r.2.map dLn ++ [[dS T, dB c, .sl 2 (e.map dCf)]])] := by simp [enR]
  rw [e3]
  exact hra
 clear fail hO hOs h5 q4 hol hlast hen2 hel
 refine hce_of_pe Tryz.func78 rfl Tryz.ntmps78 Tryz.results78 (by simp) fun p d0 => ?_
 refine pe_tell (ref_tell 2 rfl) ?_; refine px_seq (px_rs (pe1 (yAd rfl (yQ (pl_nil (px_seq (px_rs (pe1 (yMd rfl ?_))))))))); refine yQ (pe1 (yC (k1) rfl rfl (yQ (pe1 (yMp rfl (yQ (pe1 (yX rfl rfl (yQ ?_))))))))); refine pe1 (yX rfl rfl (yQ (pe1 (yX rfl rfl (yQ (pe1 (yAd rfl (yQ (pe1 ?_))))))))); refine yAd rfl (yQ (pe1 (yAd rfl (yQ (pl_nil (px_seq (px_rs (pe1 (yMd rfl ?_))))))))); refine yQ (pe1 (yC (k2) rfl rfl (yQ (pe1 (yMp rfl (yQ (pe1 (yX rfl rfl (yQ ?_))))))))); refine pe1 (yX rfl rfl (yQ (pe1 (yAd rfl (yQ (pe1 (yAd rfl (yQ (pl_nil ?_))))))))); refine px_seq (px_seq (px_rs (pe1 (yMd rfl (yQ (pe1 (yU rfl rfl rfl (yQ (pe1 ?_))))))))); refine yMd rfl (yQ (pe1 (yMd rfl (yQ (pe1 (yB rfl rfl rfl rfl (yQ (pe1 (yVd rfl rfl ?_))))))))); refine yQ (pe1 (yMd rfl (yQ (pe1 (yMd rfl (yQ (pe1 (yC (k3) rfl rfl (yQ ?_))))))))); refine pe1 (yU rfl rfl rfl (yQ (pe1 (yVd rfl rfl (yQ (pe1 (yMd rfl (yQ ?_)))))))); refine pl_cons ?_; refine pl_eld rfl h1 h2 hv1 ?_; refine pe1 (yNv rfl (yQ (pe1 (yB rfl rfl rfl rfl (yQ (pe1 (yVd rfl rfl (yQ (pl_nil ?_))))))))); refine pe_cf rfl (px_skip (px_seq (px_rs ?_))); refine pl_cons ?_; refine pl_eld rfl h1 h2 hv1 ?_; refine pl_cons ?_; refine pl_eld rfl h1 h2 hv1 ?_; refine pe1 (yNv rfl (yQ (pe1 (yB rfl rfl rfl rfl (yQ (pe1 ?_)))))); rw [t1]; rw [hw]
 refine yWvq hoff (by omega) hlt rfl rfl (yQ (pe1 (yAd rfl (yQ (pl_nil (px_seq ?_)))))); refine pe_any Tryz.mixed ?_
 refine pae_take 0 rfl rfl rfl (by kernel_rfl) (held_move rfl) ?_
 refine pae_take 1 rfl rfl rfl (by kernel_rfl) (held_move rfl) ?_
 refine pae_take 2 rfl rfl rfl (by kernel_rfl) (held_nc rfl) ?_
 refine pae_take 3 rfl rfl rfl (by kernel_rfl) (held_fa rfl) ?_
 refine pae_take 5 rfl rfl rfl (by kernel_rfl) (held_move rfl) ?_
 refine pae_take 7 rfl rfl rfl (by kernel_rfl) (held_move rfl) ?_
 refine pae_step [4, 6] rfl rfl ⟨⟨_, rfl, ?_⟩, ⟨_, rfl, ?_⟩, trivial⟩
 · refine pl_eld rfl x1 hu hlv1 ?_; refine pae_step [_] rfl rfl ⟨⟨_, rfl, ?_⟩, trivial⟩; refine pe1 (yLr rfl rfl (yQ (pl_nil ?_))); refine pae_step [_] rfl rfl ⟨⟨_, rfl, ?_⟩, trivial⟩; refine pe1 ?_
   refine yG (ys := [_, _, _]) rfl rfl (yQ (pl_nil ?_)); refine pae_step [_] rfl rfl ⟨⟨_, rfl, ?_⟩, trivial⟩; refine pe1 ?_; refine yR (es := [[_, _, _]]) rfl rfl rfl rfl rfl ?_; refine yQ (pl_nil ?_)
   refine pae_step [_] rfl rfl ⟨⟨_, rfl, ?_⟩, trivial⟩; refine pl_rap q2 rfl rfl (by omega) (by omega) (fun v' b' bs' news w1 w2 w3 w4 w5 w6 w0 w10 => ?_); refine pae_step [_] rfl rfl ⟨⟨_, rfl, ?_⟩, trivial⟩; refine pe1 ?_
   refine yXv rfl (yQ (pl_nil ?_)); refine pae_step [_] rfl rfl ⟨⟨_, rfl, ?_⟩, trivial⟩; refine pe1 (yFv rfl (yQ (pl_nil ?_))); refine pae_step [_] rfl rfl ⟨⟨_, rfl, ?_⟩, trivial⟩
   refine pl_est (ds := [.val v']) rfl (hbr b' bs' w3 w4) rfl rfl hxl (fun vs w7 w9 w8 => ?_); refine pae_fin rfl ?_; refine px_seq (px_rs (pe1 (yAd rfl (yQ (pl_nil (px_ret ?_))))))
   exact qe_ret _ (.tmp rfl .nil) (done v' b' bs' news vs w1 w2 w3 w4 w5 w6 w7 w8)
 · refine pe1 (yLr rfl rfl (yQ (pl_nil ?_)))
   refine pae_step [4, 8] rfl rfl ⟨⟨_, rfl, ?_⟩, ⟨_, rfl, ?_⟩, trivial⟩
   · refine pl_eld rfl x1 hu hlv1 ?_; refine pae_step [_] rfl rfl ⟨⟨_, rfl, ?_⟩, trivial⟩; refine pe1 (yG (ys := [_, _, _]) rfl rfl (yQ (pl_nil ?_))); refine pae_step [_] rfl rfl ⟨⟨_, rfl, ?_⟩, trivial⟩
     refine pe1 ?_; refine yR (es := [[_, _, _]]) rfl rfl rfl rfl rfl ?_; refine yQ (pl_nil ?_); refine pae_step [_] rfl rfl ⟨⟨_, rfl, ?_⟩, trivial⟩
     refine pl_rap q2 rfl rfl (by omega) (by omega) (fun v' b' bs' news w1 w2 w3 w4 w5 w6 w0 w10 => ?_); refine pae_step [_] rfl rfl ⟨⟨_, rfl, ?_⟩, trivial⟩; refine pe1 (yXv rfl (yQ (pl_nil ?_)))
     refine pae_step [_] rfl rfl ⟨⟨_, rfl, ?_⟩, trivial⟩; refine pe1 (yFv rfl (yQ (pl_nil ?_))); refine pae_step [_] rfl rfl ⟨⟨_, rfl, ?_⟩, trivial⟩
     refine pl_est (ds := [.val v']) rfl (hbr b' bs' w3 w4) rfl rfl hxl (fun vs w7 w9 w8 => ?_); refine pae_fin rfl ?_; refine px_seq (px_rs (pe1 (yAd rfl (yQ (pl_nil (px_ret ?_))))))
     exact qe_ret _ (.tmp rfl .nil) (done v' b' bs' news vs w1 w2 w3 w4 w5 w6 w7 w8)
   · refine pe1 (yG (ys := [_, _, _]) rfl rfl (yQ (pl_nil ?_)))
     refine pae_step [4, 9] rfl rfl ⟨⟨_, rfl, ?_⟩, ⟨_, rfl, ?_⟩, trivial⟩
     · refine pl_eld rfl x1 hu hlv1 ?_; refine pae_step [_] rfl rfl ⟨⟨_, rfl, ?_⟩, trivial⟩; refine pe1 ?_; refine yR (es := [[_, _, _]]) rfl rfl rfl rfl rfl ?_; refine yQ (pl_nil ?_)
       refine pae_step [_] rfl rfl ⟨⟨_, rfl, ?_⟩, trivial⟩; refine pl_rap q2 rfl rfl (by omega) (by omega) (fun v' b' bs' news w1 w2 w3 w4 w5 w6 w0 w10 => ?_); refine pae_step [_] rfl rfl ⟨⟨_, rfl, ?_⟩, trivial⟩; refine pe1 ?_
       refine yXv rfl (yQ (pl_nil ?_)); refine pae_step [_] rfl rfl ⟨⟨_, rfl, ?_⟩, trivial⟩; refine pe1 (yFv rfl (yQ (pl_nil ?_))); refine pae_step [_] rfl rfl ⟨⟨_, rfl, ?_⟩, trivial⟩
       refine pl_est (ds := [.val v']) rfl (hbr b' bs' w3 w4) rfl rfl hxl (fun vs w7 w9 w8 => ?_); refine pae_fin rfl ?_; refine px_seq (px_rs (pe1 (yAd rfl (yQ (pl_nil (px_ret ?_))))))
       exact qe_ret _ (.tmp rfl .nil) (done v' b' bs' news vs w1 w2 w3 w4 w5 w6 w7 w8)
     · refine pe1 ?_; refine yR (es := [[_, _, _]]) rfl rfl rfl rfl rfl ?_; refine yQ (pl_nil ?_); refine pae_step [_] rfl rfl ⟨⟨_, rfl, ?_⟩, trivial⟩; refine pl_eld rfl x1 hu hlv1 ?_
       refine pae_step [_] rfl rfl ⟨⟨_, rfl, ?_⟩, trivial⟩; refine pl_rap q2 rfl rfl (by omega) (by omega) (fun v' b' bs' news w1 w2 w3 w4 w5 w6 w0 w10 => ?_); refine pae_step [_] rfl rfl ⟨⟨_, rfl, ?_⟩, trivial⟩; refine pe1 ?_
       refine yXv rfl (yQ (pl_nil ?_)); refine pae_step [_] rfl rfl ⟨⟨_, rfl, ?_⟩, trivial⟩; refine pe1 (yFv rfl (yQ (pl_nil ?_))); refine pae_step [_] rfl rfl ⟨⟨_, rfl, ?_⟩, trivial⟩
       refine pl_est (ds := [.val v']) rfl (hbr b' bs' w3 w4) rfl rfl hxl (fun vs w7 w9 w8 => ?_); refine pae_fin rfl ?_; refine px_seq (px_rs (pe1 (yAd rfl (yQ (pl_nil (px_ret ?_))))))
       exact qe_ret _ (.tmp rfl .nil) (done v' b' bs' news vs w1 w2 w3 w4 w5 w6 w7 w8)
instance mapTyKnd : MapTy Tryz.prog 98 := ⟨⟨3, 97, by kernel_rfl⟩⟩
def onG (out : List Ru) (t : Str) : Option (List Ru) := (kndW t).map fun k => out ++ [(k.1, [])]
theorem kndM_mem {k : Value} {v : DV} (h : (k, v) ∈ imap kndM) : ∃ kk ∈ kndL, k = vI kk.1 ∧ v = .agg (dKn kk.2) := by
 obtain ⟨p, hp, e⟩ := List.mem_map.1 h
 obtain ⟨kk, hk, rfl⟩ := List.mem_map.1 hp
 cases e
 exact ⟨kk, hk, rfl, rfl⟩
theorem kndM_in {kk : Knd} (h : kk ∈ kndL) : (vI kk.1, .agg (dKn kk.2)) ∈ imap kndM := List.mem_map.2 ⟨(kk.1, .agg (dKn kk.2)), List.mem_map.2 ⟨kk, h, rfl⟩, rfl⟩
theorem kndW_none {t : Str} (h : ∀ k ∈ kndL, k.2.1 ≠ t) : kndW t = none := by
 cases e : kndW t with
 | none => rfl
 | some k => obtain ⟨h1, h2⟩ := kndW_some e; exact absurd h2 (h k h1)
theorem knd_inj {a b : Knd} (ha : a ∈ kndL) (hb : b ∈ kndL) (h : vI a.1 = vI b.1) : a = b := by
 have h1 : a.1 = b.1 := by injection h
 have h2 := kndF_mem ha
 have h3 := kndF_mem hb
 rw [h1, h3] at h2
 exact (Option.some.inj h2).symm
def SeenW (t : Str) (dn : List (Value × DV)) : Prop := (∃ rl, (dn ++ rl).Perm (imap kndM)) ∧ ∀ kk ∈ kndL, (vI kk.1, DV.agg (dKn kk.2)) ∈ dn → kk.2.1 ≠ t
theorem hOn (out : List Ru) (t : Str) (bo : Nat) (i : EI) (hi : RA i bo tyR tyL (enR out)) (ho : out.length ≤ 100000) :
 HCE Tryz.prog 82 [dS t, .val (.pointer (some ⟨bo, 0, none⟩))] i (MRd bo out (onG out t)) := by
 have k0 := wKinds
 have hone : ∀ q ∈ imap kndM, q.1.oneCell' = true := fun q hq => by obtain ⟨p, -, rfl⟩ := List.mem_map.1 hq; rfl
 have hmem : ∀ (k : Value) (v : DV), (k, v) ∈ imap kndM → ∃ kk ∈ kndL, k = vI kk.1 ∧ v = .agg (dKn kk.2) := fun k v h => kndM_mem h
 have hin : ∀ kk ∈ kndL, (vI kk.1, .agg (dKn kk.2)) ∈ imap kndM := fun kk h => kndM_in h
 obtain ⟨O, hO⟩ : ∃ O, O = onG out t := ⟨_, rfl⟩
 rw [← hO]
 unfold onG at hO
 have fail : O = none → ∀ it, MRd bo out O (.d (dB false)) ⟨i.bs, i.fs, it⟩ := fun h it => by rw [h]; exact ⟨rfl, hi⟩
 obtain ⟨xs0, To, v, cells, h1, h2, h3, h4, h5⟩ := hi
 have hv1 := h3.one
 have hcl := h3.1
 have hel : (enR out).length = out.length := by simp
 rw [hel] at h3 hcl
 have hb0 : 0 + 1 ≤ xs0.length := by have := (List.getElem?_eq_some_iff.1 h2).1; omega
 have hbr : ∀ (b' : Nat) (bs' : EB), (v.ownBlock = some b' ∨ aget i.bs b' = none) → (∀ b, b ≠ b' → v.ownBlock ≠ some b → aget bs' b = aget i.bs b) → aget bs' bo = some (xs0, To) := fun b' bs' w3 w4 => by
  have h7 : bo ≠ b' := fun e => by
   rcases w3 with w3 | w3
   · exact h4 (e ▸ w3)
   · rw [← e, h1] at w3; cases w3
  rw [w4 bo h7 h4]
  exact h1
 have done : ∀ (n : Int) (it : Option (Nat × List (Value × DV) × List (Value × DV))) (v' : Value) (b' : Nat) (bs' : EB) (news vs : List Value), O = some (out ++ [(n, [])]) → v'.ownBlock = some b' → RowAt bs' tyR 2 v' (out.length + 1) (cells ++ news) → (v.ownBlock = some b' ∨ aget i.bs b' = none) → (∀ b, b ≠ b' → v.ownBlock ≠ some b → aget bs' b = aget i.bs b) → news.length = 2 → ExV news [.val (vI n), .val (.slice none 0 0)] → vs.length = 1 → ExV vs [.val v'] →
  MRd bo out O (.d (dB true)) ⟨(bo, (setL xs0 0 vs, To)) :: bs', vs.zip [.val v'] ++ (news.zip [.val (vI n), .val (.slice none 0 0)] ++ i.fs), it⟩ := fun n it v' b' bs' news vs hOs w1 w2 w3 w4 w5 w6 w7 w8 => by
  have hra := RA.push (i := i) (bo := bo) (Er := tyR) (El := tyL) (To := To) (b' := b') (rs := enR out) (xs0 := xs0) (vs := vs) (news := news) (cells := cells) (v := v) (v' := v') (bs' := bs') (fs' := vs.zip [.val v'] ++ (news.zip [.val (vI n), .val (.slice none 0 0)] ++ i.fs)) (it' := it) (n := n)
   h1 h2 h4 h5 (by rw [hel]; exact hcl) w1 (by rw [hel]; exact w2) w3 w4 w5 w6 w7 w8 (fun q hq => by simp [hq])
  rw [hOs]
  refine ⟨rfl, ?_⟩
  have e3 : enR ((some (out ++ [(n, [])])).getD out) = enR out ++ [(n, [])] := by simp [enR]
  rw [e3]
  exact hra
 clear h5 hcl
 obtain ⟨M, hM⟩ : ∃ M, M = imap kndM := ⟨_, rfl⟩
 have hsw : SeenW t = fun dn => (∃ rl, (dn ++ rl).Perm M) ∧ ∀ kk ∈ kndL, (vI kk.1, DV.agg (dKn kk.2)) ∈ dn → kk.2.1 ≠ t := by rw [hM]; rfl
 rw [← hM] at k0 hone hmem hin
 refine hce_of_pe Tryz.func82 rfl Tryz.ntmps82 Tryz.results82 (by simp) fun p d0 => ?_
 refine px_seq (px_rs (pe1 (yAd rfl (yQ (pl_nil (px_seq (px_seq (px_rs (pe1 ?_))))))))); refine yC (k0) rfl rfl (yQ ?_); refine pl_rge rfl fun r => ?_; refine px_block ?_; refine pe_lp (fun dn : List (Value × DV) => ⟨22, [(0, .d (dS t)), (1, .d (.val (.pointer (some ⟨bo, 0, none⟩)))), (7, .d (.val (.pointer (some ⟨r, 0, none⟩))))], [], []⟩) (fun dn => ⟨i.bs, i.fs, some (r, M, dn)⟩) (fun dn => SeenW t dn) (fun dn => M.length - dn.length) [] ⟨⟨_, List.Perm.refl _⟩, fun q _ hq => by simp at hq⟩ rfl
  ⟨rfl, ⟨.refl _, .refl _, .refl _, trivial⟩, trivial, trivial, rfl⟩ ?_
 intro dn hdn
 rw [hsw] at hdn
 obtain ⟨⟨rl0, hp0⟩, hz⟩ := hdn
 refine px_seq (px_rs ?_); refine pl_cons (pl_nxe rfl rfl (fun hp => ?_) (fun kk v' rl hq hp hk1 => ?_) hone); refine pe1 (yX rfl rfl (yQ (pl_nil (px_seq (pe_cf rfl (px_exit (px_seq (px_rs (pe1 ?_))))))))); refine yAd rfl (yQ (pl_nil (px_ret ?_)))
 · have hOn : O = none := by
    rw [hO, kndW_none fun k hk => hz k hk (hp.mem_iff.2 (hin k hk))]; rfl
   have f1 := fail hOn (some (r, M, dn))
   skip
   exact qe_ret _ (.tmp rfl .nil) f1
 · obtain ⟨⟨n, w, ns, sg⟩, hk, rfl, rfl⟩ := hmem kk v' hq
   have hlen := hp.length_eq
   rw [List.length_append, List.length_cons] at hlen
   by_cases hw : w = t
   · have t1 : (w == t) = true := by simp [hw]
     have hOs : O = some (out ++ [(n, [])]) := by
      rw [hO, ← hw, kndW_mem hk]; rfl
     clear hO fail hz hp0 hsw hmem hin hone
     refine pe1 (yX rfl rfl (yQ (pl_nil (px_seq (pe_ct rfl (px_skip (px_block (px_seq (px_rs ?_))))))))); refine pl_cons (pl_ene rfl (List.getLast?_concat ..) rfl rfl ?_); refine pe1 (yX rfl rfl (yQ (pe1 (yX rfl rfl (yQ (pe1 (yZ (cs := [_, _, _]) rfl rfl (yQ (pe1 ?_))))))))); refine yAd rfl (yQ (pe1 (yS (cs' := [_, _, _]) rfl rfl rfl rfl rfl (yQ (pl_nil (px_seq (px_rs (pe1 (yFb rfl ?_))))))))); refine yQ (pe1 (yLd rfl rfl rfl (yQ (pe1 (yMd rfl (yQ (pe1 (yBse rfl rfl (yQ ?_))))))))); refine pl_nil (qe_then ?_); rw [t1]
     refine pe_ct rfl (px_seq (px_rs ?_)); refine pl_cons ?_; refine pl_eld rfl h1 h2 hv1 ?_; refine pe1 (yMd rfl (yQ (pe1 (yG (ys := [_, _]) rfl rfl (yQ (pe1 ?_)))))); refine yR (es := [[_, _]]) rfl rfl rfl rfl rfl ?_; refine yQ ?_; refine pl_cons ?_; refine pl_rap h3 rfl rfl (by omega) (by omega) (fun v' b' bs' news w1 w2 w3 w4 w5 w6 w0 w10 => ?_); refine pl_est (ds := [.val v']) rfl (hbr b' bs' w3 w4) rfl rfl hb0 (fun vs w7 w9 w8 => ?_); refine px_seq (px_rs (pe1 (yAd rfl (yQ (pl_nil (px_ret (qe_blk_ret (qe_then_ret (qe_blk_ret ?_))))))))); refine qe_then_ret ?_
     exact qe_ret _ (.tmp rfl .nil) (done n _ v' b' bs' news vs hOs w1 w2 w3 w4 w5 w0 w7 w8)
   · have t1 : (w == t) = false := by simp [hw]
     have hz2 : SeenW t (dn ++ [(vI n, .agg (dKn (w, ns, sg)))]) := by
      rw [hsw]
      refine ⟨⟨rl, by rw [List.append_assoc]; exact hp⟩, fun k hk2 hm => ?_⟩
      rcases List.mem_append.1 hm with hm | hm
      · exact hz k hk2 hm
      · have e1 := congrArg Prod.fst (List.mem_singleton.1 hm)
        have := knd_inj hk2 hk e1
        rw [this]; exact hw
     clear hO fail hp0 hsw hmem hin done
     refine pe1 (yX rfl rfl (yQ (pl_nil (px_seq (pe_ct rfl (px_skip (px_block (px_seq (px_rs ?_))))))))); refine pl_cons (pl_ene rfl (List.getLast?_concat ..) rfl rfl ?_); refine pe1 (yX rfl rfl (yQ (pe1 (yX rfl rfl (yQ (pe1 (yZ (cs := [_, _, _]) rfl rfl (yQ (pe1 ?_))))))))); refine yAd rfl (yQ (pe1 (yS (cs' := [_, _, _]) rfl rfl rfl rfl rfl (yQ (pl_nil (px_seq (px_rs (pe1 (yFb rfl ?_))))))))); refine yQ (pe1 (yLd rfl rfl rfl (yQ (pe1 (yMd rfl (yQ (pe1 (yBse rfl rfl (yQ ?_))))))))); refine pl_nil (qe_then ?_); rw [t1]
     refine pe_cf rfl (px_skip (qe_blk (qe_then ?_)))
     exact ⟨dn ++ [(vI n, .agg (dKn (w, ns, sg)))], hz2, by rw [List.length_append]; simp only [List.length_cons, List.length_nil]; omega, ⟨rfl, ⟨.refl _, .refl _, .refl _, trivial⟩, trivial, trivial, rfl⟩, rfl⟩
theorem wEntry (c : Bool) (bo : Nat) : PCalls Tryz.prog 77 [dB c, .val (.pointer (some ⟨bo, 0, none⟩))] (.d (dH 78 [.val (.pointer (some ⟨bo, 0, none⟩)), .ref [dB c]])) := by
 refine pcalls_of_pw Tryz.func77 rfl Tryz.ntmps77 Tryz.results77 (by simp) fun B w0 => ?_
 refine pzr (yK (cs := [_]) rfl rfl (yAd rfl (yQ ?_))); refine pw_tell (bref_tell 2 2 rfl rfl rfl) ?_; refine pzr (yMh rfl (yAd rfl (yQ (pw_ret ?_))))
 exact q_ret _ (.tmp rfl .nil) rfl
def longR (r : Ru) : Bool := decide (64 < r.2.length)
theorem hLong : ∀ xs r, phR longR xs r → PCalls Tryz.prog 84 (xs ++ ([] : List (List DV)).map DV.ref) r := by
 rintro _ _ ⟨⟨n, ls⟩, rfl, rfl⟩
 show PCalls Tryz.prog 84 [.agg (dRu (n, ls))] (.d (dB (decide (64 < ls.length))))
 have t1 : decide (((ls.map dLn).length : Int) > 64) = decide (64 < ls.length) := by rw [List.length_map]; exact decide_eq_decide.2 (by omega)
 obtain ⟨b, hb⟩ : ∃ b, b = decide (64 < ls.length) := ⟨_, rfl⟩
 rw [← hb] at t1 ⊢
 refine pcalls_of_pw Tryz.func84 rfl Tryz.ntmps84 Tryz.results84 (by simp) fun B w0 => ?_
 refine pzr (yK (cs := [_, _]) rfl rfl (yAd rfl (yQ (pzr (yFb rfl (yLd rfl rfl rfl (yN rfl (yB rfl rfl rfl rfl (yAd rfl ?_))))))))); refine yQ (pw_ret ?_); rw [t1]
 exact q_ret _ (.tmp rfl .nil) rfl
instance hMf : MapOf Tryz.prog 122 (.val .nilFunc) := ⟨⟨9, 86, by kernel_rfl, by kernel_rfl, fun w => ⟨.nilFunc, by kernel_rfl, fun F w' => DRep.val _ rfl⟩⟩⟩
abbrev pvO (b : Nat) : Value := .pointer (some ⟨b, 0, none⟩)
abbrev rdOn (b : Nat) : DV := dH 82 [.val (pvO b)]
abbrev rdLn (b : Nat) (c : Bool) : DV := dH 78 [.val (pvO b), .ref [dB c]]
def rdM (b : Nat) : List (Str × DV) := [(sOn, rdOn b), (sDebit, rdLn b false), (sCredit, rdLn b true)]
theorem rdM_get (b : Nat) (w : Str) : mget (.val .nilFunc) w (rdM b) = if w = sOn then rdOn b else if w = sDebit then rdLn b false else if w = sCredit then rdLn b true else .val .nilFunc := by
 unfold rdM
 simp only [mget]
 by_cases h1 : w = sOn
 · rw [if_pos h1.symm, if_pos h1]
 · rw [if_neg (Ne.symm h1), if_neg h1]
   by_cases h2 : w = sDebit
   · rw [if_pos h2.symm, if_pos h2]
   · rw [if_neg (Ne.symm h2), if_neg h2]
     by_cases h3 : w = sCredit
     · rw [if_pos h3.symm, if_pos h3]
     · rw [if_neg (Ne.symm h3), if_neg h3]
theorem rdM_set2 (x y : DV) : mset sDebit y [(sOn, x)] = [(sOn, x), (sDebit, y)] := by
 rw [mset, if_neg (by decide)]; rfl
theorem rdM_set3 (x y z : DV) : mset sCredit z [(sOn, x), (sDebit, y)] = [(sOn, x), (sDebit, y), (sCredit, z)] := by
 rw [mset, if_neg (by decide), mset, if_neg (by decide)]; rfl
theorem line_word (out : List Ru) (s : Str) : lineG (tmpB nameB) paO out s = if ctT 32 s = sOn then onG out (ctR 32 s) else if ctT 32 s = sDebit then lnG false out (ctR 32 s) else if ctT 32 s = sCredit then lnG true out (ctR 32 s) else none := by
 unfold lineG onG lnG
 by_cases h1 : ctT 32 s = sOn
 · rw [if_pos h1, if_pos h1]
 · rw [if_neg h1, if_neg h1]
   by_cases h2 : ctT 32 s = sDebit
   · rw [if_pos (.inl h2), if_pos h2]
     have : decide (ctT 32 s = sCredit) = false := decide_eq_false (by rw [h2]; decide)
     rw [this]
   · rw [if_neg h2]
     by_cases h3 : ctT 32 s = sCredit
     · rw [if_pos (.inr h3), if_pos h3, decide_eq_true h3]
     · rw [if_neg (by rintro (h | h); exact h2 h; exact h3 h), if_neg h3]
def RuB (k : Nat) (l : List Ru) : Prop := l.length ≤ k ∧ ∀ r ∈ l, r.2.length ≤ k
theorem onG_bd {k : Nat} {out o : List Ru} {t : Str} (h : onG out t = some o) (hb : RuB k out) : RuB (k + 1) o := by
 unfold onG at h
 rw [Option.map_eq_some_iff] at h
 obtain ⟨kk, -, rfl⟩ := h
 refine ⟨by have := hb.1; simp; omega, fun r hr => ?_⟩
 rcases List.mem_append.1 hr with hr | hr
 · exact Nat.le_succ_of_le (hb.2 r hr)
 · rw [List.mem_singleton.1 hr]; simp
theorem lnG_bd {c : Bool} {k : Nat} {out o : List Ru} {t : Str} (h : lnG c out t = some o) (hb : RuB k out) : RuB (k + 1) o := by
 unfold lnG at h
 split at h
 · rename_i hc
   rw [Option.map_eq_some_iff] at h
   obtain ⟨e, -, rfl⟩ := h
   rcases List.eq_nil_or_concat out with rfl | ⟨l', r, rfl⟩
   · simp at hc
   · rw [List.concat_eq_append] at hb ⊢
     rw [addR_last]
     refine ⟨by have := hb.1; simp at this ⊢; omega, fun q hq => ?_⟩
     rcases List.mem_append.1 hq with hq | hq
     · exact Nat.le_succ_of_le (hb.2 q (by simp [hq]))
     · have := hb.2 r (by simp)
       rw [List.mem_singleton.1 hq]; simp; omega
 · cases h
theorem enR_data (l : List Ru) : ((enR l).map fun r => ([.val (vI r.1), .sl 3 r.2] : List DV)) = l.map dRu := by
 rw [List.map_map]; rfl
abbrev pjS (L : List Str) (b k : Nat) : PS := ⟨72, [(5, .d (.sl 1 (L.map fun t => [dS t]))), (6, .d (.val (pvO b))), (8, .d (.mp (kmap (rdM b)))), (28, .d (.sl 1 (L.map fun t => [dS t]))), (29, .d (dI L.length)), (30, .d (dI k))], [], []⟩
theorem wParseR (s : Str) : PCalls Tryz.prog 37 [dS s] (.tup [dRus (prsR (tmpB nameB) paO s).1, dI (prsR (tmpB nameB) paO s).2.1, dI (prsR (tmpB nameB) paO s).2.2]) := by
 obtain ⟨⟨R1, R2, R3⟩, hR⟩ : ∃ R, R = prsR (tmpB nameB) paO s := ⟨_, rfl⟩
 rw [← hR]
 unfold prsR at hR
 by_cases h0 : 65536 < s.length
 · have t0 : decide ((s.length : Int) > 65536) = true := decide_eq_true (by omega)
   rw [if_pos h0] at hR
   cases hR
   refine pcalls_of_pw Tryz.func37 rfl Tryz.ntmps37 Tryz.results37 (by simp) fun B w0 => ?_
   refine pzr (yAd rfl (yAd rfl (yAd rfl (yQ (pw_seq (pzr (yMd rfl (yNs rfl (yB rfl rfl rfl rfl ?_))))))))); refine yQ (q_then ?_); rw [t0]; refine pw_ct rfl (pzr (yAd rfl (yAd rfl (yAd rfl (yQ (pw_ret (q_then_ret ?_)))))))
   exact q_ret _ (.tnil 2 rfl (.tmp rfl (.tmp rfl .nil))) rfl
 have t0 : decide ((s.length : Int) > 65536) = false := decide_eq_false (by omega)
 rw [if_neg h0] at hR
 have k1 := wSplit s 10 (by omega)
 have hll := spl_len 10 s
 have hln := spl_length 10 s
 have hne := spl_ne 10 s
 obtain ⟨L, hL⟩ : ∃ L, L = spl 10 s := ⟨_, rfl⟩
 rw [← hL] at k1 hR hll hln hne
 have hL1 : 1 ≤ L.length := by cases L with | nil => exact absurd rfl hne | cons _ _ => simp
 obtain ⟨⟨RO, RN⟩, hG⟩ : ∃ G, G = runG (lineG (tmpB nameB) paO) 0 [] L := ⟨_, rfl⟩
 rw [← hG] at hR
 clear hL hne
 refine pcalls_of_pe Tryz.func37 rfl Tryz.ntmps37 Tryz.results37 (by simp) fun p d0 hex => ?_
 refine px_seq (px_rs (pe1 (yAd rfl (yQ (pe1 (yAd rfl (yQ (pe1 (yAd rfl ?_))))))))); refine yQ (pl_nil (px_seq (px_seq (px_rs (pe1 (yMd rfl (yQ (pe1 (yNs rfl ?_))))))))); refine yQ (pe1 (yB rfl rfl rfl rfl (yQ (pl_nil (qe_then ?_))))); rw [t0]
 refine pe_cf rfl (px_skip (px_seq (px_rs (pe1 (yMd rfl (yQ (pe1 (yC (k1) rfl rfl (yQ ?_))))))))); refine pe1 (yAd rfl (yQ (pl_nil (px_seq (px_rs (pe1 (yZ (cs := [_]) rfl rfl (yQ (pl_nil ?_))))))))); refine px_hide 6 6 (vs := [.slice none 0 0]) rfl rfl fun b xs T h1 h2 => ?_; refine px_seq (px_rs (pe1 (yMh rfl (yQ (pe1 (yAd rfl (yQ (pl_nil (px_seq ?_))))))))); refine px_rs (pe1 (yKm rfl (yQ (pe1 (yMh rfl (yQ (pe1 (yKi (l := []) rfl rfl rfl rfl rfl (yQ ?_))))))))); refine pe1 (yMd rfl (yQ (pe1 (yCh (wEntry false b) rfl rfl rfl (yQ (pe1 (yKi rfl rfl rfl rfl (rdM_set2 _ _) (yQ (pe1 ?_))))))))); refine yMd rfl (yQ (pe1 (yCh (wEntry true b) rfl rfl rfl (yQ (pe1 (yKi rfl rfl rfl rfl (rdM_set3 _ _ _) (yQ (pe1 (yMm rfl ?_))))))))); refine yQ (pe1 (yAm rfl (yQ (pl_nil ?_)))); refine pe_tell (frzm_tell 8 500021 (ms := kmap (rdM b)) rfl rfl) ?_; refine px_seq (px_seq (px_rs (pe1 (yMd rfl (yQ (pe1 (yN rfl (yQ (pe1 ?_))))))))); refine yMd rfl (yQ (pl_nil (px_block ?_)))
 have hx0 : xs[0]? = some (.slice none 0 0) := by
  cases xs with
  | nil => cases h1
  | cons x l => cases h1; rfl
 have hra0 : RA ⟨[(b, (xs, T))], [], none⟩ b tyR tyL (enR []) := RA.start (To := T) (xs0 := xs) (by show aget [(b, (xs, T))] b = _; rw [aget_cons, if_pos rfl]) hx0
 clear hx0 h1 h2
 refine pe_lp (fun q : Nat × List Ru × EI => pjS L b q.1) (fun q => q.2.2) (fun q => q.1 ≤ L.length ∧ RuB q.1 q.2.1 ∧ RA q.2.2 b tyR tyL (enR q.2.1) ∧ runG (lineG (tmpB nameB) paO) q.1 q.2.1 (L.drop q.1) = (RO, RN)) (fun q => L.length - q.1) (0, [], ⟨[(b, (xs, T))], [], none⟩) ⟨Nat.zero_le _, ⟨Nat.zero_le _, fun r hr => by cases hr⟩, hra0, hG.symm⟩ rfl
  ⟨rfl, ⟨.refl _, .refl _, .refl _, .refl _, .of_eq (congrArg (fun n : Nat => SV.d (dI n)) (by simp)), .refl _, trivial⟩, trivial, trivial, rfl⟩ ?_
 clear hG hra0
 rintro ⟨k, out, i⟩ ⟨hk, ⟨hout, hol⟩, hra, hI⟩
 simp only at hk hout hol hra hI ⊢
 unfold pjS
 rcases Nat.lt_or_ge k L.length with h | h
 rotate_left
 · have u1 : decide ((k : Int) < (L.length : Int)) = false := decide_eq_false (by omega)
   rw [List.drop_eq_nil_of_le h] at hI
   rw [runG] at hI
   obtain ⟨e1, e2⟩ := Prod.mk.inj hI
   subst e2
   rw [← e1] at hR
   simp only at hR
   have hfree : ∀ (F : Nat → Nat → Prop) (w : World), (∀ (b : Nat) (xs : List Value) (T : Nat), aget i.bs b = some (xs, T) → w.heap[b]? = some (.cells xs.toArray T (0, 0)) ∧ ∀ o, F b o) → (∀ q ∈ i.fs, DRep F w q.1 q.2) → DRep F w (pvO b) (.ref [dRus out]) := fun F w hbs hfs => by
    have := hra.data (F := F) (w := w) hbs hfs
    rwa [enR_data] at this
   have c1 := wHasR longR out (by omega)
   clear hra hout hol
   by_cases h64 : 64 < out.length
   · have t1 : decide (((out.map dRu).length : Int) > 64) = true := decide_eq_true (by rw [List.length_map]; omega)
     rw [if_pos (.inl h64)] at hR
     cases hR
     refine px_free 6 hex rfl hfree ?_; refine pe_tell (ref_tell 6 rfl) ?_; refine px_seq (px_rs (pe1 (yB rfl rfl rfl rfl (yQ (pl_nil (px_seq ?_)))))); rw [u1]; refine pe_cf rfl (px_exit (px_seq (px_seq (px_rs (pe1 (yLr rfl rfl (yQ (pe1 (yN rfl ?_))))))))); refine yQ (pe1 (yB rfl rfl rfl rfl (yQ (pe1 (yMd rfl (yQ (pe1 ?_))))))); rw [t1]; refine yO rfl (yQ (pe1 (yO rfl (yQ (pe1 (yPd rfl rfl (yQ (pl_nil (pe_ct rfl ?_))))))))); refine px_seq (px_rs (pe1 (yAd rfl (yQ (pe1 (yAd rfl (yQ (pe1 (yAd rfl ?_))))))))); refine yQ (pl_nil (px_ret (qe_then_ret ?_)))
     exact qe_ret _ (.tnil 2 rfl (.tmp rfl (.tmp rfl .nil))) rfl
   have t1 : decide (((out.map dRu).length : Int) > 64) = false := decide_eq_false (by rw [List.length_map]; omega)
   cases hlg : out.any longR with
   | true =>
    rw [hlg] at c1
    rw [if_pos (.inr hlg)] at hR
    cases hR
    refine px_free 6 hex rfl hfree ?_; refine pe_tell (ref_tell 6 rfl) ?_; refine px_seq (px_rs (pe1 (yB rfl rfl rfl rfl (yQ (pl_nil (px_seq ?_)))))); rw [u1]; refine pe_cf rfl (px_exit (px_seq (px_seq (px_rs (pe1 (yLr rfl rfl (yQ (pe1 (yN rfl ?_))))))))); refine yQ (pe1 (yB rfl rfl rfl rfl (yQ (pe1 (yMd rfl (yQ (pe1 ?_))))))); rw [t1]; refine yLr rfl rfl (yQ (pe1 ?_)); refine yCf c1 (.d rfl (.fn inferInstance rfl rfl hLong .nil)) rfl ?_; refine yQ (pe1 (yVd rfl rfl (yQ (pl_nil (pe_ct rfl (px_seq (px_rs (pe1 (yAd rfl ?_))))))))); refine yQ (pe1 (yAd rfl (yQ (pe1 (yAd rfl (yQ (pl_nil (px_ret (qe_then_ret ?_)))))))))
    exact qe_ret _ (.tnil 2 rfl (.tmp rfl (.tmp rfl .nil))) rfl
   | false =>
    rw [hlg] at c1
    rw [if_neg (by rintro (h | h); exact h64 h; exact absurd (hlg.symm.trans h) (by simp))] at hR
    cases hR
    refine px_free 6 hex rfl hfree ?_; refine pe_tell (ref_tell 6 rfl) ?_; refine px_seq (px_rs (pe1 (yB rfl rfl rfl rfl (yQ (pl_nil (px_seq ?_)))))); rw [u1]; refine pe_cf rfl (px_exit (px_seq (px_seq (px_rs (pe1 (yLr rfl rfl (yQ (pe1 (yN rfl ?_))))))))); refine yQ (pe1 (yB rfl rfl rfl rfl (yQ (pe1 (yMd rfl (yQ (pe1 ?_))))))); rw [t1]; refine yLr rfl rfl (yQ (pe1 ?_)); refine yCf c1 (.d rfl (.fn inferInstance rfl rfl hLong .nil)) rfl ?_; refine yQ (pe1 (yVd rfl rfl (yQ (pl_nil (pe_cf rfl (px_skip (px_seq (px_rs (pe1 ?_))))))))); refine yLr rfl rfl (yQ (pe1 (yAd rfl (yQ (pe1 (yAd rfl (yQ (pe1 (yAd rfl ?_))))))))); refine yQ (pl_nil (px_ret ?_))
    exact qe_ret _ (.tmp rfl (.tmp rfl (.tmp rfl .nil))) rfl
 have u1 : decide ((k : Int) < (L.length : Int)) = true := decide_eq_true (by omega)
 obtain ⟨line, hx⟩ : ∃ a, L[k]? = some a := ⟨_, List.getElem?_eq_getElem h⟩
 have ex := ix (fun t => [dS t]) L k k line rfl hx
 have hw : IntKind.i64.wrap ((k : Int) + 1) = ((k + 1 : Nat) : Int) := wrapI ((k : Int) + 1) (by omega)
 have hwn : IntKind.i64.wrap (((L.map fun t => ([dS t] : List DV)).length : Int) - 1) = ((L.length - 1 : Nat) : Int) := by rw [List.length_map, wrapI _ (by omega)]; omega
 have hlb := hll line (List.mem_of_getElem? hx)
 have arith : L.length - (k + 1) < L.length - k := by omega
 obtain ⟨q1, q2⟩ := List.getElem?_eq_some_iff.1 hx
 rw [List.drop_eq_getElem_cons q1, q2] at hI
 clear hx q2
 by_cases hlast : k = L.length - 1
 · have u2 : ((k : Int) == ((L.length - 1 : Nat) : Int)) = true := by simp [← hlast]
   rw [List.drop_eq_nil_of_le (by omega), runG] at hI
   by_cases hle : line = []
   · have u3 : (!line == []) = false := by simp [hle]
     rw [if_pos hle] at hI
     obtain ⟨e1, e2⟩ := Prod.mk.inj hI
     subst e2
     rw [← e1] at hR
     simp only at hR
     have hfree : ∀ (F : Nat → Nat → Prop) (w : World), (∀ (b : Nat) (xs : List Value) (T : Nat), aget i.bs b = some (xs, T) → w.heap[b]? = some (.cells xs.toArray T (0, 0)) ∧ ∀ o, F b o) → (∀ q ∈ i.fs, DRep F w q.1 q.2) → DRep F w (pvO b) (.ref [dRus out]) := fun F w hbs hfs => by
      have := hra.data (F := F) (w := w) hbs hfs
      rwa [enR_data] at this
     have c1 := wHasR longR out (by omega)
     clear hra hout hol
     by_cases h64 : 64 < out.length
     · have t1 : decide (((out.map dRu).length : Int) > 64) = true := decide_eq_true (by rw [List.length_map]; omega)
       rw [if_pos (.inl h64)] at hR
       cases hR
       refine px_free 6 hex rfl hfree ?_; refine pe_tell (ref_tell 6 rfl) ?_; refine px_seq (px_rs (pe1 (yB rfl rfl rfl rfl (yQ (pl_nil (px_seq ?_)))))); rw [u1]; refine pe_ct rfl (px_skip (px_seq (px_block (px_seq (px_rs (pe1 (yMd rfl (yQ (pe1 ?_))))))))); refine yW ex (by omega) rfl rfl (yQ (pe1 (yLr rfl rfl (yQ (pe1 (yAd rfl (yQ (pe1 (yAd rfl ?_))))))))); refine yQ (pl_nil (px_seq (px_seq (px_rs (pe1 (yMd rfl (yQ (pe1 (yMd rfl ?_))))))))); refine yQ (pe1 (yN rfl (yQ (pe1 (yB rfl rfl rfl rfl (yQ (pe1 (yB rfl rfl rfl rfl (yQ ?_))))))))); refine pl_nil (qe_then ?_); rw [hwn]; rw [u2]; refine pe_ct rfl (px_seq (px_seq (px_rs (pe1 (yMd rfl (yQ (pe1 (yBsn rfl rfl (yQ ?_))))))))); refine pl_nil (qe_then ?_); rw [u3]; refine pe_cf rfl (px_skip (px_exit (px_seq (px_seq (px_rs (pe1 (yLr rfl rfl (yQ (pe1 ?_))))))))); refine yN rfl (yQ (pe1 (yB rfl rfl rfl rfl (yQ (pe1 (yMd rfl (yQ (pe1 ?_)))))))); rw [t1]; refine yO rfl (yQ (pe1 (yO rfl (yQ (pe1 (yPd rfl rfl (yQ (pl_nil (pe_ct rfl ?_))))))))); refine px_seq (px_rs (pe1 (yAd rfl (yQ (pe1 (yAd rfl (yQ (pe1 (yAd rfl ?_))))))))); refine yQ (pl_nil (px_ret (qe_then_ret ?_)))
       exact qe_ret _ (.tnil 2 rfl (.tmp rfl (.tmp rfl .nil))) rfl
     have t1 : decide (((out.map dRu).length : Int) > 64) = false := decide_eq_false (by rw [List.length_map]; omega)
     cases hlg : out.any longR with
     | true =>
      rw [hlg] at c1
      rw [if_pos (.inr hlg)] at hR
      cases hR
      refine px_free 6 hex rfl hfree ?_; refine pe_tell (ref_tell 6 rfl) ?_; refine px_seq (px_rs (pe1 (yB rfl rfl rfl rfl (yQ (pl_nil (px_seq ?_)))))); rw [u1]; refine pe_ct rfl (px_skip (px_seq (px_block (px_seq (px_rs (pe1 (yMd rfl (yQ (pe1 ?_))))))))); refine yW ex (by omega) rfl rfl (yQ (pe1 (yLr rfl rfl (yQ (pe1 (yAd rfl (yQ (pe1 (yAd rfl ?_))))))))); refine yQ (pl_nil (px_seq (px_seq (px_rs (pe1 (yMd rfl (yQ (pe1 (yMd rfl ?_))))))))); refine yQ (pe1 (yN rfl (yQ (pe1 (yB rfl rfl rfl rfl (yQ (pe1 (yB rfl rfl rfl rfl (yQ ?_))))))))); refine pl_nil (qe_then ?_); rw [hwn]; rw [u2]; refine pe_ct rfl (px_seq (px_seq (px_rs (pe1 (yMd rfl (yQ (pe1 (yBsn rfl rfl (yQ ?_))))))))); refine pl_nil (qe_then ?_); rw [u3]; refine pe_cf rfl (px_skip (px_exit (px_seq (px_seq (px_rs (pe1 (yLr rfl rfl (yQ (pe1 ?_))))))))); refine yN rfl (yQ (pe1 (yB rfl rfl rfl rfl (yQ (pe1 (yMd rfl (yQ (pe1 ?_)))))))); rw [t1]; refine yLr rfl rfl (yQ (pe1 ?_)); refine yCf c1 (.d rfl (.fn inferInstance rfl rfl hLong .nil)) rfl ?_; refine yQ (pe1 (yVd rfl rfl (yQ (pl_nil (pe_ct rfl (px_seq (px_rs (pe1 (yAd rfl ?_))))))))); refine yQ (pe1 (yAd rfl (yQ (pe1 (yAd rfl (yQ (pl_nil (px_ret (qe_then_ret ?_)))))))))
      exact qe_ret _ (.tnil 2 rfl (.tmp rfl (.tmp rfl .nil))) rfl
     | false =>
      rw [hlg] at c1
      rw [if_neg (by rintro (h | h); exact h64 h; exact absurd (hlg.symm.trans h) (by simp))] at hR
      cases hR
      refine px_free 6 hex rfl hfree ?_; refine pe_tell (ref_tell 6 rfl) ?_; refine px_seq (px_rs (pe1 (yB rfl rfl rfl rfl (yQ (pl_nil (px_seq ?_)))))); rw [u1]; refine pe_ct rfl (px_skip (px_seq (px_block (px_seq (px_rs (pe1 (yMd rfl (yQ (pe1 ?_))))))))); refine yW ex (by omega) rfl rfl (yQ (pe1 (yLr rfl rfl (yQ (pe1 (yAd rfl (yQ (pe1 (yAd rfl ?_))))))))); refine yQ (pl_nil (px_seq (px_seq (px_rs (pe1 (yMd rfl (yQ (pe1 (yMd rfl ?_))))))))); refine yQ (pe1 (yN rfl (yQ (pe1 (yB rfl rfl rfl rfl (yQ (pe1 (yB rfl rfl rfl rfl (yQ ?_))))))))); refine pl_nil (qe_then ?_); rw [hwn]; rw [u2]; refine pe_ct rfl (px_seq (px_seq (px_rs (pe1 (yMd rfl (yQ (pe1 (yBsn rfl rfl (yQ ?_))))))))); refine pl_nil (qe_then ?_); rw [u3]; refine pe_cf rfl (px_skip (px_exit (px_seq (px_seq (px_rs (pe1 (yLr rfl rfl (yQ (pe1 ?_))))))))); refine yN rfl (yQ (pe1 (yB rfl rfl rfl rfl (yQ (pe1 (yMd rfl (yQ (pe1 ?_)))))))); rw [t1]; refine yLr rfl rfl (yQ (pe1 ?_)); refine yCf c1 (.d rfl (.fn inferInstance rfl rfl hLong .nil)) rfl ?_; refine yQ (pe1 (yVd rfl rfl (yQ (pl_nil (pe_cf rfl (px_skip (px_seq (px_rs (pe1 ?_))))))))); refine yLr rfl rfl (yQ (pe1 (yAd rfl (yQ (pe1 (yAd rfl (yQ (pe1 (yAd rfl ?_))))))))); refine yQ (pl_nil (px_ret ?_))
      exact qe_ret _ (.tmp rfl (.tmp rfl (.tmp rfl .nil))) rfl
   · have u3 : (!line == []) = true := by simp [hle]
     rw [if_neg hle] at hI
     cases hI
     cases hR
     refine px_seq (px_rs (pe1 (yB rfl rfl rfl rfl (yQ (pl_nil (px_seq ?_)))))); rw [u1]; refine pe_ct rfl (px_skip (px_seq (px_block (px_seq (px_rs (pe1 (yMd rfl (yQ (pe1 ?_))))))))); refine yW ex (by omega) rfl rfl (yQ (pe1 (yLr rfl rfl (yQ (pe1 (yAd rfl (yQ (pe1 (yAd rfl ?_))))))))); refine yQ (pl_nil (px_seq (px_seq (px_rs (pe1 (yMd rfl (yQ (pe1 (yMd rfl ?_))))))))); refine yQ (pe1 (yN rfl (yQ (pe1 (yB rfl rfl rfl rfl (yQ (pe1 (yB rfl rfl rfl rfl (yQ ?_))))))))); refine pl_nil (qe_then ?_); rw [hwn]; rw [u2]
     refine pe_ct rfl (px_seq (px_seq (px_rs (pe1 (yMd rfl (yQ (pe1 (yBsn rfl rfl (yQ ?_))))))))); refine pl_nil (qe_then ?_); rw [u3]
     refine pe_ct rfl (px_seq (px_rs (pe1 (yMd rfl (yQ (pe1 (yB rfl rfl rfl rfl (yQ (pe1 ?_))))))))); refine yAd rfl (yQ (pe1 (yAd rfl (yQ (pe1 (yAd rfl (yQ (pl_nil (px_ret ?_))))))))); refine qe_then_ret (qe_then_ret (qe_blk_ret (qe_then_ret (qe_then_ret (qe_blk_ret (qe_then_ret ?_)))))); rw [hw]
     exact qe_ret _ (.tnil 2 rfl (.tmp rfl (.tmp rfl .nil))) rfl
 have u2 : ((k : Int) == ((L.length - 1 : Nat) : Int)) = false := beq_false_of_ne (by omega)
 obtain ⟨line2, rest2, hd2⟩ : ∃ a l, L.drop (k + 1) = a :: l := by
  cases e : L.drop (k + 1) with
  | nil => rw [List.drop_eq_nil_iff] at e; omega
  | cons a l => exact ⟨a, l, rfl⟩
 rw [hd2, runG_step] at hI
 rw [← hd2] at hI
 clear hd2
 have hrb := (ct_len 32 line).2.1
 have k2 := wCut1 line 32 (by omega)
 obtain ⟨O, hO⟩ : ∃ O, O = lineG (tmpB nameB) paO out line := ⟨_, rfl⟩
 rw [← hO] at hI
 rw [line_word] at hO
 have hget := rdM_get b (ctT 32 line)
 obtain ⟨W, hW⟩ : ∃ W, W = ctT 32 line := ⟨_, rfl⟩
 obtain ⟨X, hX⟩ : ∃ X, X = ctR 32 line := ⟨_, rfl⟩
 obtain ⟨Y, hY⟩ : ∃ X, X = ctB 32 line := ⟨_, rfl⟩
 rw [← hX] at hrb
 rw [← hW, ← hX, ← hY] at k2
 rw [← hW] at hget
 rw [← hW, ← hX] at hO
 clear hW hX hY
 have hXl : X.length ≤ 65536 := by omega
 by_cases w1 : W = sOn
 · rw [if_pos w1] at hO hget
   have hc := hOn out X b i hra (by omega)
   have hbd := fun o (e : onG out X = some o) => onG_bd e (⟨hout, hol⟩ : RuB k out)
   rw [← hO] at hc hbd
   clear hO w1
   refine px_seq (px_rs (pe1 (yB rfl rfl rfl rfl (yQ (pl_nil (px_seq ?_)))))); rw [u1]; refine pe_ct rfl (px_skip (px_seq (px_block (px_seq (px_rs (pe1 (yMd rfl (yQ (pe1 ?_))))))))); refine yW ex (by omega) rfl rfl (yQ (pe1 (yLr rfl rfl (yQ (pe1 (yAd rfl (yQ (pe1 (yAd rfl ?_))))))))); refine yQ (pl_nil (px_seq (px_seq (px_rs (pe1 (yMd rfl (yQ (pe1 (yMd rfl ?_))))))))); refine yQ (pe1 (yN rfl (yQ (pe1 (yB rfl rfl rfl rfl (yQ (pe1 (yB rfl rfl rfl rfl (yQ ?_))))))))); refine pl_nil (qe_then ?_); rw [hwn]; rw [u2]
   refine pe_cf rfl (px_skip (px_seq (px_rs (pe1 (yMd rfl (yQ (pe1 (yC (k2) rfl rfl (yQ ?_))))))))); refine pe1 (yMp rfl (yQ (pe1 (yX rfl rfl (yQ (pe1 (yX rfl rfl (yQ (pe1 ?_))))))))); refine yX rfl rfl (yQ (pe1 (yAd rfl (yQ (pe1 (yAd rfl (yQ (pe1 (yAd rfl ?_))))))))); refine yQ (pl_nil (px_seq (px_rs (pe1 (yMd rfl (yQ (pe1 (yMd rfl (yQ ?_))))))))); refine pe1 (yKe rfl rfl hget (yQ (pe1 (yAd rfl (yQ (pl_nil (px_seq (px_rs (pe1 ?_))))))))); refine yMd rfl (yQ (pe1 (yEf Tryz.underlying86 rfl (yQ (pe1 (yMd rfl (yQ (pe1 (yMd rfl ?_))))))))); refine yQ (pe1 (yMd rfl (yQ ?_))); refine pl_cons ?_; refine pl_ecv hc MRd.ok rfl rfl rfl ?_
   rintro r j ⟨rfl, hra2⟩
   cases O with
   | none =>
    simp only at hI
    cases hI
    cases hR
    refine pe1 (yU rfl rfl rfl (yQ (pe1 (yVd rfl rfl (yQ (pl_nil (pe_ct rfl (px_seq (px_rs ?_))))))))); refine pe1 (yMd rfl (yQ (pe1 (yB rfl rfl rfl rfl (yQ (pe1 (yAd rfl (yQ (pe1 ?_))))))))); refine yAd rfl (yQ (pe1 (yAd rfl (yQ (pl_nil (px_ret (qe_blk_ret (qe_then_ret (qe_then_ret ?_))))))))); refine qe_blk_ret (qe_then_ret ?_); rw [hw]
    exact qe_ret _ (.tnil 2 rfl (.tmp rfl (.tmp rfl .nil))) rfl
   | some o =>
    simp only at hI
    have hb2 := hbd o rfl
    refine pe1 (yU rfl rfl rfl (yQ (pe1 (yVd rfl rfl (yQ (pl_nil (pe_cf rfl (px_skip (px_rs ?_))))))))); refine pe1 (yB rfl rfl rfl rfl (yQ (pe1 (yMd rfl (yQ (pl_nil (qe_then ?_)))))))
    exact ⟨(k + 1, o, ⟨j.bs, j.fs, i.it⟩), ⟨h, hb2, hra2, hI⟩, arith, ⟨rfl, ⟨.refl _, .refl _, .refl _, .refl _, .refl _, .of_eq (congrArg (fun n => SV.d (dI n)) hw), trivial⟩, trivial, trivial, rfl⟩, rfl⟩
 rw [if_neg w1] at hO hget
 by_cases w2 : W = sDebit
 · rw [if_pos w2] at hO hget
   have hc := hLine false out X b i hra hXl (by omega) (fun r hr => by have := hol r hr; omega)
   have hbd := fun o (e : lnG false out X = some o) => lnG_bd e (⟨hout, hol⟩ : RuB k out)
   rw [← hO] at hc hbd
   clear hO w1
   refine px_seq (px_rs (pe1 (yB rfl rfl rfl rfl (yQ (pl_nil (px_seq ?_)))))); rw [u1]; refine pe_ct rfl (px_skip (px_seq (px_block (px_seq (px_rs (pe1 (yMd rfl (yQ (pe1 ?_))))))))); refine yW ex (by omega) rfl rfl (yQ (pe1 (yLr rfl rfl (yQ (pe1 (yAd rfl (yQ (pe1 (yAd rfl ?_))))))))); refine yQ (pl_nil (px_seq (px_seq (px_rs (pe1 (yMd rfl (yQ (pe1 (yMd rfl ?_))))))))); refine yQ (pe1 (yN rfl (yQ (pe1 (yB rfl rfl rfl rfl (yQ (pe1 (yB rfl rfl rfl rfl (yQ ?_))))))))); refine pl_nil (qe_then ?_); rw [hwn]; rw [u2]
   refine pe_cf rfl (px_skip (px_seq (px_rs (pe1 (yMd rfl (yQ (pe1 (yC (k2) rfl rfl (yQ ?_))))))))); refine pe1 (yMp rfl (yQ (pe1 (yX rfl rfl (yQ (pe1 (yX rfl rfl (yQ (pe1 ?_))))))))); refine yX rfl rfl (yQ (pe1 (yAd rfl (yQ (pe1 (yAd rfl (yQ (pe1 (yAd rfl ?_))))))))); refine yQ (pl_nil (px_seq (px_rs (pe1 (yMd rfl (yQ (pe1 (yMd rfl (yQ ?_))))))))); refine pe1 (yKe rfl rfl hget (yQ (pe1 (yAd rfl (yQ (pl_nil (px_seq (px_rs (pe1 ?_))))))))); refine yMd rfl (yQ (pe1 (yEf Tryz.underlying86 rfl (yQ (pe1 (yMd rfl (yQ (pe1 (yMd rfl ?_))))))))); refine yQ (pe1 (yMd rfl (yQ ?_))); refine pl_cons ?_; refine pl_ecv hc MRd.ok rfl rfl rfl ?_
   rintro r j ⟨rfl, hra2⟩
   cases O with
   | none =>
    simp only at hI
    cases hI
    cases hR
    refine pe1 (yU rfl rfl rfl (yQ (pe1 (yVd rfl rfl (yQ (pl_nil (pe_ct rfl (px_seq (px_rs ?_))))))))); refine pe1 (yMd rfl (yQ (pe1 (yB rfl rfl rfl rfl (yQ (pe1 (yAd rfl (yQ (pe1 ?_))))))))); refine yAd rfl (yQ (pe1 (yAd rfl (yQ (pl_nil (px_ret (qe_blk_ret (qe_then_ret (qe_then_ret ?_))))))))); refine qe_blk_ret (qe_then_ret ?_); rw [hw]
    exact qe_ret _ (.tnil 2 rfl (.tmp rfl (.tmp rfl .nil))) rfl
   | some o =>
    simp only at hI
    have hb2 := hbd o rfl
    refine pe1 (yU rfl rfl rfl (yQ (pe1 (yVd rfl rfl (yQ (pl_nil (pe_cf rfl (px_skip (px_rs ?_))))))))); refine pe1 (yB rfl rfl rfl rfl (yQ (pe1 (yMd rfl (yQ (pl_nil (qe_then ?_)))))))
    exact ⟨(k + 1, o, ⟨j.bs, j.fs, i.it⟩), ⟨h, hb2, hra2, hI⟩, arith, ⟨rfl, ⟨.refl _, .refl _, .refl _, .refl _, .refl _, .of_eq (congrArg (fun n => SV.d (dI n)) hw), trivial⟩, trivial, trivial, rfl⟩, rfl⟩
 rw [if_neg w2] at hO hget
 by_cases w3 : W = sCredit
 · rw [if_pos w3] at hO hget
   have hc := hLine true out X b i hra hXl (by omega) (fun r hr => by have := hol r hr; omega)
   have hbd := fun o (e : lnG true out X = some o) => lnG_bd e (⟨hout, hol⟩ : RuB k out)
   rw [← hO] at hc hbd
   clear hO w1
   refine px_seq (px_rs (pe1 (yB rfl rfl rfl rfl (yQ (pl_nil (px_seq ?_)))))); rw [u1]; refine pe_ct rfl (px_skip (px_seq (px_block (px_seq (px_rs (pe1 (yMd rfl (yQ (pe1 ?_))))))))); refine yW ex (by omega) rfl rfl (yQ (pe1 (yLr rfl rfl (yQ (pe1 (yAd rfl (yQ (pe1 (yAd rfl ?_))))))))); refine yQ (pl_nil (px_seq (px_seq (px_rs (pe1 (yMd rfl (yQ (pe1 (yMd rfl ?_))))))))); refine yQ (pe1 (yN rfl (yQ (pe1 (yB rfl rfl rfl rfl (yQ (pe1 (yB rfl rfl rfl rfl (yQ ?_))))))))); refine pl_nil (qe_then ?_); rw [hwn]; rw [u2]
   refine pe_cf rfl (px_skip (px_seq (px_rs (pe1 (yMd rfl (yQ (pe1 (yC (k2) rfl rfl (yQ ?_))))))))); refine pe1 (yMp rfl (yQ (pe1 (yX rfl rfl (yQ (pe1 (yX rfl rfl (yQ (pe1 ?_))))))))); refine yX rfl rfl (yQ (pe1 (yAd rfl (yQ (pe1 (yAd rfl (yQ (pe1 (yAd rfl ?_))))))))); refine yQ (pl_nil (px_seq (px_rs (pe1 (yMd rfl (yQ (pe1 (yMd rfl (yQ ?_))))))))); refine pe1 (yKe rfl rfl hget (yQ (pe1 (yAd rfl (yQ (pl_nil (px_seq (px_rs (pe1 ?_))))))))); refine yMd rfl (yQ (pe1 (yEf Tryz.underlying86 rfl (yQ (pe1 (yMd rfl (yQ (pe1 (yMd rfl ?_))))))))); refine yQ (pe1 (yMd rfl (yQ ?_))); refine pl_cons ?_; refine pl_ecv hc MRd.ok rfl rfl rfl ?_
   rintro r j ⟨rfl, hra2⟩
   cases O with
   | none =>
    simp only at hI
    cases hI
    cases hR
    refine pe1 (yU rfl rfl rfl (yQ (pe1 (yVd rfl rfl (yQ (pl_nil (pe_ct rfl (px_seq (px_rs ?_))))))))); refine pe1 (yMd rfl (yQ (pe1 (yB rfl rfl rfl rfl (yQ (pe1 (yAd rfl (yQ (pe1 ?_))))))))); refine yAd rfl (yQ (pe1 (yAd rfl (yQ (pl_nil (px_ret (qe_blk_ret (qe_then_ret (qe_then_ret ?_))))))))); refine qe_blk_ret (qe_then_ret ?_); rw [hw]
    exact qe_ret _ (.tnil 2 rfl (.tmp rfl (.tmp rfl .nil))) rfl
   | some o =>
    simp only at hI
    have hb2 := hbd o rfl
    refine pe1 (yU rfl rfl rfl (yQ (pe1 (yVd rfl rfl (yQ (pl_nil (pe_cf rfl (px_skip (px_rs ?_))))))))); refine pe1 (yB rfl rfl rfl rfl (yQ (pe1 (yMd rfl (yQ (pl_nil (qe_then ?_)))))))
    exact ⟨(k + 1, o, ⟨j.bs, j.fs, i.it⟩), ⟨h, hb2, hra2, hI⟩, arith, ⟨rfl, ⟨.refl _, .refl _, .refl _, .refl _, .refl _, .of_eq (congrArg (fun n => SV.d (dI n)) hw), trivial⟩, trivial, trivial, rfl⟩, rfl⟩
 rw [if_neg w3] at hO hget
 subst hO
 simp only at hI
 cases hI
 cases hR
 refine px_seq (px_rs (pe1 (yB rfl rfl rfl rfl (yQ (pl_nil (px_seq ?_)))))); rw [u1]; refine pe_ct rfl (px_skip (px_seq (px_block (px_seq (px_rs (pe1 (yMd rfl (yQ (pe1 ?_))))))))); refine yW ex (by omega) rfl rfl (yQ (pe1 (yLr rfl rfl (yQ (pe1 (yAd rfl (yQ (pe1 (yAd rfl ?_))))))))); refine yQ (pl_nil (px_seq (px_seq (px_rs (pe1 (yMd rfl (yQ (pe1 (yMd rfl ?_))))))))); refine yQ (pe1 (yN rfl (yQ (pe1 (yB rfl rfl rfl rfl (yQ (pe1 (yB rfl rfl rfl rfl (yQ ?_))))))))); refine pl_nil (qe_then ?_); rw [hwn]; rw [u2]
 refine pe_cf rfl (px_skip (px_seq (px_rs (pe1 (yMd rfl (yQ (pe1 (yC (k2) rfl rfl (yQ ?_))))))))); refine pe1 (yMp rfl (yQ (pe1 (yX rfl rfl (yQ (pe1 (yX rfl rfl (yQ (pe1 ?_))))))))); refine yX rfl rfl (yQ (pe1 (yAd rfl (yQ (pe1 (yAd rfl (yQ (pe1 (yAd rfl ?_))))))))); refine yQ (pl_nil (px_seq (px_rs (pe1 (yMd rfl (yQ (pe1 (yMd rfl (yQ ?_))))))))); refine pe1 (yKe rfl rfl hget (yQ (pe1 (yAd rfl (yQ (pl_nil (px_seq (px_rs (pe1 ?_))))))))); refine yMd rfl (yQ (pe1 (yEzf Tryz.underlying86 rfl (yQ (pe1 (yMd rfl (yQ (pe1 (yO rfl ?_))))))))); refine yQ (pe1 (yO rfl (yQ (pe1 (yO rfl (yQ (pe1 (yO rfl (yQ ?_))))))))); refine pe1 (yPd rfl rfl (yQ (pl_nil (pe_ct rfl (px_seq (px_rs (pe1 (yMd rfl (yQ ?_))))))))); refine pe1 (yB rfl rfl rfl rfl (yQ (pe1 (yAd rfl (yQ (pe1 (yAd rfl (yQ (pe1 ?_))))))))); refine yAd rfl (yQ (pl_nil (px_ret (qe_blk_ret (qe_then_ret (qe_then_ret (qe_blk_ret (qe_then_ret ?_)))))))); rw [hw]
 exact qe_ret _ (.tnil 2 rfl (.tmp rfl (.tmp rfl .nil))) rfl
abbrev cAT : Nat := 48 * 100000 + 1
abbrev addC (l : List Ac) (n : Int) (cs : List Str) : List Ac := l ++ cs.map fun c => (c, n)
theorem wAddC (n : Int) (cs : List Str) (l : List Ac) (hl : l.length ≤ 1000) (hc : cs.length ≤ 1000) : PCx Tryz.prog 68 [.d (dI n), .d (dStrs cs), .bx 1 0] [(1, [.ts cAT 2 (l.map dAc)])] [(cAT, (l.map dAc).length)] (.tup []) [(1, [.ts cAT 2 ((addC l n cs).map dAc)])] [(cAT, ((addC l n cs).map dAc).length)] := by
 refine pcx_of_pw Tryz.func68 rfl Tryz.ntmps68 Tryz.results68 (by simp) fun B w0 => ?_
 refine pzr (yMd rfl (yN rfl (yMd rfl (yQ (pw_block ?_))))); refine pw_loop (fun k : Nat => ⟨20, [(0, .d (dI n)), (2, .bx 10001 0), (7, .d (dStrs cs)), (8, .d (dI cs.length)), (9, .d (dI k))], [(10001, [.ts (cAT + 10000) 2 ((addC l n (cs.take k)).map dAc)])], [(cAT + 10000, ((addC l n (cs.take k)).map dAc).length)]⟩) (fun k => k ≤ cs.length) (fun k => cs.length - k) 0 (Nat.zero_le _)
  ⟨rfl, ⟨.refl _, .refl _, .refl _, .of_eq (congrArg (fun n : Nat => SV.d (dI n)) (by simp)), .refl _, trivial⟩, ⟨⟨_, rfl, lesC_eq (by simp [addC, SV.sh])⟩, trivial⟩, ⟨(by simp [addC, shT]; rfl), trivial⟩, rfl⟩ ?_
 intro k hk
 rcases Nat.lt_or_ge k cs.length with h | h
 · have u1 : decide ((k : Int) < (cs.length : Int)) = true := decide_eq_true (by omega)
   obtain ⟨c, hx⟩ : ∃ a, cs[k]? = some a := ⟨_, List.getElem?_eq_getElem h⟩
   have ex := ix (fun s => [dS s]) cs k k c rfl hx
   have hw := wrapI ((k : Int) + 1) (by omega)
   have hnx : addC l n (cs.take (k + 1)) = addC l n (cs.take k) ++ [(c, n)] := by
    unfold addC
    rw [List.take_add_one, hx]; simp
   have hzl : (addC l n (cs.take k)).length ≤ 2000 := by simp [addC]; omega
   have arith : cs.length - (k + 1) < cs.length - k := by omega
   obtain ⟨zs, hz⟩ : ∃ z, z = addC l n (cs.take k) := ⟨_, rfl⟩
   rw [← hz] at hnx hzl ⊢
   clear hz
   refine pzr (yB rfl rfl rfl rfl (yQ (pw_seq ?_))); rw [u1]; refine pw_ct rfl (pw_skip (pw_seq (pw_block (pzr (yW ex (by omega) rfl rfl (yLr rfl rfl (yAd rfl (yQ (pw_region ?_))))))))); refine yLt rfl rfl rfl (yMd rfl (yMd rfl (yG (ys := [_, _]) rfl rfl ?_))); refine yR (es := [[_, _]]) rfl rfl rfl rfl rfl ?_; refine yT (es' := (zs ++ [(c, n)]).map dAc) (m := ((zs ++ [(c, n)]).map dAc).length) (by simp; omega) (by simp; omega) rfl rfl rfl rfl rfl (by simp) (by simp) ?_; refine ySt (cs' := [_]) rfl rfl rfl rfl (yQ (pw_region (yB rfl rfl rfl rfl (yMd rfl (yQ (q_then ?_))))))
   exact ⟨k + 1, h, arith, rfl, ⟨.refl _, .refl _, .refl _, .refl _, .of_eq (congrArg (fun n => SV.d (dI n)) hw), trivial⟩, ⟨⟨_, rfl, lesC_eq (by rw [hnx])⟩, trivial⟩, ⟨(by rw [hnx]; rfl), trivial⟩, rfl⟩
 · have u1 : decide ((k : Int) < (cs.length : Int)) = false := decide_eq_false (by omega)
   rw [List.take_of_length_le h]
   refine pzr (yB rfl rfl rfl rfl (yQ (pw_seq ?_))); rw [u1]; refine pw_cf rfl (pw_exit (q_then_exit (q_then_exit (q_blk_same ?_))))
   exact q_x [] .nil rfl ⟨rfl, trivial⟩ ⟨rfl, trivial⟩
def cg0 : List Str := [[49, 46, 97, 99, 99, 114, 117, 101, 100], [49, 46, 97, 109, 111, 114, 116, 105, 122, 101, 100], [49, 46, 99, 97, 115, 104], [49, 46, 114, 101, 118, 97, 108, 117, 101, 100], [49, 46, 115, 101, 99, 117, 114, 105, 116, 105, 101, 115]]
def cg1 : List Str := [[51, 46, 99, 97, 112, 105, 116, 97, 108], [51, 46, 101, 120, 99, 104, 97, 110, 103, 101], [51, 46, 105, 110, 118, 101, 115, 116, 111, 114, 115]]
def cg2 : List Str := [[52, 46, 97, 99, 116, 105, 111, 110, 115], [52, 46, 100, 101, 102, 101, 114, 114, 101, 100], [52, 46, 105, 110, 99, 111, 109, 101], [52, 46, 105, 110, 116, 101, 114, 101, 115, 116], [52, 46, 108, 111, 110, 103], [52, 46, 115, 104, 111, 114, 116], [52, 46, 117, 110, 114, 101, 97, 108, 105, 122, 101, 100]]
def cg3 : List Str := [[53, 46, 101, 120, 112, 101, 110, 115, 101, 115]]
def ch1 : List Ac := addC [] 1 cg0
def ch2 : List Ac := addC ch1 3 cg1
def ch3 : List Ac := addC ch2 4 cg2
def chtA : List Ac := addC ch3 5 cg3
theorem wChart : PCalls Tryz.prog 29 [] (.d (.sl 2 (chtA.map dAc))) := by
 have l1 : ch1.length ≤ 1000 := by decide
 have l2 : ch2.length ≤ 1000 := by decide
 have l3 : ch3.length ≤ 1000 := by decide
 refine pcalls_of_pw Tryz.func29 rfl Tryz.ntmps29 Tryz.results29 (by simp) fun B w0 => ?_
 refine pzr (yAd rfl (yQ (pzr (yZ (cs := [_]) rfl rfl (yQ ?_))))); refine pw_tokb 1 0 cAT 2 rfl rfl rfl rfl ?_; refine pzr (yCm rfl (yAf rfl (yQ (pzr (yMf rfl ?_))))); refine yR (es := [[_], [_], [_], [_], [_]]) rfl rfl rfl rfl rfl ?_; refine yCxv (wAddC 1 cg0 [] (by decide) (by decide)) rfl rfl ⟨rfl, trivial⟩ ⟨rfl, trivial⟩ ?_ (hfit := by kernel_rfl); refine yQ (pzr (yMf rfl ?_)); refine yR (es := [[_], [_], [_]]) rfl rfl rfl rfl rfl ?_; refine yCxv (wAddC 3 cg1 ch1 l1 (by decide)) rfl rfl ⟨rfl, trivial⟩ ⟨rfl, trivial⟩ ?_ (hfit := by kernel_rfl); refine yQ (pzr (yMf rfl ?_)); refine yR (es := [[_], [_], [_], [_], [_], [_], [_]]) rfl rfl rfl rfl rfl ?_; refine yCxv (wAddC 4 cg2 ch2 l2 (by decide)) rfl rfl ⟨rfl, trivial⟩ ⟨rfl, trivial⟩ ?_ (hfit := by kernel_rfl); refine yQ (pzr (yMf rfl ?_)); refine yR (es := [[_]]) rfl rfl rfl rfl rfl ?_; refine yCxv (wAddC 5 cg3 ch3 l3 (by decide)) rfl rfl ⟨rfl, trivial⟩ ⟨rfl, trivial⟩ ?_ (hfit := by kernel_rfl); refine yQ (pzr (yLt rfl rfl rfl (yAt rfl (yQ (pw_ret ?_)))))
 exact q_ret _ (.tmp rfl .nil) rfl
def stdT : Str := [111, 110, 32, 100, 101, 112, 111, 115, 105, 116, 10, 100, 101, 98, 105, 116, 32, 49, 46, 99, 97, 115, 104, 32, 97, 109, 111, 117, 110, 116, 10, 99, 114, 101, 100, 105, 116, 32, 51, 46, 99, 97, 112, 105, 116, 97, 108, 32, 97, 109, 111, 117, 110, 116, 10, 111, 110, 32, 119, 105, 116, 104, 100, 114, 97, 119, 10, 100, 101, 98, 105, 116, 32, 51, 46, 99, 97, 112, 105, 116, 97, 108, 32, 97, 109, 111, 117, 110, 116, 10, 99, 114, 101, 100, 105, 116, 32, 49, 46, 99, 97, 115, 104, 32, 97, 109, 111, 117, 110, 116, 10, 111, 110, 32, 98, 117, 121, 10, 100, 101, 98, 105, 116, 32, 49, 46, 115, 101, 99, 117, 114, 105, 116, 105, 101, 115, 46, 42, 32, 97, 109, 111, 117, 110, 116, 32, 43, 32, 102, 101, 101, 10, 99, 114, 101, 100, 105, 116, 32, 49, 46, 99, 97, 115, 104, 32, 97, 109, 111, 117, 110, 116, 32, 43, 32, 102, 101, 101, 10, 111, 110, 32, 115, 101, 108, 108, 10, 100, 101, 98, 105, 116, 32, 49, 46, 99, 97, 115, 104, 32, 112, 114, 111, 99, 101, 101, 100, 115, 10, 99, 114, 101, 100, 105, 116, 32, 49, 46, 115, 101, 99, 117, 114, 105, 116, 105, 101, 115, 46, 42, 32, 99, 111, 115, 116, 10, 99, 114, 101, 100, 105, 116, 32, 52, 46, 108, 111, 110, 103, 46, 42, 32, 45, 108, 111, 110, 103, 99, 111, 115, 116, 32, 43, 32, 108, 111, 110, 103, 112, 114, 111, 99, 101, 101, 100, 115, 10, 99, 114, 101, 100, 105, 116, 32, 52, 46, 115, 104, 111, 114, 116, 46, 42, 32, 45, 99, 111, 115, 116, 32, 43, 32, 108, 111, 110, 103, 99, 111, 115, 116, 32, 45, 32, 108, 111, 110, 103, 112, 114, 111, 99, 101, 101, 100, 115, 32, 43, 32, 112, 114, 111, 99, 101, 101, 100, 115, 10, 111, 110, 32, 100, 101, 102, 101, 114, 10, 100, 101, 98, 105, 116, 32, 49, 46, 115, 101, 99, 117, 114, 105, 116, 105, 101, 115, 46, 42, 32, 97, 109, 111, 117, 110, 116, 10, 99, 114, 101, 100, 105, 116, 32, 52, 46, 100, 101, 102, 101, 114, 114, 101, 100, 46, 42, 32, 97, 109, 111, 117, 110, 116, 10, 111, 110, 32, 105, 110, 99, 111, 109, 101, 10, 100, 101, 98, 105, 116, 32, 49, 46, 99, 97, 115, 104, 32, 97, 109, 111, 117, 110, 116, 10, 99, 114, 101, 100, 105, 116, 32, 52, 46, 105, 110, 99, 111, 109, 101, 46, 42, 32, 97, 109, 111, 117, 110, 116, 10, 111, 110, 32, 101, 120, 112, 101, 110, 115, 101, 10, 100, 101, 98, 105, 116, 32, 53, 46, 101, 120, 112, 101, 110, 115, 101, 115, 32, 97, 109, 111, 117, 110, 116, 10, 99, 114, 101, 100, 105, 116, 32, 49, 46, 99, 97, 115, 104, 32, 97, 109, 111, 117, 110, 116, 10, 111, 110, 32, 112, 97, 105, 100, 10, 100, 101, 98, 105, 116, 32, 51, 46, 101, 120, 99, 104, 97, 110, 103, 101, 32, 97, 109, 111, 117, 110, 116, 10, 99, 114, 101, 100, 105, 116, 32, 49, 46, 99, 97, 115, 104, 32, 97, 109, 111, 117, 110, 116, 10, 111, 110, 32, 103, 111, 116, 10, 100, 101, 98, 105, 116, 32, 49, 46, 99, 97, 115, 104, 32, 97, 109, 111, 117, 110, 116, 10, 99, 114, 101, 100, 105, 116, 32, 51, 46, 101, 120, 99, 104, 97, 110, 103, 101, 32, 97, 109, 111, 117, 110, 116, 10, 111, 110, 32, 115, 112, 108, 105, 116, 10, 100, 101, 98, 105, 116, 32, 49, 46, 99, 97, 115, 104, 32, 99, 97, 115, 104, 10, 99, 114, 101, 100, 105, 116, 32, 49, 46, 115, 101, 99, 117, 114, 105, 116, 105, 101, 115, 46, 42, 32, 99, 111, 115, 116, 10, 99, 114, 101, 100, 105, 116, 32, 52, 46, 97, 99, 116, 105, 111, 110, 115, 46, 42, 32, 99, 97, 115, 104, 32, 45, 32, 99, 111, 115, 116, 10, 111, 110, 32, 115, 112, 105, 110, 111, 102, 102, 10, 100, 101, 98, 105, 116, 32, 49, 46, 99, 97, 115, 104, 32, 99, 97, 115, 104, 10, 100, 101, 98, 105, 116, 32, 49, 46, 115, 101, 99, 117, 114, 105, 116, 105, 101, 115, 46, 43, 32, 109, 111, 118, 101, 100, 10, 99, 114, 101, 100, 105, 116, 32, 49, 46, 115, 101, 99, 117, 114, 105, 116, 105, 101, 115, 46, 42, 32, 99, 111, 115, 116, 32, 43, 32, 109, 111, 118, 101, 100, 10, 99, 114, 101, 100, 105, 116, 32, 52, 46, 97, 99, 116, 105, 111, 110, 115, 46, 42, 32, 99, 97, 115, 104, 32, 45, 32, 99, 111, 115, 116, 10, 111, 110, 32, 101, 120, 99, 104, 97, 110, 103, 101, 10, 100, 101, 98, 105, 116, 32, 49, 46, 99, 97, 115, 104, 32, 99, 97, 115, 104, 10, 100, 101, 98, 105, 116, 32, 49, 46, 115, 101, 99, 117, 114, 105, 116, 105, 101, 115, 46, 43, 32, 98, 97, 115, 105, 115, 10, 99, 114, 101, 100, 105, 116, 32, 49, 46, 115, 101, 99, 117, 114, 105, 116, 105, 101, 115, 46, 42, 32, 99, 111, 115, 116, 10, 99, 114, 101, 100, 105, 116, 32, 52, 46, 97, 99, 116, 105, 111, 110, 115, 46, 42, 32, 98, 97, 115, 105, 115, 32, 43, 32, 99, 97, 115, 104, 32, 45, 32, 99, 111, 115, 116, 10, 111, 110, 32, 101, 120, 101, 114, 99, 105, 115, 101, 10, 100, 101, 98, 105, 116, 32, 49, 46, 115, 101, 99, 117, 114, 105, 116, 105, 101, 115, 46, 43, 32, 109, 111, 118, 101, 100, 32, 43, 32, 112, 97, 105, 100, 10, 99, 114, 101, 100, 105, 116, 32, 49, 46, 99, 97, 115, 104, 32, 112, 97, 105, 100, 10, 99, 114, 101, 100, 105, 116, 32, 49, 46, 115, 101, 99, 117, 114, 105, 116, 105, 101, 115, 46, 42, 32, 109, 111, 118, 101, 100, 10, 111, 110, 32, 99, 97, 112, 105, 116, 97, 108, 10, 100, 101, 98, 105, 116, 32, 49, 46, 99, 97, 115, 104, 32, 99, 97, 115, 104, 10, 99, 114, 101, 100, 105, 116, 32, 49, 46, 115, 101, 99, 117, 114, 105, 116, 105, 101, 115, 46, 42, 32, 99, 111, 115, 116, 10, 99, 114, 101, 100, 105, 116, 32, 52, 46, 97, 99, 116, 105, 111, 110, 115, 46, 42, 32, 99, 97, 115, 104, 32, 45, 32, 99, 111, 115, 116, 10, 111, 110, 32, 105, 115, 115, 117, 101, 10, 100, 101, 98, 105, 116, 32, 49, 46, 99, 97, 115, 104, 32, 97, 109, 111, 117, 110, 116, 10, 99, 114, 101, 100, 105, 116, 32, 51, 46, 105, 110, 118, 101, 115, 116, 111, 114, 115, 32, 97, 109, 111, 117, 110, 116, 10, 111, 110, 32, 99, 97, 110, 99, 101, 108, 10, 100, 101, 98, 105, 116, 32, 51, 46, 105, 110, 118, 101, 115, 116, 111, 114, 115, 32, 97, 109, 111, 117, 110, 116, 10, 99, 114, 101, 100, 105, 116, 32, 49, 46, 99, 97, 115, 104, 32, 97, 109, 111, 117, 110, 116, 10, 111, 110, 32, 97, 99, 99, 114, 117, 101, 10, 100, 101, 98, 105, 116, 32, 49, 46, 97, 99, 99, 114, 117, 101, 100, 46, 42, 32, 97, 109, 111, 117, 110, 116, 10, 99, 114, 101, 100, 105, 116, 32, 52, 46, 105, 110, 116, 101, 114, 101, 115, 116, 46, 42, 32, 97, 109, 111, 117, 110, 116, 10, 111, 110, 32, 97, 109, 111, 114, 116, 105, 122, 101, 10, 100, 101, 98, 105, 116, 32, 49, 46, 97, 109, 111, 114, 116, 105, 122, 101, 100, 46, 42, 32, 97, 109, 111, 117, 110, 116, 10, 99, 114, 101, 100, 105, 116, 32, 52, 46, 105, 110, 116, 101, 114, 101, 115, 116, 46, 42, 32, 97, 109, 111, 117, 110, 116, 10, 111, 110, 32, 114, 101, 118, 97, 108, 117, 101, 10, 100, 101, 98, 105, 116, 32, 49, 46, 114, 101, 118, 97, 108, 117, 101, 100, 46, 42, 32, 97, 109, 111, 117, 110, 116, 10, 99, 114, 101, 100, 105, 116, 32, 52, 46, 117, 110, 114, 101, 97, 108, 105, 122, 101, 100, 46, 42, 32, 97, 109, 111, 117, 110, 116, 10]
def paRi (s : Str) : List Cf := if s = [48] then [] else if okT s then (if 16 < (lsT s).length then [] else nfi (lsT s)) else []
def paOi (t : Str) : Option (List Cf) := if paE t = 0 then some (paRi t) else none
theorem paO_i : paO = paOi := funext fun t => by
 have h : paR t = paRi t := by rw [paR, paRi, nf_i]
 rw [paO, paOi, h]
def stdR : List Ru := (prsR (tmpB nameB) paOi stdT).1
theorem std_prs : prsR (tmpB nameB) paO stdT = (stdR, 0, 0) := by
 rw [paO_i]
 kernel_rfl
theorem wStandard : PCalls Tryz.prog 26 [] (.d (dRus stdR)) := by
 have p := wParseR stdT
 rw [std_prs] at p
 obtain ⟨S, hS⟩ : ∃ S, S = stdR := ⟨_, rfl⟩
 rw [← hS] at p ⊢
 clear hS
 refine pcalls_of_pw Tryz.func26 rfl Tryz.ntmps26 Tryz.results26 (by simp) fun B w0 => ?_
 refine pzr (yAd rfl (yQ (pzr (yC (p) rfl rfl (yMp rfl (yX rfl rfl (yX rfl rfl (yX rfl rfl (yAd rfl ?_))))))))); refine yAd rfl (yAd rfl (yQ (pzr (yMd rfl (yAd rfl (yQ (pw_ret ?_)))))))
 exact q_ret _ (.tmp rfl .nil) rfl
def awT0 : Str := [111, 110, 32, 105, 110, 99, 111, 109, 101, 10, 100, 101, 98, 105, 116, 32, 49, 46, 99, 97, 115, 104, 32, 97, 109, 111, 117, 110, 116, 10, 99, 114, 101, 100, 105, 116, 32, 52, 46, 105, 110, 99, 111, 109, 101, 46, 42, 32, 97, 109, 111, 117, 110, 116, 10]
def awR0 : Ru := ((prsR (tmpB nameB) paO awT0).1)[0]!
def awT1 : Str := [111, 110, 32, 105, 110, 99, 111, 109, 101, 10, 100, 101, 98, 105, 116, 32, 49, 46, 99, 97, 115, 104, 32, 97, 109, 111, 117, 110, 116, 10, 99, 114, 101, 100, 105, 116, 32, 52, 46, 105, 110, 99, 111, 109, 101, 46, 42, 32, 50, 42, 97, 109, 111, 117, 110, 116, 10]
def awR1 : Ru := ((prsR (tmpB nameB) paO awT1).1)[0]!
def awT2 : Str := [111, 110, 32, 100, 101, 112, 111, 115, 105, 116, 10, 100, 101, 98, 105, 116, 32, 49, 46, 115, 101, 99, 117, 114, 105, 116, 105, 101, 115, 46, 42, 32, 97, 109, 111, 117, 110, 116, 10]
def awR2 : Ru := ((prsR (tmpB nameB) paO awT2).1)[0]!
theorem awE0 : prsR (tmpB nameB) paO awT0 = ([awR0], 0, 0) := by kernel_rfl
theorem awE1 : prsR (tmpB nameB) paO awT1 = ([awR1], 0, 0) := by kernel_rfl
theorem awE2 : prsR (tmpB nameB) paO awT2 = ([awR2], 0, 0) := by kernel_rfl
def qR (r : Ru) : Bool := decide (r.2.length ≤ 1000000) && r.2.all fun l => decide (l.1.length ≤ 1000000) && (decide (l.2.2.length ≤ 1000000) && l.2.2.all fun c => decide (c.1.length ≤ 1000000) && decide (c.2.length ≤ 70000))
theorem bdR_of {r : Ru} (h : qR r = true) : bdR r := by
 simp only [qR, Bool.and_eq_true, List.all_eq_true, decide_eq_true_eq] at h
 exact ⟨h.1, fun l hl => ⟨(h.2 l hl).1, (h.2 l hl).2.1, fun c hc => (h.2 l hl).2.2 c hc⟩⟩
theorem awQ0 : qR awR0 = true := by kernel_rfl
theorem awQ1 : qR awR1 = true := by kernel_rfl
theorem awQ2 : qR awR2 = true := by kernel_rfl
theorem awB0 : bdR awR0 := bdR_of awQ0
theorem awB1 : bdR awR1 := bdR_of awQ1
theorem awB2 : bdR awR2 := bdR_of awQ2
def qC (l : List Ac) : Bool := decide (l.length ≤ 1000000) && l.all fun a => decide (a.1.length ≤ 1000000)
theorem chtQ : qC chtA = true := by kernel_rfl
theorem chtB : chtA.length ≤ 1000000 ∧ ∀ a ∈ chtA, a.1.length ≤ 1000000 := by
 have h := chtQ
 simp only [qC, Bool.and_eq_true, List.all_eq_true, decide_eq_true_eq] at h
 exact h
theorem stdL : stdR.length = 19 := by kernel_rfl
theorem wAwake : PCalls Tryz.prog 13 [] (.d (dB true)) := by
 have p0 := wParseR awT0
 have p1 := wParseR awT1
 have p2 := wParseR awT2
 rw [awE0] at p0
 rw [awE1] at p1
 rw [awE2] at p2
 have b0 := wBalanced awR0 awB0
 have b1 := wBalanced awR1 awB1
 rw [show rulE awR0 = 0 by kernel_rfl, show balB awR0.2 = true by kernel_rfl] at b0
 rw [show rulE awR1 = 0 by kernel_rfl, show balB awR1.2 = false by kernel_rfl] at b1
 have c0 := wCheckRu [awR2] chtA (by decide) (fun r hr => by rw [List.mem_singleton.1 hr]; exact awB2) chtB.1 chtB.2
 rw [show ruI [awR2] chtA = (0, 9) by kernel_rfl] at c0
 have s0 := wStandard
 have h0 := wChart
 have t0 : (((stdR.map dRu).length : Int) == 19) = true := by rw [List.length_map, stdL]; rfl
 obtain ⟨⟨n0, l0⟩, hr0⟩ : ∃ r, r = awR0 := ⟨_, rfl⟩
 obtain ⟨⟨n1, l1⟩, hr1⟩ : ∃ r, r = awR1 := ⟨_, rfl⟩
 obtain ⟨r2, hr2⟩ : ∃ r, r = awR2 := ⟨_, rfl⟩
 obtain ⟨S, hS⟩ : ∃ S, S = stdR := ⟨_, rfl⟩
 obtain ⟨C, hC⟩ : ∃ C, C = chtA := ⟨_, rfl⟩
 rw [← hr0] at p0 b0
 rw [← hr1] at p1 b1
 rw [← hr2] at p2 c0
 rw [← hS] at s0 t0
 rw [← hC] at h0 c0
 clear hr0 hr1 hr2 hS hC
 have e0 := ix dRu [(n0, l0)] 0 0 (n0, l0) rfl rfl
 have e1 := ix dRu [(n1, l1)] 0 0 (n1, l1) rfl rfl
 refine pcalls_of_pw Tryz.func13 rfl Tryz.ntmps13 Tryz.results13 (by simp) fun B w0 => ?_
 refine pzr (yAd rfl (yQ (pzr (yC (p0) rfl rfl (yMp rfl (yX rfl rfl (yX rfl rfl (yX rfl rfl (yAd rfl ?_))))))))); refine yAd rfl (yAd rfl (yQ (pzr (yC (p1) rfl rfl (yMp rfl (yX rfl rfl (yX rfl rfl (yX rfl rfl (yAd rfl ?_))))))))); refine yAd rfl (yAd rfl (yQ (pzr (yC (p2) rfl rfl (yMp rfl (yX rfl rfl (yX rfl rfl (yX rfl rfl (yAd rfl ?_))))))))); refine yAd rfl (yAd rfl (yQ (pw_seq (pzr (yMd rfl (yMd rfl (yMd rfl (yI rfl rfl rfl (yB rfl rfl rfl rfl ?_))))))))); refine yMd rfl (yMd rfl (yMd rfl (yB rfl rfl rfl rfl (yMd rfl (yB rfl rfl rfl rfl (yB rfl rfl rfl rfl (yVd rfl rfl (yMd rfl (yMd rfl ?_))))))))); refine yN rfl (yB rfl rfl rfl rfl (yVd rfl rfl (yMd rfl (yMd rfl (yN rfl (yB rfl rfl rfl rfl (yVd rfl rfl (yMd rfl (yMd rfl ?_))))))))); refine yN rfl (yB rfl rfl rfl rfl (yVd rfl rfl (yQ (pw_cf rfl (pw_skip (pzr (yMd rfl (yW e0 (by omega) rfl rfl (yLs (ys := [_, _]) rfl rfl rfl ?_))))))))); refine yC (b0) rfl rfl (yMp rfl (yX rfl rfl (yX rfl rfl (yAd rfl (yAd rfl (yQ (pzr (yMd rfl (yW e1 (by omega) rfl rfl ?_))))))))); refine yLs (ys := [_, _]) rfl rfl rfl (yC (b1) rfl rfl (yMp rfl (yX rfl rfl (yX rfl rfl (yAd rfl (yAd rfl (yQ (pzr (yMd rfl ?_))))))))); refine yC (h0) rfl rfl (yC (c0) rfl rfl (yMp rfl (yX rfl rfl (yX rfl rfl (yAd rfl (yAd rfl (yQ (pzr (yMd rfl ?_))))))))); refine yMd rfl (yI rfl rfl rfl (yB rfl rfl rfl rfl (yMd rfl (yMd rfl (yPd rfl rfl (yMd rfl (yMd rfl (yU rfl rfl rfl (yPd rfl rfl ?_))))))))); refine yMd rfl (yMd rfl (yB rfl rfl rfl rfl (yPd rfl rfl (yMd rfl (yMd rfl (yB rfl rfl rfl rfl (yPd rfl rfl (yMd rfl (yC (s0) rfl rfl ?_))))))))); refine yN rfl (yB rfl rfl rfl rfl (yPd rfl rfl (yAd rfl (yQ (pw_ret ?_))))); rw [t0]
 exact q_ret _ (.tmp rfl .nil) rfl
end Go.Proofs.YtddfimjiihggmaaGreatDoor
namespace Go.Proofs.YtddfimjiihggmaaGreatDoor.Px
open Go.RowKit Go.Shelf
section
variable {P : Program} {ops : Array Oper} {K : PS → Prop} {rest : List Oper} {st : PS} {d : Option Nat} {ty : TypeId} {pos : String} {af : Array Edge} {gd : Option (Nat × Bool)}
end
end Go.Proofs.YtddfimjiihggmaaGreatDoor.Px