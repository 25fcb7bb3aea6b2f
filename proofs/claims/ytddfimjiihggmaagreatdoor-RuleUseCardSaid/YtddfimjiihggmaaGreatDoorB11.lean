/- Walk: the reference reads texts of expressions. -/
import Derived.Test.YtddfimjiihggmaaGreatDoorB10
set_option maxHeartbeats 16000000
set_option maxRecDepth 20000
namespace Go.Proofs.YtddfimjiihggmaaGreatDoor
namespace Px
open Go.RowKit
section
variable {P : Program} {B : Nat} {w0 : Cx} {Q Q' : Exit → PS → Prop} {st : PS} {sq : Bool} {ops : Array Oper} {K K' : PS → Prop} {rest : List Oper}
theorem YR.mono (h : YR P sq ops K rest st) (hk : ∀ s, K s → K' s) : YR P sq ops K' rest st := by
 induction h with
 | nil h => exact .nil (hk _ h)
 | op x ef hs ho hw _ ih => exact .op x ef hs ho hw ih
 | skip hd hw _ ih => exact .skip hd hw ih
 | any hq h => exact .any hq fun B w0 Q hQ => h B w0 Q fun s hs => hQ s (hk s hs)
theorem yr_join {b y : Code} (J : PS) (h2 : PW P B w0 y Q J) (h1 : YR P sq ops (PW P B w0 b (QThen (fun s => Le s J) Q)) rest st) : YR P sq ops (QThen (PW P B w0 (.seq b y) Q) Q' .normal) rest st := h1.mono fun _ hs => pw_seq (pw_join J h2 hs)
theorem yr_join2 {b y : Code} (J : PS) (h2 : PW P B w0 y Q J) (h1 : YR P sq ops (PW P B w0 b (QThen (fun s => Le s J) Q)) rest st) : YR P sq ops (QThen (PW P B w0 b (QThen (PW P B w0 y Q) Q)) Q' .normal) rest st := h1.mono fun _ hs => pw_join J h2 hs
end
end Px
open Go.RowKit Px
def grtC (c : Cf) : Bool := decide (30 < c.1.length) || decide (13 < c.2.length)
def grtN (l : Ln) : Bool := decide (60 < l.1.length) || (decide (6 < l.2.2.length) && decide (l.2.2.length ≤ 16)) || decide (18 < l.2.2.length) || l.2.2.any grtC
def grtR (r : Ru) : Bool := (decide (6 < r.2.length) && decide (r.2.length ≤ 64)) || decide (66 < r.2.length) || r.2.any grtN
def grtL (l : List Ru) : Bool := (decide (20 < l.length) && decide (l.length ≤ 64)) || decide (66 < l.length) || l.any grtR
theorem any_next {α : Type} {p : α → Bool} {l : List α} {i : Nat} {x : α} (h : l[i]? = some x) : (l.drop i).any p = (p x || (l.drop (i + 1)).any p) := by
 obtain ⟨h1, h2⟩ := List.getElem?_eq_some_iff.1 h
 rw [List.drop_eq_getElem_cons h1, h2, List.any_cons]
theorem wLongF (a : Str) : PCalls Tryz.prog 106 [dS a] (.d (dB (decide (13 < a.length)))) := by
 have e : decide (13 < a.length) = decide ((a.length : Int) > 13) := decide_eq_decide.2 (by omega)
 rw [e]
 refine pcalls_of_pw Tryz.func106 rfl Tryz.ntmps106 Tryz.results106 (by simp) fun B w0 => ?_
 refine pzr (yAd rfl (yQ (pzr (yMd rfl (yNs rfl (yB rfl rfl rfl rfl (yAd rfl (yQ (pw_ret ?_)))))))))
 exact q_ret _ (.tmp rfl .nil) rfl
theorem wGreatR (l : List Ru) : PCalls Tryz.prog 55 [dRus l] (.d (dB (grtL l))) := by
 have d1 : grtL l = ((decide (20 < l.length) && decide (l.length ≤ 64)) || decide (66 < l.length) || l.any grtR) := rfl
 obtain ⟨G, hG⟩ : ∃ G, G = grtL l := ⟨_, rfl⟩
 rw [← hG] at d1 ⊢
 clear hG
 by_cases hc2 : (20 < l.length ∧ l.length ≤ 64) ∨ 66 < l.length
 · have t1 : decide (((l.map dRu).length : Int) > 20) = true := decide_eq_true (by rw [List.length_map]; omega)
   have hg : G = true := by
    rw [d1]
    rcases hc2 with h | h
    · rw [decide_eq_true h.1, decide_eq_true h.2]; simp
    · rw [decide_eq_true h]; simp
   subst hg
   by_cases h2 : l.length ≤ 64
   · have t2 : decide (((l.map dRu).length : Int) ≤ 64) = true := decide_eq_true (by rw [List.length_map]; omega)
     refine pcalls_of_pw Tryz.func55 rfl Tryz.ntmps55 Tryz.results55 (by simp) fun B w0 => ?_
     refine pzr (yAd rfl (yQ (pw_seq (pzr (yMd rfl (yN rfl (yB rfl rfl rfl rfl (yMd rfl ?_)))))))); rw [t1]
     refine yMd rfl (yN rfl (yB rfl rfl rfl rfl (yPd rfl rfl (yMd rfl ?_)))); rw [t2]; refine yO rfl (yO rfl (yO rfl (yPd rfl rfl (yQ (pw_ct rfl (pzr (yAd rfl (yQ (pw_ret ?_))))))))); refine q_then_ret ?_
     exact q_ret _ (.tmp rfl .nil) rfl
   · have t2 : decide (((l.map dRu).length : Int) ≤ 64) = false := decide_eq_false (by rw [List.length_map]; omega)
     have t3 : decide (((l.map dRu).length : Int) > 66) = true := decide_eq_true (by rw [List.length_map]; omega)
     refine pcalls_of_pw Tryz.func55 rfl Tryz.ntmps55 Tryz.results55 (by simp) fun B w0 => ?_
     refine pzr (yAd rfl (yQ (pw_seq (pzr (yMd rfl (yN rfl (yB rfl rfl rfl rfl (yMd rfl ?_)))))))); rw [t1]
     refine yMd rfl (yN rfl (yB rfl rfl rfl rfl (yPd rfl rfl (yMd rfl ?_)))); rw [t2]; refine yMd rfl (yN rfl (yB rfl rfl rfl rfl (yVd rfl rfl (yQ (q_then ?_))))); rw [t3]; refine pw_ct rfl (pzr (yAd rfl (yQ (pw_ret (q_then_ret ?_)))))
     exact q_ret _ (.tmp rfl .nil) rfl
 have hg : l.any grtR = G := by
  rw [d1]
  by_cases h1 : 20 < l.length
  · rw [decide_eq_true h1, decide_eq_false (show ¬ l.length ≤ 64 by omega), decide_eq_false (show ¬ 66 < l.length by omega)]; simp
  · rw [decide_eq_false h1, decide_eq_false (show ¬ 66 < l.length by omega)]; simp
 clear d1
 refine pcalls_of_pw Tryz.func55 rfl Tryz.ntmps55 Tryz.results55 (by simp) fun B w0 => ?_
 refine pzr (yAd rfl (yQ (pw_seq (pzr (yMd rfl (yN rfl (yB rfl rfl rfl rfl (yMd rfl ?_))))))))
 first | refine yr_join ⟨115, [(0, .d (dRus l))], [], []⟩ ?_ ?_ | refine yr_join2 ⟨115, [(0, .d (dRus l))], [], []⟩ ?_ ?_
 rotate_left
 · have t3 : decide (((l.map dRu).length : Int) > 66) = false := decide_eq_false (by rw [List.length_map]; omega)
   by_cases h1 : 20 < l.length
   · have t1 : decide (((l.map dRu).length : Int) > 20) = true := decide_eq_true (by rw [List.length_map]; omega)
     have t2 : decide (((l.map dRu).length : Int) ≤ 64) = false := decide_eq_false (by rw [List.length_map]; omega)
     rw [t1]; refine yMd rfl ?_; refine yN rfl ?_; refine yB rfl rfl rfl rfl ?_; refine yPd rfl rfl ?_; refine yMd rfl ?_; rw [t2]; refine yMd rfl ?_; refine yN rfl ?_; refine yB rfl rfl rfl rfl ?_; refine yVd rfl rfl ?_; refine yQ ?_
     rw [t3]; refine pw_cf rfl ?_; refine pw_skip ?_; refine q_then ?_
     exact ⟨rfl, ⟨.refl _, trivial⟩, trivial, trivial, rfl⟩
   · have t1 : decide (((l.map dRu).length : Int) > 20) = false := decide_eq_false (by rw [List.length_map]; omega)
     rw [t1]; refine yO rfl ?_; refine yO rfl ?_; refine yO rfl ?_; refine yVd rfl rfl ?_; refine yMd rfl ?_; refine yMd rfl ?_; refine yN rfl ?_; refine yB rfl rfl rfl rfl ?_; refine yVd rfl rfl ?_; refine yQ ?_; rw [t3]
     refine pw_cf rfl (pw_skip (q_then ?_))
     exact ⟨rfl, ⟨.refl _, trivial⟩, trivial, trivial, rfl⟩
 have hl : l.length ≤ 66 := by omega
 clear hc2
 refine pw_seq (pzr (yAd rfl (yQ (pw_block ?_)))); refine pw_loop (fun i : Nat => ⟨115, [(0, .d (dRus l)), (3, .d (dI i))], [], []⟩) (fun i => i ≤ l.length ∧ (l.drop i).any grtR = G) (fun i => l.length - i) 0 ⟨Nat.zero_le _, hg⟩
  ⟨rfl, ⟨.refl _, .refl _, trivial⟩, trivial, trivial, rfl⟩ ?_
 rintro i ⟨hi, hI⟩
 clear hg
 rcases Nat.lt_or_ge i l.length with h | h
 rotate_left
 · have u1 : decide ((i : Int) < ((l.map dRu).length : Int)) = false := decide_eq_false (by rw [List.length_map]; omega)
   rw [List.drop_eq_nil_of_le h] at hI
   subst hI
   refine pw_seq (pzr (yMd rfl (yMd rfl (yN rfl (yB rfl rfl rfl rfl (yQ (q_then ?_))))))); rw [u1]; refine pw_cf rfl (pw_exit (pzr (yAd rfl (yQ (pw_ret ?_)))))
   exact q_ret _ (.tmp rfl .nil) rfl
 have u1 : decide ((i : Int) < ((l.map dRu).length : Int)) = true := decide_eq_true (by rw [List.length_map]; omega)
 obtain ⟨⟨n, ls⟩, hr⟩ : ∃ a, l[i]? = some a := ⟨_, List.getElem?_eq_getElem h⟩
 have ex := ix dRu l i i (n, ls) rfl hr
 have hw := wrapI ((i : Int) + 1) (by omega)
 rw [any_next hr] at hI
 have d2 : grtR (n, ls) = ((decide (6 < ls.length) && decide (ls.length ≤ 64)) || decide (66 < ls.length) || ls.any grtN) := rfl
 rw [d2] at hI
 clear d2
 have arith : l.length - (i + 1) < l.length - i := by omega
 obtain ⟨R, hR⟩ : ∃ R, R = (l.drop (i + 1)).any grtR := ⟨_, rfl⟩
 rw [← hR] at hI
 by_cases hc2 : (6 < ls.length ∧ ls.length ≤ 64) ∨ 66 < ls.length
 · have t1 : decide (((ls.map dLn).length : Int) > 6) = true := decide_eq_true (by rw [List.length_map]; omega)
   have hg : G = true := by
    rw [← hI]
    rcases hc2 with h | h
    · rw [decide_eq_true h.1, decide_eq_true h.2]; simp
    · rw [decide_eq_true h]; simp
   subst hg
   by_cases h2 : ls.length ≤ 64
   · have t2 : decide (((ls.map dLn).length : Int) ≤ 64) = true := decide_eq_true (by rw [List.length_map]; omega)
     refine pw_seq (pzr (yMd rfl (yMd rfl (yN rfl (yB rfl rfl rfl rfl (yQ (q_then ?_))))))); rw [u1]; refine pw_ct rfl (pw_skip (pw_seq (pw_block (pw_seq (pzr (yMd rfl (yMd rfl (yW ex (by omega) rfl rfl (yFr rfl rfl ?_))))))))); refine yLr rfl rfl (yN rfl (yB rfl rfl rfl rfl (yMd rfl ?_))); rw [t1]; refine yMd rfl (yMd rfl (yW ex (by omega) rfl rfl (yFr rfl rfl (yLr rfl rfl (yN rfl (yB rfl rfl rfl rfl (yPd rfl rfl (yMd rfl ?_)))))))); rw [t2]; refine yO rfl (yO rfl (yO rfl (yO rfl (yO rfl (yO rfl (yO rfl (yPd rfl rfl (yQ (pw_ct rfl ?_))))))))); refine pzr (yAd rfl (yQ (pw_ret (q_then_ret (q_blk_ret (q_then_ret (q_then_ret (q_blk_ret (q_then_ret ?_)))))))))
     exact q_ret _ (.tmp rfl .nil) rfl
   · have t2 : decide (((ls.map dLn).length : Int) ≤ 64) = false := decide_eq_false (by rw [List.length_map]; omega)
     have t3 : decide (((ls.map dLn).length : Int) > 66) = true := decide_eq_true (by rw [List.length_map]; omega)
     refine pw_seq (pzr (yMd rfl (yMd rfl (yN rfl (yB rfl rfl rfl rfl (yQ (q_then ?_))))))); rw [u1]; refine pw_ct rfl (pw_skip (pw_seq (pw_block (pw_seq (pzr (yMd rfl (yMd rfl (yW ex (by omega) rfl rfl (yFr rfl rfl ?_))))))))); refine yLr rfl rfl (yN rfl (yB rfl rfl rfl rfl (yMd rfl ?_))); rw [t1]; refine yMd rfl (yMd rfl (yW ex (by omega) rfl rfl (yFr rfl rfl (yLr rfl rfl (yN rfl (yB rfl rfl rfl rfl (yPd rfl rfl (yMd rfl ?_)))))))); rw [t2]; refine yMd rfl (yMd rfl (yW ex (by omega) rfl rfl (yFr rfl rfl (yLr rfl rfl (yN rfl (yB rfl rfl rfl rfl (yVd rfl rfl (yQ (q_then ?_))))))))); rw [t3]; refine pw_ct rfl (pzr (yAd rfl (yQ (pw_ret (q_then_ret (q_blk_ret (q_then_ret (q_then_ret (q_blk_ret ?_))))))))); refine q_then_ret ?_
     exact q_ret _ (.tmp rfl .nil) rfl
 have hg : (ls.any grtN || R) = G := by
  rw [← hI]
  by_cases h1 : 6 < ls.length
  · rw [decide_eq_true h1, decide_eq_false (show ¬ ls.length ≤ 64 by omega), decide_eq_false (show ¬ 66 < ls.length by omega)]; simp
  · rw [decide_eq_false h1, decide_eq_false (show ¬ 66 < ls.length by omega)]; simp
 clear hI
 refine pw_seq (pzr (yMd rfl (yMd rfl (yN rfl (yB rfl rfl rfl rfl (yQ (q_then ?_))))))); rw [u1]; refine pw_ct rfl (pw_skip (pw_seq (pw_block (pw_seq (pzr (yMd rfl (yMd rfl (yW ex (by omega) rfl rfl (yFr rfl rfl ?_))))))))); refine yLr rfl rfl (yN rfl (yB rfl rfl rfl rfl (yMd rfl ?_)))
 first | refine yr_join ⟨115, [(0, .d (dRus l)), (3, .d (dI i))], [], []⟩ ?_ ?_ | refine yr_join2 ⟨115, [(0, .d (dRus l)), (3, .d (dI i))], [], []⟩ ?_ ?_
 rotate_left
 · have t3 : decide (((ls.map dLn).length : Int) > 66) = false := decide_eq_false (by rw [List.length_map]; omega)
   by_cases h1 : 6 < ls.length
   · have t1 : decide (((ls.map dLn).length : Int) > 6) = true := decide_eq_true (by rw [List.length_map]; omega)
     have t2 : decide (((ls.map dLn).length : Int) ≤ 64) = false := decide_eq_false (by rw [List.length_map]; omega)
     rw [t1]; refine yMd rfl ?_; refine yMd rfl ?_; refine yW ex (by omega) rfl rfl ?_; refine yFr rfl rfl ?_; refine yLr rfl rfl ?_; refine yN rfl ?_; refine yB rfl rfl rfl rfl ?_; refine yPd rfl rfl ?_; refine yMd rfl ?_; rw [t2]
     refine yMd rfl (yMd rfl (yW ex (by omega) rfl rfl (yFr rfl rfl (yLr rfl rfl (yN rfl (yB rfl rfl rfl rfl (yVd rfl rfl (yQ ?_)))))))); rw [t3]
     refine pw_cf rfl (pw_skip (q_then ?_))
     exact ⟨rfl, ⟨.refl _, .refl _, trivial⟩, trivial, trivial, rfl⟩
   · have t1 : decide (((ls.map dLn).length : Int) > 6) = false := decide_eq_false (by rw [List.length_map]; omega)
     rw [t1]; refine yO rfl ?_; refine yO rfl ?_; refine yO rfl ?_; refine yO rfl ?_; refine yO rfl ?_; refine yO rfl ?_; refine yO rfl ?_; refine yVd rfl rfl ?_; refine yMd rfl ?_; refine yMd rfl ?_; refine yMd rfl ?_
     refine yW ex (by omega) rfl rfl (yFr rfl rfl (yLr rfl rfl (yN rfl (yB rfl rfl rfl rfl (yVd rfl rfl (yQ ?_)))))); rw [t3]; refine pw_cf rfl (pw_skip (q_then ?_))
     exact ⟨rfl, ⟨.refl _, .refl _, trivial⟩, trivial, trivial, rfl⟩
 have hll : ls.length ≤ 66 := by omega
 clear hc2
 refine pzr (yAd rfl (yQ (pw_block ?_))); refine pw_loop (fun k : Nat => ⟨115, [(0, .d (dRus l)), (3, .d (dI i)), (4, .d (dI k))], [], []⟩) (fun k => k ≤ ls.length ∧ ((ls.drop k).any grtN || R) = G) (fun k => ls.length - k) 0 ⟨Nat.zero_le _, hg⟩
  ⟨rfl, ⟨.refl _, .refl _, .refl _, trivial⟩, trivial, trivial, rfl⟩ ?_
 rintro k ⟨hk, hI⟩
 clear hg
 rcases Nat.lt_or_ge k ls.length with h2 | h2
 rotate_left
 · have u2 : decide ((k : Int) < ((ls.map dLn).length : Int)) = false := decide_eq_false (by rw [List.length_map]; omega)
   rw [List.drop_eq_nil_of_le h2] at hI
   have hI : R = G := hI
   rw [hR] at hI
   refine pw_seq (pzr (yMd rfl (yMd rfl (yMd rfl (yW ex (by omega) rfl rfl (yFr rfl rfl (yLr rfl rfl (yN rfl (yB rfl rfl rfl rfl ?_))))))))); refine yQ (q_then ?_); rw [u2]; refine pw_cf rfl (pw_exit (pw_region (yMd rfl (yB rfl rfl rfl rfl (yAd rfl (yQ (q_then ?_)))))))
   exact ⟨i + 1, ⟨h, hI⟩, arith, rfl, ⟨.refl _, .of_eq (congrArg (fun n => SV.d (dI n)) hw), trivial⟩, trivial, trivial, rfl⟩
 have u2 : decide ((k : Int) < ((ls.map dLn).length : Int)) = true := decide_eq_true (by rw [List.length_map]; omega)
 obtain ⟨⟨a, s, x⟩, hx⟩ : ∃ a, ls[k]? = some a := ⟨_, List.getElem?_eq_getElem h2⟩
 have ek := ix dLn ls k k (a, s, x) rfl hx
 have hw2 := wrapI ((k : Int) + 1) (by omega)
 rw [any_next hx] at hI
 have d2 : grtN (a, s, x) = (decide (60 < a.length) || (decide (6 < x.length) && decide (x.length ≤ 16)) || decide (18 < x.length) || x.any grtC) := rfl
 rw [d2] at hI
 clear d2
 have arith2 : ls.length - (k + 1) < ls.length - k := by omega
 obtain ⟨Q, hQ⟩ : ∃ Q, Q = (ls.drop (k + 1)).any grtN := ⟨_, rfl⟩
 rw [← hQ] at hI
 by_cases ha : 60 < a.length
 · have t0 : decide ((a.length : Int) > 60) = true := decide_eq_true (by omega)
   have hg : G = true := by rw [← hI, decide_eq_true ha]; simp
   subst hg
   refine pw_seq (pzr (yMd rfl (yMd rfl (yMd rfl (yW ex (by omega) rfl rfl (yFr rfl rfl (yLr rfl rfl (yN rfl (yB rfl rfl rfl rfl ?_))))))))); refine yQ (q_then ?_); rw [u2]; refine pw_ct rfl (pw_skip (pw_seq (pw_block (pzr (yMd rfl (yMd rfl (yW ex (by omega) rfl rfl (yFr rfl rfl (yLr rfl rfl ?_))))))))); refine yMd rfl (yW ek (by omega) rfl rfl (yLs (ys := [_, _, _]) rfl rfl rfl (yZ (cs := [_, _, _]) rfl rfl (yS (cs' := [_, _, _]) rfl rfl rfl rfl rfl (yQ (pw_seq (pzr (yFb rfl (yLd rfl rfl rfl ?_))))))))); refine yNs rfl (yB rfl rfl rfl rfl (yMd rfl ?_)); rw [t0]; refine yO rfl (yO rfl (yO rfl (yO rfl (yO rfl (yO rfl (yO rfl (yO rfl (yO rfl (yO rfl ?_))))))))); refine yPd rfl rfl (yMd rfl (yO rfl (yO rfl (yO rfl (yO rfl (yPd rfl rfl (yQ (pw_ct rfl (pzr ?_))))))))); refine yAd rfl (yQ (pw_ret (q_then_ret (q_blk_ret (q_then_ret (q_then_ret (q_blk_ret (q_blk_ret (q_then_ret ?_))))))))); refine q_then_ret (q_blk_ret (q_then_ret ?_))
   exact q_ret _ (.tmp rfl .nil) rfl
 have t0 : decide ((a.length : Int) > 60) = false := decide_eq_false (by omega)
 rw [decide_eq_false ha, Bool.false_or] at hI
 by_cases hc2 : (6 < x.length ∧ x.length ≤ 16) ∨ 18 < x.length
 · have t1 : decide (((x.map dCf).length : Int) > 6) = true := decide_eq_true (by rw [List.length_map]; omega)
   have hg : G = true := by
    rw [← hI]
    rcases hc2 with h | h
    · rw [decide_eq_true h.1, decide_eq_true h.2]; simp
    · rw [decide_eq_true h]; simp
   subst hg
   by_cases h2 : x.length ≤ 16
   · have t2 : decide (((x.map dCf).length : Int) ≤ 16) = true := decide_eq_true (by rw [List.length_map]; omega)
     refine pw_seq (pzr (yMd rfl (yMd rfl (yMd rfl (yW ex (by omega) rfl rfl (yFr rfl rfl (yLr rfl rfl (yN rfl (yB rfl rfl rfl rfl ?_))))))))); refine yQ (q_then ?_); rw [u2]; refine pw_ct rfl (pw_skip (pw_seq (pw_block (pzr (yMd rfl (yMd rfl (yW ex (by omega) rfl rfl (yFr rfl rfl (yLr rfl rfl ?_))))))))); refine yMd rfl (yW ek (by omega) rfl rfl (yLs (ys := [_, _, _]) rfl rfl rfl (yZ (cs := [_, _, _]) rfl rfl (yS (cs' := [_, _, _]) rfl rfl rfl rfl rfl (yQ (pw_seq (pzr (yFb rfl (yLd rfl rfl rfl ?_))))))))); refine yNs rfl (yB rfl rfl rfl rfl (yMd rfl ?_)); rw [t0]; refine yFb rfl (yLd rfl rfl rfl (yN rfl (yB rfl rfl rfl rfl (yMd rfl ?_)))); rw [t1]; refine yFb rfl (yLd rfl rfl rfl (yN rfl (yB rfl rfl rfl rfl (yPd rfl rfl (yVd rfl rfl (yMd rfl ?_)))))); rw [t2]; refine yO rfl (yO rfl (yO rfl (yO rfl (yPd rfl rfl (yQ (pw_ct rfl (pzr (yAd rfl (yQ ?_))))))))); refine pw_ret (q_then_ret (q_blk_ret (q_then_ret (q_then_ret (q_blk_ret (q_blk_ret (q_then_ret (q_then_ret (q_blk_ret ?_))))))))); refine q_then_ret ?_
     exact q_ret _ (.tmp rfl .nil) rfl
   · have t2 : decide (((x.map dCf).length : Int) ≤ 16) = false := decide_eq_false (by rw [List.length_map]; omega)
     have t3 : decide (((x.map dCf).length : Int) > 18) = true := decide_eq_true (by rw [List.length_map]; omega)
     refine pw_seq (pzr (yMd rfl (yMd rfl (yMd rfl (yW ex (by omega) rfl rfl (yFr rfl rfl (yLr rfl rfl (yN rfl (yB rfl rfl rfl rfl ?_))))))))); refine yQ (q_then ?_); rw [u2]; refine pw_ct rfl (pw_skip (pw_seq (pw_block (pzr (yMd rfl (yMd rfl (yW ex (by omega) rfl rfl (yFr rfl rfl (yLr rfl rfl ?_))))))))); refine yMd rfl (yW ek (by omega) rfl rfl (yLs (ys := [_, _, _]) rfl rfl rfl (yZ (cs := [_, _, _]) rfl rfl (yS (cs' := [_, _, _]) rfl rfl rfl rfl rfl (yQ (pw_seq (pzr (yFb rfl (yLd rfl rfl rfl ?_))))))))); refine yNs rfl (yB rfl rfl rfl rfl (yMd rfl ?_)); rw [t0]; refine yFb rfl (yLd rfl rfl rfl (yN rfl (yB rfl rfl rfl rfl (yMd rfl ?_)))); rw [t1]; refine yFb rfl (yLd rfl rfl rfl (yN rfl (yB rfl rfl rfl rfl (yPd rfl rfl (yVd rfl rfl (yMd rfl ?_)))))); rw [t2]; refine yFb rfl (yLd rfl rfl rfl (yN rfl (yB rfl rfl rfl rfl (yVd rfl rfl (yQ (q_then ?_)))))); rw [t3]; refine pw_ct rfl (pzr (yAd rfl (yQ (pw_ret (q_then_ret (q_blk_ret (q_then_ret (q_then_ret (q_blk_ret ?_))))))))); refine q_blk_ret (q_then_ret (q_then_ret (q_blk_ret (q_then_ret ?_))))
     exact q_ret _ (.tmp rfl .nil) rfl
 have hg : (x.any grtC || (Q || R)) = G := by
  rw [← hI]
  by_cases h1 : 6 < x.length
  · rw [decide_eq_true h1, decide_eq_false (show ¬ x.length ≤ 16 by omega), decide_eq_false (show ¬ 18 < x.length by omega)]; simp [Bool.or_assoc]
  · rw [decide_eq_false h1, decide_eq_false (show ¬ 18 < x.length by omega)]; simp [Bool.or_assoc]
 clear hI
 refine pw_seq (pzr (yMd rfl (yMd rfl (yMd rfl (yW ex (by omega) rfl rfl (yFr rfl rfl (yLr rfl rfl (yN rfl (yB rfl rfl rfl rfl ?_))))))))); refine yQ (q_then ?_); rw [u2]; refine pw_ct rfl (pw_skip (pw_seq (pw_block (pzr (yMd rfl (yMd rfl (yW ex (by omega) rfl rfl (yFr rfl rfl (yLr rfl rfl ?_))))))))); refine yMd rfl (yW ek (by omega) rfl rfl (yLs (ys := [_, _, _]) rfl rfl rfl (yZ (cs := [_, _, _]) rfl rfl (yS (cs' := [_, _, _]) rfl rfl rfl rfl rfl (yQ (pw_seq (pzr (yFb rfl (yLd rfl rfl rfl ?_))))))))); refine yNs rfl (yB rfl rfl rfl rfl (yMd rfl ?_)); rw [t0]; refine yFb rfl (yLd rfl rfl rfl (yN rfl (yB rfl rfl rfl rfl (yMd rfl ?_))))
 first | refine yr_join ⟨115, [(0, .d (dRus l)), (3, .d (dI i)), (4, .d (dI k)), (5, .bx 5 0)], [(5, [.d (dS a), .d (dB s), .d (.sl 2 (x.map dCf))])], []⟩ ?_ ?_ | refine yr_join2 ⟨115, [(0, .d (dRus l)), (3, .d (dI i)), (4, .d (dI k)), (5, .bx 5 0)], [(5, [.d (dS a), .d (dB s), .d (.sl 2 (x.map dCf))])], []⟩ ?_ ?_
 rotate_left
 · have t3 : decide (((x.map dCf).length : Int) > 18) = false := decide_eq_false (by rw [List.length_map]; omega)
   by_cases h1 : 6 < x.length
   · have t1 : decide (((x.map dCf).length : Int) > 6) = true := decide_eq_true (by rw [List.length_map]; omega)
     have t2 : decide (((x.map dCf).length : Int) ≤ 16) = false := decide_eq_false (by rw [List.length_map]; omega)
     rw [t1]; refine yFb rfl ?_; refine yLd rfl rfl rfl ?_; refine yN rfl ?_; refine yB rfl rfl rfl rfl ?_; refine yPd rfl rfl ?_; refine yVd rfl rfl ?_; refine yMd rfl ?_; rw [t2]; refine yFb rfl ?_; refine yLd rfl rfl rfl ?_
     refine yN rfl (yB rfl rfl rfl rfl (yVd rfl rfl (yQ ?_))); rw [t3]; refine pw_cf rfl (pw_skip (q_then ?_))
     exact ⟨rfl, ⟨.refl _, .refl _, .refl _, .refl _, trivial⟩, ⟨⟨_, rfl, lesC_refl _⟩, trivial⟩, trivial, rfl⟩
   · have t1 : decide (((x.map dCf).length : Int) > 6) = false := decide_eq_false (by rw [List.length_map]; omega)
     rw [t1]; refine yO rfl ?_; refine yO rfl ?_; refine yO rfl ?_; refine yO rfl ?_; refine yVd rfl rfl ?_; refine yVd rfl rfl ?_; refine yMd rfl ?_; refine yFb rfl ?_; refine yLd rfl rfl rfl ?_; refine yN rfl ?_
     refine yB rfl rfl rfl rfl (yVd rfl rfl (yQ ?_)); rw [t3]; refine pw_cf rfl (pw_skip (q_then ?_))
     exact ⟨rfl, ⟨.refl _, .refl _, .refl _, .refl _, trivial⟩, ⟨⟨_, rfl, lesC_refl _⟩, trivial⟩, trivial, rfl⟩
 have hxl : x.length ≤ 18 := by omega
 clear hc2
 refine pzr (yAd rfl (yQ (pw_block ?_))); refine pw_loop (fun m : Nat => ⟨115, [(0, .d (dRus l)), (3, .d (dI i)), (4, .d (dI k)), (5, .bx 5 0), (6, .d (dI m))], [(5, [.d (dS a), .d (dB s), .d (.sl 2 (x.map dCf))])], []⟩) (fun m => m ≤ x.length ∧ ((x.drop m).any grtC || (Q || R)) = G) (fun m => x.length - m) 0 ⟨Nat.zero_le _, hg⟩
  ⟨rfl, ⟨.refl _, .refl _, .refl _, .refl _, .refl _, trivial⟩, ⟨⟨_, rfl, lesC_refl _⟩, trivial⟩, trivial, rfl⟩ ?_
 rintro m ⟨hm, hI⟩
 clear hg
 rcases Nat.lt_or_ge m x.length with h3 | h3
 rotate_left
 · have u3 : decide ((m : Int) < ((x.map dCf).length : Int)) = false := decide_eq_false (by rw [List.length_map]; omega)
   rw [List.drop_eq_nil_of_le h3] at hI
   have hI : (Q || R) = G := hI
   rw [hQ] at hI
   refine pw_seq (pzr (yMd rfl (yFb rfl (yLd rfl rfl rfl (yN rfl (yB rfl rfl rfl rfl (yQ (q_then ?_)))))))); rw [u3]; refine pw_cf rfl (pw_exit (pw_region (yMd rfl (yB rfl rfl rfl rfl (yAd rfl (yQ (q_then ?_)))))))
   exact ⟨k + 1, ⟨h2, hI⟩, arith2, rfl, ⟨.refl _, .refl _, .of_eq (congrArg (fun n => SV.d (dI n)) hw2), trivial⟩, trivial, trivial, rfl⟩
 have u3 : decide ((m : Int) < ((x.map dCf).length : Int)) = true := decide_eq_true (by rw [List.length_map]; omega)
 obtain ⟨⟨c0, c1⟩, hcx⟩ : ∃ a, x[m]? = some a := ⟨_, List.getElem?_eq_getElem h3⟩
 have em := ix dCf x m m (c0, c1) rfl hcx
 have hw3 := wrapI ((m : Int) + 1) (by omega)
 rw [any_next hcx] at hI
 have d2 : grtC (c0, c1) = (decide (30 < c0.length) || decide (13 < c1.length)) := rfl
 rw [d2] at hI
 clear d2
 have arith3 : x.length - (m + 1) < x.length - m := by omega
 have k1 := wLongF c1
 by_cases q1 : 30 < c0.length
 · have t1 : decide ((c0.length : Int) > 30) = true := decide_eq_true (by omega)
   have hg : G = true := by rw [← hI, decide_eq_true q1]; simp
   subst hg
   refine pw_seq (pzr (yMd rfl (yFb rfl (yLd rfl rfl rfl (yN rfl (yB rfl rfl rfl rfl (yQ (q_then ?_)))))))); rw [u3]; refine pw_ct rfl (pw_skip (pw_seq (pw_block (pzr (yFb rfl (yLd rfl rfl rfl (yMd rfl (yW em (by omega) rfl rfl (yFr rfl rfl ?_))))))))); refine yLr rfl rfl (yNs rfl (yB rfl rfl rfl rfl (yMd rfl ?_))); rw [t1]; refine yO rfl (yO rfl (yO rfl (yO rfl (yO rfl (yO rfl (yO rfl (yPd rfl rfl (yQ (pw_ct rfl ?_))))))))); refine pzr (yAd rfl (yQ (pw_ret (q_blk_ret (q_then_ret (q_then_ret (q_blk_ret (q_blk_ret (q_then_ret ?_))))))))); refine q_then_ret (q_blk_ret (q_blk_ret (q_then_ret (q_then_ret (q_blk_ret (q_then_ret ?_))))))
   exact q_ret _ (.tmp rfl .nil) rfl
 have t1 : decide ((c0.length : Int) > 30) = false := decide_eq_false (by omega)
 rw [decide_eq_false q1, Bool.false_or] at hI
 by_cases q2 : 13 < c1.length
 · rw [decide_eq_true q2] at k1
   have hg : G = true := by rw [← hI, decide_eq_true q2]; simp
   subst hg
   refine pw_seq (pzr (yMd rfl (yFb rfl (yLd rfl rfl rfl (yN rfl (yB rfl rfl rfl rfl (yQ (q_then ?_)))))))); rw [u3]; refine pw_ct rfl (pw_skip (pw_seq (pw_block (pzr (yFb rfl (yLd rfl rfl rfl (yMd rfl (yW em (by omega) rfl rfl (yFr rfl rfl ?_))))))))); refine yLr rfl rfl (yNs rfl (yB rfl rfl rfl rfl (yMd rfl ?_))); rw [t1]; refine yFb rfl (yLd rfl rfl rfl (yMd rfl (yW em (by omega) rfl rfl (yFr rfl rfl (yLr rfl rfl (yC (k1) rfl rfl (yVd rfl rfl (yQ (pw_ct rfl ?_))))))))); refine pzr (yAd rfl (yQ (pw_ret (q_blk_ret (q_then_ret (q_then_ret (q_blk_ret (q_blk_ret (q_then_ret ?_))))))))); refine q_then_ret (q_blk_ret (q_blk_ret (q_then_ret (q_then_ret (q_blk_ret (q_then_ret ?_))))))
   exact q_ret _ (.tmp rfl .nil) rfl
 rw [decide_eq_false q2] at k1
 rw [decide_eq_false q2, Bool.false_or] at hI
 refine pw_seq (pzr (yMd rfl (yFb rfl (yLd rfl rfl rfl (yN rfl (yB rfl rfl rfl rfl (yQ (q_then ?_)))))))); rw [u3]; refine pw_ct rfl (pw_skip (pw_seq (pw_block (pzr (yFb rfl (yLd rfl rfl rfl (yMd rfl (yW em (by omega) rfl rfl (yFr rfl rfl ?_))))))))); refine yLr rfl rfl (yNs rfl (yB rfl rfl rfl rfl (yMd rfl ?_))); rw [t1]; refine yFb rfl (yLd rfl rfl rfl (yMd rfl (yW em (by omega) rfl rfl (yFr rfl rfl (yLr rfl rfl (yC (k1) rfl rfl (yVd rfl rfl (yQ (pw_cf rfl ?_))))))))); refine pw_skip (pw_region (yMd rfl (yB rfl rfl rfl rfl (yAd rfl (yQ (q_then ?_))))))
 exact ⟨m + 1, ⟨h3, hI⟩, arith3, rfl, ⟨.refl _, .refl _, .refl _, .refl _, .of_eq (congrArg (fun n => SV.d (dI n)) hw3), trivial⟩, ⟨⟨_, rfl, lesC_refl _⟩, trivial⟩, trivial, rfl⟩
theorem hPhRs : ∀ xs r, phRs grtL xs r → PCalls Tryz.prog 55 (xs ++ ([] : List (List DV)).map DV.ref) r := by
 rintro _ _ ⟨l, rfl, rfl⟩
 exact wGreatR l
theorem wGreatRs (l : List (List Ru)) (hl : l.length ≤ 1000) : PCalls Tryz.prog 11 [.sl 1 (l.map fun x => [dRus x])] (.d (dB (l.any grtL))) := by
 have c1 := wHasRs grtL l (by omega)
 obtain ⟨b, hb⟩ : ∃ b, b = l.any grtL := ⟨_, rfl⟩
 rw [← hb] at c1 ⊢
 refine pcalls_of_pw Tryz.func11 rfl Tryz.ntmps11 Tryz.results11 (by simp) fun B w0 => ?_
 refine pzr (yAd rfl (yQ (pzr (yMd rfl ?_)))); refine yCf c1 (.d rfl (.fn inferInstance rfl rfl hPhRs .nil)) rfl ?_; refine yAd rfl (yQ (pw_ret ?_))
 exact q_ret _ (.tmp rfl .nil) rfl
section
variable {X : Type} {tp tp' : Str → Bool} {pe pe' : Str → Option X} {L : Nat}
end
theorem grt_bd {l : List Ru} (h : grtL l = false) : l.length ≤ 66 ∧ ∀ r ∈ l, r.2.length ≤ 66 ∧ ∀ x ∈ r.2, x.1.length ≤ 60 ∧ x.2.2.length ≤ 18 ∧ ∀ c ∈ x.2.2, c.1.length ≤ 30 ∧ c.2.length ≤ 13 := by
 simp only [grtL, Bool.or_eq_false_iff, List.any_eq_false, decide_eq_false_iff_not] at h
 refine ⟨by omega, fun r hr => ?_⟩
 have h1 := h.2 r hr
 simp only [grtR, Bool.not_eq_true, Bool.or_eq_false_iff, List.any_eq_false, decide_eq_false_iff_not] at h1
 refine ⟨by omega, fun x hx => ?_⟩
 have h2 := h1.2 x hx
 simp only [grtN, Bool.not_eq_true, Bool.or_eq_false_iff, List.any_eq_false, decide_eq_false_iff_not] at h2
 refine ⟨by omega, by omega, fun c hc => ?_⟩
 have h3 := h2.2 c hc
 simp only [grtC, Bool.or_eq_false_iff, decide_eq_false_iff_not] at h3
 omega
theorem grt_bdR {l : List Ru} (h : grtL l = false) : l.length ≤ 1000000 ∧ ∀ r ∈ l, bdR r := by
 obtain ⟨h1, h2⟩ := grt_bd h
 refine ⟨by omega, fun r hr => ⟨by have := (h2 r hr).1; omega, fun x hx => ?_⟩⟩
 obtain ⟨q1, q2, q3⟩ := (h2 r hr).2 x hx
 exact ⟨by omega, by omega, fun c hc => by have := q3 c hc; exact ⟨by omega, by omega⟩⟩
instance : EqOf Tryz.prog 113 [.s, .s] := eqOf_struct (by kernel_rfl) (by kernel_rfl) (by kernel_rfl)
instance decLn : DecidableEq Ln := inferInstance
instance decLns : DecidableEq (List Ln) := @instDecidableEqList Ln decLn
instance decRu : DecidableEq Ru := @instDecidableEqProd Int (List Ln) inferInstance decLns
instance decRus : DecidableEq (List Ru) := @instDecidableEqList Ru decRu
theorem take_nx {α : Type} {l r : List α} {i : Nat} {x y : α} (h : l.take i = r.take i) (hx : l[i]? = some x) (hy : r[i]? = some y) (e : x = y) : l.take (i + 1) = r.take (i + 1) := by
 rw [List.take_add_one, List.take_add_one, h, hx, hy, e]
theorem take_nq {α : Type} {l r : List α} {i : Nat} {x y : α} (hx : l[i]? = some x) (hy : r[i]? = some y) (e : x ≠ y) : l ≠ r := fun h => e (by
 subst h
 rw [hx] at hy
 exact Option.some.inj hy)
abbrev vCf (x : Cf) : List Value := [vS x.1, vS x.2]
theorem veq_cf (x y : Cf) : veqs (vCf x) (vCf y) = decide (x = y) := by
 obtain ⟨x0, x1⟩ := x
 obtain ⟨y0, y1⟩ := y
 show (veq (vS x0) (vS y0) && (veq (vS x1) (vS y1) && true)) = _
 rw [veq_str, veq_str, Bool.eq_iff_iff]
 simp
theorem wSameE (l r : List Cf) (hl : l.length ≤ 1000000) : PCalls Tryz.prog 66 [.sl 2 (l.map dCf), .sl 2 (r.map dCf)] (.d (dB (decide (l = r)))) := by
 by_cases hn : l.length = r.length
 rotate_left
 · have t1 : (((l.map dCf).length : Int) != ((r.map dCf).length : Int)) = true := by simp; omega
   rw [decide_eq_false fun e => hn (by rw [e])]
   refine pcalls_of_pw Tryz.func66 rfl Tryz.ntmps66 Tryz.results66 (by simp) fun B w0 => ?_
   refine pzr (yAd rfl (yQ (pw_seq (pzr (yMd rfl (yN rfl (yMd rfl (yN rfl (yB rfl rfl rfl rfl ?_))))))))); refine yQ (q_then ?_); rw [t1]; refine pw_ct rfl (pzr (yAd rfl (yQ (pw_ret (q_then_ret ?_)))))
   exact q_ret _ (.tmp rfl .nil) rfl
 have t1 : (((l.map dCf).length : Int) != ((r.map dCf).length : Int)) = false := by simp; omega
 refine pcalls_of_pw Tryz.func66 rfl Tryz.ntmps66 Tryz.results66 (by simp) fun B w0 => ?_
 refine pzr (yAd rfl (yQ (pw_seq (pzr (yMd rfl (yN rfl (yMd rfl (yN rfl (yB rfl rfl rfl rfl ?_))))))))); refine yQ (q_then ?_); rw [t1]; refine pw_cf rfl (pw_skip (pw_seq (pzr (yAd rfl (yQ (pw_block ?_)))))); refine pw_loop (fun i : Nat => ⟨26, [(0, .d (.sl 2 (l.map dCf))), (1, .d (.sl 2 (r.map dCf))), (5, .d (dI i))], [], []⟩) (fun i => i ≤ l.length ∧ l.take i = r.take i) (fun i => l.length - i) 0 ⟨Nat.zero_le _, rfl⟩ ⟨rfl, ⟨.refl _, .refl _, .refl _, trivial⟩, trivial, trivial, rfl⟩ ?_
 rintro i ⟨hi, h0⟩
 rcases Nat.lt_or_ge i l.length with h | h
 · have u1 : decide ((i : Int) < ((l.map dCf).length : Int)) = true := decide_eq_true (by rw [List.length_map]; omega)
   obtain ⟨x, hx⟩ : ∃ a, l[i]? = some a := ⟨_, List.getElem?_eq_getElem h⟩
   obtain ⟨y, hy⟩ : ∃ a, r[i]? = some a := ⟨_, List.getElem?_eq_getElem (by omega)⟩
   have ex := ix dCf l i i x rfl hx
   have ey := ix dCf r i i y rfl hy
   have hw := wrapI ((i : Int) + 1) (by omega)
   have hv := veq_cf x y
   by_cases e : x = y
   · rw [decide_eq_true e] at hv
     refine pw_seq (pzr (yMd rfl (yMd rfl (yN rfl (yB rfl rfl rfl rfl (yQ (q_then ?_))))))); rw [u1]; refine pw_ct rfl (pw_skip (pw_seq (pw_block (pw_seq ?_)))); refine pw_draw Tryz.mixed (by kernel_rfl) ?_; refine yMd rfl (yMd rfl (yW ex (by omega) rfl rfl (yLs (ys := [_, _]) rfl rfl rfl (yMd rfl (yMd rfl (yW ey (by omega) rfl rfl (yLs (ys := [_, _]) rfl rfl rfl (yBx (vs := vCf x) (us := vCf y) rfl rfl rfl rfl rfl rfl (yQ ?_))))))))); refine q_then ?_; rw [hv]
     refine pw_cf rfl (pw_skip (pw_region (yMd rfl (yB rfl rfl rfl rfl (yAd rfl (yQ (q_then ?_)))))))
     refine ⟨i + 1, ⟨by omega, take_nx h0 hx hy e⟩, by omega, rfl, ⟨.refl _, .refl _, .of_eq (congrArg (fun n => SV.d (dI n)) hw), trivial⟩, trivial, trivial, rfl⟩
   · rw [decide_eq_false e] at hv
     rw [decide_eq_false (take_nq hx hy e)]
     refine pw_seq (pzr (yMd rfl (yMd rfl (yN rfl (yB rfl rfl rfl rfl (yQ (q_then ?_))))))); rw [u1]; refine pw_ct rfl (pw_skip (pw_seq (pw_block (pw_seq ?_)))); refine pw_draw Tryz.mixed (by kernel_rfl) ?_; refine yMd rfl (yMd rfl (yW ex (by omega) rfl rfl (yLs (ys := [_, _]) rfl rfl rfl (yMd rfl (yMd rfl (yW ey (by omega) rfl rfl (yLs (ys := [_, _]) rfl rfl rfl (yBx (vs := vCf x) (us := vCf y) rfl rfl rfl rfl rfl rfl (yQ ?_))))))))); refine q_then ?_; rw [hv]
     refine pw_ct rfl (pzr (yAd rfl (yQ (pw_ret (q_blk_ret (q_then_ret (q_then_ret (q_blk_ret (q_then_ret ?_)))))))))
     exact q_ret _ (.tmp rfl .nil) rfl
 · have u1 : decide ((i : Int) < ((l.map dCf).length : Int)) = false := decide_eq_false (by rw [List.length_map]; omega)
   rw [List.take_of_length_le (by omega), List.take_of_length_le (by omega)] at h0
   rw [decide_eq_true h0]
   refine pw_seq (pzr (yMd rfl (yMd rfl (yN rfl (yB rfl rfl rfl rfl (yQ (q_then ?_))))))); rw [u1]; refine pw_cf rfl (pw_exit (pzr (yAd rfl (yQ (pw_ret ?_)))))
   exact q_ret _ (.tmp rfl .nil) rfl
theorem wSame (a b : List Ru) (hl : a.length ≤ 1000000) (hb : ∀ r ∈ a, bdR r) : PCalls Tryz.prog 25 [dRus a, dRus b] (.d (dB (decide (a = b)))) := by
 by_cases hn : a.length = b.length
 rotate_left
 · have t1 : (((a.map dRu).length : Int) != ((b.map dRu).length : Int)) = true := by simp; omega
   rw [decide_eq_false fun e => hn (by rw [e])]
   refine pcalls_of_pw Tryz.func25 rfl Tryz.ntmps25 Tryz.results25 (by simp) fun B w0 => ?_
   refine pzr (yAd rfl (yQ (pw_seq (pzr (yMd rfl (yN rfl (yMd rfl (yN rfl (yB rfl rfl rfl rfl ?_))))))))); refine yQ (q_then ?_); rw [t1]; refine pw_ct rfl (pzr (yAd rfl (yQ (pw_ret (q_then_ret ?_)))))
   exact q_ret _ (.tmp rfl .nil) rfl
 have t1 : (((a.map dRu).length : Int) != ((b.map dRu).length : Int)) = false := by simp; omega
 refine pcalls_of_pw Tryz.func25 rfl Tryz.ntmps25 Tryz.results25 (by simp) fun B w0 => ?_
 refine pzr (yAd rfl (yQ (pw_seq (pzr (yMd rfl (yN rfl (yMd rfl (yN rfl (yB rfl rfl rfl rfl ?_))))))))); refine yQ (q_then ?_); rw [t1]; refine pw_cf rfl (pw_skip (pw_seq (pzr (yAd rfl (yQ (pw_block ?_)))))); refine pw_loop (fun i : Nat => ⟨92, [(0, .d (dRus a)), (1, .d (dRus b)), (5, .d (dI i))], [], []⟩) (fun i => i ≤ a.length ∧ a.take i = b.take i) (fun i => a.length - i) 0 ⟨Nat.zero_le _, rfl⟩ ⟨rfl, ⟨.refl _, .refl _, .refl _, trivial⟩, trivial, trivial, rfl⟩ ?_
 rintro i ⟨hi, h0⟩
 rcases Nat.lt_or_ge i a.length with h | h
 rotate_left
 · have u1 : decide ((i : Int) < ((a.map dRu).length : Int)) = false := decide_eq_false (by rw [List.length_map]; omega)
   rw [List.take_of_length_le (by omega), List.take_of_length_le (by omega)] at h0
   rw [decide_eq_true h0]
   refine pw_seq (pzr (yMd rfl (yMd rfl (yN rfl (yB rfl rfl rfl rfl (yQ (q_then ?_))))))); rw [u1]; refine pw_cf rfl (pw_exit (pzr (yAd rfl (yQ (pw_ret ?_)))))
   exact q_ret _ (.tmp rfl .nil) rfl
 have u1 : decide ((i : Int) < ((a.map dRu).length : Int)) = true := decide_eq_true (by rw [List.length_map]; omega)
 obtain ⟨⟨n, ls⟩, hx⟩ : ∃ x, a[i]? = some x := ⟨_, List.getElem?_eq_getElem h⟩
 obtain ⟨⟨n2, ls2⟩, hy⟩ : ∃ x, b[i]? = some x := ⟨_, List.getElem?_eq_getElem (by omega)⟩
 obtain ⟨hls, hbl⟩ := hb _ (List.mem_of_getElem? hx)
 simp only at hls hbl
 have ex := ix dRu a i i (n, ls) rfl hx
 have ey := ix dRu b i i (n2, ls2) rfl hy
 have hw := wrapI ((i : Int) + 1) (by omega)
 have arith : a.length - (i + 1) < a.length - i := by omega
 by_cases e1 : n = n2
 rotate_left
 · have t2 : (n != n2) = true := by simp [e1]
   rw [decide_eq_false (take_nq hx hy fun e => e1 (congrArg (·.1) e))]
   refine pw_seq (pzr (yMd rfl (yMd rfl (yN rfl (yB rfl rfl rfl rfl (yQ (q_then ?_))))))); rw [u1]; refine pw_ct rfl (pw_skip (pw_seq (pw_block (pw_seq (pw_seq ?_))))); refine pw_draw Tryz.mixed (by kernel_rfl) ?_; refine yMd rfl (yMd rfl (yW ex (by omega) rfl rfl (yFr rfl rfl (yLr rfl rfl (yMd rfl (yMd rfl (yW ey (by omega) rfl rfl (yFr rfl rfl (yLr rfl rfl ?_))))))))); refine yB rfl rfl rfl rfl (yMd rfl ?_); rw [t2]; refine yO rfl (yO rfl (yO rfl (yO rfl (yO rfl (yO rfl (yO rfl (yO rfl (yO rfl (yO rfl ?_))))))))); refine yO rfl (yO rfl (yO rfl (yPd rfl rfl (yQ (pw_ct rfl (pzr (yAd rfl (yQ (pw_ret ?_))))))))); refine q_then_ret (q_blk_ret (q_then_ret (q_then_ret (q_blk_ret (q_then_ret ?_)))))
   exact q_ret _ (.tmp rfl .nil) rfl
 have t2 : (n != n2) = false := by simp [e1]
 by_cases e2 : ls.length = ls2.length
 rotate_left
 · have t3 : (((ls.map dLn).length : Int) != ((ls2.map dLn).length : Int)) = true := by simp; omega
   rw [decide_eq_false (take_nq hx hy fun e => e2 (congrArg (·.2.length) e))]
   refine pw_seq (pzr (yMd rfl (yMd rfl (yN rfl (yB rfl rfl rfl rfl (yQ (q_then ?_))))))); rw [u1]; refine pw_ct rfl (pw_skip (pw_seq (pw_block (pw_seq (pw_seq ?_))))); refine pw_draw Tryz.mixed (by kernel_rfl) ?_; refine yMd rfl (yMd rfl (yW ex (by omega) rfl rfl (yFr rfl rfl (yLr rfl rfl (yMd rfl (yMd rfl (yW ey (by omega) rfl rfl (yFr rfl rfl (yLr rfl rfl ?_))))))))); refine yB rfl rfl rfl rfl (yMd rfl ?_); rw [t2]; refine yMd rfl (yMd rfl (yW ex (by omega) rfl rfl (yFr rfl rfl (yLr rfl rfl (yN rfl (yMd rfl (yMd rfl (yW ey (by omega) rfl rfl (yFr rfl rfl ?_))))))))); refine yLr rfl rfl (yN rfl (yB rfl rfl rfl rfl (yVd rfl rfl (yQ (q_then ?_))))); rw [t3]; refine pw_ct rfl (pzr (yAd rfl (yQ (pw_ret (q_then_ret (q_blk_ret (q_then_ret (q_then_ret (q_blk_ret ?_))))))))); refine q_then_ret ?_
   exact q_ret _ (.tmp rfl .nil) rfl
 have t3 : (((ls.map dLn).length : Int) != ((ls2.map dLn).length : Int)) = false := by simp; omega
 refine pw_seq (pzr (yMd rfl (yMd rfl (yN rfl (yB rfl rfl rfl rfl (yQ (q_then ?_))))))); rw [u1]; refine pw_ct rfl (pw_skip (pw_seq (pw_block (pw_seq (pw_seq ?_))))); refine pw_draw Tryz.mixed (by kernel_rfl) ?_; refine yMd rfl (yMd rfl (yW ex (by omega) rfl rfl (yFr rfl rfl (yLr rfl rfl (yMd rfl (yMd rfl (yW ey (by omega) rfl rfl (yFr rfl rfl (yLr rfl rfl ?_))))))))); refine yB rfl rfl rfl rfl (yMd rfl ?_); rw [t2]; refine yMd rfl (yMd rfl (yW ex (by omega) rfl rfl (yFr rfl rfl (yLr rfl rfl (yN rfl (yMd rfl (yMd rfl (yW ey (by omega) rfl rfl (yFr rfl rfl ?_))))))))); refine yLr rfl rfl (yN rfl (yB rfl rfl rfl rfl (yVd rfl rfl (yQ (q_then ?_))))); rw [t3]; refine pw_cf rfl (pw_skip (pzr (yAd rfl (yQ (pw_block ?_))))); refine pw_loop (fun k : Nat => ⟨92, [(0, .d (dRus a)), (1, .d (dRus b)), (5, .d (dI i)), (6, .d (dI k))], [], []⟩) (fun k => k ≤ ls.length ∧ ls.take k = ls2.take k) (fun k => ls.length - k) 0 ⟨Nat.zero_le _, rfl⟩ ⟨rfl, ⟨.refl _, .refl _, .refl _, .refl _, trivial⟩, trivial, trivial, rfl⟩ ?_
 rintro k ⟨hk, h2⟩
 rcases Nat.lt_or_ge k ls.length with h3 | h3
 rotate_left
 · have u2 : decide ((k : Int) < ((ls.map dLn).length : Int)) = false := decide_eq_false (by rw [List.length_map]; omega)
   rw [List.take_of_length_le (by omega), List.take_of_length_le (by omega)] at h2
   have hnx := take_nx h0 hx hy (by rw [e1, h2])
   refine pw_seq (pzr (yMd rfl (yMd rfl (yMd rfl (yW ex (by omega) rfl rfl (yFr rfl rfl (yLr rfl rfl (yN rfl (yB rfl rfl rfl rfl ?_))))))))); refine yQ (q_then ?_); rw [u2]; refine pw_cf rfl (pw_exit (pw_region (yMd rfl (yB rfl rfl rfl rfl (yAd rfl (yQ (q_then ?_)))))))
   exact ⟨i + 1, ⟨h, hnx⟩, arith, rfl, ⟨.refl _, .refl _, .of_eq (congrArg (fun n => SV.d (dI n)) hw), trivial⟩, trivial, trivial, rfl⟩
 have u2 : decide ((k : Int) < ((ls.map dLn).length : Int)) = true := decide_eq_true (by rw [List.length_map]; omega)
 obtain ⟨⟨x0, x1, x2⟩, kx⟩ : ∃ x, ls[k]? = some x := ⟨_, List.getElem?_eq_getElem h3⟩
 obtain ⟨⟨y0, y1, y2⟩, ky⟩ : ∃ x, ls2[k]? = some x := ⟨_, List.getElem?_eq_getElem (by omega)⟩
 obtain ⟨-, hbe, -⟩ := hbl _ (List.mem_of_getElem? kx)
 simp only at hbe
 have fx := ix dLn ls k k (x0, x1, x2) rfl kx
 have fy := ix dLn ls2 k k (y0, y1, y2) rfl ky
 have hw2 := wrapI ((k : Int) + 1) (by omega)
 have arith2 : ls.length - (k + 1) < ls.length - k := by omega
 have hno : (x0, x1, x2) ≠ (y0, y1, y2) → a ≠ b := fun he => take_nq hx hy fun e => take_nq kx ky he (congrArg (·.2) e)
 have c1 := wSameE x2 y2 hbe
 by_cases e3 : x0 = y0
 rotate_left
 · have v1 : (x0 == y0) = false := by simp [e3]
   rw [decide_eq_false (hno fun e => e3 (congrArg (·.1) e))]
   refine pw_seq (pzr (yMd rfl (yMd rfl (yMd rfl (yW ex (by omega) rfl rfl (yFr rfl rfl (yLr rfl rfl (yN rfl (yB rfl rfl rfl rfl ?_))))))))); refine yQ (q_then ?_); rw [u2]; refine pw_ct rfl (pw_skip (pw_seq (pw_block (pw_seq ?_)))); refine pw_draw2 (id := 11) Tryz.mixed (by kernel_rfl) ?_; refine yMd rfl (yMd rfl (yW ex (by omega) rfl rfl (yFr rfl rfl (yLr rfl rfl (yMd rfl (yW fx (by omega) rfl rfl (yLs (ys := [_, _, _]) rfl rfl rfl (yMd rfl (yMd rfl ?_))))))))); refine yW ey (by omega) rfl rfl (yFr rfl rfl (yLr rfl rfl (yMd rfl (yW fy (by omega) rfl rfl (yLs (ys := [_, _, _]) rfl rfl rfl (yZ (cs := [_, _, _]) rfl rfl (yZ (cs := [_, _, _]) rfl rfl (yS (cs' := [_, _, _]) rfl rfl rfl rfl rfl (yS (cs' := [_, _, _]) rfl rfl rfl rfl rfl ?_))))))))); refine yQ ?_
   refine Px.Sep.mk (by kernel_rfl) ?_; refine pzr (yFb rfl (yLd rfl rfl rfl (yFb rfl (yLd rfl rfl rfl (yBsn rfl rfl (yMd rfl ?_)))))); rw [v1]
   refine yO rfl (yO rfl (yO rfl (yO rfl (yO rfl (yPd rfl rfl (yMd rfl (yO rfl (yO rfl (yO rfl ?_))))))))); refine yO rfl (yO rfl (yO rfl (yPd rfl rfl (yQ (pw_ct rfl (pzr (yAd rfl (yQ (pw_ret ?_))))))))); refine q_blk_ret (q_then_ret (q_then_ret (q_blk_ret (q_blk_ret (q_then_ret (q_then_ret (q_blk_ret (q_then_ret ?_))))))))
   exact q_ret _ (.tmp rfl .nil) rfl
 have v1 : (x0 == y0) = true := by simp [e3]
 by_cases e4 : x1 = y1
 rotate_left
 · have v2 : (x1 != y1) = true := by simp [e4]
   rw [decide_eq_false (hno fun e => e4 (congrArg (·.2.1) e))]
   refine pw_seq (pzr (yMd rfl (yMd rfl (yMd rfl (yW ex (by omega) rfl rfl (yFr rfl rfl (yLr rfl rfl (yN rfl (yB rfl rfl rfl rfl ?_))))))))); refine yQ (q_then ?_); rw [u2]; refine pw_ct rfl (pw_skip (pw_seq (pw_block (pw_seq ?_)))); refine pw_draw2 (id := 11) Tryz.mixed (by kernel_rfl) ?_; refine yMd rfl (yMd rfl (yW ex (by omega) rfl rfl (yFr rfl rfl (yLr rfl rfl (yMd rfl (yW fx (by omega) rfl rfl (yLs (ys := [_, _, _]) rfl rfl rfl (yMd rfl (yMd rfl ?_))))))))); refine yW ey (by omega) rfl rfl (yFr rfl rfl (yLr rfl rfl (yMd rfl (yW fy (by omega) rfl rfl (yLs (ys := [_, _, _]) rfl rfl rfl (yZ (cs := [_, _, _]) rfl rfl (yZ (cs := [_, _, _]) rfl rfl (yS (cs' := [_, _, _]) rfl rfl rfl rfl rfl (yS (cs' := [_, _, _]) rfl rfl rfl rfl rfl ?_))))))))); refine yQ ?_
   refine Px.Sep.mk (by kernel_rfl) ?_; refine pzr (yFb rfl (yLd rfl rfl rfl (yFb rfl (yLd rfl rfl rfl (yBsn rfl rfl (yMd rfl ?_)))))); rw [v1]
   refine yFb rfl (yLd rfl rfl rfl (yFb rfl (yLd rfl rfl rfl (yBbn (c := true) Tryz.underlying4 v2 rfl rfl (yVd rfl rfl (yMd rfl (yO rfl (yO rfl (yO rfl ?_))))))))); refine yO rfl (yO rfl (yO rfl (yPd rfl rfl (yQ (pw_ct rfl (pzr (yAd rfl (yQ (pw_ret ?_))))))))); refine q_blk_ret (q_then_ret (q_then_ret (q_blk_ret (q_blk_ret (q_then_ret (q_then_ret (q_blk_ret (q_then_ret ?_))))))))
   exact q_ret _ (.tmp rfl .nil) rfl
 have v2 : (x1 != y1) = false := by simp [e4]
 by_cases e5 : x2 = y2
 rotate_left
 · rw [decide_eq_false e5] at c1
   rw [decide_eq_false (hno fun e => e5 (congrArg (·.2.2) e))]
   refine pw_seq (pzr (yMd rfl (yMd rfl (yMd rfl (yW ex (by omega) rfl rfl (yFr rfl rfl (yLr rfl rfl (yN rfl (yB rfl rfl rfl rfl ?_))))))))); refine yQ (q_then ?_); rw [u2]; refine pw_ct rfl (pw_skip (pw_seq (pw_block (pw_seq ?_)))); refine pw_draw2 (id := 11) Tryz.mixed (by kernel_rfl) ?_; refine yMd rfl (yMd rfl (yW ex (by omega) rfl rfl (yFr rfl rfl (yLr rfl rfl (yMd rfl (yW fx (by omega) rfl rfl (yLs (ys := [_, _, _]) rfl rfl rfl (yMd rfl (yMd rfl ?_))))))))); refine yW ey (by omega) rfl rfl (yFr rfl rfl (yLr rfl rfl (yMd rfl (yW fy (by omega) rfl rfl (yLs (ys := [_, _, _]) rfl rfl rfl (yZ (cs := [_, _, _]) rfl rfl (yZ (cs := [_, _, _]) rfl rfl (yS (cs' := [_, _, _]) rfl rfl rfl rfl rfl (yS (cs' := [_, _, _]) rfl rfl rfl rfl rfl ?_))))))))); refine yQ ?_
   refine Px.Sep.mk (by kernel_rfl) ?_; refine pzr (yFb rfl (yLd rfl rfl rfl (yFb rfl (yLd rfl rfl rfl (yBsn rfl rfl (yMd rfl ?_)))))); rw [v1]
   refine yFb rfl (yLd rfl rfl rfl (yFb rfl (yLd rfl rfl rfl (yBbn (c := false) Tryz.underlying4 v2 rfl rfl (yVd rfl rfl (yMd rfl (yFb rfl (yLd rfl rfl rfl (yFb rfl ?_))))))))); refine yLd rfl rfl rfl (yC (c1) rfl rfl (yU rfl rfl rfl (yVd rfl rfl (yQ (pw_ct rfl (pzr (yAd rfl (yQ (pw_ret ?_))))))))); refine q_blk_ret (q_then_ret (q_then_ret (q_blk_ret (q_blk_ret (q_then_ret (q_then_ret (q_blk_ret (q_then_ret ?_))))))))
   exact q_ret _ (.tmp rfl .nil) rfl
 rw [decide_eq_true e5] at c1
 have hnx := take_nx h2 kx ky (by rw [e3, e4, e5])
 refine pw_seq (pzr (yMd rfl (yMd rfl (yMd rfl (yW ex (by omega) rfl rfl (yFr rfl rfl (yLr rfl rfl (yN rfl (yB rfl rfl rfl rfl ?_))))))))); refine yQ (q_then ?_); rw [u2]; refine pw_ct rfl (pw_skip (pw_seq (pw_block (pw_seq ?_)))); refine pw_draw2 (id := 11) Tryz.mixed (by kernel_rfl) ?_; refine yMd rfl (yMd rfl (yW ex (by omega) rfl rfl (yFr rfl rfl (yLr rfl rfl (yMd rfl (yW fx (by omega) rfl rfl (yLs (ys := [_, _, _]) rfl rfl rfl (yMd rfl (yMd rfl ?_))))))))); refine yW ey (by omega) rfl rfl (yFr rfl rfl (yLr rfl rfl (yMd rfl (yW fy (by omega) rfl rfl (yLs (ys := [_, _, _]) rfl rfl rfl (yZ (cs := [_, _, _]) rfl rfl (yZ (cs := [_, _, _]) rfl rfl (yS (cs' := [_, _, _]) rfl rfl rfl rfl rfl (yS (cs' := [_, _, _]) rfl rfl rfl rfl rfl ?_))))))))); refine yQ ?_
 refine Px.Sep.mk (by kernel_rfl) ?_; refine pzr (yFb rfl (yLd rfl rfl rfl (yFb rfl (yLd rfl rfl rfl (yBsn rfl rfl (yMd rfl ?_)))))); rw [v1]
 refine yFb rfl (yLd rfl rfl rfl (yFb rfl (yLd rfl rfl rfl (yBbn (c := false) Tryz.underlying4 v2 rfl rfl (yVd rfl rfl (yMd rfl (yFb rfl (yLd rfl rfl rfl (yFb rfl ?_))))))))); refine yLd rfl rfl rfl (yC (c1) rfl rfl (yU rfl rfl rfl (yVd rfl rfl (yQ (pw_cf rfl (pw_skip (pw_region (yMd rfl (yB rfl rfl rfl rfl ?_))))))))); refine yAd rfl (yQ (q_then ?_))
 exact ⟨k + 1, ⟨h3, hnx⟩, arith2, rfl, ⟨.refl _, .refl _, .refl _, .of_eq (congrArg (fun n => SV.d (dI n)) hw2), trivial⟩, trivial, trivial, rfl⟩
theorem and_mk {a b : Bool} (h : a = true) (h' : b = true) : (a && b) = true := by rw [h, h']; rfl
theorem sharedfact1 : laidOutB Tryz.prog = true := by kernel_rfl
theorem sharedfact2 : mapsRowed Tryz.prog = true := by kernel_rfl
theorem sharedfact6 : (Tryz.prog.stops == []) = true := by kernel_rfl
theorem sharedfact8 : (Tryz.prog.stopKnobs == []) = true := by kernel_rfl
theorem sharedplainKeys : Tryz.prog.plainKeys = true := by kernel_rfl
theorem sharedfact24 : Tryz.prog.stopsHeard = true := by kernel_rfl
theorem sharedfact25 : Tryz.prog.mayEnter = true := by kernel_rfl
theorem sharedliftsFinal : Tryz.prog.liftsFinal = false := by kernel_rfl
end Go.Proofs.YtddfimjiihggmaaGreatDoor