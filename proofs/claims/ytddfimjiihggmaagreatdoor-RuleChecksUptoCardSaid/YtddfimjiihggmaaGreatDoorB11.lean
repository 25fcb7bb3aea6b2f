/- Walk: the reference reads texts of expressions. -/
import Derived.Test.YtddfimjiihggmaaGreatDoorB10
set_option maxHeartbeats 16000000
set_option maxRecDepth 20000
namespace Go.Proofs.YtddfimjiihggmaaGreatDoor
namespace Px
open Go.RowKit
section
variable {P : Program} {B : Nat} {w0 : Cx} {Q Q' : Exit → PS → Prop} {st : PS} {sq : Bool} {ops : Array Oper} {K K' : PS → Prop} {rest : List Oper}
theorem YR.mono (h : YR P sq ops K rest st) (hk : ∀ s, K s → K' s) : YR P sq ops K' rest st := by
 induction h with
 | nil h => exact .nil (hk _ h)
 | op x ef hs ho hw _ ih => exact .op x ef hs ho hw ih
 | skip hd hw _ ih => exact .skip hd hw ih
 | any hq h => exact .any hq fun B w0 Q hQ => h B w0 Q fun s hs => hQ s (hk s hs)
theorem Cm {b y : Code} (J : PS) (h2 : PW P B w0 y Q J) (h1 : YR P sq ops (PW P B w0 b (S0 (fun s => Le s J) Q)) rest st) : YR P sq ops (S0 (PW P B w0 (.seq b y) Q) Q' .normal) rest st := h1.mono fun _ hs => A8 (ME J h2 hs)
theorem BV {b y : Code} (J : PS) (h2 : PW P B w0 y Q J) (h1 : YR P sq ops (PW P B w0 b (S0 (fun s => Le s J) Q)) rest st) : YR P sq ops (S0 (PW P B w0 b (S0 (PW P B w0 y Q) Q)) Q' .normal) rest st := h1.mono fun _ hs => ME J h2 hs
end
end Px
open Go.RowKit Px
def Nu (c : Cf) : Bool := decide (30 < c.1.length) || decide (13 < c.2.length)
def LN (l : Ln) : Bool := decide (60 < l.1.length) || (decide (6 < l.2.2.length) && decide (l.2.2.length ≤ 16)) || decide (18 < l.2.2.length) || l.2.2.any Nu
def LM (r : Ru) : Bool := (decide (6 < r.2.length) && decide (r.2.length ≤ 64)) || decide (66 < r.2.length) || r.2.any LN
def GA (l : List Ru) : Bool := (decide (20 < l.length) && decide (l.length ≤ 64)) || decide (66 < l.length) || l.any LM
theorem GM {α : Type} {p : α → Bool} {l : List α} {i : Nat} {x : α} (h : l[i]? = some x) : (l.drop i).any p = (p x || (l.drop (i + 1)).any p) := by
 obtain ⟨h1, h2⟩ := A6.1 h
 rw [J0 h1, h2, List.any_cons]
theorem wLongF (a : G0) : PCalls Tryz.prog 106 [dS a] (.d (dB (decide (13 < a.length)))) := by
 have e : decide (13 < a.length) = decide ((a.length : Int) > 13) := decide_eq_decide.2 (by omega)
 rw [e]
 refine B3 Tryz.func106 V Tryz.ntmps106 Tryz.results106 (by simp) fun B w0 => ?_
 refine D8 (B5 V (H8 V (O4 V (G3 V (B5 V (C4 ?_))))))
 exact C9 _ (.tmp V .nil) V
theorem wGreatR (l : List Ru) : PCalls Tryz.prog 55 [O7 l] (.d (dB (GA l))) := by
 have d1 : GA l = ((decide (20 < l.length) && decide (l.length ≤ 64)) || decide (66 < l.length) || l.any LM) := rfl
 obtain ⟨G, hG⟩ := H7 (GA l)
 rw [← hG] at d1 ⊢
 clear hG
 by_cases hc2 : (20 < l.length ∧ l.length ≤ 64) ∨ 66 < l.length
 · have t1 : decide (((l.map U4).length : Int) > 20) = true := B0 (by rw [A7]; omega)
   have hg : G = true := by
    rw [d1]
    rcases hc2 with h | h
    · rw [B0 h.1, B0 h.2]; simp
    · rw [B0 h]; simp
   subst hg
   by_cases h2 : l.length ≤ 64
   · have t2 : decide (((l.map U4).length : Int) ≤ 64) = true := B0 (by rw [A7]; omega)
     refine B3 Tryz.func55 V Tryz.ntmps55 Tryz.results55 (by simp) fun B w0 => ?_
     refine D8 (B5 V (I0 V (yN V (G3 V (C3 V ?_))))); rw [t1]
     refine C3 V (yN V (G3 V (K8 V V (C3 V ?_)))); rw [t2]; refine yO V (yO V (yO V (K8 V V (yQ (G5 V (D8 (B5 V (C4 (A4 ?_)))))))))
     exact C9 _ (.tmp V .nil) V
   · have t2 : decide (((l.map U4).length : Int) ≤ 64) = false := A9 (by rw [A7]; omega)
     have t3 : decide (((l.map U4).length : Int) > 66) = true := B0 (by rw [A7]; omega)
     refine B3 Tryz.func55 V Tryz.ntmps55 Tryz.results55 (by simp) fun B w0 => ?_
     refine D8 (B5 V (I0 V (yN V (G3 V (C3 V ?_))))); rw [t1]
     refine C3 V (yN V (G3 V (K8 V V (C3 V ?_)))); rw [t2]; refine C3 V (yN V (G3 V (K7 V V (yQ (B1 (J8 t3 V (D8 (B5 V (C4 (A4 ?_))))))))))
     exact C9 _ (.tmp V .nil) V
 have hg : l.any LM = G := by
  rw [d1]
  by_cases h1 : 20 < l.length
  · rw [B0 h1, A9 (show ¬ l.length ≤ 64 by omega), A9 (show ¬ 66 < l.length by omega)]; simp
  · rw [A9 h1, A9 (show ¬ 66 < l.length by omega)]; simp
 clear d1
 refine B3 Tryz.func55 V Tryz.ntmps55 Tryz.results55 (by simp) fun B w0 => ?_
 refine D8 (B5 V (I0 V (yN V (G3 V (C3 V ?_)))))
 first | refine Cm ⟨115, [(0, .d (O7 l))], [], []⟩ ?_ ?_ | refine BV ⟨115, [(0, .d (O7 l))], [], []⟩ ?_ ?_
 rotate_left
 · have t3 : decide (((l.map U4).length : Int) > 66) = false := A9 (by rw [A7]; omega)
   by_cases h1 : 20 < l.length
   · have t1 : decide (((l.map U4).length : Int) > 20) = true := B0 (by rw [A7]; omega)
     have t2 : decide (((l.map U4).length : Int) ≤ 64) = false := A9 (by rw [A7]; omega)
     rw [t1]; refine C3 V ?_; refine yN V ?_; refine yB V V V V ?_; refine K8 V V ?_; refine C3 V ?_; rw [t2]; refine C3 V ?_; refine yN V ?_; refine yB V V V V ?_; refine K7 V V ?_; refine yQ ?_
     rw [t3]; refine F6 V ?_; refine B2 ?_; refine B1 ?_
     exact ⟨rfl, ⟨E0, D4⟩, D4, D4, V⟩
   · have t1 : decide (((l.map U4).length : Int) > 20) = false := A9 (by rw [A7]; omega)
     rw [t1]; refine yO V ?_; refine yO V ?_; refine yO V ?_; refine K7 V V ?_; refine C3 V ?_; refine C3 V ?_; refine yN V ?_; refine yB V V V V ?_; refine K7 V V ?_; refine yQ ?_; rw [t3]
     refine F6 V (B2 (B1 ?_))
     exact ⟨rfl, ⟨E0, D4⟩, D4, D4, V⟩
 have hl : l.length ≤ 66 := by omega
 clear hc2
 refine A8 (D8 (B5 V (B6 ?_))); refine H2 (fun i : Nat => ⟨115, [(0, .d (O7 l)), (3, .d (dI i))], [], []⟩) (fun i => i ≤ l.length ∧ (l.drop i).any LM = G) (fun i => l.length - i) 0 ⟨D9 _, hg⟩
  ⟨rfl, ⟨E0, E0, D4⟩, D4, D4, rfl⟩ ?_
 rintro i ⟨hi, hI⟩
 clear hg
 rcases D2 i l.length with h | h
 rotate_left
 · have u1 : decide ((i : Int) < ((l.map U4).length : Int)) = false := A9 (by rw [A7]; omega)
   rw [I8 h] at hI
   subst hI
   refine I0 V (C3 V (yN V (H3 V (B1 (L9 u1 V (G1 (D8 (B5 V (C4 ?_)))))))))
   exact C9 _ (.tmp V .nil) V
 have u1 : decide ((i : Int) < ((l.map U4).length : Int)) = true := B0 (by rw [A7]; omega)
 obtain ⟨⟨n, ls⟩, hr⟩ : ∃ a, l[i]? = some a := ⟨_, A5 h⟩
 have ex := ix U4 l i i (n, ls) rfl hr
 have hw := I5 ((i : Int) + 1) (by omega)
 rw [GM hr] at hI
 have d2 : LM (n, ls) = ((decide (6 < ls.length) && decide (ls.length ≤ 64)) || decide (66 < ls.length) || ls.any LN) := rfl
 rw [d2] at hI
 clear d2
 have arith : l.length - (i + 1) < l.length - i := by omega
 obtain ⟨R, hR⟩ := H7 ((l.drop (i + 1)).any LM)
 rw [← hR] at hI
 by_cases hc2 : (6 < ls.length ∧ ls.length ≤ 64) ∨ 66 < ls.length
 · have t1 : decide (((ls.map V4).length : Int) > 6) = true := B0 (by rw [A7]; omega)
   have hg : G = true := by
    rw [← hI]
    rcases hc2 with h | h
    · rw [B0 h.1, B0 h.2]; simp
    · rw [B0 h]; simp
   subst hg
   by_cases h2 : ls.length ≤ 64
   · have t2 : decide (((ls.map V4).length : Int) ≤ 64) = true := B0 (by rw [A7]; omega)
     refine I0 V (C3 V (yN V (H3 V (B1 (J8 u1 V (B2 (A8 (B6 (I0 V (C3 V (yW ex (by omega) rfl rfl (N8 rfl rfl (K5 rfl rfl (yN rfl (G3 rfl (C3 rfl ?_)))))))))))))))); rw [t1]; refine C3 V (C3 V (yW ex (by omega) rfl rfl (N8 rfl rfl (K5 rfl rfl (yN rfl (G3 rfl (K8 rfl rfl (C3 rfl ?_)))))))); rw [t2]; refine yO V (yO V (yO V (yO V (yO V (yO V (yO V (K8 V V (yQ (G5 V (D8 (B5 V (C4 (A4 (B8 (A4 (A4 (B8 (A4 ?_))))))))))))))))))
     exact C9 _ (.tmp V .nil) V
   · have t2 : decide (((ls.map V4).length : Int) ≤ 64) = false := A9 (by rw [A7]; omega)
     have t3 : decide (((ls.map V4).length : Int) > 66) = true := B0 (by rw [A7]; omega)
     refine I0 V (C3 V (yN V (H3 V (B1 (J8 u1 V (B2 (A8 (B6 (I0 V (C3 V (yW ex (by omega) rfl rfl (N8 rfl rfl (K5 rfl rfl (yN rfl (G3 rfl (C3 rfl ?_)))))))))))))))); rw [t1]; refine C3 V (C3 V (yW ex (by omega) rfl rfl (N8 rfl rfl (K5 rfl rfl (yN rfl (G3 rfl (K8 rfl rfl (C3 rfl ?_)))))))); rw [t2]; refine C3 V (C3 V (yW ex (by omega) rfl rfl (N8 rfl rfl (K5 rfl rfl (yN rfl (G3 rfl (K7 rfl rfl (yQ (B1 (J8 t3 rfl (D8 (B5 rfl (C4 (A4 (B8 (A4 (A4 (B8 (A4 ?_)))))))))))))))))))
     exact C9 _ (.tmp V .nil) V
 have hg : (ls.any LN || R) = G := by
  rw [← hI]
  by_cases h1 : 6 < ls.length
  · rw [B0 h1, A9 (show ¬ ls.length ≤ 64 by omega), A9 (show ¬ 66 < ls.length by omega)]; simp
  · rw [A9 h1, A9 (show ¬ 66 < ls.length by omega)]; simp
 clear hI
 refine I0 V (C3 V (yN V (H3 V (B1 (J8 u1 V (B2 (A8 (B6 (I0 V (C3 V (yW ex (by omega) rfl rfl (N8 rfl rfl (K5 rfl rfl (yN rfl (G3 rfl (C3 rfl ?_))))))))))))))))
 first | refine Cm ⟨115, [(0, .d (O7 l)), (3, .d (dI i))], [], []⟩ ?_ ?_ | refine BV ⟨115, [(0, .d (O7 l)), (3, .d (dI i))], [], []⟩ ?_ ?_
 rotate_left
 · have t3 : decide (((ls.map V4).length : Int) > 66) = false := A9 (by rw [A7]; omega)
   by_cases h1 : 6 < ls.length
   · have t1 : decide (((ls.map V4).length : Int) > 6) = true := B0 (by rw [A7]; omega)
     have t2 : decide (((ls.map V4).length : Int) ≤ 64) = false := A9 (by rw [A7]; omega)
     rw [t1]; refine C3 V ?_; refine C3 V ?_; refine yW ex (by omega) rfl rfl ?_; refine N8 V V ?_; refine K5 V V ?_; refine yN V ?_; refine yB V V V V ?_; refine K8 V V ?_; refine C3 V ?_; rw [t2]
     refine C3 V (C3 V (yW ex (by omega) rfl rfl (N8 rfl rfl (K5 rfl rfl (yN rfl (G3 rfl (K7 rfl rfl (yQ ?_)))))))); rw [t3]
     refine F6 V (B2 (B1 ?_))
     exact ⟨rfl, ⟨E0, E0, D4⟩, D4, D4, V⟩
   · have t1 : decide (((ls.map V4).length : Int) > 6) = false := A9 (by rw [A7]; omega)
     rw [t1]; refine yO V ?_; refine yO V ?_; refine yO V ?_; refine yO V ?_; refine yO V ?_; refine yO V ?_; refine yO V ?_; refine K7 V V ?_; refine C3 V ?_; refine C3 V ?_; refine C3 V ?_
     refine yW ex (by omega) rfl rfl (N8 rfl rfl (K5 rfl rfl (yN rfl (G3 rfl (K7 rfl rfl (yQ (L9 t3 rfl (B2 (B1 ?_)))))))))
     exact ⟨rfl, ⟨E0, E0, D4⟩, D4, D4, V⟩
 have hll : ls.length ≤ 66 := by omega
 clear hc2
 refine D8 (B5 V (B6 ?_)); refine H2 (fun k : Nat => ⟨115, [(0, .d (O7 l)), (3, .d (dI i)), (4, .d (dI k))], [], []⟩) (fun k => k ≤ ls.length ∧ ((ls.drop k).any LN || R) = G) (fun k => ls.length - k) 0 ⟨D9 _, hg⟩
  ⟨rfl, ⟨E0, E0, E0, D4⟩, D4, D4, rfl⟩ ?_
 rintro k ⟨hk, hI⟩
 clear hg
 rcases D2 k ls.length with h2 | h2
 rotate_left
 · have u2 : decide ((k : Int) < ((ls.map V4).length : Int)) = false := A9 (by rw [A7]; omega)
   rw [I8 h2] at hI
   have hI : R = G := hI
   rw [hR] at hI
   refine I0 V (C3 V (C3 V (yW ex (by omega) rfl rfl (N8 rfl rfl (K5 rfl rfl (yN rfl (H3 rfl (B1 (L9 u2 rfl (G1 (B4 (C3 rfl (G3 rfl (B5 rfl (B1 ?_)))))))))))))))
   exact ⟨i + 1, ⟨h, hI⟩, arith, V, ⟨E0, .of_eq (C7 (fun n => SV.d (dI n)) hw), D4⟩, D4, D4, V⟩
 have u2 : decide ((k : Int) < ((ls.map V4).length : Int)) = true := B0 (by rw [A7]; omega)
 obtain ⟨⟨a, s, x⟩, hx⟩ : ∃ a, ls[k]? = some a := ⟨_, A5 h2⟩
 have ek := ix V4 ls k k (a, s, x) rfl hx
 have hw2 := I5 ((k : Int) + 1) (by omega)
 rw [GM hx] at hI
 have d2 : LN (a, s, x) = (decide (60 < a.length) || (decide (6 < x.length) && decide (x.length ≤ 16)) || decide (18 < x.length) || x.any Nu) := rfl
 rw [d2] at hI
 clear d2
 have arith2 : ls.length - (k + 1) < ls.length - k := by omega
 obtain ⟨Q, hQ⟩ := H7 ((ls.drop (k + 1)).any LN)
 rw [← hQ] at hI
 by_cases ha : 60 < a.length
 · have t0 : decide ((a.length : Int) > 60) = true := B0 (by omega)
   have hg : G = true := by rw [← hI, B0 ha]; simp
   subst hg
   refine I0 V (C3 V (C3 V (yW ex (by omega) rfl rfl (N8 rfl rfl (K5 rfl rfl (yN rfl (H3 rfl (B1 (J8 u2 rfl (B2 (A8 (B6 (H8 rfl (C3 rfl (yW ex (by omega) rfl rfl (N8 rfl rfl (K5 rfl rfl (C3 rfl (yW ek (by omega) rfl rfl (R7 (ys := [_, _, _]) rfl rfl rfl (yZ (cs := [_, _, _]) rfl rfl (yS (cs' := [_, _, _]) rfl rfl rfl rfl rfl (yQ (A8 (D8 (J6 rfl (O4 rfl (G3 rfl (C3 rfl ?_))))))))))))))))))))))))))))); rw [t0]; refine yO V (yO V (yO V (yO V (yO V (yO V (yO V (yO V (yO V (yO V (K8 V V (C3 V (yO V (yO V (yO V (yO V (K8 V V (yQ (G5 V (D8 (B5 V (C4 (A4 (B8 (A4 (A4 (B8 (B8 (A4 (A4 (B8 (A4 ?_)))))))))))))))))))))))))))))))
   exact C9 _ (.tmp V .nil) V
 have t0 : decide ((a.length : Int) > 60) = false := A9 (by omega)
 rw [A9 ha, Bool.false_or] at hI
 by_cases hc2 : (6 < x.length ∧ x.length ≤ 16) ∨ 18 < x.length
 · have t1 : decide (((x.map dCf).length : Int) > 6) = true := B0 (by rw [A7]; omega)
   have hg : G = true := by
    rw [← hI]
    rcases hc2 with h | h
    · rw [B0 h.1, B0 h.2]; simp
    · rw [B0 h]; simp
   subst hg
   by_cases h2 : x.length ≤ 16
   · have t2 : decide (((x.map dCf).length : Int) ≤ 16) = true := B0 (by rw [A7]; omega)
     refine I0 V (C3 V (C3 V (yW ex (by omega) rfl rfl (N8 rfl rfl (K5 rfl rfl (yN rfl (H3 rfl (B1 (J8 u2 rfl (B2 (A8 (B6 (H8 rfl (C3 rfl (yW ex (by omega) rfl rfl (N8 rfl rfl (K5 rfl rfl (C3 rfl (yW ek (by omega) rfl rfl (R7 (ys := [_, _, _]) rfl rfl rfl (yZ (cs := [_, _, _]) rfl rfl (yS (cs' := [_, _, _]) rfl rfl rfl rfl rfl (yQ (A8 (D8 (J6 rfl (O4 rfl (G3 rfl (C3 rfl ?_))))))))))))))))))))))))))))); rw [t0]; refine J6 V (yN V (G3 V (C3 V ?_))); rw [t1]; refine J6 V (yN V (G3 V (K8 V V (K7 V V (C3 V ?_))))); rw [t2]; refine yO V (yO V (yO V (yO V (K8 V V (yQ (G5 V (D8 (B5 V (C4 (A4 (B8 (A4 (A4 (B8 (B8 (A4 (A4 (B8 (A4 ?_)))))))))))))))))))
     exact C9 _ (.tmp V .nil) V
   · have t2 : decide (((x.map dCf).length : Int) ≤ 16) = false := A9 (by rw [A7]; omega)
     have t3 : decide (((x.map dCf).length : Int) > 18) = true := B0 (by rw [A7]; omega)
     refine I0 V (C3 V (C3 V (yW ex (by omega) rfl rfl (N8 rfl rfl (K5 rfl rfl (yN rfl (H3 rfl (B1 (J8 u2 rfl (B2 (A8 (B6 (H8 rfl (C3 rfl (yW ex (by omega) rfl rfl (N8 rfl rfl (K5 rfl rfl (C3 rfl (yW ek (by omega) rfl rfl (R7 (ys := [_, _, _]) rfl rfl rfl (yZ (cs := [_, _, _]) rfl rfl (yS (cs' := [_, _, _]) rfl rfl rfl rfl rfl (yQ (A8 (D8 (J6 rfl (O4 rfl (G3 rfl (C3 rfl ?_))))))))))))))))))))))))))))); rw [t0]; refine J6 V (yN V (G3 V (C3 V ?_))); rw [t1]; refine J6 V (yN V (G3 V (K8 V V (K7 V V (C3 V ?_))))); rw [t2]; refine J6 V (yN V (G3 V (K7 V V (yQ (B1 (J8 t3 V (D8 (B5 V (C4 (A4 (B8 (A4 (A4 (B8 (B8 (A4 (A4 (B8 (A4 ?_)))))))))))))))))))
     exact C9 _ (.tmp V .nil) V
 have hg : (x.any Nu || (Q || R)) = G := by
  rw [← hI]
  by_cases h1 : 6 < x.length
  · rw [B0 h1, A9 (show ¬ x.length ≤ 16 by omega), A9 (show ¬ 18 < x.length by omega)]; simp [Bool.or_assoc]
  · rw [A9 h1, A9 (show ¬ 18 < x.length by omega)]; simp [Bool.or_assoc]
 clear hI
 refine I0 V (C3 V (C3 V (yW ex (by omega) rfl rfl (N8 rfl rfl (K5 rfl rfl (yN rfl (H3 rfl (B1 (J8 u2 rfl (B2 (A8 (B6 (H8 rfl (C3 rfl (yW ex (by omega) rfl rfl (N8 rfl rfl (K5 rfl rfl (C3 rfl (yW ek (by omega) rfl rfl (R7 (ys := [_, _, _]) rfl rfl rfl (yZ (cs := [_, _, _]) rfl rfl (yS (cs' := [_, _, _]) rfl rfl rfl rfl rfl (yQ (A8 (D8 (J6 rfl (O4 rfl (G3 rfl (C3 rfl ?_))))))))))))))))))))))))))))); rw [t0]; refine J6 V (yN V (G3 V (C3 V ?_)))
 first | refine Cm ⟨115, [(0, .d (O7 l)), (3, .d (dI i)), (4, .d (dI k)), (5, .bx 5 0)], [(5, [.d (dS a), .d (dB s), .d (.sl 2 (x.map dCf))])], []⟩ ?_ ?_ | refine BV ⟨115, [(0, .d (O7 l)), (3, .d (dI i)), (4, .d (dI k)), (5, .bx 5 0)], [(5, [.d (dS a), .d (dB s), .d (.sl 2 (x.map dCf))])], []⟩ ?_ ?_
 rotate_left
 · have t3 : decide (((x.map dCf).length : Int) > 18) = false := A9 (by rw [A7]; omega)
   by_cases h1 : 6 < x.length
   · have t1 : decide (((x.map dCf).length : Int) > 6) = true := B0 (by rw [A7]; omega)
     have t2 : decide (((x.map dCf).length : Int) ≤ 16) = false := A9 (by rw [A7]; omega)
     rw [t1]; refine CO V ?_; refine U3 V V V ?_; refine yN V ?_; refine yB V V V V ?_; refine K8 V V ?_; refine K7 V V ?_; refine C3 V ?_; rw [t2]; refine CO V ?_; refine U3 V V V ?_
     refine yN V (G3 V (K7 V V (yQ (L9 t3 V (B2 (B1 ?_))))))
     exact ⟨rfl, ⟨E0, E0, E0, E0, D4⟩, ⟨⟨_, V, F7 _⟩, D4⟩, D4, V⟩
   · have t1 : decide (((x.map dCf).length : Int) > 6) = false := A9 (by rw [A7]; omega)
     rw [t1]; refine yO V ?_; refine yO V ?_; refine yO V ?_; refine yO V ?_; refine K7 V V ?_; refine K7 V V ?_; refine C3 V ?_; refine CO V ?_; refine U3 V V V ?_; refine yN V ?_
     refine G3 V (K7 V V (yQ (L9 t3 V (B2 (B1 ?_)))))
     exact ⟨rfl, ⟨E0, E0, E0, E0, D4⟩, ⟨⟨_, V, F7 _⟩, D4⟩, D4, V⟩
 have hxl : x.length ≤ 18 := by omega
 clear hc2
 refine D8 (B5 V (B6 ?_)); refine H2 (fun m : Nat => ⟨115, [(0, .d (O7 l)), (3, .d (dI i)), (4, .d (dI k)), (5, .bx 5 0), (6, .d (dI m))], [(5, [.d (dS a), .d (dB s), .d (.sl 2 (x.map dCf))])], []⟩) (fun m => m ≤ x.length ∧ ((x.drop m).any Nu || (Q || R)) = G) (fun m => x.length - m) 0 ⟨D9 _, hg⟩
  ⟨rfl, ⟨E0, E0, E0, E0, E0, D4⟩, ⟨⟨_, rfl, F7 _⟩, D4⟩, D4, rfl⟩ ?_
 rintro m ⟨hm, hI⟩
 clear hg
 rcases D2 m x.length with h3 | h3
 rotate_left
 · have u3 : decide ((m : Int) < ((x.map dCf).length : Int)) = false := A9 (by rw [A7]; omega)
   rw [I8 h3] at hI
   have hI : (Q || R) = G := hI
   rw [hQ] at hI
   refine I0 V (J6 V (yN V (H3 V (B1 (L9 u3 V (G1 (B4 (C3 V (G3 V (B5 V (B1 ?_)))))))))))
   exact ⟨k + 1, ⟨h2, hI⟩, arith2, V, ⟨E0, E0, .of_eq (C7 (fun n => SV.d (dI n)) hw2), D4⟩, D4, D4, V⟩
 have u3 : decide ((m : Int) < ((x.map dCf).length : Int)) = true := B0 (by rw [A7]; omega)
 obtain ⟨⟨c0, c1⟩, hcx⟩ : ∃ a, x[m]? = some a := ⟨_, A5 h3⟩
 have em := ix dCf x m m (c0, c1) rfl hcx
 have hw3 := I5 ((m : Int) + 1) (by omega)
 rw [GM hcx] at hI
 have d2 : Nu (c0, c1) = (decide (30 < c0.length) || decide (13 < c1.length)) := rfl
 rw [d2] at hI
 clear d2
 have arith3 : x.length - (m + 1) < x.length - m := by omega
 have k1 := wLongF c1
 by_cases q1 : 30 < c0.length
 · have t1 : decide ((c0.length : Int) > 30) = true := B0 (by omega)
   have hg : G = true := by rw [← hI, B0 q1]; simp
   subst hg
   refine I0 V (J6 V (yN V (H3 V (B1 (J8 u3 V (B2 (A8 (B6 (D8 (J6 V (C3 V (yW em (by omega) rfl rfl (N8 rfl rfl (K5 rfl rfl (O4 rfl (G3 rfl (C3 rfl ?_))))))))))))))))); rw [t1]; refine yO V (yO V (yO V (yO V (yO V (yO V (yO V (K8 V V (yQ (G5 V (D8 (B5 V (C4 (B8 (A4 (A4 (B8 (B8 (A4 (A4 (B8 (B8 (A4 (A4 (B8 (A4 ?_)))))))))))))))))))))))))
   exact C9 _ (.tmp V .nil) V
 have t1 : decide ((c0.length : Int) > 30) = false := A9 (by omega)
 rw [A9 q1, Bool.false_or] at hI
 by_cases q2 : 13 < c1.length
 · rw [B0 q2] at k1
   have hg : G = true := by rw [← hI, B0 q2]; simp
   subst hg
   refine I0 V (J6 V (yN V (H3 V (B1 (J8 u3 V (B2 (A8 (B6 (D8 (J6 V (C3 V (yW em (by omega) rfl rfl (N8 rfl rfl (K5 rfl rfl (O4 rfl (G3 rfl (C3 rfl ?_))))))))))))))))); rw [t1]; refine J6 V (C3 V (yW em (by omega) rfl rfl (N8 rfl rfl (K5 rfl rfl (yC (k1) rfl rfl (K7 rfl rfl (yQ (G5 rfl (D8 (B5 rfl (C4 (B8 (A4 (A4 (B8 (B8 (A4 (A4 (B8 (B8 (A4 (A4 (B8 (A4 ?_))))))))))))))))))))))))
   exact C9 _ (.tmp V .nil) V
 rw [A9 q2] at k1
 rw [A9 q2, Bool.false_or] at hI
 refine I0 V (J6 V (yN V (H3 V (B1 (J8 u3 V (B2 (A8 (B6 (D8 (J6 V (C3 V (yW em (by omega) rfl rfl (N8 rfl rfl (K5 rfl rfl (O4 rfl (G3 rfl (C3 rfl ?_))))))))))))))))); rw [t1]; refine J6 V (C3 V (yW em (by omega) rfl rfl (N8 rfl rfl (K5 rfl rfl (yC (k1) rfl rfl (K7 rfl rfl (yQ (F6 rfl (B2 (B4 (C3 rfl (G3 rfl (B5 rfl (B1 ?_))))))))))))))
 exact ⟨m + 1, ⟨h3, hI⟩, arith3, V, ⟨E0, E0, E0, E0, .of_eq (C7 (fun n => SV.d (dI n)) hw3), D4⟩, ⟨⟨_, V, F7 _⟩, D4⟩, D4, V⟩
theorem hPhRs : ∀ xs r, Pa GA xs r → PCalls Tryz.prog 55 (xs ++ ([] : List (List DV)).map DV.ref) r := by
 rintro _ _ ⟨l, rfl, rfl⟩
 exact wGreatR l
theorem Oe (l : List (List Ru)) (hl : l.length ≤ 1000) : PCalls Tryz.prog 11 [.sl 1 (l.map fun x => [O7 x])] (.d (dB (l.any GA))) := by
 have c1 := wHasRs GA l (by omega)
 obtain ⟨b, hb⟩ := H7 (l.any GA)
 rw [← hb] at c1 ⊢
 refine B3 Tryz.func11 V Tryz.ntmps11 Tryz.results11 (by simp) fun B w0 => ?_
 refine D8 (B5 V (H8 V ?_)); refine Gf c1 (.d V (.fn E6 V V hPhRs .nil)) V ?_; refine B5 V (C4 ?_)
 exact C9 _ (.tmp V .nil) V
section
variable {X : Type} {tp tp' : G0 → Bool} {pe pe' : G0 → Option X} {L : Nat}
end
theorem grt_bd {l : List Ru} (h : GA l = false) : l.length ≤ 66 ∧ ∀ r ∈ l, r.2.length ≤ 66 ∧ ∀ x ∈ r.2, x.1.length ≤ 60 ∧ x.2.2.length ≤ 18 ∧ ∀ c ∈ x.2.2, c.1.length ≤ 30 ∧ c.2.length ≤ 13 := by
 simp only [GA, Bool.or_eq_false_iff, List.any_eq_false, decide_eq_false_iff_not] at h
 refine ⟨by omega, fun r hr => ?_⟩
 have h1 := h.2 r hr
 simp only [LM, Bool.not_eq_true, Bool.or_eq_false_iff, List.any_eq_false, decide_eq_false_iff_not] at h1
 refine ⟨by omega, fun x hx => ?_⟩
 have h2 := h1.2 x hx
 simp only [LN, Bool.not_eq_true, Bool.or_eq_false_iff, List.any_eq_false, decide_eq_false_iff_not] at h2
 refine ⟨by omega, by omega, fun c hc => ?_⟩
 have h3 := h2.2 c hc
 simp only [Nu, Bool.or_eq_false_iff, decide_eq_false_iff_not] at h3
 omega
theorem grt_bdR {l : List Ru} (h : GA l = false) : l.length ≤ 1000000 ∧ ∀ r ∈ l, OH r := by
 obtain ⟨h1, h2⟩ := grt_bd h
 refine ⟨by omega, fun r hr => ⟨by have := (h2 r hr).1; omega, fun x hx => ?_⟩⟩
 obtain ⟨q1, q2, q3⟩ := (h2 r hr).2 x hx
 exact ⟨by omega, by omega, fun c hc => by have := q3 c hc; exact ⟨by omega, by omega⟩⟩
theorem M8 {a b : Bool} (h : a = true) (h' : b = true) : (a && b) = true := by rw [h, h']; rfl
theorem JN : laidOutB Tryz.prog = true := by kernel_rfl
theorem JM : mapsRowed Tryz.prog = true := by kernel_rfl
theorem JL : (Tryz.prog.stops == []) = true := by kernel_rfl
theorem JK : (Tryz.prog.stopKnobs == []) = true := by kernel_rfl
theorem Es : Tryz.prog.plainKeys = true := by kernel_rfl
theorem Hq : Tryz.prog.stopsHeard = true := by kernel_rfl
theorem Hp : Tryz.prog.mayEnter = true := by kernel_rfl
theorem Di : Tryz.prog.liftsFinal = false := by kernel_rfl
end Go.Proofs.YtddfimjiihggmaaGreatDoor