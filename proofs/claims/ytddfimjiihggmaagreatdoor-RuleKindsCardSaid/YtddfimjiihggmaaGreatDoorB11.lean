/- Walk: the reference reads texts of expressions. -/
import Derived.Test.YtddfimjiihggmaaGreatDoorB10
set_option maxHeartbeats 16000000
set_option maxRecDepth 20000
namespace Go.Proofs.YtddfimjiihggmaaGreatDoor
namespace Px
open Go.RowKit
section
variable {P : Program} {B : Nat} {w0 : Cx} {Q Q' : Exit → PS → Prop} {st : PS} {sq : Bool} {ops : Array Oper} {K K' : PS → Prop} {rest : List Oper}
theorem YR.mono (h : YR P sq ops K rest st) (hk : ∀ s, K s → K' s) : YR P sq ops K' rest st := by
 induction h with
 | nil h => exact .nil (hk _ h)
 | op x ef hs ho hw _ ih => exact .op x ef hs ho hw ih
 | skip hd hw _ ih => exact .skip hd hw ih
 | any hq h => exact .any hq fun B w0 Q hQ => h B w0 Q fun s hs => hQ s (hk s hs)
theorem HQ {b y : Code} (J : PS) (h2 : PW P B w0 y Q J) (h1 : YR P sq ops (PW P B w0 b (U5 (fun s => Le s J) Q)) rest st) : YR P sq ops (U5 (PW P B w0 (.seq b y) Q) Q' .normal) rest st := h1.mono fun _ hs => B0 (Pe J h2 hs)
theorem Ed {b y : Code} (J : PS) (h2 : PW P B w0 y Q J) (h1 : YR P sq ops (PW P B w0 b (U5 (fun s => Le s J) Q)) rest st) : YR P sq ops (U5 (PW P B w0 b (U5 (PW P B w0 y Q) Q)) Q' .normal) rest st := h1.mono fun _ hs => Pe J h2 hs
end
end Px
open Go.RowKit Px
variable {α : Type} {i : Nat}
abbrev rpT : Nat := 113 * 100000 + 11
abbrev rpS (zs : List Cf) (b : Bool) (r : F6) : PS := ⟨83, [(4, .ts rpT 2 (zs.map dCf)), (5, .d (dS r)), (6, .d (dB b))], [], [(rpT, (zs.map dCf).length)]⟩
abbrev rpS2 (zs : List Cf) (b : Bool) (r : F6) (j : Nat) : PS := ⟨83, [(4, .ts rpT 2 (zs.map dCf)), (5, .d (dS r)), (6, .d (dB b)), (7, .d (dI j))], [], [(rpT, (zs.map dCf).length)]⟩
theorem wRParse (s : F6) (hs : s.length ≤ 65536) : PCalls Tryz.prog 131 [dS s] (.tup [.sl 2 ((Nw s).map dCf), dI (Nx s)]) := by
 have t0 : decide ((s.length : Int) > 65536) = false := A7 (by omega)
 by_cases h0 : s = [48]
 · have t1 : (s == [48]) = true := by simp [h0]
   rw [Nw, Nx, B9 h0, B9 h0]
   refine M0 Tryz.func131 V Tryz.ntmps131 Tryz.results131 fun B w0 => ?_
   refine E5 (H5 V (A9 V (H2 V (O2 V (I3 V (B3 (O1 t0 V (B2 (H2 V (N7 V V (yQ (B3 (L8 t1 V (E5 (H5 V (A9 V (C4 (A6 ?_))))))))))))))))))
   exact I9 _ (.tnil 2 V (.tmp V .nil)) V
 have t1 : (s == [48]) = false := by simp [h0]
 have P3 := Vh s h0
 have DC : (JF 45 s).length ≤ 65536 := LS s hs
 obtain ⟨R, hR⟩ := I0 (Nw s)
 obtain ⟨E, hE⟩ := I0 (Nx s)
 rw [← hR, ← hE] at P3 ⊢
 clear hR hE
 refine M0 Tryz.func131 V Tryz.ntmps131 Tryz.results131 fun B w0 => ?_
 refine E5 (H5 V (A9 V (H2 V (O2 V (I3 V (B3 (O1 t0 V (B2 (H2 V (N7 V V (yQ (B3 (O1 t1 V (B2 (E5 (A9 V (H9 V (H5 V (A9 V (H2 V (N5 V V (B4 V ?_))))))))))))))))))))))
 first | refine HQ ⟨83, [(4, .d (.val (.slice none 0 0))), (5, .d (dS (JF 45 s))), (6, .d (dB (Lh 45 s)))], [], []⟩ ?_ ?_ | refine Ed ⟨83, [(4, .d (.val (.slice none 0 0))), (5, .d (dS (JF 45 s))), (6, .d (dB (Lh 45 s)))], [], []⟩ ?_ ?_
 rotate_left
 · cases s with
   | nil =>
    refine L4 V V (yO V (L3 V V (yQ (F4 V (B2 (B3 ?_))))))
    exact ⟨rfl, ⟨F5, F5, F5, D5⟩, D5, D5, V⟩
   | cons x l =>
   have u0 : (x :: l == []) = false := rfl
   have hx : (x :: l : F6)[(0 : Int).toNat]? = some x := rfl
   by_cases h45 : x = 45
   · have t2 : ((x.toNat : Int) == 45) = true := by rw [h45]; rfl
     have e1 : JF 45 (x :: l) = l := by rw [JF, B9 h45]
     have e2 : Lh 45 (x :: l) = true := by rw [h45]; rfl
     rw [e1, e2]
     have h1 : (x :: l : F6).drop ((1 : Int)).toNat = l := rfl
     have Dp : (1 : Int) ≤ ((x :: l : F6).length : Int) := by simp; omega
     obtain ⟨y, hy⟩ := I0 ((x :: l : F6))
     rw [← hy] at u0 hx h1 Dp ⊢
     clear hy e1 e2 hs t0 h0 t1 P3 DC
     rw [u0]; refine B4 V ?_; refine U1 hx (by omega) V V ?_; refine yB V V V V ?_; refine L2 V V ?_; refine yQ ?_; rw [t2]; refine G4 V ?_; refine B6 ?_; refine B4 V ?_
     refine U9 (by omega) Dp h1 V V (H5 V (A9 V (B3 ?_)))
     exact ⟨rfl, ⟨F5, F5, F5, D5⟩, D5, D5, V⟩
   · have t2 : ((x.toNat : Int) == 45) = false := G2 fun h => h45 (UInt8.toNat_inj.1 (by have : (45 : UInt8).toNat = 45 := rfl; omega))
     have e1 : JF 45 (x :: l) = x :: l := by rw [JF, B5 h45]
     have e2 : Lh 45 (x :: l) = false := by simp [Lh, h45]
     rw [e1, e2]
     refine B4 V (U1 hx (by omega) V V (F9 V (L2 V V (yQ ?_)))); rw [u0]; rw [t2]; refine F4 V (B2 (B3 ?_))
     exact ⟨rfl, ⟨F5, F5, F5, D5⟩, D5, D5, V⟩
 refine Kn 4 rpT 2 V V V ?_; refine B0 (B8 ?_); refine I1 (fun p : List Cf × Bool × F6 => rpS p.1 p.2.1 p.2.2) (fun p => p.1.length + p.2.2.length ≤ 65536 ∧ (∀ c ∈ p.1, Fo c.2 = true ∧ c.2.length ≤ 70000) ∧ ER (Eo p.2.1 p.2.2) p.1 = (E, R)) (fun p => p.2.2.length) ([], Lh 45 s, JF 45 s) ⟨by simp only [List.length_nil]; omega, fun c hc => by simp at hc, P3⟩
  ⟨rfl, ⟨F5, F5, F5, D5⟩, D5, ⟨rfl, D5⟩, rfl⟩ ?_
 clear P3 DC t0 t1 h0 hs
 rintro ⟨zs, neg, r⟩ ⟨QH, KD, P3⟩
 simp only at QH KD P3 ⊢
 refine B8 (E5 (A9 V (B0 (B8 ?_)))); refine I1 (fun j : Nat => rpS2 zs neg r j) (fun j => j ≤ r.length ∧ ∀ x ∈ r.take j, x ≠ 32) (fun j => r.length - j) 0 ⟨E8 _, fun x hx => by simp at hx⟩
  ⟨rfl, ⟨F5, F5, F5, F5, D5⟩, D5, ⟨rfl, D5⟩, rfl⟩ ?_
 rintro j ⟨hj, AZ⟩
 unfold rpS2
 have hjn : ((j : Nat) : Int).toNat = j := H0 j
 rcases D6 j r.length with h | h
 rotate_left
 · -- the last term
   have t1 : decide ((j : Int) < (r.length : Int)) = false := A7 (by omega)
   obtain rfl : j = r.length := by omega
   rw [I6] at AZ
   have QM := QY AZ
   have eB : Bi 32 r = false := by rw [Bi, QM]; rfl
   have eT : S7 32 r = r := by rw [S7, QM]
   have hT : r.take ((r.length : Int)).toNat = r := by rw [hjn, I6]
   have hD : r.drop ((r.length : Int)).toNat = [] := by rw [hjn, List.drop_length]
   have hle : (r.length : Int) ≤ r.length := Int.le_refl _
   have k2 := Sq r (by omega)
   have La := PY r
   have Rp : zs.length ≤ 65536 := by omega
   have Ib : r.length ≤ 65536 := by omega
   obtain ⟨n, hn⟩ : ∃ n : Int, n = (r.length : Int) := ⟨_, rfl⟩
   rw [← hn] at hT hD ⊢
   clear hle t1
   have AR : 0 ≤ n := by omega
   have t1 : decide (n < (r.length : Int)) = false := A7 (by omega)
   obtain ⟨⟨⟨c0, c1⟩, ok⟩, hc⟩ : ∃ q, q = SW r := ⟨_, rfl⟩
   rw [← hc] at k2 La
   clear hc AZ hj QM h
   have hle : n ≤ (r.length : Int) := by omega
   cases ok with
   | false =>
    rw [B5 (by simp)] at La
    have EJ : Am (neg, S7 32 r) = none := by rw [eT, Am, La]; rfl
    rw [CN, Hk EJ] at P3
    cases P3
    refine H2 V (B4 V (O2 V (F9 V (B4 V ?_)))); rw [t1]; refine L4 V V (L4 V V (L3 V V (yQ (F4 V (F8 (H9 V (B4 V (W0 AR hle hT V V (yC (k2) V V (O6 V (yX V V (yX V V (yZ (cs := [_, _]) V V (yS (cs' := [_, _]) V V V V V (A9 V (H2 V (yU V V V (yQ (G4 V (E5 (H5 V (A9 V (C4 (A6 (C3 (A6 (C3 (A6 ?_))))))))))))))))))))))))))))
    exact I9 _ (.tnil 2 V (.tmp V .nil)) V
   | true =>
   rw [B9 rfl] at La
   cases neg with
   | false =>
    have EJ : Am (false, S7 32 r) = some (c0, c1) := by rw [eT, Am, La]; rfl
    rw [QR eB EJ] at P3
    have LZ : (zs ++ [(c0, c1)]).length ≤ 65537 := by simp; omega
    have HA : ∀ c ∈ zs ++ [(c0, c1)], Fo c.2 = true ∧ c.2.length ≤ 70000 := fun c hc => by
     rcases List.mem_append.1 hc with h1 | h1
     · exact KD c h1
     · rw [List.mem_singleton.1 h1]
       have h5 := Eh EJ
       rw [eT] at h5
       exact ⟨HV EJ, by have := h5.2; simp only at this ⊢; omega⟩
    unfold ER at P3
    rw [B9 (by rfl), List.filterMap_nil, List.append_nil] at P3
    by_cases NY : 16 < (zs ++ [(c0, c1)]).length
    · have t5 : decide ((((zs ++ [(c0, c1)]).map dCf).length : Int) > 16) = true := B1 (by rw [A8]; omega)
      rw [B9 NY] at P3
      cases P3
      refine H2 V (B4 V (O2 V (F9 V (B4 V ?_)))); rw [t1]; refine L4 V V (L4 V V (L3 V V (yQ (F4 V (F8 (H9 V (B4 V (W0 AR hle hT V V (yC (k2) V V (O6 V (yX V V (yX V V (yZ (cs := [_, _]) V V (yS (cs' := [_, _]) V V V V V (A9 V (H2 V (yU V V V (yQ (F4 V (B2 (H2 V (yQ (F4 V (B2 (E5 (Bk V (Ab (ys := [_, _]) V V V V ?_))))))))))))))))))))))))))); refine yR (es := [[_, _]]) V V V V V ?_; refine yT (es' := (zs ++ [(c0, c1)]).map dCf) (m := ((zs ++ [(c0, c1)]).map dCf).length) (by simp; omega) (by simp; omega) V V V V V (by simp) (by simp) ?_; refine Cj V (yQ (H9 V (B4 V (U9 AR hle hD V V (A9 V (H2 V (N7 V V (yQ (G4 V (F8 (B0 (E5 (Bk V (yN V (I3 V (B3 ?_)))))))))))))))); rw [t5]
      refine G4 V (E5 (H5 V (A9 V (C4 (A6 ?_)))))
      exact I9 _ (.tnil 2 V (.tmp V .nil)) V
    · have t5 : decide ((((zs ++ [(c0, c1)]).map dCf).length : Int) > 16) = false := A7 (by rw [A8]; omega)
      have k4 := Jg (zs ++ [(c0, c1)]) (by omega) (fun c hc => (HA c hc).2)
      rw [Ti (fun c hc => (HA c hc).1)] at k4
      rw [B5 NY] at P3
      obtain ⟨hE1, hR1⟩ := FX P3
      subst hE1
      rw [hR1] at k4
      refine H2 V (B4 V (O2 V (F9 V (B4 V ?_)))); rw [t1]; refine L4 V V (L4 V V (L3 V V (yQ (F4 V (F8 (H9 V (B4 V (W0 AR hle hT V V (yC (k2) V V (O6 V (yX V V (yX V V (yZ (cs := [_, _]) V V (yS (cs' := [_, _]) V V V V V (A9 V (H2 V (yU V V V (yQ (F4 V (B2 (H2 V (yQ (F4 V (B2 (E5 (Bk V (Ab (ys := [_, _]) V V V V ?_))))))))))))))))))))))))))); refine yR (es := [[_, _]]) V V V V V ?_; refine yT (es' := (zs ++ [(c0, c1)]).map dCf) (m := ((zs ++ [(c0, c1)]).map dCf).length) (by simp; omega) (by simp; omega) V V V V V (by simp) (by simp) ?_; refine Cj V (yQ (H9 V (B4 V (U9 AR hle hD V V (A9 V (H2 V (N7 V V (yQ (G4 V (F8 (B0 (E5 (Bk V (yN V (I3 V (B3 ?_)))))))))))))))); rw [t5]
      refine F4 V (B2 (E5 (Bk V (yC (k4) V V (H5 V (A9 V (C4 ?_)))))))
      exact Az V V V
   | true =>
    have k3 := wRNeg c1 (by have := (HW La).2; simp only at this; omega)
    obtain ⟨q, hq⟩ := I0 (J7 (- val c1))
    rw [← hq] at k3
    have EJ : Am (true, S7 32 r) = some (c0, q) := by rw [eT, Am, La, hq]; rfl
    rw [QR eB EJ] at P3
    have LZ : (zs ++ [(c0, q)]).length ≤ 65537 := by simp; omega
    have HA : ∀ c ∈ zs ++ [(c0, q)], Fo c.2 = true ∧ c.2.length ≤ 70000 := fun c hc => by
     rcases List.mem_append.1 hc with h1 | h1
     · exact KD c h1
     · rw [List.mem_singleton.1 h1]
       have h5 := Eh EJ
       rw [eT] at h5
       exact ⟨HV EJ, by have := h5.2; simp only at this ⊢; omega⟩
    unfold ER at P3
    rw [B9 (by rfl), List.filterMap_nil, List.append_nil] at P3
    clear hq
    by_cases NY : 16 < (zs ++ [(c0, q)]).length
    · have t5 : decide ((((zs ++ [(c0, q)]).map dCf).length : Int) > 16) = true := B1 (by rw [A8]; omega)
      rw [B9 NY] at P3
      cases P3
      refine H2 V (B4 V (O2 V (F9 V (B4 V ?_)))); rw [t1]; refine L4 V V (L4 V V (L3 V V (yQ (F4 V (F8 (H9 V (B4 V (W0 AR hle hT V V (yC (k2) V V (O6 V (yX V V (yX V V (yZ (cs := [_, _]) V V (yS (cs' := [_, _]) V V V V V (A9 V (H2 V (yU V V V (yQ (F4 V (B2 (H2 V (yQ (G4 V (B6 (L1 V (yC (k3) V V (Bd V (Y9 (cs' := [_, _]) V V V V (yQ (E5 (Bk V (Ab (ys := [_, _]) V V V V ?_)))))))))))))))))))))))))))))))); refine yR (es := [[_, _]]) V V V V V ?_; refine yT (es' := (zs ++ [(c0, q)]).map dCf) (m := ((zs ++ [(c0, q)]).map dCf).length) (by simp; omega) (by simp; omega) V V V V V (by simp) (by simp) ?_; refine Cj V (yQ (H9 V (B4 V (U9 AR hle hD V V (A9 V (H2 V (N7 V V (yQ (G4 V (F8 (B0 (E5 (Bk V (yN V (I3 V (B3 ?_)))))))))))))))); rw [t5]
      refine G4 V (E5 (H5 V (A9 V (C4 (A6 ?_)))))
      exact I9 _ (.tnil 2 V (.tmp V .nil)) V
    · have t5 : decide ((((zs ++ [(c0, q)]).map dCf).length : Int) > 16) = false := A7 (by rw [A8]; omega)
      have k4 := Jg (zs ++ [(c0, q)]) (by omega) (fun c hc => (HA c hc).2)
      rw [Ti (fun c hc => (HA c hc).1)] at k4
      rw [B5 NY] at P3
      obtain ⟨hE1, hR1⟩ := FX P3
      subst hE1
      rw [hR1] at k4
      refine H2 V (B4 V (O2 V (F9 V (B4 V ?_)))); rw [t1]; refine L4 V V (L4 V V (L3 V V (yQ (F4 V (F8 (H9 V (B4 V (W0 AR hle hT V V (yC (k2) V V (O6 V (yX V V (yX V V (yZ (cs := [_, _]) V V (yS (cs' := [_, _]) V V V V V (A9 V (H2 V (yU V V V (yQ (F4 V (B2 (H2 V (yQ (G4 V (B6 (L1 V (yC (k3) V V (Bd V (Y9 (cs' := [_, _]) V V V V (yQ (E5 (Bk V (Ab (ys := [_, _]) V V V V ?_)))))))))))))))))))))))))))))))); refine yR (es := [[_, _]]) V V V V V ?_; refine yT (es' := (zs ++ [(c0, q)]).map dCf) (m := ((zs ++ [(c0, q)]).map dCf).length) (by simp; omega) (by simp; omega) V V V V V (by simp) (by simp) ?_; refine Cj V (yQ (H9 V (B4 V (U9 AR hle hD V V (A9 V (H2 V (N7 V V (yQ (G4 V (F8 (B0 (E5 (Bk V (yN V (I3 V (B3 ?_)))))))))))))))); rw [t5]
      refine F4 V (B2 (E5 (Bk V (yC (k4) V V (H5 V (A9 V (C4 ?_)))))))
      exact Az V V V
 have t1 : decide ((j : Int) < (r.length : Int)) = true := B1 (by omega)
 obtain ⟨x, hx⟩ := DL h
 have LE : r[((j : Nat) : Int).toNat]? = some x := by rw [hjn]; exact hx
 have hwj := J0 ((j : Int) + 1) (by omega)
 by_cases h32 : x = 32
 rotate_left
 · have t2 : (!((x.toNat : Int) == 32)) = true := by
    have : ((x.toNat : Int) == 32) = false := G2 fun h => h32 (UInt8.toNat_inj.1 (by have : (32 : UInt8).toNat = 32 := rfl; omega))
    rw [this]; rfl
   have t2' : ((x.toNat : Int) != 32) = true := t2
   have Eb := PQ AZ hx h32
   refine H2 V (B4 V (O2 V (F9 V (B4 V ?_)))); rw [t1]; refine B4 V (B4 V (U1 LE (by omega) V V (F9 V (L2 V V (yQ (B3 ?_)))))); rw [t2']; refine G4 V (B2 (B8 (B6 (B4 V (F9 V (A9 V (BT (B3 ?_))))))))
   exact ⟨j + 1, ⟨by omega, Eb⟩, by omega, rfl, ⟨F5, F5, F5, Q7 hwj, D5⟩, D5, ⟨rfl, D5⟩, rfl⟩
 subst h32
 have t2 : (!(((32 : UInt8).toNat : Int) == 32)) = false := rfl
 have t2' : (((32 : UInt8).toNat : Int) != 32) = false := rfl
 have QM := QZ AZ hx
 have eB : Bi 32 r = true := by rw [Bi, QM]; rfl
 obtain ⟨T, eT⟩ := I0 (S7 32 r)
 obtain ⟨S, eR⟩ := I0 (Q6 32 r)
 have eT2 : T = r.take j := by rw [eT, S7, QM]
 have eR2 : S = r.drop (j + 1) := by rw [eR, Q6, QM]
 have hT : r.take ((j : Int)).toNat = T := by rw [hjn, eT2]
 have hD : r.drop ((j : Int)).toNat = 32 :: S := by
  obtain ⟨q1, q2⟩ := A5.1 hx
  rw [hjn, eR2, I2 q1, q2]
 have hTl : T.length ≤ 65536 := by rw [eT2, E4]; omega
 have hSl : S.length + 1 ≤ r.length := by rw [eR2, M7]; omega
 have k2 := Sq T (by omega)
 have La := PY T
 have hle : (j : Int) ≤ r.length := by omega
 obtain ⟨⟨⟨c0, c1⟩, ok⟩, hc⟩ : ∃ q, q = SW T := ⟨_, rfl⟩
 rw [← hc] at k2 La
 obtain ⟨n, hn⟩ : ∃ n : Int, n = (j : Int) := ⟨_, rfl⟩
 rw [← hn] at t1 LE hT hD hle ⊢
 have AR : 0 ≤ n := by omega
 clear hc AZ QM eT2 eR2 hx hj hjn hwj hn
 cases ok with
 | false =>
  rw [B5 (by simp)] at La
  have EJ : Am (neg, S7 32 r) = none := by rw [← eT, Am, La]; rfl
  rw [CN, Hk EJ] at P3
  cases P3
  refine H2 V (B4 V (O2 V (F9 V (B4 V ?_)))); rw [t1]; refine B4 V (B4 V (U1 LE AR V V (F9 V (L2 V V (yQ (F4 V (F8 (H9 V (B4 V (W0 AR hle hT V V (yC (k2) V V (O6 V (yX V V (yX V V (yZ (cs := [_, _]) V V (yS (cs' := [_, _]) V V V V V (A9 V (H2 V (yU V V V (yQ (G4 V (E5 (H5 V (A9 V (C4 (A6 (C3 (A6 (C3 (A6 ?_)))))))))))))))))))))))))))))); rw [t2']
  exact I9 _ (.tnil 2 V (.tmp V .nil)) V
 | true =>
 rw [B9 rfl] at La
 have u0 : ((32 :: S : F6) == []) = false := rfl
 cases neg with
 | false =>
  have EJ : Am (false, S7 32 r) = some (c0, c1) := by rw [← eT, Am, La]; rfl
  have HA : ∀ c ∈ zs ++ [(c0, c1)], Fo c.2 = true ∧ c.2.length ≤ 70000 := fun c hc => by
   rcases List.mem_append.1 hc with h1 | h1
   · exact KD c h1
   · rw [List.mem_singleton.1 h1]
     have h5 := Eh EJ
     rw [← eT] at h5
     exact ⟨HV EJ, by have := h5.2; simp only at this ⊢; omega⟩
  cases hS : S with
  | nil =>
   subst hS
   rw [DW eB (fun a X h => by rw [← eR] at h; cases h) EJ] at P3
   cases P3
   have u1 : decide (((([32] : F6).length : Nat) : Int) < 3) = true := rfl
   refine H2 V (B4 V (O2 V (F9 V (B4 V ?_)))); rw [t1]; refine B4 V (B4 V (U1 LE AR V V (F9 V (L2 V V (yQ (F4 V (F8 (H9 V (B4 V (W0 AR hle hT V V (yC (k2) V V (O6 V (yX V V (yX V V (yZ (cs := [_, _]) V V (yS (cs' := [_, _]) V V V V V (A9 V (H2 V (yU V V V (yQ (F4 V (B2 (H2 V (yQ (F4 V (B2 (E5 (Bk V (Ab (ys := [_, _]) V V V V ?_))))))))))))))))))))))))))))); refine yR (es := [[_, _]]) V V V V V ?_; refine yT (es' := (zs ++ [(c0, c1)]).map dCf) (m := ((zs ++ [(c0, c1)]).map dCf).length) (by simp; omega) (by simp; omega) V V V V V (by simp) (by simp) ?_; refine Cj V (yQ (H9 V (B4 V (U9 AR hle hD V V (A9 V (H2 V (N7 V V (yQ (F4 V (B2 (H2 V (O2 V (F9 V (B4 V (L4 V V (L4 V V (L4 V V (L4 V V (L2 V V (yQ (G4 V (E5 (H5 V (A9 V (C4 (A6 (C3 (A6 (C3 (A6 ?_)))))))))))))))))))))))))))))); rw [t2']; rw [u0]; rw [u1]
   exact I9 _ (.tnil 2 V (.tmp V .nil)) V
  | cons a S1 =>
  cases hS1 : S1 with
  | nil =>
   subst hS1
   subst hS
   rw [DW eB (fun a X h => by rw [← eR] at h; cases h) EJ] at P3
   cases P3
   have u1 : decide (((([32, a] : F6).length : Nat) : Int) < 3) = true := rfl
   refine H2 V (B4 V (O2 V (F9 V (B4 V ?_)))); rw [t1]; refine B4 V (B4 V (U1 LE AR V V (F9 V (L2 V V (yQ (F4 V (F8 (H9 V (B4 V (W0 AR hle hT V V (yC (k2) V V (O6 V (yX V V (yX V V (yZ (cs := [_, _]) V V (yS (cs' := [_, _]) V V V V V (A9 V (H2 V (yU V V V (yQ (F4 V (B2 (H2 V (yQ (F4 V (B2 (E5 (Bk V (Ab (ys := [_, _]) V V V V ?_))))))))))))))))))))))))))))); refine yR (es := [[_, _]]) V V V V V ?_; refine yT (es' := (zs ++ [(c0, c1)]).map dCf) (m := ((zs ++ [(c0, c1)]).map dCf).length) (by simp; omega) (by simp; omega) V V V V V (by simp) (by simp) ?_; refine Cj V (yQ (H9 V (B4 V (U9 AR hle hD V V (A9 V (H2 V (N7 V V (yQ (F4 V (B2 (H2 V (O2 V (F9 V (B4 V (L4 V V (L4 V V (L4 V V (L4 V V (L2 V V (yQ (G4 V (E5 (H5 V (A9 V (C4 (A6 (C3 (A6 (C3 (A6 ?_)))))))))))))))))))))))))))))); rw [t2']; rw [u0]; rw [u1]
   exact I9 _ (.tnil 2 V (.tmp V .nil)) V
  | cons b X =>
  subst hS1
  subst hS
  have u1 : decide ((((32 :: a :: b :: X : F6).length : Nat) : Int) < 3) = false := A7 (by simp only [List.length_cons]; omega)
  have h3 : (32 :: a :: b :: X : F6).take ((3 : Int)).toNat = [32, a, b] := rfl
  have VZ : (32 :: a :: b :: X : F6).drop ((3 : Int)).toNat = X := rfl
  have JU : (3 : Int) ≤ ((32 :: a :: b :: X : F6).length : Int) := by simp only [List.length_cons]; omega
  have Va : (32 :: a :: b :: X : F6)[((1 : Int)).toNat]? = some a := rfl
  have hXl : X.length + 3 ≤ r.length := by simp only [List.length_cons] at hSl; omega
  by_cases hg : b = 32 ∧ (a = 43 ∨ a = 45)
  · obtain ⟨rfl, hg⟩ := hg
    rw [Mu eB eR.symm hg EJ] at P3
    have Rp : (zs ++ [(c0, c1)]).length + X.length ≤ 65536 := by rw [D3]; simp only [List.length_cons, List.length_nil]; omega
    clear eR
    rcases hg with rfl | rfl
    · obtain ⟨Y, hY⟩ := I0 ((32 :: 43 :: 32 :: X : F6))
      rw [← hY] at u0 u1 h3 VZ JU Va hD
      clear hY
      refine H2 V (B4 V (O2 V (F9 V (B4 V ?_)))); rw [t1]; refine B4 V (B4 V (U1 LE AR V V (F9 V (L2 V V (yQ (F4 V (F8 (H9 V (B4 V (W0 AR hle hT V V (yC (k2) V V (O6 V (yX V V (yX V V (yZ (cs := [_, _]) V V (yS (cs' := [_, _]) V V V V V (A9 V (H2 V (yU V V V (yQ (F4 V (B2 (H2 V (yQ (F4 V (B2 (E5 (Bk V (Ab (ys := [_, _]) V V V V ?_))))))))))))))))))))))))))))); refine yR (es := [[_, _]]) V V V V V ?_; refine yT (es' := (zs ++ [(c0, c1)]).map dCf) (m := ((zs ++ [(c0, c1)]).map dCf).length) (by simp; omega) (by simp; omega) V V V V V (by simp) (by simp) ?_; refine Cj V (yQ (H9 V (B4 V (U9 AR hle hD V V (A9 V (H2 V (N7 V V (yQ (B3 ?_))))))))); rw [t2']; rw [u0]; refine F4 V (B2 (H2 V (O2 V (F9 V (B4 V ?_))))); rw [u1]; refine B4 V (W0 (by omega) JU h3 V V (N5 V V (B4 V (L4 V V (yO V (L3 V V (L3 V V (yQ (F4 V (B2 ?_)))))))))); refine J2 Tryz.mixed (by kernel_rfl) ?_; refine B4 V (U9 (by omega) JU VZ V V (B4 V (U1 Va (by omega) V V (F9 V (H5 V (A9 V (BT (B3 ?_))))))))
      exact ⟨(zs ++ [(c0, c1)], false, X), ⟨Rp, HA, P3⟩, by simp only; omega, rfl, ⟨F5, F5, F5, D5⟩, D5, ⟨rfl, D5⟩, rfl⟩
    · obtain ⟨Y, hY⟩ := I0 ((32 :: 45 :: 32 :: X : F6))
      rw [← hY] at u0 u1 h3 VZ JU Va hD
      clear hY
      refine H2 V (B4 V (O2 V (F9 V (B4 V ?_)))); rw [t1]; refine B4 V (B4 V (U1 LE AR V V (F9 V (L2 V V (yQ (F4 V (F8 (H9 V (B4 V (W0 AR hle hT V V (yC (k2) V V (O6 V (yX V V (yX V V (yZ (cs := [_, _]) V V (yS (cs' := [_, _]) V V V V V (A9 V (H2 V (yU V V V (yQ (F4 V (B2 (H2 V (yQ (F4 V (B2 (E5 (Bk V (Ab (ys := [_, _]) V V V V ?_))))))))))))))))))))))))))))); refine yR (es := [[_, _]]) V V V V V ?_; refine yT (es' := (zs ++ [(c0, c1)]).map dCf) (m := ((zs ++ [(c0, c1)]).map dCf).length) (by simp; omega) (by simp; omega) V V V V V (by simp) (by simp) ?_; refine Cj V (yQ (H9 V (B4 V (U9 AR hle hD V V (A9 V (H2 V (N7 V V (yQ (B3 ?_))))))))); rw [t2']; rw [u0]; refine F4 V (B2 (H2 V (O2 V (F9 V (B4 V ?_))))); rw [u1]; refine B4 V (W0 (by omega) JU h3 V V (N5 V V (B4 V (B4 V (W0 (by omega) JU h3 V V (N5 V V (L2 V V (L3 V V (yQ (F4 V (B2 ?_))))))))))); refine J2 Tryz.mixed (by kernel_rfl) ?_; refine B4 V (U9 (by omega) JU VZ V V (B4 V (U1 Va (by omega) V V (F9 V (H5 V (A9 V (BT (B3 ?_))))))))
      exact ⟨(zs ++ [(c0, c1)], true, X), ⟨Rp, HA, P3⟩, by simp only; omega, rfl, ⟨F5, F5, F5, D5⟩, D5, ⟨rfl, D5⟩, rfl⟩
  · rw [DW eB (fun a' X' h h2 => by rw [← eR] at h; cases h; exact hg ⟨rfl, h2⟩) EJ] at P3
    cases P3
    have v1 : (!(([32, a, b] : F6) == [32, 43, 32])) = true := by
     rw [Bool.not_eq_true', beq_eq_false_iff_ne]
     intro e
     cases e
     exact hg ⟨rfl, .inl V⟩
    have v2 : (!(([32, a, b] : F6) == [32, 45, 32])) = true := by
     rw [Bool.not_eq_true', beq_eq_false_iff_ne]
     intro e
     cases e
     exact hg ⟨rfl, .inr V⟩
    obtain ⟨Y, hY⟩ := I0 ((32 :: a :: b :: X : F6))
    rw [← hY] at u0 u1 h3 VZ JU Va hD
    clear hY
    refine H2 V (B4 V (O2 V (F9 V (B4 V ?_)))); rw [t1]; refine B4 V (B4 V (U1 LE AR V V (F9 V (L2 V V (yQ (F4 V (F8 (H9 V (B4 V (W0 AR hle hT V V (yC (k2) V V (O6 V (yX V V (yX V V (yZ (cs := [_, _]) V V (yS (cs' := [_, _]) V V V V V (A9 V (H2 V (yU V V V (yQ (F4 V (B2 (H2 V (yQ (F4 V (B2 (E5 (Bk V (Ab (ys := [_, _]) V V V V ?_))))))))))))))))))))))))))))); refine yR (es := [[_, _]]) V V V V V ?_; refine yT (es' := (zs ++ [(c0, c1)]).map dCf) (m := ((zs ++ [(c0, c1)]).map dCf).length) (by simp; omega) (by simp; omega) V V V V V (by simp) (by simp) ?_; refine Cj V (yQ (H9 V (B4 V (U9 AR hle hD V V (A9 V (H2 V (N7 V V (yQ (B3 ?_))))))))); rw [t2']; rw [u0]; refine F4 V (B2 (H2 V (O2 V (F9 V (B4 V ?_))))); rw [u1]; refine B4 V (W0 (by omega) JU h3 V V (N5 V V (B4 V ?_))); rw [v1]; refine B4 V (W0 (by omega) JU h3 V V (N5 V V (L2 V V (L3 V V (yQ (B3 (L8 v2 V (E5 (H5 V (A9 V (C4 (A6 (C3 (A6 (C3 (A6 ?_))))))))))))))))
    exact I9 _ (.tnil 2 V (.tmp V .nil)) V
 | true =>
  have k3 := wRNeg c1 (by have := (HW La).2; simp only at this; omega)
  obtain ⟨q, hq⟩ := I0 (J7 (- val c1))
  rw [← hq] at k3
  have EJ : Am (true, S7 32 r) = some (c0, q) := by rw [← eT, Am, La, hq]; rfl
  have HA : ∀ c ∈ zs ++ [(c0, q)], Fo c.2 = true ∧ c.2.length ≤ 70000 := fun c hc => by
   rcases List.mem_append.1 hc with h1 | h1
   · exact KD c h1
   · rw [List.mem_singleton.1 h1]
     have h5 := Eh EJ
     rw [← eT] at h5
     exact ⟨HV EJ, by have := h5.2; simp only at this ⊢; omega⟩
  clear hq
  cases hS : S with
  | nil =>
   subst hS
   rw [DW eB (fun a X h => by rw [← eR] at h; cases h) EJ] at P3
   cases P3
   have u1 : decide (((([32] : F6).length : Nat) : Int) < 3) = true := rfl
   refine H2 V (B4 V (O2 V (F9 V (B4 V ?_)))); rw [t1]; refine B4 V (B4 V (U1 LE AR V V (F9 V (L2 V V (yQ (F4 V (F8 (H9 V (B4 V (W0 AR hle hT V V (yC (k2) V V (O6 V (yX V V (yX V V (yZ (cs := [_, _]) V V (yS (cs' := [_, _]) V V V V V (A9 V (H2 V (yU V V V (yQ (F4 V (B2 (H2 V (yQ (G4 V (B6 (L1 V (yC (k3) V V (Bd V (Y9 (cs' := [_, _]) V V V V (yQ (E5 (Bk V (Ab (ys := [_, _]) V V V V ?_)))))))))))))))))))))))))))))))))); refine yR (es := [[_, _]]) V V V V V ?_; refine yT (es' := (zs ++ [(c0, q)]).map dCf) (m := ((zs ++ [(c0, q)]).map dCf).length) (by simp; omega) (by simp; omega) V V V V V (by simp) (by simp) ?_; refine Cj V (yQ (H9 V (B4 V (U9 AR hle hD V V (A9 V (H2 V (N7 V V (yQ (F4 V (B2 (H2 V (O2 V (F9 V (B4 V (L4 V V (L4 V V (L4 V V (L4 V V (L2 V V (yQ (G4 V (E5 (H5 V (A9 V (C4 (A6 (C3 (A6 (C3 (A6 ?_)))))))))))))))))))))))))))))); rw [t2']; rw [u0]; rw [u1]
   exact I9 _ (.tnil 2 V (.tmp V .nil)) V
  | cons a S1 =>
  cases hS1 : S1 with
  | nil =>
   subst hS1
   subst hS
   rw [DW eB (fun a X h => by rw [← eR] at h; cases h) EJ] at P3
   cases P3
   have u1 : decide (((([32, a] : F6).length : Nat) : Int) < 3) = true := rfl
   refine H2 V (B4 V (O2 V (F9 V (B4 V ?_)))); rw [t1]; refine B4 V (B4 V (U1 LE AR V V (F9 V (L2 V V (yQ (F4 V (F8 (H9 V (B4 V (W0 AR hle hT V V (yC (k2) V V (O6 V (yX V V (yX V V (yZ (cs := [_, _]) V V (yS (cs' := [_, _]) V V V V V (A9 V (H2 V (yU V V V (yQ (F4 V (B2 (H2 V (yQ (G4 V (B6 (L1 V (yC (k3) V V (Bd V (Y9 (cs' := [_, _]) V V V V (yQ (E5 (Bk V (Ab (ys := [_, _]) V V V V ?_)))))))))))))))))))))))))))))))))); refine yR (es := [[_, _]]) V V V V V ?_; refine yT (es' := (zs ++ [(c0, q)]).map dCf) (m := ((zs ++ [(c0, q)]).map dCf).length) (by simp; omega) (by simp; omega) V V V V V (by simp) (by simp) ?_; refine Cj V (yQ (H9 V (B4 V (U9 AR hle hD V V (A9 V (H2 V (N7 V V (yQ (F4 V (B2 (H2 V (O2 V (F9 V (B4 V (L4 V V (L4 V V (L4 V V (L4 V V (L2 V V (yQ (G4 V (E5 (H5 V (A9 V (C4 (A6 (C3 (A6 (C3 (A6 ?_)))))))))))))))))))))))))))))); rw [t2']; rw [u0]; rw [u1]
   exact I9 _ (.tnil 2 V (.tmp V .nil)) V
  | cons b X =>
  subst hS1
  subst hS
  have u1 : decide ((((32 :: a :: b :: X : F6).length : Nat) : Int) < 3) = false := A7 (by simp only [List.length_cons]; omega)
  have h3 : (32 :: a :: b :: X : F6).take ((3 : Int)).toNat = [32, a, b] := rfl
  have VZ : (32 :: a :: b :: X : F6).drop ((3 : Int)).toNat = X := rfl
  have JU : (3 : Int) ≤ ((32 :: a :: b :: X : F6).length : Int) := by simp only [List.length_cons]; omega
  have Va : (32 :: a :: b :: X : F6)[((1 : Int)).toNat]? = some a := rfl
  have hXl : X.length + 3 ≤ r.length := by simp only [List.length_cons] at hSl; omega
  by_cases hg : b = 32 ∧ (a = 43 ∨ a = 45)
  · obtain ⟨rfl, hg⟩ := hg
    rw [Mu eB eR.symm hg EJ] at P3
    have Rp : (zs ++ [(c0, q)]).length + X.length ≤ 65536 := by rw [D3]; simp only [List.length_cons, List.length_nil]; omega
    clear eR
    rcases hg with rfl | rfl
    · obtain ⟨Y, hY⟩ := I0 ((32 :: 43 :: 32 :: X : F6))
      rw [← hY] at u0 u1 h3 VZ JU Va hD
      clear hY
      refine H2 V (B4 V (O2 V (F9 V (B4 V ?_)))); rw [t1]; refine B4 V (B4 V (U1 LE AR V V (F9 V (L2 V V (yQ (F4 V (F8 (H9 V (B4 V (W0 AR hle hT V V (yC (k2) V V (O6 V (yX V V (yX V V (yZ (cs := [_, _]) V V (yS (cs' := [_, _]) V V V V V (A9 V (H2 V (yU V V V (yQ (F4 V (B2 (H2 V (yQ (G4 V (B6 (L1 V (yC (k3) V V (Bd V (Y9 (cs' := [_, _]) V V V V (yQ (E5 (Bk V (Ab (ys := [_, _]) V V V V ?_)))))))))))))))))))))))))))))))))); refine yR (es := [[_, _]]) V V V V V ?_; refine yT (es' := (zs ++ [(c0, q)]).map dCf) (m := ((zs ++ [(c0, q)]).map dCf).length) (by simp; omega) (by simp; omega) V V V V V (by simp) (by simp) ?_; refine Cj V (yQ (H9 V (B4 V (U9 AR hle hD V V (A9 V (H2 V (N7 V V (yQ (B3 ?_))))))))); rw [t2']; rw [u0]; refine F4 V (B2 (H2 V (O2 V (F9 V (B4 V ?_))))); rw [u1]; refine B4 V (W0 (by omega) JU h3 V V (N5 V V (B4 V (L4 V V (yO V (L3 V V (L3 V V (yQ (F4 V (B2 ?_)))))))))); refine J2 Tryz.mixed (by kernel_rfl) ?_; refine B4 V (U9 (by omega) JU VZ V V (B4 V (U1 Va (by omega) V V (F9 V (H5 V (A9 V (BT (B3 ?_))))))))
      exact ⟨(zs ++ [(c0, q)], false, X), ⟨Rp, HA, P3⟩, by simp only; omega, rfl, ⟨F5, F5, F5, D5⟩, D5, ⟨rfl, D5⟩, rfl⟩
    · obtain ⟨Y, hY⟩ := I0 ((32 :: 45 :: 32 :: X : F6))
      rw [← hY] at u0 u1 h3 VZ JU Va hD
      clear hY
      refine H2 V (B4 V (O2 V (F9 V (B4 V ?_)))); rw [t1]; refine B4 V (B4 V (U1 LE AR V V (F9 V (L2 V V (yQ (F4 V (F8 (H9 V (B4 V (W0 AR hle hT V V (yC (k2) V V (O6 V (yX V V (yX V V (yZ (cs := [_, _]) V V (yS (cs' := [_, _]) V V V V V (A9 V (H2 V (yU V V V (yQ (F4 V (B2 (H2 V (yQ (G4 V (B6 (L1 V (yC (k3) V V (Bd V (Y9 (cs' := [_, _]) V V V V (yQ (E5 (Bk V (Ab (ys := [_, _]) V V V V ?_)))))))))))))))))))))))))))))))))); refine yR (es := [[_, _]]) V V V V V ?_; refine yT (es' := (zs ++ [(c0, q)]).map dCf) (m := ((zs ++ [(c0, q)]).map dCf).length) (by simp; omega) (by simp; omega) V V V V V (by simp) (by simp) ?_; refine Cj V (yQ (H9 V (B4 V (U9 AR hle hD V V (A9 V (H2 V (N7 V V (yQ (B3 ?_))))))))); rw [t2']; rw [u0]; refine F4 V (B2 (H2 V (O2 V (F9 V (B4 V ?_))))); rw [u1]; refine B4 V (W0 (by omega) JU h3 V V (N5 V V (B4 V (B4 V (W0 (by omega) JU h3 V V (N5 V V (L2 V V (L3 V V (yQ (F4 V (B2 ?_))))))))))); refine J2 Tryz.mixed (by kernel_rfl) ?_; refine B4 V (U9 (by omega) JU VZ V V (B4 V (U1 Va (by omega) V V (F9 V (H5 V (A9 V (BT (B3 ?_))))))))
      exact ⟨(zs ++ [(c0, q)], true, X), ⟨Rp, HA, P3⟩, by simp only; omega, rfl, ⟨F5, F5, F5, D5⟩, D5, ⟨rfl, D5⟩, rfl⟩
  · rw [DW eB (fun a' X' h h2 => by rw [← eR] at h; cases h; exact hg ⟨rfl, h2⟩) EJ] at P3
    cases P3
    have v1 : (!(([32, a, b] : F6) == [32, 43, 32])) = true := by
     rw [Bool.not_eq_true', beq_eq_false_iff_ne]
     intro e
     cases e
     exact hg ⟨rfl, .inl V⟩
    have v2 : (!(([32, a, b] : F6) == [32, 45, 32])) = true := by
     rw [Bool.not_eq_true', beq_eq_false_iff_ne]
     intro e
     cases e
     exact hg ⟨rfl, .inr V⟩
    obtain ⟨Y, hY⟩ := I0 ((32 :: a :: b :: X : F6))
    rw [← hY] at u0 u1 h3 VZ JU Va hD
    clear hY
    refine H2 V (B4 V (O2 V (F9 V (B4 V ?_)))); rw [t1]; refine B4 V (B4 V (U1 LE AR V V (F9 V (L2 V V (yQ (F4 V (F8 (H9 V (B4 V (W0 AR hle hT V V (yC (k2) V V (O6 V (yX V V (yX V V (yZ (cs := [_, _]) V V (yS (cs' := [_, _]) V V V V V (A9 V (H2 V (yU V V V (yQ (F4 V (B2 (H2 V (yQ (G4 V (B6 (L1 V (yC (k3) V V (Bd V (Y9 (cs' := [_, _]) V V V V (yQ (E5 (Bk V (Ab (ys := [_, _]) V V V V ?_)))))))))))))))))))))))))))))))))); refine yR (es := [[_, _]]) V V V V V ?_; refine yT (es' := (zs ++ [(c0, q)]).map dCf) (m := ((zs ++ [(c0, q)]).map dCf).length) (by simp; omega) (by simp; omega) V V V V V (by simp) (by simp) ?_; refine Cj V (yQ (H9 V (B4 V (U9 AR hle hD V V (A9 V (H2 V (N7 V V (yQ (B3 ?_))))))))); rw [t2']; rw [u0]; refine F4 V (B2 (H2 V (O2 V (F9 V (B4 V ?_))))); rw [u1]; refine B4 V (W0 (by omega) JU h3 V V (N5 V V (B4 V ?_))); rw [v1]; refine B4 V (W0 (by omega) JU h3 V V (N5 V V (L2 V V (L3 V V (yQ (B3 (L8 v2 V (E5 (H5 V (A9 V (C4 (A6 (C3 (A6 (C3 (A6 ?_))))))))))))))))
    exact I9 _ (.tnil 2 V (.tmp V .nil)) V
def SA (c : Cf) : Bool := decide (30 < c.1.length) || decide (13 < c.2.length)
def Og (l : Ln) : Bool := decide (60 < l.1.length) || (decide (6 < l.2.2.length) && decide (l.2.2.length ≤ 16)) || decide (18 < l.2.2.length) || l.2.2.any SA
def Of (r : Ru) : Bool := (decide (6 < r.2.length) && decide (r.2.length ≤ 64)) || decide (66 < r.2.length) || r.2.any Og
def Im (l : List Ru) : Bool := (decide (20 < l.length) && decide (l.length ≤ 64)) || decide (66 < l.length) || l.any Of
theorem JA {p : α → Bool} {l : List α} {x : α} (h : l[i]? = some x) : (l.drop i).any p = (p x || (l.drop (i + 1)).any p) := by
 obtain ⟨h1, h2⟩ := A5.1 h
 rw [I2 h1, h2, List.any_cons]
theorem wLongF (a : F6) : PCalls Tryz.prog 106 [dS a] (.d (dB (decide (13 < a.length)))) := by
 have e : decide (13 < a.length) = decide ((a.length : Int) > 13) := decide_eq_decide.2 (by omega)
 rw [e]
 refine M0 Tryz.func106 V Tryz.ntmps106 Tryz.results106 fun B w0 => ?_
 refine E5 (A9 V (H9 V (O2 V (F9 V (A9 V (C4 ?_))))))
 exact M8 V V
theorem wGreatR (l : List Ru) : PCalls Tryz.prog 55 [Q5 l] (.d (dB (Im l))) := by
 have d1 : Im l = ((decide (20 < l.length) && decide (l.length ≤ 64)) || decide (66 < l.length) || l.any Of) := rfl
 obtain ⟨G, hG⟩ := I0 (Im l)
 rw [← hG] at d1 ⊢
 clear hG
 by_cases Mk : (20 < l.length ∧ l.length ≤ 64) ∨ 66 < l.length
 · have t1 : decide (((l.map AE).length : Int) > 20) = true := B1 (by rw [A8]; omega)
   have hg : G = true := by
    rw [d1]
    rcases Mk with h | h
    · rw [B1 h.1, B1 h.2]; simp
    · rw [B1 h]; simp
   subst hg
   by_cases h2 : l.length ≤ 64
   · have t2 : decide (((l.map AE).length : Int) ≤ 64) = true := B1 (by rw [A8]; omega)
     refine M0 Tryz.func55 V Tryz.ntmps55 Tryz.results55 fun B w0 => ?_
     refine E5 (A9 V (H2 V (yN V (F9 V (B4 V ?_))))); rw [t1]
     refine B4 V (yN V (F9 V (L2 V V (B4 V ?_)))); rw [t2]; refine L4 V V (yO V (L2 V V (yQ (G4 V (E5 (A9 V (C4 (A6 ?_))))))))
     exact M8 V V
   · have t2 : decide (((l.map AE).length : Int) ≤ 64) = false := A7 (by rw [A8]; omega)
     have t3 : decide (((l.map AE).length : Int) > 66) = true := B1 (by rw [A8]; omega)
     refine M0 Tryz.func55 V Tryz.ntmps55 Tryz.results55 fun B w0 => ?_
     refine E5 (A9 V (H2 V (yN V (F9 V (B4 V ?_))))); rw [t1]
     refine B4 V (yN V (F9 V (L2 V V (B4 V ?_)))); rw [t2]; refine B4 V (yN V (F9 V (L3 V V (yQ (B3 (L8 t3 V (E5 (A9 V (C4 (A6 ?_))))))))))
     exact M8 V V
 have hg : l.any Of = G := by
  rw [d1]
  by_cases h1 : 20 < l.length
  · rw [B1 h1, A7 (show ¬ l.length ≤ 64 by omega), A7 (show ¬ 66 < l.length by omega)]; simp
  · rw [A7 h1, A7 (show ¬ 66 < l.length by omega)]; simp
 clear d1
 refine M0 Tryz.func55 V Tryz.ntmps55 Tryz.results55 fun B w0 => ?_
 refine E5 (A9 V (H2 V (yN V (F9 V (B4 V ?_)))))
 first | refine HQ ⟨115, [(0, .d (Q5 l))], [], []⟩ ?_ ?_ | refine Ed ⟨115, [(0, .d (Q5 l))], [], []⟩ ?_ ?_
 rotate_left
 · have t3 : decide (((l.map AE).length : Int) > 66) = false := A7 (by rw [A8]; omega)
   by_cases h1 : 20 < l.length
   · have t1 : decide (((l.map AE).length : Int) > 20) = true := B1 (by rw [A8]; omega)
     have t2 : decide (((l.map AE).length : Int) ≤ 64) = false := A7 (by rw [A8]; omega)
     rw [t1]; refine B4 V ?_; refine yN V ?_; refine yB V V V V ?_; refine L2 V V ?_; refine B4 V ?_; rw [t2]; refine B4 V ?_; refine yN V ?_; refine yB V V V V ?_; refine L3 V V ?_; refine yQ ?_
     rw [t3]; refine F4 V ?_; refine B2 ?_; refine B3 ?_
     exact ⟨rfl, ⟨F5, D5⟩, D5, D5, V⟩
   · have t1 : decide (((l.map AE).length : Int) > 20) = false := A7 (by rw [A8]; omega)
     rw [t1]; refine yO V ?_; refine yO V ?_; refine yO V ?_; refine L3 V V ?_; refine B4 V ?_; refine B4 V ?_; refine yN V ?_; refine yB V V V V ?_; refine L3 V V ?_; refine yQ ?_; rw [t3]
     refine F4 V (B2 (B3 ?_))
     exact ⟨rfl, ⟨F5, D5⟩, D5, D5, V⟩
 have hl : l.length ≤ 66 := by omega
 clear Mk
 refine B0 (E5 (A9 V (B8 ?_))); refine I1 (fun i : Nat => ⟨115, [(0, .d (Q5 l)), (3, .d (dI i))], [], []⟩) (fun i => i ≤ l.length ∧ (l.drop i).any Of = G) (fun i => l.length - i) 0 ⟨E8 _, hg⟩
  ⟨rfl, ⟨F5, F5, D5⟩, D5, D5, rfl⟩ ?_
 rintro i ⟨hi, hI⟩
 clear hg
 rcases D6 i l.length with h | h
 rotate_left
 · have u1 : decide ((i : Int) < ((l.map AE).length : Int)) = false := A7 (by rw [A8]; omega)
   rw [J8 h] at hI
   subst hI
   refine H2 V (B4 V (yN V (I3 V (B3 (O1 u1 V (F8 (E5 (A9 V (C4 ?_)))))))))
   exact M8 V V
 have u1 : decide ((i : Int) < ((l.map AE).length : Int)) = true := B1 (by rw [A8]; omega)
 obtain ⟨⟨n, ls⟩, hr⟩ : ∃ a, l[i]? = some a := ⟨_, A4 h⟩
 have ex := ix AE l i i (n, ls) rfl hr
 have hw := J0 ((i : Int) + 1) (by omega)
 rw [JA hr] at hI
 have d2 : Of (n, ls) = ((decide (6 < ls.length) && decide (ls.length ≤ 64)) || decide (66 < ls.length) || ls.any Og) := rfl
 rw [d2] at hI
 clear d2
 have arith : l.length - (i + 1) < l.length - i := by omega
 obtain ⟨R, hR⟩ := I0 ((l.drop (i + 1)).any Of)
 rw [← hR] at hI
 by_cases Mk : (6 < ls.length ∧ ls.length ≤ 64) ∨ 66 < ls.length
 · have t1 : decide (((ls.map Aa).length : Int) > 6) = true := B1 (by rw [A8]; omega)
   have hg : G = true := by
    rw [← hI]
    rcases Mk with h | h
    · rw [B1 h.1, B1 h.2]; simp
    · rw [B1 h]; simp
   subst hg
   by_cases h2 : ls.length ≤ 64
   · have t2 : decide (((ls.map Aa).length : Int) ≤ 64) = true := B1 (by rw [A8]; omega)
     refine H2 V (B4 V (yN V (I3 V (B3 (L8 u1 V (B2 (B0 (B8 (H2 V (B4 V (L6 ex V (X8 V V (K8 V V (yN V (F9 V (B4 V ?_)))))))))))))))); rw [t1]; refine B4 V (B4 V (L6 ex V (X8 V V (K8 V V (yN V (F9 V (L2 V V (B4 V ?_)))))))); rw [t2]; refine L4 V V (L4 V V (L4 V V (yO V (L2 V V (yQ (G4 V (E5 (A9 V (C4 (A6 (C3 (A6 (A6 (C3 (A6 ?_)))))))))))))))
     exact M8 V V
   · have t2 : decide (((ls.map Aa).length : Int) ≤ 64) = false := A7 (by rw [A8]; omega)
     have t3 : decide (((ls.map Aa).length : Int) > 66) = true := B1 (by rw [A8]; omega)
     refine H2 V (B4 V (yN V (I3 V (B3 (L8 u1 V (B2 (B0 (B8 (H2 V (B4 V (L6 ex V (X8 V V (K8 V V (yN V (F9 V (B4 V ?_)))))))))))))))); rw [t1]; refine B4 V (B4 V (L6 ex V (X8 V V (K8 V V (yN V (F9 V (L2 V V (B4 V ?_)))))))); rw [t2]; refine B4 V (B4 V (L6 ex V (X8 V V (K8 V V (yN V (F9 V (L3 V V (yQ (B3 (L8 t3 V (E5 (A9 V (C4 (A6 (C3 (A6 (A6 (C3 (A6 ?_)))))))))))))))))))
     exact M8 V V
 have hg : (ls.any Og || R) = G := by
  rw [← hI]
  by_cases h1 : 6 < ls.length
  · rw [B1 h1, A7 (show ¬ ls.length ≤ 64 by omega), A7 (show ¬ 66 < ls.length by omega)]; simp
  · rw [A7 h1, A7 (show ¬ 66 < ls.length by omega)]; simp
 clear hI
 refine H2 V (B4 V (yN V (I3 V (B3 (L8 u1 V (B2 (B0 (B8 (H2 V (B4 V (L6 ex V (X8 V V (K8 V V (yN V (F9 V (B4 V ?_))))))))))))))))
 first | refine HQ ⟨115, [(0, .d (Q5 l)), (3, .d (dI i))], [], []⟩ ?_ ?_ | refine Ed ⟨115, [(0, .d (Q5 l)), (3, .d (dI i))], [], []⟩ ?_ ?_
 rotate_left
 · have t3 : decide (((ls.map Aa).length : Int) > 66) = false := A7 (by rw [A8]; omega)
   by_cases h1 : 6 < ls.length
   · have t1 : decide (((ls.map Aa).length : Int) > 6) = true := B1 (by rw [A8]; omega)
     have t2 : decide (((ls.map Aa).length : Int) ≤ 64) = false := A7 (by rw [A8]; omega)
     rw [t1]; refine B4 V ?_; refine B4 V ?_; refine yW ex (by omega) V V ?_; refine X8 V V ?_; refine K8 V V ?_; refine yN V ?_; refine yB V V V V ?_; refine L2 V V ?_; refine B4 V ?_; rw [t2]
     refine B4 V (B4 V (L6 ex V (X8 V V (K8 V V (yN V (F9 V (L3 V V (yQ ?_)))))))); rw [t3]
     refine F4 V (B2 (B3 ?_))
     exact ⟨rfl, ⟨F5, F5, D5⟩, D5, D5, V⟩
   · have t1 : decide (((ls.map Aa).length : Int) > 6) = false := A7 (by rw [A8]; omega)
     rw [t1]; refine yO V ?_; refine yO V ?_; refine yO V ?_; refine yO V ?_; refine yO V ?_; refine yO V ?_; refine yO V ?_; refine L3 V V ?_; refine B4 V ?_; refine B4 V ?_; refine B4 V ?_
     refine L6 ex V (X8 V V (K8 V V (yN V (F9 V (L3 V V (yQ (O1 t3 V (B2 (B3 ?_)))))))))
     exact ⟨rfl, ⟨F5, F5, D5⟩, D5, D5, V⟩
 have Lf : ls.length ≤ 66 := by omega
 clear Mk
 refine E5 (A9 V (B8 ?_)); refine I1 (fun k : Nat => ⟨115, [(0, .d (Q5 l)), (3, .d (dI i)), (4, .d (dI k))], [], []⟩) (fun k => k ≤ ls.length ∧ ((ls.drop k).any Og || R) = G) (fun k => ls.length - k) 0 ⟨E8 _, hg⟩
  ⟨rfl, ⟨F5, F5, F5, D5⟩, D5, D5, rfl⟩ ?_
 rintro k ⟨hk, hI⟩
 clear hg
 rcases D6 k ls.length with h2 | h2
 rotate_left
 · have u2 : decide ((k : Int) < ((ls.map Aa).length : Int)) = false := A7 (by rw [A8]; omega)
   rw [J8 h2] at hI
   have hI : R = G := hI
   rw [hR] at hI
   refine H2 V (B4 V (B4 V (L6 ex V (X8 V V (K8 V V (yN V (I3 V (B3 (O1 u2 V (F8 (B6 (B4 V (F9 V (A9 V (B3 ?_)))))))))))))))
   exact ⟨i + 1, ⟨h, hI⟩, arith, V, ⟨F5, Q7 hw, D5⟩, D5, D5, V⟩
 have u2 : decide ((k : Int) < ((ls.map Aa).length : Int)) = true := B1 (by rw [A8]; omega)
 obtain ⟨⟨a, s, x⟩, hx⟩ : ∃ a, ls[k]? = some a := ⟨_, A4 h2⟩
 have ek := ix Aa ls k k (a, s, x) rfl hx
 have HH := J0 ((k : Int) + 1) (by omega)
 rw [JA hx] at hI
 have d2 : Og (a, s, x) = (decide (60 < a.length) || (decide (6 < x.length) && decide (x.length ≤ 16)) || decide (18 < x.length) || x.any SA) := rfl
 rw [d2] at hI
 clear d2
 have BJ : ls.length - (k + 1) < ls.length - k := by omega
 obtain ⟨Q, hQ⟩ := I0 ((ls.drop (k + 1)).any Og)
 rw [← hQ] at hI
 by_cases ha : 60 < a.length
 · have t0 : decide ((a.length : Int) > 60) = true := B1 (by omega)
   have hg : G = true := by rw [← hI, B1 ha]; simp
   subst hg
   refine H2 V (B4 V (B4 V (L6 ex V (X8 V V (K8 V V (yN V (I3 V (B3 (L8 u2 V (B2 (B0 (B8 (H9 V (B4 V (L6 ex V (X8 V V (K8 V V (B4 V (L6 ek V (V0 (ys := [_, _, _]) V V V (yZ (cs := [_, _, _]) V V (yS (cs' := [_, _, _]) V V V V V (yQ (B0 (E5 (L1 V (O2 V (F9 V (B4 V ?_))))))))))))))))))))))))))))); rw [t0]; refine L4 V V (L4 V V (L4 V V (L4 V V (L4 V V (L2 V V (B4 V (L4 V V (L4 V V (L2 V V (yQ (G4 V (E5 (A9 V (C4 (A6 (C3 (A6 (A6 (C3 (C3 (A6 (A6 (C3 (A6 ?_))))))))))))))))))))))))
   exact M8 V V
 have t0 : decide ((a.length : Int) > 60) = false := A7 (by omega)
 rw [A7 ha, Bool.false_or] at hI
 by_cases Mk : (6 < x.length ∧ x.length ≤ 16) ∨ 18 < x.length
 · have t1 : decide (((x.map dCf).length : Int) > 6) = true := B1 (by rw [A8]; omega)
   have hg : G = true := by
    rw [← hI]
    rcases Mk with h | h
    · rw [B1 h.1, B1 h.2]; simp
    · rw [B1 h]; simp
   subst hg
   by_cases h2 : x.length ≤ 16
   · have t2 : decide (((x.map dCf).length : Int) ≤ 16) = true := B1 (by rw [A8]; omega)
     refine H2 V (B4 V (B4 V (L6 ex V (X8 V V (K8 V V (yN V (I3 V (B3 (L8 u2 V (B2 (B0 (B8 (H9 V (B4 V (L6 ex V (X8 V V (K8 V V (B4 V (L6 ek V (V0 (ys := [_, _, _]) V V V (yZ (cs := [_, _, _]) V V (yS (cs' := [_, _, _]) V V V V V (yQ (B0 (E5 (L1 V (O2 V (F9 V (B4 V ?_))))))))))))))))))))))))))))); rw [t0]; refine L1 V (yN V (F9 V (B4 V ?_))); rw [t1]; refine L1 V (yN V (F9 V (L2 V V (L3 V V (B4 V ?_))))); rw [t2]; refine L4 V V (L4 V V (L2 V V (yQ (G4 V (E5 (A9 V (C4 (A6 (C3 (A6 (A6 (C3 (C3 (A6 (A6 (C3 (A6 ?_)))))))))))))))))
     exact M8 V V
   · have t2 : decide (((x.map dCf).length : Int) ≤ 16) = false := A7 (by rw [A8]; omega)
     have t3 : decide (((x.map dCf).length : Int) > 18) = true := B1 (by rw [A8]; omega)
     refine H2 V (B4 V (B4 V (L6 ex V (X8 V V (K8 V V (yN V (I3 V (B3 (L8 u2 V (B2 (B0 (B8 (H9 V (B4 V (L6 ex V (X8 V V (K8 V V (B4 V (L6 ek V (V0 (ys := [_, _, _]) V V V (yZ (cs := [_, _, _]) V V (yS (cs' := [_, _, _]) V V V V V (yQ (B0 (E5 (L1 V (O2 V (F9 V (B4 V ?_))))))))))))))))))))))))))))); rw [t0]; refine L1 V (yN V (F9 V (B4 V ?_))); rw [t1]; refine L1 V (yN V (F9 V (L2 V V (L3 V V (B4 V ?_))))); rw [t2]; refine L1 V (yN V (F9 V (L3 V V (yQ (B3 (L8 t3 V (E5 (A9 V (C4 (A6 (C3 (A6 (A6 (C3 (C3 (A6 (A6 (C3 (A6 ?_)))))))))))))))))))
     exact M8 V V
 have hg : (x.any SA || (Q || R)) = G := by
  rw [← hI]
  by_cases h1 : 6 < x.length
  · rw [B1 h1, A7 (show ¬ x.length ≤ 16 by omega), A7 (show ¬ 18 < x.length by omega)]; simp [Bool.or_assoc]
  · rw [A7 h1, A7 (show ¬ 18 < x.length by omega)]; simp [Bool.or_assoc]
 clear hI
 refine H2 V (B4 V (B4 V (L6 ex V (X8 V V (K8 V V (yN V (I3 V (B3 (L8 u2 V (B2 (B0 (B8 (H9 V (B4 V (L6 ex V (X8 V V (K8 V V (B4 V (L6 ek V (V0 (ys := [_, _, _]) V V V (yZ (cs := [_, _, _]) V V (yS (cs' := [_, _, _]) V V V V V (yQ (B0 (E5 (L1 V (O2 V (F9 V (B4 V ?_))))))))))))))))))))))))))))); rw [t0]; refine L1 V (yN V (F9 V (B4 V ?_)))
 first | refine HQ ⟨115, [(0, .d (Q5 l)), (3, .d (dI i)), (4, .d (dI k)), (5, .bx 5 0)], [(5, [.d (dS a), .d (dB s), .d (.sl 2 (x.map dCf))])], []⟩ ?_ ?_ | refine Ed ⟨115, [(0, .d (Q5 l)), (3, .d (dI i)), (4, .d (dI k)), (5, .bx 5 0)], [(5, [.d (dS a), .d (dB s), .d (.sl 2 (x.map dCf))])], []⟩ ?_ ?_
 rotate_left
 · have t3 : decide (((x.map dCf).length : Int) > 18) = false := A7 (by rw [A8]; omega)
   by_cases h1 : 6 < x.length
   · have t1 : decide (((x.map dCf).length : Int) > 6) = true := B1 (by rw [A8]; omega)
     have t2 : decide (((x.map dCf).length : Int) ≤ 16) = false := A7 (by rw [A8]; omega)
     rw [t1]; refine Bd V ?_; refine AQ V V V ?_; refine yN V ?_; refine yB V V V V ?_; refine L2 V V ?_; refine L3 V V ?_; refine B4 V ?_; rw [t2]; refine Bd V ?_; refine AQ V V V ?_
     refine yN V (F9 V (L3 V V (yQ (O1 t3 V (B2 (B3 ?_))))))
     exact ⟨rfl, ⟨F5, F5, F5, F5, D5⟩, ⟨⟨_, V, H6 _⟩, D5⟩, D5, V⟩
   · have t1 : decide (((x.map dCf).length : Int) > 6) = false := A7 (by rw [A8]; omega)
     rw [t1]; refine yO V ?_; refine yO V ?_; refine yO V ?_; refine yO V ?_; refine L3 V V ?_; refine L3 V V ?_; refine B4 V ?_; refine Bd V ?_; refine AQ V V V ?_; refine yN V ?_
     refine F9 V (L3 V V (yQ (O1 t3 V (B2 (B3 ?_)))))
     exact ⟨rfl, ⟨F5, F5, F5, F5, D5⟩, ⟨⟨_, V, H6 _⟩, D5⟩, D5, V⟩
 have GO : x.length ≤ 18 := by omega
 clear Mk
 refine E5 (A9 V (B8 ?_)); refine I1 (fun m : Nat => ⟨115, [(0, .d (Q5 l)), (3, .d (dI i)), (4, .d (dI k)), (5, .bx 5 0), (6, .d (dI m))], [(5, [.d (dS a), .d (dB s), .d (.sl 2 (x.map dCf))])], []⟩) (fun m => m ≤ x.length ∧ ((x.drop m).any SA || (Q || R)) = G) (fun m => x.length - m) 0 ⟨E8 _, hg⟩
  ⟨rfl, ⟨F5, F5, F5, F5, F5, D5⟩, ⟨⟨_, rfl, H6 _⟩, D5⟩, D5, rfl⟩ ?_
 rintro m ⟨hm, hI⟩
 clear hg
 rcases D6 m x.length with h3 | h3
 rotate_left
 · have u3 : decide ((m : Int) < ((x.map dCf).length : Int)) = false := A7 (by rw [A8]; omega)
   rw [J8 h3] at hI
   have hI : (Q || R) = G := hI
   rw [hQ] at hI
   refine H2 V (L1 V (yN V (I3 V (B3 (O1 u3 V (F8 (B6 (B4 V (F9 V (A9 V (B3 ?_)))))))))))
   exact ⟨k + 1, ⟨h2, hI⟩, BJ, V, ⟨F5, F5, Q7 HH, D5⟩, D5, D5, V⟩
 have u3 : decide ((m : Int) < ((x.map dCf).length : Int)) = true := B1 (by rw [A8]; omega)
 obtain ⟨⟨c0, c1⟩, hcx⟩ : ∃ a, x[m]? = some a := ⟨_, A4 h3⟩
 have em := ix dCf x m m (c0, c1) rfl hcx
 have hw3 := J0 ((m : Int) + 1) (by omega)
 rw [JA hcx] at hI
 have d2 : SA (c0, c1) = (decide (30 < c0.length) || decide (13 < c1.length)) := rfl
 rw [d2] at hI
 clear d2
 have arith3 : x.length - (m + 1) < x.length - m := by omega
 have k1 := wLongF c1
 by_cases q1 : 30 < c0.length
 · have t1 : decide ((c0.length : Int) > 30) = true := B1 (by omega)
   have hg : G = true := by rw [← hI, B1 q1]; simp
   subst hg
   refine H2 V (L1 V (yN V (I3 V (B3 (L8 u3 V (B2 (B0 (B8 (E5 (L1 V (B4 V (L6 em V (X8 V V (K8 V V (O2 V (F9 V (B4 V ?_))))))))))))))))); rw [t1]; refine L4 V V (L4 V V (L4 V V (yO V (L2 V V (yQ (G4 V (E5 (A9 V (C4 (C3 (A6 (A6 (C3 (C3 (A6 (A6 (C3 (C3 (A6 (A6 (C3 (A6 ?_))))))))))))))))))))))
   exact M8 V V
 have t1 : decide ((c0.length : Int) > 30) = false := A7 (by omega)
 rw [A7 q1, Bool.false_or] at hI
 by_cases q2 : 13 < c1.length
 · rw [B1 q2] at k1
   have hg : G = true := by rw [← hI, B1 q2]; simp
   subst hg
   refine H2 V (L1 V (yN V (I3 V (B3 (L8 u3 V (B2 (B0 (B8 (E5 (L1 V (B4 V (L6 em V (X8 V V (K8 V V (O2 V (F9 V (B4 V ?_))))))))))))))))); rw [t1]; refine L1 V (B4 V (L6 em V (X8 V V (K8 V V (yC (k1) V V (L3 V V (yQ (G4 V (E5 (A9 V (C4 (C3 (A6 (A6 (C3 (C3 (A6 (A6 (C3 (C3 (A6 (A6 (C3 (A6 ?_))))))))))))))))))))))))
   exact M8 V V
 rw [A7 q2] at k1
 rw [A7 q2, Bool.false_or] at hI
 refine H2 V (L1 V (yN V (I3 V (B3 (L8 u3 V (B2 (B0 (B8 (E5 (L1 V (B4 V (L6 em V (X8 V V (K8 V V (O2 V (F9 V (B4 V ?_))))))))))))))))); rw [t1]; refine L1 V (B4 V (L6 em V (X8 V V (K8 V V (yC (k1) V V (L3 V V (yQ (F4 V (B2 (B6 (B4 V (F9 V (A9 V (B3 ?_))))))))))))))
 exact ⟨m + 1, ⟨h3, hI⟩, arith3, V, ⟨F5, F5, F5, F5, Q7 hw3, D5⟩, ⟨⟨_, V, H6 _⟩, D5⟩, D5, V⟩
theorem hPhRs : ∀ xs r, UA Im xs r → PCalls Tryz.prog 55 (xs ++ ([] : List (List DV)).map DV.ref) r := by
 rintro _ _ ⟨l, rfl, rfl⟩
 exact wGreatR l
theorem TA (l : List (List Ru)) (hl : l.length ≤ 1000) : PCalls Tryz.prog 11 [.sl 1 (l.map fun x => [Q5 x])] (.d (dB (l.any Im))) := by
 have c1 := wHasRs Im l (by omega)
 obtain ⟨b, hb⟩ := I0 (l.any Im)
 rw [← hb] at c1 ⊢
 refine M0 Tryz.func11 V Tryz.ntmps11 Tryz.results11 fun B w0 => ?_
 refine E5 (A9 V (H9 V ?_)); refine LY c1 (.d V (.fn D4 V V hPhRs .nil)) V ?_; refine A9 V (C4 ?_)
 exact M8 V V
section
variable {X : Type} {tp tp' : F6 → Bool} {pe pe' : F6 → Option X} {L : Nat}
end
theorem grt_bd {l : List Ru} (h : Im l = false) : l.length ≤ 66 ∧ ∀ r ∈ l, r.2.length ≤ 66 ∧ ∀ x ∈ r.2, x.1.length ≤ 60 ∧ x.2.2.length ≤ 18 ∧ ∀ c ∈ x.2.2, c.1.length ≤ 30 ∧ c.2.length ≤ 13 := by
 simp only [Im, Bool.or_eq_false_iff, List.any_eq_false, decide_eq_false_iff_not] at h
 refine ⟨by omega, fun r hr => ?_⟩
 have h1 := h.2 r hr
 simp only [Of, Bool.not_eq_true, Bool.or_eq_false_iff, List.any_eq_false, decide_eq_false_iff_not] at h1
 refine ⟨by omega, fun x hx => ?_⟩
 have h2 := h1.2 x hx
 simp only [Og, Bool.not_eq_true, Bool.or_eq_false_iff, List.any_eq_false, decide_eq_false_iff_not] at h2
 refine ⟨by omega, by omega, fun c hc => ?_⟩
 have h3 := h2.2 c hc
 simp only [SA, Bool.or_eq_false_iff, decide_eq_false_iff_not] at h3
 omega
theorem grt_bdR {l : List Ru} (h : Im l = false) : l.length ≤ 1000000 ∧ ∀ r ∈ l, Sf r := by
 obtain ⟨h1, h2⟩ := grt_bd h
 refine ⟨by omega, fun r hr => ⟨by have := (h2 r hr).1; omega, fun x hx => ?_⟩⟩
 obtain ⟨q1, q2, q3⟩ := (h2 r hr).2 x hx
 exact ⟨by omega, by omega, fun c hc => by have := q3 c hc; exact ⟨by omega, by omega⟩⟩
instance : EqOf Tryz.prog 113 [.s, .s] := GR (by kernel_rfl) (by kernel_rfl) (by kernel_rfl)
instance decLn : DecidableEq Ln := D4
instance decLns : DecidableEq (List Ln) := @instDecidableEqList Ln decLn
instance decRu : DecidableEq Ru := @instDecidableEqProd Int (List Ln) D4 decLns
instance decRus : DecidableEq (List Ru) := @instDecidableEqList Ru decRu
theorem KZ {l r : List α} {x y : α} (h : l.take i = r.take i) (hx : l[i]? = some x) (hy : r[i]? = some y) (e : x = y) : l.take (i + 1) = r.take (i + 1) := by
 rw [G8, G8, h, hx, hy, e]
theorem Ei {l r : List α} {x y : α} (hx : l[i]? = some x) (hy : r[i]? = some y) (e : x ≠ y) : l ≠ r := fun h => e (by
 subst h
 rw [hx] at hy
 exact I7 hy)
abbrev vCf (x : Cf) : List Value := [vS x.1, vS x.2]
theorem veq_cf (x y : Cf) : Lr (vCf x) (vCf y) = decide (x = y) := by
 obtain ⟨x0, x1⟩ := x
 obtain ⟨y0, y1⟩ := y
 show (veq (vS x0) (vS y0) && (veq (vS x1) (vS y1) && true)) = _
 rw [KW, KW, Bool.eq_iff_iff]
 simp
theorem wSameE (l r : List Cf) (hl : l.length ≤ 1000000) : PCalls Tryz.prog 66 [.sl 2 (l.map dCf), .sl 2 (r.map dCf)] (.d (dB (decide (l = r)))) := by
 by_cases hn : l.length = r.length
 rotate_left
 · have t1 : (((l.map dCf).length : Int) != ((r.map dCf).length : Int)) = true := by simp; omega
   rw [A7 fun e => hn (by rw [e])]
   refine M0 Tryz.func66 V Tryz.ntmps66 Tryz.results66 fun B w0 => ?_
   refine E5 (A9 V (H2 V (yN V (B4 V (yN V (I3 V (B3 (L8 t1 V (E5 (A9 V (C4 (A6 ?_))))))))))))
   exact M8 V V
 have t1 : (((l.map dCf).length : Int) != ((r.map dCf).length : Int)) = false := by simp; omega
 refine M0 Tryz.func66 V Tryz.ntmps66 Tryz.results66 fun B w0 => ?_
 refine E5 (A9 V (H2 V (yN V (B4 V (yN V (I3 V (B3 (O1 t1 V (B2 (B0 (E5 (A9 V (B8 ?_))))))))))))); refine I1 (fun i : Nat => ⟨26, [(0, .d (.sl 2 (l.map dCf))), (1, .d (.sl 2 (r.map dCf))), (5, .d (dI i))], [], []⟩) (fun i => i ≤ l.length ∧ l.take i = r.take i) (fun i => l.length - i) 0 ⟨E8 _, V⟩ ⟨rfl, ⟨F5, F5, F5, D5⟩, D5, D5, V⟩ ?_
 rintro i ⟨hi, h0⟩
 rcases D6 i l.length with h | h
 · have u1 : decide ((i : Int) < ((l.map dCf).length : Int)) = true := B1 (by rw [A8]; omega)
   obtain ⟨x, hx⟩ := DL h
   obtain ⟨y, hy⟩ : ∃ a, r[i]? = some a := ⟨_, A4 (by omega)⟩
   have ex := ix dCf l i i x rfl hx
   have ey := ix dCf r i i y rfl hy
   have hw := J0 ((i : Int) + 1) (by omega)
   have hv := veq_cf x y
   by_cases e : x = y
   · rw [B1 e] at hv
     refine H2 V (B4 V (yN V (I3 V (B3 (L8 u1 V (B2 (B0 (B8 (B0 ?_))))))))); refine J2 Tryz.mixed (by kernel_rfl) ?_; refine B4 V (B4 V (L6 ex V (V0 (ys := [_, _]) V V V (B4 V (B4 V (L6 ey V (V0 (ys := [_, _]) V V V (yBx (vs := vCf x) (us := vCf y) V V V V V V (yQ (B3 ?_)))))))))); rw [hv]
     refine F4 V (B2 (B6 (B4 V (F9 V (A9 V (B3 ?_))))))
     refine ⟨i + 1, ⟨by omega, KZ h0 hx hy e⟩, by omega, rfl, ⟨F5, F5, Q7 hw, D5⟩, D5, D5, rfl⟩
   · rw [A7 e] at hv
     rw [A7 (Ei hx hy e)]
     refine H2 V (B4 V (yN V (I3 V (B3 (L8 u1 V (B2 (B0 (B8 (B0 ?_))))))))); refine J2 Tryz.mixed (by kernel_rfl) ?_; refine B4 V (B4 V (L6 ex V (V0 (ys := [_, _]) V V V (B4 V (B4 V (L6 ey V (V0 (ys := [_, _]) V V V (yBx (vs := vCf x) (us := vCf y) V V V V V V (yQ (B3 ?_)))))))))); rw [hv]
     refine G4 V (E5 (A9 V (C4 (C3 (A6 (A6 (C3 (A6 ?_))))))))
     exact M8 V V
 · have u1 : decide ((i : Int) < ((l.map dCf).length : Int)) = false := A7 (by rw [A8]; omega)
   rw [D8 (by omega), D8 (by omega)] at h0
   rw [B1 h0]
   refine H2 V (B4 V (yN V (I3 V (B3 (O1 u1 V (F8 (E5 (A9 V (C4 ?_)))))))))
   exact M8 V V
theorem wSame (a b : List Ru) (hl : a.length ≤ 1000000) (hb : ∀ r ∈ a, Sf r) : PCalls Tryz.prog 25 [Q5 a, Q5 b] (.d (dB (decide (a = b)))) := by
 by_cases hn : a.length = b.length
 rotate_left
 · have t1 : (((a.map AE).length : Int) != ((b.map AE).length : Int)) = true := by simp; omega
   rw [A7 fun e => hn (by rw [e])]
   refine M0 Tryz.func25 V Tryz.ntmps25 Tryz.results25 fun B w0 => ?_
   refine E5 (A9 V (H2 V (yN V (B4 V (yN V (I3 V (B3 (L8 t1 V (E5 (A9 V (C4 (A6 ?_))))))))))))
   exact M8 V V
 have t1 : (((a.map AE).length : Int) != ((b.map AE).length : Int)) = false := by simp; omega
 refine M0 Tryz.func25 V Tryz.ntmps25 Tryz.results25 fun B w0 => ?_
 refine E5 (A9 V (H2 V (yN V (B4 V (yN V (I3 V (B3 (O1 t1 V (B2 (B0 (E5 (A9 V (B8 ?_))))))))))))); refine I1 (fun i : Nat => ⟨92, [(0, .d (Q5 a)), (1, .d (Q5 b)), (5, .d (dI i))], [], []⟩) (fun i => i ≤ a.length ∧ a.take i = b.take i) (fun i => a.length - i) 0 ⟨E8 _, V⟩ ⟨rfl, ⟨F5, F5, F5, D5⟩, D5, D5, V⟩ ?_
 rintro i ⟨hi, h0⟩
 rcases D6 i a.length with h | h
 rotate_left
 · have u1 : decide ((i : Int) < ((a.map AE).length : Int)) = false := A7 (by rw [A8]; omega)
   rw [D8 (by omega), D8 (by omega)] at h0
   rw [B1 h0]
   refine H2 V (B4 V (yN V (I3 V (B3 (O1 u1 V (F8 (E5 (A9 V (C4 ?_)))))))))
   exact M8 V V
 have u1 : decide ((i : Int) < ((a.map AE).length : Int)) = true := B1 (by rw [A8]; omega)
 obtain ⟨⟨n, ls⟩, hx⟩ : ∃ x, a[i]? = some x := ⟨_, A4 h⟩
 obtain ⟨⟨n2, ls2⟩, hy⟩ : ∃ x, b[i]? = some x := ⟨_, A4 (by omega)⟩
 obtain ⟨hls, AW⟩ := hb _ (C0 hx)
 simp only at hls AW
 have ex := ix AE a i i (n, ls) rfl hx
 have ey := ix AE b i i (n2, ls2) rfl hy
 have hw := J0 ((i : Int) + 1) (by omega)
 have arith : a.length - (i + 1) < a.length - i := by omega
 by_cases e1 : n = n2
 rotate_left
 · have t2 : (n != n2) = true := by simp [e1]
   rw [A7 (Ei hx hy fun e => e1 (G6 (·.1) e))]
   refine H2 V (B4 V (yN V (I3 V (B3 (L8 u1 V (B2 (B0 (B8 (B0 (B0 ?_)))))))))); refine J2 Tryz.mixed (by kernel_rfl) ?_; refine B4 V (B4 V (L6 ex V (X8 V V (K8 V V (B4 V (B4 V (L6 ey V (X8 V V (K8 V V (F9 V (B4 V ?_))))))))))); rw [t2]; refine L4 V V (L4 V V (L4 V V (L4 V V (L4 V V (L4 V V (yO V (L2 V V (yQ (G4 V (E5 (A9 V (C4 (A6 (C3 (A6 (A6 (C3 (A6 ?_))))))))))))))))))
   exact M8 V V
 have t2 : (n != n2) = false := by simp [e1]
 by_cases e2 : ls.length = ls2.length
 rotate_left
 · have t3 : (((ls.map Aa).length : Int) != ((ls2.map Aa).length : Int)) = true := by simp; omega
   rw [A7 (Ei hx hy fun e => e2 (G6 (·.2.length) e))]
   refine H2 V (B4 V (yN V (I3 V (B3 (L8 u1 V (B2 (B0 (B8 (B0 (B0 ?_)))))))))); refine J2 Tryz.mixed (by kernel_rfl) ?_; refine B4 V (B4 V (L6 ex V (X8 V V (K8 V V (B4 V (B4 V (L6 ey V (X8 V V (K8 V V (F9 V (B4 V ?_))))))))))); rw [t2]; refine B4 V (B4 V (L6 ex V (X8 V V (K8 V V (yN V (B4 V (B4 V (L6 ey V (X8 V V (K8 V V (yN V (F9 V (L3 V V (yQ (B3 (L8 t3 V (E5 (A9 V (C4 (A6 (C3 (A6 (A6 (C3 (A6 ?_)))))))))))))))))))))))))
   exact M8 V V
 have t3 : (((ls.map Aa).length : Int) != ((ls2.map Aa).length : Int)) = false := by simp; omega
 refine H2 V (B4 V (yN V (I3 V (B3 (L8 u1 V (B2 (B0 (B8 (B0 (B0 ?_)))))))))); refine J2 Tryz.mixed (by kernel_rfl) ?_; refine B4 V (B4 V (L6 ex V (X8 V V (K8 V V (B4 V (B4 V (L6 ey V (X8 V V (K8 V V (F9 V (B4 V ?_))))))))))); rw [t2]; refine B4 V (B4 V (L6 ex V (X8 V V (K8 V V (yN V (B4 V (B4 V (L6 ey V (X8 V V (K8 V V (yN V (F9 V (L3 V V (yQ (B3 (O1 t3 V (B2 (E5 (A9 V (B8 ?_)))))))))))))))))))); refine I1 (fun k : Nat => ⟨92, [(0, .d (Q5 a)), (1, .d (Q5 b)), (5, .d (dI i)), (6, .d (dI k))], [], []⟩) (fun k => k ≤ ls.length ∧ ls.take k = ls2.take k) (fun k => ls.length - k) 0 ⟨E8 _, V⟩ ⟨rfl, ⟨F5, F5, F5, F5, D5⟩, D5, D5, V⟩ ?_
 rintro k ⟨hk, h2⟩
 rcases D6 k ls.length with h3 | h3
 rotate_left
 · have u2 : decide ((k : Int) < ((ls.map Aa).length : Int)) = false := A7 (by rw [A8]; omega)
   rw [D8 (by omega), D8 (by omega)] at h2
   have K9 := KZ h0 hx hy (by rw [e1, h2])
   refine H2 V (B4 V (B4 V (L6 ex V (X8 V V (K8 V V (yN V (I3 V (B3 (O1 u2 V (F8 (B6 (B4 V (F9 V (A9 V (B3 ?_)))))))))))))))
   exact ⟨i + 1, ⟨h, K9⟩, arith, V, ⟨F5, F5, Q7 hw, D5⟩, D5, D5, V⟩
 have u2 : decide ((k : Int) < ((ls.map Aa).length : Int)) = true := B1 (by rw [A8]; omega)
 obtain ⟨⟨x0, x1, x2⟩, kx⟩ : ∃ x, ls[k]? = some x := ⟨_, A4 h3⟩
 obtain ⟨⟨y0, y1, y2⟩, ky⟩ : ∃ x, ls2[k]? = some x := ⟨_, A4 (by omega)⟩
 obtain ⟨-, hbe, -⟩ := AW _ (C0 kx)
 simp only at hbe
 have fx := ix Aa ls k k (x0, x1, x2) rfl kx
 have fy := ix Aa ls2 k k (y0, y1, y2) rfl ky
 have HH := J0 ((k : Int) + 1) (by omega)
 have BJ : ls.length - (k + 1) < ls.length - k := by omega
 have AZ : (x0, x1, x2) ≠ (y0, y1, y2) → a ≠ b := fun he => Ei hx hy fun e => Ei kx ky he (G6 (·.2) e)
 have c1 := wSameE x2 y2 hbe
 by_cases e3 : x0 = y0
 rotate_left
 · have v1 : (x0 == y0) = false := by simp [e3]
   rw [A7 (AZ fun e => e3 (G6 (·.1) e))]
   refine H2 V (B4 V (B4 V (L6 ex V (X8 V V (K8 V V (yN V (I3 V (B3 (L8 u2 V (B2 (B0 (B8 (B0 ?_))))))))))))); refine S2 (id := 11) Tryz.mixed (by kernel_rfl) ?_; refine B4 V (B4 V (L6 ex V (X8 V V (K8 V V (B4 V (yW fx (by omega) V V (V0 (ys := [_, _, _]) V V V (B4 V (B4 V (L6 ey V (X8 V V (K8 V V (B4 V (yW fy (by omega) V V (V0 (ys := [_, _, _]) V V V (yZ (cs := [_, _, _]) V V (yZ (cs := [_, _, _]) V V (yS (cs' := [_, _, _]) V V V V V (yS (cs' := [_, _, _]) V V V V V (yQ ?_))))))))))))))))))))
   refine Px.Sep.mk (by kernel_rfl) ?_; refine E5 (L1 V (L1 V (N5 V V (B4 V ?_)))); rw [v1]
   refine L4 V V (L4 V V (yO V (L2 V V (B4 V (L4 V V (L4 V V (L4 V V (L2 V V (yQ (G4 V (E5 (A9 V (C4 (C3 (A6 (A6 (C3 (C3 (A6 (A6 (C3 (A6 ?_))))))))))))))))))))))
   exact M8 V V
 have v1 : (x0 == y0) = true := by simp [e3]
 by_cases e4 : x1 = y1
 rotate_left
 · have v2 : (x1 != y1) = true := by simp [e4]
   rw [A7 (AZ fun e => e4 (G6 (·.2.1) e))]
   refine H2 V (B4 V (B4 V (L6 ex V (X8 V V (K8 V V (yN V (I3 V (B3 (L8 u2 V (B2 (B0 (B8 (B0 ?_))))))))))))); refine S2 (id := 11) Tryz.mixed (by kernel_rfl) ?_; refine B4 V (B4 V (L6 ex V (X8 V V (K8 V V (B4 V (yW fx (by omega) V V (V0 (ys := [_, _, _]) V V V (B4 V (B4 V (L6 ey V (X8 V V (K8 V V (B4 V (yW fy (by omega) V V (V0 (ys := [_, _, _]) V V V (yZ (cs := [_, _, _]) V V (yZ (cs := [_, _, _]) V V (yS (cs' := [_, _, _]) V V V V V (yS (cs' := [_, _, _]) V V V V V (yQ ?_))))))))))))))))))))
   refine Px.Sep.mk (by kernel_rfl) ?_; refine E5 (L1 V (L1 V (N5 V V (B4 V ?_)))); rw [v1]
   refine L1 V (L1 V (yBbn (c := true) Tryz.underlying4 v2 V V (L3 V V (B4 V (L4 V V (L4 V V (L4 V V (L2 V V (yQ (G4 V (E5 (A9 V (C4 (C3 (A6 (A6 (C3 (C3 (A6 (A6 (C3 (A6 ?_))))))))))))))))))))))
   exact M8 V V
 have v2 : (x1 != y1) = false := by simp [e4]
 by_cases e5 : x2 = y2
 rotate_left
 · rw [A7 e5] at c1
   rw [A7 (AZ fun e => e5 (G6 (·.2.2) e))]
   refine H2 V (B4 V (B4 V (L6 ex V (X8 V V (K8 V V (yN V (I3 V (B3 (L8 u2 V (B2 (B0 (B8 (B0 ?_))))))))))))); refine S2 (id := 11) Tryz.mixed (by kernel_rfl) ?_; refine B4 V (B4 V (L6 ex V (X8 V V (K8 V V (B4 V (yW fx (by omega) V V (V0 (ys := [_, _, _]) V V V (B4 V (B4 V (L6 ey V (X8 V V (K8 V V (B4 V (yW fy (by omega) V V (V0 (ys := [_, _, _]) V V V (yZ (cs := [_, _, _]) V V (yZ (cs := [_, _, _]) V V (yS (cs' := [_, _, _]) V V V V V (yS (cs' := [_, _, _]) V V V V V (yQ ?_))))))))))))))))))))
   refine Px.Sep.mk (by kernel_rfl) ?_; refine E5 (L1 V (L1 V (N5 V V (B4 V ?_)))); rw [v1]
   refine L1 V (L1 V (yBbn (c := false) Tryz.underlying4 v2 V V (L3 V V (B4 V (L1 V (L1 V (yC (c1) V V (yU V V V (L3 V V (yQ (G4 V (E5 (A9 V (C4 (C3 (A6 (A6 (C3 (C3 (A6 (A6 (C3 (A6 ?_)))))))))))))))))))))))
   exact M8 V V
 rw [B1 e5] at c1
 have K9 := KZ h2 kx ky (by rw [e3, e4, e5])
 refine H2 V (B4 V (B4 V (L6 ex V (X8 V V (K8 V V (yN V (I3 V (B3 (L8 u2 V (B2 (B0 (B8 (B0 ?_))))))))))))); refine S2 (id := 11) Tryz.mixed (by kernel_rfl) ?_; refine B4 V (B4 V (L6 ex V (X8 V V (K8 V V (B4 V (yW fx (by omega) V V (V0 (ys := [_, _, _]) V V V (B4 V (B4 V (L6 ey V (X8 V V (K8 V V (B4 V (yW fy (by omega) V V (V0 (ys := [_, _, _]) V V V (yZ (cs := [_, _, _]) V V (yZ (cs := [_, _, _]) V V (yS (cs' := [_, _, _]) V V V V V (yS (cs' := [_, _, _]) V V V V V (yQ ?_))))))))))))))))))))
 refine Px.Sep.mk (by kernel_rfl) ?_; refine E5 (L1 V (L1 V (N5 V V (B4 V ?_)))); rw [v1]
 refine L1 V (L1 V (yBbn (c := false) Tryz.underlying4 v2 V V (L3 V V (B4 V (L1 V (L1 V (yC (c1) V V (yU V V V (L3 V V (yQ (F4 V (B2 (B6 (B4 V (F9 V (A9 V (B3 ?_)))))))))))))))))
 exact ⟨k + 1, ⟨h3, K9⟩, BJ, V, ⟨F5, F5, F5, Q7 HH, D5⟩, D5, D5, V⟩
theorem O0 {a b : Bool} (h : a = true) (h' : b = true) : (a && b) = true := by rw [h, h']; rfl
theorem MD : laidOutB Tryz.prog = true := by kernel_rfl
theorem MC : mapsRowed Tryz.prog = true := by kernel_rfl
theorem MB : (Tryz.prog.stops == []) = true := by kernel_rfl
theorem MA : (Tryz.prog.stopKnobs == []) = true := by kernel_rfl
theorem GV : Tryz.prog.plainKeys = true := by kernel_rfl
theorem Kd : Tryz.prog.stopsHeard = true := by kernel_rfl
theorem Kc : Tryz.prog.mayEnter = true := by kernel_rfl
theorem Fa : Tryz.prog.liftsFinal = false := by kernel_rfl
end Go.Proofs.YtddfimjiihggmaaGreatDoor