/- Plain: a string cut at a byte as the reference does it: part by part. -/
import Derived.Test.YtddfimjiihggmaaGreatDoorB11
set_option maxHeartbeats 16000000
set_option maxRecDepth 20000
namespace Go.Proofs.YtddfimjiihggmaaGreatDoor
variable {c b : UInt8} {f : Nat}
structure CutI (c : UInt8) (s : F6) (i f : Nat) (zs : List F6) : Prop where
 fi : f ≤ i
 il : i ≤ s.length
 no : c ∉ (s.drop f).take (i - f)
 eq : zs ++ S5 c (s.drop f) = S5 c s
 zl : zs.length ≤ i
theorem CutI.start (c : UInt8) (s : F6) : CutI c s 0 0 [] := ⟨D9 _, E8 _, by simp, by simp, D9 _⟩
theorem CutI.split {s : F6} {i : Nat} (hf : f ≤ i) (hb : s[i]? = some b) : s.drop f = (s.drop f).take (i - f) ++ b :: s.drop (i + 1) := by
 obtain ⟨h1, h2⟩ := A5.1 hb
 conv => lhs; rw [← List.take_append_drop (i - f) (s.drop f)]
 rw [List.drop_drop, show f + (i - f) = i by omega, I2 h1, h2]
theorem CutI.hit {s : F6} {i : Nat} {zs : List F6} (h : CutI c s i f zs) (hb : s[i]? = some c) : CutI c s (i + 1) (i + 1) (zs ++ [(s.drop f).take (i - f)]) := by
 have hl := (A5.1 hb).1
 refine ⟨D9 _, hl, by simp, ?_, by have := h.zl; simp; omega⟩
 rw [← h.eq]
 conv => rhs; rw [CutI.split h.fi hb]
 rw [spl_app h.no, G9]
 rfl
theorem CutI.miss {s : F6} {i : Nat} {zs : List F6} (h : CutI c s i f zs) (hb : s[i]? = some b) (hn : b ≠ c) : CutI c s (i + 1) f zs := by
 have hl := (A5.1 hb).1
 have hf := h.fi
 refine ⟨by omega, hl, fun hc => ?_, h.eq, by have := h.zl; omega⟩
 rw [show i + 1 - f = (i - f) + 1 by omega, G8, List.getElem?_drop, show f + (i - f) = i by omega, hb] at hc
 rcases List.mem_append.1 hc with hc | hc
 · exact h.no hc
 · simp at hc; exact hn hc.symm
theorem CutI.done {s : F6} {zs : List F6} (h : CutI c s s.length f zs) : zs ++ [s.drop f] = S5 c s := by
 have hn := h.no
 rw [D8 (by simp)] at hn
 rw [← h.eq, PV hn]
theorem CutI.part {s : F6} {i : Nat} : ((s.drop f).take (i - f)).length ≤ s.length := by simp; omega
open Go.RowKit Px
variable {α : Type} {i : Nat}
abbrev sgT : Nat := 9 * 100000 + 3
abbrev ctTk : Nat := 9 * 100000 + 4
theorem wSegs (s : F6) (hs : s.length ≤ 1100000) : PCalls Tryz.prog 157 [dS s] (.d (U7 (S5 46 s))) := by
 obtain ⟨R, hR⟩ := I0 (S5 46 s)
 rw [← hR]
 refine M0 Tryz.func157 V Tryz.ntmps157 Tryz.results157 fun B w0 => ?_
 refine E5 (A9 V (E5 (yEb V (EZ V (A9 V ?_))))); refine IL 3 6 sgT (n := 0) (es := []) (ds := []) V V V V V V V V ?_; refine B0 (E5 (A9 V (B8 ?_))); refine I1 (fun p : Nat × Nat × List F6 => ⟨32, [(0, .d (dS s)), (3, .ts sgT 1 (p.2.2.map dC)), (4, .d (dI p.2.1)), (5, .d (dI p.1))], [], [(sgT, (p.2.2.map dC).length)]⟩) (fun p => CutI 46 s p.1 p.2.1 p.2.2) (fun p => s.length - p.1) (0, 0, []) (CutI.start _ _)
  ⟨rfl, ⟨F5, F5, F5, F5, D5⟩, D5, ⟨rfl, D5⟩, rfl⟩ ?_
 rintro ⟨i, f, zs⟩ hI
 simp only at hI ⊢
 have hfi := hI.fi
 have NV := hI.il
 have LZ := hI.zl
 have JP : ((f : Nat) : Int).toNat = f := H0 f
 have Cb : ((i : Nat) : Int).toNat = i := H0 i
 rcases D6 i s.length with h | h
 rotate_left
 · have u1 : decide ((i : Int) < (s.length : Int)) = false := A7 (by omega)
   obtain rfl : i = s.length := by omega
   have hd := hI.done
   have hD : s.drop ((f : Int)).toNat = s.drop f := by rw [JP]
   have hf1 : (f : Int) ≤ (s.length : Int) := by omega
   obtain ⟨d, hdd⟩ := I0 (s.drop f)
   rw [← hdd] at hd hD
   rw [hR, ← hd]
   clear hR hd hdd hI Cb JP h
   refine H2 V (B4 V (O2 V (I3 V (B3 (O1 u1 V (F8 (E5 (Bk V (B4 V (B4 V (U9 (by omega) hf1 hD V V ?_))))))))))); refine yR (es := [[_]]) V V V V V ?_; refine yT (es' := (zs ++ [d]).map dC) (m := ((zs ++ [d]).map dC).length) (by simp; omega) (by simp; omega) V V V V V (by simp) (by simp) ?_; refine Cj V (yQ (C4 ?_))
   exact M8 V V
 have u1 : decide ((i : Int) < (s.length : Int)) = true := B1 (by omega)
 obtain ⟨x, hx⟩ := DL h
 have hxi : s[((i : Nat) : Int).toNat]? = some x := by rw [Cb]; exact hx
 have hw := J0 ((i : Int) + 1) (by omega)
 have arith : s.length - (i + 1) < s.length - i := by omega
 by_cases hxc : x = 46
 · have t2 : ((x.toNat : Int) == 46) = true := by rw [hxc]; rfl
   have hn : CutI 46 s (i + 1) (i + 1) (zs ++ [(s.drop f).take (i - f)]) := hI.hit (by rw [hx, hxc])
   have hP : (s.take ((i : Int)).toNat).drop ((f : Int)).toNat = (s.drop f).take (i - f) := by rw [JP, Cb, List.drop_take]
   obtain ⟨p, hp⟩ := I0 ((s.drop f).take (i - f))
   rw [← hp] at hn hP
   have h1 : (f : Int) ≤ (i : Int) := by omega
   have h2 : (i : Int) ≤ (s.length : Int) := by omega
   clear hp hI hx Cb JP hR
   refine H2 V (B4 V (O2 V (I3 V (B3 (L8 u1 V (B2 (B0 (B8 (H9 V (B4 V (U1 hxi (by omega) V V (I3 V (B3 ?_))))))))))))); rw [t2]
   refine G4 V (B6 (Bk V (B4 V (B4 V (B4 V (ySlh (by omega) h1 h2 hP V V V ?_)))))); refine yR (es := [[_]]) V V V V V ?_; refine yT (es' := (zs ++ [p]).map dC) (m := ((zs ++ [p]).map dC).length) (by simp; omega) (by simp; omega) V V V V V (by simp) (by simp) ?_; refine B4 V (F9 V (Cj V (A9 V (B6 (B4 V (F9 V (A9 V (B3 ?_))))))))
   exact ⟨(i + 1, i + 1, zs ++ [p]), hn, arith, V, ⟨F5, F5, Q7 hw, Q7 hw, D5⟩, D5, ⟨rfl, D5⟩, V⟩
 · have t2 : ((x.toNat : Int) == 46) = false := G2 fun h => hxc (UInt8.toNat_inj.1 (by have : (46 : UInt8).toNat = 46 := rfl; omega))
   have hn : CutI 46 s (i + 1) f zs := hI.miss hx hxc
   clear hI hx Cb JP hR
   refine H2 V (B4 V (O2 V (I3 V (B3 (L8 u1 V (B2 (B0 (B8 (H9 V (B4 V (U1 hxi (by omega) V V (I3 V (B3 ?_))))))))))))); rw [t2]
   refine F4 V (B2 (B6 (B4 V (F9 V (A9 V (B3 ?_))))))
   exact ⟨(i + 1, f, zs), hn, arith, V, ⟨F5, F5, F5, Q7 hw, D5⟩, D5, ⟨rfl, D5⟩, V⟩
theorem Sx (s : F6) (c : UInt8) (hs : s.length ≤ 1100000) : PCalls Tryz.prog 85 [dS s, .val (.int .u8 c.toNat)] (.d (U7 (S5 c s))) := by
 obtain ⟨R, hR⟩ := I0 (S5 c s)
 rw [← hR]
 refine M0 Tryz.func85 V Tryz.ntmps85 Tryz.results85 fun B w0 => ?_
 refine E5 (A9 V (E5 (yEb V (EZ V (A9 V ?_))))); refine IL 5 8 ctTk (n := 0) (es := []) (ds := []) V V V V V V V V ?_; refine B0 (E5 (A9 V (B8 ?_))); refine I1 (fun p : Nat × Nat × List F6 => ⟨35, [(0, .d (dS s)), (1, .d (.val (.int .u8 c.toNat))), (5, .ts ctTk 1 (p.2.2.map dC)), (6, .d (dI p.2.1)), (7, .d (dI p.1))], [], [(ctTk, (p.2.2.map dC).length)]⟩) (fun p => CutI c s p.1 p.2.1 p.2.2) (fun p => s.length - p.1) (0, 0, []) (CutI.start _ _)
  ⟨rfl, ⟨F5, F5, F5, F5, F5, D5⟩, D5, ⟨rfl, D5⟩, rfl⟩ ?_
 rintro ⟨i, f, zs⟩ hI
 simp only at hI ⊢
 have hfi := hI.fi
 have NV := hI.il
 have LZ := hI.zl
 have JP : ((f : Nat) : Int).toNat = f := H0 f
 have Cb : ((i : Nat) : Int).toNat = i := H0 i
 rcases D6 i s.length with h | h
 rotate_left
 · have u1 : decide ((i : Int) < (s.length : Int)) = false := A7 (by omega)
   obtain rfl : i = s.length := by omega
   have hd := hI.done
   have hD : s.drop ((f : Int)).toNat = s.drop f := by rw [JP]
   have hf1 : (f : Int) ≤ (s.length : Int) := by omega
   obtain ⟨d, hdd⟩ := I0 (s.drop f)
   rw [← hdd] at hd hD
   rw [hR, ← hd]
   clear hR hd hdd hI Cb JP h
   refine H2 V (B4 V (O2 V (I3 V (B3 (O1 u1 V (F8 (E5 (Bk V (B4 V (B4 V (U9 (by omega) hf1 hD V V ?_))))))))))); refine yR (es := [[_]]) V V V V V ?_; refine yT (es' := (zs ++ [d]).map dC) (m := ((zs ++ [d]).map dC).length) (by simp; omega) (by simp; omega) V V V V V (by simp) (by simp) ?_; refine Cj V (yQ (C4 ?_))
   exact M8 V V
 have u1 : decide ((i : Int) < (s.length : Int)) = true := B1 (by omega)
 obtain ⟨x, hx⟩ := DL h
 have hxi : s[((i : Nat) : Int).toNat]? = some x := by rw [Cb]; exact hx
 have hw := J0 ((i : Int) + 1) (by omega)
 have arith : s.length - (i + 1) < s.length - i := by omega
 by_cases hxc : x = c
 · have t2 : ((x.toNat : Int) == (c.toNat : Int)) = true := by rw [hxc]; exact beq_self_eq_true _
   have hn : CutI c s (i + 1) (i + 1) (zs ++ [(s.drop f).take (i - f)]) := hI.hit (by rw [hx, hxc])
   have hP : (s.take ((i : Int)).toNat).drop ((f : Int)).toNat = (s.drop f).take (i - f) := by rw [JP, Cb, List.drop_take]
   obtain ⟨p, hp⟩ := I0 ((s.drop f).take (i - f))
   rw [← hp] at hn hP
   have h1 : (f : Int) ≤ (i : Int) := by omega
   have h2 : (i : Int) ≤ (s.length : Int) := by omega
   clear hp hI hx Cb JP hR
   refine H2 V (B4 V (O2 V (I3 V (B3 (L8 u1 V (B2 (B0 (B8 (H9 V (B4 V (U1 hxi (by omega) V V (B4 V (I3 V (B3 ?_))))))))))))))
   rw [t2]; refine G4 V ?_; refine B0 ?_; refine B6 ?_; refine Bk V ?_; refine B4 V ?_; refine B4 V ?_; refine B4 V ?_; refine ySlh (by omega) h1 h2 hP V V V ?_
   refine yR (es := [[_]]) V V V V V ?_; refine yT (es' := (zs ++ [p]).map dC) (m := ((zs ++ [p]).map dC).length) (by simp; omega) (by simp; omega) V V V V V (by simp) (by simp) ?_; refine Cj V (yQ (B6 (B4 V (F9 V (A9 V (B6 (B4 V (F9 V (A9 V (B3 ?_))))))))))
   exact ⟨(i + 1, i + 1, zs ++ [p]), hn, arith, V, ⟨F5, F5, F5, Q7 hw, Q7 hw, D5⟩, D5, ⟨rfl, D5⟩, V⟩
 · have t2 : ((x.toNat : Int) == (c.toNat : Int)) = false := G2 fun h => hxc (UInt8.toNat_inj.1 (by omega))
   have hn : CutI c s (i + 1) f zs := hI.miss hx hxc
   clear hI hx Cb JP hR
   refine H2 V (B4 V (O2 V (I3 V (B3 (L8 u1 V (B2 (B0 (B8 (H9 V (B4 V (U1 hxi (by omega) V V (B4 V (I3 V (B3 ?_))))))))))))))
   rw [t2]; refine F4 V ?_; refine B2 ?_; refine B6 ?_; refine B4 V ?_; refine yB V V V V ?_; refine H5 V ?_; refine yQ ?_; refine B3 ?_
   exact ⟨(i + 1, f, zs), hn, arith, V, ⟨F5, F5, F5, F5, Q7 hw, D5⟩, D5, ⟨rfl, D5⟩, V⟩
theorem TZ {p : α → Bool} {l : List α} {x : α} (h : l[i]? = some x) (h0 : (l.take i).all p = true) (hx : p x = true) : (l.take (i + 1)).all p = true := by
 rw [G8, h, List.all_append, h0]
 simp [hx]
theorem all_no {p : α → Bool} {l : List α} {x : α} (h : l[i]? = some x) (hx : p x = false) : l.all p = false := by
 rw [List.all_eq_false]
 exact ⟨x, C0 h, by simp [hx]⟩
theorem wRTmp (s : F6) (hs : s.length ≤ 1100000) : PCalls Tryz.prog 112 [dS s] (.d (dB (P1 J5 s))) := by
 have k1 := wSegs s hs
 have hsl := Ej 46 s
 have Lf := Av 46 s
 obtain ⟨R, hR⟩ := I0 (P1 J5 s)
 rw [← hR]
 unfold P1 Iq at hR
 obtain ⟨S, hS⟩ := I0 (S5 46 s)
 rw [← hS] at k1 hsl Lf hR
 clear hS
 refine M0 Tryz.func112 V Tryz.ntmps112 Tryz.results112 fun B w0 => ?_
 refine E5 (A9 V (H9 V (yC (k1) V V (A9 V (B0 (E5 (A9 V (B8 ?_)))))))); refine I1 (fun i : Nat => ⟨36, [(3, .d (U7 S)), (4, .d (dI i))], [], []⟩) (fun i => i ≤ S.length ∧ (S.take i).all (fun x => Ke x || J5 x) = true) (fun i => S.length - i) 0 ⟨E8 _, V⟩
  ⟨rfl, ⟨F5, F5, D5⟩, D5, D5, rfl⟩ ?_
 rintro i ⟨hi, hI⟩
 rcases D6 i S.length with h | h
 rotate_left
 · have u1 : decide ((i : Int) < ((S.map fun s => [dS s]).length : Int)) = false := A7 (by rw [A8]; omega)
   rw [D8 h] at hI
   rw [hI, Bool.and_true] at hR
   have u2 : decide (((S.map fun s => [dS s]).length : Int) ≤ 6) = R := by rw [hR, A8]; exact decide_eq_decide.2 (by omega)
   refine H2 V (B4 V (yN V (I3 V (B3 (O1 u1 V (F8 (H9 V (yN V (F9 V (A9 V (C4 ?_)))))))))))
   exact I9 _ (.tmp V .nil) (G6 (fun b => SV.d (dB b)) u2.symm)
 have u1 : decide ((i : Int) < ((S.map fun s => [dS s]).length : Int)) = true := B1 (by rw [A8]; omega)
 obtain ⟨x, hx⟩ := DL h
 have ex := ix (fun s => [dS s]) S i i x rfl hx
 have hw := J0 ((i : Int) + 1) (by omega)
 have GO := hsl _ (C0 hx)
 have k2 := Sv x (by omega)
 have arith : S.length - (i + 1) < S.length - i := by omega
 have K9 := TZ hx hI
 have AZ := all_no (p := fun x => Ke x || J5 x) hx
 clear hI hx hsl Lf
 obtain ⟨nb, hnb⟩ := I0 (J5 x)
 simp only [Ke] at K9 AZ hR
 rw [← hnb] at k2 K9 AZ
 by_cases h1 : x = [42]
 · have t1 : (!(x == [42])) = false := by simp [h1]
   refine H2 V (B4 V (yN V (I3 V (B3 (L8 u1 V (B2 (B0 (B8 (H9 V (B4 V (L6 ex V (K8 V V (N5 V V (B4 V ?_)))))))))))))); rw [t1]
   refine L4 V V (L4 V V (yO V (L3 V V (B4 V (L4 V V (L4 V V (L4 V V (L3 V V (yQ (F4 V (B2 (B6 (B4 V (F9 V (A9 V (B3 ?_))))))))))))))))
   exact ⟨i + 1, ⟨h, K9 (by simp [h1])⟩, arith, rfl, ⟨F5, Q7 hw, D5⟩, D5, D5, rfl⟩
 have t1 : (!(x == [42])) = true := by simp [h1]
 by_cases h2 : x = [43]
 · have t2 : (!(x == [43])) = false := by simp [h2]
   refine H2 V (B4 V (yN V (I3 V (B3 (L8 u1 V (B2 (B0 (B8 (H9 V (B4 V (L6 ex V (K8 V V (N5 V V (B4 V ?_)))))))))))))); rw [t1]
   refine B4 V (B4 V (L6 ex V (K8 V V (N5 V V (L2 V V (B4 V ?_)))))); rw [t2]; refine L4 V V (L4 V V (L4 V V (L3 V V (yQ (F4 V (B2 (B6 (B4 V (F9 V (A9 V (B3 ?_)))))))))))
   exact ⟨i + 1, ⟨h, K9 (by simp [h2])⟩, arith, rfl, ⟨F5, Q7 hw, D5⟩, D5, D5, rfl⟩
 have t2 : (!(x == [43])) = true := by simp [h2]
 cases nb with
 | true =>
  refine H2 V (B4 V (yN V (I3 V (B3 (L8 u1 V (B2 (B0 (B8 (H9 V (B4 V (L6 ex V (K8 V V (N5 V V (B4 V ?_)))))))))))))); rw [t1]
  refine B4 V (B4 V (L6 ex V (K8 V V (N5 V V (L2 V V (B4 V ?_)))))); rw [t2]; refine B4 V (B4 V (L6 ex V (K8 V V (yC (k2) V V (yU V V V (L2 V V (yQ (F4 V (B2 (B6 (B4 V (F9 V (A9 V (B3 ?_))))))))))))))
  exact ⟨i + 1, ⟨h, K9 (by simp)⟩, arith, V, ⟨F5, Q7 hw, D5⟩, D5, D5, V⟩
 | false =>
  rw [AZ (by simp [h1, h2]), Bool.and_false] at hR
  subst hR
  refine H2 V (B4 V (yN V (I3 V (B3 (L8 u1 V (B2 (B0 (B8 (H9 V (B4 V (L6 ex V (K8 V V (N5 V V (B4 V ?_)))))))))))))); rw [t1]
  refine B4 V (B4 V (L6 ex V (K8 V V (N5 V V (L2 V V (B4 V ?_)))))); rw [t2]; refine B4 V (B4 V (L6 ex V (K8 V V (yC (k2) V V (yU V V V (L2 V V (yQ (G4 V (E5 (A9 V (C4 (C3 (A6 (A6 (C3 (A6 ?_))))))))))))))))
  exact M8 V V
theorem Sw (l : List Ru) (n : Int) (hl : l.length ≤ 1000000) : PCalls Tryz.prog 23 [Q5 l, dI n] (.tup [.agg (AE (UH (EQ l n))), dB (EQ l n).isSome]) := by
 obtain ⟨r, hr⟩ := I0 (EQ l n)
 rw [← hr]
 refine M0 Tryz.func23 V Tryz.ntmps23 Tryz.results23 fun B w0 => ?_
 refine E5 (yZ (cs := [_, _]) V V (A9 V ?_)); refine S8 (R0 4 1 3 V V) ?_; refine B0 (E5 (A9 V (B8 ?_))); refine I1 (fun i : Nat => ⟨25, [(0, .d (Q5 l)), (1, .d (dI n)), (4, .bx 4 0), (6, .d (dI i))], [(4, [.d (dI 0), .d (.sl 3 [])])], []⟩) (fun i => i ≤ l.length ∧ (l.drop i).find? (fun r => r.1 == n) = r) (fun i => l.length - i) 0 ⟨E8 _, hr.symm⟩
  ⟨rfl, ⟨F5, F5, F5, F5, D5⟩, ⟨⟨_, rfl, H6 _⟩, D5⟩, D5, rfl⟩ ?_
 rintro i ⟨hi, hI⟩
 clear hr
 rcases D6 i l.length with h | h
 rotate_left
 · have u1 : decide ((i : Int) < ((l.map AE).length : Int)) = false := A7 (by rw [A8]; omega)
   rw [J8 h] at hI
   subst hI
   refine H2 V (B4 V (yN V (I3 V (B3 (O1 u1 V (F8 (E5 (yG (ys := [_, _]) V V (yS (cs' := [_, _]) V V V V V (A9 V ?_)))))))))); refine S8 (R0 4 1 3 V V) ?_; refine C4 ?_
   exact I9 _ (.agg D4 V V V V (.tmp V .nil)) V
 have u1 : decide ((i : Int) < ((l.map AE).length : Int)) = true := B1 (by rw [A8]; omega)
 obtain ⟨⟨m, ls⟩, hx⟩ : ∃ a, l[i]? = some a := ⟨_, A4 h⟩
 have ex := ix AE l i i (m, ls) rfl hx
 have hw := J0 ((i : Int) + 1) (by omega)
 obtain ⟨q1, q2⟩ := A5.1 hx
 rw [I2 q1, q2, List.find?_cons] at hI
 simp only at hI
 cases he : (m == n) with
 | true =>
  rw [he] at hI
  simp only at hI
  subst hI
  rw [show UH (some (m, ls)) = (m, ls) from rfl]
  refine H2 V (B4 V (yN V (I3 V (B3 (L8 u1 V (B2 (B0 (B8 (H9 V (B4 V (L6 ex V (X8 V V (K8 V V (B4 V (I3 V (B3 (L8 he V (H9 V (B4 V (L6 ex V (V0 (ys := [_, _]) V V V (yS (cs' := [_, _]) V V V V V (A9 V (C4 (C3 (A6 (A6 (C3 (A6 ?_)))))))))))))))))))))))))))))
  exact I9 _ (.agg D4 V V V V (.tmp V .nil)) V
 | false =>
  rw [he] at hI
  simp only at hI
  refine H2 V (B4 V (yN V (I3 V (B3 (L8 u1 V (B2 (B0 (B8 (H9 V (B4 V (L6 ex V (X8 V V (K8 V V (B4 V (I3 V (B3 (O1 he V (B2 (B6 (B4 V (F9 V (A9 V (B3 ?_)))))))))))))))))))))))
  exact ⟨i + 1, ⟨h, hI⟩, by omega, rfl, ⟨F5, F5, F5, Q7 hw, D5⟩, ⟨⟨_, rfl, H6 _⟩, D5⟩, D5, rfl⟩
def OO (w : F6) : Int := ((EE w).map (·.1)).getD 0
theorem kndL_at : ∀ k : Nat, k < 19 → ∃ kk, kndL[k]? = some kk ∧ kk.1 = (k + 1 : Nat) ∧ Fj ((k + 1 : Nat) : Int) = kk.2.1 := by decide
theorem wKindOf (w : F6) : PCalls Tryz.prog 86 [dS w] (.d (dI (OO w))) := by
 obtain ⟨r, hr⟩ := I0 (OO w)
 rw [← hr]
 unfold OO EE at hr
 have hkl : kndL.length = 19 := rfl
 refine M0 Tryz.func86 V Tryz.ntmps86 Tryz.results86 fun B w0 => ?_
 refine E5 (A9 V (B0 (E5 (A9 V (B8 ?_))))); refine I1 (fun i : Nat => ⟨13, [(0, .d (dS w)), (3, .d (dI ((i + 1 : Nat) : Int)))], [], []⟩) (fun i => i ≤ 19 ∧ (((kndL.drop i).find? fun k => k.2.1 == w).map (·.1)).getD 0 = r) (fun i => 19 - i) 0 ⟨E8 _, hr.symm⟩
  ⟨rfl, ⟨F5, F5, D5⟩, D5, D5, rfl⟩ ?_
 rintro i ⟨hi, hI⟩
 clear hr
 rcases D6 i 19 with h | h
 rotate_left
 · have u1 : decide (((i + 1 : Nat) : Int) ≤ 19) = false := A7 (by omega)
   rw [J8 (by omega)] at hI
   have VW : (0 : Int) = r := hI
   subst VW
   refine H2 V (I3 V (B3 (O1 u1 V (F8 (E5 (A9 V (C4 ?_)))))))
   exact M8 V V
 have u1 : decide (((i + 1 : Nat) : Int) ≤ 19) = true := B1 (by omega)
 obtain ⟨kk, e1, e2, e3⟩ := kndL_at i h
 have hw : IntKind.i64.wrap (((i + 1 : Nat) : Int) + 1) = ((i + 1 + 1 : Nat) : Int) := J0 _ (by omega)
 have c1 := KT ((i + 1 : Nat) : Int)
 rw [e3] at c1
 obtain ⟨q1, q2⟩ := A5.1 e1
 rw [I2 q1, q2, List.find?_cons] at hI
 obtain ⟨z, hz⟩ := I0 (kk.2.1)
 rw [← hz] at c1 hI
 have arith : 19 - (i + 1) < 19 - i := by omega
 cases he : (z == w) with
 | true =>
  rw [he] at hI
  have VW : ((i + 1 : Nat) : Int) = r := by rw [← e2]; exact hI
  subst VW
  clear hI e1 e2 e3 q1 q2 hz
  refine H2 V (I3 V (B3 (L8 u1 V (B2 (B0 (B8 (H9 V (yC (c1) V V (B4 V (N7 V V (yQ (B3 (L8 he V (H9 V (A9 V (C4 (C3 (A6 (A6 (C3 (A6 ?_)))))))))))))))))))))
  exact M8 V V
 | false =>
  rw [he] at hI
  clear e1 e2 e3 q1 q2 hz
  refine H2 V (I3 V (B3 (L8 u1 V (B2 (B0 (B8 (H9 V (yC (c1) V V (B4 V (N7 V V (yQ (B3 (O1 he V (B2 (B6 (B4 V (F9 V (A9 V (B3 ?_)))))))))))))))))))
  exact ⟨i + 1, ⟨h, hI⟩, arith, V, ⟨F5, Q7 hw, D5⟩, D5, D5, V⟩
abbrev rcT : Nat := 48 * 100000 + 2
def chtC : List F6 := chtA.map (·.1)
theorem cht_at : ∀ k : Nat, k < 16 → ∃ a, chtA[k]? = some a ∧ ∃ x t, a.1 = x :: t ∧ ((x = 51 ∧ a.2 = 3) ∨ (x = 52 ∧ a.2 = 4) ∨ (x = 53 ∧ a.2 = 5) ∨ (x ≠ 51 ∧ x ≠ 52 ∧ x ≠ 53 ∧ a.2 = 1)) := by
 intro k hk
 have hl : chtA.length = 16 := by kernel_rfl
 refine ⟨chtA[k], A4 (by omega), ?_⟩
 have BP : (chtA.all fun a => match a.1 with | x :: _ => (x == 51 && a.2 == 3) || (x == 52 && a.2 == 4) || (x == 53 && a.2 == 5) || (x != 51 && x != 52 && x != 53 && a.2 == 1) | [] => false) = true := by kernel_rfl
 have := D7.1 BP chtA[k] (List.getElem_mem _)
 split at this
 · rename_i x t e
   refine ⟨x, t, e, ?_⟩
   simp only [Bool.or_eq_true, C9, beq_iff_eq, bne_iff_ne] at this
   rcases this with ((h | h) | h) | h
   · exact .inl h
   · exact .inr (.inl h)
   · exact .inr (.inr (.inl h))
   · exact .inr (.inr (.inr ⟨h.1.1.1, h.1.1.2, h.1.2, h.2⟩))
 · cases this
theorem wRChart : PCalls Tryz.prog 30 [] (.d (.sl 2 (chtA.map Z9))) := by
 have hl : chtA.length = 16 := by kernel_rfl
 have DC : chtC.length = 16 := by kernel_rfl
 have Z7 := cht_at
 have hcat : ∀ (k : Nat) a, chtA[k]? = some a → chtC[k]? = some a.1 := fun k a h => by rw [chtC, C6, h]; rfl
 refine M0 Tryz.func30 V Tryz.ntmps30 Tryz.results30 fun B w0 => ?_
 refine E5 (A9 V (E5 ?_)); refine yR (es := chtC.map fun s => [dS s]) V V V (by kernel_rfl) V ?_; refine A9 V (E5 (yEb V (EZ V (yQ ?_)))); refine IL 2 6 rcT (n := 0) (es := []) (ds := []) V V V V V V V V ?_; refine B0 (E5 (A9 V (B8 ?_)))
 obtain ⟨C, hC⟩ := I0 (chtC)
 rw [← hC] at DC hcat ⊢
 refine I1 (fun i : Nat => ⟨34, [(1, .d (U7 C)), (2, .ts rcT 2 ((chtA.take i).map Z9)), (3, .d (dI i))], [], [(rcT, ((chtA.take i).map Z9).length)]⟩) (fun i => i ≤ 16) (fun i => 16 - i) 0 (E8 _)
  ⟨rfl, ⟨F5, F5, F5, D5⟩, D5, ⟨rfl, D5⟩, rfl⟩ ?_
 intro i hi
 rcases D6 i 16 with h | h
 rotate_left
 · have u1 : decide ((i : Int) < ((C.map fun s => [dS s]).length : Int)) = false := A7 (by rw [A8]; omega)
   have hA : chtA.take i = chtA := D8 (by omega)
   rw [hA]
   clear Z7 hcat hA
   obtain ⟨A, hA⟩ := I0 (chtA)
   rw [← hA]
   clear hA hl
   refine H2 V (B4 V (yN V (I3 V (B3 (O1 u1 V (F8 (E5 (Bk V (Cj V (yQ (C4 ?_)))))))))))
   exact M8 V V
 have u1 : decide ((i : Int) < ((C.map fun s => [dS s]).length : Int)) = true := B1 (by rw [A8]; omega)
 obtain ⟨⟨a0, a1⟩, e1, x, t, e2, e3⟩ := Z7 i h
 have hx := hcat i _ e1
 simp only at e2 e3 hx
 have ex := ix (fun s => [dS s]) C i i a0 rfl hx
 have JC : a0[((0 : Int)).toNat]? = some x := by rw [e2]; rfl
 have hw := J0 ((i : Int) + 1) (by omega)
 have arith : 16 - (i + 1) < 16 - i := by omega
 have Af : chtA.take (i + 1) = chtA.take i ++ [(a0, a1)] := by rw [G8, e1]; rfl
 have JS : ∀ n : UInt8, x ≠ n → ((x.toNat : Int) == (n.toNat : Int)) = false := fun n hn => G2 fun h => hn (UInt8.toNat_inj.1 (by omega))
 obtain ⟨Z, hZ⟩ := I0 (chtA.take i)
 have hZl : Z.length ≤ 16 := by rw [hZ, E4]; omega
 rw [← hZ] at Af ⊢
 obtain ⟨Z2, hZ2⟩ := I0 (chtA.take (i + 1))
 rw [← hZ2] at Af
 have fin : ∀ K, a1 = K → (SV.ts rcT 2 ((Z ++ [(a0, K)]).map Z9) = .ts rcT 2 ((chtA.take (i + 1)).map Z9)) ∧ ((Z ++ [(a0, K)]).map Z9).length = ((chtA.take (i + 1)).map Z9).length := fun K hK => by
  rw [← hZ2, Af, hK]; exact ⟨rfl, V⟩
 clear Z7 hcat hx e1 hZ hC e2 Af hZ2
 rcases e3 with ⟨k1, k2⟩ | ⟨k1, k2⟩ | ⟨k1, k2⟩ | ⟨k1, k2, k3, k4⟩
 · have t1 : ((x.toNat : Int) == 51) = true := by rw [k1]; rfl
   clear k1
   obtain ⟨K9, JE⟩ := fin 3 k2
   refine H2 V (B4 V (yN V (I3 V (B3 (L8 u1 V (B2 (B0 (B8 (E5 (A9 V (H2 V (B4 V (L6 ex V (K8 V V (U1 JC (by omega) V V (yQ (B8 (E5 (F9 V (A9 V (B3 (L8 t1 V (B6 (A9 V (B6 (Bk V (B4 V (B4 V (L6 ex V (K8 V V (B4 V (yG (ys := [_, _]) V V ?_)))))))))))))))))))))))))))))))); refine yR (es := [[_, _]]) V V V V V ?_; refine yT (es' := (Z ++ [(a0, 3)]).map Z9) (m := ((Z ++ [(a0, 3)]).map Z9).length) (by simp; omega) (by simp; omega) V V V V V (by simp) (by simp) ?_; refine Cj V (yQ (B6 (B4 V (F9 V (A9 V (B3 ?_))))))
   exact ⟨i + 1, h, arith, V, ⟨F5, .of_eq K9, Q7 hw, D5⟩, D5, ⟨G6 some JE, D5⟩, V⟩
 · have t1 : ((x.toNat : Int) == 51) = false := JS 51 (by rw [k1]; decide)
   have t2 : ((x.toNat : Int) == 52) = true := by rw [k1]; rfl
   clear k1
   obtain ⟨K9, JE⟩ := fin 4 k2
   refine H2 V (B4 V (yN V (I3 V (B3 (L8 u1 V (B2 (B0 (B8 (E5 (A9 V (H2 V (B4 V (L6 ex V (K8 V V (U1 JC (by omega) V V (yQ (B8 (E5 (F9 V (A9 V (B3 (O1 t1 V (E5 (F9 V (A9 V (B3 (L8 t2 V (B6 (A9 V (B6 (Bk V (B4 V (B4 V (L6 ex V (K8 V V (B4 V (yG (ys := [_, _]) V V ?_))))))))))))))))))))))))))))))))))))); refine yR (es := [[_, _]]) V V V V V ?_; refine yT (es' := (Z ++ [(a0, 4)]).map Z9) (m := ((Z ++ [(a0, 4)]).map Z9).length) (by simp; omega) (by simp; omega) V V V V V (by simp) (by simp) ?_; refine Cj V (yQ (B6 (B4 V (F9 V (A9 V (B3 ?_))))))
   exact ⟨i + 1, h, arith, V, ⟨F5, .of_eq K9, Q7 hw, D5⟩, D5, ⟨G6 some JE, D5⟩, V⟩
 · have t1 : ((x.toNat : Int) == 51) = false := JS 51 (by rw [k1]; decide)
   have t2 : ((x.toNat : Int) == 52) = false := JS 52 (by rw [k1]; decide)
   have t3 : ((x.toNat : Int) == 53) = true := by rw [k1]; rfl
   clear k1
   obtain ⟨K9, JE⟩ := fin 5 k2
   refine H2 V (B4 V (yN V (I3 V (B3 (L8 u1 V (B2 (B0 (B8 (E5 (A9 V (H2 V (B4 V (L6 ex V (K8 V V (U1 JC (by omega) V V (yQ (B8 (E5 (F9 V (A9 V (B3 (O1 t1 V (E5 (F9 V (A9 V (B3 (O1 t2 V (E5 (F9 V (A9 V (B3 (L8 t3 V (B6 (A9 V (B6 (Bk V (B4 V (B4 V (L6 ex V ?_))))))))))))))))))))))))))))))))))))))); refine K8 V V (B4 V (yG (ys := [_, _]) V V ?_)); refine yR (es := [[_, _]]) V V V V V ?_; refine yT (es' := (Z ++ [(a0, 5)]).map Z9) (m := ((Z ++ [(a0, 5)]).map Z9).length) (by simp; omega) (by simp; omega) V V V V V (by simp) (by simp) ?_; refine Cj V (yQ (B6 (B4 V (F9 V (A9 V (B3 ?_))))))
   exact ⟨i + 1, h, arith, V, ⟨F5, .of_eq K9, Q7 hw, D5⟩, D5, ⟨G6 some JE, D5⟩, V⟩
 · have t1 : ((x.toNat : Int) == 51) = false := JS 51 k1
   have t2 : ((x.toNat : Int) == 52) = false := JS 52 k2
   have t3 : ((x.toNat : Int) == 53) = false := JS 53 k3
   obtain ⟨K9, JE⟩ := fin 1 k4
   refine H2 V (B4 V (yN V (I3 V (B3 (L8 u1 V (B2 (B0 (B8 (E5 (A9 V (H2 V (B4 V (L6 ex V (K8 V V (U1 JC (by omega) V V (yQ (B8 (E5 (F9 V (A9 V (B3 (O1 t1 V (E5 (F9 V (A9 V (B3 (O1 t2 V (E5 (F9 V (A9 V (B3 (O1 t3 V (B2 (B6 (Bk V (B4 V (B4 V (L6 ex V (K8 V V ?_))))))))))))))))))))))))))))))))))))))); refine B4 V (yG (ys := [_, _]) V V ?_); refine yR (es := [[_, _]]) V V V V V ?_; refine yT (es' := (Z ++ [(a0, 1)]).map Z9) (m := ((Z ++ [(a0, 1)]).map Z9).length) (by simp; omega) (by simp; omega) V V V V V (by simp) (by simp) ?_; refine Cj V (yQ (B6 (B4 V (F9 V (A9 V (B3 ?_))))))
   exact ⟨i + 1, h, arith, V, ⟨F5, .of_eq K9, Q7 hw, D5⟩, D5, ⟨G6 some JE, D5⟩, V⟩
def Pa (s : F6) : Ln × Bool :=
 match S5 32 s with
 | w :: t :: _ :: _ => if (w = S0 ∨ w = N8) ∧ P1 J5 t = true then ((t, decide (w = N8), Nw (s.drop (w.length + t.length + 2))), decide (Nx (s.drop (w.length + t.length + 2)) = 0)) else (([], false, []), false)
 | _ => (([], false, []), false)
theorem rdV_eq (s : F6) : Tp (P1 J5) Ct s = if (Pa s).2 = true then some (Pa s).1 else none := by
 have key : ∀ (b : Ln × Bool), b = Pa s → Tp (P1 J5) Ct s = if b.2 = true then some b.1 else none := by
  intro b hb
  unfold Pa at hb
  unfold Tp
  obtain ⟨L, hL⟩ := I0 (S5 32 s)
  rw [← hL] at hb ⊢
  match L, hb with
  | [], hb => subst hb; rfl
  | [_], hb => subst hb; rfl
  | [_, _], hb => subst hb; rfl
  | w :: t :: _ :: _, hb =>
   dsimp only at hb ⊢
   by_cases h : (w = S0 ∨ w = N8) ∧ P1 J5 t = true
   · rw [B9 h] at hb ⊢
     subst hb
     rw [Ct]
     by_cases h0 : Nx (s.drop (w.length + t.length + 2)) = 0
     · rw [B9 h0]; simp [h0]
     · rw [B5 h0]; simp [h0]
   · rw [B5 h] at hb ⊢
     subst hb
     rfl
 exact key _ V
theorem Td {s w t : F6} {x : F6} {l : List F6} (h : S5 32 s = w :: t :: x :: l) : w.length + t.length + 2 ≤ s.length := by
 have h1 := BS 32 s
 cases e : T9 32 s with
 | none => rw [e, h] at h1; simp at h1
 | some p =>
  rw [e, h] at h1
  obtain ⟨q1, q2⟩ := List.cons.inj h1
  have hs := Ak e
  have h2 := BS 32 p.2
  cases e' : T9 32 p.2 with
  | none => rw [e', ← q2] at h2; simp at h2
  | some p' =>
   rw [e', ← q2] at h2
   obtain ⟨q3, q4⟩ := List.cons.inj h2
   have hr := Ak e'
   rw [hs, hr, q1, q3]
   simp
   omega
theorem GJ {c : UInt8} {s w : F6} (h : w ∈ S5 c s) : w.length ≤ s.length := Ej c s w h
theorem Ss (s : F6) (hs : s.length ≤ 65536) : PCalls Tryz.prog 87 [dS s] (.tup [.agg (Aa (Pa s).1), dB (Pa s).2]) := by
 have k1 := Sx s 32 (by omega)
 obtain ⟨⟨r0, r1⟩, hR⟩ := I0 (Pa s)
 obtain ⟨ra, rc, re⟩ := r0
 rw [← hR]
 unfold Pa at hR
 have hlen := fun w (h : w ∈ S5 32 s) => GJ h
 have h3 := @Td s
 obtain ⟨L, hL⟩ := I0 (S5 32 s)
 rw [← hL] at k1 hR hlen h3
 clear hL
 by_cases hl : L.length < 3
 · have t1 : decide (((L.map fun s => [dS s]).length : Int) < 3) = true := B1 (by rw [A8]; omega)
   have : (((ra, rc, re), r1) : Ln × Bool) = (([], false, []), false) := by
    rw [hR]
    split
    · simp at hl; omega
    · rfl
   cases this
   refine M0 Tryz.func87 V Tryz.ntmps87 Tryz.results87 fun B w0 => ?_
   refine E5 (yZ (cs := [_, _, _]) V V (A9 V ?_)); refine S8 (R0 2 2 2 V V) ?_; refine H9 V (yC (k1) V V (A9 V (H2 V (yN V (F9 V (B4 V ?_)))))); rw [t1]; refine L4 V V (L4 V V (L4 V V (L4 V V (L4 V V (L2 V V (B4 V (L4 V V (L4 V V (yO V (L2 V V (yQ (G4 V (E5 (yG (ys := [_, _, _]) V V (yS (cs' := [_, _, _]) V V V V V (A9 V ?_)))))))))))))))); refine S8 (R0 2 2 2 V V) ?_; refine C4 (A6 ?_)
   exact I9 _ (.agg D4 V V V V (.tmp V .nil)) V
 obtain ⟨w, t, x, l, rfl⟩ : ∃ w t x l, L = w :: t :: x :: l := by
  match L, hl with
  | w :: t :: x :: l, _ => exact ⟨w, t, x, l, V⟩
  | [], h => exact G5 (by simp) h
  | [_], h => exact G5 (by simp) h
  | [_, _], h => exact G5 (by simp) h
 have t1 : decide ((((w :: t :: x :: l).map fun s => ([dS s] : List DV)).length : Int) < 3) = false := A7 (by simp; omega)
 simp only at hR
 have hwl := hlen w (by simp)
 have htl := hlen t (by simp)
 have hsum := h3 rfl
 have i0 : ((w :: t :: x :: l).map fun s => ([dS s] : List DV))[((0 : Int)).toNat]? = some [dS w] := rfl
 have i1 : ((w :: t :: x :: l).map fun s => ([dS s] : List DV))[((1 : Int)).toNat]? = some [dS t] := rfl
 have c1 := wRTmp t (by omega)
 obtain ⟨M, hM⟩ := I0 ((w :: t :: x :: l).map fun s => ([dS s] : List DV))
 obtain ⟨tp, htp⟩ := I0 (P1 J5 t)
 rw [← htp] at c1 hR
 rw [← hM] at t1 i0 i1
 have k1' : PCalls Tryz.prog 85 [dS s, .val (.int .u8 (32 : UInt8).toNat)] (.d (.sl 1 M)) := by rw [hM]; exact k1
 clear hM k1 htp hlen h3
 by_cases hc : w = S0 ∨ w = N8
 rotate_left
 · have t2 : (!(w == [100, 101, 98, 105, 116])) = true := by
    have : ¬ w = S0 := fun h => hc (.inl h)
    simpa [S0] using this
   have t3 : (!(w == [99, 114, 101, 100, 105, 116])) = true := by
    have : ¬ w = N8 := fun h => hc (.inr h)
    simpa [N8] using this
   rw [B5 fun h => hc h.1] at hR
   cases hR
   refine M0 Tryz.func87 V Tryz.ntmps87 Tryz.results87 fun B w0 => ?_
   refine E5 (yZ (cs := [_, _, _]) V V (A9 V ?_)); refine S8 (R0 2 2 2 V V) ?_; refine H9 V (yC (k1') V V (A9 V (H2 V (yN V (F9 V (B4 V ?_)))))); rw [t1]; refine B4 V (yW i0 (by omega) V V (K8 V V (N5 V V (B4 V ?_)))); rw [t2]; refine B4 V (yW i0 (by omega) V V (K8 V V (N5 V V (L2 V V (L3 V V (B4 V ?_)))))); rw [t3]; refine L4 V V (L4 V V (yO V (L2 V V (yQ (G4 V (E5 (yG (ys := [_, _, _]) V V (yS (cs' := [_, _, _]) V V V V V (A9 V ?_))))))))); refine S8 (R0 2 2 2 V V) ?_; refine C4 (A6 ?_)
   exact I9 _ (.agg D4 V V V V (.tmp V .nil)) V
 cases tp with
 | false =>
  rw [B5 fun h => by cases h.2] at hR
  cases hR
  rcases hc with hc | hc
  · have t2 : (!(w == [100, 101, 98, 105, 116])) = false := by rw [hc]; rfl
    clear hc
    refine M0 Tryz.func87 V Tryz.ntmps87 Tryz.results87 fun B w0 => ?_
    refine E5 (yZ (cs := [_, _, _]) V V (A9 V ?_)); refine S8 (R0 2 2 2 V V) ?_; refine H9 V (yC (k1') V V (A9 V (H2 V (yN V (F9 V (B4 V ?_)))))); rw [t1]; refine B4 V (yW i0 (by omega) V V (K8 V V (N5 V V (B4 V ?_)))); rw [t2]; refine L4 V V (L4 V V (L3 V V (L3 V V (B4 V (B4 V (yW i1 (by omega) V V (K8 V V (yC (c1) V V (yU V V V (L3 V V (yQ (G4 V (E5 (yG (ys := [_, _, _]) V V (yS (cs' := [_, _, _]) V V V V V (A9 V ?_)))))))))))))))); refine S8 (R0 2 2 2 V V) ?_; refine C4 (A6 ?_)
    exact I9 _ (.agg D4 V V V V (.tmp V .nil)) V
  · have t2 : (!(w == [100, 101, 98, 105, 116])) = true := by rw [hc]; rfl
    have t3 : (!(w == [99, 114, 101, 100, 105, 116])) = false := by rw [hc]; rfl
    clear hc
    refine M0 Tryz.func87 V Tryz.ntmps87 Tryz.results87 fun B w0 => ?_
    refine E5 (yZ (cs := [_, _, _]) V V (A9 V ?_)); refine S8 (R0 2 2 2 V V) ?_; refine H9 V (yC (k1') V V (A9 V (H2 V (yN V (F9 V (B4 V ?_)))))); rw [t1]; refine B4 V (yW i0 (by omega) V V (K8 V V (N5 V V (B4 V ?_)))); rw [t2]; refine B4 V (yW i0 (by omega) V V (K8 V V (N5 V V (L2 V V (L3 V V (B4 V ?_)))))); rw [t3]; refine B4 V (yW i1 (by omega) V V (K8 V V (yC (c1) V V (yU V V V (L3 V V (yQ (G4 V (E5 (yG (ys := [_, _, _]) V V (yS (cs' := [_, _, _]) V V V V V (A9 V ?_))))))))))); refine S8 (R0 2 2 2 V V) ?_; refine C4 (A6 ?_)
    exact I9 _ (.agg D4 V V V V (.tmp V .nil)) V
 | true =>
  rw [B9 ⟨hc, rfl⟩] at hR
  have Fp : IntKind.i64.wrap ((w.length : Int) + (t.length : Int)) = ((w.length + t.length : Nat) : Int) := by rw [J0 _ (by omega)]; omega
  have HH : IntKind.i64.wrap (((w.length + t.length : Nat) : Int) + 2) = ((w.length + t.length + 2 : Nat) : Int) := by rw [J0 _ (by omega)]; omega
  have hle : ((w.length + t.length + 2 : Nat) : Int) ≤ (s.length : Int) := by omega
  have hD : s.drop (((w.length + t.length + 2 : Nat) : Int)).toNat = s.drop (w.length + t.length + 2) := by rw [H0]
  have k2 := wRParse (s.drop (w.length + t.length + 2)) (by rw [M7]; omega)
  obtain ⟨X, hX⟩ := I0 (s.drop (w.length + t.length + 2))
  rw [← hX] at k2 hR hD
  obtain ⟨e, he⟩ := I0 (Nw X)
  obtain ⟨y, hy⟩ := I0 (Nx X)
  rw [← he, ← hy] at k2 hR
  clear hX he hy
  rcases hc with hc | hc
  · have t2 : (!(w == [100, 101, 98, 105, 116])) = false := by rw [hc]; rfl
    have t5 : (w == [99, 114, 101, 100, 105, 116]) = false := by rw [hc]; rfl
    have t6 : decide (w = N8) = false := by rw [hc]; rfl
    rw [t6] at hR
    cases hR
    clear hc t6
    refine M0 Tryz.func87 V Tryz.ntmps87 Tryz.results87 fun B w0 => ?_
    refine E5 (yZ (cs := [_, _, _]) V V (A9 V (H9 V (yC (k1') V V (A9 V (H2 V (yN V (F9 V (B4 V ?_))))))))); rw [t1]; refine B4 V (yW i0 (by omega) V V (K8 V V (N5 V V (B4 V ?_)))); rw [t2]; refine L4 V V (L4 V V (L3 V V (L3 V V (B4 V (B4 V (yW i1 (by omega) V V (K8 V V (yC (c1) V V (yU V V V (L3 V V (yQ (F4 V (B2 (B0 ?_)))))))))))))); refine J2 Tryz.mixed (by kernel_rfl) ?_; refine B4 V (B4 V (yW i0 (by omega) V V (K8 V V (O2 V (B4 V (yW i1 (by omega) V V (K8 V V (O2 V (F9 V (F9 V ?_)))))))))); rw [Fp]; rw [HH]; refine U9 (by omega) hle hD V V (yC (k2) V V (O6 V (yX V V (yX V V (H5 V (A9 V (B0 ?_))))))); refine J2 Tryz.mixed (by kernel_rfl) ?_; refine B4 V (yW i1 (by omega) V V (K8 V V (B4 V (yW i0 (by omega) V V (K8 V V (N7 V V (B4 V (yG (ys := [_, _, _]) V V (B4 V (F9 V (yS (cs' := [_, _, _]) V V V V V (A9 V (C4 ?_))))))))))))); rw [t5]
    exact I9 _ (.agg D4 V V V V (.tmp V .nil)) V
  · have t2 : (!(w == [100, 101, 98, 105, 116])) = true := by rw [hc]; rfl
    have t3 : (!(w == [99, 114, 101, 100, 105, 116])) = false := by rw [hc]; rfl
    have t5 : (w == [99, 114, 101, 100, 105, 116]) = true := by rw [hc]; rfl
    have t6 : decide (w = N8) = true := by rw [hc]; rfl
    rw [t6] at hR
    cases hR
    clear hc t6
    refine M0 Tryz.func87 V Tryz.ntmps87 Tryz.results87 fun B w0 => ?_
    refine E5 (yZ (cs := [_, _, _]) V V (A9 V (H9 V (yC (k1') V V (A9 V (H2 V (yN V (F9 V (B4 V ?_))))))))); rw [t1]; refine B4 V (yW i0 (by omega) V V (K8 V V (N5 V V (B4 V ?_)))); rw [t2]; refine B4 V (yW i0 (by omega) V V (K8 V V (N5 V V (L2 V V (L3 V V (B4 V ?_)))))); rw [t3]
    refine B4 V (yW i1 (by omega) V V (K8 V V (yC (c1) V V (yU V V V (L3 V V (yQ (F4 V (B2 (B0 ?_))))))))); refine J2 Tryz.mixed (by kernel_rfl) ?_; refine B4 V (B4 V (yW i0 (by omega) V V (K8 V V (O2 V (B4 V (yW i1 (by omega) V V (K8 V V (O2 V (F9 V (F9 V ?_)))))))))); rw [Fp]; rw [HH]; refine U9 (by omega) hle hD V V (yC (k2) V V (O6 V (yX V V (yX V V (H5 V (A9 V (B0 ?_))))))); refine J2 Tryz.mixed (by kernel_rfl) ?_; refine B4 V (yW i1 (by omega) V V (K8 V V (B4 V (yW i0 (by omega) V V (K8 V V (N7 V V (B4 V (yG (ys := [_, _, _]) V V (B4 V (F9 V (yS (cs' := [_, _, _]) V V V V V (A9 V (C4 ?_))))))))))))); rw [t5]
    exact I9 _ (.agg D4 V V V V (.tmp V .nil)) V
end Go.Proofs.YtddfimjiihggmaaGreatDoor
namespace Go.Proofs.YtddfimjiihggmaaGreatDoor.Px
open Go.RowKit
variable {rs : List (Int × List (List DV))} {v : Value} {i : EI} {El Er : Nat}
theorem Fu (l : EB) : ∃ N, ∀ b, N ≤ b → G1 l b = none := by
 induction l with
 | nil => exact ⟨0, fun b _ => V⟩
 | cons p l ih =>
  obtain ⟨N, hN⟩ := ih
  refine ⟨N + p.1 + 1, fun b hb => ?_⟩
  obtain ⟨k, v⟩ := p
  rw [G3, B5 (by dsimp only at hb; omega)]
  exact hN b (by omega)
theorem InR.any {bo bo' : Nat} {cells : List Value} (h : InR i bo v El rs cells) (hb : G1 i.bs bo' = none) : InR i bo' v El rs cells := by
 refine ⟨fun j r hj => ?_, h.2⟩
 obtain ⟨t1, lv, lc, t2, t3, t4, t5⟩ := h.1 j r hj
 refine ⟨t1, lv, lc, t2, t3, fun b e => ⟨fun e2 => ?_, (t4 b e).2⟩, t5⟩
 obtain ⟨xs, hx⟩ := t3.blk e
 rw [e2, hb] at hx
 cases hx
def RBn (i : EI) (v : Value) (Er El : Nat) (rs : List (Int × List (List DV))) : Prop := ∃ cells bo, RowAt i.bs Er 2 v rs.length cells ∧ InR i bo v El rs cells
def RB (i : EI) (v : Value) (Er El : Nat) (rs : List (Int × List (List DV))) : Prop :=
 (rs = [] ∧ ∃ b c xs, v = .slice (some ⟨b, 0, none⟩) 0 c ∧ G1 i.bs b = some (xs, Er) ∧ xs.length = c * 2 ∧ c ≤ maxLen) ∨ (rs ≠ [] ∧ RBn i v Er El rs)
theorem RB.it {it : Option (Nat × List (Value × DV) × List (Value × DV))} (h : RB i v Er El rs) : RB ⟨i.bs, i.fs, it⟩ v Er El rs := h
theorem RBn.slice (h : RBn i v Er El rs) (hn : rs ≠ []) : ∃ b c xs, v = .slice (some ⟨b, 0, none⟩) rs.length c ∧ rs.length ≤ c ∧ c ≤ maxLen ∧ G1 i.bs b = some (xs, Er) ∧ xs.length = c * 2 := by
 obtain ⟨cells, bo, h1, -⟩ := h
 obtain ⟨b, c, xs, e1, e2, e3, e4, e5, -⟩ := h1.pos (List.length_pos_iff.2 hn)
 exact ⟨b, c, xs, e1, e2, e3, e4, e5⟩
theorem RB.slice (h : RB i v Er El rs) : ∃ b c xs, v = .slice (some ⟨b, 0, none⟩) rs.length c ∧ rs.length ≤ c ∧ c ≤ maxLen ∧ G1 i.bs b = some (xs, Er) ∧ xs.length = c * 2 := by
 rcases h with ⟨rfl, b, c, xs, e1, e2, e3, e4⟩ | ⟨h1, h2⟩
 · exact ⟨b, c, xs, e1, E8 _, e4, e2, e3⟩
 · exact h2.slice h1
theorem RB.one (h : RB i v Er El rs) : v.oneCell' = true := by
 obtain ⟨b, c, xs, rfl, -⟩ := h.slice
 rfl
theorem RA.strip {j : EI} {bo To : Nat} {xs0 : List Value} (h : RA j bo Er El rs) (GQ : G1 j.bs bo = some (xs0, To)) (hx : xs0[0]? = some v) {bs0 : EB} (hk : ∀ x, x ≠ bo → G1 bs0 x = G1 j.bs x) {it : Option (Nat × List (Value × DV) × List (Value × DV))} : RBn ⟨bs0, j.fs, it⟩ v Er El rs := by
 obtain ⟨xs1, To1, v1, cells, h1, h2, h3, h4, h5⟩ := h
 rw [GQ] at h1
 cases h1
 rw [hx] at h2
 cases h2
 refine ⟨cells, bo, h3.keep fun b hb => hk b fun e => h4 (e ▸ hb), fun m r hm => ?_, h5.2⟩
 obtain ⟨t1, lv, lc, t2, t3, t4, t5⟩ := h5.1 m r hm
 exact ⟨t1, lv, lc, t2, t3.keep fun b hb => hk b (t4 b hb).1, t4, t5⟩
theorem RBn.lift {bo : Nat} (h : RBn i v Er El rs) (GQ : G1 i.bs bo = none) : ∃ cells, RowAt i.bs Er 2 v rs.length cells ∧ v.ownBlock ≠ some bo ∧ InR ⟨(bo, ([v], 0)) :: i.bs, i.fs, i.it⟩ bo v El rs cells := by
 obtain ⟨cells, bo', h1, h2⟩ := h
 have h3 := h2.any GQ
 refine ⟨cells, h1, fun e => ?_, fun m r hm => ?_, h3.2⟩
 · obtain ⟨xs, hx⟩ := h1.blk e
   rw [GQ] at hx
   cases hx
 · obtain ⟨t1, lv, lc, t2, t3, t4, t5⟩ := h3.1 m r hm
   exact ⟨t1, lv, lc, t2, t3.keep fun b hb => by rw [G3, B5 (t4 b hb).1], t4, t5⟩
theorem RB.push {b c b' c' : Nat} {xs xs' news : List Value} {fs' : List (Value × DV)} {it' : Option (Nat × List (Value × DV) × List (Value × DV))} {n : Int}
 (h : RB i v Er El rs) (hv : v = .slice (some ⟨b, 0, none⟩) rs.length c) (hb : G1 i.bs b = some (xs, Er)) (q3 : b' = b ∨ G1 i.bs b' = none) (q5 : news.length = 2) (q7 : xs'.length = c' * 2) (q8 : rs.length + 1 ≤ c') (q9 : c' ≤ maxLen)
 (q10 : xs'.take ((rs.length + 1) * 2) = xs.take (rs.length * 2) ++ news) (q6 : Na news [.val (vI n), .val (.slice none 0 0)]) (Hj : ∀ q ∈ i.fs, q ∈ fs') :
 RB ⟨(b', (xs', Er)) :: i.bs.del b, fs', it'⟩ (.slice (some ⟨b', 0, none⟩) (rs.length + 1) c') Er El (rs ++ [(n, [])]) := by
 refine .inr ⟨by simp, ?_⟩
 obtain ⟨N, hN⟩ := Fu i.bs
 obtain ⟨bo, ho1, ho2, SZ⟩ : ∃ bo, N ≤ bo ∧ bo ≠ b' ∧ bo ≠ b := ⟨N + b' + b + 1, by omega, by omega, by omega⟩
 have GQ := hN bo ho1
 have hnb : G1 ((b', (xs', Er)) :: i.bs.del b) bo = none := by rw [G3, B5 ho2, BL, B5 SZ, GQ]
 have strip := fun (w : Value) (EL : RA ⟨(bo, (Bl [w] 0 [.slice (some ⟨b', 0, none⟩) (rs.length + 1) c'], 0)) :: ((bo, ([w], 0)) :: (b', (xs', Er)) :: i.bs.del b), fs', it'⟩ bo Er El (rs ++ [(n, [])])) =>
  RA.strip (it := it') EL (by rw [G3, B9 rfl]) rfl (bs0 := (b', (xs', Er)) :: i.bs.del b) fun x hx => by dsimp only; conv => rhs; rw [G3, B5 hx, G3, B5 hx]
 have EK : ∀ (w : Value) (cells : List Value), xs.take (rs.length * 2) = cells → cells.length = rs.length * 2 → RowAt ((bo, ([w], 0)) :: (b', (xs', Er)) :: i.bs.del b) Er 2 (.slice (some ⟨b', 0, none⟩) (rs.length + 1) c') (rs.length + 1) (cells ++ news) := fun w cells hc hl =>
  ⟨by rw [D3, hl, q5]; omega, .inr ⟨b', c', xs', rfl, by omega, q8, q9, by rw [G3, B5 (Ne.symm ho2), G3, B9 rfl], q7, by rw [q10, hc]⟩⟩
 rcases h with ⟨rfl, b1, c1, xs1, e1, e2, e3, e4⟩ | ⟨O4, hn⟩
 · refine strip (.slice none 0 0) (RA.push (i := ⟨(bo, ([.slice none 0 0], 0)) :: i.bs.del b, i.fs, i.it⟩) (bo := bo) (To := 0) (b' := b') (rs := []) (xs0 := [.slice none 0 0]) (vs := [.slice (some ⟨b', 0, none⟩) (0 + 1) c']) (news := news) (cells := []) (v := .slice none 0 0) (v' := .slice (some ⟨b', 0, none⟩) (0 + 1) c') (bs' := (bo, ([.slice none 0 0], 0)) :: (b', (xs', Er)) :: i.bs.del b)
    (by dsimp only; rw [G3, B9 rfl]) rfl (by simp [Value.ownBlock]) ⟨fun j r hj => by simp at hj, fun j j' lv lv' x hj => by simp at hj⟩ rfl rfl (EK _ [] (by simp) rfl) (.inr ?_) (fun x hx _ => ?_) q5 q6 rfl (fun j u w hj hw => ?_) Hj)
   · dsimp only
     rw [G3, B5 (Ne.symm ho2), BL]
     rcases q3 with q3 | q3
     · rw [B9 q3]
     · split
       · rfl
       · exact q3
   · rw [G3]
     by_cases e : x = bo
     · rw [B9 e, e]; dsimp only; rw [G3, B9 rfl]
     · rw [B5 e, G3, B5 hx]; dsimp only; rw [G3, B5 e]
   · match j with
     | 0 => cases hj; cases hw; rfl
     | j + 1 => simp at hj
 · obtain ⟨cells, h1, h2, h3⟩ := hn.lift GQ
   obtain ⟨b1, c1, xs1, e1, -, -, e4, -, e6⟩ := h1.pos (List.length_pos_iff.2 O4)
   have e7 : b1 = b := by
    rw [hv] at e1
    have := (Value.slice.inj e1).1
    simpa using this.symm
   subst e7
   rw [hb] at e4
   cases e4
   refine strip v (RA.push (i := ⟨(bo, ([v], 0)) :: i.bs, i.fs, i.it⟩) (bo := bo) (To := 0) (b' := b') (rs := rs) (xs0 := [v]) (vs := [.slice (some ⟨b', 0, none⟩) (rs.length + 1) c']) (news := news) (cells := cells) (v := v) (v' := .slice (some ⟨b', 0, none⟩) (rs.length + 1) c') (bs' := (bo, ([v], 0)) :: (b', (xs', Er)) :: i.bs.del b1)
    (by dsimp only; rw [G3, B9 rfl]) rfl h2 h3 h1.1 rfl (EK v cells e6 h1.1) ?_ (fun x hx hvx => ?_) q5 q6 rfl (fun j u w hj hw => ?_) Hj)
   · rcases q3 with q3 | q3
     · exact .inl (by rw [hv, q3]; rfl)
     · exact .inr (by dsimp only; rw [G3, B5 (Ne.symm ho2)]; exact q3)
   · rw [G3]
     by_cases e : x = bo
     · rw [B9 e, e]; dsimp only; rw [G3, B9 rfl]
     · rw [B5 e, G3, B5 hx, BL, B5 fun e2 => hvx (by rw [hv, e2]; rfl)]; dsimp only; rw [G3, B5 e]
   · match j with
     | 0 => cases hj; cases hw; rfl
     | j + 1 => simp at hj
theorem RB.last {r : Int × List (List DV)} (h : RB i v Er El (rs ++ [r])) : ∃ br c xs lv lc, v = .slice (some ⟨br, 0, none⟩) (rs.length + 1) c ∧ G1 i.bs br = some (xs, Er) ∧ rs.length * 2 + 1 + 1 ≤ xs.length ∧ xs[rs.length * 2 + 1]? = some lv ∧ lv.oneCell' = true ∧ RowAt i.bs El 3 lv r.2.length lc ∧ lv.ownBlock ≠ some br ∧
 ∀ (v' : Value) (b' : Nat) (bs' : EB) (news vs : List Value) (e : List DV) (fs' : List (Value × DV)) (it' : Option (Nat × List (Value × DV) × List (Value × DV))), v'.ownBlock = some b' → RowAt bs' El 3 v' (r.2.length + 1) (lc ++ news) → (lv.ownBlock = some b' ∨ G1 i.bs b' = none) → (∀ b, b ≠ b' → lv.ownBlock ≠ some b → G1 bs' b = G1 i.bs b) → news.length = 3 → e.length = 3 → (∀ u ∈ news, u.oneCell' = true) → vs.length = 1 → Na vs [.val v'] → (∀ q ∈ i.fs, q ∈ fs') → (∀ q ∈ news.zip e, q ∈ fs') →
  RB ⟨(br, (Bl xs (rs.length * 2 + 1) vs, Er)) :: bs', fs', it'⟩ v Er El (rs ++ [(r.1, r.2 ++ [e])]) := by
 rcases h with ⟨h, -⟩ | ⟨O4, hn⟩
 · simp at h
 obtain ⟨N, hN⟩ := Fu i.bs
 obtain ⟨cells, h1, -, h5⟩ := hn.lift (hN N (D9 _))
 have hlen : (rs ++ [r]).length = rs.length + 1 := by simp
 rw [hlen] at h1
 obtain ⟨br, c, xs, rfl, x2, x3, x1, x4, x5⟩ := h1.pos (by omega)
 have X3 : (rs ++ [r])[rs.length]? = some r := by rw [E3 (D9 _), Nat.sub_self]; rfl
 obtain ⟨-, lv, lc, q1, q2, q3, q4⟩ := h5.1 _ _ X3
 have hu : xs[rs.length * 2 + 1]? = some lv := by
  have q1' := q1
  rw [← x5] at q1'
  have := (A5.1 q1').1
  rw [E4] at this
  rwa [E0 (by omega)] at q1'
 have q2' : RowAt i.bs El 3 lv r.2.length lc := q2.keep fun b hb => by dsimp only; rw [G3, B5 (q3 b hb).1]
 refine ⟨br, c, xs, lv, lc, V, x1, by omega, hu, q2.one, q2', fun e => (q3 br e).2 rfl, fun v' b' bs' news vs e fs' it' w1 w2 w3 w4 w5 w9 w6 w7 w8 wf wn => .inr ⟨by simp, ?_⟩⟩
 obtain ⟨N', hN'⟩ := Fu bs'
 obtain ⟨bo, ho1, ho2, SZ, ho4⟩ : ∃ bo, N ≤ bo ∧ N' ≤ bo ∧ bo ≠ b' ∧ bo ≠ br := ⟨N + N' + b' + br + 1, by omega, by omega, by omega, by omega⟩
 have GQ := hN bo ho1
 obtain ⟨cells2, g1, g2, g3⟩ := hn.lift GQ
 have hcc : cells2 = cells := by
  rw [hlen] at g1
  obtain ⟨br2, c2, xs2, e1, -, -, y1, -, y5⟩ := g1.pos (by omega)
  cases e1
  rw [x1] at y1
  cases y1
  rw [← y5, x5]
 subst hcc
 have hlvb : ∀ b, lv.ownBlock = some b → b ≠ bo := fun b hb => by
  obtain ⟨-, lv2, lc2, z2, -, z4, -⟩ := g3.1 _ _ X3
  rw [q1] at z2
  cases z2
  exact (z4 b hb).1
 have EL := RA.line (i := ⟨(bo, ([.slice (some ⟨br, 0, none⟩) (rs.length + 1) c], 0)) :: i.bs, i.fs, i.it⟩) (bo := bo) (br := br) (Er := Er) (El := El) (To := 0) (c := c) (b' := b') (rs := rs) (r := r) (e := e) (xs0 := [.slice (some ⟨br, 0, none⟩) (rs.length + 1) c]) (xs := xs) (vs := vs) (news := news) (cells := cells2) (lc := lc) (lv := lv) (v' := v') (bs' := (bo, ([.slice (some ⟨br, 0, none⟩) (rs.length + 1) c], 0)) :: bs') (fs' := fs') (it' := it')
  (by dsimp only; rw [G3, B9 rfl]) rfl (Ne.symm ho4) g3 (by rw [← x5, E4]; omega) (by dsimp only; rw [G3, B5 (Ne.symm ho4)]; exact x1) x2 x3 x4 x5 q1 (q2'.keep fun b hb => by dsimp only; rw [G3, B5 (hlvb b hb)]) q4 w1 (w2.keep fun b hb => by
   rw [w1] at hb
   cases hb
   rw [G3, B5 (Ne.symm SZ)]) (by
   rcases w3 with w3 | w3
   · exact .inl w3
   · exact .inr (by dsimp only; rw [G3, B5 (Ne.symm SZ)]; exact w3)) (fun b hb hl => by
   rw [G3]
   by_cases e2 : b = bo
   · rw [B9 e2, e2]; dsimp only; rw [G3, B9 rfl]
   · rw [B5 e2]; dsimp only; rw [G3, B5 e2]; exact w4 b hb hl) w5 w9 w6 w7 w8 wf wn
 refine RA.strip (it := it') EL (To := 0) (xs0 := [.slice (some ⟨br, 0, none⟩) (rs.length + 1) c]) (by dsimp only; rw [G3, B5 ho4, G3, B9 rfl]) rfl fun x hx => ?_
 dsimp only
 rw [G3]
 by_cases e2 : x = br
 · rw [B9 e2, G3, B9 e2]
 · rw [B5 e2, G3, B5 e2, G3, B5 hx]
theorem RB.data (h : RB i v Er El rs) {F : Nat → Nat → Prop} {w : World} (Dq : ∀ (b : Nat) (xs : List Value) (T : Nat), G1 i.bs b = some (xs, T) → w.heap[b]? = some (.cells xs.toArray T (0, 0)) ∧ ∀ o, F b o) (Hj : ∀ q ∈ i.fs, DRep F w q.1 q.2) :
 DRep F w v (.sl 2 (rs.map fun r => [.val (vI r.1), .sl 3 r.2])) := by
 rcases h with ⟨rfl, b, c, xs, rfl, -⟩ | ⟨-, cells, bo, h3, h5⟩
 · exact .sl (fun _ _ => undef) V (E8 _) (by simp) (fun e he => by simp at he) (fun h => by omega) (fun i j hi => by omega) fun i j e x he => by simp at he
 refine h3.data Dq (by simp) (fun e he => ?_) fun m l q x hm hq => ?_
 · obtain ⟨r, -, rfl⟩ := G7.1 he; rfl
 · rw [C6, C7] at hm
   obtain ⟨r, hr, rfl⟩ := hm
   obtain ⟨t1, lv, lc, t2, t3, t4, t5⟩ := h5.1 m r hr
   match q with
   | 0 => cases hq; exact ⟨_, t1, V, DRep.val _ V⟩
   | 1 =>
    cases hq
    refine ⟨lv, t2, t3.one, t3.data Dq V (fun e he => ?_) fun m' l' q' x' NU hq' => ?_⟩
    · obtain ⟨m', NU⟩ := List.mem_iff_getElem?.1 he
      exact (t5 m' e NU).1
    · obtain ⟨u, u1, u2, u3⟩ := (t5 m' l' NU).2 q' x' hq'
      exact ⟨u, u1, u2, Hj _ u3⟩
   | q + 2 => simp at hq
section
variable {P : Program} {rl : Option Nat} {d0 : Nat} {p : EP} {Q : Exit → PS → EI → Prop} {st : PS}
theorem Tt {c : Code} (s i0 : Nat) {n E k : Nat} {vs : List Value} (VA : st.get s = .bs i0 n E k) (hb : st.bget i0 = some (vs.map fun v => .d (.val v)))
 (h : ∀ b m xs, xs.take vs.length = vs → xs.length = m * k → n ≤ m → m ≤ maxLen → G1 i.bs b = none → PX P rl d0 (HE p) c Q ((st.kill i0).put (some s) (.d (.val (.slice (some ⟨b, 0, none⟩) n m)))) ⟨(b, (xs, E)) :: i.bs, i.fs, i.it⟩) (hlt : Nat.blt i0 500000 = true := by rfl) : PX P rl d0 (HE p) c Q st i := fun g a w hs hX => by
 have hr := hs.2
 obtain ⟨b, xs, T, h1, h2, h3, h4, h5⟩ := hr.boxes i0 _ hb (B7 hlt)
 obtain ⟨s0, kp, J9⟩ := hs.killb h1
 have Dq := hr.slots s
 rw [VA] at Dq
 obtain ⟨b', m, q1, q2, q3, q4, q5⟩ := Dq
 rw [h1] at q1
 cases q1
 have QF : T = E ∧ xs.size = m * k := by
  simp only [World.shape?, h2, Option.some.injEq, Prod.mk.injEq] at q5
  exact q5
 obtain ⟨rfl, AL⟩ := QF
 have BZ : G1 i.bs b = none := by
  cases e : G1 i.bs b with
  | none => rfl
  | some q => obtain ⟨ys, T'⟩ := q; exact G5 (.inr (.inl ⟨i0, h1⟩)) (hX.bs b ys T' e).2.1
 have hvs : xs.toList.take vs.length = vs := by
  refine List.ext_getElem? fun j => ?_
  by_cases hj : j < vs.length
  · rw [E0 hj, A4 hj]
    obtain ⟨u, hu, hu2⟩ := h4 j (.d (.val vs[j])) (by rw [C6, A4 hj]; rfl)
    rw [Array.getElem?_toList, hu, DRep.val_eq hu2]
  · rw [H4 (by rw [E4]; omega), H4 (by omega)]
 refine h b m xs.toList hvs (by simpa using AL) q3 q4 BZ _ a w ⟨s0.1, { s0.2 with lim := s0.2.lim, size := s0.2.size, boxes := s0.2.boxes, maps := s0.2.maps, dom := s0.2.dom, tdom := s0.2.tdom, tlen := s0.2.tlen, glob := s0.2.glob, slots := fun j => ?_ }⟩ ⟨hX.os, hX.tape, hX.output, hX.size, hX.block, fun b o hf => hX.f0 b o hf.1, hX.new, fun b ho => hX.own b (J9 b ho).1, hX.gl, fun q hq => (hX.fs q hq).mono kp, fun b' xs' T' e => ?_, hX.it.keep (fun _ _ _ _ => rfl) (fun b ho => (J9 b ho).1) kp⟩
 · rw [R5]
   by_cases e : j = s
   · rw [B9 e, e, q2]; exact DRep.val _ V
   · rw [B5 e]; exact s0.2.slots j
 · dsimp only at e
   rw [G3] at e
   split at e
   · rename_i e2; subst e2; cases e
     exact ⟨by simpa using h2, fun ho => (J9 _ ho).2 rfl, fun k hk => hk.2 rfl, .inl (hX.own _ (.inr (.inl ⟨i0, h1⟩)))⟩
   · obtain ⟨t1, t2, t3, t4⟩ := hX.bs b' xs' T' e
     exact ⟨t1, fun ho => t2 (J9 _ ho).1, fun k hk => t3 k hk.1, t4⟩
end
end Go.Proofs.YtddfimjiihggmaaGreatDoor.Px