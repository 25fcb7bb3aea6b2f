/- slices.SortFunc at accounts, by their codes: the row that it is handed holds a sorted permutation. -/
import Derived.Test.YtddfimjiihggmaaGreatDoorB12
import Derived.Shelf.SlSortCmp.NoneTotal
set_option maxHeartbeats 16000000
set_option maxRecDepth 20000
namespace Go.Proofs.YtddfimjiihggmaaGreatDoor
open Go.RowKit Px Go.Sort Go.Shelf Go.Lib
end Go.Proofs.YtddfimjiihggmaaGreatDoor
namespace Go.Proofs.YtddfimjiihggmaaGreatDoor.Px
open Go.RowKit
section
variable {P : Program} {ops : Array Oper} {K : PS → Prop} {rest : List Oper} {st : PS} {ty : TypeId} {pos : String} {af : Array Edge} {gd : Option (Nat × Bool)}
end
end Go.Proofs.YtddfimjiihggmaaGreatDoor.Px
namespace Go.Proofs.YtddfimjiihggmaaGreatDoor
open Go.RowKit Px Go.Sort Go.Shelf Go.Lib
open Go.RowKit Px
theorem QS {l : List Ac} (h : IX l = false) : l.length ≤ 259 ∧ ∀ a ∈ l, a.1.length ≤ 120 := by
 unfold IX at h
 simp only [Bool.or_eq_false_iff, Bool.and_eq_false_iff, decide_eq_false_iff_not, List.any_eq_false, decide_eq_true_eq] at h
 exact ⟨by omega, fun a ha => by have := h.1.1 a ha; omega⟩
theorem Nl (l : List Ru) (ch : List Ac) (hcl : ch.length ≤ 1100000) (hcc : ∀ a ∈ ch, a.1.length ≤ 1100000) :
 PCalls Tryz.prog 3 [O7 l, .sl 2 (ch.map O8)] (.d (dB true)) := by
 have k0 := wAwake
 have k1 := Oe [l] (by simp)
 simp only [List.map_cons, List.map_nil, List.any_cons, List.any_nil, Bool.or_false] at k1
 cases hg : GA l with
 | true =>
  rw [hg] at k1
  refine B3 Tryz.func3 V Tryz.ntmps3 Tryz.results3 (by simp) fun B w0 => ?_
  refine D8 (B5 V (I0 V ?_)); refine yR (es := [[_]]) V V V V V ?_; refine yC (k1) V V (C3 V (yO V (yO V (yO V (yO V (yO V (yO V (yO V (K8 V V (yQ (G5 V (D8 (yC (k0) V V (B5 V (C4 (A4 ?_))))))))))))))))
  exact C9 _ (.tmp V .nil) V
 | false =>
 rw [hg] at k1
 have q1 := Of ch (by omega)
 by_cases hbig : IX ch = true ∧ ch.length ≠ 16
 · rw [hbig.1] at q1
   have t16 : (((ch.map O8).length : Int) != 16) = true := by have := hbig.2; simp; omega
   refine B3 Tryz.func3 V Tryz.ntmps3 Tryz.results3 (by simp) fun B w0 => ?_
   refine D8 (B5 V (I0 V ?_)); refine yR (es := [[_]]) V V V V V ?_; refine yC (k1) V V (C3 V (C3 V (yC (q1) V V (C3 V (C3 V (yN V (G3 V (K8 V V (K7 V V (yQ (B1 ?_)))))))))))
   rw [t16]; refine G5 V ?_; refine A8 ?_; refine B4 ?_; refine yC (k0) V V ?_; refine H4 V ?_; refine yQ ?_; refine C4 ?_; refine A4 ?_
   exact C9 _ (.tmp V .nil) V
 have hch : ch.length ≤ 259 := by
  cases h : IX ch with
  | false => exact (QS h).1
  | true =>
   have : ch.length = 16 := Decidable.byContradiction fun h2 => hbig ⟨h, h2⟩
   omega
 have hcond : IX ch = true → (((ch.map O8).length : Int) != 16) = false := fun h => by
  have : ch.length = 16 := Decidable.byContradiction fun h2 => hbig ⟨h, h2⟩
  rw [A7, this]; rfl
 clear hbig
 obtain ⟨hl1, hl2⟩ := grt_bdR hg
 obtain ⟨a1, ha1⟩ := H7 (IX ch)
 rw [← ha1] at q1 hcond
 clear ha1 hg
 have c0 := Mx l ch hl1 hl2 (by omega) (fun a ha => E8 (hcc a ha) (by omega))
 have c1 := Mt l ch hl1 hl2 hcl hcc
 obtain ⟨⟨E1, E2⟩, hE⟩ := H7 (MA l ch)
 rw [← hE] at c0 c1
 simp only at c0 c1
 clear hE
 refine B3 Tryz.func3 V Tryz.ntmps3 Tryz.results3 (by simp) fun B w0 => ?_
 refine D8 (B5 V (I0 V ?_)); refine yR (es := [[_]]) V V V V V ?_; refine yC (k1) V V (C3 V (C3 V (yC (q1) V V (C3 V ?_))))
 first | refine Cm ⟨78, [(0, .d (O7 l)), (1, .d (.sl 2 (ch.map O8)))], [], []⟩ ?_ ?_ | refine BV ⟨78, [(0, .d (O7 l)), (1, .d (.sl 2 (ch.map O8)))], [], []⟩ ?_ ?_
 rotate_left
 · cases a1 with
   | true =>
    have t16 := hcond rfl
    refine C3 V (yN V (G3 V (K8 V V (K7 V V (yQ (L9 t16 V (B2 (B1 ?_))))))))
    exact ⟨rfl, ⟨E0, E0, D4⟩, D4, D4, V⟩
   | false =>
    refine yO V (yO V (yO V (K7 V V (K7 V V (yQ (F6 V (B2 (B1 ?_))))))))
    exact ⟨rfl, ⟨E0, E0, D4⟩, D4, D4, V⟩
 have t1 : (E1 != E1) = false := by simp
 have t2 : (E2 != E2) = false := by simp
 obtain ⟨M, hM⟩ := H7 (min l.length 4)
 have hMl : M ≤ l.length := by omega
 have hmin : (if (4 : Int) < ((l.map U4).length : Int) then (4 : Int) else ((l.map U4).length : Int)) = (M : Int) := by
  rw [A7]
  split <;> omega
 have hmin2 : min ((l.map U4).length : Int) 4 = (M : Int) := by
  rw [A7]
  omega
 have htk : (l.map U4).take (M : Int).toNat = (l.take M).map U4 := by rw [H5, List.map_take]
 obtain ⟨P, hP⟩ := H7 (l.take M)
 rw [← hP] at htk
 have hPb : ∀ r ∈ P, OH r := fun r hr => hl2 r (List.mem_of_mem_take (by rw [← hP]; exact hr))
 have hPl : P.length ≤ 1000000 := by rw [hP, E4]; omega
 clear hP hM hmin2 hcond hl2 hcc hch
 refine H8 V (C3 V (yC (c0) V V (O5 V (yX V V (yX V V (H4 V (B5 V (H8 V (C3 V (yC (c1) V V (O5 V (yX V V (yX V V (H4 V (B5 V (I0 V (C3 V (G3 V (C3 V ?_))))))))))))))))))); rw [t1]; refine C3 V (C3 V (G3 V (K7 V V (yQ (B1 (L9 t2 V (B2 (I0 V (C3 V (yN V (yI V V V ?_))))))))))); refine OR (by omega) (by rw [A7]; omega) rfl rfl ?_; refine yN V (C3 V (yQ (B6 ?_))); rw [hmin]; rw [htk]
 refine H2 (fun i : Nat => ⟨78, [(52, .d (O7 P)), (53, .d (dI P.length)), (54, .d (dI i))], [], []⟩) (fun i => i ≤ P.length) (fun i => P.length - i) 0 (D9 _)
  ⟨rfl, ⟨E0, .of_eq (C7 (fun n : Nat => SV.d (dI n)) (by simp)), E0, D4⟩, D4, D4, rfl⟩ ?_
 intro i hi
 rcases D2 i P.length with h | h
 · have u1 : decide ((i : Int) < (P.length : Int)) = true := B0 (by omega)
   obtain ⟨⟨n, ls⟩, hx⟩ : ∃ a, P[i]? = some a := ⟨_, A5 h⟩
   have ex := ix U4 P i i (n, ls) rfl hx
   have hw := I5 ((i : Int) + 1) (by omega)
   have hbr := hPb _ (B7 hx)
   have b0 := De (n, ls) hbr
   have b1 := KY (n, ls) hbr
   obtain ⟨e1, he1⟩ := H7 (U2 (n, ls))
   rw [← he1] at b0 b1
   obtain ⟨e2, he2⟩ := H7 ((decide (e1 = 0) && Ag (n, ls).2))
   rw [← he2] at b0 b1
   have t3 : (e1 != e1) = false := by simp
   have t4 : (e2 != e2) = false := by simp
   have arith : P.length - (i + 1) < P.length - i := by omega
   clear c0 c1 htk he1 he2 hbr hx hPb
   refine D8 (H3 V (A8 (J8 u1 V (B2 (A8 (B6 (D8 (yW ex (by omega) rfl rfl (R7 (ys := [_, _]) rfl rfl rfl (yZ (cs := [_, _]) rfl rfl (yS (cs' := [_, _]) rfl rfl rfl rfl rfl (yQ (D8 (BU (ys := [_, _]) rfl rfl rfl rfl (yC (b0) rfl rfl (O5 rfl (yX rfl rfl (yX rfl rfl (H4 rfl (B5 rfl (D8 (BU (ys := [_, _]) rfl rfl rfl rfl (yC (b1) rfl rfl (O5 rfl (yX rfl rfl (yX rfl rfl (H4 rfl (B5 rfl (H8 rfl (C3 rfl (yBbn (c := false) Tryz.underlying4 t4 rfl rfl (C3 rfl (C3 rfl (C3 rfl (G3 rfl (K7 rfl rfl (yQ (B1 (L9 t3 rfl ?_))))))))))))))))))))))))))))))))))))))); refine B2 (B4 (G3 V (C3 V (yQ (B1 ?_)))))
   exact ⟨i + 1, h, arith, V, ⟨E0, E0, .of_eq (C7 (fun n => SV.d (dI n)) hw), D4⟩, D4, D4, V⟩
 · have u1 : decide ((i : Int) < (P.length : Int)) = false := A9 (by omega)
   refine D8 (H3 V (A8 (L9 u1 V (G1 (D8 (yC (k0) V V (B5 V (C4 ?_))))))))
   exact C9 _ (.tmp V .nil) V
end Go.Proofs.YtddfimjiihggmaaGreatDoor