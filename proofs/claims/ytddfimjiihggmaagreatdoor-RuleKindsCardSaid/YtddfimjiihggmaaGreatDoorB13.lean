/- Walk: the reference reads a text of rules. -/
import Derived.Test.YtddfimjiihggmaaGreatDoorB12
import Derived.Shelf.SlicesE.Compact
set_option maxHeartbeats 16000000
set_option maxRecDepth 20000
namespace Go.Proofs.YtddfimjiihggmaaGreatDoor.Px
section
variable {P : Program} {rl : Option Nat} {d0 : Nat} {st : PS} {d : Option Nat} {ty : TypeId} {pos : String} {af : Array Edge}
theorem held_ix {T E k n c b b' off off' q : Nat} {us : List Value} {m : Int} {kd : IntKind} {x y : Operand} [hS : SliceOf P T E k] (ho : off' + m.toNat * k = q) (h0 : 0 ≤ m) (hm : m < n) (hx : st.ev x = .d (.val (.slice (some ⟨b', off', none⟩) n c))) (hy : st.ev y = .d (.val (.int kd m))) (hd : H8 ⟨d, .indexAddr T x y, ty, pos, af, none⟩ st = true := by kernel_rfl) : NP P rl d0 b off us ⟨d, .indexAddr T x y, ty, pos, af, none⟩ st (.d (.val (.pointer (some ⟨b', q, none⟩)))) :=
 ⟨hd, rfl, fun _ a _ h => ⟨.pointer (some ⟨b', q, none⟩), DRep.val _ rfl, fun w' _ => by
  have h1 : a.eval x = .slice (some ⟨b', off', none⟩) n c := DRep.val_eq (by have := h.2.eval x; rw [hx] at this; exact this)
  have h2 : a.eval y = .int kd m := DRep.val_eq (by have := h.2.eval y; rw [hy] at this; exact this)
  subst ho
  have hn : 0 ≤ m ∧ m < (n : Int) := ⟨h0, hm⟩
  simp only [execOp, Instr.indexAt, h1, h2, asIntOf, Sem.run_bind, Sem.run_pure, D2, hS.und, hn, and_self, if_true, hS.size, Addr.add_lit]⟩⟩
end
end Go.Proofs.YtddfimjiihggmaaGreatDoor.Px
namespace Go.Proofs.YtddfimjiihggmaaGreatDoor
open Go.RowKit Px
theorem Un : (kndL.all fun k => decide (0 < k.1)) = true := by decide
theorem Rh {out : List Ru} {s w k : F6} (h : S5 32 s = [w, k]) : IX (P1 J5) Ct out s = if w = Jp ∧ 0 < OO k then some (out ++ [(OO k, [])]) else none := by
 unfold IX OO
 rw [h]
 dsimp only
 cases hk : EE k with
 | none => rw [B5 (fun h => by simp at h)]
 | some n =>
  have hp : 0 < n.1 := by simpa using D7.1 Un n (Fk hk).1
  show (if w = Jp then some (out ++ [(n.1, [])]) else none) = if w = Jp ∧ 0 < n.1 then some (out ++ [(n.1, [])]) else none
  by_cases hw : w = Jp
  · rw [B9 hw, B9 ⟨hw, hp⟩]
  · rw [B5 hw, B5 fun h => hw h.1]
theorem rdV_two {s w k : F6} (h : S5 32 s = [w, k]) : Pa s = (([], false, []), false) := by
 unfold Pa; rw [h]
theorem Ri {out : List Ru} {s : F6} (h : (S5 32 s).length ≠ 2) : IX (P1 J5) Ct out s = if (Pa s).2 = true ∧ out.isEmpty = false then some (LX (Pa s).1 out) else none := by
 have e : IX (P1 J5) Ct out s = match Tp (P1 J5) Ct s with | some l => if out.isEmpty then none else some (LX l out) | none => none := by
  unfold IX
  obtain ⟨L, hL⟩ := I0 (S5 32 s)
  rw [← hL] at h ⊢
  match L, h with
  | [], _ => cases Tp (P1 J5) Ct s <;> rfl
  | [_], _ => cases Tp (P1 J5) Ct s <;> rfl
  | [_, _], h => exact G5 V h
  | _ :: _ :: _ :: _, _ => cases Tp (P1 J5) Ct s <;> rfl
 rw [e, rdV_eq]
 by_cases h1 : (Pa s).2 = true
 · rw [B9 h1]
   cases h2 : out.isEmpty with
   | true => rw [B5 (by simp)]; rfl
   | false => rw [B9 ⟨h1, rfl⟩]; rfl
 · rw [B5 h1, B5 fun h => h1 h.1]
theorem two_of {α : Type} {l : List α} (h : l.length = 2) : ∃ a b, l = [a, b] := by
 match l, h with
 | [a, b], _ => exact ⟨a, b, V⟩
theorem onN_bd {k : Nat} {out : List Ru} {n : Int} (hb : PD k out) : PD (k + 1) (out ++ [(n, [])]) := by
 refine ⟨by have := hb.1; simp; omega, fun r hr => ?_⟩
 rcases List.mem_append.1 hr with hr | hr
 · exact Nat.le_succ_of_le (hb.2 r hr)
 · rw [List.mem_singleton.1 hr]; simp
theorem lnN_bd {k : Nat} {l' : List Ru} {r : Ru} {x : Ln} (hb : PD k (l' ++ [r])) : PD (k + 1) (l' ++ [(r.1, r.2 ++ [x])]) := by
 refine ⟨by have := hb.1; simp at this ⊢; omega, fun q hq => ?_⟩
 rcases List.mem_append.1 hq with hq | hq
 · exact Nat.le_succ_of_le (hb.2 q (by simp [hq]))
 · have := hb.2 r (by simp)
   rw [List.mem_singleton.1 hq]; simp; omega
theorem OA {vs : List Value} {v : Value} (h : vs.length = 1) (h2 : Na vs [.val v]) : vs = [v] := by
 match vs, h with
 | [u], _ => rw [h2 0 u v rfl rfl]
abbrev pqS (L : List F6) (v : Value) (lg : Bool) (k : Nat) : PS := ⟨115, [(5, .d (.val v)), (6, .d (U7 L)), (7, .d (dB lg)), (8, .d (dI k))], [], []⟩
theorem St (s : F6) : PCalls Tryz.prog 38 [dS s] (.tup [Q5 (Ce (P1 J5) Ct s).1, dI (Ce (P1 J5) Ct s).2.1, dI (Ce (P1 J5) Ct s).2.2]) := by
 obtain ⟨⟨R1, R2, R3⟩, hR⟩ := I0 (Ce (P1 J5) Ct s)
 rw [← hR]
 unfold Ce at hR
 by_cases h0 : 65536 < s.length
 · have t0 : decide ((s.length : Int) > 65536) = true := B1 (by omega)
   rw [B9 h0] at hR
   cases hR
   refine M0 Tryz.func38 V Tryz.ntmps38 Tryz.results38 fun B w0 => ?_
   refine E5 (H5 V (H5 V (A9 V (H2 V (O2 V (I3 V (B3 (L8 t0 V (E5 (H5 V (H5 V (A9 V (C4 (A6 ?_))))))))))))))
   exact I9 _ (.tnil 2 V (.tmp V (.tmp V .nil))) V
 have t0 : decide ((s.length : Int) > 65536) = false := A7 (by omega)
 rw [B5 h0] at hR
 have k1 := Sx s 10 (by omega)
 have Lf := Ej 10 s
 have QH := Av 10 s
 have O4 := Kb 10 s
 obtain ⟨L, hL⟩ := I0 (S5 10 s)
 rw [← hL] at k1 hR Lf QH O4
 have hL1 : 1 ≤ L.length := by cases L with | nil => exact G5 rfl O4 | cons _ _ => simp
 obtain ⟨⟨RO, RN⟩, hG⟩ := I0 (GY (Dn (P1 J5) Ct) 0 [] L)
 rw [← hG] at hR
 clear hL O4
 refine P4 Tryz.func38 V Tryz.ntmps38 Tryz.results38 (by simp) fun p d0 hex => ?_
 refine K0 (H5 V (C8 (H5 V (C8 (A9 V (C5 (E7 (K0 (B4 V (C8 (O2 V (C8 (I3 V (C5 (I4 ?_))))))))))))))); rw [t0]
 refine O5 V (H7 (K0 (yEb V (C8 (EZ V (yQ (C5 ?_))))))); refine Tt 5 16 (vs := []) V V fun b m xs q1 q2 q3 q4 q5 => ?_; refine K0 (B4 V (C8 (yC (k1) V V (C8 (A9 V (C5 (K0 (A9 V (C5 (E7 (K0 (A9 V (C5 (K7 ?_))))))))))))))
 have VD : RB ⟨[(b, (xs, Jl))], [], none⟩ (.slice (some ⟨b, 0, none⟩) 0 m) Jl SU (Dt []) := .inl ⟨rfl, b, m, xs, rfl, by show G1 [(b, (xs, Jl))] b = _; rw [G3, B9 rfl], q2, q4⟩
 clear q1 q2 q3 q4 q5
 refine Jr (fun q : Nat × List Ru × Value × EI => pqS L q.2.2.1 (q.2.1.any AK) q.1) (fun q => q.2.2.2) (fun q => q.1 ≤ L.length ∧ PD q.1 q.2.1 ∧ RB q.2.2.2 q.2.2.1 Jl SU (Dt q.2.1) ∧ GY (Dn (P1 J5) Ct) q.1 q.2.1 (L.drop q.1) = (RO, RN)) (fun q => L.length - q.1) (0, [], .slice (some ⟨b, 0, none⟩) 0 m, ⟨[(b, (xs, Jl))], [], none⟩) ⟨E8 _, ⟨E8 _, fun r hr => by cases hr⟩, VD, hG.symm⟩ rfl
  ⟨rfl, ⟨F5, F5, F5, F5, D5⟩, D5, D5, rfl⟩ ?_
 clear hG VD
 rintro ⟨k, out, v, i⟩ ⟨hk, ⟨Ag, JM⟩, EL, hI⟩
 simp only at hk Ag JM EL hI ⊢
 unfold pqS
 have Cy := EL.one
 rcases D6 k L.length with h | h
 rotate_left
 · have u1 : decide ((k : Int) < ((L.map fun t => ([dS t] : List DV)).length : Int)) = false := A7 (by rw [A8]; omega)
   rw [J8 h] at hI
   rw [GY] at hI
   obtain ⟨e1, e2⟩ := FX hI
   subst e2
   rw [← e1] at hR
   simp only at hR
   have BH : ∀ (F : Nat → Nat → Prop) (w : World), (∀ (b : Nat) (xs : List Value) (T : Nat), G1 i.bs b = some (xs, T) → w.heap[b]? = some (.cells xs.toArray T (0, 0)) ∧ ∀ o, F b o) → (∀ q ∈ i.fs, DRep F w q.1 q.2) → DRep F w v (Q5 out) := fun F w Dq Hj => by
    have := EL.data (F := F) (w := w) Dq Hj
    rwa [FN] at this
   clear EL Ag JM
   have hlr : (out.any fun r => decide (64 < r.2.length)) = out.any AK := rfl
   rw [hlr] at hR
   cases JO : out.any AK with
   | true =>
    rw [JO, B9 (.inr rfl)] at hR
    cases hR
    refine V5 5 hex V BH ?_; refine E7 (K0 (B4 V (C8 (B4 V (C8 (yN V (C8 (I3 V (C5 (I4 (Lg u1 V (R4 (E7 (K0 (B4 V (C8 (B4 V (C8 (yO V (C8 (yO V (C8 (yO V (C8 (L2 V V (yQ (C5 (O7 V (K0 (H5 V (C8 (H5 V (C8 (A9 V (C5 (M1 (F7 ?_)))))))))))))))))))))))))))))))))))))
    exact L7 _ (.tnil 2 V (.tmp V (.tmp V .nil))) V
   | false =>
   rw [JO] at hR
   by_cases VY : 64 < out.length
   · have t1 : decide (((out.map AE).length : Int) > 64) = true := B1 (by rw [A8]; omega)
     rw [B9 (.inl VY)] at hR
     cases hR
     refine V5 5 hex V BH ?_; refine E7 (K0 (B4 V (C8 (B4 V (C8 (yN V (C8 (I3 V (C5 (I4 (Lg u1 V (R4 (E7 (K0 (B4 V (C8 (B4 V (C8 (B4 V (C8 (yN V (C8 (F9 V (C8 (L3 V V (yQ (C5 (I4 (GS t1 V (K0 (H5 V (C8 (H5 V (C8 (A9 V (C5 (M1 (F7 ?_))))))))))))))))))))))))))))))))))))))
     exact L7 _ (.tnil 2 V (.tmp V (.tmp V .nil))) V
   · have t1 : decide (((out.map AE).length : Int) > 64) = false := A7 (by rw [A8]; omega)
     rw [B5 (by rintro (h | h); exact VY h; cases h)] at hR
     cases hR
     refine V5 5 hex V BH ?_; refine E7 (K0 (B4 V (C8 (B4 V (C8 (yN V (C8 (I3 V (C5 (I4 (Lg u1 V (R4 (E7 (K0 (B4 V (C8 (B4 V (C8 (B4 V (C8 (yN V (C8 (F9 V (C8 (L3 V V (yQ (C5 (I4 (Lg t1 V (H7 (K0 (B4 V (C8 (H5 V (C8 (H5 V (C8 (A9 V (C5 ?_))))))))))))))))))))))))))))))))))))))); refine M1 ?_
     exact L7 _ (.tmp V (.tmp V (.tmp V .nil))) V
 have u1 : decide ((k : Int) < ((L.map fun t => ([dS t] : List DV)).length : Int)) = true := B1 (by rw [A8]; omega)
 obtain ⟨line, hx⟩ := DL h
 have ex := ix (fun t => [dS t]) L k k line rfl hx
 have hw : IntKind.i64.wrap ((k : Int) + 1) = ((k + 1 : Nat) : Int) := J0 ((k : Int) + 1) (by omega)
 have LF : IntKind.i64.wrap (((L.map fun t => ([dS t] : List DV)).length : Int) - 1) = ((L.length - 1 : Nat) : Int) := by rw [A8, J0 _ (by omega)]; omega
 have hlb := Lf line (C0 hx)
 have arith : L.length - (k + 1) < L.length - k := by omega
 obtain ⟨q1, q2⟩ := A5.1 hx
 rw [I2 q1, q2] at hI
 clear hx q2
 by_cases X3 : k = L.length - 1
 · have u2 : ((k : Int) == ((L.length - 1 : Nat) : Int)) = true := by simp [← X3]
   rw [J8 (by omega), GY] at hI
   by_cases hle : line = []
   · have u3 : (!line == []) = false := by simp [hle]
     rw [B9 hle] at hI
     obtain ⟨e1, e2⟩ := FX hI
     subst e2
     rw [← e1] at hR
     simp only at hR
     have BH : ∀ (F : Nat → Nat → Prop) (w : World), (∀ (b : Nat) (xs : List Value) (T : Nat), G1 i.bs b = some (xs, T) → w.heap[b]? = some (.cells xs.toArray T (0, 0)) ∧ ∀ o, F b o) → (∀ q ∈ i.fs, DRep F w q.1 q.2) → DRep F w v (Q5 out) := fun F w Dq Hj => by
      have := EL.data (F := F) (w := w) Dq Hj
      rwa [FN] at this
     clear EL Ag JM
     have hlr : (out.any fun r => decide (64 < r.2.length)) = out.any AK := rfl
     rw [hlr] at hR
     cases JO : out.any AK with
     | true =>
      rw [JO, B9 (.inr rfl)] at hR
      cases hR
      refine V5 5 hex V BH ?_; refine E7 (K0 (B4 V (C8 (B4 V (C8 (yN V (C8 (I3 V (C5 (I4 (GS u1 V (H7 (E7 (K7 (E7 (K0 (B4 V (C8 (B4 V (C8 (yN V (C8 (F9 V (C8 (I3 V (C5 (I4 ?_))))))))))))))))))))))))))); rw [LF]; rw [u2]; refine O7 V (E7 (K0 (B4 V (C8 (B4 V (C8 (L6 ex V (C8 (K8 V V (C8 (N5 V V (yQ (C5 (I4 (Lg u3 V (H7 (R4 (E7 (K0 (B4 V (C8 (B4 V (C8 (yO V (C8 (yO V (C8 (yO V (C8 (L2 V V (yQ (C5 (O7 V (K0 (H5 V (C8 (H5 V (C8 (A9 V ?_))))))))))))))))))))))))))))))))))))))); refine C5 (M1 (F7 ?_))
      exact L7 _ (.tnil 2 V (.tmp V (.tmp V .nil))) V
     | false =>
     rw [JO] at hR
     by_cases VY : 64 < out.length
     · have t1 : decide (((out.map AE).length : Int) > 64) = true := B1 (by rw [A8]; omega)
       rw [B9 (.inl VY)] at hR
       cases hR
       refine V5 5 hex V BH ?_; refine E7 (K0 (B4 V (C8 (B4 V (C8 (yN V (C8 (I3 V (C5 (I4 (GS u1 V (H7 (E7 (K7 (E7 (K0 (B4 V (C8 (B4 V (C8 (yN V (C8 (F9 V (C8 (I3 V (C5 (I4 ?_))))))))))))))))))))))))))); rw [LF]; rw [u2]; refine O7 V (E7 (K0 (B4 V (C8 (B4 V (C8 (L6 ex V (C8 (K8 V V (C8 (N5 V V (yQ (C5 (I4 (Lg u3 V (H7 (R4 (E7 (K0 (B4 V (C8 (B4 V (C8 (B4 V (C8 (yN V (C8 (F9 V (C8 (L3 V V (yQ (C5 (I4 (GS t1 V (K0 (H5 V (C8 (H5 V (C8 ?_))))))))))))))))))))))))))))))))))))))); refine A9 V (C5 (M1 (F7 ?_)))
       exact L7 _ (.tnil 2 V (.tmp V (.tmp V .nil))) V
     · have t1 : decide (((out.map AE).length : Int) > 64) = false := A7 (by rw [A8]; omega)
       rw [B5 (by rintro (h | h); exact VY h; cases h)] at hR
       cases hR
       refine V5 5 hex V BH ?_; refine E7 (K0 (B4 V (C8 (B4 V (C8 (yN V (C8 (I3 V (C5 (I4 (GS u1 V (H7 (E7 (K7 (E7 (K0 (B4 V (C8 (B4 V (C8 (yN V (C8 (F9 V (C8 (I3 V (C5 (I4 ?_))))))))))))))))))))))))))); rw [LF]; rw [u2]; refine O7 V (E7 (K0 (B4 V (C8 (B4 V (C8 (L6 ex V (C8 (K8 V V (C8 (N5 V V (yQ (C5 (I4 (Lg u3 V (H7 (R4 (E7 (K0 (B4 V (C8 (B4 V (C8 (B4 V (C8 (yN V (C8 (F9 V (C8 (L3 V V (yQ (C5 (I4 (Lg t1 V (H7 (K0 (B4 V (C8 (H5 V ?_))))))))))))))))))))))))))))))))))))))); refine C8 (H5 V (C8 (A9 V (C5 (M1 ?_)))))
       exact L7 _ (.tmp V (.tmp V (.tmp V .nil))) V
   · have u3 : (!line == []) = true := by simp [hle]
     rw [B5 hle] at hI
     cases hI
     cases hR
     refine E7 (K0 (B4 V (C8 (B4 V (C8 (yN V (C8 (I3 V (C5 (I4 (GS u1 V (H7 (E7 (K7 (E7 (K0 (B4 V (C8 (B4 V (C8 (yN V (C8 (F9 V (C8 (I3 V (C5 (I4 ?_))))))))))))))))))))))))))); rw [LF]; rw [u2]; refine O7 V (E7 (K0 (B4 V (C8 (B4 V (C8 (L6 ex V (C8 (K8 V V (C8 (N5 V V (yQ (C5 (I4 (GS u3 V (K0 (B4 V (C8 (F9 V (C8 (H5 V (C8 (H5 V (C8 (A9 V (C5 (M1 (F7 (F7 (K1 (F7 (F7 (K1 (F7 ?_)))))))))))))))))))))))))))))))))); rw [hw]
     exact L7 _ (.tnil 2 V (.tmp V (.tmp V .nil))) V
 have u2 : ((k : Int) == ((L.length - 1 : Nat) : Int)) = false := G2 (by omega)
 obtain ⟨line2, rest2, BO⟩ : ∃ a l, L.drop (k + 1) = a :: l := by
  cases e : L.drop (k + 1) with
  | nil => rw [List.drop_eq_nil_iff] at e; omega
  | cons a l => exact ⟨a, l, V⟩
 rw [BO, Jq] at hI
 rw [← BO] at hI
 clear BO
 rw [← line_eq] at hI
 have k2 := Sx line 32 (by omega)
 have k3 := Ss line (by omega)
 have hwl := fun w (hw : w ∈ S5 32 line) => GJ hw
 obtain ⟨lg, JO⟩ := I0 (out.any AK)
 by_cases hW : (S5 32 line).length = 2
 · obtain ⟨w, kd, hW⟩ := two_of hW
   rw [Rh hW] at hI
   rw [rdV_two hW] at k3
   rw [hW] at k2
   have k4 := wKindOf kd
   clear hwl
   have y0 : (([w, kd] : List F6).map fun t => ([dS t] : List DV))[((0 : Int)).toNat]? = some [dS w] := rfl
   have y1 : (([w, kd] : List F6).map fun t => ([dS t] : List DV))[((1 : Int)).toNat]? = some [dS kd] := rfl
   by_cases hon : w = Jp
   · have u4 : (w == [111, 110]) = true := by rw [hon]; rfl
     by_cases hkp : 0 < OO kd
     · have u5 : decide (OO kd > 0) = true := B1 hkp
       rw [B9 ⟨hon, hkp⟩] at hI
       simp only at hI
       have Aq := onN_bd (n := OO kd) (⟨Ag, JM⟩ : PD k out)
       have hmn : (out ++ [(OO kd, ([] : List Ln))]).any AK = out.any AK := UO out _
       obtain ⟨b, c, xs, rfl, p1, p2, p3, p4⟩ := EL.slice
       have hen : (Dt out).length = out.length := by simp
       have OZ : Dt (out ++ [(OO kd, [])]) = Dt out ++ [(OO kd, [])] := by simp
       have hps := fun {b' c' xs' news fs' it'} => EL.push (b' := b') (c' := c') (xs' := xs') (news := news) (fs' := fs') (it' := it') (n := OO kd) rfl p3
       rw [← OZ] at hps
       rw [hen] at p1
       refine E7 (K0 (B4 V (C8 (B4 V (C8 (yN V (C8 (I3 V (C5 (I4 (GS u1 V (H7 (E7 (K7 (E7 (K0 (B4 V (C8 (B4 V (C8 (yN V (C8 (F9 V (C8 (I3 V (C5 (I4 ?_))))))))))))))))))))))))))); rw [LF]; rw [u2]; refine O5 V (H7 (K0 (B4 V (C8 (B4 V (C8 (L6 ex V (C8 (K8 V V (C8 (yC (k2) V V (C8 (A9 V (C5 (E7 (K0 (B4 V (C8 (yN V (C8 (F9 V (C8 (B4 V (C8 (B4 V (C8 (yW y0 (by omega) V V (C8 (K8 V V (C8 (N7 V V (C8 (L2 V V (C8 (B4 V (C8 ?_)))))))))))))))))))))))))))))))))))); rw [u4]; refine B4 V (C8 (yW y1 (by omega) V V (C8 (K8 V V (C8 (yC (k4) V V (C8 (F9 V (C8 (L2 V V (yQ (C5 (I4 (GS u5 V (K0 (B4 V (C8 (B4 V (C8 (yW y1 (by omega) V V (C8 (K8 V V (C8 (yC (k4) V V (C8 (yG (ys := [_, _]) V V (C8 ?_))))))))))))))))))))))))))); refine yR (es := [[_, _]]) V V V V V ?_; refine yQ ?_; refine P7 ?_; refine Tz V p3 p4 (by rw [hen]; exact p1) p2 V (by rw [hen]; omega) (by rw [hen]; omega) (fun b' c' xs' news g1 g2 g3 g4 g5 g6 g7 g8 => ?_); refine L5 (A9 V (C5 (R4 (N2 (L5 (B4 V (C8 (F9 V (C8 (A9 V (C5 (I4 ?_))))))))))))
       exact ⟨(k + 1, out ++ [(OO kd, [])], .slice (some ⟨b', 0, none⟩) ((Dt out).length + 1) c', _), ⟨h, Aq, hps g1 g2 g4 g5 g6 g7 g8 (fun q hq => List.mem_append_right _ hq), hI⟩, arith, ⟨rfl, ⟨F5, F5, .of_eq (G6 (fun x => SV.d (dB x)) hmn.symm), Q7 hw, D5⟩, D5, D5, V⟩, V⟩
     · have u5 : decide (OO kd > 0) = false := A7 hkp
       rw [B5 fun h => hkp h.2] at hI
       cases hI
       cases hR
       refine E7 (K0 (B4 V (C8 (B4 V (C8 (yN V (C8 (I3 V (C5 (I4 (GS u1 V (H7 (E7 (K7 (E7 (K0 (B4 V (C8 (B4 V (C8 (yN V (C8 (F9 V (C8 (I3 V (C5 (I4 ?_))))))))))))))))))))))))))); rw [LF]; rw [u2]; refine O5 V (H7 (K0 (B4 V (C8 (B4 V (C8 (L6 ex V (C8 (K8 V V (C8 (yC (k2) V V (C8 (A9 V (C5 (E7 (K0 (B4 V (C8 (yN V (C8 (F9 V (C8 (B4 V (C8 (B4 V (C8 (yW y0 (by omega) V V (C8 (K8 V V (C8 (N7 V V (C8 (L2 V V (C8 (B4 V (C8 ?_)))))))))))))))))))))))))))))))))))); rw [u4]; refine B4 V (C8 (yW y1 (by omega) V V (C8 (K8 V V (C8 (yC (k4) V V (C8 (F9 V (C8 (L2 V V (yQ (C5 (I4 (Lg u5 V (H7 (K0 (B4 V (C8 (B4 V (C8 (L6 ex V (C8 (K8 V V (C8 (yC (k3) V V (C8 (O6 V (C8 (yX V V (C8 (yX V V (C8 (yZ (cs := [_, _, _]) V V (C8 (yS (cs' := [_, _, _]) V V V V V (C8 (A9 V (C5 (E7 ?_))))))))))))))))))))))))))))))))))))))); refine K0 (B4 V (C8 (yU V V V (C8 (B4 V (C8 (yO V (C8 (yO V (C8 (yO V (C8 (L2 V V (yQ (C5 (O7 V (K0 (B4 V (C8 (F9 V (C8 (H5 V (C8 (H5 V (C8 (A9 V (C5 (M1 (F7 (K1 (F7 (F7 (K1 (F7 ?_)))))))))))))))))))))))))))))))))); rw [hw]
       exact L7 _ (.tnil 2 V (.tmp V (.tmp V .nil))) V
   · have u4 : (w == [111, 110]) = false := G2 hon
     rw [B5 fun h => hon h.1] at hI
     cases hI
     cases hR
     refine E7 (K0 (B4 V (C8 (B4 V (C8 (yN V (C8 (I3 V (C5 (I4 (GS u1 V (H7 (E7 (K7 (E7 (K0 (B4 V (C8 (B4 V (C8 (yN V (C8 (F9 V (C8 (I3 V (C5 (I4 ?_))))))))))))))))))))))))))); rw [LF]; rw [u2]; refine O5 V (H7 (K0 (B4 V (C8 (B4 V (C8 (L6 ex V (C8 (K8 V V (C8 (yC (k2) V V (C8 (A9 V (C5 (E7 (K0 (B4 V (C8 (yN V (C8 (F9 V (C8 (B4 V (C8 (B4 V (C8 (yW y0 (by omega) V V (C8 (K8 V V (C8 (N7 V V (C8 (L2 V V (C8 (B4 V (C8 ?_)))))))))))))))))))))))))))))))))))); rw [u4]; refine yO V (C8 (yO V (C8 (yO V (C8 (yO V (C8 (yO V (C8 (L3 V V (yQ (C5 (O5 V (H7 (K0 (B4 V (C8 (B4 V (C8 (L6 ex V (C8 (K8 V V (C8 (yC (k3) V V (C8 (O6 V (C8 (yX V V (C8 (yX V V (C8 (yZ (cs := [_, _, _]) V V (C8 (yS (cs' := [_, _, _]) V V V V V (C8 (A9 V (C5 (E7 (K0 ?_))))))))))))))))))))))))))))))))))))))); refine B4 V (C8 (yU V V V (C8 (B4 V (C8 (yO V (C8 (yO V (C8 (yO V (C8 (L2 V V (yQ (C5 (O7 V (K0 (B4 V (C8 (F9 V (C8 (H5 V (C8 (H5 V (C8 (A9 V (C5 (M1 (F7 (K1 (F7 (F7 (K1 (F7 ?_))))))))))))))))))))))))))))))))); rw [hw]
     exact L7 _ (.tnil 2 V (.tmp V (.tmp V .nil))) V
 rw [Ri hW] at hI
 have u6 : ((((S5 32 line).map fun t => ([dS t] : List DV)).length : Int) == 2) = false := G2 (by rw [A8]; omega)
 clear hwl
 obtain ⟨⟨x, ok⟩, hxo⟩ := I0 (Pa line)
 rw [← hxo] at k3 hI
 obtain ⟨W, hWW⟩ := I0 (S5 32 line)
 rw [← hWW] at k2 u6
 clear hxo hWW hW
 cases ok with
 | false =>
  rw [B5 fun h => by cases h.1] at hI
  cases hI
  cases hR
  refine E7 (K0 (B4 V (C8 (B4 V (C8 (yN V (C8 (I3 V (C5 (I4 (GS u1 V (H7 (E7 (K7 (E7 (K0 (B4 V (C8 (B4 V (C8 (yN V (C8 (F9 V (C8 (I3 V (C5 (I4 ?_))))))))))))))))))))))))))); rw [LF]; rw [u2]; refine O5 V (H7 (K0 (B4 V (C8 (B4 V (C8 (L6 ex V (C8 (K8 V V (C8 (yC (k2) V V (C8 (A9 V (C5 (E7 (K0 (B4 V (C8 (yN V (C8 (F9 V (C8 (B4 V (C8 ?_)))))))))))))))))))))))); rw [u6]; refine yO V (C8 (yO V (C8 (yO V (C8 (yO V (C8 (L3 V V (C8 (B4 V (C8 (yO V (C8 (yO V (C8 (yO V (C8 (yO V (C8 (yO V (C8 (L3 V V (yQ (C5 (O5 V (H7 (K0 (B4 V (C8 (B4 V (C8 (L6 ex V (C8 (K8 V V (C8 (yC (k3) V V (C8 (O6 V (C8 ?_))))))))))))))))))))))))))))))))))))))); refine yX V V (C8 (yX V V (C8 (yZ (cs := [_, _, _]) V V (C8 (yS (cs' := [_, _, _]) V V V V V (C8 (A9 V (C5 (E7 (K0 (B4 V (C8 (yU V V V (C8 (B4 V (C8 (yO V (C8 (yO V (C8 (yO V (C8 (L2 V V (yQ (C5 (O7 V (K0 (B4 V (C8 (F9 V (C8 (H5 V (C8 (H5 V (C8 (A9 V (C5 (M1 ?_))))))))))))))))))))))))))))))))))))))); refine F7 (K1 (F7 (F7 (K1 (F7 ?_))))); rw [hw]
  exact L7 _ (.tnil 2 V (.tmp V (.tmp V .nil))) V
 | true =>
 rcases List.eq_nil_or_concat out with rfl | ⟨l', r, rfl⟩
 · obtain ⟨b, c, xs, rfl, -⟩ := EL.slice
   rw [B5 fun h => by cases h.2] at hI
   cases hI
   cases hR
   refine E7 (K0 (B4 V (C8 (B4 V (C8 (yN V (C8 (I3 V (C5 (I4 (GS u1 V (H7 (E7 (K7 (E7 (K0 (B4 V (C8 (B4 V (C8 (yN V (C8 (F9 V (C8 (I3 V (C5 (I4 ?_))))))))))))))))))))))))))); rw [LF]; rw [u2]; refine O5 V (H7 (K0 (B4 V (C8 (B4 V (C8 (L6 ex V (C8 (K8 V V (C8 (yC (k2) V V (C8 (A9 V (C5 (E7 (K0 (B4 V (C8 (yN V (C8 (F9 V (C8 (B4 V (C8 ?_)))))))))))))))))))))))); rw [u6]; refine yO V (C8 (yO V (C8 (yO V (C8 (yO V (C8 (L3 V V (C8 (B4 V (C8 (yO V (C8 (yO V (C8 (yO V (C8 (yO V (C8 (yO V (C8 (L3 V V (yQ (C5 (O5 V (H7 (K0 (B4 V (C8 (B4 V (C8 (L6 ex V (C8 (K8 V V (C8 (yC (k3) V V (C8 (O6 V (C8 ?_))))))))))))))))))))))))))))))))))))))); refine yX V V (C8 (yX V V (C8 (yZ (cs := [_, _, _]) V V (C8 (yS (cs' := [_, _, _]) V V V V V (C8 (A9 V (C5 (E7 (K0 (B4 V (C8 (yU V V V (C8 (B4 V (C8 (B4 V (C8 (yNv V (C8 (F9 V (C8 (L3 V V (yQ (C5 (O7 V (K0 (B4 V (C8 (F9 V (C8 (H5 V (C8 (H5 V (C8 (A9 V (C5 (M1 ?_))))))))))))))))))))))))))))))))))))))); refine F7 (K1 (F7 (F7 (K1 (F7 ?_))))); rw [hw]
   exact L7 _ (.tnil 2 V (.tmp V (.tmp V .nil))) V
 rw [List.concat_eq_append] at hI EL Ag JM JO ⊢
 have hne2 : (l' ++ [r]).isEmpty = false := by cases l' <;> rfl
 rw [B9 ⟨rfl, hne2⟩, CG] at hI
 simp only at hI
 have Aq := lnN_bd (x := x) (⟨Ag, JM⟩ : PD k (l' ++ [r]))
 have hma := RS x l' r
 rw [CG] at hma
 have hma2 : (l' ++ [(r.1, r.2 ++ [x])]).any AK = ((l' ++ [r]).any AK || decide (64 < r.2.length + 1)) := hma
 have Ib : r.2.length ≤ k := JM r (by simp)
 have hol2 : l'.length + 1 ≤ k := by have := Ag; simp at this; exact this
 have OZ : Dt (l' ++ [r]) = Dt l' ++ [(r.1, r.2.map Aa)] := by simp
 have hen3 : Dt (l' ++ [(r.1, r.2 ++ [x])]) = Dt l' ++ [(r.1, r.2.map Aa ++ [Aa x])] := by simp
 have FV : (Dt l').length = l'.length := by simp
 rw [OZ] at EL
 obtain ⟨br, cp, xs, lv, lc, rfl, x1, x2, hu, Mh, q2, h6, done⟩ := EL.last
 rw [FV] at x2 hu done Cy ⊢
 simp only [A8] at q2 done
 have JR : ∀ (b' : Nat) (bs' : EB), (lv.ownBlock = some b' ∨ G1 i.bs b' = none) → (∀ b, b ≠ b' → lv.ownBlock ≠ some b → G1 bs' b = G1 i.bs b) → G1 bs' br = some (xs, Jl) := fun b' bs' w3 w4 => by
  have h7 : br ≠ b' := fun e => by
   rcases w3 with w3 | w3
   · exact h6 (e ▸ w3)
   · rw [← e, x1] at w3; cases w3
  rw [w4 br h7 h6]
  exact x1
 have t1 : (((l'.length + 1 : Nat) : Int) == 0) = false := G2 (by omega)
 have hwl : IntKind.i64.wrap (((l'.length + 1 : Nat) : Int) - 1) = (l'.length : Int) := by rw [J0 _ (by omega)]; omega
 have Ie : 0 + ((l'.length : Int)).toNat * 2 = l'.length * 2 := by rw [H0]; omega
 have hlt : (l'.length : Int) < ((l'.length + 1 : Nat) : Int) := by omega
 have t2 : decide (((r.2.length + 1 : Nat) : Int) > 64) = decide (64 < r.2.length + 1) := decide_eq_decide.2 (by omega)
 have hT : lg = true → true = (l' ++ [(r.1, r.2 ++ [x])]).any AK := fun e => by rw [hma2, ← JO, e, Bool.true_or]
 have hF : lg = false → decide (((r.2.length + 1 : Nat) : Int) > 64) = (l' ++ [(r.1, r.2 ++ [x])]).any AK := fun e => by rw [hma2, ← JO, e, Bool.false_or, t2]
 have fin : ∀ (v' : Value) (b' : Nat) (bs' : EB) (news vs : List Value), v'.ownBlock = some b' → RowAt bs' SU 3 v' (r.2.length + 1) (lc ++ news) → (lv.ownBlock = some b' ∨ G1 i.bs b' = none) → (∀ b, b ≠ b' → lv.ownBlock ≠ some b → G1 bs' b = G1 i.bs b) → news.length = 3 → (∀ u ∈ news, u.oneCell' = true) → vs.length = 1 → Na vs [.val v'] →
  RB ⟨(br, (Bl xs (l'.length * 2 + 1) vs, Jl)) :: bs', vs.zip [.val v'] ++ (news.zip (Aa x) ++ i.fs), i.it⟩ (.slice (some ⟨br, 0, none⟩) (l'.length + 1) cp) Jl SU (Dt (l' ++ [(r.1, r.2 ++ [x])])) := fun v' b' bs' news vs w1 w2 w3 w4 w5 w6 w7 w8 => by
  rw [hen3]
  exact done v' b' bs' news vs (Aa x) _ i.it w1 w2 w3 w4 w5 V w6 w7 w8 (fun q hq => by simp [hq]) (fun q hq => List.mem_append_right _ (List.mem_append_left _ hq))
 have Sd : ∀ {ys : List Value} {bs' : EB}, G1 ((br, (ys, Jl)) :: bs') br = some (ys, Jl) := fun {ys bs'} => by rw [G3, B9 rfl]
 have hgs : ∀ u : Value, (Bl xs (l'.length * 2 + 1) [u])[l'.length * 2 + 1]? = some u := fun u => by
  show (xs.set (l'.length * 2 + 1) u)[l'.length * 2 + 1]? = some u
  rw [List.getElem?_set_self (by omega)]
 rw [← JO]
 clear hma hma2 JO done EL OZ hen3 FV JM Ag
 refine E7 (K0 (B4 V (C8 (B4 V (C8 (yN V (C8 (I3 V (C5 (I4 (GS u1 V (H7 (E7 (K7 (E7 (K0 (B4 V (C8 (B4 V (C8 (yN V (C8 (F9 V (C8 (I3 V (C5 (I4 ?_))))))))))))))))))))))))))); rw [LF]; rw [u2]; refine O5 V (H7 (K0 (B4 V (C8 (B4 V (C8 (L6 ex V (C8 (K8 V V (C8 (yC (k2) V V (C8 (A9 V (C5 (E7 (K0 (B4 V (C8 (yN V (C8 (F9 V (C8 (B4 V (C8 ?_)))))))))))))))))))))))); rw [u6]; refine yO V (C8 (yO V (C8 (yO V (C8 (yO V (C8 (L3 V V (C8 (B4 V (C8 (yO V (C8 (yO V (C8 (yO V (C8 (yO V (C8 (yO V (C8 (L3 V V (yQ (C5 (O5 V (H7 (K0 (B4 V (C8 (B4 V (C8 (L6 ex V (C8 (K8 V V (C8 (yC (k3) V V (C8 (O6 V (C8 ?_))))))))))))))))))))))))))))))))))))))); refine yX V V (C8 (yX V V (C8 (yZ (cs := [_, _, _]) V V (C8 (yS (cs' := [_, _, _]) V V V V V (C8 (A9 V (C5 (E7 (K0 (B4 V (C8 (yU V V V (C8 (B4 V (C8 (B4 V (C8 (yNv V (C8 (F9 V (C8 (L3 V V (yQ (C5 (O5 V (H7 (K0 (B4 V (C8 (yNv V (C8 (F9 V (C8 (A9 V (C5 (E7 ?_)))))))))))))))))))))))))))))))))))))); refine UB Tryz.mixed ?_; rw [t1]; rw [hwl]
 refine T8 0 V V V (by kernel_rfl) (X4 V) ?_
 refine T8 1 V V V (by kernel_rfl) (X4 V) ?_
 refine T8 2 V V V (by kernel_rfl) (X4 V) ?_
 refine T8 3 V V V (by kernel_rfl) (X4 V) ?_
 refine T8 4 V V V (by kernel_rfl) (held_ix Ie (by omega) hlt V V) ?_
 refine T8 5 V V V (by kernel_rfl) (QJ V) ?_
 refine J3 [6, 7] V V ⟨⟨_, V, ?_⟩, ⟨_, V, ?_⟩, D5⟩
 · refine W6 V x1 hu Mh ?_; refine J3 [_] V V ⟨⟨_, V, ?_⟩, D5⟩; refine L5 (Ab (ys := [_, _, _]) V V V V (yQ (C5 ?_)))
   refine J3 [_] V V ⟨⟨_, V, ?_⟩, D5⟩; refine L5 ?_; refine yR (es := [[_, _, _]]) V V V V V ?_; refine yQ (C5 ?_); refine J3 [_] V V ⟨⟨_, V, ?_⟩, D5⟩
   refine Cr q2 V V (by omega) (by omega) (fun v' b' bs' news w1 w2 w3 w4 w5 w6 w0 w10 => ?_); refine J3 [_] V V ⟨⟨_, V, ?_⟩, D5⟩; refine L5 (Nb Ie (by omega) hlt V V (yQ (C5 ?_))); refine J3 [_] V V ⟨⟨_, V, ?_⟩, D5⟩; refine L5 (yFv V (yQ (C5 ?_))); refine J3 [_] V V ⟨⟨_, V, ?_⟩, D5⟩
   refine Cs (ds := [.val v']) V (JR b' bs' w3 w4) V V x2 (fun vs w7 w9 w8 => ?_); refine CO V ?_; refine N2 (L5 (B4 V (C8 (B4 V (C8 ?_)))))
   have P3 := fin v' b' bs' news vs w1 w2 w3 w4 w5 w6 w7 w8
   cases lg with
   | true =>
    refine yO V (C8 (yO V (C8 (yO V (C8 (yO V (C8 (yO V (C8 (yO V (C8 (yO V (C8 (L2 V V (C8 (A9 V (C5 (N2 (L5 (B4 V (C8 (F9 V (C8 (A9 V (C5 (I4 ?_))))))))))))))))))))))))))
    exact ⟨(k + 1, l' ++ [(r.1, r.2 ++ [x])], _, _), ⟨h, Aq, P3, hI⟩, arith, ⟨rfl, ⟨F5, F5, .of_eq (G6 (fun x => SV.d (dB x)) (hT V)), Q7 hw, D5⟩, D5, D5, V⟩, V⟩
   | false =>
    obtain ⟨b2, c2, xs2, rfl, -⟩ := w2.pos (Nat.succ_pos _)
    obtain rfl := OA w7 w8
    refine B4 V (C8 (B4 V (C8 (Nb Ie (by omega) hlt V V (C8 (yFv V (yQ ?_))))))); refine P7 ?_; refine W6 V Sd (hgs _) V ?_; refine L5 (yNv V (C8 (F9 V (C8 (L3 V V (C8 (A9 V (C5 (N2 (L5 (B4 V (C8 (F9 V (C8 (A9 V (C5 (I4 ?_)))))))))))))))))
    exact ⟨(k + 1, l' ++ [(r.1, r.2 ++ [x])], _, _), ⟨h, Aq, P3, hI⟩, arith, ⟨rfl, ⟨F5, F5, .of_eq (G6 (fun x => SV.d (dB x)) (hF V)), Q7 hw, D5⟩, D5, D5, V⟩, V⟩
 · refine L5 (Ab (ys := [_, _, _]) V V V V (yQ (C5 ?_)))
   refine J3 [6, 8] V V ⟨⟨_, V, ?_⟩, ⟨_, V, ?_⟩, D5⟩
   · refine W6 V x1 hu Mh ?_; refine J3 [_] V V ⟨⟨_, V, ?_⟩, D5⟩; refine L5 ?_; refine yR (es := [[_, _, _]]) V V V V V ?_; refine yQ (C5 ?_)
     refine J3 [_] V V ⟨⟨_, V, ?_⟩, D5⟩; refine Cr q2 V V (by omega) (by omega) (fun v' b' bs' news w1 w2 w3 w4 w5 w6 w0 w10 => ?_); refine J3 [_] V V ⟨⟨_, V, ?_⟩, D5⟩; refine L5 ?_
     refine Nb Ie (by omega) hlt V V (yQ (C5 ?_)); refine J3 [_] V V ⟨⟨_, V, ?_⟩, D5⟩; refine L5 (yFv V (yQ (C5 ?_)))
     refine J3 [_] V V ⟨⟨_, V, ?_⟩, D5⟩; refine Cs (ds := [.val v']) V (JR b' bs' w3 w4) V V x2 (fun vs w7 w9 w8 => ?_); refine CO V ?_; refine N2 (L5 (B4 V (yQ ?_)))
     refine L5 (B4 V (C8 ?_))
     have P3 := fin v' b' bs' news vs w1 w2 w3 w4 w5 w6 w7 w8
     cases lg with
     | true =>
      refine yO V (C8 (yO V (C8 (yO V (C8 (yO V (C8 (yO V (C8 (yO V (C8 (yO V (C8 (L2 V V (C8 (A9 V (C5 (N2 (L5 (B4 V (C8 (F9 V (C8 (A9 V (C5 (I4 ?_))))))))))))))))))))))))))
      exact ⟨(k + 1, l' ++ [(r.1, r.2 ++ [x])], _, _), ⟨h, Aq, P3, hI⟩, arith, ⟨rfl, ⟨F5, F5, .of_eq (G6 (fun x => SV.d (dB x)) (hT V)), Q7 hw, D5⟩, D5, D5, V⟩, V⟩
     | false =>
      obtain ⟨b2, c2, xs2, rfl, -⟩ := w2.pos (Nat.succ_pos _)
      obtain rfl := OA w7 w8
      refine B4 V (C8 (B4 V (C8 (Nb Ie (by omega) hlt V V (C8 (yFv V (yQ ?_))))))); refine P7 ?_; refine W6 V Sd (hgs _) V ?_; refine L5 (yNv V (C8 (F9 V (C8 (L3 V V (C8 (A9 V (C5 (N2 (L5 (B4 V (C8 (F9 V (C8 (A9 V (C5 (I4 ?_)))))))))))))))))
      exact ⟨(k + 1, l' ++ [(r.1, r.2 ++ [x])], _, _), ⟨h, Aq, P3, hI⟩, arith, ⟨rfl, ⟨F5, F5, .of_eq (G6 (fun x => SV.d (dB x)) (hF V)), Q7 hw, D5⟩, D5, D5, V⟩, V⟩
   · refine L5 ?_; refine yR (es := [[_, _, _]]) V V V V V ?_; refine yQ (C5 ?_); refine J3 [_] V V ⟨⟨_, V, ?_⟩, D5⟩; refine W6 V x1 hu Mh ?_
     refine J3 [_] V V ⟨⟨_, V, ?_⟩, D5⟩; refine Cr q2 V V (by omega) (by omega) (fun v' b' bs' news w1 w2 w3 w4 w5 w6 w0 w10 => ?_); refine J3 [_] V V ⟨⟨_, V, ?_⟩, D5⟩; refine L5 ?_
     refine Nb Ie (by omega) hlt V V (yQ (C5 ?_)); refine J3 [_] V V ⟨⟨_, V, ?_⟩, D5⟩; refine L5 (yFv V (yQ (C5 ?_)))
     refine J3 [_] V V ⟨⟨_, V, ?_⟩, D5⟩; refine Cs (ds := [.val v']) V (JR b' bs' w3 w4) V V x2 (fun vs w7 w9 w8 => ?_); refine CO V ?_; refine N2 (L5 (B4 V (yQ ?_)))
     refine L5 (B4 V (C8 ?_))
     have P3 := fin v' b' bs' news vs w1 w2 w3 w4 w5 w6 w7 w8
     cases lg with
     | true =>
      refine yO V (C8 (yO V (C8 (yO V (C8 (yO V (C8 (yO V (C8 (yO V (C8 (yO V (C8 (L2 V V (C8 (A9 V (C5 (N2 (L5 (B4 V (C8 (F9 V (C8 (A9 V (C5 (I4 ?_))))))))))))))))))))))))))
      exact ⟨(k + 1, l' ++ [(r.1, r.2 ++ [x])], _, _), ⟨h, Aq, P3, hI⟩, arith, ⟨rfl, ⟨F5, F5, .of_eq (G6 (fun x => SV.d (dB x)) (hT V)), Q7 hw, D5⟩, D5, D5, V⟩, V⟩
     | false =>
      obtain ⟨b2, c2, xs2, rfl, -⟩ := w2.pos (Nat.succ_pos _)
      obtain rfl := OA w7 w8
      refine B4 V (C8 (B4 V (C8 (Nb Ie (by omega) hlt V V (C8 (yFv V (yQ ?_))))))); refine P7 ?_; refine W6 V Sd (hgs _) V ?_; refine L5 (yNv V (C8 (F9 V (C8 (L3 V V (C8 (A9 V (C5 (N2 (L5 (B4 V (C8 (F9 V (C8 (A9 V (C5 (I4 ?_)))))))))))))))))
      exact ⟨(k + 1, l' ++ [(r.1, r.2 ++ [x])], _, _), ⟨h, Aq, P3, hI⟩, arith, ⟨rfl, ⟨F5, F5, .of_eq (G6 (fun x => SV.d (dB x)) (hF V)), Q7 hw, D5⟩, D5, D5, V⟩, V⟩
end Go.Proofs.YtddfimjiihggmaaGreatDoor
namespace Go.Proofs
open Go.Shelf
end Go.Proofs
namespace Go.Proofs.YtddfimjiihggmaaGreatDoor
open Go.RowKit Px Go.Sort Go.Lib
theorem Qt {α : Type} {l r : List α} {i : Nat} {x : α} (h : l.take i = r.take i) (hx : l[i]? = some x) (hy : r[i]? = some x) : l.take (i + 1) = r.take (i + 1) := by
 rw [G8, G8, h, hx, hy]
theorem wEqS (l r : List F6) (hl : l.length ≤ 1000000) (hr : r.length ≤ 1000000) : PCalls Tryz.prog 24 [U7 l, U7 r] (.d (dB (decide (l = r)))) := by
 refine M0 Tryz.func24 V Tryz.ntmps24 Tryz.results24 fun B w0 => ?_
 by_cases hn : l.length = r.length
 rotate_left
 · have t1 : (((l.map fun s => [dS s]).length : Int) != ((r.map fun s => [dS s]).length : Int)) = true := by simp; omega
   rw [A7 fun e => hn (by rw [e])]
   refine E5 (A9 V (H2 V (yN V (B4 V (yN V (I3 V (B3 (L8 t1 V (E5 (A9 V (C4 (A6 ?_))))))))))))
   exact M8 V V
 have t1 : (((l.map fun s => [dS s]).length : Int) != ((r.map fun s => [dS s]).length : Int)) = false := by simp; omega
 refine E5 (A9 V (H2 V (yN V (B4 V (yN V (I3 V (B3 (O1 t1 V (B2 (H2 V (yN V (B4 V (yQ (B8 ?_)))))))))))))); refine I1 (fun i : Nat => ⟨26, [(0, .d (U7 l)), (1, .d (U7 r)), (12, .d (dI l.length)), (13, .d (dI i))], [], []⟩) (fun i => i ≤ l.length ∧ l.take i = r.take i) (fun i => l.length - i) 0 ⟨E8 _, V⟩ ⟨rfl, ⟨F5, F5, Ht (by simp), F5, D5⟩, D5, D5, V⟩ ?_
 rintro i ⟨hi, h0⟩
 rcases D6 i l.length with h | h
 · have u1 : decide ((i : Int) < (l.length : Int)) = true := B1 (by omega)
   obtain ⟨x, hx⟩ := DL h
   obtain ⟨y, hy⟩ : ∃ a, r[i]? = some a := ⟨_, A4 (by omega)⟩
   have ex := ix (fun s => [dS s]) l i i x rfl hx
   have ey := ix (fun s => [dS s]) r i i y rfl hy
   have hw := J0 ((i : Int) + 1) (by omega)
   by_cases e : x = y
   · have hv : (!(x == y)) = false := by simp [e]
     refine E5 (I3 V (B0 (L8 u1 V (B2 (B0 (B8 (H9 V (A9 V (B0 ?_))))))))); refine J2 Tryz.mixed (by kernel_rfl) ?_; refine B4 V (B4 V (L6 ex V (K8 V V (B4 V (B4 V (L6 ey V (K8 V V (N5 V V (yQ (B3 (O1 hv V (B2 (B6 (F9 V (B4 V (yQ (B3 ?_)))))))))))))))))
     exact ⟨i + 1, ⟨by omega, Qt h0 hx (e ▸ hy)⟩, by omega, rfl, ⟨F5, F5, F5, Q7 hw, D5⟩, D5, D5, rfl⟩
   · have hv : (!(x == y)) = true := by simpa using e
     rw [A7 fun e2 => e (by subst e2; rw [hx] at hy; exact I7 hy)]
     refine E5 (I3 V (B0 (L8 u1 V (B2 (B0 (B8 (H9 V (A9 V (B0 ?_))))))))); refine J2 Tryz.mixed (by kernel_rfl) ?_; refine B4 V (B4 V (L6 ex V (K8 V V (B4 V (B4 V (L6 ey V (K8 V V (N5 V V (yQ (B3 (L8 hv V (E5 (A9 V (C4 (C3 (A6 (A6 (C3 (A6 ?_)))))))))))))))))))
     exact M8 V V
 · have u1 : decide ((i : Int) < (l.length : Int)) = false := A7 (by omega)
   rw [D8 (by omega), D8 (by omega)] at h0
   rw [B1 h0]
   refine E5 (I3 V (B0 (O1 u1 V (F8 (E5 (A9 V (C4 ?_)))))))
   exact M8 V V
open Go.RowKit Px
theorem wRStdT : PCalls Tryz.prog 67 [] (.d (dS Qu)) := by
 refine M0 Tryz.func67 V Tryz.ntmps67 Tryz.results67 fun B w0 => ?_
 refine E5 (A9 V (E5 (A9 V (C4 ?_))))
 exact I9 _ (.tmp V .nil) (by kernel_rfl)
theorem Ng : PCalls Tryz.prog 27 [] (.d (Q5 stdR)) := by
 have p := St Qu
 have q := wRStdT
 rw [PT] at p
 obtain ⟨S, hS⟩ := I0 (stdR)
 obtain ⟨T, hT⟩ := I0 (Qu)
 rw [← hS] at p ⊢
 rw [← hT] at p q
 clear hS hT
 refine M0 Tryz.func27 V Tryz.ntmps27 Tryz.results27 fun B w0 => ?_
 refine E5 (A9 V (E5 (yC (q) V V (yC (p) V V (O6 V (yX V V (yX V V (yX V V (H5 V (H5 V (A9 V (H9 V (A9 V (C4 ?_))))))))))))))
 exact M8 V V
instance : EqOf Tryz.prog 48 [.s, .i .i64] := GR (by kernel_rfl) (by kernel_rfl) (by kernel_rfl)
abbrev vAcc (x : Ac) : List Value := [vS x.1, .int .i64 x.2]
theorem veq_ac (x y : Ac) : Lr (vAcc x) (vAcc y) = decide (x = y) := by
 obtain ⟨x0, x1⟩ := x
 obtain ⟨y0, y1⟩ := y
 show (veq (vS x0) (vS y0) && (veq (.int .i64 x1) (.int .i64 y1) && true)) = _
 rw [KW, veq_int, Bool.eq_iff_iff]
 simp
theorem wEqA (l : List Ac) (hl : l.length ≤ 1000000) : PCalls Tryz.prog 28 [.sl 2 (l.map Z9), .sl 2 (l.map Z9)] (.d (dB true)) := by
 refine M0 Tryz.func28 V Tryz.ntmps28 Tryz.results28 fun B w0 => ?_
 have t1 : (((l.map Z9).length : Int) != ((l.map Z9).length : Int)) = false := by simp
 refine E5 (A9 V (H2 V (yN V (B4 V (yN V (I3 V (B3 (O1 t1 V (B2 (H2 V (yN V (B4 V (yQ (B8 ?_)))))))))))))); refine I1 (fun i : Nat => ⟨26, [(0, .d (.sl 2 (l.map Z9))), (1, .d (.sl 2 (l.map Z9))), (12, .d (dI l.length)), (13, .d (dI i))], [], []⟩) (fun i => i ≤ l.length) (fun i => l.length - i) 0 (E8 _) ⟨rfl, ⟨F5, F5, Ht (by simp), F5, D5⟩, D5, D5, V⟩ ?_
 rintro i hi
 refine E5 (I3 V (B0 ?_)); refine BU V (fun h => ?_) (fun h => ?_)
 · simp at h
   obtain ⟨x, hx⟩ := DL h
   have ex := ix Z9 l i i x rfl hx
   have hw := J0 ((i : Int) + 1) (by omega)
   have hv := veq_ac x x
   rw [B1 rfl] at hv
   refine B2 (B0 (B8 (H9 V (A9 V (B0 ?_))))); refine J2 Tryz.mixed (by kernel_rfl) ?_; refine B4 V (B4 V (L6 ex V (V0 (ys := [_, _]) V V V (B4 V (B4 V (L6 ex V (V0 (ys := [_, _]) V V V (yBx (vs := vAcc x) (us := vAcc x) V V V V V V (yQ (B3 (pnf hv V (B2 (B6 (F9 V (B4 V (yQ (B3 ?_)))))))))))))))))
   refine ⟨i + 1, by omega, by omega, rfl, ⟨F5, F5, F5, Q7 hw, D5⟩, D5, D5, rfl⟩
 · refine F8 (E5 (A9 V (C4 ?_)))
   exact M8 V V
theorem MO (n : Int) : (X7 n).length ≤ 1000000 := by
 unfold X7
 cases h : Y8 n with
 | none => simp
 | some k =>
  have h1 : (kndL.all fun k => decide (k.2.2.1.length ≤ 1000000)) = true := by decide
  simpa using D7.1 h1 k (List.mem_of_find?_eq_some h)
theorem orR_bd {l : List Ru} (h : ∀ r ∈ l, Sf r) (n : Int) : ∀ r ∈ [UH (EQ l n)], Sf r := fun r hr => by
 rw [List.mem_singleton.1 hr]
 cases h1 : EQ l n with
 | none => exact ⟨by simp [UH], fun x hx => by simp [UH] at hx⟩
 | some q => exact h q (List.mem_of_find?_eq_some h1)
theorem Uj (l : List Ru) (n : Int) : PCalls Tryz.prog 4 [Q5 l, dI n] (.d (dB true)) := by
 have k0 := wAwake
 have k1 := TA [l] (by simp)
 simp only [List.map_cons, List.map_nil, List.any_cons, List.any_nil, Bool.or_false] at k1
 cases hg : Im l with
 | true =>
  rw [hg] at k1
  refine M0 Tryz.func4 V Tryz.ntmps4 Tryz.results4 fun B w0 => ?_
  refine E5 (A9 V (H2 V ?_)); refine yR (es := [[_]]) V V V V V ?_; refine yC (k1) V V (yQ (G4 V (E5 (yC (k0) V V (A9 V (C4 (A6 ?_)))))))
  exact M8 V V
 | false =>
 rw [hg] at k1
 obtain ⟨Dp, BN⟩ := grt_bdR hg
 have c1 := wNamesK n
 have c2 := Su n
 have c3 := wWordK n
 have c4 := wRWord n
 have c5 := TC l n Dp
 have c6 := Sw l n Dp
 have e1 := wEqS (X7 n) (X7 n) (MO n) (MO n)
 have e2 := wSame [UH (EQ l n)] [UH (EQ l n)] (by simp) (orR_bd BN n)
 have e3 := wSame stdR stdR (by rw [stdL]; omega) stdB
 have e4 := wEqA chtA (by decide)
 have s1 := Jf
 have s2 := Ng
 have d1 := TI
 have d2 := wRChart
 rw [B1 rfl] at e1 e2 e3
 obtain ⟨S, hS⟩ := I0 (stdR)
 obtain ⟨C, hC⟩ := I0 (chtA)
 obtain ⟨N, hN⟩ := I0 (X7 n)
 obtain ⟨E, hE⟩ := I0 (erK n)
 obtain ⟨W, hW⟩ := I0 (Fj n)
 obtain ⟨F, hF⟩ := I0 (UH (EQ l n))
 obtain ⟨b, hb⟩ := I0 ((EQ l n).isSome)
 rw [← hS] at e3 s1 s2
 rw [← hC] at e4 d1 d2
 rw [← hN, ← hE] at c1 c2
 rw [← hN] at e1
 rw [← hE, ← hW] at c3 c4
 rw [← hF, ← hb] at c5 c6
 rw [← hF] at e2
 clear hS hC hN hE hW hF hb BN
 have u1 : (E == E) = true := by simp
 have u2 : (W == W) = true := by simp
 refine M0 Tryz.func4 V Tryz.ntmps4 Tryz.results4 fun B w0 => ?_
 cases b with
 | true =>
  refine E5 (A9 V (H2 V ?_)); refine yR (es := [[_]]) V V V V V ?_; refine yC (k1) V V (yQ (F4 V (B2 (H9 V (yC (c1) V V (O6 V (yX V V (yX V V (H5 V (A9 V (H9 V (yC (c2) V V (O6 V (yX V V (yX V V (H5 V (A9 V (H9 V (yC (c3) V V (O6 V (yX V V (yX V V (H5 V (A9 V (H9 V (yC (c4) V V (O6 V (yX V V (yX V V (H5 V (A9 V (H9 V (B4 V (yC (c5) V V (O6 V (yX V V (yX V V (yZ (cs := [_, _]) V V (yS (cs' := [_, _]) V V V V V ?_))))))))))))))))))))))))))))))))))))))); refine A9 V (H9 V (B4 V (yC (c6) V V (O6 V (yX V V (yX V V (yZ (cs := [_, _]) V V (yS (cs' := [_, _]) V V V V V (A9 V (H9 V (B4 V (yC (e1) V V (B4 V (B4 V (B4 V (F9 V (L2 V V (B4 V ?_)))))))))))))))))); rw [u1]; refine B4 V (B4 V (N7 V V (L2 V V (B4 V ?_)))); rw [u2]; refine B4 V (B4 V (F9 V (L2 V V (B4 V ?_)))); rw [u1]; refine Ab (ys := [_, _]) V V V V ?_; refine yR (es := [[_, _]]) V V V V V ?_; refine Ab (ys := [_, _]) V V V V ?_; refine yR (es := [[_, _]]) V V V V V ?_; refine yC (e2) V V (L2 V V (B4 V (B4 V (B4 V (Sg Tryz.underlying4 V V V (L2 V V (B4 V (yC (s1) V V (yC (s2) V V (yC (e3) V V (L2 V V (B4 V (yC (d1) V V (yC (d2) V V (yC (e4) V V (L2 V V (B4 V (yC (k0) V V (L2 V V (A9 V (C4 ?_)))))))))))))))))))))
  exact M8 V V
 | false =>
  refine E5 (A9 V (H2 V ?_)); refine yR (es := [[_]]) V V V V V ?_; refine yC (k1) V V (yQ (F4 V (B2 (H9 V (yC (c1) V V (O6 V (yX V V (yX V V (H5 V (A9 V (H9 V (yC (c2) V V (O6 V (yX V V (yX V V (H5 V (A9 V (H9 V (yC (c3) V V (O6 V (yX V V (yX V V (H5 V (A9 V (H9 V (yC (c4) V V (O6 V (yX V V (yX V V (H5 V (A9 V (H9 V (B4 V (yC (c5) V V (O6 V (yX V V (yX V V (yZ (cs := [_, _]) V V (yS (cs' := [_, _]) V V V V V ?_))))))))))))))))))))))))))))))))))))))); refine A9 V (H9 V (B4 V (yC (c6) V V (O6 V (yX V V (yX V V (yZ (cs := [_, _]) V V (yS (cs' := [_, _]) V V V V V (A9 V (H9 V (B4 V (yC (e1) V V (B4 V (B4 V (B4 V (F9 V (L2 V V (B4 V ?_)))))))))))))))))); rw [u1]; refine B4 V (B4 V (N7 V V (L2 V V (B4 V ?_)))); rw [u2]; refine B4 V (B4 V (F9 V (L2 V V (B4 V ?_)))); rw [u1]; refine Ab (ys := [_, _]) V V V V ?_; refine yR (es := [[_, _]]) V V V V V ?_; refine Ab (ys := [_, _]) V V V V ?_; refine yR (es := [[_, _]]) V V V V V ?_; refine yC (e2) V V (L2 V V (B4 V (B4 V (B4 V (Sg Tryz.underlying4 V V V (L2 V V (B4 V (yC (s1) V V (yC (s2) V V (yC (e3) V V (L2 V V (B4 V (yC (d1) V V (yC (d2) V V (yC (e4) V V (L2 V V (B4 V (yC (k0) V V (L2 V V (A9 V (C4 ?_)))))))))))))))))))))
  exact M8 V V
end Go.Proofs.YtddfimjiihggmaaGreatDoor