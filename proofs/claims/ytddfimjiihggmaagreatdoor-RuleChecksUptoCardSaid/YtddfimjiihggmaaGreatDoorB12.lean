/- Arguments of the law on rules that can be used: charts with their bounds. -/
import Derived.Deep.DeepHandedRow
import Derived.Test.YtddfimjiihggmaaGreatDoorB11
import Derived.Shelf.SlSortCmp.WholeK
import Derived.Shelf.SlicesE.Compact
set_option maxHeartbeats 16000000
set_option maxRecDepth 20000
namespace Go.Proofs.YtddfimjiihggmaaGreatDoor
open Go.RowKit Px
open Go.ChangeShapes Go.WideShapes Go.ChangeAt Go.RowKit Px
variable {c b : UInt8} {i f : Nat} {α : Type}
section
variable {H : Type} {enc : TypeId × Value → H}
theorem Qm (d : DataW H) : 1 ≤ Rows.uptoBulk d := by
 cases d with
 | lit x => cases x <;> simp [Rows.uptoBulk]
 | _ => simp [Rows.uptoBulk]
theorem Qn {d : DataW H} {l : List (DataW H)} (h : d ∈ l) : Rows.uptoBulk d ≤ Rows.uptoBulkAll l := by
 induction l with
 | nil => cases h
 | cons x l ih =>
  rw [Rows.uptoBulkAll]
  rcases List.mem_cons.1 h with rfl | h
  · omega
  · have := ih h; omega
theorem Qo (l : List (DataW H)) : l.length ≤ Rows.uptoBulkAll l := by
 induction l with
 | nil => simp
 | cons x l ih =>
  rw [Rows.uptoBulkAll, List.length_cons]
  have := Qm x
  omega
theorem LZ {W : World} {sp : Nat → Bool} {hd : Bool} {v : Value} {d : DataW H} {p : List MemPlace} (h : DataW.Trod enc Tryz.prog W 0 sp hd 23 v d p) {l : List Ac} (e : DRep TT W v (.sl 2 (l.map O8))) (hb : Rows.uptoBulk d ≤ 1048576) :
 l.length ≤ 1048576 ∧ ∀ a ∈ l, a.1.length ≤ 1048576 := by
 obtain ⟨fuel, hf⟩ := h
 obtain ⟨A, c, news, hv, -, -, -, -, ha, -, hr⟩ := DRep.row e
 have hcs : v.cells.toList = [v] := by rw [hv]; rfl
 rw [hcs] at hf
 rw [A7] at hv ha
 rcases Go.Deep.open_slice Tryz.underlying23 hf with ⟨h2, -⟩ | ⟨a, len, cap, m, n, D, Pl, h2, -, hlc, -, hmm, hx, hel⟩
 · have h3 : v = .slice none 0 0 := by simpa using h2
   rw [hv] at h3
   have h4 : l.length = 0 := (Value.slice.inj h3).2.1
   have h5 := List.eq_nil_of_length_eq_zero h4
   subst h5
   exact ⟨D9 _, fun a ha => by cases ha⟩
 have h3 : v = .slice (some a) len cap := by simpa using h2
 rw [hv] at h3
 obtain ⟨rfl, h4, -⟩ := Value.slice.inj h3
 subst h4
 have h5 : d = .slice ((List.range l.length).map D) ((List.range (m - l.length)).map fun j => D (l.length + j)) := C7 Prod.fst hx
 rw [h5, Rows.uptoBulk] at hb
 have hlm : l.length ≤ m := by rw [hmm]; split <;> omega
 refine ⟨?_, fun x hxm => ?_⟩
 · have := Qo ((List.range l.length).map D)
   rw [A7, List.length_range] at this
   omega
 obtain ⟨i, hi, hxi⟩ := List.getElem_of_mem hxm
 obtain ⟨cs', k1, k2⟩ := hel i (by omega)
 have hce : Tryz.prog.cellsOf 48 = 2 := by kernel_rfl
 have hcs1 : Tryz.prog.cellsOf 9 = 1 := by kernel_rfl
 rw [hce] at k1
 obtain ⟨-, k3, k4⟩ := World.cells?_some k1
 obtain ⟨y0, y1, n', k5, -, k6, -⟩ := trod_struct2 Tryz.underlying48 k2
 obtain ⟨s, k7, k8, -⟩ := DataW.trod_string Tryz.underlying9 k6
 have hk0 : cs'[0]? = some (.string s) := by
  have := C7 (fun l : List Value => l[0]?) k7
  rw [hcs1] at this
  simpa using this
 obtain ⟨u, q1, q2⟩ := hr i 0 (O8 x) (dS x.1) (by rw [C6, A5 hi, hxi]; rfl) rfl
 obtain ⟨b, off, q3, q4⟩ := ha (by omega)
 cases q3
 have q5 := (q4 _ u q1).1
 have q6 := k4 0 (by omega)
 have e1 : ((⟨b, off, none⟩ : Addr).add (i * 2)).add 0 = ⟨b, off + (i * 2 + 0), none⟩ := by simp [Addr.add]
 rw [e1, q5, hk0] at q6
 cases q6
 have q7 := DRep.val_eq q2
 have q8 : s.data.toList = x.1 := by
  have := Value.string.inj q7
  rw [this]
 have h6 : D i = .agg [y0.1, y1.1] := C7 Prod.fst k5
 have h7 : Rows.uptoBulk (D i) ≤ Rows.uptoBulkAll ((List.range l.length).map D) := Qn (H0.2 ⟨i, List.mem_range.2 hi, rfl⟩)
 rw [h6, k8, Rows.uptoBulk, Rows.uptoBulkAll, Rows.uptoBulk, q8] at h7
 omega
theorem Hj {C : Checked} {os : Os} {f : FuncId} {fn : Func} {s : OpenSpec} {k : (H : Type) → List (DataW H) → Bool} (hk : s.cond = some k) {conds : List PathCond} {apart : Bool} {laid : List (String × DataW Unit)} (modest : Bool) (w0 : World) (args : Array Value) (fuel : Nat) (hos : w0.os = os)
 (hsh : (w0.forCall (fun _ _ => 0) ⟨#[], args, []⟩).Shaped C.prog)
 (hok : Input.okWideB C.prog (w0.forCall (fun _ _ => 0) ⟨#[], args, []⟩) f ⟨#[], args, []⟩ = true)
 {x : List (DataW H) × List (DataW H) × List MemPlace} (hx : DataW.whole enc C.prog (w0.forCall (fun _ _ => 0) ⟨#[], args, []⟩).memory fn.params.toList s.vars apart args.toList fuel = some x)
 (hconds : conds.all (PathCond.test C.prog ⟨fn.params.toList, x.1, s.bare.plain.varTypes C.prog, x.2.1⟩) = true) (hkk : k H (x.1 ++ x.2.1) = true)
 (hsz : s.bare.sizedB enc C.prog fn apart (w0.forCall (fun _ _ => 0) ⟨#[], args, []⟩).memory args fuel = true)
 (hl : laidMetH C.prog laid (w0.forCall (fun _ _ => 0) ⟨#[], args, []⟩).memory) :
 ∃ (w : World) (tape : Tape) (i : Input), w.os = os ∧ (w.forCall tape i).Shaped C.prog ∧ i.vars = [] ∧ Input.okWide C.prog (w.forCall tape i) .any w.heap.size f i ∧
  s.preRow enc C.prog fn conds apart laid (w.forCall tape i).memory i.args ∧ ({ modest := modest } : Assume).holds C.prog (lone (Frame.enter C.prog f i.args .normal) [] (w.forCall tape i)) :=
 ⟨w0, fun _ _ => 0, ⟨#[], args, []⟩, hos, hsh, (Input.okWide_of_okWideB (base := 0) hok).1, (Input.okWide_of_okWideB hok).2,
  ⟨⟨(OpenSpec.pre_some hk conds apart _ _).2 ⟨x.1, x.2.1, x.2.2, DataW.Whole_of_whole hx, hconds, hkk⟩, hl⟩, sizedMet_of_sizedB hsz⟩, by
  simp only [Assume.holds]
  exact ⟨by simp, by simp, fun _ => Modest.zero, by simp, by simp⟩⟩
end
structure CutI (c : UInt8) (s : G0) (i f : Nat) (zs : List G0) : Prop where
 fi : f ≤ i
 il : i ≤ s.length
 no : c ∉ (s.drop f).take (i - f)
 eq : zs ++ Q5 c (s.drop f) = Q5 c s
 zl : zs.length ≤ i
theorem CutI.start (c : UInt8) (s : G0) : CutI c s 0 0 [] := ⟨E3 _, D9 _, by simp, by simp, E3 _⟩
theorem CutI.split {s : G0} (hf : f ≤ i) (hb : s[i]? = some b) : s.drop f = (s.drop f).take (i - f) ++ b :: s.drop (i + 1) := by
 obtain ⟨h1, h2⟩ := A6.1 hb
 conv => lhs; rw [← List.take_append_drop (i - f) (s.drop f)]
 rw [List.drop_drop, show f + (i - f) = i by omega, J0 h1, h2]
theorem CutI.hit {s : G0} {zs : List G0} (h : CutI c s i f zs) (hb : s[i]? = some c) : CutI c s (i + 1) (i + 1) (zs ++ [(s.drop f).take (i - f)]) := by
 have hl := (A6.1 hb).1
 refine ⟨E3 _, hl, by simp, ?_, by have := h.zl; simp; omega⟩
 rw [← h.eq]
 conv => rhs; rw [CutI.split h.fi hb]
 rw [spl_app h.no, H1]
 rfl
theorem CutI.miss {s : G0} {zs : List G0} (h : CutI c s i f zs) (hb : s[i]? = some b) (hn : b ≠ c) : CutI c s (i + 1) f zs := by
 have hl := (A6.1 hb).1
 have hf := h.fi
 refine ⟨by omega, hl, fun hc => ?_, h.eq, by have := h.zl; omega⟩
 rw [show i + 1 - f = (i - f) + 1 by omega, G8, List.getElem?_drop, show f + (i - f) = i by omega, hb] at hc
 rcases List.mem_append.1 hc with hc | hc
 · exact h.no hc
 · simp at hc; exact hn hc.symm
theorem CutI.done {s : G0} {zs : List G0} (h : CutI c s s.length f zs) : zs ++ [s.drop f] = Q5 c s := by
 have hn := h.no
 rw [E9 (by simp)] at hn
 rw [← h.eq, Lz hn]
theorem CutI.part {s : G0} : ((s.drop f).take (i - f)).length ≤ s.length := by simp; omega
def BL (n : G0) (ls : List Ln) (k m : Nat) : Int := rS (one n) (ls.take k) + match ls[k]? with
 | none => 0
 | some l => if l.2.1 then - cf n (l.2.2.take m) else cf n (l.2.2.take m)
theorem GE (n : G0) (ls : List Ln) : BL n ls 0 0 = 0 := by
 unfold BL
 cases ls with
 | nil => rfl
 | cons l ls => show 0 + (if l.2.1 then - cf n [] else cf n []) = 0; split <;> rfl
theorem rS_snoc (n : G0) (ls : List Ln) (l : Ln) : rS (one n) (ls ++ [l]) = rS (one n) ls + (if l.2.1 then - cf n l.2.2 else cf n l.2.2) := by
 rw [rS_app, JU, rS_nil, Int.add_zero]
theorem HN {n : G0} {ls : List Ln} {k : Nat} {l : Ln} (h : ls[k]? = some l) : BL n ls k l.2.2.length = BL n ls (k + 1) 0 := by
 unfold BL
 rw [h, G8, h, Option.toList, rS_snoc]
 simp only [I3, List.take_zero]
 have : (match ls[k + 1]? with | none => (0 : Int) | some l => if l.2.1 then - cf n [] else cf n []) = 0 := by
  split
  · rfl
  · split <;> rfl
 rw [this, Int.add_zero]
theorem QZ {n : G0} {ls : List Ln} : BL n ls ls.length 0 = rS (one n) ls := by
 unfold BL
 rw [I3, H9 (E3 _)]
 simp
theorem HK {n : G0} {ls : List Ln} {k m : Nat} {l : Ln} {c : Cf} (h : ls[k]? = some l) (hc : l.2.2[m]? = some c) : BL n ls k (m + 1) = if c.1 = n then (if l.2.1 then BL n ls k m - val c.2 else BL n ls k m + val c.2) else BL n ls k m := by
 unfold BL
 rw [h]
 simp only
 rw [G8, hc, Option.toList, cf_snoc]
 split <;> split <;> omega
abbrev sgT : Nat := 9 * 100000 + 3
abbrev ctTk : Nat := 9 * 100000 + 4
theorem wSegs (s : G0) (hs : s.length ≤ 1100000) : PCalls Tryz.prog 157 [dS s] (.d (V3 (Q5 46 s))) := by
 obtain ⟨R, hR⟩ := H7 (Q5 46 s)
 rw [← hR]
 refine B3 Tryz.func157 V Tryz.ntmps157 Tryz.results157 (by simp) fun B w0 => ?_
 refine D8 (B5 V (D8 (yEb V (Dc V (B5 V ?_))))); refine Kk 3 6 sgT (n := 0) (es := []) (ds := []) V V V V V V V V ?_; refine A8 (D8 (B5 V (B6 ?_))); refine H2 (fun p : Nat × Nat × List G0 => ⟨32, [(0, .d (dS s)), (3, .ts sgT 1 (p.2.2.map dC)), (4, .d (dI p.2.1)), (5, .d (dI p.1))], [], [(sgT, (p.2.2.map dC).length)]⟩) (fun p => CutI 46 s p.1 p.2.1 p.2.2) (fun p => s.length - p.1) (0, 0, []) (CutI.start _ _)
  ⟨rfl, ⟨E0, E0, E0, E0, D4⟩, D4, ⟨rfl, D4⟩, rfl⟩ ?_
 rintro ⟨i, f, zs⟩ hI
 simp only at hI ⊢
 have hfi := hI.fi
 have hil := hI.il
 have hzl := hI.zl
 have hfn : ((f : Nat) : Int).toNat = f := H5 f
 have hin : ((i : Nat) : Int).toNat = i := H5 i
 rcases D2 i s.length with h | h
 rotate_left
 · have u1 : decide ((i : Int) < (s.length : Int)) = false := A9 (by omega)
   obtain rfl : i = s.length := by omega
   have hd := hI.done
   have hD : s.drop ((f : Int)).toNat = s.drop f := by rw [hfn]
   have hf1 : (f : Int) ≤ (s.length : Int) := by omega
   obtain ⟨d, hdd⟩ := H7 (s.drop f)
   rw [← hdd] at hd hD
   rw [hR, ← hd]
   clear hR hd hdd hI hin hfn h
   refine I0 V (C3 V (O4 V (H3 V (B1 (L9 u1 V (G1 (D8 (Hh V (C3 V (C3 V (GP (by omega) hf1 hD rfl rfl ?_))))))))))); refine yR (es := [[_]]) V V V V V ?_; refine yT (es' := (zs ++ [d]).map dC) (m := ((zs ++ [d]).map dC).length) (by simp; omega) (by simp; omega) rfl rfl rfl rfl rfl (by simp) (by simp) ?_; refine Hi V (yQ (C4 ?_))
   exact C9 _ (.tmp V .nil) V
 have u1 : decide ((i : Int) < (s.length : Int)) = true := B0 (by omega)
 obtain ⟨x, hx⟩ := Bq h
 have hxi : s[((i : Nat) : Int).toNat]? = some x := by rw [hin]; exact hx
 have hw := I5 ((i : Int) + 1) (by omega)
 have arith : s.length - (i + 1) < s.length - i := by omega
 by_cases hxc : x = 46
 · have t2 : ((x.toNat : Int) == 46) = true := by rw [hxc]; rfl
   have hn : CutI 46 s (i + 1) (i + 1) (zs ++ [(s.drop f).take (i - f)]) := hI.hit (by rw [hx, hxc])
   have hP : (s.take ((i : Int)).toNat).drop ((f : Int)).toNat = (s.drop f).take (i - f) := by rw [hfn, hin, List.drop_take]
   obtain ⟨p, hp⟩ := H7 ((s.drop f).take (i - f))
   rw [← hp] at hn hP
   have h1 : (f : Int) ≤ (i : Int) := by omega
   have h2 : (i : Int) ≤ (s.length : Int) := by omega
   clear hp hI hx hin hfn hR
   refine I0 V (C3 V (O4 V (H3 V (B1 (J8 u1 V (B2 (A8 (B6 (H8 V (C3 V (Ah hxi (by omega) rfl rfl (H3 rfl (B1 ?_))))))))))))); rw [t2]
   refine G5 V (B4 (Hh V (C3 V (C3 V (C3 V (ySlh (by omega) h1 h2 hP rfl rfl rfl ?_)))))); refine yR (es := [[_]]) V V V V V ?_; refine yT (es' := (zs ++ [p]).map dC) (m := ((zs ++ [p]).map dC).length) (by simp; omega) (by simp; omega) rfl rfl rfl rfl rfl (by simp) (by simp) ?_; refine C3 V (G3 V (Hi V (B5 V (B4 (C3 V (G3 V (B5 V (B1 ?_))))))))
   exact ⟨(i + 1, i + 1, zs ++ [p]), hn, arith, V, ⟨E0, E0, .of_eq (C7 (fun n => SV.d (dI n)) hw), .of_eq (C7 (fun n => SV.d (dI n)) hw), D4⟩, D4, ⟨rfl, D4⟩, V⟩
 · have t2 : ((x.toNat : Int) == 46) = false := F8 fun h => hxc (UInt8.toNat_inj.1 (by have : (46 : UInt8).toNat = 46 := rfl; omega))
   have hn : CutI 46 s (i + 1) f zs := hI.miss hx hxc
   clear hI hx hin hfn hR
   refine I0 V (C3 V (O4 V (H3 V (B1 (J8 u1 V (B2 (A8 (B6 (H8 V (C3 V (Ah hxi (by omega) rfl rfl (H3 rfl (B1 ?_))))))))))))); rw [t2]
   refine F6 V (B2 (B4 (C3 V (G3 V (B5 V (B1 ?_))))))
   exact ⟨(i + 1, f, zs), hn, arith, V, ⟨E0, E0, E0, .of_eq (C7 (fun n => SV.d (dI n)) hw), D4⟩, D4, ⟨rfl, D4⟩, V⟩
theorem wRCut (s : G0) (c : UInt8) (hs : s.length ≤ 1100000) : PCalls Tryz.prog 85 [dS s, .val (.int .u8 c.toNat)] (.d (V3 (Q5 c s))) := by
 obtain ⟨R, hR⟩ := H7 (Q5 c s)
 rw [← hR]
 refine B3 Tryz.func85 V Tryz.ntmps85 Tryz.results85 (by simp) fun B w0 => ?_
 refine D8 (B5 V (D8 (yEb V (Dc V (B5 V ?_))))); refine Kk 5 8 ctTk (n := 0) (es := []) (ds := []) V V V V V V V V ?_; refine A8 (D8 (B5 V (B6 ?_))); refine H2 (fun p : Nat × Nat × List G0 => ⟨35, [(0, .d (dS s)), (1, .d (.val (.int .u8 c.toNat))), (5, .ts ctTk 1 (p.2.2.map dC)), (6, .d (dI p.2.1)), (7, .d (dI p.1))], [], [(ctTk, (p.2.2.map dC).length)]⟩) (fun p => CutI c s p.1 p.2.1 p.2.2) (fun p => s.length - p.1) (0, 0, []) (CutI.start _ _)
  ⟨rfl, ⟨E0, E0, E0, E0, E0, D4⟩, D4, ⟨rfl, D4⟩, rfl⟩ ?_
 rintro ⟨i, f, zs⟩ hI
 simp only at hI ⊢
 have hfi := hI.fi
 have hil := hI.il
 have hzl := hI.zl
 have hfn : ((f : Nat) : Int).toNat = f := H5 f
 have hin : ((i : Nat) : Int).toNat = i := H5 i
 rcases D2 i s.length with h | h
 rotate_left
 · have u1 : decide ((i : Int) < (s.length : Int)) = false := A9 (by omega)
   obtain rfl : i = s.length := by omega
   have hd := hI.done
   have hD : s.drop ((f : Int)).toNat = s.drop f := by rw [hfn]
   have hf1 : (f : Int) ≤ (s.length : Int) := by omega
   obtain ⟨d, hdd⟩ := H7 (s.drop f)
   rw [← hdd] at hd hD
   rw [hR, ← hd]
   clear hR hd hdd hI hin hfn h
   refine I0 V (C3 V (O4 V (H3 V (B1 (L9 u1 V (G1 (D8 (Hh V (C3 V (C3 V (GP (by omega) hf1 hD rfl rfl ?_))))))))))); refine yR (es := [[_]]) V V V V V ?_; refine yT (es' := (zs ++ [d]).map dC) (m := ((zs ++ [d]).map dC).length) (by simp; omega) (by simp; omega) rfl rfl rfl rfl rfl (by simp) (by simp) ?_; refine Hi V (yQ (C4 ?_))
   exact C9 _ (.tmp V .nil) V
 have u1 : decide ((i : Int) < (s.length : Int)) = true := B0 (by omega)
 obtain ⟨x, hx⟩ := Bq h
 have hxi : s[((i : Nat) : Int).toNat]? = some x := by rw [hin]; exact hx
 have hw := I5 ((i : Int) + 1) (by omega)
 have arith : s.length - (i + 1) < s.length - i := by omega
 by_cases hxc : x = c
 · have t2 : ((x.toNat : Int) == (c.toNat : Int)) = true := by rw [hxc]; exact beq_self_eq_true _
   have hn : CutI c s (i + 1) (i + 1) (zs ++ [(s.drop f).take (i - f)]) := hI.hit (by rw [hx, hxc])
   have hP : (s.take ((i : Int)).toNat).drop ((f : Int)).toNat = (s.drop f).take (i - f) := by rw [hfn, hin, List.drop_take]
   obtain ⟨p, hp⟩ := H7 ((s.drop f).take (i - f))
   rw [← hp] at hn hP
   have h1 : (f : Int) ≤ (i : Int) := by omega
   have h2 : (i : Int) ≤ (s.length : Int) := by omega
   clear hp hI hx hin hfn hR
   refine I0 V (C3 V (O4 V (H3 V (B1 (J8 u1 V (B2 (A8 (B6 (H8 V (C3 V (Ah hxi (by omega) rfl rfl (C3 rfl (H3 rfl (B1 ?_))))))))))))))
   rw [t2]; refine G5 V ?_; refine A8 ?_; refine B4 ?_; refine Hh V ?_; refine C3 V ?_; refine C3 V ?_; refine C3 V ?_; refine ySlh (by omega) h1 h2 hP rfl rfl rfl ?_
   refine yR (es := [[_]]) V V V V V ?_; refine yT (es' := (zs ++ [p]).map dC) (m := ((zs ++ [p]).map dC).length) (by simp; omega) (by simp; omega) rfl rfl rfl rfl rfl (by simp) (by simp) ?_; refine Hi V (yQ (B4 (C3 V (G3 V (B5 V (B4 (C3 V (G3 V (B5 V (B1 ?_))))))))))
   exact ⟨(i + 1, i + 1, zs ++ [p]), hn, arith, V, ⟨E0, E0, E0, .of_eq (C7 (fun n => SV.d (dI n)) hw), .of_eq (C7 (fun n => SV.d (dI n)) hw), D4⟩, D4, ⟨rfl, D4⟩, V⟩
 · have t2 : ((x.toNat : Int) == (c.toNat : Int)) = false := F8 fun h => hxc (UInt8.toNat_inj.1 (by omega))
   have hn : CutI c s (i + 1) f zs := hI.miss hx hxc
   clear hI hx hin hfn hR
   refine I0 V (C3 V (O4 V (H3 V (B1 (J8 u1 V (B2 (A8 (B6 (H8 V (C3 V (Ah hxi (by omega) rfl rfl (C3 rfl (H3 rfl (B1 ?_))))))))))))))
   rw [t2]; refine F6 V ?_; refine B2 ?_; refine B4 ?_; refine C3 V ?_; refine yB V V V V ?_; refine H4 V ?_; refine yQ ?_; refine B1 ?_
   exact ⟨(i + 1, f, zs), hn, arith, V, ⟨E0, E0, E0, E0, .of_eq (C7 (fun n => SV.d (dI n)) hw), D4⟩, D4, ⟨rfl, D4⟩, V⟩
theorem Cp {p : α → Bool} {l : List α} {x : α} (h : l[i]? = some x) (h0 : (l.take i).all p = true) (hx : p x = true) : (l.take (i + 1)).all p = true := by
 rw [G8, h, List.all_append, h0]
 simp [hx]
theorem Ij {p : α → Bool} {l : List α} {x : α} (h : l[i]? = some x) (hx : p x = false) : l.all p = false := by
 rw [List.all_eq_false]
 exact ⟨x, B7 h, by simp [hx]⟩
theorem wRTmp (s : G0) (hs : s.length ≤ 1100000) : PCalls Tryz.prog 112 [dS s] (.d (dB (P1 J5 s))) := by
 have k1 := wSegs s hs
 have hsl := FM 46 s
 have hll := W7 46 s
 obtain ⟨R, hR⟩ := H7 (P1 J5 s)
 rw [← hR]
 unfold P1 CM at hR
 obtain ⟨S, hS⟩ := H7 (Q5 46 s)
 rw [← hS] at k1 hsl hll hR
 clear hS
 refine B3 Tryz.func112 V Tryz.ntmps112 Tryz.results112 (by simp) fun B w0 => ?_
 refine D8 (B5 V (H8 V (yC (k1) V V (B5 V (A8 (D8 (B5 V (B6 ?_)))))))); refine H2 (fun i : Nat => ⟨36, [(3, .d (V3 S)), (4, .d (dI i))], [], []⟩) (fun i => i ≤ S.length ∧ (S.take i).all (fun x => Hr x || J5 x) = true) (fun i => S.length - i) 0 ⟨D9 _, V⟩
  ⟨rfl, ⟨E0, E0, D4⟩, D4, D4, rfl⟩ ?_
 rintro i ⟨hi, hI⟩
 rcases D2 i S.length with h | h
 rotate_left
 · have u1 : decide ((i : Int) < ((S.map fun s => [dS s]).length : Int)) = false := A9 (by rw [A7]; omega)
   rw [E9 h] at hI
   rw [hI, Bool.and_true] at hR
   have u2 : decide (((S.map fun s => [dS s]).length : Int) ≤ 6) = R := by rw [hR, A7]; exact decide_eq_decide.2 (by omega)
   refine I0 V (C3 V (yN V (H3 V (B1 (L9 u1 V (G1 (H8 V (yN V (G3 V (B5 V (C4 ?_)))))))))))
   exact C9 _ (.tmp V .nil) (C7 (fun b => SV.d (dB b)) u2.symm)
 have u1 : decide ((i : Int) < ((S.map fun s => [dS s]).length : Int)) = true := B0 (by rw [A7]; omega)
 obtain ⟨x, hx⟩ := Bq h
 have ex := ix (fun s => [dS s]) S i i x rfl hx
 have hw := I5 ((i : Int) + 1) (by omega)
 have hxl := hsl _ (B7 hx)
 have k2 := KW x (by omega)
 have arith : S.length - (i + 1) < S.length - i := by omega
 have hnx := Cp hx hI
 have hno := Ij (p := fun x => Hr x || J5 x) hx
 clear hI hx hsl hll
 obtain ⟨nb, hnb⟩ := H7 (J5 x)
 simp only [Hr] at hnx hno hR
 rw [← hnb] at k2 hnx hno
 by_cases h1 : x = [42]
 · have t1 : (!(x == [42])) = false := by simp [h1]
   refine I0 V (C3 V (yN V (H3 V (B1 (J8 u1 V (B2 (A8 (B6 (H8 V (C3 V (yW ex (by omega) rfl rfl (K5 rfl rfl (O6 rfl rfl (C3 rfl ?_)))))))))))))); rw [t1]
   refine yO V (yO V (yO V (yO V (yO V (K7 V V (C3 V (yO V (yO V (yO V (yO V (yO V (yO V (K7 V V (yQ (F6 V (B2 (B4 (C3 V (G3 V (B5 V (B1 ?_)))))))))))))))))))))
   exact ⟨i + 1, ⟨h, hnx (by simp [h1])⟩, arith, rfl, ⟨E0, .of_eq (C7 (fun n => SV.d (dI n)) hw), D4⟩, D4, D4, rfl⟩
 have t1 : (!(x == [42])) = true := by simp [h1]
 by_cases h2 : x = [43]
 · have t2 : (!(x == [43])) = false := by simp [h2]
   refine I0 V (C3 V (yN V (H3 V (B1 (J8 u1 V (B2 (A8 (B6 (H8 V (C3 V (yW ex (by omega) rfl rfl (K5 rfl rfl (O6 rfl rfl (C3 rfl ?_)))))))))))))); rw [t1]
   refine C3 V (C3 V (yW ex (by omega) rfl rfl (K5 rfl rfl (O6 rfl rfl (K8 rfl rfl (C3 rfl ?_)))))); rw [t2]; refine yO V (yO V (yO V (yO V (yO V (yO V (K7 V V (yQ (F6 V (B2 (B4 (C3 V (G3 V (B5 V (B1 ?_))))))))))))))
   exact ⟨i + 1, ⟨h, hnx (by simp [h2])⟩, arith, rfl, ⟨E0, .of_eq (C7 (fun n => SV.d (dI n)) hw), D4⟩, D4, D4, rfl⟩
 have t2 : (!(x == [43])) = true := by simp [h2]
 cases nb with
 | true =>
  refine I0 V (C3 V (yN V (H3 V (B1 (J8 u1 V (B2 (A8 (B6 (H8 V (C3 V (yW ex (by omega) rfl rfl (K5 rfl rfl (O6 rfl rfl (C3 rfl ?_)))))))))))))); rw [t1]
  refine C3 V (C3 V (yW ex (by omega) rfl rfl (K5 rfl rfl (O6 rfl rfl (K8 rfl rfl (C3 rfl ?_)))))); rw [t2]; refine C3 V (C3 V (yW ex (by omega) rfl rfl (K5 rfl rfl (yC (k2) rfl rfl (yU rfl rfl rfl (K8 rfl rfl (yQ (F6 rfl (B2 (B4 (C3 rfl (G3 rfl (B5 rfl (B1 ?_))))))))))))))
  exact ⟨i + 1, ⟨h, hnx (by simp)⟩, arith, rfl, ⟨E0, .of_eq (C7 (fun n => SV.d (dI n)) hw), D4⟩, D4, D4, rfl⟩
 | false =>
  rw [hno (by simp [h1, h2]), Bool.and_false] at hR
  subst hR
  refine I0 V (C3 V (yN V (H3 V (B1 (J8 u1 V (B2 (A8 (B6 (H8 V (C3 V (yW ex (by omega) rfl rfl (K5 rfl rfl (O6 rfl rfl (C3 rfl ?_)))))))))))))); rw [t1]
  refine C3 V (C3 V (yW ex (by omega) rfl rfl (K5 rfl rfl (O6 rfl rfl (K8 rfl rfl (C3 rfl ?_)))))); rw [t2]; refine C3 V (C3 V (yW ex (by omega) rfl rfl (K5 rfl rfl (yC (k2) rfl rfl (yU rfl rfl rfl (K8 rfl rfl (yQ (G5 rfl (D8 (B5 rfl (C4 (B8 (A4 (A4 (B8 (A4 ?_))))))))))))))))
  exact C9 _ (.tmp V .nil) V
theorem wRCodeE (s : G0) (hs : s.length ≤ 1100000) : PCalls Tryz.prog 110 [dS s] (.d (dI (KO s))) := by
 have k1 := wSegs s hs
 have hsl := FM 46 s
 have hll := W7 46 s
 obtain ⟨R, hR⟩ := H7 (KO s)
 rw [← hR]
 unfold KO CM at hR
 obtain ⟨S, hS⟩ := H7 (Q5 46 s)
 rw [← hS] at k1 hsl hll hR
 clear hS
 refine B3 Tryz.func110 V Tryz.ntmps110 Tryz.results110 (by simp) fun B w0 => ?_
 refine D8 (B5 V (H8 V (yC (k1) V V (B5 V (A8 (D8 (B5 V (B6 ?_)))))))); refine H2 (fun i : Nat => ⟨22, [(3, .d (V3 S)), (4, .d (dI i))], [], []⟩) (fun i => i ≤ S.length ∧ (S.take i).all J5 = true) (fun i => S.length - i) 0 ⟨D9 _, V⟩
  ⟨rfl, ⟨E0, E0, D4⟩, D4, D4, rfl⟩ ?_
 rintro i ⟨hi, hI⟩
 rcases D2 i S.length with h | h
 rotate_left
 · have u1 : decide ((i : Int) < ((S.map fun s => [dS s]).length : Int)) = false := A9 (by rw [A7]; omega)
   rw [E9 h] at hI
   rw [hI, Bool.and_true] at hR
   by_cases h6 : 6 < S.length
   · have u2 : decide (((S.map fun s => [dS s]).length : Int) > 6) = true := B0 (by rw [A7]; omega)
     rw [A9 (by omega), B9 (by simp)] at hR
     subst hR
     refine I0 V (C3 V (yN V (H3 V (B1 (L9 u1 V (G1 (I0 V (yN V (H3 V (B1 (J8 u2 V (D8 (B5 V (C4 (A4 ?_)))))))))))))))
     exact C9 _ (.tmp V .nil) V
   · have u2 : decide (((S.map fun s => [dS s]).length : Int) > 6) = false := A9 (by rw [A7]; omega)
     rw [B0 (by omega), C5 rfl] at hR
     subst hR
     refine I0 V (C3 V (yN V (H3 V (B1 (L9 u1 V (G1 (I0 V (yN V (H3 V (B1 (L9 u2 V (B2 (D8 (B5 V (C4 ?_)))))))))))))))
     exact C9 _ (.tmp V .nil) V
 have u1 : decide ((i : Int) < ((S.map fun s => [dS s]).length : Int)) = true := B0 (by rw [A7]; omega)
 obtain ⟨x, hx⟩ := Bq h
 have ex := ix (fun s => [dS s]) S i i x rfl hx
 have hw := I5 ((i : Int) + 1) (by omega)
 have hxl := hsl _ (B7 hx)
 have k2 := KW x (by omega)
 have arith : S.length - (i + 1) < S.length - i := by omega
 have hnx := Cp hx hI
 have hno := Ij (p := J5) hx
 clear hI hx hsl hll
 obtain ⟨nb, hnb⟩ := H7 (J5 x)
 rw [← hnb] at k2 hnx hno
 cases nb with
 | true =>
  refine I0 V (C3 V (yN V (H3 V (B1 (J8 u1 V (B2 (A8 (B6 (H8 V (C3 V (yW ex (by omega) rfl rfl (K5 rfl rfl (yC (k2) rfl rfl (yU rfl rfl rfl (yQ (F6 rfl (B2 (B4 (C3 rfl (G3 rfl (B5 rfl (B1 ?_))))))))))))))))))))))
  exact ⟨i + 1, ⟨h, hnx V⟩, arith, V, ⟨E0, .of_eq (C7 (fun n => SV.d (dI n)) hw), D4⟩, D4, D4, V⟩
 | false =>
  rw [hno rfl, Bool.and_false, B9 (by simp)] at hR
  subst hR
  refine I0 V (C3 V (yN V (H3 V (B1 (J8 u1 V (B2 (A8 (B6 (H8 V (C3 V (yW ex (by omega) rfl rfl (K5 rfl rfl (yC (k2) rfl rfl (yU rfl rfl rfl (yQ (G5 rfl (D8 (B5 rfl (C4 (B8 (A4 (A4 (B8 (A4 ?_))))))))))))))))))))))))
  exact C9 _ (.tmp V .nil) V
theorem Iz {code p : G0} (h : p.isPrefixOf code = true) : code = p ++ code.drop p.length := by
 obtain ⟨t, rfl⟩ := List.isPrefixOf_iff_prefix.1 h
 simp
theorem Lo (c p : G0) (hc : c.length ≤ 1100000) : PCalls Tryz.prog 111 [dS c, dS p] (.d (dB (V7 c p))) := by
 obtain ⟨R, hR⟩ := H7 (V7 c p)
 rw [← hR]
 by_cases h0 : c = p
 · have t0 : (c == p) = true := by simp [h0]
   have e : R = true := by rw [hR, V7, h0]; simp
   subst e
   refine B3 Tryz.func111 V Tryz.ntmps111 Tryz.results111 (by simp) fun B w0 => ?_
   refine D8 (B5 V (H8 V (O4 V (B5 V (H8 V (C3 V (O9 V V (C3 V ?_)))))))); rw [t0]; refine yO V (yO V (yO V (yO V (yO V (yO V (yO V (yO V (yO V (yO V (yO V (yO V (yO V (yO V (yO V (yO V (yO V (K8 V V (B5 V (C4 ?_)))))))))))))))))))
   exact C9 _ (.tmp V .nil) V
 have t0 : (c == p) = false := F8 h0
 by_cases h1 : p.length < c.length
 rotate_left
 · have t1 : decide ((c.length : Int) > (p.length : Int)) = false := A9 (by omega)
   have e : R = false := by
    rw [hR, V7]
    cases hp : p.isPrefixOf c with
    | false => rfl
    | true =>
     have h2 := Iz hp
     have h3 : c.drop p.length = [] := I8 (by omega)
     rw [h3, List.append_nil] at h2
     exact G7 h2 h0
   subst e
   refine B3 Tryz.func111 V Tryz.ntmps111 Tryz.results111 (by simp) fun B w0 => ?_
   refine D8 (B5 V (H8 V (O4 V (B5 V (H8 V (C3 V (O9 V V (C3 V ?_)))))))); rw [t0]; refine C3 V (O4 V (C3 V (G3 V (C3 V ?_)))); rw [t1]; refine yO V (yO V (yO V (yO V (yO V (K7 V V (C3 V (yO V (yO V (yO V (yO V (K7 V V (K7 V V (B5 V (C4 ?_))))))))))))))
   exact C9 _ (.tmp V .nil) V
 have t1 : decide ((c.length : Int) > (p.length : Int)) = true := B0 (by omega)
 have hpn : ((p.length : Nat) : Int).toNat = p.length := H5 _
 have hT : c.take ((p.length : Nat) : Int).toNat = c.take p.length := by rw [hpn]
 obtain ⟨x, hx⟩ : ∃ x, c[p.length]? = some x := ⟨_, A5 h1⟩
 have hxi : c[((p.length : Nat) : Int).toNat]? = some x := by rw [hpn]; exact hx
 have hle : ((p.length : Nat) : Int) ≤ (c.length : Int) := by omega
 by_cases h2 : c.take p.length = p
 rotate_left
 · have t2 : (c.take p.length == p) = false := F8 h2
   have e : R = false := by
    rw [hR, V7]
    cases hp : p.isPrefixOf c with
    | false => rfl
    | true =>
     have h3 := Iz hp
     refine G7 ?_ h2
     conv => lhs; rw [h3]
     simp
   subst e
   obtain ⟨q, hq⟩ := H7 (c.take p.length)
   rw [← hq] at t2 hT
   refine B3 Tryz.func111 V Tryz.ntmps111 Tryz.results111 (by simp) fun B w0 => ?_
   refine D8 (B5 V (H8 V (O4 V (B5 V (H8 V (C3 V (O9 V V (C3 V ?_)))))))); rw [t0]; refine C3 V (O4 V (C3 V (G3 V (C3 V ?_)))); rw [t1]; refine C3 V (C3 V (KS (by omega) hle hT rfl rfl (C3 rfl (O9 rfl rfl (K8 rfl rfl (C3 rfl ?_)))))); rw [t2]; refine yO V (yO V (yO V (yO V (K7 V V (K7 V V (B5 V (C4 ?_)))))))
   exact C9 _ (.tmp V .nil) V
 have t2 : (c.take p.length == p) = true := by simp [h2]
 have e : R = (x == 46) := by
  rw [hR, V7]
  have h3 : p.isPrefixOf c = true := by
   refine List.isPrefixOf_iff_prefix.2 ⟨c.drop p.length, ?_⟩
   conv => lhs; lhs; rw [← h2]
   rw [List.take_append_drop]
  rw [h3, J0 h1]
  have := (A6.1 hx).2
  simp only [Bool.true_and]
  rw [this]
 obtain ⟨q, hq⟩ := H7 (c.take p.length)
 rw [← hq] at t2 hT
 have e2 : ((x.toNat : Int) == 46) = R := by
  rw [e, Bool.eq_iff_iff, beq_iff_eq, beq_iff_eq]
  constructor
  · intro h; exact UInt8.toNat_inj.1 (by have : (46 : UInt8).toNat = 46 := rfl; omega)
  · intro h; rw [h]; rfl
 refine B3 Tryz.func111 V Tryz.ntmps111 Tryz.results111 (by simp) fun B w0 => ?_
 refine D8 (B5 V (H8 V (O4 V (B5 V (H8 V (C3 V (O9 V V (C3 V ?_)))))))); rw [t0]; refine C3 V (O4 V (C3 V (G3 V (C3 V ?_)))); rw [t1]; refine C3 V (C3 V (KS (by omega) hle hT rfl rfl (C3 rfl (O9 rfl rfl (K8 rfl rfl (C3 rfl ?_)))))); rw [t2]; refine C3 V (C3 V (Ah hxi (by omega) rfl rfl (G3 rfl (K8 rfl rfl (K7 rfl rfl (B5 rfl (C4 ?_)))))))
 exact C9 _ (.tmp V .nil) (C7 (fun b => SV.d (dB b)) e2.symm)
theorem wConR (l : List G0) (s : G0) (hl : l.length ≤ 1100000) : PCalls Tryz.prog 115 [V3 l, dS s] (.d (dB (l.contains s))) := by
 obtain ⟨R, hR⟩ := H7 (l.contains s)
 rw [← hR]
 refine B3 Tryz.func115 V Tryz.ntmps115 Tryz.results115 (by simp) fun B w0 => ?_
 refine D8 (B5 V (A8 (D8 (B5 V (B6 ?_))))); refine H2 (fun i : Nat => ⟨18, [(0, .d (V3 l)), (1, .d (dS s)), (5, .d (dI i))], [], []⟩) (fun i => i ≤ l.length ∧ (l.drop i).contains s = R) (fun i => l.length - i) 0 ⟨D9 _, hR.symm⟩
  ⟨rfl, ⟨E0, E0, E0, D4⟩, D4, D4, rfl⟩ ?_
 rintro i ⟨hi, hI⟩
 clear hR
 rcases D2 i l.length with h | h
 rotate_left
 · have u1 : decide ((i : Int) < ((l.map fun s => [dS s]).length : Int)) = false := A9 (by rw [A7]; omega)
   rw [I8 h] at hI
   subst hI
   refine I0 V (C3 V (yN V (H3 V (B1 (L9 u1 V (G1 (D8 (B5 V (C4 ?_)))))))))
   exact C9 _ (.tmp V .nil) V
 have u1 : decide ((i : Int) < ((l.map fun s => [dS s]).length : Int)) = true := B0 (by rw [A7]; omega)
 obtain ⟨x, hx⟩ := Bq h
 have ex := ix (fun s => [dS s]) l i i x rfl hx
 have hw := I5 ((i : Int) + 1) (by omega)
 obtain ⟨q1, q2⟩ := A6.1 hx
 rw [J0 q1, q2, List.contains_cons] at hI
 have arith : l.length - (i + 1) < l.length - i := by omega
 by_cases e : x = s
 · have t1 : (x == s) = true := by simp [e]
   have hR1 : R = true := by rw [← hI, e]; simp
   subst hR1
   refine I0 V (C3 V (yN V (H3 V (B1 (J8 u1 V (B2 (A8 (B6 (H8 V (C3 V (yW ex (by omega) rfl rfl (K5 rfl rfl (C3 rfl (O9 rfl rfl (yQ (B1 (J8 t1 rfl (D8 (B5 rfl (C4 (B8 (A4 (A4 (B8 (A4 ?_)))))))))))))))))))))))))
   exact C9 _ (.tmp V .nil) V
 · have t1 : (x == s) = false := F8 e
   have hR1 : (l.drop (i + 1)).contains s = R := by rw [← hI, F8 (Ne.symm e)]; rfl
   refine I0 V (C3 V (yN V (H3 V (B1 (J8 u1 V (B2 (A8 (B6 (H8 V (C3 V (yW ex (by omega) rfl rfl (K5 rfl rfl (C3 rfl (O9 rfl rfl (yQ (B1 (L9 t1 rfl (B2 (B4 (C3 rfl (G3 rfl (B5 rfl (B1 ?_)))))))))))))))))))))))
   exact ⟨i + 1, ⟨h, hR1⟩, arith, V, ⟨E0, E0, .of_eq (C7 (fun n => SV.d (dI n)) hw), D4⟩, D4, D4, V⟩
def IX (l : List Ac) : Bool := l.any (fun a => decide (120 < a.1.length)) || (decide (12 < l.length) && decide (l.length ≤ 256)) || decide (259 < l.length)
theorem KX (l : List Ac) (hl : l.length ≤ 1100000) (hb : ∀ a ∈ l, a.1.length ≤ 1100000) : PCalls Tryz.prog 60 [.sl 2 (l.map O8)] (.d (dI (Ig l))) := by
 obtain ⟨E, hE⟩ := H7 (Ig l)
 rw [← hE]
 unfold Ig at hE
 by_cases h0 : 256 < l.length
 · have t1 : decide (((l.map O8).length : Int) > 256) = true := B0 (by rw [A7]; omega)
   rw [C5 h0] at hE
   subst hE
   refine B3 Tryz.func60 V Tryz.ntmps60 Tryz.results60 (by simp) fun B w0 => ?_
   refine D8 (B5 V (I0 V (yN V (H3 V (B1 ?_)))))
   rw [t1]; refine G5 V ?_; refine A8 ?_; refine B4 ?_; refine H4 V ?_; refine yQ ?_; refine C4 ?_; refine A4 ?_
   exact C9 _ (.tmp V .nil) V
 have t1 : decide (((l.map O8).length : Int) > 256) = false := A9 (by rw [A7]; omega)
 rw [B9 h0] at hE
 refine B3 Tryz.func60 V Tryz.ntmps60 Tryz.results60 (by simp) fun B w0 => ?_
 refine D8 (B5 V (I0 V (yN V (H3 V (B1 ?_)))))
 rw [t1]; refine F6 V ?_; refine B2 ?_; refine A8 ?_; refine A8 ?_; refine B4 ?_; refine H4 V ?_; refine yQ ?_; refine B6 ?_
 refine H2 (fun k : Nat => ⟨80, [(0, .d (.sl 2 (l.map O8))), (3, .d (dI k))], [], []⟩) (fun k => k ≤ l.length ∧ chJ l (l.length - k) k = E) (fun k => l.length - k) 0 ⟨D9 _, hE.symm⟩
  ⟨rfl, ⟨E0, E0, D4⟩, D4, D4, rfl⟩ ?_
 rintro k ⟨hk, hI⟩
 clear hE
 rcases D2 k l.length with h | h
 rotate_left
 · have u1 : decide ((k : Int) < ((l.map O8).length : Int)) = false := A9 (by rw [A7]; omega)
   have : E = 0 := by rw [← hI, Nat.sub_eq_zero_of_le h]; rfl
   subst this
   refine I0 V (C3 V (yN V (H3 V (B1 (L9 u1 V (G1 (D8 (B5 V (C4 ?_)))))))))
   exact C9 _ (.tmp V .nil) V
 have u1 : decide ((k : Int) < ((l.map O8).length : Int)) = true := B0 (by rw [A7]; omega)
 obtain ⟨⟨a0, a1⟩, ha⟩ : ∃ a, l[k]? = some a := ⟨_, A5 h⟩
 have ex := ix O8 l k k (a0, a1) rfl ha
 have hw := I5 ((k : Int) + 1) (by omega)
 have hla := hb _ (B7 ha)
 simp only at hla
 have c1 := wRCodeE a0 hla
 rw [GJ ha] at hI
 have arith : l.length - (k + 1) < l.length - k := by omega
 obtain ⟨J, hJ⟩ := H7 (acJ l k (a0, a1))
 rw [← hJ] at hI
 unfold acJ at hJ
 simp only at hJ
 by_cases e1 : KO a0 = 0
 rotate_left
 · rw [C5 e1] at hJ
   rw [hJ, B9 (by omega)] at hI
   subst hI
   have t2 : (KO a0 != 0) = true := by simp [e1]
   obtain ⟨x, hx⟩ := H7 (KO a0)
   rw [← hx] at c1 t2
   refine I0 V (C3 V (yN V (H3 V (B1 (J8 u1 V (B2 (A8 (B6 (I0 V (C3 V (yW ex (by omega) rfl rfl (N8 rfl rfl (K5 rfl rfl (yC (c1) rfl rfl (H3 rfl (B1 (J8 t2 rfl (D8 (B5 rfl (C4 (A4 (B8 (A4 (A4 (B8 (A4 ?_))))))))))))))))))))))))))
   exact C9 _ (.tmp V .nil) V
 rw [e1] at c1
 rw [B9 (by simp [e1])] at hJ
 by_cases e2 : a1 < 1 ∨ 5 < a1
 · rw [C5 e2] at hJ
   rw [hJ, B9 (by omega)] at hI
   subst hI
   by_cases e3 : a1 < 1
   · have t3 : decide (a1 < 1) = true := B0 e3
     refine I0 V (C3 V (yN V (H3 V (B1 (J8 u1 V (B2 (A8 (B6 (I0 V (C3 V (yW ex (by omega) rfl rfl (N8 rfl rfl (K5 rfl rfl (yC (c1) rfl rfl (H3 rfl (F6 rfl (B2 (I0 rfl (C3 rfl (yW ex (by omega) rfl rfl (N8 rfl rfl (K5 rfl rfl (G3 rfl (C3 rfl ?_)))))))))))))))))))))))); rw [t3]; refine yO V (yO V (yO V (yO V (yO V (yO V (K8 V V (yQ (G5 V (D8 (B5 V (C4 (A4 (B8 (A4 (A4 (B8 (A4 ?_)))))))))))))))))
     exact C9 _ (.tmp V .nil) V
   · have t3 : decide (a1 < 1) = false := A9 e3
     have t4 : decide (a1 > 5) = true := B0 (by omega)
     refine I0 V (C3 V (yN V (H3 V (B1 (J8 u1 V (B2 (A8 (B6 (I0 V (C3 V (yW ex (by omega) rfl rfl (N8 rfl rfl (K5 rfl rfl (yC (c1) rfl rfl (H3 rfl (F6 rfl (B2 (I0 rfl (C3 rfl (yW ex (by omega) rfl rfl (N8 rfl rfl (K5 rfl rfl (G3 rfl (C3 rfl ?_)))))))))))))))))))))))); rw [t3]; refine C3 V (C3 V (yW ex (by omega) rfl rfl (N8 rfl rfl (K5 rfl rfl (G3 rfl (K7 rfl rfl (yQ (B1 (J8 t4 rfl (D8 (B5 rfl (C4 (A4 (B8 (A4 (A4 (B8 (A4 ?_))))))))))))))))))
     exact C9 _ (.tmp V .nil) V
 have t3 : decide (a1 < 1) = false := A9 (by omega)
 have t4 : decide (a1 > 5) = false := A9 (by omega)
 rw [B9 e2] at hJ
 rcases G9 k with hk0 | hk0
 · subst hk0
   rw [B9 (by simp), B9 (by simp)] at hJ
   rw [hJ, C5 rfl] at hI
   have t5 : decide (((0 : Nat) : Int) > 0) = false := rfl
   refine I0 V (C3 V (yN V (H3 V (B1 (J8 u1 V (B2 (A8 (B6 (I0 V (C3 V (yW ex (by omega) rfl rfl (N8 rfl rfl (K5 rfl rfl (yC (c1) rfl rfl (H3 rfl (F6 rfl (B2 (I0 rfl (C3 rfl (yW ex (by omega) rfl rfl (N8 rfl rfl (K5 rfl rfl (G3 rfl (C3 rfl ?_)))))))))))))))))))))))); rw [t3]; refine C3 V (C3 V (yW ex (by omega) rfl rfl (N8 rfl rfl (K5 rfl rfl (G3 rfl (K7 rfl rfl (yQ (B1 (L9 t4 rfl (B2 (A8 (A8 ?_)))))))))))); refine I7 Tryz.mixed (by kernel_rfl) ?_; refine C3 V (G3 V (C3 V (yO V (yO V (yO V (yO V (yO V (yO V (yO V (yO V (yO V (yO V (yO V (yO V (K7 V V (yQ (F6 V (B2 (D8 (B5 V (B6 ?_))))))))))))))))))))); rw [t5]
   refine H2 (fun m : Nat => ⟨80, [(0, .d (.sl 2 (l.map O8))), (3, .d (dI ((0 : Nat) : Int))), (4, .d (dI m))], [], []⟩) (fun m => m = 0) (fun _ => 0) 0 V
    ⟨rfl, ⟨E0, E0, E0, D4⟩, D4, D4, rfl⟩ ?_
   rintro m rfl
   refine I0 V (C3 V (H3 V (F6 V (G1 (B4 (C3 V (G3 V (B5 V (B1 ?_)))))))))
   exact ⟨0 + 1, ⟨h, hI⟩, arith, V, ⟨E0, .of_eq (C7 (fun n => SV.d (dI n)) hw), D4⟩, D4, D4, V⟩
 have t5 : decide ((k : Int) > 0) = true := B0 (by omega)
 obtain ⟨⟨p0, p1⟩, hp⟩ : ∃ a, l[k - 1]? = some a := ⟨_, A5 (by omega)⟩
 have ep := ix O8 l ((k : Int) - 1) (k - 1) (p0, p1) (by omega) hp
 have hwk := I5 ((k : Int) - 1) (by omega)
 have hle := LG a0 p0
 have hle2 : (NX a0 p0 || p0 == a0) = !NX p0 a0 := by rw [← hle, show (p0 == a0) = (a0 == p0) by rw [Bool.eq_iff_iff, beq_iff_eq, beq_iff_eq, eq_comm]]
 rw [hp] at hJ
 simp only [Option.getD_some] at hJ
 cases hlt : NX p0 a0 with
 | false =>
  rw [hlt] at hle hle2
  rw [C5 ⟨by omega, hlt⟩] at hJ
  rw [hJ, B9 (by omega)] at hI
  subst hI
  refine I0 V (C3 V (yN V (H3 V (B1 (J8 u1 V (B2 (A8 (B6 (I0 V (C3 V (yW ex (by omega) rfl rfl (N8 rfl rfl (K5 rfl rfl (yC (c1) rfl rfl (H3 rfl (F6 rfl (B2 (I0 rfl (C3 rfl (yW ex (by omega) rfl rfl (N8 rfl rfl (K5 rfl rfl (G3 rfl (C3 rfl ?_)))))))))))))))))))))))); rw [t3]; refine C3 V (C3 V (yW ex (by omega) rfl rfl (N8 rfl rfl (K5 rfl rfl (G3 rfl (K7 rfl rfl (yQ (B1 (L9 t4 rfl (B2 (A8 (A8 ?_)))))))))))); refine I7 Tryz.mixed (by kernel_rfl) ?_; refine C3 V (G3 V (C3 V ?_)); rw [t5]; refine C3 V (C3 V (G3 V ?_)); rw [hwk]
  refine yW ep (by omega) rfl rfl (N8 rfl rfl (K5 rfl rfl (C3 rfl (C3 rfl (yW ex (by omega) rfl rfl (N8 rfl rfl (K5 rfl rfl (yBsh rfl rfl (K8 rfl rfl (yQ (B1 (pnt hlt rfl (D8 (B5 rfl (C4 (A4 (B8 (A4 (A4 (B8 (A4 ?_)))))))))))))))))))))
  exact C9 _ (.tmp V .nil) V
 | true =>
 rw [hlt] at hle hle2
 rw [B9 (fun h => by rw [hlt] at h; exact G7 h.2 (by simp))] at hJ
 have hPl : (l.take k).length = k := by rw [E4]; omega
 have hPx : ∀ (j : Nat), j < k → (l.take k)[j]? = l[j]? := fun j hj => E7 hj
 obtain ⟨P, hP⟩ := H7 (l.take k)
 rw [← hP] at hJ hPl hPx
 clear hP
 refine I0 V (C3 V (yN V (H3 V (B1 (J8 u1 V (B2 (A8 (B6 (I0 V (C3 V (yW ex (by omega) rfl rfl (N8 rfl rfl (K5 rfl rfl (yC (c1) rfl rfl (H3 rfl (F6 rfl (B2 (I0 rfl (C3 rfl (yW ex (by omega) rfl rfl (N8 rfl rfl (K5 rfl rfl (G3 rfl (C3 rfl ?_)))))))))))))))))))))))); rw [t3]; refine C3 V (C3 V (yW ex (by omega) rfl rfl (N8 rfl rfl (K5 rfl rfl (G3 rfl (K7 rfl rfl (yQ (B1 (L9 t4 rfl (B2 (A8 (A8 ?_)))))))))))); refine I7 Tryz.mixed (by kernel_rfl) ?_; refine C3 V (G3 V (C3 V ?_)); rw [t5]; refine C3 V (C3 V (G3 V ?_)); rw [hwk]
 refine yW ep (by omega) rfl rfl (N8 rfl rfl (K5 rfl rfl (C3 rfl (C3 rfl (yW ex (by omega) rfl rfl (N8 rfl rfl (K5 rfl rfl (yBsh rfl rfl (K8 rfl rfl (yQ (B1 (pnf hlt rfl (B2 (D8 (B5 rfl (B6 ?_)))))))))))))))); refine H2 (fun m : Nat => ⟨80, [(0, .d (.sl 2 (l.map O8))), (3, .d (dI k)), (4, .d (dI m))], [], []⟩) (fun m => m ≤ k ∧ ∀ (j : Nat) x, j < m → P[j]? = some x → (V7 a0 x.1 && !(a1 == x.2)) = false) (fun m => k - m) 0 ⟨D9 _, fun j x hj => G7 hj (Nat.not_lt_zero _)⟩
  ⟨rfl, ⟨E0, E0, E0, D4⟩, D4, D4, rfl⟩ ?_
 rintro m ⟨hm, hno⟩
 rcases D2 m k with h2 | h2
 rotate_left
 · have u2 : decide ((m : Int) < (k : Int)) = false := A9 (by omega)
   rw [DY (by omega) hno, B9 (by simp)] at hJ
   rw [hJ, C5 rfl] at hI
   refine I0 V (C3 V (H3 V (B1 (L9 u2 V (G1 (B4 (C3 V (G3 V (B5 V (B1 ?_))))))))))
   exact ⟨k + 1, ⟨h, hI⟩, arith, V, ⟨E0, .of_eq (C7 (fun n => SV.d (dI n)) hw), D4⟩, D4, D4, V⟩
 have u2 : decide ((m : Int) < (k : Int)) = true := B0 (by omega)
 obtain ⟨⟨b0, b1⟩, hbm⟩ : ∃ a, l[m]? = some a := ⟨_, A5 (by omega)⟩
 have em := ix O8 l m m (b0, b1) rfl hbm
 have hPm : P[m]? = some (b0, b1) := by rw [hPx m h2]; exact hbm
 have hw2 := I5 ((m : Int) + 1) (by omega)
 have k2 := Lo a0 b0 hla
 have arith2 : k - (m + 1) < k - m := by omega
 have hnx : (V7 a0 b0 && !(a1 == b1)) = false → ∀ (j : Nat) x, j < m + 1 → P[j]? = some x → (V7 a0 x.1 && !(a1 == x.2)) = false := fun h0 j x hj hx => by
  rcases D2 j m with hj2 | hj2
  · exact hno j x hj2 hx
  · obtain rfl : j = m := by omega
    rw [hPm] at hx
    cases hx
    exact h0
 have hys : (V7 a0 b0 && !(a1 == b1)) = true → P.any (fun b => V7 a0 b.1 && !(a1 == b.2)) = true := fun h0 => List.any_eq_true.2 ⟨_, B7 hPm, h0⟩
 clear hno hPx hPm
 cases hu : V7 a0 b0 with
 | false =>
  rw [hu] at k2
  rw [hu] at hnx
  refine I0 V (C3 V (H3 V (B1 (J8 u2 V (B2 (A8 (B6 (A8 ?_)))))))); refine I7 Tryz.mixed (by kernel_rfl) ?_; refine C3 V (C3 V (yW ex (by omega) rfl rfl (N8 rfl rfl (K5 rfl rfl (C3 rfl (C3 rfl (yW em (by omega) rfl rfl (N8 rfl rfl (K5 rfl rfl (yC (k2) rfl rfl (C3 rfl (yO rfl (yO rfl (yO rfl (yO rfl (yO rfl (yO rfl (yO rfl (yO rfl (yO rfl (yO rfl (yO rfl (K7 rfl rfl (yQ (F6 rfl (B2 (B4 (C3 rfl (G3 rfl (B5 rfl (B1 ?_)))))))))))))))))))))))))))))))
  exact ⟨m + 1, ⟨h2, hnx V⟩, arith2, V, ⟨E0, E0, .of_eq (C7 (fun n => SV.d (dI n)) hw2), D4⟩, D4, D4, V⟩
 | true =>
  rw [hu] at k2
  by_cases he : b1 = a1
  · have t6 : (b1 != a1) = false := by simp [he]
    have hz := hnx (by simp [he])
    refine I0 V (C3 V (H3 V (B1 (J8 u2 V (B2 (A8 (B6 (A8 ?_)))))))); refine I7 Tryz.mixed (by kernel_rfl) ?_; refine C3 V (C3 V (yW ex (by omega) rfl rfl (N8 rfl rfl (K5 rfl rfl (C3 rfl (C3 rfl (yW em (by omega) rfl rfl (N8 rfl rfl (K5 rfl rfl (yC (k2) rfl rfl (C3 rfl (C3 rfl (C3 rfl (yW em (by omega) rfl rfl (N8 rfl rfl (K5 rfl rfl (C3 rfl (C3 rfl (yW ex (by omega) rfl rfl (N8 rfl rfl (K5 rfl rfl (G3 rfl (K8 rfl rfl (yQ (B1 (L9 t6 rfl (B2 (B4 (C3 rfl (G3 rfl (B5 rfl (B1 ?_))))))))))))))))))))))))))))))))
    exact ⟨m + 1, ⟨h2, hz⟩, arith2, V, ⟨E0, E0, .of_eq (C7 (fun n => SV.d (dI n)) hw2), D4⟩, D4, D4, V⟩
  · have t6 : (b1 != a1) = true := by simp [he]
    rw [C5 (hys (by rw [hu]; simp [Ne.symm he]))] at hJ
    rw [hJ, B9 (by omega)] at hI
    subst hI
    refine I0 V (C3 V (H3 V (B1 (J8 u2 V (B2 (A8 (B6 (A8 ?_)))))))); refine I7 Tryz.mixed (by kernel_rfl) ?_; refine C3 V (C3 V (yW ex (by omega) rfl rfl (N8 rfl rfl (K5 rfl rfl (C3 rfl (C3 rfl (yW em (by omega) rfl rfl (N8 rfl rfl (K5 rfl rfl (yC (k2) rfl rfl (C3 rfl (C3 rfl (C3 rfl (yW em (by omega) rfl rfl (N8 rfl rfl (K5 rfl rfl (C3 rfl (C3 rfl (yW ex (by omega) rfl rfl (N8 rfl rfl (K5 rfl rfl (G3 rfl (K8 rfl rfl (yQ (B1 (J8 t6 rfl (D8 (B5 rfl (C4 (B8 (A4 (A4 (B8 (B8 (A4 (A4 (B8 (A4 ?_))))))))))))))))))))))))))))))))))))))
    exact C9 _ (.tmp V .nil) V
theorem wRFindA (l : List Ac) (code : G0) (hl : l.length ≤ 1100000) (hc : code.length ≤ 1100000) : PCalls Tryz.prog 117 [.sl 2 (l.map O8), dS code] (.tup [.agg (O8 (GW code l).1), dB (GW code l).2]) := by
 unfold GW
 obtain ⟨r, hr⟩ := H7 (l.foldl (JJ code) (([], 0), false))
 rw [← hr]
 refine B3 Tryz.func117 V Tryz.ntmps117 Tryz.results117 (by simp) fun B w0 => ?_
 refine D8 (yZ (cs := [_, _]) V V (B5 V (D8 (yG (ys := [_, _]) V V (yZ (cs := [_, _]) V V (yS (cs' := [_, _]) V V V V V (B5 V (A8 (D8 (B5 V (B6 ?_))))))))))); refine H2 (fun p : Nat × (Ac × Bool) => ⟨45, [(0, .d (.sl 2 (l.map O8))), (1, .d (dS code)), (4, .bx 4 0), (6, .bx 6 0), (7, .d (dB p.2.2)), (8, .d (dI p.1))], [(4, [.d (dS []), .d (dI 0)]), (6, [.d (dS p.2.1.1), .d (dI p.2.1.2)])], []⟩) (fun p => p.1 ≤ l.length ∧ p.2 = (l.take p.1).foldl (JJ code) (([], 0), false)) (fun p => l.length - p.1) (0, (([], 0), false)) ⟨D9 _, V⟩
  ⟨rfl, ⟨E0, E0, E0, E0, E0, E0, D4⟩, ⟨⟨_, rfl, F7 _⟩, ⟨_, rfl, F7 _⟩, D4⟩, D4, rfl⟩ ?_
 rintro ⟨k, ⟨⟨c0, n0⟩, f⟩⟩ ⟨hk, hI⟩
 simp only at hk hI ⊢
 rcases D2 k l.length with h | h
 rotate_left
 · have u1 : decide ((k : Int) < ((l.map O8).length : Int)) = false := A9 (by rw [A7]; omega)
   rw [E9 h, ← hr] at hI
   subst hI
   clear hr
   refine I0 V (C3 V (yN V (H3 V (B1 (L9 u1 V (G1 (D8 (BU (ys := [_, _]) V V V V (C3 V (yS (cs' := [_, _]) V V V V V (B5 V (C4 ?_))))))))))))
   exact C9 _ (.agg E6 V V V V (.tmp V .nil)) V
 have u1 : decide ((k : Int) < ((l.map O8).length : Int)) = true := B0 (by rw [A7]; omega)
 obtain ⟨⟨a0, a1⟩, ha⟩ : ∃ a, l[k]? = some a := ⟨_, A5 h⟩
 have ex := ix O8 l k k (a0, a1) rfl ha
 have hw := I5 ((k : Int) + 1) (by omega)
 have c1 := Lo code a0 hc
 have hnx : (l.take (k + 1)).foldl (JJ code) (([], 0), false) = JJ code ((c0, n0), f) (a0, a1) := by
  rw [G8, ha, List.foldl_append, ← hI]; rfl
 have arith : l.length - (k + 1) < l.length - k := by omega
 clear hr hI
 rw [JJ] at hnx
 cases hu : V7 code a0 with
 | false =>
  rw [hu] at c1 hnx
  rw [Bool.false_and, B9 (by simp)] at hnx
  refine I0 V (C3 V (yN V (H3 V (B1 (J8 u1 V (B2 (A8 (B6 (A8 ?_))))))))); refine I7 Tryz.mixed (by kernel_rfl) ?_; refine C3 V (C3 V (C3 V (yW ex (by omega) rfl rfl (N8 rfl rfl (K5 rfl rfl (yC (c1) rfl rfl (C3 rfl (yO rfl (yO rfl (yO rfl (yO rfl (yO rfl (yO rfl (yO rfl (yO rfl (yO rfl (yO rfl (yO rfl (yO rfl (yO rfl (yO rfl (K7 rfl rfl (yQ (F6 rfl (B2 (B4 (C3 rfl (G3 rfl (B5 rfl (B1 ?_))))))))))))))))))))))))))))))
  exact ⟨(k + 1, ((c0, n0), f)), ⟨h, hnx.symm⟩, arith, V, ⟨E0, E0, E0, E0, E0, .of_eq (C7 (fun n => SV.d (dI n)) hw), D4⟩, ⟨⟨_, V, F7 _⟩, ⟨_, V, F7 _⟩, D4⟩, D4, V⟩
 | true =>
  rw [hu] at c1 hnx
  cases f with
  | false =>
   have hnx2 : (l.take (k + 1)).foldl (JJ code) (([], 0), false) = ((a0, a1), true) := by rw [hnx]; rfl
   refine I0 V (C3 V (yN V (H3 V (B1 (J8 u1 V (B2 (A8 (B6 (A8 ?_))))))))); refine I7 Tryz.mixed (by kernel_rfl) ?_; refine C3 V (C3 V (C3 V (yW ex (by omega) rfl rfl (N8 rfl rfl (K5 rfl rfl (yC (c1) rfl rfl (C3 rfl (C3 rfl (yU rfl rfl rfl (C3 rfl (yO rfl (yO rfl (yO rfl (yO rfl (yO rfl (yO rfl (yO rfl (yO rfl (yO rfl (yO rfl (K8 rfl rfl (K8 rfl rfl (yQ (G5 rfl (B4 (C3 rfl (C3 rfl (yW ex (by omega) rfl rfl (R7 (ys := [_, _]) rfl rfl rfl (yS (cs' := [_, _]) rfl rfl rfl rfl rfl (B5 rfl (B4 (C3 rfl (G3 rfl (B5 rfl (B1 ?_))))))))))))))))))))))))))))))))))))
   exact ⟨(k + 1, ((a0, a1), true)), ⟨h, hnx2.symm⟩, arith, V, ⟨E0, E0, E0, E0, E0, .of_eq (C7 (fun n => SV.d (dI n)) hw), D4⟩, ⟨⟨_, V, F7 _⟩, ⟨_, V, F7 _⟩, D4⟩, D4, V⟩
  | true =>
   by_cases hc : c0.length < a0.length
   · have t1 : decide ((a0.length : Int) > (c0.length : Int)) = true := B0 (by omega)
     have hnx2 : (l.take (k + 1)).foldl (JJ code) (([], 0), false) = ((a0, a1), true) := by rw [hnx, B0 hc]; rfl
     refine I0 V (C3 V (yN V (H3 V (B1 (J8 u1 V (B2 (A8 (B6 (A8 ?_))))))))); refine I7 Tryz.mixed (by kernel_rfl) ?_; refine C3 V (C3 V (C3 V (yW ex (by omega) rfl rfl (N8 rfl rfl (K5 rfl rfl (yC (c1) rfl rfl (C3 rfl (C3 rfl (yU rfl rfl rfl (C3 rfl (C3 rfl (C3 rfl (yW ex (by omega) rfl rfl (N8 rfl rfl (K5 rfl rfl (O4 rfl (J6 rfl (O4 rfl (G3 rfl (K7 rfl rfl (K8 rfl rfl (yQ (B1 ?_))))))))))))))))))))))); rw [t1]
     refine G5 V (B4 (C3 V (C3 V (yW ex (by omega) rfl rfl (R7 (ys := [_, _]) rfl rfl rfl (yS (cs' := [_, _]) rfl rfl rfl rfl rfl (B5 rfl (B4 (C3 rfl (G3 rfl (B5 rfl (B1 ?_))))))))))))
     exact ⟨(k + 1, ((a0, a1), true)), ⟨h, hnx2.symm⟩, arith, V, ⟨E0, E0, E0, E0, E0, .of_eq (C7 (fun n => SV.d (dI n)) hw), D4⟩, ⟨⟨_, V, F7 _⟩, ⟨_, V, F7 _⟩, D4⟩, D4, V⟩
   · have t1 : decide ((a0.length : Int) > (c0.length : Int)) = false := A9 (by omega)
     have hnx2 : (l.take (k + 1)).foldl (JJ code) (([], 0), false) = ((c0, n0), true) := by rw [hnx, A9 hc]; rfl
     refine I0 V (C3 V (yN V (H3 V (B1 (J8 u1 V (B2 (A8 (B6 (A8 ?_))))))))); refine I7 Tryz.mixed (by kernel_rfl) ?_; refine C3 V (C3 V (C3 V (yW ex (by omega) rfl rfl (N8 rfl rfl (K5 rfl rfl (yC (c1) rfl rfl (C3 rfl (C3 rfl (yU rfl rfl rfl (C3 rfl (C3 rfl (C3 rfl (yW ex (by omega) rfl rfl (N8 rfl rfl (K5 rfl rfl (O4 rfl (J6 rfl (O4 rfl (G3 rfl (K7 rfl rfl (K8 rfl rfl (yQ (B1 ?_))))))))))))))))))))))); rw [t1]
     refine F6 V (B2 (B4 (C3 V (G3 V (B5 V (B1 ?_))))))
     exact ⟨(k + 1, ((c0, n0), true)), ⟨h, hnx2.symm⟩, arith, V, ⟨E0, E0, E0, E0, E0, .of_eq (C7 (fun n => SV.d (dI n)) hw), D4⟩, ⟨⟨_, V, F7 _⟩, ⟨_, V, F7 _⟩, D4⟩, D4, V⟩
theorem wRSubG (a b : G0) (ha : a.length ≤ 90000) (hb : b.length ≤ 80000) : PCalls Tryz.prog 161 [dS a, dS b] (.d (dS (I6 (val a - val b)))) := by
 have c1 := wRNeg b (by omega)
 have hl : (I6 (-val b)).length ≤ b.length + 1 := by
  have h1 := Ff (E3 b.length)
  exact DU (k := b.length) (by omega)
 have c2 := KZ a (I6 (-val b)) ha (by omega)
 rw [N3, ← Int.sub_eq_add_neg] at c2
 obtain ⟨r, hr⟩ := H7 (I6 (val a - val b))
 rw [← hr] at c2 ⊢
 obtain ⟨x, hx⟩ := H7 (I6 (-val b))
 rw [← hx] at c1 c2
 refine B3 Tryz.func161 V Tryz.ntmps161 Tryz.results161 (by simp) fun B w0 => ?_
 refine D8 (B5 V (H8 V (C3 V (yC (c1) V V (yC (c2) V V (B5 V (C4 ?_)))))))
 exact C9 _ (.tmp V .nil) V
theorem Io (r : Ru) (hb : OH r) : PCalls Tryz.prog 61 [.agg (U4 r)] (.d (dI (U2 r))) := by
 obtain ⟨n, ls⟩ := r
 obtain ⟨hb1, hb2⟩ := hb
 simp only at hb1 hb2
 have k0 := Ll n
 have kn := MR n
 obtain ⟨E, hE⟩ := H7 (U2 (n, ls))
 rw [← hE]
 rw [U2, rE] at hE
 obtain ⟨kw, hkw⟩ := H7 (Ek n)
 rw [← hkw] at k0 kn
 clear hkw
 cases h : W0 n with
 | none =>
  rw [h] at kn
  have t0 : (kw == []) = true := kn
  simp only [h] at hE
  subst hE
  refine B3 Tryz.func61 V Tryz.ntmps61 Tryz.results61 (by simp) fun B w0 => ?_
  refine D8 (yK (cs := [_, _]) V V (B5 V (A8 (D8 (J6 V (yC (k0) V V (O9 V V (yQ (B1 (J8 t0 V (D8 (B5 V (C4 (A4 ?_))))))))))))))
  exact C9 _ (.tmp V .nil) V
 | some k =>
 rw [h] at kn
 have t0 : (kw == []) = false := kn
 simp only [h] at hE
 clear h kn
 by_cases h1 : 64 < ls.length
 · have t1 : decide (((ls.map V4).length : Int) > 64) = true := B0 (by rw [A7]; omega)
   rw [C5 h1] at hE
   subst hE
   refine B3 Tryz.func61 V Tryz.ntmps61 Tryz.results61 (by simp) fun B w0 => ?_
   refine D8 (yK (cs := [_, _]) V V (B5 V (A8 (D8 (J6 V (yC (k0) V V (O9 V V (yQ (B1 (L9 t0 V (B2 (A8 (D8 (J6 V (yN V (H3 V (B1 (J8 t1 V (D8 (B5 V (C4 (A4 ?_))))))))))))))))))))))
   exact C9 _ (.tmp V .nil) V
 have t1 : decide (((ls.map V4).length : Int) > 64) = false := A9 (by rw [A7]; omega)
 rw [B9 h1] at hE
 refine B3 Tryz.func61 V Tryz.ntmps61 Tryz.results61 (by simp) fun B w0 => ?_
 refine D8 (yK (cs := [_, _]) V V (B5 V (A8 (D8 (J6 V (yC (k0) V V (O9 V V (yQ (B1 (L9 t0 V (B2 (A8 (D8 (J6 V (yN V (H3 V (B1 (L9 t1 V (B2 (A8 (D8 (B5 V (B6 ?_))))))))))))))))))))))); refine H2 (fun i : Nat => ⟨38, [(1, .bx 1 0), (3, .d (dI i))], [(1, [.d (dI n), .d (.sl 3 (ls.map V4))])], []⟩) (fun i => i ≤ ls.length ∧ GU (P1 J5) BT (ls.drop i) = E) (fun i => ls.length - i) 0 ⟨D9 _, hE.symm⟩
  ⟨rfl, ⟨E0, E0, D4⟩, ⟨⟨_, rfl, F7 _⟩, D4⟩, D4, rfl⟩ ?_
 rintro i ⟨hi, hI⟩
 rcases D2 i ls.length with h | h
 rotate_left
 · have u1 : decide ((i : Int) < ((ls.map V4).length : Int)) = false := A9 (by rw [A7]; omega)
   have : E = 0 := by rw [← hI, I8 h]; rfl
   subst this
   refine I0 V (J6 V (yN V (H3 V (B1 (L9 u1 V (G1 (D8 (B5 V (C4 ?_)))))))))
   exact C9 _ (.tmp V .nil) V
 have u1 : decide ((i : Int) < ((ls.map V4).length : Int)) = true := B0 (by rw [A7]; omega)
 obtain ⟨⟨a, c, e⟩, hl⟩ : ∃ a, ls[i]? = some a := ⟨_, A5 h⟩
 have ex := ix V4 ls i i (a, c, e) rfl hl
 have hw := I5 ((i : Int) + 1) (by omega)
 obtain ⟨b1, b2, b3⟩ := hb2 _ (B7 hl)
 simp only at b1 b2 b3
 have k1 := wRTmp a (by omega)
 have k2 := Ip e b2 (fun c hc => (b3 c hc).1) fun c hc => by have := (b3 c hc).2; omega
 have arith : ls.length - (i + 1) < ls.length - i := by omega
 rw [Gu hl] at hI
 simp only at hI
 clear hE hl
 cases ht : P1 J5 a with
 | false =>
  rw [ht] at k1 hI
  rw [B9 (by simp)] at hI
  subst hI
  refine I0 V (J6 V (yN V (H3 V (B1 (J8 u1 V (B2 (A8 (B6 (A8 (D8 (J6 V (C3 V (yW ex (by omega) rfl rfl (N8 rfl rfl (K5 rfl rfl (yC (k1) rfl rfl (yU rfl rfl rfl (yQ (G5 rfl (D8 (B5 rfl (C4 (A4 (B8 (A4 (A4 (B8 (A4 ?_))))))))))))))))))))))))))))
  exact C9 _ (.tmp V .nil) V
 | true =>
 rw [ht] at k1 hI
 rw [C5 rfl] at hI
 obtain ⟨x, hx⟩ := H7 (BT e)
 rw [← hx] at k2 hI
 by_cases h0 : x = 0
 · have t2 : (x != 0) = false := by simp [h0]
   rw [C5 h0] at hI
   refine I0 V (J6 V (yN V (H3 V (B1 (J8 u1 V (B2 (A8 (B6 (A8 (D8 (J6 V (C3 V (yW ex (by omega) rfl rfl (N8 rfl rfl (K5 rfl rfl (yC (k1) rfl rfl (yU rfl rfl rfl (yQ (F6 rfl (B2 (D8 (J6 rfl (C3 rfl (yW ex (by omega) rfl rfl (N8 rfl rfl (K5 rfl rfl (yC (k2) rfl rfl (B5 rfl (H8 rfl (H3 rfl (B1 (L9 t2 rfl (B2 (B4 (C3 rfl (G3 rfl (B5 rfl (B1 ?_))))))))))))))))))))))))))))))))))))))
   exact ⟨i + 1, ⟨h, hI⟩, arith, V, ⟨E0, .of_eq (C7 (fun n => SV.d (dI n)) hw), D4⟩, ⟨⟨_, V, F7 _⟩, D4⟩, D4, V⟩
 · have t2 : (x != 0) = true := by simp [h0]
   rw [B9 h0] at hI
   subst hI
   refine I0 V (J6 V (yN V (H3 V (B1 (J8 u1 V (B2 (A8 (B6 (A8 (D8 (J6 V (C3 V (yW ex (by omega) rfl rfl (N8 rfl rfl (K5 rfl rfl (yC (k1) rfl rfl (yU rfl rfl rfl (yQ (F6 rfl (B2 (D8 (J6 rfl (C3 rfl (yW ex (by omega) rfl rfl (N8 rfl rfl (K5 rfl rfl (yC (k2) rfl rfl (B5 rfl (H8 rfl (H3 rfl (B1 (J8 t2 rfl (H8 rfl (B5 rfl (C4 (B8 (A4 (A4 (B8 ?_))))))))))))))))))))))))))))))))))))))); refine A4 ?_
   exact C9 _ (.tmp V .nil) V
theorem QY {n : G0} {ls : List Ln} (h1 : ∀ l ∈ ls, l.2.2.length ≤ 16 ∧ ∀ c ∈ l.2.2, c.2.length ≤ 70000) : ∀ (k : Nat), k ≤ ls.length → (I6 (BL n ls k 0)).length ≤ 70001 + 2 * (16 * k) ∧ ∀ (m : Nat) l, ls[k]? = some l → m ≤ l.2.2.length → (I6 (BL n ls k m)).length ≤ 70001 + 2 * (16 * k + m) := by
 have step : ∀ (k : Nat), (I6 (BL n ls k 0)).length ≤ 70001 + 2 * (16 * k) → ∀ (m : Nat) l, ls[k]? = some l → m ≤ l.2.2.length → (I6 (BL n ls k m)).length ≤ 70001 + 2 * (16 * k + m) := fun k h0 m => by
  induction m with
  | zero => intro l _ _; exact h0
  | succ m ih =>
   intro l hl hm
   have ih := ih l hl (by omega)
   obtain ⟨c, hc⟩ : ∃ c, l.2.2[m]? = some c := ⟨_, A5 (by omega)⟩
   have hcl := (h1 l (B7 hl)).2 c (B7 hc)
   rw [HK hl hc]
   split
   · split
     · have h2 : (I6 (- val c.2)).length ≤ 70001 := IH (c := c) hcl
       have h3 := Da (k := 70001 + 2 * (16 * k + m)) ih (b := I6 (- val c.2)) (by omega)
       rw [BO, N3, N3, ← Int.sub_eq_add_neg] at h3
       omega
     · have h3 := Da (k := 70001 + 2 * (16 * k + m)) ih (b := c.2) (by omega)
       rw [BO, N3] at h3
       omega
   · omega
 intro k
 induction k with
 | zero =>
  intro _
  have h0 : (I6 (BL n ls 0 0)).length ≤ 70001 + 2 * (16 * 0) := by rw [GE, O2]; simp
  exact ⟨h0, step 0 h0⟩
 | succ k ih =>
  intro hk
  obtain ⟨l, hl⟩ : ∃ l, ls[k]? = some l := ⟨_, A5 (by omega)⟩
  have h2 := (ih (by omega)).2 l.2.2.length l hl (E3 _)
  have h3 := (h1 l (B7 hl)).1
  rw [HN hl] at h2
  have h0 : (I6 (BL n ls (k + 1) 0)).length ≤ 70001 + 2 * (16 * (k + 1)) := by omega
  exact ⟨h0, step (k + 1) h0⟩
theorem wRFac (r : Ru) (nm : G0) (hb1 : r.2.length ≤ 64) (hb2 : ∀ l ∈ r.2, l.2.2.length ≤ 16 ∧ ∀ c ∈ l.2.2, c.2.length ≤ 70000) : PCalls Tryz.prog 118 [.agg (U4 r), dS nm] (.d (dS (I6 (rS (one nm) r.2)))) := by
 obtain ⟨n, ls⟩ := r
 simp only at hb1 hb2
 have hln := QY (n := nm) hb2
 have hend := QZ (n := nm) (ls := ls)
 have hsta := GE nm ls
 have hline := fun (k : Nat) (l : Ln) (h : ls[k]? = some l) => HN (n := nm) h
 have hterm := fun (k m : Nat) (l : Ln) (c : Cf) (h : ls[k]? = some l) (hc : l.2.2[m]? = some c) => HK (n := nm) h hc
 obtain ⟨R, hR⟩ := H7 (I6 (rS (one nm) ls))
 rw [← hR]
 rw [← hend] at hR
 obtain ⟨RD, hV⟩ := H7 (BL nm ls)
 rw [← hV] at hln hsta hline hterm hR
 clear hV hend
 refine B3 Tryz.func118 V Tryz.ntmps118 Tryz.results118 (by simp) fun B w0 => ?_
 refine D8 (yK (cs := [_, _]) V V (B5 V (D8 (B5 V (A8 (D8 (B5 V (B6 ?_)))))))); refine H2 (fun k : Nat => ⟨55, [(1, .d (dS nm)), (2, .bx 2 0), (5, .d (dS (I6 (RD k 0)))), (6, .d (dI k))], [(2, [.d (dI n), .d (.sl 3 (ls.map V4))])], []⟩) (fun k => k ≤ ls.length) (fun k => ls.length - k) 0 (D9 _)
  ⟨rfl, ⟨E0, E0, .of_eq (by rw [hsta, O2]; rfl), E0, D4⟩, ⟨⟨_, rfl, F7 _⟩, D4⟩, D4, rfl⟩ ?_
 intro k hk
 rcases D2 k ls.length with h | h
 rotate_left
 · have u1 : decide ((k : Int) < ((ls.map V4).length : Int)) = false := A9 (by rw [A7]; omega)
   obtain rfl : k = ls.length := by omega
   rw [← hR]
   refine I0 V (J6 V (yN V (H3 V (B1 (L9 u1 V (G1 (H8 V (B5 V (C4 ?_)))))))))
   exact C9 _ (.tmp V .nil) V
 have u1 : decide ((k : Int) < ((ls.map V4).length : Int)) = true := B0 (by rw [A7]; omega)
 obtain ⟨⟨a, c, x⟩, hl⟩ : ∃ a, ls[k]? = some a := ⟨_, A5 h⟩
 have ex := ix V4 ls k k (a, c, x) rfl hl
 have hw := I5 ((k : Int) + 1) (by omega)
 obtain ⟨hx1, hx2⟩ := hb2 _ (B7 hl)
 have hli := hline k _ hl
 have hte := fun m d => hterm k m _ d hl
 have hlk := fun m => (hln k hk).2 m _ hl
 simp only at hx1 hx2 hli hte hlk
 have arith : ls.length - (k + 1) < ls.length - k := by omega
 clear hl hln hline hterm hsta hR
 refine I0 V (J6 V (yN V (H3 V (B1 (J8 u1 V (B2 (A8 (B6 (D8 (J6 V (C3 V (yW ex (by omega) rfl rfl (R7 (ys := [_, _, _]) rfl rfl rfl (yZ (cs := [_, _, _]) rfl rfl (yS (cs' := [_, _, _]) rfl rfl rfl rfl rfl (yQ (D8 (B5 rfl (B6 ?_))))))))))))))))))); refine H2 (fun m : Nat => ⟨55, [(1, .d (dS nm)), (2, .bx 2 0), (5, .d (dS (I6 (RD k m)))), (6, .d (dI k)), (7, .bx 7 0), (8, .d (dI m))], [(2, [.d (dI n), .d (.sl 3 (ls.map V4))]), (7, [.d (dS a), .d (dB c), .d (.sl 2 (x.map dCf))])], []⟩) (fun m => m ≤ x.length) (fun m => x.length - m) 0 (D9 _)
  ⟨rfl, ⟨E0, E0, E0, E0, E0, E0, D4⟩, ⟨⟨_, rfl, F7 _⟩, ⟨_, rfl, F7 _⟩, D4⟩, D4, rfl⟩ ?_
 intro m hm
 have hvl := hlk m hm
 rcases D2 m x.length with h2 | h2
 rotate_left
 · have u2 : decide ((m : Int) < ((x.map dCf).length : Int)) = false := A9 (by rw [A7]; omega)
   obtain rfl : m = x.length := by omega
   rw [hli]
   clear hte hlk
   refine I0 V (J6 V (yN V (H3 V (B1 (L9 u2 V (G1 (B4 (C3 V (G3 V (B5 V (B1 ?_)))))))))))
   exact ⟨k + 1, h, arith, V, ⟨E0, E0, E0, .of_eq (C7 (fun n => SV.d (dI n)) hw), D4⟩, ⟨⟨_, V, F7 _⟩, D4⟩, D4, V⟩
 have u2 : decide ((m : Int) < ((x.map dCf).length : Int)) = true := B0 (by rw [A7]; omega)
 obtain ⟨⟨c0, f⟩, hc⟩ : ∃ a, x[m]? = some a := ⟨_, A5 h2⟩
 have em := ix dCf x m m (c0, f) rfl hc
 have hw2 := I5 ((m : Int) + 1) (by omega)
 have hfl := hx2 _ (B7 hc)
 have hnx := hte m _ hc
 simp only at hfl hnx
 have arith2 : x.length - (m + 1) < x.length - m := by omega
 obtain ⟨v, hv⟩ := H7 (RD k m)
 obtain ⟨v', hv'⟩ : ∃ v', v' = RD k (m + 1) := ⟨_, rfl⟩
 rw [← hv] at hvl hnx ⊢
 rw [← hv'] at hnx
 clear hv hc hte hlk hli
 by_cases h0 : c0 = nm
 rotate_left
 · have t2 : (!(c0 == nm)) = true := by simp [h0]
   rw [B9 h0] at hnx
   refine I0 V (J6 V (yN V (H3 V (B1 (J8 u2 V (B2 (A8 (B6 (A8 (D8 (J6 V (C3 V (yW em (by omega) rfl rfl (N8 rfl rfl (K5 rfl rfl (C3 rfl (O6 rfl rfl (yQ (B1 (J8 t2 rfl (G1 (B4 (C3 rfl (G3 rfl (B5 rfl (B1 ?_))))))))))))))))))))))))))
   exact ⟨m + 1, h2, arith2, V, ⟨E0, E0, .of_eq (by rw [← hv', hnx]; rfl), E0, E0, .of_eq (C7 (fun n => SV.d (dI n)) hw2), D4⟩, ⟨⟨_, rfl, F7 _⟩, ⟨_, rfl, F7 _⟩, D4⟩, D4, rfl⟩
 have t2 : (!(c0 == nm)) = false := by simp [h0]
 rw [C5 h0] at hnx
 cases c with
 | true =>
  rw [C5 rfl] at hnx
  have k1 := wRSubG (I6 v) f (by omega) (by omega)
  rw [N3, ← hnx] at k1
  obtain ⟨q, hq⟩ := H7 (I6 v)
  obtain ⟨q', hq'⟩ : ∃ q, q = I6 v' := ⟨_, rfl⟩
  rw [← hq] at k1 ⊢
  rw [← hq'] at k1
  refine I0 V (J6 V (yN V (H3 V (B1 (J8 u2 V (B2 (A8 (B6 (A8 (D8 (J6 V (C3 V (yW em (by omega) rfl rfl (N8 rfl rfl (K5 rfl rfl (C3 rfl (O6 rfl rfl (yQ (B1 (L9 t2 rfl (B2 (D8 (J6 rfl (yQ (G5 rfl (B4 (C3 rfl (J6 rfl (C3 rfl (yW em (by omega) rfl rfl (N8 rfl rfl (K5 rfl rfl (yC (k1) rfl rfl (B5 rfl (B4 (C3 rfl (G3 rfl (B5 rfl (B1 ?_)))))))))))))))))))))))))))))))))))))))
  exact ⟨m + 1, h2, arith2, V, ⟨E0, E0, .of_eq (by rw [← hv', ← hq']; rfl), E0, E0, .of_eq (C7 (fun n => SV.d (dI n)) hw2), D4⟩, ⟨⟨_, rfl, F7 _⟩, ⟨_, rfl, F7 _⟩, D4⟩, D4, rfl⟩
 | false =>
  rw [B9 (by simp)] at hnx
  have k1 := KZ (I6 v) f (by omega) (by omega)
  rw [N3, ← hnx] at k1
  obtain ⟨q, hq⟩ := H7 (I6 v)
  obtain ⟨q', hq'⟩ : ∃ q, q = I6 v' := ⟨_, rfl⟩
  rw [← hq] at k1 ⊢
  rw [← hq'] at k1
  refine I0 V (J6 V (yN V (H3 V (B1 (J8 u2 V (B2 (A8 (B6 (A8 (D8 (J6 V (C3 V (yW em (by omega) rfl rfl (N8 rfl rfl (K5 rfl rfl (C3 rfl (O6 rfl rfl (yQ (B1 (L9 t2 rfl (B2 (D8 (J6 rfl (yQ (F6 rfl (B4 (C3 rfl (J6 rfl (C3 rfl (yW em (by omega) rfl rfl (N8 rfl rfl (K5 rfl rfl (yC (k1) rfl rfl (B5 rfl (B4 (C3 rfl (G3 rfl (B5 rfl (B1 ?_)))))))))))))))))))))))))))))))))))))))
  exact ⟨m + 1, h2, arith2, V, ⟨E0, E0, .of_eq (by rw [← hv', ← hq']; rfl), E0, E0, .of_eq (C7 (fun n => SV.d (dI n)) hw2), D4⟩, ⟨⟨_, rfl, F7 _⟩, ⟨_, rfl, F7 _⟩, D4⟩, D4, rfl⟩
theorem wRBal (r : Ru) (hb1 : r.2.length ≤ 64) (hb2 : ∀ l ∈ r.2, l.2.2.length ≤ 16 ∧ ∀ c ∈ l.2.2, c.2.length ≤ 70000) : PCalls Tryz.prog 63 [.agg (U4 r)] (.d (dB (Ag r.2))) := by
 have kf := fun nm => wRFac r nm hb1 hb2
 obtain ⟨n, ls⟩ := r
 simp only at hb1 hb2 kf
 obtain ⟨R, hR⟩ := H7 (Ag ls)
 rw [← hR]
 rw [← bal_ref] at hR
 obtain ⟨fz, hfz⟩ : ∃ f : Ln → Bool, f = fun l => l.2.2.all fun c => decide (rS (one c.1) ls = 0) := ⟨_, rfl⟩
 rw [← hfz] at hR
 have hfl := fun l : Ln => congrFun hfz l
 clear hfz
 refine B3 Tryz.func63 V Tryz.ntmps63 Tryz.results63 (by simp) fun B w0 => ?_
 refine D8 (yK (cs := [_, _]) V V (B5 V (A8 (D8 (B5 V (B6 ?_)))))); refine H2 (fun k : Nat => ⟨36, [(1, .bx 1 0), (3, .d (dI k))], [(1, [.d (dI n), .d (.sl 3 (ls.map V4))])], []⟩) (fun k => k ≤ ls.length ∧ (ls.take k).all fz = true) (fun k => ls.length - k) 0 ⟨D9 _, V⟩
  ⟨rfl, ⟨E0, E0, D4⟩, ⟨⟨_, rfl, F7 _⟩, D4⟩, D4, rfl⟩ ?_
 rintro k ⟨hk, hI⟩
 rcases D2 k ls.length with h | h
 rotate_left
 · have u1 : decide ((k : Int) < ((ls.map V4).length : Int)) = false := A9 (by rw [A7]; omega)
   rw [E9 h] at hI
   rw [hI] at hR
   subst hR
   refine I0 V (J6 V (yN V (H3 V (B1 (L9 u1 V (G1 (D8 (B5 V (C4 ?_)))))))))
   exact C9 _ (.tmp V .nil) V
 have u1 : decide ((k : Int) < ((ls.map V4).length : Int)) = true := B0 (by rw [A7]; omega)
 obtain ⟨⟨a, c, x⟩, hl⟩ : ∃ a, ls[k]? = some a := ⟨_, A5 h⟩
 have ex := ix V4 ls k k (a, c, x) rfl hl
 have hw := I5 ((k : Int) + 1) (by omega)
 have hx1 := (hb2 _ (B7 hl)).1
 simp only at hx1
 have arith : ls.length - (k + 1) < ls.length - k := by omega
 have hnx := Cp hl hI
 have hno := Ij (p := fz) hl
 have hfx := hfl (a, c, x)
 simp only at hfx
 clear hI hl
 refine I0 V (J6 V (yN V (H3 V (B1 (J8 u1 V (B2 (A8 (B6 (D8 (B5 V (B6 ?_))))))))))); refine H2 (fun m : Nat => ⟨36, [(1, .bx 1 0), (3, .d (dI k)), (4, .d (dI m))], [(1, [.d (dI n), .d (.sl 3 (ls.map V4))])], []⟩) (fun m => m ≤ x.length ∧ (x.take m).all (fun c => decide (rS (one c.1) ls = 0)) = true) (fun m => x.length - m) 0 ⟨D9 _, V⟩
  ⟨rfl, ⟨E0, E0, E0, D4⟩, ⟨⟨_, rfl, F7 _⟩, D4⟩, D4, rfl⟩ ?_
 rintro m ⟨hm, hJ⟩
 rcases D2 m x.length with h2 | h2
 rotate_left
 · have u2 : decide ((m : Int) < ((x.map dCf).length : Int)) = false := A9 (by rw [A7]; omega)
   rw [E9 h2] at hJ
   have hz := hnx (by rw [hfx]; exact hJ)
   refine I0 V (J6 V (C3 V (yW ex (by omega) rfl rfl (N8 rfl rfl (K5 rfl rfl (yN rfl (H3 rfl (B1 (L9 u2 rfl (G1 (B4 (C3 rfl (G3 rfl (B5 rfl (B1 ?_)))))))))))))))
   exact ⟨k + 1, ⟨h, hz⟩, arith, V, ⟨E0, .of_eq (C7 (fun n => SV.d (dI n)) hw), D4⟩, ⟨⟨_, V, F7 _⟩, D4⟩, D4, V⟩
 have u2 : decide ((m : Int) < ((x.map dCf).length : Int)) = true := B0 (by rw [A7]; omega)
 obtain ⟨⟨c0, f⟩, hc⟩ : ∃ a, x[m]? = some a := ⟨_, A5 h2⟩
 have em := ix dCf x m m (c0, f) rfl hc
 have hw2 := I5 ((m : Int) + 1) (by omega)
 have k1 := kf c0
 have arith2 : x.length - (m + 1) < x.length - m := by omega
 have hnx2 := Cp hc hJ
 have hno2 := Ij (p := fun c : Cf => decide (rS (one c.1) ls = 0)) hc
 simp only at hnx2 hno2
 obtain ⟨v, hv⟩ := H7 (rS (one c0) ls)
 rw [← hv] at k1 hnx2 hno2
 clear hc hJ hv
 by_cases h0 : v = 0
 · rw [h0, O2] at k1
   have hz := hnx2 (B0 h0)
   refine I0 V (J6 V (C3 V (yW ex (by omega) rfl rfl (N8 rfl rfl (K5 rfl rfl (yN rfl (H3 rfl (B1 (J8 u2 rfl (B2 (A8 (B6 (A8 ?_))))))))))))); refine I7 Tryz.mixed (by kernel_rfl) ?_; refine BU (ys := [_, _]) V V V V (J6 V (C3 V (yW ex (by omega) rfl rfl (N8 rfl rfl (K5 rfl rfl (C3 rfl (yW em (by omega) rfl rfl (N8 rfl rfl (K5 rfl rfl (yC (k1) rfl rfl (O6 rfl rfl (yQ (F6 rfl (B2 (B4 (C3 rfl (G3 rfl (B5 rfl (B1 ?_)))))))))))))))))))
   exact ⟨m + 1, ⟨h2, hz⟩, arith2, V, ⟨E0, E0, .of_eq (C7 (fun n => SV.d (dI n)) hw2), D4⟩, ⟨⟨_, V, F7 _⟩, D4⟩, D4, V⟩
 · have t2 : (!(I6 v == [])) = true := by simp [CG, h0]
   have hz := hno (by rw [hfx]; exact hno2 (A9 h0))
   rw [hz] at hR
   subst hR
   obtain ⟨q, hq⟩ := H7 (I6 v)
   rw [← hq] at k1 t2
   refine I0 V (J6 V (C3 V (yW ex (by omega) rfl rfl (N8 rfl rfl (K5 rfl rfl (yN rfl (H3 rfl (B1 (J8 u2 rfl (B2 (A8 (B6 (A8 ?_))))))))))))); refine I7 Tryz.mixed (by kernel_rfl) ?_; refine BU (ys := [_, _]) V V V V (J6 V (C3 V (yW ex (by omega) rfl rfl (N8 rfl rfl (K5 rfl rfl (C3 rfl (yW em (by omega) rfl rfl (N8 rfl rfl (K5 rfl rfl (yC (k1) rfl rfl (O6 rfl rfl (yQ (B1 (J8 t2 rfl (D8 (B5 rfl (C4 (B8 (A4 (A4 (B8 (B8 (A4 (A4 (B8 (A4 ?_))))))))))))))))))))))))))
   exact C9 _ (.tmp V .nil) V
theorem KY (r : Ru) (hb : OH r) : PCalls Tryz.prog 17 [.agg (U4 r)] (.tup [dB (decide (U2 r = 0) && Ag r.2), dI (U2 r)]) := by
 have k1 := Io r hb
 by_cases h : U2 r = 0
 · obtain ⟨-, h1, h2⟩ := (Ct (tp := P1 J5) (ce := BT)).1 h
   have k2 := wRBal r h1 fun l hl => ⟨(S8.1 (h2 l hl).2).1, fun c hc => ((hb.2 l hl).2.2 c hc).2⟩
   rw [h] at k1
   rw [h, B0 rfl, Bool.true_and]
   obtain ⟨n, ls⟩ := r
   obtain ⟨B, hB⟩ := H7 (Ag ls)
   simp only at k2
   rw [← hB] at k2 ⊢
   refine B3 Tryz.func17 V Tryz.ntmps17 Tryz.results17 (by simp) fun B w0 => ?_
   refine D8 (yK (cs := [_, _]) V V (H4 V (B5 V (A8 (D8 (BU (ys := [_, _]) V V V V (yC (k1) V V (B5 V (H8 V (H3 V (F6 V (B2 (D8 (BU (ys := [_, _]) V V V V (yC (k2) V V (H4 V (B5 V (C4 ?_))))))))))))))))))
   exact C9 _ (.tmp V (.tmp V .nil)) V
 · have t : (U2 r != 0) = true := by simpa using h
   rw [A9 h, Bool.false_and]
   obtain ⟨x, hx⟩ := H7 (U2 r)
   rw [← hx] at k1 t ⊢
   obtain ⟨n, ls⟩ := r
   refine B3 Tryz.func17 V Tryz.ntmps17 Tryz.results17 (by simp) fun B w0 => ?_
   refine D8 (yK (cs := [_, _]) V V (H4 V (B5 V (A8 (D8 (BU (ys := [_, _]) V V V V (yC (k1) V V (B5 V (H8 V (H3 V (B1 (J8 t V (H8 V (H4 V (B5 V (C4 (A4 ?_)))))))))))))))))
   exact C9 _ (.tmp V (.tmp V .nil)) V
theorem wRLineE (n : Int) (ch : List Ac) (x : Ln) (hk : (W0 n).isSome = true) (hx : bdN x) (h0 : BT x.2.2 = 0) (hc : ch.length ≤ 1100000) : PCalls Tryz.prog 62 [dI n, .agg (V4 x), .sl 2 (ch.map O8)] (.d (dI (ON nf (n, Ek n, V8 n, Et n) ch x))) := by
 obtain ⟨a, c, e⟩ := x
 obtain ⟨b1, b2, b3⟩ := hx
 simp only at b1 b2 b3 h0
 obtain ⟨E, hE⟩ := H7 (ON nf (n, Ek n, V8 n, Et n) ch (a, c, e))
 rw [← hE]
 rw [Pj] at hE
 simp only at hE
 have k1 := wRCut a 46 (by omega)
 have hsl : (Q5 46 a).length ≤ 1000001 := E8 (W7 46 a) (by omega)
 have k2 := wRNames e b2 (fun c hc => (b3 c hc).1) fun c hc => (b3 c hc).2
 rw [h0, NP, C5 h0] at k2
 have hnl := Kw e
 have hel := (S8.1 h0).1
 have k4 := wRFindA ch a hc (by omega)
 have k5 := wStars n
 obtain ⟨s1, s2⟩ := star_sg hk
 have k6 := Oa n
 rw [erK, hk] at k6
 have ho := fun s => wConR (Q5 46 a) s (by omega)
 have c1 := ho [42]
 have c2 := ho [43]
 have hsg := Qv (Q5 46 a) ((Et n).contains 42) ((Et n).contains 43)
 rw [show ((Q5 46 a).any fun s => (s == [42] && !(Et n).contains 42) || (s == [43] && !(Et n).contains 43)) = (Q5 46 a).any (Bb (Et n)) from rfl] at hsg
 rw [← s1, ← s2] at hsg
 rw [← hsg] at hE
 have hcn := fun s => wConR (V8 n) s (by
  have h2 : ∀ k ∈ kndL, k.2.2.1.length ≤ 4 := by decide
  rw [V8]
  cases h : W0 n with
  | none => simp
  | some k => exact E8 (h2 k (T9 h).1) (by omega))
 obtain ⟨T, hT⟩ := H7 (V8 n)
 rw [← hT] at hE k6 hcn
 obtain ⟨SS, hS⟩ := H7 (Q5 46 a)
 rw [← hS] at hE k1 c1 c2
 obtain ⟨st, hst⟩ := H7 (JI n)
 obtain ⟨pl, hpl⟩ := H7 (JW n)
 rw [← hst, ← hpl] at hE k5
 obtain ⟨c42, h42⟩ := H7 (SS.contains [42])
 obtain ⟨c43, h43⟩ := H7 (SS.contains [43])
 rw [← h42] at hE c1
 rw [← h43] at hE c2
 have hany : ((nf e).any fun c => !T.contains c.1) = ((nf e).map (·.1)).any fun s => !T.contains s := by rw [List.any_map]; rfl
 rw [hany] at hE
 obtain ⟨N, hN⟩ := H7 ((nf e).map (·.1))
 have hNl : N.length ≤ 1000000 := by rw [hN, A7]; omega
 rw [← hN] at hE k2
 obtain ⟨⟨f0, f1⟩, hf⟩ := H7 (GW a ch)
 obtain ⟨f00, f01⟩ := f0
 rw [← hf] at hE k4
 simp only at hE k4
 clear hS hN hf h0 b1 b2 b3 hnl hany hsg s1 s2 hst hpl h42 h43 ho hsl hel hT
 by_cases hbad : (c42 && !st || c43 && !pl) = true
 · rw [C5 hbad] at hE
   subst hE
   have : (c42 = true ∧ st = false) ∨ (c42 = false ∧ c43 = true ∧ pl = false) ∨ (c42 = true ∧ st = true ∧ c43 = true ∧ pl = false) := by
    revert hbad
    cases c42 <;> cases st <;> cases c43 <;> cases pl <;> simp
   rcases this with ⟨rfl, rfl⟩ | ⟨rfl, rfl, rfl⟩ | ⟨rfl, rfl, rfl, rfl⟩
   · refine B3 Tryz.func62 V Tryz.ntmps62 Tryz.results62 (by simp) fun B w0 => ?_
     refine D8 (yK (cs := [_, _, _]) V V (B5 V (H8 V (yC (k5) V V (O5 V (yX V V (yX V V (H4 V (B5 V (D8 (J6 V (yC (k1) V V (B5 V (I0 V (yC (c1) V V (C3 V (C3 V (yU V V V (K8 V V (C3 V (yO V (yO V (yO V (yO V (yO V (yO V (K8 V V (yQ (G5 V (D8 (B5 V (C4 (A4 ?_)))))))))))))))))))))))))))))))))
     exact C9 _ (.tmp V .nil) V
   · refine B3 Tryz.func62 V Tryz.ntmps62 Tryz.results62 (by simp) fun B w0 => ?_
     refine D8 (yK (cs := [_, _, _]) V V (B5 V (H8 V (yC (k5) V V (O5 V (yX V V (yX V V (H4 V (B5 V (D8 (J6 V (yC (k1) V V (B5 V (I0 V (yC (c1) V V (C3 V (yO V (yO V (K7 V V (C3 V (C3 V (yC (c2) V V (C3 V (C3 V (yU V V V (K8 V V (K7 V V (yQ (G5 V (D8 (B5 V (C4 (A4 ?_)))))))))))))))))))))))))))))))))
     exact C9 _ (.tmp V .nil) V
   · refine B3 Tryz.func62 V Tryz.ntmps62 Tryz.results62 (by simp) fun B w0 => ?_
     refine D8 (yK (cs := [_, _, _]) V V (B5 V (H8 V (yC (k5) V V (O5 V (yX V V (yX V V (H4 V (B5 V (D8 (J6 V (yC (k1) V V (B5 V (I0 V (yC (c1) V V (C3 V (C3 V (yU V V V (K8 V V (C3 V (C3 V (yC (c2) V V (C3 V (C3 V (yU V V V (K8 V V (K7 V V (yQ (G5 V (D8 (B5 V (C4 (A4 ?_)))))))))))))))))))))))))))))))))
     exact C9 _ (.tmp V .nil) V
 rw [B9 hbad] at hE
 refine B3 Tryz.func62 V Tryz.ntmps62 Tryz.results62 (by simp) fun B w0 => ?_
 refine D8 (yK (cs := [_, _, _]) V V (B5 V (H8 V (yC (k5) V V (O5 V (yX V V (yX V V (H4 V (B5 V (D8 (J6 V (yC (k1) V V (B5 V (I0 V (yC (c1) V V (C3 V ?_))))))))))))))))
 first | refine Cm ⟨72, [(0, .d (dI n)), (2, .d (.sl 2 (ch.map O8))), (4, .bx 4 0)], [(4, [.d (dS a), .d (dB c), .d (.sl 2 (e.map dCf))])], []⟩ ?_ ?_ | refine BV ⟨72, [(0, .d (dI n)), (2, .d (.sl 2 (ch.map O8))), (4, .bx 4 0)], [(4, [.d (dS a), .d (dB c), .d (.sl 2 (e.map dCf))])], []⟩ ?_ ?_
 rotate_left
 · clear hE k6 k2 hcn k4
   cases c42 with
   | false =>
    cases c43 with
    | false =>
     refine yO V (yO V (K7 V V (C3 V (C3 V (yC (c2) V V (C3 V (yO V (yO V (K7 V V (K7 V V (yQ (F6 V (B2 (B1 ?_))))))))))))))
     exact ⟨rfl, ⟨E0, E0, E0, D4⟩, ⟨⟨_, V, F7 _⟩, D4⟩, D4, V⟩
    | true =>
     cases pl with
     | false => exact G7 V hbad
     | true =>
      refine yO V (yO V (K7 V V (C3 V (C3 V (yC (c2) V V (C3 V (C3 V (yU V V V (K8 V V (K7 V V (yQ (F6 V (B2 (B1 ?_))))))))))))))
      exact ⟨rfl, ⟨E0, E0, E0, D4⟩, ⟨⟨_, V, F7 _⟩, D4⟩, D4, V⟩
   | true =>
    cases st with
    | false => exact G7 V hbad
    | true =>
     cases c43 with
     | false =>
      refine C3 V (yU V V V (K8 V V (C3 V (C3 V (yC (c2) V V (C3 V (yO V (yO V (K7 V V (K7 V V (yQ (F6 V (B2 (B1 ?_))))))))))))))
      exact ⟨rfl, ⟨E0, E0, E0, D4⟩, ⟨⟨_, V, F7 _⟩, D4⟩, D4, V⟩
     | true =>
      cases pl with
      | false => exact G7 V hbad
      | true =>
       refine C3 V (yU V V V (K8 V V (C3 V (C3 V (yC (c2) V V (C3 V (C3 V (yU V V V (K8 V V (K7 V V (yQ (F6 V (B2 (B1 ?_))))))))))))))
       exact ⟨rfl, ⟨E0, E0, E0, D4⟩, ⟨⟨_, V, F7 _⟩, D4⟩, D4, V⟩
 clear k1 k5 c1 c2 hbad
 refine H8 V (yC (k6) V V (O5 V (yX V V (yX V V (H4 V (B5 V (D8 (J6 V (yC (k2) V V (O5 V (yX V V (yX V V (H4 V (B5 V (A8 (D8 (B5 V (B6 ?_)))))))))))))))))); refine H2 (fun i : Nat => ⟨72, [(0, .d (dI n)), (2, .d (.sl 2 (ch.map O8))), (4, .bx 4 0), (10, .d (V3 T)), (12, .d (V3 N)), (14, .d (dI i))], [(4, [.d (dS a), .d (dB c), .d (.sl 2 (e.map dCf))])], []⟩) (fun i => i ≤ N.length ∧ (N.take i).any (fun s => !T.contains s) = false) (fun i => N.length - i) 0 ⟨D9 _, V⟩
  ⟨rfl, ⟨E0, E0, E0, E0, E0, E0, D4⟩, ⟨⟨_, rfl, F7 _⟩, D4⟩, D4, rfl⟩ ?_
 rintro i ⟨hi, hI⟩
 rcases D2 i N.length with h | h
 · have u1 : decide ((i : Int) < ((N.map fun s => [dS s]).length : Int)) = true := B0 (by rw [A7]; omega)
   obtain ⟨y, hy⟩ := Bq h
   have ex := ix (fun s => [dS s]) N i i y rfl hy
   have hw := I5 ((i : Int) + 1) (by omega)
   have c3 := hcn y
   obtain ⟨b, hb⟩ := H7 (T.contains y)
   rw [← hb] at c3
   have arith : N.length - (i + 1) < N.length - i := by omega
   cases b with
   | true =>
    have hn : (N.take (i + 1)).any (fun s => !T.contains s) = false := by
     rw [G8, hy, List.any_append, hI, Option.toList_some, List.any_cons, List.any_nil, ← hb]
     rfl
    clear hI hE hy k4
    refine I0 V (C3 V (yN V (H3 V (B1 (J8 u1 V (B2 (A8 (B6 (H8 V (C3 V (C3 V (yW ex (by omega) rfl rfl (K5 rfl rfl (yC (c3) rfl rfl (yU rfl rfl rfl (yQ (F6 rfl (B2 (B4 (C3 rfl (G3 rfl (B5 rfl (B1 ?_)))))))))))))))))))))))
    exact ⟨i + 1, ⟨h, hn⟩, arith, V, ⟨E0, E0, E0, E0, E0, .of_eq (C7 (fun n => SV.d (dI n)) hw), D4⟩, ⟨⟨_, V, F7 _⟩, D4⟩, D4, V⟩
   | false =>
    have hn : N.any (fun s => !T.contains s) = true := List.any_eq_true.2 ⟨y, B7 hy, by rw [← hb]; rfl⟩
    rw [C5 hn] at hE
    subst hE
    clear hI hn hy k4
    refine I0 V (C3 V (yN V (H3 V (B1 (J8 u1 V (B2 (A8 (B6 (H8 V (C3 V (C3 V (yW ex (by omega) rfl rfl (K5 rfl rfl (yC (c3) rfl rfl (yU rfl rfl rfl (yQ (G5 rfl (D8 (B5 rfl (C4 (B8 (A4 (A4 (B8 (A4 ?_)))))))))))))))))))))))))
    exact C9 _ (.tmp V .nil) V
 · have u1 : decide ((i : Int) < ((N.map fun s => [dS s]).length : Int)) = false := A9 (by rw [A7]; omega)
   have hn : N.any (fun s => !T.contains s) = false := by rw [E9 h] at hI; exact hI
   rw [B9 (by simp only [hn]; simp)] at hE
   clear hI hn
   cases f1 with
   | true =>
    rw [C5 rfl] at hE
    subst hE
    refine I0 V (C3 V (yN V (H3 V (B1 (L9 u1 V (G1 (I0 V (J6 V (yC (k4) V V (O5 V (yX V V (yX V V (yZ (cs := [_, _]) V V (yS (cs' := [_, _]) V V V V V (B5 V (H8 V (yU V V V (yQ (F6 V (B2 (D8 (B5 V (C4 ?_)))))))))))))))))))))))
    exact C9 _ (.tmp V .nil) V
   | false =>
    rw [B9 (by simp)] at hE
    subst hE
    refine I0 V (C3 V (yN V (H3 V (B1 (L9 u1 V (G1 (I0 V (J6 V (yC (k4) V V (O5 V (yX V V (yX V V (yZ (cs := [_, _]) V V (yS (cs' := [_, _]) V V V V V (B5 V (H8 V (yU V V V (yQ (G5 V (D8 (B5 V (C4 (A4 ?_)))))))))))))))))))))))
    exact C9 _ (.tmp V .nil) V
theorem Mt (l : List Ru) (ch : List Ac) (hl : l.length ≤ 1000000) (hb : ∀ r ∈ l, OH r) (hc : ch.length ≤ 1100000) (hcb : ∀ a ∈ ch, a.1.length ≤ 1100000) : PCalls Tryz.prog 15 [O7 l, .sl 2 (ch.map O8)] (.tup [dI (MA l ch).1, dI (MA l ch).2]) := by
 have c0 := KX ch hc hcb
 obtain ⟨⟨E1, E2⟩, hE⟩ := H7 (MA l ch)
 rw [← hE]
 unfold MA at hE
 by_cases h0 : Ig ch = 0
 rotate_left
 · have t1 : (Ig ch != 0) = true := by simp [h0]
   rw [C5 h0] at hE
   cases hE
   obtain ⟨x, hx⟩ := H7 (Ig ch)
   rw [← hx] at c0 t1
   refine B3 Tryz.func15 V Tryz.ntmps15 Tryz.results15 (by simp) fun B w0 => ?_
   refine D8 (H4 V (B5 V (I0 V (yC (c0) V V (H3 V (B1 (J8 t1 V (D8 (H4 V (B5 V (C4 (A4 ?_))))))))))))
   exact C9 _ (.tmp V (.tmp V .nil)) V
 rw [B9 (by simp [h0])] at hE
 rw [h0] at c0
 by_cases h1 : 64 < l.length
 · have t2 : decide (((l.map U4).length : Int) > 64) = true := B0 (by rw [A7]; omega)
   rw [C5 h1] at hE
   cases hE
   refine B3 Tryz.func15 V Tryz.ntmps15 Tryz.results15 (by simp) fun B w0 => ?_
   refine D8 (H4 V (B5 V (I0 V (yC (c0) V V (H3 V (F6 V (B2 (I0 V (yN V (H3 V (B1 ?_))))))))))); rw [t2]
   refine G5 V (D8 (H4 V (B5 V (C4 (A4 ?_)))))
   exact C9 _ (.tmp V (.tmp V .nil)) V
 have t2 : decide (((l.map U4).length : Int) > 64) = false := A9 (by rw [A7]; omega)
 rw [B9 h1] at hE
 refine B3 Tryz.func15 V Tryz.ntmps15 Tryz.results15 (by simp) fun B w0 => ?_
 refine D8 (H4 V (B5 V (I0 V (yC (c0) V V (H3 V (F6 V (B2 (I0 V (yN V (H3 V (B1 ?_))))))))))); rw [t2]
 refine F6 V (B2 (A8 (D8 (B5 V (B6 ?_)))))
 clear c0 h0 hcb
 refine H2 (fun k : Nat => ⟨85, [(0, .d (O7 l)), (1, .d (.sl 2 (ch.map O8))), (6, .d (dI k))], [], []⟩) (fun k => k ≤ l.length ∧ Iw (P1 J5) BT nf ch k (l.take k) (l.drop k) = (E1, E2)) (fun k => l.length - k) 0 ⟨D9 _, hE.symm⟩
  ⟨rfl, ⟨E0, E0, E0, D4⟩, D4, D4, rfl⟩ ?_
 rintro k ⟨hk, hI⟩
 clear hE
 rcases D2 k l.length with h | h
 rotate_left
 · have u1 : decide ((k : Int) < ((l.map U4).length : Int)) = false := A9 (by rw [A7]; omega)
   rw [I8 h] at hI
   cases hI
   refine I0 V (C3 V (yN V (H3 V (B1 (L9 u1 V (G1 (D8 (H4 V (B5 V (C4 ?_))))))))))
   exact C9 _ (.tmp V (.tmp V .nil)) V
 have u1 : decide ((k : Int) < ((l.map U4).length : Int)) = true := B0 (by rw [A7]; omega)
 obtain ⟨r, hr⟩ := Bq h
 have hbr := hb _ (B7 hr)
 rw [Dg hr] at hI
 have ex := ix U4 l k k r rfl hr
 have hw := I5 ((k : Int) + 1) (by omega)
 have c1 := Io r hbr
 have arith : l.length - (k + 1) < l.length - k := by omega
 by_cases e1 : U2 r = 0
 rotate_left
 · have t3 : (U2 r != 0) = true := by simp [e1]
   rw [C5 e1] at hI
   cases hI
   obtain ⟨x, hx⟩ := H7 (U2 r)
   rw [← hx] at c1 t3 ⊢
   obtain ⟨n, ls⟩ := r
   refine I0 V (C3 V (yN V (H3 V (B1 (J8 u1 V (B2 (A8 (B6 (I0 V (C3 V (yW ex (by omega) rfl rfl (R7 (ys := [_, _]) rfl rfl rfl (yC (c1) rfl rfl (B5 rfl (H8 rfl (H3 rfl (B1 (J8 t3 rfl (H8 rfl (C3 rfl (H4 rfl (B5 rfl (C4 (A4 (B8 (A4 (A4 (B8 (A4 ?_)))))))))))))))))))))))))))))
   exact C9 _ (.tmp V (.tmp V .nil)) V
 have hwf := (Ct (tp := P1 J5) (ce := BT)).1 e1
 rw [B9 (by simp [e1])] at hI
 rw [e1] at c1
 clear hb
 obtain ⟨n, ls⟩ := r
 simp only at hI
 refine I0 V (C3 V (yN V (H3 V (B1 (J8 u1 V (B2 (A8 (B6 (I0 V (C3 V (yW ex (by omega) rfl rfl (R7 (ys := [_, _]) rfl rfl rfl (yC (c1) rfl rfl (B5 rfl (H8 rfl (H3 rfl (F6 rfl (B2 (A8 (D8 (B5 rfl (B6 ?_)))))))))))))))))))))); refine H2 (fun j : Nat => ⟨85, [(0, .d (O7 l)), (1, .d (.sl 2 (ch.map O8))), (6, .d (dI k)), (8, .d (dI j))], [], []⟩) (fun j => j ≤ k ∧ ((l.take k).take j).any (fun x => x.1 == n) = false) (fun j => k - j) 0 ⟨D9 _, V⟩
  ⟨rfl, ⟨E0, E0, E0, E0, D4⟩, D4, D4, rfl⟩ ?_
 rintro j ⟨hj, hJ⟩
 clear c1
 rcases D2 j k with h2 | h2
 · have u2 : decide ((j : Int) < (k : Int)) = true := B0 (by omega)
   obtain ⟨⟨n2, ls2⟩, hx⟩ : ∃ a, l[j]? = some a := ⟨_, A5 (by omega)⟩
   have ey := ix U4 l j j (n2, ls2) rfl hx
   have hw2 := I5 ((j : Int) + 1) (by omega)
   have hx2 : (l.take k)[j]? = some (n2, ls2) := by rw [E7 h2, hx]
   have arith2 : k - (j + 1) < k - j := by omega
   by_cases hn : n2 = n
   · have t4 : (n2 == n) = true := by simp [hn]
     have h3 : ((l.take k).any fun x => x.1 == n) = true := List.any_eq_true.2 ⟨_, B7 hx2, t4⟩
     rw [C5 h3] at hI
     cases hI
     clear h3 hJ hwf hbr
     refine I0 V (C3 V (H3 V (B1 (J8 u2 V (B2 (A8 (B6 (A8 ?_)))))))); refine I7 Tryz.mixed (by kernel_rfl) ?_; refine C3 V (C3 V (yW ey (by omega) rfl rfl (N8 rfl rfl (K5 rfl rfl (C3 rfl (C3 rfl (yW ex (by omega) rfl rfl (N8 rfl rfl (K5 rfl rfl (H3 rfl (B1 (J8 t4 rfl (H8 rfl (H4 rfl (B5 rfl (C4 (B8 (A4 (A4 (B8 (A4 (B8 (A4 (A4 (B8 (A4 ?_))))))))))))))))))))))))))
     exact C9 _ (.tmp V (.tmp V .nil)) V
   · have t4 : (n2 == n) = false := F8 hn
     have h3 : ((l.take k).take (j + 1)).any (fun x => x.1 == n) = false := by
      rw [G8, hx2, List.any_append, hJ]
      simp [t4]
     clear hJ hwf hbr hI
     refine I0 V (C3 V (H3 V (B1 (J8 u2 V (B2 (A8 (B6 (A8 ?_)))))))); refine I7 Tryz.mixed (by kernel_rfl) ?_; refine C3 V (C3 V (yW ey (by omega) rfl rfl (N8 rfl rfl (K5 rfl rfl (C3 rfl (C3 rfl (yW ex (by omega) rfl rfl (N8 rfl rfl (K5 rfl rfl (H3 rfl (B1 (L9 t4 rfl (B2 (B4 (C3 rfl (G3 rfl (B5 rfl (B1 ?_))))))))))))))))))
     exact ⟨j + 1, ⟨h2, h3⟩, arith2, V, ⟨E0, E0, E0, .of_eq (C7 (fun n => SV.d (dI n)) hw2), D4⟩, D4, D4, V⟩
 have u2 : decide ((j : Int) < (k : Int)) = false := A9 (by omega)
 have h3 : ((l.take k).any fun x => x.1 == n) = false := by
  rw [E9 (by rw [E4]; omega)] at hJ
  exact hJ
 rw [B9 (by rw [h3]; simp)] at hI
 clear hJ h3
 obtain ⟨⟨kk, hkk⟩, hll, hlw⟩ := hwf
 simp only at hkk hll hlw hI
 rw [hkk] at hI
 simp only at hI
 have hkeq : kk = (n, Ek n, V8 n, Et n) := by
  have h3 := (T9 hkk).2
  rw [Ek, V8, Et, hkk]
  obtain ⟨q0, q1, q2, q3⟩ := kk
  simp only at h3
  subst h3
  rfl
 rw [hkeq] at hI
 have k2 := fun x => wRLineE n ch x (by rw [hkk]; rfl)
 have hll2 : ls.length ≤ 1000000 := by omega
 have k3 := wRBal (n, ls) hll fun x hx => ⟨(S8.1 (hlw x hx).2).1, fun c hc => ((hbr.2 x hx).2.2 c hc).2⟩
 simp only at k3
 obtain ⟨K, hK⟩ := H7 ((n, Ek n, V8 n, Et n))
 rw [← hK] at hI k2
 clear hK hkeq hkk e1
 refine I0 V (C3 V (H3 V (B1 (L9 u2 V (G1 (A8 (D8 (B5 V (B6 ?_))))))))); refine H2 (fun j : Nat => ⟨85, [(0, .d (O7 l)), (1, .d (.sl 2 (ch.map O8))), (6, .d (dI k)), (9, .d (dI j))], [], []⟩) (fun j => j ≤ ls.length ∧ Bg nf K ch (ls.drop j) = Bg nf K ch ls) (fun j => ls.length - j) 0 ⟨D9 _, V⟩
  ⟨rfl, ⟨E0, E0, E0, E0, D4⟩, D4, D4, rfl⟩ ?_
 rintro m ⟨hm, hM⟩
 clear hj h2 u2
 rcases D2 m ls.length with h2 | h2
 · have u2 : decide ((m : Int) < ((ls.map V4).length : Int)) = true := B0 (by rw [A7]; omega)
   obtain ⟨x, hx⟩ := Bq h2
   have em := ix V4 ls m m x rfl hx
   have hw2 := I5 ((m : Int) + 1) (by omega)
   have hxm := B7 hx
   have k4 := k2 x (hbr.2 x hxm) (hlw x hxm).2 hc
   have arith2 : ls.length - (m + 1) < ls.length - m := by omega
   rw [EN hx] at hM
   obtain ⟨y, hy⟩ := H7 (ON nf K ch x)
   rw [← hy] at k4 hM
   obtain ⟨x0, x1, x2⟩ := x
   clear k2 k3 hy hxm hbr hll hlw
   by_cases hy0 : y = 0
   · have t4 : (y != 0) = false := by simp [hy0]
     rw [C5 hy0] at hM
     clear hI
     refine I0 V (C3 V (C3 V (yW ex (by omega) rfl rfl (N8 rfl rfl (K5 rfl rfl (yN rfl (H3 rfl (B1 (J8 u2 rfl (B2 (A8 (B6 (A8 ?_))))))))))))); refine I7 Tryz.mixed (by kernel_rfl) ?_; refine C3 V (C3 V (yW ex (by omega) rfl rfl (N8 rfl rfl (K5 rfl rfl (C3 rfl (C3 rfl (yW ex (by omega) rfl rfl (N8 rfl rfl (K5 rfl rfl (C3 rfl (yW em (by omega) rfl rfl (R7 (ys := [_, _, _]) rfl rfl rfl (C3 rfl (yC (k4) rfl rfl (B5 rfl (H8 rfl (H3 rfl (B1 (L9 t4 rfl (B2 (B4 (C3 rfl (G3 rfl (B5 rfl (B1 ?_)))))))))))))))))))))))))
     exact ⟨m + 1, ⟨h2, hM⟩, arith2, V, ⟨E0, E0, E0, .of_eq (C7 (fun n => SV.d (dI n)) hw2), D4⟩, D4, D4, V⟩
   · have t4 : (y != 0) = true := by simp [hy0]
     rw [B9 hy0] at hM
     rw [← hM, C5 hy0] at hI
     cases hI
     refine I0 V (C3 V (C3 V (yW ex (by omega) rfl rfl (N8 rfl rfl (K5 rfl rfl (yN rfl (H3 rfl (B1 (J8 u2 rfl (B2 (A8 (B6 (A8 ?_))))))))))))); refine I7 Tryz.mixed (by kernel_rfl) ?_; refine C3 V (C3 V (yW ex (by omega) rfl rfl (N8 rfl rfl (K5 rfl rfl (C3 rfl (C3 rfl (yW ex (by omega) rfl rfl (N8 rfl rfl (K5 rfl rfl (C3 rfl (yW em (by omega) rfl rfl (R7 (ys := [_, _, _]) rfl rfl rfl (C3 rfl (yC (k4) rfl rfl (B5 rfl (H8 rfl (H3 rfl (B1 (J8 t4 rfl (H8 rfl (C3 rfl (H4 rfl (B5 rfl (C4 (B8 (A4 (A4 (B8 (A4 (B8 (A4 (A4 (B8 (A4 ?_))))))))))))))))))))))))))))))))))
     exact C9 _ (.tmp V (.tmp V .nil)) V
 · have u2 : decide ((m : Int) < ((ls.map V4).length : Int)) = false := A9 (by rw [A7]; omega)
   have hz : Bg nf K ch ls = 0 := by rw [← hM, I8 h2]; rfl
   rw [hz, B9 (by simp)] at hI
   clear k2 hbr hll hlw hM hz
   cases hbal : Ag ls with
   | true =>
    rw [hbal] at k3 hI
    rw [C5 rfl] at hI
    refine I0 V (C3 V (C3 V (yW ex (by omega) rfl rfl (N8 rfl rfl (K5 rfl rfl (yN rfl (H3 rfl (B1 (L9 u2 rfl (G1 (H8 rfl (C3 rfl (yW ex (by omega) rfl rfl (R7 (ys := [_, _]) rfl rfl rfl (yC (k3) rfl rfl (yU rfl rfl rfl (yQ (F6 rfl (B2 (B4 (C3 rfl (G3 rfl (B5 rfl (B1 ?_))))))))))))))))))))))))
    exact ⟨k + 1, ⟨h, hI⟩, arith, V, ⟨E0, E0, .of_eq (C7 (fun n => SV.d (dI n)) hw), D4⟩, D4, D4, V⟩
   | false =>
    rw [hbal] at k3 hI
    rw [B9 (by simp)] at hI
    cases hI
    refine I0 V (C3 V (C3 V (yW ex (by omega) rfl rfl (N8 rfl rfl (K5 rfl rfl (yN rfl (H3 rfl (B1 (L9 u2 rfl (G1 (H8 rfl (C3 rfl (yW ex (by omega) rfl rfl (R7 (ys := [_, _]) rfl rfl rfl (yC (k3) rfl rfl (yU rfl rfl rfl (yQ (G5 rfl (H8 rfl (H4 rfl (B5 rfl (C4 (B8 (A4 (A4 (B8 (A4 ?_)))))))))))))))))))))))))))
    exact C9 _ (.tmp V (.tmp V .nil)) V
theorem wCutIB (s : G0) (c : UInt8) (hl : s.length ≤ 9223372036854775807) : PCalls Tryz.prog 125 [dS s, dS [c]] (.tup [dS (V5 c s), dS (Q7 c s), dB (CE c s)]) := by
 have k1 := Od s c
 rw [BM] at k1
 unfold V5 Q7 CE
 cases h : X2 c s with
 | none =>
  rw [h] at k1
  refine B3 Tryz.func125 V Tryz.ntmps125 Tryz.results125 (by simp) fun B w0 => ?_
  refine D8 (H4 V (H4 V (B5 V (I0 V (C3 V (yC (k1) V V (B5 V (H8 V (H3 V (F6 V (B2 (H8 V (H4 V (H4 V (B5 V (C4 ?_))))))))))))))))
  exact C9 _ (.tmp V (.tmp V (.tmp V .nil))) V
 | some p =>
  rw [h] at k1
  obtain ⟨t, r⟩ := p
  have he := DS h
  simp only at k1 he ⊢
  have hle : t.length + 1 ≤ s.length := by rw [he, D7, List.length_cons]; omega
  have hw : IntKind.i64.wrap ((t.length : Int) + (([c] : G0).length : Int)) = (t.length : Int) + 1 := I5 ((t.length : Int) + 1) (by omega)
  have h1 : s.take ((t.length : Int)).toNat = t := by rw [H5, he]; simp
  have h2 : s.drop (((t.length : Int) + 1)).toNat = r := by
   rw [show ((t.length : Int) + 1).toNat = t.length + 1 by omega, he]
   simp
  have h3 : (t.length : Int) + 1 ≤ s.length := by rw [he]; simp; omega
  have t1 : decide ((t.length : Int) ≥ 0) = true := B0 (by omega)
  obtain ⟨n, hn⟩ : ∃ n : Int, n = (t.length : Int) := ⟨_, rfl⟩
  rw [← hn] at k1 hw h1 h2 h3 t1
  have hn0 : 0 ≤ n := by omega
  clear he hn h
  refine B3 Tryz.func125 V Tryz.ntmps125 Tryz.results125 (by simp) fun B w0 => ?_
  refine D8 (H4 V (H4 V (B5 V (I0 V (C3 V (yC (k1) V V (B5 V (H8 V (H3 V (B1 (J8 t1 V (A8 ?_)))))))))))); refine I7 Tryz.mixed (by kernel_rfl) ?_; refine C3 V (C3 V (KS hn0 (by omega) h1 rfl rfl (C3 rfl (C3 rfl (C3 rfl (O4 rfl (G3 rfl ?_)))))))
  rw [hw]; refine GP (by omega) h3 h2 rfl rfl ?_; refine H4 V ?_; refine H4 V ?_; refine H4 V ?_; refine yQ ?_; refine C4 ?_; refine A4 ?_
  exact C9 _ (.tmp V (.tmp V (.tmp V .nil))) V
theorem wCut1B (s : G0) (c : UInt8) (hl : s.length ≤ 9223372036854775807) : PCalls Tryz.prog 79 [dS s, dS [c]] (.tup [dS (V5 c s), dS (Q7 c s), dB (CE c s)]) := by
 have k1 := wCutIB s c hl
 refine B3 Tryz.func79 V Tryz.ntmps79 Tryz.results79 (by simp) fun B w0 => ?_
 refine D8 (H4 V (H4 V (B5 V (H8 V (C3 V (yC (k1) V V (yX V V (yX V V (yX V V (H4 V (H4 V (B5 V (C4 ?_)))))))))))))
 exact C9 _ (.tmp V (.tmp V (.tmp V .nil))) V
open Go.RowKit Go.Shelf Px
attribute [local go_sem] Oper.semAt_some
theorem Kh (s : G0) (hs : s.length ≤ 9223372036854775807) (F : Nat → Nat → Prop) (w : World) (b : Nat) (hF : ∀ o, ¬ F b o) (hw : CellS w b s) : CJ Tryz.prog 210 #[.pointer (some ⟨b, 0, none⟩)] ((Q5 46 s).map fun t => [vS t]) b F w := by
 intro l J Jx hJ hJx hY hgo h0
 refine callsIn_of_wp Tryz.func210 V trivial ?_ V
 simp only [Tryz.ntmps210, List.size_toArray, List.length_cons, List.length_nil, Nat.reduceAdd, Nat.reduceSub, Array.replicate_succ, Array.replicate_zero, List.push_toArray, List.append_toArray, List.nil_append, List.cons_append]
 have HJ := Lib.hid hJ
 have HJX := Lib.hid hJx
 have HY := Lib.hid hY
 have HG := Lib.hid hgo
 have HF := Lib.hid hF
 have C2 : Hid (∀ t, t.length ≤ 9223372036854775807 → ∀ W, GlobOk F W → Calls Tryz.prog 79 #[vS t, vS [46]] W fun e W' => e = .returned (.tuple #[vS (V5 46 t), vS (Q7 46 t), .bool (CE 46 t)]) ∧ Below W.heap.size W W') :=
  Lib.hid fun t ht W hg => Gm (vs := [vS t, vS [46]]) (us := [vS (V5 46 t), vS (Q7 46 t), .bool (CE 46 t)]) (wCut1B t 46 ht) (fun v hv => by simp at hv; rcases hv with rfl | rfl <;> rfl) hg
 clear hJ hJx hY hgo hF
 gi_wp2
 gi_loopw [3] (fun v3 wr => ∃ (i : Nat) (s' : G0), CellS wr b s' ∧ J i wr ∧ Hid (((Q5 46 s).map fun t => [vS t]).drop i = (Q5 46 s').map (fun t => [vS t]) ∧ s'.length ≤ 9223372036854775807 ∧ GlobOk F wr))
  (fun _ wr => FY wr b)
 case atStart => exact ⟨0, s, hw, h0, Lib.hid ⟨rfl, hs, HG.out⟩⟩
 case round =>
  obtain ⟨i, s', hc, hJi, HR⟩ := hrel
  have HC := Lib.hid hc
  have c1 := hc.cell
  have K2 := Lib.hid (C2.out s' HR.out.2.1 wr HR.out.2.2)
  have HX : Hid (((Q5 46 s).map fun t => [vS t])[i]? = some [vS (V5 46 s')] ∧ ((Q5 46 s).map fun t => [vS t]).drop (i + 1) = if CE 46 s' then (Q5 46 (Q7 46 s')).map (fun t => [vS t]) else []) := by
   have hcons := HR.out.1
   rw [Cq 46 s'] at hcons
   unfold V5 Q7 CE
   refine Lib.hid ?_
   cases e : X2 46 s' with
   | none =>
    rw [e] at hcons
    have h1 := C7 (fun l => l[0]?) hcons
    have h2 := C7 (List.drop 1) hcons
    exact ⟨by simpa using h1, by simpa using h2⟩
   | some p =>
    rw [e] at hcons
    have h1 := C7 (fun l => l[0]?) hcons
    have h2 := C7 (List.drop 1) hcons
    exact ⟨by simpa using h1, by simpa using h2⟩
  clear hc
  gi_wp2_with (refine ⟨D4, rfl, ?_⟩; gi_at_call 79; refine (callsIn_wide.2 K2.out).mono ?_; rintro e w' ⟨rfl, hb2⟩; obtain ⟨fn, tmps, assign, body, hy, hR⟩ := HY.out i _ w' HX.out.1 (HJ.out i _ _ hJi (HC.out.below hb2)); have HR2 := Lib.hid hR; have HC2 := Lib.hid (HC.out.same (hb2.block b HC.out.lt)); have HG2 := Lib.hid (GC HR.out.2.2 hb2); clear hR hb2)
  refine ⟨rfl, ?_⟩
  refine HR2.out.mono ?_
  rintro e W3 (⟨rfl, hJ3, -, hg3, hb3⟩ | ⟨rfl, hJx3, hb3⟩)
  · have HG3 := Lib.hid hg3
    have HC3 := Lib.hid (HC2.out.same hb3)
    clear hg3 hb3
    cases hb : CE 46 s' with
    | false =>
     have HL : Hid (i + 1 = ((Q5 46 s).map fun t => [vS t]).length) := Lib.hid (by
      have h1 := HX.out.2
      rw [hb, B9 (by simp), List.drop_eq_nil_iff] at h1
      have h2 := (A6.1 HX.out.1).1
      omega)
     gi_wp2
     refine bodyPost_ret (results_none V _ _ _) V ?_
     exact ⟨⟨_, V⟩, .inl (by rw [← HL.out]; exact hJ3)⟩
    | true =>
     have c3 := HC3.out.cell
     have f3 := HC3.out.frz
     gi_wp2
     obtain ⟨s1, s2⟩ := HC3.out.set (Q7 46 s')
     have HG4 := Lib.hid (Gz HG3.out HF.out s2.2.2.2.2.1)
     have J4 := HJ.out _ _ _ hJ3 s2
     go_roundw
     case rel => exact ⟨i + 1, Q7 46 s', s1, J4, Lib.hid ⟨by have := HX.out.2; rwa [hb, C5 rfl] at this, by have := (S3 46 s').2.1; have := HR.out.2.1; omega, HG4.out⟩⟩
     case measure => rw [s1.len, HC.out.len]; exact (S3 46 s').2.2 hb
  · clear hb3
    gi_wp2
    refine bodyPost_ret (results_none V _ _ _) V ?_
    exact ⟨⟨_, V⟩, .inr hJx3⟩
theorem NF (s : G0) (hs : s.length ≤ 9223372036854775807) {ys : List Value} {T b : Nat} (hy : ys[0]? = some (vS s)) : ∀ (F : Nat → Nat → Prop) (w : World), (∀ o, ¬ F b o) → w.heap[b]? = some (.cells ys.toArray T (0, 0)) → CJ Tryz.prog 210 #[.pointer (some ⟨b, 0, none⟩)] (vsg s) b F w :=
 fun F w hF hw => Kh s hs F w b hF ⟨ys, T, hw, hy⟩
theorem Og (cn : G0 → Bool) (s : G0) (hs : s.length ≤ 9223372036854775807) : PCalls Tryz.prog 119 [dS s, dF Tryz.prog (PZ cn)] (.d (dB (CM cn s))) := by
 obtain ⟨r, hr⟩ := H7 (CM cn s)
 rw [← hr]
 unfold CM at hr
 refine N6 Tryz.func119 V Tryz.ntmps119 Tryz.results119 (by simp) fun p d0 hex => ?_
 refine L5 (yK (cs := [_]) V V (F9 (yZ (cs := [_]) V V (yQ (D5 (L5 (yZ (cs := [_]) V V (F9 (Y4 (cs' := [_]) V V V V (yQ (D5 (G4 (L5 (C3 V (yQ ?_))))))))))))))); refine Gl (Gy s _) MSeg.ok V ?_
 rintro r0 j ⟨b, xs, T, hx, hn, rfl, rfl⟩
 refine P5 (IV 8 (vs := [.pointer (some ⟨b, 0, none⟩)]) V) ?_; refine M3 ?_; refine PQ (HE.stb _) (st' := ⟨20, fmS b, fmB cn 0, []⟩) ⟨rfl, ⟨E0, E0, E0, E0, D4⟩, ⟨⟨_, V, F7 _⟩, ⟨_, V, F7 _⟩, ⟨_, V, F7 _⟩, D4⟩, D4, V⟩ ?_; refine Kj (ys := xs) (T0 := T) (b := b) (vsg s) [(6, 9)] (fun k => k ≤ 6 ∧ ∀ t ∈ (Q5 46 s).take k, cn t = true) (fun k => fmB cn k) (fun _ => []) ⟨by omega, fun t ht => by simp at ht⟩ rfl (Ik b (xs, T) []) (NF s hs hx) (fun x hx => by obtain ⟨t, -, rfl⟩ := H0.1 hx; rfl) rfl rfl (by decide) ?_ ?_
 · rintro k x hx ⟨hk, hI⟩
   obtain ⟨t, ht, rfl⟩ := Ke hx
   refine ⟨[.any, .any, .any, .bx 3 0, .bx 4 0, .bx 5 0, .d (dS t)], of_decide_eq_true V, .any (.any (.any (.keep V (.refl _) (.keep V (.refl _) (.keep V (.refl _) (.new V V .nil)))))), V, V, by kernel_rfl, fun B w0 => ?_⟩
   have hw : IntKind.i64.wrap ((k : Int) + 1) = ((k + 1 : Nat) : Int) := I5 ((k : Int) + 1) (by omega)
   have hlt := (A6.1 ht).1
   have htk : (Q5 46 s).take (k + 1) = (Q5 46 s).take k ++ [t] := by rw [G8, ht]; rfl
   by_cases h6 : k = 6
   · have t1 : decide (((k + 1 : Nat) : Int) > 6) = true := B0 (by omega)
     have hr0 : r = false := by rw [hr, A9 (by omega)]; rfl
     subst hr0
     refine B6 (D8 (U3 V V V (G3 V (Y4 (cs' := [_]) V V V V (yQ (D8 (U3 V V V (G3 V (C3 V ?_))))))))); rw [hw]; rw [t1]; refine yO V (yO V (yO V (yO V (K8 V V (yQ (G5 V (D8 (Y4 (cs' := [_]) V V V V (yQ (C4 (B8 ?_)))))))))))
     exact ⟨[(3, [.d (dF Tryz.prog (PZ cn))]), (4, [.d (dB false)]), (5, [.d (dI ((k + 1 : Nat) : Int))])], [], ⟨rfl, V, V, D4⟩, D4, V, V, by kernel_rfl, L2 (I1 (L8 _ (.one E6 rfl rfl rfl .nil) rfl))⟩
   · have t1 : decide (((k + 1 : Nat) : Int) > 6) = false := A9 (by omega)
     have hph : PZ cn [dS t] (.d (dB (cn t))) := ⟨t, rfl, rfl⟩
     cases hc : cn t with
     | false =>
      have hr0 : r = false := by
       rw [hr]
       have : (Q5 46 s).all cn = false := List.all_eq_false.2 ⟨t, B7 ht, by simp [hc]⟩
       rw [this, Bool.and_false]
      subst hr0
      rw [hc] at hph
      refine B6 (D8 (U3 V V V (G3 V (Y4 (cs' := [_]) V V V V (yQ (D8 (U3 V V V (G3 V (C3 V ?_))))))))); rw [hw]; rw [t1]; refine U3 V V V (C3 V (yCv hph V V V (yU V V V (K7 V V (yQ (G5 V (D8 (Y4 (cs' := [_]) V V V V (yQ (C4 (B8 ?_)))))))))))
      exact ⟨[(3, [.d (dF Tryz.prog (PZ cn))]), (4, [.d (dB false)]), (5, [.d (dI ((k + 1 : Nat) : Int))])], [], ⟨rfl, V, V, D4⟩, D4, V, V, by kernel_rfl, L2 (I1 (L8 _ (.one E6 rfl rfl rfl .nil) rfl))⟩
     | true =>
      rw [hc] at hph
      have hI2 : ∀ u ∈ (Q5 46 s).take (k + 1), cn u = true := fun u hu => by
       rw [htk] at hu
       rcases List.mem_append.1 hu with h | h
       · exact hI u h
       · rw [List.mem_singleton.1 h]; exact hc
      have hk2 : k + 1 ≤ 6 := by omega
      refine B6 (D8 (U3 V V V (G3 V (Y4 (cs' := [_]) V V V V (yQ (D8 (U3 V V V (G3 V (C3 V ?_))))))))); rw [hw]; rw [t1]; refine U3 V V V (C3 V (yCv hph V V V (yU V V V (K7 V V (yQ (F6 V (B2 (CR ?_))))))))
      exact ⟨⟨hk2, hI2⟩, ⟨rfl, V, V, D4⟩, D4⟩
 · rintro ⟨hk, hI⟩
   rw [A7] at hk hI
   rw [I3] at hI
   have hr0 : r = true := by rw [hr, B0 hk, E5.2 hI]; rfl
   subst hr0
   show Ab 0 _ .normal ⟨20, _, [(3, _), (4, _), (5, _)], []⟩ _
   refine L5 (Y4 (cs' := [_]) V V V V (yQ (D5 (M5 ?_))))
   exact L8 _ (.one E6 V V V .nil) V
theorem Mz (s : G0) (hs : s.length ≤ 9223372036854775807) : PCalls Tryz.prog 70 [dS s] (.d (dI (KO s))) := by
 have c1 := Og J5 s hs
 unfold KO
 cases h : CM J5 s with
 | true =>
  rw [h] at c1
  refine B3 Tryz.func70 V Tryz.ntmps70 Tryz.results70 (by simp) fun B w0 => ?_
  refine D8 (B5 V (I0 V ?_)); refine Gf c1 (.d V (.fn E6 V V FX .nil)) V ?_; refine yU V V V (yQ (F6 V (B2 (D8 (B5 V (C4 ?_))))))
  exact C9 _ (.tmp V .nil) V
 | false =>
  rw [h] at c1
  refine B3 Tryz.func70 V Tryz.ntmps70 Tryz.results70 (by simp) fun B w0 => ?_
  refine D8 (B5 V (I0 V ?_)); refine Gf c1 (.d V (.fn E6 V V FX .nil)) V ?_; refine yU V V V (yQ (G5 V (D8 (B5 V (C4 (A4 ?_))))))
  exact C9 _ (.tmp V .nil) V
theorem Kd (l : List Ac) (hl : l.length ≤ 1000000) (hb : ∀ a ∈ l, a.1.length ≤ 9223372036854775807) : PCalls Tryz.prog 33 [.sl 2 (l.map O8)] (.d (dI (Ig l))) := by
 obtain ⟨E, hE⟩ := H7 (Ig l)
 rw [← hE]
 unfold Ig at hE
 by_cases h0 : 256 < l.length
 · have t1 : decide (((l.map O8).length : Int) > 256) = true := B0 (by rw [A7]; omega)
   rw [C5 h0] at hE
   subst hE
   refine B3 Tryz.func33 V Tryz.ntmps33 Tryz.results33 (by simp) fun B w0 => ?_
   refine D8 (B5 V (I0 V (yN V (H3 V (B1 ?_)))))
   rw [t1]; refine G5 V ?_; refine A8 ?_; refine B4 ?_; refine H4 V ?_; refine yQ ?_; refine C4 ?_; refine A4 ?_
   exact C9 _ (.tmp V .nil) V
 have t1 : decide (((l.map O8).length : Int) > 256) = false := A9 (by rw [A7]; omega)
 rw [B9 h0] at hE
 refine B3 Tryz.func33 V Tryz.ntmps33 Tryz.results33 (by simp) fun B w0 => ?_
 refine D8 (B5 V (I0 V (yN V (H3 V (B1 ?_)))))
 rw [t1]; refine F6 V ?_; refine B2 ?_; refine A8 ?_; refine A8 ?_; refine B4 ?_; refine C3 V ?_; refine yN V ?_; refine C3 V ?_; refine yQ ?_; refine B6 ?_
 refine H2 (fun k : Nat => ⟨67, [(0, .d (.sl 2 (l.map O8))), (10, .d (.sl 2 (l.map O8))), (11, .d (dI l.length)), (12, .d (dI k))], [], []⟩) (fun k => k ≤ l.length ∧ chJ l (l.length - k) k = E) (fun k => l.length - k) 0 ⟨D9 _, hE.symm⟩
  ⟨rfl, ⟨E0, E0, .of_eq (C7 (fun n : Nat => SV.d (dI n)) (by simp)), E0, D4⟩, D4, D4, rfl⟩ ?_
 rintro k ⟨hk, hI⟩
 clear hE
 rcases D2 k l.length with h | h
 rotate_left
 · have u1 : decide ((k : Int) < (l.length : Int)) = false := A9 (by omega)
   have : E = 0 := by rw [← hI, Nat.sub_eq_zero_of_le h]; rfl
   subst this
   refine D8 (H3 V (A8 (L9 u1 V (G1 (D8 (B5 V (C4 ?_)))))))
   exact C9 _ (.tmp V .nil) V
 have u1 : decide ((k : Int) < (l.length : Int)) = true := B0 (by omega)
 obtain ⟨⟨a0, a1⟩, ha⟩ : ∃ a, l[k]? = some a := ⟨_, A5 h⟩
 have ex := ix O8 l k k (a0, a1) rfl ha
 have hw := I5 ((k : Int) + 1) (by omega)
 have hla := hb _ (B7 ha)
 simp only at hla
 have c1 := Mz a0 hla
 rw [GJ ha] at hI
 have arith : l.length - (k + 1) < l.length - k := by omega
 obtain ⟨J, hJ⟩ := H7 (acJ l k (a0, a1))
 rw [← hJ] at hI
 unfold acJ at hJ
 simp only at hJ
 by_cases e1 : KO a0 = 0
 rotate_left
 · rw [C5 e1] at hJ
   rw [hJ, B9 (by omega)] at hI
   subst hI
   have t2 : (KO a0 != 0) = true := by simp [e1]
   obtain ⟨x, hx⟩ := H7 (KO a0)
   rw [← hx] at c1 t2
   refine D8 (H3 V (A8 (J8 u1 V (B2 (A8 (B6 (H8 V (yW ex (by omega) rfl rfl (R7 (ys := [_, _]) rfl rfl rfl (yZ (cs := [_, _]) rfl rfl (H4 rfl (yS (cs' := [_, _]) rfl rfl rfl rfl rfl (yQ (A8 (B6 (D8 (J6 rfl (yC (c1) rfl rfl (G3 rfl (B5 rfl (B1 ?_)))))))))))))))))))))
   rw [t2]; refine G5 V ?_; refine A8 ?_; refine B4 ?_; refine H4 V ?_; refine yQ ?_; refine C4 ?_; refine B8 ?_; refine A4 ?_; refine B8 ?_; refine A4 ?_; refine A4 ?_
   refine B8 ?_; refine A4 ?_
   exact C9 _ (.tmp V .nil) V
 rw [e1] at c1
 rw [B9 (by simp [e1])] at hJ
 by_cases e2 : a1 < 1 ∨ 5 < a1
 · rw [C5 e2] at hJ
   rw [hJ, B9 (by omega)] at hI
   subst hI
   by_cases e3 : a1 < 1
   · have t3 : decide (a1 < 1) = true := B0 e3
     refine D8 (H3 V (A8 (J8 u1 V (B2 (A8 (B6 (H8 V (yW ex (by omega) rfl rfl (R7 (ys := [_, _]) rfl rfl rfl (yZ (cs := [_, _]) rfl rfl (H4 rfl (yS (cs' := [_, _]) rfl rfl rfl rfl rfl (yQ (A8 (B6 (D8 (J6 rfl (yC (c1) rfl rfl (G3 rfl (B5 rfl (F6 rfl (D8 (J6 rfl (G3 rfl (C3 rfl ?_))))))))))))))))))))))))); rw [t3]; refine yO V (yO V (yO V (K8 V V (B5 V (G5 V (D8 (B5 V (C4 (B8 (A4 (B8 (A4 (A4 (B8 (A4 ?_)))))))))))))))
     exact C9 _ (.tmp V .nil) V
   · have t3 : decide (a1 < 1) = false := A9 e3
     have t4 : decide (a1 > 5) = true := B0 (by omega)
     refine D8 (H3 V (A8 (J8 u1 V (B2 (A8 (B6 (H8 V (yW ex (by omega) rfl rfl (R7 (ys := [_, _]) rfl rfl rfl (yZ (cs := [_, _]) rfl rfl (H4 rfl (yS (cs' := [_, _]) rfl rfl rfl rfl rfl (yQ (A8 (B6 (D8 (J6 rfl (yC (c1) rfl rfl (G3 rfl (B5 rfl (F6 rfl (D8 (J6 rfl (G3 rfl (C3 rfl ?_))))))))))))))))))))))))); rw [t3]; refine J6 V (G3 V (K7 V V (B5 V (B1 (J8 t4 V (D8 (B5 V (C4 (B8 (A4 (B8 (A4 (A4 (B8 (A4 ?_)))))))))))))))
     exact C9 _ (.tmp V .nil) V
 have t3 : decide (a1 < 1) = false := A9 (by omega)
 have t4 : decide (a1 > 5) = false := A9 (by omega)
 rw [B9 e2] at hJ
 have inner : ∀ (B : Nat) (w0 : Cx) (Q : Exit → PS → Prop), True := fun _ _ _ => trivial
 clear inner
 rcases G9 k with hk0 | hk0
 · subst hk0
   rw [B9 (by simp), B9 (by simp)] at hJ
   rw [hJ, C5 rfl] at hI
   have t5 : decide (((0 : Nat) : Int) > 0) = false := rfl
   refine D8 (H3 V (A8 (J8 u1 V (B2 (A8 (B6 (H8 V (yW ex (by omega) rfl rfl (R7 (ys := [_, _]) rfl rfl rfl (yZ (cs := [_, _]) rfl rfl (H4 rfl (yS (cs' := [_, _]) rfl rfl rfl rfl rfl (yQ (A8 (B6 (D8 (J6 rfl (yC (c1) rfl rfl (G3 rfl (B5 rfl (F6 rfl (D8 (J6 rfl (G3 rfl (C3 rfl ?_))))))))))))))))))))))))); rw [t3]; refine J6 V (G3 V (K7 V V (B5 V (B1 (L9 t4 V (A8 ?_)))))); refine I7 Tryz.mixed (by kernel_rfl) ?_; refine C3 V (G3 V (C3 V (yO V (yO V (yO V (yO V (yO V (yO V (yO V (yO V (yO V (K7 V V (B5 V (F6 V (B2 (H8 V (C3 V ?_))))))))))))))))); refine OR (by omega) (by simp) rfl rfl ?_; refine yN V (C3 V (yQ (B6 ?_))); rw [t5]
   refine H2 (fun m : Nat => ⟨67, [(0, .d (.sl 2 (l.map O8))), (10, .d (.sl 2 (l.map O8))), (11, .d (dI l.length)), (12, .d (dI ((0 : Nat) : Int))), (48, .d (dI 0)), (49, .d (dI 0))], [], []⟩) (fun m => m = 0) (fun _ => 0) 0 V
    ⟨rfl, ⟨E0, E0, E0, E0, .of_eq (C7 (fun n : Nat => SV.d (dI n)) (by simp)), E0, D4⟩, D4, D4, rfl⟩ ?_
   rintro m rfl
   refine D8 (H3 V (A8 (F6 V (G1 (B4 (G3 V (C3 V (yQ (B1 ?_)))))))))
   exact ⟨0 + 1, ⟨h, hI⟩, arith, V, ⟨E0, E0, E0, .of_eq (C7 (fun n => SV.d (dI n)) hw), D4⟩, D4, D4, V⟩
 have t5 : decide ((k : Int) > 0) = true := B0 (by omega)
 obtain ⟨⟨p0, p1⟩, hp⟩ : ∃ a, l[k - 1]? = some a := ⟨_, A5 (by omega)⟩
 have ep := ix O8 l ((k : Int) - 1) (k - 1) (p0, p1) (by omega) hp
 have hwk := I5 ((k : Int) - 1) (by omega)
 have hle := LG a0 p0
 rw [hp] at hJ
 simp only [Option.getD_some] at hJ
 cases hlt : NX p0 a0 with
 | false =>
  rw [hlt] at hle
  rw [C5 ⟨by omega, hlt⟩] at hJ
  rw [hJ, B9 (by omega)] at hI
  subst hI
  refine D8 (H3 V (A8 (J8 u1 V (B2 (A8 (B6 (H8 V (yW ex (by omega) rfl rfl (R7 (ys := [_, _]) rfl rfl rfl (yZ (cs := [_, _]) rfl rfl (H4 rfl (yS (cs' := [_, _]) rfl rfl rfl rfl rfl (yQ (A8 (B6 (D8 (J6 rfl (yC (c1) rfl rfl (G3 rfl (B5 rfl (F6 rfl (D8 (J6 rfl (G3 rfl (C3 rfl ?_))))))))))))))))))))))))); rw [t3]; refine J6 V (G3 V (K7 V V (B5 V (B1 (L9 t4 V (A8 ?_)))))); refine I7 Tryz.mixed (by kernel_rfl) ?_; refine C3 V (G3 V (C3 V ?_)); rw [t5]; refine J6 V (C3 V (C3 V (G3 V ?_))); rw [hwk]; refine yW ep (by omega) rfl rfl (N8 rfl rfl (K5 rfl rfl (yBsm rfl rfl (K8 rfl rfl (B5 rfl (B1 (J8 hle rfl (D8 (B5 rfl (C4 (B8 (A4 (B8 (A4 (A4 (B8 (A4 ?_)))))))))))))))))
  exact C9 _ (.tmp V .nil) V
 | true =>
 rw [hlt] at hle
 rw [B9 (fun h => by rw [hlt] at h; exact G7 h.2 (by simp))] at hJ
 obtain ⟨P, hP⟩ := H7 (l.take k)
 have hPl : P.length = k := by rw [hP, E4]; omega
 have htk : (l.map O8).take (k : Int).toNat = P.map O8 := by rw [H5, hP, List.map_take]
 rw [← hP] at hJ
 refine D8 (H3 V (A8 (J8 u1 V (B2 (A8 (B6 (H8 V (yW ex (by omega) rfl rfl (R7 (ys := [_, _]) rfl rfl rfl (yZ (cs := [_, _]) rfl rfl (H4 rfl (yS (cs' := [_, _]) rfl rfl rfl rfl rfl (yQ (A8 (B6 (D8 (J6 rfl (yC (c1) rfl rfl (G3 rfl (B5 rfl (F6 rfl (D8 (J6 rfl (G3 rfl (C3 rfl ?_))))))))))))))))))))))))); rw [t3]; refine J6 V (G3 V (K7 V V (B5 V (B1 (L9 t4 V (A8 ?_)))))); refine I7 Tryz.mixed (by kernel_rfl) ?_; refine C3 V (G3 V (C3 V ?_)); rw [t5]; refine J6 V (C3 V (C3 V (G3 V ?_))); rw [hwk]; refine yW ep (by omega) rfl rfl (N8 rfl rfl (K5 rfl rfl (yBsm rfl rfl (K8 rfl rfl (B5 rfl (B1 (L9 hle rfl (B2 (H8 rfl (C3 rfl ?_)))))))))); refine OR (by omega) (by rw [A7]; omega) rfl rfl ?_; refine yN V (C3 V (yQ (B6 ?_))); rw [htk]
 refine H2 (fun m : Nat => ⟨67, [(0, .d (.sl 2 (l.map O8))), (10, .d (.sl 2 (l.map O8))), (11, .d (dI l.length)), (12, .d (dI k)), (4, .bx 4 0), (47, .d (.sl 2 (P.map O8))), (48, .d (dI k)), (49, .d (dI m))], [(4, [.d (dS a0), .d (dI a1)])], []⟩) (fun m => m ≤ k ∧ ∀ (j : Nat) x, j < m → P[j]? = some x → (V7 a0 x.1 && !(a1 == x.2)) = false) (fun m => k - m) 0 ⟨D9 _, fun j x hj => G7 hj (Nat.not_lt_zero _)⟩
  ⟨rfl, ⟨E0, E0, E0, E0, E0, E0, .of_eq (C7 (fun n : Nat => SV.d (dI n)) (by simp [hPl])), E0, D4⟩, ⟨⟨_, rfl, F7 _⟩, D4⟩, D4, rfl⟩ ?_
 rintro m ⟨hm, hno⟩
 rcases D2 m k with h2 | h2
 rotate_left
 · have u2 : decide ((m : Int) < (k : Int)) = false := A9 (by omega)
   rw [DY (by omega) hno, B9 (by simp)] at hJ
   rw [hJ, C5 rfl] at hI
   refine D8 (H3 V (A8 (L9 u2 V (G1 (B4 (G3 V (C3 V (yQ (B1 ?_)))))))))
   exact ⟨k + 1, ⟨h, hI⟩, arith, V, ⟨E0, E0, E0, .of_eq (C7 (fun n => SV.d (dI n)) hw), D4⟩, D4, D4, V⟩
 have u2 : decide ((m : Int) < (k : Int)) = true := B0 (by omega)
 obtain ⟨⟨b0, b1⟩, hbm⟩ : ∃ a, P[m]? = some a := ⟨_, A5 (by omega)⟩
 have eb := ix O8 P m m (b0, b1) rfl hbm
 have hw2 := I5 ((m : Int) + 1) (by omega)
 have c2 := KU a0 b0
 have arith2 : k - (m + 1) < k - m := by omega
 have nxt : (V7 a0 b0 && !(a1 == b1)) = false → ∀ (j : Nat) x, j < m + 1 → P[j]? = some x → (V7 a0 x.1 && !(a1 == x.2)) = false := fun he j x hj hx => by
  rcases D2 j m with h3 | h3
  · exact hno j x h3 hx
  · obtain rfl : j = m := by omega
    rw [hbm] at hx; cases hx; exact he
 have bad : (V7 a0 b0 && !(a1 == b1)) = true → E = 18 := fun he => by
  rw [C5 (List.any_eq_true.2 ⟨_, B7 hbm, he⟩)] at hJ
  rw [hJ, B9 (by omega)] at hI
  exact hI.symm
 clear hJ hI hno hP ep hle htk
 cases hu : V7 a0 b0 with
 | false =>
  rw [hu] at c2 nxt
  have hn2 := nxt (by rfl)
  refine D8 (H3 V (A8 (J8 u2 V (B2 (A8 (B6 (D8 (yW eb (by omega) rfl rfl (R7 (ys := [_, _]) rfl rfl rfl (yZ (cs := [_, _]) rfl rfl (yS (cs' := [_, _]) rfl rfl rfl rfl rfl (yQ (D8 (J6 rfl (J6 rfl (yC (c2) rfl rfl (C3 rfl (yO rfl (yO rfl (yO rfl (yO rfl (yO rfl (K7 rfl rfl (yQ (F6 rfl (B2 (B4 (G3 rfl (C3 rfl (yQ (B1 ?_)))))))))))))))))))))))))))))))
  exact ⟨m + 1, ⟨h2, hn2⟩, arith2, V, ⟨E0, E0, E0, E0, E0, E0, E0, .of_eq (C7 (fun n => SV.d (dI n)) hw2), D4⟩, ⟨⟨_, V, F7 _⟩, D4⟩, D4, V⟩
 | true =>
  rw [hu] at c2 nxt bad
  by_cases he : a1 = b1
  · have t6 : (a1 != b1) = false := by simp [he]
    have hn2 := nxt (by simp [he])
    refine D8 (H3 V (A8 (J8 u2 V (B2 (A8 (B6 (D8 (yW eb (by omega) rfl rfl (R7 (ys := [_, _]) rfl rfl rfl (yZ (cs := [_, _]) rfl rfl (yS (cs' := [_, _]) rfl rfl rfl rfl rfl (yQ (D8 (J6 rfl (J6 rfl (yC (c2) rfl rfl (C3 rfl (J6 rfl (J6 rfl (G3 rfl (K8 rfl rfl (yQ (B1 (L9 t6 rfl (B2 (B4 (G3 rfl (C3 rfl (yQ (B1 ?_))))))))))))))))))))))))))))))
    exact ⟨m + 1, ⟨h2, hn2⟩, arith2, V, ⟨E0, E0, E0, E0, E0, E0, E0, .of_eq (C7 (fun n => SV.d (dI n)) hw2), D4⟩, ⟨⟨_, V, F7 _⟩, D4⟩, D4, V⟩
  · have t6 : (a1 != b1) = true := by simp [he]
    have hE := bad (by simp [he])
    subst hE
    refine D8 (H3 V (A8 (J8 u2 V (B2 (A8 (B6 (D8 (yW eb (by omega) rfl rfl (R7 (ys := [_, _]) rfl rfl rfl (yZ (cs := [_, _]) rfl rfl (yS (cs' := [_, _]) rfl rfl rfl rfl rfl (yQ (D8 (J6 rfl (J6 rfl (yC (c2) rfl rfl (C3 rfl (J6 rfl (J6 rfl (G3 rfl (K8 rfl rfl (yQ (B1 (J8 t6 rfl (D8 (B5 rfl (C4 (B8 (A4 (A4 (B8 (B8 (A4 (A4 (B8 (A4 ?_))))))))))))))))))))))))))))))))))))
    exact C9 _ (.tmp V .nil) V
theorem Mx (l : List Ru) (ch : List Ac) (hl : l.length ≤ 1000000) (hb : ∀ r ∈ l, OH r) (hc : ch.length ≤ 1000000) (hcb : ∀ a ∈ ch, a.1.length ≤ 9223372036854775807) : PCalls Tryz.prog 14 [O7 l, .sl 2 (ch.map O8)] (.tup [dI (MA l ch).1, dI (MA l ch).2]) := by
 have c0 := Kd ch hc hcb
 have k0 := Hk
 obtain ⟨⟨E1, E2⟩, hE⟩ := H7 (MA l ch)
 rw [← hE]
 unfold MA at hE
 by_cases h0 : Ig ch = 0
 rotate_left
 · have t1 : (Ig ch != 0) = true := by simp [h0]
   rw [C5 h0] at hE
   cases hE
   obtain ⟨x, hx⟩ := H7 (Ig ch)
   rw [← hx] at c0 t1
   refine B3 Tryz.func14 V Tryz.ntmps14 Tryz.results14 (by simp) fun B w0 => ?_
   refine D8 (H4 V (B5 V (I0 V (yC (c0) V V (H3 V (B1 (J8 t1 V (D8 (H4 V (B5 V (C4 (A4 ?_))))))))))))
   exact C9 _ (.tmp V (.tmp V .nil)) V
 rw [B9 (by simp [h0])] at hE
 rw [h0] at c0
 by_cases h1 : 64 < l.length
 · have t2 : decide (((l.map U4).length : Int) > 64) = true := B0 (by rw [A7]; omega)
   rw [C5 h1] at hE
   cases hE
   refine B3 Tryz.func14 V Tryz.ntmps14 Tryz.results14 (by simp) fun B w0 => ?_
   refine D8 (H4 V (B5 V (I0 V (yC (c0) V V (H3 V (F6 V (B2 (I0 V (yN V (H3 V (B1 ?_))))))))))); rw [t2]
   refine G5 V (D8 (H4 V (B5 V (C4 (A4 ?_)))))
   exact C9 _ (.tmp V (.tmp V .nil)) V
 have t2 : decide (((l.map U4).length : Int) > 64) = false := A9 (by rw [A7]; omega)
 rw [B9 h1] at hE
 refine B3 Tryz.func14 V Tryz.ntmps14 Tryz.results14 (by simp) fun B w0 => ?_
 refine D8 (H4 V (B5 V (I0 V (yC (c0) V V (H3 V (F6 V (B2 (I0 V (yN V (H3 V (B1 ?_))))))))))); rw [t2]
 refine F6 V (B2 (I0 V (yN V (C3 V (yQ (B6 ?_))))))
 clear c0 h0 hc hcb
 refine H2 (fun k : Nat => ⟨68, [(0, .d (O7 l)), (1, .d (.sl 2 (ch.map O8))), (20, .d (O7 l)), (21, .d (dI l.length)), (22, .d (dI k))], [], []⟩) (fun k => k ≤ l.length ∧ Iw (P1 J5) BT nf ch k (l.take k) (l.drop k) = (E1, E2)) (fun k => l.length - k) 0 ⟨D9 _, hE.symm⟩
  ⟨rfl, ⟨E0, E0, E0, .of_eq (C7 (fun n : Nat => SV.d (dI n)) (by simp)), E0, D4⟩, D4, D4, rfl⟩ ?_
 rintro k ⟨hk, hI⟩
 clear hE
 rcases D2 k l.length with h | h
 rotate_left
 · have u1 : decide ((k : Int) < (l.length : Int)) = false := A9 (by omega)
   rw [I8 h] at hI
   cases hI
   refine D8 (H3 V (A8 (L9 u1 V (G1 (D8 (H4 V (B5 V (C4 ?_))))))))
   exact C9 _ (.tmp V (.tmp V .nil)) V
 have u1 : decide ((k : Int) < (l.length : Int)) = true := B0 (by omega)
 obtain ⟨r, hr⟩ := Bq h
 have hbr := hb _ (B7 hr)
 rw [Dg hr] at hI
 have ex := ix U4 l k k r rfl hr
 have hw := I5 ((k : Int) + 1) (by omega)
 have c1 := Fc r hbr
 have c2 := Oi (l.take k) r.1 (by rw [E4]; omega)
 have htk : (l.map U4).take (k : Int).toNat = (l.take k).map U4 := by rw [H5, List.map_take]
 have arith : l.length - (k + 1) < l.length - k := by omega
 rw [Ju] at c2
 by_cases e1 : U2 r = 0
 rotate_left
 · have t3 : (U2 r != 0) = true := by simp [e1]
   rw [C5 e1] at hI
   cases hI
   obtain ⟨x, hx⟩ := H7 (U2 r)
   rw [← hx] at c1 t3 ⊢
   obtain ⟨n, ls⟩ := r
   refine D8 (H3 V (A8 (J8 u1 V (B2 (A8 (B6 (H8 V (yW ex (by omega) rfl rfl (R7 (ys := [_, _]) rfl rfl rfl (yZ (cs := [_, _]) rfl rfl (H4 rfl (yS (cs' := [_, _]) rfl rfl rfl rfl rfl (yQ (A8 (D8 (BU (ys := [_, _]) rfl rfl rfl rfl (yC (c1) rfl rfl (B5 rfl (H8 rfl (H3 rfl (B1 (J8 t3 rfl (H8 rfl (C3 rfl (H4 rfl (B5 rfl (C4 (A4 (B8 (A4 (A4 (B8 (A4 ?_)))))))))))))))))))))))))))))))))
   exact C9 _ (.tmp V (.tmp V .nil)) V
 have hwf := (Ct (tp := P1 J5) (ce := BT)).1 e1
 rw [B9 (by simp [e1])] at hI
 rw [e1] at c1
 obtain ⟨P, hP⟩ := H7 (l.take k)
 rw [← hP] at c2 htk
 obtain ⟨o, ho⟩ := H7 (orR (LP P r.1))
 rw [← ho] at c2
 obtain ⟨o0, o1⟩ := o
 have hPl : (P.map U4).length = k := by rw [hP, A7, E4]; omega
 rw [← hP] at hI
 clear hP ho hb
 cases e2 : (P.any fun x => x.1 == r.1) with
 | true =>
  rw [e2] at c2 hI
  rw [C5 rfl] at hI
  cases hI
  obtain ⟨n, ls⟩ := r
  refine D8 (H3 V (A8 (J8 u1 V (B2 (A8 (B6 (H8 V (yW ex (by omega) rfl rfl (R7 (ys := [_, _]) rfl rfl rfl (yZ (cs := [_, _]) rfl rfl (H4 rfl (yS (cs' := [_, _]) rfl rfl rfl rfl rfl (yQ (A8 (D8 (BU (ys := [_, _]) rfl rfl rfl rfl (yC (c1) rfl rfl (B5 rfl (H8 rfl (H3 rfl (F6 rfl (B2 (A8 (A8 ?_)))))))))))))))))))))))); refine I7 Tryz.mixed (by kernel_rfl) ?_; refine C3 V (C3 V ?_); refine OR (by omega) (by rw [A7]; omega) rfl rfl ?_; refine J6 V ?_; rw [htk]; refine yC (c2) V V (O5 V (yX V V (yX V V (yZ (cs := [_, _]) V V (yS (cs' := [_, _]) V V V V V (B5 V (H8 V (yQ (G5 V (H8 V (H4 V (B5 V (C4 (A4 (B8 (A4 (A4 (B8 (A4 ?_)))))))))))))))))))
  exact C9 _ (.tmp V (.tmp V .nil)) V
 | false =>
 rw [e2] at c2 hI
 rw [B9 (by simp)] at hI
 obtain ⟨n, ls⟩ := r
 obtain ⟨⟨kk, hkk⟩, hll, hlw⟩ := hwf
 simp only at hkk hll hlw hI
 rw [hkk] at hI
 simp only at hI
 obtain ⟨hg, hh⟩ := Fy n
 have hkeq : kk = (n, Ek n, V8 n, Et n) := by
  have h3 := (T9 hkk).2
  rw [Ek, V8, Et, hkk]
  obtain ⟨q0, q1, q2, q3⟩ := kk
  simp only at h3
  subst h3
  rfl
 have hnl : (V8 n).length ≤ 1000000 := by
  have h2 : ∀ k ∈ kndL, k.2.2.1.length ≤ 1000000 := by
   have : ∀ k ∈ kndL, k.2.2.1.length ≤ 4 := by decide
   exact fun k hk => E8 (this k hk) (by omega)
  have := h2 kk (T9 hkk).1
  rw [hkeq] at this
  exact this
 rw [hkeq] at hI
 have k2 := fun x => Fd n (Ek n) (V8 n) (Et n) ch x hnl
 obtain ⟨M, hM⟩ := H7 (BH)
 rw [← hM] at k0 hg
 obtain ⟨kw, hkw⟩ := H7 (Ek n)
 obtain ⟨kg, hkg⟩ := H7 (Et n)
 obtain ⟨kn, hkn⟩ := H7 (V8 n)
 rw [← hkw, ← hkg, ← hkn] at hg hI k2
 clear hM hkw hkg hkn hkeq hnl hkk hh e2 e1
 have k3 := Dd (n, ls) hll fun x hx => ⟨(S8.1 (hlw x hx).2).1, fun c hc => ((hbr.2 x hx).2.2 c hc).2⟩
 simp only at k3
 refine D8 (H3 V (A8 (J8 u1 V (B2 (A8 (B6 (H8 V (yW ex (by omega) rfl rfl (R7 (ys := [_, _]) rfl rfl rfl (yZ (cs := [_, _]) rfl rfl (H4 rfl (yS (cs' := [_, _]) rfl rfl rfl rfl rfl (yQ (A8 (D8 (BU (ys := [_, _]) rfl rfl rfl rfl (yC (c1) rfl rfl (B5 rfl (H8 rfl (H3 rfl (F6 rfl (B2 (A8 (A8 ?_)))))))))))))))))))))))); refine I7 Tryz.mixed (by kernel_rfl) ?_; refine C3 V (C3 V ?_); refine OR (by omega) (by rw [A7]; omega) rfl rfl ?_; refine J6 V ?_; rw [htk]; refine yC (c2) V V (O5 V (yX V V (yX V V (yZ (cs := [_, _]) V V (yS (cs' := [_, _]) V V V V V (B5 V (H8 V (yQ (F6 V (B2 (A8 (D8 (J6 V (yN V (C3 V (yQ (B6 ?_))))))))))))))))); refine H2 (fun j : Nat => ⟨68, [(0, .d (O7 l)), (1, .d (.sl 2 (ch.map O8))), (20, .d (O7 l)), (21, .d (dI l.length)), (22, .d (dI k)), (6, .d (dI k)), (7, .bx 7 0), (45, .d (.sl 3 (ls.map V4))), (46, .d (dI ls.length)), (47, .d (dI j))], [(7, [.d (dI n), .d (.sl 3 (ls.map V4))])], []⟩) (fun j => j ≤ ls.length ∧ Bg nf (n, kw, kn, kg) ch (ls.drop j) = Bg nf (n, kw, kn, kg) ch ls) (fun j => ls.length - j) 0 ⟨D9 _, V⟩
  ⟨rfl, ⟨E0, E0, E0, E0, E0, E0, E0, E0, .of_eq (C7 (fun n : Nat => SV.d (dI n)) (by simp)), E0, D4⟩, ⟨⟨_, rfl, F7 _⟩, D4⟩, D4, rfl⟩ ?_
 rintro j ⟨hj, hJ⟩
 rcases D2 j ls.length with h2 | h2
 · have u2 : decide ((j : Int) < (ls.length : Int)) = true := B0 (by omega)
   obtain ⟨x, hx⟩ := Bq h2
   have em := ix V4 ls j j x rfl hx
   have hw2 := I5 ((j : Int) + 1) (by omega)
   have hxm := B7 hx
   have k4 := k2 x (hbr.2 x hxm) (hlw x hxm).2
   have arith2 : ls.length - (j + 1) < ls.length - j := by omega
   rw [EN hx] at hJ
   obtain ⟨y, hy⟩ := H7 (ON nf (n, kw, kn, kg) ch x)
   rw [← hy] at k4 hJ
   obtain ⟨x0, x1, x2⟩ := x
   clear k2 k3 hy hxm hbr hll hlw
   by_cases hy0 : y = 0
   · have t4 : (y != 0) = false := by simp [hy0]
     rw [C5 hy0] at hJ
     refine D8 (H3 V (A8 (J8 u2 V (B2 (A8 (B6 (D8 (yW em (by omega) rfl rfl (R7 (ys := [_, _, _]) rfl rfl rfl (yZ (cs := [_, _, _]) rfl rfl (yS (cs' := [_, _, _]) rfl rfl rfl rfl rfl (yQ (A8 ?_))))))))))))); refine I7 Tryz.mixed (by kernel_rfl) ?_; refine yC (k0) V V (J6 V (yKeI V V hg (BU (ys := [_, _, _]) V V V V (C3 V (yC (k4) V V (B5 V (H8 V (H3 V (B1 (L9 t4 V (B2 (B4 (G3 V (C3 V (yQ (B1 ?_))))))))))))))))
     exact ⟨j + 1, ⟨h2, hJ⟩, arith2, V, ⟨E0, E0, E0, E0, E0, E0, E0, E0, E0, .of_eq (C7 (fun n => SV.d (dI n)) hw2), D4⟩, ⟨⟨_, V, F7 _⟩, D4⟩, D4, V⟩
   · have t4 : (y != 0) = true := by simp [hy0]
     rw [B9 hy0] at hJ
     rw [← hJ, C5 hy0] at hI
     cases hI
     refine D8 (H3 V (A8 (J8 u2 V (B2 (A8 (B6 (D8 (yW em (by omega) rfl rfl (R7 (ys := [_, _, _]) rfl rfl rfl (yZ (cs := [_, _, _]) rfl rfl (yS (cs' := [_, _, _]) rfl rfl rfl rfl rfl (yQ (A8 ?_))))))))))))); refine I7 Tryz.mixed (by kernel_rfl) ?_; refine yC (k0) V V (J6 V (yKeI V V hg (BU (ys := [_, _, _]) V V V V (C3 V (yC (k4) V V (B5 V (H8 V (H3 V (B1 (J8 t4 V (H8 V (C3 V (H4 V (B5 V (C4 (B8 (A4 (A4 (B8 (A4 (B8 (A4 (A4 (B8 (A4 ?_)))))))))))))))))))))))))
     exact C9 _ (.tmp V (.tmp V .nil)) V
 · have u2 : decide ((j : Int) < (ls.length : Int)) = false := A9 (by omega)
   have hz : Bg nf (n, kw, kn, kg) ch ls = 0 := by rw [← hJ, I8 h2]; rfl
   rw [hz, B9 (by simp)] at hI
   clear k2 hbr hll hlw hJ hz
   cases hbal : Ag ls with
   | true =>
    rw [hbal] at k3 hI
    rw [C5 rfl] at hI
    refine D8 (H3 V (A8 (L9 u2 V (G1 (D8 (BU (ys := [_, _]) V V V V (yC (k3) V V (yU V V V (yQ (F6 V (B2 (B4 (G3 V (C3 V (yQ (B1 ?_))))))))))))))))
    exact ⟨k + 1, ⟨h, hI⟩, arith, V, ⟨E0, E0, E0, E0, .of_eq (C7 (fun n => SV.d (dI n)) hw), D4⟩, D4, D4, V⟩
   | false =>
    rw [hbal] at k3 hI
    rw [B9 (by simp)] at hI
    cases hI
    refine D8 (H3 V (A8 (L9 u2 V (G1 (D8 (BU (ys := [_, _]) V V V V (yC (k3) V V (yU V V V (yQ (G5 V (H8 V (H4 V (B5 V (C4 (B8 (A4 (A4 (B8 (A4 ?_)))))))))))))))))))
    exact C9 _ (.tmp V (.tmp V .nil)) V
theorem Of (l : List Ac) (hl : l.length ≤ 9223372036854775807) : PCalls Tryz.prog 12 [.sl 2 (l.map O8)] (.d (dB (IX l))) := by
 obtain ⟨R, hR⟩ := H7 (IX l)
 rw [← hR]
 unfold IX at hR
 refine B3 Tryz.func12 V Tryz.ntmps12 Tryz.results12 (by simp) fun B w0 => ?_
 refine D8 (B5 V (A8 (D8 (B5 V (B6 ?_))))); refine H2 (fun i : Nat => ⟨30, [(0, .d (.sl 2 (l.map O8))), (3, .d (dI i))], [], []⟩) (fun i => i ≤ l.length ∧ (l.take i).any (fun a => decide (120 < a.1.length)) = false) (fun i => l.length - i) 0 ⟨D9 _, V⟩
  ⟨rfl, ⟨E0, E0, D4⟩, D4, D4, rfl⟩ ?_
 rintro i ⟨hi, hI⟩
 rcases D2 i l.length with h | h
 rotate_left
 · have u1 : decide ((i : Int) < ((l.map O8).length : Int)) = false := A9 (by rw [A7]; omega)
   rw [E9 h] at hI
   rw [hI, Bool.false_or] at hR
   obtain ⟨n, hn⟩ := H7 (l.length)
   have e1 : decide (((l.map O8).length : Int) > 12) = decide (12 < n) := by rw [A7, hn]; exact decide_eq_decide.2 (by omega)
   have e2 : decide (((l.map O8).length : Int) ≤ 256) = decide (n ≤ 256) := by rw [A7, hn]; exact decide_eq_decide.2 (by omega)
   have e3 : decide (((l.map O8).length : Int) > 259) = decide (259 < n) := by rw [A7, hn]; exact decide_eq_decide.2 (by omega)
   rw [← hn] at hR
   clear hI hn
   rcases D2 12 n with a | a
   · rw [B0 a] at e1 hR
     rcases D2 256 n with b | b
     · rw [A9 (by omega : ¬ n ≤ 256)] at e2 hR
       refine I0 V (C3 V (yN V (H3 V (B1 (L9 u1 V (G1 (H8 V (yN V (G3 V (C3 V ?_)))))))))); rw [e1]; refine C3 V (yN V (G3 V (K8 V V (C3 V ?_)))); rw [e2]; refine C3 V (yN V (G3 V (K7 V V (B5 V (C4 ?_)))))
       exact C9 _ (.tmp V .nil) (C7 (fun b => SV.d (dB b)) (by rw [e3, hR]; rfl))
     · rw [B0 b] at e2 hR
       have hR1 : R = true := by rw [hR]; rfl
       subst hR1
       refine I0 V (C3 V (yN V (H3 V (B1 (L9 u1 V (G1 (H8 V (yN V (G3 V (C3 V ?_)))))))))); rw [e1]; refine C3 V (yN V (G3 V (K8 V V (C3 V ?_)))); rw [e2]; refine yO V (yO V (yO V (K8 V V (B5 V (C4 ?_)))))
       exact C9 _ (.tmp V .nil) V
   · rw [A9 (by omega : ¬ 12 < n)] at e1 hR
     refine I0 V (C3 V (yN V (H3 V (B1 (L9 u1 V (G1 (H8 V (yN V (G3 V (C3 V ?_)))))))))); rw [e1]; refine yO V (yO V (yO V (K7 V V (C3 V (C3 V (yN V (G3 V (K7 V V (B5 V (C4 ?_))))))))))
     exact C9 _ (.tmp V .nil) (C7 (fun b => SV.d (dB b)) (by rw [e3, hR]; rfl))
 have u1 : decide ((i : Int) < ((l.map O8).length : Int)) = true := B0 (by rw [A7]; omega)
 obtain ⟨⟨c, k⟩, hx⟩ : ∃ x, l[i]? = some x := ⟨_, A5 h⟩
 have ex := ix O8 l i i (c, k) rfl hx
 have hw := I5 ((i : Int) + 1) (by omega)
 have arith : l.length - (i + 1) < l.length - i := by omega
 by_cases hg : 120 < c.length
 · have t1 : decide ((c.length : Int) > 120) = true := B0 (by omega)
   have e : l.any (fun a => decide (120 < a.1.length)) = true := List.any_eq_true.2 ⟨_, B7 hx, B0 hg⟩
   rw [e] at hR
   have hR1 : R = true := by rw [hR]; rfl
   subst hR1
   refine I0 V (C3 V (yN V (H3 V (B1 (J8 u1 V (B2 (A8 (B6 (H8 V (C3 V (yW ex (by omega) rfl rfl (N8 rfl rfl (K5 rfl rfl (O4 rfl (H3 rfl (B1 (J8 t1 rfl (D8 (B5 rfl (C4 (B8 (A4 (A4 (B8 (A4 ?_)))))))))))))))))))))))))
   exact C9 _ (.tmp V .nil) V
 · have t1 : decide ((c.length : Int) > 120) = false := A9 (by omega)
   have hnx : (l.take (i + 1)).any (fun a => decide (120 < a.1.length)) = false := by
    rw [G8, hx, List.any_append, hI]
    simp [hg]
   refine I0 V (C3 V (yN V (H3 V (B1 (J8 u1 V (B2 (A8 (B6 (H8 V (C3 V (yW ex (by omega) rfl rfl (N8 rfl rfl (K5 rfl rfl (O4 rfl (H3 rfl (B1 (L9 t1 rfl (B2 (B4 (C3 rfl (G3 rfl (B5 rfl (B1 ?_)))))))))))))))))))))))
   exact ⟨i + 1, ⟨h, hnx⟩, arith, V, ⟨E0, .of_eq (C7 (fun n => SV.d (dI n)) hw), D4⟩, D4, D4, V⟩
namespace Px
section
variable {P : Program} {sq : Bool} {ops : Array Oper} {K : PS → Prop} {rest : List Oper} {st : PS} {d : Option Nat} {ty : TypeId} {pos : String} {af : Array Edge} {gd : Option (Nat × Bool)}
end
end Px
open Go.RowKit Px
end Go.Proofs.YtddfimjiihggmaaGreatDoor
namespace Go.Proofs
open Go.Shelf
end Go.Proofs
namespace Go.Proofs.YtddfimjiihggmaaGreatDoor
open Go.RowKit Px Go.Sort Go.Lib
end Go.Proofs.YtddfimjiihggmaaGreatDoor