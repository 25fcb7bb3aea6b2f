/- Arguments of the law on rules that can be used: charts with their bounds. -/
import Derived.Test.YtddfimjiihggmaaGreatDoorB11
import Derived.Shelf.SlicesE.Compact
import Derived.Shelf.SlSortCmp.NoneTotal
set_option maxHeartbeats 16000000
set_option maxRecDepth 20000
namespace Go.Proofs.YtddfimjiihggmaaGreatDoor
open Go.RowKit Px
theorem acs_bd (x : Dat shA) (h : Dat.ok shA x) : ∃ l : List Ac, Dat.dv shA x = .sl 2 (l.map dAc) ∧ l.length ≤ 9223372036854775807 ∧ ∀ a ∈ l, a.1.length ≤ 9223372036854775807 := by
 have h1 : x.length ≤ maxLen ∧ ∀ y ∈ x, Dat.ok (.pr .s (.pr (.i .i64) .un)) y := h
 refine ⟨x.map fun h => (h.1, h.2.1), ?_, ?_, fun a ha => ?_⟩
 · rw [List.map_map]
   rfl
 · rw [List.length_map]
   exact h1.1
 · obtain ⟨y, hy, rfl⟩ := List.mem_map.1 ha
   exact (h1.2 y hy).1
theorem wCutIB (s : Str) (c : UInt8) (hl : s.length ≤ 9223372036854775807) : PCalls Tryz.prog 125 [dS s, dS [c]] (.tup [dS (ctT c s), dS (ctR c s), dB (ctB c s)]) := by
 have k1 := wIdx1 s c
 rw [cutB_index] at k1
 unfold ctT ctR ctB
 cases h : cutB c s with
 | none =>
  rw [h] at k1
  refine pcalls_of_pw Tryz.func125 rfl Tryz.ntmps125 Tryz.results125 (by simp) fun B w0 => ?_
  refine pzr (yAd rfl (yAd rfl (yAd rfl (yQ (pw_seq (pzr (yMd rfl (yMd rfl (yC (k1) rfl rfl ?_))))))))); refine yAd rfl (yQ (pzr (yMd rfl (yB rfl rfl rfl rfl (yQ (pw_cf rfl (pw_skip (pzr (yMd rfl ?_))))))))); refine yAd rfl (yAd rfl (yAd rfl (yQ (pw_ret ?_))))
  exact q_ret _ (.tmp rfl (.tmp rfl (.tmp rfl .nil))) rfl
 | some p =>
  rw [h] at k1
  obtain ⟨t, r⟩ := p
  have he := cutB_eq h
  simp only at k1 he ⊢
  have hle : t.length + 1 ≤ s.length := by rw [he, List.length_append, List.length_cons]; omega
  have hw : IntKind.i64.wrap ((t.length : Int) + (([c] : Str).length : Int)) = (t.length : Int) + 1 := wrapI ((t.length : Int) + 1) (by omega)
  have h1 : s.take ((t.length : Int)).toNat = t := by rw [Int.toNat_natCast, he]; simp
  have h2 : s.drop (((t.length : Int) + 1)).toNat = r := by
   rw [show ((t.length : Int) + 1).toNat = t.length + 1 by omega, he]
   simp
  have h3 : (t.length : Int) + 1 ≤ s.length := by rw [he]; simp; omega
  have t1 : decide ((t.length : Int) ≥ 0) = true := decide_eq_true (by omega)
  obtain ⟨n, hn⟩ : ∃ n : Int, n = (t.length : Int) := ⟨_, rfl⟩
  rw [← hn] at k1 hw h1 h2 h3 t1
  have hn0 : 0 ≤ n := by omega
  clear he hn h
  refine pcalls_of_pw Tryz.func125 rfl Tryz.ntmps125 Tryz.results125 (by simp) fun B w0 => ?_
  refine pzr (yAd rfl (yAd rfl (yAd rfl (yQ (pw_seq (pzr (yMd rfl (yMd rfl (yC (k1) rfl rfl ?_))))))))); refine yAd rfl (yQ (pzr (yMd rfl (yB rfl rfl rfl rfl (yQ (q_then ?_)))))); rw [t1]; refine pw_ct rfl (pw_seq ?_); refine pw_draw Tryz.mixed (by kernel_rfl) ?_; refine yMd rfl (yMd rfl (yS0h hn0 (by omega) h1 rfl rfl (yMd rfl (yMd rfl (yMd rfl (yNs rfl (yB rfl rfl rfl rfl ?_)))))))
  rw [hw]; refine ySl0 (by omega) h3 h2 rfl rfl ?_; refine yAd rfl ?_; refine yAd rfl ?_; refine yAd rfl ?_; refine yQ ?_; refine pw_ret ?_; refine q_then_ret ?_
  exact q_ret _ (.tmp rfl (.tmp rfl (.tmp rfl .nil))) rfl
theorem wCut1B (s : Str) (c : UInt8) (hl : s.length ≤ 9223372036854775807) : PCalls Tryz.prog 79 [dS s, dS [c]] (.tup [dS (ctT c s), dS (ctR c s), dB (ctB c s)]) := by
 have k1 := wCutIB s c hl
 refine pcalls_of_pw Tryz.func79 rfl Tryz.ntmps79 Tryz.results79 (by simp) fun B w0 => ?_
 refine pzr (yAd rfl (yAd rfl (yAd rfl (yQ (pzr (yMd rfl (yMd rfl (yC (k1) rfl rfl (yX rfl rfl ?_))))))))); refine yX rfl rfl (yX rfl rfl (yAd rfl (yAd rfl (yAd rfl (yQ (pw_ret ?_))))))
 exact q_ret _ (.tmp rfl (.tmp rfl (.tmp rfl .nil))) rfl
open Go.RowKit Go.Shelf Px
attribute [local go_sem] Oper.semAt_some
theorem seg1_specB (s : Str) (hs : s.length ≤ 9223372036854775807) (F : Nat → Nat → Prop) (w : World) (b : Nat) (hF : ∀ o, ¬ F b o) (hw : CellS w b s) : ItSpecB Tryz.prog 210 #[.pointer (some ⟨b, 0, none⟩)] ((spl 46 s).map fun t => [vS t]) b F w := by
 intro l J Jx hJ hJx hY hgo h0
 refine callsIn_of_wp Tryz.func210 rfl trivial ?_ rfl
 simp only [Tryz.ntmps210, List.size_toArray, List.length_cons, List.length_nil, Nat.reduceAdd, Nat.reduceSub, Array.replicate_succ, Array.replicate_zero, List.push_toArray, List.append_toArray, List.nil_append, List.cons_append]
 have HJ := Lib.hid hJ
 have HJX := Lib.hid hJx
 have HY := Lib.hid hY
 have HG := Lib.hid hgo
 have HF := Lib.hid hF
 have C2 : Hid (∀ t, t.length ≤ 9223372036854775807 → ∀ W, GlobOk F W → Calls Tryz.prog 79 #[vS t, vS [46]] W fun e W' => e = .returned (.tuple #[vS (ctT 46 t), vS (ctR 46 t), .bool (ctB 46 t)]) ∧ Below W.heap.size W W') :=
  Lib.hid fun t ht W hg => pc_plain2 (vs := [vS t, vS [46]]) (us := [vS (ctT 46 t), vS (ctR 46 t), .bool (ctB 46 t)]) (wCut1B t 46 ht) (fun v hv => by simp at hv; rcases hv with rfl | rfl <;> rfl) hg
 clear hJ hJx hY hgo hF
 gi_wp2
 gi_loopw [3] (fun v3 wr => ∃ (i : Nat) (s' : Str), CellS wr b s' ∧ J i wr ∧ Hid (((spl 46 s).map fun t => [vS t]).drop i = (spl 46 s').map (fun t => [vS t]) ∧ s'.length ≤ 9223372036854775807 ∧ GlobOk F wr))
  (fun _ wr => cellLen wr b)
 case atStart => exact ⟨0, s, hw, h0, Lib.hid ⟨rfl, hs, HG.out⟩⟩
 case round =>
  obtain ⟨i, s', hc, hJi, HR⟩ := hrel
  have HC := Lib.hid hc
  have c1 := hc.cell
  have K2 := Lib.hid (C2.out s' HR.out.2.1 wr HR.out.2.2)
  have HX : Hid (((spl 46 s).map fun t => [vS t])[i]? = some [vS (ctT 46 s')] ∧ ((spl 46 s).map fun t => [vS t]).drop (i + 1) = if ctB 46 s' then (spl 46 (ctR 46 s')).map (fun t => [vS t]) else []) := by
   have hcons := HR.out.1
   rw [spl_cut 46 s'] at hcons
   unfold ctT ctR ctB
   refine Lib.hid ?_
   cases e : cutB 46 s' with
   | none =>
    rw [e] at hcons
    have h1 := congrArg (fun l => l[0]?) hcons
    have h2 := congrArg (List.drop 1) hcons
    exact ⟨by simpa using h1, by simpa using h2⟩
   | some p =>
    rw [e] at hcons
    have h1 := congrArg (fun l => l[0]?) hcons
    have h2 := congrArg (List.drop 1) hcons
    exact ⟨by simpa using h1, by simpa using h2⟩
  clear hc
  gi_wp2_with (refine ⟨trivial, rfl, ?_⟩; gi_at_call 79; refine (callsIn_wide.2 K2.out).mono ?_; rintro e w' ⟨rfl, hb2⟩; obtain ⟨fn, tmps, assign, body, hy, hR⟩ := HY.out i _ w' HX.out.1 (HJ.out i _ _ hJi (HC.out.below hb2)); have HR2 := Lib.hid hR; have HC2 := Lib.hid (HC.out.same (hb2.block b HC.out.lt)); have HG2 := Lib.hid (glob_grow2 HR.out.2.2 hb2); clear hR hb2)
  refine ⟨rfl, ?_⟩
  refine HR2.out.mono ?_
  rintro e W3 (⟨rfl, hJ3, -, hg3, hb3⟩ | ⟨rfl, hJx3, hb3⟩)
  · have HG3 := Lib.hid hg3
    have HC3 := Lib.hid (HC2.out.same hb3)
    clear hg3 hb3
    cases hb : ctB 46 s' with
    | false =>
     have HL : Hid (i + 1 = ((spl 46 s).map fun t => [vS t]).length) := Lib.hid (by
      have h1 := HX.out.2
      rw [hb, if_neg (by simp), List.drop_eq_nil_iff] at h1
      have h2 := (List.getElem?_eq_some_iff.1 HX.out.1).1
      omega)
     gi_wp2
     refine bodyPost_ret (results_none rfl _ _ _) rfl ?_
     exact ⟨⟨_, rfl⟩, .inl (by rw [← HL.out]; exact hJ3)⟩
    | true =>
     have c3 := HC3.out.cell
     have f3 := HC3.out.frz
     gi_wp2
     obtain ⟨s1, s2⟩ := HC3.out.set (ctR 46 s')
     have HG4 := Lib.hid (glob_turn HG3.out HF.out s2.2.2.2.2.1)
     have J4 := HJ.out _ _ _ hJ3 s2
     go_roundw
     case rel => exact ⟨i + 1, ctR 46 s', s1, J4, Lib.hid ⟨by have := HX.out.2; rwa [hb, if_pos rfl] at this, by have := (ct_len 46 s').2.1; have := HR.out.2.1; omega, HG4.out⟩⟩
     case measure => rw [s1.len, HC.out.len]; exact (ct_len 46 s').2.2 hb
  · clear hb3
    gi_wp2
    refine bodyPost_ret (results_none rfl _ _ _) rfl ?_
    exact ⟨⟨_, rfl⟩, .inr hJx3⟩
theorem seg_specB (s : Str) (hs : s.length ≤ 9223372036854775807) {ys : List Value} {T b : Nat} (hy : ys[0]? = some (vS s)) : ∀ (F : Nat → Nat → Prop) (w : World), (∀ o, ¬ F b o) → w.heap[b]? = some (.cells ys.toArray T (0, 0)) → ItSpecB Tryz.prog 210 #[.pointer (some ⟨b, 0, none⟩)] (vsg s) b F w :=
 fun F w hF hw => seg1_specB s hs F w b hF ⟨ys, T, hw, hy⟩
theorem wFormedB (cn : Str → Bool) (s : Str) (hs : s.length ≤ 9223372036854775807) : PCalls Tryz.prog 119 [dS s, dF Tryz.prog (phT cn)] (.d (dB (fmdB cn s))) := by
 obtain ⟨r, hr⟩ : ∃ r, r = fmdB cn s := ⟨_, rfl⟩
 rw [← hr]
 unfold fmdB at hr
 refine pcalls_of_pe Tryz.func119 rfl Tryz.ntmps119 Tryz.results119 (by simp) fun p d0 hex => ?_
 refine px_seq (px_rs (pe1 (yK (cs := [_]) rfl rfl (yQ (pe1 (yZ (cs := [_]) rfl rfl (yQ (pl_nil (px_seq ?_))))))))); refine px_rs (pe1 (yZ (cs := [_]) rfl rfl (yQ (pe1 (ySd (cs' := [_]) rfl rfl rfl rfl (yQ (pl_nil (px_seq (px_seq ?_))))))))); refine px_rs (pe1 (yMd rfl (yQ ?_))); refine pl_ec (hSegm s _) MSeg.ok rfl ?_
 rintro r0 j ⟨b, xs, T, hx, hn, rfl, rfl⟩
 refine pe_tell (hv_tell 8 (vs := [.pointer (some ⟨b, 0, none⟩)]) rfl) ?_; refine px_block ?_; refine px_le (HE.stb _) (st' := ⟨20, fmS b, fmB cn 0, []⟩) ⟨rfl, ⟨.refl _, .refl _, .refl _, .refl _, trivial⟩, ⟨⟨_, rfl, lesC_refl _⟩, ⟨_, rfl, lesC_refl _⟩, ⟨_, rfl, lesC_refl _⟩, trivial⟩, trivial, rfl⟩ ?_; refine px_rfe (ys := xs) (T0 := T) (b := b) (vsg s) [(6, 9)] (fun k => k ≤ 6 ∧ ∀ t ∈ (spl 46 s).take k, cn t = true) (fun k => fmB cn k) (fun _ => []) ⟨by omega, fun t ht => by simp at ht⟩ rfl (aget_hd b (xs, T) []) (seg_specB s hs hx) (fun x hx => by obtain ⟨t, -, rfl⟩ := List.mem_map.1 hx; rfl) rfl rfl (by decide) ?_ ?_
 · rintro k x hx ⟨hk, hI⟩
   obtain ⟨t, ht, rfl⟩ := vsg_at hx
   refine ⟨[.any, .any, .any, .bx 3 0, .bx 4 0, .bx 5 0, .d (dS t)], of_decide_eq_true rfl, .any (.any (.any (.keep rfl (.refl _) (.keep rfl (.refl _) (.keep rfl (.refl _) (.new rfl rfl .nil)))))), rfl, rfl, by kernel_rfl, fun B w0 => ?_⟩
   have hw : IntKind.i64.wrap ((k : Int) + 1) = ((k + 1 : Nat) : Int) := wrapI ((k : Int) + 1) (by omega)
   have hlt := (List.getElem?_eq_some_iff.1 ht).1
   have htk : (spl 46 s).take (k + 1) = (spl 46 s).take k ++ [t] := by rw [List.take_add_one, ht]; rfl
   by_cases h6 : k = 6
   · have t1 : decide (((k + 1 : Nat) : Int) > 6) = true := decide_eq_true (by omega)
     have hr0 : r = false := by rw [hr, decide_eq_false (by omega)]; rfl
     subst hr0
     refine pw_block (pzr (yLd rfl rfl rfl (yB rfl rfl rfl rfl (ySd (cs' := [_]) rfl rfl rfl rfl (yQ (pzr (yLd rfl rfl rfl (yB rfl rfl rfl rfl (yMd rfl ?_))))))))); rw [hw]; rw [t1]; refine yO rfl (yO rfl (yO rfl (yO rfl (yPd rfl rfl (yQ (pw_ct rfl (pzr (ySd (cs' := [_]) rfl rfl rfl rfl (yQ ?_))))))))); refine pw_ret (q_blk_ret ?_)
     exact ⟨[(3, [.d (dF Tryz.prog (phT cn))]), (4, [.d (dB false)]), (5, [.d (dI ((k + 1 : Nat) : Int))])], [], ⟨rfl, rfl, rfl, trivial⟩, trivial, rfl, rfl, by kernel_rfl, qe_blk_ret (qe_then_ret (qe_ret _ (.one inferInstance rfl rfl rfl .nil) rfl))⟩
   · have t1 : decide (((k + 1 : Nat) : Int) > 6) = false := decide_eq_false (by omega)
     have hph : phT cn [dS t] (.d (dB (cn t))) := ⟨t, rfl, rfl⟩
     cases hc : cn t with
     | false =>
      have hr0 : r = false := by
       rw [hr]
       have : (spl 46 s).all cn = false := List.all_eq_false.2 ⟨t, List.mem_of_getElem? ht, by simp [hc]⟩
       rw [this, Bool.and_false]
      subst hr0
      rw [hc] at hph
      refine pw_block (pzr (yLd rfl rfl rfl (yB rfl rfl rfl rfl (ySd (cs' := [_]) rfl rfl rfl rfl (yQ (pzr (yLd rfl rfl rfl (yB rfl rfl rfl rfl (yMd rfl ?_))))))))); rw [hw]; rw [t1]; refine yLd rfl rfl rfl (yMd rfl (yCv hph rfl rfl rfl (yU rfl rfl rfl (yVd rfl rfl (yQ (pw_ct rfl (pzr (ySd (cs' := [_]) rfl rfl rfl rfl (yQ ?_))))))))); refine pw_ret (q_blk_ret ?_)
      exact ⟨[(3, [.d (dF Tryz.prog (phT cn))]), (4, [.d (dB false)]), (5, [.d (dI ((k + 1 : Nat) : Int))])], [], ⟨rfl, rfl, rfl, trivial⟩, trivial, rfl, rfl, by kernel_rfl, qe_blk_ret (qe_then_ret (qe_ret _ (.one inferInstance rfl rfl rfl .nil) rfl))⟩
     | true =>
      rw [hc] at hph
      have hI2 : ∀ u ∈ (spl 46 s).take (k + 1), cn u = true := fun u hu => by
       rw [htk] at hu
       rcases List.mem_append.1 hu with h | h
       · exact hI u h
       · rw [List.mem_singleton.1 h]; exact hc
      have hk2 : k + 1 ≤ 6 := by omega
      refine pw_block (pzr (yLd rfl rfl rfl (yB rfl rfl rfl rfl (ySd (cs' := [_]) rfl rfl rfl rfl (yQ (pzr (yLd rfl rfl rfl (yB rfl rfl rfl rfl (yMd rfl ?_))))))))); rw [hw]; rw [t1]; refine yLd rfl rfl rfl (yMd rfl (yCv hph rfl rfl rfl (yU rfl rfl rfl (yVd rfl rfl (yQ (pw_cf rfl (pw_skip (q_blk ?_))))))))
      exact ⟨⟨hk2, hI2⟩, ⟨rfl, rfl, rfl, trivial⟩, trivial⟩
 · rintro ⟨hk, hI⟩
   rw [List.length_map] at hk hI
   rw [List.take_length] at hI
   have hr0 : r = true := by rw [hr, decide_eq_true hk, List.all_eq_true.2 hI]; rfl
   subst hr0
   show QBlockX 0 _ .normal ⟨20, _, [(3, _), (4, _), (5, _)], []⟩ _
   refine px_seq (px_rs (pe1 (ySd (cs' := [_]) rfl rfl rfl rfl (yQ (pl_nil (px_ret ?_))))))
   exact qe_ret _ (.one inferInstance rfl rfl rfl .nil) rfl
theorem wAcCheckB (s : Str) (hs : s.length ≤ 9223372036854775807) : PCalls Tryz.prog 70 [dS s] (.d (dI (acE s))) := by
 have c1 := wFormedB nameB s hs
 unfold acE
 cases h : fmdB nameB s with
 | true =>
  rw [h] at c1
  refine pcalls_of_pw Tryz.func70 rfl Tryz.ntmps70 Tryz.results70 (by simp) fun B w0 => ?_
  refine pzr (yAd rfl (yQ (pw_seq (pzr (yMd rfl ?_))))); refine yCf c1 (.d rfl (.fn inferInstance rfl rfl hPhName .nil)) rfl ?_; refine yU rfl rfl rfl (yQ (pw_cf rfl (pw_skip (pzr (yAd rfl (yQ (pw_ret ?_)))))))
  exact q_ret _ (.tmp rfl .nil) rfl
 | false =>
  rw [h] at c1
  refine pcalls_of_pw Tryz.func70 rfl Tryz.ntmps70 Tryz.results70 (by simp) fun B w0 => ?_
  refine pzr (yAd rfl (yQ (pw_seq (pzr (yMd rfl ?_))))); refine yCf c1 (.d rfl (.fn inferInstance rfl rfl hPhName .nil)) rfl ?_; refine yU rfl rfl rfl (yQ (pw_ct rfl (pzr (yAd rfl (yQ (pw_ret (q_then_ret ?_)))))))
  exact q_ret _ (.tmp rfl .nil) rfl
theorem wCheckAllB (l : List Ac) (hl : l.length ≤ 1000000) (hb : ∀ a ∈ l, a.1.length ≤ 9223372036854775807) : PCalls Tryz.prog 33 [.sl 2 (l.map dAc)] (.d (dI (ctE l))) := by
 obtain ⟨E, hE⟩ : ∃ E, E = ctE l := ⟨_, rfl⟩
 rw [← hE]
 unfold ctE at hE
 by_cases h0 : 256 < l.length
 · have t1 : decide (((l.map dAc).length : Int) > 256) = true := decide_eq_true (by rw [List.length_map]; omega)
   rw [if_pos h0] at hE
   subst hE
   refine pcalls_of_pw Tryz.func33 rfl Tryz.ntmps33 Tryz.results33 (by simp) fun B w0 => ?_
   refine pzr (yAd rfl (yQ (pw_seq (pzr (yMd rfl (yN rfl (yB rfl rfl rfl rfl (yQ (q_then ?_)))))))))
   rw [t1]; refine pw_ct rfl ?_; refine pw_seq ?_; refine pw_region ?_; refine yAd rfl ?_; refine yQ ?_; refine pw_ret ?_; refine q_then_ret ?_
   exact q_ret _ (.tmp rfl .nil) rfl
 have t1 : decide (((l.map dAc).length : Int) > 256) = false := decide_eq_false (by rw [List.length_map]; omega)
 rw [if_neg h0] at hE
 refine pcalls_of_pw Tryz.func33 rfl Tryz.ntmps33 Tryz.results33 (by simp) fun B w0 => ?_
 refine pzr (yAd rfl (yQ (pw_seq (pzr (yMd rfl (yN rfl (yB rfl rfl rfl rfl (yQ (q_then ?_)))))))))
 rw [t1]; refine pw_cf rfl ?_; refine pw_skip ?_; refine pw_seq ?_; refine pw_seq ?_; refine pw_region ?_; refine yMd rfl ?_; refine yN rfl ?_; refine yMd rfl ?_; refine yQ ?_; refine pw_block ?_
 refine pw_loop (fun k : Nat => ⟨67, [(0, .d (.sl 2 (l.map dAc))), (10, .d (.sl 2 (l.map dAc))), (11, .d (dI l.length)), (12, .d (dI k))], [], []⟩) (fun k => k ≤ l.length ∧ chJ l (l.length - k) k = E) (fun k => l.length - k) 0 ⟨Nat.zero_le _, hE.symm⟩
  ⟨rfl, ⟨.refl _, .refl _, .of_eq (congrArg (fun n : Nat => SV.d (dI n)) (by simp)), .refl _, trivial⟩, trivial, trivial, rfl⟩ ?_
 rintro k ⟨hk, hI⟩
 clear hE
 rcases Nat.lt_or_ge k l.length with h | h
 rotate_left
 · have u1 : decide ((k : Int) < (l.length : Int)) = false := decide_eq_false (by omega)
   have : E = 0 := by rw [← hI, Nat.sub_eq_zero_of_le h]; rfl
   subst this
   refine pzr (yB rfl rfl rfl rfl (yQ (pw_seq ?_))); rw [u1]; refine pw_cf rfl (pw_exit (pzr (yAd rfl (yQ (pw_ret ?_)))))
   exact q_ret _ (.tmp rfl .nil) rfl
 have u1 : decide ((k : Int) < (l.length : Int)) = true := decide_eq_true (by omega)
 obtain ⟨⟨a0, a1⟩, ha⟩ : ∃ a, l[k]? = some a := ⟨_, List.getElem?_eq_getElem h⟩
 have ex := ix dAc l k k (a0, a1) rfl ha
 have hw := wrapI ((k : Int) + 1) (by omega)
 have hla := hb _ (List.mem_of_getElem? ha)
 simp only at hla
 have c1 := wAcCheckB a0 hla
 rw [chJ_next ha] at hI
 have arith : l.length - (k + 1) < l.length - k := by omega
 obtain ⟨J, hJ⟩ : ∃ J, J = acJ l k (a0, a1) := ⟨_, rfl⟩
 rw [← hJ] at hI
 unfold acJ at hJ
 simp only at hJ
 by_cases e1 : acE a0 = 0
 rotate_left
 · rw [if_pos e1] at hJ
   rw [hJ, if_neg (by omega)] at hI
   subst hI
   have t2 : (acE a0 != 0) = true := by simp [e1]
   obtain ⟨x, hx⟩ : ∃ x, x = acE a0 := ⟨_, rfl⟩
   rw [← hx] at c1 t2
   refine pzr (yB rfl rfl rfl rfl (yQ (pw_seq ?_))); rw [u1]; refine pw_ct rfl (pw_skip (pw_seq (pw_block (pzr (yMd rfl (yW ex (by omega) rfl rfl (yLs (ys := [_, _]) rfl rfl rfl (yZ (cs := [_, _]) rfl rfl (yAd rfl ?_))))))))); refine yS (cs' := [_, _]) rfl rfl rfl rfl rfl (yQ (pw_seq (pw_block (pzr (yFb rfl (yLd rfl rfl rfl (yC (c1) rfl rfl (yB rfl rfl rfl rfl (yAd rfl ?_))))))))); refine yQ (q_then ?_)
   rw [t2]; refine pw_ct rfl ?_; refine pw_seq ?_; refine pw_region ?_; refine yAd rfl ?_; refine yQ ?_; refine pw_ret ?_; refine q_blk_ret ?_; refine q_then_ret ?_; refine q_blk_ret ?_; refine q_then_ret ?_; refine q_then_ret ?_
   refine q_blk_ret ?_; refine q_then_ret ?_
   exact q_ret _ (.tmp rfl .nil) rfl
 rw [e1] at c1
 rw [if_neg (by simp [e1])] at hJ
 by_cases e2 : a1 < 1 ∨ 5 < a1
 · rw [if_pos e2] at hJ
   rw [hJ, if_neg (by omega)] at hI
   subst hI
   by_cases e3 : a1 < 1
   · have t3 : decide (a1 < 1) = true := decide_eq_true e3
     refine pzr (yB rfl rfl rfl rfl (yQ (pw_seq ?_))); rw [u1]; refine pw_ct rfl (pw_skip (pw_seq (pw_block (pzr (yMd rfl (yW ex (by omega) rfl rfl (yLs (ys := [_, _]) rfl rfl rfl (yZ (cs := [_, _]) rfl rfl (yAd rfl ?_))))))))); refine yS (cs' := [_, _]) rfl rfl rfl rfl rfl (yQ (pw_seq (pw_block (pzr (yFb rfl (yLd rfl rfl rfl (yC (c1) rfl rfl (yB rfl rfl rfl rfl (yAd rfl ?_))))))))); refine yQ (pw_cf rfl (pzr (yFb rfl (yLd rfl rfl rfl (yB rfl rfl rfl rfl (yMd rfl ?_)))))); rw [t3]; refine yO rfl (yO rfl (yO rfl (yPd rfl rfl (yAd rfl (yQ (pw_ct rfl (pzr (yAd rfl (yQ ?_))))))))); refine pw_ret (q_blk_ret (q_then_ret (q_blk_ret (q_then_ret (q_then_ret (q_blk_ret (q_then_ret ?_)))))))
     exact q_ret _ (.tmp rfl .nil) rfl
   · have t3 : decide (a1 < 1) = false := decide_eq_false e3
     have t4 : decide (a1 > 5) = true := decide_eq_true (by omega)
     refine pzr (yB rfl rfl rfl rfl (yQ (pw_seq ?_))); rw [u1]; refine pw_ct rfl (pw_skip (pw_seq (pw_block (pzr (yMd rfl (yW ex (by omega) rfl rfl (yLs (ys := [_, _]) rfl rfl rfl (yZ (cs := [_, _]) rfl rfl (yAd rfl ?_))))))))); refine yS (cs' := [_, _]) rfl rfl rfl rfl rfl (yQ (pw_seq (pw_block (pzr (yFb rfl (yLd rfl rfl rfl (yC (c1) rfl rfl (yB rfl rfl rfl rfl (yAd rfl ?_))))))))); refine yQ (pw_cf rfl (pzr (yFb rfl (yLd rfl rfl rfl (yB rfl rfl rfl rfl (yMd rfl ?_)))))); rw [t3]; refine yFb rfl (yLd rfl rfl rfl (yB rfl rfl rfl rfl (yVd rfl rfl (yAd rfl (yQ (q_then ?_)))))); rw [t4]; refine pw_ct rfl (pzr (yAd rfl (yQ (pw_ret (q_blk_ret (q_then_ret (q_blk_ret (q_then_ret (q_then_ret ?_))))))))); refine q_blk_ret (q_then_ret ?_)
     exact q_ret _ (.tmp rfl .nil) rfl
 have t3 : decide (a1 < 1) = false := decide_eq_false (by omega)
 have t4 : decide (a1 > 5) = false := decide_eq_false (by omega)
 rw [if_neg e2] at hJ
 have inner : ∀ (B : Nat) (w0 : Cx) (Q : Exit → PS → Prop), True := fun _ _ _ => trivial
 clear inner
 rcases Nat.eq_zero_or_pos k with hk0 | hk0
 · subst hk0
   rw [if_neg (by simp), if_neg (by simp)] at hJ
   rw [hJ, if_pos rfl] at hI
   have t5 : decide (((0 : Nat) : Int) > 0) = false := rfl
   refine pzr (yB rfl rfl rfl rfl (yQ (pw_seq ?_))); rw [u1]; refine pw_ct rfl (pw_skip (pw_seq (pw_block (pzr (yMd rfl (yW ex (by omega) rfl rfl (yLs (ys := [_, _]) rfl rfl rfl (yZ (cs := [_, _]) rfl rfl (yAd rfl ?_))))))))); refine yS (cs' := [_, _]) rfl rfl rfl rfl rfl (yQ (pw_seq (pw_block (pzr (yFb rfl (yLd rfl rfl rfl (yC (c1) rfl rfl (yB rfl rfl rfl rfl (yAd rfl ?_))))))))); refine yQ (pw_cf rfl (pzr (yFb rfl (yLd rfl rfl rfl (yB rfl rfl rfl rfl (yMd rfl ?_)))))); rw [t3]; refine yFb rfl (yLd rfl rfl rfl (yB rfl rfl rfl rfl (yVd rfl rfl (yAd rfl (yQ (q_then ?_)))))); rw [t4]; refine pw_cf rfl (pw_seq ?_); refine pw_draw Tryz.mixed (by kernel_rfl) ?_; refine yMd rfl (yB rfl rfl rfl rfl (yMd rfl (yO rfl (yO rfl (yO rfl (yO rfl (yO rfl (yO rfl (yO rfl ?_))))))))); refine yO rfl (yO rfl (yVd rfl rfl (yAd rfl (yQ (pw_cf rfl (pw_skip (pzr (yMd rfl (yMd rfl ?_))))))))); refine yDh (by omega) (by simp) rfl rfl ?_; refine yN rfl (yMd rfl (yQ (pw_block ?_))); rw [t5]
   refine pw_loop (fun m : Nat => ⟨67, [(0, .d (.sl 2 (l.map dAc))), (10, .d (.sl 2 (l.map dAc))), (11, .d (dI l.length)), (12, .d (dI ((0 : Nat) : Int))), (48, .d (dI 0)), (49, .d (dI 0))], [], []⟩) (fun m => m = 0) (fun _ => 0) 0 rfl
    ⟨rfl, ⟨.refl _, .refl _, .refl _, .refl _, .of_eq (congrArg (fun n : Nat => SV.d (dI n)) (by simp)), .refl _, trivial⟩, trivial, trivial, rfl⟩ ?_
   rintro m rfl
   refine pzr (yB rfl rfl rfl rfl (yQ (pw_seq (pw_cf rfl (pw_exit (pw_region (yB rfl rfl rfl rfl (yMd rfl (yQ ?_))))))))); refine q_then ?_
   exact ⟨0 + 1, ⟨h, hI⟩, arith, rfl, ⟨.refl _, .refl _, .refl _, .of_eq (congrArg (fun n => SV.d (dI n)) hw), trivial⟩, trivial, trivial, rfl⟩
 have t5 : decide ((k : Int) > 0) = true := decide_eq_true (by omega)
 obtain ⟨⟨p0, p1⟩, hp⟩ : ∃ a, l[k - 1]? = some a := ⟨_, List.getElem?_eq_getElem (by omega)⟩
 have ep := ix dAc l ((k : Int) - 1) (k - 1) (p0, p1) (by omega) hp
 have hwk := wrapI ((k : Int) - 1) (by omega)
 have hle := le_nlt a0 p0
 rw [hp] at hJ
 simp only [Option.getD_some] at hJ
 cases hlt : lt8 p0 a0 with
 | false =>
  rw [hlt] at hle
  rw [if_pos ⟨by omega, hlt⟩] at hJ
  rw [hJ, if_neg (by omega)] at hI
  subst hI
  refine pzr (yB rfl rfl rfl rfl (yQ (pw_seq ?_))); rw [u1]; refine pw_ct rfl (pw_skip (pw_seq (pw_block (pzr (yMd rfl (yW ex (by omega) rfl rfl (yLs (ys := [_, _]) rfl rfl rfl (yZ (cs := [_, _]) rfl rfl (yAd rfl ?_))))))))); refine yS (cs' := [_, _]) rfl rfl rfl rfl rfl (yQ (pw_seq (pw_block (pzr (yFb rfl (yLd rfl rfl rfl (yC (c1) rfl rfl (yB rfl rfl rfl rfl (yAd rfl ?_))))))))); refine yQ (pw_cf rfl (pzr (yFb rfl (yLd rfl rfl rfl (yB rfl rfl rfl rfl (yMd rfl ?_)))))); rw [t3]; refine yFb rfl (yLd rfl rfl rfl (yB rfl rfl rfl rfl (yVd rfl rfl (yAd rfl (yQ (q_then ?_)))))); rw [t4]; refine pw_cf rfl (pw_seq ?_); refine pw_draw Tryz.mixed (by kernel_rfl) ?_; refine yMd rfl (yB rfl rfl rfl rfl (yMd rfl ?_)); rw [t5]; refine yFb rfl (yLd rfl rfl rfl (yMd rfl (yMd rfl (yB rfl rfl rfl rfl ?_)))); rw [hwk]; refine yW ep (by omega) rfl rfl (yFr rfl rfl (yLr rfl rfl (yBsm rfl rfl (yPd rfl rfl (yAd rfl (yQ (q_then ?_))))))); rw [hle]; refine pw_ct rfl (pzr (yAd rfl (yQ (pw_ret (q_blk_ret (q_then_ret (q_blk_ret (q_then_ret (q_then_ret ?_))))))))); refine q_blk_ret (q_then_ret ?_)
  exact q_ret _ (.tmp rfl .nil) rfl
 | true =>
 rw [hlt] at hle
 rw [if_neg (fun h => by rw [hlt] at h; exact absurd h.2 (by simp))] at hJ
 obtain ⟨P, hP⟩ : ∃ P, P = l.take k := ⟨_, rfl⟩
 have hPl : P.length = k := by rw [hP, List.length_take]; omega
 have htk : (l.map dAc).take (k : Int).toNat = P.map dAc := by rw [Int.toNat_natCast, hP, List.map_take]
 rw [← hP] at hJ
 refine pzr (yB rfl rfl rfl rfl (yQ (pw_seq ?_))); rw [u1]; refine pw_ct rfl (pw_skip (pw_seq (pw_block (pzr (yMd rfl (yW ex (by omega) rfl rfl (yLs (ys := [_, _]) rfl rfl rfl (yZ (cs := [_, _]) rfl rfl (yAd rfl ?_))))))))); refine yS (cs' := [_, _]) rfl rfl rfl rfl rfl (yQ (pw_seq (pw_block (pzr (yFb rfl (yLd rfl rfl rfl (yC (c1) rfl rfl (yB rfl rfl rfl rfl (yAd rfl ?_))))))))); refine yQ (pw_cf rfl (pzr (yFb rfl (yLd rfl rfl rfl (yB rfl rfl rfl rfl (yMd rfl ?_)))))); rw [t3]; refine yFb rfl (yLd rfl rfl rfl (yB rfl rfl rfl rfl (yVd rfl rfl (yAd rfl (yQ (q_then ?_)))))); rw [t4]; refine pw_cf rfl (pw_seq ?_); refine pw_draw Tryz.mixed (by kernel_rfl) ?_; refine yMd rfl (yB rfl rfl rfl rfl (yMd rfl ?_)); rw [t5]; refine yFb rfl (yLd rfl rfl rfl (yMd rfl (yMd rfl (yB rfl rfl rfl rfl ?_)))); rw [hwk]; refine yW ep (by omega) rfl rfl (yFr rfl rfl (yLr rfl rfl (yBsm rfl rfl (yPd rfl rfl (yAd rfl (yQ (q_then ?_))))))); rw [hle]; refine pw_cf rfl (pw_skip (pzr (yMd rfl (yMd rfl ?_)))); refine yDh (by omega) (by rw [List.length_map]; omega) rfl rfl ?_; refine yN rfl (yMd rfl (yQ (pw_block ?_))); rw [htk]
 refine pw_loop (fun m : Nat => ⟨67, [(0, .d (.sl 2 (l.map dAc))), (10, .d (.sl 2 (l.map dAc))), (11, .d (dI l.length)), (12, .d (dI k)), (4, .bx 4 0), (47, .d (.sl 2 (P.map dAc))), (48, .d (dI k)), (49, .d (dI m))], [(4, [.d (dS a0), .d (dI a1)])], []⟩) (fun m => m ≤ k ∧ ∀ (j : Nat) x, j < m → P[j]? = some x → (undB a0 x.1 && !(a1 == x.2)) = false) (fun m => k - m) 0 ⟨Nat.zero_le _, fun j x hj => absurd hj (Nat.not_lt_zero _)⟩
  ⟨rfl, ⟨.refl _, .refl _, .refl _, .refl _, .refl _, .refl _, .of_eq (congrArg (fun n : Nat => SV.d (dI n)) (by simp [hPl])), .refl _, trivial⟩, ⟨⟨_, rfl, lesC_refl _⟩, trivial⟩, trivial, rfl⟩ ?_
 rintro m ⟨hm, hno⟩
 rcases Nat.lt_or_ge m k with h2 | h2
 rotate_left
 · have u2 : decide ((m : Int) < (k : Int)) = false := decide_eq_false (by omega)
   rw [any_none (by omega) hno, if_neg (by simp)] at hJ
   rw [hJ, if_pos rfl] at hI
   refine pzr (yB rfl rfl rfl rfl (yQ (pw_seq ?_))); rw [u2]; refine pw_cf rfl (pw_exit (pw_region (yB rfl rfl rfl rfl (yMd rfl (yQ (q_then ?_))))))
   exact ⟨k + 1, ⟨h, hI⟩, arith, rfl, ⟨.refl _, .refl _, .refl _, .of_eq (congrArg (fun n => SV.d (dI n)) hw), trivial⟩, trivial, trivial, rfl⟩
 have u2 : decide ((m : Int) < (k : Int)) = true := decide_eq_true (by omega)
 obtain ⟨⟨b0, b1⟩, hbm⟩ : ∃ a, P[m]? = some a := ⟨_, List.getElem?_eq_getElem (by omega)⟩
 have eb := ix dAc P m m (b0, b1) rfl hbm
 have hw2 := wrapI ((m : Int) + 1) (by omega)
 have c2 := wUnder a0 b0
 have arith2 : k - (m + 1) < k - m := by omega
 have nxt : (undB a0 b0 && !(a1 == b1)) = false → ∀ (j : Nat) x, j < m + 1 → P[j]? = some x → (undB a0 x.1 && !(a1 == x.2)) = false := fun he j x hj hx => by
  rcases Nat.lt_or_ge j m with h3 | h3
  · exact hno j x h3 hx
  · obtain rfl : j = m := by omega
    rw [hbm] at hx; cases hx; exact he
 have bad : (undB a0 b0 && !(a1 == b1)) = true → E = 18 := fun he => by
  rw [if_pos (List.any_eq_true.2 ⟨_, List.mem_of_getElem? hbm, he⟩)] at hJ
  rw [hJ, if_neg (by omega)] at hI
  exact hI.symm
 clear hJ hI hno hP ep hle htk
 cases hu : undB a0 b0 with
 | false =>
  rw [hu] at c2 nxt
  have hn2 := nxt (by rfl)
  refine pzr (yB rfl rfl rfl rfl (yQ (pw_seq ?_))); rw [u2]; refine pw_ct rfl (pw_skip (pw_seq (pw_block (pzr (yW eb (by omega) rfl rfl (yLs (ys := [_, _]) rfl rfl rfl (yZ (cs := [_, _]) rfl rfl (yS (cs' := [_, _]) rfl rfl rfl rfl rfl (yQ ?_))))))))); refine pzr (yFb rfl (yLd rfl rfl rfl (yFb rfl (yLd rfl rfl rfl (yC (c2) rfl rfl (yMd rfl (yO rfl (yO rfl (yO rfl ?_))))))))); refine yO rfl (yO rfl (yVd rfl rfl (yQ (pw_cf rfl (pw_skip (pw_region (yB rfl rfl rfl rfl (yMd rfl (yQ ?_))))))))); refine q_then ?_
  exact ⟨m + 1, ⟨h2, hn2⟩, arith2, rfl, ⟨.refl _, .refl _, .refl _, .refl _, .refl _, .refl _, .refl _, .of_eq (congrArg (fun n => SV.d (dI n)) hw2), trivial⟩, ⟨⟨_, rfl, lesC_refl _⟩, trivial⟩, trivial, rfl⟩
 | true =>
  rw [hu] at c2 nxt bad
  by_cases he : a1 = b1
  · have t6 : (a1 != b1) = false := by simp [he]
    have hn2 := nxt (by simp [he])
    refine pzr (yB rfl rfl rfl rfl (yQ (pw_seq ?_))); rw [u2]; refine pw_ct rfl (pw_skip (pw_seq (pw_block (pzr (yW eb (by omega) rfl rfl (yLs (ys := [_, _]) rfl rfl rfl (yZ (cs := [_, _]) rfl rfl (yS (cs' := [_, _]) rfl rfl rfl rfl rfl (yQ ?_))))))))); refine pzr (yFb rfl (yLd rfl rfl rfl (yFb rfl (yLd rfl rfl rfl (yC (c2) rfl rfl (yMd rfl (yFb rfl (yLd rfl rfl rfl (yFb rfl ?_))))))))); refine yLd rfl rfl rfl (yB rfl rfl rfl rfl (yPd rfl rfl (yQ (q_then ?_)))); rw [t6]; refine pw_cf rfl (pw_skip (pw_region (yB rfl rfl rfl rfl (yMd rfl (yQ (q_then ?_))))))
    exact ⟨m + 1, ⟨h2, hn2⟩, arith2, rfl, ⟨.refl _, .refl _, .refl _, .refl _, .refl _, .refl _, .refl _, .of_eq (congrArg (fun n => SV.d (dI n)) hw2), trivial⟩, ⟨⟨_, rfl, lesC_refl _⟩, trivial⟩, trivial, rfl⟩
  · have t6 : (a1 != b1) = true := by simp [he]
    have hE := bad (by simp [he])
    subst hE
    refine pzr (yB rfl rfl rfl rfl (yQ (pw_seq ?_))); rw [u2]; refine pw_ct rfl (pw_skip (pw_seq (pw_block (pzr (yW eb (by omega) rfl rfl (yLs (ys := [_, _]) rfl rfl rfl (yZ (cs := [_, _]) rfl rfl (yS (cs' := [_, _]) rfl rfl rfl rfl rfl (yQ ?_))))))))); refine pzr (yFb rfl (yLd rfl rfl rfl (yFb rfl (yLd rfl rfl rfl (yC (c2) rfl rfl (yMd rfl (yFb rfl (yLd rfl rfl rfl (yFb rfl ?_))))))))); refine yLd rfl rfl rfl (yB rfl rfl rfl rfl (yPd rfl rfl (yQ (q_then ?_)))); rw [t6]; refine pw_ct rfl (pzr (yAd rfl (yQ (pw_ret (q_blk_ret (q_then_ret (q_then_ret (q_blk_ret (q_blk_ret ?_))))))))); refine q_then_ret (q_then_ret (q_blk_ret (q_then_ret ?_)))
    exact q_ret _ (.tmp rfl .nil) rfl
theorem wCheckRuB (l : List Ru) (ch : List Ac) (hl : l.length ≤ 1000000) (hb : ∀ r ∈ l, bdR r) (hc : ch.length ≤ 1000000) (hcb : ∀ a ∈ ch, a.1.length ≤ 9223372036854775807) : PCalls Tryz.prog 14 [dRus l, .sl 2 (ch.map dAc)] (.tup [dI (ruI l ch).1, dI (ruI l ch).2]) := by
 have c0 := wCheckAllB ch hc hcb
 have k0 := wKinds
 obtain ⟨⟨E1, E2⟩, hE⟩ : ∃ E, E = ruI l ch := ⟨_, rfl⟩
 rw [← hE]
 unfold ruI at hE
 by_cases h0 : ctE ch = 0
 rotate_left
 · have t1 : (ctE ch != 0) = true := by simp [h0]
   rw [if_pos h0] at hE
   cases hE
   obtain ⟨x, hx⟩ : ∃ x, x = ctE ch := ⟨_, rfl⟩
   rw [← hx] at c0 t1
   refine pcalls_of_pw Tryz.func14 rfl Tryz.ntmps14 Tryz.results14 (by simp) fun B w0 => ?_
   refine pzr (yAd rfl (yAd rfl (yQ (pw_seq (pzr (yMd rfl (yC (c0) rfl rfl (yB rfl rfl rfl rfl (yQ ?_))))))))); refine q_then ?_; rw [t1]; refine pw_ct rfl (pzr (yAd rfl (yAd rfl (yQ (pw_ret (q_then_ret ?_))))))
   exact q_ret _ (.tmp rfl (.tmp rfl .nil)) rfl
 rw [if_neg (by simp [h0])] at hE
 rw [h0] at c0
 by_cases h1 : 64 < l.length
 · have t2 : decide (((l.map dRu).length : Int) > 64) = true := decide_eq_true (by rw [List.length_map]; omega)
   rw [if_pos h1] at hE
   cases hE
   refine pcalls_of_pw Tryz.func14 rfl Tryz.ntmps14 Tryz.results14 (by simp) fun B w0 => ?_
   refine pzr (yAd rfl (yAd rfl (yQ (pw_seq (pzr (yMd rfl (yC (c0) rfl rfl (yB rfl rfl rfl rfl (yQ ?_))))))))); refine pw_cf rfl (pw_skip (pw_seq (pzr (yMd rfl (yN rfl (yB rfl rfl rfl rfl (yQ (q_then ?_)))))))); rw [t2]
   refine pw_ct rfl (pzr (yAd rfl (yAd rfl (yQ (pw_ret (q_then_ret ?_))))))
   exact q_ret _ (.tmp rfl (.tmp rfl .nil)) rfl
 have t2 : decide (((l.map dRu).length : Int) > 64) = false := decide_eq_false (by rw [List.length_map]; omega)
 rw [if_neg h1] at hE
 refine pcalls_of_pw Tryz.func14 rfl Tryz.ntmps14 Tryz.results14 (by simp) fun B w0 => ?_
 refine pzr (yAd rfl (yAd rfl (yQ (pw_seq (pzr (yMd rfl (yC (c0) rfl rfl (yB rfl rfl rfl rfl (yQ ?_))))))))); refine pw_cf rfl (pw_skip (pw_seq (pzr (yMd rfl (yN rfl (yB rfl rfl rfl rfl (yQ (q_then ?_)))))))); rw [t2]
 refine pw_cf rfl (pw_skip (pw_seq (pzr (yMd rfl (yN rfl (yMd rfl (yQ (pw_block ?_))))))))
 clear c0 h0 hc hcb
 refine pw_loop (fun k : Nat => ⟨68, [(0, .d (dRus l)), (1, .d (.sl 2 (ch.map dAc))), (20, .d (dRus l)), (21, .d (dI l.length)), (22, .d (dI k))], [], []⟩) (fun k => k ≤ l.length ∧ useI (tmpB nameB) chE nf ch k (l.take k) (l.drop k) = (E1, E2)) (fun k => l.length - k) 0 ⟨Nat.zero_le _, hE.symm⟩
  ⟨rfl, ⟨.refl _, .refl _, .refl _, .of_eq (congrArg (fun n : Nat => SV.d (dI n)) (by simp)), .refl _, trivial⟩, trivial, trivial, rfl⟩ ?_
 rintro k ⟨hk, hI⟩
 clear hE
 rcases Nat.lt_or_ge k l.length with h | h
 rotate_left
 · have u1 : decide ((k : Int) < (l.length : Int)) = false := decide_eq_false (by omega)
   rw [List.drop_eq_nil_of_le h] at hI
   cases hI
   refine pzr (yB rfl rfl rfl rfl (yQ (pw_seq ?_))); rw [u1]; refine pw_cf rfl (pw_exit (pzr (yAd rfl (yAd rfl (yQ (pw_ret ?_))))))
   exact q_ret _ (.tmp rfl (.tmp rfl .nil)) rfl
 have u1 : decide ((k : Int) < (l.length : Int)) = true := decide_eq_true (by omega)
 obtain ⟨r, hr⟩ : ∃ a, l[k]? = some a := ⟨_, List.getElem?_eq_getElem h⟩
 have hbr := hb _ (List.mem_of_getElem? hr)
 rw [useI_next hr] at hI
 have ex := ix dRu l k k r rfl hr
 have hw := wrapI ((k : Int) + 1) (by omega)
 have c1 := wRCheckR r hbr
 have c2 := wFindR (l.take k) r.1 (by rw [List.length_take]; omega)
 have htk : (l.map dRu).take (k : Int).toNat = (l.take k).map dRu := by rw [Int.toNat_natCast, List.map_take]
 have arith : l.length - (k + 1) < l.length - k := by omega
 rw [fndR_any] at c2
 by_cases e1 : rulE r = 0
 rotate_left
 · have t3 : (rulE r != 0) = true := by simp [e1]
   rw [if_pos e1] at hI
   cases hI
   obtain ⟨x, hx⟩ : ∃ x, x = rulE r := ⟨_, rfl⟩
   rw [← hx] at c1 t3 ⊢
   obtain ⟨n, ls⟩ := r
   refine pzr (yB rfl rfl rfl rfl (yQ (pw_seq ?_))); rw [u1]; refine pw_ct rfl (pw_skip (pw_seq (pw_block (pzr (yMd rfl (yW ex (by omega) rfl rfl (yLs (ys := [_, _]) rfl rfl rfl (yZ (cs := [_, _]) rfl rfl (yAd rfl ?_))))))))); refine yS (cs' := [_, _]) rfl rfl rfl rfl rfl (yQ (pw_seq (pzr (yLa (ys := [_, _]) rfl rfl rfl rfl (yC (c1) rfl rfl (yAd rfl (yQ (pzr (yMd rfl ?_))))))))); refine yB rfl rfl rfl rfl (yQ (q_then ?_)); rw [t3]; refine pw_ct rfl (pzr (yMd rfl (yMd rfl (yAd rfl (yAd rfl (yQ (pw_ret (q_then_ret (q_blk_ret ?_))))))))); refine q_then_ret (q_then_ret (q_blk_ret (q_then_ret ?_)))
   exact q_ret _ (.tmp rfl (.tmp rfl .nil)) rfl
 have hwf := (rE_zero (tp := tmpB nameB) (ce := chE)).1 e1
 rw [if_neg (by simp [e1])] at hI
 rw [e1] at c1
 obtain ⟨P, hP⟩ : ∃ P, P = l.take k := ⟨_, rfl⟩
 rw [← hP] at c2 htk
 obtain ⟨o, ho⟩ : ∃ o, o = orR (fndR P r.1) := ⟨_, rfl⟩
 rw [← ho] at c2
 obtain ⟨o0, o1⟩ := o
 have hPl : (P.map dRu).length = k := by rw [hP, List.length_map, List.length_take]; omega
 rw [← hP] at hI
 clear hP ho hb
 cases e2 : (P.any fun x => x.1 == r.1) with
 | true =>
  rw [e2] at c2 hI
  rw [if_pos rfl] at hI
  cases hI
  obtain ⟨n, ls⟩ := r
  refine pzr (yB rfl rfl rfl rfl (yQ (pw_seq ?_))); rw [u1]; refine pw_ct rfl (pw_skip (pw_seq (pw_block (pzr (yMd rfl (yW ex (by omega) rfl rfl (yLs (ys := [_, _]) rfl rfl rfl (yZ (cs := [_, _]) rfl rfl (yAd rfl ?_))))))))); refine yS (cs' := [_, _]) rfl rfl rfl rfl rfl (yQ (pw_seq (pzr (yLa (ys := [_, _]) rfl rfl rfl rfl (yC (c1) rfl rfl (yAd rfl (yQ (pzr (yMd rfl ?_))))))))); refine yB rfl rfl rfl rfl (yQ (pw_cf rfl (pw_skip (pw_seq (pw_seq ?_))))); refine pw_draw Tryz.mixed (by kernel_rfl) ?_; refine yMd rfl (yMd rfl ?_); refine yDh (by omega) (by rw [List.length_map]; omega) rfl rfl ?_; refine yFb rfl (yLd rfl rfl rfl ?_); rw [htk]; refine yC (c2) rfl rfl (yMp rfl (yX rfl rfl (yX rfl rfl (yZ (cs := [_, _]) rfl rfl (yS (cs' := [_, _]) rfl rfl rfl rfl rfl (yAd rfl (yQ (pzr (yMd rfl ?_))))))))); refine yQ (pw_ct rfl (pzr (yMd rfl (yAd rfl (yAd rfl (yQ (pw_ret (q_then_ret (q_blk_ret ?_))))))))); refine q_then_ret (q_then_ret (q_blk_ret (q_then_ret ?_)))
  exact q_ret _ (.tmp rfl (.tmp rfl .nil)) rfl
 | false =>
 rw [e2] at c2 hI
 rw [if_neg (by simp)] at hI
 obtain ⟨n, ls⟩ := r
 obtain ⟨⟨kk, hkk⟩, hll, hlw⟩ := hwf
 simp only at hkk hll hlw hI
 rw [hkk] at hI
 simp only at hI
 obtain ⟨hg, hh⟩ := iget_knd n
 have hkeq : kk = (n, kwT n, nmsK n, sgK n) := by
  have h3 := (kndF_some hkk).2
  rw [kwT, nmsK, sgK, hkk]
  obtain ⟨q0, q1, q2, q3⟩ := kk
  simp only at h3
  subst h3
  rfl
 have hnl : (nmsK n).length ≤ 1000000 := by
  have h2 : ∀ k ∈ kndL, k.2.2.1.length ≤ 1000000 := by
   have : ∀ k ∈ kndL, k.2.2.1.length ≤ 4 := by decide
   exact fun k hk => Nat.le_trans (this k hk) (by omega)
  have := h2 kk (kndF_some hkk).1
  rw [hkeq] at this
  exact this
 rw [hkeq] at hI
 have k2 := fun x => wCheckLine n (kwT n) (nmsK n) (sgK n) ch x hnl
 obtain ⟨M, hM⟩ : ∃ M, M = kndM := ⟨_, rfl⟩
 rw [← hM] at k0 hg
 obtain ⟨kw, hkw⟩ : ∃ w, w = kwT n := ⟨_, rfl⟩
 obtain ⟨kg, hkg⟩ : ∃ w, w = sgK n := ⟨_, rfl⟩
 obtain ⟨kn, hkn⟩ : ∃ w, w = nmsK n := ⟨_, rfl⟩
 rw [← hkw, ← hkg, ← hkn] at hg hI k2
 clear hM hkw hkg hkn hkeq hnl hkk hh e2 e1
 have k3 := wBalances (n, ls) hll fun x hx => ⟨(chE_zero.1 (hlw x hx).2).1, fun c hc => ((hbr.2 x hx).2.2 c hc).2⟩
 simp only at k3
 refine pzr (yB rfl rfl rfl rfl (yQ (pw_seq ?_))); rw [u1]; refine pw_ct rfl (pw_skip (pw_seq (pw_block (pzr (yMd rfl (yW ex (by omega) rfl rfl (yLs (ys := [_, _]) rfl rfl rfl (yZ (cs := [_, _]) rfl rfl (yAd rfl ?_))))))))); refine yS (cs' := [_, _]) rfl rfl rfl rfl rfl (yQ (pw_seq (pzr (yLa (ys := [_, _]) rfl rfl rfl rfl (yC (c1) rfl rfl (yAd rfl (yQ (pzr (yMd rfl ?_))))))))); refine yB rfl rfl rfl rfl (yQ (pw_cf rfl (pw_skip (pw_seq (pw_seq ?_))))); refine pw_draw Tryz.mixed (by kernel_rfl) ?_; refine yMd rfl (yMd rfl ?_); refine yDh (by omega) (by rw [List.length_map]; omega) rfl rfl ?_; refine yFb rfl (yLd rfl rfl rfl ?_); rw [htk]; refine yC (c2) rfl rfl (yMp rfl (yX rfl rfl (yX rfl rfl (yZ (cs := [_, _]) rfl rfl (yS (cs' := [_, _]) rfl rfl rfl rfl rfl (yAd rfl (yQ (pzr (yMd rfl ?_))))))))); refine yQ (pw_cf rfl (pw_skip (pw_seq (pzr (yFb rfl (yLd rfl rfl rfl (yN rfl (yMd rfl (yQ ?_))))))))); refine pw_block ?_; refine pw_loop (fun j : Nat => ⟨68, [(0, .d (dRus l)), (1, .d (.sl 2 (ch.map dAc))), (20, .d (dRus l)), (21, .d (dI l.length)), (22, .d (dI k)), (6, .d (dI k)), (7, .bx 7 0), (45, .d (.sl 3 (ls.map dLn))), (46, .d (dI ls.length)), (47, .d (dI j))], [(7, [.d (dI n), .d (.sl 3 (ls.map dLn))])], []⟩) (fun j => j ≤ ls.length ∧ lusE nf (n, kw, kn, kg) ch (ls.drop j) = lusE nf (n, kw, kn, kg) ch ls) (fun j => ls.length - j) 0 ⟨Nat.zero_le _, rfl⟩
  ⟨rfl, ⟨.refl _, .refl _, .refl _, .refl _, .refl _, .refl _, .refl _, .refl _, .of_eq (congrArg (fun n : Nat => SV.d (dI n)) (by simp)), .refl _, trivial⟩, ⟨⟨_, rfl, lesC_refl _⟩, trivial⟩, trivial, rfl⟩ ?_
 rintro j ⟨hj, hJ⟩
 rcases Nat.lt_or_ge j ls.length with h2 | h2
 · have u2 : decide ((j : Int) < (ls.length : Int)) = true := decide_eq_true (by omega)
   obtain ⟨x, hx⟩ : ∃ a, ls[j]? = some a := ⟨_, List.getElem?_eq_getElem h2⟩
   have em := ix dLn ls j j x rfl hx
   have hw2 := wrapI ((j : Int) + 1) (by omega)
   have hxm := List.mem_of_getElem? hx
   have k4 := k2 x (hbr.2 x hxm) (hlw x hxm).2
   have arith2 : ls.length - (j + 1) < ls.length - j := by omega
   rw [lusE_next hx] at hJ
   obtain ⟨y, hy⟩ : ∃ y, y = luE nf (n, kw, kn, kg) ch x := ⟨_, rfl⟩
   rw [← hy] at k4 hJ
   obtain ⟨x0, x1, x2⟩ := x
   clear k2 k3 hy hxm hbr hll hlw
   by_cases hy0 : y = 0
   · have t4 : (y != 0) = false := by simp [hy0]
     rw [if_pos hy0] at hJ
     refine pzr (yB rfl rfl rfl rfl (yQ (pw_seq ?_))); rw [u2]; refine pw_ct rfl (pw_skip (pw_seq (pw_block (pzr (yW em (by omega) rfl rfl (yLs (ys := [_, _, _]) rfl rfl rfl (yZ (cs := [_, _, _]) rfl rfl (yS (cs' := [_, _, _]) rfl rfl rfl rfl rfl (yQ ?_))))))))); refine pw_seq ?_; refine pw_draw Tryz.mixed (by kernel_rfl) ?_; refine yC (k0) rfl rfl (yFb rfl (yLd rfl rfl rfl (yKeI rfl rfl hg (yLa (ys := [_, _, _]) rfl rfl rfl rfl (yMd rfl (yC (k4) rfl rfl (yAd rfl (yQ (pzr ?_))))))))); refine yMd rfl (yB rfl rfl rfl rfl (yQ (q_then ?_))); rw [t4]; refine pw_cf rfl (pw_skip (pw_region (yB rfl rfl rfl rfl (yMd rfl (yQ (q_then ?_))))))
     exact ⟨j + 1, ⟨h2, hJ⟩, arith2, rfl, ⟨.refl _, .refl _, .refl _, .refl _, .refl _, .refl _, .refl _, .refl _, .refl _, .of_eq (congrArg (fun n => SV.d (dI n)) hw2), trivial⟩, ⟨⟨_, rfl, lesC_refl _⟩, trivial⟩, trivial, rfl⟩
   · have t4 : (y != 0) = true := by simp [hy0]
     rw [if_neg hy0] at hJ
     rw [← hJ, if_pos hy0] at hI
     cases hI
     refine pzr (yB rfl rfl rfl rfl (yQ (pw_seq ?_))); rw [u2]; refine pw_ct rfl (pw_skip (pw_seq (pw_block (pzr (yW em (by omega) rfl rfl (yLs (ys := [_, _, _]) rfl rfl rfl (yZ (cs := [_, _, _]) rfl rfl (yS (cs' := [_, _, _]) rfl rfl rfl rfl rfl (yQ ?_))))))))); refine pw_seq ?_; refine pw_draw Tryz.mixed (by kernel_rfl) ?_; refine yC (k0) rfl rfl (yFb rfl (yLd rfl rfl rfl (yKeI rfl rfl hg (yLa (ys := [_, _, _]) rfl rfl rfl rfl (yMd rfl (yC (k4) rfl rfl (yAd rfl (yQ (pzr ?_))))))))); refine yMd rfl (yB rfl rfl rfl rfl (yQ (q_then ?_))); rw [t4]; refine pw_ct rfl (pzr (yMd rfl (yMd rfl (yAd rfl (yAd rfl (yQ (pw_ret (q_blk_ret (q_then_ret ?_))))))))); refine q_then_ret (q_blk_ret (q_then_ret (q_blk_ret (q_then_ret (q_then_ret (q_blk_ret (q_then_ret ?_)))))))
     exact q_ret _ (.tmp rfl (.tmp rfl .nil)) rfl
 · have u2 : decide ((j : Int) < (ls.length : Int)) = false := decide_eq_false (by omega)
   have hz : lusE nf (n, kw, kn, kg) ch ls = 0 := by rw [← hJ, List.drop_eq_nil_of_le h2]; rfl
   rw [hz, if_neg (by simp)] at hI
   clear k2 hbr hll hlw hJ hz
   cases hbal : balB ls with
   | true =>
    rw [hbal] at k3 hI
    rw [if_pos rfl] at hI
    refine pzr (yB rfl rfl rfl rfl (yQ (pw_seq ?_))); rw [u2]; refine pw_cf rfl (pw_exit (pzr (yLa (ys := [_, _]) rfl rfl rfl rfl (yC (k3) rfl rfl (yU rfl rfl rfl (yQ (pw_cf rfl (pw_skip (pw_region ?_))))))))); refine yB rfl rfl rfl rfl (yMd rfl (yQ (q_then ?_)))
    exact ⟨k + 1, ⟨h, hI⟩, arith, rfl, ⟨.refl _, .refl _, .refl _, .refl _, .of_eq (congrArg (fun n => SV.d (dI n)) hw), trivial⟩, trivial, trivial, rfl⟩
   | false =>
    rw [hbal] at k3 hI
    rw [if_neg (by simp)] at hI
    cases hI
    refine pzr (yB rfl rfl rfl rfl (yQ (pw_seq ?_))); rw [u2]; refine pw_cf rfl (pw_exit (pzr (yLa (ys := [_, _]) rfl rfl rfl rfl (yC (k3) rfl rfl (yU rfl rfl rfl (yQ (pw_ct rfl (pzr (yMd rfl ?_))))))))); refine yAd rfl (yAd rfl (yQ (pw_ret (q_blk_ret (q_then_ret (q_then_ret (q_blk_ret (q_then_ret ?_))))))))
    exact q_ret _ (.tmp rfl (.tmp rfl .nil)) rfl
structure CutI (c : UInt8) (s : Str) (i f : Nat) (zs : List Str) : Prop where
 fi : f ≤ i
 il : i ≤ s.length
 no : c ∉ (s.drop f).take (i - f)
 eq : zs ++ spl c (s.drop f) = spl c s
 zl : zs.length ≤ i
theorem CutI.start (c : UInt8) (s : Str) : CutI c s 0 0 [] := ⟨Nat.le_refl _, Nat.zero_le _, by simp, by simp, Nat.le_refl _⟩
theorem CutI.split {s : Str} {i f : Nat} {b : UInt8} (hf : f ≤ i) (hb : s[i]? = some b) : s.drop f = (s.drop f).take (i - f) ++ b :: s.drop (i + 1) := by
 obtain ⟨h1, h2⟩ := List.getElem?_eq_some_iff.1 hb
 conv => lhs; rw [← List.take_append_drop (i - f) (s.drop f)]
 rw [List.drop_drop, show f + (i - f) = i by omega, List.drop_eq_getElem_cons h1, h2]
theorem CutI.hit {c : UInt8} {s : Str} {i f : Nat} {zs : List Str} (h : CutI c s i f zs) (hb : s[i]? = some c) : CutI c s (i + 1) (i + 1) (zs ++ [(s.drop f).take (i - f)]) := by
 have hl := (List.getElem?_eq_some_iff.1 hb).1
 refine ⟨Nat.le_refl _, hl, by simp, ?_, by have := h.zl; simp; omega⟩
 rw [← h.eq]
 conv => rhs; rw [CutI.split h.fi hb]
 rw [spl_app h.no, List.append_assoc]
 rfl
theorem CutI.done {c : UInt8} {s : Str} {f : Nat} {zs : List Str} (h : CutI c s s.length f zs) : zs ++ [s.drop f] = spl c s := by
 have hn := h.no
 rw [List.take_of_length_le (by simp)] at hn
 rw [← h.eq, spl_one hn]
theorem CutI.part {s : Str} {i f : Nat} : ((s.drop f).take (i - f)).length ≤ s.length := by simp; omega
def grtA (l : List Ac) : Bool := l.any (fun a => decide (120 < a.1.length)) || (decide (12 < l.length) && decide (l.length ≤ 256)) || decide (259 < l.length)
theorem wGreatAB (l : List Ac) (hl : l.length ≤ 9223372036854775807) : PCalls Tryz.prog 12 [.sl 2 (l.map dAc)] (.d (dB (grtA l))) := by
 obtain ⟨R, hR⟩ : ∃ R, R = grtA l := ⟨_, rfl⟩
 rw [← hR]
 unfold grtA at hR
 refine pcalls_of_pw Tryz.func12 rfl Tryz.ntmps12 Tryz.results12 (by simp) fun B w0 => ?_
 refine pzr (yAd rfl (yQ (pw_seq (pzr (yAd rfl (yQ (pw_block ?_))))))); refine pw_loop (fun i : Nat => ⟨30, [(0, .d (.sl 2 (l.map dAc))), (3, .d (dI i))], [], []⟩) (fun i => i ≤ l.length ∧ (l.take i).any (fun a => decide (120 < a.1.length)) = false) (fun i => l.length - i) 0 ⟨Nat.zero_le _, rfl⟩
  ⟨rfl, ⟨.refl _, .refl _, trivial⟩, trivial, trivial, rfl⟩ ?_
 rintro i ⟨hi, hI⟩
 rcases Nat.lt_or_ge i l.length with h | h
 rotate_left
 · have u1 : decide ((i : Int) < ((l.map dAc).length : Int)) = false := decide_eq_false (by rw [List.length_map]; omega)
   rw [List.take_of_length_le h] at hI
   rw [hI, Bool.false_or] at hR
   obtain ⟨n, hn⟩ : ∃ n, n = l.length := ⟨_, rfl⟩
   have e1 : decide (((l.map dAc).length : Int) > 12) = decide (12 < n) := by rw [List.length_map, hn]; exact decide_eq_decide.2 (by omega)
   have e2 : decide (((l.map dAc).length : Int) ≤ 256) = decide (n ≤ 256) := by rw [List.length_map, hn]; exact decide_eq_decide.2 (by omega)
   have e3 : decide (((l.map dAc).length : Int) > 259) = decide (259 < n) := by rw [List.length_map, hn]; exact decide_eq_decide.2 (by omega)
   rw [← hn] at hR
   clear hI hn
   rcases Nat.lt_or_ge 12 n with a | a
   · rw [decide_eq_true a] at e1 hR
     rcases Nat.lt_or_ge 256 n with b | b
     · rw [decide_eq_false (by omega : ¬ n ≤ 256)] at e2 hR
       refine pw_seq (pzr (yMd rfl (yMd rfl (yN rfl (yB rfl rfl rfl rfl (yQ (q_then ?_))))))); rw [u1]; refine pw_cf rfl (pw_exit (pzr (yMd rfl (yN rfl (yB rfl rfl rfl rfl (yMd rfl ?_)))))); rw [e1]; refine yMd rfl (yN rfl (yB rfl rfl rfl rfl (yPd rfl rfl (yMd rfl ?_)))); rw [e2]; refine yMd rfl (yN rfl (yB rfl rfl rfl rfl (yVd rfl rfl (yAd rfl (yQ (pw_ret ?_))))))
       exact q_ret _ (.tmp rfl .nil) (congrArg (fun b => SV.d (dB b)) (by rw [e3, hR]; rfl))
     · rw [decide_eq_true b] at e2 hR
       have hR1 : R = true := by rw [hR]; rfl
       subst hR1
       refine pw_seq (pzr (yMd rfl (yMd rfl (yN rfl (yB rfl rfl rfl rfl (yQ (q_then ?_))))))); rw [u1]; refine pw_cf rfl (pw_exit (pzr (yMd rfl (yN rfl (yB rfl rfl rfl rfl (yMd rfl ?_)))))); rw [e1]; refine yMd rfl (yN rfl (yB rfl rfl rfl rfl (yPd rfl rfl (yMd rfl ?_)))); rw [e2]; refine yO rfl (yO rfl (yO rfl (yPd rfl rfl (yAd rfl (yQ (pw_ret ?_))))))
       exact q_ret _ (.tmp rfl .nil) rfl
   · rw [decide_eq_false (by omega : ¬ 12 < n)] at e1 hR
     refine pw_seq (pzr (yMd rfl (yMd rfl (yN rfl (yB rfl rfl rfl rfl (yQ (q_then ?_))))))); rw [u1]; refine pw_cf rfl (pw_exit (pzr (yMd rfl (yN rfl (yB rfl rfl rfl rfl (yMd rfl ?_)))))); rw [e1]; refine yO rfl (yO rfl (yO rfl (yVd rfl rfl (yMd rfl (yMd rfl (yN rfl (yB rfl rfl rfl rfl (yVd rfl rfl (yAd rfl ?_))))))))); refine yQ (pw_ret ?_)
     exact q_ret _ (.tmp rfl .nil) (congrArg (fun b => SV.d (dB b)) (by rw [e3, hR]; rfl))
 have u1 : decide ((i : Int) < ((l.map dAc).length : Int)) = true := decide_eq_true (by rw [List.length_map]; omega)
 obtain ⟨⟨c, k⟩, hx⟩ : ∃ x, l[i]? = some x := ⟨_, List.getElem?_eq_getElem h⟩
 have ex := ix dAc l i i (c, k) rfl hx
 have hw := wrapI ((i : Int) + 1) (by omega)
 have arith : l.length - (i + 1) < l.length - i := by omega
 by_cases hg : 120 < c.length
 · have t1 : decide ((c.length : Int) > 120) = true := decide_eq_true (by omega)
   have e : l.any (fun a => decide (120 < a.1.length)) = true := List.any_eq_true.2 ⟨_, List.mem_of_getElem? hx, decide_eq_true hg⟩
   rw [e] at hR
   have hR1 : R = true := by rw [hR]; rfl
   subst hR1
   refine pw_seq (pzr (yMd rfl (yMd rfl (yN rfl (yB rfl rfl rfl rfl (yQ (q_then ?_))))))); rw [u1]; refine pw_ct rfl (pw_skip (pw_seq (pw_block (pzr (yMd rfl (yMd rfl (yW ex (by omega) rfl rfl (yFr rfl rfl (yLr rfl rfl ?_))))))))); refine yNs rfl (yB rfl rfl rfl rfl (yQ (q_then ?_))); rw [t1]; refine pw_ct rfl (pzr (yAd rfl (yQ (pw_ret (q_blk_ret (q_then_ret (q_then_ret (q_blk_ret (q_then_ret ?_)))))))))
   exact q_ret _ (.tmp rfl .nil) rfl
 · have t1 : decide ((c.length : Int) > 120) = false := decide_eq_false (by omega)
   have hnx : (l.take (i + 1)).any (fun a => decide (120 < a.1.length)) = false := by
    rw [List.take_add_one, hx, List.any_append, hI]
    simp [hg]
   refine pw_seq (pzr (yMd rfl (yMd rfl (yN rfl (yB rfl rfl rfl rfl (yQ (q_then ?_))))))); rw [u1]; refine pw_ct rfl (pw_skip (pw_seq (pw_block (pzr (yMd rfl (yMd rfl (yW ex (by omega) rfl rfl (yFr rfl rfl (yLr rfl rfl ?_))))))))); refine yNs rfl (yB rfl rfl rfl rfl (yQ (q_then ?_))); rw [t1]; refine pw_cf rfl (pw_skip (pw_region (yMd rfl (yB rfl rfl rfl rfl (yAd rfl (yQ (q_then ?_)))))))
   exact ⟨i + 1, ⟨h, hnx⟩, arith, rfl, ⟨.refl _, .of_eq (congrArg (fun n => SV.d (dI n)) hw), trivial⟩, trivial, trivial, rfl⟩
namespace Px
section
variable {P : Program} {sq : Bool} {ops : Array Oper} {K : PS → Prop} {rest : List Oper} {st : PS} {d : Option Nat} {ty : TypeId} {pos : String} {af : Array Edge} {gd : Option (Nat × Bool)}
end
end Px
open Go.RowKit Px
theorem wGrowA (n : Nat) (hn : n ≤ 1000000) : POwn Tryz.prog 102 [.val (.slice none 0 0), dI n] 48 2 [] := by
 have t1 : decide ((n : Int) < 0) = false := decide_eq_false (by omega)
 have hw : IntKind.i64.wrap ((n : Int) - IntKind.i64.wrap (0 - 0)) = n := by rw [show IntKind.i64.wrap (0 - 0) = 0 by decide, Int.sub_zero]; exact wrapI _ (by omega)
 rcases Nat.eq_zero_or_pos n with rfl | h0
 · refine own_nil ?_
   refine pcalls_of_pw Tryz.func102 rfl Tryz.ntmps102 Tryz.results102 (by simp) fun B w0 => ?_
   refine pzr (yAd rfl (yQ (pw_seq (pzr (yMd rfl (yB rfl rfl rfl rfl (yQ (pw_cf rfl (pw_skip ?_))))))))); refine pw_seq (pzr (yMd rfl (yMd rfl (yNc rfl (yMd rfl (yNl rfl (yB rfl rfl rfl rfl (yB rfl rfl rfl rfl (yAd rfl ?_))))))))); refine yQ (pzr (yMd rfl (yB rfl rfl rfl rfl (yQ (pw_cf rfl (pw_skip (pzr (yMd rfl (yAd rfl ?_))))))))); refine yQ (pw_ret ?_)
   exact q_ret _ (.tmp rfl .nil) rfl
 · have t2 : decide ((n : Int) > 0) = true := decide_eq_true (by omega)
   refine pown_of_pw (t := 48 * 100000 + 4) Tryz.func102 rfl Tryz.ntmps102 Tryz.results102 (by simp) rfl fun B w0 => ?_
   refine pzr (yAd rfl (yQ (pw_seq (pzr (yMd rfl (yB rfl rfl rfl rfl (yQ (pw_cf rfl (pw_skip ?_))))))))); refine pw_seq (pzr (yMd rfl (yMd rfl (yNc rfl (yMd rfl (yNl rfl (yB rfl rfl rfl rfl (yB rfl rfl rfl rfl (yAd rfl ?_))))))))); refine yQ (pzr (yMd rfl (yB rfl rfl rfl rfl (yQ (q_then ?_))))); rw [t1]; rw [hw]; rw [t2]; refine pw_ct rfl (pw_region (yMd rfl (yMd rfl (yNc rfl (ySz rfl rfl (yMd rfl (yAz (by omega) Tryz.underlying3 rfl rfl h0 (by omega) (by omega) rfl (yMd rfl (yNl rfl ?_))))))))); refine yDb (by omega) (by omega) rfl rfl (yAw rfl (yQ ?_)); refine pw_tkz 0 22 (48 * 100000 + 4) 2 rfl rfl rfl rfl rfl ?_; refine pzr (yMt rfl (yAt rfl (yQ (pw_ret ?_))))
   exact q_own rfl rfl
theorem wConcatA (css : List (List (List DV))) (hl : css.length ≤ 1000) (ht : (css.flatten).length ≤ 1000000) : POwn Tryz.prog 51 [.sl 1 (css.map fun c => [.sl 2 c])] 48 2 css.flatten := by
 refine pown_of_pw (t := 48 * 100000 + 6) Tryz.func51 rfl Tryz.ntmps51 Tryz.results51 (by simp) rfl fun B w0 => ?_
 refine pzr (yAd rfl (yQ (pzr (yAd rfl (yQ (pw_seq (pzr (yMd rfl (yN rfl ?_))))))))); refine yMd rfl (yQ (pw_block ?_)); refine pw_loop (fun k : Nat => ⟨36, [(0, .d (.sl 1 (css.map fun c => [.sl 2 c]))), (9, .d (.sl 1 (css.map fun c => [.sl 2 c]))), (10, .d (dI css.length)), (11, .d (dI k)), (3, .d (dI (tot css k)))], [], []⟩) (fun k => k ≤ css.length) (fun k => css.length - k) 0 (Nat.zero_le _) ⟨rfl, ⟨.refl _, .refl _, .of_eq ?_, .refl _, .refl _, trivial⟩, trivial, trivial, rfl⟩ ?_
 · exact congrArg (fun n : Nat => SV.d (dI n)) (by simp)
 intro k hk
 refine pzr (yB rfl rfl rfl rfl (yQ (pw_seq ?_))); refine pw_cond rfl (fun h => ?_) (fun h => ?_)
 · simp at h
   obtain ⟨c, gk⟩ : ∃ c, css[k]? = some c := ⟨_, List.getElem?_eq_getElem h⟩
   have ek := ix (fun c : List (List DV) => [DV.sl 2 c]) css k k c rfl gk
   have hts := tot_succ gk
   have htl := tot_le css (k + 1)
   have hw1 := wrapI ((k : Int) + 1) (by omega)
   have hw2 : IntKind.i64.wrap ((tot css k : Int) + (c.length : Int)) = (tot css (k + 1) : Int) := by rw [wrapI _ (by omega)]; omega
   have h0 : decide ((tot css (k + 1) : Int) < 0) = false := decide_eq_false (by omega)
   refine pw_skip (pw_seq (pw_block (pzr (yW ek (by omega) rfl rfl (yLr rfl rfl (yAd rfl (yQ (pzr (yMd rfl ?_))))))))); refine yMd rfl (yN rfl (yB rfl rfl rfl rfl (yAd rfl (yQ (pzr (yMd rfl (yB rfl rfl rfl rfl (yQ (q_then ?_))))))))); rw [hw2]; refine pw_cf rfl (pw_skip (pw_region (yB rfl rfl rfl rfl (yMd rfl (yQ (q_then ?_)))))); rw [h0]
   refine ⟨k + 1, by omega, by omega, rfl, ⟨.refl _, .refl _, .refl _, .of_eq (congrArg (fun n => SV.d (dI n)) hw1), .refl _, trivial⟩, trivial, trivial, rfl⟩
 · simp at h
   obtain rfl : k = css.length := by omega
   have ht2 : tot css css.length = css.flatten.length := by rw [tot, List.take_length]
   have c1 := wGrowA (tot css css.length) (by omega)
   refine pw_exit (pzr (yMd rfl (yCo (t := 48 * 100000 + 6) c1 rfl rfl rfl rfl (yAt rfl (yQ (pw_seq (pzr (yMd rfl (yN rfl ?_))))))))); refine yMd rfl (yQ (pw_block ?_)); refine pw_loop (fun k : Nat => ⟨36, [(25, .d (.sl 1 (css.map fun c => [.sl 2 c]))), (26, .d (dI css.length)), (27, .d (dI k)), (6, .ts (48 * 100000 + 6) 2 ((css.take k).flatten))], [], [(48 * 100000 + 6, ((css.take k).flatten).length)]⟩) (fun k => k ≤ css.length) (fun k => css.length - k) 0 (Nat.zero_le _) ⟨rfl, ⟨.refl _, .of_eq ?_, .refl _, .refl _, trivial⟩, trivial, ⟨rfl, trivial⟩, rfl⟩ ?_
   · exact congrArg (fun n : Nat => SV.d (dI n)) (by simp)
   intro k hk
   refine pzr (yB rfl rfl rfl rfl (yQ (pw_seq ?_))); refine pw_cond rfl (fun h => ?_) (fun h => ?_)
   · simp at h
     obtain ⟨c, gk⟩ : ∃ c, css[k]? = some c := ⟨_, List.getElem?_eq_getElem h⟩
     have ek := ix (fun c : List (List DV) => [DV.sl 2 c]) css k k c rfl gk
     have hts := tot_succ gk
     have htl := tot_le css (k + 1)
     have hw1 := wrapI ((k : Int) + 1) (by omega)
     have hfl : (css.take (k + 1)).flatten = (css.take k).flatten ++ c := by rw [List.take_add_one, gk]; simp
     have hln : ((css.take k).flatten).length = tot css k := rfl
     obtain ⟨zs, hz⟩ : ∃ zs, zs = (css.take k).flatten := ⟨_, rfl⟩
     rw [← hz] at hfl hln ⊢
     refine pw_skip (pw_seq (pw_block (pzr (yW ek (by omega) rfl rfl (yLr rfl rfl (yAd rfl (yQ (pw_region (yMt rfl ?_))))))))); refine yMd rfl ?_; refine yT (es' := zs ++ c) (m := (zs ++ c).length) (by omega) (by omega) rfl rfl rfl rfl rfl (by simp) (by simp) ?_; refine yAt rfl (yQ (pw_region (yB rfl rfl rfl rfl (yMd rfl (yQ (q_then ?_))))))
     refine ⟨k + 1, by omega, by omega, rfl, ⟨.refl _, .refl _, .of_eq (congrArg (fun n => SV.d (dI n)) hw1), .of_eq ?_, trivial⟩, trivial, ⟨?_, trivial⟩, rfl⟩
     · rw [hfl]; rfl
     · rw [hfl]; rfl
   · simp at h
     obtain rfl : k = css.length := by omega
     rw [List.take_length]
     refine pw_exit (pzr (yMt rfl (yAt rfl (yQ (pw_ret ?_)))))
     exact q_own rfl rfl
def cmA (a b : Ac) : Int := if lt8 a.1 b.1 then -1 else if lt8 b.1 a.1 then 1 else 0
theorem wCmpA (a b : Ac) : PCalls Tryz.prog 53 [.agg (dAc a), .agg (dAc b)] (.d (dI (cmA a b))) := by
 obtain ⟨x, m⟩ := a
 obtain ⟨y, n⟩ := b
 obtain ⟨R, hR⟩ : ∃ R, R = cmA (x, m) (y, n) := ⟨_, rfl⟩
 rw [← hR]
 unfold cmA at hR
 simp only at hR
 cases h1 : lt8 x y with
 | true =>
  rw [h1, if_pos rfl] at hR
  subst hR
  refine pcalls_of_pw Tryz.func53 rfl Tryz.ntmps53 Tryz.results53 (by simp) fun B w0 => ?_
  refine pzr (yK (cs := [_, _]) rfl rfl (yK (cs := [_, _]) rfl rfl (yAd rfl (yQ (pw_seq (pzr (yFb rfl (yLd rfl rfl rfl (yFb rfl ?_))))))))); refine yLd rfl rfl rfl (yBsl rfl rfl (yQ (q_then ?_))); rw [h1]; refine pw_ct rfl (pzr (yAd rfl (yQ (pw_ret (q_then_ret ?_)))))
  exact q_ret _ (.tmp rfl .nil) rfl
 | false =>
  rw [h1, if_neg (by simp)] at hR
  have h3 := le_nlt x y
  rw [h1] at h3
  cases h2 : lt8 y x with
  | true =>
   rw [h2] at h3
   have h4 : (!(lt8 x y || x == y)) = true := by rw [h1, h3]; rfl
   have h5 : (!(false || x == y)) = true := by rw [h3]; rfl
   rw [h2, if_pos rfl] at hR
   subst hR
   refine pcalls_of_pw Tryz.func53 rfl Tryz.ntmps53 Tryz.results53 (by simp) fun B w0 => ?_
   refine pzr (yK (cs := [_, _]) rfl rfl (yK (cs := [_, _]) rfl rfl (yAd rfl (yQ (pw_seq (pzr (yFb rfl (yLd rfl rfl rfl (yFb rfl ?_))))))))); refine yLd rfl rfl rfl (yBsl rfl rfl (yQ (q_then ?_))); rw [h1]; refine pw_cf rfl (pw_skip (pw_seq (pzr (yFb rfl (yLd rfl rfl rfl (yFb rfl (yLd rfl rfl rfl (yBsg rfl rfl (yQ ?_))))))))); refine q_then ?_; rw [h1]; rw [h5]; refine pw_ct rfl (pzr (yAd rfl (yQ (pw_ret (q_then_ret ?_)))))
   exact q_ret _ (.tmp rfl .nil) rfl
  | false =>
   rw [h2] at h3
   have h4 : (!(lt8 x y || x == y)) = false := by rw [h1, h3]; rfl
   have h5 : (!(false || x == y)) = false := by rw [h3]; rfl
   rw [h2, if_neg (by simp)] at hR
   subst hR
   refine pcalls_of_pw Tryz.func53 rfl Tryz.ntmps53 Tryz.results53 (by simp) fun B w0 => ?_
   refine pzr (yK (cs := [_, _]) rfl rfl (yK (cs := [_, _]) rfl rfl (yAd rfl (yQ (pw_seq (pzr (yFb rfl (yLd rfl rfl rfl (yFb rfl ?_))))))))); refine yLd rfl rfl rfl (yBsl rfl rfl (yQ (q_then ?_))); rw [h1]; refine pw_cf rfl (pw_skip (pw_seq (pzr (yFb rfl (yLd rfl rfl rfl (yFb rfl (yLd rfl rfl rfl (yBsg rfl rfl (yQ ?_))))))))); refine q_then ?_; rw [h1]; rw [h5]; refine pw_cf rfl (pw_skip (pzr (yAd rfl (yQ (pw_ret ?_)))))
   exact q_ret _ (.tmp rfl .nil) rfl
end Go.Proofs.YtddfimjiihggmaaGreatDoor
namespace Go.Proofs
open Go.Shelf
def Tryz.sortAcc_ren : Go.Shelf.Ren := ⟨fun | 6 => 52 | 15 => 104 | 14 => 103 | 28 => 153 | 29 => 154 | 20 => 145 | 21 => 146 | 22 => 147 | 23 => 148 | 24 => 149 | 25 => 150 | 26 => 151 | 27 => 152 | 46 => 199 | 47 => 200 | 48 => 201 | 49 => 202 | 50 => 203 | 57 => 239 | n => n, fun | 22 => 23 | 24 => 48 | 25 => 89 | 3 => 3 | 39 => 151 | 0 => 0 | 53 => 196 | 55 => 198 | 4 => 4 | 46 => 189 | 45 => 188 | 50 => 193 | 5 => 5 | 9 => 9 | 66 => 227 | 70 => 231 | 76 => 258 | 77 => 259 | n => n, fun | n => n⟩
theorem Tryz.sortAcc : Go.Proofs.SlLaysF0.n6 Tryz.prog Tryz.sortAcc_ren := {
 mixed := by kernel_rfl
 f6 := ⟨Tryz.f52.name, by decide, Tryz.func52.trans (congrArg some (by kernel_rfl))⟩
 f14 := ⟨Tryz.f103.name, by decide, Tryz.func103.trans (congrArg some (by kernel_rfl))⟩
 f15 := Tryz.func104.trans (congrArg some (by kernel_rfl))
 f20 := ⟨Tryz.f145.name, by decide, Tryz.func145.trans (congrArg some (by kernel_rfl))⟩
 f21 := ⟨Tryz.f146.name, by decide, Tryz.func146.trans (congrArg some (by kernel_rfl))⟩
 f22 := ⟨Tryz.f147.name, by decide, Tryz.func147.trans (congrArg some (by kernel_rfl))⟩
 f23 := ⟨Tryz.f148.name, by decide, Tryz.func148.trans (congrArg some (by kernel_rfl))⟩
 f24 := ⟨Tryz.f149.name, by decide, Tryz.func149.trans (congrArg some (by kernel_rfl))⟩
 f25 := ⟨Tryz.f150.name, by decide, Tryz.func150.trans (congrArg some (by kernel_rfl))⟩
 f26 := ⟨Tryz.f151.name, by decide, Tryz.func151.trans (congrArg some (by kernel_rfl))⟩
 f27 := ⟨Tryz.f152.name, by decide, Tryz.func152.trans (congrArg some (by kernel_rfl))⟩
 f28 := Tryz.func153.trans (congrArg some (by kernel_rfl))
 f29 := Tryz.func154.trans (congrArg some (by kernel_rfl))
 f46 := ⟨Tryz.f199.name, by decide, Tryz.func199.trans (congrArg some (by kernel_rfl))⟩
 f47 := Tryz.func200.trans (congrArg some (by kernel_rfl))
 f48 := Tryz.func201.trans (congrArg some (by kernel_rfl))
 f49 := ⟨Tryz.f202.name, by decide, Tryz.func202.trans (congrArg some (by kernel_rfl))⟩
 f50 := ⟨Tryz.f203.name, by decide, Tryz.func203.trans (congrArg some (by kernel_rfl))⟩
 f57 := ⟨Tryz.f239.name, by decide, Tryz.func239.trans (congrArg some (by kernel_rfl))⟩
 t0 := Tryz.underlying0
 a0 := Tryz.isAgg0
 z0 := Tryz.sizeOf0
 v0 := Tryz.zeroValue0
 t3 := Tryz.underlying3
 a3 := Tryz.isAgg3
 z3 := Tryz.sizeOf3
 v3 := Tryz.zeroValue3
 t4 := Tryz.underlying4
 a4 := Tryz.isAgg4
 z4 := Tryz.sizeOf4
 v4 := Tryz.zeroValue4
 t5 := Tryz.underlying5
 a5 := Tryz.isAgg5
 z5 := Tryz.sizeOf5
 v5 := Tryz.zeroValue5
 t9 := Tryz.underlying9
 a9 := Tryz.isAgg9
 z9 := Tryz.sizeOf9
 v9 := Tryz.zeroValue9
 t22 := Tryz.underlying23
 a22 := Tryz.isAgg23
 z22 := Tryz.sizeOf23
 v22 := Tryz.zeroValue23
 t25 := Tryz.underlying89
 a25 := Tryz.isAgg89
 z25 := Tryz.sizeOf89
 v25 := Tryz.zeroValue89
 t39 := Tryz.underlying151
 a39 := Tryz.isAgg151
 z39 := Tryz.sizeOf151
 v39 := Tryz.zeroValue151
 t45 := Tryz.underlying188
 a45 := Tryz.isAgg188
 z45 := Tryz.sizeOf188
 v45 := Tryz.zeroValue188
 t46 := Tryz.underlying189
 a46 := Tryz.isAgg189
 z46 := Tryz.sizeOf189
 v46 := Tryz.zeroValue189
 t50 := Tryz.underlying193
 a50 := Tryz.isAgg193
 z50 := Tryz.sizeOf193
 v50 := Tryz.zeroValue193
 t53 := Tryz.underlying196
 a53 := Tryz.isAgg196
 z53 := Tryz.sizeOf196
 v53 := Tryz.zeroValue196
 t55 := Tryz.underlying198
 a55 := Tryz.isAgg198
 z55 := Tryz.sizeOf198
 v55 := Tryz.zeroValue198
 t66 := Tryz.underlying227
 a66 := Tryz.isAgg227
 z66 := Tryz.sizeOf227
 v66 := Tryz.zeroValue227
 t70 := Tryz.underlying231
 a70 := Tryz.isAgg231
 z70 := Tryz.sizeOf231
 v70 := Tryz.zeroValue231
 t76 := Tryz.underlying258
 a76 := Tryz.isAgg258
 z76 := Tryz.sizeOf258
 v76 := Tryz.zeroValue258
 t77 := Tryz.underlying259
 a77 := Tryz.isAgg259
 z77 := Tryz.sizeOf259
 v77 := Tryz.zeroValue259 }
end Go.Proofs
namespace Go.Proofs.YtddfimjiihggmaaGreatDoor
open Go.RowKit Px Go.Sort Go.Lib
open Go.RowKit Px Go.Sort Go.Shelf Go.Lib
def encAc (a : Ac) : List Value := [vS a.1, .int .i64 a.2]
theorem ltOf_cmA (x y : Ac) : ltOf cmA x y = lt8 x.1 y.1 := by
 unfold ltOf cmA
 cases h1 : lt8 x.1 y.1 with
 | true => simp
 | false => cases h2 : lt8 y.1 x.1 <;> simp
theorem swoA : SWO (ltOf cmA) where
 irrefl x := by rw [ltOf_cmA]; exact ltS_irrefl _
 trans x y z h1 h2 := by rw [ltOf_cmA] at *; exact ltS_trans h1 h2
 ntrans x y z h1 h2 := by
  rw [ltOf_cmA] at *
  show ltS x.1 z.1 = false
  change ltS x.1 y.1 = false at h1
  change ltS y.1 z.1 = false at h2
  cases e : ltS x.1 z.1 with
  | false => rfl
  | true =>
   rcases ltS_total x.1 y.1 with h | h | h
   · rw [h] at h1; cases h1
   · rw [h, h2] at e; cases e
   · rw [ltS_trans h e] at h2; cases h2
theorem cmpA_calls (x y : Ac) (W : World) : Calls Tryz.prog 53 #[.agg #[vS x.1, .int .i64 x.2], .agg #[vS y.1, .int .i64 y.2]] W fun e w' => e = .returned (.int .i64 (cmA x y)) ∧ ∃ q os', w' = grow (W.drewN q) os' := by
 obtain ⟨a, m⟩ := x
 obtain ⟨b, n⟩ := y
 have hb : ∀ t, binOp .lss t (vS a) (vS b) = Sem.pure (.bool (lt8 a b)) := fun t => by
  show Sem.pure (Value.bool (Op.bytesLess (ByteArray.mk a.toArray).toList (ByteArray.mk b.toArray).toList)) = _
  rw [str_list, str_list]
 have hg : ∀ t, binOp .gtr t (vS a) (vS b) = Sem.pure (.bool (!(lt8 a b || a == b))) := fun t => by
  show Sem.pure (Value.bool (!(Op.bytesLess (ByteArray.mk a.toArray).toList (ByteArray.mk b.toArray).toList || (ByteArray.mk a.toArray).toList == (ByteArray.mk b.toArray).toList))) = _
  rw [str_list, str_list]
 have hle := le_nlt a b
 unfold cmA
 simp only
 cases h1 : lt8 a b with
 | true =>
  rw [h1] at hb
  rw [if_pos rfl]
  clear hg hle
  go_enter Tryz.func53, Tryz.ntmps53
  go_wp2
  go_ret
  exact ⟨rfl, 0, _, by rw [alloc_eq_grow, alloc_eq_grow, grow_grow]; rfl⟩
 | false =>
  rw [hle] at hg
  rw [h1] at hb
  rw [if_neg (by simp)]
  cases h2 : lt8 b a with
  | true =>
   rw [h2] at hg
   simp only [Bool.not_true, Bool.not_false] at hg
   rw [if_pos rfl]
   clear hle
   go_enter Tryz.func53, Tryz.ntmps53
   go_wp2
   go_ret
   exact ⟨rfl, 0, _, by rw [alloc_eq_grow, alloc_eq_grow, grow_grow]; rfl⟩
  | false =>
   rw [h2] at hg
   simp only [Bool.not_true, Bool.not_false] at hg
   rw [if_neg (by simp)]
   clear hle
   go_enter Tryz.func53, Tryz.ntmps53
   go_wp2
   go_ret
   exact ⟨rfl, 0, _, by rw [alloc_eq_grow, alloc_eq_grow, grow_grow]; rfl⟩
def srtA (l : List Ac) : List Ac := (pdq (ltOf cmA) l.toArray 0 l.length (Lib.bitLen l.length) true true).toList
theorem srtA_spec (l : List Ac) : (srtA l).length = l.length ∧ (srtA l).Perm l := by
 have h := pdq_sorts (ltOf cmA) swoA l.toArray 0 l.length (Lib.bitLen l.length) true true (Nat.zero_le _) (by simp) (Or.inl rfl)
 obtain ⟨h1, -, h3⟩ := h.1
 unfold srtA
 obtain ⟨D, hD⟩ : ∃ D, D = pdq (ltOf cmA) l.toArray 0 l.length (Lib.bitLen l.length) true true := ⟨_, rfl⟩
 rw [← hD] at h1 h3 ⊢
 have hs : D.size = l.length := by simpa using h1
 refine ⟨by simpa using hs, ?_⟩
 have e1 : D.extract 0 l.length = D := by rw [← hs]; simp
 have e2 : l.toArray.extract 0 l.length = l.toArray := by simp
 rw [e1, e2] at h3
 simpa using h3
def vAc (l : List Ac) : List Value := l.flatMap encAc
theorem vAc_len (l : List Ac) : (vAc l).length = l.length * 2 := by
 induction l with
 | nil => rfl
 | cons x l ih => show (encAc x ++ vAc l).length = _; rw [List.length_append, ih, List.length_cons, show (encAc x).length = 2 from rfl]; omega
theorem vAc_get (l : List Ac) (t : Nat) (h : t < l.length * 2) : (vAc l)[t]? = some ((encAc l[t / 2]!)[t % 2]!) := by
 induction l generalizing t with
 | nil => simp at h
 | cons x l ih =>
  have e : vAc (x :: l) = encAc x ++ vAc l := rfl
  rw [e]
  rw [List.length_cons] at h
  have hl : (encAc x).length = 2 := rfl
  by_cases h2 : t < 2
  · rw [List.getElem?_append_left (by omega), show t / 2 = 0 by omega, show t % 2 = t by omega, show (x :: l)[0]! = x from rfl, List.getElem?_eq_getElem (by omega), getElem!_pos (encAc x) t (by omega)]
  · rw [List.getElem?_append_right (by omega), hl, ih (t - 2) (by omega), show t / 2 = (t - 2) / 2 + 1 by omega, show t % 2 = (t - 2) % 2 by omega]
    rfl
theorem flatA_list (l : List Ac) : flatK encAc 2 l.toArray = (vAc l).toArray := by
 refine ext_get! (by rw [size_flatK, List.size_toArray, List.size_toArray, vAc_len]) fun t ht => ?_
 have ht' : t < l.length * 2 := by simpa using ht
 rw [get_flatK encAc 2 l.toArray t (by simpa using ht')]
 have h1 := vAc_get l t ht'
 have h2 : t < (vAc l).length := by rw [vAc_len]; exact ht'
 rw [getElem!_pos (vAc l).toArray t (by simpa using h2)]
 rw [List.getElem?_eq_getElem h2] at h1
 have h3 : l.toArray[t / 2]! = l[t / 2]! := by simp
 rw [h3, List.getElem_toArray]
 exact (Option.some.inj h1).symm
theorem take_putA (cur : Array Value) (ts : List Value) (h : ts.length ≤ cur.size) : (putCells id 0 ts.toArray cur).toList.take ts.length = ts := by
 apply List.ext_getElem?
 intro j
 by_cases hj : j < ts.length
 · rw [List.getElem?_take_of_lt hj, Array.getElem?_toList]
   simp [putCells, hj, show j < cur.size by omega]
 · rw [List.getElem?_take_eq_none (by omega), List.getElem?_eq_none (by omega)]
theorem sort_acc (l : List Ac) (hl0 : l ≠ []) (hl : l.length ≤ 1000000) : PRow Tryz.prog 52 48 2 [.func (.func 53) #[] #[]] (vAc l) (vAc (srtA l)) := by
 intro w v n hown hone
 have hpos : 0 < l.length := List.length_pos_iff.2 hl0
 have hn : n = l.length := by
  have := hown.1
  rw [vAc_len] at this
  omega
 subst hn
 obtain ⟨hsl, hsp⟩ := srtA_spec l
 have hlr : (vAc (srtA l)).length = l.length * 2 := by rw [vAc_len, hsl]
 rcases hown.2 with ⟨rfl, h0⟩ | ⟨g, cap, cur, rfl, hg, hb, hn, hcap, hsz, ht⟩
 · omega
 · have hH : HoldsK encAc 2 w g 0 l.toArray := by
    unfold HoldsK
    rw [flatA_list]
    intro j hj
    have hj' : j < (vAc l).length := by simpa using hj
    refine ⟨?_, by simp [World.frozen?, hb]⟩
    have h1 : (cur.toList.take (l.length * 2))[j]? = (vAc l)[j]? := by rw [ht]
    rw [List.getElem?_take_of_lt (by rw [← vAc_len]; exact hj')] at h1
    simp only [World.cell?, hb, Nat.zero_add]
    simp only [Option.isSome_none, Bool.false_eq_true, if_false]
    rw [← Array.getElem?_toList, h1, List.getElem?_eq_getElem hj', getElem!_pos (vAc l).toArray j (by simpa using hj')]
    simp
   have eg : ∀ args w, (callFunc 53 args).run Tryz.prog w = .ok (.enter 53 args) w := enters_of Tryz.func53 (by kernel_rfl) rfl
   have h := AnyQ.slices_SortFunc_eq Tryz.sortAcc 2 (fun w => Tryz.isAgg48 w) (fun w => Tryz.sizeOf48 w) encAc (fun _ => rfl) (fun x v hv => by
    simp only [encAc, List.mem_cons, List.not_mem_nil, or_false] at hv
    rcases hv with rfl | rfl <;> rfl) cmA swoA 53 #[] g 0 cap l.toArray w eg (fun _ _ _ _ x y => cmpA_calls x y _) hH (Array.getElem?_eq_some_iff.1 hb).1 (by simp; omega)
   simp only [List.size_toArray] at h
   refine h.mono ?_
   rintro e w' ⟨rfl, q, os, rfl⟩
   have hfl : sortWorldK encAc 2 w g 0 q (pdq (ltOf cmA) l.toArray 0 l.length (Lib.bitLen l.length) true true) os = grow (putRow id (Sort.ahead w q) g 0 (vAc (srtA l)).toArray) os := by
    unfold sortWorldK putRowK
    rw [← flatA_list]
    simp [srtA]
   rw [hfl]
   have hgs : g < w.heap.size := (Array.getElem?_eq_some_iff.1 hb).1
   have hheap : (grow (putRow id (Sort.ahead w q) g 0 (vAc (srtA l)).toArray) os).heap[g]? = some (.cells (putCells id 0 (vAc (srtA l)).toArray cur) 48 (0, 0)) := by
    show ((putRow id (Sort.ahead w q) g 0 (vAc (srtA l)).toArray).heap ++ os)[g]? = _
    rw [Array.getElem?_append_left (by simp [putRow, mapBlock, Sort.ahead, hgs])]
    simp [putRow, mapBlock, Sort.ahead, Array.getElem?_modify, hb, onCells]
   refine ⟨rfl, ⟨hlr, .inr ⟨g, cap, _, rfl, hg, hheap, hn, hcap, by simp [putCells, hsz], ?_⟩⟩, fun u hu => ?_, ?_⟩
   · rw [← hlr]
     exact take_putA cur _ (by rw [hlr, hsz]; exact Nat.mul_le_mul_right _ hn)
   · obtain ⟨s, -, hs⟩ := List.mem_flatMap.1 hu
     simp only [encAc, List.mem_cons, List.not_mem_nil, or_false] at hs
     rcases hs with rfl | rfl <;> rfl
   · refine ⟨rfl, rfl, rfl, ?_, fun k hk hne => ?_⟩
     · show w.heap.size ≤ ((putRow id (Sort.ahead w q) g 0 (vAc (srtA l)).toArray).heap ++ os).size
       simp [putRow, mapBlock, Sort.ahead]
     · have : g ≠ k := fun e => hne (by rw [e]; rfl)
       show ((putRow id (Sort.ahead w q) g 0 (vAc (srtA l)).toArray).heap ++ os)[k]? = _
       rw [Array.getElem?_append_left (by simp [putRow, mapBlock, Sort.ahead, hk])]
       simp [putRow, mapBlock, Sort.ahead, Array.getElem?_modify, this]
end Go.Proofs.YtddfimjiihggmaaGreatDoor
namespace Go.Proofs.YtddfimjiihggmaaGreatDoor.Px
open Go.RowKit
section
variable {P : Program} {ops : Array Oper} {K : PS → Prop} {rest : List Oper} {st : PS} {ty : TypeId} {pos : String} {af : Array Edge} {gd : Option (Nat × Bool)}
theorem yRbF {f E k i n : Nat} {e : Option Nat} {x : Operand} {l : List Operand} {ts : Array TypeId} {args vs vs' : List Value} [hB : HasBody P f] (hc : PRow P f E k args vs vs') (hn : vs.length = n * k) (hx : st.ev x = .bs i n E k) (hi : st.bget i = some (vs.map fun u => .d (.val u))) (ha : ∀ a : Act, l.map a.eval = args)
 (h : YR P true ops K rest ((st.bput i (vs'.map fun u => .d (.val u))).put e (.tup []))) (hd : dstOk ⟨e, .call { callee := .value (.func f), args := (x :: l).toArray, argTypes := ts }, ty, pos, af, gd⟩ st = true := by kernel_rfl)
 (hw : st.want ops ⟨e, .call { callee := .value (.func f), args := (x :: l).toArray, argTypes := ts }, ty, pos, af, gd⟩ = some true := by rfl) (hlt : Nat.blt i 500000 = true := by rfl) :
 YR P true ops K (⟨e, .call { callee := .value (.func f), args := (x :: l).toArray, argTypes := ts }, ty, pos, af, gd⟩ :: rest) st := by
 refine .any rfl fun B w0 Q hQ g a w hr => ?_
 have h1 := hr.eval x
 rw [hx] at h1
 obtain ⟨b, c, q1, q2, q3, q4, q5⟩ := h1
 have hlt := Nat.le_of_ble_eq_true hlt
 obtain ⟨b', xs, T, q6, q7, q8, q9, q10⟩ := hr.boxes i _ hi hlt
 rw [q1] at q6
 cases q6
 have hsh : T = E ∧ xs.size = c * k := by
  simp only [World.shape?, q7, Option.some.injEq, Prod.mk.injEq] at q5
  exact q5
 obtain ⟨rfl, hsz⟩ := hsh
 rw [List.length_map] at q8 q10
 have hxv : ∀ (j : Nat) u, vs[j]? = some u → xs[j]? = some u ∧ u.oneCell' = true := fun j u hj => by
  obtain ⟨u', t1, t2⟩ := q9 j (.d (.val u)) (by rw [List.getElem?_map, hj]; rfl)
  have t3 := DRep.val_eq t2
  subst t3
  exact ⟨t1, q10 j u' (List.getElem?_eq_some_iff.1 hj).1 t1⟩
 have hone : ∀ u ∈ vs, u.oneCell' = true := fun u hu => by
  obtain ⟨j, hj⟩ := List.mem_iff_getElem?.1 hu
  exact (hxv j u hj).2
 have hown : w.ownsRow 0 T k (a.eval x) n vs := by
  rw [q2]
  refine ⟨hn, .inr ⟨b, c, xs, rfl, Nat.zero_le _, q7, q3, q4, hsz, ?_⟩⟩
  refine List.ext_getElem? fun j => ?_
  by_cases hj : j < n * k
  · rw [List.getElem?_take_of_lt hj]
    have hjv := List.getElem?_eq_getElem (l := vs) (i := j) (by omega)
    rw [hjv]
    simpa using (hxv j _ hjv).1
  · rw [List.getElem?_eq_none (by simp; omega), List.getElem?_eq_none (by omega)]
 have hcall := hc w (a.eval x) n hown hone
 have hargs : ((x :: l).map a.eval).toArray = (a.eval x :: args).toArray := by
  rw [List.map_cons, ha a]
 unfold wpList
 rw [if_pos (want_spec hr hw)]
 refine .inl ?_
 unfold Oper.wp
 rw [run_call]
 show Calls P f _ w _
 rw [hargs]
 refine hcall.mono ?_
 rintro e' w' ⟨rfl, h3, h4, h5⟩
 rw [q2] at h3 h5
 obtain ⟨hvl', (⟨t0, -⟩ | ⟨gb, cap, cur, t1, -, t2, t3, t4, t5, t6⟩)⟩ := h3
 · cases t0
 cases t1
 have hvs' : ∀ (j : Nat) u, vs'[j]? = some u → cur[j]? = some u := fun j u hj => by
  rw [← t6] at hj
  have hj' : j < n * k := by have := (List.getElem?_eq_some_iff.1 hj).1; rw [List.length_take] at this; omega
  rw [List.getElem?_take_of_lt hj'] at hj
  simpa using hj
 have hr' : Rep B w0 g (st.bput i (vs'.map fun u => .d (.val u))) a w' := by
  refine hr.seto i b _ q1 ⟨h5.os, h5.tape, h5.output, h5.size, fun k hk => by omega⟩ (fun k hk hne => h5.block k hk (fun e => hne (by simpa [Value.ownBlock] using e))) ?_ (fun _ _ => ⟨cur, T, t2, ?_, fun j c hj => ?_, fun j u hj hu => ?_⟩) fun _ hge => by omega
  · simp [World.shape?, t2, q7, t5, hsz]
  · rw [List.length_map, hvl', t5]; exact Nat.mul_le_mul_right _ q3
  · rw [List.getElem?_map, Option.map_eq_some_iff] at hj
    obtain ⟨u, hu, rfl⟩ := hj
    exact ⟨u, hvs' j u hu, DRep.val u (h4 u (List.mem_of_getElem? hu))⟩
  · have hjv := List.getElem?_eq_getElem (l := vs') (i := j) (by simpa using hj)
    have := hvs' j _ hjv
    rw [hu] at this
    cases this
    exact h4 _ (List.getElem_mem _)
 exact h.sound hQ (hr'.put (x := .tup []) ⟨[], rfl, rfl, fun i y x hy => by simp at hy⟩ _ (dstOk_spec (st := st) hd))
end
end Go.Proofs.YtddfimjiihggmaaGreatDoor.Px
namespace Go.Proofs.YtddfimjiihggmaaGreatDoor
open Go.RowKit Px Go.Sort Go.Shelf Go.Lib
def phA2 (xs : List DV) (r : SV) : Prop := ∃ a b : Ac, xs = [.agg (dAc a), .agg (dAc b)] ∧ r = .d (dI (cmA a b))
theorem hPhA2 : ∀ xs r, phA2 xs r → PCalls Tryz.prog 53 xs r := by
 rintro _ _ ⟨a, b, rfl, rfl⟩
 exact wCmpA a b
theorem wSortA0 : PCalls Tryz.prog 52 [.sl 2 [], dF Tryz.prog phA2] (.tup []) := fun F w vals hl hr hg => by
 obtain ⟨v, u, rfl⟩ : ∃ v u, vals = [v, u] := by
  match vals, hl with
  | [v, u], _ => exact ⟨v, u, rfl⟩
 obtain ⟨A, c, news, rfl, -⟩ := DRep.row (hr 0 v _ rfl rfl)
 refine (AnyF.slices_SortFunc_none (P := Tryz.prog) (ρ := Tryz.sortAcc_ren) { Tryz.sortAcc with } A c u w).mono ?_
 rintro e w' ⟨rfl, rfl⟩
 exact ⟨.tuple #[], rfl, ⟨[], rfl, rfl, fun i y x hy => by simp at hy⟩, Below.refl _ _⟩
theorem ru_more {l : List Ru} {a b : List Ac} (h : ∀ x ∈ a, x ∈ b) (hu : (ruI l a).2 = 0) (hb : ctE b = 0) : (ruI l b).2 = 0 := by
 unfold ruI at hu ⊢
 rw [if_neg (by simp [hb])]
 split at hu
 · cases hu
 · split at hu
   · cases hu
   · rename_i h1
     rw [if_neg h1]
     exact use_more (tp := tmpB nameB) (ce := chE) (nm := nf) h hu
theorem ru_num {l : List Ru} {a : List Ac} : ((ruI l a).2 = 0 → (ruI l a).1 = 0) ∧ ((ruI l a).2 ≠ 0 → (ruI l a).1 = 0 ∨ (0 < (ruI l a).1 ∧ (ruI l a).1 < l.length)) := by
 unfold ruI
 split
 · exact ⟨fun h => (by cases h), fun _ => .inl rfl⟩
 · split
   · exact ⟨fun h => (by cases h), fun _ => .inl rfl⟩
   · have h := useI_num (tp := tmpB nameB) (ce := chE) (nm := nf) (ch := a) l 0 []
     refine ⟨h.1, fun h1 => ?_⟩
     have h2 := h.2 h1
     omega
theorem ru_use {l : List Ru} {a : List Ac} (h : (ruI l a).2 = 0) {r : Ru} (hr : r ∈ l) : fndR l r.1 = some r ∧ rulE r = 0 ∧ balB r.2 = true ∧ (kndF r.1).isSome = true ∧ ∀ x ∈ r.2, chE x.2.2 = 0 ∧ ((nf x.2.2).map (·.1)).any (fun s => !(nmsK r.1).contains s) = false ∧ (fndA x.1 a).2 = true := by
 have hu : (useI (tmpB nameB) chE nf a 0 [] l).2 = 0 := by
  unfold ruI at h
  split at h
  · cases h
  · split at h
    · cases h
    · exact h
 obtain ⟨h1, h2, h3, h4⟩ := use_find hu hr
 obtain ⟨⟨k, hk⟩, -, hw⟩ := (rE_zero _ _).1 h2
 refine ⟨h1, h2, h4, by rw [hk]; rfl, fun x hx => ?_⟩
 obtain ⟨⟨-, q2⟩, q3⟩ := (luE_zero _).1 (h3 k hk x hx)
 refine ⟨(hw x hx).2, ?_, q3⟩
 rw [List.any_map, List.any_eq_false]
 intro c hc
 have hnk : nmsK r.1 = k.2.2.1 := by rw [nmsK, hk]; rfl
 have := q2 c hc
 simp only [Function.comp_apply, hnk, this]
 decide
open Go.RowKit Px
theorem grtA_len {l : List Ac} (h : grtA l = false) : l.length ≤ 259 ∧ ∀ a ∈ l, a.1.length ≤ 120 := by
 unfold grtA at h
 simp only [Bool.or_eq_false_iff, Bool.and_eq_false_iff, decide_eq_false_iff_not, List.any_eq_false, decide_eq_true_eq] at h
 exact ⟨by omega, fun a ha => by have := h.1.1 a ha; omega⟩
theorem wUse1 (T : List Str) (hT : T.length ≤ 1000000) : ∀ xs r, phS (fun s => !T.contains s) xs r → PCalls Tryz.prog 49 (xs ++ [[dStrs T]].map DV.ref) r := by
 rintro _ _ ⟨s, rfl, rfl⟩
 show PCalls Tryz.prog 49 [dS s, .ref [dStrs T]] _
 have k1 := wContS T s hT
 obtain ⟨b, hb⟩ : ∃ b, b = T.contains s := ⟨_, rfl⟩
 rw [← hb] at k1
 show PCalls Tryz.prog 49 [dS s, .ref [dStrs T]] (.d (dB (!T.contains s)))
 rw [← hb]
 refine pcalls_of_pw Tryz.func49 rfl Tryz.ntmps49 Tryz.results49 (by simp) fun B w0 => ?_
 refine pw_ref 1 rfl ?_; refine pzr (yAd rfl (yQ (pzr (yLr rfl rfl (yMd rfl (yC (k1) rfl rfl (yU rfl rfl rfl (yAd rfl (yQ ?_))))))))); refine pw_ret ?_
 exact q_ret _ (.tmp rfl .nil) rfl
abbrev uJ (l : List Ru) (ch more : List Ac) : PS := ⟨168, [(0, .d (dRus l)), (1, .d (.sl 2 (ch.map dAc))), (2, .d (.sl 2 (more.map dAc)))], [], []⟩
theorem chunk_vAc (l : List Ac) : chunk 2 l.length ((vAc l).map .val) = l.map dAc := by
 induction l with
 | nil => rfl
 | cons x l ih =>
  show chunk 2 (l.length + 1) (dS x.1 :: dI x.2 :: (vAc l).map .val) = _
  rw [chunk]
  show [dS x.1, dI x.2] :: chunk 2 l.length ((vAc l).map .val) = _
  rw [ih]
  rfl
theorem lawUse (l : List Ru) (ch more : List Ac) (hcl : ch.length ≤ 9223372036854775807) (hml : more.length ≤ 9223372036854775807) (hcc : ∀ a ∈ ch, a.1.length ≤ 9223372036854775807) :
 PCalls Tryz.prog 10 [dRus l, .sl 2 (ch.map dAc), .sl 2 (more.map dAc)] (.d (dB true)) := by
 have k0 := wAwake
 have k1 := wGreatRs [l] (by simp)
 simp only [List.map_cons, List.map_nil, List.any_cons, List.any_nil, Bool.or_false] at k1
 cases hg : grtL l with
 | true =>
  rw [hg] at k1
  refine pcalls_of_pw Tryz.func10 rfl Tryz.ntmps10 Tryz.results10 (by simp) fun B w0 => ?_
  refine pzr (yAd rfl (yQ (pw_seq (pzr (yMd rfl ?_))))); refine yR (es := [[_]]) rfl rfl rfl rfl rfl ?_; refine yC (k1) rfl rfl (yMd rfl (yO rfl (yO rfl (yO rfl (yO rfl (yO rfl (yO rfl (yO rfl (yPd rfl rfl ?_))))))))); refine yMd rfl (yO rfl (yO rfl (yPd rfl rfl (yQ (pw_ct rfl (pzr (yC (k0) rfl rfl (yAd rfl (yQ ?_))))))))); refine pw_ret (q_then_ret ?_)
  exact q_ret _ (.tmp rfl .nil) rfl
 | false =>
 rw [hg] at k1
 have q1 := wGreatAB ch hcl
 have q2 := wGreatAB more hml
 by_cases hbig : (grtA ch = true ∧ ch.length ≠ 16) ∨ grtA more = true
 · obtain ⟨a1, ha1⟩ : ∃ b, b = grtA ch := ⟨_, rfl⟩
   obtain ⟨a2, ha2⟩ : ∃ b, b = grtA more := ⟨_, rfl⟩
   rw [← ha1] at q1 hbig
   rw [← ha2] at q2 hbig
   obtain ⟨b16, hb16⟩ : ∃ b, b = (((ch.map dAc).length : Int) != 16) := ⟨_, rfl⟩
   have t16 := hb16.symm
   have hb2 : ch.length ≠ 16 → b16 = true := fun h => by rw [hb16]; simp; omega
   cases a1 with
   | true =>
    cases b16 with
    | true =>
     refine pcalls_of_pw Tryz.func10 rfl Tryz.ntmps10 Tryz.results10 (by simp) fun B w0 => ?_
     refine pzr (yAd rfl (yQ (pw_seq (pzr (yMd rfl ?_))))); refine yR (es := [[_]]) rfl rfl rfl rfl rfl ?_; refine yC (k1) rfl rfl (yMd rfl (yMd rfl (yC (q1) rfl rfl (yMd rfl (yMd rfl (yN rfl (yB rfl rfl rfl rfl (yPd rfl rfl (yVd rfl rfl ?_))))))))); refine yMd rfl ?_; rw [t16]
     refine yO rfl (yO rfl (yPd rfl rfl (yQ (pw_ct rfl (pzr (yC (k0) rfl rfl (yAd rfl (yQ (pw_ret ?_))))))))); refine q_then_ret ?_
     exact q_ret _ (.tmp rfl .nil) rfl
    | false =>
     have : a2 = true := by
      rcases hbig with h | h
      · exact absurd (hb2 h.2) (by simp)
      · exact h
     subst this
     refine pcalls_of_pw Tryz.func10 rfl Tryz.ntmps10 Tryz.results10 (by simp) fun B w0 => ?_
     refine pzr (yAd rfl (yQ (pw_seq (pzr (yMd rfl ?_))))); refine yR (es := [[_]]) rfl rfl rfl rfl rfl ?_; refine yC (k1) rfl rfl (yMd rfl (yMd rfl (yC (q1) rfl rfl (yMd rfl (yMd rfl (yN rfl (yB rfl rfl rfl rfl (yPd rfl rfl (yVd rfl rfl ?_))))))))); refine yMd rfl ?_; rw [t16]
     refine yMd rfl (yC (q2) rfl rfl (yVd rfl rfl (yQ (pw_ct rfl (pzr (yC (k0) rfl rfl (yAd rfl (yQ (pw_ret ?_))))))))); refine q_then_ret ?_
     exact q_ret _ (.tmp rfl .nil) rfl
   | false =>
    have : a2 = true := by
     rcases hbig with h | h
     · cases h.1
     · exact h
    subst this
    refine pcalls_of_pw Tryz.func10 rfl Tryz.ntmps10 Tryz.results10 (by simp) fun B w0 => ?_
    refine pzr (yAd rfl (yQ (pw_seq (pzr (yMd rfl ?_))))); refine yR (es := [[_]]) rfl rfl rfl rfl rfl ?_; refine yC (k1) rfl rfl (yMd rfl (yMd rfl (yC (q1) rfl rfl (yMd rfl (yO rfl (yO rfl (yO rfl (yVd rfl rfl (yVd rfl rfl ?_))))))))); refine yMd rfl (yMd rfl (yC (q2) rfl rfl (yVd rfl rfl (yQ (pw_ct rfl (pzr (yC (k0) rfl rfl (yAd rfl (yQ ?_))))))))); refine pw_ret (q_then_ret ?_)
    exact q_ret _ (.tmp rfl .nil) rfl
 have hmf : grtA more = false := by
  cases h : grtA more with
  | false => rfl
  | true => exact absurd (.inr h) hbig
 obtain ⟨hm1, hm2⟩ := grtA_len hmf
 rw [hmf] at q2
 have hch : ch.length ≤ 259 := by
  cases h : grtA ch with
  | false => exact (grtA_len h).1
  | true =>
   have : ch.length = 16 := Decidable.byContradiction fun h2 => hbig (.inl ⟨h, h2⟩)
   omega
 have hcond : grtA ch = true → (((ch.map dAc).length : Int) != 16) = false := fun h => by
  have : ch.length = 16 := Decidable.byContradiction fun h2 => hbig (.inl ⟨h, h2⟩)
  rw [List.length_map, this]; rfl
 clear hbig hmf
 obtain ⟨hl1, hl2⟩ := grt_bdR hg
 obtain ⟨a1, ha1⟩ : ∃ b, b = grtA ch := ⟨_, rfl⟩
 rw [← ha1] at q1 hcond
 clear ha1 hg
 have c0 := wCheckRuB l ch hl1 hl2 (by omega) hcc
 have hnum := ru_num (l := l) (a := ch)
 have huse := fun h : (ruI l ch).2 = 0 => fun (r : Ru) (hr : r ∈ l) => ru_use h hr
 have hmore := fun (b : List Ac) (h : ∀ x ∈ ch, x ∈ b) (h1 : (ruI l ch).2 = 0) (h2 : ctE b = 0) => ru_more (l := l) h h1 h2
 obtain ⟨⟨E1, E2⟩, hE⟩ : ∃ E, E = ruI l ch := ⟨_, rfl⟩
 rw [← hE] at c0 hnum huse hmore
 simp only at c0 hnum huse hmore
 clear hE
 refine pcalls_of_pw Tryz.func10 rfl Tryz.ntmps10 Tryz.results10 (by simp) fun B w0 => ?_
 refine pzr (yAd rfl (yQ (pw_seq (pzr (yMd rfl ?_))))); refine yR (es := [[_]]) rfl rfl rfl rfl rfl ?_; refine yC (k1) rfl rfl (yMd rfl (yMd rfl (yC (q1) rfl rfl (yMd rfl ?_))))
 first | refine yr_join (uJ l ch more) ?_ ?_ | refine yr_join2 (uJ l ch more) ?_ ?_
 rotate_left
 · cases a1 with
   | true =>
    have t16 := hcond rfl
    refine yMd rfl (yN rfl (yB rfl rfl rfl rfl (yPd rfl rfl (yVd rfl rfl (yMd rfl ?_))))); rw [t16]; refine yMd rfl (yC (q2) rfl rfl (yVd rfl rfl (yQ (pw_cf rfl (pw_skip (q_then ?_))))))
    exact ⟨rfl, ⟨.refl _, .refl _, .refl _, trivial⟩, trivial, trivial, rfl⟩
   | false =>
    refine yO rfl (yO rfl (yO rfl (yVd rfl rfl (yVd rfl rfl (yMd rfl (yMd rfl (yC (q2) rfl rfl (yVd rfl rfl (yQ ?_))))))))); refine pw_cf rfl (pw_skip (q_then ?_))
    exact ⟨rfl, ⟨.refl _, .refl _, .refl _, trivial⟩, trivial, trivial, rfl⟩
 by_cases hE2 : E2 = 0
 rotate_left
 · have t1 : (E2 != 0) = true := by simp [hE2]
   rcases hnum.2 hE2 with h | ⟨h, h'⟩
   · subst h
     refine pzr (yMd rfl (yMd rfl (yC (c0) rfl rfl (yMp rfl (yX rfl rfl (yX rfl rfl (yAd rfl (yAd rfl (yQ ?_))))))))); refine pw_seq (pzr (yMd rfl (yB rfl rfl rfl rfl (yQ (q_then ?_))))); rw [t1]; refine pw_ct rfl (pzr (yMd rfl (yB rfl rfl rfl rfl (yMd rfl (yO rfl (yO rfl (yO rfl (yO rfl (yO rfl ?_))))))))); refine yO rfl (yO rfl (yO rfl (yPd rfl rfl (yMd rfl (yC (k0) rfl rfl (yPd rfl rfl (yAd rfl (yQ (pw_ret ?_))))))))); refine q_then_ret ?_
     exact q_ret _ (.tmp rfl .nil) rfl
   · have t2 : (E1 == 0) = false := beq_false_of_ne (by omega)
     have t3 : decide (E1 > 0) = true := decide_eq_true (by omega)
     have t4 : decide (E1 < ((l.map dRu).length : Int)) = true := decide_eq_true (by rw [List.length_map]; omega)
     refine pzr (yMd rfl (yMd rfl (yC (c0) rfl rfl (yMp rfl (yX rfl rfl (yX rfl rfl (yAd rfl (yAd rfl (yQ ?_))))))))); refine pw_seq (pzr (yMd rfl (yB rfl rfl rfl rfl (yQ (q_then ?_))))); rw [t1]; refine pw_ct rfl (pzr (yMd rfl (yB rfl rfl rfl rfl (yMd rfl ?_)))); rw [t2]; refine yMd rfl (yB rfl rfl rfl rfl (yMd rfl ?_)); rw [t3]; refine yMd rfl (yMd rfl (yN rfl (yB rfl rfl rfl rfl (yPd rfl rfl (yVd rfl rfl (yMd rfl ?_)))))); rw [t4]; refine yC (k0) rfl rfl (yPd rfl rfl (yAd rfl (yQ (pw_ret (q_then_ret ?_)))))
     exact q_ret _ (.tmp rfl .nil) rfl
 obtain rfl := hnum.1 hE2
 subst hE2
 refine pzr (yMd rfl (yMd rfl (yC (c0) rfl rfl (yMp rfl (yX rfl rfl (yX rfl rfl (yAd rfl (yAd rfl (yQ ?_))))))))); refine pw_seq (pzr (yMd rfl (yB rfl rfl rfl rfl (yQ (pw_cf rfl (pw_skip (pw_seq (pzr (yMd rfl ?_))))))))); refine yB rfl rfl rfl rfl (yQ (pw_cf rfl (pw_skip (pw_seq (pzr (yMd rfl (yN rfl (yMd rfl (yQ ?_))))))))); refine pw_block ?_; refine pw_loop (fun i : Nat => ⟨168, [(0, .d (dRus l)), (1, .d (.sl 2 (ch.map dAc))), (2, .d (.sl 2 (more.map dAc))), (68, .d (dRus l)), (69, .d (dI l.length)), (70, .d (dI i))], [], []⟩) (fun i => i ≤ l.length) (fun i => l.length - i) 0 (Nat.zero_le _)
  ⟨rfl, ⟨.refl _, .refl _, .refl _, .refl _, .of_eq (congrArg (fun n : Nat => SV.d (dI n)) (by simp)), .refl _, trivial⟩, trivial, trivial, rfl⟩ ?_
 intro i hi
 rcases Nat.lt_or_ge i l.length with h | h
 · have u1 : decide ((i : Int) < (l.length : Int)) = true := decide_eq_true (by omega)
   obtain ⟨⟨n, ls⟩, hx⟩ : ∃ a, l[i]? = some a := ⟨_, List.getElem?_eq_getElem h⟩
   have hxm := List.mem_of_getElem? hx
   have ex := ix dRu l i i (n, ls) rfl hx
   have hw := wrapI ((i : Int) + 1) (by omega)
   have hbr := hl2 _ hxm
   obtain ⟨p1, p2, p3, p4, p5⟩ := huse rfl _ hxm
   simp only at p1 p2 p3 p4 p5
   have f0 := wFindR l n (by omega)
   rw [p1, show orR (some (n, ls)) = (n, ls) from rfl] at f0
   have b0 := wBalanced (n, ls) hbr
   rw [p2, p3, decide_eq_true rfl, Bool.true_and] at b0
   have n0 := wNamesK n
   rw [erK, p4, if_pos rfl] at n0
   have s0 := wSame [(n, ls)] [(n, ls)] (by simp) (fun r hr => by rw [List.mem_singleton.1 hr]; exact hbr)
   rw [decide_eq_true rfl] at s0
   have hTl : (nmsK n).length ≤ 1000000 := by
    have h2 : ∀ k ∈ kndL, k.2.2.1.length ≤ 4 := by decide
    rw [nmsK]
    cases h : kndF n with
    | none => simp
    | some k => exact Nat.le_trans (h2 k (kndF_some h).1) (by omega)
   obtain ⟨T, hT⟩ : ∃ T, T = nmsK n := ⟨_, rfl⟩
   rw [← hT] at n0 p5 hTl
   have h1 := wUse1 T hTl
   have arith : l.length - (i + 1) < l.length - i := by omega
   have hbl := hbr.2
   have hbll := hbr.1
   simp only at hbl hbll
   clear huse hmore hnum c0 hl2 hxm hx p1 p2 p3 p4 hT hbr
   refine pzr (yB rfl rfl rfl rfl (yQ (pw_seq ?_))); rw [u1]; refine pw_ct rfl (pw_skip (pw_seq (pw_block (pzr (yW ex (by omega) rfl rfl (yLs (ys := [_, _]) rfl rfl rfl (yZ (cs := [_, _]) rfl rfl (yS (cs' := [_, _]) rfl rfl rfl rfl rfl (yQ ?_))))))))); refine pzr (yMd rfl (yFb rfl (yLd rfl rfl rfl (yC (f0) rfl rfl (yMp rfl (yX rfl rfl (yX rfl rfl (yZ (cs := [_, _]) rfl rfl (yS (cs' := [_, _]) rfl rfl rfl rfl rfl ?_))))))))); refine yAd rfl (yQ (pzr (yLa (ys := [_, _]) rfl rfl rfl rfl (yC (b0) rfl rfl (yMp rfl (yX rfl rfl (yX rfl rfl (yAd rfl (yAd rfl ?_))))))))); refine yQ (pzr (yFb rfl (yLd rfl rfl rfl (yC (n0) rfl rfl (yMp rfl (yX rfl rfl (yX rfl rfl (yZ (cs := [_]) rfl rfl (ySl (cs' := [_]) rfl rfl rfl rfl ?_))))))))); refine yAd rfl (yQ (pw_seq (pzr (yMd rfl (yU rfl rfl rfl (yMd rfl (yLa (ys := [_, _]) rfl rfl rfl rfl ?_))))))); refine yR (es := [[_, _]]) rfl rfl rfl rfl rfl ?_; refine yLa (ys := [_, _]) rfl rfl rfl rfl ?_; refine yR (es := [[_, _]]) rfl rfl rfl rfl rfl ?_; refine yC (s0) rfl rfl (yU rfl rfl rfl (yVd rfl rfl (yMd rfl (yMd rfl (yB rfl rfl rfl rfl (yVd rfl rfl (yMd rfl (yMd rfl (yU rfl rfl rfl ?_))))))))); refine yVd rfl rfl (yMd rfl (yMd rfl (yB rfl rfl rfl rfl (yVd rfl rfl (yQ (pw_cf rfl (pw_skip (pzr (yFb rfl ?_))))))))); refine yLd rfl rfl rfl (yN rfl (yMd rfl (yQ (pw_block ?_)))); refine pw_loop (fun m : Nat => ⟨168, [(0, .d (dRus l)), (1, .d (.sl 2 (ch.map dAc))), (2, .d (.sl 2 (more.map dAc))), (68, .d (dRus l)), (69, .d (dI l.length)), (70, .d (dI i)), (15, .bx 15 0), (115, .d (.sl 3 (ls.map dLn))), (116, .d (dI ls.length)), (117, .d (dI m))], [(15, [.d (dStrs T)])], []⟩) (fun m => m ≤ ls.length) (fun m => ls.length - m) 0 (Nat.zero_le _)
    ⟨rfl, ⟨.refl _, .refl _, .refl _, .refl _, .refl _, .refl _, .refl _, .refl _, .of_eq (congrArg (fun n : Nat => SV.d (dI n)) (by simp)), .refl _, trivial⟩, ⟨⟨_, rfl, lesC_refl _⟩, trivial⟩, trivial, rfl⟩ ?_
   intro m hm
   rcases Nat.lt_or_ge m ls.length with h2 | h2
   · have u2 : decide ((m : Int) < (ls.length : Int)) = true := decide_eq_true (by omega)
     obtain ⟨⟨a, c, e⟩, hy⟩ : ∃ a, ls[m]? = some a := ⟨_, List.getElem?_eq_getElem h2⟩
     have hym := List.mem_of_getElem? hy
     have em := ix dLn ls m m (a, c, e) rfl hy
     have hw2 := wrapI ((m : Int) + 1) (by omega)
     obtain ⟨r1, r2, r3⟩ := p5 _ hym
     obtain ⟨v1, v2, v3⟩ := hbl _ hym
     simp only at r1 r2 r3 v1 v2 v3
     have nn := wNames e v2 fun c hc => (v3 c hc).2
     rw [r1, nmE, if_pos r1] at nn
     have fa := wFindA ch a
     rw [r3] at fa
     have hnl := nf_len e
     have hel := (chE_zero.1 r1).1
     obtain ⟨N, hN⟩ : ∃ N, N = (nf e).map (·.1) := ⟨_, rfl⟩
     have hNl : N.length ≤ 1000000 := by rw [hN, List.length_map]; omega
     rw [← hN] at nn r2
     have kh := wHasS (fun s => !T.contains s) N hNl
     rw [r2] at kh
     obtain ⟨⟨f1, f2⟩, hf⟩ : ∃ f, f = (fndA a ch).1 := ⟨_, rfl⟩
     rw [← hf] at fa
     have arith2 : ls.length - (m + 1) < ls.length - m := by omega
     clear p5 hbl hy hym hN hf r2 hnl hel v1 v2 v3
     refine pzr (yB rfl rfl rfl rfl (yQ (pw_seq ?_))); rw [u2]; refine pw_ct rfl (pw_skip (pw_seq (pw_block (pzr (yW em (by omega) rfl rfl (yLs (ys := [_, _, _]) rfl rfl rfl (yZ (cs := [_, _, _]) rfl rfl (yS (cs' := [_, _, _]) rfl rfl rfl rfl rfl (yQ ?_))))))))); refine pzr (yFb rfl (yLd rfl rfl rfl (yC (nn) rfl rfl (yMp rfl (yX rfl rfl (yX rfl rfl (yAd rfl (yAd rfl (yQ ?_))))))))); refine pzr (yMd rfl (yFb rfl (yLd rfl rfl rfl (yC (fa) rfl rfl (yMp rfl (yX rfl rfl (yX rfl rfl (yZ (cs := [_, _]) rfl rfl (yS (cs' := [_, _]) rfl rfl rfl rfl rfl ?_))))))))); refine yAd rfl (yQ (pzr (yMd rfl (yB rfl rfl rfl rfl (yMd rfl (yMd rfl (yU rfl rfl rfl (yVd rfl rfl (yMd rfl ?_))))))))); refine yMd rfl (yCm rfl ?_); refine yCf kh (.d rfl (.fn inferInstance rfl rfl h1 .nil)) rfl ?_; refine yVd rfl rfl (yQ (pw_cf rfl (pw_skip (pw_region (yB rfl rfl rfl rfl (yMd rfl (yQ (q_then ?_))))))))
     exact ⟨m + 1, h2, arith2, rfl, ⟨.refl _, .refl _, .refl _, .refl _, .refl _, .refl _, .refl _, .refl _, .refl _, .of_eq (congrArg (fun n => SV.d (dI n)) hw2), trivial⟩, ⟨⟨_, rfl, lesC_refl _⟩, trivial⟩, trivial, rfl⟩
   · have u2 : decide ((m : Int) < (ls.length : Int)) = false := decide_eq_false (by omega)
     refine pzr (yB rfl rfl rfl rfl (yQ (pw_seq ?_))); rw [u2]; refine pw_cf rfl (pw_exit (pw_region (yB rfl rfl rfl rfl (yMd rfl (yQ (q_then ?_))))))
     exact ⟨i + 1, h, arith, rfl, ⟨.refl _, .refl _, .refl _, .refl _, .refl _, .of_eq (congrArg (fun n => SV.d (dI n)) hw), trivial⟩, trivial, trivial, rfl⟩
 have u1 : decide ((i : Int) < (l.length : Int)) = false := decide_eq_false (by omega)
 obtain ⟨A, hA⟩ : ∃ A, A = ch ++ more := ⟨_, rfl⟩
 have cc := wConcatA [ch.map dAc, more.map dAc] (by simp) (by simp; omega)
 have hAm : ([ch.map dAc, more.map dAc] : List (List (List DV))).flatten = A.map dAc := by rw [hA]; simp
 rw [hAm] at cc
 simp only [List.map_cons, List.map_nil] at cc
 obtain ⟨S, hS⟩ : ∃ S, S = srtA A := ⟨_, rfl⟩
 obtain ⟨s1, s2⟩ := srtA_spec A
 rw [← hS] at s1 s2
 have hAl : A.length ≤ 600 := by rw [hA, List.length_append]; omega
 have hSc : ∀ a ∈ S, a.1.length ≤ 9223372036854775807 := fun a ha => by
  have := s2.mem_iff.1 ha
  rw [hA] at this
  rcases List.mem_append.1 this with h | h
  · exact hcc a h
  · have := hm2 a h; omega
 have c3 := wCheckAllB S (by omega) hSc
 have c4 := wCheckRuB l S hl1 hl2 (by omega) hSc
 have hz : ctE S = 0 → (ruI l S).2 = 0 := fun h => hmore S (fun x hx => s2.mem_iff.2 (by rw [hA]; exact List.mem_append_left _ hx)) rfl h
 obtain ⟨E3, hE3⟩ : ∃ E, E = ctE S := ⟨_, rfl⟩
 rw [← hE3] at c3 hz
 obtain ⟨⟨E4, E5⟩, hE4⟩ : ∃ E, E = ruI l S := ⟨_, rfl⟩
 rw [← hE4] at c4 hz
 simp only at c4 hz
 by_cases hA0 : A = []
 · have hS0 : S = [] := List.eq_nil_of_length_eq_zero (by rw [s1, hA0]; rfl)
   have cp := cc.pcalls
   rw [hA0] at cp
   rw [hS0] at c3 c4
   simp only [List.map_nil] at cp c3 c4
   clear cc hA hAm hS s1 s2 hAl hSc hE3 hE4 hA0 hS0 hmore huse hnum hl2 hcc hm2
   by_cases h3 : E3 = 0
   · obtain rfl := hz h3
     subst h3
     refine pzr (yB rfl rfl rfl rfl (yQ (pw_seq ?_))); rw [u1]; refine pw_cf rfl (pw_exit (pzr (yMd rfl (yMd rfl ?_)))); refine yR (es := [[_], [_]]) rfl rfl rfl rfl rfl ?_; refine yC (cp) rfl rfl (yAd rfl (yQ (pzr (yMd rfl ?_)))); refine yCf wSortA0 (.d rfl (.fn inferInstance rfl rfl (fun xs r h => by rw [List.map_nil, List.append_nil]; exact hPhA2 xs r h) .nil)) rfl ?_; refine yQ (pw_seq (pzr (yMd rfl (yC (c3) rfl rfl (yB rfl rfl rfl rfl (yQ (pw_cf rfl (pw_skip (pzr ?_))))))))); refine yMd rfl (yMd rfl (yC (c4) rfl rfl (yMp rfl (yX rfl rfl (yX rfl rfl (yAd rfl (yAd rfl (yQ (pzr ?_))))))))); refine yMd rfl (yB rfl rfl rfl rfl (yMd rfl (yC (k0) rfl rfl (yPd rfl rfl (yAd rfl (yQ (pw_ret ?_)))))))
     exact q_ret _ (.tmp rfl .nil) rfl
   · have t3 : (E3 != 0) = true := by simp [h3]
     refine pzr (yB rfl rfl rfl rfl (yQ (pw_seq ?_))); rw [u1]; refine pw_cf rfl (pw_exit (pzr (yMd rfl (yMd rfl ?_)))); refine yR (es := [[_], [_]]) rfl rfl rfl rfl rfl ?_; refine yC (cp) rfl rfl (yAd rfl (yQ (pzr (yMd rfl ?_)))); refine yCf wSortA0 (.d rfl (.fn inferInstance rfl rfl (fun xs r h => by rw [List.map_nil, List.append_nil]; exact hPhA2 xs r h) .nil)) rfl ?_; refine yQ (pw_seq (pzr (yMd rfl (yC (c3) rfl rfl (yB rfl rfl rfl rfl (yQ (q_then ?_))))))); rw [t3]; refine pw_ct rfl (pzr (yC (k0) rfl rfl (yAd rfl (yQ (pw_ret (q_then_ret ?_))))))
     exact q_ret _ (.tmp rfl .nil) rfl
 have w0' : 0 < (A.map dAc).length := by rw [List.length_map]; exact List.length_pos_iff.2 hA0
 have w1 : (vAc A).length = (A.map dAc).length * 2 := by rw [List.length_map, vAc_len]
 have w2 : chunk 2 (A.map dAc).length ((vAc A).map .val) = A.map dAc := by rw [List.length_map]; exact chunk_vAc A
 have w3 : ((vAc S).map DV.val).length = (A.map dAc).length * 2 := by rw [List.length_map, List.length_map, vAc_len, s1]
 have w4 : chunk 2 (A.map dAc).length ((vAc S).map .val) = S.map dAc := by rw [List.length_map, ← s1]; exact chunk_vAc S
 have cs := sort_acc A hA0 (by omega)
 rw [← hS] at cs
 clear hA hAm hS s1 s2 hAl hSc hE3 hE4 hA0 hmore huse hnum hl2 hcc hm2
 by_cases h3 : E3 = 0
 · obtain rfl := hz h3
   subst h3
   refine pzr (yB rfl rfl rfl rfl (yQ (pw_seq ?_))); rw [u1]; refine pw_cf rfl (pw_exit (pzr (yMd rfl (yMd rfl ?_)))); refine yR (es := [[_], [_]]) rfl rfl rfl rfl rfl ?_; refine yCob (vs := vAc A) cc w0' w2 w1 rfl rfl (yAw rfl (yQ (pzr (yMw rfl ?_)))); refine yRbF cs w1 rfl rfl (fun _ => rfl) ?_; refine yQ ?_; refine pw_frz 23 150 (es := S.map dAc) (ds := (vAc S).map .val) (n := (A.map dAc).length) w3 w4 (toDs_vs _) rfl rfl ?_; refine pw_seq (pzr (yMd rfl (yC (c3) rfl rfl (yB rfl rfl rfl rfl (yQ (pw_cf rfl (pw_skip (pzr (yMd rfl ?_))))))))); refine yMd rfl (yC (c4) rfl rfl (yMp rfl (yX rfl rfl (yX rfl rfl (yAd rfl (yAd rfl (yQ (pzr (yMd rfl ?_))))))))); refine yB rfl rfl rfl rfl (yMd rfl (yC (k0) rfl rfl (yPd rfl rfl (yAd rfl (yQ (pw_ret ?_))))))
   exact q_ret _ (.tmp rfl .nil) rfl
 · have t3 : (E3 != 0) = true := by simp [h3]
   refine pzr (yB rfl rfl rfl rfl (yQ (pw_seq ?_))); rw [u1]; refine pw_cf rfl (pw_exit (pzr (yMd rfl (yMd rfl ?_)))); refine yR (es := [[_], [_]]) rfl rfl rfl rfl rfl ?_; refine yCob (vs := vAc A) cc w0' w2 w1 rfl rfl (yAw rfl (yQ (pzr (yMw rfl ?_)))); refine yRbF cs w1 rfl rfl (fun _ => rfl) ?_; refine yQ ?_; refine pw_frz 23 150 (es := S.map dAc) (ds := (vAc S).map .val) (n := (A.map dAc).length) w3 w4 (toDs_vs _) rfl rfl ?_; refine pw_seq (pzr (yMd rfl (yC (c3) rfl rfl (yB rfl rfl rfl rfl (yQ (q_then ?_)))))); rw [t3]; refine pw_ct rfl (pzr (yC (k0) rfl rfl (yAd rfl (yQ (pw_ret (q_then_ret ?_))))))
   exact q_ret _ (.tmp rfl .nil) rfl
end Go.Proofs.YtddfimjiihggmaaGreatDoor