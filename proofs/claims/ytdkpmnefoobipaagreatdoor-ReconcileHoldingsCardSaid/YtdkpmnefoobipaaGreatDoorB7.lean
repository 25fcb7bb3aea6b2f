/- Walk: Holdings. -/
import Derived.Test.YtdkpmnefoobipaaGreatDoorB6
import Derived.Test.YtdkpmnefoobipaaGreatDoorB5
import Derived.Test.YtdkpmnefoobipaaGreatDoorRows
import Derived.JoinedOf
import Derived.KernelRfl
namespace Go.Proofs.YtdkpmnefoobipaaGreatDoor
open Go.RowKit Px Go.Sort Go.Lib

abbrev nv (l : List Str) : List SV := (l.map encStr).map fun u => SV.d (.val u)
theorem wSortNil : PCalls Tryz.prog 49 [.val (.slice none 0 0)] (.tup []) := fun F w vals hl hr hg => by
  obtain rfl : vals = [.slice none 0 0] := vals_of (us := [.slice none 0 0]) hl hr
  exact (AnyG.slices_Sort_string_none Tryz.sortStr none 0 w).mono fun e w' ⟨h1, h2⟩ => ⟨.tuple #[], h1, ⟨[], rfl, rfl, fun i y x hy => by simp at hy⟩, by rw [h2]; exact Below.refl _ _⟩
set_option maxRecDepth 20000 in
theorem wCompNil : PCalls Tryz.prog 50 [.val (.slice none 0 0)] (.d (.val (.slice none 0 0))) := by
  refine pcalls_of_pw Tryz.func50 rfl Tryz.ntmps50 Tryz.results50 (by simp) fun B w0 => ?_
  refine pw_seq (pw_region (yAd rfl (yQ (pw_seq (pw_seq (pw_region (yMd rfl (yNl rfl (yB rfl rfl rfl rfl ?_))))))))); refine yQ (pw_ct rfl (pw_seq (pw_region (yMd rfl (yAd rfl (yQ (pw_ret (q_then_ret ?_))))))))
  exact q_ret _ (.tmp rfl .nil) rfl
theorem toDs_nv (l : List Str) : toDs (nv l) = some (l.map fun a => DV.val (encStr a)) := by
  induction l with
  | nil => rfl
  | cons x l ih =>
    show toDs (SV.d (.val (encStr x)) :: nv l) = _
    simp only [toDs, toD, ih, List.map_cons]
def rowS : Nat → SV
  | 0 => .d (.val (.slice none 0 0))
  | n + 1 => .bs 39 (n + 1) 9 1
def rowB (l : List Str) : Nat → List (Nat × List SV)
  | 0 => []
  | n + 1 => [(39, nv (l.take (n + 1)))]
abbrev bT10 : Nat := 41 * 100000 + 10
set_option maxRecDepth 20000 in
set_option maxHeartbeats 8000000 in
theorem wHoldings (s t : Stm) (hs : fitS s) (ht : fitS t) : PCalls Tryz.prog 22 [.agg (dSt s), .agg (dSt t)] (.tup [.sl 4 ((holdR s t).map dBk), dI (ckE s t 0)]) := by
  have c1 := wChk s t 0 hs ht
  obtain ⟨ck, hck⟩ : ∃ e, e = ckE s t 0 := ⟨_, rfl⟩
  have hp : holdR s t = if ck = 0 then hdB s.hs t.hs else [] := by rw [holdR, hck]
  rw [← hck] at c1 ⊢
  rw [hp]
  by_cases h0 : ck = 0
  rotate_left
  · have t1 : (ck != 0) = true := by simpa using h0
    rw [if_neg h0]
    obtain ⟨d1, hs1, ms⟩ := s
    obtain ⟨d2, hs2, ts⟩ := t
    refine pcalls_of_pw Tryz.func22 rfl Tryz.ntmps22 Tryz.results22 (by simp) fun B w0 => ?_
    refine pw_seq (pw_region (yK (cs := [_, _, _]) rfl rfl (yK (cs := [_, _, _]) rfl rfl (yAd rfl (yAd rfl (yQ (pw_seq (pw_seq (pw_region ?_))))))))); refine yLa (ys := [_, _, _]) rfl rfl rfl rfl (yLa (ys := [_, _, _]) rfl rfl rfl rfl (yC (c1) rfl rfl (yAd rfl (yQ (pw_seq (pw_region (yMd rfl (yB rfl rfl rfl rfl (yQ ?_))))))))); refine q_then ?_; rw [t1]; refine pw_ct rfl (pw_seq (pw_region (yMd rfl (yAd rfl (yAd rfl (yQ (pw_ret (q_then_ret ?_))))))))
    exact q_ret _ (.tnil 4 rfl (.tmp rfl .nil)) rfl
  rw [if_pos h0]
  subst h0
  have hsl := hs.hl
  have htl := ht.hl
  have c2 := wConcatH [s.hs, t.hs] (by simp) (by simp; omega)
  have hc3 := wHeld s (by omega)
  have hc4 := wHeld t (by omega)
  have hnl := nms_len s.hs t.hs
  have hnms : nms s.hs t.hs = compact (mSort ((s.hs ++ t.hs).map (·.1))) := (comp_sort _).symm
  unfold hdB
  obtain ⟨d1, h1, ms⟩ := s
  obtain ⟨d2, h2, ts⟩ := t
  simp only [List.map_cons, List.map_nil, List.flatten_cons, List.flatten_nil, List.append_nil] at c2 hc3 hc4 hsl htl hnl hnms ⊢
  obtain ⟨al, hal⟩ : ∃ l, l = h1 ++ h2 := ⟨_, rfl⟩
  have hall : al.length ≤ 128 := by rw [hal, List.length_append]; omega
  obtain ⟨l, hl⟩ : ∃ l, l = nms h1 h2 := ⟨_, rfl⟩
  rw [← hal] at c2 hnms
  rw [← hl] at hnl hnms ⊢
  obtain ⟨r, hr⟩ : ∃ r, r = hdN h1 h2 l l.length := ⟨_, rfl⟩
  rw [← hr]
  refine pcalls_of_pw Tryz.func22 rfl Tryz.ntmps22 Tryz.results22 (by simp) fun B w0 => ?_
  cases al with
  | nil =>
    have hl0 : l = [] := by rw [hnms, comp_sort]; rfl
    subst hl0
    have hr0 : r = [] := hr
    subst hr0
    refine pw_seq (pw_region (yK (cs := [_, _, _]) rfl rfl (yK (cs := [_, _, _]) rfl rfl (yAd rfl (yAd rfl (yQ (pw_seq (pw_seq (pw_region ?_))))))))); refine yLa (ys := [_, _, _]) rfl rfl rfl rfl (yLa (ys := [_, _, _]) rfl rfl rfl rfl (yC (c1) rfl rfl (yAd rfl (yQ (pw_seq (pw_region (yMd rfl (yB rfl rfl rfl rfl (yQ ?_))))))))); refine pw_cf rfl (pw_skip (pw_seq (pw_region (yAd rfl (yQ (pw_seq (pw_seq (pw_region (yFb rfl ?_))))))))); refine yLd rfl rfl rfl (yFb rfl (yLd rfl rfl rfl (yR (es := [[_], [_]]) rfl rfl rfl rfl rfl (yC (c2) rfl rfl (yN rfl (yMd rfl (yQ (pw_block ?_)))))))); refine pw_loop (fun i : Nat => ⟨89, [(7, .d (.val (.slice none 0 0))), (29, .d (.sl 2 [])), (30, .d (dI 0)), (31, .d (dI i))], [], []⟩) (fun i => i = 0) (fun i => i) 0 rfl ⟨rfl, ⟨.refl _, .refl _, .refl _, .refl _, trivial⟩, trivial, trivial, rfl⟩ ?_
    intro i hi
    subst hi
    refine pw_seq (pw_region (yB rfl rfl rfl rfl (yQ (pw_seq (pw_cf rfl (pw_exit (pw_seq (pw_region (yMd rfl ?_))))))))); refine yC (wSortNil) rfl rfl (yQ (pw_seq (pw_region (yZ (cs := [_]) rfl rfl (yQ ?_))))); refine pw_tokb 10 0 bT10 4 rfl rfl rfl rfl ?_; refine pw_seq (pw_region (yCmb rfl (yAg rfl (yQ (pw_seq (pw_seq (pw_region (yMd rfl (yC (wCompNil) rfl rfl ?_))))))))); refine yNl rfl (yMd rfl (yQ (pw_block ?_))); refine pw_loop (fun i : Nat => ⟨89, [(10, .bx 10 0), (46, .d (dI 0)), (47, .d (dI i))], [(10, [.ts bT10 4 []])], [(bT10, 0)]⟩) (fun i => i = 0) (fun i => i) 0 rfl ⟨rfl, ⟨.refl _, .refl _, .refl _, trivial⟩, ⟨⟨_, rfl, .refl _, trivial⟩, trivial⟩, ⟨rfl, trivial⟩, rfl⟩ ?_
    intro i hi
    subst hi
    refine pw_seq (pw_region (yB rfl rfl rfl rfl (yQ (pw_seq (pw_cf rfl (pw_exit (pw_seq (pw_region (yFb rfl ?_))))))))); refine yLt rfl rfl rfl (yAt rfl (yAd rfl (yQ (pw_ret ?_))))
    exact q_ret _ (.tmp rfl (.tmp rfl .nil)) rfl
  | cons a0 al0 =>
  obtain ⟨al, hal2⟩ : ∃ l, l = a0 :: al0 := ⟨_, rfl⟩
  have hpos : 0 < al.length := by rw [hal2]; simp
  rw [← hal2] at c2 hnms hall
  clear hal hal2 a0 al0
  refine pw_seq (pw_region (yK (cs := [_, _, _]) rfl rfl (yK (cs := [_, _, _]) rfl rfl (yAd rfl (yAd rfl (yQ (pw_seq (pw_seq (pw_region ?_))))))))); refine yLa (ys := [_, _, _]) rfl rfl rfl rfl (yLa (ys := [_, _, _]) rfl rfl rfl rfl (yC (c1) rfl rfl (yAd rfl (yQ (pw_seq (pw_region (yMd rfl (yB rfl rfl rfl rfl (yQ ?_))))))))); refine pw_cf rfl (pw_skip (pw_seq (pw_region (yAd rfl (yQ (pw_seq (pw_seq (pw_region (yFb rfl ?_))))))))); refine yLd rfl rfl rfl (yFb rfl (yLd rfl rfl rfl (yR (es := [[_], [_]]) rfl rfl rfl rfl rfl (yC (c2) rfl rfl (yN rfl (yMd rfl (yQ (pw_block ?_)))))))); refine pw_loop (fun i : Nat => ⟨89, [(2, .bx 2 0), (3, .bx 3 0), (7, rowS i), (29, .d (.sl 2 (al.map dH))), (30, .d (dI al.length)), (31, .d (dI i))], (2, [.d (dI d1), .d (.sl 2 (h1.map dH)), .d (.sl 5 (ms.map dM))]) :: (3, [.d (dI d2), .d (.sl 2 (h2.map dH)), .d (.sl 5 (ts.map dM))]) :: rowB (al.map (·.1)) i, []⟩) (fun i => i ≤ al.length) (fun i => al.length - i) 0 (Nat.zero_le _)
    ⟨rfl, ⟨.refl _, .refl _, .refl _, .refl _, .of_eq (congrArg (fun n : Nat => SV.d (dI n)) (by simp)), .refl _, trivial⟩, ⟨⟨_, rfl, .refl _, .refl _, .refl _, trivial⟩, ⟨_, rfl, .refl _, .refl _, .refl _, trivial⟩, trivial⟩, trivial, rfl⟩ ?_
  intro i hi
  cases i with
  | zero =>
    obtain ⟨⟨x, y⟩, hx⟩ : ∃ a, al[0]? = some a := ⟨_, List.getElem?_eq_getElem hpos⟩
    have ei := ix dH al 0 0 (x, y) rfl hx
    have ud : decide (((0 : Nat) : Int) < (al.length : Int)) = true := decide_eq_true (by omega)
    have htk : (al.map (·.1)).take 1 = [x] := by
      cases al with
      | nil => simp at hx
      | cons a al => simp at hx; simp [hx]
    refine pw_seq (pw_region (yB rfl rfl rfl rfl (yQ (pw_seq ?_)))); rw [ud]; refine pw_ct rfl (pw_skip (pw_seq (pw_block (pw_seq (pw_region (yW ei (by omega) rfl rfl (yLs (ys := [_, _]) rfl rfl rfl (yZ (cs := [_, _]) rfl rfl (yS (cs' := [_, _]) rfl rfl rfl rfl rfl ?_))))))))); refine yQ (pw_region (yMd rfl (yFb rfl (yLd rfl rfl rfl (yR (es := [[_]]) rfl rfl rfl rfl rfl (yTn (vs := [encStr x]) (es := [dC x]) (m := 1) (by omega) (by omega) (by omega) (by omega) rfl rfl rfl rfl rfl (yAw rfl (yQ (pw_region ?_))))))))); refine yB rfl rfl rfl rfl (yMd rfl (yQ (q_then ?_)))
    refine ⟨1, by omega, by omega, rfl, ⟨.refl _, .refl _, .refl _, .refl _, .refl _, .refl _, trivial⟩, ⟨⟨_, rfl, .refl _, .refl _, .refl _, trivial⟩, ⟨_, rfl, .refl _, .refl _, .refl _, trivial⟩, ⟨_, rfl, lesC_eq (by rw [htk]; rfl)⟩, trivial⟩, trivial, by simp [PS.closed, SV.ok, aget, Nat.beq, rowS, rowB, nv, -List.map_take, -List.map_set]⟩
  | succ i =>
  have hwi := wrapI ((i : Int) + 1 + 1) (by omega)
  by_cases h : i + 1 < al.length
  · obtain ⟨⟨x, y⟩, hx⟩ : ∃ a, al[i + 1]? = some a := ⟨_, List.getElem?_eq_getElem h⟩
    have ei := ix dH al (i + 1 : Nat) (i + 1) (x, y) rfl hx
    have ud : decide (((i + 1 : Nat) : Int) < (al.length : Int)) = true := decide_eq_true (by omega)
    have hw := wrapI (((i + 1 : Nat) : Int) + 1) (by omega)
    have htk : (al.map (·.1)).take (i + 1 + 1) = (al.map (·.1)).take (i + 1) ++ [x] := by
      rw [List.take_add_one, List.getElem?_map, hx]; rfl
    have htl2 : (((al.map (·.1)).take (i + 1)).map encStr).length = i + 1 := by simp; omega
    obtain ⟨tk, htk2⟩ : ∃ q, q = (al.map (·.1)).take (i + 1) := ⟨_, rfl⟩
    rw [← htk2] at htk htl2
    show PW _ _ _ _ _ ⟨89, [(2, .bx 2 0), (3, .bx 3 0), (7, .bs 39 (i + 1) 9 1), (29, .d (.sl 2 (al.map dH))), (30, .d (dI al.length)), (31, .d (dI ((i + 1 : Nat) : Int)))], (2, [.d (dI d1), .d (.sl 2 (h1.map dH)), .d (.sl 5 (ms.map dM))]) :: (3, [.d (dI d2), .d (.sl 2 (h2.map dH)), .d (.sl 5 (ts.map dM))]) :: [(39, nv ((al.map (·.1)).take (i + 1)))], []⟩
    rw [← htk2]
    refine pw_seq (pw_region (yB rfl rfl rfl rfl (yQ (pw_seq ?_)))); rw [ud]; refine pw_ct rfl (pw_skip (pw_seq (pw_block (pw_seq (pw_region (yW ei (by omega) rfl rfl (yLs (ys := [_, _]) rfl rfl rfl (yZ (cs := [_, _]) rfl rfl (yS (cs' := [_, _]) rfl rfl rfl rfl rfl ?_))))))))); refine yQ (pw_region (yMw rfl (yFb rfl (yLd rfl rfl rfl (yR (es := [[_]]) rfl rfl rfl rfl rfl (yTw (us := tk.map encStr) (vs := [encStr x]) (es := [dC x]) (m := 1) (n := i + 1) (by omega) (by omega) (by omega) rfl rfl (by rw [htl2]; omega) rfl rfl rfl (yAw rfl (yQ (pw_region ?_))))))))); refine yB rfl rfl rfl rfl (yMd rfl (yQ (q_then ?_)))
    refine ⟨i + 2, by omega, by omega, rfl, ⟨.refl _, .refl _, .refl _, .refl _, .refl _, .of_eq (congrArg (fun n => SV.d (dI n)) hw), trivial⟩, ⟨⟨_, rfl, .refl _, .refl _, .refl _, trivial⟩, ⟨_, rfl, .refl _, .refl _, .refl _, trivial⟩, ⟨_, rfl, lesC_eq (by show _ = nv ((al.map (·.1)).take (i + 1 + 1)); rw [htk]; simp [nv])⟩, trivial⟩, trivial, by simp [PS.closed, SV.ok, aget, Nat.beq, rowS, rowB, nv, -List.map_take, -List.map_set]⟩
  · have hie : i + 1 = al.length := by omega
    have ud : decide (((i + 1 : Nat) : Int) < (al.length : Int)) = false := decide_eq_false (by omega)
    have htk : (al.map (·.1)).take (i + 1) = al.map (·.1) := List.take_of_length_le (by simp; omega)
    obtain ⟨na, hna⟩ : ∃ q, q = al.map (·.1) := ⟨_, rfl⟩
    have hnal : na.length = i + 1 := by rw [hna, List.length_map]; omega
    rw [← hna] at htk hnms
    have c5 := sort_row na (by omega)
    have c6 := comp_row (mSort na) (by rw [mSort_len]; omega)
    rw [← hnms] at c6
    have hms := mSort_len na
    have hch := chunk_one (fun a : Str => DV.val (encStr a)) l
    have hll : l.length ≤ 128 := by
      have : l.length ≤ na.length := by rw [hnms, comp_sort]; exact uniS_length na
      omega
    show PW _ _ _ _ _ ⟨89, [(2, .bx 2 0), (3, .bx 3 0), (7, .bs 39 (i + 1) 9 1), (29, .d (.sl 2 (al.map dH))), (30, .d (dI al.length)), (31, .d (dI ((i + 1 : Nat) : Int)))], (2, [.d (dI d1), .d (.sl 2 (h1.map dH)), .d (.sl 5 (ms.map dM))]) :: (3, [.d (dI d2), .d (.sl 2 (h2.map dH)), .d (.sl 5 (ts.map dM))]) :: [(39, nv ((al.map (·.1)).take (i + 1)))], []⟩
    rw [← hna, htk]
    refine pw_seq (pw_region (yB rfl rfl rfl rfl (yQ (pw_seq ?_)))); rw [ud]; refine pw_cf rfl (pw_exit (pw_seq (pw_region (yMw rfl (yRb c5 (by simp; omega) rfl rfl rfl (yQ (pw_seq (pw_region (yZ (cs := [_]) rfl rfl ?_))))))))); refine yQ (pw_seq (pw_region (yCmb rfl (yAg rfl (yQ (pw_seq (pw_seq (pw_region (yMw rfl ?_))))))))); refine yRc (n' := l.length) c6 (by omega) (by omega) (by simp; omega) (by simp) rfl rfl (yNb rfl (yMd rfl (yQ (pw_block ?_)))); refine pw_frz 45 39 (es := l.map dC) (ds := l.map fun a => DV.val (encStr a)) (by simp) hch ?_ rfl rfl ?_
    · show toDs (nv l) = _
      exact toDs_nv l
    refine pw_tokb 10 0 bT10 4 rfl rfl rfl rfl ?_
    refine pw_loop (fun j : Nat => ⟨89, [(2, .bx 2 0), (3, .bx 3 0), (10, .bx 10 0), (11, .fb 44 10 0), (45, .d (dCs l)), (46, .d (dI l.length)), (47, .d (dI j))], [(2, [.d (dI d1), .d (.sl 2 (h1.map dH)), .d (.sl 5 (ms.map dM))]), (3, [.d (dI d2), .d (.sl 2 (h2.map dH)), .d (.sl 5 (ts.map dM))]), (10, [.ts bT10 4 ((hdN h1 h2 l j).map dBk)])], [(bT10, ((hdN h1 h2 l j).map dBk).length)]⟩) (fun j => j ≤ l.length) (fun j => l.length - j) 0 (Nat.zero_le _)
      ⟨rfl, ⟨.refl _, .refl _, .refl _, .refl _, .refl _, .refl _, .refl _, trivial⟩, ⟨⟨_, rfl, .refl _, .refl _, .refl _, trivial⟩, ⟨_, rfl, .refl _, .refl _, .refl _, trivial⟩, ⟨_, rfl, .refl _, trivial⟩, trivial⟩, ⟨rfl, trivial⟩, rfl⟩ ?_
    intro j hj
    clear c5 c6 hch htk hnms hna c1 c2
    have hnx : ∀ n, l[j]? = some n → hdN h1 h2 l (j + 1) = hdN h1 h2 l j ++ hbr n (hld n h1) (hld n h2) := fun n h => hdN_next h
    have hln := hdN_len h1 h2 l j
    have hend : j = l.length → r = hdN h1 h2 l j := fun e => by rw [hr, e]
    obtain ⟨nx, hnx2⟩ : ∃ o, o = hdN h1 h2 l (j + 1) := ⟨_, rfl⟩
    obtain ⟨zs, hzs⟩ : ∃ o, o = hdN h1 h2 l j := ⟨_, rfl⟩
    simp only [← hzs, ← hnx2] at hnx hln hend
    rw [← hzs]
    refine pw_seq (pw_region (yB rfl rfl rfl rfl (yQ (pw_seq ?_)))); refine pw_cond rfl (fun h => ?_) (fun h => ?_)
    · simp at h
      obtain ⟨n, hn⟩ : ∃ a, l[j]? = some a := ⟨_, List.getElem?_eq_getElem h⟩
      have en := ix dC l j j n rfl hn
      have hw := wrapI ((j : Int) + 1) (by omega)
      have hn2 := hnx _ hn
      have c3 := hc3 n
      have c4 := hc4 n
      obtain ⟨o1, ho1⟩ : ∃ o, o = hld n h1 := ⟨_, rfl⟩
      obtain ⟨o2, ho2⟩ : ∃ o, o = hld n h2 := ⟨_, rfl⟩
      rw [← ho1] at c3 hn2
      rw [← ho2] at c4 hn2
      clear hc3 hc4 hnx
      cases o2 with
      | none =>
        obtain ⟨q, hq⟩ : ∃ q, q = o1.getD [] := ⟨_, rfl⟩
        have e : nx = zs ++ [(1, n, q, [])] := by rw [hn2, hq]; rfl
        rw [← hq] at c3
        refine pw_skip (pw_seq (pw_block (pw_seq (pw_region (yW en (by omega) rfl rfl (yLr rfl rfl (yAd rfl (yQ (pw_seq ?_))))))))); refine pw_region (yLa (ys := [_, _, _]) rfl rfl rfl rfl (yMd rfl (yC (c3) rfl rfl (yMp rfl (yX rfl rfl (yX rfl rfl (yAd rfl (yAd rfl (yQ ?_))))))))); refine pw_seq (pw_region (yLa (ys := [_, _, _]) rfl rfl rfl rfl (yMd rfl (yC (c4) rfl rfl (yMp rfl (yX rfl rfl (yX rfl rfl (yAd rfl (yAd rfl ?_))))))))); refine yQ (pw_block (pw_seq (pw_region (yMd rfl (yU rfl rfl rfl (yAd rfl (yQ (pw_ct rfl (pw_region ?_))))))))); refine yMg rfl (yMd rfl (yMd rfl ?_)); refine yCxb (wAdd10 _ (1, n, q, []) (by first | omega | (simp; omega))) rfl rfl ⟨rfl, trivial⟩ ⟨rfl, trivial⟩ ?_ (hfit := by kernel_rfl); refine yQ (pw_region (yB rfl rfl rfl rfl (yMd rfl (yQ (q_then ?_)))))
        refine ⟨j + 1, by omega, by omega, rfl, ⟨.refl _, .refl _, .refl _, .refl _, .refl _, .refl _, .of_eq (congrArg (fun n => SV.d (dI n)) hw), trivial⟩, ⟨⟨_, rfl, .refl _, .refl _, .refl _, trivial⟩, ⟨_, rfl, .refl _, .refl _, .refl _, trivial⟩, ⟨_, rfl, .of_eq (by rw [← hnx2, e] <;> rfl), trivial⟩, trivial⟩, ⟨(by rw [← hnx2, e] <;> rfl), trivial⟩, rfl⟩
      | some q2 =>
        simp only [Option.getD_some, Option.isSome_some] at c4
        cases o1 with
        | none =>
          have e : nx = zs ++ [(2, n, [], q2)] := hn2
          refine pw_skip (pw_seq (pw_block (pw_seq (pw_region (yW en (by omega) rfl rfl (yLr rfl rfl (yAd rfl (yQ (pw_seq ?_))))))))); refine pw_region (yLa (ys := [_, _, _]) rfl rfl rfl rfl (yMd rfl (yC (c3) rfl rfl (yMp rfl (yX rfl rfl (yX rfl rfl (yAd rfl (yAd rfl (yQ ?_))))))))); refine pw_seq (pw_region (yLa (ys := [_, _, _]) rfl rfl rfl rfl (yMd rfl (yC (c4) rfl rfl (yMp rfl (yX rfl rfl (yX rfl rfl (yAd rfl (yAd rfl ?_))))))))); refine yQ (pw_block (pw_seq (pw_region (yMd rfl (yU rfl rfl rfl (yAd rfl (yQ (pw_cf rfl (pw_seq ?_))))))))); refine pw_region (yMd rfl (yU rfl rfl rfl (yAd rfl (yQ (pw_ct rfl (pw_region (yMg rfl (yMd rfl (yMd rfl ?_))))))))); refine yCxb (wAdd10 _ (2, n, [], q2) (by first | omega | (simp; omega))) rfl rfl ⟨rfl, trivial⟩ ⟨rfl, trivial⟩ ?_ (hfit := by kernel_rfl); refine yQ (pw_region (yB rfl rfl rfl rfl (yMd rfl (yQ (q_then ?_)))))
          refine ⟨j + 1, by omega, by omega, rfl, ⟨.refl _, .refl _, .refl _, .refl _, .refl _, .refl _, .of_eq (congrArg (fun n => SV.d (dI n)) hw), trivial⟩, ⟨⟨_, rfl, .refl _, .refl _, .refl _, trivial⟩, ⟨_, rfl, .refl _, .refl _, .refl _, trivial⟩, ⟨_, rfl, .of_eq (by rw [← hnx2, e] <;> rfl), trivial⟩, trivial⟩, ⟨(by rw [← hnx2, e] <;> rfl), trivial⟩, rfl⟩
        | some q =>
          simp only [Option.getD_some, Option.isSome_some] at c3
          cases t1 : (q == q2) with
          | true =>
            have e : nx = zs := by rw [hn2]; simp [hbr, t1]
            refine pw_skip (pw_seq (pw_block (pw_seq (pw_region (yW en (by omega) rfl rfl (yLr rfl rfl (yAd rfl (yQ (pw_seq ?_))))))))); refine pw_region (yLa (ys := [_, _, _]) rfl rfl rfl rfl (yMd rfl (yC (c3) rfl rfl (yMp rfl (yX rfl rfl (yX rfl rfl (yAd rfl (yAd rfl (yQ ?_))))))))); refine pw_seq (pw_region (yLa (ys := [_, _, _]) rfl rfl rfl rfl (yMd rfl (yC (c4) rfl rfl (yMp rfl (yX rfl rfl (yX rfl rfl (yAd rfl (yAd rfl ?_))))))))); refine yQ (pw_block (pw_seq (pw_region (yMd rfl (yU rfl rfl rfl (yAd rfl (yQ (pw_cf rfl (pw_seq ?_))))))))); refine pw_region (yMd rfl (yU rfl rfl rfl (yAd rfl (yQ (pw_cf rfl (pw_seq (pw_region (yMd rfl (yMd rfl ?_))))))))); refine yBsn rfl rfl (yAd rfl (yQ (q_then ?_)))
            rw [t1]; refine pw_cf rfl ?_; refine pw_skip ?_; refine pw_region ?_; refine yB rfl rfl rfl rfl ?_; refine yMd rfl ?_; refine yQ ?_; refine q_then ?_
            refine ⟨j + 1, by omega, by omega, rfl, ⟨.refl _, .refl _, .refl _, .refl _, .refl _, .refl _, .of_eq (congrArg (fun n => SV.d (dI n)) hw), trivial⟩, ⟨⟨_, rfl, .refl _, .refl _, .refl _, trivial⟩, ⟨_, rfl, .refl _, .refl _, .refl _, trivial⟩, ⟨_, rfl, .of_eq (by rw [← hnx2, e] <;> rfl), trivial⟩, trivial⟩, ⟨(by rw [← hnx2, e] <;> rfl), trivial⟩, rfl⟩
          | false =>
            have e : nx = zs ++ [(3, n, q, q2)] := by rw [hn2]; simp [hbr, t1]
            refine pw_skip (pw_seq (pw_block (pw_seq (pw_region (yW en (by omega) rfl rfl (yLr rfl rfl (yAd rfl (yQ (pw_seq ?_))))))))); refine pw_region (yLa (ys := [_, _, _]) rfl rfl rfl rfl (yMd rfl (yC (c3) rfl rfl (yMp rfl (yX rfl rfl (yX rfl rfl (yAd rfl (yAd rfl (yQ ?_))))))))); refine pw_seq (pw_region (yLa (ys := [_, _, _]) rfl rfl rfl rfl (yMd rfl (yC (c4) rfl rfl (yMp rfl (yX rfl rfl (yX rfl rfl (yAd rfl (yAd rfl ?_))))))))); refine yQ (pw_block (pw_seq (pw_region (yMd rfl (yU rfl rfl rfl (yAd rfl (yQ (pw_cf rfl (pw_seq ?_))))))))); refine pw_region (yMd rfl (yU rfl rfl rfl (yAd rfl (yQ (pw_cf rfl (pw_seq (pw_region (yMd rfl (yMd rfl ?_))))))))); refine yBsn rfl rfl (yAd rfl (yQ (q_then ?_)))
            rw [t1]; refine pw_ct rfl ?_; refine pw_region ?_; refine yMg rfl ?_; refine yMd rfl ?_; refine yMd rfl ?_; refine yMd rfl ?_
            refine yCxb (wAdd10 _ (3, n, q, q2) (by first | omega | (simp; omega))) rfl rfl ⟨rfl, trivial⟩ ⟨rfl, trivial⟩ ?_ (hfit := by kernel_rfl); refine yQ (pw_region (yB rfl rfl rfl rfl (yMd rfl (yQ (q_then ?_)))))
            refine ⟨j + 1, by omega, by omega, rfl, ⟨.refl _, .refl _, .refl _, .refl _, .refl _, .refl _, .of_eq (congrArg (fun n => SV.d (dI n)) hw), trivial⟩, ⟨⟨_, rfl, .refl _, .refl _, .refl _, trivial⟩, ⟨_, rfl, .refl _, .refl _, .refl _, trivial⟩, ⟨_, rfl, .of_eq (by rw [← hnx2, e] <;> rfl), trivial⟩, trivial⟩, ⟨(by rw [← hnx2, e] <;> rfl), trivial⟩, rfl⟩
    · simp at h
      rw [hend (by omega)]
      refine pw_exit (pw_seq (pw_region (yFb rfl (yLt rfl rfl rfl (yAt rfl (yAd rfl (yQ (pw_ret ?_))))))))
      exact q_ret _ (.tmp rfl (.tmp rfl .nil)) rfl
end Go.Proofs.YtdkpmnefoobipaaGreatDoor
namespace Go.Proofs.YtdkpmnefoobipaaGreatDoor
open Go.RowKit Px

def allR' (s t : Stm) (days : Int) : List Bk := if ckE s t days = 0 then hdB s.hs t.hs ++ mvB s.ms t.ms days else []
theorem ckE_zero {s t : Stm} {days : Int} (h : ckE s t days = 0) : ckE s t 0 = 0 := by
  obtain ⟨h1, h2, h3, h4, h5⟩ := ckE_s h
  unfold ckE
  rw [h1, h2, h3]
  simp
theorem mvB_len (ms ts : List Mv) (days : Int) : (mvB ms ts days).length ≤ 3 * ms.length + ts.length := by
  unfold mvB
  rw [List.length_append]
  have := mbA_len ms ts (pt2 days ms ts).1 ms.length
  have := mbB_len ts (tkn (pt2 days ms ts).2) ts.length
  omega
set_option maxRecDepth 20000 in
set_option maxHeartbeats 2000000 in
theorem wAll (s t : Stm) (days : Int) (hs : fitS s) (ht : fitS t) : PCalls Tryz.prog 16 [.agg (dSt s), .agg (dSt t), dI days] (.tup [.sl 4 ((allR' s t days).map dBk), dI (ckE s t days)]) := by
  have c1 := wChk s t days hs ht
  have c2 := wHoldings s t hs ht
  have c3 := wMovements s t days hs ht
  obtain ⟨ck, hck⟩ : ∃ e, e = ckE s t days := ⟨_, rfl⟩
  have hp : allR' s t days = if ck = 0 then hdB s.hs t.hs ++ mvB s.ms t.ms days else [] := by rw [allR', hck]
  rw [hp]
  by_cases h0 : ck = 0
  rotate_left
  · rw [← hck] at c1 ⊢
    have t1 : (ck != 0) = true := by simpa using h0
    rw [if_neg h0]
    obtain ⟨d1, hs1, ms⟩ := s
    obtain ⟨d2, hs2, ts⟩ := t
    refine pcalls_of_pw Tryz.func16 rfl Tryz.ntmps16 Tryz.results16 (by simp) fun B w0 => ?_
    refine pw_seq (pw_region (yK (cs := [_, _, _]) rfl rfl (yK (cs := [_, _, _]) rfl rfl (yAd rfl (yAd rfl (yQ (pw_seq (pw_seq (pw_region ?_))))))))); refine yLa (ys := [_, _, _]) rfl rfl rfl rfl (yLa (ys := [_, _, _]) rfl rfl rfl rfl (yMd rfl (yC (c1) rfl rfl (yAd rfl (yQ (pw_seq (pw_region (yMd rfl (yB rfl rfl rfl rfl ?_))))))))); refine yQ (q_then ?_); rw [t1]; refine pw_ct rfl (pw_seq (pw_region (yMd rfl (yAd rfl (yAd rfl (yQ (pw_ret (q_then_ret ?_))))))))
    exact q_ret _ (.tnil 4 rfl (.tmp rfl .nil)) rfl
  · rw [if_pos h0]
    have h00 := ckE_zero (hck.symm.trans h0)
    have e1 : holdR s t = hdB s.hs t.hs := by rw [holdR, if_pos h00]
    have e2 : movsR s t days = mvB s.ms t.ms days := by rw [movsR, if_pos (hck.symm.trans h0)]
    rw [e1, h00] at c2
    rw [e2] at c3
    rw [← hck] at c1 c3 ⊢
    subst h0
    have hl1 := hdB_len s.hs t.hs
    have hl2 := mvB_len s.ms t.ms days
    have k1 := hs.hl
    have k2 := ht.hl
    have k3 := hs.ml
    have k4 := ht.ml
    have c4 := wConcatB [hdB s.hs t.hs, mvB s.ms t.ms days] (by simp) (by simp; omega)
    simp only [List.map_cons, List.map_nil, List.flatten_cons, List.flatten_nil, List.append_nil] at c4
    obtain ⟨r1, hr1⟩ : ∃ r, r = hdB s.hs t.hs := ⟨_, rfl⟩
    obtain ⟨r2, hr2⟩ : ∃ r, r = mvB s.ms t.ms days := ⟨_, rfl⟩
    rw [← hr1, ← hr2] at c4 ⊢
    rw [← hr1] at c2
    rw [← hr2] at c3
    obtain ⟨d1, hs1, ms⟩ := s
    obtain ⟨d2, hs2, ts⟩ := t
    refine pcalls_of_pw Tryz.func16 rfl Tryz.ntmps16 Tryz.results16 (by simp) fun B w0 => ?_
    refine pw_seq (pw_region (yK (cs := [_, _, _]) rfl rfl (yK (cs := [_, _, _]) rfl rfl (yAd rfl (yAd rfl (yQ (pw_seq (pw_seq (pw_region ?_))))))))); refine yLa (ys := [_, _, _]) rfl rfl rfl rfl (yLa (ys := [_, _, _]) rfl rfl rfl rfl (yMd rfl (yC (c1) rfl rfl (yAd rfl (yQ (pw_seq (pw_region (yMd rfl (yB rfl rfl rfl rfl ?_))))))))); refine yQ (pw_cf rfl (pw_skip (pw_seq (pw_region (yLa (ys := [_, _, _]) rfl rfl rfl rfl (yLa (ys := [_, _, _]) rfl rfl rfl rfl (yC (c2) rfl rfl (yMp rfl (yX rfl rfl ?_))))))))); refine yX rfl rfl (yAd rfl (yAd rfl (yQ (pw_seq (pw_region (yLa (ys := [_, _, _]) rfl rfl rfl rfl (yLa (ys := [_, _, _]) rfl rfl rfl rfl (yMd rfl (yC (c3) rfl rfl ?_))))))))); refine yMp rfl (yX rfl rfl (yX rfl rfl (yAd rfl (yAd rfl (yQ (pw_seq (pw_region (yMd rfl (yMd rfl ?_))))))))); refine yR (es := [[_], [_]]) rfl rfl rfl rfl rfl (yC (c4) rfl rfl (yAd rfl (yAd rfl (yQ (pw_ret ?_)))))
    exact q_ret _ (.tmp rfl (.tmp rfl .nil)) rfl
abbrev alT : Nat := 41 * 100000 + 19
end Go.Proofs.YtdkpmnefoobipaaGreatDoor
namespace Go.Proofs.YtdkpmnefoobipaaGreatDoor
open Go.RowKit Px

def DW (x y : DV) : Prop := ∀ (F : Nat → Nat → Prop) (w : World) (v : Value), DRep F w v x → DRep F w v y
def DWs : List DV → List DV → Prop
  | [], [] => True
  | x :: l, y :: r => DW x y ∧ DWs l r
  | _, _ => False
theorem dw_refl (x : DV) : DW x x := fun _ _ _ h => h
theorem dw_nil (k : Nat) : DW (.val (.slice none 0 0)) (.sl k []) := fun _ _ _ h => by
  rw [show _ = _ from DRep.val_eq h]; exact DRep.nil
theorem dws_get {l r : List DV} (h : DWs l r) : l.length = r.length ∧ ∀ (i : Nat) x y, l[i]? = some x → r[i]? = some y → DW x y := by
  induction l generalizing r with
  | nil => cases r with
    | nil => exact ⟨rfl, fun i x y h => by simp at h⟩
    | cons => cases h
  | cons x l ih =>
    cases r with
    | nil => cases h
    | cons y r =>
      obtain ⟨h1, h2⟩ := ih h.2
      refine ⟨by simp [h1], fun i a b ha hb => ?_⟩
      cases i with
      | zero => simp at ha hb; subst ha hb; exact h.1
      | succ i => exact h2 i a b (by simpa using ha) (by simpa using hb)
theorem dw_agg {l r : List DV} (h : DWs l r) : DW (.agg l) (.agg r) := fun F w v hd => by
  obtain ⟨h1, h2⟩ := dws_get h
  generalize e : DV.agg l = q at hd
  cases hd with
  | agg hl h1' hh =>
    cases e
    refine .agg (hl.trans h1) h1' fun i x c hx hc => ?_
    obtain ⟨c', hc'⟩ : ∃ c', l[i]? = some c' := ⟨_, List.getElem?_eq_getElem (by rw [h1]; exact (List.getElem?_eq_some_iff.1 hc).1)⟩
    exact h2 i c' c hc' hc F w x (hh i x c' hx hc')
  | _ => cases e
theorem PCalls.args {P : Program} {f : FuncId} {l r : List DV} {q : SV} (h : PCalls P f r q) (hd : DWs l r) : PCalls P f l q := fun F w vals hl hr hg => by
  obtain ⟨h1, h2⟩ := dws_get hd
  refine h F w vals (hl.trans h1) (fun i v x hv hx => ?_) hg
  obtain ⟨x', hx'⟩ : ∃ x', l[i]? = some x' := ⟨_, List.getElem?_eq_getElem (by rw [h1]; exact (List.getElem?_eq_some_iff.1 hx).1)⟩
  exact h2 i x' x hx' hx F w v (hr i v x' hv hx')

theorem wLongR (a : Str) : PCalls Tryz.prog 67 [dS a] (.d (dB (decide ((a.length : Int) > 13)))) := by
  refine pcalls_of_pw Tryz.func67 rfl Tryz.ntmps67 Tryz.results67 (by simp) fun B w0 => ?_
  refine pw_seq (pw_region (yAd rfl (yQ (pw_seq (pw_region (yMd rfl (yNs rfl (yB rfl rfl rfl rfl (yAd rfl ?_))))))))); refine yQ (pw_ret ?_)
  exact q_ret _ (.tmp rfl .nil) rfl
def lngH (h : Hd) : Bool := decide ((h.1.length : Int) > 40) || decide ((h.2.length : Int) > 13)
def lngM (m : Mv) : Bool := decide ((m.1.length : Int) > 40) || (decide ((m.2.2.1.length : Int) > 40) || (decide ((m.2.2.2.1.length : Int) > 13) || decide ((m.2.2.2.2.length : Int) > 13)))
def grtS (s : Stm) : Bool := decide ((s.hs.length : Int) > 6) || (decide ((s.ms.length : Int) > 8) || (s.hs.any lngH || s.ms.any lngM))
theorem any_at {α : Type} {p : α → Bool} {l : List α} {i : Nat} {x : α} (h : (l.take i).any p = false) (hx : l[i]? = some x) : (l.take (i + 1)).any p = p x := by
  rw [List.take_add_one, List.any_append, h, hx]; simp
theorem any_up {α : Type} {p : α → Bool} {l : List α} {i : Nat} (h : (l.take i).any p = true) : l.any p = true := by
  rw [List.any_eq_true] at h ⊢
  obtain ⟨x, h1, h2⟩ := h
  exact ⟨x, List.mem_of_mem_take h1, h2⟩
theorem fit_of {s : Stm} (h : grtS s = false) : fitS s ∧ s.hs.length ≤ 6 ∧ s.ms.length ≤ 8 ∧ (∀ x ∈ s.hs, lngH x = false) ∧ ∀ x ∈ s.ms, lngM x = false := by
  unfold grtS at h
  rw [Bool.or_eq_false_iff, Bool.or_eq_false_iff, Bool.or_eq_false_iff] at h
  obtain ⟨h1, h2, h3, h4⟩ := h
  have h1 := of_decide_eq_false h1
  have h2 := of_decide_eq_false h2
  rw [List.any_eq_false] at h3 h4
  refine ⟨⟨by omega, by omega, fun x hx => ?_, fun x hx => ?_⟩, by omega, by omega, fun x hx => by simpa using h3 x hx, fun x hx => by simpa using h4 x hx⟩
  · have := h3 x hx
    simp [lngH] at this
    exact ⟨by omega, by omega⟩
  · have := h4 x hx
    simp [lngM] at this
    exact ⟨by omega, by omega, by omega, by omega⟩
set_option maxRecDepth 20000 in
set_option maxHeartbeats 4000000 in
theorem wGreat1 (s : Stm) : PCalls Tryz.prog 38 [.agg (dSt s)] (.d (dB (grtS s))) := by
  obtain ⟨d, hs, ms⟩ := s
  obtain ⟨r, hr⟩ : ∃ r, r = grtS ⟨d, hs, ms⟩ := ⟨_, rfl⟩
  rw [← hr]
  unfold grtS at hr
  simp only at hr
  have em : ((hs.map dH).length : Int) = hs.length := by simp
  have em2 : ((ms.map dM).length : Int) = ms.length := by simp
  refine pcalls_of_pw Tryz.func38 rfl Tryz.ntmps38 Tryz.results38 (by simp) fun B w0 => ?_
  cases t1 : decide (((hs.map dH).length : Int) > 6) with
  | true =>
    rw [← em, t1] at hr
    rw [hr, Bool.true_or]
    refine pw_seq (pw_region (yK (cs := [_, _, _]) rfl rfl (yAd rfl (yQ (pw_seq (pw_seq (pw_region (yFb rfl (yLd rfl rfl rfl ?_))))))))); refine yN rfl (yB rfl rfl rfl rfl (yMd rfl ?_)); rw [t1]; refine yO rfl (yO rfl (yO rfl (yO rfl (yPd rfl rfl (yQ (pw_ct rfl (pw_seq (pw_region (yAd rfl ?_))))))))); refine yQ (pw_ret (q_then_ret ?_))
    exact q_ret _ (.tmp rfl .nil) rfl
  | false =>
  cases t2 : decide (((ms.map dM).length : Int) > 8) with
  | true =>
    rw [← em, ← em2, t1, t2] at hr
    rw [hr, Bool.true_or, Bool.or_true]
    refine pw_seq (pw_region (yK (cs := [_, _, _]) rfl rfl (yAd rfl (yQ (pw_seq (pw_seq (pw_region (yFb rfl (yLd rfl rfl rfl ?_))))))))); refine yN rfl (yB rfl rfl rfl rfl (yMd rfl ?_)); rw [t1]; refine yFb rfl (yLd rfl rfl rfl (yN rfl (yB rfl rfl rfl rfl (yVd rfl rfl (yQ (q_then ?_)))))); rw [t2]
    refine pw_ct rfl (pw_seq (pw_region (yAd rfl (yQ (pw_ret (q_then_ret ?_))))))
    exact q_ret _ (.tmp rfl .nil) rfl
  | false =>
  have b1 := of_decide_eq_false t1
  have b2 := of_decide_eq_false t2
  rw [← em, ← em2, t1, t2, Bool.false_or, Bool.false_or] at hr
  rw [em] at b1
  rw [em2] at b2
  refine pw_seq (pw_region (yK (cs := [_, _, _]) rfl rfl (yAd rfl (yQ (pw_seq (pw_seq (pw_region (yFb rfl (yLd rfl rfl rfl ?_))))))))); refine yN rfl (yB rfl rfl rfl rfl (yMd rfl ?_)); rw [t1]; refine yFb rfl (yLd rfl rfl rfl (yN rfl (yB rfl rfl rfl rfl (yVd rfl rfl (yQ (q_then ?_)))))); rw [t2]
  refine pw_cf rfl (pw_skip (pw_seq (pw_seq (pw_region (yAd rfl (yQ (pw_block ?_))))))); refine pw_loop (fun i : Nat => ⟨72, [(1, .bx 1 0), (3, .d (dI i))], [(1, [.d (dI d), .d (.sl 2 (hs.map dH)), .d (.sl 5 (ms.map dM))])], []⟩) (fun i => i ≤ hs.length ∧ (hs.take i).any lngH = false) (fun i => hs.length - i) 0 ⟨Nat.zero_le _, rfl⟩ ⟨rfl, ⟨.refl _, .refl _, trivial⟩, ⟨⟨_, rfl, .refl _, .refl _, .refl _, trivial⟩, trivial⟩, trivial, rfl⟩ ?_
  rintro i ⟨hi, h0⟩
  refine pw_seq (pw_seq (pw_region (yMd rfl (yFb rfl (yLd rfl rfl rfl (yN rfl (yB rfl rfl rfl rfl (yQ (q_then ?_))))))))); refine pw_cond rfl (fun h => ?_) (fun h => ?_)
  · simp at h
    obtain ⟨⟨x0, x1⟩, hx⟩ : ∃ a, hs[i]? = some a := ⟨_, List.getElem?_eq_getElem h⟩
    have ei := ix dH hs i i (x0, x1) rfl hx
    have hw := wrapI ((i : Int) + 1) (by omega)
    have c1 := wLongR x1
    have hat := any_at h0 hx
    have hup := any_up (p := lngH) (l := hs) (i := i + 1)
    rw [hat] at hup
    cases t3 : decide ((x0.length : Int) > 40) with
    | true =>
      rw [hup (by simp [lngH, t3]), Bool.true_or] at hr
      subst hr
      refine pw_skip (pw_seq (pw_block (pw_seq (pw_region (yFb rfl (yLd rfl rfl rfl (yMd rfl (yW ei (by omega) rfl rfl (yFr rfl rfl ?_))))))))); refine yLr rfl rfl (yNs rfl (yB rfl rfl rfl rfl (yMd rfl ?_))); rw [t3]; refine yO rfl (yO rfl (yO rfl (yO rfl (yO rfl (yO rfl (yO rfl (yPd rfl rfl (yQ (pw_ct rfl ?_))))))))); refine pw_seq (pw_region (yAd rfl (yQ (pw_ret (q_blk_ret (q_then_ret (q_then_ret (q_blk_ret (q_then_ret ?_)))))))))
      exact q_ret _ (.tmp rfl .nil) rfl
    | false =>
    cases t4 : decide ((x1.length : Int) > 13) with
    | true =>
      rw [hup (by simp [lngH, t3, t4]), Bool.true_or] at hr
      subst hr
      rw [t4] at c1
      refine pw_skip (pw_seq (pw_block (pw_seq (pw_region (yFb rfl (yLd rfl rfl rfl (yMd rfl (yW ei (by omega) rfl rfl (yFr rfl rfl ?_))))))))); refine yLr rfl rfl (yNs rfl (yB rfl rfl rfl rfl (yMd rfl ?_))); rw [t3]; refine yFb rfl (yLd rfl rfl rfl (yMd rfl (yW ei (by omega) rfl rfl (yFr rfl rfl (yLr rfl rfl (yC (c1) rfl rfl (yVd rfl rfl (yQ (pw_ct rfl ?_))))))))); refine pw_seq (pw_region (yAd rfl (yQ (pw_ret (q_blk_ret (q_then_ret (q_then_ret (q_blk_ret (q_then_ret ?_)))))))))
      exact q_ret _ (.tmp rfl .nil) rfl
    | false =>
      rw [t4] at c1
      refine pw_skip (pw_seq (pw_block (pw_seq (pw_region (yFb rfl (yLd rfl rfl rfl (yMd rfl (yW ei (by omega) rfl rfl (yFr rfl rfl ?_))))))))); refine yLr rfl rfl (yNs rfl (yB rfl rfl rfl rfl (yMd rfl ?_))); rw [t3]; refine yFb rfl (yLd rfl rfl rfl (yMd rfl (yW ei (by omega) rfl rfl (yFr rfl rfl (yLr rfl rfl (yC (c1) rfl rfl (yVd rfl rfl (yQ (pw_cf rfl ?_))))))))); refine pw_skip (pw_region (yMd rfl (yB rfl rfl rfl rfl (yAd rfl (yQ (q_then ?_))))))
      refine ⟨i + 1, ⟨by omega, by rw [hat]; simp [lngH, t3, t4]⟩, by omega, rfl, ⟨.refl _, .of_eq (congrArg (fun n => SV.d (dI n)) hw), trivial⟩, ⟨⟨_, rfl, .refl _, .refl _, .refl _, trivial⟩, trivial⟩, trivial, rfl⟩
  simp at h
  rw [List.take_of_length_le (by omega)] at h0
  rw [h0, Bool.false_or] at hr
  clear h0
  refine pw_exit (pw_seq (pw_seq (pw_region (yAd rfl (yQ (pw_block ?_)))))); refine pw_loop (fun i : Nat => ⟨72, [(1, .bx 1 0), (4, .d (dI i))], [(1, [.d (dI d), .d (.sl 2 (hs.map dH)), .d (.sl 5 (ms.map dM))])], []⟩) (fun i => i ≤ ms.length ∧ (ms.take i).any lngM = false) (fun i => ms.length - i) 0 ⟨Nat.zero_le _, rfl⟩ ⟨rfl, ⟨.refl _, .refl _, trivial⟩, ⟨⟨_, rfl, .refl _, .refl _, .refl _, trivial⟩, trivial⟩, trivial, rfl⟩ ?_
  rintro i ⟨hi, h0⟩
  refine pw_seq (pw_seq (pw_region (yMd rfl (yFb rfl (yLd rfl rfl rfl (yN rfl (yB rfl rfl rfl rfl (yQ (q_then ?_))))))))); refine pw_cond rfl (fun h => ?_) (fun h => ?_)
  · simp at h
    obtain ⟨⟨x0, x1, x2, x3, x4⟩, hx⟩ : ∃ a, ms[i]? = some a := ⟨_, List.getElem?_eq_getElem h⟩
    have ei := ix dM ms i i (x0, x1, x2, x3, x4) rfl hx
    have hw := wrapI ((i : Int) + 1) (by omega)
    have c1 := wLongR x3
    have c2 := wLongR x4
    have hat := any_at h0 hx
    have hup := any_up (p := lngM) (l := ms) (i := i + 1)
    rw [hat] at hup
    cases t3 : decide ((x0.length : Int) > 40) with
    | true =>
      rw [hup (by simp [lngM, t3])] at hr
      subst hr
      refine pw_skip (pw_seq (pw_block (pw_seq (pw_region (yFb rfl (yLd rfl rfl rfl (yMd rfl (yW ei (by omega) rfl rfl (yLs (ys := [_, _, _, _, _]) rfl rfl rfl ?_))))))))); refine yZ (cs := [_, _, _, _, _]) rfl rfl (yS (cs' := [_, _, _, _, _]) rfl rfl rfl rfl rfl (yQ (pw_seq (pw_region (yFb rfl (yLd rfl rfl rfl (yNs rfl (yB rfl rfl rfl rfl (yMd rfl ?_))))))))); rw [t3]; refine yO rfl (yO rfl (yO rfl (yO rfl (yPd rfl rfl (yMd rfl (yO rfl (yO rfl (yO rfl (yPd rfl rfl ?_))))))))); refine yMd rfl (yO rfl (yO rfl (yO rfl (yPd rfl rfl (yQ (pw_ct rfl (pw_seq (pw_region (yAd rfl ?_))))))))); refine yQ (pw_ret (q_blk_ret (q_then_ret (q_then_ret (q_blk_ret (q_then_ret ?_))))))
      exact q_ret _ (.tmp rfl .nil) rfl
    | false =>
    cases t4 : decide ((x2.length : Int) > 40) with
    | true =>
      rw [hup (by simp [lngM, t3, t4])] at hr
      subst hr
      refine pw_skip (pw_seq (pw_block (pw_seq (pw_region (yFb rfl (yLd rfl rfl rfl (yMd rfl (yW ei (by omega) rfl rfl (yLs (ys := [_, _, _, _, _]) rfl rfl rfl ?_))))))))); refine yZ (cs := [_, _, _, _, _]) rfl rfl (yS (cs' := [_, _, _, _, _]) rfl rfl rfl rfl rfl (yQ (pw_seq (pw_region (yFb rfl (yLd rfl rfl rfl (yNs rfl (yB rfl rfl rfl rfl (yMd rfl ?_))))))))); rw [t3]; refine yFb rfl (yLd rfl rfl rfl (yNs rfl (yB rfl rfl rfl rfl (yVd rfl rfl (yMd rfl ?_))))); rw [t4]; refine yO rfl (yO rfl (yO rfl (yPd rfl rfl (yMd rfl (yO rfl (yO rfl (yO rfl (yPd rfl rfl (yQ ?_))))))))); refine pw_ct rfl (pw_seq (pw_region (yAd rfl (yQ (pw_ret (q_blk_ret (q_then_ret (q_then_ret (q_blk_ret ?_))))))))); refine q_then_ret ?_
      exact q_ret _ (.tmp rfl .nil) rfl
    | false =>
    cases t5 : decide ((x3.length : Int) > 13) with
    | true =>
      rw [hup (by simp [lngM, t3, t4, t5])] at hr
      subst hr
      rw [t5] at c1
      refine pw_skip (pw_seq (pw_block (pw_seq (pw_region (yFb rfl (yLd rfl rfl rfl (yMd rfl (yW ei (by omega) rfl rfl (yLs (ys := [_, _, _, _, _]) rfl rfl rfl ?_))))))))); refine yZ (cs := [_, _, _, _, _]) rfl rfl (yS (cs' := [_, _, _, _, _]) rfl rfl rfl rfl rfl (yQ (pw_seq (pw_region (yFb rfl (yLd rfl rfl rfl (yNs rfl (yB rfl rfl rfl rfl (yMd rfl ?_))))))))); rw [t3]; refine yFb rfl (yLd rfl rfl rfl (yNs rfl (yB rfl rfl rfl rfl (yVd rfl rfl (yMd rfl ?_))))); rw [t4]; refine yFb rfl (yLd rfl rfl rfl (yC (c1) rfl rfl (yVd rfl rfl (yMd rfl (yO rfl (yO rfl (yO rfl (yPd rfl rfl (yQ ?_))))))))); refine pw_ct rfl (pw_seq (pw_region (yAd rfl (yQ (pw_ret (q_blk_ret (q_then_ret (q_then_ret (q_blk_ret ?_))))))))); refine q_then_ret ?_
      exact q_ret _ (.tmp rfl .nil) rfl
    | false =>
    rw [t5] at c1
    cases t6 : decide ((x4.length : Int) > 13) with
    | true =>
      rw [hup (by simp [lngM, t3, t4, t5, t6])] at hr
      subst hr
      rw [t6] at c2
      refine pw_skip (pw_seq (pw_block (pw_seq (pw_region (yFb rfl (yLd rfl rfl rfl (yMd rfl (yW ei (by omega) rfl rfl (yLs (ys := [_, _, _, _, _]) rfl rfl rfl ?_))))))))); refine yZ (cs := [_, _, _, _, _]) rfl rfl (yS (cs' := [_, _, _, _, _]) rfl rfl rfl rfl rfl (yQ (pw_seq (pw_region (yFb rfl (yLd rfl rfl rfl (yNs rfl (yB rfl rfl rfl rfl (yMd rfl ?_))))))))); rw [t3]; refine yFb rfl (yLd rfl rfl rfl (yNs rfl (yB rfl rfl rfl rfl (yVd rfl rfl (yMd rfl ?_))))); rw [t4]; refine yFb rfl (yLd rfl rfl rfl (yC (c1) rfl rfl (yVd rfl rfl (yMd rfl (yFb rfl (yLd rfl rfl rfl (yC (c2) rfl rfl (yVd rfl rfl (yQ ?_))))))))); refine pw_ct rfl (pw_seq (pw_region (yAd rfl (yQ (pw_ret (q_blk_ret (q_then_ret (q_then_ret (q_blk_ret ?_))))))))); refine q_then_ret ?_
      exact q_ret _ (.tmp rfl .nil) rfl
    | false =>
      rw [t6] at c2
      refine pw_skip (pw_seq (pw_block (pw_seq (pw_region (yFb rfl (yLd rfl rfl rfl (yMd rfl (yW ei (by omega) rfl rfl (yLs (ys := [_, _, _, _, _]) rfl rfl rfl ?_))))))))); refine yZ (cs := [_, _, _, _, _]) rfl rfl (yS (cs' := [_, _, _, _, _]) rfl rfl rfl rfl rfl (yQ (pw_seq (pw_region (yFb rfl (yLd rfl rfl rfl (yNs rfl (yB rfl rfl rfl rfl (yMd rfl ?_))))))))); rw [t3]; refine yFb rfl (yLd rfl rfl rfl (yNs rfl (yB rfl rfl rfl rfl (yVd rfl rfl (yMd rfl ?_))))); rw [t4]; refine yFb rfl (yLd rfl rfl rfl (yC (c1) rfl rfl (yVd rfl rfl (yMd rfl (yFb rfl (yLd rfl rfl rfl (yC (c2) rfl rfl (yVd rfl rfl (yQ ?_))))))))); refine pw_cf rfl (pw_skip (pw_region (yMd rfl (yB rfl rfl rfl rfl (yAd rfl (yQ (q_then ?_)))))))
      refine ⟨i + 1, ⟨by omega, by rw [hat]; simp [lngM, t3, t4, t5, t6]⟩, by omega, rfl, ⟨.refl _, .of_eq (congrArg (fun n => SV.d (dI n)) hw), trivial⟩, ⟨⟨_, rfl, .refl _, .refl _, .refl _, trivial⟩, trivial⟩, trivial, rfl⟩
  simp at h
  rw [List.take_of_length_le (by omega)] at h0
  rw [h0] at hr
  subst hr
  refine pw_exit (pw_seq (pw_region (yAd rfl (yQ (pw_ret ?_)))))
  exact q_ret _ (.tmp rfl .nil) rfl
set_option maxRecDepth 20000 in
theorem wGreat (s t : Stm) : PCalls Tryz.prog 10 [.agg (dSt s), .agg (dSt t)] (.d (dB (grtS s || grtS t))) := by
  have c1 := wGreat1 s
  have c2 := wGreat1 t
  obtain ⟨a, ha⟩ : ∃ a, a = grtS s := ⟨_, rfl⟩
  obtain ⟨b, hb⟩ : ∃ b, b = grtS t := ⟨_, rfl⟩
  rw [← ha] at c1 ⊢
  rw [← hb] at c2 ⊢
  obtain ⟨d1, h1, ms⟩ := s
  obtain ⟨d2, h2, ts⟩ := t
  cases a with
  | true =>
    refine pcalls_of_pw Tryz.func10 rfl Tryz.ntmps10 Tryz.results10 (by simp) fun B w0 => ?_
    refine pw_seq (pw_region (yK (cs := [_, _, _]) rfl rfl (yK (cs := [_, _, _]) rfl rfl (yAd rfl (yQ (pw_seq (pw_region (yLa (ys := [_, _, _]) rfl rfl rfl rfl (yC (c1) rfl rfl ?_))))))))); refine yMd rfl (yO rfl (yO rfl (yPd rfl rfl (yAd rfl (yQ (pw_ret ?_))))))
    exact q_ret _ (.tmp rfl .nil) rfl
  | false =>
    refine pcalls_of_pw Tryz.func10 rfl Tryz.ntmps10 Tryz.results10 (by simp) fun B w0 => ?_
    refine pw_seq (pw_region (yK (cs := [_, _, _]) rfl rfl (yK (cs := [_, _, _]) rfl rfl (yAd rfl (yQ (pw_seq (pw_region (yLa (ys := [_, _, _]) rfl rfl rfl rfl (yC (c1) rfl rfl ?_))))))))); refine yMd rfl (yLa (ys := [_, _, _]) rfl rfl rfl rfl (yC c2 rfl rfl (yVd rfl rfl (yAd rfl (yQ (pw_ret ?_))))))
    exact q_ret _ (.tmp rfl .nil) rfl
end Go.Proofs.YtdkpmnefoobipaaGreatDoor
namespace Go.Proofs.YtdkpmnefoobipaaGreatDoor
open Go.RowKit Px

end Go.Proofs.YtdkpmnefoobipaaGreatDoor
namespace Go.Proofs.YtdkpmnefoobipaaGreatDoor
open Go.RowKit Px

def mvv (r : Str) (d q a : Int) : Mv := (r, d, [97, 98, 99], canon q, canon a)
set_option maxRecDepth 20000 in
theorem wMove (r : Str) (d q a : Int) (h1 : -9223372036854775808 ≤ q) (h2 : q ≤ 9223372036854775807) (h3 : -9223372036854775808 ≤ a) (h4 : a ≤ 9223372036854775807) : PCalls Tryz.prog 39 [dS r, dI d, dI q, dI a] (.d (.agg (dM (mvv r d q a)))) := by
  have c1 := wOf q h1 h2
  have c2 := wOf a h3 h4
  refine pcalls_of_pw Tryz.func39 rfl Tryz.ntmps39 Tryz.results39 (by simp) fun B w0 => ?_
  refine pw_seq (pw_region (yZ (cs := [_, _, _, _, _]) rfl rfl (yQ (pw_seq (pw_region (yMd rfl (yMd rfl (yMd rfl (yC (c1) rfl rfl ?_))))))))); refine yMd rfl (yC (c2) rfl rfl (yG (ys := [_, _, _, _, _]) rfl rfl (yS (cs' := [_, _, _, _, _]) rfl rfl rfl rfl rfl (yQ (pw_ret ?_)))))
  exact q_ret _ (.agg inferInstance rfl rfl rfl rfl .nil) rfl
def S1 : Stm := ⟨30, [], [mvv [97] 10 10 (-500), mvv [98] 20 (-3) 160]⟩
def S2 : Stm := ⟨30, [], [mvv [97] 12 10 (-500), mvv [98] 20 (-3) 159]⟩
def S3 : Stm := ⟨30, [], [mvv [120] 12 10 (-500)]⟩
theorem aw1 : ckE S1 S2 5 = 0 := by kernel_rfl
theorem aw2 : allR' S1 S2 5 = [(5, [97], [49, 48], [49, 50]), (4, [98], [49, 54, 48], [49, 53, 57])] := by kernel_rfl
theorem aw3 : pairsR S1 S3 2 = [(0, 0)] := by kernel_rfl
theorem aw4 : pairsR S1 S3 1 = [] := by kernel_rfl
theorem aw5 : ckE S1 S3 1 = 0 := by kernel_rfl
theorem aw6 : ckE S1 S3 2 = 0 := by kernel_rfl
theorem aw7 : grtS S1 = false := by kernel_rfl
theorem aw8 : grtS S2 = false := by kernel_rfl
theorem aw9 : grtS S3 = false := by kernel_rfl
abbrev dStN (s : Stm) : List DV := [dI s.d, .val (.slice none 0 0), .sl 5 (s.ms.map dM)]
theorem dw_st (s : Stm) (h : s.hs = []) : DW (.agg (dStN s)) (.agg (dSt s)) := dw_agg ⟨dw_refl _, by rw [h]; exact dw_nil 2, dw_refl _, trivial⟩
set_option maxRecDepth 20000 in
set_option maxHeartbeats 4000000 in
theorem wAwake : PCalls Tryz.prog 11 [] (.d (dB true)) := by
  have m1 := wMove [97] 10 10 (-500) (by omega) (by omega) (by omega) (by omega)
  have m2 := wMove [98] 20 (-3) 160 (by omega) (by omega) (by omega) (by omega)
  have m3 := wMove [97] 12 10 (-500) (by omega) (by omega) (by omega) (by omega)
  have m4 := wMove [98] 20 (-3) 159 (by omega) (by omega) (by omega) (by omega)
  have m5 := wMove [120] 12 10 (-500) (by omega) (by omega) (by omega) (by omega)
  have f1 := (fit_of aw7).1
  have f2 := (fit_of aw8).1
  have f3 := (fit_of aw9).1
  have c1 := PCalls.args (wAll S1 S2 5 f1 f2) (l := [.agg (dStN S1), .agg (dStN S2), dI 5]) ⟨dw_st S1 rfl, dw_st S2 rfl, dw_refl _, trivial⟩
  have c2 := PCalls.args (wPairs S1 S3 2 f1 f3) (l := [.agg (dStN S1), .agg (dStN S3), dI 2]) ⟨dw_st S1 rfl, dw_st S3 rfl, dw_refl _, trivial⟩
  have c3 := PCalls.args (wPairs S1 S3 1 f1 f3) (l := [.agg (dStN S1), .agg (dStN S3), dI 1]) ⟨dw_st S1 rfl, dw_st S3 rfl, dw_refl _, trivial⟩
  rw [aw1, aw2] at c1
  rw [aw6, aw3] at c2
  rw [aw5, aw4] at c3
  have c4 := wEqB [(5, [97], [49, 48], [49, 50]), (4, [98], [49, 54, 48], [49, 53, 57])] [(5, [97], [49, 48], [49, 50]), (4, [98], [49, 54, 48], [49, 53, 57])] (by simp) (by simp)
  have c5 := wEqP [(0, 0)] [(0, 0)] (by simp) (by simp)
  rw [decide_eq_true rfl] at c4 c5
  refine pcalls_of_pw Tryz.func11 rfl Tryz.ntmps11 Tryz.results11 (by simp) fun B w0 => ?_
  refine pw_seq (pw_region (yAd rfl (yQ (pw_seq (pw_region (yC (m1) rfl rfl (yC (m2) rfl rfl (yR (es := [[_, _, _, _, _], [_, _, _, _, _]]) rfl rfl rfl rfl rfl (yG (ys := [_, _, _]) rfl rfl ?_))))))))); refine yZ (cs := [_, _, _]) rfl rfl (yS (cs' := [_, _, _]) rfl rfl rfl rfl rfl (yQ (pw_seq (pw_region (yC (m3) rfl rfl (yC (m4) rfl rfl (yR (es := [[_, _, _, _, _], [_, _, _, _, _]]) rfl rfl rfl rfl rfl (yG (ys := [_, _, _]) rfl rfl (yZ (cs := [_, _, _]) rfl rfl ?_))))))))); refine yS (cs' := [_, _, _]) rfl rfl rfl rfl rfl (yQ (pw_seq (pw_region (yC (m5) rfl rfl (yR (es := [[_, _, _, _, _]]) rfl rfl rfl rfl rfl (yG (ys := [_, _, _]) rfl rfl (yZ (cs := [_, _, _]) rfl rfl (yS (cs' := [_, _, _]) rfl rfl rfl rfl rfl (yQ ?_))))))))); refine pw_seq (pw_region (yLa (ys := [_, _, _]) rfl rfl rfl rfl (yLa (ys := [_, _, _]) rfl rfl rfl rfl (yC (c1) rfl rfl (yMp rfl (yX rfl rfl (yX rfl rfl (yAd rfl (yAd rfl ?_))))))))); refine yQ (pw_seq (pw_region (yLa (ys := [_, _, _]) rfl rfl rfl rfl (yLa (ys := [_, _, _]) rfl rfl rfl rfl (yC (c2) rfl rfl (yMp rfl (yX rfl rfl (yX rfl rfl (yAd rfl ?_))))))))); refine yAd rfl (yQ (pw_seq (pw_region (yLa (ys := [_, _, _]) rfl rfl rfl rfl (yLa (ys := [_, _, _]) rfl rfl rfl rfl (yC (c3) rfl rfl (yMp rfl (yX rfl rfl (yX rfl rfl ?_))))))))); refine yAd rfl (yAd rfl (yQ (pw_seq (pw_region (yMd rfl (yB rfl rfl rfl rfl (yMd rfl (yMd rfl (yB rfl rfl rfl rfl ?_))))))))); refine yPd rfl rfl (yMd rfl (yMd rfl (yB rfl rfl rfl rfl (yPd rfl rfl (yMd rfl (yMd rfl (yG (ys := [_, _, _, _]) rfl rfl (yG (ys := [_, _, _, _]) rfl rfl (yR (es := [[_, _, _, _], [_, _, _, _]]) rfl rfl rfl rfl rfl ?_))))))))); refine yC (c4) rfl rfl (yPd rfl rfl (yMd rfl (yMd rfl (yG (ys := [_, _]) rfl rfl (yR (es := [[_, _]]) rfl rfl rfl rfl rfl (yC (c5) rfl rfl (yPd rfl rfl (yMd rfl (yMd rfl ?_))))))))); refine yN rfl (yB rfl rfl rfl rfl (yPd rfl rfl (yMd rfl (yMd rfl (yN rfl (yB rfl rfl rfl rfl (yPd rfl rfl (yAd rfl (yQ ?_))))))))); refine pw_ret ?_
  exact q_ret _ (.tmp rfl .nil) rfl
end Go.Proofs.YtdkpmnefoobipaaGreatDoor
namespace Go.Proofs.YtdkpmnefoobipaaGreatDoor
theorem and_mk {a b : Bool} (h : a = true) (h' : b = true) : (a && b) = true := by rw [h, h']; rfl
theorem sharedfact1 : laidOutB Tryz.prog = true := by kernel_rfl
theorem sharedfact2 : mapsRowed Tryz.prog = true := by kernel_rfl
theorem sharedfact6 : (Tryz.prog.stops == []) = true := by kernel_rfl
theorem sharedfact8 : (Tryz.prog.stopKnobs == []) = true := by kernel_rfl
theorem sharedplainKeys : Tryz.prog.plainKeys = true := by kernel_rfl
theorem sharedfact24 : Tryz.prog.stopsHeard = true := by kernel_rfl
theorem sharedfact25 : Tryz.prog.mayEnter = true := by kernel_rfl
theorem sharedliftsFinal : Tryz.prog.liftsFinal = false := by kernel_rfl
end Go.Proofs.YtdkpmnefoobipaaGreatDoor
