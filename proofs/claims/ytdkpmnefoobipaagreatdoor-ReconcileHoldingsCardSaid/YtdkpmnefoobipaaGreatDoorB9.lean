/- Plain law of the numbers of breaks, and of exchanged statements. -/
import Derived.Test.YtdkpmnefoobipaaGreatDoorB8
set_option maxHeartbeats 1000000
namespace Go.Proofs.YtdkpmnefoobipaaGreatDoor
open Go.RowKit Px

def clsB (x : Bk) : Bool := decide (1 ≤ x.1) && decide (x.1 ≤ 6)
def cnt1 (l : List Bk) (c : Nat) : Int := ((l.countP fun x => x.1 == (c : Int) + 1 : Nat) : Int)
def cntL (l : List Bk) : List Int := (List.range 6).map (cnt1 l)
theorem cnt1_snoc (l : List Bk) (x : Bk) (c : Nat) : cnt1 (l ++ [x]) c = cnt1 l c + if x.1 = (c : Int) + 1 then 1 else 0 := by
  unfold cnt1
  rw [List.countP_append]
  by_cases h : x.1 = (c : Int) + 1
  · simp [h]
  · simp [h]
theorem cntL_len (l : List Bk) : (cntL l).length = 6 := by simp [cntL]
theorem cntL_get {l : List Bk} {c : Nat} (h : c < 6) : (cntL l)[c]? = some (cnt1 l c) := by
  unfold cntL
  rw [List.getElem?_map, List.getElem?_range h]; rfl
theorem cntL_snoc {l : List Bk} {x : Bk} {c : Nat} (hc : c < 6) (hx : x.1 = (c : Int) + 1) : (cntL l).set c (cnt1 l c + 1) = cntL (l ++ [x]) := by
  apply List.ext_getElem?
  intro j
  by_cases hj : j < 6
  · by_cases e : c = j
    · subst e
      rw [List.getElem?_set_self (by rw [cntL_len]; exact hj), cntL_get hj, cnt1_snoc, if_pos hx]
    · rw [List.getElem?_set_ne e, cntL_get hj, cntL_get hj, cnt1_snoc, if_neg (by omega), Int.add_zero]
  · rw [List.getElem?_eq_none (by rw [List.length_set, cntL_len]; omega), List.getElem?_eq_none (by rw [cntL_len]; omega)]
theorem cnt1_bd (l : List Bk) (c : Nat) : 0 ≤ cnt1 l c ∧ cnt1 l c ≤ l.length := by
  unfold cnt1
  have := List.countP_le_length (p := fun x : Bk => x.1 == (c : Int) + 1) (l := l)
  omega
end Go.Proofs.YtdkpmnefoobipaaGreatDoor
namespace Go.Proofs.YtdkpmnefoobipaaGreatDoor
open Go.RowKit Px

abbrev cc (zs : List Int) : List SV := zs.map fun z => SV.d (dI z)
theorem cc_at {l : List Bk} {c : Nat} (h : c < 6) : (cc (cntL l))[(c : Int).toNat * 1]? = some (.d (dI (cnt1 l c))) := by
  rw [Int.toNat_natCast, Nat.mul_one, List.getElem?_map, cntL_get h]; rfl
theorem cc_set {l : List Bk} {x : Bk} {c : Nat} (hc : c < 6) (hx : x.1 = (c : Int) + 1) : (cc (cntL l)).set ((c : Int).toNat * 1) (.d (dI (cnt1 l c + 1))) = cc (cntL (l ++ [x])) := by
  rw [Int.toNat_natCast, Nat.mul_one, ← cntL_snoc hc hx]
  exact (List.map_set ..).symm
theorem toDs_cc (l : List Int) : toDs (cc l) = some (l.map dI) := by
  induction l with
  | nil => rfl
  | cons x l ih =>
    show toDs (SV.d (dI x) :: cc l) = _
    simp only [toDs, toD, ih, List.map_cons]
def cntR (l : List Bk) : List Int := if l.all clsB then cntL l else []
def cntE (l : List Bk) : Int := if l.all clsB then 0 else 7
set_option maxRecDepth 20000 in
set_option maxHeartbeats 4000000 in
theorem wCounts (l : List Bk) (hl : l.length ≤ 100000) : PCalls Tryz.prog 23 [.sl 4 (l.map dBk)] (.tup [dIs (cntR l), dI (cntE l)]) := by
  obtain ⟨r, hr⟩ : ∃ r, r = cntR l := ⟨_, rfl⟩
  obtain ⟨e, he⟩ : ∃ r, r = cntE l := ⟨_, rfl⟩
  rw [← hr, ← he]
  refine pcalls_of_pw Tryz.func23 rfl Tryz.ntmps23 Tryz.results23 (by simp) fun B w0 => ?_
  refine pw_seq (pw_region (yAd rfl (yAd rfl (yQ (pw_seq (pw_region (yMk (by omega) (by omega) (by omega) (by omega) rfl rfl rfl (yAw rfl (yQ ?_))))))))); refine pw_seq (pw_seq (pw_region (yMd rfl (yN rfl (yMd rfl (yQ (pw_block ?_))))))); refine pw_loop (fun i : Nat => ⟨32, [(4, .bs 7 6 3 1), (8, .d (.sl 4 (l.map dBk))), (9, .d (dI l.length)), (10, .d (dI i))], [(7, cc (cntL (l.take i)))], []⟩) (fun i => i ≤ l.length ∧ (l.take i).all clsB = true) (fun i => l.length - i) 0 ⟨Nat.zero_le _, rfl⟩
    ⟨rfl, ⟨.refl _, .refl _, .of_eq (congrArg (fun n : Nat => SV.d (dI n)) (by simp)), .refl _, trivial⟩, ⟨⟨_, rfl, lesC_eq rfl⟩, trivial⟩, trivial, rfl⟩ ?_
  rintro i ⟨hi, h0⟩
  refine pw_seq (pw_region (yB rfl rfl rfl rfl (yQ (pw_seq ?_)))); refine pw_cond rfl (fun h => ?_) (fun h => ?_)
  · simp at h
    obtain ⟨⟨x0, x1, x2, x3⟩, hx⟩ : ∃ a, l[i]? = some a := ⟨_, List.getElem?_eq_getElem h⟩
    have ex := ix dBk l i i (x0, x1, x2, x3) rfl hx
    have hw := wrapI ((i : Int) + 1) (by omega)
    have hbad : clsB (x0, x1, x2, x3) = false → r = [] ∧ e = 7 := fun hc => by
      have : l.all clsB = false := by
        rw [← Bool.not_eq_true, List.all_eq_true]
        intro h2
        have := h2 _ (List.mem_of_getElem? hx)
        rw [hc] at this
        cases this
      rw [hr, he, cntR, cntE, this]
      exact ⟨rfl, rfl⟩
    by_cases h1 : x0 < 1
    · obtain ⟨rfl, rfl⟩ := hbad (by unfold clsB; simp; omega)
      have u1 : decide (x0 < 1) = true := decide_eq_true h1
      refine pw_skip (pw_seq (pw_block (pw_seq (pw_region (yW ex (by omega) rfl rfl (yLs (ys := [_, _, _, _]) rfl rfl rfl (yZ (cs := [_, _, _, _]) rfl rfl (yS (cs' := [_, _, _, _]) rfl rfl rfl rfl rfl (yQ ?_))))))))); refine pw_seq (pw_seq (pw_region (yFb rfl (yLd rfl rfl rfl (yB rfl rfl rfl rfl (yMd rfl ?_)))))); rw [u1]
      refine yO rfl (yO rfl (yO rfl (yPd rfl rfl (yQ (pw_ct rfl (pw_seq (pw_region (yAd rfl (yAd rfl ?_))))))))); refine yQ (pw_ret (q_then_ret (q_blk_ret (q_then_ret (q_then_ret (q_blk_ret (q_then_ret ?_)))))))
      exact q_ret _ (.tnil 1 rfl (.tmp rfl .nil)) rfl
    have u1 : decide (x0 < 1) = false := decide_eq_false h1
    by_cases h2 : x0 > 6
    · obtain ⟨rfl, rfl⟩ := hbad (by unfold clsB; simp; omega)
      have u2 : decide (x0 > 6) = true := decide_eq_true h2
      refine pw_skip (pw_seq (pw_block (pw_seq (pw_region (yW ex (by omega) rfl rfl (yLs (ys := [_, _, _, _]) rfl rfl rfl (yZ (cs := [_, _, _, _]) rfl rfl (yS (cs' := [_, _, _, _]) rfl rfl rfl rfl rfl (yQ ?_))))))))); refine pw_seq (pw_seq (pw_region (yFb rfl (yLd rfl rfl rfl (yB rfl rfl rfl rfl (yMd rfl ?_)))))); rw [u1]
      refine yFb rfl (yLd rfl rfl rfl (yB rfl rfl rfl rfl (yVd rfl rfl (yQ (q_then ?_))))); rw [u2]; refine pw_ct rfl (pw_seq (pw_region (yAd rfl (yAd rfl (yQ (pw_ret (q_then_ret (q_blk_ret (q_then_ret ?_))))))))); refine q_then_ret (q_blk_ret (q_then_ret ?_))
      exact q_ret _ (.tnil 1 rfl (.tmp rfl .nil)) rfl
    have u2 : decide (x0 > 6) = false := decide_eq_false h2
    obtain ⟨c, hc⟩ : ∃ c : Nat, x0 = (c : Int) + 1 := ⟨(x0 - 1).toNat, by omega⟩
    have hc6 : c < 6 := by omega
    have hw2 : IntKind.i64.wrap (x0 - 1) = (c : Int) := by rw [wrapI _ (by omega)]; omega
    have hbd := cnt1_bd (l.take i) c
    rw [List.length_take] at hbd
    have hw3 := wrapI (cnt1 (l.take i) c + 1) (by omega)
    have hat := cc_at (l := l.take i) hc6
    have hset := cc_set (l := l.take i) (x := (x0, x1, x2, x3)) hc6 hc
    have htk : l.take (i + 1) = l.take i ++ [(x0, x1, x2, x3)] := by rw [List.take_add_one, hx]; rfl
    refine pw_skip (pw_seq (pw_block (pw_seq (pw_region (yW ex (by omega) rfl rfl (yLs (ys := [_, _, _, _]) rfl rfl rfl (yZ (cs := [_, _, _, _]) rfl rfl (yS (cs' := [_, _, _, _]) rfl rfl rfl rfl rfl (yQ ?_))))))))); refine pw_seq (pw_seq (pw_region (yFb rfl (yLd rfl rfl rfl (yB rfl rfl rfl rfl (yMd rfl ?_)))))); rw [u1]
    refine yFb rfl (yLd rfl rfl rfl (yB rfl rfl rfl rfl (yVd rfl rfl (yQ (q_then ?_))))); rw [u2]; refine pw_cf rfl (pw_skip (pw_region (yMw rfl (yFb rfl (yLd rfl rfl rfl (yB rfl rfl rfl rfl ?_)))))); rw [hw2]; refine yWb (by omega) (by omega) rfl rfl rfl (yLd rfl rfl hat (yB rfl rfl rfl rfl (yWb (by omega) (by omega) rfl rfl rfl ?_))); rw [hw3]; refine ySd rfl rfl rfl hset ?_ (by refine Nat.ble_eq_true_of_le ?_; simp [cc, cntL]; omega); refine yQ (pw_region (yB rfl rfl rfl rfl (yMd rfl (yQ (q_then ?_)))))
    refine ⟨i + 1, ⟨by omega, by rw [htk, List.all_append, h0]; simp [clsB]; omega⟩, by omega, rfl, ⟨.refl _, .refl _, .refl _, .of_eq (congrArg (fun n => SV.d (dI n)) hw), trivial⟩, ⟨⟨_, rfl, lesC_eq (by rw [htk])⟩, trivial⟩, trivial, by simp [PS.closed, SV.ok, aget, Nat.beq, -List.map_take, -List.map_set]⟩
  · simp at h
    rw [List.take_of_length_le (by omega)] at h0 ⊢
    rw [cntR, h0, if_pos rfl] at hr
    rw [cntE, h0, if_pos rfl] at he
    subst hr he
    have hch := chunk_one dI (cntL l)
    rw [cntL_len] at hch
    refine pw_frz 4 7 (es := (cntL l).map dZ) (ds := (cntL l).map dI) (by simp [cntL_len]) hch (toDs_cc _) rfl rfl ?_; refine pw_exit (pw_seq (pw_region (yMd rfl (yAd rfl (yAd rfl (yQ (pw_ret ?_)))))))
    exact q_ret _ (.tmp rfl (.tmp rfl .nil)) rfl
end Go.Proofs.YtdkpmnefoobipaaGreatDoor
namespace Go.Proofs.YtdkpmnefoobipaaGreatDoor
open Go.RowKit Px

end Go.Proofs.YtdkpmnefoobipaaGreatDoor
