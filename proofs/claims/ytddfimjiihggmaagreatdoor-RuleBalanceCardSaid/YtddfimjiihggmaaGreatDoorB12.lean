/- Walks: the difference of a rule's sides for some amounts. -/
import Derived.Test.YtddfimjiihggmaaGreatDoorB8
import Derived.Test.YtddfimjiihggmaaGreatDoorB7
import Derived.Test.YtddfimjiihggmaaGreatDoorB4
import Derived.Shelf.SlicesE.Compact
import Derived.Ground.SlgnProg
import Derived.Test.YtddfimjiihggmaaGreatDoorProg
import Derived.Test.YtddfimjiihggmaaGreatDoorB6
import Derived.Shelf.SortM.Plain
import Derived.Shelf.SortM.SortNone
import Derived.Sort.OwnSorted
import Derived.Sort.Walk0
import Derived.Test.YtddfimjiihggmaaGreatDoorB9
import Derived.Test.YtddfimjiihggmaaGreatDoorB11
set_option maxHeartbeats 16000000
set_option maxRecDepth 20000
namespace Go.Proofs.YtddfimjiihggmaaGreatDoor
open Go.RowKit Px
def badI (a : Str) : Bool := decide (13 < a.length) || !isC a
theorem wBadI (a : Str) : PCalls Tryz.prog 43 [dS a] (.d (dB (badI a))) := by
 by_cases h : 13 < a.length
 · have t1 : decide ((a.length : Int) > 13) = true := decide_eq_true (by omega)
   have e : badI a = true := by simp [badI, h]
   rw [e]
   refine pcalls_of_pw Tryz.func43 rfl Tryz.ntmps43 Tryz.results43 (by simp) fun B w0 => ?_
   refine pzr (yAd rfl (yQ (pzr (yMd rfl (yNs rfl (yB rfl rfl rfl rfl (yMd rfl ?_))))))); rw [t1]; refine yO rfl (yO rfl (yO rfl (yPd rfl rfl (yAd rfl (yQ (pw_ret ?_))))))
   exact q_ret _ (.tmp rfl .nil) rfl
 · have t1 : decide ((a.length : Int) > 13) = false := decide_eq_false (by omega)
   have k1 := wCheck a (by omega)
   have e : badI a = !isC a := by simp [badI, h]
   rw [e]
   cases hc : isC a with
   | true =>
    rw [hc] at k1
    refine pcalls_of_pw Tryz.func43 rfl Tryz.ntmps43 Tryz.results43 (by simp) fun B w0 => ?_
    refine pzr (yAd rfl (yQ (pzr (yMd rfl (yNs rfl (yB rfl rfl rfl rfl (yMd rfl ?_))))))); rw [t1]; refine yMd rfl (yC (k1) rfl rfl (yB rfl rfl rfl rfl (yVd rfl rfl (yAd rfl (yQ (pw_ret ?_))))))
    exact q_ret _ (.tmp rfl .nil) rfl
   | false =>
    rw [hc] at k1
    refine pcalls_of_pw Tryz.func43 rfl Tryz.ntmps43 Tryz.results43 (by simp) fun B w0 => ?_
    refine pzr (yAd rfl (yQ (pzr (yMd rfl (yNs rfl (yB rfl rfl rfl rfl (yMd rfl ?_))))))); rw [t1]; refine yMd rfl (yC (k1) rfl rfl (yB rfl rfl rfl rfl (yVd rfl rfl (yAd rfl (yQ (pw_ret ?_))))))
    exact q_ret _ (.tmp rfl .nil) rfl
theorem hBadI : ∀ xs r, phS badI xs r → PCalls Tryz.prog 43 (xs ++ ([] : List (List DV)).map DV.ref) r := by
 rintro _ _ ⟨a, rfl, rfl⟩
 exact wBadI a
theorem rS_snocA (A : Str → Int) (ls : List Ln) (l : Ln) : rS A (ls ++ [l]) = rS A ls + (if l.2.1 then - evA A l.2.2 else evA A l.2.2) := by
 rw [rS_app, rS_cons, rS_nil, Int.add_zero, evA_ln]
def difB (ls : List Ln) (L : List Cf) : Bool := ls.all fun l => decide (evE l.2.2 L = 0)
theorem wDiff (r : Ru) (L : List Cf) (hb1 : r.2.length ≤ 1000) (hb2 : ∀ l ∈ r.2, l.2.2.length ≤ 1000 ∧ ∀ c ∈ l.2.2, c.2.length ≤ 400) (hLl : L.length ≤ 1000000) (hL : ∀ c ∈ L, c.2.length ≤ 400) :
 PCalls Tryz.prog 45 [.agg (dRu r), .sl 2 (L.map dCf)] (.tup [dS (if difB r.2 L then canon (rS (aL L) r.2) else []), dB (difB r.2 L)]) := by
 obtain ⟨n, ls⟩ := r
 simp only at hb1 hb2
 have hev := fun (e : List Cf) (h1 : e.length ≤ 1000) (h2 : ∀ c ∈ e, c.2.length ≤ 400) => wEval e L (by omega) h2 hLl hL
 have hval := fun (e : List Cf) (h : evE e L = 0) => show evV e L = canon (evA (aL L) e) by rw [evV, if_pos h, evA_nf]
 have hlen : ∀ (e : List Cf), evE e L = 0 → e.length ≤ 1000 → (∀ c ∈ e, c.2.length ≤ 400) → (canon (evA (aL L) e)).length ≤ 8000 := fun e h h1 h2 => by
  rw [← evA_nf]
  have h3 := evA_len (n := nf e) (fun c hc => nf_flen h2 hc) hL (nf e).length
  rw [List.take_length] at h3
  have := nf_len e
  omega
 obtain ⟨R, hR⟩ : ∃ R, R = difB ls L := ⟨_, rfl⟩
 obtain ⟨V, hV⟩ : ∃ V : Nat → Int, V = fun k => rS (aL L) (ls.take k) := ⟨_, rfl⟩
 have hV0 : V 0 = 0 := by rw [hV]; rfl
 have hVe : V ls.length = rS (aL L) ls := by rw [hV]; simp only [List.take_length]
 have hVs : ∀ (k : Nat) (l : Ln), ls[k]? = some l → V (k + 1) = V k + (if l.2.1 then - evA (aL L) l.2.2 else evA (aL L) l.2.2) := fun k l h => by
  rw [hV]
  simp only
  rw [List.take_add_one, h, Option.toList, rS_snocA]
 show PCalls Tryz.prog 45 [.agg (dRu (n, ls)), .sl 2 (L.map dCf)] (.tup [dS (if difB ls L then canon (rS (aL L) ls) else []), dB (difB ls L)])
 rw [← hVe, ← hR]
 clear hV hVe
 unfold difB at hR
 refine pcalls_of_pw Tryz.func45 rfl Tryz.ntmps45 Tryz.results45 (by simp) fun B w0 => ?_
 refine pzr (yK (cs := [_, _]) rfl rfl (yAd rfl (yAd rfl (yQ (pzr (yAd rfl (yQ (pw_seq (pzr ?_))))))))); refine yFb rfl (yLd rfl rfl rfl (yN rfl (yMd rfl (yQ (pw_block ?_))))); refine pw_loop (fun k : Nat => ⟨36, [(1, .d (.sl 2 (L.map dCf))), (6, .d (dS (canon (V k)))), (12, .d (.sl 3 (ls.map dLn))), (13, .d (dI ls.length)), (14, .d (dI k))], [], []⟩) (fun k => k ≤ ls.length ∧ (ls.take k).all (fun l => decide (evE l.2.2 L = 0)) = true ∧ (canon (V k)).length ≤ 8010 + 2 * k) (fun k => ls.length - k) 0 ⟨Nat.zero_le _, rfl, by rw [hV0, canon_zero]; simp⟩
  ⟨rfl, ⟨.refl _, .of_eq (by rw [hV0, canon_zero]; rfl), .refl _, .of_eq (congrArg (fun n : Nat => SV.d (dI n)) (by simp)), .refl _, trivial⟩, trivial, trivial, rfl⟩ ?_
 rintro k ⟨hk, hI, hI2⟩
 rcases Nat.lt_or_ge k ls.length with h | h
 rotate_left
 · have u1 : decide ((k : Int) < (ls.length : Int)) = false := decide_eq_false (by omega)
   obtain rfl : k = ls.length := by omega
   rw [List.take_length] at hI
   rw [hI] at hR
   subst hR
   rw [if_pos rfl]
   refine pzr (yB rfl rfl rfl rfl (yQ (pw_seq ?_))); rw [u1]; refine pw_cf rfl (pw_exit (pzr (yMd rfl (yAd rfl (yAd rfl (yQ (pw_ret ?_)))))))
   exact q_ret _ (.tmp rfl (.tmp rfl .nil)) rfl
 have u1 : decide ((k : Int) < (ls.length : Int)) = true := decide_eq_true (by omega)
 obtain ⟨⟨a, c, e⟩, hl⟩ : ∃ a, ls[k]? = some a := ⟨_, List.getElem?_eq_getElem h⟩
 have ex := ix dLn ls k k (a, c, e) rfl hl
 have hw := wrapI ((k : Int) + 1) (by omega)
 obtain ⟨b1, b2⟩ := hb2 _ (List.mem_of_getElem? hl)
 have hs := hVs k _ hl
 have hal : evE e L = 0 → (ls.take (k + 1)).all (fun l => decide (evE l.2.2 L = 0)) = true := fun h0 => by
  rw [List.take_add_one, hl, List.all_append, hI]
  simp [h0]
 have hno : evE e L ≠ 0 → ls.all (fun l => decide (evE l.2.2 L = 0)) = false := fun h0 => by
  rw [List.all_eq_false]
  exact ⟨_, List.mem_of_getElem? hl, by simp [h0]⟩
 simp only at b1 b2 hs
 have k1 := hev e b1 b2
 have arith : ls.length - (k + 1) < ls.length - k := by omega
 by_cases h0 : evE e L = 0
 rotate_left
 · rw [hno h0] at hR
   subst hR
   rw [if_neg (by simp)]
   have t1 : (evE e L != 0) = true := by simp [h0]
   obtain ⟨x, hx⟩ : ∃ x, x = evE e L := ⟨_, rfl⟩
   obtain ⟨y, hy⟩ : ∃ y, y = evV e L := ⟨_, rfl⟩
   rw [← hx, ← hy] at k1
   rw [← hx] at t1
   clear hev hval hlen hVs hno hal hl
   refine pzr (yB rfl rfl rfl rfl (yQ (pw_seq ?_))); rw [u1]; refine pw_ct rfl (pw_skip (pw_seq (pw_block (pzr (yW ex (by omega) rfl rfl (yLs (ys := [_, _, _]) rfl rfl rfl (yZ (cs := [_, _, _]) rfl rfl (yS (cs' := [_, _, _]) rfl rfl rfl rfl rfl (yQ ?_))))))))); refine pzr (yFb rfl (yLd rfl rfl rfl (yMd rfl (yC (k1) rfl rfl (yMp rfl (yX rfl rfl (yX rfl rfl (yAd rfl (yAd rfl ?_))))))))); refine yQ (pw_seq (pzr (yMd rfl (yB rfl rfl rfl rfl (yQ (q_then ?_)))))); rw [t1]; refine pw_ct rfl (pzr (yAd rfl (yAd rfl (yQ (pw_ret (q_then_ret (q_blk_ret (q_then_ret (q_then_ret ?_))))))))); refine q_blk_ret (q_then_ret ?_)
   exact q_ret _ (.tmp rfl (.tmp rfl .nil)) rfl
 have hnx := hal h0
 have hyl := hlen e h0 b1 b2
 rw [hval e h0, h0] at k1
 obtain ⟨z, hz⟩ : ∃ z, z = evA (aL L) e := ⟨_, rfl⟩
 rw [← hz] at k1 hs hyl
 obtain ⟨v, hv⟩ : ∃ v, v = V k := ⟨_, rfl⟩
 obtain ⟨v', hv'⟩ : ∃ v', v' = V (k + 1) := ⟨_, rfl⟩
 rw [← hv] at hs hI2 ⊢
 rw [← hv'] at hs
 clear hev hval hlen hVs hno hal hl hz hv
 cases c with
 | true =>
  rw [if_pos rfl] at hs
  have k2 := wNegT (canon z) (by omega)
  have hnl : (canon (- z)).length ≤ 8001 := by
   have h2 := val_lt hyl
   rw [val_canon] at h2
   exact canon_le (k := 8000) (by rw [Int.natAbs_neg]; exact h2)
  rw [val_canon] at k2
  have k3 := wAddT (canon v) (canon (- z)) (by omega) (by omega)
  have hl2 := addI_len (k := 8010 + 2 * k) hI2 (b := canon (- z)) (by omega)
  rw [addI, val_canon, val_canon, ← hs] at hl2
  rw [val_canon, val_canon, ← hs] at k3
  obtain ⟨q, hq⟩ : ∃ q, q = canon v := ⟨_, rfl⟩
  obtain ⟨q', hq'⟩ : ∃ q, q = canon v' := ⟨_, rfl⟩
  obtain ⟨p, hp⟩ : ∃ q, q = canon z := ⟨_, rfl⟩
  obtain ⟨p', hp'⟩ : ∃ q, q = canon (- z) := ⟨_, rfl⟩
  rw [← hp] at k1 k2
  rw [← hp'] at k2 k3
  rw [← hq] at k3 ⊢
  rw [← hq'] at k3
  refine pzr (yB rfl rfl rfl rfl (yQ (pw_seq ?_))); rw [u1]; refine pw_ct rfl (pw_skip (pw_seq (pw_block (pzr (yW ex (by omega) rfl rfl (yLs (ys := [_, _, _]) rfl rfl rfl (yZ (cs := [_, _, _]) rfl rfl (yS (cs' := [_, _, _]) rfl rfl rfl rfl rfl (yQ ?_))))))))); refine pzr (yFb rfl (yLd rfl rfl rfl (yMd rfl (yC (k1) rfl rfl (yMp rfl (yX rfl rfl (yX rfl rfl (yAd rfl (yAd rfl ?_))))))))); refine yQ (pw_seq (pzr (yMd rfl (yB rfl rfl rfl rfl (yQ (pw_cf rfl (pw_skip (pw_seq (pzr ?_))))))))); refine yFb rfl (yLd rfl rfl rfl (yQ (pw_ct rfl (pw_region (yMd rfl (yC (k2) rfl rfl (yAd rfl (yQ (pw_region ?_))))))))); refine yMd rfl (yMd rfl (yC (k3) rfl rfl (yAd rfl (yQ (pw_region (yB rfl rfl rfl rfl (yMd rfl (yQ (q_then ?_)))))))))
  exact ⟨k + 1, ⟨h, hnx, by rw [← hv']; omega⟩, arith, rfl, ⟨.refl _, .of_eq (by rw [← hv', ← hq']; rfl), .refl _, .refl _, .of_eq (congrArg (fun n => SV.d (dI n)) hw), trivial⟩, trivial, trivial, rfl⟩
 | false =>
  rw [if_neg (by simp)] at hs
  have k3 := wAddT (canon v) (canon z) (by omega) (by omega)
  have hl2 := addI_len (k := 8010 + 2 * k) hI2 (b := canon z) (by omega)
  rw [addI, val_canon, val_canon, ← hs] at hl2
  rw [val_canon, val_canon, ← hs] at k3
  obtain ⟨q, hq⟩ : ∃ q, q = canon v := ⟨_, rfl⟩
  obtain ⟨q', hq'⟩ : ∃ q, q = canon v' := ⟨_, rfl⟩
  obtain ⟨p, hp⟩ : ∃ q, q = canon z := ⟨_, rfl⟩
  rw [← hp] at k1 k3
  rw [← hq] at k3 ⊢
  rw [← hq'] at k3
  refine pzr (yB rfl rfl rfl rfl (yQ (pw_seq ?_))); rw [u1]; refine pw_ct rfl (pw_skip (pw_seq (pw_block (pzr (yW ex (by omega) rfl rfl (yLs (ys := [_, _, _]) rfl rfl rfl (yZ (cs := [_, _, _]) rfl rfl (yS (cs' := [_, _, _]) rfl rfl rfl rfl rfl (yQ ?_))))))))); refine pzr (yFb rfl (yLd rfl rfl rfl (yMd rfl (yC (k1) rfl rfl (yMp rfl (yX rfl rfl (yX rfl rfl (yAd rfl (yAd rfl ?_))))))))); refine yQ (pw_seq (pzr (yMd rfl (yB rfl rfl rfl rfl (yQ (pw_cf rfl (pw_skip (pw_seq (pzr ?_))))))))); refine yFb rfl (yLd rfl rfl rfl (yQ (pw_cf rfl (pw_skip (pw_region (yMd rfl (yMd rfl (yC (k3) rfl rfl (yAd rfl ?_))))))))); refine yQ (pw_region (yB rfl rfl rfl rfl (yMd rfl (yQ (q_then ?_)))))
  exact ⟨k + 1, ⟨h, hnx, by rw [← hv']; omega⟩, arith, rfl, ⟨.refl _, .of_eq (by rw [← hv', ← hq']; rfl), .refl _, .refl _, .of_eq (congrArg (fun n => SV.d (dI n)) hw), trivial⟩, trivial, trivial, rfl⟩
theorem ascS_nodup : ∀ {l : List Str}, ascS l → l.Nodup
 | [], _ => List.nodup_nil
 | x :: l, h => List.nodup_cons.2 ⟨fun hx => (by have := h.1 x hx; rw [ltS_irrefl] at this; cases this), ascS_nodup h.2⟩
def oneL (ns : List Str) (k : Str) : List Cf := ns.map fun s => (s, if s = k then [49] else [])
theorem getS_one {ns : List Str} {k j : Str} (h : j ∈ ns) : getS j (oneL ns k) = if j = k then [49] else [] := by
 induction ns with
 | nil => cases h
 | cons s ns ih =>
  show (if s = j then (if s = k then [49] else []) else getS j (oneL ns k)) = _
  by_cases h1 : s = j
  · rw [if_pos h1, h1]
  · rw [if_neg h1]
    rcases List.mem_cons.1 h with h2 | h2
    · exact absurd h2.symm h1
    · exact ih h2
theorem aL_one {ns : List Str} {k j : Str} (h : j ∈ ns) : aL (oneL ns k) j = one k j := by
 rw [aL, getS_one h, one]
 split
 · decide
 · decide
def trmL (ns am : List Str) : List Cf := ns.zipIdx.map fun p => (p.1, (am[p.2]?).getD [])
theorem trmL_next {ns am : List Str} {j : Nat} {s : Str} (h : ns[j]? = some s) : trmL (ns.take (j + 1)) am = trmL (ns.take j) am ++ [(s, (am[j]?).getD [])] := by
 have hl := (List.getElem?_eq_some_iff.1 h).1
 rw [trmL, List.take_add_one, h, Option.toList, List.zipIdx_append, List.map_append, List.length_take, Nat.min_eq_left (Nat.le_of_lt hl)]
 simp [trmL]
theorem trmL_names (ns am : List Str) : (trmL ns am).map (·.1) = ns := by
 rw [trmL, List.map_map]
 show ns.zipIdx.map (·.1) = ns
 simp
theorem trmL_mem {ns am : List Str} {c : Cf} (h : c ∈ trmL ns am) : c.1 ∈ ns ∧ (c.2 = [] ∨ c.2 ∈ am) := by
 refine ⟨by rw [← trmL_names ns am]; exact List.mem_map_of_mem h, ?_⟩
 obtain ⟨p, -, rfl⟩ := List.mem_map.1 h
 simp only
 cases e : am[p.2]? with
 | none => exact .inl rfl
 | some a => exact .inr (List.mem_of_getElem? e)
theorem inL_of {L : List Cf} {k : Str} (h : k ∈ L.map (·.1)) : inL L k = true := by
 obtain ⟨c, hc, rfl⟩ := List.mem_map.1 h
 exact List.any_eq_true.2 ⟨c, hc, by simp⟩
theorem dif_ok {ls : List Ln} {L : List Cf} (h : ∀ l ∈ ls, chE l.2.2 = 0) (hm : ∀ k ∈ rNm ls, k ∈ L.map (·.1)) (ha : amE L = 0) : difB ls L = true := by
 refine List.all_eq_true.2 fun l hl => ?_
 have he : evOK (nf l.2.2) L = true := List.all_eq_true.2 fun c hc => by
  obtain ⟨d, hd, e⟩ := cf_mem ((nf_mem l.2.2 c).1 hc).1
  exact inL_of (hm _ (List.mem_flatMap.2 ⟨l, hl, List.mem_map.2 ⟨d, hd, e⟩⟩))
 have : evE l.2.2 L = 0 := by
  rw [evE, if_neg (fun h1 => h1 (h l hl)), if_neg (fun h1 => h1 ha), if_pos he]
 exact decide_eq_true this
theorem nms_ok {ls : List Ln} (h : ∀ l ∈ ls, chE l.2.2 = 0) : ∀ k ∈ rNm ls, nmB k = true := fun k hk => by
 obtain ⟨l, hl, hk⟩ := List.mem_flatMap.1 hk
 obtain ⟨c, hc, rfl⟩ := List.mem_map.1 hk
 exact ((chE_zero.1 (h l hl)).2 c hc).1
theorem isC_nil : isC [] = true := by kernel_rfl
theorem isC_one : isC [49] = true := by kernel_rfl
theorem dif_one {ls : List Ln} {ns : List Str} (h : ∀ l ∈ ls, chE l.2.2 = 0) (hn : ns = uniS (rNm ls)) (k : Str) : difB ls (oneL ns k) = true ∧ rS (aL (oneL ns k)) ls = rS (one k) ls := by
 obtain ⟨h1, h2⟩ := uniS_spec (rNm ls)
 rw [← hn] at h1 h2
 have hmap : (oneL ns k).map (·.1) = ns := by rw [oneL, List.map_map]; exact List.map_id' ns
 refine ⟨dif_ok h (fun j hj => by rw [hmap]; exact (h2 j).2 hj) (amE_zero.2 ⟨fun t ht => ?_, by rw [hmap]; exact ascS_nodup h1⟩), rS_congr fun j hj => aL_one ((h2 j).2 hj)⟩
 obtain ⟨s, hs, rfl⟩ := List.mem_map.1 ht
 refine ⟨nms_ok h s ((h2 s).1 hs), ?_⟩
 simp only
 split
 · exact isC_one
 · exact isC_nil
theorem dif_trm {ls : List Ln} {ns am : List Str} (h : ∀ l ∈ ls, chE l.2.2 = 0) (hn : ns = uniS (rNm ls)) (ha : ∀ a ∈ am, isC a = true) : difB ls (trmL ns am) = true := by
 obtain ⟨h1, h2⟩ := uniS_spec (rNm ls)
 rw [← hn] at h1 h2
 refine dif_ok h (fun j hj => by rw [trmL_names]; exact (h2 j).2 hj) (amE_zero.2 ⟨fun t ht => ?_, by rw [trmL_names]; exact ascS_nodup h1⟩)
 obtain ⟨h3, h4⟩ := trmL_mem ht
 refine ⟨nms_ok h _ ((h2 _).1 h3), ?_⟩
 rcases h4 with h4 | h4
 · rw [h4]; exact isC_nil
 · exact ha _ h4
end Go.Proofs.YtddfimjiihggmaaGreatDoor
namespace Go.Proofs
open Go.Shelf
def Tryz.compStr_ren : Go.Shelf.Ren := ⟨fun | 43 => 73 | n => n, fun | 22 => 36 | 23 => 9 | 3 => 3 | 4 => 4 | 0 => 0 | n => n, fun | n => n⟩
theorem Tryz.compStr : Go.Proofs.SlLaysE.n43 Tryz.prog Tryz.compStr_ren := {
 mixed := by kernel_rfl
 f43 := ⟨Tryz.f73.name, by decide, Tryz.func73.trans (congrArg some (by kernel_rfl))⟩
 t0 := Tryz.underlying0
 a0 := Tryz.isAgg0
 z0 := Tryz.sizeOf0
 v0 := Tryz.zeroValue0
 t3 := Tryz.underlying3
 a3 := Tryz.isAgg3
 z3 := Tryz.sizeOf3
 v3 := Tryz.zeroValue3
 t4 := Tryz.underlying4
 a4 := Tryz.isAgg4
 z4 := Tryz.sizeOf4
 v4 := Tryz.zeroValue4
 t22 := Tryz.underlying36
 a22 := Tryz.isAgg36
 z22 := Tryz.sizeOf36
 v22 := Tryz.zeroValue36
 a23 := Tryz.isAgg9
 z23 := Tryz.sizeOf9 }
end Go.Proofs
namespace Go.Proofs.YtddfimjiihggmaaGreatDoor
open Go.RowKit Px Go.Sort Go.Lib
theorem beq_dec (x y : Str) : (x == y) = decide (x = y) := by rw [Bool.eq_iff_iff]; simp
theorem mSort_len (ss : List Str) : (mSort ss).length = ss.length := List.length_mergeSort ss
theorem comp_up {d : Array Str} (hd : ∀ i j, i ≤ j → j < d.size → ltS d[j]! d[i]! = false) : ∀ m, m ≤ d.size → ascS (compactUpTo d m) ∧ (∀ x, x ∈ compactUpTo d m ↔ ∃ j, j < m ∧ d[j]! = x)
 | 0, _ => by simp [compactUpTo, ascS]
 | m + 1, hm => by
  obtain ⟨h1, h2⟩ := comp_up hd m (by omega)
  rw [compactUpTo_succ]
  cases hk : keeps d m
  · simp only [keeps, decide_eq_false_iff_not, not_or, Decidable.not_not] at hk
    simp only [Bool.false_eq_true, if_false, List.append_nil]
    refine ⟨h1, fun x => ?_⟩
    rw [h2]
    constructor
    · rintro ⟨j, hj, rfl⟩; exact ⟨j, by omega, rfl⟩
    · rintro ⟨j, hj, rfl⟩
      by_cases e : j = m
      · subst e; exact ⟨j - 1, by omega, hk.2.symm⟩
      · exact ⟨j, by omega, rfl⟩
  · simp only [keeps, decide_eq_true_eq] at hk
    simp only [if_true]
    refine ⟨?_, fun x => ?_⟩
    · rw [ascS_append]
      refine ⟨h1, ⟨fun y hy => (by cases hy), trivial⟩, fun x hx y hy => ?_⟩
      obtain ⟨j, hj, rfl⟩ := (h2 x).1 hx
      have e : y = d[m]! := by simpa using hy
      subst e
      rcases hk with hk | hk
      · omega
      · have h3 := hd j (m - 1) (by omega) (by omega)
        have h4 := hd (m - 1) m (by omega) (by omega)
        have h5 := hd j m (by omega) (by omega)
        rcases ltS_total d[j]! d[m]! with e | e | e
        · exact e
        · exfalso
          rcases ltS_total d[m - 1]! d[m]! with e2 | e2 | e2
          · rw [← e, h3] at e2; cases e2
          · exact hk e2.symm
          · rw [h4] at e2; cases e2
        · rw [h5] at e; cases e
    · rw [List.mem_append, h2]
      constructor
      · rintro (⟨j, hj, rfl⟩ | h)
        · exact ⟨j, by omega, rfl⟩
        · exact ⟨m, by omega, (List.mem_singleton.1 h).symm⟩
      · rintro ⟨j, hj, rfl⟩
        by_cases e : j = m
        · subst e; exact .inr (by simp)
        · exact .inl ⟨j, by omega, rfl⟩
theorem comp_sort (ss : List Str) : compact (mSort ss) = uniS ss := by
 obtain ⟨s, hs⟩ : ∃ s, s = mSort ss := ⟨_, rfl⟩
 have hsort := mSort_up ss
 have hmem : ∀ x, x ∈ s ↔ x ∈ ss := fun x => by rw [hs, List.mem_mergeSort]
 rw [← hs] at hsort ⊢
 have hd : ∀ i j, i ≤ j → j < s.toArray.size → ltS s.toArray[j]! s.toArray[i]! = false := fun i j hij hj => by
  have hj' : j < s.length := by simpa using hj
  have hi' : i < s.length := by omega
  rw [getElem!_pos s.toArray i (by simpa using hi'), getElem!_pos s.toArray j hj]
  simp only [List.getElem_toArray]
  rcases Nat.lt_or_ge i j with h | h
  · exact List.pairwise_iff_getElem.1 hsort i j hi' hj' h
  · have : i = j := by omega
    subst this; exact ltS_irrefl _
 obtain ⟨h1, h2⟩ := comp_up hd s.length (by simp)
 unfold compact
 refine uniS_of h1 fun x => ?_
 rw [h2, ← hmem]
 constructor
 · rintro ⟨j, hj, rfl⟩
   rw [getElem!_pos s.toArray j (by simpa using hj)]
   simp
 · intro hx
   obtain ⟨j, hj, rfl⟩ := List.mem_iff_getElem.1 hx
   exact ⟨j, hj, by rw [getElem!_pos s.toArray j (by simpa using hj)]; simp⟩
theorem sort_row (ss : List Str) (hl : ss.length ≤ 1000000) : PRow Tryz.prog 72 9 1 [] (ss.map encStr) ((mSort ss).map encStr) := by
 intro w v n hown hone
 have hn : n = ss.length := by have := hown.1; simpa using this.symm
 subst hn
 rcases hown.2 with ⟨rfl, h0⟩ | ⟨g, cap, cur, rfl, hg, hb, hn, hcap, hsz, ht⟩
 · have hz : ss = [] := List.eq_nil_of_length_eq_zero h0
   subst hz
   refine (AnyM.slices_Sort_string_none Tryz.sortStr none 0 w).mono ?_
   rintro e w' ⟨rfl, rfl⟩
   have e : mSort [] = [] := List.eq_nil_of_length_eq_zero (mSort_len [])
   rw [e]
   exact ⟨rfl, hown, hone, rfl, rfl, rfl, Nat.le_refl _, fun _ _ _ => rfl⟩
 · refine (AnyM.slices_Sort_string Tryz.sortStr g 0 cap ss w (holds_of_block hb (by simpa using ht)) (Array.getElem?_eq_some_iff.1 hb).1 (by omega)).mono ?_
   rintro e w' ⟨rfl, n, os, rfl⟩
   refine ⟨rfl, ?_, fun u hu => by obtain ⟨z, -, rfl⟩ := List.mem_map.1 hu; rfl, grownBy_sorted _⟩
   exact ownsRow_sorted (n := n) (os := os) (ts := mSort ss) (ss := ss) (mSort_len ss) hg hb hn hcap hsz
theorem comp_row (ss : List Str) (hl : ss.length ≤ 1000000) : PRowC Tryz.prog 73 9 1 (ss.map encStr) ((compact ss).map encStr) := by
 intro w A c n hown h0 hone
 have hn0 : n = ss.length := by have := hown.1; simpa using this.symm
 subst hn0
 rcases hown.2 with ⟨e0, h1⟩ | ⟨g, cap, cur, e0, hg, hb, hn, hcap, hsz, ht⟩
 · omega
 obtain ⟨rfl, -, rfl⟩ := Value.slice.inj e0
 have h1 := AnyE.slices_Compact Tryz.compStr encStr (fun _ => rfl) ⟨fun x y w => by
  have : (binOp .eql (Tryz.compStr_ren.t 23) (encStr x) (encStr y)) = pure (.bool ((ByteArray.mk x.toArray).toList == (ByteArray.mk y.toArray).toList)) := rfl
  rw [this, str_list, str_list, beq_dec]; rfl, fun op a b x y w => GuardAt.string _ _ op a b _ _ w⟩ ⟨fun x y w => by
  have : (binOp .neq (Tryz.compStr_ren.t 23) (encStr x) (encStr y)) = pure (.bool (!((ByteArray.mk x.toArray).toList == (ByteArray.mk y.toArray).toList))) := rfl
  rw [this, str_list, str_list, beq_dec]; rfl, fun op a b x y w => GuardAt.string _ _ op a b _ _ w⟩ [] Tryz.zeroValue9 g 0 c ss.toArray w (holds_of_block hb (by simpa using ht)) (by simp; omega) (by simpa using hn)
 simp only [List.size_toArray] at h1
 refine h1.mono ?_
 rintro e w' ⟨rfl, q, rfl⟩
 have hcl : (compactUpTo ss.toArray ss.length).length ≤ ss.length := by
  unfold compactUpTo
  rw [List.length_map]
  exact Nat.le_trans (List.length_filter_le _ _) (by simp)
 obtain ⟨ts, hts⟩ : ∃ ts, ts = compactUpTo ss.toArray ss.length ++ List.replicate (ss.length - (compactUpTo ss.toArray ss.length).length) ([] : Str) := ⟨_, rfl⟩
 have htl : ts.length = ss.length := by rw [hts]; simp; omega
 have hheap : (putRow encStr (Sort.ahead w q) g 0 ts.toArray).heap[g]? = some (.cells (putCells encStr 0 ts.toArray cur) 9 (0, 0)) := by
  simp [putRow, mapBlock, Sort.ahead, Array.getElem?_modify, hb, onCells]
 rw [← hts]
 refine ⟨(compactUpTo ss.toArray ss.length).length, (List.replicate (ss.length - (compactUpTo ss.toArray ss.length).length) ([] : Str)).map encStr, rfl, hcl, by unfold compact; simp, ?_, fun u hu => by obtain ⟨z, -, rfl⟩ := List.mem_map.1 hu; rfl, ?_⟩
 · have e : (compact ss).map encStr ++ (List.replicate (ss.length - (compactUpTo ss.toArray ss.length).length) ([] : Str)).map encStr = ts.map encStr := by rw [hts, List.map_append]; rfl
   rw [e]
   refine ⟨by simp [htl], .inr ⟨g, c, _, rfl, hg, hheap, hn, hcap, by simp [putCells, hsz], ?_⟩⟩
   rw [Nat.mul_one, ← htl]
   exact take_putCells cur ts (by omega)
 · refine ⟨rfl, rfl, rfl, by simp, fun k hk hne => ?_⟩
   have : g ≠ k := fun e => hne (by rw [e]; rfl)
   simp [putRow, mapBlock, Sort.ahead, Array.getElem?_modify, this]
abbrev nv (l : List Str) : List SV := (l.map encStr).map fun u => SV.d (.val u)
theorem wSortNil : PCalls Tryz.prog 72 [.val (.slice none 0 0)] (.tup []) := fun F w vals hl hr hg => by
 obtain rfl : vals = [.slice none 0 0] := vals_of (us := [.slice none 0 0]) hl hr
 exact (AnyM.slices_Sort_string_none Tryz.sortStr none 0 w).mono fun e w' ⟨h1, h2⟩ => ⟨.tuple #[], h1, ⟨[], rfl, rfl, fun i y x hy => by simp at hy⟩, by rw [h2]; exact Below.refl _ _⟩
theorem wCompNil : PCalls Tryz.prog 73 [.val (.slice none 0 0)] (.d (.val (.slice none 0 0))) := by
 refine pcalls_of_pw Tryz.func73 rfl Tryz.ntmps73 Tryz.results73 (by simp) fun B w0 => ?_
 refine pzr (yAd rfl (yQ (pw_seq (pzr (yMd rfl (yNl rfl (yB rfl rfl rfl rfl (yQ (pw_ct rfl ?_))))))))); refine pzr (yMd rfl (yAd rfl (yQ (pw_ret (q_then_ret ?_)))))
 exact q_ret _ (.tmp rfl .nil) rfl
theorem toDs_nv (l : List Str) : toDs (nv l) = some (l.map fun a => DV.val (encStr a)) := by
 induction l with
 | nil => rfl
 | cons x l ih =>
  show toDs (SV.d (.val (encStr x)) :: nv l) = _
  simp only [toDs, toD, ih, List.map_cons]
def rwS : Nat → SV
 | 0 => .d (.val (.slice none 0 0))
 | n + 1 => .bs 26 (n + 1) 9 1
def rwB (l : List Str) : Nat → List (Nat × List SV)
 | 0 => []
 | n + 1 => [(26, nv (l.take (n + 1)))]
theorem rNm_snoc {ls : List Ln} {k : Nat} {l : Ln} (h : ls[k]? = some l) : rNm (ls.take (k + 1)) = rNm (ls.take k) ++ l.2.2.map (·.1) := by
 rw [List.take_add_one, h, rNm, List.flatMap_append]
 simp [rNm]
theorem rNm_at {ls : List Ln} {k m : Nat} {l : Ln} {c : Cf} (h : ls[k]? = some l) (hc : l.2.2[m]? = some c) : (rNm ls)[(rNm (ls.take k)).length + m]? = some c.1 := by
 obtain ⟨h1, h2⟩ := List.getElem?_eq_some_iff.1 h
 have e : rNm ls = rNm (ls.take k) ++ (l.2.2.map (·.1) ++ rNm (ls.drop (k + 1))) := by
  conv => lhs; rw [show ls = ls.take k ++ l :: ls.drop (k + 1) by rw [← h2, ← List.drop_eq_getElem_cons h1, List.take_append_drop]]
  simp [rNm]
 have hm := (List.getElem?_eq_some_iff.1 hc).1
 rw [e, List.getElem?_append_right (by omega), Nat.add_sub_cancel_left, List.getElem?_append_left (by rw [List.length_map]; exact hm), List.getElem?_map, hc]
 rfl
theorem wNamesR (r : Ru) (hb1 : r.2.length ≤ 1000000) (hb2 : ∀ l ∈ r.2, l.2.2.length ≤ 1000000) (hb : (rNm r.2).length ≤ 1000000) : PCalls Tryz.prog 34 [.agg (dRu r)] (.d (dStrs (uniS (rNm r.2)))) := by
 obtain ⟨n, ls⟩ := r
 simp only at hb1 hb2 hb
 obtain ⟨nm, hnm⟩ : ∃ q, q = rNm ls := ⟨_, rfl⟩
 obtain ⟨R, hR⟩ : ∃ q, q = uniS nm := ⟨_, rfl⟩
 have hat := fun (k m : Nat) (l : Ln) (c : Cf) (h : ls[k]? = some l) (hc : l.2.2[m]? = some c) => rNm_at h hc
 have hsn := fun (k : Nat) (l : Ln) (h : ls[k]? = some l) => congrArg List.length (rNm_snoc h)
 have hend : (rNm (ls.take ls.length)).length = nm.length := by rw [List.take_length, hnm]
 have h00 : (rNm (ls.take 0)).length = 0 := rfl
 rw [← hnm] at hb hat ⊢
 rw [← hR]
 obtain ⟨cn, hcn⟩ : ∃ cn : Nat → Nat, cn = fun k => (rNm (ls.take k)).length := ⟨_, rfl⟩
 have hat : ∀ (k m : Nat) (l : Ln) (c : Cf), ls[k]? = some l → l.2.2[m]? = some c → nm[cn k + m]? = some c.1 := by rw [hcn]; exact hat
 have hsn : ∀ (k : Nat) (l : Ln), ls[k]? = some l → cn (k + 1) = cn k + l.2.2.length := fun k l h => by rw [hcn]; simpa using hsn k l h
 have hend : cn ls.length = nm.length := by rw [hcn]; exact hend
 have h00 : cn 0 = 0 := by rw [hcn]; exact h00
 clear hcn hnm
 refine pcalls_of_pw Tryz.func34 rfl Tryz.ntmps34 Tryz.results34 (by simp) fun B w0 => ?_
 refine pzr (yK (cs := [_, _]) rfl rfl (yAd rfl (yQ (pzr (yAd rfl (yQ (pw_seq (pzr (yFb rfl ?_))))))))); refine yLd rfl rfl rfl (yN rfl (yMd rfl (yQ (pw_block ?_)))); refine pw_loop (fun k : Nat => ⟨33, [(3, rwS (cn k)), (9, .d (.sl 3 (ls.map dLn))), (10, .d (dI ls.length)), (11, .d (dI k))], rwB nm (cn k), []⟩) (fun k => k ≤ ls.length) (fun k => ls.length - k) 0 (Nat.zero_le _)
  ⟨rfl, ⟨.of_eq (by rw [h00]; rfl), .refl _, .of_eq (congrArg (fun n : Nat => SV.d (dI n)) (by simp)), .refl _, trivial⟩, by rw [h00]; trivial, trivial, by rw [h00]; rfl⟩ ?_
 intro k hk
 rcases Nat.lt_or_ge k ls.length with h | h
 rotate_left
 · have u1 : decide ((k : Int) < (ls.length : Int)) = false := decide_eq_false (by omega)
   obtain rfl : k = ls.length := by omega
   rw [hend]
   cases e : nm with
   | nil =>
    subst e
    have hR0 : R = [] := hR
    subst hR0
    simp only [List.length_nil, rwS, rwB]
    refine pzr (yB rfl rfl rfl rfl (yQ (pw_seq ?_))); rw [u1]; refine pw_cf rfl (pw_exit (pzr (yMd rfl (yC (wSortNil) rfl rfl (yQ (pzr (yMd rfl (yC (wCompNil) rfl rfl (yAd rfl ?_))))))))); refine yQ (pw_ret ?_)
    exact q_ret _ (.tnil 1 rfl .nil) rfl
   | cons x nm' =>
    rw [← e]
    obtain ⟨q, hq⟩ : ∃ q, nm.length = q + 1 := ⟨nm'.length, by rw [e]; rfl⟩
    clear e
    have c5 := sort_row nm (by omega)
    have c6 := comp_row (mSort nm) (by rw [mSort_len]; omega)
    rw [comp_sort, ← hR] at c6
    have hms := mSort_len nm
    have hch := chunk_one (fun a : Str => DV.val (encStr a)) R
    have hRl : R.length ≤ q + 1 := by rw [hR, ← hq]; exact uniS_length nm
    have htk : nm.take (q + 1) = nm := List.take_of_length_le (by omega)
    rw [hq]
    simp only [rwS, rwB]
    rw [htk]
    clear hat hsn hend h00 hR htk
    refine pzr (yB rfl rfl rfl rfl (yQ (pw_seq ?_))); rw [u1]; refine pw_cf rfl (pw_exit (pzr (yMw rfl ?_))); refine yRb c5 (by simp; omega) rfl rfl rfl ?_; refine yQ (pzr (yMw rfl ?_)); refine yRc (n' := R.length) c6 (by omega) (by omega) (by simp; omega) (by simp) rfl rfl ?_; refine yAw rfl (yQ ?_); refine pw_frz 2 26 (es := R.map dC) (ds := R.map fun a => DV.val (encStr a)) (by simp) hch (toDs_nv R) rfl rfl ?_; refine pw_ret ?_
    exact q_ret _ (.tmp rfl .nil) rfl
 have u1 : decide ((k : Int) < (ls.length : Int)) = true := decide_eq_true (by omega)
 obtain ⟨⟨a, c, x⟩, hl⟩ : ∃ a, ls[k]? = some a := ⟨_, List.getElem?_eq_getElem h⟩
 have ex := ix dLn ls k k (a, c, x) rfl hl
 have hw := wrapI ((k : Int) + 1) (by omega)
 have hxl := hb2 _ (List.mem_of_getElem? hl)
 have hnk := hsn k _ hl
 have hatk := fun m d => hat k m _ d hl
 simp only at hxl hnk hatk
 have arith : ls.length - (k + 1) < ls.length - k := by omega
 obtain ⟨K, hK⟩ : ∃ K, K = cn k := ⟨_, rfl⟩
 rw [← hK] at hnk hatk ⊢
 cases K with
 | zero =>
  simp only [rwS, rwB]
  refine pzr (yB rfl rfl rfl rfl (yQ (pw_seq ?_))); rw [u1]; refine pw_ct rfl (pw_skip (pw_seq (pw_block (pzr (yW ex (by omega) rfl rfl (yLs (ys := [_, _, _]) rfl rfl rfl (yZ (cs := [_, _, _]) rfl rfl (yS (cs' := [_, _, _]) rfl rfl rfl rfl rfl (yQ ?_))))))))); refine pzr (yFb rfl (yLd rfl rfl rfl (yN rfl (yMd rfl (yQ (pw_block ?_)))))); refine pw_loop (fun m : Nat => ⟨33, [(3, rwS (0 + m)), (9, .d (.sl 3 (ls.map dLn))), (10, .d (dI ls.length)), (11, .d (dI k)), (16, .d (.sl 2 (x.map dCf))), (17, .d (dI x.length)), (18, .d (dI m))], rwB nm (0 + m), []⟩) (fun m => m ≤ x.length) (fun m => x.length - m) 0 (Nat.zero_le _)
   ⟨rfl, ⟨.refl _, .refl _, .refl _, .refl _, .refl _, .of_eq (congrArg (fun n : Nat => SV.d (dI n)) (by simp)), .refl _, trivial⟩, trivial, trivial, rfl⟩ ?_
  intro m hm
  obtain ⟨z, hz⟩ : ∃ z, z = 0 + m := ⟨_, rfl⟩
  have hzn : 0 + (m + 1) = z + 1 := by omega
  rw [← hz]
  rcases Nat.lt_or_ge m x.length with h2 | h2
  rotate_left
  · have u2 : decide ((m : Int) < (x.length : Int)) = false := decide_eq_false (by omega)
    have hze : cn (k + 1) = z := by rw [hnk]; omega
    clear hz hzn hatk hnk
    cases z with
    | zero =>
     simp only [rwS, rwB]
     refine pzr (yB rfl rfl rfl rfl (yQ (pw_seq ?_))); rw [u2]; refine pw_cf rfl (pw_exit (pw_region (yB rfl rfl rfl rfl (yMd rfl (yQ (q_then ?_))))))
     exact ⟨k + 1, h, arith, rfl, ⟨.of_eq (by rw [hze]; rfl), .refl _, .refl _, .of_eq (congrArg (fun n => SV.d (dI n)) hw), trivial⟩, (by rw [hze]; exact trivial), trivial, (by rw [hze]; rfl)⟩
    | succ z =>
     simp only [rwS, rwB]
     refine pzr (yB rfl rfl rfl rfl (yQ (pw_seq ?_))); rw [u2]; refine pw_cf rfl (pw_exit (pw_region (yB rfl rfl rfl rfl (yMd rfl (yQ (q_then ?_))))))
     exact ⟨k + 1, h, arith, rfl, ⟨.of_eq (by rw [hze]; rfl), .refl _, .refl _, .of_eq (congrArg (fun n => SV.d (dI n)) hw), trivial⟩, (by rw [hze]; exact ⟨⟨_, rfl, lesC_refl _⟩, trivial⟩), trivial, (by rw [hze]; simp [PS.closed, SV.ok, aget, Nat.beq, nv, -List.map_take, -List.map_set])⟩
  have u2 : decide ((m : Int) < (x.length : Int)) = true := decide_eq_true (by omega)
  obtain ⟨⟨c0, f⟩, hc⟩ : ∃ a, x[m]? = some a := ⟨_, List.getElem?_eq_getElem h2⟩
  have em := ix dCf x m m (c0, f) rfl hc
  have hw2 := wrapI ((m : Int) + 1) (by omega)
  have hd := hatk m _ hc
  simp only at hd
  rw [← hz] at hd
  have hzl : z < nm.length := (List.getElem?_eq_some_iff.1 hd).1
  have arith2 : x.length - (m + 1) < x.length - m := by omega
  clear hz hc hatk hnk hw
  cases z with
  | zero =>
   have htk : nm.take 1 = [c0] := by rw [show 1 = 0 + 1 by rfl, List.take_add_one, hd]; rfl
   simp only [rwS, rwB]
   refine pzr (yB rfl rfl rfl rfl (yQ (pw_seq ?_))); rw [u2]; refine pw_ct rfl (pw_skip (pw_seq (pw_block (pzr (yW em (by omega) rfl rfl (yLs (ys := [_, _]) rfl rfl rfl (yZ (cs := [_, _]) rfl rfl (yS (cs' := [_, _]) rfl rfl rfl rfl rfl (yQ ?_))))))))); refine pw_region (yMd rfl (yFb rfl (yLd rfl rfl rfl ?_))); refine yR (es := [[_]]) rfl rfl rfl rfl rfl ?_; refine yTn (vs := [encStr c0]) (es := [dC c0]) (m := 1) (by omega) (by omega) (by omega) (by omega) rfl rfl rfl rfl rfl (yAw rfl (yQ (pw_region (yB rfl rfl rfl rfl (yMd rfl (yQ (q_then ?_)))))))
   exact ⟨m + 1, h2, arith2, rfl, ⟨.of_eq (by rw [hzn]; rfl), .refl _, .refl _, .refl _, .refl _, .refl _, .of_eq (congrArg (fun n => SV.d (dI n)) hw2), trivial⟩, (by rw [hzn]; exact ⟨⟨_, rfl, lesC_eq (by rw [htk]; rfl)⟩, trivial⟩), trivial, (by rw [hzn]; simp [PS.closed, SV.ok, aget, Nat.beq, nv, -List.map_take, -List.map_set])⟩
  | succ z =>
   have htk : nm.take (z + 1 + 1) = nm.take (z + 1) ++ [c0] := by rw [List.take_add_one, hd]; rfl
   obtain ⟨tk, htk2⟩ : ∃ y, y = nm.take (z + 1) := ⟨_, rfl⟩
   have htl : (tk.map encStr).length = z + 1 := by rw [htk2]; simp; omega
   simp only [rwS, rwB]
   rw [← htk2] at htk ⊢
   clear htk2
   refine pzr (yB rfl rfl rfl rfl (yQ (pw_seq ?_))); rw [u2]; refine pw_ct rfl (pw_skip (pw_seq (pw_block (pzr (yW em (by omega) rfl rfl (yLs (ys := [_, _]) rfl rfl rfl (yZ (cs := [_, _]) rfl rfl (yS (cs' := [_, _]) rfl rfl rfl rfl rfl (yQ ?_))))))))); refine pw_region (yMw rfl (yFb rfl (yLd rfl rfl rfl ?_))); refine yR (es := [[_]]) rfl rfl rfl rfl rfl ?_; refine yTw (us := tk.map encStr) (vs := [encStr c0]) (es := [dC c0]) (m := 1) (n := z + 1) (by omega) (by omega) (by omega) rfl rfl (by rw [htl]; omega) rfl rfl rfl ?_; refine yAw rfl (yQ (pw_region (yB rfl rfl rfl rfl (yMd rfl (yQ (q_then ?_))))))
   exact ⟨m + 1, h2, arith2, rfl, ⟨.of_eq (by rw [hzn]; rfl), .refl _, .refl _, .refl _, .refl _, .refl _, .of_eq (congrArg (fun n => SV.d (dI n)) hw2), trivial⟩, (by rw [hzn]; exact ⟨⟨_, rfl, lesC_eq (by show _ = nv (nm.take (z + 1 + 1)); rw [htk]; simp [nv])⟩, trivial⟩), trivial, (by rw [hzn]; simp [PS.closed, SV.ok, aget, Nat.beq, nv, -List.map_take, -List.map_set])⟩
 | succ q =>
  simp only [rwS, rwB]
  refine pzr (yB rfl rfl rfl rfl (yQ (pw_seq ?_))); rw [u1]; refine pw_ct rfl (pw_skip (pw_seq (pw_block (pzr (yW ex (by omega) rfl rfl (yLs (ys := [_, _, _]) rfl rfl rfl (yZ (cs := [_, _, _]) rfl rfl (yS (cs' := [_, _, _]) rfl rfl rfl rfl rfl (yQ ?_))))))))); refine pzr (yFb rfl (yLd rfl rfl rfl (yN rfl (yMd rfl (yQ (pw_block ?_)))))); refine pw_loop (fun m : Nat => ⟨33, [(3, rwS (q + 1 + m)), (9, .d (.sl 3 (ls.map dLn))), (10, .d (dI ls.length)), (11, .d (dI k)), (16, .d (.sl 2 (x.map dCf))), (17, .d (dI x.length)), (18, .d (dI m))], rwB nm (q + 1 + m), []⟩) (fun m => m ≤ x.length) (fun m => x.length - m) 0 (Nat.zero_le _)
   ⟨rfl, ⟨.refl _, .refl _, .refl _, .refl _, .refl _, .of_eq (congrArg (fun n : Nat => SV.d (dI n)) (by simp)), .refl _, trivial⟩, ⟨⟨_, rfl, lesC_refl _⟩, trivial⟩, trivial, by simp [PS.closed, SV.ok, aget, Nat.beq, rwS, rwB, nv, -List.map_take, -List.map_set]⟩ ?_
  intro m hm
  obtain ⟨z, hz⟩ : ∃ z, z = (q + 1) + m := ⟨_, rfl⟩
  have hzn : (q + 1) + (m + 1) = z + 1 := by omega
  rw [← hz]
  rcases Nat.lt_or_ge m x.length with h2 | h2
  rotate_left
  · have u2 : decide ((m : Int) < (x.length : Int)) = false := decide_eq_false (by omega)
    have hze : cn (k + 1) = z := by rw [hnk]; omega
    have hz1 : 0 < z := by omega
    clear hz hzn hatk hnk
    obtain ⟨y, rfl⟩ : ∃ y, z = y + 1 := ⟨z - 1, by omega⟩
    simp only [rwS, rwB]
    refine pzr (yB rfl rfl rfl rfl (yQ (pw_seq ?_))); rw [u2]; refine pw_cf rfl (pw_exit (pw_region (yB rfl rfl rfl rfl (yMd rfl (yQ (q_then ?_))))))
    exact ⟨k + 1, h, arith, rfl, ⟨.of_eq (by rw [hze]; rfl), .refl _, .refl _, .of_eq (congrArg (fun n => SV.d (dI n)) hw), trivial⟩, (by rw [hze]; exact ⟨⟨_, rfl, lesC_refl _⟩, trivial⟩), trivial, (by rw [hze]; simp [PS.closed, SV.ok, aget, Nat.beq, nv, -List.map_take, -List.map_set])⟩
  have u2 : decide ((m : Int) < (x.length : Int)) = true := decide_eq_true (by omega)
  obtain ⟨⟨c0, f⟩, hc⟩ : ∃ a, x[m]? = some a := ⟨_, List.getElem?_eq_getElem h2⟩
  have em := ix dCf x m m (c0, f) rfl hc
  have hw2 := wrapI ((m : Int) + 1) (by omega)
  have hd := hatk m _ hc
  simp only at hd
  rw [← hz] at hd
  have hzl : z < nm.length := (List.getElem?_eq_some_iff.1 hd).1
  have arith2 : x.length - (m + 1) < x.length - m := by omega
  have hz1 : 0 < z := by omega
  clear hz hc hatk hnk hw
  obtain ⟨z, rfl⟩ : ∃ y, z = y + 1 := ⟨z - 1, by omega⟩
  have htk : nm.take (z + 1 + 1) = nm.take (z + 1) ++ [c0] := by rw [List.take_add_one, hd]; rfl
  obtain ⟨tk, htk2⟩ : ∃ y, y = nm.take (z + 1) := ⟨_, rfl⟩
  have htl : (tk.map encStr).length = z + 1 := by rw [htk2]; simp; omega
  simp only [rwS, rwB]
  rw [← htk2] at htk ⊢
  clear htk2
  refine pzr (yB rfl rfl rfl rfl (yQ (pw_seq ?_))); rw [u2]; refine pw_ct rfl (pw_skip (pw_seq (pw_block (pzr (yW em (by omega) rfl rfl (yLs (ys := [_, _]) rfl rfl rfl (yZ (cs := [_, _]) rfl rfl (yS (cs' := [_, _]) rfl rfl rfl rfl rfl (yQ ?_))))))))); refine pw_region (yMw rfl (yFb rfl (yLd rfl rfl rfl ?_))); refine yR (es := [[_]]) rfl rfl rfl rfl rfl ?_; refine yTw (us := tk.map encStr) (vs := [encStr c0]) (es := [dC c0]) (m := 1) (n := z + 1) (by omega) (by omega) (by omega) rfl rfl (by rw [htl]; omega) rfl rfl rfl ?_; refine yAw rfl (yQ (pw_region (yB rfl rfl rfl rfl (yMd rfl (yQ (q_then ?_))))))
  exact ⟨m + 1, h2, arith2, rfl, ⟨.of_eq (by rw [hzn]; rfl), .refl _, .refl _, .refl _, .refl _, .refl _, .of_eq (congrArg (fun n => SV.d (dI n)) hw2), trivial⟩, (by rw [hzn]; exact ⟨⟨_, rfl, lesC_eq (by show _ = nv (nm.take (z + 1 + 1)); rw [htk]; simp [nv])⟩, trivial⟩), trivial, (by rw [hzn]; simp [PS.closed, SV.ok, aget, Nat.beq, nv, -List.map_take, -List.map_set])⟩
theorem rNm_lenB {ls : List Ln} {A B : Nat} (h1 : ls.length ≤ A) (h2 : ∀ l ∈ ls, l.2.2.length ≤ B) : (rNm ls).length ≤ A * B := by
 rw [← rNm_eq, List.length_map]
 exact lnsC_len h1 h2
theorem grt_one {r : Ru} (h : grtL [r] = false) : r.2.length ≤ 66 ∧ ∀ x ∈ r.2, x.1.length ≤ 60 ∧ x.2.2.length ≤ 18 ∧ ∀ c ∈ x.2.2, c.1.length ≤ 30 ∧ c.2.length ≤ 13 := by
 unfold grtL at h
 simp only [Bool.or_eq_false_iff, Bool.and_eq_false_iff, decide_eq_false_iff_not, List.any_cons, List.any_nil, Bool.or_false] at h
 have hr := h.2
 unfold grtR at hr
 simp only [Bool.or_eq_false_iff, Bool.and_eq_false_iff, decide_eq_false_iff_not, List.any_eq_false] at hr
 refine ⟨by omega, fun x hx => ?_⟩
 have hn : grtN x = false := by simpa using hr.2 x hx
 unfold grtN at hn
 simp only [Bool.or_eq_false_iff, Bool.and_eq_false_iff, decide_eq_false_iff_not, List.any_eq_false] at hn
 refine ⟨by omega, by omega, fun c hc => ?_⟩
 have hcc : grtC c = false := by simpa using hn.2 c hc
 unfold grtC at hcc
 simp only [Bool.or_eq_false_iff, decide_eq_false_iff_not] at hcc
 omega
abbrev bT8 : Nat := 77 * 100000 + 8
abbrev bT13 : Nat := 77 * 100000 + 13
theorem lawBalance (r : Ru) (am : List Str) : PCalls Tryz.prog 9 [.agg (dRu r), dStrs am] (.d (dB true)) := by
 have k0 := wAwake
 have k1 := wGreatRs [[r]] (by simp)
 simp only [List.map_cons, List.map_nil, List.any_cons, List.any_nil, Bool.or_false] at k1
 obtain ⟨n, ls⟩ := r
 cases hg : grtL [(n, ls)] with
 | true =>
  rw [hg] at k1
  refine pcalls_of_pw Tryz.func9 rfl Tryz.ntmps9 Tryz.results9 (by simp) fun B w0 => ?_
  refine pzr (yK (cs := [_, _]) rfl rfl (yAd rfl (yQ (pw_seq (pzr (yLa (ys := [_, _]) rfl rfl rfl rfl ?_)))))); refine yR (es := [[_, _]]) rfl rfl rfl rfl rfl ?_; refine yR (es := [[_]]) rfl rfl rfl rfl rfl ?_; refine yC (k1) rfl rfl (yMd rfl (yO rfl (yO rfl (yO rfl (yPd rfl rfl (yMd rfl (yO rfl (yO rfl (yPd rfl rfl ?_))))))))); refine yQ (pw_ct rfl (pzr (yC (k0) rfl rfl (yAd rfl (yQ (pw_ret (q_then_ret ?_)))))))
  exact q_ret _ (.tmp rfl .nil) rfl
 | false =>
 rw [hg] at k1
 obtain ⟨g1, g2⟩ := grt_one hg
 simp only at g1 g2
 by_cases ha : 12 < am.length
 · have t0 : decide (((am.map fun s => [dS s]).length : Int) > 12) = true := decide_eq_true (by rw [List.length_map]; omega)
   refine pcalls_of_pw Tryz.func9 rfl Tryz.ntmps9 Tryz.results9 (by simp) fun B w0 => ?_
   refine pzr (yK (cs := [_, _]) rfl rfl (yAd rfl (yQ (pw_seq (pzr (yLa (ys := [_, _]) rfl rfl rfl rfl ?_)))))); refine yR (es := [[_, _]]) rfl rfl rfl rfl rfl ?_; refine yR (es := [[_]]) rfl rfl rfl rfl rfl ?_; refine yC (k1) rfl rfl (yMd rfl (yMd rfl (yN rfl (yB rfl rfl rfl rfl (yVd rfl rfl (yMd rfl ?_)))))); rw [t0]; refine yO rfl (yO rfl (yPd rfl rfl (yQ (pw_ct rfl (pzr (yC (k0) rfl rfl (yAd rfl (yQ (pw_ret ?_))))))))); refine q_then_ret ?_
   exact q_ret _ (.tmp rfl .nil) rfl
 have t0 : decide (((am.map fun s => [dS s]).length : Int) > 12) = false := decide_eq_false (by rw [List.length_map]; omega)
 have kh := wHasI badI am (by omega)
 cases hba : am.any badI with
 | true =>
  rw [hba] at kh
  refine pcalls_of_pw Tryz.func9 rfl Tryz.ntmps9 Tryz.results9 (by simp) fun B w0 => ?_
  refine pzr (yK (cs := [_, _]) rfl rfl (yAd rfl (yQ (pw_seq (pzr (yLa (ys := [_, _]) rfl rfl rfl rfl ?_)))))); refine yR (es := [[_, _]]) rfl rfl rfl rfl rfl ?_; refine yR (es := [[_]]) rfl rfl rfl rfl rfl ?_; refine yC (k1) rfl rfl (yMd rfl (yMd rfl (yN rfl (yB rfl rfl rfl rfl (yVd rfl rfl (yMd rfl ?_)))))); rw [t0]; refine yMd rfl ?_; refine yCf kh (.d rfl (.fn inferInstance rfl rfl hBadI .nil)) rfl ?_; refine yVd rfl rfl (yQ (pw_ct rfl (pzr (yC (k0) rfl rfl (yAd rfl (yQ (pw_ret (q_then_ret ?_))))))))
  exact q_ret _ (.tmp rfl .nil) rfl
 | false =>
 rw [hba] at kh
 have ha1 : ∀ a ∈ am, a.length ≤ 13 ∧ isC a = true := fun a h => by
  have := List.any_eq_false.1 hba a h
  unfold badI at this
  simp only [Bool.or_eq_true, decide_eq_true_eq, Bool.not_eq_true', not_or, Bool.not_eq_false] at this
  exact ⟨by omega, this.2⟩
 have hB : bdR (n, ls) := ⟨by simp only; omega, fun l hl => ⟨by have := (g2 l hl).1; omega, by have := (g2 l hl).2.1; omega, fun c hc => by have := (g2 l hl).2.2 c hc; omega⟩⟩
 have b0 := wBalanced (n, ls) hB
 by_cases he : rulE (n, ls) = 0
 rotate_left
 · have t1 : (rulE (n, ls) != 0) = true := by simp [he]
   rw [decide_eq_false he, Bool.false_and] at b0
   obtain ⟨E, hE⟩ : ∃ E, E = rulE (n, ls) := ⟨_, rfl⟩
   rw [← hE] at b0 t1
   refine pcalls_of_pw Tryz.func9 rfl Tryz.ntmps9 Tryz.results9 (by simp) fun B w0 => ?_
   refine pzr (yK (cs := [_, _]) rfl rfl (yAd rfl (yQ (pw_seq (pzr (yLa (ys := [_, _]) rfl rfl rfl rfl ?_)))))); refine yR (es := [[_, _]]) rfl rfl rfl rfl rfl ?_; refine yR (es := [[_]]) rfl rfl rfl rfl rfl ?_; refine yC (k1) rfl rfl (yMd rfl (yMd rfl (yN rfl (yB rfl rfl rfl rfl (yVd rfl rfl (yMd rfl ?_)))))); rw [t0]; refine yMd rfl ?_; refine yCf kh (.d rfl (.fn inferInstance rfl rfl hBadI .nil)) rfl ?_; refine yVd rfl rfl (yQ (pw_cf rfl (pw_skip (pzr (yLa (ys := [_, _]) rfl rfl rfl rfl (yC (b0) rfl rfl (yMp rfl (yX rfl rfl (yX rfl rfl ?_))))))))); refine yAd rfl (yAd rfl (yQ (pw_seq (pzr (yMd rfl (yB rfl rfl rfl rfl (yQ (q_then ?_)))))))); rw [t1]; refine pw_ct rfl (pzr (yMd rfl (yU rfl rfl rfl (yMd rfl (yC (k0) rfl rfl (yPd rfl rfl (yAd rfl (yQ (pw_ret ?_))))))))); refine q_then_ret ?_
   exact q_ret _ (.tmp rfl .nil) rfl
 obtain ⟨-, hl64, hlw⟩ := (rE_zero (tp := tmpB nameB) (ce := chE)).1 he
 have hch : ∀ l ∈ ls, chE l.2.2 = 0 := fun l hl => (hlw l hl).2
 have hl16 : ∀ l ∈ ls, l.2.2.length ≤ 16 := fun l hl => (chE_zero.1 (hch l hl)).1
 simp only at hl64
 have m0 := wNamesR (n, ls) (by simp only; omega) (fun l hl => by have := hl16 l hl; omega) (by have := rNm_lenB hl64 hl16; simp only; omega)
 rw [he, decide_eq_true rfl, Bool.true_and] at b0
 obtain ⟨ns, hns⟩ : ∃ q, q = uniS (rNm ls) := ⟨_, rfl⟩
 obtain ⟨hasc, hmem⟩ := uniS_spec (rNm ls)
 rw [← hns] at hasc hmem
 simp only at m0 b0
 rw [← hns] at m0
 by_cases hn12 : 12 < ns.length
 · have t2 : decide (((ns.map fun s => [dS s]).length : Int) > 12) = true := decide_eq_true (by rw [List.length_map]; omega)
   obtain ⟨is, his⟩ : ∃ q, q = balB ls := ⟨_, rfl⟩
   rw [← his] at b0
   refine pcalls_of_pw Tryz.func9 rfl Tryz.ntmps9 Tryz.results9 (by simp) fun B w0 => ?_
   refine pzr (yK (cs := [_, _]) rfl rfl (yAd rfl (yQ (pw_seq (pzr (yLa (ys := [_, _]) rfl rfl rfl rfl ?_)))))); refine yR (es := [[_, _]]) rfl rfl rfl rfl rfl ?_; refine yR (es := [[_]]) rfl rfl rfl rfl rfl ?_; refine yC (k1) rfl rfl (yMd rfl (yMd rfl (yN rfl (yB rfl rfl rfl rfl (yVd rfl rfl (yMd rfl ?_)))))); rw [t0]; refine yMd rfl ?_; refine yCf kh (.d rfl (.fn inferInstance rfl rfl hBadI .nil)) rfl ?_; refine yVd rfl rfl (yQ (pw_cf rfl (pw_skip (pzr (yLa (ys := [_, _]) rfl rfl rfl rfl (yC (b0) rfl rfl (yMp rfl (yX rfl rfl (yX rfl rfl ?_))))))))); refine yAd rfl (yAd rfl (yQ (pw_seq (pzr (yMd rfl (yB rfl rfl rfl rfl (yQ (pw_cf rfl (pw_skip ?_))))))))); refine pzr (yLa (ys := [_, _]) rfl rfl rfl rfl (yC (m0) rfl rfl (yAd rfl (yQ (pw_seq (pzr (yMd rfl (yN rfl (yB rfl rfl rfl rfl ?_))))))))); refine yQ (q_then ?_); rw [t2]; refine pw_ct rfl (pzr (yC (k0) rfl rfl (yAd rfl (yQ (pw_ret (q_then_ret ?_))))))
   exact q_ret _ (.tmp rfl .nil) rfl
 have t2 : decide (((ns.map fun s => [dS s]).length : Int) > 12) = false := decide_eq_false (by rw [List.length_map]; omega)
 have hnd := ascS_nodup hasc
 have hd1 := fun k => dif_one hch hns k
 have hd2 := dif_trm (am := am) hch hns fun a h => (ha1 a h).2
 have hfo := bal_found hmem
 have hL400 : ∀ c ∈ trmL ns am, c.2.length ≤ 400 := fun c hc => by
  rcases (trmL_mem hc).2 with h | h
  · rw [h]; simp
  · have := (ha1 _ h).1; omega
 have hLl : (trmL ns am).length ≤ 1000000 := by
  have := congrArg List.length (trmL_names ns am)
  rw [List.length_map] at this
  omega
 have hkd := fun L hl hL => wDiff (n, ls) L (by simp only; omega) (fun l hl => ⟨by have := hl16 l hl; omega, fun c hc => by have := (g2 l hl).2.2 c hc; omega⟩) hl hL
 have kd2 := hkd (trmL ns am) hLl hL400
 simp only at kd2
 rw [hd2, if_pos rfl] at kd2
 have hbz := fun h : balB ls = true => bal_all h (aL (trmL ns am))
 have kd1 : ∀ k, PCalls Tryz.prog 45 [.agg (dRu (n, ls)), .sl 2 ((oneL ns k).map dCf)] (.tup [dS (canon (rS (one k) ls)), dB true]) := fun k => by
  have := hkd (oneL ns k) (by rw [oneL, List.length_map]; omega) fun c hc => by
   obtain ⟨s, -, rfl⟩ := List.mem_map.1 hc
   show (if s = k then [49] else [] : Str).length ≤ 400
   split <;> simp
  simp only at this
  rw [(hd1 k).1, if_pos rfl, (hd1 k).2] at this
  exact this
 obtain ⟨is, his⟩ : ∃ q, q = balB ls := ⟨_, rfl⟩
 rw [← his] at b0 hfo hbz
 obtain ⟨fz, hfz⟩ : ∃ f : Str → Bool, f = fun k => decide (rS (one k) ls ≠ 0) := ⟨_, rfl⟩
 have hfk := fun k : Str => congrFun hfz k
 rw [← hfz] at hfo
 obtain ⟨D, hD⟩ : ∃ D, D = canon (rS (aL (trmL ns am)) ls) := ⟨_, rfl⟩
 have hD0 : is = true → D = [] := fun h => by rw [hD, hbz h, canon_zero]
 rw [← hD] at kd2
 have htn := fun (j : Nat) (s : Str) (h : ns[j]? = some s) => trmL_next (am := am) h
 have htl : ∀ j, (trmL (ns.take j) am).length ≤ 12 := fun j => by
  have := congrArg List.length (trmL_names (ns.take j) am)
  rw [List.length_map, List.length_take] at this
  omega
 have ht0 : trmL (ns.take 0) am = [] := rfl
 have hte : trmL (ns.take ns.length) am = trmL ns am := by rw [List.take_length]
 obtain ⟨T, hT⟩ : ∃ T : Nat → List Cf, T = fun j => trmL (ns.take j) am := ⟨_, rfl⟩
 have htn : ∀ (j : Nat) (s : Str), ns[j]? = some s → T (j + 1) = T j ++ [(s, (am[j]?).getD [])] := fun j s h => by rw [hT]; exact htn j s h
 have htl : ∀ j, (T j).length ≤ 12 := fun j => by rw [hT]; exact htl j
 have ht0 : T 0 = [] := by rw [hT]; exact ht0
 have hte : T ns.length = trmL ns am := by rw [hT]; exact hte
 rw [← hte] at kd2
 clear hT hfz hD hbz his hkd hL400 hLl hd1 hd2 hB hg hba he hns hasc hmem hlw hl16 hch g1 g2
 refine pcalls_of_pw Tryz.func9 rfl Tryz.ntmps9 Tryz.results9 (by simp) fun B w0 => ?_
 refine pzr (yK (cs := [_, _]) rfl rfl (yAd rfl (yQ (pw_seq (pzr (yLa (ys := [_, _]) rfl rfl rfl rfl ?_)))))); refine yR (es := [[_, _]]) rfl rfl rfl rfl rfl ?_; refine yR (es := [[_]]) rfl rfl rfl rfl rfl ?_; refine yC (k1) rfl rfl (yMd rfl (yMd rfl (yN rfl (yB rfl rfl rfl rfl (yVd rfl rfl (yMd rfl ?_)))))); rw [t0]; refine yMd rfl ?_; refine yCf kh (.d rfl (.fn inferInstance rfl rfl hBadI .nil)) rfl ?_; refine yVd rfl rfl (yQ (pw_cf rfl (pw_skip (pzr (yLa (ys := [_, _]) rfl rfl rfl rfl (yC (b0) rfl rfl (yMp rfl (yX rfl rfl (yX rfl rfl ?_))))))))); refine yAd rfl (yAd rfl (yQ (pw_seq (pzr (yMd rfl (yB rfl rfl rfl rfl (yQ (pw_cf rfl (pw_skip ?_))))))))); refine pzr (yLa (ys := [_, _]) rfl rfl rfl rfl (yC (m0) rfl rfl (yAd rfl (yQ (pw_seq (pzr (yMd rfl (yN rfl (yB rfl rfl rfl rfl ?_))))))))); refine yQ (q_then ?_); rw [t2]; refine pw_cf rfl (pw_skip (pzr (yAd rfl (yQ ?_)))); refine pw_tok 8 bT8 2 rfl rfl rfl ?_; refine pzr (yAd rfl (yQ (pw_seq (pzr (yMd rfl (yN rfl (yMd rfl (yQ (pw_block ?_))))))))); refine pw_loop (fun j : Nat => ⟨130, [(1, .d (dStrs am)), (2, .bx 2 0), (5, .d (dB is)), (7, .d (dStrs ns)), (8, .ts bT8 2 ((T j).map dCf)), (9, .d (dB ((ns.take j).any fz))), (53, .d (dStrs ns)), (54, .d (dI ns.length)), (55, .d (dI j))], [(2, [.d (dI n), .d (.sl 3 (ls.map dLn))])], [(bT8, ((T j).map dCf).length)]⟩) (fun j => j ≤ ns.length) (fun j => ns.length - j) 0 (Nat.zero_le _)
  ⟨rfl, ⟨.refl _, .refl _, .refl _, .refl _, .of_eq (by rw [ht0]; rfl), .refl _, .refl _, .of_eq (congrArg (fun n : Nat => SV.d (dI n)) (by simp)), .refl _, trivial⟩, ⟨⟨_, rfl, lesC_refl _⟩, trivial⟩, ⟨(by rw [ht0]; rfl), trivial⟩, rfl⟩ ?_
 intro j hj
 rcases Nat.lt_or_ge j ns.length with h | h
 rotate_left
 · have u2 : decide ((j : Int) < (ns.length : Int)) = false := decide_eq_false (by omega)
   obtain rfl : j = ns.length := by omega
   rw [List.take_length, hfo]
   obtain ⟨O, hO⟩ : ∃ O, O = (T ns.length).map dCf := ⟨_, rfl⟩
   rw [← hO] at kd2 ⊢
   clear hO htn htl ht0 hte kd1 hfk hfo k1 kh m0 b0
   cases is with
   | true =>
    rw [hD0 rfl] at kd2
    refine pzr (yB rfl rfl rfl rfl (yQ (pw_seq ?_))); rw [u2]; refine pw_cf rfl (pw_exit (pzr (yLa (ys := [_, _]) rfl rfl rfl rfl (yMt rfl (yC (kd2) rfl rfl (yMp rfl (yX rfl rfl (yX rfl rfl (yAd rfl ?_))))))))); refine yAd rfl (yQ (pzr (yMd rfl (yMd rfl (yMd rfl (yMd rfl (yU rfl rfl rfl (yBb (c := true) Tryz.underlying4 rfl rfl rfl (yPd rfl rfl ?_))))))))); refine yMd rfl (yMd rfl (yU rfl rfl rfl (yMd rfl (yMd rfl (yBse rfl rfl (yVd rfl rfl (yPd rfl rfl (yMd rfl (yC (k0) rfl rfl ?_))))))))); refine yPd rfl rfl (yAd rfl (yQ (pw_ret ?_)))
    exact q_ret _ (.tmp rfl .nil) rfl
   | false =>
    refine pzr (yB rfl rfl rfl rfl (yQ (pw_seq ?_))); rw [u2]; refine pw_cf rfl (pw_exit (pzr (yLa (ys := [_, _]) rfl rfl rfl rfl (yMt rfl (yC (kd2) rfl rfl (yMp rfl (yX rfl rfl (yX rfl rfl (yAd rfl ?_))))))))); refine yAd rfl (yQ (pzr (yMd rfl (yMd rfl (yMd rfl (yMd rfl (yU rfl rfl rfl (yBb (c := true) Tryz.underlying4 rfl rfl rfl (yPd rfl rfl ?_))))))))); refine yMd rfl (yMd rfl (yU rfl rfl rfl (yMd rfl (yO rfl (yO rfl (yPd rfl rfl (yPd rfl rfl (yMd rfl (yC (k0) rfl rfl ?_))))))))); refine yPd rfl rfl (yAd rfl (yQ (pw_ret ?_)))
    exact q_ret _ (.tmp rfl .nil) rfl
 have u2 : decide ((j : Int) < (ns.length : Int)) = true := decide_eq_true (by omega)
 obtain ⟨k, hk⟩ : ∃ a, ns[j]? = some a := ⟨_, List.getElem?_eq_getElem h⟩
 have ek := ix (fun s => [dS s]) ns j j k rfl hk
 have hw := wrapI ((j : Int) + 1) (by omega)
 have hnx : (ns.take (j + 1)).any fz = ((ns.take j).any fz || fz k) := by
  rw [List.take_add_one, hk, List.any_append]
  simp
 have k5 := kd1 k
 have hcv : (!(canon (rS (one k) ls) == [])) = fz k := by
  rw [hfk k, Bool.eq_iff_iff, Bool.not_eq_true', beq_eq_false_iff_ne, decide_eq_true_eq, Ne, canon_nil]
 obtain ⟨v, hv⟩ : ∃ v, v = canon (rS (one k) ls) := ⟨_, rfl⟩
 rw [← hv] at k5 hcv
 obtain ⟨fk, hfk2⟩ : ∃ b, b = fz k := ⟨_, rfl⟩
 rw [← hfk2] at hcv hnx
 obtain ⟨al, hal2⟩ : ∃ b, b = (ns.take j).any fz := ⟨_, rfl⟩
 rw [← hal2] at hnx ⊢
 have htj := htn j k hk
 have htlj := htl j
 have hix : ∀ (m : Nat) (s : Str), ns[m]? = some s → ((m : Int) == (j : Int)) = decide (s = k) := fun m s hs => by
  by_cases e : m = j
  · subst e
    rw [hk] at hs
    cases hs
    simp
  · have : s ≠ k := fun e2 => e (by
     obtain ⟨q1, q2⟩ := List.getElem?_eq_some_iff.1 hs
     obtain ⟨q3, q4⟩ := List.getElem?_eq_some_iff.1 hk
     have hpw := List.pairwise_iff_getElem.1 hnd
     rcases Nat.lt_or_gt_of_ne e with h5 | h5
     · exact absurd (by rw [q2, q4, e2]) (hpw m j q1 q3 h5)
     · exact absurd (by rw [q2, q4, e2]) (hpw j m q3 q1 h5))
    rw [decide_eq_false this]
    exact beq_false_of_ne (by omega)
 have arith : ns.length - (j + 1) < ns.length - j := by omega
 obtain ⟨aj, haj⟩ : ∃ a, a = (am[j]?).getD [] := ⟨_, rfl⟩
 rw [← haj] at htj
 obtain ⟨tj, htj2⟩ : ∃ t, t = T j := ⟨_, rfl⟩
 obtain ⟨tn, htn2⟩ : ∃ t, t = T (j + 1) := ⟨_, rfl⟩
 rw [← htj2] at htj htlj ⊢
 rw [← htn2] at htj
 clear hal2 hfk2 hv hfo hfk kd1 kd2 htn htl ht0 hte hk hnd hD0 htj2 k1 kh m0 b0
 by_cases hja : j < am.length
 · have t3 : decide ((j : Int) < ((am.map fun s => [dS s]).length : Int)) = true := decide_eq_true (by rw [List.length_map]; omega)
   obtain ⟨a, hax⟩ : ∃ a, am[j]? = some a := ⟨_, List.getElem?_eq_getElem hja⟩
   have ea := ix (fun s => [dS s]) am j j a rfl hax
   rw [hax] at haj
   simp only [Option.getD_some] at haj
   subst haj
   refine pzr (yB rfl rfl rfl rfl (yQ (pw_seq ?_))); rw [u2]; refine pw_ct rfl (pw_skip (pw_seq (pw_block (pzr (yMd rfl (yW ek (by omega) rfl rfl (yLr rfl rfl (yAd rfl (yAd rfl ?_))))))))); refine yQ (pzr (yAd rfl (yQ (pw_seq (pzr (yMd rfl (yMd rfl (yN rfl (yB rfl rfl rfl rfl ?_))))))))); refine yQ (q_then ?_); rw [t3]; refine pw_ct rfl (pw_region (yMd rfl (yMd rfl (yW ea (by omega) rfl rfl (yLr rfl rfl (yAd rfl (yQ (pzr (yMt rfl ?_))))))))); refine yMd rfl (yMd rfl (yG (ys := [_, _]) rfl rfl ?_)); refine yR (es := [[_, _]]) rfl rfl rfl rfl rfl ?_; refine yT (es' := (tj ++ [(k, aj)]).map dCf) (m := ((tj ++ [(k, aj)]).map dCf).length) (by simp; omega) (by simp; omega) rfl rfl rfl rfl rfl (by simp) (by simp) ?_; refine yAt rfl (yQ (pzr (yAd rfl (yQ ?_)))); refine pw_tok 13 bT13 2 rfl rfl rfl ?_; refine pw_seq (pzr (yMd rfl (yN rfl (yMd rfl (yQ (pw_block ?_)))))); refine pw_loop (fun m : Nat => ⟨130, [(1, .d (dStrs am)), (2, .bx 2 0), (5, .d (dB is)), (7, .d (dStrs ns)), (8, .ts bT8 2 (tn.map dCf)), (9, .d (dB al)), (10, .d (dI j)), (13, .ts bT13 2 ((oneL (ns.take m) k).map dCf)), (53, .d (dStrs ns)), (54, .d (dI ns.length)), (55, .d (dI j)), (74, .d (dStrs ns)), (75, .d (dI ns.length)), (76, .d (dI m))], [(2, [.d (dI n), .d (.sl 3 (ls.map dLn))])], [(bT8, (tn.map dCf).length), (bT13, ((oneL (ns.take m) k).map dCf).length)]⟩) (fun m => m ≤ ns.length) (fun m => ns.length - m) 0 (Nat.zero_le _)
    ⟨rfl, ⟨.refl _, .refl _, .refl _, .refl _, .of_eq (by rw [htj]; rfl), .refl _, .refl _, .refl _, .refl _, .refl _, .refl _, .refl _, .of_eq (congrArg (fun n : Nat => SV.d (dI n)) (by simp)), .refl _, trivial⟩, ⟨⟨_, rfl, lesC_refl _⟩, trivial⟩, ⟨(by rw [htj]; rfl), rfl, trivial⟩, rfl⟩ ?_
   intro m hm
   rcases Nat.lt_or_ge m ns.length with h3 | h3
   · have u3 : decide ((m : Int) < (ns.length : Int)) = true := decide_eq_true (by omega)
     obtain ⟨s, hs⟩ : ∃ a, ns[m]? = some a := ⟨_, List.getElem?_eq_getElem h3⟩
     have es := ix (fun s => [dS s]) ns m m s rfl hs
     have hwm := wrapI ((m : Int) + 1) (by omega)
     have u4 := hix m s hs
     have hnm : oneL (ns.take (m + 1)) k = oneL (ns.take m) k ++ [(s, if s = k then [49] else [])] := by
      rw [oneL, List.take_add_one, hs, List.map_append]; rfl
     have hzl : (oneL (ns.take m) k).length ≤ 1000 := by rw [oneL, List.length_map, List.length_take]; omega
     have arith2 : ns.length - (m + 1) < ns.length - m := by omega
     obtain ⟨zs, hzs⟩ : ∃ l, l = oneL (ns.take m) k := ⟨_, rfl⟩
     rw [← hzs] at hnm hzl ⊢
     clear hzs k5 hix htj
     by_cases hsk : s = k
     · rw [decide_eq_true hsk] at u4
       rw [if_pos hsk] at hnm
       refine pzr (yB rfl rfl rfl rfl (yQ (pw_seq ?_))); rw [u3]; refine pw_ct rfl (pw_skip (pw_seq (pw_block (pzr (yMd rfl (yW es (by omega) rfl rfl (yLr rfl rfl (yAd rfl (yAd rfl ?_))))))))); refine yQ (pzr (yMd rfl (yG (ys := [_, _]) rfl rfl (yZ (cs := [_, _]) rfl rfl (yS (cs' := [_, _]) rfl rfl rfl rfl rfl (yQ (pw_seq (pzr (yMd rfl ?_))))))))); refine yMd rfl (yB rfl rfl rfl rfl (yQ (q_then ?_))); rw [u4]; refine pw_ct rfl (pw_region (yFb rfl (ySd (cs' := [_, _]) rfl rfl rfl rfl (yQ (pw_region (yMt rfl (yLa (ys := [_, _]) rfl rfl rfl rfl ?_))))))); refine yR (es := [[_, _]]) rfl rfl rfl rfl rfl ?_; refine yT (es' := (zs ++ [(s, [49])]).map dCf) (m := ((zs ++ [(s, [49])]).map dCf).length) (by simp; omega) (by simp; omega) rfl rfl rfl rfl rfl (by simp) (by simp) ?_; refine yAt rfl (yQ (pw_region (yB rfl rfl rfl rfl (yMd rfl (yQ (q_then ?_))))))
       exact ⟨m + 1, h3, arith2, rfl, ⟨.refl _, .refl _, .refl _, .refl _, .refl _, .refl _, .refl _, .of_eq (by rw [hnm] <;> rfl), .refl _, .refl _, .refl _, .refl _, .refl _, .of_eq (congrArg (fun n => SV.d (dI n)) hwm), trivial⟩, ⟨⟨_, rfl, lesC_refl _⟩, trivial⟩, ⟨rfl, (by rw [hnm] <;> rfl), trivial⟩, rfl⟩
     · rw [decide_eq_false hsk] at u4
       rw [if_neg hsk] at hnm
       refine pzr (yB rfl rfl rfl rfl (yQ (pw_seq ?_))); rw [u3]; refine pw_ct rfl (pw_skip (pw_seq (pw_block (pzr (yMd rfl (yW es (by omega) rfl rfl (yLr rfl rfl (yAd rfl (yAd rfl ?_))))))))); refine yQ (pzr (yMd rfl (yG (ys := [_, _]) rfl rfl (yZ (cs := [_, _]) rfl rfl (yS (cs' := [_, _]) rfl rfl rfl rfl rfl (yQ (pw_seq (pzr (yMd rfl ?_))))))))); refine yMd rfl (yB rfl rfl rfl rfl (yQ (q_then ?_))); rw [u4]; refine pw_cf rfl (pw_skip (pw_region (yMt rfl (yLa (ys := [_, _]) rfl rfl rfl rfl ?_)))); refine yR (es := [[_, _]]) rfl rfl rfl rfl rfl ?_; refine yT (es' := (zs ++ [(s, [])]).map dCf) (m := ((zs ++ [(s, [])]).map dCf).length) (by simp; omega) (by simp; omega) rfl rfl rfl rfl rfl (by simp) (by simp) ?_; refine yAt rfl (yQ (pw_region (yB rfl rfl rfl rfl (yMd rfl (yQ (q_then ?_))))))
       exact ⟨m + 1, h3, arith2, rfl, ⟨.refl _, .refl _, .refl _, .refl _, .refl _, .refl _, .refl _, .of_eq (by rw [hnm] <;> rfl), .refl _, .refl _, .refl _, .refl _, .refl _, .of_eq (congrArg (fun n => SV.d (dI n)) hwm), trivial⟩, ⟨⟨_, rfl, lesC_refl _⟩, trivial⟩, ⟨rfl, (by rw [hnm] <;> rfl), trivial⟩, rfl⟩
   · have u3 : decide ((m : Int) < (ns.length : Int)) = false := decide_eq_false (by omega)
     obtain rfl : m = ns.length := by omega
     rw [List.take_length]
     obtain ⟨O, hO⟩ : ∃ O, O = (oneL ns k).map dCf := ⟨_, rfl⟩
     rw [← hO] at k5 ⊢
     cases al with
     | false =>
      refine pzr (yB rfl rfl rfl rfl (yQ (pw_seq ?_))); rw [u3]; refine pw_cf rfl (pw_exit (pzr (yLa (ys := [_, _]) rfl rfl rfl rfl (yMt rfl (yC (k5) rfl rfl (yMp rfl (yX rfl rfl (yX rfl rfl (yAd rfl ?_))))))))); refine yAd rfl (yQ (pw_seq (pzr (yMd rfl (yU rfl rfl rfl (yQ (pw_cf rfl (pw_skip (pw_region ?_))))))))); refine yMd rfl (yMd rfl (yMd rfl (yBsn rfl rfl (yVd rfl rfl (yAd rfl (yQ (pw_region (yB rfl rfl rfl rfl (yMd rfl ?_))))))))); refine yQ (q_then ?_); rw [hcv]
      exact ⟨j + 1, h, arith, rfl, ⟨.refl _, .refl _, .refl _, .refl _, .of_eq (by rw [← htn2]; rfl), .of_eq (by rw [hnx] <;> rfl), .refl _, .refl _, .of_eq (congrArg (fun n => SV.d (dI n)) hw), trivial⟩, ⟨⟨_, rfl, lesC_refl _⟩, trivial⟩, ⟨(by rw [← htn2]; rfl), trivial⟩, rfl⟩
     | true =>
      refine pzr (yB rfl rfl rfl rfl (yQ (pw_seq ?_))); rw [u3]; refine pw_cf rfl (pw_exit (pzr (yLa (ys := [_, _]) rfl rfl rfl rfl (yMt rfl (yC (k5) rfl rfl (yMp rfl (yX rfl rfl (yX rfl rfl (yAd rfl ?_))))))))); refine yAd rfl (yQ (pw_seq (pzr (yMd rfl (yU rfl rfl rfl (yQ (pw_cf rfl (pw_skip (pw_region ?_))))))))); refine yMd rfl (yMd rfl (yO rfl (yO rfl (yPd rfl rfl (yAd rfl (yQ (pw_region (yB rfl rfl rfl rfl (yMd rfl ?_))))))))); refine yQ (q_then ?_)
      exact ⟨j + 1, h, arith, rfl, ⟨.refl _, .refl _, .refl _, .refl _, .of_eq (by rw [← htn2]; rfl), .of_eq (by rw [hnx] <;> rfl), .refl _, .refl _, .of_eq (congrArg (fun n => SV.d (dI n)) hw), trivial⟩, ⟨⟨_, rfl, lesC_refl _⟩, trivial⟩, ⟨(by rw [← htn2]; rfl), trivial⟩, rfl⟩
 · have t3 : decide ((j : Int) < ((am.map fun s => [dS s]).length : Int)) = false := decide_eq_false (by rw [List.length_map]; omega)
   rw [List.getElem?_eq_none (by omega)] at haj
   simp only [Option.getD_none] at haj
   subst haj
   refine pzr (yB rfl rfl rfl rfl (yQ (pw_seq ?_))); rw [u2]; refine pw_ct rfl (pw_skip (pw_seq (pw_block (pzr (yMd rfl (yW ek (by omega) rfl rfl (yLr rfl rfl (yAd rfl (yAd rfl ?_))))))))); refine yQ (pzr (yAd rfl (yQ (pw_seq (pzr (yMd rfl (yMd rfl (yN rfl (yB rfl rfl rfl rfl ?_))))))))); refine yQ (q_then ?_); rw [t3]; refine pw_cf rfl (pw_skip (pzr (yMt rfl (yMd rfl (yMd rfl (yG (ys := [_, _]) rfl rfl ?_)))))); refine yR (es := [[_, _]]) rfl rfl rfl rfl rfl ?_; refine yT (es' := (tj ++ [(k, [])]).map dCf) (m := ((tj ++ [(k, [])]).map dCf).length) (by simp; omega) (by simp; omega) rfl rfl rfl rfl rfl (by simp) (by simp) ?_; refine yAt rfl (yQ (pzr (yAd rfl (yQ ?_)))); refine pw_tok 13 bT13 2 rfl rfl rfl ?_; refine pw_seq (pzr (yMd rfl (yN rfl (yMd rfl (yQ (pw_block ?_)))))); refine pw_loop (fun m : Nat => ⟨130, [(1, .d (dStrs am)), (2, .bx 2 0), (5, .d (dB is)), (7, .d (dStrs ns)), (8, .ts bT8 2 (tn.map dCf)), (9, .d (dB al)), (10, .d (dI j)), (13, .ts bT13 2 ((oneL (ns.take m) k).map dCf)), (53, .d (dStrs ns)), (54, .d (dI ns.length)), (55, .d (dI j)), (74, .d (dStrs ns)), (75, .d (dI ns.length)), (76, .d (dI m))], [(2, [.d (dI n), .d (.sl 3 (ls.map dLn))])], [(bT8, (tn.map dCf).length), (bT13, ((oneL (ns.take m) k).map dCf).length)]⟩) (fun m => m ≤ ns.length) (fun m => ns.length - m) 0 (Nat.zero_le _)
    ⟨rfl, ⟨.refl _, .refl _, .refl _, .refl _, .of_eq (by rw [htj]; rfl), .refl _, .refl _, .refl _, .refl _, .refl _, .refl _, .refl _, .of_eq (congrArg (fun n : Nat => SV.d (dI n)) (by simp)), .refl _, trivial⟩, ⟨⟨_, rfl, lesC_refl _⟩, trivial⟩, ⟨(by rw [htj]; rfl), rfl, trivial⟩, rfl⟩ ?_
   intro m hm
   rcases Nat.lt_or_ge m ns.length with h3 | h3
   · have u3 : decide ((m : Int) < (ns.length : Int)) = true := decide_eq_true (by omega)
     obtain ⟨s, hs⟩ : ∃ a, ns[m]? = some a := ⟨_, List.getElem?_eq_getElem h3⟩
     have es := ix (fun s => [dS s]) ns m m s rfl hs
     have hwm := wrapI ((m : Int) + 1) (by omega)
     have u4 := hix m s hs
     have hnm : oneL (ns.take (m + 1)) k = oneL (ns.take m) k ++ [(s, if s = k then [49] else [])] := by
      rw [oneL, List.take_add_one, hs, List.map_append]; rfl
     have hzl : (oneL (ns.take m) k).length ≤ 1000 := by rw [oneL, List.length_map, List.length_take]; omega
     have arith2 : ns.length - (m + 1) < ns.length - m := by omega
     obtain ⟨zs, hzs⟩ : ∃ l, l = oneL (ns.take m) k := ⟨_, rfl⟩
     rw [← hzs] at hnm hzl ⊢
     clear hzs k5 hix htj
     by_cases hsk : s = k
     · rw [decide_eq_true hsk] at u4
       rw [if_pos hsk] at hnm
       refine pzr (yB rfl rfl rfl rfl (yQ (pw_seq ?_))); rw [u3]; refine pw_ct rfl (pw_skip (pw_seq (pw_block (pzr (yMd rfl (yW es (by omega) rfl rfl (yLr rfl rfl (yAd rfl (yAd rfl ?_))))))))); refine yQ (pzr (yMd rfl (yG (ys := [_, _]) rfl rfl (yZ (cs := [_, _]) rfl rfl (yS (cs' := [_, _]) rfl rfl rfl rfl rfl (yQ (pw_seq (pzr (yMd rfl ?_))))))))); refine yMd rfl (yB rfl rfl rfl rfl (yQ (q_then ?_))); rw [u4]; refine pw_ct rfl (pw_region (yFb rfl (ySd (cs' := [_, _]) rfl rfl rfl rfl (yQ (pw_region (yMt rfl (yLa (ys := [_, _]) rfl rfl rfl rfl ?_))))))); refine yR (es := [[_, _]]) rfl rfl rfl rfl rfl ?_; refine yT (es' := (zs ++ [(s, [49])]).map dCf) (m := ((zs ++ [(s, [49])]).map dCf).length) (by simp; omega) (by simp; omega) rfl rfl rfl rfl rfl (by simp) (by simp) ?_; refine yAt rfl (yQ (pw_region (yB rfl rfl rfl rfl (yMd rfl (yQ (q_then ?_))))))
       exact ⟨m + 1, h3, arith2, rfl, ⟨.refl _, .refl _, .refl _, .refl _, .refl _, .refl _, .refl _, .of_eq (by rw [hnm] <;> rfl), .refl _, .refl _, .refl _, .refl _, .refl _, .of_eq (congrArg (fun n => SV.d (dI n)) hwm), trivial⟩, ⟨⟨_, rfl, lesC_refl _⟩, trivial⟩, ⟨rfl, (by rw [hnm] <;> rfl), trivial⟩, rfl⟩
     · rw [decide_eq_false hsk] at u4
       rw [if_neg hsk] at hnm
       refine pzr (yB rfl rfl rfl rfl (yQ (pw_seq ?_))); rw [u3]; refine pw_ct rfl (pw_skip (pw_seq (pw_block (pzr (yMd rfl (yW es (by omega) rfl rfl (yLr rfl rfl (yAd rfl (yAd rfl ?_))))))))); refine yQ (pzr (yMd rfl (yG (ys := [_, _]) rfl rfl (yZ (cs := [_, _]) rfl rfl (yS (cs' := [_, _]) rfl rfl rfl rfl rfl (yQ (pw_seq (pzr (yMd rfl ?_))))))))); refine yMd rfl (yB rfl rfl rfl rfl (yQ (q_then ?_))); rw [u4]; refine pw_cf rfl (pw_skip (pw_region (yMt rfl (yLa (ys := [_, _]) rfl rfl rfl rfl ?_)))); refine yR (es := [[_, _]]) rfl rfl rfl rfl rfl ?_; refine yT (es' := (zs ++ [(s, [])]).map dCf) (m := ((zs ++ [(s, [])]).map dCf).length) (by simp; omega) (by simp; omega) rfl rfl rfl rfl rfl (by simp) (by simp) ?_; refine yAt rfl (yQ (pw_region (yB rfl rfl rfl rfl (yMd rfl (yQ (q_then ?_))))))
       exact ⟨m + 1, h3, arith2, rfl, ⟨.refl _, .refl _, .refl _, .refl _, .refl _, .refl _, .refl _, .of_eq (by rw [hnm] <;> rfl), .refl _, .refl _, .refl _, .refl _, .refl _, .of_eq (congrArg (fun n => SV.d (dI n)) hwm), trivial⟩, ⟨⟨_, rfl, lesC_refl _⟩, trivial⟩, ⟨rfl, (by rw [hnm] <;> rfl), trivial⟩, rfl⟩
   · have u3 : decide ((m : Int) < (ns.length : Int)) = false := decide_eq_false (by omega)
     obtain rfl : m = ns.length := by omega
     rw [List.take_length]
     obtain ⟨O, hO⟩ : ∃ O, O = (oneL ns k).map dCf := ⟨_, rfl⟩
     rw [← hO] at k5 ⊢
     cases al with
     | false =>
      refine pzr (yB rfl rfl rfl rfl (yQ (pw_seq ?_))); rw [u3]; refine pw_cf rfl (pw_exit (pzr (yLa (ys := [_, _]) rfl rfl rfl rfl (yMt rfl (yC (k5) rfl rfl (yMp rfl (yX rfl rfl (yX rfl rfl (yAd rfl ?_))))))))); refine yAd rfl (yQ (pw_seq (pzr (yMd rfl (yU rfl rfl rfl (yQ (pw_cf rfl (pw_skip (pw_region ?_))))))))); refine yMd rfl (yMd rfl (yMd rfl (yBsn rfl rfl (yVd rfl rfl (yAd rfl (yQ (pw_region (yB rfl rfl rfl rfl (yMd rfl ?_))))))))); refine yQ (q_then ?_); rw [hcv]
      exact ⟨j + 1, h, arith, rfl, ⟨.refl _, .refl _, .refl _, .refl _, .of_eq (by rw [← htn2]; rfl), .of_eq (by rw [hnx] <;> rfl), .refl _, .refl _, .of_eq (congrArg (fun n => SV.d (dI n)) hw), trivial⟩, ⟨⟨_, rfl, lesC_refl _⟩, trivial⟩, ⟨(by rw [← htn2]; rfl), trivial⟩, rfl⟩
     | true =>
      refine pzr (yB rfl rfl rfl rfl (yQ (pw_seq ?_))); rw [u3]; refine pw_cf rfl (pw_exit (pzr (yLa (ys := [_, _]) rfl rfl rfl rfl (yMt rfl (yC (k5) rfl rfl (yMp rfl (yX rfl rfl (yX rfl rfl (yAd rfl ?_))))))))); refine yAd rfl (yQ (pw_seq (pzr (yMd rfl (yU rfl rfl rfl (yQ (pw_cf rfl (pw_skip (pw_region ?_))))))))); refine yMd rfl (yMd rfl (yO rfl (yO rfl (yPd rfl rfl (yAd rfl (yQ (pw_region (yB rfl rfl rfl rfl (yMd rfl ?_))))))))); refine yQ (q_then ?_)
      exact ⟨j + 1, h, arith, rfl, ⟨.refl _, .refl _, .refl _, .refl _, .of_eq (by rw [← htn2]; rfl), .of_eq (by rw [hnx] <;> rfl), .refl _, .refl _, .of_eq (congrArg (fun n => SV.d (dI n)) hw), trivial⟩, ⟨⟨_, rfl, lesC_refl _⟩, trivial⟩, ⟨(by rw [← htn2]; rfl), trivial⟩, rfl⟩
end Go.Proofs.YtddfimjiihggmaaGreatDoor