/- Walks: words and names of kinds, by the reference. -/
import Derived.Test.YtddfimjiihggmaaGreatDoorB7
import Derived.Lib.JoinLaws
set_option maxHeartbeats 16000000
set_option maxRecDepth 20000
namespace Go.Proofs.YtddfimjiihggmaaGreatDoor
open Go.RowKit Px
def nmsK (n : Int) : List Str := (kndF n).elim [] fun k => k.2.2.1
def sgK (n : Int) : Str := (kndF n).elim [] fun k => k.2.2.2
def erK (n : Int) : Int := if (kndF n).isSome then 0 else 7
theorem knd_case {P : Int → Prop} (h : ∀ k : Nat, k < 19 → P ((k + 1 : Nat) : Int)) (h0 : ∀ n : Int, (∀ k : Nat, k < 19 → n ≠ ((k + 1 : Nat) : Int)) → P n) (n : Int) : P n := by
 by_cases hn : ∃ k : Nat, k < 19 ∧ n = ((k + 1 : Nat) : Int)
 · obtain ⟨k, hk, rfl⟩ := hn; exact h k hk
 · exact h0 n fun k hk e => hn ⟨k, hk, e⟩
theorem kndF_no {n : Int} (h : n < 1 ∨ 19 < n) : kndF n = none := by
 have := kndF_is n
 cases e : kndF n with
 | none => rfl
 | some k => rw [e] at this; simp at this; omega
theorem iget_knd (n : Int) : iget (.agg [dS [], .sl 1 [], dS []]) n kndM = .agg (dKn (kwT n, nmsK n, sgK n)) ∧ ihas n kndM = (kndF n).isSome := by
 refine knd_case (P := fun n => iget (.agg [dS [], .sl 1 [], dS []]) n kndM = .agg (dKn (kwT n, nmsK n, sgK n)) ∧ ihas n kndM = (kndF n).isSome) (fun k hk => ?_) (fun n hn => ?_) n
 · have : ∀ k, k < 19 → iget (.agg [dS [], .sl 1 [], dS []]) ((k + 1 : Nat) : Int) kndM = .agg (dKn (kwT ((k + 1 : Nat) : Int), nmsK ((k + 1 : Nat) : Int), sgK ((k + 1 : Nat) : Int))) ∧ ihas ((k + 1 : Nat) : Int) kndM = (kndF ((k + 1 : Nat) : Int)).isSome := by
    intro k hk
    match k, hk with
    | 0, _ => exact ⟨by kernel_rfl, by kernel_rfl⟩
    | 1, _ => exact ⟨by kernel_rfl, by kernel_rfl⟩
    | 2, _ => exact ⟨by kernel_rfl, by kernel_rfl⟩
    | 3, _ => exact ⟨by kernel_rfl, by kernel_rfl⟩
    | 4, _ => exact ⟨by kernel_rfl, by kernel_rfl⟩
    | 5, _ => exact ⟨by kernel_rfl, by kernel_rfl⟩
    | 6, _ => exact ⟨by kernel_rfl, by kernel_rfl⟩
    | 7, _ => exact ⟨by kernel_rfl, by kernel_rfl⟩
    | 8, _ => exact ⟨by kernel_rfl, by kernel_rfl⟩
    | 9, _ => exact ⟨by kernel_rfl, by kernel_rfl⟩
    | 10, _ => exact ⟨by kernel_rfl, by kernel_rfl⟩
    | 11, _ => exact ⟨by kernel_rfl, by kernel_rfl⟩
    | 12, _ => exact ⟨by kernel_rfl, by kernel_rfl⟩
    | 13, _ => exact ⟨by kernel_rfl, by kernel_rfl⟩
    | 14, _ => exact ⟨by kernel_rfl, by kernel_rfl⟩
    | 15, _ => exact ⟨by kernel_rfl, by kernel_rfl⟩
    | 16, _ => exact ⟨by kernel_rfl, by kernel_rfl⟩
    | 17, _ => exact ⟨by kernel_rfl, by kernel_rfl⟩
    | 18, _ => exact ⟨by kernel_rfl, by kernel_rfl⟩
    | k + 19, h => omega
   exact this k hk
 · have h1 : kndF n = none := by
    refine kndF_no ?_
    by_cases h : n < 1 ∨ 19 < n
    · exact h
    · exact absurd (by omega : n = (((n.toNat - 1) + 1 : Nat) : Int)) (hn (n.toNat - 1) (by omega))
   have h2 : ∀ (l : List (Int × DV)) z, (∀ p ∈ l, p.1 ≠ n) → iget z n l = z ∧ ihas n l = false := by
    intro l z hl
    induction l with
    | nil => exact ⟨rfl, rfl⟩
    | cons p l ih =>
     obtain ⟨q1, q2⟩ := ih fun q hq => hl q (by simp [hq])
     refine ⟨?_, ?_⟩
     · rw [iget, if_neg (hl p (by simp)), q1]
     · have := hl p (by simp)
       simp only [ihas, List.any_cons] at q2 ⊢
       rw [q2, beq_false_of_ne this]; rfl
   obtain ⟨q1, q2⟩ := h2 kndM (.agg [dS [], .sl 1 [], dS []]) fun p hp e => by
    obtain ⟨k, hk, rfl⟩ := List.mem_map.1 hp
    have := kndF_mem hk
    rw [show k.1 = n from e, h1] at this
    cases this
   rw [q1, q2, kwT, nmsK, sgK, h1]
   exact ⟨rfl, rfl⟩
abbrev vSs (l : List Str) : List Value := l.map vS
theorem vSs_chunk (l : List Str) {n : Nat} (h : l.length = n) : chunk 1 n ((vSs l).map .val) = l.map fun s => [dS s] := by
 subst h
 induction l with
 | nil => rfl
 | cons x l ih =>
  show [dS x] :: chunk 1 l.length ((vSs l).map .val) = [dS x] :: l.map fun s => [dS s]
  rw [ih]
theorem toDs_vs1 (vs : List Value) : toDs (vs.map fun u => SV.d (.val u)) = some (vs.map DV.val) := toDs_map (fun u => DV.val u) vs
theorem noTs_vs1 (vs : List Value) (t : Nat) : ((vs.map fun u => SV.d (.val u)).all fun x => x.noTs t) = true := by
 rw [List.all_eq_true]
 intro x hx
 rw [List.mem_map] at hx
 obtain ⟨u, -, rfl⟩ := hx
 rfl
abbrev cSt5 : Nat := 9 * 100000 + 5
theorem wCloneSt (l : List Str) (h0 : 0 < l.length) (hl : l.length ≤ 1000000) : POwn Tryz.prog 64 [dStrs l] 9 1 (l.map fun s => [dS s]) := by
 refine pown_of_pw (t := cSt5) Tryz.func64 rfl Tryz.ntmps64 Tryz.results64 (by simp) rfl fun B w0 => ?_
 refine pzr (yAd rfl (yQ (pw_seq (pzr (yMd rfl ?_))))); refine yEn Tryz.underlying36 (by simp; omega) rfl ?_; refine yQ (pw_cf rfl (pw_skip (pzr (yEb rfl (yMd rfl ?_))))); refine yTw (us := []) (vs := vSs l) (m := l.length) (n := 0) h0 (by omega) (by omega) (vSs_chunk l rfl) (by simp) rfl rfl rfl rfl ?_; refine yAw rfl (yQ ?_); refine pw_tkb 2 5 cSt5 (n := 0 + l.length) (es := l.map fun s => [dS s]) (ds := (vSs l).map .val) (by simp) (vSs_chunk l (by simp)) (toDs_vs1 _) rfl rfl rfl rfl (noTs_box1 (i := 5) (cs := (vSs l).map fun u => SV.d (.val u)) rfl rfl (noTs_vs1 _ _)) ?_; refine pw_ret ?_
 exact q_own rfl (congrArg some (by simp))
theorem wNamesK (n : Int) : PCalls Tryz.prog 18 [dI n] (.tup [dStrs (nmsK n), dI (erK n)]) := by
 have k0 := wKinds
 obtain ⟨hg, hh⟩ := iget_knd n
 obtain ⟨M, hM⟩ : ∃ M, M = kndM := ⟨_, rfl⟩
 rw [← hM] at k0 hg hh
 unfold erK
 cases h : kndF n with
 | none =>
  rw [h] at hh
  have e : nmsK n = [] := by rw [nmsK, h]; rfl
  obtain ⟨w, hw⟩ : ∃ w, w = kwT n := ⟨_, rfl⟩
  obtain ⟨g, hgg⟩ : ∃ w, w = sgK n := ⟨_, rfl⟩
  rw [← hw, ← hgg, e] at hg
  rw [e]
  clear h e hw hgg hM
  refine pcalls_of_pw Tryz.func18 rfl Tryz.ntmps18 Tryz.results18 (by simp) fun B w0 => ?_
  refine pzr (yAd rfl (yAd rfl (yQ (pzr (yC (k0) rfl rfl (yMd rfl (yKdI (t := false) rfl rfl hg hh (yMp rfl (yX rfl rfl ?_))))))))); refine yX rfl rfl (yZ (cs := [_, _, _]) rfl rfl (yS (cs' := [_, _, _]) rfl rfl rfl rfl rfl (yAd rfl (yQ (pw_seq (pzr (yMd rfl (yU rfl rfl rfl (yQ ?_))))))))); refine pw_ct rfl (pzr (yAd rfl (yAd rfl (yQ (pw_ret (q_then_ret ?_))))))
  exact q_ret _ (.tnil 1 rfl (.tmp rfl .nil)) rfl
 | some k =>
  rw [h] at hh
  have e : 0 < (nmsK n).length ∧ (nmsK n).length ≤ 4 := by
   have h1 : nmsK n = k.2.2.1 := by rw [nmsK, h]; rfl
   rw [h1]
   have h2 : ∀ k ∈ kndL, 0 < k.2.2.1.length ∧ k.2.2.1.length ≤ 4 := by decide
   exact h2 k (kndF_some h).1
  obtain ⟨w, hw⟩ : ∃ w, w = kwT n := ⟨_, rfl⟩
  obtain ⟨g, hgg⟩ : ∃ w, w = sgK n := ⟨_, rfl⟩
  obtain ⟨l, hl⟩ : ∃ w, w = nmsK n := ⟨_, rfl⟩
  rw [← hw, ← hgg, ← hl] at hg
  rw [← hl] at e ⊢
  have k1 := (wCloneSt l e.1 (by omega)).pcalls
  clear h e hw hgg hM hl
  refine pcalls_of_pw Tryz.func18 rfl Tryz.ntmps18 Tryz.results18 (by simp) fun B w0 => ?_
  refine pzr (yAd rfl (yAd rfl (yQ (pzr (yC (k0) rfl rfl (yMd rfl (yKdI (t := true) rfl rfl hg hh (yMp rfl (yX rfl rfl ?_))))))))); refine yX rfl rfl (yZ (cs := [_, _, _]) rfl rfl (yS (cs' := [_, _, _]) rfl rfl rfl rfl rfl (yAd rfl (yQ (pw_seq (pzr (yMd rfl (yU rfl rfl rfl (yQ ?_))))))))); refine pw_cf rfl (pw_skip (pzr (yFb rfl (yLd rfl rfl rfl (yC (k1) rfl rfl (yAd rfl (yAd rfl (yQ (pw_ret ?_)))))))))
  exact q_ret _ (.tmp rfl (.tmp rfl .nil)) rfl
def tot {α : Type} (css : List (List α)) (k : Nat) : Nat := ((css.take k).flatten).length
theorem tot_succ {α : Type} {css : List (List α)} {k : Nat} {c : List α} (h : css[k]? = some c) : tot css (k + 1) = tot css k + c.length := by
 unfold tot
 rw [List.take_add_one, h]
 simp
theorem tot_le {α : Type} (css : List (List α)) (k : Nat) : tot css k ≤ css.flatten.length := by
 unfold tot
 have : css.flatten = (css.take k).flatten ++ (css.drop k).flatten := by rw [← List.flatten_append, List.take_append_drop]
 rw [this, List.length_append]
 omega
theorem nmB_len {s : Str} (h : nmB s = true) : s.length ≤ 16 := by
 unfold nmB nameB at h
 simp only [Bool.and_eq_true, decide_eq_true_eq] at h
 exact h.1.1.2
theorem cE_zero {c : Cf} : cE c = 0 ↔ nmB c.1 = true ∧ isC c.2 = true := by
 unfold cE
 cases nmB c.1 <;> cases isC c.2 <;> simp
theorem chE_zero {e : List Cf} : chE e = 0 ↔ e.length ≤ 16 ∧ ∀ c ∈ e, nmB c.1 = true ∧ isC c.2 = true := by
 unfold chE
 constructor
 · intro h
   split at h
   · cases h
   · exact ⟨by omega, fun c hc => cE_zero.1 (chL_zero h c hc)⟩
 · rintro ⟨h1, h2⟩
   rw [if_neg (by omega)]
   exact chL_ok fun c hc => cE_zero.2 (h2 c hc)
def nmE (e : List Cf) : List Cf := if chE e = 0 then nf e else []
theorem wNormalE (e : List Cf) (hl : e.length ≤ 1000000) (hf : ∀ c ∈ e, c.2.length ≤ 70000) : PCalls Tryz.prog 94 [.sl 2 (e.map dCf)] (.tup [.sl 2 ((nmE e).map dCf), dI (chE e)]) := by
 have k1 := wCheckE e hl fun c hc => by have := hf c hc; omega
 by_cases h : chE e = 0
 · obtain ⟨h1, h2⟩ := chE_zero.1 h
   have k2 := wNormalI e (by omega) (fun c hc => by have := nmB_len (h2 c hc).1; omega) hf
   rw [nmE, if_pos h, h]
   rw [h] at k1
   obtain ⟨r, hr⟩ : ∃ r, r = nf e := ⟨_, rfl⟩
   rw [← hr] at k2 ⊢
   refine pcalls_of_pw Tryz.func94 rfl Tryz.ntmps94 Tryz.results94 (by simp) fun B w0 => ?_
   refine pzr (yAd rfl (yAd rfl (yQ (pw_seq (pzr (yMd rfl (yC (k1) rfl rfl (yAd rfl (yQ ?_))))))))); refine pzr (yMd rfl (yB rfl rfl rfl rfl (yQ (pw_cf rfl (pw_skip (pzr (yMd rfl (yC (k2) rfl rfl (yAd rfl ?_))))))))); refine yAd rfl (yQ (pw_ret ?_))
   exact q_ret _ (.tmp rfl (.tmp rfl .nil)) rfl
 · have t : (chE e != 0) = true := by simpa using h
   rw [nmE, if_neg h]
   obtain ⟨x, hx⟩ : ∃ x, x = chE e := ⟨_, rfl⟩
   rw [← hx] at k1 t ⊢
   refine pcalls_of_pw Tryz.func94 rfl Tryz.ntmps94 Tryz.results94 (by simp) fun B w0 => ?_
   refine pzr (yAd rfl (yAd rfl (yQ (pw_seq (pzr (yMd rfl (yC (k1) rfl rfl (yAd rfl (yQ ?_))))))))); refine pzr (yMd rfl (yB rfl rfl rfl rfl (yQ (q_then ?_)))); rw [t]; refine pw_ct rfl (pzr (yMd rfl (yAd rfl (yAd rfl (yQ (pw_ret (q_then_ret ?_)))))))
   exact q_ret _ (.tnil 2 rfl (.tmp rfl .nil)) rfl
abbrev naT : Nat := 9 * 100000 + 6
theorem wNames (e : List Cf) (hl : e.length ≤ 1000000) (hf : ∀ c ∈ e, c.2.length ≤ 70000) : PCalls Tryz.prog 46 [.sl 2 (e.map dCf)] (.tup [.sl 1 (((nmE e).map (·.1)).map dC), dI (chE e)]) := by
 have k1 := wNormalE e hl hf
 by_cases h : chE e = 0
 · obtain ⟨h1, h2⟩ := chE_zero.1 h
   have hnl := nf_len e
   rw [nmE, if_pos h, h]
   rw [nmE, if_pos h, h] at k1
   obtain ⟨r, hr⟩ : ∃ r, r = nf e := ⟨_, rfl⟩
   rw [← hr] at k1 hnl ⊢
   refine pcalls_of_pw Tryz.func46 rfl Tryz.ntmps46 Tryz.results46 (by simp) fun B w0 => ?_
   refine pzr (yAd rfl (yAd rfl (yQ (pzr (yMd rfl (yC (k1) rfl rfl (yMp rfl (yX rfl rfl (yX rfl rfl ?_))))))))); refine yAd rfl (yAd rfl (yQ (pw_seq (pzr (yMd rfl (yB rfl rfl rfl rfl (yQ (pw_cf rfl (pw_skip ?_))))))))); refine pzr (yAd rfl (yQ ?_)); refine pw_tok 6 naT 1 rfl rfl rfl ?_; refine pw_seq (pzr (yMd rfl (yN rfl (yMd rfl (yQ (pw_block ?_)))))); refine pw_loop (fun i : Nat => ⟨30, [(6, .ts naT 1 (((r.take i).map (·.1)).map dC)), (17, .d (.sl 2 (r.map dCf))), (18, .d (dI r.length)), (19, .d (dI i))], [], [(naT, (((r.take i).map (·.1)).map dC).length)]⟩) (fun i => i ≤ r.length) (fun i => r.length - i) 0 (Nat.zero_le _)
    ⟨rfl, ⟨.refl _, .refl _, .of_eq (congrArg (fun n : Nat => SV.d (dI n)) (by simp)), .refl _, trivial⟩, trivial, ⟨rfl, trivial⟩, rfl⟩ ?_
   intro i hi
   rcases Nat.lt_or_ge i r.length with h3 | h3
   · have t1 : decide ((i : Int) < (r.length : Int)) = true := decide_eq_true (by omega)
     obtain ⟨⟨c0, c1⟩, hc⟩ : ∃ a, r[i]? = some a := ⟨_, List.getElem?_eq_getElem h3⟩
     have em := ix dCf r i i (c0, c1) rfl hc
     have hw := wrapI ((i : Int) + 1) (by omega)
     have hnx : (r.take (i + 1)).map (·.1) = (r.take i).map (·.1) ++ [c0] := by rw [List.take_add_one, hc, List.map_append]; rfl
     have hzl : ((r.take i).map (·.1)).length ≤ 1000 := by rw [List.length_map, List.length_take]; omega
     obtain ⟨zs, hz⟩ : ∃ z, z = (r.take i).map (·.1) := ⟨_, rfl⟩
     rw [← hz] at hnx hzl ⊢
     clear hz
     refine pzr (yB rfl rfl rfl rfl (yQ (pw_seq ?_))); rw [t1]; refine pw_ct rfl (pw_skip (pw_seq (pw_block (pzr (yW em (by omega) rfl rfl (yLs (ys := [_, _]) rfl rfl rfl (yZ (cs := [_, _]) rfl rfl (yS (cs' := [_, _]) rfl rfl rfl rfl rfl (yQ ?_))))))))); refine pw_region (yMt rfl (yFb rfl (yLd rfl rfl rfl ?_))); refine yR (es := [[_]]) rfl rfl rfl rfl rfl ?_; refine yT (es' := (zs ++ [c0]).map dC) (m := ((zs ++ [c0]).map dC).length) (by simp; omega) (by simp; omega) rfl rfl rfl rfl rfl (by simp) (by simp) ?_; refine yAt rfl (yQ (pw_region (yB rfl rfl rfl rfl (yMd rfl (yQ (q_then ?_))))))
     exact ⟨i + 1, by omega, by omega, rfl, ⟨.of_eq (by rw [hnx]; rfl), .refl _, .refl _, .of_eq (congrArg (fun n => SV.d (dI n)) hw), trivial⟩, trivial, ⟨(by rw [hnx]; rfl), trivial⟩, rfl⟩
   · have t1 : decide ((i : Int) < (r.length : Int)) = false := decide_eq_false (by omega)
     obtain rfl : i = r.length := by omega
     rw [List.take_length]
     refine pzr (yB rfl rfl rfl rfl (yQ (pw_seq ?_))); rw [t1]; refine pw_cf rfl (pw_exit (pzr (yMt rfl (yAt rfl (yAd rfl (yQ (pw_ret ?_)))))))
     exact q_ret _ (.tmp rfl (.tmp rfl .nil)) rfl
 · have t : (chE e != 0) = true := by simpa using h
   rw [nmE, if_neg h]
   rw [nmE, if_neg h] at k1
   obtain ⟨x, hx⟩ : ∃ x, x = chE e := ⟨_, rfl⟩
   rw [← hx] at k1 t ⊢
   refine pcalls_of_pw Tryz.func46 rfl Tryz.ntmps46 Tryz.results46 (by simp) fun B w0 => ?_
   refine pzr (yAd rfl (yAd rfl (yQ (pzr (yMd rfl (yC (k1) rfl rfl (yMp rfl (yX rfl rfl (yX rfl rfl ?_))))))))); refine yAd rfl (yAd rfl (yQ (pw_seq (pzr (yMd rfl (yB rfl rfl rfl rfl (yQ (q_then ?_)))))))); rw [t]
   refine pw_ct rfl (pzr (yMd rfl (yAd rfl (yAd rfl (yQ (pw_ret (q_then_ret ?_)))))))
   exact q_ret _ (.tnil 1 rfl (.tmp rfl .nil)) rfl
end Go.Proofs.YtddfimjiihggmaaGreatDoor
namespace Go.Proofs.YtddfimjiihggmaaGreatDoor.Px
open Go.RowKit
section
variable {P : Program} {sq : Bool} {ops : Array Oper} {K : PS → Prop} {rest : List Oper} {st : PS} {d : Option Nat} {ty : TypeId} {pos : String} {af : Array Edge} {gd : Option (Nat × Bool)}
theorem ls_ext (f : FuncId) (l : List Operand) (ts : Array TypeId) {vs : List Value} {u : Value} (hf : ∀ w, (callFunc f vs.toArray).run P w = .ok (.value u) w) (hx : evVals st l = some vs) (hu : u.oneCell' = true) (hd : dstOk ⟨d, .call { callee := .value (.func f), args := l.toArray, argTypes := ts }, ty, pos, af, gd⟩ st = true) :
 LocS P ⟨d, .call { callee := .value (.func f), args := l.toArray, argTypes := ts }, ty, pos, af, gd⟩ st (.d (.val u)) .no := fun st2 ha =>
 OpS.value (ha.dst hd) fun _ _ _ a w h => by
  have h1 : evVals st2 l = some vs := by rw [evVals_congr fun x hx => ha.ev x (by simp [Op.operands, Call.operands, hx])]; exact hx
  have h2 := evVals_get h1 h
  refine ⟨u, w, ?_, Below.refl _ _, DRep.val _ hu⟩
  have h3 : (execOp a.eval ⟨d, .call { callee := .value (.func f), args := l.toArray, argTypes := ts }, ty, pos, af, gd⟩).run P w = (callFunc f (l.map a.eval).toArray).run P w := by
   simp only [execOp, resolve, Act.eval, Deferred.ofValue, Sem.run_bind, Sem.run_pure, Result.andThen_ok, invoke, List.map_toArray]
   simp
  rw [h3, h2, hf]
theorem yEx {f : Nat} {l : List Operand} {ts : Array TypeId} {vs : List Value} {u : Value} (hf : ∀ w, (callFunc f vs.toArray).run P w = .ok (.value u) w) (hx : evVals st l = some vs) (hu : u.oneCell' = true) (h : YR P sq ops K rest (st.put d (.d (.val u)))) (hd : dstOk ⟨d, .call { callee := .value (.func f), args := l.toArray, argTypes := ts }, ty, pos, af, gd⟩ st = true := by kernel_rfl) (hk : opOk ⟨d, .call { callee := .value (.func f), args := l.toArray, argTypes := ts }, ty, pos, af, gd⟩ st .no = true := by kernel_rfl) (hw : st.want ops ⟨d, .call { callee := .value (.func f), args := l.toArray, argTypes := ts }, ty, pos, af, gd⟩ = some true := by rfl) :
 YR P sq ops K (⟨d, .call { callee := .value (.func f), args := l.toArray, argTypes := ts }, ty, pos, af, gd⟩ :: rest) st := yr_v (ls_ext f l ts hf hx hu hd) hk hw h
end
end Go.Proofs.YtddfimjiihggmaaGreatDoor.Px
namespace Go.Proofs.YtddfimjiihggmaaGreatDoor
open Go.RowKit Px Go.Lib
theorem hIB (s : Str) (c : UInt8) (w : World) : (callFunc 245 #[vS s, .int .u8 c.toNat]).run Tryz.prog w = .ok (.value (.int .i64 (indexByte s c))) w := by
 rw [run_callFunc_indexByte Tryz.func245 (by kernel_rfl) (by kernel_rfl) (by kernel_rfl) (by kernel_rfl), run_indexByteString]
 simp [Result.andThen]
theorem wIdxB (s : Str) (c : UInt8) : PCalls Tryz.prog 219 [dS s, .val (.int .u8 c.toNat)] (.d (dI (indexByte s c))) := by
 refine pcalls_of_pw Tryz.func219 rfl Tryz.ntmps219 Tryz.results219 (by simp) fun B w0 => ?_
 refine pzr (yAd rfl (yQ (pzr (yMd rfl (yMd rfl ?_))))); refine yEx (vs := [vS s, .int .u8 c.toNat]) (fun w => hIB s c w) rfl rfl ?_; refine yAd rfl (yQ (pw_ret ?_))
 exact q_ret _ (.tmp rfl .nil) rfl
theorem wIdx1 (s : Str) (c : UInt8) : PCalls Tryz.prog 176 [dS s, dS [c]] (.d (dI (indexByte s c))) := by
 have k1 := wIdxB s c
 have hx : ([c] : Str)[(0 : Int).toNat]? = some c := rfl
 cases h : ([c] == s) with
 | true =>
  have e : s = [c] := by simpa using (beq_iff_eq.1 h).symm
  subst e
  have e0 : indexByte [c] c = 0 := by simp [indexByte]
  rw [e0]
  refine pcalls_of_pw Tryz.func176 rfl Tryz.ntmps176 Tryz.results176 (by simp) fun B w0 => ?_
  refine pzr (yAd rfl (yQ (pzr (yMd rfl (yNs rfl (yAd rfl (yQ (pw_seq (pw_block ?_))))))))); refine pzr (yMd rfl (yB rfl rfl rfl rfl (yMd rfl (yMd rfl (yMd rfl (yBse rfl rfl (yVd rfl rfl (yAd rfl (yQ ?_))))))))); refine q_then ?_; rw [h]; refine pw_ct rfl (pzr (yAd rfl (yQ (pw_ret (q_blk_ret (q_then_ret ?_))))))
  exact q_ret _ (.tmp rfl .nil) rfl
 | false =>
  obtain ⟨r, hr⟩ : ∃ r, r = indexByte s c := ⟨_, rfl⟩
  rw [← hr] at k1 ⊢
  refine pcalls_of_pw Tryz.func176 rfl Tryz.ntmps176 Tryz.results176 (by simp) fun B w0 => ?_
  refine pzr (yAd rfl (yQ (pzr (yMd rfl (yNs rfl (yAd rfl (yQ (pw_seq (pw_block ?_))))))))); refine pzr (yMd rfl (yB rfl rfl rfl rfl (yMd rfl (yMd rfl (yMd rfl (yBse rfl rfl (yVd rfl rfl (yAd rfl (yQ ?_))))))))); refine q_then ?_; rw [h]; refine pw_cf rfl (pzr (yMd rfl (yB rfl rfl rfl rfl (yAd rfl (yQ (pw_ct rfl (pzr (yMd rfl (yMd rfl ?_))))))))); refine yIs hx (by omega) rfl rfl (yC (k1) rfl rfl (yAd rfl (yQ (pw_ret (q_blk_ret (q_then_ret ?_))))))
  exact q_ret _ (.tmp rfl .nil) rfl
theorem wCutI (s : Str) (c : UInt8) (hl : s.length ≤ 1000000) : PCalls Tryz.prog 125 [dS s, dS [c]] (.tup [dS (ctT c s), dS (ctR c s), dB (ctB c s)]) := by
 have k1 := wIdx1 s c
 rw [cutB_index] at k1
 unfold ctT ctR ctB
 cases h : cutB c s with
 | none =>
  rw [h] at k1
  refine pcalls_of_pw Tryz.func125 rfl Tryz.ntmps125 Tryz.results125 (by simp) fun B w0 => ?_
  refine pzr (yAd rfl (yAd rfl (yAd rfl (yQ (pw_seq (pzr (yMd rfl (yMd rfl (yC (k1) rfl rfl ?_))))))))); refine yAd rfl (yQ (pzr (yMd rfl (yB rfl rfl rfl rfl (yQ (pw_cf rfl (pw_skip (pzr (yMd rfl ?_))))))))); refine yAd rfl (yAd rfl (yAd rfl (yQ (pw_ret ?_))))
  exact q_ret _ (.tmp rfl (.tmp rfl (.tmp rfl .nil))) rfl
 | some p =>
  rw [h] at k1
  obtain ⟨t, r⟩ := p
  have he := cutB_eq h
  simp only at k1 he ⊢
  have hle : t.length ≤ s.length := by rw [he]; simp
  have hw : IntKind.i64.wrap ((t.length : Int) + (([c] : Str).length : Int)) = (t.length : Int) + 1 := wrapI ((t.length : Int) + 1) (by omega)
  have h1 : s.take ((t.length : Int)).toNat = t := by rw [Int.toNat_natCast, he]; simp
  have h2 : s.drop (((t.length : Int) + 1)).toNat = r := by
   rw [show ((t.length : Int) + 1).toNat = t.length + 1 by omega, he]
   simp
  have h3 : (t.length : Int) + 1 ≤ s.length := by rw [he]; simp; omega
  have t1 : decide ((t.length : Int) ≥ 0) = true := decide_eq_true (by omega)
  obtain ⟨n, hn⟩ : ∃ n : Int, n = (t.length : Int) := ⟨_, rfl⟩
  rw [← hn] at k1 hw h1 h2 h3 t1
  have hn0 : 0 ≤ n := by omega
  clear he hn h
  refine pcalls_of_pw Tryz.func125 rfl Tryz.ntmps125 Tryz.results125 (by simp) fun B w0 => ?_
  refine pzr (yAd rfl (yAd rfl (yAd rfl (yQ (pw_seq (pzr (yMd rfl (yMd rfl (yC (k1) rfl rfl ?_))))))))); refine yAd rfl (yQ (pzr (yMd rfl (yB rfl rfl rfl rfl (yQ (q_then ?_)))))); rw [t1]; refine pw_ct rfl (pw_seq ?_); refine pw_draw Tryz.mixed (by kernel_rfl) ?_; refine yMd rfl (yMd rfl (yS0h hn0 (by omega) h1 rfl rfl (yMd rfl (yMd rfl (yMd rfl (yNs rfl (yB rfl rfl rfl rfl ?_)))))))
  rw [hw]; refine ySl0 (by omega) h3 h2 rfl rfl ?_; refine yAd rfl ?_; refine yAd rfl ?_; refine yAd rfl ?_; refine yQ ?_; refine pw_ret ?_; refine q_then_ret ?_
  exact q_ret _ (.tmp rfl (.tmp rfl (.tmp rfl .nil))) rfl
theorem wCut1 (s : Str) (c : UInt8) (hl : s.length ≤ 1000000) : PCalls Tryz.prog 79 [dS s, dS [c]] (.tup [dS (ctT c s), dS (ctR c s), dB (ctB c s)]) := by
 have k1 := wCutI s c hl
 refine pcalls_of_pw Tryz.func79 rfl Tryz.ntmps79 Tryz.results79 (by simp) fun B w0 => ?_
 refine pzr (yAd rfl (yAd rfl (yAd rfl (yQ (pzr (yMd rfl (yMd rfl (yC (k1) rfl rfl (yX rfl rfl ?_))))))))); refine yX rfl rfl (yX rfl rfl (yAd rfl (yAd rfl (yAd rfl (yQ (pw_ret ?_))))))
 exact q_ret _ (.tmp rfl (.tmp rfl (.tmp rfl .nil))) rfl
def cpS (c : UInt8) : Str → Str
 | [] => []
 | b :: l => if b = c then l else b :: l
def cpB (c : UInt8) : Str → Bool
 | [] => false
 | b :: _ => b == c
theorem wHasP1 (s : Str) (c : UInt8) (hl : s.length ≤ 1000000) : PCalls Tryz.prog 211 [dS s, dS [c]] (.d (dB (cpB c s))) := by
 cases s with
 | nil =>
  refine pcalls_of_pw Tryz.func211 rfl Tryz.ntmps211 Tryz.results211 (by simp) fun B w0 => ?_
  refine pzr (yAd rfl (yQ (pzr (yMd rfl (yNs rfl (yMd rfl (yNs rfl (yB rfl rfl rfl rfl (yMd rfl ?_))))))))); refine yO rfl (yO rfl (yO rfl (yO rfl (yO rfl (yO rfl (yVd rfl rfl (yAd rfl (yQ (pw_ret ?_)))))))))
  exact q_ret _ (.tmp rfl .nil) rfl
 | cons b l =>
  have t1 : decide ((((b :: l : Str).length : Nat) : Int) ≥ (([c] : Str).length : Int)) = true := decide_eq_true (by simp; omega)
  have h1 : (b :: l : Str).take ((([c] : Str).length : Int)).toNat = [b] := rfl
  have e : cpB c (b :: l) = (([b] : Str) == [c]) := by simp [cpB]
  rw [e]
  obtain ⟨s, hs⟩ : ∃ s, s = (b :: l : Str) := ⟨_, rfl⟩
  rw [← hs] at t1 h1 ⊢
  have h2 : ((([c] : Str).length : Nat) : Int) ≤ s.length := of_decide_eq_true t1
  refine pcalls_of_pw Tryz.func211 rfl Tryz.ntmps211 Tryz.results211 (by simp) fun B w0 => ?_
  refine pzr (yAd rfl (yQ (pzr (yMd rfl (yNs rfl (yMd rfl (yNs rfl (yB rfl rfl rfl rfl (yMd rfl ?_))))))))); rw [t1]; refine yMd rfl (yMd rfl (yNs rfl (yS0h (by omega) h2 h1 rfl rfl (yMd rfl (yBse rfl rfl (yPd rfl rfl (yAd rfl (yQ (pw_ret ?_)))))))))
  exact q_ret _ (.tmp rfl .nil) rfl
theorem wCutPI (s : Str) (c : UInt8) (hl : s.length ≤ 1000000) : PCalls Tryz.prog 164 [dS s, dS [c]] (.tup [dS (cpS c s), dB (cpB c s)]) := by
 have k1 := wHasP1 s c hl
 cases h : cpB c s with
 | false =>
  rw [h] at k1
  have e : cpS c s = s := by
   cases s with
   | nil => rfl
   | cons b l => have : ¬ b = c := by simpa [cpB] using h
                 rw [cpS, if_neg this]
  rw [e]
  refine pcalls_of_pw Tryz.func164 rfl Tryz.ntmps164 Tryz.results164 (by simp) fun B w0 => ?_
  refine pzr (yAd rfl (yAd rfl (yQ (pw_seq (pzr (yMd rfl (yMd rfl (yC (k1) rfl rfl (yU rfl rfl rfl ?_))))))))); refine yQ (pw_ct rfl (pzr (yMd rfl (yAd rfl (yAd rfl (yQ (pw_ret (q_then_ret ?_))))))))
  exact q_ret _ (.tmp rfl (.tmp rfl .nil)) rfl
 | true =>
  rw [h] at k1
  obtain ⟨l, rfl⟩ : ∃ l, s = c :: l := by
   cases s with
   | nil => cases h
   | cons b l => exact ⟨l, by rw [show b = c by simpa [cpB] using h]⟩
  have e : cpS c (c :: l) = l := by rw [cpS, if_pos rfl]
  have h1 : (c :: l : Str).drop ((([c] : Str).length : Int)).toNat = l := rfl
  have h2 : ((([c] : Str).length : Nat) : Int) ≤ ((c :: l : Str).length : Int) := by simp; omega
  rw [e]
  obtain ⟨s, hs⟩ : ∃ s, s = (c :: l : Str) := ⟨_, rfl⟩
  rw [← hs] at k1 h1 h2 ⊢
  refine pcalls_of_pw Tryz.func164 rfl Tryz.ntmps164 Tryz.results164 (by simp) fun B w0 => ?_
  refine pzr (yAd rfl (yAd rfl (yQ (pw_seq (pzr (yMd rfl (yMd rfl (yC (k1) rfl rfl (yU rfl rfl rfl ?_))))))))); refine yQ (pw_cf rfl (pw_skip (pzr (yMd rfl (yMd rfl (yNs rfl (ySl0 (by omega) h2 h1 rfl rfl (yAd rfl (yAd rfl ?_))))))))); refine yQ (pw_ret ?_)
  exact q_ret _ (.tmp rfl (.tmp rfl .nil)) rfl
theorem wCutP1 (s : Str) (c : UInt8) (hl : s.length ≤ 1000000) : PCalls Tryz.prog 121 [dS s, dS [c]] (.tup [dS (cpS c s), dB (cpB c s)]) := by
 have k1 := wCutPI s c hl
 refine pcalls_of_pw Tryz.func121 rfl Tryz.ntmps121 Tryz.results121 (by simp) fun B w0 => ?_
 refine pzr (yAd rfl (yAd rfl (yQ (pzr (yMd rfl (yMd rfl (yC (k1) rfl rfl (yX rfl rfl (yX rfl rfl ?_))))))))); refine yAd rfl (yAd rfl (yQ (pw_ret ?_)))
 exact q_ret _ (.tmp rfl (.tmp rfl .nil)) rfl
open Go.RowKit Go.Shelf Px
attribute [local go_sem] Oper.semAt_some
theorem pc_plain2 {P : Program} {f : FuncId} {vs us : List Value} (h : PCalls P f (vs.map .val) (.tup (us.map .val))) (h1 : ∀ v ∈ vs, v.oneCell' = true) {F : Nat → Nat → Prop} {W : World} (hg : GlobOk F W) : Calls P f vs.toArray W fun e W' => e = .returned (.tuple us.toArray) ∧ Below W.heap.size W W' := by
 refine (h F W vs (by simp) (fun i v x hv hx => ?_) hg).mono ?_
 · rw [List.getElem?_map, hv] at hx
   cases hx
   exact DRep.val v (h1 v (List.mem_of_getElem? hv))
 · rintro e W' ⟨v, rfl, ⟨ws, rfl, h3, h4⟩, h5⟩
   have : ws = us := by
    refine List.ext_getElem (by simpa using h3) fun i h6 h7 => ?_
    exact DRep.val_eq (h4 i _ _ (List.getElem?_eq_getElem h6) (by rw [List.getElem?_map, List.getElem?_eq_getElem h7]; rfl))
   rw [this]
   exact ⟨rfl, h5⟩
theorem glob_grow2 {F : Nat → Nat → Prop} {W W' : World} (h : GlobOk F W) (hb : Below W.heap.size W W') : GlobOk F W' := fun q cs hq => by
 obtain ⟨h1, vs, h2, T, z, h3⟩ := h q cs hq
 exact ⟨h1.mono fun b o hf hs => ⟨hf, see_of_block (hb.block b (see_lt hs)) o⟩, vs, h2, T, z, (hb.block q (Array.getElem?_eq_some_iff.1 h3).1).trans h3⟩
theorem gs_ne {q : Nat} {cs : List DV} (h : aget gs q = some cs) : cs ≠ [] := by
 have h1 : gs.all (fun p => !p.2.isEmpty) = true := by rfl
 have h2 := List.all_eq_true.1 h1 _ (aget_mem h)
 rintro rfl
 cases h2
theorem glob_turn {F : Nat → Nat → Prop} {W W' : World} {b : Nat} (h : GlobOk F W) (hF : ∀ o, ¬ F b o) (hb : ∀ c, c < W.heap.size → c ≠ b → W'.heap[c]? = W.heap[c]?) : GlobOk F W' := fun q cs hq => by
 obtain ⟨h1, vs, h2, T, z, h3⟩ := h q cs hq
 have hqb : q ≠ b := fun e => by
  cases h1 with
  | ref f hc _ =>
   have := (hc 0 (List.length_pos_iff.2 (gs_ne hq))).2.1
   rw [e] at this
   exact hF _ this
 refine ⟨h1.mono fun c o hf hs => ⟨hf, see_of_block (hb c (see_lt hs) fun e => hF o (e ▸ hf)) o⟩, vs, h2, T, z, (hb q (Array.getElem?_eq_some_iff.1 h3).1 hqb).trans h3⟩
def CellS (W : World) (b : Nat) (s : Str) : Prop := ∃ (ys : List Value) (T : Nat), W.heap[b]? = some (.cells ys.toArray T (0, 0)) ∧ ys[0]? = some (vS s)
theorem CellS.cell {W : World} {b : Nat} {s : Str} (h : CellS W b s) : W.cell? ⟨b, 0, none⟩ = some (vS s) := by
 obtain ⟨ys, T, h1, h2⟩ := h
 simp [World.cell?, h1, h2]
theorem CellS.frz {W : World} {b : Nat} {s : Str} (h : CellS W b s) : W.frozen? ⟨b, 0, none⟩ = false := by
 obtain ⟨ys, T, h1, h2⟩ := h
 simp [World.frozen?, h1]
theorem CellS.lt {W : World} {b : Nat} {s : Str} (h : CellS W b s) : b < W.heap.size := by
 obtain ⟨ys, T, h1, h2⟩ := h
 exact (Array.getElem?_eq_some_iff.1 h1).1
theorem CellS.same {W W' : World} {b : Nat} {s : Str} (h : CellS W b s) (e : W'.heap[b]? = W.heap[b]?) : CellS W' b s := by
 obtain ⟨ys, T, h1, h2⟩ := h
 exact ⟨ys, T, e.trans h1, h2⟩
theorem CellS.below {W W' : World} {b : Nat} {s : Str} (h : CellS W b s) (hb : Below W.heap.size W W') : BelowB b W W' := by
 have hlt := h.lt
 obtain ⟨ys, T, h1, h2⟩ := h
 exact ⟨hb.os, hb.tape, hb.output, hb.size, fun c hc _ => hb.block c hc, _, _, _, (hb.block b hlt).trans h1⟩
theorem CellS.set {W : World} {b : Nat} {s : Str} (h : CellS W b s) (t : Str) : CellS (W.setCell ⟨b, 0, none⟩ (vS t)) b t ∧ BelowB b W (W.setCell ⟨b, 0, none⟩ (vS t)) := by
 obtain ⟨ys, T, h1, h2⟩ := h
 have h3 : (W.setCell ⟨b, 0, none⟩ (vS t)).heap[b]? = some (.cells (ys.set 0 (vS t)).toArray T (0, 0)) := by
  simp [World.setCell, Array.getElem?_modify, h1]
 obtain ⟨hlt, -⟩ := List.getElem?_eq_some_iff.1 h2
 exact ⟨⟨_, T, h3, by simp [hlt]⟩, rfl, rfl, rfl, by simp [World.setCell], fun c _ hc => Below.heap_setCell W _ _ c (by simpa using hc), _, _, _, h3⟩
def cellLen (W : World) (b : Nat) : Nat := match W.cell? ⟨b, 0, none⟩ with
 | some (.string s) => s.size
 | _ => 0
theorem CellS.len {W : World} {b : Nat} {s : Str} (h : CellS W b s) : cellLen W b = s.length := by
 rw [cellLen, h.cell]
 simp [ByteArray.size]
theorem seg1_spec (s : Str) (hs : s.length ≤ 1000000) (F : Nat → Nat → Prop) (w : World) (b : Nat) (hF : ∀ o, ¬ F b o) (hw : CellS w b s) : ItSpecB Tryz.prog 210 #[.pointer (some ⟨b, 0, none⟩)] ((spl 46 s).map fun t => [vS t]) b F w := by
 intro l J Jx hJ hJx hY hgo h0
 refine callsIn_of_wp Tryz.func210 rfl trivial ?_ rfl
 simp only [Tryz.ntmps210, List.size_toArray, List.length_cons, List.length_nil, Nat.reduceAdd, Nat.reduceSub, Array.replicate_succ, Array.replicate_zero, List.push_toArray, List.append_toArray, List.nil_append, List.cons_append]
 have HJ := Lib.hid hJ
 have HJX := Lib.hid hJx
 have HY := Lib.hid hY
 have HG := Lib.hid hgo
 have HF := Lib.hid hF
 have C2 : Hid (∀ t, t.length ≤ 1000000 → ∀ W, GlobOk F W → Calls Tryz.prog 79 #[vS t, vS [46]] W fun e W' => e = .returned (.tuple #[vS (ctT 46 t), vS (ctR 46 t), .bool (ctB 46 t)]) ∧ Below W.heap.size W W') :=
  Lib.hid fun t ht W hg => pc_plain2 (vs := [vS t, vS [46]]) (us := [vS (ctT 46 t), vS (ctR 46 t), .bool (ctB 46 t)]) (wCut1 t 46 ht) (fun v hv => by simp at hv; rcases hv with rfl | rfl <;> rfl) hg
 clear hJ hJx hY hgo hF
 gi_wp2
 gi_loopw [3] (fun v3 wr => ∃ (i : Nat) (s' : Str), CellS wr b s' ∧ J i wr ∧ Hid (((spl 46 s).map fun t => [vS t]).drop i = (spl 46 s').map (fun t => [vS t]) ∧ s'.length ≤ 1000000 ∧ GlobOk F wr))
  (fun _ wr => cellLen wr b)
 case atStart => exact ⟨0, s, hw, h0, Lib.hid ⟨rfl, hs, HG.out⟩⟩
 case round =>
  obtain ⟨i, s', hc, hJi, HR⟩ := hrel
  have HC := Lib.hid hc
  have c1 := hc.cell
  have K2 := Lib.hid (C2.out s' HR.out.2.1 wr HR.out.2.2)
  have HX : Hid (((spl 46 s).map fun t => [vS t])[i]? = some [vS (ctT 46 s')] ∧ ((spl 46 s).map fun t => [vS t]).drop (i + 1) = if ctB 46 s' then (spl 46 (ctR 46 s')).map (fun t => [vS t]) else []) := by
   have hcons := HR.out.1
   rw [spl_cut 46 s'] at hcons
   unfold ctT ctR ctB
   refine Lib.hid ?_
   cases e : cutB 46 s' with
   | none =>
    rw [e] at hcons
    have h1 := congrArg (fun l => l[0]?) hcons
    have h2 := congrArg (List.drop 1) hcons
    exact ⟨by simpa using h1, by simpa using h2⟩
   | some p =>
    rw [e] at hcons
    have h1 := congrArg (fun l => l[0]?) hcons
    have h2 := congrArg (List.drop 1) hcons
    exact ⟨by simpa using h1, by simpa using h2⟩
  clear hc
  gi_wp2_with (refine ⟨trivial, rfl, ?_⟩; gi_at_call 79; refine (callsIn_wide.2 K2.out).mono ?_; rintro e w' ⟨rfl, hb2⟩; obtain ⟨fn, tmps, assign, body, hy, hR⟩ := HY.out i _ w' HX.out.1 (HJ.out i _ _ hJi (HC.out.below hb2)); have HR2 := Lib.hid hR; have HC2 := Lib.hid (HC.out.same (hb2.block b HC.out.lt)); have HG2 := Lib.hid (glob_grow2 HR.out.2.2 hb2); clear hR hb2)
  refine ⟨rfl, ?_⟩
  refine HR2.out.mono ?_
  rintro e W3 (⟨rfl, hJ3, -, hg3, hb3⟩ | ⟨rfl, hJx3, hb3⟩)
  · have HG3 := Lib.hid hg3
    have HC3 := Lib.hid (HC2.out.same hb3)
    clear hg3 hb3
    cases hb : ctB 46 s' with
    | false =>
     have HL : Hid (i + 1 = ((spl 46 s).map fun t => [vS t]).length) := Lib.hid (by
      have h1 := HX.out.2
      rw [hb, if_neg (by simp), List.drop_eq_nil_iff] at h1
      have h2 := (List.getElem?_eq_some_iff.1 HX.out.1).1
      omega)
     gi_wp2
     refine bodyPost_ret (results_none rfl _ _ _) rfl ?_
     exact ⟨⟨_, rfl⟩, .inl (by rw [← HL.out]; exact hJ3)⟩
    | true =>
     have c3 := HC3.out.cell
     have f3 := HC3.out.frz
     gi_wp2
     obtain ⟨s1, s2⟩ := HC3.out.set (ctR 46 s')
     have HG4 := Lib.hid (glob_turn HG3.out HF.out s2.2.2.2.2.1)
     have J4 := HJ.out _ _ _ hJ3 s2
     go_roundw
     case rel => exact ⟨i + 1, ctR 46 s', s1, J4, Lib.hid ⟨by have := HX.out.2; rwa [hb, if_pos rfl] at this, by have := (ct_len 46 s').2.1; have := HR.out.2.1; omega, HG4.out⟩⟩
     case measure => rw [s1.len, HC.out.len]; exact (ct_len 46 s').2.2 hb
  · clear hb3
    gi_wp2
    refine bodyPost_ret (results_none rfl _ _ _) rfl ?_
    exact ⟨⟨_, rfl⟩, .inr hJx3⟩
open Go.RowKit Px
theorem aget_hd {α : Type} (b : Nat) (x : α) (l : List (Nat × α)) : aget ((b, x) :: l) b = some x := by rw [aget_cons, if_pos rfl]
theorem take_one {xs : List Value} {v : Value} (h : xs.take 1 = [v]) : xs[0]? = some v := by
 cases xs with
 | nil => cases h
 | cons x l => cases h; rfl
def MSeg (s : Str) (i : EI) (r : SV) (j : EI) : Prop := ∃ b xs T, xs[0]? = some (vS s) ∧ aget i.bs b = none ∧ r = .d (dH 210 [.val (.pointer (some ⟨b, 0, none⟩))]) ∧ j = ⟨(b, (xs, T)) :: i.bs, i.fs, none⟩
theorem hSegm (s : Str) (i : EI) : HCE Tryz.prog 163 [dS s] i (MSeg s i) := by
 refine hce_of_pe Tryz.func163 rfl Tryz.ntmps163 Tryz.results163 (by simp) fun p d0 => ?_
 refine px_seq (px_rs (pe1 (yK (cs := [_]) rfl rfl (yQ (pe1 (yAd rfl (yQ (pl_nil ?_)))))))); refine px_hide 1 1 (vs := [vS s]) rfl rfl fun b xs T h1 h2 => ?_; refine px_seq (px_rs (pe1 (yMh rfl (yQ (pe1 (yAd rfl (yQ (pl_nil (px_ret ?_)))))))))
 exact qe_ret _ (.tmp rfl .nil) ⟨b, xs, T, take_one h1, h2, rfl, rfl⟩
theorem MSeg.ok {s : Str} {i : EI} (r : SV) (j : EI) (h : MSeg s i r j) : resOk r = true := by
 obtain ⟨b, xs, T, -, -, rfl, -⟩ := h
 rfl
def phT (cn : Str → Bool) (xs : List DV) (r : SV) : Prop := ∃ x : Str, xs = [dS x] ∧ r = .d (dB (cn x))
abbrev vsg (s : Str) : List (List Value) := (spl 46 s).map fun t => [vS t]
theorem vsg_at {s : Str} {k : Nat} {x : List Value} (h : (vsg s)[k]? = some x) : ∃ t, (spl 46 s)[k]? = some t ∧ x = [vS t] := by
 rw [List.getElem?_map, Option.map_eq_some_iff] at h
 obtain ⟨t, h1, rfl⟩ := h
 exact ⟨t, h1, rfl⟩
theorem seg_spec (s : Str) (hs : s.length ≤ 1000000) {ys : List Value} {T b : Nat} (hy : ys[0]? = some (vS s)) : ∀ (F : Nat → Nat → Prop) (w : World), (∀ o, ¬ F b o) → w.heap[b]? = some (.cells ys.toArray T (0, 0)) → ItSpecB Tryz.prog 210 #[.pointer (some ⟨b, 0, none⟩)] (vsg s) b F w :=
 fun F w hF hw => seg1_spec s hs F w b hF ⟨ys, T, hw, hy⟩
abbrev fmS (b : Nat) : List (Nat × SV) := [(3, .bx 3 0), (4, .bx 4 0), (5, .bx 5 0), (8, .d (.val (.func (.func 210) #[] #[.pointer (some ⟨b, 0, none⟩)])))]
abbrev fmB (cn : Str → Bool) (k : Nat) : List (Nat × List SV) := [(3, [.d (dF Tryz.prog (phT cn))]), (4, [.d (dB false)]), (5, [.d (dI k)])]
theorem wFormed (cn : Str → Bool) (s : Str) (hs : s.length ≤ 1000000) : PCalls Tryz.prog 119 [dS s, dF Tryz.prog (phT cn)] (.d (dB (fmdB cn s))) := by
 obtain ⟨r, hr⟩ : ∃ r, r = fmdB cn s := ⟨_, rfl⟩
 rw [← hr]
 unfold fmdB at hr
 refine pcalls_of_pe Tryz.func119 rfl Tryz.ntmps119 Tryz.results119 (by simp) fun p d0 hex => ?_
 refine px_seq (px_rs (pe1 (yK (cs := [_]) rfl rfl (yQ (pe1 (yZ (cs := [_]) rfl rfl (yQ (pl_nil (px_seq ?_))))))))); refine px_rs (pe1 (yZ (cs := [_]) rfl rfl (yQ (pe1 (ySd (cs' := [_]) rfl rfl rfl rfl (yQ (pl_nil (px_seq (px_seq ?_))))))))); refine px_rs (pe1 (yMd rfl (yQ ?_))); refine pl_ec (hSegm s _) MSeg.ok rfl ?_
 rintro r0 j ⟨b, xs, T, hx, hn, rfl, rfl⟩
 refine pe_tell (hv_tell 8 (vs := [.pointer (some ⟨b, 0, none⟩)]) rfl) ?_; refine px_block ?_; refine px_le (HE.stb _) (st' := ⟨20, fmS b, fmB cn 0, []⟩) ⟨rfl, ⟨.refl _, .refl _, .refl _, .refl _, trivial⟩, ⟨⟨_, rfl, lesC_refl _⟩, ⟨_, rfl, lesC_refl _⟩, ⟨_, rfl, lesC_refl _⟩, trivial⟩, trivial, rfl⟩ ?_; refine px_rfe (ys := xs) (T0 := T) (b := b) (vsg s) [(6, 9)] (fun k => k ≤ 6 ∧ ∀ t ∈ (spl 46 s).take k, cn t = true) (fun k => fmB cn k) (fun _ => []) ⟨by omega, fun t ht => by simp at ht⟩ rfl (aget_hd b (xs, T) []) (seg_spec s hs hx) (fun x hx => by obtain ⟨t, -, rfl⟩ := List.mem_map.1 hx; rfl) rfl rfl (by decide) ?_ ?_
 · rintro k x hx ⟨hk, hI⟩
   obtain ⟨t, ht, rfl⟩ := vsg_at hx
   refine ⟨[.any, .any, .any, .bx 3 0, .bx 4 0, .bx 5 0, .d (dS t)], of_decide_eq_true rfl, .any (.any (.any (.keep rfl (.refl _) (.keep rfl (.refl _) (.keep rfl (.refl _) (.new rfl rfl .nil)))))), rfl, rfl, by kernel_rfl, fun B w0 => ?_⟩
   have hw : IntKind.i64.wrap ((k : Int) + 1) = ((k + 1 : Nat) : Int) := wrapI ((k : Int) + 1) (by omega)
   have hlt := (List.getElem?_eq_some_iff.1 ht).1
   have htk : (spl 46 s).take (k + 1) = (spl 46 s).take k ++ [t] := by rw [List.take_add_one, ht]; rfl
   by_cases h6 : k = 6
   · have t1 : decide (((k + 1 : Nat) : Int) > 6) = true := decide_eq_true (by omega)
     have hr0 : r = false := by rw [hr, decide_eq_false (by omega)]; rfl
     subst hr0
     refine pw_block (pzr (yLd rfl rfl rfl (yB rfl rfl rfl rfl (ySd (cs' := [_]) rfl rfl rfl rfl (yQ (pzr (yLd rfl rfl rfl (yB rfl rfl rfl rfl (yMd rfl ?_))))))))); rw [hw]; rw [t1]; refine yO rfl (yO rfl (yO rfl (yO rfl (yPd rfl rfl (yQ (pw_ct rfl (pzr (ySd (cs' := [_]) rfl rfl rfl rfl (yQ ?_))))))))); refine pw_ret (q_blk_ret ?_)
     exact ⟨[(3, [.d (dF Tryz.prog (phT cn))]), (4, [.d (dB false)]), (5, [.d (dI ((k + 1 : Nat) : Int))])], [], ⟨rfl, rfl, rfl, trivial⟩, trivial, rfl, rfl, by kernel_rfl, qe_blk_ret (qe_then_ret (qe_ret _ (.one inferInstance rfl rfl rfl .nil) rfl))⟩
   · have t1 : decide (((k + 1 : Nat) : Int) > 6) = false := decide_eq_false (by omega)
     have hph : phT cn [dS t] (.d (dB (cn t))) := ⟨t, rfl, rfl⟩
     cases hc : cn t with
     | false =>
      have hr0 : r = false := by
       rw [hr]
       have : (spl 46 s).all cn = false := List.all_eq_false.2 ⟨t, List.mem_of_getElem? ht, by simp [hc]⟩
       rw [this, Bool.and_false]
      subst hr0
      rw [hc] at hph
      refine pw_block (pzr (yLd rfl rfl rfl (yB rfl rfl rfl rfl (ySd (cs' := [_]) rfl rfl rfl rfl (yQ (pzr (yLd rfl rfl rfl (yB rfl rfl rfl rfl (yMd rfl ?_))))))))); rw [hw]; rw [t1]; refine yLd rfl rfl rfl (yMd rfl (yCv hph rfl rfl rfl (yU rfl rfl rfl (yVd rfl rfl (yQ (pw_ct rfl (pzr (ySd (cs' := [_]) rfl rfl rfl rfl (yQ ?_))))))))); refine pw_ret (q_blk_ret ?_)
      exact ⟨[(3, [.d (dF Tryz.prog (phT cn))]), (4, [.d (dB false)]), (5, [.d (dI ((k + 1 : Nat) : Int))])], [], ⟨rfl, rfl, rfl, trivial⟩, trivial, rfl, rfl, by kernel_rfl, qe_blk_ret (qe_then_ret (qe_ret _ (.one inferInstance rfl rfl rfl .nil) rfl))⟩
     | true =>
      rw [hc] at hph
      have hI2 : ∀ u ∈ (spl 46 s).take (k + 1), cn u = true := fun u hu => by
       rw [htk] at hu
       rcases List.mem_append.1 hu with h | h
       · exact hI u h
       · rw [List.mem_singleton.1 h]; exact hc
      have hk2 : k + 1 ≤ 6 := by omega
      refine pw_block (pzr (yLd rfl rfl rfl (yB rfl rfl rfl rfl (ySd (cs' := [_]) rfl rfl rfl rfl (yQ (pzr (yLd rfl rfl rfl (yB rfl rfl rfl rfl (yMd rfl ?_))))))))); rw [hw]; rw [t1]; refine yLd rfl rfl rfl (yMd rfl (yCv hph rfl rfl rfl (yU rfl rfl rfl (yVd rfl rfl (yQ (pw_cf rfl (pw_skip (q_blk ?_))))))))
      exact ⟨⟨hk2, hI2⟩, ⟨rfl, rfl, rfl, trivial⟩, trivial⟩
 · rintro ⟨hk, hI⟩
   rw [List.length_map] at hk hI
   rw [List.take_length] at hI
   have hr0 : r = true := by rw [hr, decide_eq_true hk, List.all_eq_true.2 hI]; rfl
   subst hr0
   show QBlockX 0 _ .normal ⟨20, _, [(3, _), (4, _), (5, _)], []⟩ _
   refine px_seq (px_rs (pe1 (ySd (cs' := [_]) rfl rfl rfl rfl (yQ (pl_nil (px_ret ?_))))))
   exact qe_ret _ (.one inferInstance rfl rfl rfl .nil) rfl
open Go.RowKit Px Go.Shelf
theorem hPhName : ∀ xs r, phT nameB xs r → PCalls Tryz.prog 120 (xs ++ ([] : List (List DV)).map DV.ref) r := by
 rintro _ _ ⟨x, rfl, rfl⟩
 exact wName x
def acE (s : Str) : Int := if fmdB nameB s then 0 else 3
theorem wAcCheck (s : Str) (hs : s.length ≤ 1000000) : PCalls Tryz.prog 70 [dS s] (.d (dI (acE s))) := by
 have c1 := wFormed nameB s hs
 unfold acE
 cases h : fmdB nameB s with
 | true =>
  rw [h] at c1
  refine pcalls_of_pw Tryz.func70 rfl Tryz.ntmps70 Tryz.results70 (by simp) fun B w0 => ?_
  refine pzr (yAd rfl (yQ (pw_seq (pzr (yMd rfl ?_))))); refine yCf c1 (.d rfl (.fn inferInstance rfl rfl hPhName .nil)) rfl ?_; refine yU rfl rfl rfl (yQ (pw_cf rfl (pw_skip (pzr (yAd rfl (yQ (pw_ret ?_)))))))
  exact q_ret _ (.tmp rfl .nil) rfl
 | false =>
  rw [h] at c1
  refine pcalls_of_pw Tryz.func70 rfl Tryz.ntmps70 Tryz.results70 (by simp) fun B w0 => ?_
  refine pzr (yAd rfl (yQ (pw_seq (pzr (yMd rfl ?_))))); refine yCf c1 (.d rfl (.fn inferInstance rfl rfl hPhName .nil)) rfl ?_; refine yU rfl rfl rfl (yQ (pw_ct rfl (pzr (yAd rfl (yQ (pw_ret (q_then_ret ?_)))))))
  exact q_ret _ (.tmp rfl .nil) rfl
def rplB (n o x : Str) : Str := if x = [42] then n else if x = [43] then o else x
abbrev dNms (n o : Str) : DV := dH 224 [.ref [dS n], .ref [dS o]]
theorem wNames1 (n o x : Str) : PCalls Tryz.prog 224 [dS x, .ref [dS n], .ref [dS o]] (.tup [dS (rplB n o x), dB (sgnB x)]) := by
 unfold rplB sgnB
 by_cases h1 : x = [42]
 · have t1 : (x == [42]) = true := by simp [h1]
   rw [if_pos h1, t1]
   refine pcalls_of_pw Tryz.func224 rfl Tryz.ntmps224 Tryz.results224 (by simp) fun B w0 => ?_
   refine pw_ref 1 rfl ?_; refine pw_ref 2 rfl ?_; refine pzr (yAd rfl (yAd rfl (yQ (pw_seq (pzr (yMd rfl (yQ (pw_block (pzr ?_))))))))); refine yBse rfl rfl (yAd rfl (yQ (q_then ?_))); rw [t1]; refine pw_ct rfl (pzr (yLr rfl rfl (yAd rfl (yAd rfl (yQ (pw_ret (q_blk_ret (q_then_ret ?_))))))))
   exact q_ret _ (.tmp rfl (.tmp rfl .nil)) rfl
 have t1 : (x == [42]) = false := by simp [h1]
 rw [if_neg h1, t1]
 by_cases h2 : x = [43]
 · have t2 : (x == [43]) = true := by simp [h2]
   rw [if_pos h2, t2]
   refine pcalls_of_pw Tryz.func224 rfl Tryz.ntmps224 Tryz.results224 (by simp) fun B w0 => ?_
   refine pw_ref 1 rfl ?_; refine pw_ref 2 rfl ?_; refine pzr (yAd rfl (yAd rfl (yQ (pw_seq (pzr (yMd rfl (yQ (pw_block (pzr ?_))))))))); refine yBse rfl rfl (yAd rfl (yQ (q_then ?_))); rw [t1]; refine pw_cf rfl (pzr (yBse rfl rfl (yAd rfl (yQ (q_then ?_))))); rw [t2]; refine pw_ct rfl (pzr (yLr rfl rfl (yAd rfl (yAd rfl (yQ (pw_ret (q_blk_ret (q_then_ret ?_))))))))
   exact q_ret _ (.tmp rfl (.tmp rfl .nil)) rfl
 have t2 : (x == [43]) = false := by simp [h2]
 rw [if_neg h2, t2]
 refine pcalls_of_pw Tryz.func224 rfl Tryz.ntmps224 Tryz.results224 (by simp) fun B w0 => ?_
 refine pw_ref 1 rfl ?_; refine pw_ref 2 rfl ?_; refine pzr (yAd rfl (yAd rfl (yQ (pw_seq (pzr (yMd rfl (yQ (pw_block (pzr ?_))))))))); refine yBse rfl rfl (yAd rfl (yQ (q_then ?_))); rw [t1]; refine pw_cf rfl (pzr (yBse rfl rfl (yAd rfl (yQ (q_then ?_))))); rw [t2]; refine pw_cf rfl (pw_skip (pzr (yMd rfl (yAd rfl (yAd rfl (yQ (pw_ret ?_)))))))
 exact q_ret _ (.tmp rfl (.tmp rfl .nil)) rfl
theorem wNamesF (n o : Str) : PCalls Tryz.prog 181 [dS n, dS o] (.d (dNms n o)) := by
 refine pcalls_of_pw Tryz.func181 rfl Tryz.ntmps181 Tryz.results181 (by simp) fun B w0 => ?_
 refine pzr (yK (cs := [_]) rfl rfl (yK (cs := [_]) rfl rfl (yAd rfl (yQ ?_)))); refine pw_tell (bref_tell 2 2 rfl rfl rfl) ?_; refine pw_tell (bref_tell 3 3 rfl rfl rfl) ?_; refine pzr (yMh rfl (yAd rfl (yQ (pw_ret ?_))))
 exact q_ret _ (.tmp rfl .nil) rfl
def tsB (x : Str) : Bool := sgnB x || nameB x
theorem wExp1 (n o : Str) : ∀ xs r, phT tsB xs r → PCalls Tryz.prog 182 (xs ++ [[dNms n o]].map DV.ref) r := by
 rintro _ _ ⟨x, rfl, rfl⟩
 show PCalls Tryz.prog 182 [dS x, .ref [dNms n o]] _
 have c1 := wNames1 n o x
 have c2 := wName x
 unfold tsB
 obtain ⟨y, hy⟩ : ∃ y, y = rplB n o x := ⟨_, rfl⟩
 rw [← hy] at c1
 cases h : sgnB x with
 | true =>
  rw [h] at c1
  rw [Bool.true_or]
  refine pcalls_of_pw Tryz.func182 rfl Tryz.ntmps182 Tryz.results182 (by simp) fun B w0 => ?_
  refine pw_ref 1 rfl ?_; refine pzr (yAd rfl (yQ (pzr (yLr rfl rfl (yMd rfl (yCh c1 rfl rfl rfl (yMp rfl (yX rfl rfl (yX rfl rfl ?_))))))))); refine yAd rfl (yAd rfl (yQ (pzr (yMd rfl (yMd rfl (yO rfl (yO rfl (yPd rfl rfl (yAd rfl ?_))))))))); refine yQ (pw_ret ?_)
  exact q_ret _ (.tmp rfl .nil) rfl
 | false =>
  rw [h] at c1
  rw [Bool.false_or]
  obtain ⟨b, hb⟩ : ∃ y, y = nameB x := ⟨_, rfl⟩
  rw [← hb] at c2 ⊢
  refine pcalls_of_pw Tryz.func182 rfl Tryz.ntmps182 Tryz.results182 (by simp) fun B w0 => ?_
  refine pw_ref 1 rfl ?_; refine pzr (yAd rfl (yQ (pzr (yLr rfl rfl (yMd rfl (yCh c1 rfl rfl rfl (yMp rfl (yX rfl rfl (yX rfl rfl ?_))))))))); refine yAd rfl (yAd rfl (yQ (pzr (yMd rfl (yMd rfl (yMd rfl (yC (c2) rfl rfl (yVd rfl rfl (yAd rfl ?_))))))))); refine yQ (pw_ret ?_)
  exact q_ret _ (.tmp rfl .nil) rfl
open Go.RowKit Px Go.Shelf Go.Lib
theorem fresh_sl {F : Nat → Nat → Prop} {w : World} {l : List Value} {T : Nat} (h1 : ∀ v ∈ l, v.oneCell' = true) (hl : l.length ≤ 9223372036854775807) : DRep (Fx (gF fun b o => F b o ∨ w.heap.size ≤ b)) (w.alloc (.cells l.toArray T)) (.slice (some ⟨w.heap.size, 0, none⟩) l.length l.length) (.sl 1 (l.map fun v => [.val v])) := by
 have hget : ∀ i, i < l.length → ∃ v, l[i]? = some v ∧ v ∈ l := fun i hi => ⟨l[i], List.getElem?_eq_getElem hi, List.getElem_mem _⟩
 refine .sl (fun i j => (l[i]?).getD undef) (by simp) (Nat.le_refl _) hl (fun e he => by obtain ⟨v, -, rfl⟩ := List.mem_map.1 he; rfl) (fun h0 => ⟨w.heap.size, 0, rfl, fun i j hi hj => ?_⟩) (fun i j hi hj => ?_) fun i j e x he hx => ?_
 · obtain ⟨v, hv, -⟩ := hget i hi
   refine ⟨?_, Fx.gF (.inr (Nat.le_refl _))⟩
   have : 0 + i * 1 + j = i := by omega
   rw [this]
   have hh : (w.alloc (.cells l.toArray T)).heap[w.heap.size]? = some (.cells l.toArray T (0, 0)) := World.alloc_heap_new w _
   simp only [World.cell?, hh]
   rw [hv]
   simpa using hv
 · obtain ⟨v, hv, hm⟩ := hget i hi
   simp only [hv]
   exact h1 v hm
 · rw [List.getElem?_map, Option.map_eq_some_iff] at he
   obtain ⟨v, hv, rfl⟩ := he
   match j with
   | 0 =>
    cases hx
    simp only [hv]
    exact DRep.val v (h1 v (List.mem_of_getElem? hv))
   | j + 1 => simp at hx
theorem str_back (b : ByteArray) : Value.string b = vS b.data.toList := by cases b; simp
theorem split_vals (s : Str) (c : UInt8) : (Lib.splitB ⟨#[c]⟩ 0 (s.count c) ⟨s.toArray⟩).map Value.string = (spl c s).map vS := by
 have h1 := Lib.splitB_data ⟨#[c]⟩ 0 (s.count c) ⟨s.toArray⟩
 have h2 : Lib.splitK [c] 0 (s.count c) s = spl c s := splitK_spl c _ s rfl
 have h3 : (Lib.splitB ⟨#[c]⟩ 0 (s.count c) ⟨s.toArray⟩).map (·.data.toList) = spl c s := h1.trans (by simpa using h2)
 rw [← h3, List.map_map]
 exact List.map_congr_left fun b _ => str_back b
theorem wGenSplit (s : Str) (c : UInt8) (hs : s.length ≤ 1000000) : PCalls Tryz.prog 124 [dS s, dS [c], dI 0, dI (-1)] (.d (.sl 1 ((spl c s).map fun t => [dS t]))) := fun F w vals hl hr hg => by
 obtain rfl : vals = [vS s, vS [c], .int .i64 0, .int .i64 (-1)] := vals_of (us := [vS s, vS [c], .int .i64 0, .int .i64 (-1)]) hl hr
 have hcnt : Lib.countB ⟨s.toArray⟩ ⟨#[c]⟩ = s.count c := by
  show Lib.count s.toArray.toList [c] = _
  rw [Lib.count_one]
 have h1 : 1 ≤ (⟨#[c]⟩ : ByteArray).size := Nat.le_refl _
 have hall := Lib.splitB_all ⟨#[c]⟩ h1 0 _ ⟨s.toArray⟩ hcnt
 have hle := List.count_le_length (a := c) (l := s)
 have h := Any.strings_genSplit_core Tryz.gspl (by kernel_rfl) ⟨s.toArray⟩ ⟨#[c]⟩ 0 (-1) (s.count c + 1) w (by show s.toArray.size < _; rw [List.size_toArray]; omega) h1 (Nat.zero_le _) (fun x cs hx => by
  refine (Any.strings_Index_one { Tryz.gspl with } x c _).mono fun e w' ⟨he, hw⟩ => ⟨?_, hw⟩
  rw [he, ← index_one]) (by
  refine (Any.strings_Count_one { Tryz.gspl with } ⟨s.toArray⟩ c w).mono fun e w' ⟨he, hw⟩ => ⟨?_, hw⟩
  rw [he]
  show _ = Ending.returned (Value.int .i64 ((Lib.count s.toArray.toList [c] : Nat) : Int))
  rw [Lib.count_one]
  rfl) (by decide) (by decide) (by rw [if_pos (by decide), hcnt]; show ((s.count c + 1 : Nat) : Int) = min ((s.count c : Int) + 1) ((s.toArray.size : Int) + 1); rw [List.size_toArray]; omega)
 rw [Nat.add_sub_cancel, hall] at h
 have e2 : Lib.cellsOf (Lib.splitB ⟨#[c]⟩ 0 (s.count c) ⟨s.toArray⟩) (s.count c + 1) = ((spl c s).map vS).toArray := by
  rw [← split_vals, ← hall]
  exact Lib.cellsOf_full _
 have e3 : s.count c + 1 = ((spl c s).map vS).length := by
  rw [← split_vals, List.length_map]; exact hall.symm
 rw [e2, e3] at h
 refine Calls.mono h ?_
 rintro e w' ⟨rfl, rfl⟩
 refine ⟨_, rfl, ?_, (Below.refl _ w).alloc (Nat.le_refl _) _⟩
 have := fresh_sl (F := F) (w := w) (l := (spl c s).map vS) (T := Tryz.gspl_ren.t 9) (fun v hv => by obtain ⟨t, -, rfl⟩ := List.mem_map.1 hv; rfl) (by have := spl_length c s; rw [List.length_map]; omega)
 rw [List.map_map] at this
 exact this
theorem wSplit (s : Str) (c : UInt8) (hs : s.length ≤ 1000000) : PCalls Tryz.prog 76 [dS s, dS [c]] (.d (.sl 1 ((spl c s).map fun t => [dS t]))) := by
 have c1 := wGenSplit s c hs
 obtain ⟨l, hl⟩ : ∃ l, l = (spl c s).map fun t => [dS t] := ⟨_, rfl⟩
 rw [← hl] at c1 ⊢
 refine pcalls_of_pw Tryz.func76 rfl Tryz.ntmps76 Tryz.results76 (by simp) fun B w0 => ?_
 refine pzr (yAd rfl (yQ (pzr (yMd rfl (yMd rfl (yC (c1) rfl rfl (yAd rfl (yQ (pw_ret ?_)))))))))
 exact q_ret _ (.tmp rfl .nil) rfl
theorem ixb_in (s : Str) (c : UInt8) : decide (indexByte s c ≥ 0) = s.contains c := by
 rw [cutB_index, Bool.eq_iff_iff, decide_eq_true_iff, List.contains_iff_mem]
 cases h : cutB c s with
 | none =>
  have := cutB_none.1 h
  simp [this]
 | some p =>
  have := cutB_eq h
  simp only
  constructor
  · intro _; rw [this]; simp
  · intro _; omega
theorem wIndex1 (s : Str) (c : UInt8) : PCalls Tryz.prog 155 [dS s, dS [c]] (.d (dI (indexByte s c))) := by
 have c1 := wIdx1 s c
 obtain ⟨n, hn⟩ : ∃ n, n = indexByte s c := ⟨_, rfl⟩
 rw [← hn] at c1 ⊢
 refine pcalls_of_pw Tryz.func155 rfl Tryz.ntmps155 Tryz.results155 (by simp) fun B w0 => ?_
 refine pzr (yAd rfl (yQ (pzr (yMd rfl (yMd rfl (yC (c1) rfl rfl (yAd rfl (yQ (pw_ret ?_)))))))))
 exact q_ret _ (.tmp rfl .nil) rfl
theorem wContains (s : Str) (c : UInt8) : PCalls Tryz.prog 107 [dS s, dS [c]] (.d (dB (s.contains c))) := by
 have c1 := wIndex1 s c
 rw [← ixb_in]
 obtain ⟨n, hn⟩ : ∃ n, n = indexByte s c := ⟨_, rfl⟩
 rw [← hn] at c1 ⊢
 obtain ⟨b, hb⟩ : ∃ b, b = decide (n ≥ 0) := ⟨_, rfl⟩
 rw [← hb]
 refine pcalls_of_pw Tryz.func107 rfl Tryz.ntmps107 Tryz.results107 (by simp) fun B w0 => ?_
 refine pzr (yAd rfl (yQ (pzr (yMd rfl (yMd rfl (yC (c1) rfl rfl (yB rfl rfl rfl rfl (yAd rfl (yQ ?_))))))))); refine pw_ret ?_; rw [← hb]
 exact q_ret _ (.tmp rfl .nil) rfl
theorem wJoin (xs : List Str) (sep : Str) (hl : xs.length ≤ 1000000) (hj : (Lib.join xs sep).length ≤ 140737488355328) : PCalls Tryz.prog 183 [.sl 1 (xs.map fun t => [dS t]), dS sep] (.d (dS (Lib.join xs sep))) := by
 obtain ⟨r, hrr⟩ : ∃ r, r = Lib.join xs sep := ⟨_, rfl⟩
 rw [← hrr] at hj ⊢
 have e1 : Lib.join xs (⟨sep.toArray⟩ : ByteArray).data.toList = r := by rw [hrr]
 refine PCalls.of_any (us := [vS r]) rfl (one_all _ rfl) fun F w vals hvl hr hg => ?_
 match vals, hvl with
 | [v, u], _ =>
  obtain rfl : u = vS sep := DRep.val_eq (hr 1 u (dS sep) rfl rfl)
  obtain ⟨A, cap, news, hv, hcap, -, -, hnl, hcell, hone, hrep⟩ := DRep.row (hr 0 v _ rfl rfl)
  subst hv
  rw [List.length_map] at hcap hnl hcell ⊢
  have hX : Builder.Extra Tryz.prog Tryz.join_ren := { sizeBuilder := by kernel_rfl, liesBuilder := by kernel_rfl, t5 := by kernel_rfl, a5 := fun _ => by kernel_rfl, z5 := fun _ => by kernel_rfl, v5 := fun _ => by kernel_rfl, infoByte := by kernel_rfl, cellsByte := by kernel_rfl, sizeByte := by kernel_rfl, neB5 := by decide }
  have hmap : (xs.map fun t => (⟨t.toArray⟩ : ByteArray)).map (·.data.toList) = xs := by rw [List.map_map]; exact (List.map_congr_left fun t _ => by simp).trans (List.map_id xs)
  rcases Nat.eq_zero_or_pos xs.length with h0 | h0
  · obtain rfl : xs = [] := List.eq_nil_of_length_eq_zero h0
    have := Any.strings_Join_none Tryz.join hX A cap ⟨sep.toArray⟩ w
    have hr0 : r = [] := by rw [hrr]; exact Lib.join_nil sep
    rw [hr0]
    refine Calls.mono this ?_
    rintro e w' ⟨rfl, rfl⟩
    exact ⟨rfl, Below.refl _ _⟩
  · obtain ⟨b, off, rfl, hc⟩ := hcell h0
    have hcells : ∀ (j : Nat) x, (xs.map fun t => (⟨t.toArray⟩ : ByteArray))[j]? = some x → w.cell? ⟨b, off + j, none⟩ = some (.string x) := fun j x hx => by
     rw [List.getElem?_map, Option.map_eq_some_iff] at hx
     obtain ⟨t, ht, rfl⟩ := hx
     obtain ⟨u, hu, hd⟩ := hrep j 0 [dS t] (dS t) (by rw [List.getElem?_map, ht]; rfl) rfl
     rw [Nat.mul_one, Nat.add_zero] at hu
     rw [(hc j u hu).1, DRep.val_eq hd]
    have hb : b < w.heap.size := by
     obtain ⟨t, ht⟩ : ∃ t, xs[0]? = some t := ⟨_, List.getElem?_eq_getElem h0⟩
     exact World.block_lt_of_cell? _ _ (hcells 0 ⟨t.toArray⟩ (by rw [List.getElem?_map, ht]; rfl))
    have := Any.strings_Join Tryz.join hX b off cap (xs.map fun t => (⟨t.toArray⟩ : ByteArray)) ⟨sep.toArray⟩ w hcells hb (by rw [List.length_map]; omega) (by rw [List.length_map]; exact hcap) (by rw [hmap, e1]; exact hj)
    rw [hmap, List.length_map, e1] at this
    refine Calls.mono this ?_
    rintro e w' ⟨rfl, h⟩
    exact ⟨rfl, h⟩
def expE (s n o : Str) : Int := if tmpB nameB s = false then 3 else if (n ≠ [] ∧ nameB n = false) ∨ (o ≠ [] ∧ nameB o = false) then 23 else if ((spl 46 s).map (rplB n o)).any (fun x => x == []) then 9 else 0
def expR (s n o : Str) : Str := if expE s n o = 0 then Go.Lib.join ((spl 46 s).map (rplB n o)) [46] else []
theorem join_len {l : List Str} {sep : Str} {M : Nat} (h : ∀ x ∈ l, x.length ≤ M) : (Go.Lib.join l sep).length ≤ l.length * (M + sep.length) := by
 cases l with
 | nil => simp [Go.Lib.join_nil]
 | cons x r =>
  rw [Go.Lib.join_cons]
  have h1 : (Go.Lib.joinTail sep r).length ≤ r.length * (M + sep.length) := by
   have h2 : ∀ y ∈ r, y.length ≤ M := fun y hy => h y (by simp [hy])
   clear h
   unfold Go.Lib.joinTail
   induction r with
   | nil => simp
   | cons y r ih =>
    have h3 := ih fun z hz => h2 z (by simp [hz])
    have h4 := h2 y (by simp)
    rw [List.map_cons, List.flatten_cons, List.length_append, List.length_append, List.length_cons, Nat.succ_mul]
    omega
  have h2 := h x (by simp)
  rw [List.length_append, List.length_cons, Nat.succ_mul]
  omega
theorem rplB_len {n o x : Str} {M : Nat} (hn : n.length ≤ M) (ho : o.length ≤ M) (hx : x.length ≤ M) : (rplB n o x).length ≤ M := by
 unfold rplB
 split
 · exact hn
 · split
   · exact ho
   · exact hx
abbrev exT : Nat := 9 * 100000 + 9
abbrev exS (b : Nat) : List (Nat × SV) := [(6, .bx 6 0), (7, .bx 7 0), (8, .bx 8 0), (9, .bx 9 0), (37, .d (.val (.func (.func 210) #[] #[.pointer (some ⟨b, 0, none⟩)])))]
abbrev exB (n o : Str) (l : List Str) : List (Nat × List SV) := [(6, [.d (dS [])]), (7, [.d (dI 0)]), (8, [.d (dNms n o)]), (9, [.ts exT 1 (l.map fun t => [dS t])])]
abbrev exK (l : List Str) : List (Nat × Nat) := [(exT, (l.map fun t => ([dS t] : List DV)).length)]
theorem wExpand (s n o : Str) (hs : s.length ≤ 1000000) (hln : n.length ≤ 1000000) (hlo : o.length ≤ 1000000) : PCalls Tryz.prog 129 [dS s, dS n, dS o] (.tup [dS (expR s n o), dI (expE s n o)]) := by
 have c1 := wFormed tsB s hs
 have c2 := wNamesF n o
 have h1 := wExp1 n o
 have e1 : tmpB nameB s = fmdB tsB s := rfl
 obtain ⟨R, hR⟩ : ∃ R, R = expR s n o := ⟨_, rfl⟩
 obtain ⟨E, hE⟩ : ∃ E, E = expE s n o := ⟨_, rfl⟩
 rw [← hR, ← hE]
 rw [expR, ← hE] at hR
 rw [expE, e1] at hE
 cases hf : fmdB tsB s with
 | false =>
  rw [hf] at c1 hE
  rw [if_pos rfl] at hE
  rw [hE, if_neg (by omega)] at hR
  subst hR hE
  refine pcalls_of_pe Tryz.func129 rfl Tryz.ntmps129 Tryz.results129 (by simp) fun p d0 hex => ?_
  refine px_seq (px_rs (pe1 (yZ (cs := [_]) rfl rfl (yQ (pe1 (yZ (cs := [_]) rfl rfl (yQ (pl_nil (px_seq ?_))))))))); refine px_rs (pe1 (yMd rfl (yQ (pe1 (yMd rfl (yQ (pe1 (yC (c2) rfl rfl (yQ ?_))))))))); refine pe1 (yZ (cs := [_]) rfl rfl (yQ (pe1 (yS (cs' := [_]) rfl rfl rfl rfl rfl (yQ (pl_nil (px_seq (px_seq (px_rs ?_))))))))); refine pe1 (yMd rfl (yQ (pe1 (yCm rfl (yQ (pe1 ?_)))))); refine yCf c1 (.d rfl (.fn inferInstance rfl rfl h1 .nil)) rfl ?_; refine yQ (pe1 (yU rfl rfl rfl (yQ (pl_nil (pe_ct rfl (px_seq (px_rs (pe1 (ySd (cs' := [_]) rfl rfl rfl rfl ?_))))))))); refine yQ (pe1 (ySd (cs' := [_]) rfl rfl rfl rfl (yQ (pl_nil (px_ret (qe_then_ret ?_))))))
  exact qe_ret _ (.one inferInstance rfl rfl rfl (.one inferInstance rfl rfl rfl .nil)) rfl
 | true =>
 rw [hf] at c1 hE
 rw [if_neg (by simp)] at hE
 have k1 := wName n
 have k2 := wName o
 by_cases hbn : n ≠ [] ∧ nameB n = false
 · have t1 : (!n == []) = true := by simp [hbn.1]
   rw [hbn.2] at k1
   rw [if_pos (.inl hbn)] at hE
   rw [hE, if_neg (by omega)] at hR
   subst hR hE
   refine pcalls_of_pe Tryz.func129 rfl Tryz.ntmps129 Tryz.results129 (by simp) fun p d0 hex => ?_
   refine px_seq (px_rs (pe1 (yZ (cs := [_]) rfl rfl (yQ (pe1 (yZ (cs := [_]) rfl rfl (yQ (pl_nil (px_seq ?_))))))))); refine px_rs (pe1 (yMd rfl (yQ (pe1 (yMd rfl (yQ (pe1 (yC (c2) rfl rfl (yQ ?_))))))))); refine pe1 (yZ (cs := [_]) rfl rfl (yQ (pe1 (yS (cs' := [_]) rfl rfl rfl rfl rfl (yQ (pl_nil (px_seq (px_seq (px_rs ?_))))))))); refine pe1 (yMd rfl (yQ (pe1 (yCm rfl (yQ (pe1 ?_)))))); refine yCf c1 (.d rfl (.fn inferInstance rfl rfl h1 .nil)) rfl ?_; refine yQ (pe1 (yU rfl rfl rfl (yQ (pl_nil (pe_cf rfl (px_skip (px_seq (px_seq (px_rs ?_))))))))); refine pe1 (yMd rfl (yQ (pe1 (yBsn rfl rfl (yQ (pe1 (yMd rfl (yQ (pe1 ?_))))))))); rw [t1]; refine yMd rfl (yQ (pe1 (yC (k1) rfl rfl (yQ (pe1 (yU rfl rfl rfl (yQ (pe1 (yPd rfl rfl ?_))))))))); refine yQ (pe1 (yMd rfl (yQ (pe1 (yO rfl (yQ (pe1 (yO rfl (yQ ?_))))))))); refine pe1 (yO rfl (yQ (pe1 (yO rfl (yQ (pe1 (yO rfl (yQ (pe1 ?_))))))))); refine yO rfl (yQ (pe1 (yO rfl (yQ (pe1 (yPd rfl rfl (yQ (pl_nil (pe_ct rfl ?_))))))))); refine px_seq (px_rs (pe1 (ySd (cs' := [_]) rfl rfl rfl rfl (yQ (pe1 (ySd (cs' := [_]) rfl rfl rfl rfl (yQ (pl_nil (px_ret ?_))))))))); refine qe_then_ret ?_
   exact qe_ret _ (.one inferInstance rfl rfl rfl (.one inferInstance rfl rfl rfl .nil)) rfl
 have hn' : n = [] ∨ ((!n == []) = true ∧ nameB n = true) := by
  by_cases h : n = []
  · exact .inl h
  · refine .inr ⟨by simp [h], ?_⟩
    cases e : nameB n with
    | true => rfl
    | false => exact absurd ⟨h, e⟩ hbn
 by_cases hbo : o ≠ [] ∧ nameB o = false
 · have t2 : (!o == []) = true := by simp [hbo.1]
   rw [hbo.2] at k2
   rw [if_pos (.inr hbo)] at hE
   rw [hE, if_neg (by omega)] at hR
   subst hR hE
   rcases hn' with hn0 | ⟨t1, hn1⟩
   · have t1 : (!n == []) = false := by simp [hn0]
     refine pcalls_of_pe Tryz.func129 rfl Tryz.ntmps129 Tryz.results129 (by simp) fun p d0 hex => ?_
     refine px_seq (px_rs (pe1 (yZ (cs := [_]) rfl rfl (yQ (pe1 (yZ (cs := [_]) rfl rfl (yQ (pl_nil (px_seq ?_))))))))); refine px_rs (pe1 (yMd rfl (yQ (pe1 (yMd rfl (yQ (pe1 (yC (c2) rfl rfl (yQ ?_))))))))); refine pe1 (yZ (cs := [_]) rfl rfl (yQ (pe1 (yS (cs' := [_]) rfl rfl rfl rfl rfl (yQ (pl_nil (px_seq (px_seq (px_rs ?_))))))))); refine pe1 (yMd rfl (yQ (pe1 (yCm rfl (yQ (pe1 ?_)))))); refine yCf c1 (.d rfl (.fn inferInstance rfl rfl h1 .nil)) rfl ?_; refine yQ (pe1 (yU rfl rfl rfl (yQ (pl_nil (pe_cf rfl (px_skip (px_seq (px_seq (px_rs ?_))))))))); refine pe1 (yMd rfl (yQ (pe1 (yBsn rfl rfl (yQ (pe1 (yMd rfl (yQ (pe1 ?_))))))))); rw [t1]; refine yO rfl (yQ (pe1 (yO rfl (yQ (pe1 (yO rfl (yQ (pe1 (yVd rfl rfl ?_))))))))); refine yQ (pe1 (yMd rfl (yQ (pe1 (yMd rfl (yQ (pe1 (yBsn rfl rfl (yQ ?_))))))))); refine pe1 (yMd rfl (yQ (pe1 ?_))); rw [t2]; refine yMd rfl (yQ (pe1 (yC (k2) rfl rfl (yQ (pe1 (yU rfl rfl rfl (yQ (pe1 (yPd rfl rfl ?_))))))))); refine yQ (pe1 (yVd rfl rfl (yQ (pl_nil (pe_ct rfl (px_seq (px_rs (pe1 (ySd (cs' := [_]) rfl rfl rfl rfl ?_))))))))); refine yQ (pe1 (ySd (cs' := [_]) rfl rfl rfl rfl (yQ (pl_nil (px_ret (qe_then_ret ?_))))))
     exact qe_ret _ (.one inferInstance rfl rfl rfl (.one inferInstance rfl rfl rfl .nil)) rfl
   · rw [hn1] at k1
     refine pcalls_of_pe Tryz.func129 rfl Tryz.ntmps129 Tryz.results129 (by simp) fun p d0 hex => ?_
     refine px_seq (px_rs (pe1 (yZ (cs := [_]) rfl rfl (yQ (pe1 (yZ (cs := [_]) rfl rfl (yQ (pl_nil (px_seq ?_))))))))); refine px_rs (pe1 (yMd rfl (yQ (pe1 (yMd rfl (yQ (pe1 (yC (c2) rfl rfl (yQ ?_))))))))); refine pe1 (yZ (cs := [_]) rfl rfl (yQ (pe1 (yS (cs' := [_]) rfl rfl rfl rfl rfl (yQ (pl_nil (px_seq (px_seq (px_rs ?_))))))))); refine pe1 (yMd rfl (yQ (pe1 (yCm rfl (yQ (pe1 ?_)))))); refine yCf c1 (.d rfl (.fn inferInstance rfl rfl h1 .nil)) rfl ?_; refine yQ (pe1 (yU rfl rfl rfl (yQ (pl_nil (pe_cf rfl (px_skip (px_seq (px_seq (px_rs ?_))))))))); refine pe1 (yMd rfl (yQ (pe1 (yBsn rfl rfl (yQ (pe1 (yMd rfl (yQ (pe1 ?_))))))))); rw [t1]; refine yMd rfl (yQ (pe1 (yC (k1) rfl rfl (yQ (pe1 (yU rfl rfl rfl (yQ (pe1 (yPd rfl rfl ?_))))))))); refine yQ (pe1 (yMd rfl (yQ (pe1 (yMd rfl (yQ (pe1 (yBsn rfl rfl (yQ ?_))))))))); refine pe1 (yMd rfl (yQ (pe1 ?_))); rw [t2]; refine yMd rfl (yQ (pe1 (yC (k2) rfl rfl (yQ (pe1 (yU rfl rfl rfl (yQ (pe1 (yPd rfl rfl ?_))))))))); refine yQ (pe1 (yVd rfl rfl (yQ (pl_nil (pe_ct rfl (px_seq (px_rs (pe1 (ySd (cs' := [_]) rfl rfl rfl rfl ?_))))))))); refine yQ (pe1 (ySd (cs' := [_]) rfl rfl rfl rfl (yQ (pl_nil (px_ret (qe_then_ret ?_))))))
     exact qe_ret _ (.one inferInstance rfl rfl rfl (.one inferInstance rfl rfl rfl .nil)) rfl
 have ho' : o = [] ∨ ((!o == []) = true ∧ nameB o = true) := by
  by_cases h : o = []
  · exact .inl h
  · refine .inr ⟨by simp [h], ?_⟩
    cases e : nameB o with
    | true => rfl
    | false => exact absurd ⟨h, e⟩ hbo
 rw [if_neg (by rintro (h | h); exact hbn h; exact hbo h)] at hE
 have h6 : (spl 46 s).length ≤ 6 := by
  rw [fmdB, Bool.and_eq_true] at hf
  exact of_decide_eq_true hf.1
 obtain ⟨X, hX⟩ : ∃ X, X = (spl 46 s).map (rplB n o) := ⟨_, rfl⟩
 rw [← hX] at hE hR
 have hXl : X.length ≤ 6 := by rw [hX, List.length_map]; exact h6
 have hXm : ∀ x ∈ X, x.length ≤ 1000000 := fun x hx => by
  rw [hX] at hx
  obtain ⟨t, ht, rfl⟩ := List.mem_map.1 hx
  exact rplB_len hln hlo (Nat.le_trans (spl_len 46 s t ht) hs)
 have hjl : (Go.Lib.join X [46]).length ≤ 140737488355328 := by
  have h1 := join_len (sep := [46]) hXm
  have h2 : X.length * (1000000 + ([46] : Str).length) ≤ 6 * 1000001 := Nat.mul_le_mul hXl (Nat.le_refl _)
  omega
 have k3 := wJoin X [46] (by omega) hjl
 refine pcalls_of_pe Tryz.func129 rfl Tryz.ntmps129 Tryz.results129 (by simp) fun p d0 hex => ?_
 rcases hn' with hn0 | ⟨t1, hn1⟩ <;> rcases ho' with ho0 | ⟨t2, ho1⟩
 all_goals
  first
   | (have t1 : (!n == []) = false := by simp [hn0]); skip
   | rw [hn1] at k1
  first
   | (have t2 : (!o == []) = false := by simp [ho0]); skip
   | rw [ho1] at k2
  first
   | (refine px_seq ?_; refine px_rs ?_; refine pe1 ?_; refine yZ (cs := [_]) rfl rfl (yQ ?_); refine pe1 ?_; refine yZ (cs := [_]) rfl rfl (yQ ?_); refine pl_nil ?_; refine px_seq ?_; refine px_rs ?_; refine pe1 ?_; refine yMd rfl (yQ ?_); refine pe1 ?_; refine yMd rfl (yQ ?_); refine pe1 ?_; refine yC (c2) rfl rfl (yQ ?_); refine pe1 ?_; refine yZ (cs := [_]) rfl rfl (yQ ?_); refine pe1 ?_; refine yS (cs' := [_]) rfl rfl rfl rfl rfl (yQ ?_); refine pl_nil ?_; refine px_seq ?_; refine px_seq ?_; refine px_rs ?_; refine pe1 ?_; refine yMd rfl (yQ ?_); refine pe1 ?_; refine yCm rfl (yQ ?_); refine pe1 ?_; refine yCf c1 (.d rfl (.fn inferInstance rfl rfl h1 .nil)) rfl ?_; refine yQ ?_; refine pe1 ?_; refine yU rfl rfl rfl (yQ ?_); refine pl_nil ?_; refine pe_cf rfl ?_; refine px_skip ?_; refine px_seq ?_; refine px_seq ?_; refine px_rs ?_; refine pe1 ?_; refine yMd rfl (yQ ?_); refine pe1 ?_; refine yBsn rfl rfl (yQ ?_); refine pe1 ?_; refine yMd rfl (yQ ?_); refine pe1 ?_; rw [t1]; refine yO rfl (yQ ?_); refine pe1 ?_; refine yO rfl (yQ ?_); refine pe1 ?_; refine yO rfl (yQ ?_); refine pe1 ?_; refine yVd rfl rfl (yQ ?_); refine pe1 ?_; refine yMd rfl (yQ ?_); refine pe1 ?_; refine yMd rfl (yQ ?_); refine pe1 ?_; refine yBsn rfl rfl (yQ ?_); refine pe1 ?_; refine yMd rfl (yQ ?_); refine pe1 ?_; rw [t2]; refine yO rfl (yQ ?_); refine pe1 ?_; refine yO rfl (yQ ?_); refine pe1 ?_; refine yO rfl (yQ ?_); refine pe1 ?_; refine yVd rfl rfl (yQ ?_); refine pe1 ?_; refine yVd rfl rfl (yQ ?_); refine pl_nil ?_; refine pe_cf rfl ?_; refine px_skip ?_; refine px_seq ?_; refine px_rs ?_; refine pe1 ?_; refine yZ (cs := [_]) rfl rfl (yQ ?_); refine pl_nil ?_; refine pe_tell (tokb_tell 9 0 exT 1 rfl rfl rfl rfl) ?_; refine px_seq ?_; refine px_seq ?_; refine px_rs ?_; refine pe1 ?_; refine yMd rfl (yQ ?_); refine pl_ec (hSegm s _) MSeg.ok rfl ?_)
   | (refine px_seq ?_; refine px_rs ?_; refine pe1 ?_; refine yZ (cs := [_]) rfl rfl (yQ ?_); refine pe1 ?_; refine yZ (cs := [_]) rfl rfl (yQ ?_); refine pl_nil ?_; refine px_seq ?_; refine px_rs ?_; refine pe1 ?_; refine yMd rfl (yQ ?_); refine pe1 ?_; refine yMd rfl (yQ ?_); refine pe1 ?_; refine yC (c2) rfl rfl (yQ ?_); refine pe1 ?_; refine yZ (cs := [_]) rfl rfl (yQ ?_); refine pe1 ?_; refine yS (cs' := [_]) rfl rfl rfl rfl rfl (yQ ?_); refine pl_nil ?_; refine px_seq ?_; refine px_seq ?_; refine px_rs ?_; refine pe1 ?_; refine yMd rfl (yQ ?_); refine pe1 ?_; refine yCm rfl (yQ ?_); refine pe1 ?_; refine yCf c1 (.d rfl (.fn inferInstance rfl rfl h1 .nil)) rfl ?_; refine yQ ?_; refine pe1 ?_; refine yU rfl rfl rfl (yQ ?_); refine pl_nil ?_; refine pe_cf rfl ?_; refine px_skip ?_; refine px_seq ?_; refine px_seq ?_; refine px_rs ?_; refine pe1 ?_; refine yMd rfl (yQ ?_); refine pe1 ?_; refine yBsn rfl rfl (yQ ?_); refine pe1 ?_; refine yMd rfl (yQ ?_); refine pe1 ?_; rw [t1]; refine yO rfl (yQ ?_); refine pe1 ?_; refine yO rfl (yQ ?_); refine pe1 ?_; refine yO rfl (yQ ?_); refine pe1 ?_; refine yVd rfl rfl (yQ ?_); refine pe1 ?_; refine yMd rfl (yQ ?_); refine pe1 ?_; refine yMd rfl (yQ ?_); refine pe1 ?_; refine yBsn rfl rfl (yQ ?_); refine pe1 ?_; refine yMd rfl (yQ ?_); refine pe1 ?_; rw [t2]; refine yMd rfl (yQ ?_); refine pe1 ?_; refine yC (k2) rfl rfl (yQ ?_); refine pe1 ?_; refine yU rfl rfl rfl (yQ ?_); refine pe1 ?_; refine yPd rfl rfl (yQ ?_); refine pe1 ?_; refine yVd rfl rfl (yQ ?_); refine pl_nil ?_; refine pe_cf rfl ?_; refine px_skip ?_; refine px_seq ?_; refine px_rs ?_; refine pe1 ?_; refine yZ (cs := [_]) rfl rfl (yQ ?_); refine pl_nil ?_; refine pe_tell (tokb_tell 9 0 exT 1 rfl rfl rfl rfl) ?_; refine px_seq ?_; refine px_seq ?_; refine px_rs ?_; refine pe1 ?_; refine yMd rfl (yQ ?_); refine pl_ec (hSegm s _) MSeg.ok rfl ?_)
   | (refine px_seq ?_; refine px_rs ?_; refine pe1 ?_; refine yZ (cs := [_]) rfl rfl (yQ ?_); refine pe1 ?_; refine yZ (cs := [_]) rfl rfl (yQ ?_); refine pl_nil ?_; refine px_seq ?_; refine px_rs ?_; refine pe1 ?_; refine yMd rfl (yQ ?_); refine pe1 ?_; refine yMd rfl (yQ ?_); refine pe1 ?_; refine yC (c2) rfl rfl (yQ ?_); refine pe1 ?_; refine yZ (cs := [_]) rfl rfl (yQ ?_); refine pe1 ?_; refine yS (cs' := [_]) rfl rfl rfl rfl rfl (yQ ?_); refine pl_nil ?_; refine px_seq ?_; refine px_seq ?_; refine px_rs ?_; refine pe1 ?_; refine yMd rfl (yQ ?_); refine pe1 ?_; refine yCm rfl (yQ ?_); refine pe1 ?_; refine yCf c1 (.d rfl (.fn inferInstance rfl rfl h1 .nil)) rfl ?_; refine yQ ?_; refine pe1 ?_; refine yU rfl rfl rfl (yQ ?_); refine pl_nil ?_; refine pe_cf rfl ?_; refine px_skip ?_; refine px_seq ?_; refine px_seq ?_; refine px_rs ?_; refine pe1 ?_; refine yMd rfl (yQ ?_); refine pe1 ?_; refine yBsn rfl rfl (yQ ?_); refine pe1 ?_; refine yMd rfl (yQ ?_); refine pe1 ?_; rw [t1]; refine yMd rfl (yQ ?_); refine pe1 ?_; refine yC (k1) rfl rfl (yQ ?_); refine pe1 ?_; refine yU rfl rfl rfl (yQ ?_); refine pe1 ?_; refine yPd rfl rfl (yQ ?_); refine pe1 ?_; refine yMd rfl (yQ ?_); refine pe1 ?_; refine yMd rfl (yQ ?_); refine pe1 ?_; refine yBsn rfl rfl (yQ ?_); refine pe1 ?_; refine yMd rfl (yQ ?_); refine pe1 ?_; rw [t2]; refine yO rfl (yQ ?_); refine pe1 ?_; refine yO rfl (yQ ?_); refine pe1 ?_; refine yO rfl (yQ ?_); refine pe1 ?_; refine yVd rfl rfl (yQ ?_); refine pe1 ?_; refine yVd rfl rfl (yQ ?_); refine pl_nil ?_; refine pe_cf rfl ?_; refine px_skip ?_; refine px_seq ?_; refine px_rs ?_; refine pe1 ?_; refine yZ (cs := [_]) rfl rfl (yQ ?_); refine pl_nil ?_; refine pe_tell (tokb_tell 9 0 exT 1 rfl rfl rfl rfl) ?_; refine px_seq ?_; refine px_seq ?_; refine px_rs ?_; refine pe1 ?_; refine yMd rfl (yQ ?_); refine pl_ec (hSegm s _) MSeg.ok rfl ?_)
   | (refine px_seq ?_; refine px_rs ?_; refine pe1 ?_; refine yZ (cs := [_]) rfl rfl (yQ ?_); refine pe1 ?_; refine yZ (cs := [_]) rfl rfl (yQ ?_); refine pl_nil ?_; refine px_seq ?_; refine px_rs ?_; refine pe1 ?_; refine yMd rfl (yQ ?_); refine pe1 ?_; refine yMd rfl (yQ ?_); refine pe1 ?_; refine yC (c2) rfl rfl (yQ ?_); refine pe1 ?_; refine yZ (cs := [_]) rfl rfl (yQ ?_); refine pe1 ?_; refine yS (cs' := [_]) rfl rfl rfl rfl rfl (yQ ?_); refine pl_nil ?_; refine px_seq ?_; refine px_seq ?_; refine px_rs ?_; refine pe1 ?_; refine yMd rfl (yQ ?_); refine pe1 ?_; refine yCm rfl (yQ ?_); refine pe1 ?_; refine yCf c1 (.d rfl (.fn inferInstance rfl rfl h1 .nil)) rfl ?_; refine yQ ?_; refine pe1 ?_; refine yU rfl rfl rfl (yQ ?_); refine pl_nil ?_; refine pe_cf rfl ?_; refine px_skip ?_; refine px_seq ?_; refine px_seq ?_; refine px_rs ?_; refine pe1 ?_; refine yMd rfl (yQ ?_); refine pe1 ?_; refine yBsn rfl rfl (yQ ?_); refine pe1 ?_; refine yMd rfl (yQ ?_); refine pe1 ?_; rw [t1]; refine yMd rfl (yQ ?_); refine pe1 ?_; refine yC (k1) rfl rfl (yQ ?_); refine pe1 ?_; refine yU rfl rfl rfl (yQ ?_); refine pe1 ?_; refine yPd rfl rfl (yQ ?_); refine pe1 ?_; refine yMd rfl (yQ ?_); refine pe1 ?_; refine yMd rfl (yQ ?_); refine pe1 ?_; refine yBsn rfl rfl (yQ ?_); refine pe1 ?_; refine yMd rfl (yQ ?_); refine pe1 ?_; rw [t2]; refine yMd rfl (yQ ?_); refine pe1 ?_; refine yC (k2) rfl rfl (yQ ?_); refine pe1 ?_; refine yU rfl rfl rfl (yQ ?_); refine pe1 ?_; refine yPd rfl rfl (yQ ?_); refine pe1 ?_; refine yVd rfl rfl (yQ ?_); refine pl_nil ?_; refine pe_cf rfl ?_; refine px_skip ?_; refine px_seq ?_; refine px_rs ?_; refine pe1 ?_; refine yZ (cs := [_]) rfl rfl (yQ ?_); refine pl_nil ?_; refine pe_tell (tokb_tell 9 0 exT 1 rfl rfl rfl rfl) ?_; refine px_seq ?_; refine px_seq ?_; refine px_rs ?_; refine pe1 ?_; refine yMd rfl (yQ ?_); refine pl_ec (hSegm s _) MSeg.ok rfl ?_)
  rintro r0 j ⟨b, xs, T, hx, hn, rfl, rfl⟩
  refine pe_tell (hv_tell 37 (vs := [.pointer (some ⟨b, 0, none⟩)]) rfl) ?_; refine px_block ?_; refine px_le (HE.stb _) (st' := ⟨53, exS b, exB n o (X.take 0), exK (X.take 0)⟩) ⟨rfl, ⟨.refl _, .refl _, .refl _, .refl _, .refl _, trivial⟩, ⟨⟨_, rfl, lesC_refl _⟩, ⟨_, rfl, lesC_refl _⟩, ⟨_, rfl, lesC_refl _⟩, ⟨_, rfl, lesC_refl _⟩, trivial⟩, ⟨rfl, trivial⟩, rfl⟩ ?_; refine px_rfe (ys := xs) (T0 := T) (b := b) (vsg s) [(10, 38)] (fun k => ∀ t ∈ X.take k, t ≠ []) (fun k => exB n o (X.take k)) (fun k => exK (X.take k)) (fun t ht => by simp at ht) rfl (aget_hd b (xs, T) []) (seg_spec s hs hx) (fun x hx => by obtain ⟨t, -, rfl⟩ := List.mem_map.1 hx; rfl) rfl rfl (by decide) ?_ ?_
  · rintro k x hx2 hI
    obtain ⟨t, ht, rfl⟩ := vsg_at hx2
    refine ⟨[.any, .any, .any, .any, .any, .any, .bx 6 0, .bx 7 0, .bx 8 0, .bx 9 0, .d (dS t)], of_decide_eq_true rfl, .any (.any (.any (.any (.any (.any (.keep rfl (.refl _) (.keep rfl (.refl _) (.keep rfl (.refl _) (.keep rfl (.refl _) (.new rfl rfl .nil)))))))))), rfl, rfl, by kernel_rfl, fun B w0 => ?_⟩
    have q1 := wNames1 n o t
    have hXk : X[k]? = some (rplB n o t) := by rw [hX, List.getElem?_map, ht]; rfl
    have htk : X.take (k + 1) = X.take k ++ [rplB n o t] := by rw [List.take_add_one, hXk]; rfl
    have hkl : (X.take k).length ≤ 6 := by rw [List.length_take]; omega
    obtain ⟨y, hy⟩ : ∃ y, y = rplB n o t := ⟨_, rfl⟩
    rw [← hy] at q1 hXk htk
    obtain ⟨Z, hZ⟩ : ∃ Z, Z = X.take k := ⟨_, rfl⟩
    rw [← hZ] at htk hI hkl ⊢
    by_cases hy0 : y = []
    · have u1 : (y == []) = true := by simp [hy0]
      have hE9 : E = 9 := by
       rw [hE, if_pos]
       exact List.any_eq_true.2 ⟨y, List.mem_of_getElem? hXk, u1⟩
      rw [hE9, if_neg (by omega)] at hR
      subst hR hE9
      refine pw_block (pzr (yLd rfl rfl rfl (yMd rfl (yCh q1 rfl rfl rfl (yMp rfl (yX rfl rfl (yX rfl rfl (yAd rfl (yAd rfl ?_))))))))); refine yQ (pw_seq (pzr (yMd rfl (yBse rfl rfl (yQ (q_then ?_)))))); rw [u1]; refine pw_ct rfl (pzr (ySd (cs' := [_]) rfl rfl rfl rfl (ySd (cs' := [_]) rfl rfl rfl rfl (yQ (pw_ret (q_then_ret (q_blk_ret ?_)))))))
      exact ⟨[(6, [.d (dS [])]), (7, [.d (dI 9)]), (8, [.d (dNms n o)]), (9, [.ts exT 1 (Z.map fun t => [dS t])])], exK Z, ⟨rfl, rfl, rfl, rfl, trivial⟩, ⟨rfl, trivial⟩, rfl, rfl, by kernel_rfl, qe_blk_ret (qe_then_ret (qe_ret _ (.one inferInstance rfl rfl rfl (.one inferInstance rfl rfl rfl .nil)) rfl))⟩
    · have u1 : (y == []) = false := by simp [hy0]
      have hI2 : ∀ t ∈ X.take (k + 1), t ≠ [] := fun u hu => by
       rw [htk] at hu
       rcases List.mem_append.1 hu with h | h
       · exact hI u h
       · rw [List.mem_singleton.1 h]; exact hy0
      refine pw_block (pzr (yLd rfl rfl rfl (yMd rfl (yCh q1 rfl rfl rfl (yMp rfl (yX rfl rfl (yX rfl rfl (yAd rfl (yAd rfl ?_))))))))); refine yQ (pw_seq (pzr (yMd rfl (yBse rfl rfl (yQ (q_then ?_)))))); rw [u1]; refine pw_cf rfl (pw_skip (pw_region (yLt rfl rfl rfl (yMd rfl ?_)))); refine yR (es := [[_]]) rfl rfl rfl rfl rfl ?_; refine yT (es' := (Z ++ [y]).map fun t => [dS t]) (m := ((Z ++ [y]).map fun t => ([dS t] : List DV)).length) (by simp; omega) (by simp; omega) rfl rfl rfl rfl rfl (by simp) (by simp) ?_; refine ySt (cs' := [_]) rfl rfl rfl rfl (yQ (q_blk ?_))
      exact ⟨hI2, ⟨rfl, rfl, rfl, (by rw [htk]; rfl), trivial⟩, ⟨(by rw [htk]; rfl), trivial⟩⟩
  · intro hI
    have hXs : (vsg s).length = X.length := by rw [hX, List.length_map, List.length_map]
    rw [hXs, List.take_length] at hI
    rw [hXs, List.take_length]
    have hE0 : E = 0 := by
     rw [hE, if_neg]
     rw [Bool.not_eq_true, List.any_eq_false]
     intro x hx h
     exact hI x hx (by simpa using h)
    rw [hE0, if_pos rfl] at hR
    rw [hE0]
    rw [← hR] at k3
    show QBlockX 0 _ .normal ⟨53, _, [(6, _), (7, _), (8, _), (9, [.ts exT 1 (X.map fun t => [dS t])])], _⟩ _
    refine px_seq (px_rs (pe1 (yLt rfl rfl rfl (yQ (pe1 (yC (k3) rfl rfl (yQ (pe1 (ySd (cs' := [_]) rfl rfl rfl rfl ?_))))))))); refine yQ (pe1 (ySd (cs' := [_]) rfl rfl rfl rfl (yQ (pl_nil (px_ret ?_)))))
    exact qe_ret _ (.one inferInstance rfl rfl rfl (.one inferInstance rfl rfl rfl .nil)) rfl
theorem wIsTmp (s : Str) (hs : s.length ≤ 1000000) : PCalls Tryz.prog 81 [dS s] (.d (dB (tmpB nameB s))) := by
 have c1 := wExpand s [97] [98] hs (by simp) (by simp)
 have e : ((expE s [97] [98] : Int) == 0) = tmpB nameB s := by
  unfold expE
  cases h : tmpB nameB s with
  | false => rw [if_pos rfl]; rfl
  | true =>
   have h1 : nameB [97] = true := by kernel_rfl
   have h2 : nameB [98] = true := by kernel_rfl
   rw [if_neg (by simp), if_neg (by simp [h1, h2]), if_neg]
   · rfl
   · rw [Bool.not_eq_true, List.any_eq_false]
     intro x hx h3
     obtain ⟨t, ht, rfl⟩ := List.mem_map.1 hx
     have h4 : tsB t = true := by
      rw [tmpB, fmdB, Bool.and_eq_true] at h
      exact List.all_eq_true.1 h.2 t ht
     unfold rplB at h3
     unfold tsB sgnB at h4
     split at h3
     · cases h3
     · split at h3
       · cases h3
       · have : t = [] := by simpa using h3
         rw [this] at h4
         exact absurd h4 (by decide)
 obtain ⟨x, hx⟩ : ∃ x, x = expE s [97] [98] := ⟨_, rfl⟩
 obtain ⟨y, hy⟩ : ∃ x, x = expR s [97] [98] := ⟨_, rfl⟩
 rw [← hx, ← hy] at c1
 rw [← hx] at e
 obtain ⟨b, hb⟩ : ∃ b, b = tmpB nameB s := ⟨_, rfl⟩
 rw [← hb] at e ⊢
 refine pcalls_of_pw Tryz.func81 rfl Tryz.ntmps81 Tryz.results81 (by simp) fun B w0 => ?_
 refine pzr (yAd rfl (yQ (pzr (yMd rfl (yC (c1) rfl rfl (yMp rfl (yX rfl rfl (yX rfl rfl (yAd rfl ?_))))))))); refine yAd rfl (yQ (pzr (yMd rfl (yB rfl rfl rfl rfl (yAd rfl (yQ (pw_ret ?_))))))); rw [e]
 exact q_ret _ (.tmp rfl .nil) rfl
def bdE (e : List Cf) : Prop := e.length ≤ 1000000 ∧ ∀ c ∈ e, c.1.length ≤ 1000000 ∧ c.2.length ≤ 70000
def bdN (l : Ln) : Prop := l.1.length ≤ 1000000 ∧ bdE l.2.2
def bdR (r : Ru) : Prop := r.2.length ≤ 1000000 ∧ ∀ l ∈ r.2, bdN l
abbrev rulE (r : Ru) : Int := rE (tmpB nameB) chE r
theorem lnsE_next {tp : Str → Bool} {ce : List Cf → Int} {ls : List Ln} {k : Nat} {l : Ln} (h : ls[k]? = some l) : lnsE tp ce (ls.drop k) = if tp l.1 then (if ce l.2.2 = 0 then lnsE tp ce (ls.drop (k + 1)) else ce l.2.2) else 3 := by
 obtain ⟨h1, h2⟩ := List.getElem?_eq_some_iff.1 h
 rw [List.drop_eq_getElem_cons h1, h2, lnsE]
theorem wRCheckR (r : Ru) (hb : bdR r) : PCalls Tryz.prog 56 [.agg (dRu r)] (.d (dI (rulE r))) := by
 have k0 := wKinds
 obtain ⟨n, ls⟩ := r
 obtain ⟨hg, hh⟩ := iget_knd n
 obtain ⟨M, hM⟩ : ∃ M, M = kndM := ⟨_, rfl⟩
 rw [← hM] at k0 hg hh
 clear hM
 obtain ⟨hb1, hb2⟩ := hb
 simp only at hb1 hb2
 obtain ⟨E, hE⟩ : ∃ E, E = rulE (n, ls) := ⟨_, rfl⟩
 rw [← hE]
 rw [rulE, rE] at hE
 obtain ⟨kw, hkw⟩ : ∃ w, w = kwT n := ⟨_, rfl⟩
 obtain ⟨kg, hkg⟩ : ∃ w, w = sgK n := ⟨_, rfl⟩
 obtain ⟨kn, hkn⟩ : ∃ w, w = nmsK n := ⟨_, rfl⟩
 rw [← hkw, ← hkg, ← hkn] at hg
 clear hkw hkg hkn
 cases h : kndF n with
 | none =>
  rw [h] at hh
  simp only [h] at hE
  subst hE
  refine pcalls_of_pw Tryz.func56 rfl Tryz.ntmps56 Tryz.results56 (by simp) fun B w0 => ?_
  refine pzr (yK (cs := [_, _]) rfl rfl (yAd rfl (yQ (pw_seq (pw_seq ?_))))); refine pw_draw Tryz.mixed (by kernel_rfl) ?_; refine yC (k0) rfl rfl (yFb rfl (yLd rfl rfl rfl (yKdI (t := false) rfl rfl hg hh (yMp rfl (yX rfl rfl (yX rfl rfl (yZ (cs := [_, _, _]) rfl rfl (yS (cs' := [_, _, _]) rfl rfl rfl rfl rfl (yAd rfl ?_))))))))); refine yQ (pzr (yMd rfl (yU rfl rfl rfl (yQ (pw_ct rfl (pzr (yAd rfl (yQ (pw_ret ?_))))))))); refine q_then_ret ?_
  exact q_ret _ (.tmp rfl .nil) rfl
 | some k =>
 rw [h] at hh
 simp only [h] at hE
 clear h
 by_cases h1 : 64 < ls.length
 · have t1 : decide (((ls.map dLn).length : Int) > 64) = true := decide_eq_true (by rw [List.length_map]; omega)
   rw [if_pos h1] at hE
   subst hE
   refine pcalls_of_pw Tryz.func56 rfl Tryz.ntmps56 Tryz.results56 (by simp) fun B w0 => ?_
   refine pzr (yK (cs := [_, _]) rfl rfl (yAd rfl (yQ (pw_seq (pw_seq ?_))))); refine pw_draw Tryz.mixed (by kernel_rfl) ?_; refine yC (k0) rfl rfl (yFb rfl (yLd rfl rfl rfl (yKdI (t := true) rfl rfl hg hh (yMp rfl (yX rfl rfl (yX rfl rfl (yZ (cs := [_, _, _]) rfl rfl (yS (cs' := [_, _, _]) rfl rfl rfl rfl rfl (yAd rfl ?_))))))))); refine yQ (pzr (yMd rfl (yU rfl rfl rfl (yQ (pw_cf rfl (pw_skip (pw_seq (pzr (yFb rfl ?_))))))))); refine yLd rfl rfl rfl (yN rfl (yB rfl rfl rfl rfl (yQ (q_then ?_)))); rw [t1]; refine pw_ct rfl (pzr (yAd rfl (yQ (pw_ret (q_then_ret ?_)))))
   exact q_ret _ (.tmp rfl .nil) rfl
 have t1 : decide (((ls.map dLn).length : Int) > 64) = false := decide_eq_false (by rw [List.length_map]; omega)
 rw [if_neg h1] at hE
 refine pcalls_of_pw Tryz.func56 rfl Tryz.ntmps56 Tryz.results56 (by simp) fun B w0 => ?_
 refine pzr (yK (cs := [_, _]) rfl rfl (yAd rfl (yQ (pw_seq (pw_seq ?_))))); refine pw_draw Tryz.mixed (by kernel_rfl) ?_; refine yC (k0) rfl rfl (yFb rfl (yLd rfl rfl rfl (yKdI (t := true) rfl rfl hg hh (yMp rfl (yX rfl rfl (yX rfl rfl (yZ (cs := [_, _, _]) rfl rfl (yS (cs' := [_, _, _]) rfl rfl rfl rfl rfl (yAd rfl ?_))))))))); refine yQ (pzr (yMd rfl (yU rfl rfl rfl (yQ (pw_cf rfl (pw_skip (pw_seq (pzr (yFb rfl ?_))))))))); refine yLd rfl rfl rfl (yN rfl (yB rfl rfl rfl rfl (yQ (q_then ?_)))); rw [t1]; refine pw_cf rfl (pw_skip (pw_seq (pzr (yFb rfl (yLd rfl rfl rfl (yN rfl (yMd rfl (yQ (pw_block ?_))))))))); refine pw_loop (fun i : Nat => ⟨43, [(23, .d (.sl 3 (ls.map dLn))), (24, .d (dI ls.length)), (25, .d (dI i))], [], []⟩) (fun i => i ≤ ls.length ∧ lnsE (tmpB nameB) chE (ls.drop i) = E) (fun i => ls.length - i) 0 ⟨Nat.zero_le _, hE.symm⟩
  ⟨rfl, ⟨.refl _, .of_eq (congrArg (fun n : Nat => SV.d (dI n)) (by simp)), .refl _, trivial⟩, trivial, trivial, rfl⟩ ?_
 rintro i ⟨hi, hI⟩
 rcases Nat.lt_or_ge i ls.length with h | h
 rotate_left
 · have u1 : decide ((i : Int) < (ls.length : Int)) = false := decide_eq_false (by omega)
   have : E = 0 := by rw [← hI, List.drop_eq_nil_of_le h]; rfl
   subst this
   refine pzr (yB rfl rfl rfl rfl (yQ (pw_seq ?_))); rw [u1]; refine pw_cf rfl (pw_exit (pzr (yAd rfl (yQ (pw_ret ?_)))))
   exact q_ret _ (.tmp rfl .nil) rfl
 have u1 : decide ((i : Int) < (ls.length : Int)) = true := decide_eq_true (by omega)
 obtain ⟨⟨a, c, e⟩, hl⟩ : ∃ a, ls[i]? = some a := ⟨_, List.getElem?_eq_getElem h⟩
 have ex := ix dLn ls i i (a, c, e) rfl hl
 have hw := wrapI ((i : Int) + 1) (by omega)
 obtain ⟨b1, b2, b3⟩ := hb2 _ (List.mem_of_getElem? hl)
 simp only at b1 b2 b3
 have k1 := wIsTmp a b1
 have k2 := wNormalE e b2 fun c hc => (b3 c hc).2
 have arith : ls.length - (i + 1) < ls.length - i := by omega
 rw [lnsE_next hl] at hI
 simp only at hI
 obtain ⟨N, hN⟩ : ∃ N, N = (nmE e).map dCf := ⟨_, rfl⟩
 rw [← hN] at k2
 clear hN hE hg hh hl
 cases ht : tmpB nameB a with
 | false =>
  rw [ht] at k1 hI
  rw [if_neg (by simp)] at hI
  subst hI
  refine pzr (yB rfl rfl rfl rfl (yQ (pw_seq ?_))); rw [u1]; refine pw_ct rfl (pw_skip (pw_seq (pw_block (pzr (yW ex (by omega) rfl rfl (yLs (ys := [_, _, _]) rfl rfl rfl (yZ (cs := [_, _, _]) rfl rfl (yS (cs' := [_, _, _]) rfl rfl rfl rfl rfl (yQ ?_))))))))); refine pw_seq (pzr (yFb rfl (yLd rfl rfl rfl (yC (k1) rfl rfl (yU rfl rfl rfl (yQ (pw_ct rfl (pzr (yAd rfl ?_))))))))); refine yQ (pw_ret (q_then_ret (q_blk_ret (q_then_ret (q_then_ret (q_blk_ret (q_then_ret ?_)))))))
  exact q_ret _ (.tmp rfl .nil) rfl
 | true =>
 rw [ht] at k1 hI
 rw [if_pos rfl] at hI
 obtain ⟨x, hx⟩ : ∃ x, x = chE e := ⟨_, rfl⟩
 rw [← hx] at k2 hI
 by_cases h0 : x = 0
 · have t2 : (x != 0) = false := by simp [h0]
   rw [if_pos h0] at hI
   refine pzr (yB rfl rfl rfl rfl (yQ (pw_seq ?_))); rw [u1]; refine pw_ct rfl (pw_skip (pw_seq (pw_block (pzr (yW ex (by omega) rfl rfl (yLs (ys := [_, _, _]) rfl rfl rfl (yZ (cs := [_, _, _]) rfl rfl (yS (cs' := [_, _, _]) rfl rfl rfl rfl rfl (yQ ?_))))))))); refine pw_seq (pzr (yFb rfl (yLd rfl rfl rfl (yC (k1) rfl rfl (yU rfl rfl rfl (yQ (pw_cf rfl (pw_skip (pzr ?_))))))))); refine yFb rfl (yLd rfl rfl rfl (yC (k2) rfl rfl (yMp rfl (yX rfl rfl (yX rfl rfl (yAd rfl (yAd rfl (yQ (pzr ?_))))))))); refine yMd rfl (yB rfl rfl rfl rfl (yQ (q_then ?_))); rw [t2]; refine pw_cf rfl (pw_skip (pw_region (yB rfl rfl rfl rfl (yMd rfl (yQ (q_then ?_))))))
   exact ⟨i + 1, ⟨h, hI⟩, arith, rfl, ⟨.refl _, .refl _, .of_eq (congrArg (fun n => SV.d (dI n)) hw), trivial⟩, trivial, trivial, rfl⟩
 · have t2 : (x != 0) = true := by simp [h0]
   rw [if_neg h0] at hI
   subst hI
   refine pzr (yB rfl rfl rfl rfl (yQ (pw_seq ?_))); rw [u1]; refine pw_ct rfl (pw_skip (pw_seq (pw_block (pzr (yW ex (by omega) rfl rfl (yLs (ys := [_, _, _]) rfl rfl rfl (yZ (cs := [_, _, _]) rfl rfl (yS (cs' := [_, _, _]) rfl rfl rfl rfl rfl (yQ ?_))))))))); refine pw_seq (pzr (yFb rfl (yLd rfl rfl rfl (yC (k1) rfl rfl (yU rfl rfl rfl (yQ (pw_cf rfl (pw_skip (pzr ?_))))))))); refine yFb rfl (yLd rfl rfl rfl (yC (k2) rfl rfl (yMp rfl (yX rfl rfl (yX rfl rfl (yAd rfl (yAd rfl (yQ (pzr ?_))))))))); refine yMd rfl (yB rfl rfl rfl rfl (yQ (q_then ?_))); rw [t2]; refine pw_ct rfl (pzr (yMd rfl (yAd rfl (yQ (pw_ret (q_blk_ret (q_then_ret (q_then_ret (q_blk_ret ?_))))))))); refine q_then_ret ?_
   exact q_ret _ (.tmp rfl .nil) rfl
end Go.Proofs.YtddfimjiihggmaaGreatDoor
namespace Go.Proofs.YtddfimjiihggmaaGreatDoor.Px
open Go.RowKit
theorem bnil_tell {st : PS} (i off k : Nat) {cs : List SV} (hi : st.bget i = some cs) (hc : cs[off]? = some (.d (.val (.slice none 0 0)))) (hlt : Nat.blt i 500000 = true := by rfl) : ∀ B w0 g a w, Rep B w0 g st a w → ∃ g', Evo g w g' w ∧ Rep B w0 g' (st.bput i (cs.set off (.d (.sl k [])))) a w := fun B w0 g a w hr => by
 have hlt := Nat.le_of_ble_eq_true hlt
 refine ⟨g, Evo.refl _ _, { hr with lim := hr.lim, size := hr.size, slots := hr.slots, boxes := fun j cs' hj hj5 => ?_, maps := fun j ms hj hge => ?_, dom := fun j b hj => ?_, tdom := hr.tdom, tlen := hr.tlen, glob := hr.glob }⟩
 · have hj' : (st.bput i (cs.set off (.d (.sl k [])))).bget j = some cs' := hj
   rw [bget_bput] at hj'
   by_cases e : j = i
   · rw [if_pos e] at hj'
     cases hj'
     subst e
     obtain ⟨b, xs, T, h1, h2, h3, h4, h5⟩ := hr.boxes j cs hi hj5
     refine ⟨b, xs, T, h1, h2, by simpa using h3, fun q c hq => ?_, fun q u hq hu => h5 q u (by simpa using hq) hu⟩
     by_cases eq : q = off
     · subst eq
       rw [List.getElem?_set_self (List.getElem?_eq_some_iff.1 hc).1] at hq
       cases hq
       obtain ⟨x, h6, h7⟩ := h4 q _ hc
       have hx : x = .slice none 0 0 := DRep.val_eq h7
       exact ⟨x, h6, by rw [hx]; exact DRep.nil⟩
     · rw [List.getElem?_set_ne (Ne.symm eq)] at hq
       exact h4 q c hq
   · rw [if_neg e] at hj'
     exact hr.boxes j cs' hj' hj5
 · have hj' : (st.bput i (cs.set off (.d (.sl k [])))).bget j = some [.mc ms] := hj
   rw [bget_bput, if_neg (by omega)] at hj'
   exact hr.maps j ms hj' hge
 · show (st.bput i (cs.set off (.d (.sl k [])))).bget j ≠ none
   rw [bget_bput]
   by_cases e : j = i
   · simp [e]
   · rw [if_neg e]; exact hr.dom j b hj
theorem ref_tell (s : Nat) {st : PS} {cs : List DV} (hs : st.get s = .d (.ref cs)) : ∀ B w0 g a w, Rep B w0 g st a w → ∃ g', Evo g w g' w ∧ Rep B w0 g' (st.put (some s) (.rd cs)) a w := slot_tellS s hs fun _ _ _ h => SRep.le h (.ref cs)
theorem pe_ordr {P : Program} {rl : Option Nat} {d0 : Nat} {p : EP} {Q : Exit → PS → EI → Prop} {st : PS} {i : EI} {id : Nat} {l : Array Oper} (h : ∀ B w0, w0.rl = rl → PW P B w0 (.region id l true) (fun e s => Q e s i) st) : PX P rl d0 (HE p) (.region id l true) Q st i := pe_ord h
section
variable {P : Program} {sq : Bool} {ops : Array Oper} {K : PS → Prop} {rest : List Oper} {st : PS} {d : Option Nat} {ty : TypeId} {pos : String} {af : Array Edge} {gd : Option (Nat × Bool)}
theorem yWvq {T : Nat} {x y : Operand} {E k n c b off q : Nat} {m : Int} {kd : IntKind} [SliceOf P T E k] (ho : off + m.toNat * k = q) (h0 : 0 ≤ m) (hm : m < n) (hx : st.ev x = .d (.val (.slice (some ⟨b, off, none⟩) n c))) (hy : st.ev y = .d (.val (.int kd m))) (h : YR P sq ops K rest (st.put d (.d (.val (.pointer (some ⟨b, q, none⟩)))))) (hd : dstOk ⟨d, .indexAddr T x y, ty, pos, af, gd⟩ st = true := by kernel_rfl) (hk : opOk ⟨d, .indexAddr T x y, ty, pos, af, gd⟩ st .no = true := by kernel_rfl) (hw : st.want ops ⟨d, .indexAddr T x y, ty, pos, af, gd⟩ = some true := by rfl) :
 YR P sq ops K (⟨d, .indexAddr T x y, ty, pos, af, gd⟩ :: rest) st := yWv h0 hm hx hy (ho ▸ h) hd hk hw
end
end Go.Proofs.YtddfimjiihggmaaGreatDoor.Px
namespace Go.Proofs.YtddfimjiihggmaaGreatDoor
open Go.RowKit Px
abbrev orR (o : Option Ru) : Ru := o.getD (0, [])
theorem wFindR (l : List Ru) (n : Int) (hl : l.length ≤ 1000000) : PCalls Tryz.prog 22 [dRus l, dI n] (.tup [.agg (dRu (orR (fndR l n))), dB (fndR l n).isSome]) := by
 obtain ⟨r, hr⟩ : ∃ r, r = fndR l n := ⟨_, rfl⟩
 rw [← hr]
 refine pcalls_of_pw Tryz.func22 rfl Tryz.ntmps22 Tryz.results22 (by simp) fun B w0 => ?_
 refine pzr (yZ (cs := [_, _]) rfl rfl (yAd rfl (yQ ?_))); refine pw_tell (bnil_tell 4 1 3 rfl rfl) ?_; refine pw_seq (pzr (yMd rfl (yN rfl (yMd rfl (yQ (pw_block ?_)))))); refine pw_loop (fun i : Nat => ⟨21, [(1, .d (dI n)), (4, .bx 4 0), (8, .d (dRus l)), (9, .d (dI l.length)), (10, .d (dI i))], [(4, [.d (dI 0), .d (.sl 3 [])])], []⟩) (fun i => i ≤ l.length ∧ (l.drop i).find? (fun r => r.1 == n) = r) (fun i => l.length - i) 0 ⟨Nat.zero_le _, hr.symm⟩
  ⟨rfl, ⟨.refl _, .refl _, .refl _, .of_eq (congrArg (fun n : Nat => SV.d (dI n)) (by simp)), .refl _, trivial⟩, ⟨⟨_, rfl, lesC_refl _⟩, trivial⟩, trivial, rfl⟩ ?_
 rintro i ⟨hi, hI⟩
 clear hr
 rcases Nat.lt_or_ge i l.length with h | h
 rotate_left
 · have u1 : decide ((i : Int) < (l.length : Int)) = false := decide_eq_false (by omega)
   rw [List.drop_eq_nil_of_le h] at hI
   subst hI
   refine pzr (yB rfl rfl rfl rfl (yQ (pw_seq ?_))); rw [u1]; refine pw_cf rfl (pw_exit (pzr (yG (ys := [_, _]) rfl rfl (yS (cs' := [_, _]) rfl rfl rfl rfl rfl (yAd rfl (yQ ?_)))))); refine pw_tell (bnil_tell 4 1 3 rfl rfl) ?_; refine pw_ret ?_
   exact q_ret _ (.agg inferInstance rfl rfl rfl rfl (.tmp rfl .nil)) rfl
 have u1 : decide ((i : Int) < (l.length : Int)) = true := decide_eq_true (by omega)
 obtain ⟨⟨m, ls⟩, hx⟩ : ∃ a, l[i]? = some a := ⟨_, List.getElem?_eq_getElem h⟩
 have ex := ix dRu l i i (m, ls) rfl hx
 have hw := wrapI ((i : Int) + 1) (by omega)
 obtain ⟨q1, q2⟩ := List.getElem?_eq_some_iff.1 hx
 rw [List.drop_eq_getElem_cons q1, q2, List.find?_cons] at hI
 simp only at hI
 cases he : (m == n) with
 | true =>
  rw [he] at hI
  simp only at hI
  subst hI
  rw [show orR (some (m, ls)) = (m, ls) from rfl]
  refine pzr (yB rfl rfl rfl rfl (yQ (pw_seq ?_))); rw [u1]; refine pw_ct rfl (pw_skip (pw_seq (pw_block (pzr (yW ex (by omega) rfl rfl (yLs (ys := [_, _]) rfl rfl rfl (yZ (cs := [_, _]) rfl rfl (yS (cs' := [_, _]) rfl rfl rfl rfl rfl (yQ ?_))))))))); refine pzr (yFb rfl (yLd rfl rfl rfl (yMd rfl (yB rfl rfl rfl rfl (yQ (q_then ?_)))))); rw [he]; refine pw_ct rfl (pzr (yLa (ys := [_, _]) rfl rfl rfl rfl (yS (cs' := [_, _]) rfl rfl rfl rfl rfl (yAd rfl (yQ (pw_ret (q_blk_ret (q_then_ret (q_then_ret ?_))))))))); refine q_blk_ret (q_then_ret ?_)
  exact q_ret _ (.agg inferInstance rfl rfl rfl rfl (.tmp rfl .nil)) rfl
 | false =>
  rw [he] at hI
  simp only at hI
  refine pzr (yB rfl rfl rfl rfl (yQ (pw_seq ?_))); rw [u1]; refine pw_ct rfl (pw_skip (pw_seq (pw_block (pzr (yW ex (by omega) rfl rfl (yLs (ys := [_, _]) rfl rfl rfl (yZ (cs := [_, _]) rfl rfl (yS (cs' := [_, _]) rfl rfl rfl rfl rfl (yQ ?_))))))))); refine pzr (yFb rfl (yLd rfl rfl rfl (yMd rfl (yB rfl rfl rfl rfl (yQ (q_then ?_)))))); rw [he]; refine pw_cf rfl (pw_skip (pw_region (yB rfl rfl rfl rfl (yMd rfl (yQ (q_then ?_))))))
  exact ⟨i + 1, ⟨h, hI⟩, by omega, rfl, ⟨.refl _, .refl _, .refl _, .refl _, .of_eq (congrArg (fun n => SV.d (dI n)) hw), trivial⟩, ⟨⟨_, rfl, lesC_refl _⟩, trivial⟩, trivial, rfl⟩
instance : MapTy Tryz.prog 155 := ⟨⟨9, 72, by kernel_rfl⟩⟩
theorem lnsC_app (a b : List Ln) : lnsC (a ++ b) = lnsC a ++ lnsC b := by simp [lnsC]
theorem lnC_length (l : Ln) : (lnC l).length = l.2.2.length := by unfold lnC; split <;> simp
theorem lnsC_at {ls : List Ln} {k m : Nat} {l : Ln} {c : Cf} (hl : ls[k]? = some l) (hc : l.2.2[m]? = some c) : (lnsC ls)[(lnsC (ls.take k)).length + m]? = some (if l.2.1 then ngC c else c) := by
 obtain ⟨h1, h2⟩ := List.getElem?_eq_some_iff.1 hl
 have e : ls = ls.take k ++ l :: ls.drop (k + 1) := by
  rw [← h2, ← List.drop_eq_getElem_cons h1, List.take_append_drop]
 have e2 : lnsC ls = lnsC (ls.take k) ++ (lnC l ++ lnsC (ls.drop (k + 1))) := by
  conv => lhs; rw [e]
  rw [lnsC_app, show l :: ls.drop (k + 1) = [l] ++ ls.drop (k + 1) from rfl, lnsC_app]
  simp [lnsC]
 have hlt := (List.getElem?_eq_some_iff.1 hc).1
 rw [e2, List.getElem?_append_right (by omega), Nat.add_sub_cancel_left, List.getElem?_append_left (by rw [lnC_length]; exact hlt)]
 unfold lnC
 split
 · rw [List.getElem?_map, hc]; rfl
 · exact hc
theorem lnsC_next {ls : List Ln} {k : Nat} {l : Ln} (hl : ls[k]? = some l) : (lnsC (ls.take (k + 1))).length = (lnsC (ls.take k)).length + l.2.2.length := by
 rw [List.take_add_one, hl, lnsC_app, List.length_append]
 simp [lnsC, lnC_length]
theorem lnsC_len {ls : List Ln} {A B : Nat} (h1 : ls.length ≤ A) (h2 : ∀ l ∈ ls, l.2.2.length ≤ B) : (lnsC ls).length ≤ A * B := by
 have : (lnsC ls).length ≤ ls.length * B := by
  clear h1
  induction ls with
  | nil => simp [lnsC]
  | cons l ls ih =>
   have h3 := ih fun x hx => h2 x (by simp [hx])
   have h4 := h2 l (by simp)
   rw [show l :: ls = [l] ++ ls from rfl, lnsC_app, List.length_append, List.length_append, Nat.add_mul]
   simp [lnsC, lnC_length] at h3 ⊢
   omega
 exact Nat.le_trans this (Nat.mul_le_mul_right _ h1)
theorem ngC_len {c : Cf} {B : Nat} (h : c.2.length ≤ B) : (ngC c).2.length ≤ B + 1 := by
 show (canon (- val c.2)).length ≤ B + 1
 exact canon_le (by rw [Int.natAbs_neg]; exact val_lt h)
def SeenZ (l dn : List (Value × DV)) : Prop := (∃ rl, (dn ++ rl).Perm l) ∧ ∀ q ∈ dn, q.2 = dS []
theorem vS_inj0 {v : Str} (h : dS v = dS []) : v = [] := by
 have h1 : vS v = vS [] := by injection h
 have h2 : v.toArray = #[] := by injection h1 with h1; injection h1
 simpa using h2
theorem wBalances (r : Ru) (hb1 : r.2.length ≤ 64) (hb2 : ∀ l ∈ r.2, l.2.2.length ≤ 16 ∧ ∀ c ∈ l.2.2, c.2.length ≤ 70000) : PCalls Tryz.prog 59 [.agg (dRu r)] (.d (dB (balB r.2))) := by
 obtain ⟨n, ls⟩ := r
 simp only at hb1 hb2
 obtain ⟨R, hR⟩ : ∃ R, R = balB ls := ⟨_, rfl⟩
 rw [← hR]
 rw [← bal_sums] at hR
 obtain ⟨e, he⟩ : ∃ e, e = lnsC ls := ⟨_, rfl⟩
 rw [← he] at hR
 have hel : e.length ≤ 1024 := by rw [he]; exact lnsC_len hb1 fun l hl => (hb2 l hl).1
 have hef : ∀ c ∈ e, c.2.length ≤ 70001 := fun c hc => by
  rw [he] at hc
  obtain ⟨l, hl, hc⟩ := List.mem_flatMap.1 hc
  unfold lnC at hc
  split at hc
  · obtain ⟨d, hd, rfl⟩ := List.mem_map.1 hc
    exact ngC_len ((hb2 l hl).2 d hd)
  · have := (hb2 l hl).2 c hc; omega
 have hml := fun i k => sumM_len hef i k
 refine pcalls_of_pe Tryz.func59 rfl Tryz.ntmps59 Tryz.results59 (by simp) fun p d0 hex => ?_
 refine px_seq (px_rs (pe1 (yK (cs := [_, _]) rfl rfl (yQ (pe1 (yAd rfl (yQ (pl_nil (px_seq ?_))))))))); refine px_rs (pe1 (yKm rfl (yQ (pe1 (yAm rfl (yQ (pl_nil (px_seq (px_seq ?_))))))))); refine px_rs (pe1 (yFb rfl (yQ (pe1 (yLd rfl rfl rfl (yQ (pe1 (yN rfl (yQ ?_))))))))); refine pe1 (yMd rfl (yQ (pl_nil (px_block ?_)))); refine pe_lp (fun k : Nat => ⟨51, [(3, .mb 500011), (13, .d (.sl 3 (ls.map dLn))), (14, .d (dI ls.length)), (15, .d (dI k))], [(500011, [.mc (kmap (mapD (sumM e (lnsC (ls.take k)).length)))])], []⟩) (fun _ => ⟨[], [], none⟩) (fun k => k ≤ ls.length) (fun k => ls.length - k) 0 (Nat.zero_le _) rfl
  ⟨rfl, ⟨.refl _, .refl _, .of_eq (congrArg (fun n : Nat => SV.d (dI n)) (by simp)), .refl _, trivial⟩, ⟨⟨_, rfl, lesC_eq rfl⟩, trivial⟩, trivial, rfl⟩ ?_
 intro k hk
 rcases Nat.lt_or_ge k ls.length with h | h
 · have u1 : decide ((k : Int) < (ls.length : Int)) = true := decide_eq_true (by omega)
   obtain ⟨⟨a, c, x⟩, hl⟩ : ∃ a, ls[k]? = some a := ⟨_, List.getElem?_eq_getElem h⟩
   have ex := ix dLn ls k k (a, c, x) rfl hl
   have hw := wrapI ((k : Int) + 1) (by omega)
   have hnk := lnsC_next hl
   have hat : ∀ m d, x[m]? = some d → e[(lnsC (ls.take k)).length + m]? = some (if c then ngC d else d) := fun m d hd => by rw [he]; exact lnsC_at hl hd
   obtain ⟨x1, x2⟩ := hb2 _ (List.mem_of_getElem? hl)
   simp only at hnk x1 x2
   obtain ⟨K, hK⟩ : ∃ K, K = (lnsC (ls.take k)).length := ⟨_, rfl⟩
   rw [← hK] at hnk hat ⊢
   have arith : ls.length - (k + 1) < ls.length - k := by omega
   clear hl hK hR he
   refine px_seq (px_rs (pe1 (yB rfl rfl rfl rfl (yQ (pl_nil (px_seq ?_)))))); rw [u1]; refine pe_ct rfl (px_skip (px_seq (px_block (px_seq (px_rs (pe1 (yW ex (by omega) rfl rfl (yQ (pe1 ?_))))))))); refine yLs (ys := [_, _, _]) rfl rfl rfl (yQ (pe1 (yZ (cs := [_, _, _]) rfl rfl (yQ (pe1 (yS (cs' := [_, _, _]) rfl rfl rfl rfl rfl (yQ (pl_nil (px_seq ?_))))))))); refine px_rs (pe1 (yFb rfl (yQ (pe1 (yLd rfl rfl rfl (yQ (pe1 (yN rfl (yQ ?_))))))))); refine pe1 (yMd rfl (yQ (pl_nil (px_block ?_)))); refine pe_lp (fun m : Nat => ⟨51, [(3, .mb 500011), (13, .d (.sl 3 (ls.map dLn))), (14, .d (dI ls.length)), (15, .d (dI k)), (5, .bx 5 0), (20, .d (.sl 2 (x.map dCf))), (21, .d (dI x.length)), (22, .d (dI m))], [(500011, [.mc (kmap (mapD (sumM e (K + m))))]), (5, [.d (dS a), .d (dB c), .d (.sl 2 (x.map dCf))])], []⟩) (fun _ => ⟨[], [], none⟩) (fun m => m ≤ x.length) (fun m => x.length - m) 0 (Nat.zero_le _) rfl
    ⟨rfl, ⟨.refl _, .refl _, .refl _, .refl _, .refl _, .refl _, .of_eq (congrArg (fun n : Nat => SV.d (dI n)) (by simp)), .refl _, trivial⟩, ⟨⟨_, rfl, lesC_eq rfl⟩, ⟨_, rfl, lesC_refl _⟩, trivial⟩, trivial, rfl⟩ ?_
   intro m hm
   rcases Nat.lt_or_ge m x.length with h2 | h2
   · have u2 : decide ((m : Int) < (x.length : Int)) = true := decide_eq_true (by omega)
     obtain ⟨⟨c0, f⟩, hc⟩ : ∃ a, x[m]? = some a := ⟨_, List.getElem?_eq_getElem h2⟩
     have em := ix dCf x m m (c0, f) rfl hc
     have hw2 := wrapI ((m : Int) + 1) (by omega)
     have hq := x2 _ (List.mem_of_getElem? hc)
     simp only at hq
     have hd := hat m _ hc
     have hln := hml (K + m) c0
     have arith2 : x.length - (m + 1) < x.length - m := by omega
     have hKm : K + m < e.length := (List.getElem?_eq_some_iff.1 hd).1
     cases c with
     | false =>
      have hnx : sumM e (K + (m + 1)) = setS c0 (addI (getS c0 (sumM e (K + m))) f) (sumM e (K + m)) := by
       rw [show K + (m + 1) = (K + m) + 1 by omega, sumM, hd]; rfl
      obtain ⟨M, hM⟩ : ∃ M, M = sumM e (K + m) := ⟨_, rfl⟩
      rw [← hM] at hnx hln ⊢
      have hg := mget_D c0 M
      have k1 := wAddT (getS c0 M) f (by omega) (by omega)
      have hs : mset c0 (dS (canon (val (getS c0 M) + val f))) (mapD M) = mapD (setS c0 (addI (getS c0 M) f) M) := mset_D c0 (addI (getS c0 M) f) M
      obtain ⟨v, hv⟩ : ∃ v, v = getS c0 M := ⟨_, rfl⟩
      rw [← hv] at hg k1 hs hnx
      obtain ⟨M2, hM2⟩ : ∃ M2, M2 = setS c0 (addI v f) M := ⟨_, rfl⟩
      rw [← hM2] at hs hnx
      obtain ⟨z, hz⟩ : ∃ a, a = canon (val v + val f) := ⟨_, rfl⟩
      rw [← hz] at k1 hs
      clear hz hM2 hv hM hat hml hd
      refine px_seq (px_rs (pe1 (yB rfl rfl rfl rfl (yQ (pl_nil (px_seq ?_)))))); rw [u2]; refine pe_ct rfl (px_skip (px_seq (px_block (px_seq (px_rs (pe1 (yW em (by omega) rfl rfl (yQ (pe1 ?_))))))))); refine yLs (ys := [_, _]) rfl rfl rfl (yQ (pe1 (yZ (cs := [_, _]) rfl rfl (yQ (pe1 (yS (cs' := [_, _]) rfl rfl rfl rfl rfl (yQ (pl_nil (px_seq ?_))))))))); refine px_rs (pe1 (yFb rfl (yQ (pe1 (yLd rfl rfl rfl (yQ (pe1 (yAd rfl (yQ ?_))))))))); refine pl_nil (px_seq (px_seq (px_rs (pe1 (yFb rfl (yQ (pe1 (yLd rfl rfl rfl (yQ ?_))))))))); refine pl_nil (pe_cf rfl (px_skip ?_)); refine pe_ordr fun B w0 hrl => ?_; refine pw_draw Tryz.mixed (by kernel_rfl) ?_; refine yMm rfl (yFb rfl (yLd rfl rfl rfl (yMm rfl (yFb rfl (yLd rfl rfl rfl (yKl (z := dS []) rfl rfl rfl hg (yMd rfl (yC (k1) rfl rfl (yKu (z := dS []) rfl rfl rfl rfl hs ?_))))))))); refine yQ (px_rs (pe1 (yB rfl rfl rfl rfl (yQ (pe1 (yMd rfl (yQ (pl_nil (qe_then ?_)))))))))
      exact ⟨m + 1, h2, arith2, ⟨rfl, ⟨.refl _, .refl _, .refl _, .refl _, .refl _, .refl _, .refl _, .of_eq (congrArg (fun n => SV.d (dI n)) hw2), trivial⟩, ⟨⟨_, rfl, lesC_eq (by rw [hnx])⟩, ⟨_, rfl, lesC_refl _⟩, trivial⟩, trivial, rfl⟩, rfl⟩
     | true =>
      have k2 := wNegT f (by omega)
      have hng := ngC_len (c := (c0, f)) hq
      have hnx : sumM e (K + (m + 1)) = setS c0 (addI (getS c0 (sumM e (K + m))) (canon (- val f))) (sumM e (K + m)) := by
       rw [show K + (m + 1) = (K + m) + 1 by omega, sumM, hd]; rfl
      change (canon (- val f)).length ≤ _ at hng
      obtain ⟨f2, hf2⟩ : ∃ a, a = canon (- val f) := ⟨_, rfl⟩
      rw [← hf2] at hnx k2 hng
      obtain ⟨M, hM⟩ : ∃ M, M = sumM e (K + m) := ⟨_, rfl⟩
      rw [← hM] at hnx hln ⊢
      have hg := mget_D c0 M
      have k1 := wAddT (getS c0 M) f2 (by omega) (by omega)
      have hs : mset c0 (dS (canon (val (getS c0 M) + val f2))) (mapD M) = mapD (setS c0 (addI (getS c0 M) f2) M) := mset_D c0 (addI (getS c0 M) f2) M
      obtain ⟨v, hv⟩ : ∃ v, v = getS c0 M := ⟨_, rfl⟩
      rw [← hv] at hg k1 hs hnx
      obtain ⟨M2, hM2⟩ : ∃ M2, M2 = setS c0 (addI v f2) M := ⟨_, rfl⟩
      rw [← hM2] at hs hnx
      obtain ⟨z, hz⟩ : ∃ a, a = canon (val v + val f2) := ⟨_, rfl⟩
      rw [← hz] at k1 hs
      clear hz hM2 hv hM hat hml hd hf2
      refine px_seq (px_rs (pe1 (yB rfl rfl rfl rfl (yQ (pl_nil (px_seq ?_)))))); rw [u2]; refine pe_ct rfl (px_skip (px_seq (px_block (px_seq (px_rs (pe1 (yW em (by omega) rfl rfl (yQ (pe1 ?_))))))))); refine yLs (ys := [_, _]) rfl rfl rfl (yQ (pe1 (yZ (cs := [_, _]) rfl rfl (yQ (pe1 (yS (cs' := [_, _]) rfl rfl rfl rfl rfl (yQ (pl_nil (px_seq ?_))))))))); refine px_rs (pe1 (yFb rfl (yQ (pe1 (yLd rfl rfl rfl (yQ (pe1 (yAd rfl (yQ ?_))))))))); refine pl_nil (px_seq (px_seq (px_rs (pe1 (yFb rfl (yQ (pe1 (yLd rfl rfl rfl (yQ ?_))))))))); refine pl_nil (pe_ct rfl (px_rs (pe1 (yMd rfl (yQ (pe1 (yC (k2) rfl rfl (yQ (pe1 ?_))))))))); refine yAd rfl (yQ (pl_nil ?_)); refine pe_ordr fun B w0 hrl => ?_; refine pw_draw Tryz.mixed (by kernel_rfl) ?_; refine yMm rfl (yFb rfl (yLd rfl rfl rfl (yMm rfl (yFb rfl (yLd rfl rfl rfl (yKl (z := dS []) rfl rfl rfl hg (yMd rfl (yC (k1) rfl rfl (yKu (z := dS []) rfl rfl rfl rfl hs ?_))))))))); refine yQ (px_rs (pe1 (yB rfl rfl rfl rfl (yQ (pe1 (yMd rfl (yQ (pl_nil (qe_then ?_)))))))))
      exact ⟨m + 1, h2, arith2, ⟨rfl, ⟨.refl _, .refl _, .refl _, .refl _, .refl _, .refl _, .refl _, .of_eq (congrArg (fun n => SV.d (dI n)) hw2), trivial⟩, ⟨⟨_, rfl, lesC_eq (by rw [hnx])⟩, ⟨_, rfl, lesC_refl _⟩, trivial⟩, trivial, rfl⟩, rfl⟩
   · have u2 : decide ((m : Int) < (x.length : Int)) = false := decide_eq_false (by omega)
     obtain rfl : m = x.length := by omega
     refine px_seq (px_rs (pe1 (yB rfl rfl rfl rfl (yQ (pl_nil (px_seq ?_)))))); rw [u2]; refine pe_cf rfl (px_exit (px_rs (pe1 (yB rfl rfl rfl rfl (yQ (pe1 (yMd rfl (yQ (pl_nil ?_))))))))); refine qe_then ?_
     exact ⟨k + 1, h, arith, ⟨rfl, ⟨.refl _, .refl _, .refl _, .of_eq (congrArg (fun n => SV.d (dI n)) hw), trivial⟩, ⟨⟨_, rfl, lesC_eq (by rw [hnk])⟩, trivial⟩, trivial, rfl⟩, rfl⟩
 · have u1 : decide ((k : Int) < (ls.length : Int)) = false := decide_eq_false (by omega)
   obtain rfl : k = ls.length := by omega
   rw [List.take_length, ← he]
   obtain ⟨M, hM⟩ : ∃ M, M = sumM e e.length := ⟨_, rfl⟩
   rw [← hM] at hR ⊢
   clear hml hef hel
   have hone : ∀ q ∈ kmap (mapD M), q.1.oneCell' = true := fun q hq => by obtain ⟨p, -, rfl⟩ := List.mem_map.1 hq; rfl
   have hmem : ∀ (kk : Value) (v : DV), (kk, v) ∈ kmap (mapD M) → ∃ p ∈ M, kk = vS p.1 ∧ v = dS p.2 := fun kk v hq => by
    obtain ⟨p, hp, e⟩ := List.mem_map.1 hq
    obtain ⟨q, hq2, rfl⟩ := List.mem_map.1 hp
    cases e
    exact ⟨q, hq2, rfl, rfl⟩
   refine pe_tell (frzm_tell 3 500011 rfl rfl) ?_; refine px_seq (px_rs (pe1 (yB rfl rfl rfl rfl (yQ (pl_nil (px_seq ?_)))))); rw [u1]; refine pe_cf rfl (px_exit (px_seq (px_seq (px_rs (pe1 (yMd rfl (yQ ?_))))))); refine pl_rge rfl fun r => ?_; refine px_block ?_; refine pe_lp (fun dn : List (Value × DV) => ⟨51, [(44, .d (.val (.pointer (some ⟨r, 0, none⟩))))], [], []⟩) (fun dn => ⟨[], [], some (r, kmap (mapD M), dn)⟩) (fun dn => SeenZ (kmap (mapD M)) dn) (fun dn => (kmap (mapD M)).length - dn.length) [] ⟨⟨_, List.Perm.refl _⟩, fun q hq => by simp at hq⟩ rfl
    ⟨rfl, ⟨.refl _, trivial⟩, trivial, trivial, rfl⟩ ?_
   rintro dn ⟨⟨rl0, hdn⟩, hz⟩
   refine px_seq (px_rs ?_); refine pl_cons (pl_nxe rfl rfl (fun hp => ?_) (fun kk v rl hq hp hk1 => ?_) hone); refine pe1 (yX rfl rfl (yQ (pl_nil (px_seq (pe_cf rfl (px_exit (px_seq (px_rs (pe1 ?_))))))))); refine yAd rfl (yQ (pl_nil (px_ret ?_)))
   · have hRt : R = true := by
      rw [hR, List.all_eq_true]
      intro p hp2
      have : (vS p.1, dS p.2) ∈ dn := hp.mem_iff.2 (List.mem_map.2 ⟨(p.1, dS p.2), List.mem_map.2 ⟨p, hp2, rfl⟩, rfl⟩)
      rw [vS_inj0 (hz _ this)]; rfl
     subst hRt
     skip
     exact qe_ret _ (.tmp rfl .nil) rfl
   · obtain ⟨p, hpM, rfl, rfl⟩ := hmem kk v hq
     have hlen := hp.length_eq
     rw [List.length_append, List.length_cons] at hlen
     by_cases h0 : p.2 = []
     · have t1 : (!p.2 == []) = false := by simp [h0]
       have hz2 : SeenZ (kmap (mapD M)) (dn ++ [(vS p.1, dS p.2)]) := ⟨⟨rl, by rw [List.append_assoc]; exact hp⟩, fun q hq => by
        rcases List.mem_append.1 hq with hq | hq
        · exact hz q hq
        · rw [List.mem_singleton.1 hq, h0]⟩
       refine pe1 (yX rfl rfl (yQ (pl_nil (px_seq (pe_ct rfl (px_skip (px_block (px_seq (px_rs ?_))))))))); refine pl_cons (pl_ene rfl (List.getLast?_concat ..) rfl rfl ?_); refine pe1 (yX rfl rfl (yQ (pe1 (yAd rfl (yQ (pl_nil (px_seq (px_rs (pe1 ?_))))))))); refine yMd rfl (yQ (pe1 (yBsn rfl rfl (yQ (pl_nil (qe_then ?_)))))); rw [t1]; refine pe_cf rfl (px_skip (qe_blk (qe_then ?_)))
       exact ⟨dn ++ [(vS p.1, dS p.2)], hz2, by rw [List.length_append]; simp only [List.length_cons, List.length_nil]; omega, ⟨rfl, ⟨.refl _, trivial⟩, trivial, trivial, rfl⟩, rfl⟩
     · have t1 : (!p.2 == []) = true := by simp [h0]
       have hRf : R = false := by
        rw [hR, List.all_eq_false]
        exact ⟨p, hpM, by simp [h0]⟩
       subst hRf
       refine pe1 (yX rfl rfl (yQ (pl_nil (px_seq (pe_ct rfl (px_skip (px_block (px_seq (px_rs ?_))))))))); refine pl_cons (pl_ene rfl (List.getLast?_concat ..) rfl rfl ?_); refine pe1 (yX rfl rfl (yQ (pe1 (yAd rfl (yQ (pl_nil (px_seq (px_rs (pe1 ?_))))))))); refine yMd rfl (yQ (pe1 (yBsn rfl rfl (yQ (pl_nil (qe_then ?_)))))); rw [t1]; refine pe_ct rfl (px_seq (px_rs (pe1 (yAd rfl (yQ (pl_nil (px_ret (qe_blk_ret (qe_then_ret ?_))))))))); refine qe_blk_ret (qe_then_ret ?_)
       exact qe_ret _ (.tmp rfl .nil) rfl
theorem wBalanced (r : Ru) (hb : bdR r) : PCalls Tryz.prog 16 [.agg (dRu r)] (.tup [dB (decide (rulE r = 0) && balB r.2), dI (rulE r)]) := by
 have c1 := wRCheckR r hb
 by_cases h : rulE r = 0
 · obtain ⟨h1, h2, h3⟩ := (rE_zero (tp := tmpB nameB) (ce := chE)).1 h
   have c2 := wBalances r h2 fun l hl => ⟨(chE_zero.1 (h3 l hl).2).1, fun c hc => ((hb.2 l hl).2.2 c hc).2⟩
   rw [h] at c1 ⊢
   rw [decide_eq_true rfl, Bool.true_and]
   obtain ⟨b, hbb⟩ : ∃ b, b = balB r.2 := ⟨_, rfl⟩
   rw [← hbb] at c2 ⊢
   obtain ⟨n, ls⟩ := r
   obtain ⟨L, hL⟩ : ∃ L : DV, L = .sl 3 (ls.map dLn) := ⟨_, rfl⟩
   simp only [dRu] at c1 c2
   rw [← hL] at c1 c2
   show PCalls Tryz.prog 16 [.agg [dI n, .sl 3 (ls.map dLn)]] _
   rw [← hL]
   clear hL hbb h h1 h2 h3 hb
   refine pcalls_of_pw Tryz.func16 rfl Tryz.ntmps16 Tryz.results16 (by simp) fun B w0 => ?_
   refine pzr (yK (cs := [_, _]) rfl rfl (yAd rfl (yAd rfl (yQ (pw_seq (pzr (yLa (ys := [_, _]) rfl rfl rfl rfl (yC (c1) rfl rfl (yAd rfl ?_))))))))); refine yQ (pzr (yMd rfl (yB rfl rfl rfl rfl (yQ (pw_cf rfl (pw_skip (pzr (yLa (ys := [_, _]) rfl rfl rfl rfl (yC (c2) rfl rfl ?_))))))))); refine yAd rfl (yAd rfl (yQ (pw_ret ?_)))
   exact q_ret _ (.tmp rfl (.tmp rfl .nil)) rfl
 · rw [decide_eq_false h, Bool.false_and]
   have t1 : (rulE r != 0) = true := by simp [h]
   obtain ⟨x, hx⟩ : ∃ b, b = rulE r := ⟨_, rfl⟩
   rw [← hx] at c1 t1 ⊢
   obtain ⟨n, ls⟩ := r
   obtain ⟨L, hL⟩ : ∃ L : DV, L = .sl 3 (ls.map dLn) := ⟨_, rfl⟩
   simp only [dRu] at c1
   rw [← hL] at c1
   show PCalls Tryz.prog 16 [.agg [dI n, .sl 3 (ls.map dLn)]] _
   rw [← hL]
   clear hL hx h hb
   refine pcalls_of_pw Tryz.func16 rfl Tryz.ntmps16 Tryz.results16 (by simp) fun B w0 => ?_
   refine pzr (yK (cs := [_, _]) rfl rfl (yAd rfl (yAd rfl (yQ (pw_seq (pzr (yLa (ys := [_, _]) rfl rfl rfl rfl (yC (c1) rfl rfl (yAd rfl ?_))))))))); refine yQ (pzr (yMd rfl (yB rfl rfl rfl rfl (yQ (q_then ?_))))); rw [t1]; refine pw_ct rfl (pzr (yMd rfl (yAd rfl (yAd rfl (yQ (pw_ret (q_then_ret ?_)))))))
   exact q_ret _ (.tmp rfl (.tmp rfl .nil)) rfl
end Go.Proofs.YtddfimjiihggmaaGreatDoor