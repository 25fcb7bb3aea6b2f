/- Walk: the reference reads texts of expressions. -/
import Derived.Test.YtddfimjiihggmaaGreatDoorB10
import Derived.Test.YtddfimjiihggmaaGreatDoorB9
import Derived.Test.YtddfimjiihggmaaGreatDoorB4
import Derived.Test.YtddfimjiihggmaaGreatDoorB7
import Derived.Test.YtddfimjiihggmaaGreatDoorB8
import Derived.Test.YtddfimjiihggmaaGreatDoorB5
import Derived.Test.YtddfimjiihggmaaGreatDoorB6
import Derived.Test.YtddfimjiihggmaaGreatDoorRows
import Derived.JoinedOf
import Derived.KernelRfl
set_option maxHeartbeats 16000000
set_option maxRecDepth 20000
namespace Go.Proofs.YtddfimjiihggmaaGreatDoor
namespace Px
open Go.RowKit
section
variable {P : Program} {B : Nat} {w0 : Cx} {Q Q' : Exit → PS → Prop} {st : PS} {sq : Bool} {ops : Array Oper} {K K' : PS → Prop} {rest : List Oper}
theorem YR.mono (h : YR P sq ops K rest st) (hk : ∀ s, K s → K' s) : YR P sq ops K' rest st := by
 induction h with
 | nil h => exact .nil (hk _ h)
 | op x ef hs ho hw _ ih => exact .op x ef hs ho hw ih
 | skip hd hw _ ih => exact .skip hd hw ih
 | any hq h => exact .any hq fun B w0 Q hQ => h B w0 Q fun s hs => hQ s (hk s hs)
theorem yr_join {b y : Code} (J : PS) (h2 : PW P B w0 y Q J) (h1 : YR P sq ops (PW P B w0 b (QThen (fun s => Le s J) Q)) rest st) : YR P sq ops (QThen (PW P B w0 (.seq b y) Q) Q' .normal) rest st := h1.mono fun _ hs => pw_seq (pw_join J h2 hs)
theorem yr_join2 {b y : Code} (J : PS) (h2 : PW P B w0 y Q J) (h1 : YR P sq ops (PW P B w0 b (QThen (fun s => Le s J) Q)) rest st) : YR P sq ops (QThen (PW P B w0 b (QThen (PW P B w0 y Q) Q)) Q' .normal) rest st := h1.mono fun _ hs => pw_join J h2 hs
end
end Px
open Go.RowKit Px
theorem prV_len {e : List Cf} (h : chE e = 0) (hf : ∀ c ∈ e, c.2.length ≤ 70000) : (prV e).length ≤ 1200000 := by
 obtain ⟨a1, a2⟩ := chE_zero.1 h
 rw [prV, if_pos h]
 split
 · simp
 · have h1 := prI_len (n := nf e) (fun p hp => by
    have q1 := nf_flen hf (p := p) hp
    obtain ⟨c, hc, q2⟩ := nf_name hp
    have q3 := nmB_len (a2 c hc).1
    rw [← q2]
    exact ⟨by omega, q3⟩) (nf e).length
   have := nf_len e
   omega
theorem wWsFb (l s : List UInt8) (hl : l.length ≤ 100000000000) (hs : s.length ≤ 100000000) (h0 : 0 < s.length) : PCx Tryz.prog 88 [.tx 4 bT 2, .d (dS s)] [(4, [.d (.val (.pointer none)), .ts uT 1 (l.map dY)])] [(uT, (l.map dY).length)] (.tup [dI s.length, .val .nilIface]) [(4, [.tx 4 bT 2, .ts uT 1 ((l ++ s).map dY)])] [(uT, ((l ++ s).map dY).length)] := by
 refine pcx_of_pw Tryz.func88 rfl Tryz.ntmps88 Tryz.results88 (by simp) fun B w0 => ?_
 refine pzr (yAd rfl (yAd rfl (yQ (pzr (yQm rfl ?_))))); refine yCx (wCcF l) rfl ⟨rfl, trivial⟩ ⟨rfl, trivial⟩ ?_ (hfit := by kernel_rfl)
 refine yQ (pzr (yQm rfl (yQm rfl (yQN rfl (yFb rfl (yLt rfl rfl rfl (yMd rfl ?_))))))); refine yTs (es2 := s.map dY) (es' := (l ++ s).map dY) (m := ((l ++ s).map dY).length) (by kernel_rfl) Tryz.underlying9 h0 rfl (by simp; omega) rfl rfl rfl rfl rfl (by simp) (by simp) ?_; refine yQN rfl (yFb rfl (ySt (cs' := [_, _]) rfl rfl rfl rfl (yQ (pzr (yMd rfl (yNs rfl (yAd rfl (yAd rfl (yQ ?_))))))))); refine pw_ret ?_
 exact q_x _ (.tmp rfl (.tmp rfl .nil)) rfl ⟨rfl, trivial⟩ ⟨rfl, trivial⟩
theorem wWsUb (l s : List UInt8) (hl : l.length ≤ 100000000000) (hs : s.length ≤ 100000000) (h0 : 0 < s.length) : PCx Tryz.prog 88 [.tx 4 bT 2, .d (dS s)] [(4, [.tx 4 bT 2, .ts uT 1 (l.map dY)])] [(uT, (l.map dY).length)] (.tup [dI s.length, .val .nilIface]) [(4, [.tx 4 bT 2, .ts uT 1 ((l ++ s).map dY)])] [(uT, ((l ++ s).map dY).length)] := by
 refine pcx_of_pw Tryz.func88 rfl Tryz.ntmps88 Tryz.results88 (by simp) fun B w0 => ?_
 refine pzr (yAd rfl (yAd rfl (yQ (pzr (yQm rfl ?_))))); refine yCx (wCcU l) rfl ⟨rfl, trivial⟩ ⟨rfl, trivial⟩ ?_ (hfit := by kernel_rfl)
 refine yQ (pzr (yQm rfl (yQm rfl (yQN rfl (yFb rfl (yLt rfl rfl rfl (yMd rfl ?_))))))); refine yTs (es2 := s.map dY) (es' := (l ++ s).map dY) (m := ((l ++ s).map dY).length) (by kernel_rfl) Tryz.underlying9 h0 rfl (by simp; omega) rfl rfl rfl rfl rfl (by simp) (by simp) ?_; refine yQN rfl (yFb rfl (ySt (cs' := [_, _]) rfl rfl rfl rfl (yQ (pzr (yMd rfl (yNs rfl (yAd rfl (yAd rfl (yQ ?_))))))))); refine pw_ret ?_
 exact q_x _ (.tmp rfl (.tmp rfl .nil)) rfl ⟨rfl, trivial⟩ ⟨rfl, trivial⟩
theorem wLenU (l : List UInt8) : PCx Tryz.prog 90 [.bx 4 0] [(4, [.tx 4 bT 2, .ts uT 1 (l.map dY)])] [(uT, (l.map dY).length)] (.d (dI (l.map dY).length)) [(4, [.tx 4 bT 2, .ts uT 1 (l.map dY)])] [(uT, (l.map dY).length)] := by
 refine pcx_of_pw Tryz.func90 rfl Tryz.ntmps90 Tryz.results90 (by simp) fun B w0 => ?_
 refine pzr (yAd rfl (yQ (pzr (yMb rfl (yNil rfl (yFb rfl (yLt rfl rfl rfl (yN rfl (yAd rfl ?_))))))))); refine yQ (pw_ret ?_)
 exact q_x _ (.tmp rfl .nil) rfl ⟨rfl, trivial⟩ ⟨rfl, trivial⟩
theorem wLenN : PCx Tryz.prog 90 [.bx 4 0] [(4, [.d (.val (.pointer none)), .d (.val (.slice none 0 0))])] [] (.d (dI 0)) [(4, [.d (.val (.pointer none)), .d (.val (.slice none 0 0))])] [] := by
 refine pcx_of_pw Tryz.func90 rfl Tryz.ntmps90 Tryz.results90 (by simp) fun B w0 => ?_
 refine pzr (yAd rfl (yQ (pzr (yMb rfl (yNil rfl (yFb rfl (yLd rfl rfl rfl (yNl rfl (yAd rfl ?_))))))))); refine yQ (pw_ret ?_)
 exact q_x _ (.tmp rfl .nil) rfl ⟨rfl, trivial⟩ trivial
abbrev bA4 : Nat → SV
 | 0 => .d (.val (.pointer none))
 | _ + 1 => .tx 4 bT 2
abbrev pnE (l : List Ru) : Int := prnE (tmpB nameB) chE prV l
abbrev pnT (l : List Ru) : Str := prnT (tmpB nameB) chE prV l
theorem lnsT_next {ls : List Ln} {k : Nat} {l : Ln} (h : ls[k]? = some l) : lnsT prV (ls.take (k + 1)) = lnsT prV (ls.take k) ++ (lnT prV l ++ [10]) := by
 rw [List.take_add_one, h]
 simp [lnsT]
theorem rulsT_next {l : List Ru} {k : Nat} {r : Ru} (h : l[k]? = some r) : rulsT prV (l.take (k + 1)) = rulsT prV (l.take k) ++ rulT prV r := by
 rw [List.take_add_one, h]
 simp [rulsT]
theorem rsE_next {l : List Ru} {k : Nat} {r : Ru} (h : l[k]? = some r) : rsE (tmpB nameB) chE (l.drop k) = if rulE r = 0 then rsE (tmpB nameB) chE (l.drop (k + 1)) else rulE r := by
 obtain ⟨h1, h2⟩ := List.getElem?_eq_some_iff.1 h
 rw [List.drop_eq_getElem_cons h1, h2, rsE]
theorem kwT_len (n : Int) : (kwT n).length ≤ 100 := by
 unfold kwT
 cases h : kndF n with
 | none => simp
 | some k =>
  have h2 : ∀ k ∈ kndL, k.2.1.length ≤ 100 := by decide
  exact h2 k (kndF_some h).1
theorem wPrintRu (l : List Ru) (hl : l.length ≤ 1000000) (hb : ∀ r ∈ l, bdR r) : PCalls Tryz.prog 39 [dRus l] (.tup [dS (pnT l), dI (pnE l)]) := by
 by_cases h1 : 64 < l.length
 · have t1 : decide (((l.map dRu).length : Int) > 64) = true := decide_eq_true (by rw [List.length_map]; omega)
   have e1 : pnE l = 4 := by rw [pnE, prnE, if_pos h1]
   have e2 : pnT l = [] := by rw [pnT, prnT, if_neg (show ¬ prnE (tmpB nameB) chE prV l = 0 from fun h => by rw [show prnE (tmpB nameB) chE prV l = 4 from e1] at h; cases h)]
   rw [e1, e2]
   refine pcalls_of_pw Tryz.func39 rfl Tryz.ntmps39 Tryz.results39 (by simp) fun B w0 => ?_
   refine pzr (yAd rfl (yAd rfl (yQ (pw_seq (pzr (yMd rfl (yN rfl (yB rfl rfl rfl rfl (yQ ?_))))))))); refine q_then ?_; rw [t1]; refine pw_ct rfl (pzr (yAd rfl (yAd rfl (yQ (pw_ret (q_then_ret ?_))))))
   exact q_ret _ (.tmp rfl (.tmp rfl .nil)) rfl
 have t1 : decide (((l.map dRu).length : Int) > 64) = false := decide_eq_false (by rw [List.length_map]; omega)
 by_cases h0 : l = []
 · subst h0
   refine pcalls_of_pw Tryz.func39 rfl Tryz.ntmps39 Tryz.results39 (by simp) fun B w0 => ?_
   refine pzr (yAd rfl (yAd rfl (yQ (pw_seq (pzr (yMd rfl (yN rfl (yB rfl rfl rfl rfl (yQ ?_))))))))); refine pw_cf rfl (pw_skip (pzr (yQa rfl (yQ ?_)))); refine pw_tx 4 rfl ?_; refine pw_seq (pzr (yMd rfl (yN rfl (yMd rfl (yQ (pw_block ?_)))))); rw [t1]
   refine pw_loop (fun _ : Unit => ⟨67, [(4, .bx 4 0), (17, .d (dI 0)), (18, .d (dI 0))], [(4, [.d (.val (.pointer none)), .d (.val (.slice none 0 0))])], []⟩) (fun _ => True) (fun _ => 0) () trivial ⟨rfl, ⟨.refl _, .refl _, .refl _, trivial⟩, ⟨⟨_, rfl, lesC_refl _⟩, trivial⟩, trivial, rfl⟩ ?_
   rintro - -
   refine pzr (yB rfl rfl rfl rfl (yQ (pw_seq (pw_cf rfl (pw_exit (pw_seq (pzr ?_))))))); refine yCx wLenN rfl ⟨rfl, trivial⟩ trivial ?_ (hfit := by kernel_rfl); refine yB rfl rfl rfl rfl (yQ (pw_cf rfl (pw_skip (pzr (yStr0 Tryz.bst bExtraS rfl rfl rfl (yAd rfl (yAd rfl (yQ (pw_ret ?_)))))))))
   exact q_ret _ (.tmp rfl (.tmp rfl .nil)) rfl
 have hpE : pnE l = if rsE (tmpB nameB) chE l ≠ 0 then rsE (tmpB nameB) chE l else if 65536 < (rulsT prV l).length then 4 else 0 := by rw [pnE, prnE, if_neg h1]
 have hpT : pnT l = if pnE l = 0 then rulsT prV l else [] := rfl
 obtain ⟨E, hE⟩ : ∃ E, E = pnE l := ⟨_, rfl⟩
 obtain ⟨T, hT⟩ : ∃ T, T = pnT l := ⟨_, rfl⟩
 rw [← hE] at hpE hpT
 rw [← hT] at hpT
 rw [← hE, ← hT]
 clear hE hT
 refine pcalls_of_pw Tryz.func39 rfl Tryz.ntmps39 Tryz.results39 (by simp) fun B w0 => ?_
 refine pzr (yAd rfl (yAd rfl (yQ (pw_seq (pzr (yMd rfl (yN rfl (yB rfl rfl rfl rfl (yQ ?_))))))))); refine q_then ?_; rw [t1]; refine pw_cf rfl (pw_skip (pzr (yQa rfl (yQ ?_)))); refine pw_tokb 4 1 uT 1 rfl rfl rfl rfl ?_; refine pw_seq (pzr (yMd rfl (yN rfl (yMd rfl (yQ (pw_block ?_)))))); refine pw_loop (fun i : Nat => ⟨67, [(4, .tx 4 bT 2), (16, .d (dRus l)), (17, .d (dI l.length)), (18, .d (dI i))], [(4, [bA4 i, .ts uT 1 ((rulsT prV (l.take i)).map dY)])], [(uT, ((rulsT prV (l.take i)).map dY).length)]⟩) (fun i => i ≤ l.length ∧ rsE (tmpB nameB) chE (l.drop i) = rsE (tmpB nameB) chE l ∧ (rulsT prV (l.take i)).length ≤ i * 200000000) (fun i => l.length - i) 0 ⟨Nat.zero_le _, rfl, by simp [rulsT]⟩
  ⟨rfl, ⟨.refl _, .refl _, .of_eq (congrArg (fun n : Nat => SV.d (dI n)) (by simp)), .refl _, trivial⟩, ⟨⟨_, rfl, .refl _, .refl _, trivial⟩, trivial⟩, ⟨rfl, trivial⟩, rfl⟩ ?_
 rintro i ⟨hi, hI, hln⟩
 rcases Nat.lt_or_ge i l.length with h | h
 rotate_left
 · have u1 : decide ((i : Int) < (l.length : Int)) = false := decide_eq_false (by omega)
   obtain rfl : i = l.length := by omega
   rw [List.drop_length] at hI
   rw [← hI, show rsE (tmpB nameB) chE [] = 0 from rfl, if_neg (by simp)] at hpE
   obtain ⟨j, hj⟩ : ∃ j, l.length = j + 1 := ⟨l.length - 1, by have := List.length_pos_iff.2 h0; omega⟩
   rw [show bA4 l.length = .tx 4 bT 2 by rw [hj]]
   rw [List.take_length]
   have hr0 : rulsT prV l ≠ [] := by
    cases l with
    | nil => exact absurd rfl h0
    | cons r l => simp [rulsT, rulT]
   obtain ⟨r, hr⟩ : ∃ r, r = rulsT prV l := ⟨_, rfl⟩
   rw [← hr] at hr0 hpE hpT ⊢
   by_cases h2 : 65536 < r.length
   · have t2 : decide (((r.map dY).length : Int) > 65536) = true := decide_eq_true (by rw [List.length_map]; omega)
     rw [if_pos h2] at hpE
     subst hpE
     rw [if_neg (by omega)] at hpT
     subst hpT
     refine pw_tx 4 rfl ?_; refine pzr (yB rfl rfl rfl rfl (yQ (pw_seq ?_))); rw [u1]; refine pw_cf rfl (pw_exit (pw_seq (pzr ?_))); refine yCx (wLenU r) rfl ⟨rfl, trivial⟩ ⟨rfl, trivial⟩ ?_ (hfit := by kernel_rfl); refine yB rfl rfl rfl rfl (yQ (q_then ?_)); rw [t2]; refine pw_ct rfl (pzr (yAd rfl (yAd rfl (yQ (pw_ret (q_then_ret ?_))))))
     exact q_ret _ (.tmp rfl (.tmp rfl .nil)) rfl
   · have t2 : decide (((r.map dY).length : Int) > 65536) = false := decide_eq_false (by rw [List.length_map]; omega)
     rw [if_neg h2] at hpE
     subst hpE
     rw [if_pos rfl] at hpT
     rw [hpT]
     clear hpT
     refine pw_tx 4 rfl ?_; refine pzr (yB rfl rfl rfl rfl (yQ (pw_seq ?_))); rw [u1]; refine pw_cf rfl (pw_exit (pw_seq (pzr ?_))); refine yCx (wLenU r) rfl ⟨rfl, trivial⟩ ⟨rfl, trivial⟩ ?_ (hfit := by kernel_rfl); refine yB rfl rfl rfl rfl (yQ (q_then ?_)); rw [t2]; refine pw_cf rfl (pw_skip (pzr (yStr (l := r) Tryz.bst bExtraS rfl rfl hr0 rfl rfl rfl rfl (yAd rfl (yAd rfl (yQ (pw_ret ?_)))))))
     exact q_ret _ (.tmp rfl (.tmp rfl .nil)) rfl
 have u1 : decide ((i : Int) < (l.length : Int)) = true := decide_eq_true (by omega)
 obtain ⟨⟨n, ls⟩, hx⟩ : ∃ a, l[i]? = some a := ⟨_, List.getElem?_eq_getElem h⟩
 have hbr := hb _ (List.mem_of_getElem? hx)
 have ex := ix dRu l i i (n, ls) rfl hx
 have hw := wrapI ((i : Int) + 1) (by omega)
 have c1 := wRCheckR (n, ls) hbr
 have hnx := rulsT_next hx
 rw [rsE_next hx] at hI
 have arith : l.length - (i + 1) < l.length - i := by omega
 by_cases e1 : rulE (n, ls) = 0
 rotate_left
 · have t2 : (rulE (n, ls) != 0) = true := by simp [e1]
   rw [if_neg e1] at hI
   rw [← hI, if_pos e1] at hpE
   rw [hpE] at hpT
   rw [if_neg e1] at hpT
   obtain ⟨x, hx⟩ : ∃ x, x = rulE (n, ls) := ⟨_, rfl⟩
   rw [← hx] at c1 t2 hpE
   subst hpE hpT
   obtain ⟨P, hP⟩ : ∃ P, P = rulsT prV (l.take i) := ⟨_, rfl⟩
   rw [← hP]
   refine pzr (yB rfl rfl rfl rfl (yQ (pw_seq ?_))); rw [u1]; refine pw_ct rfl (pw_skip (pw_seq (pw_block (pzr (yW ex (by omega) rfl rfl (yLs (ys := [_, _]) rfl rfl rfl (yZ (cs := [_, _]) rfl rfl (yS (cs' := [_, _]) rfl rfl rfl rfl rfl (yQ ?_))))))))); refine pw_seq (pzr (yLa (ys := [_, _]) rfl rfl rfl rfl (yC (c1) rfl rfl (yAd rfl (yQ (pzr (yMd rfl (yB rfl rfl rfl rfl (yQ ?_))))))))); refine q_then ?_; rw [t2]; refine pw_ct rfl (pzr (yMd rfl (yAd rfl (yAd rfl (yQ (pw_ret (q_then_ret (q_blk_ret (q_then_ret ?_))))))))); refine q_then_ret (q_blk_ret (q_then_ret ?_))
   exact q_ret _ (.tmp rfl (.tmp rfl .nil)) rfl
 rw [if_pos e1] at hI
 obtain ⟨-, hll, hlw⟩ := (rE_zero (tp := tmpB nameB) (ce := chE)).1 e1
 have hll : ls.length ≤ 64 := hll
 rw [e1] at c1
 have k0 := wKinds
 obtain ⟨hg, hh⟩ := iget_knd n
 obtain ⟨M, hM⟩ : ∃ M, M = kndM := ⟨_, rfl⟩
 rw [← hM] at k0 hg
 clear hM hh
 have hkl := kwT_len n
 have hru : rulT prV (n, ls) = (([111, 110, 32] ++ kwT n) ++ [10]) ++ lnsT prV ls := by rw [rulT, onT]; rfl
 obtain ⟨kw, hkw⟩ : ∃ w, w = kwT n := ⟨_, rfl⟩
 obtain ⟨kg, hkg⟩ : ∃ w, w = sgK n := ⟨_, rfl⟩
 obtain ⟨kn, hkn⟩ : ∃ w, w = nmsK n := ⟨_, rfl⟩
 rw [← hkw, ← hkg, ← hkn] at hg
 rw [← hkw] at hkl hru
 clear hkw hkg hkn
 obtain ⟨P, hP⟩ : ∃ P, P = rulsT prV (l.take i) := ⟨_, rfl⟩
 rw [← hP] at hnx hln ⊢
 rw [hru] at hnx
 clear hP hru
 obtain ⟨W, hW⟩ : ∃ W : Str, W = ([111, 110, 32] ++ kw) ++ [10] := ⟨_, rfl⟩
 have hWl : W.length ≤ 104 := by rw [hW]; simp; omega
 have hW0 : 0 < W.length := by rw [hW]; simp
 have hi64 : i ≤ 64 := by omega
 refine pzr (yB rfl rfl rfl rfl (yQ (pw_seq ?_))); rw [u1]; refine pw_ct rfl (pw_skip (pw_seq (pw_block (pzr (yW ex (by omega) rfl rfl (yLs (ys := [_, _]) rfl rfl rfl (yZ (cs := [_, _]) rfl rfl (yS (cs' := [_, _]) rfl rfl rfl rfl rfl (yQ ?_))))))))); refine pw_seq (pzr (yLa (ys := [_, _]) rfl rfl rfl rfl (yC (c1) rfl rfl (yAd rfl (yQ (pzr (yMd rfl (yB rfl rfl rfl rfl (yQ ?_))))))))); refine pw_cf rfl (pw_skip (pw_seq ?_)); refine pw_drawl (id := 10) [_, _, _, _, _, _, _] _ rfl Tryz.mixed (by kernel_rfl) (by kernel_rfl) ?_; refine yC (k0) rfl rfl (yFb rfl (yLd rfl rfl rfl (yKeI rfl rfl hg (yE rfl rfl ?_)))); refine yBsa (l1 := [111, 110, 32]) (l2 := kw) (by simp; omega) rfl rfl ?_; refine yBsa (l1 := [111, 110, 32] ++ kw) (l2 := [10]) (by simp; omega) rfl rfl ?_; refine yQ ?_
 first | refine yr_join ⟨67, [(4, .tx 4 bT 2), (16, .d (dRus l)), (17, .d (dI l.length)), (18, .d (dI i)), (36, .d (.sl 3 (ls.map dLn))), (37, .d (dI ls.length)), (38, .d (dI 0))], [(4, [.tx 4 bT 2, .ts uT 1 ((P ++ W).map dY)])], [(uT, ((P ++ W).map dY).length)]⟩ ?_ ?_ | refine yr_join2 ⟨67, [(4, .tx 4 bT 2), (16, .d (dRus l)), (17, .d (dI l.length)), (18, .d (dI i)), (36, .d (.sl 3 (ls.map dLn))), (37, .d (dI ls.length)), (38, .d (dI 0))], [(4, [.tx 4 bT 2, .ts uT 1 ((P ++ W).map dY)])], [(uT, ((P ++ W).map dY).length)]⟩ ?_ ?_
 rotate_left
 · rw [← hW]
   cases i with
   | zero =>
    refine yCx (wWsFb P W (by omega) (by omega) hW0) rfl ⟨rfl, trivial⟩ ⟨rfl, trivial⟩ ?_ (hfit := by kernel_rfl); refine yQ (pw_region (yFb rfl (yLd rfl rfl rfl (yN rfl (yMd rfl (yQ (q_then ?_)))))))
    exact ⟨rfl, ⟨.refl _, .refl _, .refl _, .refl _, .refl _, .of_eq (congrArg (fun n : Nat => SV.d (dI n)) (by simp)), .refl _, trivial⟩, ⟨⟨_, rfl, lesC_refl _⟩, trivial⟩, ⟨rfl, trivial⟩, rfl⟩
   | succ i =>
    refine yCx (wWsUb P W (by omega) (by omega) hW0) rfl ⟨rfl, trivial⟩ ⟨rfl, trivial⟩ ?_ (hfit := by kernel_rfl); refine yQ (pw_region (yFb rfl (yLd rfl rfl rfl (yN rfl (yMd rfl (yQ (q_then ?_)))))))
    exact ⟨rfl, ⟨.refl _, .refl _, .refl _, .refl _, .refl _, .of_eq (congrArg (fun n : Nat => SV.d (dI n)) (by simp)), .refl _, trivial⟩, ⟨⟨_, rfl, lesC_refl _⟩, trivial⟩, ⟨rfl, trivial⟩, rfl⟩
 rw [← hW] at hnx
 clear c1
 have hPW : (P ++ W).length ≤ i * 200000000 + 104 := by simp; omega
 obtain ⟨V, hV⟩ : ∃ V, V = P ++ W := ⟨_, rfl⟩
 rw [← List.append_assoc, ← hV] at hnx
 rw [← hV] at hPW ⊢
 clear hV hW k0 hg
 refine pw_block ?_; refine pw_loop (fun k : Nat => ⟨67, [(4, .tx 4 bT 2), (16, .d (dRus l)), (17, .d (dI l.length)), (18, .d (dI i)), (36, .d (.sl 3 (ls.map dLn))), (37, .d (dI ls.length)), (38, .d (dI k))], [(4, [.tx 4 bT 2, .ts uT 1 ((V ++ lnsT prV (ls.take k)).map dY)])], [(uT, ((V ++ lnsT prV (ls.take k)).map dY).length)]⟩) (fun k => k ≤ ls.length ∧ (V ++ lnsT prV (ls.take k)).length ≤ i * 200000000 + 104 + k * 3000000) (fun k => ls.length - k) 0 ⟨Nat.zero_le _, by simp [lnsT]; omega⟩
  ⟨rfl, ⟨.refl _, .refl _, .refl _, .refl _, .refl _, .refl _, .refl _, trivial⟩, ⟨⟨_, rfl, .refl _, .of_eq (by simp [lnsT]), trivial⟩, trivial⟩, ⟨(by simp [lnsT] <;> rfl), trivial⟩, rfl⟩ ?_
 rintro k ⟨hk, hkl2⟩
 rcases Nat.lt_or_ge k ls.length with h2 | h2
 rotate_left
 · have u2 : decide ((k : Int) < (ls.length : Int)) = false := decide_eq_false (by omega)
   rw [List.take_of_length_le h2] at hkl2 ⊢
   have hnl : (V ++ lnsT prV ls).length ≤ (i + 1) * 200000000 := by omega
   rw [← hnx] at hnl ⊢
   refine pzr (yB rfl rfl rfl rfl (yQ (pw_seq ?_))); rw [u2]; refine pw_cf rfl (pw_exit (pw_region (yB rfl rfl rfl rfl (yMd rfl (yQ (q_then ?_))))))
   exact ⟨i + 1, ⟨h, hI, hnl⟩, arith, rfl, ⟨.refl _, .refl _, .refl _, .of_eq (congrArg (fun n => SV.d (dI n)) hw), trivial⟩, ⟨⟨_, rfl, lesC_refl _⟩, trivial⟩, ⟨rfl, trivial⟩, rfl⟩
 have u2 : decide ((k : Int) < (ls.length : Int)) = true := decide_eq_true (by omega)
 obtain ⟨⟨a, s, e⟩, hxk⟩ : ∃ a, ls[k]? = some a := ⟨_, List.getElem?_eq_getElem h2⟩
 obtain ⟨hba, hbe1, hbe2⟩ := hbr.2 _ (List.mem_of_getElem? hxk)
 obtain ⟨-, hce⟩ := hlw _ (List.mem_of_getElem? hxk)
 simp only at hba hbe1 hbe2 hce
 have ek := ix dLn ls k k (a, s, e) rfl hxk
 have hw2 := wrapI ((k : Int) + 1) (by omega)
 have c2 := wPrintE e hbe1 fun c hc => (hbe2 c hc).2
 rw [hce] at c2
 have hpv := prV_len hce fun c hc => (hbe2 c hc).2
 have hnk := lnsT_next hxk
 rw [show lnT prV (a, s, e) = sdW s ++ 32 :: (a ++ 32 :: prV e) from rfl] at hnk
 obtain ⟨p, hp⟩ : ∃ p, p = prV e := ⟨_, rfl⟩
 rw [← hp] at c2 hpv hnk
 obtain ⟨Q, hQ⟩ : ∃ Q, Q = V ++ lnsT prV (ls.take k) := ⟨_, rfl⟩
 rw [← hQ] at hkl2 ⊢
 have arith2 : ls.length - (k + 1) < ls.length - k := by omega
 have hk64 : k ≤ 64 := by omega
 cases s with
 | true =>
  have hfin : V ++ lnsT prV (ls.take (k + 1)) = Q ++ ((((([99, 114, 101, 100, 105, 116, 32] ++ a) ++ [32]) ++ p)) ++ [10]) := by
   rw [hnk, hQ, show sdW true = [99, 114, 101, 100, 105, 116] from rfl]
   simp
  have hll2 : (V ++ lnsT prV (ls.take (k + 1))).length ≤ i * 200000000 + 104 + (k + 1) * 3000000 := by rw [hfin]; simp; omega
  clear hnk hQ hp
  refine pzr (yB rfl rfl rfl rfl (yQ (pw_seq ?_))); rw [u2]; refine pw_ct rfl (pw_skip (pw_seq (pw_block (pzr (yW ek (by omega) rfl rfl (yLs (ys := [_, _, _]) rfl rfl rfl (yZ (cs := [_, _, _]) rfl rfl (yS (cs' := [_, _, _]) rfl rfl rfl rfl rfl (yQ ?_))))))))); refine pzr (yAd rfl (yQ (pw_seq (pzr (yFb rfl (yLd rfl rfl rfl (yQ (pw_ct rfl (pw_region ?_))))))))); refine yAd rfl (yQ (pzr (yFb rfl (yLd rfl rfl rfl (yC (c2) rfl rfl (yMp rfl (yX rfl rfl (yX rfl rfl (yAd rfl ?_))))))))); refine yAd rfl (yQ (pw_seq (pzr (yMd rfl (yB rfl rfl rfl rfl (yQ (pw_cf rfl (pw_skip (pw_region ?_))))))))); refine yMd rfl (yFb rfl (yLd rfl rfl rfl ?_)); refine yBsa (l1 := [99, 114, 101, 100, 105, 116, 32]) (l2 := a) (by simp; omega) rfl rfl ?_; refine yBsa (l1 := [99, 114, 101, 100, 105, 116, 32] ++ a) (l2 := [32]) (by simp; omega) rfl rfl ?_; refine yMd rfl ?_; refine yBsa (l1 := ([99, 114, 101, 100, 105, 116, 32] ++ a) ++ [32]) (l2 := p) (by simp; omega) rfl rfl ?_; refine yBsa (l1 := (([99, 114, 101, 100, 105, 116, 32] ++ a) ++ [32]) ++ p) (l2 := [10]) (by simp; omega) rfl rfl ?_; refine yCx (wWsUb Q (((([99, 114, 101, 100, 105, 116, 32] ++ a) ++ [32]) ++ p) ++ [10]) (by omega) (by simp; omega) (by simp)) rfl ⟨rfl, trivial⟩ ⟨rfl, trivial⟩ ?_ (hfit := by kernel_rfl); refine yQ (pw_region (yB rfl rfl rfl rfl (yMd rfl (yQ (q_then ?_)))))
  exact ⟨k + 1, ⟨h2, hll2⟩, arith2, rfl, ⟨.refl _, .refl _, .refl _, .refl _, .refl _, .refl _, .of_eq (congrArg (fun n => SV.d (dI n)) hw2), trivial⟩, ⟨⟨_, rfl, .refl _, .of_eq (by rw [hfin]), trivial⟩, trivial⟩, ⟨(by rw [hfin] <;> rfl), trivial⟩, rfl⟩
 | false =>
  have hfin : V ++ lnsT prV (ls.take (k + 1)) = Q ++ ((((([100, 101, 98, 105, 116, 32] ++ a) ++ [32]) ++ p)) ++ [10]) := by
   rw [hnk, hQ, show sdW false = [100, 101, 98, 105, 116] from rfl]
   simp
  have hll2 : (V ++ lnsT prV (ls.take (k + 1))).length ≤ i * 200000000 + 104 + (k + 1) * 3000000 := by rw [hfin]; simp; omega
  clear hnk hQ hp
  refine pzr (yB rfl rfl rfl rfl (yQ (pw_seq ?_))); rw [u2]; refine pw_ct rfl (pw_skip (pw_seq (pw_block (pzr (yW ek (by omega) rfl rfl (yLs (ys := [_, _, _]) rfl rfl rfl (yZ (cs := [_, _, _]) rfl rfl (yS (cs' := [_, _, _]) rfl rfl rfl rfl rfl (yQ ?_))))))))); refine pzr (yAd rfl (yQ (pw_seq (pzr (yFb rfl (yLd rfl rfl rfl (yQ (pw_cf rfl (pw_skip ?_))))))))); refine pzr (yFb rfl (yLd rfl rfl rfl (yC (c2) rfl rfl (yMp rfl (yX rfl rfl (yX rfl rfl (yAd rfl (yAd rfl (yQ ?_))))))))); refine pw_seq (pzr (yMd rfl (yB rfl rfl rfl rfl (yQ (pw_cf rfl (pw_skip (pw_region (yMd rfl (yFb rfl ?_))))))))); refine yLd rfl rfl rfl ?_; refine yBsa (l1 := [100, 101, 98, 105, 116, 32]) (l2 := a) (by simp; omega) rfl rfl ?_; refine yBsa (l1 := [100, 101, 98, 105, 116, 32] ++ a) (l2 := [32]) (by simp; omega) rfl rfl ?_; refine yMd rfl ?_; refine yBsa (l1 := ([100, 101, 98, 105, 116, 32] ++ a) ++ [32]) (l2 := p) (by simp; omega) rfl rfl ?_; refine yBsa (l1 := (([100, 101, 98, 105, 116, 32] ++ a) ++ [32]) ++ p) (l2 := [10]) (by simp; omega) rfl rfl ?_; refine yCx (wWsUb Q (((([100, 101, 98, 105, 116, 32] ++ a) ++ [32]) ++ p) ++ [10]) (by omega) (by simp; omega) (by simp)) rfl ⟨rfl, trivial⟩ ⟨rfl, trivial⟩ ?_ (hfit := by kernel_rfl); refine yQ (pw_region (yB rfl rfl rfl rfl (yMd rfl (yQ (q_then ?_)))))
  exact ⟨k + 1, ⟨h2, hll2⟩, arith2, rfl, ⟨.refl _, .refl _, .refl _, .refl _, .refl _, .refl _, .of_eq (congrArg (fun n => SV.d (dI n)) hw2), trivial⟩, ⟨⟨_, rfl, .refl _, .of_eq (by rw [hfin]), trivial⟩, trivial⟩, ⟨(by rw [hfin] <;> rfl), trivial⟩, rfl⟩
def grtC (c : Cf) : Bool := decide (30 < c.1.length) || decide (13 < c.2.length)
def grtN (l : Ln) : Bool := decide (60 < l.1.length) || (decide (6 < l.2.2.length) && decide (l.2.2.length ≤ 16)) || decide (18 < l.2.2.length) || l.2.2.any grtC
def grtR (r : Ru) : Bool := (decide (6 < r.2.length) && decide (r.2.length ≤ 64)) || decide (66 < r.2.length) || r.2.any grtN
def grtL (l : List Ru) : Bool := (decide (20 < l.length) && decide (l.length ≤ 64)) || decide (66 < l.length) || l.any grtR
theorem any_next {α : Type} {p : α → Bool} {l : List α} {i : Nat} {x : α} (h : l[i]? = some x) : (l.drop i).any p = (p x || (l.drop (i + 1)).any p) := by
 obtain ⟨h1, h2⟩ := List.getElem?_eq_some_iff.1 h
 rw [List.drop_eq_getElem_cons h1, h2, List.any_cons]
theorem wLongF (a : Str) : PCalls Tryz.prog 106 [dS a] (.d (dB (decide (13 < a.length)))) := by
 have e : decide (13 < a.length) = decide ((a.length : Int) > 13) := decide_eq_decide.2 (by omega)
 rw [e]
 refine pcalls_of_pw Tryz.func106 rfl Tryz.ntmps106 Tryz.results106 (by simp) fun B w0 => ?_
 refine pzr (yAd rfl (yQ (pzr (yMd rfl (yNs rfl (yB rfl rfl rfl rfl (yAd rfl (yQ (pw_ret ?_)))))))))
 exact q_ret _ (.tmp rfl .nil) rfl
theorem wGreatR (l : List Ru) : PCalls Tryz.prog 55 [dRus l] (.d (dB (grtL l))) := by
 have d1 : grtL l = ((decide (20 < l.length) && decide (l.length ≤ 64)) || decide (66 < l.length) || l.any grtR) := rfl
 obtain ⟨G, hG⟩ : ∃ G, G = grtL l := ⟨_, rfl⟩
 rw [← hG] at d1 ⊢
 clear hG
 by_cases hc2 : (20 < l.length ∧ l.length ≤ 64) ∨ 66 < l.length
 · have t1 : decide (((l.map dRu).length : Int) > 20) = true := decide_eq_true (by rw [List.length_map]; omega)
   have hg : G = true := by
    rw [d1]
    rcases hc2 with h | h
    · rw [decide_eq_true h.1, decide_eq_true h.2]; simp
    · rw [decide_eq_true h]; simp
   subst hg
   by_cases h2 : l.length ≤ 64
   · have t2 : decide (((l.map dRu).length : Int) ≤ 64) = true := decide_eq_true (by rw [List.length_map]; omega)
     refine pcalls_of_pw Tryz.func55 rfl Tryz.ntmps55 Tryz.results55 (by simp) fun B w0 => ?_
     refine pzr (yAd rfl (yQ (pw_seq (pzr (yMd rfl (yN rfl (yB rfl rfl rfl rfl (yMd rfl ?_)))))))); rw [t1]
     refine yMd rfl (yN rfl (yB rfl rfl rfl rfl (yPd rfl rfl (yMd rfl ?_)))); rw [t2]; refine yO rfl (yO rfl (yO rfl (yPd rfl rfl (yQ (pw_ct rfl (pzr (yAd rfl (yQ (pw_ret ?_))))))))); refine q_then_ret ?_
     exact q_ret _ (.tmp rfl .nil) rfl
   · have t2 : decide (((l.map dRu).length : Int) ≤ 64) = false := decide_eq_false (by rw [List.length_map]; omega)
     have t3 : decide (((l.map dRu).length : Int) > 66) = true := decide_eq_true (by rw [List.length_map]; omega)
     refine pcalls_of_pw Tryz.func55 rfl Tryz.ntmps55 Tryz.results55 (by simp) fun B w0 => ?_
     refine pzr (yAd rfl (yQ (pw_seq (pzr (yMd rfl (yN rfl (yB rfl rfl rfl rfl (yMd rfl ?_)))))))); rw [t1]
     refine yMd rfl (yN rfl (yB rfl rfl rfl rfl (yPd rfl rfl (yMd rfl ?_)))); rw [t2]; refine yMd rfl (yN rfl (yB rfl rfl rfl rfl (yVd rfl rfl (yQ (q_then ?_))))); rw [t3]; refine pw_ct rfl (pzr (yAd rfl (yQ (pw_ret (q_then_ret ?_)))))
     exact q_ret _ (.tmp rfl .nil) rfl
 have hg : l.any grtR = G := by
  rw [d1]
  by_cases h1 : 20 < l.length
  · rw [decide_eq_true h1, decide_eq_false (show ¬ l.length ≤ 64 by omega), decide_eq_false (show ¬ 66 < l.length by omega)]; simp
  · rw [decide_eq_false h1, decide_eq_false (show ¬ 66 < l.length by omega)]; simp
 clear d1
 refine pcalls_of_pw Tryz.func55 rfl Tryz.ntmps55 Tryz.results55 (by simp) fun B w0 => ?_
 refine pzr (yAd rfl (yQ (pw_seq (pzr (yMd rfl (yN rfl (yB rfl rfl rfl rfl (yMd rfl ?_))))))))
 first | refine yr_join ⟨115, [(0, .d (dRus l))], [], []⟩ ?_ ?_ | refine yr_join2 ⟨115, [(0, .d (dRus l))], [], []⟩ ?_ ?_
 rotate_left
 · have t3 : decide (((l.map dRu).length : Int) > 66) = false := decide_eq_false (by rw [List.length_map]; omega)
   by_cases h1 : 20 < l.length
   · have t1 : decide (((l.map dRu).length : Int) > 20) = true := decide_eq_true (by rw [List.length_map]; omega)
     have t2 : decide (((l.map dRu).length : Int) ≤ 64) = false := decide_eq_false (by rw [List.length_map]; omega)
     rw [t1]; refine yMd rfl ?_; refine yN rfl ?_; refine yB rfl rfl rfl rfl ?_; refine yPd rfl rfl ?_; refine yMd rfl ?_; rw [t2]; refine yMd rfl ?_; refine yN rfl ?_; refine yB rfl rfl rfl rfl ?_; refine yVd rfl rfl ?_; refine yQ ?_
     rw [t3]; refine pw_cf rfl ?_; refine pw_skip ?_; refine q_then ?_
     exact ⟨rfl, ⟨.refl _, trivial⟩, trivial, trivial, rfl⟩
   · have t1 : decide (((l.map dRu).length : Int) > 20) = false := decide_eq_false (by rw [List.length_map]; omega)
     rw [t1]; refine yO rfl ?_; refine yO rfl ?_; refine yO rfl ?_; refine yVd rfl rfl ?_; refine yMd rfl ?_; refine yMd rfl ?_; refine yN rfl ?_; refine yB rfl rfl rfl rfl ?_; refine yVd rfl rfl ?_; refine yQ ?_; rw [t3]
     refine pw_cf rfl (pw_skip (q_then ?_))
     exact ⟨rfl, ⟨.refl _, trivial⟩, trivial, trivial, rfl⟩
 have hl : l.length ≤ 66 := by omega
 clear hc2
 refine pw_seq (pzr (yAd rfl (yQ (pw_block ?_)))); refine pw_loop (fun i : Nat => ⟨115, [(0, .d (dRus l)), (3, .d (dI i))], [], []⟩) (fun i => i ≤ l.length ∧ (l.drop i).any grtR = G) (fun i => l.length - i) 0 ⟨Nat.zero_le _, hg⟩
  ⟨rfl, ⟨.refl _, .refl _, trivial⟩, trivial, trivial, rfl⟩ ?_
 rintro i ⟨hi, hI⟩
 clear hg
 rcases Nat.lt_or_ge i l.length with h | h
 rotate_left
 · have u1 : decide ((i : Int) < ((l.map dRu).length : Int)) = false := decide_eq_false (by rw [List.length_map]; omega)
   rw [List.drop_eq_nil_of_le h] at hI
   subst hI
   refine pw_seq (pzr (yMd rfl (yMd rfl (yN rfl (yB rfl rfl rfl rfl (yQ (q_then ?_))))))); rw [u1]; refine pw_cf rfl (pw_exit (pzr (yAd rfl (yQ (pw_ret ?_)))))
   exact q_ret _ (.tmp rfl .nil) rfl
 have u1 : decide ((i : Int) < ((l.map dRu).length : Int)) = true := decide_eq_true (by rw [List.length_map]; omega)
 obtain ⟨⟨n, ls⟩, hr⟩ : ∃ a, l[i]? = some a := ⟨_, List.getElem?_eq_getElem h⟩
 have ex := ix dRu l i i (n, ls) rfl hr
 have hw := wrapI ((i : Int) + 1) (by omega)
 rw [any_next hr] at hI
 have d2 : grtR (n, ls) = ((decide (6 < ls.length) && decide (ls.length ≤ 64)) || decide (66 < ls.length) || ls.any grtN) := rfl
 rw [d2] at hI
 clear d2
 have arith : l.length - (i + 1) < l.length - i := by omega
 obtain ⟨R, hR⟩ : ∃ R, R = (l.drop (i + 1)).any grtR := ⟨_, rfl⟩
 rw [← hR] at hI
 by_cases hc2 : (6 < ls.length ∧ ls.length ≤ 64) ∨ 66 < ls.length
 · have t1 : decide (((ls.map dLn).length : Int) > 6) = true := decide_eq_true (by rw [List.length_map]; omega)
   have hg : G = true := by
    rw [← hI]
    rcases hc2 with h | h
    · rw [decide_eq_true h.1, decide_eq_true h.2]; simp
    · rw [decide_eq_true h]; simp
   subst hg
   by_cases h2 : ls.length ≤ 64
   · have t2 : decide (((ls.map dLn).length : Int) ≤ 64) = true := decide_eq_true (by rw [List.length_map]; omega)
     refine pw_seq (pzr (yMd rfl (yMd rfl (yN rfl (yB rfl rfl rfl rfl (yQ (q_then ?_))))))); rw [u1]; refine pw_ct rfl (pw_skip (pw_seq (pw_block (pw_seq (pzr (yMd rfl (yMd rfl (yW ex (by omega) rfl rfl (yFr rfl rfl ?_))))))))); refine yLr rfl rfl (yN rfl (yB rfl rfl rfl rfl (yMd rfl ?_))); rw [t1]; refine yMd rfl (yMd rfl (yW ex (by omega) rfl rfl (yFr rfl rfl (yLr rfl rfl (yN rfl (yB rfl rfl rfl rfl (yPd rfl rfl (yMd rfl ?_)))))))); rw [t2]; refine yO rfl (yO rfl (yO rfl (yO rfl (yO rfl (yO rfl (yO rfl (yPd rfl rfl (yQ (pw_ct rfl ?_))))))))); refine pzr (yAd rfl (yQ (pw_ret (q_then_ret (q_blk_ret (q_then_ret (q_then_ret (q_blk_ret (q_then_ret ?_)))))))))
     exact q_ret _ (.tmp rfl .nil) rfl
   · have t2 : decide (((ls.map dLn).length : Int) ≤ 64) = false := decide_eq_false (by rw [List.length_map]; omega)
     have t3 : decide (((ls.map dLn).length : Int) > 66) = true := decide_eq_true (by rw [List.length_map]; omega)
     refine pw_seq (pzr (yMd rfl (yMd rfl (yN rfl (yB rfl rfl rfl rfl (yQ (q_then ?_))))))); rw [u1]; refine pw_ct rfl (pw_skip (pw_seq (pw_block (pw_seq (pzr (yMd rfl (yMd rfl (yW ex (by omega) rfl rfl (yFr rfl rfl ?_))))))))); refine yLr rfl rfl (yN rfl (yB rfl rfl rfl rfl (yMd rfl ?_))); rw [t1]; refine yMd rfl (yMd rfl (yW ex (by omega) rfl rfl (yFr rfl rfl (yLr rfl rfl (yN rfl (yB rfl rfl rfl rfl (yPd rfl rfl (yMd rfl ?_)))))))); rw [t2]; refine yMd rfl (yMd rfl (yW ex (by omega) rfl rfl (yFr rfl rfl (yLr rfl rfl (yN rfl (yB rfl rfl rfl rfl (yVd rfl rfl (yQ (q_then ?_))))))))); rw [t3]; refine pw_ct rfl (pzr (yAd rfl (yQ (pw_ret (q_then_ret (q_blk_ret (q_then_ret (q_then_ret (q_blk_ret ?_))))))))); refine q_then_ret ?_
     exact q_ret _ (.tmp rfl .nil) rfl
 have hg : (ls.any grtN || R) = G := by
  rw [← hI]
  by_cases h1 : 6 < ls.length
  · rw [decide_eq_true h1, decide_eq_false (show ¬ ls.length ≤ 64 by omega), decide_eq_false (show ¬ 66 < ls.length by omega)]; simp
  · rw [decide_eq_false h1, decide_eq_false (show ¬ 66 < ls.length by omega)]; simp
 clear hI
 refine pw_seq (pzr (yMd rfl (yMd rfl (yN rfl (yB rfl rfl rfl rfl (yQ (q_then ?_))))))); rw [u1]; refine pw_ct rfl (pw_skip (pw_seq (pw_block (pw_seq (pzr (yMd rfl (yMd rfl (yW ex (by omega) rfl rfl (yFr rfl rfl ?_))))))))); refine yLr rfl rfl (yN rfl (yB rfl rfl rfl rfl (yMd rfl ?_)))
 first | refine yr_join ⟨115, [(0, .d (dRus l)), (3, .d (dI i))], [], []⟩ ?_ ?_ | refine yr_join2 ⟨115, [(0, .d (dRus l)), (3, .d (dI i))], [], []⟩ ?_ ?_
 rotate_left
 · have t3 : decide (((ls.map dLn).length : Int) > 66) = false := decide_eq_false (by rw [List.length_map]; omega)
   by_cases h1 : 6 < ls.length
   · have t1 : decide (((ls.map dLn).length : Int) > 6) = true := decide_eq_true (by rw [List.length_map]; omega)
     have t2 : decide (((ls.map dLn).length : Int) ≤ 64) = false := decide_eq_false (by rw [List.length_map]; omega)
     rw [t1]; refine yMd rfl ?_; refine yMd rfl ?_; refine yW ex (by omega) rfl rfl ?_; refine yFr rfl rfl ?_; refine yLr rfl rfl ?_; refine yN rfl ?_; refine yB rfl rfl rfl rfl ?_; refine yPd rfl rfl ?_; refine yMd rfl ?_; rw [t2]
     refine yMd rfl (yMd rfl (yW ex (by omega) rfl rfl (yFr rfl rfl (yLr rfl rfl (yN rfl (yB rfl rfl rfl rfl (yVd rfl rfl (yQ ?_)))))))); rw [t3]
     refine pw_cf rfl (pw_skip (q_then ?_))
     exact ⟨rfl, ⟨.refl _, .refl _, trivial⟩, trivial, trivial, rfl⟩
   · have t1 : decide (((ls.map dLn).length : Int) > 6) = false := decide_eq_false (by rw [List.length_map]; omega)
     rw [t1]; refine yO rfl ?_; refine yO rfl ?_; refine yO rfl ?_; refine yO rfl ?_; refine yO rfl ?_; refine yO rfl ?_; refine yO rfl ?_; refine yVd rfl rfl ?_; refine yMd rfl ?_; refine yMd rfl ?_; refine yMd rfl ?_
     refine yW ex (by omega) rfl rfl (yFr rfl rfl (yLr rfl rfl (yN rfl (yB rfl rfl rfl rfl (yVd rfl rfl (yQ ?_)))))); rw [t3]; refine pw_cf rfl (pw_skip (q_then ?_))
     exact ⟨rfl, ⟨.refl _, .refl _, trivial⟩, trivial, trivial, rfl⟩
 have hll : ls.length ≤ 66 := by omega
 clear hc2
 refine pzr (yAd rfl (yQ (pw_block ?_))); refine pw_loop (fun k : Nat => ⟨115, [(0, .d (dRus l)), (3, .d (dI i)), (4, .d (dI k))], [], []⟩) (fun k => k ≤ ls.length ∧ ((ls.drop k).any grtN || R) = G) (fun k => ls.length - k) 0 ⟨Nat.zero_le _, hg⟩
  ⟨rfl, ⟨.refl _, .refl _, .refl _, trivial⟩, trivial, trivial, rfl⟩ ?_
 rintro k ⟨hk, hI⟩
 clear hg
 rcases Nat.lt_or_ge k ls.length with h2 | h2
 rotate_left
 · have u2 : decide ((k : Int) < ((ls.map dLn).length : Int)) = false := decide_eq_false (by rw [List.length_map]; omega)
   rw [List.drop_eq_nil_of_le h2] at hI
   have hI : R = G := hI
   rw [hR] at hI
   refine pw_seq (pzr (yMd rfl (yMd rfl (yMd rfl (yW ex (by omega) rfl rfl (yFr rfl rfl (yLr rfl rfl (yN rfl (yB rfl rfl rfl rfl ?_))))))))); refine yQ (q_then ?_); rw [u2]; refine pw_cf rfl (pw_exit (pw_region (yMd rfl (yB rfl rfl rfl rfl (yAd rfl (yQ (q_then ?_)))))))
   exact ⟨i + 1, ⟨h, hI⟩, arith, rfl, ⟨.refl _, .of_eq (congrArg (fun n => SV.d (dI n)) hw), trivial⟩, trivial, trivial, rfl⟩
 have u2 : decide ((k : Int) < ((ls.map dLn).length : Int)) = true := decide_eq_true (by rw [List.length_map]; omega)
 obtain ⟨⟨a, s, x⟩, hx⟩ : ∃ a, ls[k]? = some a := ⟨_, List.getElem?_eq_getElem h2⟩
 have ek := ix dLn ls k k (a, s, x) rfl hx
 have hw2 := wrapI ((k : Int) + 1) (by omega)
 rw [any_next hx] at hI
 have d2 : grtN (a, s, x) = (decide (60 < a.length) || (decide (6 < x.length) && decide (x.length ≤ 16)) || decide (18 < x.length) || x.any grtC) := rfl
 rw [d2] at hI
 clear d2
 have arith2 : ls.length - (k + 1) < ls.length - k := by omega
 obtain ⟨Q, hQ⟩ : ∃ Q, Q = (ls.drop (k + 1)).any grtN := ⟨_, rfl⟩
 rw [← hQ] at hI
 by_cases ha : 60 < a.length
 · have t0 : decide ((a.length : Int) > 60) = true := decide_eq_true (by omega)
   have hg : G = true := by rw [← hI, decide_eq_true ha]; simp
   subst hg
   refine pw_seq (pzr (yMd rfl (yMd rfl (yMd rfl (yW ex (by omega) rfl rfl (yFr rfl rfl (yLr rfl rfl (yN rfl (yB rfl rfl rfl rfl ?_))))))))); refine yQ (q_then ?_); rw [u2]; refine pw_ct rfl (pw_skip (pw_seq (pw_block (pzr (yMd rfl (yMd rfl (yW ex (by omega) rfl rfl (yFr rfl rfl (yLr rfl rfl ?_))))))))); refine yMd rfl (yW ek (by omega) rfl rfl (yLs (ys := [_, _, _]) rfl rfl rfl (yZ (cs := [_, _, _]) rfl rfl (yS (cs' := [_, _, _]) rfl rfl rfl rfl rfl (yQ (pw_seq (pzr (yFb rfl (yLd rfl rfl rfl ?_))))))))); refine yNs rfl (yB rfl rfl rfl rfl (yMd rfl ?_)); rw [t0]; refine yO rfl (yO rfl (yO rfl (yO rfl (yO rfl (yO rfl (yO rfl (yO rfl (yO rfl (yO rfl ?_))))))))); refine yPd rfl rfl (yMd rfl (yO rfl (yO rfl (yO rfl (yO rfl (yPd rfl rfl (yQ (pw_ct rfl (pzr ?_))))))))); refine yAd rfl (yQ (pw_ret (q_then_ret (q_blk_ret (q_then_ret (q_then_ret (q_blk_ret (q_blk_ret (q_then_ret ?_))))))))); refine q_then_ret (q_blk_ret (q_then_ret ?_))
   exact q_ret _ (.tmp rfl .nil) rfl
 have t0 : decide ((a.length : Int) > 60) = false := decide_eq_false (by omega)
 rw [decide_eq_false ha, Bool.false_or] at hI
 by_cases hc2 : (6 < x.length ∧ x.length ≤ 16) ∨ 18 < x.length
 · have t1 : decide (((x.map dCf).length : Int) > 6) = true := decide_eq_true (by rw [List.length_map]; omega)
   have hg : G = true := by
    rw [← hI]
    rcases hc2 with h | h
    · rw [decide_eq_true h.1, decide_eq_true h.2]; simp
    · rw [decide_eq_true h]; simp
   subst hg
   by_cases h2 : x.length ≤ 16
   · have t2 : decide (((x.map dCf).length : Int) ≤ 16) = true := decide_eq_true (by rw [List.length_map]; omega)
     refine pw_seq (pzr (yMd rfl (yMd rfl (yMd rfl (yW ex (by omega) rfl rfl (yFr rfl rfl (yLr rfl rfl (yN rfl (yB rfl rfl rfl rfl ?_))))))))); refine yQ (q_then ?_); rw [u2]; refine pw_ct rfl (pw_skip (pw_seq (pw_block (pzr (yMd rfl (yMd rfl (yW ex (by omega) rfl rfl (yFr rfl rfl (yLr rfl rfl ?_))))))))); refine yMd rfl (yW ek (by omega) rfl rfl (yLs (ys := [_, _, _]) rfl rfl rfl (yZ (cs := [_, _, _]) rfl rfl (yS (cs' := [_, _, _]) rfl rfl rfl rfl rfl (yQ (pw_seq (pzr (yFb rfl (yLd rfl rfl rfl ?_))))))))); refine yNs rfl (yB rfl rfl rfl rfl (yMd rfl ?_)); rw [t0]; refine yFb rfl (yLd rfl rfl rfl (yN rfl (yB rfl rfl rfl rfl (yMd rfl ?_)))); rw [t1]; refine yFb rfl (yLd rfl rfl rfl (yN rfl (yB rfl rfl rfl rfl (yPd rfl rfl (yVd rfl rfl (yMd rfl ?_)))))); rw [t2]; refine yO rfl (yO rfl (yO rfl (yO rfl (yPd rfl rfl (yQ (pw_ct rfl (pzr (yAd rfl (yQ ?_))))))))); refine pw_ret (q_then_ret (q_blk_ret (q_then_ret (q_then_ret (q_blk_ret (q_blk_ret (q_then_ret (q_then_ret (q_blk_ret ?_))))))))); refine q_then_ret ?_
     exact q_ret _ (.tmp rfl .nil) rfl
   · have t2 : decide (((x.map dCf).length : Int) ≤ 16) = false := decide_eq_false (by rw [List.length_map]; omega)
     have t3 : decide (((x.map dCf).length : Int) > 18) = true := decide_eq_true (by rw [List.length_map]; omega)
     refine pw_seq (pzr (yMd rfl (yMd rfl (yMd rfl (yW ex (by omega) rfl rfl (yFr rfl rfl (yLr rfl rfl (yN rfl (yB rfl rfl rfl rfl ?_))))))))); refine yQ (q_then ?_); rw [u2]; refine pw_ct rfl (pw_skip (pw_seq (pw_block (pzr (yMd rfl (yMd rfl (yW ex (by omega) rfl rfl (yFr rfl rfl (yLr rfl rfl ?_))))))))); refine yMd rfl (yW ek (by omega) rfl rfl (yLs (ys := [_, _, _]) rfl rfl rfl (yZ (cs := [_, _, _]) rfl rfl (yS (cs' := [_, _, _]) rfl rfl rfl rfl rfl (yQ (pw_seq (pzr (yFb rfl (yLd rfl rfl rfl ?_))))))))); refine yNs rfl (yB rfl rfl rfl rfl (yMd rfl ?_)); rw [t0]; refine yFb rfl (yLd rfl rfl rfl (yN rfl (yB rfl rfl rfl rfl (yMd rfl ?_)))); rw [t1]; refine yFb rfl (yLd rfl rfl rfl (yN rfl (yB rfl rfl rfl rfl (yPd rfl rfl (yVd rfl rfl (yMd rfl ?_)))))); rw [t2]; refine yFb rfl (yLd rfl rfl rfl (yN rfl (yB rfl rfl rfl rfl (yVd rfl rfl (yQ (q_then ?_)))))); rw [t3]; refine pw_ct rfl (pzr (yAd rfl (yQ (pw_ret (q_then_ret (q_blk_ret (q_then_ret (q_then_ret (q_blk_ret ?_))))))))); refine q_blk_ret (q_then_ret (q_then_ret (q_blk_ret (q_then_ret ?_))))
     exact q_ret _ (.tmp rfl .nil) rfl
 have hg : (x.any grtC || (Q || R)) = G := by
  rw [← hI]
  by_cases h1 : 6 < x.length
  · rw [decide_eq_true h1, decide_eq_false (show ¬ x.length ≤ 16 by omega), decide_eq_false (show ¬ 18 < x.length by omega)]; simp [Bool.or_assoc]
  · rw [decide_eq_false h1, decide_eq_false (show ¬ 18 < x.length by omega)]; simp [Bool.or_assoc]
 clear hI
 refine pw_seq (pzr (yMd rfl (yMd rfl (yMd rfl (yW ex (by omega) rfl rfl (yFr rfl rfl (yLr rfl rfl (yN rfl (yB rfl rfl rfl rfl ?_))))))))); refine yQ (q_then ?_); rw [u2]; refine pw_ct rfl (pw_skip (pw_seq (pw_block (pzr (yMd rfl (yMd rfl (yW ex (by omega) rfl rfl (yFr rfl rfl (yLr rfl rfl ?_))))))))); refine yMd rfl (yW ek (by omega) rfl rfl (yLs (ys := [_, _, _]) rfl rfl rfl (yZ (cs := [_, _, _]) rfl rfl (yS (cs' := [_, _, _]) rfl rfl rfl rfl rfl (yQ (pw_seq (pzr (yFb rfl (yLd rfl rfl rfl ?_))))))))); refine yNs rfl (yB rfl rfl rfl rfl (yMd rfl ?_)); rw [t0]; refine yFb rfl (yLd rfl rfl rfl (yN rfl (yB rfl rfl rfl rfl (yMd rfl ?_))))
 first | refine yr_join ⟨115, [(0, .d (dRus l)), (3, .d (dI i)), (4, .d (dI k)), (5, .bx 5 0)], [(5, [.d (dS a), .d (dB s), .d (.sl 2 (x.map dCf))])], []⟩ ?_ ?_ | refine yr_join2 ⟨115, [(0, .d (dRus l)), (3, .d (dI i)), (4, .d (dI k)), (5, .bx 5 0)], [(5, [.d (dS a), .d (dB s), .d (.sl 2 (x.map dCf))])], []⟩ ?_ ?_
 rotate_left
 · have t3 : decide (((x.map dCf).length : Int) > 18) = false := decide_eq_false (by rw [List.length_map]; omega)
   by_cases h1 : 6 < x.length
   · have t1 : decide (((x.map dCf).length : Int) > 6) = true := decide_eq_true (by rw [List.length_map]; omega)
     have t2 : decide (((x.map dCf).length : Int) ≤ 16) = false := decide_eq_false (by rw [List.length_map]; omega)
     rw [t1]; refine yFb rfl ?_; refine yLd rfl rfl rfl ?_; refine yN rfl ?_; refine yB rfl rfl rfl rfl ?_; refine yPd rfl rfl ?_; refine yVd rfl rfl ?_; refine yMd rfl ?_; rw [t2]; refine yFb rfl ?_; refine yLd rfl rfl rfl ?_
     refine yN rfl (yB rfl rfl rfl rfl (yVd rfl rfl (yQ ?_))); rw [t3]; refine pw_cf rfl (pw_skip (q_then ?_))
     exact ⟨rfl, ⟨.refl _, .refl _, .refl _, .refl _, trivial⟩, ⟨⟨_, rfl, lesC_refl _⟩, trivial⟩, trivial, rfl⟩
   · have t1 : decide (((x.map dCf).length : Int) > 6) = false := decide_eq_false (by rw [List.length_map]; omega)
     rw [t1]; refine yO rfl ?_; refine yO rfl ?_; refine yO rfl ?_; refine yO rfl ?_; refine yVd rfl rfl ?_; refine yVd rfl rfl ?_; refine yMd rfl ?_; refine yFb rfl ?_; refine yLd rfl rfl rfl ?_; refine yN rfl ?_
     refine yB rfl rfl rfl rfl (yVd rfl rfl (yQ ?_)); rw [t3]; refine pw_cf rfl (pw_skip (q_then ?_))
     exact ⟨rfl, ⟨.refl _, .refl _, .refl _, .refl _, trivial⟩, ⟨⟨_, rfl, lesC_refl _⟩, trivial⟩, trivial, rfl⟩
 have hxl : x.length ≤ 18 := by omega
 clear hc2
 refine pzr (yAd rfl (yQ (pw_block ?_))); refine pw_loop (fun m : Nat => ⟨115, [(0, .d (dRus l)), (3, .d (dI i)), (4, .d (dI k)), (5, .bx 5 0), (6, .d (dI m))], [(5, [.d (dS a), .d (dB s), .d (.sl 2 (x.map dCf))])], []⟩) (fun m => m ≤ x.length ∧ ((x.drop m).any grtC || (Q || R)) = G) (fun m => x.length - m) 0 ⟨Nat.zero_le _, hg⟩
  ⟨rfl, ⟨.refl _, .refl _, .refl _, .refl _, .refl _, trivial⟩, ⟨⟨_, rfl, lesC_refl _⟩, trivial⟩, trivial, rfl⟩ ?_
 rintro m ⟨hm, hI⟩
 clear hg
 rcases Nat.lt_or_ge m x.length with h3 | h3
 rotate_left
 · have u3 : decide ((m : Int) < ((x.map dCf).length : Int)) = false := decide_eq_false (by rw [List.length_map]; omega)
   rw [List.drop_eq_nil_of_le h3] at hI
   have hI : (Q || R) = G := hI
   rw [hQ] at hI
   refine pw_seq (pzr (yMd rfl (yFb rfl (yLd rfl rfl rfl (yN rfl (yB rfl rfl rfl rfl (yQ (q_then ?_)))))))); rw [u3]; refine pw_cf rfl (pw_exit (pw_region (yMd rfl (yB rfl rfl rfl rfl (yAd rfl (yQ (q_then ?_)))))))
   exact ⟨k + 1, ⟨h2, hI⟩, arith2, rfl, ⟨.refl _, .refl _, .of_eq (congrArg (fun n => SV.d (dI n)) hw2), trivial⟩, trivial, trivial, rfl⟩
 have u3 : decide ((m : Int) < ((x.map dCf).length : Int)) = true := decide_eq_true (by rw [List.length_map]; omega)
 obtain ⟨⟨c0, c1⟩, hcx⟩ : ∃ a, x[m]? = some a := ⟨_, List.getElem?_eq_getElem h3⟩
 have em := ix dCf x m m (c0, c1) rfl hcx
 have hw3 := wrapI ((m : Int) + 1) (by omega)
 rw [any_next hcx] at hI
 have d2 : grtC (c0, c1) = (decide (30 < c0.length) || decide (13 < c1.length)) := rfl
 rw [d2] at hI
 clear d2
 have arith3 : x.length - (m + 1) < x.length - m := by omega
 have k1 := wLongF c1
 by_cases q1 : 30 < c0.length
 · have t1 : decide ((c0.length : Int) > 30) = true := decide_eq_true (by omega)
   have hg : G = true := by rw [← hI, decide_eq_true q1]; simp
   subst hg
   refine pw_seq (pzr (yMd rfl (yFb rfl (yLd rfl rfl rfl (yN rfl (yB rfl rfl rfl rfl (yQ (q_then ?_)))))))); rw [u3]; refine pw_ct rfl (pw_skip (pw_seq (pw_block (pzr (yFb rfl (yLd rfl rfl rfl (yMd rfl (yW em (by omega) rfl rfl (yFr rfl rfl ?_))))))))); refine yLr rfl rfl (yNs rfl (yB rfl rfl rfl rfl (yMd rfl ?_))); rw [t1]; refine yO rfl (yO rfl (yO rfl (yO rfl (yO rfl (yO rfl (yO rfl (yPd rfl rfl (yQ (pw_ct rfl ?_))))))))); refine pzr (yAd rfl (yQ (pw_ret (q_blk_ret (q_then_ret (q_then_ret (q_blk_ret (q_blk_ret (q_then_ret ?_))))))))); refine q_then_ret (q_blk_ret (q_blk_ret (q_then_ret (q_then_ret (q_blk_ret (q_then_ret ?_))))))
   exact q_ret _ (.tmp rfl .nil) rfl
 have t1 : decide ((c0.length : Int) > 30) = false := decide_eq_false (by omega)
 rw [decide_eq_false q1, Bool.false_or] at hI
 by_cases q2 : 13 < c1.length
 · rw [decide_eq_true q2] at k1
   have hg : G = true := by rw [← hI, decide_eq_true q2]; simp
   subst hg
   refine pw_seq (pzr (yMd rfl (yFb rfl (yLd rfl rfl rfl (yN rfl (yB rfl rfl rfl rfl (yQ (q_then ?_)))))))); rw [u3]; refine pw_ct rfl (pw_skip (pw_seq (pw_block (pzr (yFb rfl (yLd rfl rfl rfl (yMd rfl (yW em (by omega) rfl rfl (yFr rfl rfl ?_))))))))); refine yLr rfl rfl (yNs rfl (yB rfl rfl rfl rfl (yMd rfl ?_))); rw [t1]; refine yFb rfl (yLd rfl rfl rfl (yMd rfl (yW em (by omega) rfl rfl (yFr rfl rfl (yLr rfl rfl (yC (k1) rfl rfl (yVd rfl rfl (yQ (pw_ct rfl ?_))))))))); refine pzr (yAd rfl (yQ (pw_ret (q_blk_ret (q_then_ret (q_then_ret (q_blk_ret (q_blk_ret (q_then_ret ?_))))))))); refine q_then_ret (q_blk_ret (q_blk_ret (q_then_ret (q_then_ret (q_blk_ret (q_then_ret ?_))))))
   exact q_ret _ (.tmp rfl .nil) rfl
 rw [decide_eq_false q2] at k1
 rw [decide_eq_false q2, Bool.false_or] at hI
 refine pw_seq (pzr (yMd rfl (yFb rfl (yLd rfl rfl rfl (yN rfl (yB rfl rfl rfl rfl (yQ (q_then ?_)))))))); rw [u3]; refine pw_ct rfl (pw_skip (pw_seq (pw_block (pzr (yFb rfl (yLd rfl rfl rfl (yMd rfl (yW em (by omega) rfl rfl (yFr rfl rfl ?_))))))))); refine yLr rfl rfl (yNs rfl (yB rfl rfl rfl rfl (yMd rfl ?_))); rw [t1]; refine yFb rfl (yLd rfl rfl rfl (yMd rfl (yW em (by omega) rfl rfl (yFr rfl rfl (yLr rfl rfl (yC (k1) rfl rfl (yVd rfl rfl (yQ (pw_cf rfl ?_))))))))); refine pw_skip (pw_region (yMd rfl (yB rfl rfl rfl rfl (yAd rfl (yQ (q_then ?_))))))
 exact ⟨m + 1, ⟨h3, hI⟩, arith3, rfl, ⟨.refl _, .refl _, .refl _, .refl _, .of_eq (congrArg (fun n => SV.d (dI n)) hw3), trivial⟩, ⟨⟨_, rfl, lesC_refl _⟩, trivial⟩, trivial, rfl⟩
theorem hPhRs : ∀ xs r, phRs grtL xs r → PCalls Tryz.prog 55 (xs ++ ([] : List (List DV)).map DV.ref) r := by
 rintro _ _ ⟨l, rfl, rfl⟩
 exact wGreatR l
theorem wGreatRs (l : List (List Ru)) (hl : l.length ≤ 1000) : PCalls Tryz.prog 11 [.sl 1 (l.map fun x => [dRus x])] (.d (dB (l.any grtL))) := by
 have c1 := wHasRs grtL l (by omega)
 obtain ⟨b, hb⟩ : ∃ b, b = l.any grtL := ⟨_, rfl⟩
 rw [← hb] at c1 ⊢
 refine pcalls_of_pw Tryz.func11 rfl Tryz.ntmps11 Tryz.results11 (by simp) fun B w0 => ?_
 refine pzr (yAd rfl (yQ (pzr (yMd rfl ?_)))); refine yCf c1 (.d rfl (.fn inferInstance rfl rfl hPhRs .nil)) rfl ?_; refine yAd rfl (yQ (pw_ret ?_))
 exact q_ret _ (.tmp rfl .nil) rfl
theorem nf_ne {e : List Cf} {p : Cf} (h : p ∈ nf e) : p.2 ≠ [] := fun h0 => ((nf_mem e p).1 h).1 (by
 have h1 := ((nf_mem e p).1 h).2
 rw [h0] at h1
 have h2 := congrArg val h1
 rw [val_canon] at h2
 have h3 : val [] = (0 : Int) := by kernel_rfl
 exact h2.symm.trans h3)
theorem prT_abs {f : Str} (h : isC f = true) (h0 : f ≠ []) : prT (absS f) = absS f := by
 have hc := (isC_eq h)
 have hv : val f ≠ 0 := fun e => h0 (by rw [← hc, e]; exact canon_zero)
 have h1 : canon (val (absS f)) = absS f := by
  unfold absS
  split
  · rw [val_canon]
  · exact hc
 have h2 : absS f ≠ [] := fun e => by
  unfold absS at e
  split at e
  · have := congrArg val e
    rw [val_canon, show val [] = 0 by kernel_rfl] at this
    omega
  · exact h0 e
 unfold prT
 rw [h1, if_neg h2]
theorem absS_dec {f : Str} (h : isC f = true) (h0 : f ≠ []) : absS f = dec (val f).natAbs ∧ absS f ≠ [] := by
 have hc := isC_eq h
 have hv : val f ≠ 0 := fun e => h0 (by rw [← hc, e]; exact canon_zero)
 have h1 : absS f = dec (val f).natAbs := by
  unfold absS
  split
  · rename_i h2
    rw [canon, if_neg (by omega), Int.natAbs_neg]
  · rename_i h2
    rw [← hc, val_canon, canon, if_neg h2]
 refine ⟨h1, fun e => ?_⟩
 rw [h1] at e
 have h2 := natOf_dec (val f).natAbs
 rw [e] at h2
 have h3 : natOf [] = 0 := rfl
 omega
theorem absS_isD {f : Str} (h : isC f = true) (h0 : f ≠ []) : ∀ x ∈ absS f, isD x = true := by
 rw [(absS_dec h h0).1]
 exact List.all_eq_true.1 (dec_all _)
theorem absS_ok {f : Str} (h : isC f = true) (h0 : f ≠ []) : okD (absS f) = true := by
 obtain ⟨h1, h2⟩ := absS_dec h h0
 unfold okD
 have h3 : (absS f).head? ≠ some 48 := by rw [h1]; exact dec_head _
 have h4 : (absS f).all isD = true := List.all_eq_true.2 (absS_isD h h0)
 rw [h4, decide_eq_false h3]
 simpa using h2
theorem absS_val {f : Str} (h : isC f = true) : (if val f < 0 then canon (- val (absS f)) else absS f) = f := by
 have hc := isC_eq h
 unfold absS
 split
 · rw [val_canon, Int.neg_neg]; exact hc
 · rfl
def pcT (c : Cf) : Str := facS (absS c.2) ++ c.1
abbrev pcS (c : Cf) : Bool × Str := (decide (val c.2 < 0), pcT c)
def tlT : List Cf → Str
 | [] => []
 | c :: l => (if val c.2 < 0 then [32, 45, 32] else [32, 43, 32]) ++ (pcT c ++ tlT l)
theorem tlT_app (l : List Cf) (c : Cf) : tlT (l ++ [c]) = tlT l ++ ((if val c.2 < 0 then [32, 45, 32] else [32, 43, 32]) ++ pcT c) := by
 induction l with
 | nil => simp [tlT]
 | cons d l ih => rw [List.cons_append, tlT, ih, tlT]; simp
theorem prI_tl (c : Cf) (l : List Cf) : ∀ i, i ≤ l.length → prI (c :: l) (i + 1) = (if val c.2 < 0 then [45] else []) ++ (pcT c ++ tlT (l.take i))
 | 0, _ => by
  rw [prI]
  show prI (c :: l) 0 ++ prS 0 c = _
  rw [prI, prS, sepS, if_pos rfl]
  simp [tlT, pcT]
 | i + 1, h => by
  obtain ⟨d, hd⟩ : ∃ d, l[i]? = some d := ⟨_, List.getElem?_eq_getElem (by omega)⟩
  have hd2 : (c :: l)[i + 1]? = some d := by simpa using hd
  rw [prI, hd2]
  show prI (c :: l) (i + 1) ++ prS (i + 1) d = _
  rw [prI_tl c l i (by omega), List.take_add_one, hd, Option.toList, tlT_app, prS, sepS, if_neg (Nat.succ_ne_zero i)]
  simp [pcT]
theorem prI_all (c : Cf) (l : List Cf) : prI (c :: l) (c :: l).length = (if val c.2 < 0 then [45] else []) ++ (pcT c ++ tlT l) := by
 rw [List.length_cons, prI_tl c l l.length (Nat.le_refl _), List.take_length]
def gdC (c : Cf) : Prop := nmB c.1 = true ∧ isC c.2 = true ∧ c.2 ≠ []
theorem nmB_no {s : Str} (h : nmB s = true) : ∀ x ∈ s, isN x = true := by
 unfold nmB nameB at h
 simp only [Bool.and_eq_true, List.all_eq_true] at h
 exact h.1.2
theorem isN_ne {x : UInt8} (h : isN x = true) : x ≠ 32 ∧ x ≠ 42 ∧ x ≠ 45 := by
 refine ⟨?_, ?_, ?_⟩ <;> rintro rfl <;> simp [isN, isD] at h
theorem isD_ne {x : UInt8} (h : isD x = true) : x ≠ 32 ∧ x ≠ 42 ∧ x ≠ 45 := by
 refine ⟨?_, ?_, ?_⟩ <;> rintro rfl <;> simp [isD] at h
theorem pcT_eq {c : Cf} (h : gdC c) : pcT c = (if absS c.2 = [49] then [] else absS c.2 ++ [42]) ++ c.1 := by
 rw [pcT, facS, prT_abs h.2.1 h.2.2]
theorem pcT_no32 {c : Cf} (h : gdC c) : ∀ x ∈ pcT c, x ≠ 32 := by
 rw [pcT_eq h]
 intro x hx
 rcases List.mem_append.1 hx with h1 | h1
 · split at h1
   · cases h1
   · rcases List.mem_append.1 h1 with h2 | h2
     · exact (isD_ne (absS_isD h.2.1 h.2.2 x h2)).1
     · rw [List.mem_singleton.1 h2]; decide
 · exact (isN_ne (nmB_no h.1 x h1)).1
theorem nmB_cons {s : Str} (h : nmB s = true) : ∃ x l, s = x :: l := by
 cases s with
 | nil => simp [nmB, nameB] at h
 | cons x l => exact ⟨x, l, rfl⟩
theorem pcT_head {c : Cf} (h : gdC c) : ∃ x l, pcT c = x :: l ∧ x ≠ 45 := by
 rw [pcT_eq h]
 split
 · obtain ⟨x, l, e⟩ := nmB_cons h.1
   exact ⟨x, l, by rw [e]; rfl, (isN_ne (nmB_no h.1 x (by rw [e]; exact List.mem_cons_self ..))).2.2⟩
 · cases e : absS c.2 with
   | nil => exact absurd e (absS_dec h.2.1 h.2.2).2
   | cons x l => exact ⟨x, _, rfl, (isD_ne (absS_isD h.2.1 h.2.2 x (by rw [e]; exact List.mem_cons_self ..))).2.2⟩
theorem tmP_pcT {c : Cf} (h : gdC c) : tmP (pcT c) = some (c.1, absS c.2) := by
 rw [pcT_eq h]
 have hn42 : ∀ x ∈ c.1, x ≠ 42 := fun x hx => (isN_ne (nmB_no h.1 x hx)).2.1
 by_cases h1 : absS c.2 = [49]
 · rw [if_pos h1, List.nil_append, h1, tmP, ctB, cutB_nn hn42]
   show tmR [49] c.1 = _
   have e1 : prT [49] = [49] := by kernel_rfl
   have e2 : canon (val [49]) = [49] := by kernel_rfl
   rw [tmR, if_pos ⟨e1, by simp, h.1⟩, e2]
 · rw [if_neg h1]
   obtain ⟨q1, q2⟩ := prT_okD.1 (absS_ok h.2.1 h.2.2)
   have hd : ∀ x ∈ absS c.2, x ≠ 42 := fun x hx => (isD_ne (absS_isD h.2.1 h.2.2 x hx)).2.1
   have hcut : cutB 42 (absS c.2 ++ [42] ++ c.1) = some (absS c.2, c.1) := by
    have := cutB_at (c := 42) (s := absS c.2 ++ [42] ++ c.1) (i := (absS c.2).length) (by simpa using hd) (by simp)
    rw [this]
    simp
   have hc : canon (val (absS c.2)) = absS c.2 := by
    have h3 : isC (absS c.2) = true := by
     unfold absS
     split
     · exact isC_canon _
     · exact h.2.1
    exact isC_eq h3
   rw [tmP, ctB, ctT, ctR, hcut]
   show tmR (absS c.2) c.1 = _
   rw [tmR, if_pos ⟨q1, q2, h.1⟩, hc]
theorem tmS_pcS {c : Cf} (h : gdC c) : tmS (pcS c) = some c := by
 unfold tmS
 rw [tmP_pcT h]
 have h1 := absS_val h.2.1
 show some (if decide (val c.2 < 0) = true then (c.1, canon (- val (absS c.2))) else (c.1, absS c.2)) = _
 by_cases h2 : val c.2 < 0
 · rw [if_pos h2] at h1
   rw [if_pos (by simpa using h2), h1]
 · rw [if_neg h2] at h1
   rw [if_neg (by simpa using h2), h1]
theorem ct_app {p : Str} (h : ∀ x ∈ p, x ≠ 32) (R : Str) : ctB 32 (p ++ 32 :: R) = true ∧ ctT 32 (p ++ 32 :: R) = p ∧ ctR 32 (p ++ 32 :: R) = R := by
 have : cutB 32 (p ++ 32 :: R) = some (p, R) := by
  have := cutB_at (c := 32) (s := p ++ 32 :: R) (i := p.length) (by simpa using h) (by simp)
  rw [this]
  simp
 rw [ctB, ctT, ctR, this]
 exact ⟨rfl, rfl, rfl⟩
theorem parL_tl : ∀ (l : List Cf) (c : Cf), (∀ d ∈ c :: l, gdC d) → ∀ b, parL b (pcT c ++ tlT l) = (b, pcT c) :: l.map pcS
 | [], c, h, b => by
  have h1 := pcT_no32 (h c (List.mem_cons_self ..))
  rw [tlT, List.append_nil, parL_eq, ctB, ctT, cutB_nn h1]
  rfl
 | d :: l, c, h, b => by
  have h1 := pcT_no32 (h c (List.mem_cons_self ..))
  have ih := parL_tl l d fun x hx => h x (List.mem_cons_of_mem _ hx)
  by_cases h2 : val d.2 < 0
  · have e : pcT c ++ tlT (d :: l) = pcT c ++ 32 :: (45 :: 32 :: (pcT d ++ tlT l)) := by rw [tlT, if_pos h2]; rfl
    obtain ⟨e1, e2, e3⟩ := ct_app h1 (45 :: 32 :: (pcT d ++ tlT l))
    obtain ⟨e4, e5⟩ := ct_cons2 (a := 45) (X := pcT d ++ tlT l) (by decide)
    rw [e, parL_eq, e1, e2, e3, e4, e5, if_pos rfl, if_pos (.inr rfl), ih, List.map_cons]
    show _ :: (true, pcT d) :: _ = _ :: (decide (val d.2 < 0), pcT d) :: _
    rw [decide_eq_true h2]
  · have e : pcT c ++ tlT (d :: l) = pcT c ++ 32 :: (43 :: 32 :: (pcT d ++ tlT l)) := by rw [tlT, if_neg h2]; rfl
    obtain ⟨e1, e2, e3⟩ := ct_app h1 (43 :: 32 :: (pcT d ++ tlT l))
    obtain ⟨e4, e5⟩ := ct_cons2 (a := 43) (X := pcT d ++ tlT l) (by decide)
    rw [e, parL_eq, e1, e2, e3, e4, e5, if_pos rfl, if_pos (.inl rfl), ih, List.map_cons]
    show _ :: (false, pcT d) :: _ = _ :: (decide (val d.2 < 0), pcT d) :: _
    rw [decide_eq_false h2]
theorem ptsL_pr {n : List Cf} (h : ∀ c ∈ n, gdC c) (h0 : n ≠ []) : ptsL (prI n n.length) = n.map pcS := by
 cases n with
 | nil => exact absurd rfl h0
 | cons c l =>
  obtain ⟨x, t, e, hx⟩ := pcT_head (h c (List.mem_cons_self ..))
  rw [prI_all, ptsL, List.map_cons]
  have hp := parL_tl l c h
  by_cases h2 : val c.2 < 0
  · rw [if_pos h2]
    show parL true (pcT c ++ tlT l) = _
    rw [hp]
    show _ = (decide (val c.2 < 0), pcT c) :: _
    rw [decide_eq_true h2]
  · rw [if_neg h2, List.nil_append]
    have e1 : cpB 45 (pcT c ++ tlT l) = false := by rw [e]; simpa [cpB] using hx
    have e2 : cpS 45 (pcT c ++ tlT l) = pcT c ++ tlT l := by rw [e, List.cons_append, cpS, if_neg hx]
    rw [e1, e2, hp]
    show _ = (decide (val c.2 < 0), pcT c) :: _
    rw [decide_eq_false h2]
theorem ls_map {n : List Cf} (h : ∀ c ∈ n, gdC c) : (n.map pcS).all (fun p => (tmS p).isSome) = true ∧ (n.map pcS).filterMap tmS = n := by
 induction n with
 | nil => exact ⟨rfl, rfl⟩
 | cons c l ih =>
  obtain ⟨h1, h2⟩ := ih fun d hd => h d (List.mem_cons_of_mem _ hd)
  have h3 := tmS_pcS (h c (List.mem_cons_self ..))
  rw [List.map_cons, List.all_cons, List.filterMap_cons, h3, h1, h2]
  exact ⟨rfl, rfl⟩
theorem gd_nf {e : List Cf} (h : ∀ c ∈ e, nmB c.1 = true) : ∀ c ∈ nf e, gdC c := fun p hp => by
 obtain ⟨c, hc, q⟩ := nf_name hp
 exact ⟨by rw [← q]; exact h c hc, nf_isC hp, nf_ne hp⟩
theorem pr_no48 {n : List Cf} (h : ∀ c ∈ n, gdC c) (h0 : n ≠ []) : prI n n.length ≠ [48] := fun e => by
 have h1 := ptsL_pr h h0
 rw [e] at h1
 cases n with
 | nil => exact h0 rfl
 | cons c l =>
  have h2 := tmS_pcS (h c (List.mem_cons_self ..))
  have h3 : ptsL [48] = [(false, [48])] := by kernel_rfl
  rw [h3, List.map_cons] at h1
  have h4 : (false, [48]) = pcS c := (List.cons.inj h1).1
  rw [← h4] at h2
  have h5 : tmS (false, [48]) = none := by kernel_rfl
  rw [h5] at h2
  cases h2
theorem pa_pr {e : List Cf} (h : ∀ c ∈ e, nmB c.1 = true) (hl : (nf e).length ≤ 16) (h0 : nf e ≠ []) : paE (prI (nf e) (nf e).length) = 0 ∧ paR (prI (nf e) (nf e).length) = nf e := by
 have hg := gd_nf h
 have h1 := ptsL_pr hg h0
 have h2 := pr_no48 hg h0
 obtain ⟨h3, h4⟩ := ls_map hg
 have h5 := finP_paE _ h2
 rw [h1] at h5
 unfold finP at h5
 rw [h3, if_pos rfl, List.nil_append, h4, if_neg (by omega), nf_nf] at h5
 exact ⟨(congrArg Prod.fst h5).symm, (congrArg Prod.snd h5).symm⟩
theorem paV {e : List Cf} (h : chE e = 0) : paE (prV e) = 0 ∧ paR (prV e) = nf e := by
 obtain ⟨h1, h2⟩ := chE_zero.1 h
 rw [prV, if_pos h]
 by_cases h0 : nf e = []
 · rw [if_pos h0, h0, paE, paR, if_pos rfl, if_pos rfl]
   exact ⟨rfl, rfl⟩
 · rw [if_neg h0]
   exact pa_pr (fun c hc => (h2 c hc).1) (Nat.le_trans (nf_len e) h1) h0
theorem pa_ok {s : Str} (h : paE s = 0) : chE (paR s) = 0 ∧ nf (paR s) = paR s := by
 unfold paE at h
 unfold paR
 split
 · exact ⟨rfl, by kernel_rfl⟩
 · rename_i h0
   rw [if_neg h0] at h
   by_cases h1 : okT s = true
   · rw [if_pos h1] at h ⊢
     by_cases h2 : 16 < (lsT s).length
     · rw [if_pos h2] at h; omega
     · rw [if_neg h2]
       refine ⟨chE_zero.2 ⟨Nat.le_trans (nf_len _) (by omega), fun c hc => ⟨?_, nf_isC hc⟩⟩, nf_nf _⟩
       obtain ⟨d, hd, q⟩ := nf_name hc
       obtain ⟨p, -, h4⟩ := List.mem_filterMap.1 hd
       rw [← q]
       exact (tmS_len h4).1
   · rw [if_neg h1] at h; omega
theorem pa_len {s : Str} {L : Nat} (hs : s.length ≤ L) : (paR s).length ≤ 16 ∧ ∀ c ∈ paR s, c.2.length ≤ L + 40 := by
 unfold paR
 split
 · exact ⟨by simp, fun c hc => by cases hc⟩
 · split
   · split
     · exact ⟨by simp, fun c hc => by cases hc⟩
     · rename_i h2
       have h3 : (lsT s).length ≤ 16 := by omega
       refine ⟨Nat.le_trans (nf_len _) h3, fun c hc => ?_⟩
       have := nf_flen (e := lsT s) (B := L + 2) (fun d hd => by
        obtain ⟨p, hp, h4⟩ := List.mem_filterMap.1 hd
        have h5 := (tmS_len h4).2
        have h6 := (ptsL_len s).2 p hp
        omega) hc
       omega
   · exact ⟨by simp, fun c hc => by cases hc⟩
theorem nameB_plain {t : Str} (h : nameB t = true) : 32 ∉ t ∧ 10 ∉ t := by
 unfold nameB at h
 simp only [Bool.and_eq_true, List.all_eq_true] at h
 refine ⟨fun hm => ?_, fun hm => ?_⟩
 · have := h.2 _ hm; simp [isN, isD] at this
 · have := h.2 _ hm; simp [isN, isD] at this
theorem tmp_plain {t : Str} (h : tmpB nameB t = true) : 32 ∉ t ∧ 10 ∉ t := tmpB_plain (fun _ h => nameB_plain h) h
theorem pcT_nl {c : Cf} (h : gdC c) : 10 ∉ pcT c := by
 rw [pcT_eq h]
 have h1 : 10 ∉ c.1 := fun hm => by have := nmB_no h.1 _ hm; simp [isN, isD] at this
 have h2 : 10 ∉ absS c.2 := fun hm => by have := absS_isD h.2.1 h.2.2 _ hm; simp [isD] at this
 split
 · simpa using h1
 · simp only [List.mem_append, not_or]
   exact ⟨⟨h2, by decide⟩, h1⟩
theorem tlT_nl {l : List Cf} (h : ∀ c ∈ l, gdC c) : 10 ∉ tlT l := by
 induction l with
 | nil => simp [tlT]
 | cons c l ih =>
  rw [tlT]
  simp only [List.mem_append, not_or]
  refine ⟨?_, pcT_nl (h c (by simp)), ih fun d hd => h d (by simp [hd])⟩
  split <;> decide
theorem prV_nl {e : List Cf} (h : chE e = 0) : 10 ∉ prV e := by
 obtain ⟨h1, h2⟩ := chE_zero.1 h
 rw [prV, if_pos h]
 split
 · decide
 · have hg := gd_nf fun c hc => (h2 c hc).1
   cases hn : nf e with
   | nil => simp [prI]
   | cons c l =>
    rw [hn] at hg
    rw [prI_all]
    simp only [List.mem_append, not_or]
    refine ⟨?_, pcT_nl (hg c (by simp)), tlT_nl fun d hd => hg d (by simp [hd])⟩
    split <;> decide
theorem pao_back : ∀ e, chE e = 0 → paO (prV e) = some (nf e) ∧ 10 ∉ prV e := fun e h => by
 obtain ⟨h1, h2⟩ := paV h
 exact ⟨by rw [paO, if_pos h1, h2], prV_nl h⟩
theorem pao_ok : ∀ t e, paO t = some e → chE e = 0 ∧ nf e = e := fun t e h => by
 unfold paO at h
 split at h
 · rename_i h1
   cases h
   exact pa_ok h1
 · cases h
section
variable {X : Type} {tp tp' : Str → Bool} {pe pe' : Str → Option X} {L : Nat}
theorem lineG_cong (h1 : ∀ t, t.length ≤ L → tp t = tp' t) (h2 : ∀ t, t.length ≤ L → pe t = pe' t) (out : List (Rul X)) {s : Str} (hs : s.length ≤ L) : lineG tp pe out s = lineG tp' pe' out s := by
 have a1 := (ct_len 32 s).2.1
 have a2 := ct_len 32 (ctR 32 s)
 unfold lineG
 rw [h1 _ (Nat.le_trans a2.1 (Nat.le_trans a1 hs)), h2 _ (Nat.le_trans a2.2.1 (Nat.le_trans a1 hs))]
theorem runG_cong {f g : List (Rul X) → Str → Option (List (Rul X))} : ∀ (l : List Str) (i : Nat) (o : List (Rul X)), (∀ s ∈ l, ∀ o, f o s = g o s) → runG f i o l = runG g i o l
 | [], _, _, _ => rfl
 | [_], _, _, _ => rfl
 | s :: s' :: l, i, o, h => by
  rw [runG_step, runG_step, h s (by simp)]
  cases g o s with
  | none => rfl
  | some o' => exact runG_cong (s' :: l) (i + 1) o' fun t ht => h t (by simp [ht])
theorem prsR_cong (h1 : ∀ t, t.length ≤ L → tp t = tp' t) (h2 : ∀ t, t.length ≤ L → pe t = pe' t) {s : Str} (hs : s.length ≤ L) : prsR tp pe s = prsR tp' pe' s := by
 unfold prsR
 rw [runG_cong (spl 10 s) 0 [] fun t ht o => lineG_cong h1 h2 o (Nat.le_trans (spl_len 10 s t ht) hs)]
end
theorem prs_bd {s : Str} (hs : s.length ≤ 2500) {a : List Ru} {n : Int} (h : prsR (tmpB nameB) paO s = (a, n, 0)) : a.length ≤ 64 ∧ ∀ r ∈ a, bdR r := by
 rw [prsR_cong (tp' := fun t => tmpB nameB t && decide (t.length ≤ 2500)) (pe' := fun t => if t.length ≤ 2500 then paO t else none) (L := 2500) (fun t ht => by simp [ht]) (fun t ht => by simp [ht]) hs] at h
 obtain ⟨-, h1, h2⟩ := prs_good (P := fun e => e.length ≤ 16 ∧ ∀ c ∈ e, c.1.length ≤ 16 ∧ c.2.length ≤ 2540) (fun t e he => by
  split at he
  · rename_i ht
    have hz := (pao_ok t e he).1
    unfold paO at he
    split at he
    · cases he
      obtain ⟨q1, q2⟩ := pa_len ht
      refine ⟨q1, fun c hc => ⟨nmB_len ((chE_zero.1 hz).2 c hc).1, by have := q2 c hc; omega⟩⟩
    · cases he
  · cases he) h
 refine ⟨h1, fun r hr => ?_⟩
 obtain ⟨-, h3, h4⟩ := h2 r hr
 refine ⟨by omega, fun l hl => ?_⟩
 obtain ⟨q1, q2, q3⟩ := h4 l hl
 simp only [Bool.and_eq_true, decide_eq_true_eq] at q1
 refine ⟨by omega, by omega, fun c hc => ?_⟩
 have := q3 c hc
 exact ⟨by omega, by omega⟩
theorem grt_bd {l : List Ru} (h : grtL l = false) : l.length ≤ 66 ∧ ∀ r ∈ l, r.2.length ≤ 66 ∧ ∀ x ∈ r.2, x.1.length ≤ 60 ∧ x.2.2.length ≤ 18 ∧ ∀ c ∈ x.2.2, c.1.length ≤ 30 ∧ c.2.length ≤ 13 := by
 simp only [grtL, Bool.or_eq_false_iff, List.any_eq_false, decide_eq_false_iff_not] at h
 refine ⟨by omega, fun r hr => ?_⟩
 have h1 := h.2 r hr
 simp only [grtR, Bool.not_eq_true, Bool.or_eq_false_iff, List.any_eq_false, decide_eq_false_iff_not] at h1
 refine ⟨by omega, fun x hx => ?_⟩
 have h2 := h1.2 x hx
 simp only [grtN, Bool.not_eq_true, Bool.or_eq_false_iff, List.any_eq_false, decide_eq_false_iff_not] at h2
 refine ⟨by omega, by omega, fun c hc => ?_⟩
 have h3 := h2.2 c hc
 simp only [grtC, Bool.not_eq_true, Bool.or_eq_false_iff, decide_eq_false_iff_not] at h3
 omega
theorem grt_bdR {l : List Ru} (h : grtL l = false) : l.length ≤ 1000000 ∧ ∀ r ∈ l, bdR r := by
 obtain ⟨h1, h2⟩ := grt_bd h
 refine ⟨by omega, fun r hr => ⟨by have := (h2 r hr).1; omega, fun x hx => ?_⟩⟩
 obtain ⟨q1, q2, q3⟩ := (h2 r hr).2 x hx
 exact ⟨by omega, by omega, fun c hc => by have := q3 c hc; exact ⟨by omega, by omega⟩⟩
theorem nm_map {l : List Ru} (h : ∀ r ∈ l, rulE r = 0) : l.map (nmRu nmE) = l.map (nmRu nf) := by
 refine List.map_congr_left fun r hr => ?_
 obtain ⟨-, -, h1⟩ := (rE_zero (tp := tmpB nameB) (ce := chE)).1 (h r hr)
 rw [nmRu, nmRu]
 refine congrArg (Prod.mk r.1) (List.map_congr_left fun x hx => ?_)
 rw [nmL, nmL, nmE, if_pos (h1 x hx).2]
theorem nm_bd {l : List Ru} (hg : grtL l = false) (h : ∀ r ∈ l, rulE r = 0) : ∀ r ∈ l.map (nmRu nf), bdR r := by
 obtain ⟨-, g2⟩ := grt_bd hg
 intro r hr
 obtain ⟨r0, hr0, rfl⟩ := List.mem_map.1 hr
 obtain ⟨-, -, h1⟩ := (rE_zero (tp := tmpB nameB) (ce := chE)).1 (h r0 hr0)
 obtain ⟨g3, g4⟩ := g2 r0 hr0
 refine ⟨by simp [nmRu]; omega, fun x hx => ?_⟩
 obtain ⟨x0, hx0, rfl⟩ := List.mem_map.1 hx
 obtain ⟨g5, g6, g7⟩ := g4 x0 hx0
 have h2 := chE_zero.1 (h1 x0 hx0).2
 refine ⟨by simp [nmL]; omega, ?_, fun c hc => ?_⟩
 · have := nf_len x0.2.2
   show (nf x0.2.2).length ≤ 1000000
   omega
 · have hc : c ∈ nf x0.2.2 := hc
   have q1 := nf_flen (e := x0.2.2) (B := 13) (fun d hd => (g7 d hd).2) hc
   obtain ⟨d, hd, q2⟩ := nf_name hc
   have q3 := (g7 d hd).1
   rw [← q2]
   exact ⟨by omega, by omega⟩
instance : EqOf Tryz.prog 113 [.s, .s] := eqOf_struct (by kernel_rfl) (by kernel_rfl) (by kernel_rfl)
instance decLn : DecidableEq Ln := inferInstance
instance decLns : DecidableEq (List Ln) := @instDecidableEqList Ln decLn
instance decRu : DecidableEq Ru := @instDecidableEqProd Int (List Ln) inferInstance decLns
instance decRus : DecidableEq (List Ru) := @instDecidableEqList Ru decRu
theorem take_nx {α : Type} {l r : List α} {i : Nat} {x y : α} (h : l.take i = r.take i) (hx : l[i]? = some x) (hy : r[i]? = some y) (e : x = y) : l.take (i + 1) = r.take (i + 1) := by
 rw [List.take_add_one, List.take_add_one, h, hx, hy, e]
theorem take_nq {α : Type} {l r : List α} {i : Nat} {x y : α} (hx : l[i]? = some x) (hy : r[i]? = some y) (e : x ≠ y) : l ≠ r := fun h => e (by
 subst h
 rw [hx] at hy
 exact Option.some.inj hy)
abbrev vCf (x : Cf) : List Value := [vS x.1, vS x.2]
theorem veq_cf (x y : Cf) : veqs (vCf x) (vCf y) = decide (x = y) := by
 obtain ⟨x0, x1⟩ := x
 obtain ⟨y0, y1⟩ := y
 show (veq (vS x0) (vS y0) && (veq (vS x1) (vS y1) && true)) = _
 rw [veq_str, veq_str, Bool.eq_iff_iff]
 simp
theorem wSameE (l r : List Cf) (hl : l.length ≤ 1000000) : PCalls Tryz.prog 66 [.sl 2 (l.map dCf), .sl 2 (r.map dCf)] (.d (dB (decide (l = r)))) := by
 by_cases hn : l.length = r.length
 rotate_left
 · have t1 : (((l.map dCf).length : Int) != ((r.map dCf).length : Int)) = true := by simp; omega
   rw [decide_eq_false fun e => hn (by rw [e])]
   refine pcalls_of_pw Tryz.func66 rfl Tryz.ntmps66 Tryz.results66 (by simp) fun B w0 => ?_
   refine pzr (yAd rfl (yQ (pw_seq (pzr (yMd rfl (yN rfl (yMd rfl (yN rfl (yB rfl rfl rfl rfl ?_))))))))); refine yQ (q_then ?_); rw [t1]; refine pw_ct rfl (pzr (yAd rfl (yQ (pw_ret (q_then_ret ?_)))))
   exact q_ret _ (.tmp rfl .nil) rfl
 have t1 : (((l.map dCf).length : Int) != ((r.map dCf).length : Int)) = false := by simp; omega
 refine pcalls_of_pw Tryz.func66 rfl Tryz.ntmps66 Tryz.results66 (by simp) fun B w0 => ?_
 refine pzr (yAd rfl (yQ (pw_seq (pzr (yMd rfl (yN rfl (yMd rfl (yN rfl (yB rfl rfl rfl rfl ?_))))))))); refine yQ (q_then ?_); rw [t1]; refine pw_cf rfl (pw_skip (pw_seq (pzr (yAd rfl (yQ (pw_block ?_)))))); refine pw_loop (fun i : Nat => ⟨26, [(0, .d (.sl 2 (l.map dCf))), (1, .d (.sl 2 (r.map dCf))), (5, .d (dI i))], [], []⟩) (fun i => i ≤ l.length ∧ l.take i = r.take i) (fun i => l.length - i) 0 ⟨Nat.zero_le _, rfl⟩ ⟨rfl, ⟨.refl _, .refl _, .refl _, trivial⟩, trivial, trivial, rfl⟩ ?_
 rintro i ⟨hi, h0⟩
 rcases Nat.lt_or_ge i l.length with h | h
 · have u1 : decide ((i : Int) < ((l.map dCf).length : Int)) = true := decide_eq_true (by rw [List.length_map]; omega)
   obtain ⟨x, hx⟩ : ∃ a, l[i]? = some a := ⟨_, List.getElem?_eq_getElem h⟩
   obtain ⟨y, hy⟩ : ∃ a, r[i]? = some a := ⟨_, List.getElem?_eq_getElem (by omega)⟩
   have ex := ix dCf l i i x rfl hx
   have ey := ix dCf r i i y rfl hy
   have hw := wrapI ((i : Int) + 1) (by omega)
   have hv := veq_cf x y
   by_cases e : x = y
   · rw [decide_eq_true e] at hv
     refine pw_seq (pzr (yMd rfl (yMd rfl (yN rfl (yB rfl rfl rfl rfl (yQ (q_then ?_))))))); rw [u1]; refine pw_ct rfl (pw_skip (pw_seq (pw_block (pw_seq ?_)))); refine pw_draw Tryz.mixed (by kernel_rfl) ?_; refine yMd rfl (yMd rfl (yW ex (by omega) rfl rfl (yLs (ys := [_, _]) rfl rfl rfl (yMd rfl (yMd rfl (yW ey (by omega) rfl rfl (yLs (ys := [_, _]) rfl rfl rfl (yBx (vs := vCf x) (us := vCf y) rfl rfl rfl rfl rfl rfl (yQ ?_))))))))); refine q_then ?_; rw [hv]
     refine pw_cf rfl (pw_skip (pw_region (yMd rfl (yB rfl rfl rfl rfl (yAd rfl (yQ (q_then ?_)))))))
     refine ⟨i + 1, ⟨by omega, take_nx h0 hx hy e⟩, by omega, rfl, ⟨.refl _, .refl _, .of_eq (congrArg (fun n => SV.d (dI n)) hw), trivial⟩, trivial, trivial, rfl⟩
   · rw [decide_eq_false e] at hv
     rw [decide_eq_false (take_nq hx hy e)]
     refine pw_seq (pzr (yMd rfl (yMd rfl (yN rfl (yB rfl rfl rfl rfl (yQ (q_then ?_))))))); rw [u1]; refine pw_ct rfl (pw_skip (pw_seq (pw_block (pw_seq ?_)))); refine pw_draw Tryz.mixed (by kernel_rfl) ?_; refine yMd rfl (yMd rfl (yW ex (by omega) rfl rfl (yLs (ys := [_, _]) rfl rfl rfl (yMd rfl (yMd rfl (yW ey (by omega) rfl rfl (yLs (ys := [_, _]) rfl rfl rfl (yBx (vs := vCf x) (us := vCf y) rfl rfl rfl rfl rfl rfl (yQ ?_))))))))); refine q_then ?_; rw [hv]
     refine pw_ct rfl (pzr (yAd rfl (yQ (pw_ret (q_blk_ret (q_then_ret (q_then_ret (q_blk_ret (q_then_ret ?_)))))))))
     exact q_ret _ (.tmp rfl .nil) rfl
 · have u1 : decide ((i : Int) < ((l.map dCf).length : Int)) = false := decide_eq_false (by rw [List.length_map]; omega)
   rw [List.take_of_length_le (by omega), List.take_of_length_le (by omega)] at h0
   rw [decide_eq_true h0]
   refine pw_seq (pzr (yMd rfl (yMd rfl (yN rfl (yB rfl rfl rfl rfl (yQ (q_then ?_))))))); rw [u1]; refine pw_cf rfl (pw_exit (pzr (yAd rfl (yQ (pw_ret ?_)))))
   exact q_ret _ (.tmp rfl .nil) rfl
theorem wSame (a b : List Ru) (hl : a.length ≤ 1000000) (hb : ∀ r ∈ a, bdR r) : PCalls Tryz.prog 25 [dRus a, dRus b] (.d (dB (decide (a = b)))) := by
 by_cases hn : a.length = b.length
 rotate_left
 · have t1 : (((a.map dRu).length : Int) != ((b.map dRu).length : Int)) = true := by simp; omega
   rw [decide_eq_false fun e => hn (by rw [e])]
   refine pcalls_of_pw Tryz.func25 rfl Tryz.ntmps25 Tryz.results25 (by simp) fun B w0 => ?_
   refine pzr (yAd rfl (yQ (pw_seq (pzr (yMd rfl (yN rfl (yMd rfl (yN rfl (yB rfl rfl rfl rfl ?_))))))))); refine yQ (q_then ?_); rw [t1]; refine pw_ct rfl (pzr (yAd rfl (yQ (pw_ret (q_then_ret ?_)))))
   exact q_ret _ (.tmp rfl .nil) rfl
 have t1 : (((a.map dRu).length : Int) != ((b.map dRu).length : Int)) = false := by simp; omega
 refine pcalls_of_pw Tryz.func25 rfl Tryz.ntmps25 Tryz.results25 (by simp) fun B w0 => ?_
 refine pzr (yAd rfl (yQ (pw_seq (pzr (yMd rfl (yN rfl (yMd rfl (yN rfl (yB rfl rfl rfl rfl ?_))))))))); refine yQ (q_then ?_); rw [t1]; refine pw_cf rfl (pw_skip (pw_seq (pzr (yAd rfl (yQ (pw_block ?_)))))); refine pw_loop (fun i : Nat => ⟨92, [(0, .d (dRus a)), (1, .d (dRus b)), (5, .d (dI i))], [], []⟩) (fun i => i ≤ a.length ∧ a.take i = b.take i) (fun i => a.length - i) 0 ⟨Nat.zero_le _, rfl⟩ ⟨rfl, ⟨.refl _, .refl _, .refl _, trivial⟩, trivial, trivial, rfl⟩ ?_
 rintro i ⟨hi, h0⟩
 rcases Nat.lt_or_ge i a.length with h | h
 rotate_left
 · have u1 : decide ((i : Int) < ((a.map dRu).length : Int)) = false := decide_eq_false (by rw [List.length_map]; omega)
   rw [List.take_of_length_le (by omega), List.take_of_length_le (by omega)] at h0
   rw [decide_eq_true h0]
   refine pw_seq (pzr (yMd rfl (yMd rfl (yN rfl (yB rfl rfl rfl rfl (yQ (q_then ?_))))))); rw [u1]; refine pw_cf rfl (pw_exit (pzr (yAd rfl (yQ (pw_ret ?_)))))
   exact q_ret _ (.tmp rfl .nil) rfl
 have u1 : decide ((i : Int) < ((a.map dRu).length : Int)) = true := decide_eq_true (by rw [List.length_map]; omega)
 obtain ⟨⟨n, ls⟩, hx⟩ : ∃ x, a[i]? = some x := ⟨_, List.getElem?_eq_getElem h⟩
 obtain ⟨⟨n2, ls2⟩, hy⟩ : ∃ x, b[i]? = some x := ⟨_, List.getElem?_eq_getElem (by omega)⟩
 obtain ⟨hls, hbl⟩ := hb _ (List.mem_of_getElem? hx)
 simp only at hls hbl
 have ex := ix dRu a i i (n, ls) rfl hx
 have ey := ix dRu b i i (n2, ls2) rfl hy
 have hw := wrapI ((i : Int) + 1) (by omega)
 have arith : a.length - (i + 1) < a.length - i := by omega
 by_cases e1 : n = n2
 rotate_left
 · have t2 : (n != n2) = true := by simp [e1]
   rw [decide_eq_false (take_nq hx hy fun e => e1 (congrArg (·.1) e))]
   refine pw_seq (pzr (yMd rfl (yMd rfl (yN rfl (yB rfl rfl rfl rfl (yQ (q_then ?_))))))); rw [u1]; refine pw_ct rfl (pw_skip (pw_seq (pw_block (pw_seq (pw_seq ?_))))); refine pw_draw Tryz.mixed (by kernel_rfl) ?_; refine yMd rfl (yMd rfl (yW ex (by omega) rfl rfl (yFr rfl rfl (yLr rfl rfl (yMd rfl (yMd rfl (yW ey (by omega) rfl rfl (yFr rfl rfl (yLr rfl rfl ?_))))))))); refine yB rfl rfl rfl rfl (yMd rfl ?_); rw [t2]; refine yO rfl (yO rfl (yO rfl (yO rfl (yO rfl (yO rfl (yO rfl (yO rfl (yO rfl (yO rfl ?_))))))))); refine yO rfl (yO rfl (yO rfl (yPd rfl rfl (yQ (pw_ct rfl (pzr (yAd rfl (yQ (pw_ret ?_))))))))); refine q_then_ret (q_blk_ret (q_then_ret (q_then_ret (q_blk_ret (q_then_ret ?_)))))
   exact q_ret _ (.tmp rfl .nil) rfl
 have t2 : (n != n2) = false := by simp [e1]
 by_cases e2 : ls.length = ls2.length
 rotate_left
 · have t3 : (((ls.map dLn).length : Int) != ((ls2.map dLn).length : Int)) = true := by simp; omega
   rw [decide_eq_false (take_nq hx hy fun e => e2 (congrArg (·.2.length) e))]
   refine pw_seq (pzr (yMd rfl (yMd rfl (yN rfl (yB rfl rfl rfl rfl (yQ (q_then ?_))))))); rw [u1]; refine pw_ct rfl (pw_skip (pw_seq (pw_block (pw_seq (pw_seq ?_))))); refine pw_draw Tryz.mixed (by kernel_rfl) ?_; refine yMd rfl (yMd rfl (yW ex (by omega) rfl rfl (yFr rfl rfl (yLr rfl rfl (yMd rfl (yMd rfl (yW ey (by omega) rfl rfl (yFr rfl rfl (yLr rfl rfl ?_))))))))); refine yB rfl rfl rfl rfl (yMd rfl ?_); rw [t2]; refine yMd rfl (yMd rfl (yW ex (by omega) rfl rfl (yFr rfl rfl (yLr rfl rfl (yN rfl (yMd rfl (yMd rfl (yW ey (by omega) rfl rfl (yFr rfl rfl ?_))))))))); refine yLr rfl rfl (yN rfl (yB rfl rfl rfl rfl (yVd rfl rfl (yQ (q_then ?_))))); rw [t3]; refine pw_ct rfl (pzr (yAd rfl (yQ (pw_ret (q_then_ret (q_blk_ret (q_then_ret (q_then_ret (q_blk_ret ?_))))))))); refine q_then_ret ?_
   exact q_ret _ (.tmp rfl .nil) rfl
 have t3 : (((ls.map dLn).length : Int) != ((ls2.map dLn).length : Int)) = false := by simp; omega
 refine pw_seq (pzr (yMd rfl (yMd rfl (yN rfl (yB rfl rfl rfl rfl (yQ (q_then ?_))))))); rw [u1]; refine pw_ct rfl (pw_skip (pw_seq (pw_block (pw_seq (pw_seq ?_))))); refine pw_draw Tryz.mixed (by kernel_rfl) ?_; refine yMd rfl (yMd rfl (yW ex (by omega) rfl rfl (yFr rfl rfl (yLr rfl rfl (yMd rfl (yMd rfl (yW ey (by omega) rfl rfl (yFr rfl rfl (yLr rfl rfl ?_))))))))); refine yB rfl rfl rfl rfl (yMd rfl ?_); rw [t2]; refine yMd rfl (yMd rfl (yW ex (by omega) rfl rfl (yFr rfl rfl (yLr rfl rfl (yN rfl (yMd rfl (yMd rfl (yW ey (by omega) rfl rfl (yFr rfl rfl ?_))))))))); refine yLr rfl rfl (yN rfl (yB rfl rfl rfl rfl (yVd rfl rfl (yQ (q_then ?_))))); rw [t3]; refine pw_cf rfl (pw_skip (pzr (yAd rfl (yQ (pw_block ?_))))); refine pw_loop (fun k : Nat => ⟨92, [(0, .d (dRus a)), (1, .d (dRus b)), (5, .d (dI i)), (6, .d (dI k))], [], []⟩) (fun k => k ≤ ls.length ∧ ls.take k = ls2.take k) (fun k => ls.length - k) 0 ⟨Nat.zero_le _, rfl⟩ ⟨rfl, ⟨.refl _, .refl _, .refl _, .refl _, trivial⟩, trivial, trivial, rfl⟩ ?_
 rintro k ⟨hk, h2⟩
 rcases Nat.lt_or_ge k ls.length with h3 | h3
 rotate_left
 · have u2 : decide ((k : Int) < ((ls.map dLn).length : Int)) = false := decide_eq_false (by rw [List.length_map]; omega)
   rw [List.take_of_length_le (by omega), List.take_of_length_le (by omega)] at h2
   have hnx := take_nx h0 hx hy (by rw [e1, h2])
   refine pw_seq (pzr (yMd rfl (yMd rfl (yMd rfl (yW ex (by omega) rfl rfl (yFr rfl rfl (yLr rfl rfl (yN rfl (yB rfl rfl rfl rfl ?_))))))))); refine yQ (q_then ?_); rw [u2]; refine pw_cf rfl (pw_exit (pw_region (yMd rfl (yB rfl rfl rfl rfl (yAd rfl (yQ (q_then ?_)))))))
   exact ⟨i + 1, ⟨h, hnx⟩, arith, rfl, ⟨.refl _, .refl _, .of_eq (congrArg (fun n => SV.d (dI n)) hw), trivial⟩, trivial, trivial, rfl⟩
 have u2 : decide ((k : Int) < ((ls.map dLn).length : Int)) = true := decide_eq_true (by rw [List.length_map]; omega)
 obtain ⟨⟨x0, x1, x2⟩, kx⟩ : ∃ x, ls[k]? = some x := ⟨_, List.getElem?_eq_getElem h3⟩
 obtain ⟨⟨y0, y1, y2⟩, ky⟩ : ∃ x, ls2[k]? = some x := ⟨_, List.getElem?_eq_getElem (by omega)⟩
 obtain ⟨-, hbe, -⟩ := hbl _ (List.mem_of_getElem? kx)
 simp only at hbe
 have fx := ix dLn ls k k (x0, x1, x2) rfl kx
 have fy := ix dLn ls2 k k (y0, y1, y2) rfl ky
 have hw2 := wrapI ((k : Int) + 1) (by omega)
 have arith2 : ls.length - (k + 1) < ls.length - k := by omega
 have hno : (x0, x1, x2) ≠ (y0, y1, y2) → a ≠ b := fun he => take_nq hx hy fun e => take_nq kx ky he (congrArg (·.2) e)
 have c1 := wSameE x2 y2 hbe
 by_cases e3 : x0 = y0
 rotate_left
 · have v1 : (x0 == y0) = false := by simp [e3]
   rw [decide_eq_false (hno fun e => e3 (congrArg (·.1) e))]
   refine pw_seq (pzr (yMd rfl (yMd rfl (yMd rfl (yW ex (by omega) rfl rfl (yFr rfl rfl (yLr rfl rfl (yN rfl (yB rfl rfl rfl rfl ?_))))))))); refine yQ (q_then ?_); rw [u2]; refine pw_ct rfl (pw_skip (pw_seq (pw_block (pw_seq ?_)))); refine pw_draw2 (id := 11) Tryz.mixed (by kernel_rfl) ?_; refine yMd rfl (yMd rfl (yW ex (by omega) rfl rfl (yFr rfl rfl (yLr rfl rfl (yMd rfl (yW fx (by omega) rfl rfl (yLs (ys := [_, _, _]) rfl rfl rfl (yMd rfl (yMd rfl ?_))))))))); refine yW ey (by omega) rfl rfl (yFr rfl rfl (yLr rfl rfl (yMd rfl (yW fy (by omega) rfl rfl (yLs (ys := [_, _, _]) rfl rfl rfl (yZ (cs := [_, _, _]) rfl rfl (yZ (cs := [_, _, _]) rfl rfl (yS (cs' := [_, _, _]) rfl rfl rfl rfl rfl (yS (cs' := [_, _, _]) rfl rfl rfl rfl rfl ?_))))))))); refine yQ ?_
   refine Px.Sep.mk (by kernel_rfl) ?_; refine pzr (yFb rfl (yLd rfl rfl rfl (yFb rfl (yLd rfl rfl rfl (yBsn rfl rfl (yMd rfl ?_)))))); rw [v1]
   refine yO rfl (yO rfl (yO rfl (yO rfl (yO rfl (yPd rfl rfl (yMd rfl (yO rfl (yO rfl (yO rfl ?_))))))))); refine yO rfl (yO rfl (yO rfl (yPd rfl rfl (yQ (pw_ct rfl (pzr (yAd rfl (yQ (pw_ret ?_))))))))); refine q_blk_ret (q_then_ret (q_then_ret (q_blk_ret (q_blk_ret (q_then_ret (q_then_ret (q_blk_ret (q_then_ret ?_))))))))
   exact q_ret _ (.tmp rfl .nil) rfl
 have v1 : (x0 == y0) = true := by simp [e3]
 by_cases e4 : x1 = y1
 rotate_left
 · have v2 : (x1 != y1) = true := by simp [e4]
   rw [decide_eq_false (hno fun e => e4 (congrArg (·.2.1) e))]
   refine pw_seq (pzr (yMd rfl (yMd rfl (yMd rfl (yW ex (by omega) rfl rfl (yFr rfl rfl (yLr rfl rfl (yN rfl (yB rfl rfl rfl rfl ?_))))))))); refine yQ (q_then ?_); rw [u2]; refine pw_ct rfl (pw_skip (pw_seq (pw_block (pw_seq ?_)))); refine pw_draw2 (id := 11) Tryz.mixed (by kernel_rfl) ?_; refine yMd rfl (yMd rfl (yW ex (by omega) rfl rfl (yFr rfl rfl (yLr rfl rfl (yMd rfl (yW fx (by omega) rfl rfl (yLs (ys := [_, _, _]) rfl rfl rfl (yMd rfl (yMd rfl ?_))))))))); refine yW ey (by omega) rfl rfl (yFr rfl rfl (yLr rfl rfl (yMd rfl (yW fy (by omega) rfl rfl (yLs (ys := [_, _, _]) rfl rfl rfl (yZ (cs := [_, _, _]) rfl rfl (yZ (cs := [_, _, _]) rfl rfl (yS (cs' := [_, _, _]) rfl rfl rfl rfl rfl (yS (cs' := [_, _, _]) rfl rfl rfl rfl rfl ?_))))))))); refine yQ ?_
   refine Px.Sep.mk (by kernel_rfl) ?_; refine pzr (yFb rfl (yLd rfl rfl rfl (yFb rfl (yLd rfl rfl rfl (yBsn rfl rfl (yMd rfl ?_)))))); rw [v1]
   refine yFb rfl (yLd rfl rfl rfl (yFb rfl (yLd rfl rfl rfl (yBbn (c := true) Tryz.underlying4 v2 rfl rfl (yVd rfl rfl (yMd rfl (yO rfl (yO rfl (yO rfl ?_))))))))); refine yO rfl (yO rfl (yO rfl (yPd rfl rfl (yQ (pw_ct rfl (pzr (yAd rfl (yQ (pw_ret ?_))))))))); refine q_blk_ret (q_then_ret (q_then_ret (q_blk_ret (q_blk_ret (q_then_ret (q_then_ret (q_blk_ret (q_then_ret ?_))))))))
   exact q_ret _ (.tmp rfl .nil) rfl
 have v2 : (x1 != y1) = false := by simp [e4]
 by_cases e5 : x2 = y2
 rotate_left
 · rw [decide_eq_false e5] at c1
   rw [decide_eq_false (hno fun e => e5 (congrArg (·.2.2) e))]
   refine pw_seq (pzr (yMd rfl (yMd rfl (yMd rfl (yW ex (by omega) rfl rfl (yFr rfl rfl (yLr rfl rfl (yN rfl (yB rfl rfl rfl rfl ?_))))))))); refine yQ (q_then ?_); rw [u2]; refine pw_ct rfl (pw_skip (pw_seq (pw_block (pw_seq ?_)))); refine pw_draw2 (id := 11) Tryz.mixed (by kernel_rfl) ?_; refine yMd rfl (yMd rfl (yW ex (by omega) rfl rfl (yFr rfl rfl (yLr rfl rfl (yMd rfl (yW fx (by omega) rfl rfl (yLs (ys := [_, _, _]) rfl rfl rfl (yMd rfl (yMd rfl ?_))))))))); refine yW ey (by omega) rfl rfl (yFr rfl rfl (yLr rfl rfl (yMd rfl (yW fy (by omega) rfl rfl (yLs (ys := [_, _, _]) rfl rfl rfl (yZ (cs := [_, _, _]) rfl rfl (yZ (cs := [_, _, _]) rfl rfl (yS (cs' := [_, _, _]) rfl rfl rfl rfl rfl (yS (cs' := [_, _, _]) rfl rfl rfl rfl rfl ?_))))))))); refine yQ ?_
   refine Px.Sep.mk (by kernel_rfl) ?_; refine pzr (yFb rfl (yLd rfl rfl rfl (yFb rfl (yLd rfl rfl rfl (yBsn rfl rfl (yMd rfl ?_)))))); rw [v1]
   refine yFb rfl (yLd rfl rfl rfl (yFb rfl (yLd rfl rfl rfl (yBbn (c := false) Tryz.underlying4 v2 rfl rfl (yVd rfl rfl (yMd rfl (yFb rfl (yLd rfl rfl rfl (yFb rfl ?_))))))))); refine yLd rfl rfl rfl (yC (c1) rfl rfl (yU rfl rfl rfl (yVd rfl rfl (yQ (pw_ct rfl (pzr (yAd rfl (yQ (pw_ret ?_))))))))); refine q_blk_ret (q_then_ret (q_then_ret (q_blk_ret (q_blk_ret (q_then_ret (q_then_ret (q_blk_ret (q_then_ret ?_))))))))
   exact q_ret _ (.tmp rfl .nil) rfl
 rw [decide_eq_true e5] at c1
 have hnx := take_nx h2 kx ky (by rw [e3, e4, e5])
 refine pw_seq (pzr (yMd rfl (yMd rfl (yMd rfl (yW ex (by omega) rfl rfl (yFr rfl rfl (yLr rfl rfl (yN rfl (yB rfl rfl rfl rfl ?_))))))))); refine yQ (q_then ?_); rw [u2]; refine pw_ct rfl (pw_skip (pw_seq (pw_block (pw_seq ?_)))); refine pw_draw2 (id := 11) Tryz.mixed (by kernel_rfl) ?_; refine yMd rfl (yMd rfl (yW ex (by omega) rfl rfl (yFr rfl rfl (yLr rfl rfl (yMd rfl (yW fx (by omega) rfl rfl (yLs (ys := [_, _, _]) rfl rfl rfl (yMd rfl (yMd rfl ?_))))))))); refine yW ey (by omega) rfl rfl (yFr rfl rfl (yLr rfl rfl (yMd rfl (yW fy (by omega) rfl rfl (yLs (ys := [_, _, _]) rfl rfl rfl (yZ (cs := [_, _, _]) rfl rfl (yZ (cs := [_, _, _]) rfl rfl (yS (cs' := [_, _, _]) rfl rfl rfl rfl rfl (yS (cs' := [_, _, _]) rfl rfl rfl rfl rfl ?_))))))))); refine yQ ?_
 refine Px.Sep.mk (by kernel_rfl) ?_; refine pzr (yFb rfl (yLd rfl rfl rfl (yFb rfl (yLd rfl rfl rfl (yBsn rfl rfl (yMd rfl ?_)))))); rw [v1]
 refine yFb rfl (yLd rfl rfl rfl (yFb rfl (yLd rfl rfl rfl (yBbn (c := false) Tryz.underlying4 v2 rfl rfl (yVd rfl rfl (yMd rfl (yFb rfl (yLd rfl rfl rfl (yFb rfl ?_))))))))); refine yLd rfl rfl rfl (yC (c1) rfl rfl (yU rfl rfl rfl (yVd rfl rfl (yQ (pw_cf rfl (pw_skip (pw_region (yMd rfl (yB rfl rfl rfl rfl ?_))))))))); refine yAd rfl (yQ (q_then ?_))
 exact ⟨k + 1, ⟨h3, hnx⟩, arith2, rfl, ⟨.refl _, .refl _, .refl _, .of_eq (congrArg (fun n => SV.d (dI n)) hw2), trivial⟩, trivial, trivial, rfl⟩
abbrev nT : Nat := 53 * 100000 + 6
abbrev oT : Nat := 32 * 100000 + 3
theorem map_take_nx {α β : Type} {f : α → β} {l : List α} {k : Nat} {x : α} (h : l[k]? = some x) : (l.take (k + 1)).map f = (l.take k).map f ++ [f x] := by
 rw [List.take_add_one, h]; simp
theorem wNormalR (l : List Ru) (hl : l.length ≤ 1000000) (hb : ∀ r ∈ l, bdR r) : PCalls Tryz.prog 41 [dRus l] (.d (dRus (l.map (nmRu nmE)))) := by
 refine pcalls_of_pw Tryz.func41 rfl Tryz.ntmps41 Tryz.results41 (by simp) fun B w0 => ?_
 refine pzr (yAd rfl (yQ (pzr (yAd rfl (yQ ?_))))); refine pw_tok 3 oT 2 rfl rfl rfl ?_; refine pw_seq (pzr (yMd rfl (yN rfl (yMd rfl (yQ (pw_block ?_)))))); refine pw_loop (fun i : Nat => ⟨45, [(3, .ts oT 2 (((l.take i).map (nmRu nmE)).map dRu)), (9, .d (dRus l)), (10, .d (dI l.length)), (11, .d (dI i))], [], [(oT, (((l.take i).map (nmRu nmE)).map dRu).length)]⟩) (fun i => i ≤ l.length) (fun i => l.length - i) 0 (Nat.zero_le _)
  ⟨rfl, ⟨.refl _, .refl _, .of_eq (congrArg (fun n : Nat => SV.d (dI n)) (by simp)), .refl _, trivial⟩, trivial, ⟨rfl, trivial⟩, rfl⟩ ?_
 intro i hi
 rcases Nat.lt_or_ge i l.length with h | h
 rotate_left
 · have u1 : decide ((i : Int) < (l.length : Int)) = false := decide_eq_false (by omega)
   rw [List.take_of_length_le h]
   refine pzr (yB rfl rfl rfl rfl (yQ (pw_seq ?_))); rw [u1]; refine pw_cf rfl (pw_exit (pzr (yMt rfl (yAt rfl (yQ (pw_ret ?_))))))
   exact q_ret _ (.tmp rfl .nil) rfl
 have u1 : decide ((i : Int) < (l.length : Int)) = true := decide_eq_true (by omega)
 obtain ⟨⟨n, ls⟩, hx⟩ : ∃ a, l[i]? = some a := ⟨_, List.getElem?_eq_getElem h⟩
 obtain ⟨hls, hbl⟩ := hb _ (List.mem_of_getElem? hx)
 simp only at hls hbl
 have ex := ix dRu l i i (n, ls) rfl hx
 have hw := wrapI ((i : Int) + 1) (by omega)
 have hnx : (l.take (i + 1)).map (nmRu nmE) = (l.take i).map (nmRu nmE) ++ [(n, ls.map (nmL nmE))] := map_take_nx hx
 have arith : l.length - (i + 1) < l.length - i := by omega
 have hzl : ((l.take i).map (nmRu nmE)).length ≤ 1000000 := by simp; omega
 obtain ⟨zs, hz⟩ : ∃ z, z = (l.take i).map (nmRu nmE) := ⟨_, rfl⟩
 rw [← hz] at hnx hzl ⊢
 clear hz
 refine pzr (yB rfl rfl rfl rfl (yQ (pw_seq ?_))); rw [u1]; refine pw_ct rfl (pw_skip (pw_seq (pw_block (pzr (yW ex (by omega) rfl rfl (yLs (ys := [_, _]) rfl rfl rfl (yZ (cs := [_, _]) rfl rfl (yS (cs' := [_, _]) rfl rfl rfl rfl rfl (yQ ?_))))))))); refine pzr (yFb rfl (yLd rfl rfl rfl (yG (ys := [_, _]) rfl rfl (yZ (cs := [_, _]) rfl rfl (yS (cs' := [_, _]) rfl rfl rfl rfl rfl (yQ ?_)))))); refine pw_tokb 6 1 nT 3 rfl rfl rfl rfl ?_; refine pw_seq (pzr (yFb rfl (yLd rfl rfl rfl (yN rfl (yMd rfl (yQ (pw_block ?_))))))); refine pw_loop (fun k : Nat => ⟨45, [(3, .ts oT 2 (zs.map dRu)), (9, .d (dRus l)), (10, .d (dI l.length)), (11, .d (dI i)), (6, .bx 6 0), (19, .d (.sl 3 (ls.map dLn))), (20, .d (dI ls.length)), (21, .d (dI k))], [(6, [.d (dI n), .ts nT 3 (((ls.take k).map (nmL nmE)).map dLn)])], [(oT, (zs.map dRu).length), (nT, (((ls.take k).map (nmL nmE)).map dLn).length)]⟩) (fun k => k ≤ ls.length) (fun k => ls.length - k) 0 (Nat.zero_le _)
  ⟨rfl, ⟨.refl _, .refl _, .refl _, .refl _, .refl _, .refl _, .of_eq (congrArg (fun n : Nat => SV.d (dI n)) (by simp)), .refl _, trivial⟩, ⟨⟨_, rfl, lesC_refl _⟩, trivial⟩, ⟨rfl, rfl, trivial⟩, rfl⟩ ?_
 intro k hk
 rcases Nat.lt_or_ge k ls.length with h2 | h2
 rotate_left
 · have u2 : decide ((k : Int) < (ls.length : Int)) = false := decide_eq_false (by omega)
   rw [List.take_of_length_le h2]
   obtain ⟨ys, hy⟩ : ∃ y, y = ls.map (nmL nmE) := ⟨_, rfl⟩
   rw [← hy] at hnx ⊢
   clear hy
   refine pw_tell (frb_tell (cs := [.d (dI n), .ts nT 3 (ys.map dLn)]) (ds := [dI n, .sl 3 (ys.map dLn)]) 6 6 rfl rfl rfl) ?_; refine pzr (yB rfl rfl rfl rfl (yQ (pw_seq ?_))); rw [u2]
   refine pw_cf rfl (pw_exit (pw_region (yMt rfl (yLs (ys := [_, _]) rfl rfl rfl ?_)))); refine yR (es := [[_, _]]) rfl rfl rfl rfl rfl ?_; refine yT (es' := (zs ++ [(n, ys)]).map dRu) (m := ((zs ++ [(n, ys)]).map dRu).length) (by simp; omega) (by simp; omega) rfl rfl rfl rfl rfl (by simp) (by simp) ?_; refine yAt rfl (yQ (pw_region (yB rfl rfl rfl rfl (yMd rfl (yQ (q_then ?_))))))
   exact ⟨i + 1, h, arith, rfl, ⟨.of_eq (by rw [hnx]; rfl), .refl _, .refl _, .of_eq (congrArg (fun n => SV.d (dI n)) hw), trivial⟩, trivial, ⟨(by rw [hnx]; rfl), trivial⟩, rfl⟩
 have u2 : decide ((k : Int) < (ls.length : Int)) = true := decide_eq_true (by omega)
 obtain ⟨⟨a, s, e⟩, hxk⟩ : ∃ a, ls[k]? = some a := ⟨_, List.getElem?_eq_getElem h2⟩
 obtain ⟨-, hbe1, hbe2⟩ := hbl _ (List.mem_of_getElem? hxk)
 simp only at hbe1 hbe2
 have ek := ix dLn ls k k (a, s, e) rfl hxk
 have hw2 := wrapI ((k : Int) + 1) (by omega)
 have c2 := wNormalE e hbe1 fun c hc => (hbe2 c hc).2
 have hnk : (ls.take (k + 1)).map (nmL nmE) = (ls.take k).map (nmL nmE) ++ [(a, s, nmE e)] := map_take_nx hxk
 have arith2 : ls.length - (k + 1) < ls.length - k := by omega
 have hyl : ((ls.take k).map (nmL nmE)).length ≤ 1000000 := by simp; omega
 obtain ⟨ys, hy⟩ : ∃ y, y = (ls.take k).map (nmL nmE) := ⟨_, rfl⟩
 rw [← hy] at hnk hyl ⊢
 obtain ⟨x, hxe⟩ : ∃ x, x = nmE e := ⟨_, rfl⟩
 rw [← hxe] at c2 hnk
 obtain ⟨E, hE⟩ : ∃ x, x = chE e := ⟨_, rfl⟩
 rw [← hE] at c2
 clear hy hxe hE
 refine pzr (yB rfl rfl rfl rfl (yQ (pw_seq ?_))); rw [u2]; refine pw_ct rfl (pw_skip (pw_seq (pw_block (pzr (yW ek (by omega) rfl rfl (yLs (ys := [_, _, _]) rfl rfl rfl (yZ (cs := [_, _, _]) rfl rfl (yS (cs' := [_, _, _]) rfl rfl rfl rfl rfl (yQ ?_))))))))); refine pzr (yFb rfl (yLd rfl rfl rfl (yC (c2) rfl rfl (yMp rfl (yX rfl rfl (yX rfl rfl (yFb rfl (ySl (cs' := [_, _, _]) rfl rfl rfl rfl (yQ ?_))))))))); refine pw_region (yFb rfl (yLt rfl rfl rfl (yLa (ys := [_, _, _]) rfl rfl rfl rfl ?_))); refine yR (es := [[_, _, _]]) rfl rfl rfl rfl rfl ?_; refine yT (es' := (ys ++ [(a, s, x)]).map dLn) (m := ((ys ++ [(a, s, x)]).map dLn).length) (by simp; omega) (by simp; omega) rfl rfl rfl rfl rfl (by simp) (by simp) ?_; refine yFb rfl (ySt (cs' := [_, _]) rfl rfl rfl rfl (yQ (pw_region (yB rfl rfl rfl rfl (yMd rfl (yQ (q_then ?_)))))))
 exact ⟨k + 1, h2, arith2, rfl, ⟨.refl _, .refl _, .refl _, .refl _, .refl _, .refl _, .refl _, .of_eq (congrArg (fun n => SV.d (dI n)) hw2), trivial⟩, ⟨⟨_, rfl, lesC_eq (by rw [hnk])⟩, trivial⟩, ⟨rfl, (by rw [hnk]; rfl), trivial⟩, rfl⟩
theorem lawTexts (l : List Ru) (s : Str) : PCalls Tryz.prog 8 [dRus l, dS s] (.d (dB true)) := by
 have k0 := wAwake
 have k1 := wGreatRs [l] (by simp)
 simp only [List.map_cons, List.map_nil, List.any_cons, List.any_nil, Bool.or_false] at k1
 cases hg : grtL l with
 | true =>
  rw [hg] at k1
  refine pcalls_of_pw Tryz.func8 rfl Tryz.ntmps8 Tryz.results8 (by simp) fun B w0 => ?_
  refine pzr (yAd rfl (yQ (pw_seq (pzr (yMd rfl ?_))))); refine yR (es := [[_]]) rfl rfl rfl rfl rfl ?_; refine yC (k1) rfl rfl (yMd rfl (yO rfl (yO rfl (yO rfl (yPd rfl rfl (yQ (pw_ct rfl (pzr (yC (k0) rfl rfl ?_))))))))); refine yAd rfl (yQ (pw_ret (q_then_ret ?_)))
  exact q_ret _ (.tmp rfl .nil) rfl
 | false =>
 rw [hg] at k1
 by_cases hs : 2500 < s.length
 · have t0 : decide ((s.length : Int) > 2500) = true := decide_eq_true (by omega)
   refine pcalls_of_pw Tryz.func8 rfl Tryz.ntmps8 Tryz.results8 (by simp) fun B w0 => ?_
   refine pzr (yAd rfl (yQ (pw_seq (pzr (yMd rfl ?_))))); refine yR (es := [[_]]) rfl rfl rfl rfl rfl ?_; refine yC (k1) rfl rfl (yMd rfl (yMd rfl (yNs rfl (yB rfl rfl rfl rfl (yVd rfl rfl (yQ (q_then ?_))))))); rw [t0]; refine pw_ct rfl (pzr (yC (k0) rfl rfl (yAd rfl (yQ (pw_ret (q_then_ret ?_))))))
   exact q_ret _ (.tmp rfl .nil) rfl
 have t0 : decide ((s.length : Int) > 2500) = false := decide_eq_false (by omega)
 obtain ⟨hl1, hl2⟩ := grt_bdR hg
 have m1 := wPrintRu l hl1 hl2
 have m2 := wParseR s
 have hA : ∃ a n f, prsR (tmpB nameB) paO s = (a, n, f) := ⟨_, _, _, rfl⟩
 obtain ⟨a, n, f, hA⟩ := hA
 rw [hA] at m2
 by_cases hf : f = 0
 rotate_left
 · obtain ⟨ha, hn⟩ := prs_bad hA hf
   subst ha
   have u1 : (f != 0) = true := by simp [hf]
   have u2 : (decide (n > 0) == (f == 3)) = true := by rw [hn]; exact beq_self_eq_true (decide (f = 3))
   clear hA
   by_cases he : pnE l = 0
   · have hback := back_ok (nm := nf) (fun t h => tmp_plain h) pao_back he
     obtain ⟨-, hz, -⟩ := prn_zero he
     have m3 := wParseR (pnT l)
     rw [show prsR (tmpB nameB) paO (pnT l) = (l.map (nmRu nf), 0, 0) from hback] at m3
     have m4 := wNormalR l hl1 hl2
     rw [nm_map hz] at m4
     have m5 := wSame (l.map (nmRu nf)) (l.map (nmRu nf)) (by rw [List.length_map]; exact hl1) (nm_bd hg hz)
     rw [decide_eq_true rfl] at m5
     rw [he] at m1
     obtain ⟨T, hT⟩ : ∃ T, T = pnT l := ⟨_, rfl⟩
     rw [← hT] at m1 m3
     obtain ⟨b, hb⟩ : ∃ b, b = l.map (nmRu nf) := ⟨_, rfl⟩
     rw [← hb] at m3 m4 m5
     clear hT hb hback hz he hg hl2
     refine pcalls_of_pw Tryz.func8 rfl Tryz.ntmps8 Tryz.results8 (by simp) fun B w0 => ?_
     refine pzr (yAd rfl (yQ (pw_seq (pzr (yMd rfl ?_))))); refine yR (es := [[_]]) rfl rfl rfl rfl rfl ?_; refine yC (k1) rfl rfl (yMd rfl (yMd rfl (yNs rfl (yB rfl rfl rfl rfl (yVd rfl rfl (yQ (q_then ?_))))))); rw [t0]; refine pw_cf rfl (pw_skip (pzr (yMd rfl (yC (m1) rfl rfl (yMp rfl (yX rfl rfl (yX rfl rfl (yAd rfl (yAd rfl ?_))))))))); refine yQ (pw_seq (pzr (yMd rfl (yB rfl rfl rfl rfl (yQ (pw_ct rfl (pzr (yMd rfl (yC (m3) rfl rfl ?_))))))))); refine yMp rfl (yX rfl rfl (yX rfl rfl (yX rfl rfl (yAd rfl (yAd rfl (yAd rfl (yQ (pzr (yMd rfl ?_))))))))); refine yB rfl rfl rfl rfl (yMd rfl (yMd rfl (yB rfl rfl rfl rfl (yVd rfl rfl (yMd rfl (yMd rfl (yMd rfl (yC (m4) rfl rfl (yC (m5) rfl rfl ?_))))))))); refine yU rfl rfl rfl (yVd rfl rfl (yQ (pw_cf rfl (pw_skip (pzr (yMd rfl (yC (m2) rfl rfl (yMp rfl (yX rfl rfl ?_))))))))); refine yX rfl rfl (yX rfl rfl (yAd rfl (yAd rfl (yAd rfl (yQ (pw_seq (pzr (yMd rfl (yB rfl rfl rfl rfl ?_))))))))); refine yQ (q_then ?_); rw [u1]; refine pw_ct rfl (pzr (yMd rfl (yN rfl (yB rfl rfl rfl rfl (yMd rfl (yMd rfl (yB rfl rfl rfl rfl (yMd rfl (yB rfl rfl rfl rfl ?_))))))))); refine yBb (c := true) Tryz.underlying4 u2 rfl rfl (yPd rfl rfl (yMd rfl (yC (k0) rfl rfl (yPd rfl rfl (yAd rfl (yQ (pw_ret (q_then_ret ?_))))))))
     exact q_ret _ (.tmp rfl .nil) rfl
   · have t1 : (pnE l == 0) = false := beq_false_of_ne he
     obtain ⟨T, hT⟩ : ∃ T, T = pnT l := ⟨_, rfl⟩
     obtain ⟨E, hE⟩ : ∃ E, E = pnE l := ⟨_, rfl⟩
     rw [← hT, ← hE] at m1
     rw [← hE] at t1
     clear hT hE he hg hl2
     refine pcalls_of_pw Tryz.func8 rfl Tryz.ntmps8 Tryz.results8 (by simp) fun B w0 => ?_
     refine pzr (yAd rfl (yQ (pw_seq (pzr (yMd rfl ?_))))); refine yR (es := [[_]]) rfl rfl rfl rfl rfl ?_; refine yC (k1) rfl rfl (yMd rfl (yMd rfl (yNs rfl (yB rfl rfl rfl rfl (yVd rfl rfl (yQ (q_then ?_))))))); rw [t0]; refine pw_cf rfl (pw_skip (pzr (yMd rfl (yC (m1) rfl rfl (yMp rfl (yX rfl rfl (yX rfl rfl (yAd rfl (yAd rfl ?_))))))))); refine yQ (pw_seq (pzr (yMd rfl (yB rfl rfl rfl rfl (yQ (q_then ?_)))))); rw [t1]; refine pw_cf rfl (pw_skip (pzr (yMd rfl (yC (m2) rfl rfl (yMp rfl (yX rfl rfl (yX rfl rfl (yX rfl rfl (yAd rfl ?_))))))))); refine yAd rfl (yAd rfl (yQ (pw_seq (pzr (yMd rfl (yB rfl rfl rfl rfl (yQ (q_then ?_)))))))); rw [u1]; refine pw_ct rfl (pzr (yMd rfl (yN rfl (yB rfl rfl rfl rfl (yMd rfl (yMd rfl (yB rfl rfl rfl rfl (yMd rfl (yB rfl rfl rfl rfl ?_))))))))); refine yBb (c := true) Tryz.underlying4 u2 rfl rfl (yPd rfl rfl (yMd rfl (yC (k0) rfl rfl (yPd rfl rfl (yAd rfl (yQ (pw_ret (q_then_ret ?_))))))))
     exact q_ret _ (.tmp rfl .nil) rfl
 subst hf
 obtain ⟨hn, hnf, hP⟩ := read_ok (fun t h => tmp_plain h) pao_back pao_ok hA
 subst hn
 obtain ⟨ha1, ha2⟩ := prs_bd (by omega) hA
 have m6 := wPrintRu a (by omega) ha2
 rcases hP with hP | ⟨hP, hP2⟩
 · rw [show pnE a = 4 from hP] at m6
   obtain ⟨Y, hY⟩ : ∃ Y, Y = pnT a := ⟨_, rfl⟩
   rw [← hY] at m6
   clear hY hP hA hnf ha2
   by_cases he : pnE l = 0
   · have hback := back_ok (nm := nf) (fun t h => tmp_plain h) pao_back he
     obtain ⟨-, hz, -⟩ := prn_zero he
     have m3 := wParseR (pnT l)
     rw [show prsR (tmpB nameB) paO (pnT l) = (l.map (nmRu nf), 0, 0) from hback] at m3
     have m4 := wNormalR l hl1 hl2
     rw [nm_map hz] at m4
     have m5 := wSame (l.map (nmRu nf)) (l.map (nmRu nf)) (by rw [List.length_map]; exact hl1) (nm_bd hg hz)
     rw [decide_eq_true rfl] at m5
     rw [he] at m1
     obtain ⟨T, hT⟩ : ∃ T, T = pnT l := ⟨_, rfl⟩
     rw [← hT] at m1 m3
     obtain ⟨b, hb⟩ : ∃ b, b = l.map (nmRu nf) := ⟨_, rfl⟩
     rw [← hb] at m3 m4 m5
     clear hT hb hback hz he hg hl2
     refine pcalls_of_pw Tryz.func8 rfl Tryz.ntmps8 Tryz.results8 (by simp) fun B w0 => ?_
     refine pzr (yAd rfl (yQ (pw_seq (pzr (yMd rfl ?_))))); refine yR (es := [[_]]) rfl rfl rfl rfl rfl ?_; refine yC (k1) rfl rfl (yMd rfl (yMd rfl (yNs rfl (yB rfl rfl rfl rfl (yVd rfl rfl (yQ (q_then ?_))))))); rw [t0]; refine pw_cf rfl (pw_skip (pzr (yMd rfl (yC (m1) rfl rfl (yMp rfl (yX rfl rfl (yX rfl rfl (yAd rfl (yAd rfl ?_))))))))); refine yQ (pw_seq (pzr (yMd rfl (yB rfl rfl rfl rfl (yQ (pw_ct rfl (pzr (yMd rfl (yC (m3) rfl rfl ?_))))))))); refine yMp rfl (yX rfl rfl (yX rfl rfl (yX rfl rfl (yAd rfl (yAd rfl (yAd rfl (yQ (pzr (yMd rfl ?_))))))))); refine yB rfl rfl rfl rfl (yMd rfl (yMd rfl (yB rfl rfl rfl rfl (yVd rfl rfl (yMd rfl (yMd rfl (yMd rfl (yC (m4) rfl rfl (yC (m5) rfl rfl ?_))))))))); refine yU rfl rfl rfl (yVd rfl rfl (yQ (pw_cf rfl (pw_skip (pzr (yMd rfl (yC (m2) rfl rfl (yMp rfl (yX rfl rfl ?_))))))))); refine yX rfl rfl (yX rfl rfl (yAd rfl (yAd rfl (yAd rfl (yQ (pw_seq (pzr (yMd rfl (yB rfl rfl rfl rfl ?_))))))))); refine yQ (pw_cf rfl (pw_skip (pzr (yMd rfl (yC (m6) rfl rfl (yMp rfl (yX rfl rfl (yX rfl rfl (yAd rfl ?_))))))))); refine yAd rfl (yQ (pw_seq (pzr (yMd rfl (yB rfl rfl rfl rfl (yQ (pw_ct rfl (pzr (yC (k0) rfl rfl ?_))))))))); refine yAd rfl (yQ (pw_ret (q_then_ret ?_)))
     exact q_ret _ (.tmp rfl .nil) rfl
   · have t1 : (pnE l == 0) = false := beq_false_of_ne he
     obtain ⟨T, hT⟩ : ∃ T, T = pnT l := ⟨_, rfl⟩
     obtain ⟨E, hE⟩ : ∃ E, E = pnE l := ⟨_, rfl⟩
     rw [← hT, ← hE] at m1
     rw [← hE] at t1
     clear hT hE he hg hl2
     refine pcalls_of_pw Tryz.func8 rfl Tryz.ntmps8 Tryz.results8 (by simp) fun B w0 => ?_
     refine pzr (yAd rfl (yQ (pw_seq (pzr (yMd rfl ?_))))); refine yR (es := [[_]]) rfl rfl rfl rfl rfl ?_; refine yC (k1) rfl rfl (yMd rfl (yMd rfl (yNs rfl (yB rfl rfl rfl rfl (yVd rfl rfl (yQ (q_then ?_))))))); rw [t0]; refine pw_cf rfl (pw_skip (pzr (yMd rfl (yC (m1) rfl rfl (yMp rfl (yX rfl rfl (yX rfl rfl (yAd rfl (yAd rfl ?_))))))))); refine yQ (pw_seq (pzr (yMd rfl (yB rfl rfl rfl rfl (yQ (q_then ?_)))))); rw [t1]; refine pw_cf rfl (pw_skip (pzr (yMd rfl (yC (m2) rfl rfl (yMp rfl (yX rfl rfl (yX rfl rfl (yX rfl rfl (yAd rfl ?_))))))))); refine yAd rfl (yAd rfl (yQ (pw_seq (pzr (yMd rfl (yB rfl rfl rfl rfl (yQ (pw_cf rfl (pw_skip ?_))))))))); refine pzr (yMd rfl (yC (m6) rfl rfl (yMp rfl (yX rfl rfl (yX rfl rfl (yAd rfl (yAd rfl (yQ (pw_seq ?_))))))))); refine pzr (yMd rfl (yB rfl rfl rfl rfl (yQ (pw_ct rfl (pzr (yC (k0) rfl rfl (yAd rfl (yQ (pw_ret ?_))))))))); refine q_then_ret ?_
     exact q_ret _ (.tmp rfl .nil) rfl
 have hz := (prn_zero hP).2.1
 rw [show pnE a = 0 from hP] at m6
 have m7 := wParseR (pnT a)
 rw [show prsR (tmpB nameB) paO (pnT a) = (a, 0, 0) from hP2] at m7
 have m8 := wNormalR a (by omega) ha2
 rw [nm_map hz, hnf] at m8
 have m9 := wSame a a (by omega) ha2
 rw [decide_eq_true rfl] at m9
 obtain ⟨Y, hY⟩ : ∃ Y, Y = pnT a := ⟨_, rfl⟩
 rw [← hY] at m6 m7
 clear hY hP hP2 hA hnf ha2 hz
 by_cases he : pnE l = 0
 · have hback := back_ok (nm := nf) (fun t h => tmp_plain h) pao_back he
   obtain ⟨-, hz, -⟩ := prn_zero he
   have m3 := wParseR (pnT l)
   rw [show prsR (tmpB nameB) paO (pnT l) = (l.map (nmRu nf), 0, 0) from hback] at m3
   have m4 := wNormalR l hl1 hl2
   rw [nm_map hz] at m4
   have m5 := wSame (l.map (nmRu nf)) (l.map (nmRu nf)) (by rw [List.length_map]; exact hl1) (nm_bd hg hz)
   rw [decide_eq_true rfl] at m5
   rw [he] at m1
   obtain ⟨T, hT⟩ : ∃ T, T = pnT l := ⟨_, rfl⟩
   rw [← hT] at m1 m3
   obtain ⟨b, hb⟩ : ∃ b, b = l.map (nmRu nf) := ⟨_, rfl⟩
   rw [← hb] at m3 m4 m5
   clear hT hb hback hz he hg hl2
   refine pcalls_of_pw Tryz.func8 rfl Tryz.ntmps8 Tryz.results8 (by simp) fun B w0 => ?_
   refine pzr (yAd rfl (yQ (pw_seq (pzr (yMd rfl ?_))))); refine yR (es := [[_]]) rfl rfl rfl rfl rfl ?_; refine yC (k1) rfl rfl (yMd rfl (yMd rfl (yNs rfl (yB rfl rfl rfl rfl (yVd rfl rfl (yQ (q_then ?_))))))); rw [t0]; refine pw_cf rfl (pw_skip (pzr (yMd rfl (yC (m1) rfl rfl (yMp rfl (yX rfl rfl (yX rfl rfl (yAd rfl (yAd rfl ?_))))))))); refine yQ (pw_seq (pzr (yMd rfl (yB rfl rfl rfl rfl (yQ (pw_ct rfl (pzr (yMd rfl (yC (m3) rfl rfl ?_))))))))); refine yMp rfl (yX rfl rfl (yX rfl rfl (yX rfl rfl (yAd rfl (yAd rfl (yAd rfl (yQ (pzr (yMd rfl ?_))))))))); refine yB rfl rfl rfl rfl (yMd rfl (yMd rfl (yB rfl rfl rfl rfl (yVd rfl rfl (yMd rfl (yMd rfl (yMd rfl (yC (m4) rfl rfl (yC (m5) rfl rfl ?_))))))))); refine yU rfl rfl rfl (yVd rfl rfl (yQ (pw_cf rfl (pw_skip (pzr (yMd rfl (yC (m2) rfl rfl (yMp rfl (yX rfl rfl ?_))))))))); refine yX rfl rfl (yX rfl rfl (yAd rfl (yAd rfl (yAd rfl (yQ (pw_seq (pzr (yMd rfl (yB rfl rfl rfl rfl ?_))))))))); refine yQ (pw_cf rfl (pw_skip (pzr (yMd rfl (yC (m6) rfl rfl (yMp rfl (yX rfl rfl (yX rfl rfl (yAd rfl ?_))))))))); refine yAd rfl (yQ (pw_seq (pzr (yMd rfl (yB rfl rfl rfl rfl (yQ (pw_cf rfl (pw_skip (pzr ?_))))))))); refine yMd rfl (yC (m7) rfl rfl (yMp rfl (yX rfl rfl (yX rfl rfl (yX rfl rfl (yAd rfl (yAd rfl (yAd rfl (yQ ?_))))))))); refine pzr (yMd rfl (yB rfl rfl rfl rfl (yMd rfl (yMd rfl (yB rfl rfl rfl rfl (yPd rfl rfl (yMd rfl (yMd rfl (yB rfl rfl rfl rfl ?_))))))))); refine yPd rfl rfl (yMd rfl (yMd rfl (yB rfl rfl rfl rfl (yPd rfl rfl (yMd rfl (yMd rfl (yMd rfl (yC (m9) rfl rfl (yPd rfl rfl ?_))))))))); refine yMd rfl (yMd rfl (yMd rfl (yC (m8) rfl rfl (yC (m9) rfl rfl (yPd rfl rfl (yMd rfl (yC (k0) rfl rfl (yPd rfl rfl (yAd rfl ?_))))))))); refine yQ (pw_ret ?_)
   exact q_ret _ (.tmp rfl .nil) rfl
 · have t1 : (pnE l == 0) = false := beq_false_of_ne he
   obtain ⟨T, hT⟩ : ∃ T, T = pnT l := ⟨_, rfl⟩
   obtain ⟨E, hE⟩ : ∃ E, E = pnE l := ⟨_, rfl⟩
   rw [← hT, ← hE] at m1
   rw [← hE] at t1
   clear hT hE he hg hl2
   refine pcalls_of_pw Tryz.func8 rfl Tryz.ntmps8 Tryz.results8 (by simp) fun B w0 => ?_
   refine pzr (yAd rfl (yQ (pw_seq (pzr (yMd rfl ?_))))); refine yR (es := [[_]]) rfl rfl rfl rfl rfl ?_; refine yC (k1) rfl rfl (yMd rfl (yMd rfl (yNs rfl (yB rfl rfl rfl rfl (yVd rfl rfl (yQ (q_then ?_))))))); rw [t0]; refine pw_cf rfl (pw_skip (pzr (yMd rfl (yC (m1) rfl rfl (yMp rfl (yX rfl rfl (yX rfl rfl (yAd rfl (yAd rfl ?_))))))))); refine yQ (pw_seq (pzr (yMd rfl (yB rfl rfl rfl rfl (yQ (q_then ?_)))))); rw [t1]; refine pw_cf rfl (pw_skip (pzr (yMd rfl (yC (m2) rfl rfl (yMp rfl (yX rfl rfl (yX rfl rfl (yX rfl rfl (yAd rfl ?_))))))))); refine yAd rfl (yAd rfl (yQ (pw_seq (pzr (yMd rfl (yB rfl rfl rfl rfl (yQ (pw_cf rfl (pw_skip ?_))))))))); refine pzr (yMd rfl (yC (m6) rfl rfl (yMp rfl (yX rfl rfl (yX rfl rfl (yAd rfl (yAd rfl (yQ (pw_seq ?_))))))))); refine pzr (yMd rfl (yB rfl rfl rfl rfl (yQ (pw_cf rfl (pw_skip (pzr (yMd rfl (yC (m7) rfl rfl (yMp rfl ?_))))))))); refine yX rfl rfl (yX rfl rfl (yX rfl rfl (yAd rfl (yAd rfl (yAd rfl (yQ (pzr (yMd rfl (yB rfl rfl rfl rfl ?_))))))))); refine yMd rfl (yMd rfl (yB rfl rfl rfl rfl (yPd rfl rfl (yMd rfl (yMd rfl (yB rfl rfl rfl rfl (yPd rfl rfl (yMd rfl (yMd rfl ?_))))))))); refine yB rfl rfl rfl rfl (yPd rfl rfl (yMd rfl (yMd rfl (yMd rfl (yC (m9) rfl rfl (yPd rfl rfl (yMd rfl (yMd rfl (yMd rfl ?_))))))))); refine yC (m8) rfl rfl (yC (m9) rfl rfl (yPd rfl rfl (yMd rfl (yC (k0) rfl rfl (yPd rfl rfl (yAd rfl (yQ (pw_ret ?_))))))))
   exact q_ret _ (.tmp rfl .nil) rfl
theorem and_mk {a b : Bool} (h : a = true) (h' : b = true) : (a && b) = true := by rw [h, h']; rfl
theorem sharedfact1 : laidOutB Tryz.prog = true := by kernel_rfl
theorem sharedfact2 : mapsRowed Tryz.prog = true := by kernel_rfl
theorem sharedfact6 : (Tryz.prog.stops == []) = true := by kernel_rfl
theorem sharedfact8 : (Tryz.prog.stopKnobs == []) = true := by kernel_rfl
theorem sharedplainKeys : Tryz.prog.plainKeys = true := by kernel_rfl
theorem sharedfact24 : Tryz.prog.stopsHeard = true := by kernel_rfl
theorem sharedfact25 : Tryz.prog.mayEnter = true := by kernel_rfl
theorem sharedliftsFinal : Tryz.prog.liftsFinal = false := by kernel_rfl
end Go.Proofs.YtddfimjiihggmaaGreatDoor
