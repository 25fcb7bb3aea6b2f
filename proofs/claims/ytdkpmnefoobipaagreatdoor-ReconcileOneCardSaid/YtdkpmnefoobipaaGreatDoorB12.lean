/- A rule: a row that a box's cell holds is written no more. A rule to join branches. -/
import Derived.Test.YtdkpmnefoobipaaGreatDoorB10
import Derived.Test.YtdkpmnefoobipaaGreatDoorB8
set_option maxHeartbeats 1000000
namespace Go.Proofs.YtdkpmnefoobipaaGreatDoor.Px
open Go.RowKit

section
variable {P : Program} {B : Nat} {w0 : Cx} {Q : Exit → PS → Prop} {st : PS} {c : Code}
theorem pw_frzb (j off i : Nat) {n E k : Nat} {cs cj : List SV} {ds : List DV} {es : List (List DV)} (hn : ds.length = n * k) (hes : chunk k n ds = es) (hds : toDs cs = some ds) (hj : st.bget j = some cj) (hc : cj[off]? = some (.bs i n E k)) (hi : st.bget i = some cs) (h : PW P B w0 c Q ((st.kill i).bput j ((cj.map (SV.kill i)).set off (.d (.sl k es))))) (hij : Nat.beq j i = false := by rfl) (hlt : Nat.blt i 500000 = true := by rfl) (hltj : Nat.blt j 500000 = true := by rfl) : PW P B w0 c Q st := fun g a w hr => by
  have hij' : j ≠ i := fun e => by rw [e, Nat.beq_refl] at hij; cases hij
  have hltj' : j < 500000 := Nat.le_of_ble_eq_true hltj
  obtain ⟨ev, hr'⟩ := hr.kill i
  subst hes
  obtain ⟨b, xs, T, q1, q2, q3, q4, q5⟩ := hr.boxes j cj hj hltj'
  obtain ⟨x, q6, hv⟩ := q4 off _ hc
  have hd : DRep (Fx (g.delb i)) w x (.sl k (chunk k n ds)) := by
    refine row_of_box hr (Nat.le_of_ble_eq_true hlt) hi hds hn hv (fun b o hb => ⟨(hr.blk i b hb).1 o, fun j hj => ?_, fun t T n' c' hT hTv => ?_⟩) ev.fx
    · obtain ⟨h1, h2⟩ := Gh.delb_bl hj
      exact h2 (hr.inj j i b h1 hb)
    · exact absurd hb ((hr.toks t T hT).2 i b (by rw [hTv]; rfl))
  have hkj : (st.kill i).bget j = some (cj.map (SV.kill i)) := by rw [kill_bget, if_neg hij', hj]; rfl
  refine h _ a w { hr' with lim := hr'.lim, size := hr'.size, slots := hr'.slots, tdom := hr'.tdom, tlen := hr'.tlen, glob := hr'.glob, boxes := fun q cq hq hql => ?_, maps := fun q ms hq hge => ?_, dom := fun q b' hq => ?_ }
  · rw [bget_bput] at hq
    by_cases e : q = j
    · rw [if_pos e] at hq
      cases hq
      subst e
      obtain ⟨b2, xs2, T2, r1, r2, r3, r4, r5⟩ := hr'.boxes q _ hkj hltj'
      have hbb : b2 = b := by
        have := (Gh.delb_bl r1).1
        rw [q1] at this
        exact (Option.some.inj this).symm
      subst hbb
      rw [q2] at r2
      cases r2
      refine ⟨b2, xs, T, r1, q2, by simpa using r3, fun p c0 hp => ?_, fun p u hp hu => r5 p u (by simpa using hp) hu⟩
      by_cases e2 : p = off
      · subst e2
        rw [List.getElem?_set_self (by rw [List.length_map]; exact (List.getElem?_eq_some_iff.1 hc).1)] at hp
        cases hp
        exact ⟨x, q6, hd⟩
      · rw [List.getElem?_set_ne (fun e => e2 e.symm)] at hp
        exact r4 p c0 hp
    · rw [if_neg e] at hq
      exact hr'.boxes q cq hq hql
  · rw [bget_bput] at hq
    by_cases e : q = j
    · omega
    · rw [if_neg e] at hq
      exact hr'.maps q ms hq hge
  · rw [bget_bput]
    split
    · simp
    · exact hr'.dom q b' hq
/-- branches meet in one state, and the code behind them is walked once -/
theorem pw_join {y : Code} (J : PS) (h2 : PW P B w0 y Q J) (h1 : PW P B w0 c (QThen (fun s => Le s J) Q) st) : PW P B w0 c (QThen (PW P B w0 y Q) Q) st := pw_mono h1 fun e s h => by
  cases e with
  | normal => exact pw_le h h2
  | _ => exact h
end
end Go.Proofs.YtdkpmnefoobipaaGreatDoor.Px
namespace Go.Proofs.YtdkpmnefoobipaaGreatDoor
open Go.RowKit Px

abbrev vHs (l : List Hd) : List Value := l.flatMap fun h => [vS h.1, vS h.2]
abbrev cHs (l : List Hd) : List SV := (vHs l).map fun u => SV.d (.val u)
theorem vHs_len (l : List Hd) : (vHs l).length = l.length * 2 := by
  induction l with
  | nil => rfl
  | cons h l ih =>
    show (vS h.1 :: vS h.2 :: vHs l).length = _
    simp only [List.length_cons, ih]
    omega
theorem chunk_vHs (l : List Hd) {n : Nat} (h : l.length = n) : chunk 2 n ((vHs l).map .val) = l.map dH := by
  subst h
  induction l with
  | nil => rfl
  | cons x l ih =>
    show [dS x.1, dS x.2] :: chunk 2 l.length ((vHs l).map .val) = dH x :: l.map dH
    rw [ih]
theorem toDs_vs (vs : List Value) : toDs (vs.map fun u => SV.d (.val u)) = some (vs.map DV.val) := toDs_map (fun u => DV.val u) vs
theorem noTs_vs (vs : List Value) (t : Nat) : ((vs.map fun u => SV.d (.val u)).all fun x => x.noTs t) = true := by
  rw [List.all_eq_true]
  intro x hx
  rw [List.mem_map] at hx
  obtain ⟨u, -, rfl⟩ := hx
  rfl
theorem vHs_set (l : List Hd) {k : Nat} {x : Hd} (q : Str) (hx : l[k]? = some x) : (cHs l).set (((k : Int)).toNat * 2 + 1) (.d (dS q)) = cHs (l.set k (x.1, q)) := by
  rw [Int.toNat_natCast]
  induction l generalizing k with
  | nil => simp at hx
  | cons h l ih =>
    cases k with
    | zero =>
      simp only [List.getElem?_cons_zero, Option.some.injEq] at hx
      subst hx
      rfl
    | succ k =>
      have := ih (k := k) (by simpa using hx)
      rw [show (k + 1) * 2 + 1 = k * 2 + 1 + 1 + 1 by omega]
      show SV.d (.val (vS h.1)) :: SV.d (.val (vS h.2)) :: (cHs l).set (k * 2 + 1) (.d (dS q)) = _
      rw [this]
      rfl
set_option maxRecDepth 20000 in
set_option maxHeartbeats 1000000 in
theorem wCloneH (l : List Hd) (h0 : 0 < l.length) (hl : l.length ≤ 1000000) : POwn Tryz.prog 25 [.sl 2 (l.map dH)] 55 2 (l.map dH) := by
  refine pown_of_pw (t := 55 * 100000 + 5) Tryz.func25 rfl Tryz.ntmps25 Tryz.results25 (by simp) rfl fun B w0 => ?_
  refine pw_seq ?_; refine pw_region ?_; refine yAd rfl ?_; refine yQ ?_; refine pw_seq ?_; refine pw_seq ?_; refine pw_region ?_; refine yMd rfl ?_; refine yEn Tryz.underlying23 (by simp; omega) rfl ?_; refine yQ ?_
  refine pw_cf rfl ?_; refine pw_skip ?_; refine pw_seq ?_; refine pw_region ?_; refine yEb rfl ?_; refine yMd rfl ?_
  refine yTw (us := []) (vs := vHs l) (m := l.length) (n := 0) h0 (by omega) (by omega) (chunk_vHs l rfl) (vHs_len l) rfl rfl rfl rfl ?_; refine yAw rfl ?_; refine yQ ?_
  refine pw_tkb 2 5 (55 * 100000 + 5) (n := 0 + l.length) (es := l.map dH) (ds := (vHs l).map .val) (by rw [List.length_map, vHs_len]; omega) (chunk_vHs l (by simp)) (toDs_vs _) rfl rfl rfl rfl (noTs_box1 (i := 5) (cs := cHs l) rfl rfl (noTs_vs _ _)) ?_
  refine pw_ret ?_
  exact q_own rfl (congrArg some (by simp))

/-- a movement with a reference -/
def phRef (r : Str) (xs : List DV) (o : SV) : Prop := ∃ y : Mv, xs = [.agg (dM y)] ∧ o = .d (dB (y.1 == r))
set_option maxRecDepth 20000 in
set_option maxHeartbeats 1000000 in
theorem wOne1 (x y : Mv) : PCalls Tryz.prog 30 [.agg (dM y), .ref (dM x)] (.d (dB (y.1 == x.1))) := by
  obtain ⟨x0, x1, x2, x3, x4⟩ := x
  obtain ⟨y0, y1, y2, y3, y4⟩ := y
  obtain ⟨b, hb⟩ : ∃ b, b = (y0 == x0) := ⟨_, rfl⟩
  show PCalls Tryz.prog 30 _ (.d (dB (y0 == x0)))
  rw [← hb]
  refine pcalls_of_pw Tryz.func30 rfl Tryz.ntmps30 Tryz.results30 (by simp) fun B w0 => ?_
  refine pw_ref 1 rfl ?_
  refine pw_seq ?_; refine pw_region ?_; refine yK (cs := [_, _, _, _, _]) rfl rfl ?_; refine yAd rfl ?_; refine yQ ?_; refine pw_seq ?_; refine pw_region ?_; refine yFb rfl ?_; refine yLd rfl rfl rfl ?_; refine yFr rfl rfl ?_
  refine yLr rfl rfl ?_; refine yBse rfl rfl ?_; refine yAd rfl ?_; refine yQ ?_; refine pw_ret ?_; rw [← hb]
  exact q_ret _ (.tmp rfl .nil) rfl
theorem wPhRef (x : Mv) : ∀ xs r, phRef x.1 xs r → PCalls Tryz.prog 30 (xs ++ [.ref (dM x)]) r := by
  rintro xs r ⟨y, rfl, rfl⟩
  exact wOne1 x y
def ixR (r : Str) (l : List Mv) : Int := match l.findIdx? (fun y => y.1 == r) with | some i => i | none => -1
theorem ixR_any (r : Str) (l : List Mv) : decide (ixR r l ≥ 0) = l.any fun y => y.1 == r := by
  rw [ixR]
  cases e : l.findIdx? (fun y => y.1 == r) with
  | none =>
    rw [List.findIdx?_eq_none_iff] at e
    have : (l.any fun y => y.1 == r) = false := by rw [List.any_eq_false]; intro x hx; rw [e x hx]; simp
    rw [this]; rfl
  | some i =>
    rw [List.findIdx?_eq_some_iff_getElem] at e
    obtain ⟨h1, h2, -⟩ := e
    have : (l.any fun y => y.1 == r) = true := List.any_eq_true.2 ⟨_, List.getElem_mem h1, h2⟩
    rw [this]; simp
set_option maxRecDepth 20000 in
set_option maxHeartbeats 1000000 in
theorem wIndexR (l : List Mv) (r : Str) (hl : l.length ≤ 1000000) : PCalls Tryz.prog 61 [.sl 5 (l.map dM), dF Tryz.prog (phRef r)] (.d (dI (ixR r l))) := by
  refine pcalls_of_pw Tryz.func61 rfl Tryz.ntmps61 Tryz.results61 (by simp) fun B w0 => ?_
  refine pw_seq ?_; refine pw_region ?_; refine yAd rfl ?_; refine yQ ?_; refine pw_seq ?_; refine pw_seq ?_; refine pw_region ?_; refine yMd rfl ?_; refine yN rfl ?_; refine yMd rfl ?_; refine yQ ?_; refine pw_block ?_
  refine pw_loop (fun k : Nat => ⟨19, [(0, .d (.sl 5 (l.map dM))), (1, .d (dF Tryz.prog (phRef r))), (7, .d (dI l.length)), (8, .d (dI k))], [], []⟩) (fun k => k ≤ l.length ∧ ∀ (j : Nat) x, j < k → l[j]? = some x → (x.1 == r) = false) (fun k => l.length - k) 0 ⟨Nat.zero_le _, fun j x hj => by omega⟩ ⟨rfl, ⟨.refl _, .refl _, .of_eq (congrArg (fun n : Nat => SV.d (dI n)) (by simp)), .refl _, trivial⟩, trivial, trivial, rfl⟩ ?_
  rintro k ⟨hk, h0⟩
  rcases Nat.lt_or_ge k l.length with h | h
  · have u1 : decide ((k : Int) < (l.length : Int)) = true := decide_eq_true (by omega)
    obtain ⟨x, hx⟩ : ∃ a, l[k]? = some a := ⟨_, List.getElem?_eq_getElem h⟩
    have ek := ix dM l k k x rfl hx
    have hw1 := wrapI ((k : Int) + 1) (by omega)
    have hph : phRef r [.agg (dM x)] (.d (dB (x.1 == r))) := ⟨x, rfl, rfl⟩
    obtain ⟨b, hb⟩ : ∃ b, b = (x.1 == r) := ⟨_, rfl⟩
    rw [← hb] at hph
    obtain ⟨x0, x1, x2, x3, x4⟩ := x
    cases b with
    | false =>
      refine pw_seq ?_; refine pw_region ?_; refine yB rfl rfl rfl rfl ?_; refine yQ ?_; refine pw_seq ?_; rw [u1]; refine pw_ct rfl ?_; refine pw_skip ?_; refine pw_seq ?_; refine pw_block ?_; refine pw_seq ?_; refine pw_region ?_
      refine yMd rfl ?_; refine yAd rfl ?_; refine yQ ?_; refine pw_seq ?_; refine pw_region ?_; refine yMd rfl ?_; refine yMd rfl ?_; refine yMd rfl ?_; refine yW ek (by omega) rfl rfl ?_
      refine yLs (ys := [_, _, _, _, _]) rfl rfl rfl ?_; refine yCv hph rfl rfl rfl ?_; refine yQ ?_; refine pw_cf rfl ?_; refine pw_skip ?_; refine pw_region ?_; refine yB rfl rfl rfl rfl ?_; refine yMd rfl ?_; refine yQ ?_
      refine q_then ?_
      refine ⟨k + 1, ⟨by omega, fun j y hj hy => ?_⟩, by omega, rfl, ⟨.refl _, .refl _, .refl _, .of_eq (congrArg (fun n => SV.d (dI n)) hw1), trivial⟩, trivial, trivial, rfl⟩
      by_cases e : j = k
      · subst e; rw [hx] at hy; cases hy; exact hb.symm
      · exact h0 j y (by omega) hy
    | true =>
      have e : ixR r l = k := by
        have : l.findIdx? (fun y => y.1 == r) = some k := by
          rw [List.findIdx?_eq_some_iff_getElem]
          refine ⟨h, ?_, fun j hj => ?_⟩
          · rw [List.getElem?_eq_getElem h] at hx; rw [Option.some.inj hx]; exact hb.symm
          · have := h0 j _ hj (List.getElem?_eq_getElem (by omega)); rw [this]; simp
        rw [ixR, this]
      rw [e]
      refine pw_seq ?_; refine pw_region ?_; refine yB rfl rfl rfl rfl ?_; refine yQ ?_; refine pw_seq ?_; rw [u1]; refine pw_ct rfl ?_; refine pw_skip ?_; refine pw_seq ?_; refine pw_block ?_; refine pw_seq ?_; refine pw_region ?_
      refine yMd rfl ?_; refine yAd rfl ?_; refine yQ ?_; refine pw_seq ?_; refine pw_region ?_; refine yMd rfl ?_; refine yMd rfl ?_; refine yMd rfl ?_; refine yW ek (by omega) rfl rfl ?_
      refine yLs (ys := [_, _, _, _, _]) rfl rfl rfl ?_; refine yCv hph rfl rfl rfl ?_; refine yQ ?_; refine pw_ct rfl ?_; refine pw_seq ?_; refine pw_region ?_; refine yMd rfl ?_; refine yAd rfl ?_; refine yQ ?_; refine pw_ret ?_
      refine q_blk_ret ?_; refine q_then_ret ?_; refine q_then_ret ?_; refine q_blk_ret ?_; refine q_then_ret ?_
      exact q_ret _ (.tmp rfl .nil) rfl
  · have u1 : decide ((k : Int) < (l.length : Int)) = false := decide_eq_false (by omega)
    have e : ixR r l = -1 := by
      have : l.findIdx? (fun y => y.1 == r) = none := by
        rw [List.findIdx?_eq_none_iff]
        intro x hx
        obtain ⟨j, hj⟩ := List.mem_iff_getElem?.1 hx
        exact h0 j x (by have := (List.getElem?_eq_some_iff.1 hj).1; omega) hj
      rw [ixR, this]
    rw [e]
    refine pw_seq ?_; refine pw_region ?_; refine yB rfl rfl rfl rfl ?_; refine yQ ?_; refine pw_seq ?_; rw [u1]; refine pw_cf rfl ?_; refine pw_exit ?_; refine pw_seq ?_; refine pw_region ?_; refine yAd rfl ?_; refine yQ ?_
    refine pw_ret ?_
    exact q_ret _ (.tmp rfl .nil) rfl
set_option maxRecDepth 20000 in
set_option maxHeartbeats 1000000 in
theorem wHasR (l : List Mv) (r : Str) (hl : l.length ≤ 1000000) : PCalls Tryz.prog 29 [.sl 5 (l.map dM), dF Tryz.prog (phRef r)] (.d (dB (l.any fun y => y.1 == r))) := by
  have c1 := wIndexR l r hl
  rw [← ixR_any]
  obtain ⟨n, hn⟩ : ∃ n, n = ixR r l := ⟨_, rfl⟩
  rw [← hn] at c1 ⊢
  refine pcalls_of_pw Tryz.func29 rfl Tryz.ntmps29 Tryz.results29 (by simp) fun B w0 => ?_
  refine pw_seq ?_; refine pw_region ?_; refine yAd rfl ?_; refine yQ ?_; refine pw_seq ?_; refine pw_region ?_; refine yMd rfl ?_; refine yMd rfl ?_; refine yC (c1) rfl rfl ?_; refine yB rfl rfl rfl rfl ?_; refine yAd rfl ?_
  refine yQ ?_; refine pw_ret ?_
  exact q_ret _ (.tmp rfl .nil) rfl
end Go.Proofs.YtdkpmnefoobipaaGreatDoor
namespace Go.Proofs.YtdkpmnefoobipaaGreatDoor
open Go.RowKit Px

namespace Px
section
variable {P : Program} {sq : Bool} {ops : Array Oper} {K : PS → Prop} {rest : List Oper} {st : PS} {d : Option Nat} {ty : TypeId} {pos : String} {af : Array Edge} {gd : Option (Nat × Bool)}
theorem run_rem (t : Nat) (o1 o2 : Operand) (x y : Int) (hy : y ≠ 0) (w : World) : (eqGuard .rem t o1 o2 (.int .i64 x) (.int .i64 y) >>= fun _ => binOp .rem t (.int .i64 x) (.int .i64 y)).run P w = .ok (.int .i64 (x.tmod y)) w := by
  simp [eqGuard, binOp, Op.intDiv, hy]
theorem yBm {t t' : Nat} {x y : Operand} {a b c : Int} (hb : b ≠ 0) (hc : a.tmod b = c) (hx : st.ev x = .d (.val (.int .i64 a))) (hy : st.ev y = .d (.val (.int .i64 b))) (h : YR P sq ops K rest (st.put d (.d (.val (.int .i64 c))))) (hd : dstOk ⟨d, .binOp .rem t x y t', ty, pos, af, gd⟩ st = true := by kernel_rfl) (hk : opOk ⟨d, .binOp .rem t x y t', ty, pos, af, gd⟩ st .no = true := by kernel_rfl) (hw : st.want ops ⟨d, .binOp .rem t x y t', ty, pos, af, gd⟩ = some true := by rfl) :
    YR P sq ops K (⟨d, .binOp .rem t x y t', ty, pos, af, gd⟩ :: rest) st := by
  subst hc
  exact yr_v (ls_bin_run .rem t t' x y hx hy (run_rem t x y a b hb) rfl hd) hk hw h
end
end Px
theorem asc_adj : ∀ l : List Str, (∀ (i : Nat) x y, l[i]? = some x → l[i + 1]? = some y → ltS x y = true) → ascS l
  | [], _ => trivial
  | [x], _ => ⟨fun y hy => by simp at hy, trivial⟩
  | x :: z :: l, h => by
    have h1 := asc_adj (z :: l) fun i a b ha hb => h (i + 1) a b ha hb
    have h2 := h 0 x z rfl rfl
    refine ⟨fun y hy => ?_, h1⟩
    rcases List.mem_cons.1 hy with rfl | hy
    · exact h2
    · exact ltS_trans h2 (h1.1 y hy)
theorem stE_asc {s : Stm} (h : stE s = 0) : ascS (s.hs.map (·.1)) := by
  obtain ⟨-, h1, -⟩ := stE_split h
  rw [fstE_zero] at h1
  refine asc_adj _ fun i a b ha hb => ?_
  rw [List.getElem?_map, Option.map_eq_some_iff] at ha hb
  obtain ⟨x, hx, rfl⟩ := ha
  obtain ⟨y, hy, rfl⟩ := hb
  have h2 := h1 (i + 1) (List.getElem?_eq_some_iff.1 hy).1
  unfold hE at h2
  rw [hy] at h2
  simp only at h2
  rw [if_neg (by omega), show i + 1 - 1 = i by omega, hx] at h2
  simp only [Option.map_some] at h2
  have h2 : (bif !nameB y.1 then (23 : Int) else bif !(numE [y.2] == 0) then numE [y.2] else bif y.2 == [] then 2 else bif !ltS x.1 y.1 then 8 else 0) = 0 := h2
  cases hc : ltS x.1 y.1 with
  | true => rfl
  | false =>
    exfalso
    rw [hc] at h2
    cases h3 : !nameB y.1 with
    | true => rw [h3] at h2; cases h2
    | false =>
      rw [h3] at h2
      cases h4 : !(numE [y.2] == 0) with
      | true =>
        rw [h4] at h2
        simp only [cond_false, cond_true] at h2
        rw [h2] at h4
        simp at h4
      | false =>
        rw [h4] at h2
        cases h5 : (y.2 == []) with
        | true => rw [h5] at h2; cases h2
        | false => rw [h5] at h2; cases h2
instance : EqOf Tryz.prog 55 [.s, .s] := eqOf_struct (by kernel_rfl) (by kernel_rfl) (by kernel_rfl)
theorem rem_at {n : Int} {l : Nat} (h0 : 0 ≤ n) (hl : 0 < l) : ∃ k : Nat, n.tmod (l : Int) = (k : Int) ∧ k < l := by
  refine ⟨n.toNat % l, ?_, Nat.mod_lt _ hl⟩
  obtain ⟨m, rfl⟩ : ∃ m : Nat, n = m := ⟨n.toNat, by omega⟩
  rfl
theorem okH_set {hs : List Hd} {k : Nat} {x : Hd} {q : Str} (h : ∀ y ∈ hs, okH y) (hx : hs[k]? = some x) (hq : q.length ≤ 1000000) : ∀ y ∈ hs.set k (x.1, q), okH y := fun y hy => by
  rcases List.mem_or_eq_of_mem_set hy with h1 | rfl
  · exact h y h1
  · exact ⟨(h x (List.mem_of_getElem? hx)).1, hq⟩
set_option maxRecDepth 20000 in
set_option maxHeartbeats 16000000 in
theorem law6 (s : Stm) (n : Int) (hn0 : 0 ≤ n) (hn1 : n ≤ 255) (by' : Str) : PCalls Tryz.prog 6 [.agg (dSt s), .val (.int .u8 n), dS by'] (.d (dB true)) := by
  have c0 := wAwake
  have c1 := wFine s s
  have hwn := wrapI n (by omega)
  cases hg : fineB s s with
  | false =>
    rw [hg] at c1
    obtain ⟨d, hs, ms⟩ := s
    refine pcalls_of_pw Tryz.func6 rfl Tryz.ntmps6 Tryz.results6 (by simp) fun B w0 => ?_
    refine pw_seq ?_; refine pw_region ?_; refine yK (cs := [_, _, _]) rfl rfl ?_; refine yAd rfl ?_; refine yQ ?_; refine pw_seq ?_; refine pw_seq ?_; refine pw_region ?_; refine yLa (ys := [_, _, _]) rfl rfl rfl rfl ?_
    refine yLa (ys := [_, _, _]) rfl rfl rfl rfl ?_; refine yC (c1) rfl rfl ?_; refine yU rfl rfl rfl ?_; refine yMd rfl ?_; refine yO rfl ?_; refine yO rfl ?_; refine yO rfl ?_; refine yPd rfl rfl ?_; refine yQ ?_; refine pw_ct rfl ?_
    refine pw_seq ?_; refine pw_region ?_; refine yC (c0) rfl rfl ?_; refine yAd rfl ?_; refine yQ ?_; refine pw_ret ?_; refine q_then_ret ?_
    exact q_ret _ (.tmp rfl .nil) rfl
  | true =>
  rw [hg] at c1
  by_cases hby : by'.length > 13
  · have u1 : decide ((by'.length : Int) > 13) = true := decide_eq_true (by omega)
    obtain ⟨d, hs, ms⟩ := s
    refine pcalls_of_pw Tryz.func6 rfl Tryz.ntmps6 Tryz.results6 (by simp) fun B w0 => ?_
    refine pw_seq ?_; refine pw_region ?_; refine yK (cs := [_, _, _]) rfl rfl ?_; refine yAd rfl ?_; refine yQ ?_; refine pw_seq ?_; refine pw_seq ?_; refine pw_region ?_; refine yLa (ys := [_, _, _]) rfl rfl rfl rfl ?_
    refine yLa (ys := [_, _, _]) rfl rfl rfl rfl ?_; refine yC (c1) rfl rfl ?_; refine yU rfl rfl rfl ?_; refine yMd rfl ?_; refine yMd rfl ?_; refine yNs rfl ?_; refine yB rfl rfl rfl rfl ?_; refine yVd rfl rfl ?_; refine yQ ?_
    refine q_then ?_; rw [u1]; refine pw_ct rfl ?_; refine pw_seq ?_; refine pw_region ?_; refine yC (c0) rfl rfl ?_; refine yAd rfl ?_; refine yQ ?_; refine pw_ret ?_; refine q_then_ret ?_
    exact q_ret _ (.tmp rfl .nil) rfl
  have u1 : decide ((by'.length : Int) > 13) = false := decide_eq_false (by omega)
  obtain ⟨f1, -, a1, a2, -, -, k1, -, -⟩ := fine_of hg
  have hgr : grtS s = false := by
    unfold fineB at hg
    simp only [Bool.and_eq_true, Bool.not_eq_true', Bool.or_eq_false_iff] at hg
    exact hg.1.1
  obtain ⟨-, -, -, a3, a4⟩ := fit_of hgr
  have hasc := stE_asc k1
  -- the statement with one quantity changed
  have hset : ∀ (k : Nat) (x : Hd) (q : Str), s.hs[k]? = some x → q.length ≤ 1000000 → fitS ⟨s.d, s.hs.set k (x.1, q), s.ms⟩ := fun k x q hx hq => ⟨by simp; exact f1.hl, f1.ml, okH_set f1.h hx hq, f1.m⟩
  have hers : ∀ k, fitS ⟨s.d, s.hs, s.ms.eraseIdx k⟩ := fun k => ⟨f1.hl, Nat.le_trans (List.length_eraseIdx_le ..) f1.ml, f1.h, fun m hm => f1.m m (List.mem_of_mem_eraseIdx hm)⟩
  have cc1 : ∀ (k : Nat) (x : Hd) (q : Str), s.hs[k]? = some x → q.length ≤ 1000000 → PCalls Tryz.prog 27 [.agg (dSt ⟨s.d, s.hs.set k (x.1, q), s.ms⟩)] (.d (dI (stE ⟨s.d, s.hs.set k (x.1, q), s.ms⟩))) := fun k x q hx hq => wRStCheck _ (hset k x q hx hq)
  have cc2 : ∀ k, PCalls Tryz.prog 27 [.agg (dSt ⟨s.d, s.hs, s.ms.eraseIdx k⟩)] (.d (dI (stE ⟨s.d, s.hs, s.ms.eraseIdx k⟩))) := fun k => wRStCheck _ (hers k)
  have ca1 : ∀ (k : Nat) (x : Hd) (q : Str), s.hs[k]? = some x → q.length ≤ 1000000 → stE ⟨s.d, s.hs.set k (x.1, q), s.ms⟩ = 0 → x.2 ≠ q → PCalls Tryz.prog 16 [.agg (dSt s), .agg (dSt ⟨s.d, s.hs.set k (x.1, q), s.ms⟩), dI 5] (.tup [.sl 4 ([(3, x.1, x.2, q)].map dBk), dI 0]) := fun k x q hx hq h0 hne => by
    have := wAll s ⟨s.d, s.hs.set k (x.1, q), s.ms⟩ 5 f1 (hset k x q hx hq)
    have hck := ckE_fine (days := 5) k1 h0 rfl (by omega) (by omega)
    rw [allR', if_pos hck, hck] at this
    simp only [hdB_set hasc hx hne, mvB_self, List.append_nil] at this
    exact this
  have ca2 : ∀ (k : Nat) (x : Mv), s.ms[k]? = some x → stE ⟨s.d, s.hs, s.ms.eraseIdx k⟩ = 0 → (∀ y ∈ s.ms.eraseIdx k, y.1 ≠ x.1) → PCalls Tryz.prog 16 [.agg (dSt s), .agg (dSt ⟨s.d, s.hs, s.ms.eraseIdx k⟩), dI 5] (.tup [.sl 4 ([(1, x.1, x.2.2.2.1, [])].map dBk), dI 0]) := fun k x hx h0 hne => by
    have := wAll s ⟨s.d, s.hs, s.ms.eraseIdx k⟩ 5 f1 (hers k)
    have hck := ckE_fine (days := 5) k1 h0 rfl (by omega) (by omega)
    rw [allR', if_pos hck, hck] at this
    simp only [hdB_self, mvB_out 5 hx hne, List.nil_append] at this
    exact this
  have ca3 : ∀ (k : Nat) (x : Mv), s.ms[k]? = some x → stE ⟨s.d, s.hs, s.ms.eraseIdx k⟩ = 0 → (∀ y ∈ s.ms.eraseIdx k, y.1 ≠ x.1) → PCalls Tryz.prog 16 [.agg (dSt ⟨s.d, s.hs, s.ms.eraseIdx k⟩), .agg (dSt s), dI 5] (.tup [.sl 4 ([(2, x.1, [], x.2.2.2.1)].map dBk), dI 0]) := fun k x hx h0 hne => by
    have := wAll ⟨s.d, s.hs, s.ms.eraseIdx k⟩ s 5 (hers k) f1
    have hck := ckE_fine (days := 5) h0 k1 rfl (by omega) (by omega)
    rw [allR', if_pos hck, hck] at this
    simp only [hdB_self, mvB_in 5 hx hne, List.nil_append] at this
    exact this
  have hqh : ∀ (k : Nat) (x : Hd), s.hs[k]? = some x → x.2.length ≤ 13 := fun k x hx => by
    have := a3 x (List.mem_of_getElem? hx)
    simp [lngH] at this
    omega
  clear hset hers hasc k1 f1 hg hgr a3 a4
  obtain ⟨d, hs, ms⟩ := s
  simp only at c1 a1 a2 cc1 cc2 ca1 ca2 ca3 hqh
  refine pcalls_of_pw Tryz.func6 rfl Tryz.ntmps6 Tryz.results6 (by simp) fun B w0 => ?_
  refine pw_seq ?_; refine pw_region ?_; refine yK (cs := [_, _, _]) rfl rfl ?_; refine yAd rfl ?_; refine yQ ?_; refine pw_seq ?_; refine pw_seq ?_; refine pw_region ?_; refine yLa (ys := [_, _, _]) rfl rfl rfl rfl ?_
  refine yLa (ys := [_, _, _]) rfl rfl rfl rfl ?_; refine yC (c1) rfl rfl ?_; refine yU rfl rfl rfl ?_; refine yMd rfl ?_; refine yMd rfl ?_; refine yNs rfl ?_; refine yB rfl rfl rfl rfl ?_; refine yVd rfl rfl ?_; refine yQ ?_
  refine q_then ?_; rw [u1]; refine pw_cf rfl ?_; refine pw_skip ?_; refine pw_seq ?_; refine pw_seq ?_; refine pw_region ?_; refine yFb rfl ?_; refine yLd rfl rfl rfl ?_; refine yN rfl ?_; refine yAd rfl ?_; refine yQ ?_
  refine pw_seq ?_; refine pw_region ?_; refine yMd rfl ?_; refine yB rfl rfl rfl rfl ?_; refine yQ ?_; refine q_then ?_
  refine pw_join ⟨185, [(1, .d (.val (.int .u8 n))), (3, .bx 3 0)], [(3, [.d (dI d), .d (.sl 2 (hs.map dH)), .d (.sl 5 (ms.map dM))])], []⟩ ?_ ?_
  · -- a movement left out
    rcases Nat.eq_zero_or_pos ms.length with hm | hm
    · have u2 : (((ms.map dM).length : Int) == 0) = true := by rw [List.length_map, hm]; rfl
      refine pw_seq ?_; refine pw_region ?_; refine yFb rfl ?_; refine yLd rfl rfl rfl ?_; refine yN rfl ?_; refine yAd rfl ?_; refine yQ ?_; refine pw_seq ?_; refine pw_seq ?_; refine pw_region ?_; refine yMd rfl ?_
      refine yB rfl rfl rfl rfl ?_; refine yQ ?_; refine q_then ?_; rw [u2]; refine pw_ct rfl ?_; refine pw_seq ?_; refine pw_region ?_; refine yC (c0) rfl rfl ?_; refine yAd rfl ?_; refine yQ ?_; refine pw_ret ?_; refine q_then_ret ?_
      exact q_ret _ (.tmp rfl .nil) rfl
    have u2 : (((ms.map dM).length : Int) == 0) = false := by rw [List.length_map]; exact beq_false_of_ne (by omega)
    obtain ⟨k, hk, hkl⟩ := rem_at (l := ms.length) hn0 hm
    have hk' : n.tmod ((ms.map dM).length : Int) = (k : Int) := by rw [List.length_map]; exact hk
    have hl0 : ((ms.map dM).length : Int) ≠ 0 := by rw [List.length_map]; omega
    obtain ⟨x, hx⟩ : ∃ a, ms[k]? = some a := ⟨_, List.getElem?_eq_getElem hkl⟩
    have ex := ix dM ms k k x rfl hx
    have hw := wrapI ((k : Int) + 1) (by omega)
    have hw : IntKind.i64.wrap ((k : Int) + 1) = ((k + 1 : Nat) : Int) := hw
    have hce := wConcatM [ms.take k, ms.drop (k + 1)] (by simp) (by simp; omega)
    simp only [List.map_cons, List.map_nil, List.flatten_cons, List.flatten_nil, List.append_nil] at hce
    rw [← List.eraseIdx_eq_take_drop_succ, List.map_take, List.map_drop] at hce
    have hel : (ms.eraseIdx k).length ≤ 1000000 := Nat.le_trans (List.length_eraseIdx_le ..) (by omega)
    have c2 := cc2 k
    have c3 := wHasR (ms.eraseIdx k) x.1 hel
    have c4 := ca2 k x hx
    have c5 := ca3 k x hx
    have hne : ((ms.eraseIdx k).any fun y => y.1 == x.1) = false → ∀ y ∈ ms.eraseIdx k, y.1 ≠ x.1 := fun h y hy e => by
      rw [List.any_eq_false] at h
      exact h y hy (by simp [e])
    obtain ⟨E, hE⟩ : ∃ E, E = ms.eraseIdx k := ⟨_, rfl⟩
    rw [← hE] at hce c2 c3 c4 c5 hne
    obtain ⟨e, he⟩ : ∃ e, e = stE ⟨d, hs, E⟩ := ⟨_, rfl⟩
    rw [← he] at c2 c4 c5
    have g1 : (k : Int) ≤ ((ms.map dM).length : Int) := by rw [List.length_map]; omega
    have g2 : ((k + 1 : Nat) : Int) ≤ ((ms.map dM).length : Int) := by rw [List.length_map]; omega
    have hxr := wPhRef x
    obtain ⟨x0, x1, x2, x3, x4⟩ := x
    simp only at c3 c4 c5 hne hxr
    by_cases h0 : e = 0
    rotate_left
    · have u3 : (e != 0) = true := by simpa using h0
      refine pw_seq ?_; refine pw_region ?_; refine yFb rfl ?_; refine yLd rfl rfl rfl ?_; refine yN rfl ?_; refine yAd rfl ?_; refine yQ ?_; refine pw_seq ?_; refine pw_seq ?_; refine pw_region ?_; refine yMd rfl ?_
      refine yB rfl rfl rfl rfl ?_; refine yQ ?_; refine q_then ?_; rw [u2]; refine pw_cf rfl ?_; refine pw_skip ?_; refine pw_seq ?_; refine pw_region ?_; refine yMd rfl ?_; refine yJ rfl ?_; refine yMd rfl ?_; rw [hwn]
      refine yBm hl0 hk' rfl rfl ?_; refine yAd rfl ?_; refine yQ ?_; refine pw_seq ?_; refine pw_region ?_; refine yFb rfl ?_; refine yLd rfl rfl rfl ?_; refine yMd rfl ?_; refine yW ex (by omega) rfl rfl ?_
      refine yLs (ys := [_, _, _, _, _]) rfl rfl rfl ?_; refine yZ (cs := [_, _, _, _, _]) rfl rfl ?_; refine yS (cs' := [_, _, _, _, _]) rfl rfl rfl rfl rfl ?_; refine yQ ?_; refine pw_seq ?_; refine pw_region ?_
      refine yLa (ys := [_, _, _]) rfl rfl rfl rfl ?_; refine yZ (cs := [_, _, _]) rfl rfl ?_; refine yS (cs' := [_, _, _]) rfl rfl rfl rfl rfl ?_; refine yQ ?_; refine pw_seq ?_; refine pw_draw Tryz.mixed (by kernel_rfl) ?_
      refine yFb rfl ?_; refine yLd rfl rfl rfl ?_; refine yMd rfl ?_; refine yDh (by omega) g1 rfl rfl ?_; refine yFb rfl ?_; refine yLd rfl rfl rfl ?_; refine yMd rfl ?_; refine yB rfl rfl rfl rfl ?_; rw [hw]
      refine yDl (by omega) g2 rfl rfl ?_; refine yR (es := [[_], [_]]) rfl rfl rfl rfl rfl ?_; refine yC (hce) rfl rfl ?_; refine yFb rfl ?_; refine ySl (cs' := [_, _, _]) rfl rfl rfl rfl ?_; refine yQ ?_; refine pw_seq ?_
      refine pw_seq ?_; refine pw_region ?_; refine yLa (ys := [_, _, _]) rfl rfl rfl rfl ?_; refine yC (c2) rfl rfl ?_; refine yB rfl rfl rfl rfl ?_; refine yMd rfl ?_; rw [u3]; refine yO rfl ?_; refine yO rfl ?_; refine yO rfl ?_
      refine yO rfl ?_; refine yPd rfl rfl ?_; refine yQ ?_; refine pw_ct rfl ?_; refine pw_seq ?_; refine pw_region ?_; refine yC (c0) rfl rfl ?_; refine yAd rfl ?_; refine yQ ?_; refine pw_ret ?_; refine q_then_ret ?_
      exact q_ret _ (.tmp rfl .nil) rfl
    have u3 : (e != 0) = false := by simpa using h0
    cases hb : (E.any fun y => y.1 == x0) with
    | true =>
      rw [hb] at c3
      refine pw_seq ?_; refine pw_region ?_; refine yFb rfl ?_; refine yLd rfl rfl rfl ?_; refine yN rfl ?_; refine yAd rfl ?_; refine yQ ?_; refine pw_seq ?_; refine pw_seq ?_; refine pw_region ?_; refine yMd rfl ?_
      refine yB rfl rfl rfl rfl ?_; refine yQ ?_; refine q_then ?_; rw [u2]; refine pw_cf rfl ?_; refine pw_skip ?_; refine pw_seq ?_; refine pw_region ?_; refine yMd rfl ?_; refine yJ rfl ?_; refine yMd rfl ?_; rw [hwn]
      refine yBm hl0 hk' rfl rfl ?_; refine yAd rfl ?_; refine yQ ?_; refine pw_seq ?_; refine pw_region ?_; refine yFb rfl ?_; refine yLd rfl rfl rfl ?_; refine yMd rfl ?_; refine yW ex (by omega) rfl rfl ?_
      refine yLs (ys := [_, _, _, _, _]) rfl rfl rfl ?_; refine yZ (cs := [_, _, _, _, _]) rfl rfl ?_; refine yS (cs' := [_, _, _, _, _]) rfl rfl rfl rfl rfl ?_; refine yQ ?_; refine pw_seq ?_; refine pw_region ?_
      refine yLa (ys := [_, _, _]) rfl rfl rfl rfl ?_; refine yZ (cs := [_, _, _]) rfl rfl ?_; refine yS (cs' := [_, _, _]) rfl rfl rfl rfl rfl ?_; refine yQ ?_; refine pw_seq ?_; refine pw_draw Tryz.mixed (by kernel_rfl) ?_
      refine yFb rfl ?_; refine yLd rfl rfl rfl ?_; refine yMd rfl ?_; refine yDh (by omega) g1 rfl rfl ?_; refine yFb rfl ?_; refine yLd rfl rfl rfl ?_; refine yMd rfl ?_; refine yB rfl rfl rfl rfl ?_; rw [hw]
      refine yDl (by omega) g2 rfl rfl ?_; refine yR (es := [[_], [_]]) rfl rfl rfl rfl rfl ?_; refine yC (hce) rfl rfl ?_; refine yFb rfl ?_; refine ySl (cs' := [_, _, _]) rfl rfl rfl rfl ?_; refine yQ ?_; refine pw_seq ?_
      refine pw_seq ?_; refine pw_region ?_; refine yLa (ys := [_, _, _]) rfl rfl rfl rfl ?_; refine yC (c2) rfl rfl ?_; refine yB rfl rfl rfl rfl ?_; refine yMd rfl ?_; rw [u3]; refine yFb rfl ?_; refine yLd rfl rfl rfl ?_
      refine yCm rfl ?_; refine yCf c3 (.d rfl (.fn inferInstance rfl rfl hxr .nil)) rfl ?_; refine yVd rfl rfl ?_; refine yQ ?_; refine pw_ct rfl ?_; refine pw_seq ?_; refine pw_region ?_; refine yC (c0) rfl rfl ?_; refine yAd rfl ?_
      refine yQ ?_; refine pw_ret ?_; refine q_then_ret ?_
      exact q_ret _ (.tmp rfl .nil) rfl
    | false =>
      rw [hb] at c3
      have c4 := c4 h0 (hne hb)
      have c5 := c5 h0 (hne hb)
      have d1 := wEqB [(1, x0, x3, [])] [(1, x0, x3, [])] (by simp) (by simp)
      have d2 := wEqB [(2, x0, [], x3)] [(2, x0, [], x3)] (by simp) (by simp)
      rw [decide_eq_true rfl] at d1 d2
      refine pw_seq ?_; refine pw_region ?_; refine yFb rfl ?_; refine yLd rfl rfl rfl ?_; refine yN rfl ?_; refine yAd rfl ?_; refine yQ ?_; refine pw_seq ?_; refine pw_seq ?_; refine pw_region ?_; refine yMd rfl ?_
      refine yB rfl rfl rfl rfl ?_; refine yQ ?_; refine q_then ?_; rw [u2]; refine pw_cf rfl ?_; refine pw_skip ?_; refine pw_seq ?_; refine pw_region ?_; refine yMd rfl ?_; refine yJ rfl ?_; refine yMd rfl ?_; rw [hwn]
      refine yBm hl0 hk' rfl rfl ?_; refine yAd rfl ?_; refine yQ ?_; refine pw_seq ?_; refine pw_region ?_; refine yFb rfl ?_; refine yLd rfl rfl rfl ?_; refine yMd rfl ?_; refine yW ex (by omega) rfl rfl ?_
      refine yLs (ys := [_, _, _, _, _]) rfl rfl rfl ?_; refine yZ (cs := [_, _, _, _, _]) rfl rfl ?_; refine yS (cs' := [_, _, _, _, _]) rfl rfl rfl rfl rfl ?_; refine yQ ?_; refine pw_seq ?_; refine pw_region ?_
      refine yLa (ys := [_, _, _]) rfl rfl rfl rfl ?_; refine yZ (cs := [_, _, _]) rfl rfl ?_; refine yS (cs' := [_, _, _]) rfl rfl rfl rfl rfl ?_; refine yQ ?_; refine pw_seq ?_; refine pw_draw Tryz.mixed (by kernel_rfl) ?_
      refine yFb rfl ?_; refine yLd rfl rfl rfl ?_; refine yMd rfl ?_; refine yDh (by omega) g1 rfl rfl ?_; refine yFb rfl ?_; refine yLd rfl rfl rfl ?_; refine yMd rfl ?_; refine yB rfl rfl rfl rfl ?_; rw [hw]
      refine yDl (by omega) g2 rfl rfl ?_; refine yR (es := [[_], [_]]) rfl rfl rfl rfl rfl ?_; refine yC (hce) rfl rfl ?_; refine yFb rfl ?_; refine ySl (cs' := [_, _, _]) rfl rfl rfl rfl ?_; refine yQ ?_; refine pw_seq ?_
      refine pw_seq ?_; refine pw_region ?_; refine yLa (ys := [_, _, _]) rfl rfl rfl rfl ?_; refine yC (c2) rfl rfl ?_; refine yB rfl rfl rfl rfl ?_; refine yMd rfl ?_; rw [u3]; refine yFb rfl ?_; refine yLd rfl rfl rfl ?_
      refine yCm rfl ?_; refine yCf c3 (.d rfl (.fn inferInstance rfl rfl hxr .nil)) rfl ?_; refine yVd rfl rfl ?_; refine yQ ?_; refine pw_cf rfl ?_; refine pw_skip ?_; refine pw_seq ?_; refine pw_region ?_
      refine yLa (ys := [_, _, _]) rfl rfl rfl rfl ?_; refine yLa (ys := [_, _, _]) rfl rfl rfl rfl ?_; refine yC (c4) rfl rfl ?_; refine yMp rfl ?_; refine yX rfl rfl ?_; refine yX rfl rfl ?_; refine yAd rfl ?_; refine yAd rfl ?_
      refine yQ ?_; refine pw_seq ?_; refine pw_region ?_; refine yLa (ys := [_, _, _]) rfl rfl rfl rfl ?_; refine yLa (ys := [_, _, _]) rfl rfl rfl rfl ?_; refine yC (c5) rfl rfl ?_; refine yMp rfl ?_; refine yX rfl rfl ?_
      refine yX rfl rfl ?_; refine yAd rfl ?_; refine yAd rfl ?_; refine yQ ?_; refine pw_seq ?_; refine pw_region ?_; refine yMd rfl ?_; refine yB rfl rfl rfl rfl ?_; refine yMd rfl ?_; refine yMd rfl ?_; refine yB rfl rfl rfl rfl ?_
      refine yPd rfl rfl ?_; refine yMd rfl ?_; refine yMd rfl ?_; refine yFb rfl ?_; refine yLd rfl rfl rfl ?_; refine yFb rfl ?_; refine yLd rfl rfl rfl ?_; refine yG (ys := [_, _, _, _]) rfl rfl ?_
      refine yR (es := [[_, _, _, _]]) rfl rfl rfl rfl rfl ?_; refine yC (d1) rfl rfl ?_; refine yPd rfl rfl ?_; refine yMd rfl ?_; refine yMd rfl ?_; refine yFb rfl ?_; refine yLd rfl rfl rfl ?_; refine yFb rfl ?_
      refine yLd rfl rfl rfl ?_; refine yG (ys := [_, _, _, _]) rfl rfl ?_; refine yR (es := [[_, _, _, _]]) rfl rfl rfl rfl rfl ?_; refine yC (d2) rfl rfl ?_; refine yPd rfl rfl ?_; refine yMd rfl ?_; refine yC (c0) rfl rfl ?_
      refine yPd rfl rfl ?_; refine yAd rfl ?_; refine yQ ?_; refine pw_ret ?_
      exact q_ret _ (.tmp rfl .nil) rfl
  -- a quantity changed
  rcases Nat.eq_zero_or_pos hs.length with hm | hm
  · have u2 : decide (((hs.map dH).length : Int) > 0) = false := decide_eq_false (by rw [List.length_map]; omega)
    rw [u2]
    refine pw_cf rfl ?_; refine pw_skip ?_; refine q_then ?_
    exact ⟨rfl, ⟨.refl _, .refl _, trivial⟩, ⟨⟨_, rfl, .refl _, .refl _, .refl _, trivial⟩, trivial⟩, trivial, rfl⟩
  have u2 : decide (((hs.map dH).length : Int) > 0) = true := decide_eq_true (by rw [List.length_map]; omega)
  obtain ⟨k, hk, hkl⟩ := rem_at (l := hs.length) hn0 hm
  have hk' : n.tmod ((hs.map dH).length : Int) = (k : Int) := by rw [List.length_map]; exact hk
  have hl0 : ((hs.map dH).length : Int) ≠ 0 := by rw [List.length_map]; omega
  obtain ⟨x, hx⟩ : ∃ a, hs[k]? = some a := ⟨_, List.getElem?_eq_getElem hkl⟩
  have ex := ix dH hs k k x rfl hx
  have hqx := hqh k x hx
  have c2 := wCloneH hs hm (by omega)
  have c3 := wAddT x.2 by' (by omega) (by omega)
  have hql : (canon (val x.2 + val by')).length ≤ 1000000 := by
    have := addI_len (k := 13) (a := x.2) (b := by') (by omega) (by omega)
    have : (canon (val x.2 + val by')).length ≤ 15 := this
    omega
  obtain ⟨q, hq⟩ : ∃ q, q = canon (val x.2 + val by') := ⟨_, rfl⟩
  rw [← hq] at c3 hql
  have c4 := cc1 k x q hx hql
  have c5 := ca1 k x q hx hql
  have hst := vHs_set hs q hx
  have hch := chunk_vHs (hs.set k (x.1, q)) (n := hs.length) (by simp)
  have hy : (hs.set k (x.1, q))[k]? = some (x.1, q) := by rw [List.getElem?_set_self hkl]
  have ey := ix dH (hs.set k (x.1, q)) k k (x.1, q) rfl hy
  have hvl := vHs_len (hs.set k (x.1, q))
  have hl2 : (hs.set k (x.1, q)).length = hs.length := by simp
  obtain ⟨S, hS⟩ : ∃ S, S = hs.set k (x.1, q) := ⟨_, rfl⟩
  rw [← hS] at c4 c5 hst hch ey hvl hl2
  obtain ⟨e, he⟩ : ∃ e, e = stE ⟨d, S, ms⟩ := ⟨_, rfl⟩
  rw [← he] at c4 c5
  obtain ⟨x0, x1⟩ := x
  simp only at c3 c5 ey hqx
  have hkh : (k : Int) < ((hs.map dH).length : Int) := by rw [List.length_map]; omega
  have hlt : Nat.blt (((k : Int)).toNat * 2 + 1) (cHs hs).length = true := by
    refine Nat.ble_eq_true_of_le ?_
    rw [List.length_map, vHs_len, Int.toNat_natCast]
    omega
  clear hq hS he cc1 ca1 cc2 ca2 ca3
  by_cases h0 : e = 0
  rotate_left
  · have u3 : (e == 0) = false := by simpa using h0
    rw [u2]
    refine pw_ct rfl ?_; refine pw_seq ?_; refine pw_region ?_; refine yMd rfl ?_; refine yJ rfl ?_; refine yMd rfl ?_; rw [hwn]; refine yBm hl0 hk' rfl rfl ?_; refine yAd rfl ?_; refine yQ ?_; refine pw_seq ?_; refine pw_region ?_
    refine yLa (ys := [_, _, _]) rfl rfl rfl rfl ?_; refine yZ (cs := [_, _, _]) rfl rfl ?_; refine yS (cs' := [_, _, _]) rfl rfl rfl rfl rfl ?_; refine yQ ?_; refine pw_seq ?_; refine pw_region ?_; refine yFb rfl ?_
    refine yLd rfl rfl rfl ?_; refine yCob (vs := vHs hs) c2 (by simp; omega) (by rw [List.length_map]; exact chunk_vHs hs rfl) (by rw [List.length_map]; exact vHs_len hs) rfl rfl ?_; refine yFb rfl ?_
    refine ySw (cs' := [_, _, _]) rfl rfl rfl rfl ?_; refine yQ ?_; refine pw_seq ?_; refine pw_draw Tryz.mixed (by kernel_rfl) ?_; refine yFb rfl ?_; refine yLw rfl rfl rfl ?_; refine yMd rfl ?_; refine yFb rfl ?_
    refine yLd rfl rfl rfl ?_; refine yMd rfl ?_; refine yW ex (by omega) rfl rfl ?_; refine yFr rfl rfl ?_; refine yLr rfl rfl ?_; refine yMd rfl ?_; refine yC (c3) rfl rfl ?_; refine yWb (by omega) hkh rfl rfl rfl ?_
    refine yFb rfl ?_; refine ySd rfl rfl rfl hst ?_ hlt; refine yQ ?_
    refine pw_frzb 9 1 42 (es := S.map dH) (ds := (vHs S).map .val) (n := (hs.map dH).length) (by rw [List.length_map, List.length_map, hvl, hl2]) (by rw [List.length_map]; exact hch) (toDs_vs _) rfl rfl rfl ?_; refine pw_seq ?_
    refine pw_draw Tryz.mixed (by kernel_rfl) ?_; refine yLa (ys := [_, _, _]) rfl rfl rfl rfl ?_; refine yC (c4) rfl rfl ?_; refine yB rfl rfl rfl rfl ?_; refine yMd rfl ?_; rw [u3]; refine yO rfl ?_; refine yO rfl ?_; refine yO rfl ?_
    refine yO rfl ?_; refine yO rfl ?_; refine yO rfl ?_; refine yO rfl ?_; refine yO rfl ?_; refine yO rfl ?_; refine yO rfl ?_; refine yO rfl ?_; refine yVd rfl rfl ?_; refine yQ ?_; refine pw_cf rfl ?_; refine pw_skip ?_
    refine q_then ?_
    exact ⟨rfl, ⟨.refl _, .refl _, trivial⟩, ⟨⟨_, rfl, .refl _, .refl _, .refl _, trivial⟩, trivial⟩, trivial, rfl⟩
  have u3 : (e == 0) = true := by simpa using h0
  by_cases hne : x1 = q
  · have hv : veqs [vS x0, vS q] [vS x0, vS x1] = true := by rw [veqs, veqs, veq_str, veq_str]; simp [veqs, hne]
    rw [u2]
    refine pw_ct rfl ?_; refine pw_seq ?_; refine pw_region ?_; refine yMd rfl ?_; refine yJ rfl ?_; refine yMd rfl ?_; rw [hwn]; refine yBm hl0 hk' rfl rfl ?_; refine yAd rfl ?_; refine yQ ?_; refine pw_seq ?_; refine pw_region ?_
    refine yLa (ys := [_, _, _]) rfl rfl rfl rfl ?_; refine yZ (cs := [_, _, _]) rfl rfl ?_; refine yS (cs' := [_, _, _]) rfl rfl rfl rfl rfl ?_; refine yQ ?_; refine pw_seq ?_; refine pw_region ?_; refine yFb rfl ?_
    refine yLd rfl rfl rfl ?_; refine yCob (vs := vHs hs) c2 (by simp; omega) (by rw [List.length_map]; exact chunk_vHs hs rfl) (by rw [List.length_map]; exact vHs_len hs) rfl rfl ?_; refine yFb rfl ?_
    refine ySw (cs' := [_, _, _]) rfl rfl rfl rfl ?_; refine yQ ?_; refine pw_seq ?_; refine pw_draw Tryz.mixed (by kernel_rfl) ?_; refine yFb rfl ?_; refine yLw rfl rfl rfl ?_; refine yMd rfl ?_; refine yFb rfl ?_
    refine yLd rfl rfl rfl ?_; refine yMd rfl ?_; refine yW ex (by omega) rfl rfl ?_; refine yFr rfl rfl ?_; refine yLr rfl rfl ?_; refine yMd rfl ?_; refine yC (c3) rfl rfl ?_; refine yWb (by omega) hkh rfl rfl rfl ?_
    refine yFb rfl ?_; refine ySd rfl rfl rfl hst ?_ hlt; refine yQ ?_
    refine pw_frzb 9 1 42 (es := S.map dH) (ds := (vHs S).map .val) (n := (hs.map dH).length) (by rw [List.length_map, List.length_map, hvl, hl2]) (by rw [List.length_map]; exact hch) (toDs_vs _) rfl rfl rfl ?_; refine pw_seq ?_
    refine pw_draw Tryz.mixed (by kernel_rfl) ?_; refine yLa (ys := [_, _, _]) rfl rfl rfl rfl ?_; refine yC (c4) rfl rfl ?_; refine yB rfl rfl rfl rfl ?_; refine yMd rfl ?_; rw [u3]; refine yFb rfl ?_; refine yLd rfl rfl rfl ?_
    refine yMd rfl ?_; refine yW ey (by omega) rfl rfl ?_; refine yLs (ys := [_, _]) rfl rfl rfl ?_; refine yFb rfl ?_; refine yLd rfl rfl rfl ?_; refine yMd rfl ?_; refine yW ex (by omega) rfl rfl ?_
    refine yLs (ys := [_, _]) rfl rfl rfl ?_; refine yBx (vs := [vS x0, vS q]) (us := [vS x0, vS x1]) rfl rfl rfl rfl rfl rfl ?_; refine yPd rfl rfl ?_; refine yQ ?_; refine q_then ?_; rw [hv]; refine pw_cf rfl ?_; refine pw_skip ?_
    refine q_then ?_
    exact ⟨rfl, ⟨.refl _, .refl _, trivial⟩, ⟨⟨_, rfl, .refl _, .refl _, .refl _, trivial⟩, trivial⟩, trivial, rfl⟩
  have hv : veqs [vS x0, vS q] [vS x0, vS x1] = false := by rw [veqs, veqs, veq_str, veq_str]; simp [veqs]; exact fun e => hne e.symm
  have c5 := c5 h0 hne
  have d1 := wEqB [(3, x0, x1, q)] [(3, x0, x1, q)] (by simp) (by simp)
  rw [decide_eq_true rfl] at d1
  rw [u2]
  refine pw_ct rfl ?_; refine pw_seq ?_; refine pw_region ?_; refine yMd rfl ?_; refine yJ rfl ?_; refine yMd rfl ?_; rw [hwn]; refine yBm hl0 hk' rfl rfl ?_; refine yAd rfl ?_; refine yQ ?_; refine pw_seq ?_; refine pw_region ?_
  refine yLa (ys := [_, _, _]) rfl rfl rfl rfl ?_; refine yZ (cs := [_, _, _]) rfl rfl ?_; refine yS (cs' := [_, _, _]) rfl rfl rfl rfl rfl ?_; refine yQ ?_; refine pw_seq ?_; refine pw_region ?_; refine yFb rfl ?_
  refine yLd rfl rfl rfl ?_; refine yCob (vs := vHs hs) c2 (by simp; omega) (by rw [List.length_map]; exact chunk_vHs hs rfl) (by rw [List.length_map]; exact vHs_len hs) rfl rfl ?_; refine yFb rfl ?_
  refine ySw (cs' := [_, _, _]) rfl rfl rfl rfl ?_; refine yQ ?_; refine pw_seq ?_; refine pw_draw Tryz.mixed (by kernel_rfl) ?_; refine yFb rfl ?_; refine yLw rfl rfl rfl ?_; refine yMd rfl ?_; refine yFb rfl ?_
  refine yLd rfl rfl rfl ?_; refine yMd rfl ?_; refine yW ex (by omega) rfl rfl ?_; refine yFr rfl rfl ?_; refine yLr rfl rfl ?_; refine yMd rfl ?_; refine yC (c3) rfl rfl ?_; refine yWb (by omega) hkh rfl rfl rfl ?_
  refine yFb rfl ?_; refine ySd rfl rfl rfl hst ?_ hlt; refine yQ ?_
  refine pw_frzb 9 1 42 (es := S.map dH) (ds := (vHs S).map .val) (n := (hs.map dH).length) (by rw [List.length_map, List.length_map, hvl, hl2]) (by rw [List.length_map]; exact hch) (toDs_vs _) rfl rfl rfl ?_; refine pw_seq ?_
  refine pw_draw Tryz.mixed (by kernel_rfl) ?_; refine yLa (ys := [_, _, _]) rfl rfl rfl rfl ?_; refine yC (c4) rfl rfl ?_; refine yB rfl rfl rfl rfl ?_; refine yMd rfl ?_; rw [u3]; refine yFb rfl ?_; refine yLd rfl rfl rfl ?_
  refine yMd rfl ?_; refine yW ey (by omega) rfl rfl ?_; refine yLs (ys := [_, _]) rfl rfl rfl ?_; refine yFb rfl ?_; refine yLd rfl rfl rfl ?_; refine yMd rfl ?_; refine yW ex (by omega) rfl rfl ?_
  refine yLs (ys := [_, _]) rfl rfl rfl ?_; refine yBx (vs := [vS x0, vS q]) (us := [vS x0, vS x1]) rfl rfl rfl rfl rfl rfl ?_; refine yPd rfl rfl ?_; refine yQ ?_; refine q_then ?_; rw [hv]; refine pw_ct rfl ?_; refine pw_seq ?_
  refine pw_region ?_; refine yLa (ys := [_, _, _]) rfl rfl rfl rfl ?_; refine yLa (ys := [_, _, _]) rfl rfl rfl rfl ?_; refine yC (c5) rfl rfl ?_; refine yMp rfl ?_; refine yX rfl rfl ?_; refine yX rfl rfl ?_; refine yAd rfl ?_
  refine yAd rfl ?_; refine yQ ?_; refine pw_seq ?_; refine pw_draw Tryz.mixed (by kernel_rfl) ?_; refine yMd rfl ?_; refine yB rfl rfl rfl rfl ?_; refine yMd rfl ?_; refine yMd rfl ?_; refine yFb rfl ?_; refine yLd rfl rfl rfl ?_
  refine yMd rfl ?_; refine yW ex (by omega) rfl rfl ?_; refine yFr rfl rfl ?_; refine yLr rfl rfl ?_; refine yFb rfl ?_; refine yLd rfl rfl rfl ?_; refine yMd rfl ?_; refine yW ex (by omega) rfl rfl ?_; refine yFr rfl rfl ?_
  refine yLr rfl rfl ?_; refine yFb rfl ?_; refine yLd rfl rfl rfl ?_; refine yMd rfl ?_; refine yW ey (by omega) rfl rfl ?_; refine yFr rfl rfl ?_; refine yLr rfl rfl ?_; refine yG (ys := [_, _, _, _]) rfl rfl ?_
  refine yR (es := [[_, _, _, _]]) rfl rfl rfl rfl rfl ?_; refine yC (d1) rfl rfl ?_; refine yU rfl rfl rfl ?_; refine yVd rfl rfl ?_; refine yQ ?_; refine pw_cf rfl ?_; refine pw_skip ?_; refine q_then ?_
  exact ⟨rfl, ⟨.refl _, .refl _, trivial⟩, ⟨⟨_, rfl, .refl _, .refl _, .refl _, trivial⟩, trivial⟩, trivial, rfl⟩
end Go.Proofs.YtdkpmnefoobipaaGreatDoor
