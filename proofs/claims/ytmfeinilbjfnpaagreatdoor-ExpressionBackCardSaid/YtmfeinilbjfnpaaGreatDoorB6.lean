/- Rules for maps that nobody writes any more: a map of one's own becomes data, and is looked up. -/
import Derived.Test.YtmfeinilbjfnpaaGreatDoorB5
import Derived.Test.YtmfeinilbjfnpaaGreatDoorB4
import Derived.Test.YtmfeinilbjfnpaaGreatDoorRows
import Derived.JoinedOf
import Derived.KernelRfl
set_option maxHeartbeats 1000000
namespace Go.Proofs.YtmfeinilbjfnpaaGreatDoor.Px
open Go.RowKit

theorem see_map {w : World} {b o : Nat} {es : Array MapEntry} (h : see w b o = some (.mp es)) : ∃ c, w.heap[b]? = some (.map es c) := by
  unfold see at h
  split at h
  · rename_i es' c hc
    cases h
    exact ⟨c, hc⟩
  · rw [Option.map_eq_some_iff] at h
    obtain ⟨x, -, h⟩ := h
    cases h
  · cases h

section
variable {P : Program} {B : Nat} {w0 : Cx} {Q : Exit → PS → Prop} {st : PS} {c : Code}
/-- a map is written no more -/
theorem pw_frzm (s i : Nat) {ms : List (Value × DV)} (hs : st.get s = .mb i) (hi : st.bget i = some [.mc ms]) (h : PW P B w0 c Q ((st.kill i).put (some s) (.d (.mp ms)))) (hge : Nat.ble 500000 i = true := by rfl) : PW P B w0 c Q st := fun g a w hr => by
  obtain ⟨ev, hr'⟩ := hr.kill i
  have hv := hr.slots s
  rw [hs] at hv
  obtain ⟨b, q1, q2⟩ := hv
  obtain ⟨b', es, ck, r1, r2, r3⟩ := hr.maps i ms hi (Nat.le_of_ble_eq_true hge)
  rw [q1] at r1
  cases r1
  have hd : DRep (Fx (g.delb i)) w (a.tmps.getD s undef) (.mp ms) := by
    rw [q2]
    refine .mp (es := es) ?_ ⟨(hr.blk i b q1).1 0, fun j hj => ?_, fun t T n' c' hT hTv => ?_⟩ r3.1 (fun k e p he hp => (r3.2.2 k e p he hp).1) fun k e p he hp => ((r3.2.2 k e p he hp).2).mono ev.fx
    · unfold see
      rw [r2]
    · obtain ⟨h1, h2⟩ := Gh.delb_bl hj
      exact h2 (hr.inj j i b h1 q1)
    · exact absurd q1 ((hr.toks t T hT).2 i b (by rw [hTv]; rfl))
  refine h _ a w { hr' with lim := hr'.lim, size := hr'.size, boxes := hr'.boxes, maps := hr'.maps, dom := hr'.dom, tdom := hr'.tdom, tlen := hr'.tlen, glob := hr'.glob, slots := fun j => ?_ }
  rw [get_put]
  by_cases e : j = s
  · rw [if_pos e, e]; exact hd
  · rw [if_neg e]; exact hr'.slots j
end

section
variable {P : Program} {sq : Bool} {ops : Array Oper} {K : PS → Prop} {rest : List Oper} {st : PS} {d : Option Nat} {ty : TypeId} {pos : String} {af : Array Edge} {gd : Option (Nat × Bool)}
theorem ls_mld (T : TypeId) (x y : Operand) {l : List (List UInt8 × DV)} {k : List UInt8} {z : DV} [hM : MapOf P T z] (hx : st.ev x = .d (.mp (kmap l))) (hy : st.ev y = .d (dS k)) (hd : dstOk ⟨d, .lookup T x y true, ty, pos, af, gd⟩ st = true) :
    LocS P ⟨d, .lookup T x y true, ty, pos, af, gd⟩ st (.tup [mget z k l, dB (mhas k l)]) .no := fun st2 ha =>
  OpS.value (ha.dst hd) fun _ _ g a w h => by
    have h1 := h.eval x
    rw [ha.ev x (by simp [Op.operands]), hx] at h1
    have h2 := h.eval y
    rw [ha.ev y (by simp [Op.operands]), hy] at h2
    obtain ⟨b, es, q2, hsee, hl, hkk, hvv⟩ : ∃ b es, a.eval x = .map (some b) ∧ see w b 0 = some (.mp es) ∧ es.size = (kmap l).length ∧ (∀ (i : Nat) e p, es[i]? = some e → (kmap l)[i]? = some p → e.key = p.1) ∧ ∀ (i : Nat) e p, es[i]? = some e → (kmap l)[i]? = some p → DRep (Fx g) w e.val p.2 := by
      generalize a.eval x = v at h1
      cases h1 with
      | mp hs hF hl hk h => exact ⟨_, _, rfl, hs, hl, hk, h⟩
    obtain ⟨c, r2⟩ := see_map hsee
    have hp : ∀ (i : Nat) p, l[i]? = some p → (kmap l)[i]? = some (vS p.1, p.2) := fun i p hp => by rw [kmap, List.getElem?_map, hp]; rfl
    have r3 : es.toList.length = l.length := by simpa [kmap] using hl
    have r4 : ∀ (i : Nat) e p, es.toList[i]? = some e → l[i]? = some p → e.key = vS p.1 := fun i e p he hl => hkk i e _ (by simpa using he) (hp i p hl)
    have r5 : ∀ (i : Nat) e p, es.toList[i]? = some e → l[i]? = some p → DRep (Fx g) w e.val p.2 := fun i e p he hl => hvv i e _ (by simpa using he) (hp i p hl)
    obtain ⟨kt, et, m1, m2, m3⟩ := hM.und
    obtain ⟨v, m4, m5⟩ := m3 w
    have hc : ∀ e, (Instr.checkKey e 10000 kt (vS k)).run P w = .ok () w := fun e => MapKept.run_checkKey (k := vS k) m2 (by simp [MapKept.IsKey]) e 9999
    have pair : ∀ (v1 : Value) (d1 : DV) (t : Bool), DRep (Fx g) w v1 d1 → SRep g w (.tuple #[v1, .bool t]) (.tup [d1, dB t]) := fun v1 d1 t h1 => ⟨[v1, .bool t], rfl, rfl, fun i y x hy hx => by
      match i with
      | 0 => cases hy; cases hx; exact h1
      | 1 => cases hy; cases hx; exact DRep.val _ rfl
      | i + 2 => simp at hy⟩
    rcases find_spec k l es.toList 0 r3 r4 with ⟨j, e, d', f1, f2, f3, f4, -⟩ | ⟨f1, f2, -, f4⟩
    · have hh : mhas k l = true := List.any_eq_true.2 ⟨_, List.mem_of_getElem? f3, by simp⟩
      refine ⟨.tuple #[e.val, .bool true], w, ?_, Below.refl _ _, ?_⟩
      · simp [execOp, Instr.lookup, run_underlying m1, q2, DRep.val_eq h2, MapKept.run_getObj_map r2, hc, MapKept.run_findKey m2 f1, Result.andThen]
      · rw [f4, hh]; exact pair _ _ _ (r5 j e _ f2 f3)
    · have hh : mhas k l = false := by
        rw [← Bool.not_eq_true]
        intro e
        obtain ⟨p, hp, hpk⟩ := List.any_eq_true.1 e
        exact f4 p hp (by simpa using hpk)
      refine ⟨.tuple #[v, .bool false], w, ?_, Below.refl _ _, ?_⟩
      · simp [execOp, Instr.lookup, run_underlying m1, q2, DRep.val_eq h2, MapKept.run_getObj_map r2, hc, MapKept.run_findKey m2 f1, m4, Result.andThen]
      · rw [f2, hh]; exact pair _ _ _ (m5 _ _)
theorem yKd {T : Nat} {x y : Operand} {l : List (List UInt8 × DV)} {k : List UInt8} {z v : DV} {t : Bool} [hM : MapOf P T z] (hx : st.ev x = .d (.mp (kmap l))) (hy : st.ev y = .d (dS k)) (hv : mget z k l = v) (ht : mhas k l = t)
    (h : YR P sq ops K rest (st.put d (.tup [v, dB t]))) (hd : dstOk ⟨d, .lookup T x y true, ty, pos, af, gd⟩ st = true := by kernel_rfl) (hk : opOk ⟨d, .lookup T x y true, ty, pos, af, gd⟩ st .no = true := by kernel_rfl) (hw : st.want ops ⟨d, .lookup T x y true, ty, pos, af, gd⟩ = some true := by rfl) :
    YR P sq ops K (⟨d, .lookup T x y true, ty, pos, af, gd⟩ :: rest) st := yr_v (hv ▸ ht ▸ ls_mld T x y hx hy hd) hk hw h
end
end Go.Proofs.YtmfeinilbjfnpaaGreatDoor.Px
namespace Go.Proofs.YtmfeinilbjfnpaaGreatDoor
open Go.RowKit Px

theorem setS_new {k v : Str} {M : List (Str × Str)} (h : (M.any fun p => p.1 == k) = false) : setS k v M = M ++ [(k, v)] := by
  induction M with
  | nil => rfl
  | cons p M ih =>
    rw [List.any_cons, Bool.or_eq_false_iff] at h
    show (if p.1 = k then (k, v) :: M else (p.1, p.2) :: setS k v M) = _
    rw [if_neg (by simpa using h.1), ih h.2]
    rfl
theorem mhas_D (k : Str) (M : List (Str × Str)) : mhas k (mapD M) = M.any fun p => p.1 == k := by
  rw [mhas, mapD, List.any_map]
  rfl
/-- what is wrong with an amount behind others, with amounts -/
def tmE (p : List Cf) (t : Cf) : Int := if nmB t.1 then (if isC t.2 then (if p.any fun q => q.1 == t.1 then 5 else 0) else 1) else 23
def amR (p : List Cf) : List Cf → Int
  | [] => 0
  | t :: L => if tmE p t = 0 then amR (p ++ [t]) L else tmE p t
def amE (L : List Cf) : Int := amR [] L
def amD (L : List Cf) : DV := if amE L = 0 then .mp (kmap (mapD L)) else .val (.map none)
set_option maxRecDepth 20000 in
set_option maxHeartbeats 2000000 in
theorem wAmounts (L : List Cf) (hl : L.length ≤ 1000000) (hf : ∀ c ∈ L, c.2.length ≤ 1000000) : PCalls Tryz.prog 43 [.sl 2 (L.map dCf)] (.tup [amD L, dI (amE L)]) := by
  obtain ⟨r, hr⟩ : ∃ r, r = amE L := ⟨_, rfl⟩
  rw [amD, ← hr]
  refine pcalls_of_pw Tryz.func43 rfl Tryz.ntmps43 Tryz.results43 (by simp) fun B w0 => ?_
  refine pw_seq ?_; refine pw_region ?_; refine yAd rfl ?_; refine yAd rfl ?_; refine yQ ?_; refine pw_seq ?_; refine pw_region ?_; refine yKm rfl ?_; refine yAm rfl ?_; refine yQ ?_; refine pw_seq ?_; refine pw_seq ?_
  refine pw_region ?_; refine yMd rfl ?_; refine yN rfl ?_; refine yMd rfl ?_; refine yQ ?_; refine pw_block ?_
  refine pw_loop (fun i : Nat => ⟨42, [(4, .mb 500009), (10, .d (.sl 2 (L.map dCf))), (11, .d (dI L.length)), (12, .d (dI i))], [(500009, [.mc (kmap (mapD (L.take i)))])], []⟩) (fun i => i ≤ L.length ∧ amR (L.take i) (L.drop i) = r) (fun i => L.length - i) 0 ⟨Nat.zero_le _, hr.symm⟩
    ⟨rfl, ⟨.refl _, .refl _, .of_eq (congrArg (fun n : Nat => SV.d (dI n)) (by simp)), .refl _, trivial⟩, ⟨⟨_, rfl, lesC_eq rfl⟩, trivial⟩, trivial, rfl⟩ ?_
  rintro i ⟨hi, hri⟩
  rcases Nat.lt_or_ge i L.length with h | h
  rotate_left
  · have t1 : decide ((i : Int) < (L.length : Int)) = false := decide_eq_false (by omega)
    obtain rfl : i = L.length := by omega
    rw [List.drop_length, amR] at hri
    subst hri
    rw [List.take_length, if_pos rfl]
    refine pw_frzm 4 500009 rfl rfl ?_; refine pw_seq ?_; refine pw_region ?_; refine yB rfl rfl rfl rfl ?_; refine yQ ?_; refine pw_seq ?_; rw [t1]; refine pw_cf rfl ?_; refine pw_exit ?_; refine pw_seq ?_; refine pw_region ?_
    refine yMd rfl ?_; refine yAd rfl ?_; refine yAd rfl ?_; refine yQ ?_; refine pw_ret ?_
    exact q_ret _ (.tmp rfl (.tmp rfl .nil)) rfl
  have t1 : decide ((i : Int) < (L.length : Int)) = true := decide_eq_true (by omega)
  obtain ⟨⟨c0, c1⟩, hc⟩ : ∃ a, L[i]? = some a := ⟨_, List.getElem?_eq_getElem h⟩
  have em := ix dCf L i i (c0, c1) rfl hc
  have hw := wrapI ((i : Int) + 1) (by omega)
  have hq := hf _ (List.mem_of_getElem? hc)
  simp only at hq
  have k1 := wIsName c0
  have k2 := wCheck c1 (by omega)
  have hdr : L.drop i = (c0, c1) :: L.drop (i + 1) := by
    obtain ⟨q1, q2⟩ := List.getElem?_eq_some_iff.1 hc
    rw [List.drop_eq_getElem_cons q1, q2]
  have htk : L.take (i + 1) = L.take i ++ [(c0, c1)] := by rw [List.take_add_one, hc]; rfl
  rw [hdr, amR, ← htk] at hri
  have hg := mget_D c0 (L.take i)
  have hm := mhas_D c0 (L.take i)
  have hset : ((L.take i).any fun p => p.1 == c0) = false → mset c0 (dS c1) (mapD (L.take i)) = mapD (L.take (i + 1)) := fun h0 => by rw [mset_D, setS_new h0, htk]
  simp only [tmE] at hri
  obtain ⟨M, hM⟩ : ∃ M, M = L.take i := ⟨_, rfl⟩
  obtain ⟨M2, hM2⟩ : ∃ M, M = L.take (i + 1) := ⟨_, rfl⟩
  obtain ⟨D2, hD2⟩ : ∃ D, D = L.drop (i + 1) := ⟨_, rfl⟩
  rw [← hM, ← hM2, ← hD2] at hri
  rw [← hM] at hg hm hset ⊢
  rw [← hM2] at hset
  obtain ⟨v, hv⟩ : ∃ v, v = getS c0 M := ⟨_, rfl⟩
  obtain ⟨b, hb⟩ : ∃ b, b = (M.any fun p => p.1 == c0) := ⟨_, rfl⟩
  rw [← hv] at hg
  rw [← hb] at hm hset hri
  clear hv hb hM htk hdr hr
  cases hn : nmB c0 with
  | false =>
    rw [hn] at k1 hri
    have hri : 23 = r := by simpa using hri
    subst hri
    rw [if_neg (by decide)]
    refine pw_seq ?_; refine pw_region ?_; refine yB rfl rfl rfl rfl ?_; refine yQ ?_; refine pw_seq ?_; rw [t1]; refine pw_ct rfl ?_; refine pw_skip ?_; refine pw_seq ?_; refine pw_block ?_; refine pw_seq ?_; refine pw_region ?_
    refine yW em (by omega) rfl rfl ?_; refine yLs (ys := [_, _]) rfl rfl rfl ?_; refine yZ (cs := [_, _]) rfl rfl ?_; refine yS (cs' := [_, _]) rfl rfl rfl rfl rfl ?_; refine yQ ?_; refine pw_seq ?_; refine pw_region ?_
    refine yMm rfl ?_; refine yFb rfl ?_; refine yLd rfl rfl rfl ?_; refine yKo (z := dS []) rfl rfl rfl hg hm ?_; refine yMp rfl ?_; refine yX rfl rfl ?_; refine yX rfl rfl ?_; refine yAd rfl ?_; refine yAd rfl ?_; refine yQ ?_
    refine pw_seq ?_; refine pw_block ?_; refine pw_seq ?_; refine pw_region ?_; refine yFb rfl ?_; refine yLd rfl rfl rfl ?_; refine yC (k1) rfl rfl ?_; refine yU rfl rfl rfl ?_; refine yAd rfl ?_; refine yQ ?_; refine pw_ct rfl ?_
    refine pw_seq ?_; refine pw_region ?_; refine yAd rfl ?_; refine yAd rfl ?_; refine yQ ?_; refine pw_ret ?_; refine q_blk_ret ?_; refine q_then_ret ?_; refine q_blk_ret ?_; refine q_then_ret ?_; refine q_then_ret ?_
    refine q_blk_ret ?_; refine q_then_ret ?_
    exact q_ret _ (.tmp rfl (.tmp rfl .nil)) rfl
  | true =>
    rw [hn] at k1 hri
    cases hs : isC c1 with
    | false =>
      rw [hs] at k2 hri
      have hri : 1 = r := by simpa using hri
      subst hri
      rw [if_neg (by decide)]
      refine pw_seq ?_; refine pw_region ?_; refine yB rfl rfl rfl rfl ?_; refine yQ ?_; refine pw_seq ?_; rw [t1]; refine pw_ct rfl ?_; refine pw_skip ?_; refine pw_seq ?_; refine pw_block ?_; refine pw_seq ?_; refine pw_region ?_
      refine yW em (by omega) rfl rfl ?_; refine yLs (ys := [_, _]) rfl rfl rfl ?_; refine yZ (cs := [_, _]) rfl rfl ?_; refine yS (cs' := [_, _]) rfl rfl rfl rfl rfl ?_; refine yQ ?_; refine pw_seq ?_; refine pw_region ?_
      refine yMm rfl ?_; refine yFb rfl ?_; refine yLd rfl rfl rfl ?_; refine yKo (z := dS []) rfl rfl rfl hg hm ?_; refine yMp rfl ?_; refine yX rfl rfl ?_; refine yX rfl rfl ?_; refine yAd rfl ?_; refine yAd rfl ?_; refine yQ ?_
      refine pw_seq ?_; refine pw_block ?_; refine pw_seq ?_; refine pw_region ?_; refine yFb rfl ?_; refine yLd rfl rfl rfl ?_; refine yC (k1) rfl rfl ?_; refine yU rfl rfl rfl ?_; refine yAd rfl ?_; refine yQ ?_; refine pw_cf rfl ?_
      refine pw_seq ?_; refine pw_region ?_; refine yFb rfl ?_; refine yLd rfl rfl rfl ?_; refine yC (k2) rfl rfl ?_; refine yB rfl rfl rfl rfl ?_; refine yAd rfl ?_; refine yQ ?_; refine pw_ct rfl ?_; refine pw_seq ?_
      refine pw_region ?_; refine yAd rfl ?_; refine yAd rfl ?_; refine yQ ?_; refine pw_ret ?_; refine q_blk_ret ?_; refine q_then_ret ?_; refine q_blk_ret ?_; refine q_then_ret ?_; refine q_then_ret ?_; refine q_blk_ret ?_
      refine q_then_ret ?_
      exact q_ret _ (.tmp rfl (.tmp rfl .nil)) rfl
    | true =>
      rw [hs] at k2 hri
      cases b with
      | true =>
        have hri : 5 = r := by simpa using hri
        subst hri
        rw [if_neg (by decide)]
        refine pw_seq ?_; refine pw_region ?_; refine yB rfl rfl rfl rfl ?_; refine yQ ?_; refine pw_seq ?_; rw [t1]; refine pw_ct rfl ?_; refine pw_skip ?_; refine pw_seq ?_; refine pw_block ?_; refine pw_seq ?_; refine pw_region ?_
        refine yW em (by omega) rfl rfl ?_; refine yLs (ys := [_, _]) rfl rfl rfl ?_; refine yZ (cs := [_, _]) rfl rfl ?_; refine yS (cs' := [_, _]) rfl rfl rfl rfl rfl ?_; refine yQ ?_; refine pw_seq ?_; refine pw_region ?_
        refine yMm rfl ?_; refine yFb rfl ?_; refine yLd rfl rfl rfl ?_; refine yKo (z := dS []) rfl rfl rfl hg hm ?_; refine yMp rfl ?_; refine yX rfl rfl ?_; refine yX rfl rfl ?_; refine yAd rfl ?_; refine yAd rfl ?_; refine yQ ?_
        refine pw_seq ?_; refine pw_block ?_; refine pw_seq ?_; refine pw_region ?_; refine yFb rfl ?_; refine yLd rfl rfl rfl ?_; refine yC (k1) rfl rfl ?_; refine yU rfl rfl rfl ?_; refine yAd rfl ?_; refine yQ ?_; refine pw_cf rfl ?_
        refine pw_seq ?_; refine pw_region ?_; refine yFb rfl ?_; refine yLd rfl rfl rfl ?_; refine yC (k2) rfl rfl ?_; refine yB rfl rfl rfl rfl ?_; refine yAd rfl ?_; refine yQ ?_; refine pw_cf rfl ?_; refine pw_seq ?_
        refine pw_region ?_; refine yMd rfl ?_; refine yAd rfl ?_; refine yQ ?_; refine pw_ct rfl ?_; refine pw_seq ?_; refine pw_region ?_; refine yAd rfl ?_; refine yAd rfl ?_; refine yQ ?_; refine pw_ret ?_; refine q_blk_ret ?_
        refine q_then_ret ?_; refine q_blk_ret ?_; refine q_then_ret ?_; refine q_then_ret ?_; refine q_blk_ret ?_; refine q_then_ret ?_
        exact q_ret _ (.tmp rfl (.tmp rfl .nil)) rfl
      | false =>
        have hri : amR M2 D2 = r := by simpa using hri
        have hset := hset rfl
        refine pw_seq ?_; refine pw_region ?_; refine yB rfl rfl rfl rfl ?_; refine yQ ?_; refine pw_seq ?_; rw [t1]; refine pw_ct rfl ?_; refine pw_skip ?_; refine pw_seq ?_; refine pw_block ?_; refine pw_seq ?_; refine pw_region ?_
        refine yW em (by omega) rfl rfl ?_; refine yLs (ys := [_, _]) rfl rfl rfl ?_; refine yZ (cs := [_, _]) rfl rfl ?_; refine yS (cs' := [_, _]) rfl rfl rfl rfl rfl ?_; refine yQ ?_; refine pw_seq ?_; refine pw_region ?_
        refine yMm rfl ?_; refine yFb rfl ?_; refine yLd rfl rfl rfl ?_; refine yKo (z := dS []) rfl rfl rfl hg hm ?_; refine yMp rfl ?_; refine yX rfl rfl ?_; refine yX rfl rfl ?_; refine yAd rfl ?_; refine yAd rfl ?_; refine yQ ?_
        refine pw_seq ?_; refine pw_block ?_; refine pw_seq ?_; refine pw_region ?_; refine yFb rfl ?_; refine yLd rfl rfl rfl ?_; refine yC (k1) rfl rfl ?_; refine yU rfl rfl rfl ?_; refine yAd rfl ?_; refine yQ ?_; refine pw_cf rfl ?_
        refine pw_seq ?_; refine pw_region ?_; refine yFb rfl ?_; refine yLd rfl rfl rfl ?_; refine yC (k2) rfl rfl ?_; refine yB rfl rfl rfl rfl ?_; refine yAd rfl ?_; refine yQ ?_; refine pw_cf rfl ?_; refine pw_seq ?_
        refine pw_region ?_; refine yMd rfl ?_; refine yAd rfl ?_; refine yQ ?_; refine pw_cf rfl ?_; refine pw_skip ?_; refine pw_region ?_; refine yMm rfl ?_; refine yFb rfl ?_; refine yLd rfl rfl rfl ?_; refine yFb rfl ?_
        refine yLd rfl rfl rfl ?_; refine yKu (z := dS []) rfl rfl rfl rfl hset ?_; refine yQ ?_; refine pw_region ?_; refine yB rfl rfl rfl rfl ?_; refine yMd rfl ?_; refine yQ ?_; refine q_then ?_
        exact ⟨i + 1, ⟨by omega, by rw [← hM2, ← hD2]; exact hri⟩, by omega, rfl, ⟨.refl _, .refl _, .refl _, .of_eq (congrArg (fun n => SV.d (dI n)) hw), trivial⟩, ⟨⟨_, rfl, lesC_eq (by rw [← hM2])⟩, trivial⟩, trivial, rfl⟩

/-- the amount of a name -/
def aL (L : List Cf) (k : Str) : Int := val (getS k L)
def inL (L : List Cf) (k : Str) : Bool := L.any fun p => p.1 == k
def evOK (n L : List Cf) : Bool := n.all fun c => inL L c.1
/-- what Eval returns -/
def evE (e L : List Cf) : Int := if chE e ≠ 0 then chE e else if amE L ≠ 0 then amE L else if evOK (nf e) L then 0 else 6
def evV (e L : List Cf) : Str := if evE e L = 0 then canon (evA (aL L) (nf e)) else []
theorem nf_flen {e : List Cf} {B : Nat} (h : ∀ c ∈ e, c.2.length ≤ B) {p : Cf} (hp : p ∈ nf e) : p.2.length ≤ B + 2 * e.length := by
  rw [((nf_mem e p).1 hp).2, ← sumM_get]
  exact sumM_len h _ _
theorem getS_len {L : List Cf} {B : Nat} (h : ∀ c ∈ L, c.2.length ≤ B) (k : Str) : (getS k L).length ≤ B := by
  induction L with
  | nil => simp [getS]
  | cons p L ih =>
    show (if p.1 = k then p.2 else getS k L).length ≤ B
    split
    · exact h p (by simp)
    · exact ih fun c hc => h c (by simp [hc])
theorem evA_len {n L : List Cf} {B C : Nat} (hn : ∀ c ∈ n, c.2.length ≤ B) (hL : ∀ c ∈ L, c.2.length ≤ C) (i : Nat) : (canon (evA (aL L) (n.take i))).length ≤ B + C + 1 + 2 * i := by
  induction i with
  | zero => simp [evA, canon_zero]
  | succ i ih =>
    rw [List.take_add_one]
    cases h : n[i]? with
    | none => simp only [Option.toList, List.append_nil]; omega
    | some c =>
      have h1 := mul_len (hn c (List.mem_of_getElem? h)) (getS_len hL c.1)
      have h2 := addI_len (k := B + C + 1 + 2 * i) ih (b := canon (val c.2 * val (getS c.1 L))) (by omega)
      rw [addI, val_canon, val_canon] at h2
      simp only [Option.toList, evA_append, evA, aL, Int.add_zero] at h2 ⊢
      omega
set_option maxRecDepth 20000 in
set_option maxHeartbeats 2000000 in
theorem wEval (e L : List Cf) (hl : e.length ≤ 1000000) (hf : ∀ c ∈ e, c.2.length ≤ 400) (hLl : L.length ≤ 1000000) (hL : ∀ c ∈ L, c.2.length ≤ 400) : PCalls Tryz.prog 14 [.sl 2 (e.map dCf), .sl 2 (L.map dCf)] (.tup [dS (evV e L), dI (evE e L)]) := by
  have k1 := wNormalE e hl fun c hc => by have := hf c hc; omega
  have k2 := wAmounts L hLl fun c hc => by have := hL c hc; omega
  by_cases h1 : chE e = 0
  rotate_left
  · have t1 : (chE e != 0) = true := by simpa using h1
    have e1 : evE e L = chE e := by rw [evE, if_pos h1]
    rw [evV, e1, if_neg h1]
    obtain ⟨x, hx⟩ : ∃ x, x = chE e := ⟨_, rfl⟩
    rw [← hx] at k1 t1 ⊢
    obtain ⟨l, hl⟩ : ∃ l, l = (nmE e).map dCf := ⟨_, rfl⟩
    rw [← hl] at k1
    refine pcalls_of_pw Tryz.func14 rfl Tryz.ntmps14 Tryz.results14 (by simp) fun B w0 => ?_
    refine pw_seq ?_; refine pw_region ?_; refine yAd rfl ?_; refine yAd rfl ?_; refine yQ ?_; refine pw_seq ?_; refine pw_region ?_; refine yMd rfl ?_; refine yC (k1) rfl rfl ?_; refine yMp rfl ?_; refine yX rfl rfl ?_
    refine yX rfl rfl ?_; refine yAd rfl ?_; refine yAd rfl ?_; refine yQ ?_; refine pw_seq ?_; refine pw_seq ?_; refine pw_region ?_; refine yMd rfl ?_; refine yB rfl rfl rfl rfl ?_; refine yQ ?_; refine q_then ?_; rw [t1]
    refine pw_ct rfl ?_; refine pw_seq ?_; refine pw_region ?_; refine yMd rfl ?_; refine yAd rfl ?_; refine yAd rfl ?_; refine yQ ?_; refine pw_ret ?_; refine q_then_ret ?_
    exact q_ret _ (.tmp rfl (.tmp rfl .nil)) rfl
  obtain ⟨a1, a2⟩ := chE_zero.1 h1
  rw [nmE, if_pos h1, h1] at k1
  by_cases h2 : amE L = 0
  rotate_left
  · have t1 : (amE L != 0) = true := by simpa using h2
    have e1 : evE e L = amE L := by rw [evE, if_neg (fun h => h h1), if_pos h2]
    rw [evV, e1, if_neg h2]
    rw [amD, if_neg h2] at k2
    obtain ⟨x, hx⟩ : ∃ x, x = amE L := ⟨_, rfl⟩
    rw [← hx] at k2 t1 ⊢
    obtain ⟨l, hl⟩ : ∃ l, l = (nf e).map dCf := ⟨_, rfl⟩
    rw [← hl] at k1
    refine pcalls_of_pw Tryz.func14 rfl Tryz.ntmps14 Tryz.results14 (by simp) fun B w0 => ?_
    refine pw_seq ?_; refine pw_region ?_; refine yAd rfl ?_; refine yAd rfl ?_; refine yQ ?_; refine pw_seq ?_; refine pw_region ?_; refine yMd rfl ?_; refine yC (k1) rfl rfl ?_; refine yMp rfl ?_; refine yX rfl rfl ?_
    refine yX rfl rfl ?_; refine yAd rfl ?_; refine yAd rfl ?_; refine yQ ?_; refine pw_seq ?_; refine pw_seq ?_; refine pw_region ?_; refine yMd rfl ?_; refine yB rfl rfl rfl rfl ?_; refine yQ ?_; refine pw_cf rfl ?_; refine pw_skip ?_
    refine pw_seq ?_; refine pw_region ?_; refine yMd rfl ?_; refine yC (k2) rfl rfl ?_; refine yMp rfl ?_; refine yX rfl rfl ?_; refine yX rfl rfl ?_; refine yAd rfl ?_; refine yAd rfl ?_; refine yQ ?_; refine pw_seq ?_
    refine pw_seq ?_; refine pw_region ?_; refine yMd rfl ?_; refine yB rfl rfl rfl rfl ?_; refine yQ ?_; refine q_then ?_; rw [t1]; refine pw_ct rfl ?_; refine pw_seq ?_; refine pw_region ?_; refine yMd rfl ?_; refine yAd rfl ?_
    refine yAd rfl ?_; refine yQ ?_; refine pw_ret ?_; refine q_then_ret ?_
    exact q_ret _ (.tmp rfl (.tmp rfl .nil)) rfl
  rw [amD, if_pos h2, h2] at k2
  have e1 : evE e L = if evOK (nf e) L then 0 else 6 := by rw [evE, if_neg (fun h => h h1), if_neg (fun h => h h2)]
  have hnl := nf_len e
  have hnf := fun p hp => nf_flen hf (p := p) hp
  have hvl := fun i => evA_len (n := nf e) (B := 400 + 2 * e.length) hnf hL i
  rw [evV, e1]
  obtain ⟨n, hn⟩ : ∃ n, n = nf e := ⟨_, rfl⟩
  rw [← hn] at k1 hnl hnf hvl ⊢
  clear hn e1 h1 h2
  refine pcalls_of_pw Tryz.func14 rfl Tryz.ntmps14 Tryz.results14 (by simp) fun B w0 => ?_
  refine pw_seq ?_; refine pw_region ?_; refine yAd rfl ?_; refine yAd rfl ?_; refine yQ ?_; refine pw_seq ?_; refine pw_region ?_; refine yMd rfl ?_; refine yC (k1) rfl rfl ?_; refine yMp rfl ?_; refine yX rfl rfl ?_
  refine yX rfl rfl ?_; refine yAd rfl ?_; refine yAd rfl ?_; refine yQ ?_; refine pw_seq ?_; refine pw_seq ?_; refine pw_region ?_; refine yMd rfl ?_; refine yB rfl rfl rfl rfl ?_; refine yQ ?_; refine pw_cf rfl ?_; refine pw_skip ?_
  refine pw_seq ?_; refine pw_region ?_; refine yMd rfl ?_; refine yC (k2) rfl rfl ?_; refine yMp rfl ?_; refine yX rfl rfl ?_; refine yX rfl rfl ?_; refine yAd rfl ?_; refine yAd rfl ?_; refine yQ ?_; refine pw_seq ?_
  refine pw_seq ?_; refine pw_region ?_; refine yMd rfl ?_; refine yB rfl rfl rfl rfl ?_; refine yQ ?_; refine pw_cf rfl ?_; refine pw_skip ?_; refine pw_seq ?_; refine pw_region ?_; refine yAd rfl ?_; refine yQ ?_; refine pw_seq ?_
  refine pw_seq ?_; refine pw_region ?_; refine yMd rfl ?_; refine yN rfl ?_; refine yMd rfl ?_; refine yQ ?_; refine pw_block ?_
  refine pw_loop (fun i : Nat => ⟨53, [(8, .d (.mp (kmap (mapD L)))), (9, .d (dS (canon (evA (aL L) (n.take i))))), (30, .d (.sl 2 (n.map dCf))), (31, .d (dI n.length)), (32, .d (dI i))], [], []⟩) (fun i => i ≤ n.length ∧ ∀ c ∈ n.take i, inL L c.1 = true) (fun i => n.length - i) 0 ⟨Nat.zero_le _, fun c hc => by simp at hc⟩
    ⟨rfl, ⟨.refl _, .of_eq (by rw [List.take_zero]; simp [evA, canon_zero]; rfl), .refl _, .of_eq (congrArg (fun n : Nat => SV.d (dI n)) (by simp)), .refl _, trivial⟩, trivial, trivial, rfl⟩ ?_
  rintro i ⟨hi, hok⟩
  rcases Nat.lt_or_ge i n.length with h | h
  rotate_left
  · have t1 : decide ((i : Int) < (n.length : Int)) = false := decide_eq_false (by omega)
    obtain rfl : i = n.length := by omega
    rw [List.take_length] at hok ⊢
    have e2 : evOK n L = true := List.all_eq_true.2 hok
    rw [e2, if_pos rfl, if_pos rfl]
    obtain ⟨r, hr⟩ : ∃ r, r = canon (evA (aL L) n) := ⟨_, rfl⟩
    rw [← hr]
    refine pw_seq ?_; refine pw_region ?_; refine yB rfl rfl rfl rfl ?_; refine yQ ?_; refine pw_seq ?_; rw [t1]; refine pw_cf rfl ?_; refine pw_exit ?_; refine pw_seq ?_; refine pw_region ?_; refine yMd rfl ?_; refine yAd rfl ?_
    refine yAd rfl ?_; refine yQ ?_; refine pw_ret ?_
    exact q_ret _ (.tmp rfl (.tmp rfl .nil)) rfl
  have t1 : decide ((i : Int) < (n.length : Int)) = true := decide_eq_true (by omega)
  obtain ⟨⟨c0, c1⟩, hc⟩ : ∃ a, n[i]? = some a := ⟨_, List.getElem?_eq_getElem h⟩
  have em := ix dCf n i i (c0, c1) rfl hc
  have hw := wrapI ((i : Int) + 1) (by omega)
  have hq := hnf _ (List.mem_of_getElem? hc)
  simp only at hq
  have hg := mget_D c0 L
  have hm := mhas_D c0 L
  have hvi := hvl i
  have hgl := getS_len hL c0
  cases hin : inL L c0 with
  | false =>
    have hm : mhas c0 (mapD L) = false := hm.trans hin
    have e2 : evOK n L = false := by
      rw [evOK, List.all_eq_false]
      exact ⟨(c0, c1), List.mem_of_getElem? hc, by simp [hin]⟩
    rw [e2, if_neg (by decide)]
    obtain ⟨v, hv⟩ : ∃ v, v = getS c0 L := ⟨_, rfl⟩
    rw [← hv] at hg
    obtain ⟨s, hs⟩ : ∃ s, s = canon (evA (aL L) (n.take i)) := ⟨_, rfl⟩
    rw [← hs]
    refine pw_seq ?_; refine pw_region ?_; refine yB rfl rfl rfl rfl ?_; refine yQ ?_; refine pw_seq ?_; rw [t1]; refine pw_ct rfl ?_; refine pw_skip ?_; refine pw_seq ?_; refine pw_block ?_; refine pw_seq ?_; refine pw_region ?_
    refine yW em (by omega) rfl rfl ?_; refine yLs (ys := [_, _]) rfl rfl rfl ?_; refine yZ (cs := [_, _]) rfl rfl ?_; refine yS (cs' := [_, _]) rfl rfl rfl rfl rfl ?_; refine yQ ?_; refine pw_seq ?_; refine pw_region ?_
    refine yMd rfl ?_; refine yFb rfl ?_; refine yLd rfl rfl rfl ?_; refine yKd (z := dS []) rfl rfl hg hm ?_; refine yMp rfl ?_; refine yX rfl rfl ?_; refine yX rfl rfl ?_; refine yAd rfl ?_; refine yAd rfl ?_; refine yQ ?_
    refine pw_seq ?_; refine pw_seq ?_; refine pw_region ?_; refine yMd rfl ?_; refine yU rfl rfl rfl ?_; refine yQ ?_; refine pw_ct rfl ?_; refine pw_seq ?_; refine pw_region ?_; refine yAd rfl ?_; refine yAd rfl ?_; refine yQ ?_
    refine pw_ret ?_; refine q_then_ret ?_; refine q_blk_ret ?_; refine q_then_ret ?_; refine q_then_ret ?_; refine q_blk_ret ?_; refine q_then_ret ?_
    exact q_ret _ (.tmp rfl (.tmp rfl .nil)) rfl
  | true =>
    have hm : mhas c0 (mapD L) = true := hm.trans hin
    have k3 := wMulT c1 (getS c0 L) (by omega) (by omega)
    have hml := mul_len (k := 400 + 2 * e.length) (m := 400) hq hgl
    have k4 := wAddT (canon (evA (aL L) (n.take i))) (canon (val c1 * val (getS c0 L))) (by omega) (by omega)
    rw [val_canon, val_canon] at k4
    have hnx : evA (aL L) (n.take (i + 1)) = evA (aL L) (n.take i) + val c1 * val (getS c0 L) := by
      rw [List.take_add_one, hc, Option.toList, evA_append]
      simp only [evA, aL, Int.add_zero]
    rw [← hnx] at k4
    have hok2 := take_okC (p := fun c => inL L c.1 = true) hc hok hin
    obtain ⟨v, hv⟩ : ∃ v, v = getS c0 L := ⟨_, rfl⟩
    rw [← hv] at hg k3 k4
    obtain ⟨m, hm2⟩ : ∃ m, m = canon (val c1 * val v) := ⟨_, rfl⟩
    rw [← hm2] at k3 k4
    obtain ⟨s, hs⟩ : ∃ s, s = canon (evA (aL L) (n.take i)) := ⟨_, rfl⟩
    rw [← hs] at k4 ⊢
    obtain ⟨s2, hs2⟩ : ∃ s, s = canon (evA (aL L) (n.take (i + 1))) := ⟨_, rfl⟩
    rw [← hs2] at k4
    clear hs hm2 hv hnx hvi hml hgl
    refine pw_seq ?_; refine pw_region ?_; refine yB rfl rfl rfl rfl ?_; refine yQ ?_; refine pw_seq ?_; rw [t1]; refine pw_ct rfl ?_; refine pw_skip ?_; refine pw_seq ?_; refine pw_block ?_; refine pw_seq ?_; refine pw_region ?_
    refine yW em (by omega) rfl rfl ?_; refine yLs (ys := [_, _]) rfl rfl rfl ?_; refine yZ (cs := [_, _]) rfl rfl ?_; refine yS (cs' := [_, _]) rfl rfl rfl rfl rfl ?_; refine yQ ?_; refine pw_seq ?_; refine pw_region ?_
    refine yMd rfl ?_; refine yFb rfl ?_; refine yLd rfl rfl rfl ?_; refine yKd (z := dS []) rfl rfl hg hm ?_; refine yMp rfl ?_; refine yX rfl rfl ?_; refine yX rfl rfl ?_; refine yAd rfl ?_; refine yAd rfl ?_; refine yQ ?_
    refine pw_seq ?_; refine pw_seq ?_; refine pw_region ?_; refine yMd rfl ?_; refine yU rfl rfl rfl ?_; refine yQ ?_; refine pw_cf rfl ?_; refine pw_skip ?_; refine pw_region ?_; refine yMd rfl ?_; refine yFb rfl ?_
    refine yLd rfl rfl rfl ?_; refine yMd rfl ?_; refine yC (k3) rfl rfl ?_; refine yC (k4) rfl rfl ?_; refine yAd rfl ?_; refine yQ ?_; refine pw_region ?_; refine yB rfl rfl rfl rfl ?_; refine yMd rfl ?_; refine yQ ?_
    refine q_then ?_
    exact ⟨i + 1, ⟨by omega, hok2⟩, by omega, rfl, ⟨.refl _, .of_eq (by rw [← hs2]; rfl), .refl _, .refl _, .of_eq (congrArg (fun n => SV.d (dI n)) hw), trivial⟩, trivial, trivial, rfl⟩
end Go.Proofs.YtmfeinilbjfnpaaGreatDoor
namespace Go.Proofs.YtmfeinilbjfnpaaGreatDoor
open Go.RowKit Px

abbrev vT : Nat := 5 * 100000 + 6
abbrev vT2 : Nat := 5 * 100000 + 10006
set_option maxRecDepth 20000 in
set_option maxHeartbeats 1000000 in
theorem wCcFs (l : List UInt8) : PCx Tryz.prog 82 [.tx 10006 bT 2] [(10006, [.d (.val (.pointer none)), .ts vT2 1 (l.map dY)])] [(vT2, (l.map dY).length)] (.tup []) [(10006, [.tx 10006 bT 2, .ts vT2 1 (l.map dY)])] [(vT2, (l.map dY).length)] := by
  obtain ⟨j, hj, hj0⟩ := hU139
  refine pcx_of_pw Tryz.func82 rfl Tryz.ntmps82 Tryz.results82 (by simp) fun B w0 => ?_
  refine pw_seq ?_; refine pw_region ?_; refine yQm rfl ?_; refine yQN rfl ?_; refine yFb rfl ?_; refine yLd rfl rfl rfl ?_; refine yQz Tryz.underlying73 rfl ?_; refine yQ ?_; refine pw_ct rfl ?_; refine pw_region ?_
  refine yQm rfl ?_; refine yQm rfl ?_; refine yQu Tryz.underlying73 Tryz.underlying138 hj hj0 (by decide) rfl ?_; refine yQn hNoEsc rfl ?_; refine yQc Tryz.underlying138 Tryz.underlying73 hj hLies rfl ?_; refine yQN rfl ?_
  refine yFb rfl ?_; refine yQs (cs' := [_, _]) rfl rfl rfl rfl ?_; refine yQ ?_
  exact q_xe [] .nil rfl ⟨rfl, trivial⟩ ⟨rfl, trivial⟩
set_option maxRecDepth 20000 in
set_option maxHeartbeats 1000000 in
theorem wCcUs (l : List UInt8) : PCx Tryz.prog 82 [.tx 10006 bT 2] [(10006, [.tx 10006 bT 2, .ts vT2 1 (l.map dY)])] [(vT2, (l.map dY).length)] (.tup []) [(10006, [.tx 10006 bT 2, .ts vT2 1 (l.map dY)])] [(vT2, (l.map dY).length)] := by
  obtain ⟨j, hj, hj0⟩ := hU139
  refine pcx_of_pw Tryz.func82 rfl Tryz.ntmps82 Tryz.results82 (by simp) fun B w0 => ?_
  refine pw_seq ?_; refine pw_region ?_; refine yQm rfl ?_; refine yQN rfl ?_; refine yFb rfl ?_; refine yQl rfl rfl rfl ?_; refine yQe Tryz.underlying73 rfl ?_; refine yQ ?_; refine pw_cf rfl ?_; refine pw_seq ?_; refine pw_region ?_
  refine yQm rfl ?_; refine yQN rfl ?_; refine yFb rfl ?_; refine yQl rfl rfl rfl ?_; refine yQm rfl ?_; refine yQq Tryz.underlying73 hj rfl rfl ?_; refine yQ ?_; refine pw_cf rfl ?_; refine pw_skip ?_
  exact q_xe [] .nil rfl ⟨rfl, trivial⟩ ⟨rfl, trivial⟩
set_option maxRecDepth 20000 in
set_option maxHeartbeats 1000000 in
theorem wWsFs (l s : List UInt8) (hl : l.length ≤ 100000000) (hs : s.length ≤ 100000000) (h0 : 0 < s.length) : PCx Tryz.prog 50 [.tx 6 bT 2, .d (dS s)] [(6, [.d (.val (.pointer none)), .ts vT 1 (l.map dY)])] [(vT, (l.map dY).length)] (.tup [dI s.length, .val .nilIface]) [(6, [.tx 6 bT 2, .ts vT 1 ((l ++ s).map dY)])] [(vT, ((l ++ s).map dY).length)] := by
  refine pcx_of_pw Tryz.func50 rfl Tryz.ntmps50 Tryz.results50 (by simp) fun B w0 => ?_
  refine pw_seq ?_; refine pw_region ?_; refine yAd rfl ?_; refine yAd rfl ?_; refine yQ ?_; refine pw_seq ?_; refine pw_region ?_; refine yQm rfl ?_; refine yCx (wCcFs l) rfl ⟨rfl, trivial⟩ ⟨rfl, trivial⟩ ?_ (hfit := by kernel_rfl)
  refine yQ ?_; refine pw_seq ?_; refine pw_region ?_; refine yQm rfl ?_; refine yQm rfl ?_; refine yQN rfl ?_; refine yFb rfl ?_; refine yLt rfl rfl rfl ?_; refine yMd rfl ?_
  refine yTs (es2 := s.map dY) (es' := (l ++ s).map dY) (m := ((l ++ s).map dY).length) (by kernel_rfl) Tryz.underlying9 h0 rfl (by simp; omega) rfl rfl rfl rfl rfl (by simp) (by simp) ?_; refine yQN rfl ?_; refine yFb rfl ?_
  refine ySt (cs' := [_, _]) rfl rfl rfl rfl ?_; refine yQ ?_; refine pw_seq ?_; refine pw_region ?_; refine yMd rfl ?_; refine yNs rfl ?_; refine yAd rfl ?_; refine yAd rfl ?_; refine yQ ?_; refine pw_ret ?_
  exact q_x _ (.tmp rfl (.tmp rfl .nil)) rfl ⟨rfl, trivial⟩ ⟨rfl, trivial⟩
set_option maxRecDepth 20000 in
set_option maxHeartbeats 1000000 in
theorem wWsUs (l s : List UInt8) (hl : l.length ≤ 100000000) (hs : s.length ≤ 100000000) (h0 : 0 < s.length) : PCx Tryz.prog 50 [.tx 6 bT 2, .d (dS s)] [(6, [.tx 6 bT 2, .ts vT 1 (l.map dY)])] [(vT, (l.map dY).length)] (.tup [dI s.length, .val .nilIface]) [(6, [.tx 6 bT 2, .ts vT 1 ((l ++ s).map dY)])] [(vT, ((l ++ s).map dY).length)] := by
  refine pcx_of_pw Tryz.func50 rfl Tryz.ntmps50 Tryz.results50 (by simp) fun B w0 => ?_
  refine pw_seq ?_; refine pw_region ?_; refine yAd rfl ?_; refine yAd rfl ?_; refine yQ ?_; refine pw_seq ?_; refine pw_region ?_; refine yQm rfl ?_; refine yCx (wCcUs l) rfl ⟨rfl, trivial⟩ ⟨rfl, trivial⟩ ?_ (hfit := by kernel_rfl)
  refine yQ ?_; refine pw_seq ?_; refine pw_region ?_; refine yQm rfl ?_; refine yQm rfl ?_; refine yQN rfl ?_; refine yFb rfl ?_; refine yLt rfl rfl rfl ?_; refine yMd rfl ?_
  refine yTs (es2 := s.map dY) (es' := (l ++ s).map dY) (m := ((l ++ s).map dY).length) (by kernel_rfl) Tryz.underlying9 h0 rfl (by simp; omega) rfl rfl rfl rfl rfl (by simp) (by simp) ?_; refine yQN rfl ?_; refine yFb rfl ?_
  refine ySt (cs' := [_, _]) rfl rfl rfl rfl ?_; refine yQ ?_; refine pw_seq ?_; refine pw_region ?_; refine yMd rfl ?_; refine yNs rfl ?_; refine yAd rfl ?_; refine yAd rfl ?_; refine yQ ?_; refine pw_ret ?_
  exact q_x _ (.tmp rfl (.tmp rfl .nil)) rfl ⟨rfl, trivial⟩ ⟨rfl, trivial⟩
end Go.Proofs.YtmfeinilbjfnpaaGreatDoor
namespace Go.Proofs.YtmfeinilbjfnpaaGreatDoor
open Go.RowKit Px

/-- the sign of a text of a number -/
def sgnT (a : Str) : Int := if val a < 0 then -1 else if 0 < val a then 1 else 0
theorem dgs_empty : dgs [] = ([], false) := by decide
set_option maxRecDepth 20000 in
set_option maxHeartbeats 1000000 in
theorem wCmp0 (a : Str) (ha : a.length ≤ 100000) : PCalls Tryz.prog 49 [dS a, dS []] (.d (dI (sgnT a))) := by
  have c1 := wRead a (by omega)
  have c2 := wRead [] (by simp)
  rw [dgs_empty, rdG_nil] at c2
  have h1 := Nat.le_trans (rdG_size (dgs a).1) (dgs_len a)
  have c3 := wCompare (rdG (dgs a).1) [] (by omega) (by simp)
  have hneg := neg_dgs a
  have hv := val_sg a
  have hr : cmpG (rdG (dgs a).1) [] = ((rdG (dgs a).1).length : Int) := by
    unfold cmpG
    by_cases h : (rdG (dgs a).1).length = 0
    · rw [List.eq_nil_of_length_eq_zero h]; rfl
    · rw [if_pos (by simpa using h)]; simp
  rw [hr] at c3
  have hz : (rdG (dgs a).1).length = 0 ↔ natOf (dgs a).1 = 0 := by
    rw [rdG_dgs]
    constructor
    · intro h; exact grp_nil.1 (List.eq_nil_of_length_eq_zero h)
    · intro h; rw [h, grp_zero]; rfl
  have hz2 : natOf (dgs a).1 = (val a).natAbs := natOf_dgs a
  obtain ⟨l, hl⟩ : ∃ l, l = rdG (dgs a).1 := ⟨_, rfl⟩
  obtain ⟨b, hb⟩ : ∃ b, b = (dgs a).2 := ⟨_, rfl⟩
  rw [← hl, ← hb] at c1
  rw [← hl] at c3 hz h1
  rw [← hb] at hneg
  clear hr hv hl hb
  obtain ⟨r, hr⟩ : ∃ r, r = sgnT a := ⟨_, rfl⟩
  rw [← hr]
  unfold sgnT at hr
  cases b with
  | true =>
    have h0 : val a < 0 := by simpa using hneg.symm
    rw [if_pos h0] at hr
    subst hr
    refine pcalls_of_pw Tryz.func49 rfl Tryz.ntmps49 Tryz.results49 (by simp) fun B w0 => ?_
    refine pw_seq ?_; refine pw_region ?_; refine yAd rfl ?_; refine yQ ?_; refine pw_seq ?_; refine pw_region ?_; refine yMd rfl ?_; refine yC (c1) rfl rfl ?_; refine yMd rfl ?_; refine yC (c2) rfl rfl ?_
    refine yZ (cs := [_, _]) rfl rfl ?_; refine yZ (cs := [_, _]) rfl rfl ?_; refine yS (cs' := [_, _]) rfl rfl rfl rfl rfl ?_; refine yS (cs' := [_, _]) rfl rfl rfl rfl rfl ?_; refine yQ ?_; refine pw_seq ?_; refine pw_region ?_
    refine yFb rfl ?_; refine yLd rfl rfl rfl ?_; refine yFb rfl ?_; refine yLd rfl rfl rfl ?_; refine yC (c3) rfl rfl ?_; refine yAd rfl ?_; refine yQ ?_; refine pw_seq ?_; refine pw_block ?_; refine pw_seq ?_; refine pw_region ?_
    refine yFb rfl ?_; refine yLd rfl rfl rfl ?_; refine yFb rfl ?_; refine yLd rfl rfl rfl ?_; refine yBbn Tryz.underlying4 rfl rfl rfl ?_; refine yAd rfl ?_; refine yQ ?_; refine pw_ct rfl ?_; refine pw_seq ?_; refine pw_region ?_
    refine yAd rfl ?_; refine yQ ?_; refine pw_seq ?_; refine pw_region ?_; refine yFb rfl ?_; refine yLd rfl rfl rfl ?_; refine yQ ?_; refine pw_ct rfl ?_; refine pw_region ?_; refine yAd rfl ?_; refine yQ ?_; refine pw_seq ?_
    refine pw_region ?_; refine yMd rfl ?_; refine yI rfl rfl rfl ?_; refine yI rfl rfl rfl ?_; refine yAd rfl ?_; refine yQ ?_; refine pw_ret ?_
    exact q_ret _ (.tmp rfl .nil) rfl
  | false =>
    have h0 : ¬ val a < 0 := by simpa using hneg.symm
    rw [if_neg h0] at hr
    obtain ⟨n, hn⟩ : ∃ n, n = l.length := ⟨_, rfl⟩
    rw [← hn] at c3 hz
    have hr : r = if 0 < n then 1 else 0 := by
      rw [hr]
      by_cases h2 : 0 < n
      · rw [if_pos h2, if_pos (by omega)]
      · rw [if_neg h2, if_neg (by omega)]
    clear hn
    refine pcalls_of_pw Tryz.func49 rfl Tryz.ntmps49 Tryz.results49 (by simp) fun B w0 => ?_
    refine pw_seq ?_; refine pw_region ?_; refine yAd rfl ?_; refine yQ ?_; refine pw_seq ?_; refine pw_region ?_; refine yMd rfl ?_; refine yC (c1) rfl rfl ?_; refine yMd rfl ?_; refine yC (c2) rfl rfl ?_
    refine yZ (cs := [_, _]) rfl rfl ?_; refine yZ (cs := [_, _]) rfl rfl ?_; refine yS (cs' := [_, _]) rfl rfl rfl rfl rfl ?_; refine yS (cs' := [_, _]) rfl rfl rfl rfl rfl ?_; refine yQ ?_; refine pw_seq ?_; refine pw_region ?_
    refine yFb rfl ?_; refine yLd rfl rfl rfl ?_; refine yFb rfl ?_; refine yLd rfl rfl rfl ?_; refine yC (c3) rfl rfl ?_; refine yAd rfl ?_; refine yQ ?_; refine pw_seq ?_; refine pw_block ?_; refine pw_seq ?_; refine pw_region ?_
    refine yFb rfl ?_; refine yLd rfl rfl rfl ?_; refine yFb rfl ?_; refine yLd rfl rfl rfl ?_; refine yBbn Tryz.underlying4 rfl rfl rfl ?_; refine yAd rfl ?_; refine yQ ?_; refine pw_cf rfl ?_; refine pw_seq ?_; refine pw_region ?_
    refine yFb rfl ?_; refine yLd rfl rfl rfl ?_; refine yAd rfl ?_; refine yQ ?_; refine pw_cf rfl ?_; refine pw_skip ?_; refine pw_seq ?_; refine pw_region ?_; refine yMd rfl ?_; refine yI rfl rfl rfl ?_; refine yI rfl rfl rfl ?_
    refine yAd rfl ?_; refine yQ ?_; refine pw_ret ?_
    refine q_ret _ (.tmp rfl .nil) (congrArg (fun n => SV.d (dI n)) ?_)
    rw [hr]
    by_cases h2 : 0 < n
    · simp [h2]; repeat' (first | omega | split)
    · have : n = 0 := by omega
      subst this
      rfl

def sepS (j : Nat) (b : Bool) : Str := if j = 0 then (if b then [45] else []) else (if b then [32, 45, 32] else [32, 43, 32])
def absS (f : Str) : Str := if val f < 0 then canon (- val f) else f
def facS (f : Str) : Str := if f = [49] then [] else prT f ++ [42]
def prS (j : Nat) (c : Cf) : Str := sepS j (decide (val c.2 < 0)) ++ (facS (absS c.2) ++ c.1)
/-- the text of the first terms -/
def prI (n : List Cf) : Nat → Str
  | 0 => []
  | i + 1 => match n[i]? with
    | none => prI n i
    | some c => prI n i ++ prS i c
theorem absS_len {f : Str} {B : Nat} (h : f.length ≤ B) : (absS f).length ≤ B + 1 := by
  unfold absS
  split
  · exact canon_le (by rw [Int.natAbs_neg]; exact val_lt h)
  · omega
theorem prT_len (f : Str) : (prT f).length ≤ f.length + 1 := by
  unfold prT
  split
  · simp
  · have := canon_len f; omega
theorem prT_pos (f : Str) : 0 < (prT f).length := by
  unfold prT
  split
  · simp
  · rename_i h; exact List.length_pos_iff.2 h
theorem prS_len (j : Nat) {c : Cf} (h : c.2.length ≤ 2000) (h1 : c.1.length ≤ 16) : (prS j c).length ≤ 3000 := by
  have h2 := absS_len h
  have h3 := prT_len (absS c.2)
  have h4 : (sepS j (decide (val c.2 < 0))).length ≤ 3 := by
    unfold sepS
    split <;> split <;> simp
  have h5 : (facS (absS c.2)).length ≤ 2010 := by
    unfold facS
    split
    · simp
    · rw [List.length_append]; simp; omega
  unfold prS
  rw [List.length_append, List.length_append]
  omega
theorem prI_len {n : List Cf} (h : ∀ c ∈ n, c.2.length ≤ 2000 ∧ c.1.length ≤ 16) (i : Nat) : (prI n i).length ≤ 3000 * i := by
  induction i with
  | zero => simp [prI]
  | succ i ih =>
    rw [prI]
    split
    · omega
    · rename_i c hc
      have := prS_len i (h c (List.mem_of_getElem? hc)).1 (h c (List.mem_of_getElem? hc)).2
      rw [List.length_append]
      omega
/-- what Print returns -/
def prV (e : List Cf) : Str := if chE e = 0 then (if nf e = [] then [48] else prI (nf e) (nf e).length) else []
abbrev bA : Nat → SV
  | 0 => .d (.val (.pointer none))
  | _ + 1 => .tx 6 bT 2
set_option maxRecDepth 20000 in
set_option maxHeartbeats 8000000 in
theorem wPrintE (e : List Cf) (hl : e.length ≤ 1000000) (hf : ∀ c ∈ e, c.2.length ≤ 400) : PCalls Tryz.prog 19 [.sl 2 (e.map dCf)] (.tup [dS (prV e), dI (chE e)]) := by
  have k1 := wNormalE e hl fun c hc => by have := hf c hc; omega
  by_cases h1 : chE e = 0
  rotate_left
  · have t1 : (chE e != 0) = true := by simpa using h1
    rw [prV, if_neg h1]
    obtain ⟨x, hx⟩ : ∃ x, x = chE e := ⟨_, rfl⟩
    rw [← hx] at k1 t1 ⊢
    obtain ⟨l, hl⟩ : ∃ l, l = (nmE e).map dCf := ⟨_, rfl⟩
    rw [← hl] at k1
    refine pcalls_of_pw Tryz.func19 rfl Tryz.ntmps19 Tryz.results19 (by simp) fun B w0 => ?_
    refine pw_seq ?_; refine pw_region ?_; refine yAd rfl ?_; refine yAd rfl ?_; refine yQ ?_; refine pw_seq ?_; refine pw_region ?_; refine yMd rfl ?_; refine yC (k1) rfl rfl ?_; refine yMp rfl ?_; refine yX rfl rfl ?_
    refine yX rfl rfl ?_; refine yAd rfl ?_; refine yAd rfl ?_; refine yQ ?_; refine pw_seq ?_; refine pw_seq ?_; refine pw_region ?_; refine yMd rfl ?_; refine yB rfl rfl rfl rfl ?_; refine yQ ?_; refine q_then ?_; rw [t1]
    refine pw_ct rfl ?_; refine pw_seq ?_; refine pw_region ?_; refine yMd rfl ?_; refine yAd rfl ?_; refine yAd rfl ?_; refine yQ ?_; refine pw_ret ?_; refine q_then_ret ?_
    exact q_ret _ (.tmp rfl (.tmp rfl .nil)) rfl
  obtain ⟨a1, a2⟩ := chE_zero.1 h1
  rw [nmE, if_pos h1, h1] at k1
  rw [prV, if_pos h1, h1]
  have hnl := nf_len e
  have hnf : ∀ c ∈ nf e, c.2.length ≤ 500 ∧ c.1.length ≤ 16 ∧ 0 < c.1.length := fun p hp => by
    have q1 := nf_flen hf (p := p) hp
    obtain ⟨c, hc, q2⟩ := nf_name hp
    have q3 := nmB_len (a2 c hc).1
    have q4 : 0 < c.1.length := by
      have := (a2 c hc).1
      unfold nmB at this
      cases h : c.1 with
      | nil => rw [h] at this; simp at this
      | cons x l => simp
    rw [← q2]
    exact ⟨by omega, q3, q4⟩
  obtain ⟨n, hn⟩ : ∃ n, n = nf e := ⟨_, rfl⟩
  rw [← hn] at k1 hnl hnf ⊢
  clear hn h1
  have hpl := prI_len (n := n) fun c hc => ⟨by have := (hnf c hc).1; omega, (hnf c hc).2.1⟩
  by_cases h2 : n = []
  · subst h2
    rw [if_pos rfl]
    refine pcalls_of_pw Tryz.func19 rfl Tryz.ntmps19 Tryz.results19 (by simp) fun B w0 => ?_
    refine pw_seq ?_; refine pw_region ?_; refine yAd rfl ?_; refine yAd rfl ?_; refine yQ ?_; refine pw_seq ?_; refine pw_region ?_; refine yMd rfl ?_; refine yC (k1) rfl rfl ?_; refine yMp rfl ?_; refine yX rfl rfl ?_
    refine yX rfl rfl ?_; refine yAd rfl ?_; refine yAd rfl ?_; refine yQ ?_; refine pw_seq ?_; refine pw_seq ?_; refine pw_region ?_; refine yMd rfl ?_; refine yB rfl rfl rfl rfl ?_; refine yQ ?_; refine pw_cf rfl ?_; refine pw_skip ?_
    refine pw_seq ?_; refine pw_seq ?_; refine pw_region ?_; refine yMd rfl ?_; refine yN rfl ?_; refine yB rfl rfl rfl rfl ?_; refine yQ ?_; refine pw_ct rfl ?_; refine pw_seq ?_; refine pw_region ?_; refine yAd rfl ?_
    refine yAd rfl ?_; refine yQ ?_; refine pw_ret ?_; refine q_then_ret ?_
    exact q_ret _ (.tmp rfl (.tmp rfl .nil)) rfl
  rw [if_neg h2]
  have hn0 : 0 < n.length := List.length_pos_iff.2 h2
  have t0 : (((n.map dCf).length : Int) == 0) = false := by rw [List.length_map]; simp; omega
  obtain ⟨r, hr⟩ : ∃ r, r = prI n n.length := ⟨_, rfl⟩
  rw [← hr]
  refine pcalls_of_pw Tryz.func19 rfl Tryz.ntmps19 Tryz.results19 (by simp) fun B w0 => ?_
  refine pw_seq ?_; refine pw_region ?_; refine yAd rfl ?_; refine yAd rfl ?_; refine yQ ?_; refine pw_seq ?_; refine pw_region ?_; refine yMd rfl ?_; refine yC (k1) rfl rfl ?_; refine yMp rfl ?_; refine yX rfl rfl ?_
  refine yX rfl rfl ?_; refine yAd rfl ?_; refine yAd rfl ?_; refine yQ ?_; refine pw_seq ?_; refine pw_seq ?_; refine pw_region ?_; refine yMd rfl ?_; refine yB rfl rfl rfl rfl ?_; refine yQ ?_; refine pw_cf rfl ?_; refine pw_skip ?_
  refine pw_seq ?_; refine pw_seq ?_; refine pw_region ?_; refine yMd rfl ?_; refine yN rfl ?_; refine yB rfl rfl rfl rfl ?_; refine yQ ?_; refine q_then ?_; rw [t0]; refine pw_cf rfl ?_; refine pw_skip ?_; refine pw_seq ?_
  refine pw_region ?_; refine yQa rfl ?_; refine yQ ?_; refine pw_tokb 6 1 vT 1 rfl rfl rfl rfl ?_; refine pw_seq ?_; refine pw_seq ?_; refine pw_region ?_; refine yMd rfl ?_; refine yN rfl ?_; refine yMd rfl ?_; refine yQ ?_
  refine pw_block ?_
  refine pw_loop (fun i : Nat => ⟨68, [(6, .tx 6 bT 2), (21, .d (.sl 2 (n.map dCf))), (22, .d (dI n.length)), (23, .d (dI i))], [(6, [bA i, .ts vT 1 ((prI n i).map dY)])], [(vT, ((prI n i).map dY).length)]⟩) (fun i => i ≤ n.length) (fun i => n.length - i) 0 (Nat.zero_le _)
    ⟨rfl, ⟨.refl _, .refl _, .of_eq (congrArg (fun n : Nat => SV.d (dI n)) (by simp)), .refl _, trivial⟩, ⟨⟨_, rfl, .refl _, .refl _, trivial⟩, trivial⟩, ⟨rfl, trivial⟩, rfl⟩ ?_
  intro i hi
  rcases Nat.lt_or_ge i n.length with h | h
  rotate_left
  · have t1 : decide ((i : Int) < (n.length : Int)) = false := decide_eq_false (by omega)
    obtain rfl : i = n.length := by omega
    rw [← hr]
    have hr0 : r ≠ [] := by
      obtain ⟨j, hj⟩ : ∃ j, n.length = j + 1 := ⟨n.length - 1, by omega⟩
      obtain ⟨c, hc⟩ : ∃ c, n[j]? = some c := ⟨_, List.getElem?_eq_getElem (by omega)⟩
      rw [hr, hj, prI, hc]
      intro e
      have h3 := congrArg List.length e
      have h4 := (hnf c (List.mem_of_getElem? hc)).2.2
      simp only [prS, List.length_append, List.length_nil] at h3
      omega
    obtain ⟨j, hj⟩ : ∃ j, n.length = j + 1 := ⟨n.length - 1, by omega⟩
    rw [show bA n.length = .tx 6 bT 2 by rw [hj]]
    refine pw_tx 6 rfl ?_; refine pw_seq ?_; refine pw_region ?_; refine yB rfl rfl rfl rfl ?_; refine yQ ?_; refine pw_seq ?_; rw [t1]; refine pw_cf rfl ?_; refine pw_exit ?_; refine pw_seq ?_; refine pw_region ?_
    refine yStr (l := r) Tryz.bst bExtraS rfl rfl hr0 rfl rfl rfl rfl ?_; refine yAd rfl ?_; refine yAd rfl ?_; refine yQ ?_; refine pw_ret ?_
    exact q_ret _ (.tmp rfl (.tmp rfl .nil)) rfl
  have t1 : decide ((i : Int) < (n.length : Int)) = true := decide_eq_true (by omega)
  obtain ⟨⟨c0, c1⟩, hc⟩ : ∃ a, n[i]? = some a := ⟨_, List.getElem?_eq_getElem h⟩
  have em := ix dCf n i i (c0, c1) rfl hc
  have hw := wrapI ((i : Int) + 1) (by omega)
  obtain ⟨q1, q2, q3⟩ := hnf _ (List.mem_of_getElem? hc)
  simp only at q1 q2 q3
  have hpi := hpl i
  have k2 := wCmp0 c1 (by omega)
  have k3 := wNegT c1 (by omega)
  have hal := absS_len q1
  have hnx : prI n (i + 1) = prI n i ++ (sepS i (decide (val c1 < 0)) ++ (facS (absS c1) ++ c0)) := by rw [prI, hc]; rfl
  clear hc hr hpl hnf k1 t0
  have hsg : sgnT c1 < 0 ↔ val c1 < 0 := by unfold sgnT; split <;> (try split) <;> simp <;> omega
  obtain ⟨z, hz⟩ : ∃ z, z = sgnT c1 := ⟨_, rfl⟩
  rw [← hz] at k2 hsg
  clear hz
  have i1000 : i ≤ 1000 := by omega
  by_cases hneg : val c1 < 0
  · have t2 : decide (z < 0) = true := decide_eq_true (hsg.2 hneg)
    rw [decide_eq_true hneg] at hnx
    have ha : absS c1 = canon (- val c1) := by rw [absS, if_pos hneg]
    rw [ha] at hnx hal
    obtain ⟨f, hf⟩ : ∃ f, f = canon (- val c1) := ⟨_, rfl⟩
    rw [← hf] at hnx hal k3
    clear hf ha hsg
    have k4 := wPrintT f (by omega)
    have hp1 := prT_len f
    have hp2 := prT_pos f
    rw [facS] at hnx
    obtain ⟨p, hp⟩ : ∃ p, p = prT f := ⟨_, rfl⟩
    rw [← hp] at hnx k4 hp1 hp2
    clear hp
    cases i with
    | zero =>
      have e0 : prI n 0 = [] := rfl
      rw [e0] at hnx ⊢
      rw [show sepS 0 true = [45] from rfl] at hnx
      by_cases h49 : f = [49]
      · rw [if_pos h49] at hnx
        have t3 : (f == [49]) = true := by simp [h49]
        have hfin : prI n (0 + 1) = [] ++ [45] ++ c0 := by rw [hnx]; simp
        refine pw_seq ?_; refine pw_region ?_; refine yB rfl rfl rfl rfl ?_; refine yQ ?_; refine pw_seq ?_; rw [t1]; refine pw_ct rfl ?_; refine pw_skip ?_; refine pw_seq ?_; refine pw_block ?_; refine pw_seq ?_; refine pw_region ?_
        refine yMd rfl ?_; refine yW em (by omega) rfl rfl ?_; refine yLs (ys := [_, _]) rfl rfl rfl ?_; refine yZ (cs := [_, _]) rfl rfl ?_; refine yAd rfl ?_; refine yS (cs' := [_, _]) rfl rfl rfl rfl rfl ?_; refine yQ ?_
        refine pw_seq ?_; refine pw_region ?_; refine yFb rfl ?_; refine yLd rfl rfl rfl ?_; refine yC (k2) rfl rfl ?_; refine yB rfl rfl rfl rfl ?_; refine yAd rfl ?_; refine yQ ?_; refine pw_seq ?_; refine pw_block ?_; refine pw_seq ?_
        refine pw_region ?_; refine yMd rfl ?_; refine yB rfl rfl rfl rfl ?_; refine yMd rfl ?_; refine yMd rfl ?_; refine yPd rfl rfl ?_; refine yAd rfl ?_; refine yQ ?_; refine q_then ?_; rw [t2]; refine pw_ct rfl ?_; refine pw_region ?_
        refine yCx (wWsFs [] [45] (by simp) (by simp) (by simp)) rfl ⟨rfl, trivial⟩ ⟨rfl, trivial⟩ ?_ (hfit := by kernel_rfl); refine yQ ?_; refine pw_seq ?_; refine pw_seq ?_; refine pw_region ?_; refine yMd rfl ?_; refine yQ ?_
        refine pw_ct rfl ?_; refine pw_region ?_; refine yFb rfl ?_; refine yLd rfl rfl rfl ?_; refine yC (k3) rfl rfl ?_; refine yFb rfl ?_; refine ySd (cs' := [_, _]) rfl rfl rfl rfl ?_; refine yQ ?_; refine pw_seq ?_; refine pw_seq ?_
        refine pw_region ?_; refine yFb rfl ?_; refine yLd rfl rfl rfl ?_; refine yBsn rfl rfl ?_; refine yQ ?_; refine q_then ?_; rw [t3]; refine pw_cf rfl ?_; refine pw_skip ?_; refine pw_region ?_; refine yFb rfl ?_
        refine yLd rfl rfl rfl ?_; refine yCx (wWsUs ([] ++ [45]) c0 (by simp) (by omega) q3) rfl ⟨rfl, trivial⟩ ⟨rfl, trivial⟩ ?_ (hfit := by kernel_rfl); refine yQ ?_; refine pw_region ?_; refine yB rfl rfl rfl rfl ?_; refine yMd rfl ?_
        refine yQ ?_; refine q_then ?_
        exact ⟨0 + 1, by omega, by omega, rfl, ⟨.refl _, .refl _, .refl _, .of_eq (congrArg (fun n => SV.d (dI n)) hw), trivial⟩, ⟨⟨_, rfl, .refl _, .of_eq (by rw [hfin] <;> rfl), trivial⟩, trivial⟩, ⟨(by rw [hfin] <;> rfl), trivial⟩, rfl⟩
      · rw [if_neg h49] at hnx
        have t3 : (f == [49]) = false := by simp [h49]
        have hfin : prI n (0 + 1) = [] ++ [45] ++ (p ++ [42]) ++ c0 := by rw [hnx]; simp
        refine pw_seq ?_; refine pw_region ?_; refine yB rfl rfl rfl rfl ?_; refine yQ ?_; refine pw_seq ?_; rw [t1]; refine pw_ct rfl ?_; refine pw_skip ?_; refine pw_seq ?_; refine pw_block ?_; refine pw_seq ?_; refine pw_region ?_
        refine yMd rfl ?_; refine yW em (by omega) rfl rfl ?_; refine yLs (ys := [_, _]) rfl rfl rfl ?_; refine yZ (cs := [_, _]) rfl rfl ?_; refine yAd rfl ?_; refine yS (cs' := [_, _]) rfl rfl rfl rfl rfl ?_; refine yQ ?_
        refine pw_seq ?_; refine pw_region ?_; refine yFb rfl ?_; refine yLd rfl rfl rfl ?_; refine yC (k2) rfl rfl ?_; refine yB rfl rfl rfl rfl ?_; refine yAd rfl ?_; refine yQ ?_; refine pw_seq ?_; refine pw_block ?_; refine pw_seq ?_
        refine pw_region ?_; refine yMd rfl ?_; refine yB rfl rfl rfl rfl ?_; refine yMd rfl ?_; refine yMd rfl ?_; refine yPd rfl rfl ?_; refine yAd rfl ?_; refine yQ ?_; refine q_then ?_; rw [t2]; refine pw_ct rfl ?_; refine pw_region ?_
        refine yCx (wWsFs [] [45] (by simp) (by simp) (by simp)) rfl ⟨rfl, trivial⟩ ⟨rfl, trivial⟩ ?_ (hfit := by kernel_rfl); refine yQ ?_; refine pw_seq ?_; refine pw_seq ?_; refine pw_region ?_; refine yMd rfl ?_; refine yQ ?_
        refine pw_ct rfl ?_; refine pw_region ?_; refine yFb rfl ?_; refine yLd rfl rfl rfl ?_; refine yC (k3) rfl rfl ?_; refine yFb rfl ?_; refine ySd (cs' := [_, _]) rfl rfl rfl rfl ?_; refine yQ ?_; refine pw_seq ?_; refine pw_seq ?_
        refine pw_region ?_; refine yFb rfl ?_; refine yLd rfl rfl rfl ?_; refine yBsn rfl rfl ?_; refine yQ ?_; refine q_then ?_; rw [t3]; refine pw_ct rfl ?_; refine pw_region ?_; refine yFb rfl ?_; refine yLd rfl rfl rfl ?_
        refine yC (k4) rfl rfl ?_; refine yBsa (l1 := p) (l2 := [42]) (by simp; omega) rfl rfl ?_; refine yCx (wWsUs ([] ++ [45]) (p ++ [42]) (by simp) (by simp; omega) (by simp)) rfl ⟨rfl, trivial⟩ ⟨rfl, trivial⟩ ?_ (hfit := by kernel_rfl)
        refine yQ ?_; refine pw_region ?_; refine yFb rfl ?_; refine yLd rfl rfl rfl ?_; refine yCx (wWsUs ([] ++ [45] ++ (p ++ [42])) c0 (by simp; omega) (by omega) q3) rfl ⟨rfl, trivial⟩ ⟨rfl, trivial⟩ ?_ (hfit := by kernel_rfl)
        refine yQ ?_; refine pw_region ?_; refine yB rfl rfl rfl rfl ?_; refine yMd rfl ?_; refine yQ ?_; refine q_then ?_
        exact ⟨0 + 1, by omega, by omega, rfl, ⟨.refl _, .refl _, .refl _, .of_eq (congrArg (fun n => SV.d (dI n)) hw), trivial⟩, ⟨⟨_, rfl, .refl _, .of_eq (by rw [hfin] <;> rfl), trivial⟩, trivial⟩, ⟨(by rw [hfin] <;> rfl), trivial⟩, rfl⟩
    | succ i =>
      have t4 : (((i + 1 : Nat) : Int) == 0) = false := by simp; omega
      have t5 : decide (((i + 1 : Nat) : Int) > 0) = true := decide_eq_true (by omega)
      rw [show sepS (i + 1) true = [32, 45, 32] from rfl] at hnx
      obtain ⟨P, hP⟩ : ∃ P, P = prI n (i + 1) := ⟨_, rfl⟩
      rw [← hP] at hnx hpi ⊢
      by_cases h49 : f = [49]
      · rw [if_pos h49] at hnx
        have t3 : (f == [49]) = true := by simp [h49]
        have hfin : prI n (i + 1 + 1) = P ++ [32, 45, 32] ++ c0 := by rw [hnx]; simp
        refine pw_seq ?_; refine pw_region ?_; refine yB rfl rfl rfl rfl ?_; refine yQ ?_; refine pw_seq ?_; rw [t1]; refine pw_ct rfl ?_; refine pw_skip ?_; refine pw_seq ?_; refine pw_block ?_; refine pw_seq ?_; refine pw_region ?_
        refine yMd rfl ?_; refine yW em (by omega) rfl rfl ?_; refine yLs (ys := [_, _]) rfl rfl rfl ?_; refine yZ (cs := [_, _]) rfl rfl ?_; refine yAd rfl ?_; refine yS (cs' := [_, _]) rfl rfl rfl rfl rfl ?_; refine yQ ?_
        refine pw_seq ?_; refine pw_region ?_; refine yFb rfl ?_; refine yLd rfl rfl rfl ?_; refine yC (k2) rfl rfl ?_; refine yB rfl rfl rfl rfl ?_; refine yAd rfl ?_; refine yQ ?_; refine pw_seq ?_; refine pw_block ?_; refine pw_seq ?_
        refine pw_region ?_; refine yMd rfl ?_; refine yB rfl rfl rfl rfl ?_; refine yMd rfl ?_; refine yO rfl ?_; refine yVd rfl rfl ?_; refine yAd rfl ?_; refine yQ ?_; refine pw_cf rfl ?_; refine pw_seq ?_; refine pw_region ?_
        refine yMd rfl ?_; refine yB rfl rfl rfl rfl ?_; refine yMd rfl ?_; rw [t2]; rw [t4]; rw [t5]; refine yMd rfl ?_; refine yPd rfl rfl ?_; refine yAd rfl ?_; refine yQ ?_; refine pw_ct rfl ?_; refine pw_region ?_
        refine yCx (wWsUs P [32, 45, 32] (by omega) (by simp) (by simp)) rfl ⟨rfl, trivial⟩ ⟨rfl, trivial⟩ ?_ (hfit := by kernel_rfl); refine yQ ?_; refine pw_seq ?_; refine pw_seq ?_; refine pw_region ?_; refine yMd rfl ?_; refine yQ ?_
        refine pw_ct rfl ?_; refine pw_region ?_; refine yFb rfl ?_; refine yLd rfl rfl rfl ?_; refine yC (k3) rfl rfl ?_; refine yFb rfl ?_; refine ySd (cs' := [_, _]) rfl rfl rfl rfl ?_; refine yQ ?_; refine pw_seq ?_; refine pw_seq ?_
        refine pw_region ?_; refine yFb rfl ?_; refine yLd rfl rfl rfl ?_; refine yBsn rfl rfl ?_; refine yQ ?_; refine q_then ?_; rw [t3]; refine pw_cf rfl ?_; refine pw_skip ?_; refine pw_region ?_; refine yFb rfl ?_
        refine yLd rfl rfl rfl ?_; refine yCx (wWsUs (P ++ [32, 45, 32]) c0 (by simp; omega) (by omega) q3) rfl ⟨rfl, trivial⟩ ⟨rfl, trivial⟩ ?_ (hfit := by kernel_rfl); refine yQ ?_; refine pw_region ?_; refine yB rfl rfl rfl rfl ?_
        refine yMd rfl ?_; refine yQ ?_; refine q_then ?_
        exact ⟨i + 1 + 1, by omega, by omega, rfl, ⟨.refl _, .refl _, .refl _, .of_eq (congrArg (fun n => SV.d (dI n)) hw), trivial⟩, ⟨⟨_, rfl, .refl _, .of_eq (by rw [hfin] <;> rfl), trivial⟩, trivial⟩, ⟨(by rw [hfin] <;> rfl), trivial⟩, rfl⟩
      · rw [if_neg h49] at hnx
        have t3 : (f == [49]) = false := by simp [h49]
        have hfin : prI n (i + 1 + 1) = P ++ [32, 45, 32] ++ (p ++ [42]) ++ c0 := by rw [hnx]; simp
        refine pw_seq ?_; refine pw_region ?_; refine yB rfl rfl rfl rfl ?_; refine yQ ?_; refine pw_seq ?_; rw [t1]; refine pw_ct rfl ?_; refine pw_skip ?_; refine pw_seq ?_; refine pw_block ?_; refine pw_seq ?_; refine pw_region ?_
        refine yMd rfl ?_; refine yW em (by omega) rfl rfl ?_; refine yLs (ys := [_, _]) rfl rfl rfl ?_; refine yZ (cs := [_, _]) rfl rfl ?_; refine yAd rfl ?_; refine yS (cs' := [_, _]) rfl rfl rfl rfl rfl ?_; refine yQ ?_
        refine pw_seq ?_; refine pw_region ?_; refine yFb rfl ?_; refine yLd rfl rfl rfl ?_; refine yC (k2) rfl rfl ?_; refine yB rfl rfl rfl rfl ?_; refine yAd rfl ?_; refine yQ ?_; refine pw_seq ?_; refine pw_block ?_; refine pw_seq ?_
        refine pw_region ?_; refine yMd rfl ?_; refine yB rfl rfl rfl rfl ?_; refine yMd rfl ?_; refine yO rfl ?_; refine yVd rfl rfl ?_; refine yAd rfl ?_; refine yQ ?_; refine pw_cf rfl ?_; refine pw_seq ?_; refine pw_region ?_
        refine yMd rfl ?_; refine yB rfl rfl rfl rfl ?_; refine yMd rfl ?_; rw [t2]; rw [t4]; rw [t5]; refine yMd rfl ?_; refine yPd rfl rfl ?_; refine yAd rfl ?_; refine yQ ?_; refine pw_ct rfl ?_; refine pw_region ?_
        refine yCx (wWsUs P [32, 45, 32] (by omega) (by simp) (by simp)) rfl ⟨rfl, trivial⟩ ⟨rfl, trivial⟩ ?_ (hfit := by kernel_rfl); refine yQ ?_; refine pw_seq ?_; refine pw_seq ?_; refine pw_region ?_; refine yMd rfl ?_; refine yQ ?_
        refine pw_ct rfl ?_; refine pw_region ?_; refine yFb rfl ?_; refine yLd rfl rfl rfl ?_; refine yC (k3) rfl rfl ?_; refine yFb rfl ?_; refine ySd (cs' := [_, _]) rfl rfl rfl rfl ?_; refine yQ ?_; refine pw_seq ?_; refine pw_seq ?_
        refine pw_region ?_; refine yFb rfl ?_; refine yLd rfl rfl rfl ?_; refine yBsn rfl rfl ?_; refine yQ ?_; refine q_then ?_; rw [t3]; refine pw_ct rfl ?_; refine pw_region ?_; refine yFb rfl ?_; refine yLd rfl rfl rfl ?_
        refine yC (k4) rfl rfl ?_; refine yBsa (l1 := p) (l2 := [42]) (by simp; omega) rfl rfl ?_
        refine yCx (wWsUs (P ++ [32, 45, 32]) (p ++ [42]) (by simp; omega) (by simp; omega) (by simp)) rfl ⟨rfl, trivial⟩ ⟨rfl, trivial⟩ ?_ (hfit := by kernel_rfl); refine yQ ?_; refine pw_region ?_; refine yFb rfl ?_
        refine yLd rfl rfl rfl ?_; refine yCx (wWsUs (P ++ [32, 45, 32] ++ (p ++ [42])) c0 (by simp; omega) (by omega) q3) rfl ⟨rfl, trivial⟩ ⟨rfl, trivial⟩ ?_ (hfit := by kernel_rfl); refine yQ ?_; refine pw_region ?_
        refine yB rfl rfl rfl rfl ?_; refine yMd rfl ?_; refine yQ ?_; refine q_then ?_
        exact ⟨i + 1 + 1, by omega, by omega, rfl, ⟨.refl _, .refl _, .refl _, .of_eq (congrArg (fun n => SV.d (dI n)) hw), trivial⟩, ⟨⟨_, rfl, .refl _, .of_eq (by rw [hfin] <;> rfl), trivial⟩, trivial⟩, ⟨(by rw [hfin] <;> rfl), trivial⟩, rfl⟩
  · have t2 : decide (z < 0) = false := decide_eq_false fun h => hneg (hsg.1 h)
    rw [decide_eq_false hneg] at hnx
    have ha : absS c1 = c1 := by rw [absS, if_neg hneg]
    rw [ha] at hnx
    clear ha hsg k3
    have k4 := wPrintT c1 (by omega)
    have hp1 := prT_len c1
    have hp2 := prT_pos c1
    rw [facS] at hnx
    obtain ⟨p, hp⟩ : ∃ p, p = prT c1 := ⟨_, rfl⟩
    rw [← hp] at hnx k4 hp1 hp2
    clear hp
    cases i with
    | zero =>
      have e0 : prI n 0 = [] := rfl
      rw [e0] at hnx ⊢
      rw [show sepS 0 false = [] from rfl] at hnx
      by_cases h49 : c1 = [49]
      · rw [if_pos h49] at hnx
        have t3 : (c1 == [49]) = true := by simp [h49]
        have hfin : prI n (0 + 1) = [] ++ c0 := by rw [hnx]; simp
        refine pw_seq ?_; refine pw_region ?_; refine yB rfl rfl rfl rfl ?_; refine yQ ?_; refine pw_seq ?_; rw [t1]; refine pw_ct rfl ?_; refine pw_skip ?_; refine pw_seq ?_; refine pw_block ?_; refine pw_seq ?_; refine pw_region ?_
        refine yMd rfl ?_; refine yW em (by omega) rfl rfl ?_; refine yLs (ys := [_, _]) rfl rfl rfl ?_; refine yZ (cs := [_, _]) rfl rfl ?_; refine yAd rfl ?_; refine yS (cs' := [_, _]) rfl rfl rfl rfl rfl ?_; refine yQ ?_
        refine pw_seq ?_; refine pw_region ?_; refine yFb rfl ?_; refine yLd rfl rfl rfl ?_; refine yC (k2) rfl rfl ?_; refine yB rfl rfl rfl rfl ?_; refine yAd rfl ?_; refine yQ ?_; refine pw_seq ?_; refine pw_block ?_; refine pw_seq ?_
        refine pw_region ?_; refine yMd rfl ?_; refine yB rfl rfl rfl rfl ?_; refine yMd rfl ?_; refine yMd rfl ?_; refine yPd rfl rfl ?_; refine yAd rfl ?_; refine yQ ?_; refine q_then ?_; rw [t2]; refine pw_cf rfl ?_; refine pw_seq ?_
        refine pw_region ?_; refine yMd rfl ?_; refine yB rfl rfl rfl rfl ?_; refine yMd rfl ?_; refine yO rfl ?_; refine yVd rfl rfl ?_; refine yAd rfl ?_; refine yQ ?_; refine pw_cf rfl ?_; refine pw_seq ?_; refine pw_region ?_
        refine yMd rfl ?_; refine yB rfl rfl rfl rfl ?_; refine yAd rfl ?_; refine yQ ?_; refine pw_cf rfl ?_; refine pw_skip ?_; refine pw_seq ?_; refine pw_seq ?_; refine pw_region ?_; refine yMd rfl ?_; refine yQ ?_; refine pw_cf rfl ?_
        refine pw_skip ?_; refine pw_seq ?_; refine pw_seq ?_; refine pw_region ?_; refine yFb rfl ?_; refine yLd rfl rfl rfl ?_; refine yBsn rfl rfl ?_; refine yQ ?_; refine q_then ?_; rw [t3]; refine pw_cf rfl ?_; refine pw_skip ?_
        refine pw_region ?_; refine yFb rfl ?_; refine yLd rfl rfl rfl ?_; refine yCx (wWsFs [] c0 (by simp) (by omega) q3) rfl ⟨rfl, trivial⟩ ⟨rfl, trivial⟩ ?_ (hfit := by kernel_rfl); refine yQ ?_; refine pw_region ?_
        refine yB rfl rfl rfl rfl ?_; refine yMd rfl ?_; refine yQ ?_; refine q_then ?_
        exact ⟨0 + 1, by omega, by omega, rfl, ⟨.refl _, .refl _, .refl _, .of_eq (congrArg (fun n => SV.d (dI n)) hw), trivial⟩, ⟨⟨_, rfl, .refl _, .of_eq (by rw [hfin] <;> rfl), trivial⟩, trivial⟩, ⟨(by rw [hfin] <;> rfl), trivial⟩, rfl⟩
      · rw [if_neg h49] at hnx
        have t3 : (c1 == [49]) = false := by simp [h49]
        have hfin : prI n (0 + 1) = [] ++ (p ++ [42]) ++ c0 := by rw [hnx]; simp
        refine pw_seq ?_; refine pw_region ?_; refine yB rfl rfl rfl rfl ?_; refine yQ ?_; refine pw_seq ?_; rw [t1]; refine pw_ct rfl ?_; refine pw_skip ?_; refine pw_seq ?_; refine pw_block ?_; refine pw_seq ?_; refine pw_region ?_
        refine yMd rfl ?_; refine yW em (by omega) rfl rfl ?_; refine yLs (ys := [_, _]) rfl rfl rfl ?_; refine yZ (cs := [_, _]) rfl rfl ?_; refine yAd rfl ?_; refine yS (cs' := [_, _]) rfl rfl rfl rfl rfl ?_; refine yQ ?_
        refine pw_seq ?_; refine pw_region ?_; refine yFb rfl ?_; refine yLd rfl rfl rfl ?_; refine yC (k2) rfl rfl ?_; refine yB rfl rfl rfl rfl ?_; refine yAd rfl ?_; refine yQ ?_; refine pw_seq ?_; refine pw_block ?_; refine pw_seq ?_
        refine pw_region ?_; refine yMd rfl ?_; refine yB rfl rfl rfl rfl ?_; refine yMd rfl ?_; refine yMd rfl ?_; refine yPd rfl rfl ?_; refine yAd rfl ?_; refine yQ ?_; refine q_then ?_; rw [t2]; refine pw_cf rfl ?_; refine pw_seq ?_
        refine pw_region ?_; refine yMd rfl ?_; refine yB rfl rfl rfl rfl ?_; refine yMd rfl ?_; refine yO rfl ?_; refine yVd rfl rfl ?_; refine yAd rfl ?_; refine yQ ?_; refine pw_cf rfl ?_; refine pw_seq ?_; refine pw_region ?_
        refine yMd rfl ?_; refine yB rfl rfl rfl rfl ?_; refine yAd rfl ?_; refine yQ ?_; refine pw_cf rfl ?_; refine pw_skip ?_; refine pw_seq ?_; refine pw_seq ?_; refine pw_region ?_; refine yMd rfl ?_; refine yQ ?_; refine pw_cf rfl ?_
        refine pw_skip ?_; refine pw_seq ?_; refine pw_seq ?_; refine pw_region ?_; refine yFb rfl ?_; refine yLd rfl rfl rfl ?_; refine yBsn rfl rfl ?_; refine yQ ?_; refine q_then ?_; rw [t3]; refine pw_ct rfl ?_; refine pw_region ?_
        refine yFb rfl ?_; refine yLd rfl rfl rfl ?_; refine yC (k4) rfl rfl ?_; refine yBsa (l1 := p) (l2 := [42]) (by simp; omega) rfl rfl ?_
        refine yCx (wWsFs [] (p ++ [42]) (by simp) (by simp; omega) (by simp)) rfl ⟨rfl, trivial⟩ ⟨rfl, trivial⟩ ?_ (hfit := by kernel_rfl); refine yQ ?_; refine pw_region ?_; refine yFb rfl ?_; refine yLd rfl rfl rfl ?_
        refine yCx (wWsUs ([] ++ (p ++ [42])) c0 (by simp; omega) (by omega) q3) rfl ⟨rfl, trivial⟩ ⟨rfl, trivial⟩ ?_ (hfit := by kernel_rfl); refine yQ ?_; refine pw_region ?_; refine yB rfl rfl rfl rfl ?_; refine yMd rfl ?_; refine yQ ?_
        refine q_then ?_
        exact ⟨0 + 1, by omega, by omega, rfl, ⟨.refl _, .refl _, .refl _, .of_eq (congrArg (fun n => SV.d (dI n)) hw), trivial⟩, ⟨⟨_, rfl, .refl _, .of_eq (by rw [hfin] <;> rfl), trivial⟩, trivial⟩, ⟨(by rw [hfin] <;> rfl), trivial⟩, rfl⟩
    | succ i =>
      have t4 : (((i + 1 : Nat) : Int) == 0) = false := by simp; omega
      have t5 : decide (((i + 1 : Nat) : Int) > 0) = true := decide_eq_true (by omega)
      rw [show sepS (i + 1) false = [32, 43, 32] from rfl] at hnx
      obtain ⟨P, hP⟩ : ∃ P, P = prI n (i + 1) := ⟨_, rfl⟩
      rw [← hP] at hnx hpi ⊢
      by_cases h49 : c1 = [49]
      · rw [if_pos h49] at hnx
        have t3 : (c1 == [49]) = true := by simp [h49]
        have hfin : prI n (i + 1 + 1) = P ++ [32, 43, 32] ++ c0 := by rw [hnx]; simp
        refine pw_seq ?_; refine pw_region ?_; refine yB rfl rfl rfl rfl ?_; refine yQ ?_; refine pw_seq ?_; rw [t1]; refine pw_ct rfl ?_; refine pw_skip ?_; refine pw_seq ?_; refine pw_block ?_; refine pw_seq ?_; refine pw_region ?_
        refine yMd rfl ?_; refine yW em (by omega) rfl rfl ?_; refine yLs (ys := [_, _]) rfl rfl rfl ?_; refine yZ (cs := [_, _]) rfl rfl ?_; refine yAd rfl ?_; refine yS (cs' := [_, _]) rfl rfl rfl rfl rfl ?_; refine yQ ?_
        refine pw_seq ?_; refine pw_region ?_; refine yFb rfl ?_; refine yLd rfl rfl rfl ?_; refine yC (k2) rfl rfl ?_; refine yB rfl rfl rfl rfl ?_; refine yAd rfl ?_; refine yQ ?_; refine pw_seq ?_; refine pw_block ?_; refine pw_seq ?_
        refine pw_region ?_; refine yMd rfl ?_; refine yB rfl rfl rfl rfl ?_; refine yMd rfl ?_; refine yO rfl ?_; refine yVd rfl rfl ?_; refine yAd rfl ?_; refine yQ ?_; refine pw_cf rfl ?_; refine pw_seq ?_; refine pw_region ?_
        refine yMd rfl ?_; refine yB rfl rfl rfl rfl ?_; refine yMd rfl ?_; rw [t2]; rw [t4]; rw [t5]; refine yMd rfl ?_; refine yPd rfl rfl ?_; refine yAd rfl ?_; refine yQ ?_; refine pw_cf rfl ?_; refine pw_seq ?_; refine pw_region ?_
        refine yMd rfl ?_; refine yB rfl rfl rfl rfl ?_; refine yAd rfl ?_; refine yQ ?_; refine q_then ?_; rw [t5]; refine pw_ct rfl ?_; refine pw_region ?_
        refine yCx (wWsUs P [32, 43, 32] (by omega) (by simp) (by simp)) rfl ⟨rfl, trivial⟩ ⟨rfl, trivial⟩ ?_ (hfit := by kernel_rfl); refine yQ ?_; refine pw_seq ?_; refine pw_seq ?_; refine pw_region ?_; refine yMd rfl ?_; refine yQ ?_
        refine pw_cf rfl ?_; refine pw_skip ?_; refine pw_seq ?_; refine pw_seq ?_; refine pw_region ?_; refine yFb rfl ?_; refine yLd rfl rfl rfl ?_; refine yBsn rfl rfl ?_; refine yQ ?_; refine q_then ?_; rw [t3]; refine pw_cf rfl ?_
        refine pw_skip ?_; refine pw_region ?_; refine yFb rfl ?_; refine yLd rfl rfl rfl ?_; refine yCx (wWsUs (P ++ [32, 43, 32]) c0 (by simp; omega) (by omega) q3) rfl ⟨rfl, trivial⟩ ⟨rfl, trivial⟩ ?_ (hfit := by kernel_rfl)
        refine yQ ?_; refine pw_region ?_; refine yB rfl rfl rfl rfl ?_; refine yMd rfl ?_; refine yQ ?_; refine q_then ?_
        exact ⟨i + 1 + 1, by omega, by omega, rfl, ⟨.refl _, .refl _, .refl _, .of_eq (congrArg (fun n => SV.d (dI n)) hw), trivial⟩, ⟨⟨_, rfl, .refl _, .of_eq (by rw [hfin] <;> rfl), trivial⟩, trivial⟩, ⟨(by rw [hfin] <;> rfl), trivial⟩, rfl⟩
      · rw [if_neg h49] at hnx
        have t3 : (c1 == [49]) = false := by simp [h49]
        have hfin : prI n (i + 1 + 1) = P ++ [32, 43, 32] ++ (p ++ [42]) ++ c0 := by rw [hnx]; simp
        refine pw_seq ?_; refine pw_region ?_; refine yB rfl rfl rfl rfl ?_; refine yQ ?_; refine pw_seq ?_; rw [t1]; refine pw_ct rfl ?_; refine pw_skip ?_; refine pw_seq ?_; refine pw_block ?_; refine pw_seq ?_; refine pw_region ?_
        refine yMd rfl ?_; refine yW em (by omega) rfl rfl ?_; refine yLs (ys := [_, _]) rfl rfl rfl ?_; refine yZ (cs := [_, _]) rfl rfl ?_; refine yAd rfl ?_; refine yS (cs' := [_, _]) rfl rfl rfl rfl rfl ?_; refine yQ ?_
        refine pw_seq ?_; refine pw_region ?_; refine yFb rfl ?_; refine yLd rfl rfl rfl ?_; refine yC (k2) rfl rfl ?_; refine yB rfl rfl rfl rfl ?_; refine yAd rfl ?_; refine yQ ?_; refine pw_seq ?_; refine pw_block ?_; refine pw_seq ?_
        refine pw_region ?_; refine yMd rfl ?_; refine yB rfl rfl rfl rfl ?_; refine yMd rfl ?_; refine yO rfl ?_; refine yVd rfl rfl ?_; refine yAd rfl ?_; refine yQ ?_; refine pw_cf rfl ?_; refine pw_seq ?_; refine pw_region ?_
        refine yMd rfl ?_; refine yB rfl rfl rfl rfl ?_; refine yMd rfl ?_; rw [t2]; rw [t4]; rw [t5]; refine yMd rfl ?_; refine yPd rfl rfl ?_; refine yAd rfl ?_; refine yQ ?_; refine pw_cf rfl ?_; refine pw_seq ?_; refine pw_region ?_
        refine yMd rfl ?_; refine yB rfl rfl rfl rfl ?_; refine yAd rfl ?_; refine yQ ?_; refine q_then ?_; rw [t5]; refine pw_ct rfl ?_; refine pw_region ?_
        refine yCx (wWsUs P [32, 43, 32] (by omega) (by simp) (by simp)) rfl ⟨rfl, trivial⟩ ⟨rfl, trivial⟩ ?_ (hfit := by kernel_rfl); refine yQ ?_; refine pw_seq ?_; refine pw_seq ?_; refine pw_region ?_; refine yMd rfl ?_; refine yQ ?_
        refine pw_cf rfl ?_; refine pw_skip ?_; refine pw_seq ?_; refine pw_seq ?_; refine pw_region ?_; refine yFb rfl ?_; refine yLd rfl rfl rfl ?_; refine yBsn rfl rfl ?_; refine yQ ?_; refine q_then ?_; rw [t3]; refine pw_ct rfl ?_
        refine pw_region ?_; refine yFb rfl ?_; refine yLd rfl rfl rfl ?_; refine yC (k4) rfl rfl ?_; refine yBsa (l1 := p) (l2 := [42]) (by simp; omega) rfl rfl ?_
        refine yCx (wWsUs (P ++ [32, 43, 32]) (p ++ [42]) (by simp; omega) (by simp; omega) (by simp)) rfl ⟨rfl, trivial⟩ ⟨rfl, trivial⟩ ?_ (hfit := by kernel_rfl); refine yQ ?_; refine pw_region ?_; refine yFb rfl ?_
        refine yLd rfl rfl rfl ?_; refine yCx (wWsUs (P ++ [32, 43, 32] ++ (p ++ [42])) c0 (by simp; omega) (by omega) q3) rfl ⟨rfl, trivial⟩ ⟨rfl, trivial⟩ ?_ (hfit := by kernel_rfl); refine yQ ?_; refine pw_region ?_
        refine yB rfl rfl rfl rfl ?_; refine yMd rfl ?_; refine yQ ?_; refine q_then ?_
        exact ⟨i + 1 + 1, by omega, by omega, rfl, ⟨.refl _, .refl _, .refl _, .of_eq (congrArg (fun n => SV.d (dI n)) hw), trivial⟩, ⟨⟨_, rfl, .refl _, .of_eq (by rw [hfin] <;> rfl), trivial⟩, trivial⟩, ⟨(by rw [hfin] <;> rfl), trivial⟩, rfl⟩
end Go.Proofs.YtmfeinilbjfnpaaGreatDoor
namespace Go.Proofs.YtmfeinilbjfnpaaGreatDoor
open Go.RowKit Px

instance : EqOf Tryz.prog 36 [.s, .s] := eqOf_struct (by kernel_rfl) (by kernel_rfl) (by kernel_rfl)
theorem take_next {α : Type} {l r : List α} {i : Nat} {x : α} (h : l.take i = r.take i) (hx : l[i]? = some x) (hy : r[i]? = some x) : l.take (i + 1) = r.take (i + 1) := by
  rw [List.take_add_one, List.take_add_one, h, hx, hy]
abbrev vCf (x : Cf) : List Value := [vS x.1, vS x.2]
theorem veq_cf (x y : Cf) : veqs (vCf x) (vCf y) = decide (x = y) := by
  obtain ⟨x0, x1⟩ := x
  obtain ⟨y0, y1⟩ := y
  show (veq (vS x0) (vS y0) && (veq (vS x1) (vS y1) && true)) = _
  rw [veq_str, veq_str, Bool.eq_iff_iff]
  simp
set_option maxRecDepth 20000 in
set_option maxHeartbeats 2000000 in
theorem wEqC (l r : List Cf) (hl : l.length ≤ 1000000) (hr : r.length ≤ 1000000) : PCalls Tryz.prog 22 [.sl 2 (l.map dCf), .sl 2 (r.map dCf)] (.d (dB (decide (l = r)))) := by
  refine pcalls_of_pw Tryz.func22 rfl Tryz.ntmps22 Tryz.results22 (by simp) fun B w0 => ?_
  by_cases hn : l.length = r.length
  rotate_left
  · have t1 : (((l.map dCf).length : Int) != ((r.map dCf).length : Int)) = true := by simp; omega
    rw [decide_eq_false fun e => hn (by rw [e])]
    refine pw_seq ?_; refine pw_region ?_; refine yAd rfl ?_; refine yQ ?_; refine pw_seq ?_; refine pw_seq ?_; refine pw_region ?_; refine yMd rfl ?_; refine yN rfl ?_; refine yMd rfl ?_; refine yN rfl ?_; refine yB rfl rfl rfl rfl ?_
    refine yQ ?_; refine q_then ?_; rw [t1]; refine pw_ct rfl ?_; refine pw_seq ?_; refine pw_region ?_; refine yAd rfl ?_; refine yQ ?_; refine pw_ret ?_; refine q_then_ret ?_
    exact q_ret _ (.tmp rfl .nil) rfl
  have t1 : (((l.map dCf).length : Int) != ((r.map dCf).length : Int)) = false := by simp; omega
  refine pw_seq ?_; refine pw_region ?_; refine yAd rfl ?_; refine yQ ?_; refine pw_seq ?_; refine pw_seq ?_; refine pw_region ?_; refine yMd rfl ?_; refine yN rfl ?_; refine yMd rfl ?_; refine yN rfl ?_; refine yB rfl rfl rfl rfl ?_
  refine yQ ?_; refine q_then ?_; rw [t1]; refine pw_cf rfl ?_; refine pw_skip ?_; refine pw_seq ?_; refine pw_seq ?_; refine pw_region ?_; refine yMd rfl ?_; refine yN rfl ?_; refine yMd rfl ?_; refine yQ ?_; refine pw_block ?_
  refine pw_loop (fun i : Nat => ⟨26, [(0, .d (.sl 2 (l.map dCf))), (1, .d (.sl 2 (r.map dCf))), (12, .d (dI l.length)), (13, .d (dI i))], [], []⟩) (fun i => i ≤ l.length ∧ l.take i = r.take i) (fun i => l.length - i) 0 ⟨Nat.zero_le _, rfl⟩ ⟨rfl, ⟨.refl _, .refl _, .of_eq (congrArg (fun n : Nat => SV.d (dI n)) (by simp)), .refl _, trivial⟩, trivial, trivial, rfl⟩ ?_
  rintro i ⟨hi, h0⟩
  refine pw_seq ?_; refine pw_region ?_; refine yB rfl rfl rfl rfl ?_; refine yQ ?_; refine pw_seq ?_
  refine pw_cond rfl (fun h => ?_) (fun h => ?_)
  · simp at h
    obtain ⟨x, hx⟩ : ∃ a, l[i]? = some a := ⟨_, List.getElem?_eq_getElem h⟩
    obtain ⟨y, hy⟩ : ∃ a, r[i]? = some a := ⟨_, List.getElem?_eq_getElem (by omega)⟩
    have ex := ix dCf l i i x rfl hx
    have ey := ix dCf r i i y rfl hy
    have hw := wrapI ((i : Int) + 1) (by omega)
    have hv := veq_cf x y
    by_cases e : x = y
    · rw [decide_eq_true e] at hv
      refine pw_skip ?_; refine pw_seq ?_; refine pw_block ?_; refine pw_seq ?_; refine pw_region ?_; refine yMd rfl ?_; refine yAd rfl ?_; refine yQ ?_; refine pw_seq ?_; refine pw_draw Tryz.mixed (by kernel_rfl) ?_; refine yMd rfl ?_
      refine yMd rfl ?_; refine yW ex (by omega) rfl rfl ?_; refine yLs (ys := [_, _]) rfl rfl rfl ?_; refine yMd rfl ?_; refine yMd rfl ?_; refine yW ey (by omega) rfl rfl ?_; refine yLs (ys := [_, _]) rfl rfl rfl ?_
      refine yBx (vs := vCf x) (us := vCf y) rfl rfl rfl rfl rfl rfl ?_; refine yQ ?_; refine q_then ?_; rw [hv]; refine pw_cf rfl ?_; refine pw_skip ?_; refine pw_region ?_; refine yB rfl rfl rfl rfl ?_; refine yMd rfl ?_; refine yQ ?_
      refine q_then ?_
      refine ⟨i + 1, ⟨by omega, take_next h0 hx (e ▸ hy)⟩, by omega, rfl, ⟨.refl _, .refl _, .refl _, .of_eq (congrArg (fun n => SV.d (dI n)) hw), trivial⟩, trivial, trivial, rfl⟩
    · rw [decide_eq_false e] at hv
      rw [decide_eq_false fun e2 => e (by subst e2; rw [hx] at hy; exact Option.some.inj hy)]
      refine pw_skip ?_; refine pw_seq ?_; refine pw_block ?_; refine pw_seq ?_; refine pw_region ?_; refine yMd rfl ?_; refine yAd rfl ?_; refine yQ ?_; refine pw_seq ?_; refine pw_draw Tryz.mixed (by kernel_rfl) ?_; refine yMd rfl ?_
      refine yMd rfl ?_; refine yW ex (by omega) rfl rfl ?_; refine yLs (ys := [_, _]) rfl rfl rfl ?_; refine yMd rfl ?_; refine yMd rfl ?_; refine yW ey (by omega) rfl rfl ?_; refine yLs (ys := [_, _]) rfl rfl rfl ?_
      refine yBx (vs := vCf x) (us := vCf y) rfl rfl rfl rfl rfl rfl ?_; refine yQ ?_; refine q_then ?_; rw [hv]; refine pw_ct rfl ?_; refine pw_seq ?_; refine pw_region ?_; refine yAd rfl ?_; refine yQ ?_; refine pw_ret ?_
      refine q_blk_ret ?_; refine q_then_ret ?_; refine q_then_ret ?_; refine q_blk_ret ?_; refine q_then_ret ?_
      exact q_ret _ (.tmp rfl .nil) rfl
  · simp at h
    rw [List.take_of_length_le (by omega), List.take_of_length_le (by omega)] at h0
    rw [decide_eq_true h0]
    refine pw_exit ?_; refine pw_seq ?_; refine pw_region ?_; refine yAd rfl ?_; refine yQ ?_; refine pw_ret ?_
    exact q_ret _ (.tmp rfl .nil) rfl
/-- terms that are too large -/
def bigC (c : Cf) : Bool := decide (20 < c.1.length) || decide (20 < c.2.length)
def phC (xs : List DV) (r : SV) : Prop := ∃ c : Cf, xs = [.agg (dCf c)] ∧ r = .d (dB (bigC c))

set_option maxRecDepth 20000 in
theorem wBig1 (c : Cf) : PCalls Tryz.prog 40 [.agg (dCf c)] (.d (dB (bigC c))) := by
  obtain ⟨c0, c1⟩ := c
  show PCalls Tryz.prog 40 _ (.d (dB (decide (20 < c0.length) || decide (20 < c1.length))))
  by_cases h : 20 < c0.length
  · have t1 : decide ((c0.length : Int) > 20) = true := decide_eq_true (by omega)
    rw [decide_eq_true h, Bool.true_or]
    refine pcalls_of_pw Tryz.func40 rfl Tryz.ntmps40 Tryz.results40 (by simp) fun B w0 => ?_
    refine pw_seq ?_; refine pw_region ?_; refine yK (cs := [_, _]) rfl rfl ?_; refine yAd rfl ?_; refine yQ ?_; refine pw_seq ?_; refine pw_region ?_; refine yFb rfl ?_; refine yLd rfl rfl rfl ?_; refine yNs rfl ?_
    refine yB rfl rfl rfl rfl ?_; refine yMd rfl ?_; rw [t1]; refine yO rfl ?_; refine yO rfl ?_; refine yO rfl ?_; refine yO rfl ?_; refine yPd rfl rfl ?_; refine yAd rfl ?_; refine yQ ?_; refine pw_ret ?_
    exact q_ret _ (.tmp rfl .nil) rfl
  · have t1 : decide ((c0.length : Int) > 20) = false := decide_eq_false (by omega)
    rw [decide_eq_false h, Bool.false_or]
    refine pcalls_of_pw Tryz.func40 rfl Tryz.ntmps40 Tryz.results40 (by simp) fun B w0 => ?_
    refine pw_seq ?_; refine pw_region ?_; refine yK (cs := [_, _]) rfl rfl ?_; refine yAd rfl ?_; refine yQ ?_; refine pw_seq ?_; refine pw_region ?_; refine yFb rfl ?_; refine yLd rfl rfl rfl ?_; refine yNs rfl ?_
    refine yB rfl rfl rfl rfl ?_; refine yMd rfl ?_; rw [t1]; refine yFb rfl ?_; refine yLd rfl rfl rfl ?_; refine yNs rfl ?_; refine yB rfl rfl rfl rfl ?_; refine yVd rfl rfl ?_; refine yAd rfl ?_; refine yQ ?_; refine pw_ret ?_
    exact q_ret _ (.tmp rfl .nil) (congrArg (fun b => SV.d (dB b)) (decide_eq_decide.2 (by dsimp only; omega)))

theorem hPhC : ∀ xs r, phC xs r → PCalls Tryz.prog 40 (xs ++ ([] : List (List DV)).map DV.ref) r := by
  rintro _ _ ⟨c, rfl, rfl⟩
  exact wBig1 c
def ixPC (l : List Cf) : Int := match l.findIdx? bigC with | some i => i | none => -1
theorem ixPC_any (l : List Cf) : decide (ixPC l ≥ 0) = l.any bigC := by
  rw [ixPC]
  cases e : l.findIdx? bigC with
  | none =>
    rw [List.findIdx?_eq_none_iff] at e
    have : l.any bigC = false := by rw [List.any_eq_false]; intro x hx; rw [e x hx]; simp
    rw [this]; rfl
  | some i =>
    rw [List.findIdx?_eq_some_iff_getElem] at e
    obtain ⟨h1, h2, -⟩ := e
    have : l.any bigC = true := List.any_eq_true.2 ⟨_, List.getElem_mem h1, h2⟩
    rw [this]; simp
set_option maxRecDepth 20000 in
set_option maxHeartbeats 1000000 in
theorem wIxC (l : List Cf) (hl : l.length ≤ 1000000) : PCalls Tryz.prog 70 [.sl 2 (l.map dCf), dF Tryz.prog phC] (.d (dI (ixPC l))) := by
  refine pcalls_of_pw Tryz.func70 rfl Tryz.ntmps70 Tryz.results70 (by simp) fun B w0 => ?_
  refine pw_seq ?_; refine pw_region ?_; refine yAd rfl ?_; refine yQ ?_; refine pw_seq ?_; refine pw_seq ?_; refine pw_region ?_; refine yMd rfl ?_; refine yN rfl ?_; refine yMd rfl ?_; refine yQ ?_; refine pw_block ?_
  refine pw_loop (fun k : Nat => ⟨19, [(0, .d (.sl 2 (l.map dCf))), (1, .d (dF Tryz.prog phC)), (7, .d (dI l.length)), (8, .d (dI k))], [], []⟩) (fun k => k ≤ l.length ∧ ∀ (j : Nat) x, j < k → l[j]? = some x → bigC x = false) (fun k => l.length - k) 0 ⟨Nat.zero_le _, fun j x hj => by omega⟩ ⟨rfl, ⟨.refl _, .refl _, .of_eq (congrArg (fun n : Nat => SV.d (dI n)) (by simp)), .refl _, trivial⟩, trivial, trivial, rfl⟩ ?_
  rintro k ⟨hk, h0⟩
  rcases Nat.lt_or_ge k l.length with h | h
  · have u1 : decide ((k : Int) < (l.length : Int)) = true := decide_eq_true (by omega)
    obtain ⟨x, hx⟩ : ∃ a, l[k]? = some a := ⟨_, List.getElem?_eq_getElem h⟩
    have ek := ix dCf l k k x rfl hx
    have hw1 := wrapI ((k : Int) + 1) (by omega)
    have hph : phC [.agg (dCf x)] (.d (dB (bigC x))) := ⟨x, rfl, rfl⟩
    obtain ⟨b, hb⟩ : ∃ b, b = bigC x := ⟨_, rfl⟩
    rw [← hb] at hph
    obtain ⟨x0, x1⟩ := x
    cases b with
    | false =>
      refine pw_seq ?_; refine pw_region ?_; refine yB rfl rfl rfl rfl ?_; refine yQ ?_; refine pw_seq ?_; rw [u1]; refine pw_ct rfl ?_; refine pw_skip ?_; refine pw_seq ?_; refine pw_block ?_; refine pw_seq ?_; refine pw_region ?_
      refine yMd rfl ?_; refine yAd rfl ?_; refine yQ ?_; refine pw_seq ?_; refine pw_region ?_; refine yMd rfl ?_; refine yMd rfl ?_; refine yMd rfl ?_; refine yW ek (by omega) rfl rfl ?_; refine yLs (ys := [_, _]) rfl rfl rfl ?_
      refine yCv hph rfl rfl rfl ?_; refine yQ ?_; refine pw_cf rfl ?_; refine pw_skip ?_; refine pw_region ?_; refine yB rfl rfl rfl rfl ?_; refine yMd rfl ?_; refine yQ ?_; refine q_then ?_
      refine ⟨k + 1, ⟨by omega, fun j y hj hy => ?_⟩, by omega, rfl, ⟨.refl _, .refl _, .refl _, .of_eq (congrArg (fun n => SV.d (dI n)) hw1), trivial⟩, trivial, trivial, rfl⟩
      by_cases e : j = k
      · subst e; rw [hx] at hy; cases hy; exact hb.symm
      · exact h0 j y (by omega) hy
    | true =>
      have e : ixPC l = k := by
        have : l.findIdx? bigC = some k := by
          rw [List.findIdx?_eq_some_iff_getElem]
          refine ⟨h, ?_, fun j hj => ?_⟩
          · rw [List.getElem?_eq_getElem h] at hx; rw [Option.some.inj hx]; exact hb.symm
          · have := h0 j _ hj (List.getElem?_eq_getElem (by omega)); rw [this]; simp
        rw [ixPC, this]
      rw [e]
      refine pw_seq ?_; refine pw_region ?_; refine yB rfl rfl rfl rfl ?_; refine yQ ?_; refine pw_seq ?_; rw [u1]; refine pw_ct rfl ?_; refine pw_skip ?_; refine pw_seq ?_; refine pw_block ?_; refine pw_seq ?_; refine pw_region ?_
      refine yMd rfl ?_; refine yAd rfl ?_; refine yQ ?_; refine pw_seq ?_; refine pw_region ?_; refine yMd rfl ?_; refine yMd rfl ?_; refine yMd rfl ?_; refine yW ek (by omega) rfl rfl ?_; refine yLs (ys := [_, _]) rfl rfl rfl ?_
      refine yCv hph rfl rfl rfl ?_; refine yQ ?_; refine pw_ct rfl ?_; refine pw_seq ?_; refine pw_region ?_; refine yMd rfl ?_; refine yAd rfl ?_; refine yQ ?_; refine pw_ret ?_; refine q_blk_ret ?_; refine q_then_ret ?_
      refine q_then_ret ?_; refine q_blk_ret ?_; refine q_then_ret ?_
      exact q_ret _ (.tmp rfl .nil) rfl
  · have u1 : decide ((k : Int) < (l.length : Int)) = false := decide_eq_false (by omega)
    have e : ixPC l = -1 := by
      have : l.findIdx? bigC = none := by
        rw [List.findIdx?_eq_none_iff]
        intro x hx
        obtain ⟨j, hj⟩ := List.mem_iff_getElem?.1 hx
        exact h0 j x (by have := (List.getElem?_eq_some_iff.1 hj).1; omega) hj
      rw [ixPC, this]
    rw [e]
    refine pw_seq ?_; refine pw_region ?_; refine yB rfl rfl rfl rfl ?_; refine yQ ?_; refine pw_seq ?_; rw [u1]; refine pw_cf rfl ?_; refine pw_exit ?_; refine pw_seq ?_; refine pw_region ?_; refine yAd rfl ?_; refine yQ ?_
    refine pw_ret ?_
    exact q_ret _ (.tmp rfl .nil) rfl
set_option maxRecDepth 20000 in
set_option maxHeartbeats 1000000 in
theorem wHasC (l : List Cf) (hl : l.length ≤ 1000000) : PCalls Tryz.prog 39 [.sl 2 (l.map dCf), dF Tryz.prog phC] (.d (dB (l.any bigC))) := by
  have c1 := wIxC l hl
  rw [← ixPC_any]
  obtain ⟨n, hn⟩ : ∃ n, n = ixPC l := ⟨_, rfl⟩
  rw [← hn] at c1 ⊢
  refine pcalls_of_pw Tryz.func39 rfl Tryz.ntmps39 Tryz.results39 (by simp) fun B w0 => ?_
  refine pw_seq ?_; refine pw_region ?_; refine yAd rfl ?_; refine yQ ?_; refine pw_seq ?_; refine pw_region ?_; refine yMd rfl ?_; refine yMd rfl ?_; refine yC (c1) rfl rfl ?_; refine yB rfl rfl rfl rfl ?_; refine yAd rfl ?_
  refine yQ ?_; refine pw_ret ?_
  exact q_ret _ (.tmp rfl .nil) rfl

def ixPT (l : List Cf) : Int := match l.findIdx? bigC with | some i => i | none => -1
/-- expressions that are too large -/
def bigE (l : List Cf) : Bool := (decide (10 < l.length) && decide (l.length ≤ 16)) || decide (18 < l.length) || l.any bigC
abbrev dEl (l : List Cf) : List DV := [.sl 2 (l.map dCf)]
def phE (xs : List DV) (r : SV) : Prop := ∃ l : List Cf, xs = dEl l ∧ r = .d (dB (bigE l))
set_option maxRecDepth 20000 in
set_option maxHeartbeats 1000000 in
theorem wBigE (l : List Cf) : PCalls Tryz.prog 38 (dEl l) (.d (dB (bigE l))) := by
  have hb : bigE l = ((decide (10 < l.length) && decide (l.length ≤ 16)) || decide (18 < l.length) || l.any bigC) := rfl
  obtain ⟨r, hr⟩ : ∃ r, r = bigE l := ⟨_, rfl⟩
  rw [← hr] at hb ⊢
  clear hr
  by_cases h1 : 10 < l.length
  · have t1 : decide (((l.map dCf).length : Int) > 10) = true := decide_eq_true (by rw [List.length_map]; omega)
    by_cases h2 : l.length ≤ 16
    · have t2 : decide (((l.map dCf).length : Int) ≤ 16) = true := decide_eq_true (by rw [List.length_map]; omega)
      rw [decide_eq_true h1, decide_eq_true h2] at hb
      have hb : r = true := by simpa using hb
      subst hb
      refine pcalls_of_pw Tryz.func38 rfl Tryz.ntmps38 Tryz.results38 (by simp) fun B w0 => ?_
      refine pw_seq ?_; refine pw_region ?_; refine yAd rfl ?_; refine yQ ?_; refine pw_seq ?_; refine pw_region ?_; refine yMd rfl ?_; refine yN rfl ?_; refine yB rfl rfl rfl rfl ?_; refine yMd rfl ?_; rw [t1]; refine yMd rfl ?_
      refine yN rfl ?_; refine yB rfl rfl rfl rfl ?_; refine yPd rfl rfl ?_; refine yMd rfl ?_; rw [t2]; refine yO rfl ?_; refine yO rfl ?_; refine yO rfl ?_; refine yPd rfl rfl ?_; refine yMd rfl ?_; refine yO rfl ?_; refine yO rfl ?_
      refine yPd rfl rfl ?_; refine yAd rfl ?_; refine yQ ?_; refine pw_ret ?_
      exact q_ret _ (.tmp rfl .nil) rfl
    · have t2 : decide (((l.map dCf).length : Int) ≤ 16) = false := decide_eq_false (by rw [List.length_map]; omega)
      by_cases h3 : 18 < l.length
      · have t3 : decide (((l.map dCf).length : Int) > 18) = true := decide_eq_true (by rw [List.length_map]; omega)
        rw [decide_eq_true h3] at hb
        have hb : r = true := by simpa using hb
        subst hb
        refine pcalls_of_pw Tryz.func38 rfl Tryz.ntmps38 Tryz.results38 (by simp) fun B w0 => ?_
        refine pw_seq ?_; refine pw_region ?_; refine yAd rfl ?_; refine yQ ?_; refine pw_seq ?_; refine pw_region ?_; refine yMd rfl ?_; refine yN rfl ?_; refine yB rfl rfl rfl rfl ?_; refine yMd rfl ?_; rw [t1]; refine yMd rfl ?_
        refine yN rfl ?_; refine yB rfl rfl rfl rfl ?_; refine yPd rfl rfl ?_; refine yMd rfl ?_; rw [t2]; refine yMd rfl ?_; refine yN rfl ?_; refine yB rfl rfl rfl rfl ?_; refine yVd rfl rfl ?_; refine yMd rfl ?_; rw [t3]
        refine yO rfl ?_; refine yO rfl ?_; refine yPd rfl rfl ?_; refine yAd rfl ?_; refine yQ ?_; refine pw_ret ?_
        exact q_ret _ (.tmp rfl .nil) rfl
      · have t3 : decide (((l.map dCf).length : Int) > 18) = false := decide_eq_false (by rw [List.length_map]; omega)
        have c1 := wHasC l (by omega)
        rw [decide_eq_false h2, decide_eq_false h3] at hb
        have hb : r = l.any bigC := by simpa using hb
        rw [← hb] at c1
        clear hb
        refine pcalls_of_pw Tryz.func38 rfl Tryz.ntmps38 Tryz.results38 (by simp) fun B w0 => ?_
        refine pw_seq ?_; refine pw_region ?_; refine yAd rfl ?_; refine yQ ?_; refine pw_seq ?_; refine pw_region ?_; refine yMd rfl ?_; refine yN rfl ?_; refine yB rfl rfl rfl rfl ?_; refine yMd rfl ?_; rw [t1]; refine yMd rfl ?_
        refine yN rfl ?_; refine yB rfl rfl rfl rfl ?_; refine yPd rfl rfl ?_; refine yMd rfl ?_; rw [t2]; refine yMd rfl ?_; refine yN rfl ?_; refine yB rfl rfl rfl rfl ?_; refine yVd rfl rfl ?_; refine yMd rfl ?_; rw [t3]
        refine yMd rfl ?_; refine yCf c1 (.d rfl (.fn inferInstance rfl rfl hPhC .nil)) rfl ?_; refine yVd rfl rfl ?_; refine yAd rfl ?_; refine yQ ?_; refine pw_ret ?_
        exact q_ret _ (.tmp rfl .nil) rfl
  · have t1 : decide (((l.map dCf).length : Int) > 10) = false := decide_eq_false (by rw [List.length_map]; omega)
    have t3 : decide (((l.map dCf).length : Int) > 18) = false := decide_eq_false (by rw [List.length_map]; omega)
    have c1 := wHasC l (by omega)
    rw [decide_eq_false h1, decide_eq_false (show ¬ 18 < l.length by omega)] at hb
    have hb : r = l.any bigC := by simpa using hb
    rw [← hb] at c1
    clear hb
    refine pcalls_of_pw Tryz.func38 rfl Tryz.ntmps38 Tryz.results38 (by simp) fun B w0 => ?_
    refine pw_seq ?_; refine pw_region ?_; refine yAd rfl ?_; refine yQ ?_; refine pw_seq ?_; refine pw_region ?_; refine yMd rfl ?_; refine yN rfl ?_; refine yB rfl rfl rfl rfl ?_; refine yMd rfl ?_; rw [t1]; refine yO rfl ?_
    refine yO rfl ?_; refine yO rfl ?_; refine yVd rfl rfl ?_; refine yMd rfl ?_; refine yMd rfl ?_; refine yN rfl ?_; refine yB rfl rfl rfl rfl ?_; refine yVd rfl rfl ?_; refine yMd rfl ?_; rw [t3]; refine yMd rfl ?_
    refine yCf c1 (.d rfl (.fn inferInstance rfl rfl hPhC .nil)) rfl ?_; refine yVd rfl rfl ?_; refine yAd rfl ?_; refine yQ ?_; refine pw_ret ?_
    exact q_ret _ (.tmp rfl .nil) rfl

theorem hPhE : ∀ xs r, phE xs r → PCalls Tryz.prog 38 (xs ++ ([] : List (List DV)).map DV.ref) r := by
  rintro _ _ ⟨c, rfl, rfl⟩
  exact wBigE c
def ixPE (l : List (List Cf)) : Int := match l.findIdx? bigE with | some i => i | none => -1
theorem ixPE_any (l : List (List Cf)) : decide (ixPE l ≥ 0) = l.any bigE := by
  rw [ixPE]
  cases e : l.findIdx? bigE with
  | none =>
    rw [List.findIdx?_eq_none_iff] at e
    have : l.any bigE = false := by rw [List.any_eq_false]; intro x hx; rw [e x hx]; simp
    rw [this]; rfl
  | some i =>
    rw [List.findIdx?_eq_some_iff_getElem] at e
    obtain ⟨h1, h2, -⟩ := e
    have : l.any bigE = true := List.any_eq_true.2 ⟨_, List.getElem_mem h1, h2⟩
    rw [this]; simp
set_option maxRecDepth 20000 in
set_option maxHeartbeats 1000000 in
theorem wIxE (l : List (List Cf)) (hl : l.length ≤ 1000000) : PCalls Tryz.prog 69 [.sl 1 (l.map dEl), dF Tryz.prog phE] (.d (dI (ixPE l))) := by
  refine pcalls_of_pw Tryz.func69 rfl Tryz.ntmps69 Tryz.results69 (by simp) fun B w0 => ?_
  refine pw_seq ?_; refine pw_region ?_; refine yAd rfl ?_; refine yQ ?_; refine pw_seq ?_; refine pw_seq ?_; refine pw_region ?_; refine yMd rfl ?_; refine yN rfl ?_; refine yMd rfl ?_; refine yQ ?_; refine pw_block ?_
  refine pw_loop (fun k : Nat => ⟨19, [(0, .d (.sl 1 (l.map dEl))), (1, .d (dF Tryz.prog phE)), (7, .d (dI l.length)), (8, .d (dI k))], [], []⟩) (fun k => k ≤ l.length ∧ ∀ (j : Nat) x, j < k → l[j]? = some x → bigE x = false) (fun k => l.length - k) 0 ⟨Nat.zero_le _, fun j x hj => by omega⟩ ⟨rfl, ⟨.refl _, .refl _, .of_eq (congrArg (fun n : Nat => SV.d (dI n)) (by simp)), .refl _, trivial⟩, trivial, trivial, rfl⟩ ?_
  rintro k ⟨hk, h0⟩
  rcases Nat.lt_or_ge k l.length with h | h
  · have u1 : decide ((k : Int) < (l.length : Int)) = true := decide_eq_true (by omega)
    obtain ⟨x, hx⟩ : ∃ a, l[k]? = some a := ⟨_, List.getElem?_eq_getElem h⟩
    have ek := ix dEl l k k x rfl hx
    have hw1 := wrapI ((k : Int) + 1) (by omega)
    have hph : phE [.sl 2 (x.map dCf)] (.d (dB (bigE x))) := ⟨x, rfl, rfl⟩
    obtain ⟨b, hb⟩ : ∃ b, b = bigE x := ⟨_, rfl⟩
    rw [← hb] at hph
    skip
    cases b with
    | false =>
      refine pw_seq ?_; refine pw_region ?_; refine yB rfl rfl rfl rfl ?_; refine yQ ?_; refine pw_seq ?_; rw [u1]; refine pw_ct rfl ?_; refine pw_skip ?_; refine pw_seq ?_; refine pw_block ?_; refine pw_seq ?_; refine pw_region ?_
      refine yMd rfl ?_; refine yAd rfl ?_; refine yQ ?_; refine pw_seq ?_; refine pw_region ?_; refine yMd rfl ?_; refine yMd rfl ?_; refine yMd rfl ?_; refine yW ek (by omega) rfl rfl ?_; refine yLr rfl rfl ?_
      refine yCv hph rfl rfl rfl ?_; refine yQ ?_; refine pw_cf rfl ?_; refine pw_skip ?_; refine pw_region ?_; refine yB rfl rfl rfl rfl ?_; refine yMd rfl ?_; refine yQ ?_; refine q_then ?_
      refine ⟨k + 1, ⟨by omega, fun j y hj hy => ?_⟩, by omega, rfl, ⟨.refl _, .refl _, .refl _, .of_eq (congrArg (fun n => SV.d (dI n)) hw1), trivial⟩, trivial, trivial, rfl⟩
      by_cases e : j = k
      · subst e; rw [hx] at hy; cases hy; exact hb.symm
      · exact h0 j y (by omega) hy
    | true =>
      have e : ixPE l = k := by
        have : l.findIdx? bigE = some k := by
          rw [List.findIdx?_eq_some_iff_getElem]
          refine ⟨h, ?_, fun j hj => ?_⟩
          · rw [List.getElem?_eq_getElem h] at hx; rw [Option.some.inj hx]; exact hb.symm
          · have := h0 j _ hj (List.getElem?_eq_getElem (by omega)); rw [this]; simp
        rw [ixPE, this]
      rw [e]
      refine pw_seq ?_; refine pw_region ?_; refine yB rfl rfl rfl rfl ?_; refine yQ ?_; refine pw_seq ?_; rw [u1]; refine pw_ct rfl ?_; refine pw_skip ?_; refine pw_seq ?_; refine pw_block ?_; refine pw_seq ?_; refine pw_region ?_
      refine yMd rfl ?_; refine yAd rfl ?_; refine yQ ?_; refine pw_seq ?_; refine pw_region ?_; refine yMd rfl ?_; refine yMd rfl ?_; refine yMd rfl ?_; refine yW ek (by omega) rfl rfl ?_; refine yLr rfl rfl ?_
      refine yCv hph rfl rfl rfl ?_; refine yQ ?_; refine pw_ct rfl ?_; refine pw_seq ?_; refine pw_region ?_; refine yMd rfl ?_; refine yAd rfl ?_; refine yQ ?_; refine pw_ret ?_; refine q_blk_ret ?_; refine q_then_ret ?_
      refine q_then_ret ?_; refine q_blk_ret ?_; refine q_then_ret ?_
      exact q_ret _ (.tmp rfl .nil) rfl
  · have u1 : decide ((k : Int) < (l.length : Int)) = false := decide_eq_false (by omega)
    have e : ixPE l = -1 := by
      have : l.findIdx? bigE = none := by
        rw [List.findIdx?_eq_none_iff]
        intro x hx
        obtain ⟨j, hj⟩ := List.mem_iff_getElem?.1 hx
        exact h0 j x (by have := (List.getElem?_eq_some_iff.1 hj).1; omega) hj
      rw [ixPE, this]
    rw [e]
    refine pw_seq ?_; refine pw_region ?_; refine yB rfl rfl rfl rfl ?_; refine yQ ?_; refine pw_seq ?_; rw [u1]; refine pw_cf rfl ?_; refine pw_exit ?_; refine pw_seq ?_; refine pw_region ?_; refine yAd rfl ?_; refine yQ ?_
    refine pw_ret ?_
    exact q_ret _ (.tmp rfl .nil) rfl
set_option maxRecDepth 20000 in
set_option maxHeartbeats 1000000 in
theorem wHasE (l : List (List Cf)) (hl : l.length ≤ 1000000) : PCalls Tryz.prog 37 [.sl 1 (l.map dEl), dF Tryz.prog phE] (.d (dB (l.any bigE))) := by
  have c1 := wIxE l hl
  rw [← ixPE_any]
  obtain ⟨n, hn⟩ : ∃ n, n = ixPE l := ⟨_, rfl⟩
  rw [← hn] at c1 ⊢
  refine pcalls_of_pw Tryz.func37 rfl Tryz.ntmps37 Tryz.results37 (by simp) fun B w0 => ?_
  refine pw_seq ?_; refine pw_region ?_; refine yAd rfl ?_; refine yQ ?_; refine pw_seq ?_; refine pw_region ?_; refine yMd rfl ?_; refine yMd rfl ?_; refine yC (c1) rfl rfl ?_; refine yB rfl rfl rfl rfl ?_; refine yAd rfl ?_
  refine yQ ?_; refine pw_ret ?_
  exact q_ret _ (.tmp rfl .nil) rfl

set_option maxRecDepth 20000 in
theorem wGreatE (css : List (List Cf)) (hl : css.length ≤ 1000) : PCalls Tryz.prog 11 [.sl 1 (css.map dEl)] (.d (dB (css.any bigE))) := by
  have c1 := wHasE css (by omega)
  obtain ⟨b, hb⟩ : ∃ b, b = css.any bigE := ⟨_, rfl⟩
  rw [← hb] at c1 ⊢
  refine pcalls_of_pw Tryz.func11 rfl Tryz.ntmps11 Tryz.results11 (by simp) fun B w0 => ?_
  refine pw_seq ?_; refine pw_region ?_; refine yAd rfl ?_; refine yQ ?_; refine pw_seq ?_; refine pw_region ?_; refine yMd rfl ?_; refine yCf c1 (.d rfl (.fn inferInstance rfl rfl hPhE .nil)) rfl ?_; refine yAd rfl ?_; refine yQ ?_
  refine pw_ret ?_
  exact q_ret _ (.tmp rfl .nil) rfl
/-- amounts that are too large -/
def manyB (L : List Cf) : Bool := decide (12 < L.length) || L.any bigC
def awE : List Cf := [([112, 114, 111, 99, 101, 101, 100, 115], [49]), ([99, 111, 115, 116], [45, 49]), ([102, 101, 101], [50])]
def awL : List Cf := [([99, 111, 115, 116], [55, 48]), ([102, 101, 101], [53]), ([112, 114, 111, 99, 101, 101, 100, 115], [49, 48, 48])]
theorem aw1 : chE awE = 0 := by kernel_rfl
theorem mSort_eq {l t : List Str} (hp : l.Perm t) (ht : t.Pairwise fun x y => ltS y x = false) : mSort l = t := by
  refine List.Perm.eq_of_pairwise (le := fun x y : Str => ltS y x = false) (fun x y _ _ h1 h2 => ?_) (mSort_up l) ht ((List.mergeSort_perm l _).trans hp)
  rcases ltS_total x y with h | h | h
  · rw [h] at h2; cases h2
  · exact h
  · rw [h] at h1; cases h1
theorem aw0 : nf awE = [([99, 111, 115, 116], [45, 49]), ([102, 101, 101], [50]), ([112, 114, 111, 99, 101, 101, 100, 115], [49])] := by
  have h1 : (sumM awE awE.length).map (·.1) = [[112, 114, 111, 99, 101, 101, 100, 115], [99, 111, 115, 116], [102, 101, 101]] := by kernel_rfl
  have h2 : mSort [[112, 114, 111, 99, 101, 101, 100, 115], [99, 111, 115, 116], [102, 101, 101]] = [[99, 111, 115, 116], [102, 101, 101], [112, 114, 111, 99, 101, 101, 100, 115]] := mSort_eq (by decide) (by decide)
  have h3 : [[99, 111, 115, 116], [102, 101, 101], [112, 114, 111, 99, 101, 101, 100, 115]].filterMap (keep (sumM awE awE.length)) = [([99, 111, 115, 116], [45, 49]), ([102, 101, 101], [50]), ([112, 114, 111, 99, 101, 101, 100, 115], [49])] := by kernel_rfl
  rw [nf, h1, h2]
  exact h3
theorem aw2 : prV awE = [45, 99, 111, 115, 116, 32, 43, 32, 50, 42, 102, 101, 101, 32, 43, 32, 112, 114, 111, 99, 101, 101, 100, 115] := by
  rw [prV, if_pos aw1, aw0]
  kernel_rfl
theorem aw3 : evE awE awL = 0 := by
  rw [evE, aw0]
  kernel_rfl
theorem aw4 : evV awE awL = [52, 48] := by
  rw [evV, aw3, if_pos rfl, aw0]
  kernel_rfl
set_option maxRecDepth 20000 in
set_option maxHeartbeats 1000000 in
theorem wAwake : PCalls Tryz.prog 13 [] (.d (dB true)) := by
  have c1 := wPrintE awE (by simp [awE]) (by simp [awE])
  have c2 := wEval awE awL (by simp [awE]) (by simp [awE]) (by simp [awL]) (by simp [awL])
  rw [aw1, aw2] at c1
  rw [aw3, aw4] at c2
  refine pcalls_of_pw Tryz.func13 rfl Tryz.ntmps13 Tryz.results13 (by simp) fun B w0 => ?_
  refine pw_seq ?_; refine pw_region ?_; refine yAd rfl ?_; refine yQ ?_; refine pw_seq ?_; refine pw_region ?_; refine yG (ys := [_, _]) rfl rfl ?_; refine yG (ys := [_, _]) rfl rfl ?_; refine yG (ys := [_, _]) rfl rfl ?_
  refine yR (es := [[_, _], [_, _], [_, _]]) rfl rfl rfl rfl rfl ?_; refine yAd rfl ?_; refine yQ ?_; refine pw_seq ?_; refine pw_region ?_; refine yMd rfl ?_; refine yC (c1) rfl rfl ?_; refine yMp rfl ?_; refine yX rfl rfl ?_
  refine yX rfl rfl ?_; refine yAd rfl ?_; refine yAd rfl ?_; refine yQ ?_; refine pw_seq ?_; refine pw_region ?_; refine yMd rfl ?_; refine yG (ys := [_, _]) rfl rfl ?_; refine yG (ys := [_, _]) rfl rfl ?_
  refine yG (ys := [_, _]) rfl rfl ?_; refine yR (es := [[_, _], [_, _], [_, _]]) rfl rfl rfl rfl rfl ?_; refine yC (c2) rfl rfl ?_; refine yMp rfl ?_; refine yX rfl rfl ?_; refine yX rfl rfl ?_; refine yAd rfl ?_; refine yAd rfl ?_
  refine yQ ?_; refine pw_seq ?_; refine pw_region ?_; refine yMd rfl ?_; refine yB rfl rfl rfl rfl ?_; refine yMd rfl ?_; refine yMd rfl ?_; refine yB rfl rfl rfl rfl ?_; refine yPd rfl rfl ?_; refine yMd rfl ?_; refine yMd rfl ?_
  refine yBse rfl rfl ?_; refine yPd rfl rfl ?_; refine yMd rfl ?_; refine yMd rfl ?_; refine yBse rfl rfl ?_; refine yPd rfl rfl ?_; refine yAd rfl ?_; refine yQ ?_; refine pw_ret ?_
  exact q_ret _ (.tmp rfl .nil) rfl
end Go.Proofs.YtmfeinilbjfnpaaGreatDoor
namespace Go.Proofs.YtmfeinilbjfnpaaGreatDoor
open Go.RowKit Px

theorem bigE_small {l : List Cf} (h : bigE l = false) : l.length ≤ 18 ∧ (l.length ≤ 10 ∨ 16 < l.length) ∧ ∀ c ∈ l, c.1.length ≤ 20 ∧ c.2.length ≤ 20 := by
  unfold bigE at h
  simp only [Bool.or_eq_false_iff, Bool.and_eq_false_iff, decide_eq_false_iff_not, List.any_eq_false] at h
  obtain ⟨⟨h1, h2⟩, h3⟩ := h
  refine ⟨by omega, by omega, fun c hc => ?_⟩
  have := h3 c hc
  unfold bigC at this
  simp only [Bool.or_eq_true, decide_eq_true_eq, not_or] at this
  omega
abbrev m1T : Str := [45, 49]
end Go.Proofs.YtmfeinilbjfnpaaGreatDoor
namespace Go.Proofs.YtmfeinilbjfnpaaGreatDoor
theorem and_mk {a b : Bool} (h : a = true) (h' : b = true) : (a && b) = true := by rw [h, h']; rfl
theorem sharedfact1 : laidOutB Tryz.prog = true := by kernel_rfl
theorem sharedfact2 : mapsRowed Tryz.prog = true := by kernel_rfl
theorem sharedfact6 : (Tryz.prog.stops == []) = true := by kernel_rfl
theorem sharedfact8 : (Tryz.prog.stopKnobs == []) = true := by kernel_rfl
theorem sharedplainKeys : Tryz.prog.plainKeys = true := by kernel_rfl
theorem sharedfact24 : Tryz.prog.stopsHeard = true := by kernel_rfl
theorem sharedfact25 : Tryz.prog.mayEnter = true := by kernel_rfl
theorem sharedliftsFinal : Tryz.prog.liftsFinal = false := by kernel_rfl
end Go.Proofs.YtmfeinilbjfnpaaGreatDoor
