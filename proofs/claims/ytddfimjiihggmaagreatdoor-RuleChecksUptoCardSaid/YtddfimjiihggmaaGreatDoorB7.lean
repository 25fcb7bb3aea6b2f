/- A rule for strings.Builder's String: what its row holds, as a string; the builder and its row are told no more. -/
import Derived.Test.YtddfimjiihggmaaGreatDoorB6
import Derived.Lib.AppendIntMem
set_option maxHeartbeats 16000000
set_option maxRecDepth 20000
namespace Go.Proofs.YtddfimjiihggmaaGreatDoor.Px
open Go.RowKit Go.Shelf
variable {g : Gh}
theorem Bk (w : World) (a : Addr) (n b : Nat) (h : b ≠ a.block) : (w.freeze a n).heap[b]? = w.heap[b]? := by
 unfold World.freeze
 split
 · rfl
 · simp only [Array.getElem?_modify]
   rw [B9 (fun e => h e.symm)]
theorem Jt (w : World) (a : Addr) (n : Nat) : (w.freeze a n).heap.size = w.heap.size := by
 unfold World.freeze
 split
 · rfl
 · simp
theorem frz_see (w : World) (a : Addr) (n b o : Nat) : W8 (w.freeze a n) b o = W8 w b o := by
 by_cases h : b = a.block
 · subst h
   unfold World.freeze
   split
   · rfl
   · unfold W8
     simp only [Array.getElem?_modify, if_true]
     cases w.heap[a.block]? with
     | none => rfl
     | some x => cases x <;> rfl
 · exact K6 (Bk w a n b h) o
theorem HA (w : World) (a : Addr) (n b : Nat) : (w.freeze a n).shape? b = w.shape? b := by
 by_cases h : b = a.block
 · subst h
   unfold World.freeze
   split
   · rfl
   · unfold World.shape?
     simp only [Array.getElem?_modify, if_true]
     cases w.heap[a.block]? with
     | none => rfl
     | some x => cases x <;> rfl
 · exact J3 (Bk w a n b h)
def PS.tdel (st : PS) (t : Nat) : PS := { st with t := st.t.filter fun p => !Nat.beq p.1 t }
theorem JD (st : PS) (t j : Nat) : (st.tdel t).tget j = if j = t then none else st.tget j := Bp st.t t j
def Gh.delt (g : Gh) (t : Nat) : Gh := { g with tk := fun j => if j = t then none else g.tk j }
theorem Gh.delt_tk {t j : Nat} {T : Tk} (h : (g.delt t).tk j = some T) : g.tk j = some T ∧ j ≠ t := by
 simp only [Gh.delt] at h
 split at h
 · cases h
 · rename_i e; exact ⟨h, e⟩
theorem IE {w w' : World} {base E k n : Nat} {v : Value} {xs : List Value} (h : w.ownsRow base E k v n xs) (hh : ∀ b, v.ownBlock = some b → w'.heap[b]? = w.heap[b]?) : w'.ownsRow base E k v n xs := by
 refine ⟨h.1, ?_⟩
 rcases h.2 with h1 | ⟨g, cap, cur, h1, h2, h3, h4⟩
 · exact .inl h1
 · exact .inr ⟨g, cap, cur, h1, h2, (hh g (by rw [h1]; rfl)).trans h3, h4⟩
theorem Rep.frz {B : Nat} {w0 : Cx} {st : PS} {a : Act} {w : World} (h : Rep B w0 g st a w) {t gb n c : Nat} {T : Tk} (hT : g.tk t = some T) (hv : T.v = .slice (some ⟨gb, 0, none⟩) n c) (m : Nat) : Rep B w0 (g.delt t) (st.tdel t) a (w.freeze ⟨gb, 0, none⟩ m) := by
 have hob : T.v.ownBlock = some gb := by rw [hv]; rfl
 have ev : Evo g w (g.delt t) (w.freeze ⟨gb, 0, none⟩ m) := ⟨Lib.below_freeze (Below.refl 0 w) (D9 _) m, rfl, fun b o hf _ => ⟨⟨hf.1, hf.2.1, fun t' T' n' c' q1 q2 => hf.2.2 t' T' n' c' (Gh.delt_tk q1).1 q2⟩, frz_see _ _ _ _ _⟩, fun b hb => Bk _ _ _ _ fun e => hb (.inr (.inr ⟨t, T, hT, by rw [hob, e]⟩)), fun _ _ h => .inl h, fun _ T' h' => .inl ⟨T', (Gh.delt_tk h').1, .inl rfl⟩, fun t' T' _ h' hb => .inr (.inr ⟨t', T', (Gh.delt_tk h').1, hb⟩), fun _ _ _ _ _ => HA _ _ _ _⟩
 have srep : ∀ v x, SRep g w v x → SRep (g.delt t) (w.freeze ⟨gb, 0, none⟩ m) v x := fun v x hx =>
  hx.extp ev.fx (fun _ _ _ h => h) (fun t' k es _ T' hT' => ⟨T', (Gh.delt_tk hT').1, .inl rfl⟩) fun _ _ _ _ => HA _ _ _ _
 have hne : ∀ i b, g.bl i = some b → (w.freeze ⟨gb, 0, none⟩ m).heap[b]? = w.heap[b]? := fun i b hi => Bk _ _ _ _ fun e => (h.toks t T hT).2 i gb hob (by rw [hi, e])
 refine { h with evo := h.evo.trans ev, defers := h.defers.evo ev, base := by rw [Jt]; exact h.base, f0 := h.f0, lim := h.lim, size := h.size, slots := fun j => srep _ _ (h.slots j), glob := fun q cs hq => srep _ (.rd cs) (h.glob q cs hq), boxes := fun j cs hj hlt => ?_, maps := fun j ms hj hge => ?_, blk := fun j b hj => ⟨(h.blk j b hj).1, by rw [Jt]; exact (h.blk j b hj).2⟩, dom := h.dom, inj := h.inj, toks := fun t' T' hT' => ?_, tf0 := fun t' T' b o hT' hb => h.tf0 t' T' b o (Gh.delt_tk hT').1 hb, telt := fun t' T' hT' => h.telt t' T' (Gh.delt_tk hT').1, tdis := fun t1 t2 T1 T2 b h1 h2 => h.tdis t1 t2 T1 T2 b (Gh.delt_tk h1).1 (Gh.delt_tk h2).1, tdom := fun t' T' hT' => ?_, tlen := fun t' n' ht' => ?_ }
 · obtain ⟨b, xs, T0, h2, h3, h4, h5, h6⟩ := h.boxes j cs hj hlt
   refine ⟨b, xs, T0, h2, (hne j b h2).trans h3, h4, fun q c0 hq => ?_, h6⟩
   obtain ⟨x, h8, h9⟩ := h5 q c0 hq
   exact ⟨x, h8, srep _ _ h9⟩
 · obtain ⟨b, es, c0, h4, h5, h6⟩ := h.maps j ms hj hge
   exact ⟨b, es, c0, h4, (hne j b h4).trans h5, h6.mono ev.fx⟩
 · obtain ⟨h1, h2⟩ := Gh.delt_tk hT'
   obtain ⟨⟨n', xs, h3⟩, h4⟩ := h.toks t' T' h1
   exact ⟨⟨n', xs, IE h3 fun b hb => Bk _ _ _ _ fun e => h2 (h.tdis t' t T' T gb h1 hT (by rw [hb, e]) hob)⟩, h4⟩
 · obtain ⟨h1, h2⟩ := Gh.delt_tk hT'
   rw [JD, B9 h2]
   exact h.tdom t' T' h1
 · rw [JD] at ht'
   split at ht'
   · cases ht'
   · rename_i e
     obtain ⟨T', A, c0, h1, h2⟩ := h.tlen t' n' ht'
     exact ⟨T', A, c0, by simp only [Gh.delt]; rw [B9 e]; exact h1, h2⟩
set_option maxRecDepth 100000 in
theorem str_raw {P : Program} {ρ : Ren} (L : Lays.n169 P ρ) (X : Builder.Extra P ρ) (b g cap cells : Nat) (l : List UInt8) (w : World) (h0 : l ≠ []) (c0 : w.cell? ⟨b, 1, none⟩ = some (.slice (some ⟨g, 0, none⟩) l.length cap)) (hsh : w.shape? g = some (ρ.t 5, cells)) (hn : l.length ≤ cells) (hcap : l.length ≤ cap) (hm : l.length ≤ 9223372036854775807)
 (hcell : ∀ (j : Nat) x, l[j]? = some x → w.cell? ((⟨g, 0, none⟩ : Addr).add j) = some (.int .u8 x.toNat)) :
 Calls P (ρ.f 169) #[.pointer (some ⟨b, 0, none⟩)] w fun e w' => e = .returned (.string ⟨l.toArray⟩) ∧ w' = w.drew.freeze ⟨g, 0, none⟩ l.length := by
 have hl0 : l.length ≠ 0 := by simpa using h0
 have c1 : w.drew.cell? ⟨b, 1, none⟩ = some (.slice (some ⟨g, 0, none⟩) l.length cap) := c0
 have hSD : (Builtin.unsafeSliceData_ #[(ρ.t 37)] (ρ.t 127) #[.slice (some ⟨g, 0, none⟩) l.length cap]).run P w.drew = .ok (.pointer (some ⟨g, 0, none⟩)) w.drew :=
  Lib.run_unsafeSliceData_row _ _ _ _ _ _ (by omega)
 have hUS : (Builtin.unsafeString_ #[(ρ.t 127), (ρ.t 3)] (ρ.t 9) #[.pointer (some ⟨g, 0, none⟩), .int .i64 l.length]).run P w.drew = .ok (.string ⟨l.toArray⟩) (w.drew.freeze ⟨g, 0, none⟩ l.length) :=
  Lib.run_unsafeString_row w.drew (ρ.t 127) (ρ.t 3) (ρ.t 9) (ρ.t 5) L.t127 X.cellsByte g cells hsh l h0 hn hm hcell
 have mixed := L.mixed
 have t72 := L.t72; have a72 := L.a72; have z72 := L.z72; have v72 := L.v72; have u72 := run_underlying L.t72
 have t70 := L.t70; have a70 := L.a70; have z70 := L.z70; have v70 := L.v70; have u70 := run_underlying L.t70
 have t37 := L.t37; have a37 := L.a37; have z37 := L.z37; have v37 := L.v37; have u37 := run_underlying L.t37
 have t127 := L.t127; have a127 := L.a127; have z127 := L.z127; have v127 := L.v127; have u127 := run_underlying L.t127
 have t3 := L.t3; have a3 := L.a3; have z3 := L.z3; have v3 := L.v3; have u3 := run_underlying L.t3
 have t9 := L.t9; have a9 := L.a9; have z9 := L.z9; have v9 := L.v9; have u9 := run_underlying L.t9
 have t5 := X.t5; have a5 := X.a5; have z5 := X.z5; have v5 := X.v5; have u5 := run_underlying X.t5
 go_enter L.f169, Body.n169_ntmps ρ
 go_wp2
 go_region_o
 all_goals (go_wp2; go_ret; exact ⟨rfl, V⟩)
section
variable {P : Program} {ops : Array Oper} {K : PS → Prop} {rest : List Oper} {st : PS} {d : Option Nat} {ty : TypeId} {pos : String} {af : Array Edge} {gd : Option (Nat × Bool)}
theorem yStr {f e t : Nat} {l : List UInt8} {es : List (List DV)} {x : Operand} {x0 : SV} {ts : Array TypeId} {ρ : Ren} [hB : HasBody P f] (L : Lays.n169 P ρ) (X : Builder.Extra P ρ) (hf : ρ.f 169 = f) (hE : t / 100000 = ρ.t 5) (h0 : l ≠ []) (hes : es = l.map fun c => [DV.val (.int .u8 c.toNat)]) (hx : st.ev x = .bx e 0) (hi : st.bget e = some [x0, .ts t 1 es]) (ht : st.tget t = some es.length)
 (h : YR P true ops K rest (((st.kill e).tdel t).put d (.d (dS l)))) (hlt : Nat.blt e 500000 = true := by rfl) (hd : I2 ⟨d, .call { callee := .value (.func f), args := #[x], argTypes := ts }, ty, pos, af, gd⟩ st = true := by kernel_rfl) (hw : st.want ops ⟨d, .call { callee := .value (.func f), args := #[x], argTypes := ts }, ty, pos, af, gd⟩ = some true := by rfl) :
 YR P true ops K (⟨d, .call { callee := .value (.func f), args := #[x], argTypes := ts }, ty, pos, af, gd⟩ :: rest) st := by
 subst hf
 refine .any V fun B w0 Q hQ g a w hr => ?_
 have h1 := hr.eval x
 rw [hx] at h1
 obtain ⟨b, hb, hax⟩ := h1
 obtain ⟨b', xs, T0, q1, q2, q3, q4, q5⟩ := hr.boxes e _ hi (C0 hlt)
 rw [hb] at q1
 cases q1
 obtain ⟨x1, q6, q7, q8⟩ := q4 1 (.ts t 1 es) rfl
 obtain ⟨T, A, c, r1, r2⟩ := hr.tlen t _ ht
 obtain ⟨hk, hT⟩ := q8 T r1
 have hx1 : x1 = T.v := (hT A _ c r2).2 rfl
 obtain ⟨⟨n', xs', -, hown⟩, -⟩ := hr.toks t T r1
 have hlen : es.length = l.length := by rw [hes, A7]
 have hl0 : 0 < l.length := List.length_pos_iff.2 h0
 rcases hown with ⟨hv, h00⟩ | ⟨gb, cap, cur, hv, -, hg, hnc, hcm, hcs, -⟩
 · rw [r2] at hv
   have := (Value.slice.inj hv).2.1
   omega
 have hv2 : T.v = .slice (some ⟨gb, 0, none⟩) n' cap := hv
 rw [r2] at hv
 have hn' : es.length = n' := (Value.slice.inj hv).2.1
 obtain ⟨A2, c2, news, s1, -, s3, -, s5, s6, -, s8⟩ := DRep.row q7
 obtain ⟨b2, off2, s9, s10⟩ := s6 (by omega)
 rw [hx1, hv2, s9] at s1
 have hbo : gb = b2 ∧ 0 = off2 := by
  have := J2 (Value.slice.inj s1).1
  cases this
  exact ⟨rfl, V⟩
 obtain ⟨rfl, rfl⟩ := hbo
 have hcell : ∀ (j : Nat) y, l[j]? = some y → w.cell? ((⟨gb, 0, none⟩ : Addr).add j) = some (.int .u8 y.toNat) := fun j y hj => by
  obtain ⟨u, u1, u2⟩ := s8 j 0 [DV.val (.int .u8 y.toNat)] _ (by rw [hes, C6, hj]; rfl) rfl
  rw [Nat.mul_one, Nat.add_zero] at u1
  have := (s10 j u u1).1
  rw [DRep.val_eq u2] at this
  rw [Addr.add_lit]
  exact this
 have hc1 : w.cell? ⟨b, 1, none⟩ = some (.slice (some ⟨gb, 0, none⟩) l.length cap) := by
  have : x1 = .slice (some ⟨gb, 0, none⟩) l.length cap := by rw [hx1, hv2, ← hn', hlen]
  rw [← this]
  simp only [World.cell?, q2, Option.isSome_none, Bool.false_eq_true, if_false]
  exact q6
 have hsh : w.shape? gb = some (ρ.t 5, cur.size) := by
  rw [← hE, ← hr.telt t T r1]
  simp [World.shape?, hg]
 have U0 := str_raw L X b gb cap cur.size l w h0 hc1 hsh (by rw [hcs, hk]; omega) (by omega) (by unfold maxLen at hcm; omega) hcell
 have hrun : (execOp a.eval ⟨d, .call { callee := .value (.func (ρ.f 169)), args := #[x], argTypes := ts }, ty, pos, af, gd⟩).run P w = .ok (.enter (ρ.f 169) #[.pointer (some ⟨b, 0, none⟩)]) w := by
  simp only [execOp, resolve, Act.eval, Deferred.ofValue, Sem.run_bind, Sem.run_pure, D6, invoke]
  rw [hB.run]
  simp [hax]
 unfold wpList
 rw [C5 (M1 hr hw)]
 refine .inl ?_
 unfold Oper.wp
 rw [hrun]
 show Calls P (ρ.f 169) _ w _
 refine U0.mono ?_
 rintro en w' ⟨rfl, rfl⟩
 have r3 : Rep B w0 g st a w.drew := hr.grow (Below.drew (Below.refl _ _))
 have r4 := (r3.kill e).2
 have r5 := r4.frz (t := t) (T := T) r1 hv2 l.length
 exact h.sound hQ (r5.put (x := .d (dS l)) (DRep.val _ V) _ (H6 (st := st) hd))
end
open Go.RowKit
variable {x y : Operand} {T i n te : Nat} {zs : List Value} {l : List UInt8}
section
variable {P : Program} {B : Nat} {w0 : Cx} {Q : Exit → PS → Prop} {st : PS} {c : Code}
theorem pw_tx (s : Nat) (hs : st.get s = .tx i T n) (h : PW P B w0 c Q (st.put (some s) (.bx i 0))) : PW P B w0 c Q st := fun g a w hr => by
 have hv := hr.slots s
 rw [hs] at hv
 obtain ⟨b, h1, h2, -⟩ := hv
 refine h g a w { hr with lim := hr.lim, size := hr.size, boxes := hr.boxes, maps := hr.maps, dom := hr.dom, tdom := hr.tdom, tlen := hr.tlen, glob := hr.glob, slots := fun j => ?_ }
 rw [P6]
 by_cases e : j = s
 · rw [C5 e, e]; exact ⟨b, h1, h2⟩
 · rw [B9 e]; exact hr.slots j
end
section
variable {P : Program} {sq : Bool} {ops : Array Oper} {K : PS → Prop} {rest : List Oper} {st : PS} {d : Option Nat} {ty : TypeId} {pos : String} {af : Array Edge} {gd : Option (Nat × Bool)}
theorem Nf (T : TypeId) {e : Nat} [hz : ZeroOf P T zs] (hi : st.bget e = none) (hd : I2 ⟨some e, .alloc T, ty, pos, af, gd⟩ st = true) :
 L4 P ⟨some e, .alloc T, ty, pos, af, gd⟩ st (.tx e T zs.length) (.box e (zs.map fun z => .d (.val z))) := fun st2 ha => by
 intro B w0 g a w K Q hr hK
 obtain ⟨z, h1, h2⟩ := hz.run w
 have hrun : (execOp a.eval ⟨some e, .alloc T, ty, pos, af, gd⟩).run P w = .ok (.value (.pointer (some ⟨w.heap.size, 0, none⟩))) (w.alloc (.cells zs.toArray T)) := by
  rw [← h2]
  simp [execOp, Instr.alloc, newVar, newRow, go_sem, h1]
 have hin : e < st2.n := H6 (ha.dst hd) e rfl
 have hlim : st2.n ≤ 10000 := hr.lim
 have hrep := hr.newb e T (ha.fresh rfl e rfl e (AJ (by omega)) hi) hin zs.toArray (zs.map fun z => .d (.val z)) (by simp) (fun j c hj => by
  rw [C6, C8] at hj
  obtain ⟨y, h3, rfl⟩ := hj
  exact ⟨y, by simpa using h3, DRep.val y (hz.one y (B7 h3))⟩) (fun u hu => hz.one u (by simpa using hu))
 unfold Oper.wp
 rw [hrun]
 refine hK _ _ _ (hrep.put (x := .tx e T zs.length) ?_ _ (H6 (st := st2.bput e _) (ha.dst hd)))
 refine ⟨w.heap.size, by simp [Gh.addb], rfl, ?_⟩
 unfold World.shape?
 rw [heap_alloc_new]
 simp
theorem yQa {e : Nat} [hz : ZeroOf P T zs] (hi : st.bget e = none)
 (h : YR P sq ops K rest ((st.bput e (zs.map fun z => .d (.val z))).put (some e) (.tx e T zs.length))) (zz : zk ops st ⟨some e, .alloc T, ty, pos, af, gd⟩ (.box e (zs.map fun z => .d (.val z))) = true := by kernel_rfl) :
 YR P sq ops K (⟨some e, .alloc T, ty, pos, af, gd⟩ :: rest) st := Cn (Nf T hi (zd zz)) (zo zz) (zw zz) h
theorem KT (hx : st.ev y = .tx i T n) (h : YR P sq ops K rest (st.put d (.tx i T n))) (zz : zk ops st ⟨d, .move y, ty, pos, af, gd⟩ .no = true := by kernel_rfl) : YR P sq ops K (⟨d, .move y, ty, pos, af, gd⟩ :: rest) st := L0 (lm (x := .tx i T n) hx (zd zz)) (zo zz) (zw zz) h
theorem yQl {i' T' n' : Nat} {off : Nat} {cs : List SV} [AggOf P T false 1] (hx : st.ev y = .bx i off) (hi : st.bget i = some cs) (hc : cs[off]? = some (.tx i' T' n')) (h : YR P sq ops K rest (st.put d (.tx i' T' n'))) (zz : zk ops st ⟨d, .load T y, ty, pos, af, gd⟩ .no = true := by kernel_rfl) (h5 : Nat.blt i 500000 = true := by rfl) : YR P sq ops K (⟨d, .load T y, ty, pos, af, gd⟩ :: rest) st := L0 (IM T y (C0 h5) hx hi hc (zd zz)) (zo zz) (zw zz) h
theorem yQs {i' T' n' : Nat} {z : Operand} {off : Nat} {cs cs' : List SV} [AggOf P T false 1] (hz : st.ev z = .bx i off) (hi : st.bget i = some cs) (hy : st.ev y = .tx i' T' n') (hcs : cs.set off (.tx i' T' n') = cs') (h : YR P sq ops K rest ((st.bput i cs').put d .any)) (hle : Nat.blt off cs.length = true := by kernel_rfl) (zz : zk ops st ⟨d, .store T z y, ty, pos, af, gd⟩ (.box i cs') = true := by kernel_rfl) (h5 : Nat.blt i 500000 = true := by rfl) : YR P sq ops K (⟨d, .store T z y, ty, pos, af, gd⟩ :: rest) st := by subst hcs; exact Cn (Ho (x := .tx i' T' n') (C0 h5) hz hi hy V (C0 hle) (zd zz)) (zo zz) (zw zz) h
theorem ls_nilT (x : Operand) (hx : st.ev x = .tx i T n) (hd : I2 ⟨d, .nilCheck x, ty, pos, af, gd⟩ st = true) : L4 P ⟨d, .nilCheck x, ty, pos, af, gd⟩ st (.bx i 0) .no := fun st2 ha =>
 OpS.value (ha.dst hd) fun _ _ g a w h => by
  have h1 := h.eval x
  rw [ha.ev x (by simp [Op.operands]), hx] at h1
  obtain ⟨b, h2, h3, -⟩ := h1
  refine ⟨.pointer (some ⟨b, 0, none⟩), w, ?_, Below.refl _ _, b, h2, V⟩
  simp [execOp, h3]
theorem yQN (hx : st.ev x = .tx i T n) (h : YR P sq ops K rest (st.put d (.bx i 0))) (zz : zk ops st ⟨d, .nilCheck x, ty, pos, af, gd⟩ .no = true := by kernel_rfl) :
 YR P sq ops K (⟨d, .nilCheck x, ty, pos, af, gd⟩ :: rest) st := L0 (ls_nilT x hx (zd zz)) (zo zz) (zw zz) h
theorem ls_toU (S D : TypeId) (x : Operand) {t : Nat} {j : TypeInfo} (hs : P.underlying S = some (.pointer t)) (hD : P.underlying D = some .unsafePointer) (ht : P.info? t = some j) (hj : j.size ≠ 0) (hn : 0 < n) (hx : st.ev x = .tx i T n) (hd : I2 ⟨d, .convert S D x, ty, pos, af, gd⟩ st = true) : L4 P ⟨d, .convert S D x, ty, pos, af, gd⟩ st (.tx i T n) .no := fun st2 ha =>
 OpS.value (ha.dst hd) fun _ _ g a w h => by
  have h1 := h.eval x
  rw [ha.ev x (by simp [Op.operands]), hx] at h1
  obtain ⟨b, h2, h3, h4⟩ := h1
  refine ⟨.pointer (some ⟨b, 0, none⟩), w, ?_, Below.refl _ _, b, h2, V, h4⟩
  simp [execOp, h3, Lib.run_to_unsafe w ⟨b, 0, none⟩ hs hD ht hj h4 hn, Result.andThen]
theorem yQu {S D : Nat} {t : Nat} {j : TypeInfo} (hs : P.underlying S = some (.pointer t)) (hD : P.underlying D = some .unsafePointer) (ht : P.info? t = some j) (hj : j.size ≠ 0) (hn : 0 < n) (hx : st.ev x = .tx i T n) (h : YR P sq ops K rest (st.put d (.tx i T n))) (zz : zk ops st ⟨d, .convert S D x, ty, pos, af, gd⟩ .no = true := by kernel_rfl) :
 YR P sq ops K (⟨d, .convert S D x, ty, pos, af, gd⟩ :: rest) st := L0 (ls_toU S D x hs hD ht hj hn hx (zd zz)) (zo zz) (zw zz) h
theorem ls_ofU (S D : TypeId) (x : Operand) {u : Nat} {j : TypeInfo} (hs : P.underlying S = some .unsafePointer) (hD : P.underlying D = some (.pointer u)) (hu : P.info? u = some j) (hl : liesAt P P.depth T (n / P.cellsOf T) 0 u 1 = true) (hx : st.ev x = .tx i T n) (hd : I2 ⟨d, .convert S D x, ty, pos, af, gd⟩ st = true) : L4 P ⟨d, .convert S D x, ty, pos, af, gd⟩ st (.tx i T n) .no := fun st2 ha =>
 OpS.value (ha.dst hd) fun _ _ g a w h => by
  have h1 := h.eval x
  rw [ha.ev x (by simp [Op.operands]), hx] at h1
  obtain ⟨b, h2, h3, h4⟩ := h1
  refine ⟨.pointer (some ⟨b, 0, none⟩), w, ?_, Below.refl _ _, b, h2, V, h4⟩
  simp [execOp, h3, Lib.run_from_unsafe w ⟨b, 0, none⟩ hs hD hu h4 hl, Result.andThen]
theorem yQc {S D : Nat} {u : Nat} {j : TypeInfo} (hs : P.underlying S = some .unsafePointer) (hD : P.underlying D = some (.pointer u)) (hu : P.info? u = some j) (hl : liesAt P P.depth T (n / P.cellsOf T) 0 u 1 = true) (hx : st.ev x = .tx i T n) (h : YR P sq ops K rest (st.put d (.tx i T n))) (zz : zk ops st ⟨d, .convert S D x, ty, pos, af, gd⟩ .no = true := by kernel_rfl) :
 YR P sq ops K (⟨d, .convert S D x, ty, pos, af, gd⟩ :: rest) st := L0 (ls_ofU S D x hs hD hu hl hx (zd zz)) (zo zz) (zw zz) h
theorem ls_same (f : Nat) (x : Operand) (ts : Array TypeId) (hf : ∀ v w, (callFunc f #[v]).run P w = .ok (.value v) w) (hx : st.ev x = .tx i T n) (hd : I2 ⟨d, .call { callee := .value (.func f), args := #[x], argTypes := ts }, ty, pos, af, gd⟩ st = true) : L4 P ⟨d, .call { callee := .value (.func f), args := #[x], argTypes := ts }, ty, pos, af, gd⟩ st (.tx i T n) .no := fun st2 ha =>
 OpS.value (ha.dst hd) fun _ _ g a w h => by
  have h1 := h.eval x
  rw [ha.ev x (by simp [Op.operands, Call.operands]), hx] at h1
  obtain ⟨b, h2, h3, h4⟩ := h1
  refine ⟨.pointer (some ⟨b, 0, none⟩), w, ?_, Below.refl _ _, b, h2, V, h4⟩
  simp only [execOp, resolve, Act.eval, Deferred.ofValue, Sem.run_bind, Sem.run_pure, D6, invoke]
  simp [h3, hf]
theorem yQn {f : Nat} {ts : Array TypeId} (hf : ∀ v w, (callFunc f #[v]).run P w = .ok (.value v) w) (hx : st.ev x = .tx i T n) (h : YR P sq ops K rest (st.put d (.tx i T n))) (zz : zk ops st ⟨d, .call { callee := .value (.func f), args := #[x], argTypes := ts }, ty, pos, af, gd⟩ .no = true := by kernel_rfl) :
 YR P sq ops K (⟨d, .call { callee := .value (.func f), args := #[x], argTypes := ts }, ty, pos, af, gd⟩ :: rest) st := L0 (ls_same f x ts hf hx (zd zz)) (zo zz) (zw zz) h
theorem Eu {tp te : TypeId} (w : World) (a : Addr) (hp : P.underlying tp = some (.pointer te)) : (binOp .eql tp (.pointer (some a)) (.pointer none)).run P w = .ok (.bool false) w := by
 have h : ∀ d : Nat, (Op.equalIn (d + 1) tp (.pointer (some a)) (.pointer none)).run P w = .ok false w := fun d => by
  simp [Op.equalIn, run_underlying hp]
 simp only [binOp]
 simp [Op.equal, Op.maxDepth, h 9999]
theorem Ev {tp te : TypeId} (w : World) (hp : P.underlying tp = some (.pointer te)) : (binOp .eql tp (.pointer none) (.pointer none)).run P w = .ok (.bool true) w := by
 have h : ∀ d : Nat, (Op.equalIn (d + 1) tp (.pointer none) (.pointer none)).run P w = .ok true w := fun d => by
  simp [Op.equalIn, run_underlying hp]
 simp only [binOp]
 simp [Op.equal, Op.maxDepth, h 9999]
theorem ls_eqn (t t' : TypeId) (x : Operand) (hp : P.underlying t = some (.pointer te)) (hx : st.ev x = .tx i T n) (hd : I2 ⟨d, .binOp .eql t x (.const (.pointer none)) t', ty, pos, af, gd⟩ st = true) : L4 P ⟨d, .binOp .eql t x (.const (.pointer none)) t', ty, pos, af, gd⟩ st (.d (.val (.bool false))) .no := fun st2 ha =>
 OpS.value (ha.dst hd) fun _ _ g a w h => by
  have h1 := h.eval x
  rw [ha.ev x (by simp [Op.operands]), hx] at h1
  obtain ⟨b, h2, h3, h4⟩ := h1
  refine ⟨.bool false, w, ?_, Below.refl _ _, DRep.val _ V⟩
  have h5 : a.eval (.const (.pointer none)) = .pointer none := rfl
  simp only [execOp, h3, h5]
  simp [eqGuard, Eu w _ hp, Result.andThen]
theorem yQe {t t' : Nat} (hp : P.underlying t = some (.pointer te)) (hx : st.ev x = .tx i T n) (h : YR P sq ops K rest (st.put d (.d (.val (.bool false))))) (zz : zk ops st ⟨d, .binOp .eql t x (.const (.pointer none)) t', ty, pos, af, gd⟩ .no = true := by kernel_rfl) :
 YR P sq ops K (⟨d, .binOp .eql t x (.const (.pointer none)) t', ty, pos, af, gd⟩ :: rest) st := L0 (ls_eqn t t' x hp hx (zd zz)) (zo zz) (zw zz) h
theorem yQz {t t' : Nat} (hp : P.underlying t = some (.pointer te)) (hx : st.ev x = .d (.val (.pointer none))) (h : YR P sq ops K rest (st.put d (.d (.val (.bool true))))) (zz : zk ops st ⟨d, .binOp .eql t x (.const (.pointer none)) t', ty, pos, af, gd⟩ .no = true := by kernel_rfl) :
 YR P sq ops K (⟨d, .binOp .eql t x (.const (.pointer none)) t', ty, pos, af, gd⟩ :: rest) st := L0 (AN .eql t t' x (.const (.pointer none)) hx rfl (fun w => by
  have e : (eqGuard .eql t x (.const (.pointer none)) (.pointer none) (.pointer none) >>= fun _ => binOp .eql t (.pointer none) (.pointer none)) = binOp .eql t (.pointer none) (.pointer none) := rfl
  rw [e]
  exact Ev w hp) V (zd zz)) (zo zz) (zw zz) h
theorem ls_nes (t t' : TypeId) (x y : Operand) {j : TypeInfo} (hp : P.underlying t = some (.pointer te)) (hte : P.info? te = some j) (hx : st.ev x = .tx i T n) (hy : st.ev y = .tx i T n) (hd : I2 ⟨d, .binOp .neq t x y t', ty, pos, af, gd⟩ st = true) : L4 P ⟨d, .binOp .neq t x y t', ty, pos, af, gd⟩ st (.d (.val (.bool false))) .no := fun st2 ha =>
 OpS.value (ha.dst hd) fun _ _ g a w h => by
  have h1 := h.eval x
  rw [ha.ev x (by simp [Op.operands]), hx] at h1
  obtain ⟨b, h2, h3, -⟩ := h1
  have h5 := h.eval y
  rw [ha.ev y (by simp [Op.operands]), hy] at h5
  obtain ⟨b', h6, h7, -⟩ := h5
  rw [h2] at h6
  cases h6
  refine ⟨.bool false, w, ?_, Below.refl _ _, DRep.val _ V⟩
  simp only [execOp, h3, h7]
  simp [eqGuard, Lib.run_neq_ptr_same w _ hp hte, Result.andThen]
theorem yQq {t t' : Nat} {j : TypeInfo} (hp : P.underlying t = some (.pointer te)) (hte : P.info? te = some j) (hx : st.ev x = .tx i T n) (hy : st.ev y = .tx i T n) (h : YR P sq ops K rest (st.put d (.d (.val (.bool false))))) (zz : zk ops st ⟨d, .binOp .neq t x y t', ty, pos, af, gd⟩ .no = true := by kernel_rfl) :
 YR P sq ops K (⟨d, .binOp .neq t x y t', ty, pos, af, gd⟩ :: rest) st := L0 (ls_nes t t' x y hp hte hx hy (zd zz)) (zo zz) (zw zz) h
end
theorem JP {P : Program} (w : World) (base : Nat) (t u ty e : TypeId) (i : TypeInfo) (ht : P.underlying t = some (.slice e)) (hu : P.underlying u = some .string) (hi : P.info? e = some i) (hz : i.zero = some (.int .u8 0))
 (hsize : i.size = 1) (hby : i.bytes = 1) (v : Value) (n : Nat) (xs : List Value) (hown : w.ownsRow base e 1 v n xs) (s : ByteArray)
 (h63 : n + s.size ≤ maxLen) (hbytes : n + s.size ≤ 140737488355328) (hbase : base ≤ w.heap.size) (hs0 : 0 < s.size) :
 ∃ v' w', (Builtin.append_ #[t, u] ty #[v, .string s]).run P w = .ok v' w' ∧ w'.ownsRow base e 1 v' (n + s.size) (xs ++ Lib.strCells s) ∧ Below 0 w w' ∧
  (∀ b, b < w.heap.size → v.ownBlock ≠ some b → w'.heap[b]? = w.heap[b]?) ∧ (∀ b o, b < w.heap.size → v.ownBlock = some b → o < n → w'.cell? ⟨b, o, none⟩ = w.cell? ⟨b, o, none⟩) ∧
  (v'.ownBlock = v.ownBlock ∨ v'.ownBlock = some w.heap.size) := by
 have hsmall : n + s.size ≤ 9223372036854775807 := by simp only [maxLen] at h63; omega
 have hxl : xs.length = n := by simpa using hown.1
 have hlen : (xs ++ Lib.strCells s).length = (n + s.size) * 1 := by rw [D7, hxl, Lib.strCells_length, Nat.mul_one]
 have grown : ∀ (old : Nat), old < n + s.size →
  (w.drew.alloc (.cells (xs.toArray ++ (Lib.strCells s).toArray ++ Builtin.zeroCells (Value.int .u8 0).cells (grownCap w (n + s.size) old e - (n + s.size))) e)).ownsRow base e 1
   (.slice (some ⟨w.heap.size, 0, none⟩) (n + s.size) (grownCap w (n + s.size) old e)) (n + s.size) (xs ++ Lib.strCells s) := by
  intro old ho
  have hge := grownCap_ge w (n + s.size) old e
  have hcm : grownCap w (n + s.size) old e ≤ maxLen := grownCap_le_maxLen w (n + s.size) old e h63
  refine ⟨hlen, .inr ⟨w.heap.size, _, _, V, hbase, heap_alloc_new w.drew _, hge, hcm, ?_, ?_⟩⟩
  · have hz1 : (Value.int IntKind.u8 0).cells.size = 1 := rfl
    simp only [Array.size_append, List.size_toArray, size_zeroCells, hz1, hxl, Lib.strCells_length]
    omega
  · simp only [Array.toList_append, H1]
    rw [← H1, ← hlen]
    exact List.take_left
 have hold : ∀ o b, b < w.heap.size → (w.drew.alloc o).heap[b]? = w.heap[b]? := fun o b hb => Below.heap_alloc w.drew o b hb
 have hbel : ∀ o, Below 0 w (w.drew.alloc o) := fun o => ⟨rfl, rfl, rfl, by simp, fun k hk => by omega⟩
 rcases hown.2 with ⟨rfl, rfl⟩ | ⟨gb, cap, cur, rfl, hbg, hg, hnc, hcm, hcs, htake⟩
 · have hx : xs = [] := List.eq_nil_of_length_eq_zero hxl
   subst hx
   have hr := run_append_nil_string (P := P) w t u ty e i (.int .u8 0) ht hu hi hz s (by omega) (by omega) (by rw [hby]; omega)
   have hgr := grown 0 (by omega)
   simp only [F3, List.nil_append, Array.empty_append] at hgr ⊢
   have e1 : (s.data.map fun b => Value.int .u8 b.toNat) = (Lib.strCells s).toArray := by
    apply Array.ext'
    simp [Lib.strCells]
   rw [e1] at hr
   exact ⟨_, _, hr, hgr, hbel _, fun b hb _ => hold _ b hb, fun b o hb h => by simp [Value.ownBlock] at h, .inr rfl⟩
 · have hcs' : cur.size = cap := by simpa using hcs
   by_cases hroom : n + s.size ≤ cap
   · have hr := Lib.run_append_room_string (P := P) w t u ty e i ht hu hi hsize gb n cap cur hg s hroom (by omega)
     refine ⟨_, _, hr, ⟨hlen, .inr ⟨gb, cap, _, V, hbg, setRow_heap w gb cur _ e _ hg, hroom, hcm, ?_, ?_⟩⟩, ⟨rfl, V, V, by simp [World.setRow], fun k hk => by omega⟩, fun b _ hb => setRow_other w gb b _ (fun e => hb (by simp [Value.ownBlock, e])), fun b o _ hb ho => ?_, .inl rfl⟩
     · simp only [List.size_toArray, D7, E4, N2, Array.length_toList, Lib.strCells_length]
       omega
     · have ht' : cur.toList.take n = xs := by simpa using htake
       rw [ht', ← hlen]
       exact List.take_left
     · obtain rfl : gb = b := by simpa [Value.ownBlock] using hb
       have h2 := setRow_heap w gb cur (cur.toList.take n ++ Lib.strCells s ++ cur.toList.drop (n + s.size)).toArray e _ hg
       simp only [World.cell?, h2, hg, Option.isSome_none, Bool.false_eq_true, if_false]
       rw [List.getElem?_toArray, H1, F5 (by simp; omega), E7 ho]
       simp
   · have holds : ∀ j u, xs[j]? = some u → w.cell? ((⟨gb, 0, none⟩ : Addr).add j) = some u := hown.cells (g := gb) rfl
     have hr := Lib.run_append_grow_string (P := P) w t u ty e i (.int .u8 0) ht hu hi hz ⟨gb, 0, none⟩ n cap xs (by rw [hsize]; simpa using hxl) holds s (by omega) (by omega) (by rw [hby]; exact growslice_fits (by omega) (by omega))
     exact ⟨_, _, hr, grown cap (by omega), hbel _, fun b hb _ => hold _ b hb, fun b o hb _ _ => by simp only [World.cell?, hold _ b hb], .inr rfl⟩
section
variable {P : Program} {st : PS} {d : Option Nat} {ty : TypeId} {pos : String} {af : Array Edge} {gd : Option (Nat × Bool)}
theorem Nc (T U : TypeId) (s x : Operand) {E t : Nat} {es es2 : List (List DV)} [hA : AppOf P T E 1 1] (hz0 : (P.info? E).bind (·.zero) = some (.int .u8 0)) (hU : P.underlying U = some .string) (h0l : 0 < l.length) (hes2 : es2 = l.map fun c => [DV.val (.int .u8 c.toNat)]) (hs : st.ev s = .ts t 1 es) (ht : st.tget t = some n) (hn : n = es.length) (hx : st.ev x = .d (dS l)) (hE : t / 100000 = E)
 (hl : es.length + es2.length ≤ 140737488351232) (hd : I2 ⟨d, .call { callee := .builtin .append, args := #[s, x], argTypes := #[T, U] }, ty, pos, af, gd⟩ st = true) :
 L4 P ⟨d, .call { callee := .builtin .append, args := #[s, x], argTypes := #[T, U] }, ty, pos, af, gd⟩ st (.ts t 1 (es ++ es2)) (.tok t (es.length + es2.length)) := fun st2 ha => by
 subst hn
 intro B w0 g a w K Q hr hK
 have h1 := hr.eval s
 rw [ha.ev s (by simp [Op.operands, Call.operands]), hs] at h1
 obtain ⟨h1, h2⟩ := h1
 obtain ⟨A1, c1, ys, hv1, hc1, hm1, hk1, hl1, hcell1, hone1, hrep1⟩ := DRep.row h1
 have h3 := hr.eval x
 rw [ha.ev x (by simp [Op.operands, Call.operands]), hx] at h3
 have hv2 : a.eval x = .string ⟨l.toArray⟩ := DRep.val_eq h3
 obtain ⟨news, hnews⟩ := H7 (Lib.strCells ⟨l.toArray⟩)
 have hnl : news = l.map fun c => Value.int .u8 c.toNat := by rw [hnews]; simp [Lib.strCells]
 have hsz : (⟨l.toArray⟩ : ByteArray).size = es2.length := by rw [hes2, A7]; simp [ByteArray.size]
 have hl2 : news.length = es2.length * 1 := by rw [hnl, hes2]; simp
 have hone2 : ∀ u ∈ news, u.oneCell' = true := by rw [hnews]; exact Lib.strCells_oneCell _
 have hk2 : ∀ e ∈ es2, e.length = 1 := fun e he => by
  rw [hes2, H0] at he
  obtain ⟨c, -, rfl⟩ := he
  rfl
 have hrep2 : ∀ (i j : Nat) e y, es2[i]? = some e → e[j]? = some y → ∃ u, news[i * 1 + j]? = some u ∧ DRep (Fx g) w u y := fun i j e y he hy => by
  rw [hes2, C6, C8] at he
  obtain ⟨c, hc, rfl⟩ := he
  match j, hy with
  | 0, hy =>
   cases hy
   exact ⟨.int .u8 c.toNat, by rw [hnl, Nat.mul_one, Nat.add_zero, C6, hc]; rfl, DRep.val _ rfl⟩
  | j + 1, hy => simp at hy
 have hl20 : 0 < es2.length := by rw [hes2, A7]; exact h0l
 obtain ⟨T', A, c, h4, h5⟩ := hr.tlen t es.length ((ha.tk rfl s (by simp [Op.operands, Call.operands]) t 1 es hs).trans ht)
 obtain ⟨h6, h7⟩ := h2 T' h4
 have h8 : a.eval s = T'.v := (h7 A es.length c h5).2 rfl
 obtain ⟨⟨n', xs, h9⟩, h10⟩ := hr.toks t T' h4
 obtain rfl : es.length = n' := BG h9 h5
 have hTE : T'.E = E := (hr.telt t T' h4).trans hE
 obtain ⟨i, z, q1, q2, q3, q4, q5⟩ := hA.inf
 rw [hTE, h6] at h9
 have hz1 : z = .int .u8 0 := by
  rw [q1, Option.bind_some, q2] at hz0
  exact J2 hz0
 subst hz1
 obtain ⟨v', w', r1, r2, r3, r4, r5, r6⟩ := JP (P := P) w 0 T U ty E i hA.und hU q1 q2 q3 q4 T'.v es.length xs h9 ⟨l.toArray⟩ (by unfold maxLen; omega) (by omega) (D9 _) (by omega)
 rw [hsz, ← hnews] at r2
 have hxs : xs = ys := by
  apply List.ext_getElem?
  intro j
  have hlx := h9.1
  by_cases hj : j < es.length * 1
  · have h0 : 0 < es.length := by
     rcases G9 es.length with h0 | h0
     · rw [h0] at hj; simp at hj
     · exact h0
    obtain ⟨b, off, hA1, hcell⟩ := hcell1 h0
    obtain ⟨u, hu⟩ : ∃ u, ys[j]? = some u := ⟨_, A5 (by omega)⟩
    obtain ⟨u', hu'⟩ : ∃ u, xs[j]? = some u := ⟨_, A5 (by omega)⟩
    have e1 : T'.v = .slice (some ⟨b, off, none⟩) es.length c1 := by rw [← h8, hv1, hA1]
    have e2 := Y0 h9 (b := b) (by rw [e1]; rfl) j u' hu'
    obtain ⟨A3, c3, e3, -, e4⟩ := S5 h9
    have e5 := e4 b (by rw [e1]; rfl)
    have e6 : off = 0 := by
     have := e1.symm.trans e5
     have := (Value.slice.inj this).1
     simpa using this
    have e7 := (hcell j u hu).1
    rw [e6, F3, e2] at e7
    rw [hu, hu', J2 e7]
  · rw [H9 (by omega), H9 (by omega)]
 subst hxs
 obtain ⟨fx, hrep'⟩ := hr.app t es.length es2.length T' h4 xs news v' (by rw [hTE, h6]; exact h9) (by rw [hTE, h6]; exact r2) r3 (fun b hb hne => r4 b hb hne) (fun b o hb hb' ho => r5 b o hb hb' (by rw [h6] at ho; omega)) r6 (fun h => by omega)
 have hrun : (execOp a.eval ⟨d, .call { callee := .builtin .append, args := #[s, x], argTypes := #[T, U] }, ty, pos, af, gd⟩).run P w = .ok (.value v') w' := by
  simp only [execOp, resolve, invoke, builtin, Sem.run_bind, Sem.run_pure, D6, List.map_toArray, List.map_cons, List.map_nil, h8, hv2, r1]
 unfold Oper.wp
 rw [hrun]
 refine hK _ _ _ (hrep'.put (v := v') (x := .ts t 1 (es ++ es2)) ⟨?_, fun T2 hT2 => ?_⟩ _ (H6 (st := st2.tput t _) (ha.dst hd)))
 · obtain ⟨A3, c3, e3, e4, e5⟩ := S5 r2
   have e3' : v' = .slice A3 (es ++ es2).length c3 := by rw [D7]; exact e3
   refine (C7 (fun q => DRep (Fx (g.sett t ⟨v', T'.E, T'.k⟩)) w' q (.sl 1 (es ++ es2))) e3').mpr ?_
   refine DRep.of_row (xs := xs ++ news) (by rw [D7]; exact e4) (by rw [D7]; exact E8 hl (by decide)) (fun e he => ?_) (fun h0 => ?_) (fun u hu => ?_) fun i j e y he hy => ?_
   · rcases List.mem_append.1 he with he | he
     · exact hk1 e he
     · exact hk2 e he
   · rcases r2.2 with ⟨e6, e7⟩ | ⟨gb, cap, cur, e6, e7, e8, -⟩
     · rw [D7] at h0; omega
     · have e9 : A3 = some ⟨gb, 0, none⟩ := (Value.slice.inj (e3.symm.trans e6)).1
       refine ⟨gb, 0, e9, fun j u hj => ⟨?_, ?_⟩⟩
       · rw [F3]; exact Y0 r2 (by rw [e6]; rfl) j u hj
       · refine ⟨hrep'.tf0 t ⟨v', T'.E, T'.k⟩ gb _ (by simp [Gh.sett]) (by show v'.ownBlock = _; rw [e6]; rfl), fun i' hi' => ?_, fun t2 T2 n2 c2' hT2 hv2' => ?_⟩
         · exact (hrep'.toks t ⟨v', T'.E, T'.k⟩ (by simp [Gh.sett])).2 i' gb (by rw [show (⟨v', T'.E, T'.k⟩ : Tk).v = v' from rfl, e6]; rfl) hi'
         · have htt : t2 = t := hrep'.tdis t2 t T2 ⟨v', T'.E, T'.k⟩ gb hT2 (by simp [Gh.sett]) (by rw [hv2']; rfl) (by rw [show (⟨v', T'.E, T'.k⟩ : Tk).v = v' from rfl, e6]; rfl)
           subst htt
           simp only [Gh.sett, C5] at hT2
           cases hT2
           have e10 : n2 = es.length + es2.length := (Value.slice.inj ((show v' = _ from hv2').symm.trans e6)).2.1
           have hlt := (A6.1 hj).1
           rw [r2.1] at hlt
           show 0 + j < n2 * T'.k
           rw [e10, h6, F3]
           exact hlt
   · rcases List.mem_append.1 hu with hu | hu
     · exact hone1 u hu
     · exact hone2 u hu
   · by_cases hi : i < es.length
     · rw [F5 hi] at he
       obtain ⟨u, e6, e7⟩ := hrep1 i j e y he hy
       refine ⟨u, ?_, e7.mono fx⟩
       rw [F5 (A6.1 e6).1]
       exact e6
     · rw [F4 (by omega)] at he
       obtain ⟨u, e6, e7⟩ := hrep2 (i - es.length) j e y he hy
       refine ⟨u, ?_, e7.mono fx⟩
       have : i * 1 + j - xs.length = (i - es.length) * 1 + j := by
        rw [h9.1, Nat.sub_mul]
        have := Nat.mul_le_mul_right 1 (show es.length ≤ i by omega)
        omega
       rw [F4 (by rw [h9.1]; have := Nat.mul_le_mul_right 1 (show es.length ≤ i by omega); omega), this]
       exact e6
 · simp only [Gh.sett, C5] at hT2
   cases hT2
   refine ⟨h6, fun A3 n3 c3 e3 => ?_⟩
   have e4 : n3 = es.length + es2.length := BG r2 e3
   rw [D7]
   exact ⟨by omega, fun _ => rfl⟩
variable {sq : Bool} {ops : Array Oper} {K : PS → Prop} {rest : List Oper}
theorem yTs {U E t m : Nat} {es es2 es' : List (List DV)} [hA : AppOf P T E 1 1] (hz0 : (P.info? E).bind (·.zero) = some (.int .u8 0)) (hU : P.underlying U = some .string) (h0l : 0 < l.length) (hes2 : es2 = l.map fun c => [DV.val (.int .u8 c.toNat)]) (hl : es.length + es2.length ≤ 140737488351232) (hs : st.ev x = .ts t 1 es) (ht : st.tget t = some n) (hn : n = es.length) (hx : st.ev y = .d (dS l)) (hE : t / 100000 = E) (he : es ++ es2 = es') (hm : es.length + es2.length = m) (h : YR P sq ops K rest ((st.tput t m).put d (.ts t 1 es'))) (zz : zk ops st ⟨d, .call { callee := .builtin .append, args := #[x, y], argTypes := #[T, U] }, ty, pos, af, gd⟩ (.tok t m) = true := by kernel_rfl) : YR P sq ops K (⟨d, .call { callee := .builtin .append, args := #[x, y], argTypes := #[T, U] }, ty, pos, af, gd⟩ :: rest) st := by subst he hm; exact yr_t (Nc T U x y hz0 hU h0l hes2 hs ht hn hx hE hl (zd zz)) (zo zz) (zw zz) h
end
section
variable {P : Program} {B : Nat} {w0 : Cx} {Q : Exit → PS → Prop} {st : PS} {c : Code}
theorem ME {y : Code} (J : PS) (h2 : PW P B w0 y Q J) (h1 : PW P B w0 c (S0 (fun s => Le s J) Q) st) : PW P B w0 c (S0 (PW P B w0 y Q) Q) st := pw_mono h1 fun e s h => by
 cases e with
 | normal => exact PR h h2
 | _ => exact h
end
end Go.Proofs.YtddfimjiihggmaaGreatDoor.Px
namespace Go.Proofs.YtddfimjiihggmaaGreatDoor
open Go.RowKit Px
variable {n : Nat}
abbrev u64T : Nat := 198
abbrev vG (l : List Nat) : List Value := l.map fun x : Nat => Value.int .u64 (x : Int)
abbrev cG (l : List Nat) : List SV := (vG l).map fun u => SV.d (.val u)
theorem DW {p q : List Nat} {a i : Nat} (h : p.length = i) : (cG (p ++ a :: q))[((i : Int)).toNat * 1]? = some (.d (dU a)) := by
 subst h
 simp [cG, vG]
theorem V6 {p q : List Nat} {a i : Nat} (v : Nat) (h : p.length = i) : (cG (p ++ a :: q)).set (((i : Int)).toNat * 1) (.d (dU v)) = cG (p ++ v :: q) := by
 subst h
 simp [cG, vG]
theorem AZ {p q : List Nat} {a i : Nat} (h : p.length = i) : Nat.blt (((i : Int)).toNat * 1) (cG (p ++ a :: q)).length = true := by
 refine Nat.ble_eq_true_of_le ?_
 simp [cG, vG]
 omega
theorem Mg (l : List Nat) : ((l.map dU).take (l.length : Int).toNat).map SV.d = cG l := by
 rw [E9 (by simp), cG, vG, List.map_map, List.map_map]
 rfl
theorem Bs (l : List Nat) : AA (cG l) = some (l.map dU) := by
 rw [cG, JB (fun u => DV.val u) (vG l), vG, List.map_map]
 rfl
theorem Y1 (l : List Nat) (h : l.length = n) : N5 1 n (l.map dU) = l.map dG := by
 subst h
 exact OD dU l
theorem Dh (h : n < 18446744073709551616) : IntKind.u64.wrap (n : Int) = (n : Int) := by
 rw [IntKind.wrap_u64]
 omega
theorem Eg (A B : List Nat) (i : Nat) : O3 A B (i + 1) = ((O3 A B i).1 ++ [(Q4 A i + (O3 A B i).2 + Q4 B i) % 1000000000], (Q4 A i + (O3 A B i).2 + Q4 B i) / 1000000000) := rfl
theorem wPlus (m n : List Nat) (hgm : gok m) (hgn : gok n) (hlm : m.length ≤ 1000000) (hln : n.length ≤ 1000000) : PCalls Tryz.prog 197 [.sl 1 (m.map dG), .sl 1 (n.map dG)] (.d (.sl 1 ((Al m n).map dG))) := by
 obtain ⟨r, hr⟩ := H7 (Al m n)
 rw [← hr]
 by_cases hlt : m.length < n.length
 · have hl : m.length ≤ n.length := by omega
   have hr2 : r = (O3 n m n.length).1 ++ (if 0 < (O3 n m n.length).2 then [(O3 n m n.length).2] else []) := by
    rw [hr, Kn, Al, Nat.max_eq_left hl]
   have u0 : decide (((m.map dG).length : Int) < ((n.map dG).length : Int)) = true := by simp; omega
   have hw0 : IntKind.i64.wrap (((n.map dG).length : Int) + 1) = (n.length : Int) + 1 := by rw [A7, I5 _ (by omega)]
   have hle0 : ((n.map dG).length : Int) = (n.length : Int) := by simp
   clear hr
   refine B3 Tryz.func197 V Tryz.ntmps197 Tryz.results197 (by simp) fun B w0 => ?_
   refine D8 (B5 V (I0 V (yN V (C3 V (yN V (H3 V (B1 (J8 u0 V (B4 (C3 V (C3 V (H4 V (B5 V (H8 V (yN V (C3 V (yN V (G3 V ?_)))))))))))))))))); rw [hw0]
   refine yMk (n := (n.length : Int)) (c := (n.length : Int) + 1) (by omega) (by omega) (by omega) (by omega) (C7 (fun k : Int => SV.d (dI k)) hle0) rfl rfl ?_; refine Dc V (yQ (D8 (Y5 V (C3 V ?_)))); refine yCp (ds := n.map dU) (by rw [List.map_map]; rfl) (by simp) (by omega) rfl rfl (by simp) rfl ?_; refine yQ (D8 (B5 V (A8 (D8 (Y5 V (yNb V (C3 V (yQ (B6 ?_))))))))); refine H2 (fun i : Nat => ⟨69, [(1, .d (.sl 1 (m.map dG))), (5, .bs 20 n.length u64T 1), (6, .d (dU (O3 n m i).2)), (25, .d (dI n.length)), (26, .d (dI i))], [(20, cG ((O3 n m i).1 ++ n.drop i))], []⟩) (fun i => i ≤ n.length) (fun i => n.length - i) 0 (D9 _)
    ⟨rfl, ⟨E0, E0, E0, E0, E0, D4⟩, ⟨⟨_, rfl, K4 (Mg n)⟩, D4⟩, D4, by simp [PS.closed, SV.ok, G6, Nat.beq, -List.map_take, -List.map_set, -List.map_append, -List.map_drop]⟩ ?_
   intro i hi
   obtain ⟨h1, h2, h3, -⟩ := Z7 hgn hgm i
   have hnx := Eg n m i
   obtain ⟨⟨p, c⟩, hp⟩ := H7 (O3 n m i)
   rw [← hp] at h1 h2 h3 hnx ⊢
   simp only at h1 h2 h3 hnx ⊢
   rcases D2 i n.length with hi2 | hi2
   · have t1 : decide ((i : Int) < (n.length : Int)) = true := B0 (by omega)
     obtain ⟨a, ha⟩ := Bq hi2
     have hga := T3 ha
     have ha9 : a < 1000000000 := hgn a (B7 ha)
     have hdr : n.drop i = a :: n.drop (i + 1) := by
      obtain ⟨q1, q2⟩ := A6.1 ha
      rw [J0 q1, q2]
     obtain ⟨q, hq⟩ := H7 (n.drop (i + 1))
     rw [hdr, ← hq]
     rw [hga] at hnx
     have hat := DW (q := q) (a := a) h1
     have hs1 := V6 (q := q) (a := a) (a + c) h1
     have hl1 := AZ (q := q) (a := a) h1
     have w1 : IntKind.u64.wrap ((a : Int) + (c : Int)) = ((a + c : Nat) : Int) := by rw [← Int.natCast_add]; exact Dh (by omega)
     have hat2 := DW (q := q) (a := a + c) h1
     have hwi := I5 ((i : Int) + 1) (by omega)
     rcases D2 i m.length with hj | hj
     · have t2 : decide ((i : Int) < ((m.map dG).length : Int)) = true := B0 (by rw [A7]; omega)
       obtain ⟨b, hb⟩ := Bq hj
       have hb9 : b < 1000000000 := hgm b (B7 hb)
       have eb := ix dG m (i : Int) i b rfl hb
       have hgb := T3 hb
       rw [hgb] at hnx
       have w2 : IntKind.u64.wrap (((a + c : Nat) : Int) + (b : Int)) = ((a + c + b : Nat) : Int) := by rw [← Int.natCast_add]; exact Dh (by omega)
       have hs2 := V6 (q := q) (a := a + c) (a + c + b) h1
       have hl2 := AZ (q := q) (a := a + c) h1
       have hat3 := DW (q := q) (a := a + c + b) h1
       have hs3 := V6 (q := q) (a := a + c + b) ((a + c + b) % 1000000000) h1
       have hl3 := AZ (q := q) (a := a + c + b) h1
       have wq : IntKind.u64.wrap (((a + c + b : Nat) : Int).tdiv 1000000000) = (((a + c + b) / 1000000000 : Nat) : Int) := Dh (n := (a + c + b) / 1000000000) (by omega)
       refine D8 (H3 V (A8 (J8 t1 V (B2 (A8 (B6 (H8 V (B5 V (D8 (Y5 V (C3 V (Z8 (by omega) (by omega) rfl rfl rfl (U3 rfl rfl hat (C3 rfl (G3 rfl (Z8 (by omega) (by omega) rfl rfl rfl ?_)))))))))))))))); rw [w1]; refine Y4 V V V hs1 ?_ hl1; refine yQ (I0 V (C3 V (yN V (H3 V (B1 (J8 t2 V ?_)))))); refine I7 Tryz.mixed (by kernel_rfl) ?_; refine Y5 V (C3 V (Z8 (by omega) (by omega) rfl rfl rfl (U3 rfl rfl hat2 (C3 rfl (C3 rfl (yW eb (by omega) rfl rfl (K5 rfl rfl (G3 rfl (Z8 (by omega) (by omega) rfl rfl rfl ?_))))))))); rw [w2]; refine Y4 V V V hs2 ?_ hl2; refine yQ (D8 (Y5 V (C3 V (Z8 (by omega) (by omega) rfl rfl rfl (U3 rfl rfl hat3 (G3 rfl (B5 rfl (B4 (Y5 rfl (C3 rfl (Z8 (by omega) (by omega) rfl rfl rfl (U3 rfl rfl hat3 (G3 rfl (Z8 (by omega) (by omega) rfl rfl rfl ?_)))))))))))))); refine Y4 V V V hs3 ?_ hl3; refine yQ (B4 (G3 V (C3 V (yQ (B1 ?_)))))
       rw [wq]
       refine ⟨i + 1, by omega, by omega, rfl, ⟨E0, E0, .of_eq (by rw [hnx]; rfl), E0, .of_eq (C7 (fun n => SV.d (dI n)) hwi), D4⟩, ⟨⟨_, rfl, K4 (by rw [hnx, ← hq, H1]; rfl)⟩, D4⟩, D4, by simp [PS.closed, SV.ok, G6, Nat.beq, -List.map_take, -List.map_set, -List.map_append, -List.map_drop]⟩
     · have t2 : decide ((i : Int) < ((m.map dG).length : Int)) = false := A9 (by rw [A7]; omega)
       rw [Ce hj, Nat.add_zero] at hnx
       have hs3 := V6 (q := q) (a := a + c) ((a + c) % 1000000000) h1
       have hl3 := AZ (q := q) (a := a + c) h1
       have wq : IntKind.u64.wrap (((a + c : Nat) : Int).tdiv 1000000000) = (((a + c) / 1000000000 : Nat) : Int) := Dh (n := (a + c) / 1000000000) (by omega)
       refine D8 (H3 V (A8 (J8 t1 V (B2 (A8 (B6 (H8 V (B5 V (D8 (Y5 V (C3 V (Z8 (by omega) (by omega) rfl rfl rfl (U3 rfl rfl hat (C3 rfl (G3 rfl (Z8 (by omega) (by omega) rfl rfl rfl ?_)))))))))))))))); rw [w1]; refine Y4 V V V hs1 ?_ hl1; refine yQ (I0 V (C3 V (yN V (H3 V (B1 (L9 t2 V (B2 (D8 (Y5 V (C3 V (Z8 (by omega) (by omega) rfl rfl rfl (U3 rfl rfl hat2 (G3 rfl (B5 rfl (B4 (Y5 rfl (C3 rfl (Z8 (by omega) (by omega) rfl rfl rfl (U3 rfl rfl hat2 (G3 rfl (Z8 (by omega) (by omega) rfl rfl rfl ?_))))))))))))))))))))); refine Y4 V V V hs3 ?_ hl3; refine yQ (B4 (G3 V (C3 V (yQ (B1 ?_))))); rw [wq]
       refine ⟨i + 1, by omega, by omega, rfl, ⟨E0, E0, .of_eq (by rw [hnx]; rfl), E0, .of_eq (C7 (fun n => SV.d (dI n)) hwi), D4⟩, ⟨⟨_, rfl, K4 (by rw [hnx, ← hq, H1]; rfl)⟩, D4⟩, D4, by simp [PS.closed, SV.ok, G6, Nat.beq, -List.map_take, -List.map_set, -List.map_append, -List.map_drop]⟩
   · have t1 : decide ((i : Int) < (n.length : Int)) = false := A9 (by omega)
     obtain rfl : i = n.length := by omega
     rw [← hp] at hr2
     simp only at hr2
     rw [List.drop_length, List.append_nil]
     rcases G9 c with hc | hc
     · subst hc
       rw [B9 (by omega), List.append_nil] at hr2
       subst hr2
       refine D8 (H3 V (A8 (L9 t1 V (G1 (I0 V (H3 V (F6 V (B2 (D8 (Y5 V (Dc V (yQ ?_)))))))))))); refine BD 4 20 (es := r.map dG) (ds := r.map dU) (by simp; omega) (Y1 r h1) (Bs _) rfl rfl ?_; refine C4 ?_
       exact C9 _ (.tmp V .nil) V
     · have t3 : decide ((c : Int) > 0) = true := B0 (by omega)
       rw [C5 hc] at hr2
       have hrl : r.length = n.length + 1 := by rw [hr2]; simp; omega
       have hrc : (vG p ++ [Value.int .u64 (c : Int)]).map (fun u => SV.d (.val u)) = cG r := by rw [hr2]; simp [cG, vG]
       refine D8 (H3 V (A8 (L9 t1 V (G1 (I0 V (H3 V (B1 (J8 t3 V (B4 (Y5 V (C3 V ?_))))))))))); refine yR (es := [[_]]) V V V V V ?_; refine KR (us := vG p) (vs := [Value.int .u64 (c : Int)]) (m := 1) (n := n.length) (by omega) (by omega) (by omega) rfl rfl (by simp; omega) rfl rfl rfl ?_; refine Dc V (yQ (D8 (Y5 V (Dc V (yQ ?_))))); refine BD 4 20 (es := r.map dG) (ds := r.map dU) (by simp; omega) (Y1 r hrl) (by rw [hrc]; exact Bs _) V V ?_; refine C4 ?_
       exact C9 _ (.tmp V .nil) V
 · have hl : n.length ≤ m.length := by omega
   have hr2 : r = (O3 m n m.length).1 ++ (if 0 < (O3 m n m.length).2 then [(O3 m n m.length).2] else []) := by
    rw [hr, Al, Nat.max_eq_left hl]
   have u0 : decide (((m.map dG).length : Int) < ((n.map dG).length : Int)) = false := by simp; omega
   have hw0 : IntKind.i64.wrap (((m.map dG).length : Int) + 1) = (m.length : Int) + 1 := by rw [A7, I5 _ (by omega)]
   have hle0 : ((m.map dG).length : Int) = (m.length : Int) := by simp
   clear hr
   refine B3 Tryz.func197 V Tryz.ntmps197 Tryz.results197 (by simp) fun B w0 => ?_
   refine D8 (B5 V (I0 V (yN V (C3 V (yN V (H3 V (B1 (L9 u0 V (B2 (H8 V (yN V (C3 V (yN V (G3 V ?_)))))))))))))); rw [hw0]
   refine yMk (n := (m.length : Int)) (c := (m.length : Int) + 1) (by omega) (by omega) (by omega) (by omega) (C7 (fun k : Int => SV.d (dI k)) hle0) rfl rfl ?_; refine Dc V (yQ (D8 (Y5 V (C3 V ?_)))); refine yCp (ds := m.map dU) (by rw [List.map_map]; rfl) (by simp) (by omega) rfl rfl (by simp) rfl ?_; refine yQ (D8 (B5 V (A8 (D8 (Y5 V (yNb V (C3 V (yQ (B6 ?_))))))))); refine H2 (fun i : Nat => ⟨69, [(1, .d (.sl 1 (n.map dG))), (5, .bs 20 m.length u64T 1), (6, .d (dU (O3 m n i).2)), (25, .d (dI m.length)), (26, .d (dI i))], [(20, cG ((O3 m n i).1 ++ m.drop i))], []⟩) (fun i => i ≤ m.length) (fun i => m.length - i) 0 (D9 _)
    ⟨rfl, ⟨E0, E0, E0, E0, E0, D4⟩, ⟨⟨_, rfl, K4 (Mg m)⟩, D4⟩, D4, by simp [PS.closed, SV.ok, G6, Nat.beq, -List.map_take, -List.map_set, -List.map_append, -List.map_drop]⟩ ?_
   intro i hi
   obtain ⟨h1, h2, h3, -⟩ := Z7 hgm hgn i
   have hnx := Eg m n i
   obtain ⟨⟨p, c⟩, hp⟩ := H7 (O3 m n i)
   rw [← hp] at h1 h2 h3 hnx ⊢
   simp only at h1 h2 h3 hnx ⊢
   rcases D2 i m.length with hi2 | hi2
   · have t1 : decide ((i : Int) < (m.length : Int)) = true := B0 (by omega)
     obtain ⟨a, ha⟩ := Bq hi2
     have hga := T3 ha
     have ha9 : a < 1000000000 := hgm a (B7 ha)
     have hdr : m.drop i = a :: m.drop (i + 1) := by
      obtain ⟨q1, q2⟩ := A6.1 ha
      rw [J0 q1, q2]
     obtain ⟨q, hq⟩ := H7 (m.drop (i + 1))
     rw [hdr, ← hq]
     rw [hga] at hnx
     have hat := DW (q := q) (a := a) h1
     have hs1 := V6 (q := q) (a := a) (a + c) h1
     have hl1 := AZ (q := q) (a := a) h1
     have w1 : IntKind.u64.wrap ((a : Int) + (c : Int)) = ((a + c : Nat) : Int) := by rw [← Int.natCast_add]; exact Dh (by omega)
     have hat2 := DW (q := q) (a := a + c) h1
     have hwi := I5 ((i : Int) + 1) (by omega)
     rcases D2 i n.length with hj | hj
     · have t2 : decide ((i : Int) < ((n.map dG).length : Int)) = true := B0 (by rw [A7]; omega)
       obtain ⟨b, hb⟩ := Bq hj
       have hb9 : b < 1000000000 := hgn b (B7 hb)
       have eb := ix dG n (i : Int) i b rfl hb
       have hgb := T3 hb
       rw [hgb] at hnx
       have w2 : IntKind.u64.wrap (((a + c : Nat) : Int) + (b : Int)) = ((a + c + b : Nat) : Int) := by rw [← Int.natCast_add]; exact Dh (by omega)
       have hs2 := V6 (q := q) (a := a + c) (a + c + b) h1
       have hl2 := AZ (q := q) (a := a + c) h1
       have hat3 := DW (q := q) (a := a + c + b) h1
       have hs3 := V6 (q := q) (a := a + c + b) ((a + c + b) % 1000000000) h1
       have hl3 := AZ (q := q) (a := a + c + b) h1
       have wq : IntKind.u64.wrap (((a + c + b : Nat) : Int).tdiv 1000000000) = (((a + c + b) / 1000000000 : Nat) : Int) := Dh (n := (a + c + b) / 1000000000) (by omega)
       refine D8 (H3 V (A8 (J8 t1 V (B2 (A8 (B6 (H8 V (B5 V (D8 (Y5 V (C3 V (Z8 (by omega) (by omega) rfl rfl rfl (U3 rfl rfl hat (C3 rfl (G3 rfl (Z8 (by omega) (by omega) rfl rfl rfl ?_)))))))))))))))); rw [w1]; refine Y4 V V V hs1 ?_ hl1; refine yQ (I0 V (C3 V (yN V (H3 V (B1 (J8 t2 V ?_)))))); refine I7 Tryz.mixed (by kernel_rfl) ?_; refine Y5 V (C3 V (Z8 (by omega) (by omega) rfl rfl rfl (U3 rfl rfl hat2 (C3 rfl (C3 rfl (yW eb (by omega) rfl rfl (K5 rfl rfl (G3 rfl (Z8 (by omega) (by omega) rfl rfl rfl ?_))))))))); rw [w2]; refine Y4 V V V hs2 ?_ hl2; refine yQ (D8 (Y5 V (C3 V (Z8 (by omega) (by omega) rfl rfl rfl (U3 rfl rfl hat3 (G3 rfl (B5 rfl (B4 (Y5 rfl (C3 rfl (Z8 (by omega) (by omega) rfl rfl rfl (U3 rfl rfl hat3 (G3 rfl (Z8 (by omega) (by omega) rfl rfl rfl ?_)))))))))))))); refine Y4 V V V hs3 ?_ hl3; refine yQ (B4 (G3 V (C3 V (yQ (B1 ?_)))))
       rw [wq]
       refine ⟨i + 1, by omega, by omega, rfl, ⟨E0, E0, .of_eq (by rw [hnx]; rfl), E0, .of_eq (C7 (fun n => SV.d (dI n)) hwi), D4⟩, ⟨⟨_, rfl, K4 (by rw [hnx, ← hq, H1]; rfl)⟩, D4⟩, D4, by simp [PS.closed, SV.ok, G6, Nat.beq, -List.map_take, -List.map_set, -List.map_append, -List.map_drop]⟩
     · have t2 : decide ((i : Int) < ((n.map dG).length : Int)) = false := A9 (by rw [A7]; omega)
       rw [Ce hj, Nat.add_zero] at hnx
       have hs3 := V6 (q := q) (a := a + c) ((a + c) % 1000000000) h1
       have hl3 := AZ (q := q) (a := a + c) h1
       have wq : IntKind.u64.wrap (((a + c : Nat) : Int).tdiv 1000000000) = (((a + c) / 1000000000 : Nat) : Int) := Dh (n := (a + c) / 1000000000) (by omega)
       refine D8 (H3 V (A8 (J8 t1 V (B2 (A8 (B6 (H8 V (B5 V (D8 (Y5 V (C3 V (Z8 (by omega) (by omega) rfl rfl rfl (U3 rfl rfl hat (C3 rfl (G3 rfl (Z8 (by omega) (by omega) rfl rfl rfl ?_)))))))))))))))); rw [w1]; refine Y4 V V V hs1 ?_ hl1; refine yQ (I0 V (C3 V (yN V (H3 V (B1 (L9 t2 V (B2 (D8 (Y5 V (C3 V (Z8 (by omega) (by omega) rfl rfl rfl (U3 rfl rfl hat2 (G3 rfl (B5 rfl (B4 (Y5 rfl (C3 rfl (Z8 (by omega) (by omega) rfl rfl rfl (U3 rfl rfl hat2 (G3 rfl (Z8 (by omega) (by omega) rfl rfl rfl ?_))))))))))))))))))))); refine Y4 V V V hs3 ?_ hl3; refine yQ (B4 (G3 V (C3 V (yQ (B1 ?_))))); rw [wq]
       refine ⟨i + 1, by omega, by omega, rfl, ⟨E0, E0, .of_eq (by rw [hnx]; rfl), E0, .of_eq (C7 (fun n => SV.d (dI n)) hwi), D4⟩, ⟨⟨_, rfl, K4 (by rw [hnx, ← hq, H1]; rfl)⟩, D4⟩, D4, by simp [PS.closed, SV.ok, G6, Nat.beq, -List.map_take, -List.map_set, -List.map_append, -List.map_drop]⟩
   · have t1 : decide ((i : Int) < (m.length : Int)) = false := A9 (by omega)
     obtain rfl : i = m.length := by omega
     rw [← hp] at hr2
     simp only at hr2
     rw [List.drop_length, List.append_nil]
     rcases G9 c with hc | hc
     · subst hc
       rw [B9 (by omega), List.append_nil] at hr2
       subst hr2
       refine D8 (H3 V (A8 (L9 t1 V (G1 (I0 V (H3 V (F6 V (B2 (D8 (Y5 V (Dc V (yQ ?_)))))))))))); refine BD 4 20 (es := r.map dG) (ds := r.map dU) (by simp; omega) (Y1 r h1) (Bs _) rfl rfl ?_; refine C4 ?_
       exact C9 _ (.tmp V .nil) V
     · have t3 : decide ((c : Int) > 0) = true := B0 (by omega)
       rw [C5 hc] at hr2
       have hrl : r.length = m.length + 1 := by rw [hr2]; simp; omega
       have hrc : (vG p ++ [Value.int .u64 (c : Int)]).map (fun u => SV.d (.val u)) = cG r := by rw [hr2]; simp [cG, vG]
       refine D8 (H3 V (A8 (L9 t1 V (G1 (I0 V (H3 V (B1 (J8 t3 V (B4 (Y5 V (C3 V ?_))))))))))); refine yR (es := [[_]]) V V V V V ?_; refine KR (us := vG p) (vs := [Value.int .u64 (c : Int)]) (m := 1) (n := m.length) (by omega) (by omega) (by omega) rfl rfl (by simp; omega) rfl rfl rfl ?_; refine Dc V (yQ (D8 (Y5 V (Dc V (yQ ?_))))); refine BD 4 20 (es := r.map dG) (ds := r.map dU) (by simp; omega) (Y1 r hrl) (by rw [hrc]; exact Bs _) V V ?_; refine C4 ?_
       exact C9 _ (.tmp V .nil) V
theorem Mc {a : G0} (h : (L3 a).1 = []) : (L3 a).2 = false := by
 cases hb : (L3 a).2 with
 | false => rfl
 | true => exact G7 h (Ic hb)
theorem OW (a : G0) (ha : a.length ≤ 1000000) (h0 : (L3 a).1 = []) : PCalls Tryz.prog 142 [dS a] (.d (.agg [dB false, .val (.slice none 0 0)])) := by
 have c1 := Hm a (by omega)
 rw [Mc h0, h0] at c1
 refine B3 Tryz.func142 V Tryz.ntmps142 Tryz.results142 (by simp) fun B w0 => ?_
 refine D8 (yZ (cs := [_, _]) V V (yQ (H8 V (yC (c1) V V (O5 V (yX V V (yX V V (H4 V (B5 V (D8 (B5 V (I0 V (O4 V (B5 V (B6 ?_))))))))))))))); refine H2 (fun i : Nat => ⟨37, [(2, .bx 2 0), (4, .d (dB false)), (5, .d (.val (.slice none 0 0))), (6, .d (dI 0))], [(2, [.d (dB false), .d (.val (.slice none 0 0))])], []⟩) (fun i => i = 0) (fun i => i) 0 V
  ⟨rfl, ⟨E0, E0, E0, E0, D4⟩, ⟨⟨_, rfl, E0, E0, D4⟩, D4⟩, D4, rfl⟩ ?_
 intro i hi
 refine I0 V (H3 V (F6 V (G1 (H8 V (C3 V (yG (ys := [_, _]) V V (yS (cs' := [_, _]) V V V V V (yQ (C4 ?_)))))))))
 exact C9 _ (.agg E6 V V V V .nil) V
namespace Px
variable {es : List (List DV)} {x : Operand}
section
variable {P : Program} {sq : Bool} {ops : Array Oper} {K : PS → Prop} {rest : List Oper} {st : PS} {d : Option Nat} {ty : TypeId} {pos : String} {af : Array Edge} {gd : Option (Nat × Bool)}
theorem ls_eqsl (t t' : TypeId) (x : Operand) {te k : Nat} (hp : P.underlying t = some (.slice te)) (hx : asSl (st.ev x) = some (k, es)) (h0 : 0 < es.length) (hd : I2 ⟨d, .binOp .eql t x (.const (.slice none 0 0)) t', ty, pos, af, gd⟩ st = true) : L4 P ⟨d, .binOp .eql t x (.const (.slice none 0 0)) t', ty, pos, af, gd⟩ st (.d (.val (.bool false))) .no := fun st2 ha =>
 OpS.value (ha.dst hd) fun _ _ g a w h => by
  have h1 := h.eval x
  rw [ha.ev x (by simp [Op.operands])] at h1
  obtain ⟨A, c, news, hv, -, -, -, -, hcell, -⟩ := DRep.row (h1.asSl hx)
  obtain ⟨b, off, rfl, -⟩ := hcell h0
  refine ⟨.bool false, w, ?_, Below.refl _ _, DRep.val _ V⟩
  have h5 : a.eval (.const (.slice none 0 0)) = .slice none 0 0 := rfl
  simp only [execOp, hv, h5]
  simp [eqGuard, Lib.run_eql_slice_nil w t te _ _ _ _ _ hp, Result.andThen]
theorem yEn {t t' : Nat} {te k : Nat} (hp : P.underlying t = some (.slice te)) (h0 : 0 < es.length) (hx : asSl (st.ev x) = some (k, es)) (h : YR P sq ops K rest (st.put d (.d (.val (.bool false))))) (zz : zk ops st ⟨d, .binOp .eql t x (.const (.slice none 0 0)) t', ty, pos, af, gd⟩ .no = true := by kernel_rfl) :
 YR P sq ops K (⟨d, .binOp .eql t x (.const (.slice none 0 0)) t', ty, pos, af, gd⟩ :: rest) st := L0 (ls_eqsl t t' x hp hx h0 (zd zz)) (zo zz) (zw zz) h
theorem yEz {t t' : Nat} {te : Nat} (hp : P.underlying t = some (.slice te)) (hx : st.ev x = .d (.val (.slice none 0 0))) (h : YR P sq ops K rest (st.put d (.d (.val (.bool true))))) (zz : zk ops st ⟨d, .binOp .eql t x (.const (.slice none 0 0)) t', ty, pos, af, gd⟩ .no = true := by kernel_rfl) :
 YR P sq ops K (⟨d, .binOp .eql t x (.const (.slice none 0 0)) t', ty, pos, af, gd⟩ :: rest) st := L0 (AN .eql t t' x (.const (.slice none 0 0)) hx rfl (fun w => by
  have e : (eqGuard .eql t x (.const (.slice none 0 0)) (.slice none 0 0) (.slice none 0 0) >>= fun _ => binOp .eql t (.slice none 0 0) (.slice none 0 0)) = binOp .eql t (.slice none 0 0) (.slice none 0 0) := rfl
  rw [e]
  exact Lib.run_eql_slice_nil w t te none 0 0 0 0 hp) V (zd zz)) (zo zz) (zw zz) h
theorem yBw {t t' : Nat} {y : Operand} {k : IntKind} {a b c : Int} (hw2 : k.wrap (a + b) = c) (hx : st.ev x = .d (.val (.int k a))) (hy : st.ev y = .d (.val (.int k b))) (h : YR P sq ops K rest (st.put d (.d (.val (.int k c))))) (zz : zk ops st ⟨d, .binOp .add t x y t', ty, pos, af, gd⟩ .no = true := by kernel_rfl) :
 YR P sq ops K (⟨d, .binOp .add t x y t', ty, pos, af, gd⟩ :: rest) st := by
 subst hw2
 exact yB hx hy (by cases k <;> rfl) rfl h zz
end
theorem NO {st : PS} {t i : Nat} {cs : List SV} (hb : st.b = [(i, cs)]) (hs : (st.s.all fun p => p.2.noTs t) = true) (hc : (cs.all fun x => x.noTs t) = true) : st.noTs t = true := by
 unfold PS.noTs
 rw [hb, hs]
 simp only [List.all_cons, List.all_nil, hc, Bool.and_self]
theorem PCalls.mono_args {P : Program} {f : Nat} {xs ys : List DV} {r : SV} (h : PCalls P f xs r) (hl : ys.length = xs.length) (hi : ∀ (i : Nat) x y, ys[i]? = some x → xs[i]? = some y → ∀ F w v, DRep F w v x → DRep F w v y) : PCalls P f ys r := fun F w vals hvl hv hg =>
 h F w vals (hvl.trans hl) (fun i v y hvi hy => by
  obtain ⟨x, hx⟩ : ∃ x, ys[i]? = some x := ⟨_, A5 (by rw [hl]; exact (A6.1 hy).1)⟩
  exact hi i x y hx hy F w v (hv i v x hvi hx)) hg
end Px
variable {f : Nat} {r : SV}
theorem noTs_cG (l : List Nat) (t : Nat) : ((cG l).all fun x => x.noTs t) = true := by
 rw [E5]
 intro x hx
 simp only [cG, vG, H0] at hx
 obtain ⟨u, -, rfl⟩ := hx
 rfl
def OB : List Nat → DV
 | [] => .val (.slice none 0 0)
 | x :: l => .sl 1 ((x :: l).map dG)
theorem LX {F : Nat → Nat → Prop} {w : World} {v : Value} {l : List Nat} (h : DRep F w v (OB l)) : DRep F w v (.sl 1 (l.map dG)) := by
 cases l with
 | nil =>
  have := DRep.val_eq h
  subst this
  exact DRep.nil
 | cons x l => exact h
theorem mg1 {m : List Nat} (h : PCalls Tryz.prog f [.sl 1 (m.map dG)] r) : PCalls Tryz.prog f [OB m] r := h.mono_args rfl fun i x y hx hy F w v hv => by
 match i, hx, hy with
 | 0, hx, hy => cases hx; cases hy; exact LX hv
 | i + 1, hx, hy => simp at hx
theorem mg2 {m n : List Nat} (h : PCalls Tryz.prog f [.sl 1 (m.map dG), .sl 1 (n.map dG)] r) : PCalls Tryz.prog f [OB m, OB n] r := h.mono_args rfl fun i x y hx hy F w v hv => by
 match i, hx, hy with
 | 0, hx, hy => cases hx; cases hy; exact LX hv
 | 1, hx, hy => cases hx; cases hy; exact LX hv
 | i + 2, hx, hy => simp at hx
abbrev dNm (b : Bool) (l : List Nat) : List DV := [dB b, OB l]
theorem OX (a : G0) (ha : a.length ≤ 1000000) : PCalls Tryz.prog 142 [dS a] (.d (.agg (dNm (L3 a).2 (EH (L3 a).1)))) := by
 by_cases h : (L3 a).1 = []
 · have := OW a ha h
   rw [Mc h, h, FN]
   exact this
 · have := wRead a ha
   rw [Cs h] at this ⊢
   exact this
theorem Mw : PCalls Tryz.prog 238 [.val (.slice none 0 0)] (.d (.val (.slice none 0 0))) := by
 refine B3 Tryz.func238 V Tryz.ntmps238 Tryz.results238 (by simp) fun B w0 => ?_
 refine D8 (B5 V (I0 V (yEz Tryz.underlying181 V (yQ (G5 V (D8 (B5 V (C4 (A4 ?_)))))))))
 exact C9 _ (.tmp V .nil) V
theorem wClone (l : List Nat) (h0 : 0 < l.length) (hl : l.length ≤ 1000000) : POwn Tryz.prog 238 [.sl 1 (l.map dG)] u64T 1 (l.map dG) := by
 refine Kl (t := 198 * 100000 + 5) Tryz.func238 V Tryz.ntmps238 Tryz.results238 (by simp) rfl fun B w0 => ?_
 refine D8 (B5 V (I0 V ?_)); refine yEn Tryz.underlying181 (by simp; omega) rfl ?_; refine yQ (F6 V (B2 (D8 (yEb V (C3 V ?_))))); refine KR (us := []) (vs := vG l) (m := l.length) (n := 0) h0 (by omega) (by omega) (by rw [vG, List.map_map]; exact Y1 l V) (by simp) rfl rfl rfl rfl ?_; refine Dc V (yQ ?_); refine Kk 2 5 (198 * 100000 + 5) (n := 0 + l.length) (es := l.map dG) (ds := l.map dU) (by simp) (Y1 l (by simp)) (Bs _) rfl rfl rfl rfl (NO (i := 5) (cs := cG l) rfl rfl (noTs_cG l _)) ?_; refine C4 ?_
 exact q_own V (C7 some (by simp))
theorem Gi (m n : List Nat) (i : Nat) : P8 m n (i + 1) = if Q4 m i < (P8 m n i).2 + Q4 n i then ((P8 m n i).1 ++ [Q4 m i + 1000000000 - ((P8 m n i).2 + Q4 n i)], 1) else ((P8 m n i).1 ++ [Q4 m i - ((P8 m n i).2 + Q4 n i)], 0) := rfl
theorem wMinusP (m n : List Nat) (hgm : gok m) (hgn : gok n) (h0 : 0 < m.length) (hlm : m.length ≤ 1000000) : PCalls Tryz.prog 198 [.sl 1 (m.map dG), .sl 1 (n.map dG)] (.d (.sl 1 ((R0 (P8 m n m.length).1).map dG))) := by
 have c1 := wClone m h0 hlm
 obtain ⟨z, hz⟩ := H7 ((P8 m n m.length).1)
 have hzl : z.length = m.length := by rw [hz]; exact (Z3 hgm hgn m.length).1
 have c2 := wCut z (by omega)
 rw [← hz]
 obtain ⟨r, hr⟩ := H7 (R0 z)
 rw [← hr] at c2 ⊢
 refine B3 Tryz.func198 V Tryz.ntmps198 Tryz.results198 (by simp) fun B w0 => ?_
 refine D8 (B5 V (H8 V ?_)); refine yCob (vs := vG m) c1 (by simp; omega) (by rw [vG, List.map_map]; simp only [A7]; exact Y1 m V) (by simp) rfl rfl ?_; refine Dc V (yQ (D8 (B5 V (A8 (D8 (Y5 V (yNb V (C3 V (yQ (B6 ?_)))))))))); refine H2 (fun i : Nat => ⟨49, [(1, .d (.sl 1 (n.map dG))), (5, .bs 10 (m.map dG).length u64T 1), (6, .d (dU (P8 m n i).2)), (12, .d (dI (m.map dG).length)), (13, .d (dI i))], [(10, cG ((P8 m n i).1 ++ m.drop i))], []⟩) (fun i => i ≤ m.length) (fun i => m.length - i) 0 (D9 _)
  ⟨rfl, ⟨E0, E0, E0, E0, E0, D4⟩, ⟨⟨_, rfl, K4 rfl⟩, D4⟩, D4, by simp [PS.closed, SV.ok, G6, Nat.beq, -List.map_take, -List.map_set, -List.map_append, -List.map_drop]⟩ ?_
 intro i hi
 obtain ⟨h1, h2, h3, -⟩ := Z3 hgm hgn i
 have hnx := Gi m n i
 obtain ⟨⟨p, c⟩, hp⟩ := H7 (P8 m n i)
 rw [← hp] at h1 h2 h3 hnx ⊢
 simp only at h1 h2 h3 hnx ⊢
 rcases D2 i m.length with hi2 | hi2
 · have t1 : decide ((i : Int) < ((m.map dG).length : Int)) = true := B0 (by rw [A7]; omega)
   obtain ⟨a, ha⟩ := Bq hi2
   have hga := T3 ha
   have ha9 : a < 1000000000 := hgm a (B7 ha)
   have hdr : m.drop i = a :: m.drop (i + 1) := by
    obtain ⟨q1, q2⟩ := A6.1 ha
    rw [J0 q1, q2]
   obtain ⟨q, hq⟩ := H7 (m.drop (i + 1))
   rw [hdr, ← hq]
   rw [hga] at hnx
   have hat := DW (q := q) (a := a) h1
   have hwi := I5 ((i : Int) + 1) (by omega)
   have hml : (i : Int) < ((m.map dG).length : Int) := by rw [A7]; omega
   rcases D2 i n.length with hj | hj
   · have t2 : decide ((i : Int) < ((n.map dG).length : Int)) = true := B0 (by rw [A7]; omega)
     obtain ⟨b, hb⟩ := Bq hj
     have hb9 : b < 1000000000 := hgn b (B7 hb)
     have eb := ix dG n (i : Int) i b rfl hb
     have hgb := T3 hb
     rw [hgb] at hnx
     have w1 : IntKind.u64.wrap ((c : Int) + (b : Int)) = ((c + b : Nat) : Int) := by rw [← Int.natCast_add]; exact Dh (by omega)
     by_cases hlt : a < c + b
     · have t3 : decide ((a : Int) < (((c + b) : Nat) : Int)) = true := B0 (by omega)
       rw [C5 hlt] at hnx
       obtain ⟨a2, ha2⟩ := H7 (a + 1000000000)
       rw [← ha2] at hnx
       have w2 : IntKind.u64.wrap ((a : Int) + 1000000000) = (a2 : Int) := by rw [IntKind.wrap_u64]; omega
       have hs1 := V6 (q := q) (a := a) a2 h1
       have hl1 := AZ (q := q) (a := a) h1
       have hat2 := DW (q := q) (a := a2) h1
       have w3 : IntKind.u64.wrap ((a2 : Int) - (((c + b) : Nat) : Int)) = ((a2 - (c + b) : Nat) : Int) := by rw [← Int.natCast_sub (by omega)]; exact Dh (by omega)
       have hs2 := V6 (q := q) (a := a2) (a2 - (c + b)) h1
       have hl2 := AZ (q := q) (a := a2) h1
       refine D8 (H3 V (A8 (J8 t1 V (B2 (A8 (B6 (H8 V (B5 V (H8 V (B5 V (I0 V (C3 V (yN V (H3 V (B1 (J8 t2 V (B4 (C3 V (C3 V (C3 V (yW eb (by omega) rfl rfl (K5 rfl rfl (G3 rfl (B5 rfl (D8 (B5 rfl (A8 (D8 (Y5 rfl (C3 rfl (Z8 (by omega) (by omega) rfl rfl rfl (U3 rfl rfl hat (C3 rfl (H3 rfl (B1 ?_))))))))))))))))))))))))))))))))))); rw [w1]; rw [t3]
       refine G5 V (D8 (Y5 V (C3 V (Z8 (by omega) (by omega) rfl rfl rfl (U3 rfl rfl hat (yBw w2 rfl rfl (Z8 (by omega) (by omega) rfl rfl rfl ?_))))))); refine Y4 V V V hs1 ?_ hl1; refine yQ (B4 (B5 V (B4 (Y5 V (C3 V (Z8 (by omega) (by omega) rfl rfl rfl (U3 rfl rfl hat2 (C3 rfl (G3 rfl (Z8 (by omega) (by omega) rfl rfl rfl ?_)))))))))); rw [w3]; refine Y4 V V V hs2 ?_ hl2; refine yQ (B4 (G3 V (C3 V (yQ (B1 ?_)))))
       refine ⟨i + 1, by omega, by omega, rfl, ⟨E0, E0, .of_eq (by rw [hnx]; rfl), E0, .of_eq (C7 (fun n => SV.d (dI n)) hwi), D4⟩, ⟨⟨_, rfl, K4 (by rw [hnx, ← hq, H1]; rfl)⟩, D4⟩, D4, by simp [PS.closed, SV.ok, G6, Nat.beq, -List.map_take, -List.map_set, -List.map_append, -List.map_drop]⟩
     · have t3 : decide ((a : Int) < (((c + b) : Nat) : Int)) = false := A9 (by omega)
       rw [B9 hlt] at hnx
       have w3 : IntKind.u64.wrap ((a : Int) - (((c + b) : Nat) : Int)) = ((a - (c + b) : Nat) : Int) := by rw [← Int.natCast_sub (by omega)]; exact Dh (by omega)
       have hs2 := V6 (q := q) (a := a) (a - (c + b)) h1
       have hl2 := AZ (q := q) (a := a) h1
       refine D8 (H3 V (A8 (J8 t1 V (B2 (A8 (B6 (H8 V (B5 V (H8 V (B5 V (I0 V (C3 V (yN V (H3 V (B1 (J8 t2 V (B4 (C3 V (C3 V (C3 V (yW eb (by omega) rfl rfl (K5 rfl rfl (G3 rfl (B5 rfl (D8 (B5 rfl (A8 (D8 (Y5 rfl (C3 rfl (Z8 (by omega) (by omega) rfl rfl rfl (U3 rfl rfl hat (C3 rfl (H3 rfl (B1 ?_))))))))))))))))))))))))))))))))))); rw [w1]; rw [t3]
       refine F6 V (B2 (B4 (Y5 V (C3 V (Z8 (by omega) (by omega) rfl rfl rfl (U3 rfl rfl hat (C3 rfl (G3 rfl (Z8 (by omega) (by omega) rfl rfl rfl ?_))))))))); rw [w3]; refine Y4 V V V hs2 ?_ hl2; refine yQ (B4 (G3 V (C3 V (yQ (B1 ?_)))))
       refine ⟨i + 1, by omega, by omega, rfl, ⟨E0, E0, .of_eq (by rw [hnx]; rfl), E0, .of_eq (C7 (fun n => SV.d (dI n)) hwi), D4⟩, ⟨⟨_, rfl, K4 (by rw [hnx, ← hq, H1]; rfl)⟩, D4⟩, D4, by simp [PS.closed, SV.ok, G6, Nat.beq, -List.map_take, -List.map_set, -List.map_append, -List.map_drop]⟩
   · have t2 : decide ((i : Int) < ((n.map dG).length : Int)) = false := A9 (by rw [A7]; omega)
     simp only [Ce hj, Nat.add_zero] at hnx
     by_cases hlt : a < c
     · have t3 : decide ((a : Int) < ((c : Nat) : Int)) = true := B0 (by omega)
       rw [C5 hlt] at hnx
       obtain ⟨a2, ha2⟩ := H7 (a + 1000000000)
       rw [← ha2] at hnx
       have w2 : IntKind.u64.wrap ((a : Int) + 1000000000) = (a2 : Int) := by rw [IntKind.wrap_u64]; omega
       have hs1 := V6 (q := q) (a := a) a2 h1
       have hl1 := AZ (q := q) (a := a) h1
       have hat2 := DW (q := q) (a := a2) h1
       have w3 : IntKind.u64.wrap ((a2 : Int) - ((c : Nat) : Int)) = ((a2 - c : Nat) : Int) := by rw [← Int.natCast_sub (by omega)]; exact Dh (by omega)
       have hs2 := V6 (q := q) (a := a2) (a2 - c) h1
       have hl2 := AZ (q := q) (a := a2) h1
       refine D8 (H3 V (A8 (J8 t1 V (B2 (A8 (B6 (H8 V (B5 V (H8 V (B5 V (I0 V (C3 V (yN V (H3 V (B1 (L9 t2 V (B2 (D8 (B5 V (A8 (D8 (Y5 V (C3 V (Z8 (by omega) (by omega) rfl rfl rfl (U3 rfl rfl hat (C3 rfl (H3 rfl (B1 (J8 t3 rfl (D8 (Y5 rfl (C3 rfl (Z8 (by omega) (by omega) rfl rfl rfl (U3 rfl rfl hat (yBw w2 rfl rfl (Z8 (by omega) (by omega) rfl rfl rfl ?_)))))))))))))))))))))))))))))))))))); refine Y4 V V V hs1 ?_ hl1; refine yQ (B4 (B5 V (B4 (Y5 V (C3 V (Z8 (by omega) (by omega) rfl rfl rfl (U3 rfl rfl hat2 (C3 rfl (G3 rfl (Z8 (by omega) (by omega) rfl rfl rfl ?_)))))))))); rw [w3]; refine Y4 V V V hs2 ?_ hl2; refine yQ (B4 (G3 V (C3 V (yQ (B1 ?_)))))
       refine ⟨i + 1, by omega, by omega, rfl, ⟨E0, E0, .of_eq (by rw [hnx]; rfl), E0, .of_eq (C7 (fun n => SV.d (dI n)) hwi), D4⟩, ⟨⟨_, rfl, K4 (by rw [hnx, ← hq, H1]; rfl)⟩, D4⟩, D4, by simp [PS.closed, SV.ok, G6, Nat.beq, -List.map_take, -List.map_set, -List.map_append, -List.map_drop]⟩
     · have t3 : decide ((a : Int) < ((c : Nat) : Int)) = false := A9 (by omega)
       rw [B9 hlt] at hnx
       have w3 : IntKind.u64.wrap ((a : Int) - ((c : Nat) : Int)) = ((a - c : Nat) : Int) := by rw [← Int.natCast_sub (by omega)]; exact Dh (by omega)
       have hs2 := V6 (q := q) (a := a) (a - c) h1
       have hl2 := AZ (q := q) (a := a) h1
       refine D8 (H3 V (A8 (J8 t1 V (B2 (A8 (B6 (H8 V (B5 V (H8 V (B5 V (I0 V (C3 V (yN V (H3 V (B1 (L9 t2 V (B2 (D8 (B5 V (A8 (D8 (Y5 V (C3 V (Z8 (by omega) (by omega) rfl rfl rfl (U3 rfl rfl hat (C3 rfl (H3 rfl (B1 (L9 t3 rfl (B2 (B4 (Y5 rfl (C3 rfl (Z8 (by omega) (by omega) rfl rfl rfl (U3 rfl rfl hat (C3 rfl (G3 rfl (Z8 (by omega) (by omega) rfl rfl rfl ?_)))))))))))))))))))))))))))))))))))))); rw [w3]; refine Y4 V V V hs2 ?_ hl2; refine yQ (B4 (G3 V (C3 V (yQ (B1 ?_)))))
       refine ⟨i + 1, by omega, by omega, rfl, ⟨E0, E0, .of_eq (by rw [hnx]; rfl), E0, .of_eq (C7 (fun n => SV.d (dI n)) hwi), D4⟩, ⟨⟨_, rfl, K4 (by rw [hnx, ← hq, H1]; rfl)⟩, D4⟩, D4, by simp [PS.closed, SV.ok, G6, Nat.beq, -List.map_take, -List.map_set, -List.map_append, -List.map_drop]⟩
 · have t1 : decide ((i : Int) < ((m.map dG).length : Int)) = false := A9 (by rw [A7]; omega)
   obtain rfl : i = m.length := by omega
   rw [← hp] at hz
   simp only at hz
   rw [List.drop_length, List.append_nil, ← hz]
   refine BD 5 10 (n := (m.map dG).length) (es := z.map dG) (ds := z.map dU) (by simp; omega) (Y1 z (by simp; omega)) (Bs _) rfl rfl ?_; refine D8 (H3 V (A8 (L9 t1 V (G1 (H8 V (yC (c2) V V (B5 V (C4 ?_))))))))
   exact C9 _ (.tmp V .nil) V
open Go.RowKit Px
abbrev bT : Nat := 131
abbrev uT : Nat := 5 * 100000 + 4
abbrev uT2 : Nat := 5 * 100000 + 10004
abbrev dY (c : UInt8) : List DV := [DV.val (.int .u8 c.toNat)]
theorem hU139 : ∃ j, Tryz.prog.info? 131 = some j ∧ j.size ≠ 0 := by
 have h : (Tryz.prog.info? 131).map (·.size) = some 2 := by kernel_rfl
 obtain ⟨j, h1, h2⟩ := C8.1 h
 exact ⟨j, h1, by omega⟩
theorem hNoEsc (v : Value) (w : World) : (callFunc 186 #[v]).run Tryz.prog w = .ok (.value v) w := by
 rw [run_callFunc_extern Tryz.func186 (by kernel_rfl) (by kernel_rfl) (by kernel_rfl) (e := Extern.AbiNoEscape.same) (by kernel_rfl), Lib.run_noEscape]
 rfl
theorem hLies : liesAt Tryz.prog Tryz.prog.depth 131 (2 / Tryz.prog.cellsOf 131) 0 131 1 = true := by kernel_rfl
theorem wCcF (l : List UInt8) : PCx Tryz.prog 132 [.tx 10004 bT 2] [(10004, [.d (.val (.pointer none)), .ts uT2 1 (l.map dY)])] [(uT2, (l.map dY).length)] (.tup []) [(10004, [.tx 10004 bT 2, .ts uT2 1 (l.map dY)])] [(uT2, (l.map dY).length)] := by
 obtain ⟨j, hj, hj0⟩ := hU139
 refine Z4 Tryz.func132 V Tryz.ntmps132 Tryz.results132 (by simp) fun B w0 => ?_
 refine D8 (KT V (yQN V (J6 V (yQz Tryz.underlying128 V (yQ (G5 V (B4 (KT V (KT V ?_))))))))); refine yQu Tryz.underlying128 Tryz.underlying216 hj hj0 (by decide) rfl ?_; refine yQn hNoEsc V (yQc Tryz.underlying216 Tryz.underlying128 hj hLies V (yQN V (CO V (yQs (cs' := [_, _]) V V V V (yQ ?_)))))
 exact q_xe [] .nil V ⟨rfl, D4⟩ ⟨rfl, D4⟩
theorem wCcU (l : List UInt8) : PCx Tryz.prog 132 [.tx 10004 bT 2] [(10004, [.tx 10004 bT 2, .ts uT2 1 (l.map dY)])] [(uT2, (l.map dY).length)] (.tup []) [(10004, [.tx 10004 bT 2, .ts uT2 1 (l.map dY)])] [(uT2, (l.map dY).length)] := by
 obtain ⟨j, hj, hj0⟩ := hU139
 refine Z4 Tryz.func132 V Tryz.ntmps132 Tryz.results132 (by simp) fun B w0 => ?_
 refine D8 (KT V (yQN V (CO V (yQl V V V (yQe Tryz.underlying128 V (yQ (F6 V (D8 (KT V (yQN V (CO V (yQl V V V (KT V (yQq Tryz.underlying128 hj V V (yQ (F6 V (B2 ?_)))))))))))))))))
 exact q_xe [] .nil V ⟨rfl, D4⟩ ⟨rfl, D4⟩
theorem wWbF (l : List UInt8) (c : UInt8) (hl : l.length ≤ 100000000) : PCx Tryz.prog 194 [.tx 4 bT 2, .d (.val (.int .u8 c.toNat))] [(4, [.d (.val (.pointer none)), .ts uT 1 (l.map dY)])] [(uT, (l.map dY).length)] (.d (.val .nilIface)) [(4, [.tx 4 bT 2, .ts uT 1 ((l ++ [c]).map dY)])] [(uT, ((l ++ [c]).map dY).length)] := by
 refine Z4 Tryz.func194 V Tryz.ntmps194 Tryz.results194 (by simp) fun B w0 => ?_
 refine D8 (B5 V (D8 (KT V ?_))); refine yCx (wCcF l) V ⟨rfl, D4⟩ ⟨rfl, D4⟩ ?_ (hfit := by kernel_rfl); refine yQ (D8 (KT V (KT V (yQN V (CO V (Mo V V V (C3 V ?_))))))); refine yR (es := [[_]]) V V V V V ?_; refine yT (es' := (l ++ [c]).map dY) (m := ((l ++ [c]).map dY).length) (by simp; omega) (by simp; omega) rfl rfl rfl rfl rfl (by simp) (by simp) ?_; refine yQN V (CO V (ySt (cs' := [_, _]) V V V V (yQ (D8 (B5 V (C4 ?_))))))
 exact q_x _ (.tmp V .nil) V ⟨rfl, D4⟩ ⟨rfl, D4⟩
theorem wWsF (l s : List UInt8) (hl : l.length ≤ 100000000) (hs : s.length ≤ 100000000) (h0 : 0 < s.length) : PCx Tryz.prog 88 [.tx 4 bT 2, .d (dS s)] [(4, [.d (.val (.pointer none)), .ts uT 1 (l.map dY)])] [(uT, (l.map dY).length)] (.tup [dI s.length, .val .nilIface]) [(4, [.tx 4 bT 2, .ts uT 1 ((l ++ s).map dY)])] [(uT, ((l ++ s).map dY).length)] := by
 refine Z4 Tryz.func88 V Tryz.ntmps88 Tryz.results88 (by simp) fun B w0 => ?_
 refine D8 (H4 V (B5 V (D8 (KT V ?_)))); refine yCx (wCcF l) V ⟨rfl, D4⟩ ⟨rfl, D4⟩ ?_ (hfit := by kernel_rfl)
 refine yQ (D8 (KT V (KT V (yQN V (CO V (Mo V V V (C3 V ?_))))))); refine yTs (es2 := s.map dY) (es' := (l ++ s).map dY) (m := ((l ++ s).map dY).length) (by kernel_rfl) Tryz.underlying9 h0 rfl (by simp; omega) rfl rfl rfl rfl rfl (by simp) (by simp) ?_; refine yQN V (CO V (ySt (cs' := [_, _]) V V V V (yQ (H8 V (O4 V (H4 V (B5 V (C4 ?_))))))))
 exact q_x _ (.tmp V (.tmp V .nil)) V ⟨rfl, D4⟩ ⟨rfl, D4⟩
theorem wWsU (l s : List UInt8) (hl : l.length ≤ 100000000) (hs : s.length ≤ 100000000) (h0 : 0 < s.length) : PCx Tryz.prog 88 [.tx 4 bT 2, .d (dS s)] [(4, [.tx 4 bT 2, .ts uT 1 (l.map dY)])] [(uT, (l.map dY).length)] (.tup [dI s.length, .val .nilIface]) [(4, [.tx 4 bT 2, .ts uT 1 ((l ++ s).map dY)])] [(uT, ((l ++ s).map dY).length)] := by
 refine Z4 Tryz.func88 V Tryz.ntmps88 Tryz.results88 (by simp) fun B w0 => ?_
 refine D8 (H4 V (B5 V (D8 (KT V ?_)))); refine yCx (wCcU l) V ⟨rfl, D4⟩ ⟨rfl, D4⟩ ?_ (hfit := by kernel_rfl)
 refine yQ (D8 (KT V (KT V (yQN V (CO V (Mo V V V (C3 V ?_))))))); refine yTs (es2 := s.map dY) (es' := (l ++ s).map dY) (m := ((l ++ s).map dY).length) (by kernel_rfl) Tryz.underlying9 h0 rfl (by simp; omega) rfl rfl rfl rfl rfl (by simp) (by simp) ?_; refine yQN V (CO V (ySt (cs' := [_, _]) V V V V (yQ (H8 V (O4 V (H4 V (B5 V (C4 ?_))))))))
 exact q_x _ (.tmp V (.tmp V .nil)) V ⟨rfl, D4⟩ ⟨rfl, D4⟩
open Go.RowKit Go.Sort Go.Lib Go.Shelf
variable {l : List Nat}
set_option maxRecDepth 100000 in
theorem LQ (i : Nat) (hi : i < 100) (w : World) :
 Calls Tryz.prog 235 #[.int .u64 i, .int .i64 10] w fun e w' => e = .returned (.string ⟨(Lib.decDigits i).toArray⟩) ∧ w' = w := by
 have hc : ∀ W, Calls Tryz.prog 257 #[.int .i64 i] W fun e w' => e = .returned (.string ⟨(Lib.decDigits i).toArray⟩) ∧ w' = W := fun W =>
  Any.internal_strconv_small (ρ := Tryz.small_ren) Tryz.small i hi W
 have iu : (i : Int) < 100 := by omega
 go_enter Tryz.func235, Tryz.ntmps235
 go_wp2_with fail
 refine (hc _).mono ?_
 rintro e w' ⟨rfl, rfl⟩
 go_wp2_with fail
 go_ret
 exact ⟨rfl, V⟩
set_option maxRecDepth 100000 in
theorem QW (u : Nat) (hu : 100 ≤ u) (hu64 : u < 18446744073709551616) (w : World) (htab : Lib.TabIs Tryz.prog w "internal/strconv.uint64pow10" .u64 Lib.pow10Tab) :
 Calls Tryz.prog 235 #[.int .u64 u, .int .i64 10] w fun e w' => e = .returned (.string ⟨(Lib.decDigits u).toArray⟩) ∧ Below w.heap.size w w' := by
 have hu1 : 1 ≤ u := by omega
 have iu : (100 : Int) ≤ (u : Int) := by omega
 have hnd20 : Lib.nDigits u ≤ 20 := by have := Lib.numDigits_eq u hu1 hu64; split at this <;> omega
 have hal : Tryz.prog.arrayLen 273 = 24 := by kernel_rfl
 have hsl : ∀ W, (Instr.sliceAt 273 (.pointer (some ⟨w.heap.size, 0, none⟩)) none (some (.int .i64 (Lib.nDigits u : Int))) none).run Tryz.prog W = .ok (.slice (some ⟨w.heap.size, 0, none⟩) (Lib.nDigits u) 24) W := fun W => by
  rw [run_sliceAt_array_h W 273 ⟨w.heap.size, 0, none⟩ (by simp [Program.arrayLen, Program.elem, Tryz.underlying273]) .i64 (Lib.nDigits u : Int) (by omega) (by rw [hal]; omega)]
  go_simp
 have hH0 := Lib.holds_zero0 w 273 (Lib.nDigits u) (by omega)
 have hfmt : Calls Tryz.prog 259 _ _ _ := Any.internal_strconv_formatBase10 (ρ := Tryz.fb_ren) Tryz.fb w.heap.size 0 24 u (Array.replicate (Lib.nDigits u) 0) (w.alloc (.cells Lib.zeros24 273)) hH0 (by rw [Array.size_replicate]; exact Lib.lt_pow_nDigits u) hu64 (by rw [Array.size_replicate]; omega)
 rw [Array.size_replicate] at hfmt
 have hnd : ∀ W, Lib.TabIs Tryz.prog W "internal/strconv.uint64pow10" .u64 Lib.pow10Tab → Calls Tryz.prog 258 #[.int .u64 u] W fun e w' => e = .returned (.int .i64 (Lib.nDigits u)) ∧ w' = W := fun W h => Any.internal_strconv_numDigits (ρ := Tryz.nd_ren) Tryz.nd u hu1 hu64 W h
 have HH0 := Lib.hid hH0
 clear hH0 hal
 go_enter Tryz.func235, Tryz.ntmps235
 go_wp2_with fail
 refine (hnd _ (Lib.tabIs_alloc htab _)).mono ?_
 rintro e w' ⟨rfl, rfl⟩
 go_wp2_with fail
 refine hfmt.mono ?_
 rintro e w' ⟨rfl, k, v', dk, rfl, hF⟩
 have hcv : (convert 129 9 (.slice (some ⟨w.heap.size, 0, none⟩) (Lib.nDigits u) 24)).run Tryz.prog ((putRow (fun (b : UInt8) => Value.int .u8 (b.toNat : Int)) (w.alloc (.cells Lib.zeros24 273)) w.heap.size 0 dk).drewN k) = .ok (.string ⟨(Lib.decDigits u).toArray⟩) ((putRow (fun (b : UInt8) => Value.int .u8 (b.toNat : Int)) (w.alloc (.cells Lib.zeros24 273)) w.heap.size 0 dk).drewN k) := by
  have h := run_convert_bytes_back (P := Tryz.prog) ((putRow (fun (b : UInt8) => Value.int .u8 (b.toNat : Int)) (w.alloc (.cells Lib.zeros24 273)) w.heap.size 0 dk).drewN k) 129 9 5 ⟨w.heap.size, 0, none⟩ 24 (Lib.decDigits u) Tryz.underlying129 Tryz.underlying5 Tryz.underlying9 (fun j hj => by
   rw [Lib.row_is_numeral hF j hj, Lib.add_plain, World.cell?_drewN]
   exact cell?_putRow (fun (b : UInt8) => Value.int .u8 (b.toNat : Int)) _ w.heap.size 0 _ dk HH0.out (by rw [hF.size, Array.size_replicate]) j (by rw [hF.size]; rw [Lib.decDigits_length] at hj; exact hj))
  rw [Lib.decDigits_length] at h
  exact h
 have hbel : Below w.heap.size w ((putRow (fun (b : UInt8) => Value.int .u8 (b.toNat : Int)) (w.alloc (.cells Lib.zeros24 273)) w.heap.size 0 dk).drewN k) := by
  obtain ⟨os, eo⟩ := Lib.fin_at w (.cells Lib.zeros24 273) dk k 0
  rw [eo]
  exact Lib.below_grow _ w (E3 _) k os
 go_wp2
 go_ret
 exact ⟨rfl, hbel⟩
theorem tab_is {F : Nat → Nat → Prop} {w : World} (hg : GlobOk F w) : Lib.TabIs Tryz.prog w "internal/strconv.uint64pow10" .u64 Lib.pow10Tab := by
 obtain ⟨-, vs, h1, T, z, h2⟩ := hg (5) ((Lib.pow10Tab.map fun z => Value.int .u64 z).map DV.val) (by kernel_rfl)
 have e : vs = Lib.pow10Tab.map fun z => Value.int .u64 z := ((List.map_inj_right (fun a b h => by cases h; rfl)).1 h1).symm
 have hn : Program.globalNamed Tryz.prog "internal/strconv.uint64pow10" = some (5) := by kernel_rfl
 show World.var? _ _ _ = _
 unfold World.var?
 rw [hn, Option.bind_some, h2, e]
theorem GX (n : Nat) : Lib.decDigits n = fmt n := by
 unfold fmt
 by_cases h : n = 0
 · rw [C5 h, h, Lib.decDigits, dif_pos (by decide)]
   decide
 · rw [B9 h]
   exact Af h
theorem wFmtUi (u : Nat) (hu : u < 18446744073709551616) : PCalls Tryz.prog 235 [dU u, dI 10] (.d (dS (fmt u))) :=
 PCalls.of_any (us := [vS (fmt u)]) rfl (DA _ rfl) fun F w vals hl hr hg => by
  obtain rfl : vals = [.int .u64 u, .int .i64 10] := FK (us := [.int .u64 u, .int .i64 10]) hl hr
  rw [← GX]
  by_cases h : u < 100
  · refine (LQ u h w).mono ?_
    rintro e w' ⟨rfl, rfl⟩
    exact ⟨rfl, Below.refl _ _⟩
  · refine (QW u (by omega) hu w (tab_is hg)).mono ?_
    rintro e w' ⟨rfl, h⟩
    exact ⟨rfl, h⟩
theorem Oh (u : Nat) (hu : u < 18446744073709551616) : PCalls Tryz.prog 195 [dU u, dI 10] (.d (dS (fmt u))) := by
 have c1 := wFmtUi u hu
 refine B3 Tryz.func195 V Tryz.ntmps195 Tryz.results195 (by simp) fun B w0 => ?_
 refine D8 (B5 V (H8 V (C3 V (yC (c1) V V (B5 V (C4 ?_))))))
 exact C9 _ (.tmp V .nil) V
theorem bExtraR : Builder.Extra Tryz.prog Tryz.repeat_ren := { sizeBuilder := by kernel_rfl, liesBuilder := by kernel_rfl, t5 := by kernel_rfl, a5 := fun _ => by kernel_rfl, z5 := fun _ => by kernel_rfl, v5 := fun _ => by kernel_rfl, infoByte := by kernel_rfl, cellsByte := by kernel_rfl, sizeByte := by kernel_rfl, neB5 := by decide }
theorem Mi : Builder.Extra Tryz.prog Tryz.bst_ren := { sizeBuilder := by kernel_rfl, liesBuilder := by kernel_rfl, t5 := by kernel_rfl, a5 := fun _ => by kernel_rfl, z5 := fun _ => by kernel_rfl, v5 := fun _ => by kernel_rfl, infoByte := by kernel_rfl, cellsByte := by kernel_rfl, sizeByte := by kernel_rfl, neB5 := by decide }
theorem Lm (k : Nat) (hk : k ≤ 9) : PCalls Tryz.prog 196 [dS [48], dI k] (.d (dS (List.replicate k 48))) :=
 PCalls.of_any (us := [vS (List.replicate k 48)]) rfl (DA _ rfl) fun F w vals hl hr hg => by
  obtain rfl : vals = [vS [48], .int .i64 k] := FK (us := [vS [48], .int .i64 k]) hl hr
  have e : Lib.repeatL [48] k = List.replicate k 48 := by
   have := Lib.repeatL_replicate 48 1 k
   rwa [Nat.mul_one] at this
  refine (Any.strings_Repeat Tryz.repeat bExtraR ⟨#[48]⟩ k w (by omega) (by show 1 * k ≤ _; omega)).mono ?_
  rintro en w' ⟨rfl, h⟩
  refine ⟨?_, h⟩
  show Ending.returned (.string ⟨(Lib.repeatL [48] k).toArray⟩) = _
  rw [e]
theorem Ox {x : Nat} (hg : gok (l ++ [x])) (hx : x ≠ 0) (b : Bool) : I6 (sg b (K0 (l ++ [x]))) = (if b then [45] else []) ++ fmt x ++ pads l := by
 have h1 := LW (GB.1 hg).1 hx
 have h2 : K0 (l ++ [x]) ≠ 0 := by
  rw [As]
  have : 0 < 1000000000 ^ l.length * x := Nat.mul_pos (Nat.pow_pos (by decide)) (by omega)
  omega
 have h3 : fmt x = AY x := by unfold fmt; rw [B9 hx]
 unfold I6 sg
 cases b with
 | true =>
  simp only [if_true]
  rw [C5 (by omega), Int.natAbs_neg, Int.natAbs_natCast, h1, h3]
  rfl
 | false =>
  simp only [Bool.false_eq_true, if_false]
  rw [B9 (by omega), Int.natAbs_natCast, h1, h3]
  rfl
theorem NB (h : R0 l = []) (b : Bool) : I6 (sg b (K0 l)) = [] := by
 rw [← CD, h]
 cases b <;> exact O2
theorem fmt_pos (n : Nat) : 0 < (fmt n).length := by
 unfold fmt
 split
 · decide
 · rename_i h
   rcases G9 (AY n).length with e | e
   · have := EM n
     rw [List.length_eq_zero_iff.1 e] at this
     exact G7 this.symm h
   · exact e
theorem Gp {j y : Nat} (h : l[j]? = some y) : pads (l.drop j) = pads (l.drop (j + 1)) ++ Ao 9 y := by
 obtain ⟨h1, h2⟩ := A6.1 h
 rw [J0 h1, h2, pads]
theorem GH (l : List Nat) : (R0 l).length ≤ l.length := by
 induction l with
 | nil => simp [R0]
 | cons x l ih =>
  rw [R0]
  split
  · simp
  · simp only [List.length_cons]; omega
theorem wText (b : Bool) (l : List Nat) (hg : gok l) (hl : l.length ≤ 1000000) : PCalls Tryz.prog 143 [.agg (dNum b l)] (.d (dS (I6 (sg b (K0 l))))) := by
 have c1 := wCut l hl
 have hcl := GH l
 have hcg := GI hg
 obtain ⟨r, hr⟩ := H7 (I6 (sg b (K0 l)))
 rw [← hr]
 rcases List.eq_nil_or_concat (R0 l) with h0 | ⟨l', x, h0⟩
 · have hr0 : r = [] := by rw [hr, NB h0]
   subst hr0
   rw [h0] at c1
   refine B3 Tryz.func143 V Tryz.ntmps143 Tryz.results143 (by simp) fun B w0 => ?_
   refine D8 (yK (cs := [_, _]) V V (B5 V (D8 (J6 V (yC (c1) V V (B5 V (I0 V (yN V (H3 V (G5 V (D8 (B5 V (C4 (A4 ?_))))))))))))))
   exact C9 _ (.tmp V .nil) V
 have hlast := HV l
 have hgv := CD l
 rw [List.concat_eq_append] at h0
 rw [h0] at c1 hcl hcg hlast hgv
 have hx0 : x ≠ 0 := by rintro rfl; simp at hlast
 have hx9 : x < 1000000000 := hcg x (by simp)
 have hy9 : ∀ j y, l'[j]? = some y → y < 1000000000 := fun j y hy => hcg y (List.mem_append_left _ (B7 hy))
 have htp := Ox hcg hx0 b
 rw [hgv, ← hr] at htp
 obtain ⟨m, hm⟩ := H7 (l' ++ [x])
 have hml : m.length = l'.length + 1 := by rw [hm]; simp
 have hmx : m[l'.length]? = some x := by rw [hm]; simp
 have hmi : ∀ i y, l'[i]? = some y → m[i]? = some y := fun i y hy => by rw [hm, F5 (A6.1 hy).1]; exact hy
 rw [← hm] at c1
 have hll : l'.length ≤ 1000000 := by simp at hcl; omega
 clear hr h0 hlast hgv hcg hm
 obtain ⟨s, hs⟩ := H7 (fmt x)
 have hs0 : 0 < s.length := by rw [hs]; exact fmt_pos x
 have hs9 : s.length ≤ 9 := by rw [hs]; exact Ia (k := 9) (by omega) (by decide)
 have c2 := Oh x (by omega)
 rw [← hs] at c2 htp
 clear hs
 have u1 : (((m.map dG).length : Int) == 0) = false := by rw [A7, hml]; simp; omega
 have hw1 : IntKind.i64.wrap (((m.map dG).length : Int) - 1) = (l'.length : Int) := by rw [A7, I5 _ (by omega)]; omega
 have hw2 : IntKind.i64.wrap (((m.map dG).length : Int) - 2) = (l'.length : Int) - 1 := by rw [A7, I5 _ (by omega)]; omega
 have ex := ix dG m (l'.length : Int) l'.length x rfl hmx
 cases b with
 | true =>
  have hrl : r = [45] ++ s ++ pads l' := by rw [htp]; rfl
  refine B3 Tryz.func143 V Tryz.ntmps143 Tryz.results143 (by simp) fun B w0 => ?_
  refine D8 (yK (cs := [_, _]) V V (B5 V (D8 (J6 V (yC (c1) V V (B5 V (I0 V (yN V (H3 V (B1 (L9 u1 V (B2 (D8 (yQa V (yQ ?_))))))))))))))); refine Cu 4 1 uT 1 V V V V ?_; refine A8 (D8 (J6 V (yQ (G5 V (B4 ?_))))); refine yCx (wWbF [] 45 (by simp)) rfl ⟨rfl, D4⟩ ⟨rfl, D4⟩ ?_ (hfit := by kernel_rfl); refine yQ (H8 V (C3 V (yN V (G3 V ?_)))); rw [hw1]; refine yW ex (by omega) rfl rfl (K5 rfl rfl (yC (c2) rfl rfl ?_)); refine yCx (wWsU [45] s (by simp) (by omega) hs0) rfl ⟨rfl, D4⟩ ⟨rfl, D4⟩ ?_ (hfit := by kernel_rfl); refine yQ (I0 V (yN V (G3 V (B5 V (B6 ?_))))); rw [hw2]
  refine H2 (fun j : Nat => ⟨44, [(3, .d (.sl 1 (m.map dG))), (4, .tx 4 bT 2), (5, .d (dI ((j : Int) - 1)))], [(4, [.tx 4 bT 2, .ts uT 1 (([45] ++ s ++ pads (l'.drop j)).map dY)])], [(uT, (([45] ++ s ++ pads (l'.drop j)).map dY).length)]⟩) (fun j => j ≤ l'.length) (fun j => j) l'.length (E3 _)
   ⟨rfl, ⟨E0, E0, E0, D4⟩, ⟨⟨_, rfl, E0, .of_eq (by simp [pads]), D4⟩, D4⟩, ⟨(by first | (simp [pads]; done) | (simp [pads]; rfl)), D4⟩, rfl⟩ ?_
  intro j hj
  rcases G9 j with h0 | h0
  · subst h0
    have u2 : decide (((0 : Nat) : Int) - 1 ≥ 0) = false := A9 (by omega)
    rw [List.drop_zero, ← hrl]
    have hr0 : r ≠ [] := by rw [hrl]; intro e; have := C7 List.length e; rw [D7, D7] at this; simp only [List.length_nil] at this; omega
    refine pw_tx 4 V ?_; refine I0 V (H3 V (F6 V (G1 (D8 (yStr (l := r) Tryz.bst Mi V V hr0 V V V V (B5 V (C4 ?_))))))); rw [u2]
    exact C9 _ (.tmp V .nil) V
  obtain ⟨i, rfl⟩ : ∃ i, j = i + 1 := ⟨j - 1, by omega⟩
  have u2 : decide (((i + 1 : Nat) : Int) - 1 ≥ 0) = true := B0 (by omega)
  obtain ⟨y, hy⟩ : ∃ y, l'[i]? = some y := ⟨_, A5 (by omega)⟩
  have ey := ix dG m (((i + 1 : Nat) : Int) - 1) i y (by omega) (hmi i y hy)
  have hyl := hy9 i y hy
  have hnx := Gp hy
  have hfp := IZ (k := 9) (n := y) (by omega) (by decide)
  have hfl := Ia (k := 9) (n := y) (by omega) (by decide)
  have c3 := Oh y (by omega)
  obtain ⟨t, ht⟩ := H7 (fmt y)
  rw [← ht] at c3 hfp hfl
  have c4 := Lm (9 - t.length) (by omega)
  obtain ⟨z, hz⟩ := H7 (List.replicate (9 - t.length) (48 : UInt8))
  have hzl : z.length = 9 - t.length := by rw [hz]; simp
  rw [← hz] at c4 hfp
  have hw3 : IntKind.i64.wrap (9 - (t.length : Int)) = ((9 - t.length : Nat) : Int) := by rw [I5 _ (by omega)]; omega
  have hw4 : IntKind.i64.wrap (((i + 1 : Nat) : Int) - 1 - 1) = (i : Int) - 1 := by rw [I5 _ (by omega)]; omega
  have hpl : (pads (l'.drop (i + 1))).length ≤ 9000000 := by rw [AV, N2]; omega
  obtain ⟨p, hp⟩ := H7 (pads (l'.drop (i + 1)))
  rw [← hp] at hnx hpl ⊢
  refine I0 V (H3 V (B1 (J8 u2 V (B2 (A8 (B6 (H8 V (C3 V (yW ey (by omega) rfl rfl (K5 rfl rfl (yC (c3) rfl rfl (B5 rfl (B4 (C3 rfl (O4 rfl (G3 rfl ?_)))))))))))))))); rw [hw3]; refine yC (c4) V V (C3 V (GQ (l1 := z) (l2 := t) (by omega) rfl rfl ?_)); refine yCx (wWsU ([45] ++ s ++ p) (z ++ t) (by simp; omega) (by simp; omega) (by simp; omega)) rfl ⟨rfl, D4⟩ ⟨rfl, D4⟩ ?_ (hfit := by kernel_rfl); refine yQ (B4 (C3 V (G3 V (B5 V (B1 ?_))))); rw [hw4]
  refine ⟨i, by omega, by omega, rfl, ⟨E0, E0, E0, D4⟩, ⟨⟨_, rfl, E0, .of_eq ?_, D4⟩, D4⟩, ⟨?_, D4⟩, rfl⟩
  · rw [hnx, hfp, H1 ([45] ++ s) p]
  · rw [hnx, hfp, H1 ([45] ++ s) p]; rfl
 | false =>
  have hrl : r = ([] : G0) ++ s ++ pads l' := by rw [htp]; rfl
  refine B3 Tryz.func143 V Tryz.ntmps143 Tryz.results143 (by simp) fun B w0 => ?_
  refine D8 (yK (cs := [_, _]) V V (B5 V (D8 (J6 V (yC (c1) V V (B5 V (I0 V (yN V (H3 V (B1 (L9 u1 V (B2 (D8 (yQa V (yQ ?_))))))))))))))); refine Cu 4 1 uT 1 V V V V ?_; refine A8 (D8 (J6 V (yQ (F6 V (B2 (H8 V (C3 V (yN V (G3 V ?_))))))))); rw [hw1]
  refine yW ex (by omega) rfl rfl (K5 rfl rfl (yC (c2) rfl rfl ?_)); refine yCx (wWsF [] s (by simp) (by omega) hs0) rfl ⟨rfl, D4⟩ ⟨rfl, D4⟩ ?_ (hfit := by kernel_rfl); refine yQ (I0 V (yN V (G3 V (B5 V (B6 ?_))))); rw [hw2]
  refine H2 (fun j : Nat => ⟨44, [(3, .d (.sl 1 (m.map dG))), (4, .tx 4 bT 2), (5, .d (dI ((j : Int) - 1)))], [(4, [.tx 4 bT 2, .ts uT 1 ((([] : G0) ++ s ++ pads (l'.drop j)).map dY)])], [(uT, ((([] : G0) ++ s ++ pads (l'.drop j)).map dY).length)]⟩) (fun j => j ≤ l'.length) (fun j => j) l'.length (E3 _)
   ⟨rfl, ⟨E0, E0, E0, D4⟩, ⟨⟨_, rfl, E0, .of_eq (by simp [pads]), D4⟩, D4⟩, ⟨(by first | (simp [pads]; done) | (simp [pads]; rfl)), D4⟩, rfl⟩ ?_
  intro j hj
  rcases G9 j with h0 | h0
  · subst h0
    have u2 : decide (((0 : Nat) : Int) - 1 ≥ 0) = false := A9 (by omega)
    rw [List.drop_zero, ← hrl]
    have hr0 : r ≠ [] := by rw [hrl]; intro e; have := C7 List.length e; rw [D7, D7] at this; simp only [List.length_nil] at this; omega
    refine pw_tx 4 V ?_; refine I0 V (H3 V (F6 V (G1 (D8 (yStr (l := r) Tryz.bst Mi V V hr0 V V V V (B5 V (C4 ?_))))))); rw [u2]
    exact C9 _ (.tmp V .nil) V
  obtain ⟨i, rfl⟩ : ∃ i, j = i + 1 := ⟨j - 1, by omega⟩
  have u2 : decide (((i + 1 : Nat) : Int) - 1 ≥ 0) = true := B0 (by omega)
  obtain ⟨y, hy⟩ : ∃ y, l'[i]? = some y := ⟨_, A5 (by omega)⟩
  have ey := ix dG m (((i + 1 : Nat) : Int) - 1) i y (by omega) (hmi i y hy)
  have hyl := hy9 i y hy
  have hnx := Gp hy
  have hfp := IZ (k := 9) (n := y) (by omega) (by decide)
  have hfl := Ia (k := 9) (n := y) (by omega) (by decide)
  have c3 := Oh y (by omega)
  obtain ⟨t, ht⟩ := H7 (fmt y)
  rw [← ht] at c3 hfp hfl
  have c4 := Lm (9 - t.length) (by omega)
  obtain ⟨z, hz⟩ := H7 (List.replicate (9 - t.length) (48 : UInt8))
  have hzl : z.length = 9 - t.length := by rw [hz]; simp
  rw [← hz] at c4 hfp
  have hw3 : IntKind.i64.wrap (9 - (t.length : Int)) = ((9 - t.length : Nat) : Int) := by rw [I5 _ (by omega)]; omega
  have hw4 : IntKind.i64.wrap (((i + 1 : Nat) : Int) - 1 - 1) = (i : Int) - 1 := by rw [I5 _ (by omega)]; omega
  have hpl : (pads (l'.drop (i + 1))).length ≤ 9000000 := by rw [AV, N2]; omega
  obtain ⟨p, hp⟩ := H7 (pads (l'.drop (i + 1)))
  rw [← hp] at hnx hpl ⊢
  refine I0 V (H3 V (B1 (J8 u2 V (B2 (A8 (B6 (H8 V (C3 V (yW ey (by omega) rfl rfl (K5 rfl rfl (yC (c3) rfl rfl (B5 rfl (B4 (C3 rfl (O4 rfl (G3 rfl ?_)))))))))))))))); rw [hw3]; refine yC (c4) V V (C3 V (GQ (l1 := z) (l2 := t) (by omega) rfl rfl ?_)); refine yCx (wWsU (([] : G0) ++ s ++ p) (z ++ t) (by simp; omega) (by simp; omega) (by simp; omega)) rfl ⟨rfl, D4⟩ ⟨rfl, D4⟩ ?_ (hfit := by kernel_rfl); refine yQ (B4 (C3 V (G3 V (B5 V (B1 ?_))))); rw [hw4]
  refine ⟨i, by omega, by omega, rfl, ⟨E0, E0, E0, D4⟩, ⟨⟨_, rfl, E0, .of_eq ?_, D4⟩, D4⟩, ⟨?_, D4⟩, rfl⟩
  · rw [hnx, hfp, H1 (([] : G0) ++ s) p]
  · rw [hnx, hfp, H1 (([] : G0) ++ s) p]; rfl
namespace Px
section
variable {P : Program} {sq : Bool} {ops : Array Oper} {K : PS → Prop} {rest : List Oper} {st : PS} {d : Option Nat} {ty : TypeId} {pos : String} {af : Array Edge} {gd : Option (Nat × Bool)}
theorem Hx (t : Nat) (o1 o2 : Operand) (a b : Bool) (hp : P.underlying t = some .bool) (w : World) : (eqGuard .eql t o1 o2 (.bool a) (.bool b) >>= fun _ => binOp .eql t (.bool a) (.bool b)).run P w = .ok (.bool (a == b)) w := by
 simp [eqGuard, binOp, go_sem, run_equal_bool w t a b hp]
theorem yBb {t t' : Nat} {x y : Operand} {a b c : Bool} (hp : P.underlying t = some .bool) (hc : (a == b) = c) (hx : st.ev x = .d (.val (.bool a))) (hy : st.ev y = .d (.val (.bool b))) (h : YR P sq ops K rest (st.put d (.d (.val (.bool c))))) (zz : zk ops st ⟨d, .binOp .eql t x y t', ty, pos, af, gd⟩ .no = true := by kernel_rfl) :
 YR P sq ops K (⟨d, .binOp .eql t x y t', ty, pos, af, gd⟩ :: rest) st := by
 subst hc
 exact L0 (AN .eql t t' x y hx hy (Hx t x y a b hp) V (zd zz)) (zo zz) (zw zz) h
end
end Px
theorem wMinusN : PCalls Tryz.prog 198 [.val (.slice none 0 0), .val (.slice none 0 0)] (.d (.sl 1 [])) := by
 have c1 := Mw
 have c2 : PCalls Tryz.prog 193 [.val (.slice none 0 0)] (.d (.sl 1 [])) := mg1 (m := []) (wCut [] (by simp))
 refine B3 Tryz.func198 V Tryz.ntmps198 Tryz.results198 (by simp) fun B w0 => ?_
 refine D8 (B5 V (H8 V (yC (c1) V V (B5 V (D8 (B5 V (I0 V (yNl V (C3 V (yQ (B6 ?_))))))))))); refine H2 (fun i : Nat => ⟨49, [(5, .d (.val (.slice none 0 0))), (12, .d (dI 0)), (13, .d (dI 0))], [], []⟩) (fun i => i = 0) (fun i => i) 0 V ⟨rfl, ⟨E0, E0, E0, D4⟩, D4, D4, V⟩ ?_
 intro i hi
 refine D8 (H3 V (A8 (F6 V (G1 (H8 V (yC (c2) V V (B5 V (C4 ?_))))))))
 exact C9 _ (.tmp V .nil) V
theorem Ob (m n : List Nat) (hgm : gok m) (hgn : gok n) (hle : n.length ≤ m.length) (hlm : m.length ≤ 1000000) : PCalls Tryz.prog 198 [OB m, OB n] (.d (.sl 1 ((R0 (P8 m n m.length).1).map dG))) := by
 cases m with
 | nil =>
  have hn : n = [] := List.length_eq_zero_iff.1 (Nat.le_zero.1 hle)
  subst hn
  exact wMinusN
 | cons x m => exact mg2 (wMinusP (x :: m) n hgm hgn (by simp) hlm)
def Ga (b1 : Bool) (l1 : List Nat) (b2 : Bool) (l2 : List Nat) : Bool × List Nat :=
 if b1 = b2 then (b1, Al l1 l2) else if GY l1 l2 < 0 then (b2, R0 (P8 l2 l1 l2.length).1) else (b1, R0 (P8 l1 l2 l1.length).1)
theorem X1 {x y : Nat} (h : x ≤ y) : (M4 x).length ≤ (M4 y).length := by
 rcases D2 (M4 y).length (M4 x).length with h1 | h1
 · have := S7 h1
   omega
 · exact h1
theorem Lx {x y : Nat} (h : y ≤ x) : gok (R0 (P8 (M4 x) (M4 y) (M4 x).length).1) ∧ K0 (R0 (P8 (M4 x) (M4 y) (M4 x).length).1) = x - y := by
 have h1 := JG (M7 x) (M7 y) (X1 h) (by rw [M0, M0]; exact h)
 rw [M0, M0] at h1
 exact ⟨GI h1.1, by rw [CD]; exact h1.2⟩
theorem OK (b1 b2 : Bool) (x y : Nat) : gok (Ga b1 (M4 x) b2 (M4 y)).2 ∧ sg (Ga b1 (M4 x) b2 (M4 y)).1 (K0 (Ga b1 (M4 x) b2 (M4 y)).2) = sg b1 x + sg b2 y := by
 unfold Ga
 by_cases h : b1 = b2
 · rw [C5 h]
   subst h
   obtain ⟨h1, h2⟩ := Km (M7 x) (M7 y)
   refine ⟨h1, ?_⟩
   rw [h2, M0, M0]
   cases b1 <;> simp [sg] <;> omega
 · rw [B9 h]
   have hc := (Hb x y).1
   by_cases hlt : GY (M4 x) (M4 y) < 0
   · rw [C5 hlt]
     have hxy := hc.1 hlt
     obtain ⟨h1, h2⟩ := Lx (Nat.le_of_lt hxy)
     refine ⟨h1, ?_⟩
     show sg b2 (K0 _) = _
     rw [h2]
     cases b1 <;> cases b2 <;> simp [sg] at h ⊢ <;> omega
   · rw [B9 hlt]
     have hxy : y ≤ x := by
      rcases D2 x y with h3 | h3
      · exact G7 (hc.2 h3) hlt
      · exact h3
     obtain ⟨h1, h2⟩ := Lx hxy
     refine ⟨h1, ?_⟩
     show sg b1 (K0 _) = _
     rw [h2]
     cases b1 <;> cases b2 <;> simp [sg] at h ⊢ <;> omega
theorem Qz (b1 b2 : Bool) {l1 l2 : List Nat} (h1 : gok l1) (h2 : gok l2) : (Ga b1 l1 b2 l2).2.length ≤ l1.length + l2.length + 1 := by
 unfold Ga
 split
 · have := (Z7 h1 h2 (max l1.length l2.length)).1
   unfold Al
   show List.length (_ ++ _) ≤ _
   rw [D7, this]
   split <;> simp <;> omega
 · split
   · have := GH (P8 l2 l1 l2.length).1
     have h3 := (Z3 h2 h1 l2.length).1
     show List.length (R0 _) ≤ _
     omega
   · have := GH (P8 l1 l2 l1.length).1
     have h3 := (Z3 h1 h2 l1.length).1
     show List.length (R0 _) ≤ _
     omega
theorem wNAdd (b1 b2 : Bool) (x y : Nat) (h1 : (M4 x).length ≤ 1000000) (h2 : (M4 y).length ≤ 1000000) : PCalls Tryz.prog 144 [.agg (dNm b1 (M4 x)), .agg (dNm b2 (M4 y))] (.d (.agg (dNum (Ga b1 (M4 x) b2 (M4 y)).1 (Ga b1 (M4 x) b2 (M4 y)).2))) := by
 have c1 := mg2 (wPlus (M4 x) (M4 y) (M7 x) (M7 y) h1 h2)
 have c2 := mg2 (Ol (M4 x) (M4 y) h1 h2)
 have hc := (Hb x y).1
 have c3 : ¬ GY (M4 x) (M4 y) < 0 → PCalls Tryz.prog 198 [OB (M4 x), OB (M4 y)] _ := fun h => Ob (M4 x) (M4 y) (M7 x) (M7 y) (X1 (by
  rcases D2 x y with h3 | h3
  · exact G7 (hc.2 h3) h
  · exact h3)) h1
 have c4 : GY (M4 x) (M4 y) < 0 → PCalls Tryz.prog 198 [OB (M4 y), OB (M4 x)] _ := fun h => Ob (M4 y) (M4 x) (M7 y) (M7 x) (X1 (Nat.le_of_lt (hc.1 h))) h2
 unfold Ga
 obtain ⟨z1, hz1⟩ := H7 (Al (M4 x) (M4 y))
 obtain ⟨z2, hz2⟩ := H7 (R0 (P8 (M4 y) (M4 x) (M4 y).length).1)
 obtain ⟨z3, hz3⟩ := H7 (R0 (P8 (M4 x) (M4 y) (M4 x).length).1)
 rw [← hz1] at c1
 rw [← hz2] at c4
 rw [← hz3] at c3
 rw [← hz1, ← hz2, ← hz3]
 obtain ⟨k, hk⟩ := H7 (GY (M4 x) (M4 y))
 rw [← hk] at c2 c3 c4 ⊢
 obtain ⟨dx, hdx⟩ := H7 (OB (M4 x))
 obtain ⟨dy, hdy⟩ := H7 (OB (M4 y))
 rw [← hdx, ← hdy] at c1 c2 c3 c4
 rw [dNm, dNm, ← hdx, ← hdy]
 clear hz1 hz2 hz3 hk hdx hdy hc
 cases b1 <;> cases b2
 · rw [C5 rfl]
   refine B3 Tryz.func144 V Tryz.ntmps144 Tryz.results144 (by simp) fun B w0 => ?_
   refine D8 (yK (cs := [_, _]) V V (yK (cs := [_, _]) V V (yZ (cs := [_, _]) V V (yQ (A8 (D8 (J6 V (J6 V (yBb (c := true) Tryz.underlying4 V V V (yQ (G5 V (A8 ?_)))))))))))); refine U9 (id := 2) Tryz.mixed (by kernel_rfl) ?_; refine J6 V (J6 V (J6 V (yC (c1) V V (yG (ys := [_, _]) V V (yS (cs' := [_, _]) V V V V V (yQ ?_)))))); refine Px.Sep.mk (by kernel_rfl) ?_; refine C4 (A4 ?_)
   exact C9 _ (.agg E6 V V V V .nil) V
 · rw [B9 (by decide)]
   by_cases hk : k < 0
   · rw [C5 hk]
     have c4 := c4 hk
     have u : decide (k < 0) = true := B0 hk
     refine B3 Tryz.func144 V Tryz.ntmps144 Tryz.results144 (by simp) fun B w0 => ?_
     refine D8 (yK (cs := [_, _]) V V (yK (cs := [_, _]) V V (yZ (cs := [_, _]) V V (yQ (A8 (D8 (J6 V (J6 V (yBb (c := false) Tryz.underlying4 V V V (yQ (F6 V (B2 (A8 (D8 (J6 V (J6 V (yC (c2) V V (H3 V (B1 ?_))))))))))))))))))); rw [u]
     refine G5 V (B4 (BU (ys := [_, _]) V V V V (BU (ys := [_, _]) V V V V (yS (cs' := [_, _]) V V V V V (yS (cs' := [_, _]) V V V V V (yQ (A8 ?_))))))); refine U9 (id := 5) Tryz.mixed (by kernel_rfl) ?_; refine J6 V (J6 V (J6 V (yC (c4) V V (yG (ys := [_, _]) V V (yS (cs' := [_, _]) V V V V V (yQ ?_)))))); refine Px.Sep.mk (by kernel_rfl) ?_; refine C4 ?_
     exact C9 _ (.agg E6 V V V V .nil) V
   · rw [B9 hk]
     have c3 := c3 hk
     have u : decide (k < 0) = false := A9 hk
     refine B3 Tryz.func144 V Tryz.ntmps144 Tryz.results144 (by simp) fun B w0 => ?_
     refine D8 (yK (cs := [_, _]) V V (yK (cs := [_, _]) V V (yZ (cs := [_, _]) V V (yQ (A8 (D8 (J6 V (J6 V (yBb (c := false) Tryz.underlying4 V V V (yQ (F6 V (B2 (A8 (D8 (J6 V (J6 V (yC (c2) V V (H3 V (B1 ?_))))))))))))))))))); rw [u]
     refine F6 V (B2 (A8 ?_)); refine U9 (id := 5) Tryz.mixed (by kernel_rfl) ?_; refine J6 V (J6 V (J6 V (yC (c3) V V (yG (ys := [_, _]) V V (yS (cs' := [_, _]) V V V V V (yQ ?_)))))); refine Px.Sep.mk (by kernel_rfl) ?_; refine C4 ?_
     exact C9 _ (.agg E6 V V V V .nil) V
 · rw [B9 (by decide)]
   by_cases hk : k < 0
   · rw [C5 hk]
     have c4 := c4 hk
     have u : decide (k < 0) = true := B0 hk
     refine B3 Tryz.func144 V Tryz.ntmps144 Tryz.results144 (by simp) fun B w0 => ?_
     refine D8 (yK (cs := [_, _]) V V (yK (cs := [_, _]) V V (yZ (cs := [_, _]) V V (yQ (A8 (D8 (J6 V (J6 V (yBb (c := false) Tryz.underlying4 V V V (yQ (F6 V (B2 (A8 (D8 (J6 V (J6 V (yC (c2) V V (H3 V (B1 ?_))))))))))))))))))); rw [u]
     refine G5 V (B4 (BU (ys := [_, _]) V V V V (BU (ys := [_, _]) V V V V (yS (cs' := [_, _]) V V V V V (yS (cs' := [_, _]) V V V V V (yQ (A8 ?_))))))); refine U9 (id := 5) Tryz.mixed (by kernel_rfl) ?_; refine J6 V (J6 V (J6 V (yC (c4) V V (yG (ys := [_, _]) V V (yS (cs' := [_, _]) V V V V V (yQ ?_)))))); refine Px.Sep.mk (by kernel_rfl) ?_; refine C4 ?_
     exact C9 _ (.agg E6 V V V V .nil) V
   · rw [B9 hk]
     have c3 := c3 hk
     have u : decide (k < 0) = false := A9 hk
     refine B3 Tryz.func144 V Tryz.ntmps144 Tryz.results144 (by simp) fun B w0 => ?_
     refine D8 (yK (cs := [_, _]) V V (yK (cs := [_, _]) V V (yZ (cs := [_, _]) V V (yQ (A8 (D8 (J6 V (J6 V (yBb (c := false) Tryz.underlying4 V V V (yQ (F6 V (B2 (A8 (D8 (J6 V (J6 V (yC (c2) V V (H3 V (B1 ?_))))))))))))))))))); rw [u]
     refine F6 V (B2 (A8 ?_)); refine U9 (id := 5) Tryz.mixed (by kernel_rfl) ?_; refine J6 V (J6 V (J6 V (yC (c3) V V (yG (ys := [_, _]) V V (yS (cs' := [_, _]) V V V V V (yQ ?_)))))); refine Px.Sep.mk (by kernel_rfl) ?_; refine C4 ?_
     exact C9 _ (.agg E6 V V V V .nil) V
 · rw [C5 rfl]
   refine B3 Tryz.func144 V Tryz.ntmps144 Tryz.results144 (by simp) fun B w0 => ?_
   refine D8 (yK (cs := [_, _]) V V (yK (cs := [_, _]) V V (yZ (cs := [_, _]) V V (yQ (A8 (D8 (J6 V (J6 V (yBb (c := true) Tryz.underlying4 V V V (yQ (G5 V (A8 ?_)))))))))))); refine U9 (id := 2) Tryz.mixed (by kernel_rfl) ?_; refine J6 V (J6 V (J6 V (yC (c1) V V (yG (ys := [_, _]) V V (yS (cs' := [_, _]) V V V V V (yQ ?_)))))); refine Px.Sep.mk (by kernel_rfl) ?_; refine C4 (A4 ?_)
   exact C9 _ (.agg E6 V V V V .nil) V
theorem Fe (a : G0) : val a = sg (L3 a).2 (natOf (L3 a).1) := by
 unfold val sg
 rfl
theorem Hz (a : G0) : EH (L3 a).1 = M4 (natOf (L3 a).1) := rdG_grp (V2 a) (DQ a)
theorem On (a b : G0) (ha : a.length ≤ 100000) (hb : b.length ≤ 100000) : PCalls Tryz.prog 99 [dS a, dS b] (.d (dS (I6 (val a + val b)))) := by
 have c1 := OX a (by omega)
 have c2 := OX b (by omega)
 have h1 := E8 (AF (L3 a).1) (Z0 a)
 have h2 := E8 (AF (L3 b).1) (Z0 b)
 rw [Hz] at c1 c2 h1 h2
 have c3 := wNAdd (L3 a).2 (L3 b).2 (natOf (L3 a).1) (natOf (L3 b).1) (by omega) (by omega)
 obtain ⟨s1, s2⟩ := OK (L3 a).2 (L3 b).2 (natOf (L3 a).1) (natOf (L3 b).1)
 have s3 := Qz (L3 a).2 (L3 b).2 (M7 (natOf (L3 a).1)) (M7 (natOf (L3 b).1))
 rw [← Fe, ← Fe] at s2
 obtain ⟨z, hz⟩ := H7 (Ga (L3 a).2 (M4 (natOf (L3 a).1)) (L3 b).2 (M4 (natOf (L3 b).1)))
 rw [← hz] at c3 s1 s2 s3
 have c4 := wText z.1 z.2 s1 (by omega)
 rw [s2] at c4
 obtain ⟨r, hr⟩ := H7 (I6 (val a + val b))
 rw [← hr] at c4 ⊢
 obtain ⟨n1, hn1⟩ := H7 (dNm (L3 a).2 (M4 (natOf (L3 a).1)))
 obtain ⟨n2, hn2⟩ := H7 (dNm (L3 b).2 (M4 (natOf (L3 b).1)))
 obtain ⟨n3, hn3⟩ := H7 (dNum z.1 z.2)
 rw [← hn1] at c1 c3
 rw [← hn2] at c2 c3
 rw [← hn3] at c3 c4
 clear hn1 hn2 hn3 hz s1 s2 s3
 refine B3 Tryz.func99 V Tryz.ntmps99 Tryz.results99 (by simp) fun B w0 => ?_
 refine D8 (B5 V (H8 V (yC (c1) V V (C3 V (yC (c2) V V (yC (c3) V V (yC (c4) V V (B5 V (C4 ?_)))))))))
 exact C9 _ (.tmp V .nil) V
open Go.RowKit Px
namespace Px
section
variable {P : Program} {sq : Bool} {ops : Array Oper} {K : PS → Prop} {rest : List Oper} {st : PS} {d : Option Nat} {ty : TypeId} {pos : String} {af : Array Edge} {gd : Option (Nat × Bool)}
theorem Hv (t : Nat) (o1 o2 : Operand) (a b : Bool) (hp : P.underlying t = some .bool) (w : World) : (eqGuard .neq t o1 o2 (.bool a) (.bool b) >>= fun _ => binOp .neq t (.bool a) (.bool b)).run P w = .ok (.bool (a != b)) w := by
 cases a <;> cases b <;> simp [eqGuard, binOp, go_sem, run_equal_bool w t _ _ hp]
theorem yBbn {t t' : Nat} {x y : Operand} {a b c : Bool} (hp : P.underlying t = some .bool) (hc : (a != b) = c) (hx : st.ev x = .d (.val (.bool a))) (hy : st.ev y = .d (.val (.bool b))) (h : YR P sq ops K rest (st.put d (.d (.val (.bool c))))) (zz : zk ops st ⟨d, .binOp .neq t x y t', ty, pos, af, gd⟩ .no = true := by kernel_rfl) :
 YR P sq ops K (⟨d, .binOp .neq t x y t', ty, pos, af, gd⟩ :: rest) st := by
 subst hc
 exact L0 (AN .neq t t' x y hx hy (Hv t x y a b hp) V (zd zz)) (zo zz) (zw zz) h
end
end Px
theorem sg_neg (b : Bool) (n : Nat) : sg (!b) n = - sg b n := by
 cases b <;> simp [sg]
theorem wNegT (a : G0) (ha : a.length ≤ 100000) : PCalls Tryz.prog 98 [dS a] (.d (dS (I6 (- val a)))) := by
 have c1 := wRead a (by omega)
 have h1 := E8 (AF (L3 a).1) (Z0 a)
 rw [Hz] at c1 h1
 have g1 := M7 (natOf (L3 a).1)
 have c4 := wText (!(L3 a).2) (M4 (natOf (L3 a).1)) g1 (by omega)
 rw [M0, sg_neg, ← Fe] at c4
 obtain ⟨r, hr⟩ := H7 (I6 (- val a))
 rw [← hr] at c4 ⊢
 obtain ⟨l1, hl1⟩ := H7 (M4 (natOf (L3 a).1))
 obtain ⟨p1, hp1⟩ := H7 ((L3 a).2)
 rw [← hl1, ← hp1] at c1 c4
 clear hl1 hp1 g1 h1 hr
 refine B3 Tryz.func98 V Tryz.ntmps98 Tryz.results98 (by simp) fun B w0 => ?_
 refine D8 (B5 V (H8 V (yC (c1) V V (yZ (cs := [_, _]) V V (yS (cs' := [_, _]) V V V V V (yQ (D8 (J6 V (yU V V V (CO V (Y4 (cs' := [_, _]) V V V V (yQ (D8 (BU (ys := [_, _]) V V V V (yC (c4) V V (B5 V (C4 ?_)))))))))))))))))
 exact C9 _ (.tmp V .nil) V
def prT (a : G0) : G0 := if I6 (val a) = [] then [48] else I6 (val a)
theorem wPrintT (a : G0) (ha : a.length ≤ 100000) : PCalls Tryz.prog 134 [dS a] (.d (dS (prT a))) := by
 have c1 := CW a (by omega)
 unfold prT
 obtain ⟨r, hr⟩ := H7 (I6 (val a))
 rw [← hr] at c1 ⊢
 refine B3 Tryz.func134 V Tryz.ntmps134 Tryz.results134 (by simp) fun B w0 => ?_
 by_cases h : r = []
 · rw [C5 h]
   have t : (r == []) = true := by simp [h]
   refine D8 (B5 V (I0 V (yC (c1) V V (B5 V (H8 V (O6 V V (yQ (B1 (pnf t V (B2 (D8 (B5 V (C4 ?_)))))))))))))
   exact C9 _ (.tmp V .nil) V
 · rw [B9 h]
   have t : (r == []) = false := by simp [h]
   refine D8 (B5 V (I0 V (yC (c1) V V (B5 V (H8 V (O6 V V (yQ (B1 (pnt t V (H8 V (B5 V (C4 (A4 ?_)))))))))))))
   exact C9 _ (.tmp V .nil) V
open Go.RowKit Px Go.Maps Go.Sort Go.Shelf
variable {i : Nat}
abbrev dCf (c : Cf) : List DV := [dS c.1, dS c.2]
instance : MapOf Tryz.prog 155 (dS []) := ⟨⟨9, 72, by kernel_rfl, by kernel_rfl, fun w => ⟨.string ⟨#[]⟩, by kernel_rfl, fun F w' => DRep.val _ rfl⟩⟩⟩
def DB (s : G0) : Bool := J5 s && (match s with | [] => false | b :: _ => decide (97 ≤ b.toNat) && decide (b.toNat ≤ 122))
theorem Hl (s : G0) : PCalls Tryz.prog 179 [dS s] (.d (dB (DB s))) := by
 have c1 := Is s
 cases h : J5 s with
 | false =>
  rw [h] at c1
  have e : DB s = false := by simp [DB, h]
  rw [e]
  refine B3 Tryz.func179 V Tryz.ntmps179 Tryz.results179 (by simp) fun B w0 => ?_
  refine D8 (B5 V (H8 V (yC (c1) V V (C3 V (yO V (yO V (yO V (K7 V V (C3 V (yO V (yO V (yO V (K7 V V (B5 V (C4 ?_)))))))))))))))
  exact C9 _ (.tmp V .nil) V
 | true =>
  rw [h] at c1
  obtain ⟨x, l, rfl⟩ : ∃ x l, s = x :: l := by
   cases s with
   | nil => simp [J5] at h
   | cons x l => exact ⟨x, l, V⟩
  have hx : (x :: l : G0)[(0 : Int).toNat]? = some x := rfl
  by_cases h1 : 97 ≤ x.toNat
  · have t1 : decide ((x.toNat : Int) ≥ 97) = true := B0 (by omega)
    have e : DB (x :: l) = decide (x.toNat ≤ 122) := by simp [DB, h, h1]
    rw [e]
    refine B3 Tryz.func179 V Tryz.ntmps179 Tryz.results179 (by simp) fun B w0 => ?_
    refine D8 (B5 V (H8 V (yC (c1) V V (C3 V (C3 V (Ah hx (by omega) rfl rfl (G3 rfl (K8 rfl rfl (C3 rfl ?_))))))))); rw [t1]; refine C3 V (Ah hx (by omega) rfl rfl (G3 rfl (K8 rfl rfl (B5 rfl (C4 ?_)))))
    exact C9 _ (.tmp V .nil) (C7 (fun b => SV.d (dB b)) (decide_eq_decide.2 (by omega)))
  · have t1 : decide ((x.toNat : Int) ≥ 97) = false := A9 (by omega)
    have e : DB (x :: l) = false := by simp [DB, h, h1]
    rw [e]
    refine B3 Tryz.func179 V Tryz.ntmps179 Tryz.results179 (by simp) fun B w0 => ?_
    refine D8 (B5 V (H8 V (yC (c1) V V (C3 V (C3 V (Ah hx (by omega) rfl rfl (G3 rfl (K8 rfl rfl (C3 rfl ?_))))))))); rw [t1]; refine yO V (yO V (yO V (K7 V V (B5 V (C4 ?_)))))
    exact C9 _ (.tmp V .nil) V
def cE (c : Cf) : Int := if DB c.1 then (if GO c.2 then 0 else 1) else 23
def chL : List Cf → Int
 | [] => 0
 | c :: e => if cE c = 0 then chL e else cE c
def BT (e : List Cf) : Int := if 16 < e.length then 4 else chL e
theorem Qj {e : List Cf} {c : Cf} (hx : e[i]? = some c) (h : ∀ d ∈ e.take i, cE d = 0) (hc : cE c ≠ 0) : chL e = cE c := by
 induction e generalizing i with
 | nil => simp at hx
 | cons d e ih =>
  cases i with
  | zero => cases hx; rw [chL, B9 hc]
  | succ i =>
   rw [chL, C5 (h d (by simp))]
   exact ih hx fun q hq => h q (by rw [List.take_succ_cons]; exact List.mem_cons_of_mem _ hq)
theorem La {e : List Cf} (h : ∀ d ∈ e, cE d = 0) : chL e = 0 := by
 induction e with
 | nil => rfl
 | cons d e ih => rw [chL, C5 (h d (by simp))]; exact ih fun q hq => h q (List.mem_cons_of_mem _ hq)
theorem Qi {e : List Cf} (h : chL e = 0) : ∀ d ∈ e, cE d = 0 := by
 induction e with
 | nil => intro d hd; cases hd
 | cons d e ih =>
  rw [chL] at h
  split at h
  · rename_i h0
    intro q hq
    rcases List.mem_cons.1 hq with rfl | hq
    · exact h0
    · exact ih h q hq
  · rename_i h0; exact G7 h h0
theorem JE {p : Cf → Prop} {e : List Cf} {c : Cf} (hx : e[i]? = some c) (h : ∀ d ∈ e.take i, p d) (hc : p c) : ∀ d ∈ e.take (i + 1), p d := by
 intro d hd
 rw [G8, hx] at hd
 rcases List.mem_append.1 hd with hd | hd
 · exact h d hd
 · have : d = c := by simpa using hd
   rw [this]; exact hc
theorem wCheckE (e : List Cf) (hl : e.length ≤ 1000000) (hf : ∀ c ∈ e, c.2.length ≤ 1000000) : PCalls Tryz.prog 138 [.sl 2 (e.map dCf)] (.d (dI (BT e))) := by
 obtain ⟨r, hr⟩ := H7 (BT e)
 rw [← hr]
 rw [BT] at hr
 have e16 : ((16 : Nat) : Int) = 16 := rfl
 by_cases h16 : 16 < e.length
 · have t0 : decide (((e.map dCf).length : Int) > 16) = true := B0 (by rw [A7]; omega)
   rw [C5 h16] at hr
   subst hr
   refine B3 Tryz.func138 V Tryz.ntmps138 Tryz.results138 (by simp) fun B w0 => ?_
   refine D8 (B5 V (I0 V (yN V (H3 V (B1 ?_)))))
   rw [t0]; refine G5 V ?_; refine A8 ?_; refine B4 ?_; refine H4 V ?_; refine yQ ?_; refine C4 ?_; refine A4 ?_
   exact C9 _ (.tmp V .nil) V
 rw [B9 h16] at hr
 have t0 : decide (((e.map dCf).length : Int) > 16) = false := A9 (by rw [A7]; omega)
 refine B3 Tryz.func138 V Tryz.ntmps138 Tryz.results138 (by simp) fun B w0 => ?_
 refine D8 (B5 V (I0 V (yN V (H3 V (B1 ?_)))))
 rw [t0]; refine F6 V ?_; refine B2 ?_; refine A8 ?_; refine A8 ?_; refine B4 ?_; refine C3 V ?_; refine yN V ?_; refine C3 V ?_; refine yQ ?_; refine B6 ?_
 refine H2 (fun i : Nat => ⟨25, [(8, .d (.sl 2 (e.map dCf))), (9, .d (dI e.length)), (10, .d (dI i))], [], []⟩) (fun i => i ≤ e.length ∧ ∀ d ∈ e.take i, cE d = 0) (fun i => e.length - i) 0 ⟨D9 _, fun d hd => by simp at hd⟩
  ⟨rfl, ⟨E0, .of_eq (C7 (fun n : Nat => SV.d (dI n)) (by simp)), E0, D4⟩, D4, D4, rfl⟩ ?_
 rintro i ⟨hi, hok⟩
 rcases D2 i e.length with h | h
 rotate_left
 · have t1 : decide ((i : Int) < (e.length : Int)) = false := A9 (by omega)
   obtain rfl : i = e.length := by omega
   rw [I3] at hok
   rw [La hok] at hr
   subst hr
   refine D8 (H3 V (A8 (L9 t1 V (G1 (D8 (B5 V (C4 ?_)))))))
   exact C9 _ (.tmp V .nil) V
 have t1 : decide ((i : Int) < (e.length : Int)) = true := B0 (by omega)
 obtain ⟨⟨c0, c1⟩, hc⟩ : ∃ a, e[i]? = some a := ⟨_, A5 h⟩
 have em := ix dCf e i i (c0, c1) rfl hc
 have hw := I5 ((i : Int) + 1) (by omega)
 have hq := hf _ (B7 hc)
 simp only at hq
 have k1 := Hl c0
 have k2 := wCheck c1 (by omega)
 have hat := Qj hc hok
 have hnx := JE (p := fun d => cE d = 0) hc hok
 simp only [cE] at hat hnx
 cases hn : DB c0 with
 | false =>
  rw [hn] at k1 hat
  rw [hat (by simp)] at hr
  have hr : r = 23 := by simpa using hr
  subst hr
  refine D8 (H3 V (A8 (J8 t1 V (B2 (A8 (B6 (D8 (yW em (by omega) rfl rfl (R7 (ys := [_, _]) rfl rfl rfl (yZ (cs := [_, _]) rfl rfl (yS (cs' := [_, _]) rfl rfl rfl rfl rfl (yQ (B6 (D8 (J6 rfl (yC (k1) rfl rfl (yU rfl rfl rfl (B5 rfl (G5 rfl (D8 (B5 rfl (C4 (B8 (B8 (A4 (A4 (B8 (A4 ?_))))))))))))))))))))))))))))
  exact C9 _ (.tmp V .nil) V
 | true =>
  rw [hn] at k1 hat hnx
  cases hs : GO c1 with
  | false =>
   rw [hs] at k2 hat
   rw [hat (by simp)] at hr
   have hr : r = 1 := by simpa using hr
   subst hr
   refine D8 (H3 V (A8 (J8 t1 V (B2 (A8 (B6 (D8 (yW em (by omega) rfl rfl (R7 (ys := [_, _]) rfl rfl rfl (yZ (cs := [_, _]) rfl rfl (yS (cs' := [_, _]) rfl rfl rfl rfl rfl (yQ (B6 (D8 (J6 rfl (yC (k1) rfl rfl (yU rfl rfl rfl (B5 rfl (F6 rfl (D8 (J6 rfl (yC (k2) rfl rfl (G3 rfl (B5 rfl (G5 rfl (D8 (B5 rfl (C4 (B8 (B8 (A4 (A4 (B8 (A4 ?_))))))))))))))))))))))))))))))))))
   exact C9 _ (.tmp V .nil) V
  | true =>
   rw [hs] at k2 hnx
   refine D8 (H3 V (A8 (J8 t1 V (B2 (A8 (B6 (D8 (yW em (by omega) rfl rfl (R7 (ys := [_, _]) rfl rfl rfl (yZ (cs := [_, _]) rfl rfl (yS (cs' := [_, _]) rfl rfl rfl rfl rfl (yQ (B6 (D8 (J6 rfl (yC (k1) rfl rfl (yU rfl rfl rfl (B5 rfl (F6 rfl (D8 (J6 rfl (yC (k2) rfl rfl (G3 rfl (B5 rfl (F6 rfl (B2 (B4 (G3 rfl (C3 rfl (yQ (B1 ?_)))))))))))))))))))))))))))))))
   exact ⟨i + 1, ⟨by omega, hnx (by simp)⟩, by omega, rfl, ⟨E0, E0, .of_eq (C7 (fun n => SV.d (dI n)) hw), D4⟩, D4, D4, rfl⟩
theorem keysC : KeysC Tryz.prog 180 223 155 := fun mb W => callsIn_wide.1 (AnyZ.keys_in Tryz.keys Fence.wide 5 trivial rfl mb W)
theorem sortsIn (m : Nat) : AnyZ.SortsIn Tryz.prog Tryz.sorted_ren Fence.wide m :=
 ⟨fun blk off cap ss W hH hblk hsz => callsIn_wide.2 (AnyM.slices_Sort_string Tryz.sortStr blk off cap ss W hH hblk hsz),
  fun p cap W => callsIn_wide.2 (AnyM.slices_Sort_string_none Tryz.sortStr p cap W)⟩
theorem sortedC : Ml Tryz.prog 35 223 9 := fun a b nn D0 R W ha hc hown hmax hbytes => by
 have hseq : SeqGives Fence.wide 2 Tryz.prog 223 #[.pointer (some ⟨a, 0, none⟩)] encStr (fun ss => ss.Perm (strKeys D0)) (Maps.size D0) W :=
  AnyZ.keys_gives (ρ := Tryz.keys_ren) { Tryz.keys with } Fence.wide _ trivial rfl (by omega) a b nn D0 W ha hc hown
 have cS := AnyZ.sorted_in Tryz.sorted Fence.wide 5 trivial trivial trivial trivial rfl (by omega) (sortsIn _) (enters_of Tryz.func72 (by kernel_rfl) rfl) 223 #[.pointer (some ⟨a, 0, none⟩)] trivial (enters_of Tryz.func223 (by kernel_rfl) rfl) _ _ hmax hbytes W hseq
 exact callsIn_wide.1 cS
theorem JF {e : List Cf} {B : Nat} (h : ∀ c ∈ e, c.2.length ≤ B) (i : Nat) (k : G0) : (O0 k (N9 e i)).length ≤ B + 2 * i := by
 induction i generalizing k with
 | zero => simp [N9, O0]
 | succ i ih =>
  rw [N9]
  split
  · have := ih k; omega
  · rename_i c hc
    refine GV ?_ (fun j => by have := ih j; omega) k
    have := Da (k := B + 2 * i) (ih c.1) (b := c.2) (by have := h c (B7 hc); omega)
    omega
theorem skeys_D (M : List (G0 × G0)) : BR (V9 M) = Gs (M.map (·.1)) := by
 unfold BR V9
 rw [List.map_map]
 rfl
abbrev nfT : Nat := 113 * 100000 + 6
def nfI (ks : List G0) (M : List (G0 × G0)) (j : Nat) : List Cf := (ks.take j).filterMap (keep M)
theorem Pi {ks : List G0} {j : Nat} {k : G0} (M : List (G0 × G0)) (h : ks[j]? = some k) : nfI ks M (j + 1) = if O0 k M = [] then nfI ks M j else nfI ks M j ++ [(k, O0 k M)] := by
 rw [nfI, G8, h, Option.toList, List.filterMap_append]
 simp only [List.filterMap_cons, List.filterMap_nil, keep]
 split
 · rename_i h0
   split at h0
   · rename_i h1; rw [C5 h1, List.append_nil]; rfl
   · cases h0
 · rename_i p h0
   split at h0
   · cases h0
   · rename_i h1; cases h0; rw [B9 h1]; rfl
theorem nfI_len (ks : List G0) (M : List (G0 × G0)) (j : Nat) : (nfI ks M j).length ≤ ks.length := by
 refine E8 (List.length_filterMap_le _ _) ?_
 rw [E4]; omega
theorem Iq (e : List Cf) (hl : e.length ≤ 1000) (hn : ∀ c ∈ e, c.1.length ≤ 1000) (hf : ∀ c ∈ e, c.2.length ≤ 70000) : PCalls Tryz.prog 128 [.sl 2 (e.map dCf)] (.d (.sl 2 ((nf e).map dCf))) := by
 obtain ⟨r, hr⟩ := H7 (nf e)
 rw [← hr]
 have hml := fun i k => JF hf i k
 refine B3 Tryz.func128 V Tryz.ntmps128 Tryz.results128 (by simp) fun B w0 => ?_
 refine D8 (B5 V (D8 (yKm V (yAm V (yQ (I0 V (yN V (C3 V (yQ (B6 ?_)))))))))); refine H2 (fun i : Nat => ⟨49, [(3, .mb 500010), (11, .d (.sl 2 (e.map dCf))), (12, .d (dI e.length)), (13, .d (dI i))], [(500010, [.mc (P0 (V9 (N9 e i)))])], []⟩) (fun i => i ≤ e.length) (fun i => e.length - i) 0 (D9 _)
  ⟨rfl, ⟨E0, E0, .of_eq (C7 (fun n : Nat => SV.d (dI n)) (by simp)), E0, D4⟩, ⟨⟨_, rfl, K4 rfl⟩, D4⟩, D4, rfl⟩ ?_
 intro i hi
 rcases D2 i e.length with h | h
 · have t1 : decide ((i : Int) < (e.length : Int)) = true := B0 (by omega)
   obtain ⟨⟨c0, c1⟩, hc⟩ : ∃ a, e[i]? = some a := ⟨_, A5 h⟩
   have em := ix dCf e i i (c0, c1) rfl hc
   have hw := I5 ((i : Int) + 1) (by omega)
   have hq := hf _ (B7 hc)
   simp only at hq
   have hln := hml i c0
   have hnx : N9 e (i + 1) = AB c0 (BO (O0 c0 (N9 e i)) c1) (N9 e i) := by rw [N9, hc]
   obtain ⟨M, hM⟩ := H7 (N9 e i)
   rw [← hM] at hnx hln ⊢
   have hg := II c0 M
   have k1 := On (O0 c0 M) c1 (by omega) (by omega)
   have hs : AM c0 (dS (I6 (val (O0 c0 M) + val c1))) (V9 M) = V9 (AB c0 (BO (O0 c0 M) c1) M) := LB c0 (BO (O0 c0 M) c1) M
   obtain ⟨v, hv⟩ := H7 (O0 c0 M)
   rw [← hv] at hg k1 hs hnx
   obtain ⟨M2, hM2⟩ := H7 (AB c0 (BO v c1) M)
   rw [← hM2] at hs hnx
   obtain ⟨a, ha⟩ := H7 (I6 (val v + val c1))
   rw [← ha] at k1 hs
   clear ha hM2 hv
   refine D8 (H3 V (A8 (J8 t1 V (B2 (A8 (B6 (D8 (yW em (by omega) rfl rfl (R7 (ys := [_, _]) rfl rfl rfl (yZ (cs := [_, _]) rfl rfl (yS (cs' := [_, _]) rfl rfl rfl rfl rfl (yQ ?_)))))))))))); refine I7 Tryz.mixed (by kernel_rfl) ?_; refine yMm V (J6 V (yMm V (J6 V (yKl (z := dS []) V V V hg (J6 V (yC (k1) V V (yKu (z := dS []) V V V V hs (yQ (B4 (G3 V (C3 V (yQ (B1 ?_)))))))))))))
   exact ⟨i + 1, by omega, by omega, rfl, ⟨E0, E0, E0, .of_eq (C7 (fun n => SV.d (dI n)) hw), D4⟩, ⟨⟨_, rfl, K4 (by rw [hnx])⟩, D4⟩, D4, rfl⟩
 have t1 : decide ((i : Int) < (e.length : Int)) = false := A9 (by omega)
 obtain rfl : i = e.length := by omega
 rw [nf] at hr
 have hMl := Jn e e.length
 have hMk : ∀ p ∈ V9 (N9 e e.length), p.1.length ≤ 1000000 := fun p hp => by
  obtain ⟨q, hq, rfl⟩ := H0.1 hp
  obtain ⟨c, hc, h1⟩ := QK e e.length q.1 (List.mem_map_of_mem hq)
  have := hn c hc
  show q.1.length ≤ 1000000
  rw [← h1]; omega
 have hks := skeys_D (N9 e e.length)
 obtain ⟨ks, hk⟩ := H7 (Gs ((N9 e e.length).map (·.1)))
 have hkl : ks.length = (N9 e e.length).length := by rw [hk, List.length_mergeSort, A7]
 rw [← hk] at hks hr
 clear hml
 obtain ⟨M, hM⟩ := H7 (N9 e e.length)
 rw [← hM] at hMl hMk hks hkl hr ⊢
 clear hM hk
 have hDl : (V9 M).length ≤ 1000000 := by rw [V9, A7]; omega
 refine D8 (H3 V (A8 (L9 t1 V (G1 (D8 (B5 V ?_)))))); refine IA 6 nfT 2 V V V ?_; refine A8 (D8 (yMm V (yKk keysC V V ?_))); refine yKs sortedC (by kernel_rfl) rfl rfl rfl hDl hMk hks ?_; refine yN V (C3 V (yQ (B6 ?_))); refine H2 (fun j : Nat => ⟨49, [(3, .mb 500010), (6, .ts nfT 2 ((nfI ks M j).map dCf)), (30, .d (.sl 1 (ks.map dC))), (31, .d (dI ks.length)), (32, .d (dI j))], [(500010, [.mc (P0 (V9 M))])], [(nfT, ((nfI ks M j).map dCf).length)]⟩) (fun j => j ≤ ks.length) (fun j => ks.length - j) 0 (D9 _)
  ⟨rfl, ⟨E0, E0, E0, .of_eq (C7 (fun n : Nat => SV.d (dI n)) (by simp)), E0, D4⟩, ⟨⟨_, rfl, K4 rfl⟩, D4⟩, ⟨rfl, D4⟩, rfl⟩ ?_
 intro j hj
 rcases D2 j ks.length with h2 | h2
 · have t2 : decide ((j : Int) < (ks.length : Int)) = true := B0 (by omega)
   obtain ⟨k, hk⟩ := Bq h2
   have ek := ix dC ks j j k rfl hk
   have hw := I5 ((j : Int) + 1) (by omega)
   have hnx := Pi M hk
   have hg := II k M
   have hzl := nfI_len ks M j
   obtain ⟨zs, hz⟩ := H7 (nfI ks M j)
   obtain ⟨v, hv⟩ := H7 (O0 k M)
   rw [← hz, ← hv] at hnx
   rw [← hz] at hzl ⊢
   rw [← hv] at hg
   clear hv hz
   by_cases he : v = []
   · have t3 : (v == []) = true := by simp [he]
     rw [C5 he] at hnx
     refine D8 (H3 V (A8 (J8 t2 V (B2 (A8 (B6 (D8 (yW ek (by omega) rfl rfl (K5 rfl rfl (B5 rfl (D8 (yMm rfl (C3 rfl (yKl (z := dS []) rfl rfl rfl hg (B5 rfl (H8 rfl (O6 rfl rfl (yQ (B1 (pnf t3 rfl (B2 (B4 (G3 rfl (C3 rfl (yQ (B1 ?_))))))))))))))))))))))))))
     exact ⟨j + 1, by omega, by omega, rfl, ⟨E0, .of_eq (by rw [hnx]; rfl), E0, E0, .of_eq (C7 (fun n => SV.d (dI n)) hw), D4⟩, ⟨⟨_, rfl, K4 rfl⟩, D4⟩, ⟨(by rw [hnx]; rfl), D4⟩, rfl⟩
   · have t3 : (v == []) = false := by simp [he]
     rw [B9 he] at hnx
     refine D8 (H3 V (A8 (J8 t2 V (B2 (A8 (B6 (D8 (yW ek (by omega) rfl rfl (K5 rfl rfl (B5 rfl (D8 (yMm rfl (C3 rfl (yKl (z := dS []) rfl rfl rfl hg (B5 rfl (H8 rfl (O6 rfl rfl (yQ (B1 (pnt t3 rfl (B4 (Hh rfl (C3 rfl (C3 rfl (yG (ys := [_, _]) rfl rfl ?_))))))))))))))))))))))))); refine yR (es := [[_, _]]) V V V V V ?_; refine yT (es' := (zs ++ [(k, v)]).map dCf) (m := ((zs ++ [(k, v)]).map dCf).length) (by simp; omega) (by simp; omega) rfl rfl rfl rfl rfl (by simp) (by simp) ?_; refine Hi V (yQ (B4 (G3 V (C3 V (yQ (B1 ?_))))))
     exact ⟨j + 1, by omega, by omega, rfl, ⟨E0, .of_eq (by rw [hnx]; rfl), E0, E0, .of_eq (C7 (fun n => SV.d (dI n)) hw), D4⟩, ⟨⟨_, rfl, K4 rfl⟩, D4⟩, ⟨(by rw [hnx]; rfl), D4⟩, rfl⟩
 have t2 : decide ((j : Int) < (ks.length : Int)) = false := A9 (by omega)
 obtain rfl : j = ks.length := by omega
 have he : nfI ks M ks.length = r := by rw [hr, nfI, I3]
 rw [he]
 refine D8 (H3 V (A8 (L9 t2 V (G1 (D8 (Hh V (Hi V (yQ (C4 ?_)))))))))
 exact C9 _ (.tmp V .nil) V
open Go.RowKit Px
abbrev V4 (l : Ln) : List DV := [dS l.1, dB l.2.1, .sl 2 (l.2.2.map dCf)]
abbrev U4 (r : Ru) : List DV := [dI r.1, .sl 3 (r.2.map V4)]
abbrev O7 (l : List Ru) : DV := .sl 2 (l.map U4)
theorem wIndexS (l : List G0) (s : G0) (hl : l.length ≤ 1000000) : PCalls Tryz.prog 101 [V3 l, dS s] (.d (dI (MT (fun y => s == y) l))) := by
 refine B3 Tryz.func101 V Tryz.ntmps101 Tryz.results101 (by simp) fun B w0 => ?_
 refine D8 (B5 V (I0 V (yN V (C3 V (yQ (B6 ?_)))))); refine H2 (fun k : Nat => ⟨19, [(0, .d (V3 l)), (1, .d (dS s)), (7, .d (dI l.length)), (8, .d (dI k))], [], []⟩) (fun k => k ≤ l.length ∧ ∀ (j : Nat) x, j < k → l[j]? = some x → (s == x) = false) (fun k => l.length - k) 0 ⟨D9 _, fun j x hj => by omega⟩ ⟨rfl, ⟨E0, E0, .of_eq (C7 (fun n : Nat => SV.d (dI n)) (by simp)), E0, D4⟩, D4, D4, rfl⟩ ?_
 rintro k ⟨hk, h0⟩
 rcases D2 k l.length with h | h
 · have u1 : decide ((k : Int) < (l.length : Int)) = true := B0 (by omega)
   obtain ⟨x, hx⟩ := Bq h
   have ek := ix (fun s => [dS s]) l k k x rfl hx
   have hw1 := I5 ((k : Int) + 1) (by omega)
   cases hb : (s == x) with
   | false =>
    have hnx := Ap (b := fun y => s == y) hx h0 hb
    refine D8 (H3 V (A8 (J8 u1 V (B2 (A8 (B6 (H8 V (B5 V (H8 V (C3 V (C3 V (yW ek (by omega) rfl rfl (K5 rfl rfl (O9 rfl rfl (yQ (B1 (L9 hb rfl (B2 (B4 (G3 rfl (C3 rfl (yQ (B1 ?_)))))))))))))))))))))))
    exact ⟨k + 1, ⟨by omega, hnx⟩, by omega, rfl, ⟨E0, E0, E0, .of_eq (C7 (fun n => SV.d (dI n)) hw1), D4⟩, D4, D4, rfl⟩
   | true =>
    rw [IR (b := fun y => s == y) hx h0 hb]
    refine D8 (H3 V (A8 (J8 u1 V (B2 (A8 (B6 (H8 V (B5 V (H8 V (C3 V (C3 V (yW ek (by omega) rfl rfl (K5 rfl rfl (O9 rfl rfl (yQ (B1 (J8 hb rfl (H8 rfl (B5 rfl (C4 (B8 (A4 (A4 (B8 (A4 ?_)))))))))))))))))))))))))
    exact C9 _ (.tmp V .nil) V
 · have u1 : decide ((k : Int) < (l.length : Int)) = false := A9 (by omega)
   rw [IQ (b := fun y => s == y) h h0]
   refine D8 (H3 V (A8 (L9 u1 V (G1 (D8 (B5 V (C4 ?_)))))))
   exact C9 _ (.tmp V .nil) V
theorem wContS (l : List G0) (s : G0) (hl : l.length ≤ 1000000) : PCalls Tryz.prog 50 [V3 l, dS s] (.d (dB (l.contains s))) := by
 have c1 := wIndexS l s hl
 rw [← Ii, ← FW]
 obtain ⟨n, hn⟩ := H7 (MT (fun y => s == y) l)
 rw [← hn] at c1 ⊢
 refine B3 Tryz.func50 V Tryz.ntmps50 Tryz.results50 (by simp) fun B w0 => ?_
 refine D8 (B5 V (H8 V (C3 V (yC (c1) V V (G3 V (B5 V (C4 ?_)))))))
 exact C9 _ (.tmp V .nil) V
def phC (b : Cf → Bool) (xs : List DV) (r : SV) : Prop := ∃ x : Cf, xs = [.agg (dCf x)] ∧ r = .d (dB (b x))
def phR (b : Ru → Bool) (xs : List DV) (r : SV) : Prop := ∃ x : Ru, xs = [.agg (U4 x)] ∧ r = .d (dB (b x))
def Pa (b : List Ru → Bool) (xs : List DV) (r : SV) : Prop := ∃ x : List Ru, xs = [O7 x] ∧ r = .d (dB (b x))
theorem wIxC (b : Cf → Bool) (l : List (Cf)) (hl : l.length ≤ 1000000) : PCalls Tryz.prog 156 [.sl 2 (l.map dCf), dF Tryz.prog (phC b)] (.d (dI (MT b l))) := by
 refine B3 Tryz.func156 V Tryz.ntmps156 Tryz.results156 (by simp) fun B w0 => ?_
 refine D8 (B5 V (I0 V (yN V (C3 V (yQ (B6 ?_)))))); refine H2 (fun k : Nat => ⟨19, [(0, .d (.sl 2 (l.map dCf))), (1, .d (dF Tryz.prog (phC b))), (7, .d (dI l.length)), (8, .d (dI k))], [], []⟩) (fun k => k ≤ l.length ∧ ∀ (j : Nat) x, j < k → l[j]? = some x → b x = false) (fun k => l.length - k) 0 ⟨D9 _, fun j x hj => by omega⟩ ⟨rfl, ⟨E0, E0, .of_eq (C7 (fun n : Nat => SV.d (dI n)) (by simp)), E0, D4⟩, D4, D4, rfl⟩ ?_
 rintro k ⟨hk, h0⟩
 rcases D2 k l.length with h | h
 · have u1 : decide ((k : Int) < (l.length : Int)) = true := B0 (by omega)
   obtain ⟨x, hx⟩ := Bq h
   have ek := ix (dCf) l k k x rfl hx
   have hw1 := I5 ((k : Int) + 1) (by omega)
   have hph : phC b [.agg (dCf x)] (.d (dB (b x))) := ⟨x, rfl, rfl⟩
   obtain ⟨c, hb⟩ := H7 (b x)
   rw [← hb] at hph
   obtain ⟨x0, x1⟩ := x
   cases c with
   | false =>
    have hnx := Ap hx h0 hb.symm
    refine D8 (H3 V (A8 (J8 u1 V (B2 (A8 (B6 (H8 V (B5 V (H8 V (C3 V (C3 V (yW ek (by omega) rfl rfl (R7 (ys := [_, _]) rfl rfl rfl (yCv hph rfl rfl rfl (yQ (F6 rfl (B2 (B4 (G3 rfl (C3 rfl (yQ (B1 ?_))))))))))))))))))))))
    exact ⟨k + 1, ⟨by omega, hnx⟩, by omega, rfl, ⟨E0, E0, E0, .of_eq (C7 (fun n => SV.d (dI n)) hw1), D4⟩, D4, D4, rfl⟩
   | true =>
    rw [IR hx h0 hb.symm]
    refine D8 (H3 V (A8 (J8 u1 V (B2 (A8 (B6 (H8 V (B5 V (H8 V (C3 V (C3 V (yW ek (by omega) rfl rfl (R7 (ys := [_, _]) rfl rfl rfl (yCv hph rfl rfl rfl (yQ (G5 rfl (H8 rfl (B5 rfl (C4 (B8 (A4 (A4 (B8 (A4 ?_))))))))))))))))))))))))
    exact C9 _ (.tmp V .nil) V
 · have u1 : decide ((k : Int) < (l.length : Int)) = false := A9 (by omega)
   rw [IQ h h0]
   refine D8 (H3 V (A8 (L9 u1 V (G1 (D8 (B5 V (C4 ?_)))))))
   exact C9 _ (.tmp V .nil) V
theorem wHasC (b : Cf → Bool) (l : List (Cf)) (hl : l.length ≤ 1000000) : PCalls Tryz.prog 108 [.sl 2 (l.map dCf), dF Tryz.prog (phC b)] (.d (dB (l.any b))) := by
 have c1 := wIxC b l hl
 rw [← FW]
 obtain ⟨n, hn⟩ := H7 (MT b l)
 rw [← hn] at c1 ⊢
 refine B3 Tryz.func108 V Tryz.ntmps108 Tryz.results108 (by simp) fun B w0 => ?_
 refine D8 (B5 V (H8 V (C3 V (yC (c1) V V (G3 V (B5 V (C4 ?_)))))))
 exact C9 _ (.tmp V .nil) V
theorem wIxR (b : Ru → Bool) (l : List (Ru)) (hl : l.length ≤ 1000000) : PCalls Tryz.prog 130 [O7 l, dF Tryz.prog (phR b)] (.d (dI (MT b l))) := by
 refine B3 Tryz.func130 V Tryz.ntmps130 Tryz.results130 (by simp) fun B w0 => ?_
 refine D8 (B5 V (I0 V (yN V (C3 V (yQ (B6 ?_)))))); refine H2 (fun k : Nat => ⟨19, [(0, .d (O7 l)), (1, .d (dF Tryz.prog (phR b))), (7, .d (dI l.length)), (8, .d (dI k))], [], []⟩) (fun k => k ≤ l.length ∧ ∀ (j : Nat) x, j < k → l[j]? = some x → b x = false) (fun k => l.length - k) 0 ⟨D9 _, fun j x hj => by omega⟩ ⟨rfl, ⟨E0, E0, .of_eq (C7 (fun n : Nat => SV.d (dI n)) (by simp)), E0, D4⟩, D4, D4, rfl⟩ ?_
 rintro k ⟨hk, h0⟩
 rcases D2 k l.length with h | h
 · have u1 : decide ((k : Int) < (l.length : Int)) = true := B0 (by omega)
   obtain ⟨x, hx⟩ := Bq h
   have ek := ix (U4) l k k x rfl hx
   have hw1 := I5 ((k : Int) + 1) (by omega)
   have hph : phR b [.agg (U4 x)] (.d (dB (b x))) := ⟨x, rfl, rfl⟩
   obtain ⟨c, hb⟩ := H7 (b x)
   rw [← hb] at hph
   obtain ⟨x0, x1⟩ := x
   cases c with
   | false =>
    have hnx := Ap hx h0 hb.symm
    refine D8 (H3 V (A8 (J8 u1 V (B2 (A8 (B6 (H8 V (B5 V (H8 V (C3 V (C3 V (yW ek (by omega) rfl rfl (R7 (ys := [_, _]) rfl rfl rfl (yCv hph rfl rfl rfl (yQ (F6 rfl (B2 (B4 (G3 rfl (C3 rfl (yQ (B1 ?_))))))))))))))))))))))
    exact ⟨k + 1, ⟨by omega, hnx⟩, by omega, rfl, ⟨E0, E0, E0, .of_eq (C7 (fun n => SV.d (dI n)) hw1), D4⟩, D4, D4, rfl⟩
   | true =>
    rw [IR hx h0 hb.symm]
    refine D8 (H3 V (A8 (J8 u1 V (B2 (A8 (B6 (H8 V (B5 V (H8 V (C3 V (C3 V (yW ek (by omega) rfl rfl (R7 (ys := [_, _]) rfl rfl rfl (yCv hph rfl rfl rfl (yQ (G5 rfl (H8 rfl (B5 rfl (C4 (B8 (A4 (A4 (B8 (A4 ?_))))))))))))))))))))))))
    exact C9 _ (.tmp V .nil) V
 · have u1 : decide ((k : Int) < (l.length : Int)) = false := A9 (by omega)
   rw [IQ h h0]
   refine D8 (H3 V (A8 (L9 u1 V (G1 (D8 (B5 V (C4 ?_)))))))
   exact C9 _ (.tmp V .nil) V
theorem wHasR (b : Ru → Bool) (l : List (Ru)) (hl : l.length ≤ 1000000) : PCalls Tryz.prog 83 [O7 l, dF Tryz.prog (phR b)] (.d (dB (l.any b))) := by
 have c1 := wIxR b l hl
 rw [← FW]
 obtain ⟨n, hn⟩ := H7 (MT b l)
 rw [← hn] at c1 ⊢
 refine B3 Tryz.func83 V Tryz.ntmps83 Tryz.results83 (by simp) fun B w0 => ?_
 refine D8 (B5 V (H8 V (C3 V (yC (c1) V V (G3 V (B5 V (C4 ?_)))))))
 exact C9 _ (.tmp V .nil) V
theorem wIxRs (b : List Ru → Bool) (l : List (List Ru)) (hl : l.length ≤ 1000000) : PCalls Tryz.prog 105 [.sl 1 (l.map fun x => [O7 x]), dF Tryz.prog (Pa b)] (.d (dI (MT b l))) := by
 refine B3 Tryz.func105 V Tryz.ntmps105 Tryz.results105 (by simp) fun B w0 => ?_
 refine D8 (B5 V (I0 V (yN V (C3 V (yQ (B6 ?_)))))); refine H2 (fun k : Nat => ⟨19, [(0, .d (.sl 1 (l.map fun x => [O7 x]))), (1, .d (dF Tryz.prog (Pa b))), (7, .d (dI l.length)), (8, .d (dI k))], [], []⟩) (fun k => k ≤ l.length ∧ ∀ (j : Nat) x, j < k → l[j]? = some x → b x = false) (fun k => l.length - k) 0 ⟨D9 _, fun j x hj => by omega⟩ ⟨rfl, ⟨E0, E0, .of_eq (C7 (fun n : Nat => SV.d (dI n)) (by simp)), E0, D4⟩, D4, D4, rfl⟩ ?_
 rintro k ⟨hk, h0⟩
 rcases D2 k l.length with h | h
 · have u1 : decide ((k : Int) < (l.length : Int)) = true := B0 (by omega)
   obtain ⟨x, hx⟩ := Bq h
   have ek := ix (fun x => [O7 x]) l k k x rfl hx
   have hw1 := I5 ((k : Int) + 1) (by omega)
   have hph : Pa b [O7 x] (.d (dB (b x))) := ⟨x, rfl, rfl⟩
   obtain ⟨c, hb⟩ := H7 (b x)
   rw [← hb] at hph
   cases c with
   | false =>
    have hnx := Ap hx h0 hb.symm
    refine D8 (H3 V (A8 (J8 u1 V (B2 (A8 (B6 (H8 V (B5 V (H8 V (C3 V (C3 V (yW ek (by omega) rfl rfl (K5 rfl rfl (yCv hph rfl rfl rfl (yQ (F6 rfl (B2 (B4 (G3 rfl (C3 rfl (yQ (B1 ?_))))))))))))))))))))))
    exact ⟨k + 1, ⟨by omega, hnx⟩, by omega, rfl, ⟨E0, E0, E0, .of_eq (C7 (fun n => SV.d (dI n)) hw1), D4⟩, D4, D4, rfl⟩
   | true =>
    rw [IR hx h0 hb.symm]
    refine D8 (H3 V (A8 (J8 u1 V (B2 (A8 (B6 (H8 V (B5 V (H8 V (C3 V (C3 V (yW ek (by omega) rfl rfl (K5 rfl rfl (yCv hph rfl rfl rfl (yQ (G5 rfl (H8 rfl (B5 rfl (C4 (B8 (A4 (A4 (B8 (A4 ?_))))))))))))))))))))))))
    exact C9 _ (.tmp V .nil) V
 · have u1 : decide ((k : Int) < (l.length : Int)) = false := A9 (by omega)
   rw [IQ h h0]
   refine D8 (H3 V (A8 (L9 u1 V (G1 (D8 (B5 V (C4 ?_)))))))
   exact C9 _ (.tmp V .nil) V
theorem wHasRs (b : List Ru → Bool) (l : List (List Ru)) (hl : l.length ≤ 1000000) : PCalls Tryz.prog 54 [.sl 1 (l.map fun x => [O7 x]), dF Tryz.prog (Pa b)] (.d (dB (l.any b))) := by
 have c1 := wIxRs b l hl
 rw [← FW]
 obtain ⟨n, hn⟩ := H7 (MT b l)
 rw [← hn] at c1 ⊢
 refine B3 Tryz.func54 V Tryz.ntmps54 Tryz.results54 (by simp) fun B w0 => ?_
 refine D8 (B5 V (H8 V (C3 V (yC (c1) V V (G3 V (B5 V (C4 ?_)))))))
 exact C9 _ (.tmp V .nil) V
abbrev shE : Sh := .sl (.pr .s (.pr .s .un))
abbrev shX : Sh := .pr .s (.pr .b (.pr shE .un))
abbrev shr : Sh := .pr (.i .i64) (.pr (.sl shX) .un)
abbrev shR : Sh := .sl shr
abbrev shA : Sh := .sl (.pr .s (.pr (.i .i64) .un))
def toLn (x : Dat shX) : Ln := (x.1, x.2.1, x.2.2.1.map fun h => (h.1, h.2.1))
def toRu (x : Dat shr) : Ru := (x.1, x.2.1.map toLn)
theorem cs_ln (x : Dat shX) : Dat.cs shX x = V4 (toLn x) := by
 obtain ⟨a, c, e, u⟩ := x
 show [dS a, .val (.bool c), .sl 2 (e.map (Dat.cs (.pr .s (.pr .s .un))))] = [dS a, dB c, .sl 2 ((e.map fun h => (h.1, h.2.1)).map dCf)]
 rw [List.map_map]
 rfl
theorem cs_ru (x : Dat shr) : Dat.cs shr x = U4 (toRu x) := by
 obtain ⟨n, ls, u⟩ := x
 show [.val (.int .i64 n), .sl 3 (ls.map (Dat.cs shX))] = [dI n, .sl 3 ((ls.map toLn).map V4)]
 rw [List.map_map, List.map_congr_left fun y _ => cs_ln y]
 rfl
theorem rus_dv (x : Dat shR) : ∃ l : List Ru, Dat.dv shR x = O7 l := by
 refine ⟨x.map toRu, ?_⟩
 show DV.sl 2 (x.map (Dat.cs shr)) = _
 rw [O7, List.map_map, List.map_congr_left fun y _ => cs_ru y]
 rfl
theorem acs_dv (x : Dat shA) : ∃ l : List Ac, Dat.dv shA x = .sl 2 (l.map O8) := by
 refine ⟨x.map fun h => (h.1, h.2.1), ?_⟩
 rw [List.map_map]
 rfl
end Go.Proofs.YtddfimjiihggmaaGreatDoor