import Derived.Test.YtilbolgncpfmmaaPxN
/- The logic of pure states: slice expressions. -/
set_option maxHeartbeats 1000000
namespace Go.Proofs.Ytilbolgncpfmmaa.Px
open Go.RowKit

theorem DRep.part {F : Nat → Nat → Prop} {w : World} {A : Option Addr} {n c k : Nat} {es : List (List DV)} (h : DRep F w (.slice A n c) (.sl k es)) (l u : Nat) (h1 : l ≤ u) (h2 : u ≤ n) :
    DRep F w (.slice (if c = l then A else A.map (·.add (l * k))) (u - l) (c - l)) (.sl k ((es.drop l).take (u - l))) := by
  cases h with
  | @sl _ _ _ _ _ f hn hc hm hk ha h1' h =>
    refine .sl (fun i j => f (l + i) j) (by simp; omega) (by omega) (by omega) (fun e he => hk e (List.mem_of_mem_drop (List.mem_of_mem_take he))) (fun h0 => ?_) (fun i j hi hj => h1' _ j (by omega) hj) fun i j e x he hx => ?_
    · obtain ⟨b, off, rfl, hcell⟩ := ha (by omega)
      refine ⟨b, off + l * k, ?_, fun i j hi hj => ?_⟩
      · rw [if_neg (by omega), Option.map_some, Addr.add_lit]
      · have := hcell (l + i) j (by omega) hj
        rw [show off + (l + i) * k + j = off + l * k + i * k + j by rw [Nat.add_mul]; omega] at this
        exact this
    · have hi : i < u - l := by
        rcases Nat.lt_or_ge i (u - l) with h3 | h3
        · exact h3
        · rw [List.getElem?_eq_none (by simp; omega)] at he; cases he
      rw [List.getElem?_take_of_lt hi, List.getElem?_drop] at he
      exact h _ j e x he hx

section
variable {P : Program} {sq : Bool} {ops : Array Oper} {K : PS → Prop} {rest : List Oper} {st : PS} {d : Option Nat} {op : Op} {ty : TypeId} {pos : String} {af : Array Edge} {gd : Option (Nat × Bool)} {q : Nat × Bool}

theorem ls_slice_lo (T : TypeId) (x y : Operand) {E k : Nat} {n : Int} {kd : IntKind} {es : List (List DV)} [hS : SliceOf P T E k] (hx : asSl (st.ev x) = some (k, es)) (hy : st.ev y = .d (.val (.int kd n))) (h0 : 0 ≤ n) (he : n ≤ es.length) (hd : dstOk ⟨d, .slice T x (some y) none none, ty, pos, af, gd⟩ st = true) :
    LocS P ⟨d, .slice T x (some y) none none, ty, pos, af, gd⟩ st (.d (.sl k (es.drop n.toNat))) .no := fun st2 ha =>
  OpS.value (ha.dst hd) fun _ _ g a w h => by
    have h1 := h.eval x
    rw [ha.ev x (by simp [Op.operands])] at h1
    have h1 := h1.asSl hx
    obtain ⟨A, c, news, hv, hc, hm, -⟩ := DRep.row h1
    have h2 := h.eval y
    rw [ha.ev y (by simp [Op.operands]), hy] at h2
    rw [hv] at h1
    have hp := h1.part n.toNat es.length (by omega) (Nat.le_refl _)
    rw [List.take_of_length_le (by simp)] at hp
    refine ⟨_, w, ?_, Below.refl _ _, hp⟩
    have hn : 0 ≤ n ∧ n ≤ (es.length : Int) := ⟨h0, he⟩
    simp only [execOp, Instr.sliceAt, Instr.slice, Instr.sliceBounds, Instr.sliceBound, hv, DRep.val_eq h2, asIntOf, Sem.run_bind, Sem.run_pure, Result.andThen_ok, hS.und, hn, and_self, if_true, hS.size, Option.map_some, Option.map_none]
theorem ls_slice_hi (T : TypeId) (x y : Operand) {E k : Nat} {n : Int} {kd : IntKind} {es : List (List DV)} [hS : SliceOf P T E k] (hx : asSl (st.ev x) = some (k, es)) (hy : st.ev y = .d (.val (.int kd n))) (h0 : 0 ≤ n) (he : n ≤ es.length) (hd : dstOk ⟨d, .slice T x none (some y) none, ty, pos, af, gd⟩ st = true) :
    LocS P ⟨d, .slice T x none (some y) none, ty, pos, af, gd⟩ st (.d (.sl k (es.take n.toNat))) .no := fun st2 ha =>
  OpS.value (ha.dst hd) fun _ _ g a w h => by
    have h1 := h.eval x
    rw [ha.ev x (by simp [Op.operands])] at h1
    have h1 := h1.asSl hx
    obtain ⟨A, c, news, hv, hc, hm, -⟩ := DRep.row h1
    have h2 := h.eval y
    rw [ha.ev y (by simp [Op.operands]), hy] at h2
    rw [hv] at h1
    have hp := h1.part 0 n.toNat (by omega) (by omega)
    rw [List.drop_zero, Nat.sub_zero] at hp
    refine ⟨_, w, ?_, Below.refl _ _, hp⟩
    have hn : 0 ≤ n ∧ n ≤ (c : Int) := ⟨h0, by omega⟩
    simp only [execOp, Instr.sliceAt, Instr.slice, Instr.sliceBounds, Instr.sliceBound, hv, DRep.val_eq h2, asIntOf, Sem.run_bind, Sem.run_pure, Result.andThen_ok, hS.und, hn, and_self, if_true, hS.size, Option.map_some, Option.map_none, Nat.sub_zero]

theorem yDl {T E k : Nat} {x y : Operand} {n : Int} {kd : IntKind} {es : List (List DV)} [SliceOf P T E k] (h0 : 0 ≤ n) (he : n ≤ es.length) (hx : asSl (st.ev x) = some (k, es)) (hy : st.ev y = .d (.val (.int kd n))) (h : YR P sq ops K rest (st.put d (.d (.sl k (es.drop n.toNat))))) (hd : dstOk ⟨d, .slice T x (some y) none none, ty, pos, af, gd⟩ st = true := by kernel_rfl) (hk : opOk ⟨d, .slice T x (some y) none none, ty, pos, af, gd⟩ st .no = true := by kernel_rfl) (hw : st.want ops ⟨d, .slice T x (some y) none none, ty, pos, af, gd⟩ = some true := by rfl) : YR P sq ops K (⟨d, .slice T x (some y) none none, ty, pos, af, gd⟩ :: rest) st := yr_v (ls_slice_lo T x y hx hy h0 he hd) hk hw h
theorem yDh {T E k : Nat} {x y : Operand} {n : Int} {kd : IntKind} {es : List (List DV)} [SliceOf P T E k] (h0 : 0 ≤ n) (he : n ≤ es.length) (hx : asSl (st.ev x) = some (k, es)) (hy : st.ev y = .d (.val (.int kd n))) (h : YR P sq ops K rest (st.put d (.d (.sl k (es.take n.toNat))))) (hd : dstOk ⟨d, .slice T x none (some y) none, ty, pos, af, gd⟩ st = true := by kernel_rfl) (hk : opOk ⟨d, .slice T x none (some y) none, ty, pos, af, gd⟩ st .no = true := by kernel_rfl) (hw : st.want ops ⟨d, .slice T x none (some y) none, ty, pos, af, gd⟩ = some true := by rfl) : YR P sq ops K (⟨d, .slice T x none (some y) none, ty, pos, af, gd⟩ :: rest) st := yr_v (ls_slice_hi T x y hx hy h0 he hd) hk hw h
end
end Go.Proofs.Ytilbolgncpfmmaa.Px
