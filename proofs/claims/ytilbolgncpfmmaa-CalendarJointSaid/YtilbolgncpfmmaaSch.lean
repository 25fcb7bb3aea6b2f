/- The walks of schedule's Check, regular, Irregular, Regular, for this seat. -/
import Derived.Test.YtilbolgncpfmmaaBuild
namespace Go.Proofs.Ytilbolgncpfmmaa
open Go.RowKit

def getP (ps : List (Int × Int)) (i : Nat) : Int × Int := ps[i]?.getD (0, 0)
def errP (ps : List (Int × Int)) (i : Nat) : Int :=
  if (vB (getP ps i).1 && vB (getP ps i).2) = false then 13 else if (getP ps i).2 ≤ (getP ps i).1 then 8 else if 0 < i ∧ (getP ps (i - 1)).2 ≠ (getP ps i).1 then 9 else 0
/-- what Check returns -/
def sChk (ps : List (Int × Int)) : Int := if ps.length = 0 then 11 else if 400 < ps.length then 4 else fe (errP ps) ps.length

theorem errP_eq {ps : List (Int × Int)} {k : Nat} {x y z c : Int} (hx : x = (getP ps k).1) (hy : y = (getP ps k).2) (hz : z = (getP ps (k - 1)).2) (h : (if (vB x && vB y) = false then 13 else if y ≤ x then 8 else if 0 < k ∧ z ≠ x then 9 else 0) = c) : errP ps k = c := by
  rw [errP, ← hx, ← hy, ← hz]; exact h
theorem sChk_at {ps : List (Int × Int)} {k : Nat} {c : Int} (hl : ¬ 400 < ps.length) (h : ∀ j, j < k → errP ps j = 0) (hk : k < ps.length) (hc : errP ps k = c) (h0 : c ≠ 0) : sChk ps = c := by
  rw [sChk, if_neg (by omega), if_neg hl, fe_stop (errP ps) ps.length k h hk (by rw [hc]; exact h0), hc]
theorem sChk_ok {ps : List (Int × Int)} (h1 : 0 < ps.length) (hl : ¬ 400 < ps.length) (h : ∀ j, j < ps.length → errP ps j = 0) : sChk ps = 0 := by
  rw [sChk, if_neg (by omega), if_neg hl, fe_all _ _ h]

theorem PersAt.below {w w' : World} {B : Nat} {v : Value} {ps : List (Int × Int)} (h : PersAt w B v ps) (hb : Below B w w') : PersAt w' B v ps := by
  obtain ⟨A, c, hv, hc', hl, hc⟩ := h
  refine ⟨A, c, hv, hc', hl, fun h0 => ?_⟩
  obtain ⟨b, off, hA, hlt, hcell⟩ := hc h0
  exact ⟨b, off, hA, hlt, fun i hi => ⟨(hb.cell (p := ⟨b, off + i * 2, none⟩) hlt).trans (hcell i hi).1, (hb.cell (p := ⟨b, off + i * 2 + 1, none⟩) hlt).trans (hcell i hi).2⟩⟩
theorem PersAt.more {w : World} {B B' : Nat} {v : Value} {ps : List (Int × Int)} (h : PersAt w B v ps) (hb : B ≤ B') : PersAt w B' v ps := by
  obtain ⟨A, c, hv, hc', hl, hc⟩ := h
  refine ⟨A, c, hv, hc', hl, fun h0 => ?_⟩
  obtain ⟨b, off, hA, hlt, hcell⟩ := hc h0
  exact ⟨b, off, hA, by omega, hcell⟩

set_option maxHeartbeats 1000000 in
theorem sCheck_any (v : Value) (ps : List (Int × Int)) (w : World) (h0 : PersAt w w.heap.size v ps) :
    Calls Try.prog 44 #[v] w fun e w' => e = .returned (.int .i64 (sChk ps)) ∧ Below w.heap.size w w' := by
  obtain ⟨A, c, rfl, hcc, l0, hc0⟩ := h0
  have HC := Lib.hid hc0
  have HCC := Lib.hid hcc
  clear hc0 hcc
  by_cases hz : ps.length = 0
  · have t : ((ps.length : Int) == 0) = true := by simp [hz]
    have HZ := Lib.hid hz
    clear hz
    go_enter Try.func44, Try.ntmps44
    go_wp2
    go_ret
    exact ⟨ret_int (by rw [sChk, if_pos HZ.out]), Below.refl _ _⟩
  · have t : ((ps.length : Int) == 0) = false := by simp [hz]
    have HZ := Lib.hid hz
    clear hz
    by_cases hl : 400 < ps.length
    · go_enter Try.func44, Try.ntmps44
      go_wp2
      go_ret
      exact ⟨ret_int (by rw [sChk, if_neg HZ.out, if_pos hl]), Below.refl _ _⟩
    · go_enter Try.func44, Try.ntmps44
      go_wp2
      go_loopw [13] (fun i wr => ∃ k : Nat, k ≤ ps.length ∧ i = .int .i64 k ∧ Hid (Below w.heap.size w wr ∧ (∀ j, j < k → errP ps j = 0))) (fun i _ => ps.length - (intOf i).toNat)
      case atStart => exact ⟨0, Nat.zero_le _, rfl, Lib.hid ⟨Below.refl _ _, fun j hj => by omega⟩⟩
      case round =>
        obtain ⟨k, hk, rfl, HR⟩ := hrel
        by_cases hlt : k < ps.length
        · obtain ⟨b, off, rfl, hb, hcell⟩ := HC.out (by omega)
          obtain ⟨x, hx⟩ : ∃ x, x = (getP ps k).1 := ⟨_, rfl⟩
          obtain ⟨y, hy⟩ : ∃ y, y = (getP ps k).2 := ⟨_, rfl⟩
          obtain ⟨z, hz⟩ : ∃ z, z = (getP ps (k - 1)).2 := ⟨_, rfl⟩
          have hbw : b < wr.heap.size := by have := HR.out.1.size; omega
          have c1 : wr.cell? ⟨b, off + k * 2, none⟩ = some (.int .i64 x) := by rw [hx]; exact (HR.out.1.cell (p := ⟨b, off + k * 2, none⟩) hb).trans (hcell k hlt).1
          have c2 : wr.cell? ⟨b, off + k * 2 + 1, none⟩ = some (.int .i64 y) := by rw [hy]; exact (HR.out.1.cell (p := ⟨b, off + k * 2 + 1, none⟩) hb).trans (hcell k hlt).2
          have c3 : 0 < k → wr.cell? ⟨b, off + (k - 1) * 2 + 1, none⟩ = some (.int .i64 z) := fun _ => by rw [hz]; exact (HR.out.1.cell (p := ⟨b, off + (k - 1) * 2 + 1, none⟩) hb).trans (hcell (k - 1) (by omega)).2
          have HCL := Lib.hid hcell
          have HXYZ := Lib.hid (And.intro hx (And.intro hy hz))
          clear hcell hx hy hz
          have a0 : ∀ o, (wr.alloc o).cell? ⟨b, off + (k - 1) * 2 + 1, none⟩ = wr.cell? ⟨b, off + (k - 1) * 2 + 1, none⟩ := fun o => World.cell?_alloc_lt _ _ _ hbw
          have a1 : ∀ o o', ((wr.alloc o).alloc o').cell? ⟨b, off + (k - 1) * 2 + 1, none⟩ = wr.cell? ⟨b, off + (k - 1) * 2 + 1, none⟩ := fun o o' => (World.cell?_alloc_lt _ _ _ (by simp; omega)).trans (a0 o)
          go_wp2_with fail
          refine (svalid_any _ [x, y] _ (ints_two _ _ _ _ (by simp))).mono ?_
          rintro e w' ⟨rfl, rfl⟩
          have HB2 := Lib.hid (show ∀ o o', Below w.heap.size w ((wr.alloc o).alloc o') from fun o o' => (HR.out.1.alloc (by have := HR.out.1.size; omega) o).alloc (by have := HR.out.1.size; simp; omega) o')
          have hvv : [x, y].all vB = (vB x && vB y) := by simp
          cases hv : [x, y].all vB
          · go_wp2
            go_ret
            exact ⟨ret_int (sChk_at hl HR.out.2 hlt (errP_eq HXYZ.out.1 HXYZ.out.2.1 HXYZ.out.2.2 (if_pos (by rw [← hvv, hv]))) (by decide)).symm, HB2.out _ _⟩
          · cases t2 : decide (x ≥ y)
            · have ht2 : x < y := by simpa using t2
              cases t3 : decide ((k : Int) > 0)
              · have hk0 : k = 0 := by have := of_decide_eq_false t3; omega
                subst hk0
                clear c3 a0 a1 t3
                go_wp2_with fail
                go_quiet (fail)
                go_wp2
                go_roundw
                case rel => exact ⟨0 + 1, by omega, by go_num, Lib.hid ⟨below_drewN (HB2.out _ _) _, all_snoc HR.out.2 (errP_eq HXYZ.out.1 HXYZ.out.2.1 HXYZ.out.2.2 ((if_neg (by rw [← hvv, hv]; simp)).trans ((if_neg (by omega)).trans (if_neg (by omega)))))⟩⟩
                case measure => simp [intOf]; omega
              · have hk0 : 0 < k := by have := of_decide_eq_true t3; omega
                have c4 := c3 hk0
                clear c3
                cases t4 : (z != x)
                · have ht4 : z = x := by simpa using t4
                  have HT4 := Lib.hid ht4
                  clear ht4
                  go_wp2_with fail
                  go_quiet (fail)
                  go_wp2
                  go_roundw
                  case rel => exact ⟨k + 1, by omega, by go_num, Lib.hid ⟨below_drewN (HB2.out _ _) _, all_snoc HR.out.2 (errP_eq HXYZ.out.1 HXYZ.out.2.1 HXYZ.out.2.2 ((if_neg (by rw [← hvv, hv]; simp)).trans ((if_neg (by omega)).trans (if_neg (by have := HT4.out; simp [this])))))⟩⟩
                  case measure => simp [intOf]; omega
                · have ht4 : z ≠ x := by simpa using t4
                  have HT4 := Lib.hid ht4
                  clear ht4
                  go_wp2_with fail
                  go_quiet (fail)
                  go_wp2
                  go_ret
                  exact ⟨ret_int (sChk_at hl HR.out.2 hlt (errP_eq HXYZ.out.1 HXYZ.out.2.1 HXYZ.out.2.2 ((if_neg (by rw [← hvv, hv]; simp)).trans ((if_neg (by omega)).trans (if_pos ⟨hk0, HT4.out⟩)))) (by decide)).symm, below_drewN (HB2.out _ _) _⟩
            · have ht2 : y ≤ x := by simpa using t2
              go_wp2
              go_ret
              exact ⟨ret_int (sChk_at hl HR.out.2 hlt (errP_eq HXYZ.out.1 HXYZ.out.2.1 HXYZ.out.2.2 ((if_neg (by rw [← hvv, hv]; simp)).trans (if_pos ht2))) (by decide)).symm, HB2.out _ _⟩
        · obtain rfl : k = ps.length := by omega
          go_wp2
          go_ret
          exact ⟨ret_int (sChk_ok (by have := HZ.out; omega) hl HR.out.2).symm, HR.out.1⟩
end Go.Proofs.Ytilbolgncpfmmaa
