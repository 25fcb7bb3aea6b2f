/- The walks of schedule's valid and check, for this seat. -/
import Derived.Test.YtilbolgncpfmmaaBiz
namespace Go.Proofs.Ytilbolgncpfmmaa
open Go.RowKit

theorem bad_any (d : Int) (w : World) : Calls Try.prog 111 #[.int .i64 d] w fun e w' => e = .returned (.bool (!vB d)) ∧ w = w' := by
  by_cases h1 : d < -25567
  · go_enter Try.func111, Try.ntmps111
    go_wp2
    go_ret
    exact ⟨ret_bool (by rw [show vB d = false by simp [vB]; omega]; rfl), rfl⟩
  · by_cases h2 : 84005 < d
    · go_enter Try.func111, Try.ntmps111
      go_wp2
      go_ret
      exact ⟨ret_bool (by rw [show vB d = false by simp [vB]; omega]; rfl), rfl⟩
    · go_enter Try.func111, Try.ntmps111
      go_wp2
      go_ret
      exact ⟨ret_bool (by rw [show vB d = true by simp [vB]; omega]; rfl), rfl⟩

set_option maxHeartbeats 400000 in
theorem indexBad_any (v : Value) (zs : List Int) (w : World) (h0 : IntsAt w w.heap.size v zs) :
    Calls Try.prog 128 #[v, .func (.func 111) #[] #[]] w fun e w' => IdxPost (!zs.all vB) w e w' := by
  obtain ⟨A, c, rfl, l0, hc0⟩ := h0
  have HC := Lib.hid hc0
  clear hc0
  go_enter Try.func128, Try.ntmps128
  go_wp2
  go_loop [8] (fun i => ∃ k : Nat, k ≤ zs.length ∧ i = .int .i64 k ∧ (∀ j, j < k → vB (zs[j]?.getD 0) = true)) (fun i => zs.length - (intOf i).toNat)
  case atStart => exact ⟨0, Nat.zero_le _, rfl, fun j hj => by omega⟩
  case round =>
    obtain ⟨k, hk, rfl, hz⟩ := hrel
    have HZ := Lib.hid hz
    clear hz
    by_cases hlt : k < zs.length
    · obtain ⟨b, off, rfl, hb, hcell⟩ := HC.out (by omega)
      obtain ⟨y, hy⟩ : ∃ y, y = zs[k]?.getD 0 := ⟨_, rfl⟩
      have hck : w.cell? ⟨b, off + k, none⟩ = some (.int .i64 y) := by rw [hy]; exact hcell _ (by omega)
      clear hcell
      have HY := Lib.hid hy
      clear hy
      cases hv : vB y
      · have HV := Lib.hid hv
        go_wp2_with (go_at_call 111; refine (bad_any _ _).mono ?_; rintro e w' ⟨rfl, rfl⟩)
        go_ret
        exact ⟨k, rfl, iff_of_true (by omega) (by rw [not_all_vB hlt (by rw [← HY.out]; exact HV.out)]; rfl), rfl⟩
      · have HV := Lib.hid hv
        go_wp2_with (go_at_call 111; refine (bad_any _ _).mono ?_; rintro e w' ⟨rfl, rfl⟩)
        go_round
        case rel => exact ⟨k + 1, by omega, by go_num, all_take_snoc HZ.out (by rw [← HY.out]; exact HV.out)⟩
        case measure => simp [intOf]; omega
    · obtain rfl : k = zs.length := by omega
      go_wp2
      go_ret
      exact ⟨-1, rfl, iff_of_false (by omega) (by rw [all_vB HZ.out]; simp), rfl⟩

theorem svalid_any (v : Value) (zs : List Int) (w : World) (h0 : IntsAt w w.heap.size v zs) :
    Calls Try.prog 83 #[v] w fun e w' => e = .returned (.bool (zs.all vB)) ∧ w = w' := by
  have H0 := Lib.hid h0
  clear h0
  have cont : Calls Try.prog 110 #[v, .func (.func 111) #[] #[]] w fun e w' => e = .returned (.bool (!zs.all vB)) ∧ w = w' := by
    go_enter Try.func110, Try.ntmps110
    go_wp2_with fail
    refine (indexBad_any _ _ _ H0.out).mono ?_
    rintro e w' ⟨i, rfl, hi, rfl⟩
    have HI := Lib.hid hi
    clear hi
    go_wp2
    go_ret
    exact ⟨ret_bool (by rw [Bool.eq_iff_iff, ← HI.out]; simp), rfl⟩
  have HC := Lib.hid cont
  clear cont
  go_enter Try.func83, Try.ntmps83
  go_wp2_with fail
  refine HC.out.mono ?_
  rintro e w' ⟨rfl, rfl⟩
  go_wp2
  go_ret
  exact ⟨ret_bool (by simp), rfl⟩

/-- what check returns: the first of the errors that functions have in common -/
def sck (right : Bool) (m s : Int) : Int := if right then (if m < 1 ∨ 4800 < m then 2 else if s ≠ 1 ∧ s ≠ 2 then 7 else 0) else 1
theorem scheck_any (r : Bool) (m s : Int) (w : World) : Calls Try.prog 82 #[.bool r, .int .i64 m, .int .i64 s] w fun e w' => e = .returned (.int .i64 (sck r m s)) ∧ w = w' := by
  cases r
  · go_enter Try.func82, Try.ntmps82
    go_wp2
    go_ret
    exact ⟨rfl, rfl⟩
  · rcases (show m < 1 ∨ 4800 < m ∨ (1 ≤ m ∧ m ≤ 4800) by omega) with h | h | ⟨h1, h2⟩
    · go_enter Try.func82, Try.ntmps82
      go_wp2
      go_ret
      exact ⟨ret_int (by rw [sck, if_pos rfl, if_pos (by omega)]), rfl⟩
    · go_enter Try.func82, Try.ntmps82
      go_wp2
      go_ret
      exact ⟨ret_int (by rw [sck, if_pos rfl, if_pos (by omega)]), rfl⟩
    · rcases (show s = 1 ∨ s = 2 ∨ (s ≠ 1 ∧ s ≠ 2) by omega) with rfl | rfl | ⟨s1, s2⟩
      · go_enter Try.func82, Try.ntmps82
        go_wp2
        go_ret
        exact ⟨ret_int (by rw [sck, if_pos rfl, if_neg (by omega), if_neg (by omega)]), rfl⟩
      · go_enter Try.func82, Try.ntmps82
        go_wp2
        go_ret
        exact ⟨ret_int (by rw [sck, if_pos rfl, if_neg (by omega), if_neg (by omega)]), rfl⟩
      · have t1 : (s != 1) = true := by simp; omega
        have t2 : (s != 2) = true := by simp; omega
        have HS := Lib.hid (And.intro s1 s2)
        clear s1 s2
        go_enter Try.func82, Try.ntmps82
        go_wp2
        go_ret
        exact ⟨ret_int (by rw [sck, if_pos rfl, if_neg (by omega), if_pos HS.out]), rfl⟩
end Go.Proofs.Ytilbolgncpfmmaa
