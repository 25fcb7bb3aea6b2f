/- The walks of schedule's inner and its iterator, for this seat. -/
import Derived.Test.YtilbolgncpfmmaaIter
import Derived.Test.YtilbolgncpfmmaaMonths
import Derived.Test.YtilbolgncpfmmaaPlainS
namespace Go.Proofs.Ytilbolgncpfmmaa
open Go.RowKit Go.Shelf
attribute [local go_sem] Oper.semAt_some

/-- what the iterator inner has in memory -/
structure InAt (w : World) (Bp Bs Bm : Nat) (a b s m : Int) : Prop where
  bp : Box w Bp 28 #[.int .i64 a, .int .i64 b]
  bs : Box w Bs 3 #[.int .i64 s]
  bm : Box w Bm 3 #[.int .i64 m]

def inS (Bp Bs Bm : Nat) (b : Nat) : Prop := b = Bp ∨ b = Bs ∨ b = Bm
theorem InAt.kept {w w' : World} {Bp Bs Bm : Nat} {a b s m : Int} (h : InAt w Bp Bs Bm a b s m) (k : KeptS (inS Bp Bs Bm) w w') : InAt w' Bp Bs Bm a b s m :=
  ⟨h.bp.same (k.block _ h.bp.lt (.inl rfl)), h.bs.same (k.block _ h.bs.lt (.inr (.inl rfl))), h.bm.same (k.block _ h.bm.lt (.inr (.inr rfl)))⟩
theorem InAt.below {w w' : World} {Bp Bs Bm : Nat} {a b s m : Int} (h : InAt w Bp Bs Bm a b s m) (hb : Below w.heap.size w w') : InAt w' Bp Bs Bm a b s m :=
  ⟨h.bp.below hb h.bp.lt, h.bs.below hb h.bs.lt, h.bm.below hb h.bm.lt⟩
theorem grown_below {w w' : World} (h : Below w.heap.size w w') (r : Option Nat) : w.grownBy w' r := ⟨h.os, h.tape, h.output, h.size, fun i hi _ => h.block i hi⟩

variable {w w' : World} {Bp Bs Bm Bd : Nat} {a b s m : Int}
set_option maxHeartbeats 1000000 in
theorem inner1_seq (n : Nat) (hn : 3 ≤ n) (w : World) (hm1 : 1 ≤ m) (hm2 : m ≤ 4800) (hD : InAt w Bp Bs Bm a b s m) :
    SeqSt Fence.wide n Try.prog 112 #[.pointer (some ⟨Bp, 0, none⟩), .pointer (some ⟨Bs, 0, none⟩), .pointer (some ⟨Bm, 0, none⟩)] (fun x : Int => #[.int .i64 x]) (inR a b m s m) (inS Bp Bs Bm) Bd w := by
  intro l J Jx W hb hJ hJx hY h0
  refine callsIn_of_wp Try.func112 rfl trivial ?_ rfl
  simp only [Try.ntmps112, List.size_toArray, List.length_cons, List.length_nil, Nat.reduceAdd, Nat.reduceSub, Array.replicate_succ, Array.replicate_zero, List.push_toArray, List.append_toArray, List.nil_append, List.cons_append]
  have hDW : InAt W Bp Bs Bm a b s m := ⟨hD.bp.below hb hD.bp.lt, hD.bs.below hb hD.bs.lt, hD.bm.below hb hD.bm.lt⟩
  have HJ := Lib.hid hJ
  have HJX := Lib.hid hJx
  have HY := Lib.hid hY
  clear hJ hJx hY hD
  have c0 : W.cell? ⟨Bp, 0, none⟩ = some (.int .i64 a) := hDW.bp.cell 0
  have c1 : W.cell? ⟨Bp, 1, none⟩ = some (.int .i64 b) := hDW.bp.cell 1
  have c2 : W.cell? ⟨Bs, 0, none⟩ = some (.int .i64 s) := hDW.bs.cell 0
  have c3 : W.cell? ⟨Bm, 0, none⟩ = some (.int .i64 m) := hDW.bm.cell 0
  have HDW := Lib.hid hDW
  clear hDW
  by_cases hs : s = 2
  · have t : (s == 2) = true := by simp [hs]
    have HST := Lib.hid (show sSt a b s = a by rw [sSt, if_pos hs])
    have HSG := Lib.hid (show ∀ n : Int, sSg s * n = n by intro n; rw [sSg, if_pos hs]; omega)
    clear hs
    gi_wp2
    gi_loopw [7] (fun sl wr => ∃ (pre : List Int) (n : Int), sl = .int .i64 n ∧ 1 ≤ n ∧ n ≤ 9600 ∧ J pre wr ∧ Hid (inR a b m s m = pre ++ inR a b m s n) ∧ Hid (InAt wr Bp Bs Bm a b s m))
      (fun sl _ => (9601 - intOf sl).toNat)
    case atStart => exact ⟨[], m, rfl, hm1, by omega, h0, Lib.hid rfl, HDW⟩
    case round =>
      obtain ⟨pre, n, rfl, n1, n2, hJp, HX, HD⟩ := hrel
      by_cases h48 : n ≤ 4800
      · obtain ⟨v, hv⟩ : ∃ v, v = amV a (n) := ⟨_, rfl⟩
        obtain ⟨ee, he⟩ : ∃ ee, ee = amE a (n) := ⟨_, rfl⟩
        have HV := Lib.hid (show amV (sSt a b s) (sSg s * n) = v by rw [HST.out, HSG.out, hv])
        have HE := Lib.hid (show amE (sSt a b s) (sSg s * n) = ee by rw [HST.out, HSG.out, he])
        have hcall := AddMonths_any a (n) wr (by omega) (by omega)
        rw [← hv, ← he] at hcall
        have HC := Lib.hid hcall
        clear hcall hv he
        gi_wp2
        refine ⟨trivial, fun _ => (by omega), ?_⟩
        refine (callsIn_wide.2 HC.out).mono ?_
        rintro e W1 ⟨rfl, hbw⟩
        have HB := Lib.hid hbw
        have HJ1 := Lib.hid (HJ.out _ _ _ hJp (grown_below hbw _))
        have HD1 := Lib.hid (HD.out.below hbw)
        clear hbw hJp
        have d0 : W1.cell? ⟨Bp, 0, none⟩ = some (.int .i64 a) := HD1.out.bp.cell 0
        have d1 : W1.cell? ⟨Bp, 1, none⟩ = some (.int .i64 b) := HD1.out.bp.cell 1
        have d3 : W1.cell? ⟨Bm, 0, none⟩ = some (.int .i64 m) := HD1.out.bm.cell 0
        cases t1 : (ee != 0)
        · cases t2 : decide (v ≤ a)
          · cases t3 : decide (v ≥ b)
            · have h2 : a < v := by simpa using t2
              have h3 : v < b := by simpa using t3
              have h1 : ee = 0 := by simpa using t1
              have HR1 := Lib.hid (show inR a b m s n = v :: inR a b m s (n + m) by rw [← HV.out]; exact inR_yes hm1 h48 (HE.out.trans h1) (by rw [HV.out]; exact h2) (by rw [HV.out]; exact h3))
              clear h1 h2 h3
              obtain ⟨fn, tmps, assign, body, hy, hR⟩ := HY.out pre v _ HJ1.out (by rw [HX.out, HR1.out]; exact ⟨inR a b m s (n + m), by simp⟩)
              have HR := Lib.hid hR
              clear hR
              gi_wp2
              refine ⟨fun _ => (by omega), ?_⟩
              refine HR.out.mono ?_
              rintro e W3 (⟨rfl, hJ3, hk3⟩ | ⟨rfl, hJx3⟩)
              · have HD3 := Lib.hid (HD1.out.kept hk3)
                have b0 : W3.cell? ⟨Bm, 0, none⟩ = some (.int .i64 m) := HD3.out.bm.cell 0
                gi_wp2
                go_roundw
                case rel => exact ⟨pre ++ [v], n + m, rfl, by omega, by omega, hJ3, Lib.hid (by rw [HX.out, HR1.out]; simp), HD3⟩
                case measure => simp [intOf]; omega
              · gi_wp2
                refine bodyPost_ret (results_none rfl _ _ _) rfl ?_
                exact ⟨⟨_, rfl⟩, .inr ⟨pre ++ [v], by rw [HX.out, HR1.out]; exact ⟨inR a b m s (n + m), by simp⟩, hJx3⟩⟩
            · have h3 : b ≤ v := by simpa using t3
              gi_wp2
              refine ⟨fun _ h => (by cases h), ?_⟩
              gi_wp2
              refine bodyPost_ret (results_none rfl _ _ _) rfl ?_
              exact ⟨⟨_, rfl⟩, .inl (by rw [HX.out, inR_hi (by rw [HV.out]; exact h3), List.append_nil]; exact HJ1.out)⟩
          · have h3 : v ≤ a := by simpa using t2
            gi_wp2
            refine ⟨fun _ h => (by cases h), ?_⟩
            gi_wp2
            refine bodyPost_ret (results_none rfl _ _ _) rfl ?_
            exact ⟨⟨_, rfl⟩, .inl (by rw [HX.out, inR_lo (by rw [HV.out]; exact h3), List.append_nil]; exact HJ1.out)⟩
        · have h3 : ee ≠ 0 := by simpa using t1
          gi_wp2
          refine ⟨fun _ h => (by cases h), ?_⟩
          gi_wp2
          refine bodyPost_ret (results_none rfl _ _ _) rfl ?_
          exact ⟨⟨_, rfl⟩, .inl (by rw [HX.out, inR_err (by rw [HE.out]; exact h3), List.append_nil]; exact HJ1.out)⟩
      · gi_wp2
        go_end0
        exact ⟨⟨_, rfl⟩, .inl (by rw [HX.out, inR_far (by omega), List.append_nil]; exact hJp)⟩
  · have t : (s == 2) = false := by simp [hs]
    have HST := Lib.hid (show sSt a b s = b by rw [sSt, if_neg hs])
    have HSG := Lib.hid (show ∀ n : Int, sSg s * n = -n by intro n; rw [sSg, if_neg hs]; omega)
    clear hs
    gi_wp2
    gi_loopw [7] (fun sl wr => ∃ (pre : List Int) (n : Int), sl = .int .i64 n ∧ 1 ≤ n ∧ n ≤ 9600 ∧ J pre wr ∧ Hid (inR a b m s m = pre ++ inR a b m s n) ∧ Hid (InAt wr Bp Bs Bm a b s m))
      (fun sl _ => (9601 - intOf sl).toNat)
    case atStart => exact ⟨[], m, rfl, hm1, by omega, h0, Lib.hid rfl, HDW⟩
    case round =>
      obtain ⟨pre, n, rfl, n1, n2, hJp, HX, HD⟩ := hrel
      by_cases h48 : n ≤ 4800
      · obtain ⟨v, hv⟩ : ∃ v, v = amV b (-n) := ⟨_, rfl⟩
        obtain ⟨ee, he⟩ : ∃ ee, ee = amE b (-n) := ⟨_, rfl⟩
        have HV := Lib.hid (show amV (sSt a b s) (sSg s * n) = v by rw [HST.out, HSG.out, hv])
        have HE := Lib.hid (show amE (sSt a b s) (sSg s * n) = ee by rw [HST.out, HSG.out, he])
        have hcall := AddMonths_any b (-n) wr (by omega) (by omega)
        rw [← hv, ← he] at hcall
        have HC := Lib.hid hcall
        clear hcall hv he
        gi_wp2
        refine ⟨trivial, fun _ => (by omega), ?_⟩
        refine (callsIn_wide.2 HC.out).mono ?_
        rintro e W1 ⟨rfl, hbw⟩
        have HB := Lib.hid hbw
        have HJ1 := Lib.hid (HJ.out _ _ _ hJp (grown_below hbw _))
        have HD1 := Lib.hid (HD.out.below hbw)
        clear hbw hJp
        have d0 : W1.cell? ⟨Bp, 0, none⟩ = some (.int .i64 a) := HD1.out.bp.cell 0
        have d1 : W1.cell? ⟨Bp, 1, none⟩ = some (.int .i64 b) := HD1.out.bp.cell 1
        have d3 : W1.cell? ⟨Bm, 0, none⟩ = some (.int .i64 m) := HD1.out.bm.cell 0
        cases t1 : (ee != 0)
        · cases t2 : decide (v ≤ a)
          · cases t3 : decide (v ≥ b)
            · have h2 : a < v := by simpa using t2
              have h3 : v < b := by simpa using t3
              have h1 : ee = 0 := by simpa using t1
              have HR1 := Lib.hid (show inR a b m s n = v :: inR a b m s (n + m) by rw [← HV.out]; exact inR_yes hm1 h48 (HE.out.trans h1) (by rw [HV.out]; exact h2) (by rw [HV.out]; exact h3))
              clear h1 h2 h3
              obtain ⟨fn, tmps, assign, body, hy, hR⟩ := HY.out pre v _ HJ1.out (by rw [HX.out, HR1.out]; exact ⟨inR a b m s (n + m), by simp⟩)
              have HR := Lib.hid hR
              clear hR
              gi_wp2
              refine ⟨fun _ => (by omega), ?_⟩
              refine HR.out.mono ?_
              rintro e W3 (⟨rfl, hJ3, hk3⟩ | ⟨rfl, hJx3⟩)
              · have HD3 := Lib.hid (HD1.out.kept hk3)
                have b0 : W3.cell? ⟨Bm, 0, none⟩ = some (.int .i64 m) := HD3.out.bm.cell 0
                gi_wp2
                go_roundw
                case rel => exact ⟨pre ++ [v], n + m, rfl, by omega, by omega, hJ3, Lib.hid (by rw [HX.out, HR1.out]; simp), HD3⟩
                case measure => simp [intOf]; omega
              · gi_wp2
                refine bodyPost_ret (results_none rfl _ _ _) rfl ?_
                exact ⟨⟨_, rfl⟩, .inr ⟨pre ++ [v], by rw [HX.out, HR1.out]; exact ⟨inR a b m s (n + m), by simp⟩, hJx3⟩⟩
            · have h3 : b ≤ v := by simpa using t3
              gi_wp2
              refine ⟨fun _ h => (by cases h), ?_⟩
              gi_wp2
              refine bodyPost_ret (results_none rfl _ _ _) rfl ?_
              exact ⟨⟨_, rfl⟩, .inl (by rw [HX.out, inR_hi (by rw [HV.out]; exact h3), List.append_nil]; exact HJ1.out)⟩
          · have h3 : v ≤ a := by simpa using t2
            gi_wp2
            refine ⟨fun _ h => (by cases h), ?_⟩
            gi_wp2
            refine bodyPost_ret (results_none rfl _ _ _) rfl ?_
            exact ⟨⟨_, rfl⟩, .inl (by rw [HX.out, inR_lo (by rw [HV.out]; exact h3), List.append_nil]; exact HJ1.out)⟩
        · have h3 : ee ≠ 0 := by simpa using t1
          gi_wp2
          refine ⟨fun _ h => (by cases h), ?_⟩
          gi_wp2
          refine bodyPost_ret (results_none rfl _ _ _) rfl ?_
          exact ⟨⟨_, rfl⟩, .inl (by rw [HX.out, inR_err (by rw [HE.out]; exact h3), List.append_nil]; exact HJ1.out)⟩
      · gi_wp2
        go_end0
        exact ⟨⟨_, rfl⟩, .inl (by rw [HX.out, inR_far (by omega), List.append_nil]; exact hJp)⟩

/-- inner returns the iterator over its boxed arguments -/
theorem inner_any (a b m s : Int) (w : World) : Calls Try.prog 84 #[.agg #[.int .i64 a, .int .i64 b], .int .i64 m, .int .i64 s] w fun e w' =>
    e = .returned (.func (.func 112) #[] #[.pointer (some ⟨w.heap.size, 0, none⟩), .pointer (some ⟨w.heap.size + 1 + 1, 0, none⟩), .pointer (some ⟨w.heap.size + 1, 0, none⟩)]) ∧
    w' = ((w.alloc (.cells #[.int .i64 a, .int .i64 b] 28)).alloc (.cells #[.int .i64 m] 3)).alloc (.cells #[.int .i64 s] 3) := by
  go_enter Try.func84, Try.ntmps84
  go_wp2
  go_ret
  exact ⟨rfl, rfl⟩
end Go.Proofs.Ytilbolgncpfmmaa
