/- The walks of Previous, Business, Add and Count, for this seat. -/
import Derived.Test.YtilbolgncpfmmaaIter
namespace Go.Proofs.Ytilbolgncpfmmaa
open Go.RowKit Go.Shelf
attribute [local go_sem] Oper.semAt_some
set_option maxHeartbeats 400000 in
theorem Previous_any (v0 v1 : Value) (we hs : List Int) (d : Int) (w : World) (h0 : IntsAt w w.heap.size v0 we) (h1 : IntsAt w w.heap.size v1 hs) :
    Calls Try.prog 33 #[.agg #[v0, v1], .int .i64 d] w fun e w' => e = .returned (.tuple #[.int .i64 (nextV we hs (-1) d), .int .i64 (nextE we hs (-1) d)]) ∧ Below w.heap.size w w' := by
  have HBA := Lib.hid (show ∀ o o', Below w.heap.size w ((w.alloc o).alloc o') from fun o o' => ((Below.refl _ _).alloc (Nat.le_refl _) o).alloc (by simp) o')
  have H0 := Lib.hid h0
  have H1 := Lib.hid h1
  clear h0 h1
  go_enter Try.func33, Try.ntmps33
  go_wp2_with fail
  refine (check_any _ _ _ we hs [d] _ (ints_alloc (ints_alloc H0.out _) _) (ints_alloc (ints_alloc H1.out _) _) (ints_one _ _ _ (by simp))).mono ?_
  rintro e w1 ⟨rfl, hb⟩
  have hz1 : w.heap.size + 1 + 1 ≤ w1.heap.size := by have := hb.size; simpa using this
  have c0 : w1.cell? ⟨w.heap.size, 0, none⟩ = some v0 := cell_of_below hb (by simp; omega) (by simp)
  have c1 : w1.cell? ⟨w.heap.size, 1, none⟩ = some v1 := cell_of_below hb (by simp; omega) (by simp)
  have HBW := Lib.hid ((HBA.out _ _).trans (hb.mono (by simp; omega)))
  clear hb
  by_cases hc : chkD we hs [d] = 0
  · have e1 : (chkD we hs [d] != 0) = false := by simp [hc]
    obtain ⟨hck, hv⟩ := chkD_one hc
    have HC := Lib.hid hc
    have HK := Lib.hid hck
    have HV := Lib.hid hv
    clear hc hck hv
    go_wp2_with fail
    refine (first_any _ _ we hs d (-1) _ (ints_later H0.out HBW.out (Nat.le_refl _)) (ints_later H1.out HBW.out (Nat.le_refl _)) (Start.of_valid (.inr rfl) HV.out) HK.out).mono ?_
    rintro e w2 ⟨rfl, hb2⟩
    have HB2 := Lib.hid hb2
    clear hb2
    go_wp2
    go_ret2
    exact ⟨ret_two (by rw [nextV, if_pos HC.out]) (by rw [nextE, if_pos HC.out]), HBW.out.trans (HB2.out.mono (by omega))⟩
  · have e1 : (chkD we hs [d] != 0) = true := by simp [hc]
    have HC := Lib.hid hc
    clear hc
    go_wp2
    go_ret2
    exact ⟨ret_two (by rw [nextV, if_neg HC.out]) (by rw [nextE, if_neg HC.out]), HBW.out⟩

theorem ret_bi {k : IntKind} {a b : Int} {c d : Bool} (h' : c = d) (h : a = b) : Ending.returned (.tuple #[.bool c, .int k a]) = .returned (.tuple #[.bool d, .int k b]) := by rw [h, h']
def bizV (we hs : List Int) (d : Int) : Bool := if chkD we hs [d] = 0 then isB we hs d else false
set_option maxHeartbeats 400000 in
theorem Business_any (v0 v1 : Value) (we hs : List Int) (d : Int) (w : World) (h0 : IntsAt w w.heap.size v0 we) (h1 : IntsAt w w.heap.size v1 hs) :
    Calls Try.prog 30 #[.agg #[v0, v1], .int .i64 d] w fun e w' => e = .returned (.tuple #[.bool (bizV we hs d), .int .i64 (chkD we hs [d])]) ∧ Below w.heap.size w w' := by
  have HBA := Lib.hid (show ∀ o o', Below w.heap.size w ((w.alloc o).alloc o') from fun o o' => ((Below.refl _ _).alloc (Nat.le_refl _) o).alloc (by simp) o')
  have H0 := Lib.hid h0
  have H1 := Lib.hid h1
  clear h0 h1
  go_enter Try.func30, Try.ntmps30
  go_wp2_with fail
  refine (check_any _ _ _ we hs [d] _ (ints_alloc (ints_alloc H0.out _) _) (ints_alloc (ints_alloc H1.out _) _) (ints_one _ _ _ (by simp))).mono ?_
  rintro e w1 ⟨rfl, hb⟩
  have hz1 : w.heap.size + 1 + 1 ≤ w1.heap.size := by have := hb.size; simpa using this
  have c0 : w1.cell? ⟨w.heap.size, 0, none⟩ = some v0 := cell_of_below hb (by simp; omega) (by simp)
  have c1 : w1.cell? ⟨w.heap.size, 1, none⟩ = some v1 := cell_of_below hb (by simp; omega) (by simp)
  have HBW := Lib.hid ((HBA.out _ _).trans (hb.mono (by simp; omega)))
  clear hb
  by_cases hc : chkD we hs [d] = 0
  · have e1 : (chkD we hs [d] != 0) = false := by simp [hc]
    obtain ⟨hck, hv⟩ := chkD_one hc
    have HC := Lib.hid hc
    have HK := Lib.hid hck
    have HV := Lib.hid hv
    clear hc hck hv
    go_wp2_with fail
    refine (business_any _ _ we hs d _ (ints_later H0.out HBW.out (Nat.le_refl _)) (ints_later H1.out HBW.out (Nat.le_refl _)) HK.out).mono ?_
    rintro e w2 ⟨rfl, rfl⟩
    go_wp2
    go_ret2
    exact ⟨ret_bi (by rw [bizV, if_pos HC.out]) HC.out.symm, HBW.out.alloc (by omega) _⟩
  · have e1 : (chkD we hs [d] != 0) = true := by simp [hc]
    have HC := Lib.hid hc
    clear hc
    go_wp2
    go_ret2
    exact ⟨ret_bi (by rw [bizV, if_neg HC.out]) rfl, HBW.out⟩

theorem takeWhile_all {l : List Int} {b : Int} (h : ∀ x ∈ l, x < b) : l.takeWhile (fun x => decide (x < b)) = l := by
  induction l with
  | nil => rfl
  | cons a t ih =>
    rw [List.takeWhile_cons_of_pos (by simpa using h a (by simp)), ih fun x hx => h x (by simp [hx])]
theorem takeWhile_some {l p : List Int} {x b : Int} (h : p ++ [x] <+: l) (hx : b ≤ x) (hp : ∀ y ∈ p, y < b) : l.takeWhile (fun x => decide (x < b)) = p := by
  obtain ⟨t, rfl⟩ := h
  rw [List.append_assoc, List.takeWhile_append_of_pos (by simpa using hp)]
  rw [List.singleton_append, List.takeWhile_cons_of_neg (by simp; omega), List.append_nil]
/-- the world behind days -/
theorem days_world {v0 v1 : Value} {we hs : List Int} {s : Int} {B0 : Nat} (W : World) (d : Int) (h0 : IntsAt W B0 v0 we) (h1 : IntsAt W B0 v1 hs) (hB : B0 ≤ W.heap.size) :
    DaysAt (((W.alloc (.cells #[v0, v1] 25)).alloc (.cells #[.int .i64 d] 26)).alloc (.cells #[.int .i64 s] 26)) B0 W.heap.size (W.heap.size + 1) (W.heap.size + 1 + 1) v0 v1 we hs s d ∧
    (((W.alloc (.cells #[v0, v1] 25)).alloc (.cells #[.int .i64 d] 26)).alloc (.cells #[.int .i64 s] 26)).heap.size = W.heap.size + 3 ∧
    (∀ g t cs, Box W g t cs → Box (((W.alloc (.cells #[v0, v1] 25)).alloc (.cells #[.int .i64 d] 26)).alloc (.cells #[.int .i64 s] 26)) g t cs) ∧
    (∀ n0 w, n0 ≤ W.heap.size → Below n0 w W → Below n0 w (((W.alloc (.cells #[v0, v1] 25)).alloc (.cells #[.int .i64 d] 26)).alloc (.cells #[.int .i64 s] 26))) := by
  have hb : ∀ n0 w, n0 ≤ W.heap.size → Below n0 w W → Below n0 w (((W.alloc (.cells #[v0, v1] 25)).alloc (.cells #[.int .i64 d] 26)).alloc (.cells #[.int .i64 s] 26)) := fun n0 w hn h =>
    ((h.alloc hn _).alloc (by simp; omega) _).alloc (by simp; omega) _
  refine ⟨⟨?_, ?_, ((Box.new _ _ _).alloc _).alloc _, h0.below (hb _ _ hB (Below.refl _ _)), h1.below (hb _ _ hB (Below.refl _ _)), by simp; omega, by omega⟩, by simp, fun g t cs h => ((h.alloc _).alloc _).alloc _, hb⟩
  · have := Box.new (W.alloc (.cells #[v0, v1] 25)) 26 #[.int .i64 d]
    simp only [World.size_alloc] at this
    exact this.alloc _
  · have := Box.new ((W.alloc (.cells #[v0, v1] 25)).alloc (.cells #[.int .i64 d] 26)) 26 #[.int .i64 s]
    simp only [World.size_alloc] at this
    exact this

set_option maxHeartbeats 1000000 in
theorem Count_any (v0 v1 : Value) (we hs : List Int) (a b : Int) (w : World) (h0 : IntsAt w w.heap.size v0 we) (h1 : IntsAt w w.heap.size v1 hs) :
    Calls Try.prog 26 #[.agg #[v0, v1], .agg #[.int .i64 a, .int .i64 b]] w fun e w' => e = .returned (.tuple #[.int .i64 (cntV we hs a b), .int .i64 (cntE we hs a b)]) ∧ Below w.heap.size w w' := by
  have HBA := Lib.hid (show ∀ o o' o'', Below w.heap.size w (((w.alloc o).alloc o').alloc o'') from fun o o' o'' => (((Below.refl _ _).alloc (Nat.le_refl _) o).alloc (by simp) o').alloc (by simp; omega) o'')
  have H0 := Lib.hid h0
  have H1 := Lib.hid h1
  clear h0 h1
  refine (callsIn_wide (n := 8)).1 ?_
  refine callsIn_of_wp_marks Try.func26 rfl trivial ?_ rfl
  simp only [Try.ntmps26, List.size_toArray, List.length_cons, List.length_nil, Nat.reduceAdd, Nat.reduceSub, Array.replicate_succ, Array.replicate_zero, List.push_toArray, List.append_toArray, List.nil_append, List.cons_append]
  gi_wp2_with fail
  refine ⟨trivial, ?_⟩
  refine (callsIn_wide.2 (check_any _ _ _ we hs [a, b] _ (ints_alloc (ints_alloc (ints_alloc H0.out _) _) _) (ints_alloc (ints_alloc (ints_alloc H1.out _) _) _) (ints_two _ _ _ _ (by simp)))).mono ?_
  rintro e w1 ⟨rfl, hb⟩
  have hz1 : w.heap.size + 1 + 1 + 1 ≤ w1.heap.size := by have := hb.size; simpa using this
  have p0 : Box w1 w.heap.size 25 #[v0, v1] := ((((Box.new w 25 #[v0, v1]).alloc _).alloc _).below hb (by simp; omega))
  have p1 : Box w1 (w.heap.size + 1) 28 #[.int .i64 a, .int .i64 b] := by
    have := Box.new (w.alloc (.cells #[v0, v1] 25)) 28 #[.int .i64 a, .int .i64 b]
    simp only [World.size_alloc] at this
    exact (this.alloc _).below hb (by simp)
  have c0 : w1.cell? ⟨w.heap.size, 0, none⟩ = some v0 := p0.cell 0
  have c1 : w1.cell? ⟨w.heap.size, 1, none⟩ = some v1 := p0.cell 1
  have c2 : w1.cell? ⟨w.heap.size + 1, 0, none⟩ = some (.int .i64 a) := p1.cell 0
  have c3 : w1.cell? ⟨w.heap.size + 1, 1, none⟩ = some (.int .i64 b) := p1.cell 1
  have HBW := Lib.hid ((HBA.out _ _ _).trans (hb.mono (by simp; omega)))
  have P1 := Lib.hid p1
  clear hb p0 p1
  by_cases hc : chkD we hs [a, b] = 0
  · have e1 : (chkD we hs [a, b] != 0) = false := by simp [hc]
    have hc2 := hc
    rw [chkD_two] at hc2
    have hca : chkD we hs [a] = 0 := by
      by_cases h : chkD we hs [a] = 0
      · exact h
      · rw [if_neg h] at hc2; exact absurd hc2 h
    rw [if_pos hca] at hc2
    have hvb : vB b = true := by
      cases h : vB b
      · rw [h] at hc2; simp at hc2
      · rfl
    obtain ⟨hck, hv⟩ := chkD_one hca
    have he : cntE we hs a b = if b < a then 8 else 0 := by rw [cntE, if_pos hc]
    have HE := Lib.hid he
    have HK := Lib.hid hck
    have HV := Lib.hid hv
    have HVB := Lib.hid hvb
    obtain ⟨a1, a2⟩ := vB_iff.1 hv
    obtain ⟨b1, b2⟩ := vB_iff.1 hvb
    clear hc hck hv hc2 hca he hvb
    by_cases hab : b < a
    · gi_wp2
      refine ⟨_, results_tmp2 rfl _ _ _, ?_⟩
      exact ⟨ret_two (by rw [cntV, HE.out, if_pos hab]; rfl) (by rw [HE.out, if_pos hab]), HBW.out⟩
    · have k0 : ∀ o, (w1.alloc o).cell? ⟨w.heap.size, 0, none⟩ = some v0 := fun o => by rw [World.cell?_alloc_lt _ _ _ (by simp; omega)]; exact c0
      have k1 : ∀ o, (w1.alloc o).cell? ⟨w.heap.size, 1, none⟩ = some v1 := fun o => by rw [World.cell?_alloc_lt _ _ _ (by simp; omega)]; exact c1
      have k2 : ∀ o, (w1.alloc o).cell? ⟨w.heap.size + 1, 0, none⟩ = some (.int .i64 a) := fun o => by rw [World.cell?_alloc_lt _ _ _ (by simp; omega)]; exact c2
      have k3 : ∀ o, (w1.alloc o).cell? ⟨w.heap.size + 1, 1, none⟩ = some (.int .i64 b) := fun o => by rw [World.cell?_alloc_lt _ _ _ (by simp; omega)]; exact c3
      gi_wp2_with fail
      refine ⟨trivial, ?_⟩
      refine (callsIn_wide.2 (days_any _ _ _ _ _)).mono ?_
      rintro e w' ⟨rfl, rfl⟩
      gi_wp2
      have he0 : cntE we hs a b = 0 := by rw [HE.out, if_neg (by omega)]
      have hBa : Below w.heap.size w (w1.alloc (.cells #[.int .i64 0] 3)) := HBW.out.alloc (by omega) _
      obtain ⟨hD0, hsz0, hbox0, hbel0⟩ := days_world (s := 1) (w1.alloc (.cells #[.int .i64 0] 3)) a (H0.out.below hBa) (H1.out.below hBa) (by simp; omega)
      have q1 := hbox0 _ _ _ (P1.out.alloc (.cells #[.int .i64 0] 3))
      have q2 := hbox0 _ _ _ (Box.new w1 3 #[.int .i64 0])
      have hBW0 := hbel0 _ _ (by simp; omega) hBa
      clear hbox0 hbel0 k0 k1 k2 k3 hBa
      generalize ((((w1.alloc (.cells #[.int .i64 0] 3)).alloc (.cells #[v0, v1] 25)).alloc (.cells #[.int .i64 a] 26)).alloc (.cells #[.int .i64 1] 26)) = W0 at *
      simp only [World.size_alloc] at hD0 hsz0
      refine wpIn_range_st (xs := blR (isB we hs) 1 a) rfl (by omega) (gf := 101) (lb := #[.pointer (some ⟨w1.heap.size + 1 + 1, 0, none⟩), .pointer (some ⟨w1.heap.size + 1 + 1 + 1, 0, none⟩), .pointer (some ⟨w1.heap.size + 1, 0, none⟩)]) rfl trivial (enters_of Try.func101 (by kernel_rfl) rfl)
        (Bd := w1.heap.size + 1 + 1) (by omega) (fun b hb => by unfold daysS at hb; omega) (days1_seq 7 (by omega) a W0 (Start.of_valid (.inl rfl) HV.out) HK.out hD0) (fun _ => rfl)
        (fun pre W => Below w.heap.size w W ∧ Box W (w.heap.size + 1) 28 #[.int .i64 a, .int .i64 b] ∧ Box W w1.heap.size 3 #[.int .i64 pre.length] ∧ ∀ x ∈ pre, x < b)
        (fun c pre W => c = .exit 0 ∧ ∃ p x, pre = p ++ [x] ∧ Below w.heap.size w W ∧ Box W w1.heap.size 3 #[.int .i64 p.length] ∧ b ≤ x ∧ ∀ y ∈ p, y < b)
        (fun pre A B hs' hg' => ⟨below_chg hs'.1 hg' (by omega) (by omega), hs'.2.1.same (hg'.block _ (by omega) (by omega)), hs'.2.2.1.same (hg'.block _ (by omega) (by omega)), hs'.2.2.2⟩)
        (fun c pre A B hs' hg' => by
          obtain ⟨rfl, p, x, rfl, h1, h2, h3⟩ := hs'
          exact ⟨rfl, p, x, rfl, below_chg h1 hg' (by omega) (by omega), h2.same (hg'.block _ (by omega) (by omega)), h3⟩)
        ⟨hBW0, q1, q2, fun _ h => by cases h⟩
        (fun x => { tmps := #[.agg #[v0, v1], .agg #[.int .i64 a, .int .i64 b], .pointer (some ⟨w.heap.size, 0, none⟩), .pointer (some ⟨w.heap.size + 1, 0, none⟩), .int .i64 0, .int .i64 0, .int .i64 (chkD we hs [a, b]), .pointer (some ⟨w1.heap.size, 0, none⟩), .int .i64 x, .agg #[v0, v1], .pointer (some ⟨w.heap.size + 1, 0, none⟩), .int .i64 a, .pointer (some ⟨w.heap.size + 1, 1, none⟩), .int .i64 b, .slice (some ⟨w.heap.size + 1 + 1, 0, none⟩) 2 2, .int .i64 (chkD we hs [a, b]), .int .i64 (chkD we hs [a, b]), .bool false, undef, .pointer (some ⟨w.heap.size + 1, 1, none⟩), .int .i64 b, .pointer (some ⟨w.heap.size + 1, 0, none⟩), .int .i64 a, .bool (decide (b < a)), .agg #[v0, v1], .pointer (some ⟨w.heap.size + 1, 0, none⟩), .int .i64 a, .func (.func 101) #[] #[.pointer (some ⟨w1.heap.size + 1 + 1, 0, none⟩), .pointer (some ⟨w1.heap.size + 1 + 1 + 1, 0, none⟩), .pointer (some ⟨w1.heap.size + 1, 0, none⟩)], .int .i64 x, undef, undef, undef, undef, undef, undef, undef], defers := [] }) ?assign ?body ?done ?stop
      case assign =>
        intro l x W K hK
        gi_wp2
        exact hK
      case body =>
        rintro l pre x W hWs ⟨hB, r1, r2, hall⟩ hpre
        have hlen : pre.length + 1 ≤ 109573 := by
          have h1 := hpre.length_le
          have h2 := blR_length (isB we hs) 1 a (Start.of_valid (.inl rfl) HV.out)
          simp at h1; omega
        have k1 : W.cell? ⟨w.heap.size + 1, 1, none⟩ = some (.int .i64 b) := r1.cell 1
        have k2 : W.cell? ⟨w1.heap.size, 0, none⟩ = some (.int .i64 pre.length) := r2.cell 0
        have f2 := r2.frozen 0
        have HA := Lib.hid hall
        have HP := Lib.hid hpre
        clear hall hpre
        by_cases hx : b ≤ x
        · gi_wp2
          exact ⟨⟨Nat.le_refl _, fun _ _ _ => rfl⟩, rfl, pre, x, rfl, hB, r2, hx, HA.out⟩
        · gi_wp2
          refine ⟨kept_set (by omega) (by unfold daysS; omega) _, hB.setCell (p := ⟨w1.heap.size, 0, none⟩) (by simp; omega) _, r1.far (p := ⟨w1.heap.size, 0, none⟩) (by simp; omega) _, ?_, ?_⟩
          · have := r2.set 0 (.int .i64 ((pre.length : Int) + 1))
            simpa using this
          · intro y hy
            rcases List.mem_append.1 hy with hy | hy
            · exact HA.out y hy
            · have : y = x := by simpa using hy
              omega
      case done =>
        rintro D W hD' ⟨hB, r1, r2, hall⟩ hK
        have k2 : W.cell? ⟨w1.heap.size, 0, none⟩ = some (.int .i64 (blR (isB we hs) 1 a).length) := r2.cell 0
        have HA := Lib.hid hall
        clear hall
        gi_wp2
        refine ⟨by simp, .inl ⟨_, _, rfl, run_takeDeferred hK, ?_⟩⟩
        refine ⟨_, results_tmp2 rfl _ _ _, ?_⟩
        refine ⟨ret_two ?_ he0.symm, hB.trans (belowK_b (w := w) (Nat.le_refl _) W D _ _ (by omega) hK rfl rfl)⟩
        rw [cntV, if_pos he0, ← take_cnt (b - a).toNat a (Start.of_valid (.inl rfl) HV.out) (by rw [show a + ((b - a).toNat : Int) = b by omega]; exact HVB.out)]
        rw [show a + ((b - a).toNat : Int) = b by omega, takeWhile_all HA.out]
      case stop =>
        rintro D c pre W hD' hpre ⟨rfl, p, x, rfl, hB, r2, hx, hall⟩ hK
        have k2 : W.cell? ⟨w1.heap.size, 0, none⟩ = some (.int .i64 p.length) := r2.cell 0
        have HA := Lib.hid hall
        have HP := Lib.hid hpre
        clear hall hpre
        gi_wp2
        refine ⟨by simp, .inl ⟨_, _, rfl, run_takeDeferred hK, ?_⟩⟩
        refine ⟨_, results_tmp2 rfl _ _ _, ?_⟩
        refine ⟨ret_two ?_ he0.symm, hB.trans (belowK_b (w := w) (Nat.le_refl _) W D _ _ (by omega) hK rfl rfl)⟩
        rw [cntV, if_pos he0, ← take_cnt (b - a).toNat a (Start.of_valid (.inl rfl) HV.out) (by rw [show a + ((b - a).toNat : Int) = b by omega]; exact HVB.out)]
        rw [show a + ((b - a).toNat : Int) = b by omega, takeWhile_some HP.out hx HA.out]
  · have e1 : (chkD we hs [a, b] != 0) = true := by simp [hc]
    have he : cntE we hs a b = chkD we hs [a, b] := by rw [cntE, if_neg hc]
    have he2 : cntE we hs a b ≠ 0 := by rw [he]; exact hc
    have HE := Lib.hid he
    have HE2 := Lib.hid he2
    clear hc he he2
    gi_wp2
    refine ⟨_, results_tmp2 rfl _ _ _, ?_⟩
    exact ⟨ret_two (by rw [cntV, if_neg HE2.out]) HE.out.symm, HBW.out⟩

/-- two results that lie in boxes -/
theorem set2 {w : World} {B2 B3 : Nat} {t2 t3 : TypeId} {u v : Value} (q2 : Box w B2 t2 #[u]) (q3 : Box w B3 t3 #[v]) (hne : B2 ≠ B3) (x y : Value) :
    Box ((w.setCell ⟨B2, 0, none⟩ x).setCell ⟨B3, 0, none⟩ y) B2 t2 #[x] ∧ Box ((w.setCell ⟨B2, 0, none⟩ x).setCell ⟨B3, 0, none⟩ y) B3 t3 #[y] :=
  ⟨(q2.set 0 x).far (p := ⟨B3, 0, none⟩) hne y, (q3.far (p := ⟨B2, 0, none⟩) (fun e => hne e.symm) x).set 0 y⟩
theorem below_set2 {n0 : Nat} {w0 w : World} {B2 B3 : Nat} (h : Below n0 w0 w) (h2 : n0 ≤ B2) (h3 : n0 ≤ B3) (x y : Value) : Below n0 w0 ((w.setCell ⟨B2, 0, none⟩ x).setCell ⟨B3, 0, none⟩ y) :=
  (h.setCell (p := ⟨B2, 0, none⟩) h2 x).setCell (p := ⟨B3, 0, none⟩) h3 y

set_option maxHeartbeats 1000000 in
theorem Add_any (v0 v1 : Value) (we hs : List Int) (d n : Int) (w : World) (h0 : IntsAt w w.heap.size v0 we) (h1 : IntsAt w w.heap.size v1 hs) (hn : -9223372036854775808 ≤ n) (hn' : n ≤ 9223372036854775807) :
    Calls Try.prog 23 #[.agg #[v0, v1], .int .i64 d, .int .i64 n] w fun e w' => e = .returned (.tuple #[.int .i64 (addV we hs d n), .int .i64 (addE we hs d n)]) ∧ Below w.heap.size w w' := by
  have HBA := Lib.hid (show ∀ o1 o2 o3 o4 o5, Below w.heap.size w (((((w.alloc o1).alloc o2).alloc o3).alloc o4).alloc o5) from fun o1 o2 o3 o4 o5 =>
    (((((Below.refl _ _).alloc (Nat.le_refl _) o1).alloc (by simp) o2).alloc (by simp; omega) o3).alloc (by simp; omega) o4).alloc (by simp; omega) o5)
  have H0 := Lib.hid h0
  have H1 := Lib.hid h1
  clear h0 h1
  refine (callsIn_wide (n := 8)).1 ?_
  refine callsIn_of_wp_marks Try.func23 rfl trivial ?_ rfl
  simp only [Try.ntmps23, List.size_toArray, List.length_cons, List.length_nil, Nat.reduceAdd, Nat.reduceSub, Array.replicate_succ, Array.replicate_zero, List.push_toArray, List.append_toArray, List.nil_append, List.cons_append]
  gi_wp2_with fail
  refine ⟨trivial, ?_⟩
  refine (callsIn_wide.2 (check_any _ _ _ we hs [d] _ (ints_alloc (ints_alloc (ints_alloc (ints_alloc (ints_alloc H0.out _) _) _) _) _) (ints_alloc (ints_alloc (ints_alloc (ints_alloc (ints_alloc H1.out _) _) _) _) _) (ints_one _ _ _ (by simp)))).mono ?_
  rintro e w1 ⟨rfl, hb⟩
  have hz1 : w.heap.size + 1 + 1 + 1 + 1 + 1 ≤ w1.heap.size := by have := hb.size; simpa using this
  have p0 : Box w1 w.heap.size 25 #[v0, v1] := (((((Box.new w 25 #[v0, v1]).alloc _).alloc _).alloc _).alloc _).below hb (by simp; omega)
  have p1 : Box w1 (w.heap.size + 1) 3 #[.int .i64 n] := by
    have := Box.new (w.alloc (.cells #[v0, v1] 25)) 3 #[.int .i64 n]
    simp only [World.size_alloc] at this
    exact (((this.alloc _).alloc _).alloc _).below hb (by simp; try omega)
  have p2 : Box w1 (w.heap.size + 1 + 1) 26 #[.int .i64 0] := by
    have := Box.new ((w.alloc (.cells #[v0, v1] 25)).alloc (.cells #[.int .i64 n] 3)) 26 #[.int .i64 0]
    simp only [World.size_alloc] at this
    exact ((this.alloc _).alloc _).below hb (by simp; try omega)
  have p3 : Box w1 (w.heap.size + 1 + 1 + 1) 32 #[.int .i64 0] := by
    have := Box.new (((w.alloc (.cells #[v0, v1] 25)).alloc (.cells #[.int .i64 n] 3)).alloc (.cells #[.int .i64 0] 26)) 32 #[.int .i64 0]
    simp only [World.size_alloc] at this
    exact (this.alloc _).below hb (by simp; try omega)
  have c0 : w1.cell? ⟨w.heap.size, 0, none⟩ = some v0 := p0.cell 0
  have c1 : w1.cell? ⟨w.heap.size, 1, none⟩ = some v1 := p0.cell 1
  have c2 : w1.cell? ⟨w.heap.size + 1, 0, none⟩ = some (.int .i64 n) := p1.cell 0
  have c3 : w1.cell? ⟨w.heap.size + 1 + 1, 0, none⟩ = some (.int .i64 0) := p2.cell 0
  have c4 : w1.cell? ⟨w.heap.size + 1 + 1 + 1, 0, none⟩ = some (.int .i64 0) := p3.cell 0
  have f3 := p2.frozen 0
  have f4 := p3.frozen 0
  have HBW := Lib.hid ((HBA.out _ _ _ _ _).trans (hb.mono (by simp; omega)))
  have P1 := Lib.hid p1
  have P2 := Lib.hid p2
  have P3 := Lib.hid p3
  clear hb p0 p1 p2 p3
  by_cases hc : chkD we hs [d] = 0
  · have e1 : (chkD we hs [d] != 0) = false := by simp [hc]
    obtain ⟨hck, hv⟩ := chkD_one hc
    have HC := Lib.hid hc
    have HK := Lib.hid hck
    have HV := Lib.hid hv
    clear hc hck hv
    by_cases hn0 : n = 0
    · have e2 : (n == 0) = true := by simp [hn0]
      have HN := Lib.hid hn0
      clear hn0
      gi_wp2_with fail
      refine ⟨trivial, ?_⟩
      refine (callsIn_wide.2 (first_any _ _ we hs d 1 _ (ints_later H0.out HBW.out (Nat.le_refl _)) (ints_later H1.out HBW.out (Nat.le_refl _)) (Start.of_valid (.inl rfl) HV.out) HK.out)).mono ?_
      rintro e w2 ⟨rfl, hb2⟩
      have g3 : w2.cell? ⟨w.heap.size + 1 + 1, 0, none⟩ = some (.int .i64 0) := cell_of_below hb2 (by omega) c3
      have g4 : w2.cell? ⟨w.heap.size + 1 + 1 + 1, 0, none⟩ = some (.int .i64 0) := cell_of_below hb2 (by omega) c4
      have q2 := P2.out.below hb2 (by omega)
      have q3 := P3.out.below hb2 (by omega)
      have k3 := q2.frozen 0
      have k4 := q3.frozen 0
      have HB2 := Lib.hid (HBW.out.trans (hb2.mono (by omega)))
      clear hb2
      gi_wp2
      have r2 := (set2 q2 q3 (by omega) (.int .i64 (oV (firstO we hs 1 d))) (.int .i64 (oE (firstO we hs 1 d)))).1.cell 0
      have r3 := (set2 q2 q3 (by omega) (.int .i64 (oV (firstO we hs 1 d))) (.int .i64 (oE (firstO we hs 1 d)))).2.cell 0
      refine ⟨_, (by simp [results, Try.results23, go_sem, r2, r3]; rfl), ?_⟩
      exact ⟨ret_two (by rw [addV, if_pos HC.out, add_zero HN.out]) (by rw [addE, if_pos HC.out, add_zero HN.out]), below_set2 HB2.out (by omega) (by omega) _ _⟩
    · have e2 : (n == 0) = false := by simp [hn0]
      have HN := Lib.hid hn0
      clear hn0
      rcases (show 0 < n ∨ n < 0 by have := HN.out; omega) with hpos | hneg
      · have hA : addOpt we hs d n = (blR (isB we hs) 1 (d + 1))[n.natAbs - 1]? := by
          rw [addOpt, if_neg HN.out, show sg n = 1 by (unfold sg; rw [if_neg (by omega)]), show n.natAbs = (n.natAbs - 1) + 1 by omega, addO_eq _ _ (Start.of_step (.inl rfl) HV.out)]; rfl
        have HA := Lib.hid hA
        clear hA
        obtain ⟨d1, d2⟩ := vB_iff.1 HV.out
        have k0 : ∀ o, (w1.alloc o).cell? ⟨w.heap.size, 0, none⟩ = some v0 := fun o => by rw [World.cell?_alloc_lt _ _ _ (by simp; omega)]; exact c0
        have k1 : ∀ o, (w1.alloc o).cell? ⟨w.heap.size, 1, none⟩ = some v1 := fun o => by rw [World.cell?_alloc_lt _ _ _ (by simp; omega)]; exact c1
        have k2 : ∀ o, (w1.alloc o).cell? ⟨w.heap.size + 1, 0, none⟩ = some (.int .i64 n) := fun o => by rw [World.cell?_alloc_lt _ _ _ (by simp; omega)]; exact c2
        gi_wp2_with fail
        refine ⟨trivial, ?_⟩
        refine (callsIn_wide.2 (days_any _ _ _ _ _)).mono ?_
        rintro e w' ⟨rfl, rfl⟩
        gi_wp2
        have hBa : Below w.heap.size w (w1.alloc (.cells #[.int .i64 1] 26)) := HBW.out.alloc (by omega) _
        obtain ⟨hD0, hsz0, hbox0, hbel0⟩ := days_world (s := 1) (w1.alloc (.cells #[.int .i64 1] 26)) (d + 1) (H0.out.below hBa) (H1.out.below hBa) (by simp; omega)
        have q1 := hbox0 _ _ _ (P1.out.alloc (.cells #[.int .i64 1] 26))
        have q2 := hbox0 _ _ _ (P2.out.alloc (.cells #[.int .i64 1] 26))
        have q3 := hbox0 _ _ _ (P3.out.alloc (.cells #[.int .i64 1] 26))
        have q4 := hbox0 _ _ _ (Box.new w1 26 #[.int .i64 1])
        have hBW0 := hbel0 _ _ (by simp; omega) hBa
        clear hbox0 hbel0 k0 k1 k2 hBa
        generalize ((((w1.alloc (.cells #[.int .i64 1] 26)).alloc (.cells #[v0, v1] 25)).alloc (.cells #[.int .i64 (d + 1)] 26)).alloc (.cells #[.int .i64 1] 26)) = W0 at *
        simp only [World.size_alloc] at hD0 hsz0
        refine wpIn_range_st (xs := blR (isB we hs) 1 (d + 1)) rfl (by omega) (gf := 101) (lb := #[.pointer (some ⟨w1.heap.size + 1 + 1, 0, none⟩), .pointer (some ⟨w1.heap.size + 1 + 1 + 1, 0, none⟩), .pointer (some ⟨w1.heap.size + 1, 0, none⟩)]) rfl trivial (enters_of Try.func101 (by kernel_rfl) rfl)
          (Bd := w1.heap.size + 1 + 1) (by omega) (fun b hb => by unfold daysS at hb; omega) (days1_seq 7 (by omega) (d + 1) W0 (Start.of_step (.inl rfl) HV.out) HK.out hD0) (fun _ => rfl)
          (fun pre W => Below w.heap.size w W ∧ Box W (w.heap.size + 1) 3 #[.int .i64 (n - (pre.length : Int))] ∧ Box W (w.heap.size + 1 + 1) 26 #[.int .i64 0] ∧ Box W (w.heap.size + 1 + 1 + 1) 32 #[.int .i64 0] ∧ Box W w1.heap.size 26 #[.int .i64 1] ∧ pre.length < n.natAbs)
          (fun c pre W => c = .ret ∧ ∃ p x, pre = p ++ [x] ∧ p.length + 1 = n.natAbs ∧ Below w.heap.size w W ∧ Box W (w.heap.size + 1 + 1) 26 #[.int .i64 x] ∧ Box W (w.heap.size + 1 + 1 + 1) 32 #[.int .i64 0])
          (fun pre A B hs' hg' => ⟨below_chg hs'.1 hg' (by omega) (by omega), hs'.2.1.same (hg'.block _ (by omega) (by omega)), hs'.2.2.1.same (hg'.block _ (by omega) (by omega)), hs'.2.2.2.1.same (hg'.block _ (by omega) (by omega)), hs'.2.2.2.2.1.same (hg'.block _ (by omega) (by omega)), hs'.2.2.2.2.2⟩)
          (fun c pre A B hs' hg' => by
            obtain ⟨rfl, p, x, rfl, hp, h1, h2, h3⟩ := hs'
            exact ⟨rfl, p, x, rfl, hp, below_chg h1 hg' (by omega) (by omega), h2.same (hg'.block _ (by omega) (by omega)), h3.same (hg'.block _ (by omega) (by omega))⟩)
          ⟨hBW0, by simpa using q1, q2, q3, q4, by simp; omega⟩
          (fun x => { tmps := #[.agg #[v0, v1], .int .i64 d, .int .i64 n, .pointer (some ⟨w.heap.size, 0, none⟩), undef, .pointer (some ⟨w.heap.size + 1, 0, none⟩), .pointer (some ⟨w.heap.size + 1 + 1, 0, none⟩), .pointer (some ⟨w.heap.size + 1 + 1 + 1, 0, none⟩), .int .i64 (chkD we hs [d]), .pointer (some ⟨w1.heap.size, 0, none⟩), .int .i64 x, .agg #[v0, v1], .int .i64 d, .slice (some ⟨w.heap.size + 1 + 1 + 1 + 1, 0, none⟩) 1 1, .int .i64 (chkD we hs [d]), .int .i64 (chkD we hs [d]), .bool false, undef, .int .i64 n, .bool false, undef, undef, undef, undef, undef, .int .i64 n, .bool (decide (n < 0)), .agg #[v0, v1], .int .i64 d, .int .i64 1, .int .i64 (d + 1), .int .i64 1, .func (.func 101) #[] #[.pointer (some ⟨w1.heap.size + 1 + 1, 0, none⟩), .pointer (some ⟨w1.heap.size + 1 + 1 + 1, 0, none⟩), .pointer (some ⟨w1.heap.size + 1, 0, none⟩)], .int .i64 x, undef, undef, undef, undef, undef, undef], defers := [] }) ?assign ?body ?done ?stop
        case assign =>
          intro l x W K hK
          gi_wp2
          exact hK
        case body =>
          rintro l pre x W hWs ⟨hB, r1, r2, r3, r4, hlen⟩ hpre
          have k1 : W.cell? ⟨w.heap.size + 1, 0, none⟩ = some (.int .i64 (n - (pre.length : Int))) := r1.cell 0
          have k2 : W.cell? ⟨w.heap.size + 1 + 1, 0, none⟩ = some (.int .i64 0) := r2.cell 0
          have k3 : W.cell? ⟨w.heap.size + 1 + 1 + 1, 0, none⟩ = some (.int .i64 0) := r3.cell 0
          have k4 : W.cell? ⟨w1.heap.size, 0, none⟩ = some (.int .i64 1) := r4.cell 0
          have g1 := r1.frozen 0
          have g2 := r2.frozen 0
          have g3 := r3.frozen 0
          have HP := Lib.hid hpre
          clear hpre
          have r1' : Box (W.setCell ⟨w.heap.size + 1, 0, none⟩ (.int .i64 (n - (pre.length : Int) - 1))) (w.heap.size + 1) 3 #[.int .i64 (n - (pre.length : Int) - 1)] := r1.set 0 _
          have r2' := r2.far (p := ⟨w.heap.size + 1, 0, none⟩) (by simp) (.int .i64 (n - (pre.length : Int) - 1))
          have r3' := r3.far (p := ⟨w.heap.size + 1, 0, none⟩) (by simp; omega) (.int .i64 (n - (pre.length : Int) - 1))
          have r4' := r4.far (p := ⟨w.heap.size + 1, 0, none⟩) (by simp; omega) (.int .i64 (n - (pre.length : Int) - 1))
          have hB' := hB.setCell (p := ⟨w.heap.size + 1, 0, none⟩) (by simp) (.int .i64 (n - (pre.length : Int) - 1))
          have hK1 : Kept W0.heap.size (daysS w.heap.size (w1.heap.size + 1) (w1.heap.size + 1 + 1) (w1.heap.size + 1 + 1 + 1)) W (W.setCell ⟨w.heap.size + 1, 0, none⟩ (.int .i64 (n - (pre.length : Int) - 1))) := kept_set (by omega) (by unfold daysS; omega) _
          by_cases hz : pre.length + 1 = n.natAbs
          · have t1 : (n - (pre.length : Int) - 1 == 0) = true := by simp; omega
            have HZ := Lib.hid hz
            clear hz
            gi_wp2
            exact ⟨hK1.trans ((kept_set (by omega) (by unfold daysS; omega) _).trans (kept_set (by omega) (by unfold daysS; omega) _)), rfl, pre, x, rfl, HZ.out, below_set2 hB' (by omega) (by omega) _ _, (set2 r2' r3' (by omega) _ _).1, (set2 r2' r3' (by omega) _ _).2⟩
          · have t1 : (n - (pre.length : Int) - 1 == 0) = false := by simp; omega
            have HZ := Lib.hid hz
            clear hz
            gi_wp2
            refine ⟨hK1, hB', ?_, r2', r3', r4', ?_⟩
            · have e : (n - ((pre ++ [x]).length : Int)) = n - (pre.length : Int) - 1 := by simp; omega
              rw [e]; exact r1'
            · have := HZ.out; simp; omega
        case done =>
          rintro D W hD' ⟨hB, r1, r2, r3, r4, hlen⟩ hK
          have k2 : W.cell? ⟨w.heap.size + 1 + 1, 0, none⟩ = some (.int .i64 0) := r2.cell 0
          have k3 : W.cell? ⟨w.heap.size + 1 + 1 + 1, 0, none⟩ = some (.int .i64 0) := r3.cell 0
          have g2 := r2.frozen 0
          have g3 := r3.frozen 0
          gi_wp2
          have hf : addOpt we hs d n = none := by rw [HA.out]; exact List.getElem?_eq_none (by omega)
          obtain ⟨s2, s3⟩ := set2 r2 r3 (by omega) (.int .i64 0) (.int .i64 13)
          have hB2 := below_set2 hB (show w.heap.size ≤ w.heap.size + 1 + 1 by omega) (show w.heap.size ≤ w.heap.size + 1 + 1 + 1 by omega) (.int .i64 0) (.int .i64 13)
          have hK2 : ((W.setCell ⟨w.heap.size + 1 + 1, 0, none⟩ (.int .i64 0)).setCell ⟨w.heap.size + 1 + 1 + 1, 0, none⟩ (.int .i64 13)).heap[D]? = some (.deferred (some [])) :=
            (Below.heap_setCell _ _ _ D (by simp; omega)).trans ((Below.heap_setCell _ _ _ D (by simp; omega)).trans hK)
          clear k2 k3 g2 g3 r1 r2 r3 r4 hB hK
          generalize (W.setCell ⟨w.heap.size + 1 + 1, 0, none⟩ (.int .i64 0)).setCell ⟨w.heap.size + 1 + 1 + 1, 0, none⟩ (.int .i64 13) = W2 at *
          refine ⟨by simp, .inl ⟨_, _, rfl, run_takeDeferred hK2, ?_⟩⟩
          have u2 := (s2.same (w' := W2.putObj D (.deferred none)) (World.putObj_heap_other (by omega))).cell 0
          have u3 := (s3.same (w' := W2.putObj D (.deferred none)) (World.putObj_heap_other (by omega))).cell 0
          refine ⟨_, (by simp [results, Try.results23, go_sem, u2, u3]; rfl), ?_⟩
          exact ⟨ret_two (by rw [addV, if_pos HC.out, hf]; rfl) (by rw [addE, if_pos HC.out, hf]; rfl), hB2.trans (belowK_b (w := w) (Nat.le_refl _) W2 D _ _ (by omega) hK2 rfl rfl)⟩
        case stop =>
          rintro D c pre W hD' hpre ⟨rfl, p, x, rfl, hp, hB, r2, r3⟩ hK
          gi_wp2
          have hf : addOpt we hs d n = some x := by
            obtain ⟨t, ht⟩ := hpre
            rw [HA.out, ← ht, show n.natAbs - 1 = p.length by omega]
            simp
          refine ⟨by simp, .inl ⟨_, _, rfl, run_takeDeferred hK, ?_⟩⟩
          have u2 := (r2.same (w' := W.putObj D (.deferred none)) (World.putObj_heap_other (by omega))).cell 0
          have u3 := (r3.same (w' := W.putObj D (.deferred none)) (World.putObj_heap_other (by omega))).cell 0
          refine ⟨_, (by simp [results, Try.results23, go_sem, u2, u3]; rfl), ?_⟩
          exact ⟨ret_two (by rw [addV, if_pos HC.out, hf]; rfl) (by rw [addE, if_pos HC.out, hf]; rfl), hB.trans (belowK_b (w := w) (Nat.le_refl _) W D _ _ (by omega) hK rfl rfl)⟩
      · have hA : addOpt we hs d n = (blR (isB we hs) (-1) (d + -1))[n.natAbs - 1]? := by
          rw [addOpt, if_neg HN.out, show sg n = -1 by (unfold sg; rw [if_pos (by omega)]), show n.natAbs = (n.natAbs - 1) + 1 by omega, addO_eq _ _ (Start.of_step (.inr rfl) HV.out)]; rfl
        have HA := Lib.hid hA
        clear hA
        obtain ⟨d1, d2⟩ := vB_iff.1 HV.out
        have k0 : ∀ o, (w1.alloc o).cell? ⟨w.heap.size, 0, none⟩ = some v0 := fun o => by rw [World.cell?_alloc_lt _ _ _ (by simp; omega)]; exact c0
        have k1 : ∀ o, (w1.alloc o).cell? ⟨w.heap.size, 1, none⟩ = some v1 := fun o => by rw [World.cell?_alloc_lt _ _ _ (by simp; omega)]; exact c1
        have k2 : ∀ o, (w1.alloc o).cell? ⟨w.heap.size + 1, 0, none⟩ = some (.int .i64 n) := fun o => by rw [World.cell?_alloc_lt _ _ _ (by simp; omega)]; exact c2
        gi_wp2_with fail
        refine ⟨trivial, ?_⟩
        refine (callsIn_wide.2 (days_any _ _ _ _ _)).mono ?_
        rintro e w' ⟨rfl, rfl⟩
        gi_wp2
        have hBa : Below w.heap.size w (w1.alloc (.cells #[.int .i64 (-1)] 26)) := HBW.out.alloc (by omega) _
        obtain ⟨hD0, hsz0, hbox0, hbel0⟩ := days_world (s := -1) (w1.alloc (.cells #[.int .i64 (-1)] 26)) (d + -1) (H0.out.below hBa) (H1.out.below hBa) (by simp; omega)
        have q1 := hbox0 _ _ _ (P1.out.alloc (.cells #[.int .i64 (-1)] 26))
        have q2 := hbox0 _ _ _ (P2.out.alloc (.cells #[.int .i64 (-1)] 26))
        have q3 := hbox0 _ _ _ (P3.out.alloc (.cells #[.int .i64 (-1)] 26))
        have q4 := hbox0 _ _ _ (Box.new w1 26 #[.int .i64 (-1)])
        have hBW0 := hbel0 _ _ (by simp; omega) hBa
        clear hbox0 hbel0 k0 k1 k2 hBa
        generalize ((((w1.alloc (.cells #[.int .i64 (-1)] 26)).alloc (.cells #[v0, v1] 25)).alloc (.cells #[.int .i64 (d + -1)] 26)).alloc (.cells #[.int .i64 (-1)] 26)) = W0 at *
        simp only [World.size_alloc] at hD0 hsz0
        refine wpIn_range_st (xs := blR (isB we hs) (-1) (d + -1)) rfl (by omega) (gf := 101) (lb := #[.pointer (some ⟨w1.heap.size + 1 + 1, 0, none⟩), .pointer (some ⟨w1.heap.size + 1 + 1 + 1, 0, none⟩), .pointer (some ⟨w1.heap.size + 1, 0, none⟩)]) rfl trivial (enters_of Try.func101 (by kernel_rfl) rfl)
          (Bd := w1.heap.size + 1 + 1) (by omega) (fun b hb => by unfold daysS at hb; omega) (days1_seq 7 (by omega) (d + -1) W0 (Start.of_step (.inr rfl) HV.out) HK.out hD0) (fun _ => rfl)
          (fun pre W => Below w.heap.size w W ∧ Box W (w.heap.size + 1) 3 #[.int .i64 (n + (pre.length : Int))] ∧ Box W (w.heap.size + 1 + 1) 26 #[.int .i64 0] ∧ Box W (w.heap.size + 1 + 1 + 1) 32 #[.int .i64 0] ∧ Box W w1.heap.size 26 #[.int .i64 (-1)] ∧ pre.length < n.natAbs)
          (fun c pre W => c = .ret ∧ ∃ p x, pre = p ++ [x] ∧ p.length + 1 = n.natAbs ∧ Below w.heap.size w W ∧ Box W (w.heap.size + 1 + 1) 26 #[.int .i64 x] ∧ Box W (w.heap.size + 1 + 1 + 1) 32 #[.int .i64 0])
          (fun pre A B hs' hg' => ⟨below_chg hs'.1 hg' (by omega) (by omega), hs'.2.1.same (hg'.block _ (by omega) (by omega)), hs'.2.2.1.same (hg'.block _ (by omega) (by omega)), hs'.2.2.2.1.same (hg'.block _ (by omega) (by omega)), hs'.2.2.2.2.1.same (hg'.block _ (by omega) (by omega)), hs'.2.2.2.2.2⟩)
          (fun c pre A B hs' hg' => by
            obtain ⟨rfl, p, x, rfl, hp, h1, h2, h3⟩ := hs'
            exact ⟨rfl, p, x, rfl, hp, below_chg h1 hg' (by omega) (by omega), h2.same (hg'.block _ (by omega) (by omega)), h3.same (hg'.block _ (by omega) (by omega))⟩)
          ⟨hBW0, by simpa using q1, q2, q3, q4, by simp; omega⟩
          (fun x => { tmps := #[.agg #[v0, v1], .int .i64 d, .int .i64 n, .pointer (some ⟨w.heap.size, 0, none⟩), undef, .pointer (some ⟨w.heap.size + 1, 0, none⟩), .pointer (some ⟨w.heap.size + 1 + 1, 0, none⟩), .pointer (some ⟨w.heap.size + 1 + 1 + 1, 0, none⟩), .int .i64 (chkD we hs [d]), .pointer (some ⟨w1.heap.size, 0, none⟩), .int .i64 x, .agg #[v0, v1], .int .i64 d, .slice (some ⟨w.heap.size + 1 + 1 + 1 + 1, 0, none⟩) 1 1, .int .i64 (chkD we hs [d]), .int .i64 (chkD we hs [d]), .bool false, undef, .int .i64 n, .bool false, undef, undef, undef, undef, undef, .int .i64 n, .bool true, .agg #[v0, v1], .int .i64 d, .int .i64 (-1), .int .i64 (d + -1), .int .i64 (-1), .func (.func 101) #[] #[.pointer (some ⟨w1.heap.size + 1 + 1, 0, none⟩), .pointer (some ⟨w1.heap.size + 1 + 1 + 1, 0, none⟩), .pointer (some ⟨w1.heap.size + 1, 0, none⟩)], .int .i64 x, undef, undef, undef, undef, undef, undef], defers := [] }) ?assignN ?bodyN ?doneN ?stopN
        case assignN =>
          intro l x W K hK
          gi_wp2
          exact hK
        case bodyN =>
          rintro l pre x W hWs ⟨hB, r1, r2, r3, r4, hlen⟩ hpre
          have k1 : W.cell? ⟨w.heap.size + 1, 0, none⟩ = some (.int .i64 (n + (pre.length : Int))) := r1.cell 0
          have k2 : W.cell? ⟨w.heap.size + 1 + 1, 0, none⟩ = some (.int .i64 0) := r2.cell 0
          have k3 : W.cell? ⟨w.heap.size + 1 + 1 + 1, 0, none⟩ = some (.int .i64 0) := r3.cell 0
          have k4 : W.cell? ⟨w1.heap.size, 0, none⟩ = some (.int .i64 (-1)) := r4.cell 0
          have g1 := r1.frozen 0
          have g2 := r2.frozen 0
          have g3 := r3.frozen 0
          have HP := Lib.hid hpre
          clear hpre
          have r1' : Box (W.setCell ⟨w.heap.size + 1, 0, none⟩ (.int .i64 (n + (pre.length : Int) - -1))) (w.heap.size + 1) 3 #[.int .i64 (n + (pre.length : Int) - -1)] := r1.set 0 _
          have r2' := r2.far (p := ⟨w.heap.size + 1, 0, none⟩) (by simp) (.int .i64 (n + (pre.length : Int) - -1))
          have r3' := r3.far (p := ⟨w.heap.size + 1, 0, none⟩) (by simp; omega) (.int .i64 (n + (pre.length : Int) - -1))
          have r4' := r4.far (p := ⟨w.heap.size + 1, 0, none⟩) (by simp; omega) (.int .i64 (n + (pre.length : Int) - -1))
          have hB' := hB.setCell (p := ⟨w.heap.size + 1, 0, none⟩) (by simp) (.int .i64 (n + (pre.length : Int) - -1))
          have hK1 : Kept W0.heap.size (daysS w.heap.size (w1.heap.size + 1) (w1.heap.size + 1 + 1) (w1.heap.size + 1 + 1 + 1)) W (W.setCell ⟨w.heap.size + 1, 0, none⟩ (.int .i64 (n + (pre.length : Int) - -1))) := kept_set (by omega) (by unfold daysS; omega) _
          by_cases hz : pre.length + 1 = n.natAbs
          · have t1 : (n + (pre.length : Int) - -1 == 0) = true := by simp; omega
            have HZ := Lib.hid hz
            clear hz
            gi_wp2
            exact ⟨hK1.trans ((kept_set (by omega) (by unfold daysS; omega) _).trans (kept_set (by omega) (by unfold daysS; omega) _)), rfl, pre, x, rfl, HZ.out, below_set2 hB' (by omega) (by omega) _ _, (set2 r2' r3' (by omega) _ _).1, (set2 r2' r3' (by omega) _ _).2⟩
          · have t1 : (n + (pre.length : Int) - -1 == 0) = false := by simp; omega
            have HZ := Lib.hid hz
            clear hz
            gi_wp2
            refine ⟨hK1, hB', ?_, r2', r3', r4', ?_⟩
            · have e : (n + ((pre ++ [x]).length : Int)) = n + (pre.length : Int) - -1 := by simp; omega
              rw [e]; exact r1'
            · have := HZ.out; simp; omega
        case doneN =>
          rintro D W hD' ⟨hB, r1, r2, r3, r4, hlen⟩ hK
          have k2 : W.cell? ⟨w.heap.size + 1 + 1, 0, none⟩ = some (.int .i64 0) := r2.cell 0
          have k3 : W.cell? ⟨w.heap.size + 1 + 1 + 1, 0, none⟩ = some (.int .i64 0) := r3.cell 0
          have g2 := r2.frozen 0
          have g3 := r3.frozen 0
          gi_wp2
          have hf : addOpt we hs d n = none := by rw [HA.out]; exact List.getElem?_eq_none (by omega)
          obtain ⟨s2, s3⟩ := set2 r2 r3 (by omega) (.int .i64 0) (.int .i64 13)
          have hB2 := below_set2 hB (show w.heap.size ≤ w.heap.size + 1 + 1 by omega) (show w.heap.size ≤ w.heap.size + 1 + 1 + 1 by omega) (.int .i64 0) (.int .i64 13)
          have hK2 : ((W.setCell ⟨w.heap.size + 1 + 1, 0, none⟩ (.int .i64 0)).setCell ⟨w.heap.size + 1 + 1 + 1, 0, none⟩ (.int .i64 13)).heap[D]? = some (.deferred (some [])) :=
            (Below.heap_setCell _ _ _ D (by simp; omega)).trans ((Below.heap_setCell _ _ _ D (by simp; omega)).trans hK)
          clear k2 k3 g2 g3 r1 r2 r3 r4 hB hK
          generalize (W.setCell ⟨w.heap.size + 1 + 1, 0, none⟩ (.int .i64 0)).setCell ⟨w.heap.size + 1 + 1 + 1, 0, none⟩ (.int .i64 13) = W2 at *
          refine ⟨by simp, .inl ⟨_, _, rfl, run_takeDeferred hK2, ?_⟩⟩
          have u2 := (s2.same (w' := W2.putObj D (.deferred none)) (World.putObj_heap_other (by omega))).cell 0
          have u3 := (s3.same (w' := W2.putObj D (.deferred none)) (World.putObj_heap_other (by omega))).cell 0
          refine ⟨_, (by simp [results, Try.results23, go_sem, u2, u3]; rfl), ?_⟩
          exact ⟨ret_two (by rw [addV, if_pos HC.out, hf]; rfl) (by rw [addE, if_pos HC.out, hf]; rfl), hB2.trans (belowK_b (w := w) (Nat.le_refl _) W2 D _ _ (by omega) hK2 rfl rfl)⟩
        case stopN =>
          rintro D c pre W hD' hpre ⟨rfl, p, x, rfl, hp, hB, r2, r3⟩ hK
          gi_wp2
          have hf : addOpt we hs d n = some x := by
            obtain ⟨t, ht⟩ := hpre
            rw [HA.out, ← ht, show n.natAbs - 1 = p.length by omega]
            simp
          refine ⟨by simp, .inl ⟨_, _, rfl, run_takeDeferred hK, ?_⟩⟩
          have u2 := (r2.same (w' := W.putObj D (.deferred none)) (World.putObj_heap_other (by omega))).cell 0
          have u3 := (r3.same (w' := W.putObj D (.deferred none)) (World.putObj_heap_other (by omega))).cell 0
          refine ⟨_, (by simp [results, Try.results23, go_sem, u2, u3]; rfl), ?_⟩
          exact ⟨ret_two (by rw [addV, if_pos HC.out, hf]; rfl) (by rw [addE, if_pos HC.out, hf]; rfl), hB.trans (belowK_b (w := w) (Nat.le_refl _) W D _ _ (by omega) hK rfl rfl)⟩
  · have e1 : (chkD we hs [d] != 0) = true := by simp [hc]
    have HC := Lib.hid hc
    clear hc
    gi_wp2
    have r2 := (set2 P2.out P3.out (by omega) (.int .i64 0) (.int .i64 (chkD we hs [d]))).1.cell 0
    have r3 := (set2 P2.out P3.out (by omega) (.int .i64 0) (.int .i64 (chkD we hs [d]))).2.cell 0
    refine ⟨_, (by simp [results, Try.results23, go_sem, r2, r3]; rfl), ?_⟩
    exact ⟨ret_two (by rw [addV, if_neg HC.out]) (by rw [addE, if_neg HC.out]), below_set2 HBW.out (by omega) (by omega) _ _⟩
end Go.Proofs.Ytilbolgncpfmmaa
