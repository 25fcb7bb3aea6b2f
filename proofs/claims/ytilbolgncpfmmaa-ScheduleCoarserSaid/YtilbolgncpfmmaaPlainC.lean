import Derived.Test.YtilbolgncpfmmaaPlainE
/- Plain: schedules by a multiple of the months. -/
namespace Go.Proofs.Ytilbolgncpfmmaa
theorem amE_mid {d n x : Int} (hv : vB d = true) (h : amE d x = 0) (hn : (0 ≤ n ∧ n ≤ x) ∨ (x ≤ n ∧ n ≤ 0)) : amE d n = 0 := by
  obtain ⟨h0, -⟩ := am_zero hv
  rw [amE_iff hv] at h h0 ⊢
  unfold amK at *
  omega
theorem amV_le {d n n' : Int} (h : amE d n = 0) (h' : amE d n' = 0) (hle : n ≤ n') : amV d n ≤ amV d n' := by
  by_cases e : n = n'
  · subst e; exact Int.le_refl _
  · exact Int.le_of_lt (amV_lt h h' (by omega))
theorem inR_mul {a b m s k : Int} (hs : s = 1 ∨ s = 2) (va : vB a = true) (vb : vB b = true) (hm : 1 ≤ m) (hk : 1 ≤ k) (i : Nat) (x : Int) (h : (inR a b (k * m) s (k * m))[i]? = some x) :
    (i : Int) < (inR a b m s m).length ∧ x ∈ inR a b m s m := by
  obtain ⟨e1, e2⟩ := inR_get i x h
  obtain ⟨kk, -, -, -, -, hax, hxb⟩ := inR_mem (List.mem_of_getElem? h)
  have hX : (k * m + (i : Int) * (k * m)) = (k * (i + 1)) * m := by rw [Int.mul_add, Int.add_mul, Int.mul_one, ← Int.mul_assoc, Int.mul_comm (i : Int) k]; omega
  rw [hX] at e1 e2
  obtain ⟨j, hj⟩ : ∃ j : Nat, (j : Int) = k * (i + 1) - 1 := ⟨(k * (i + 1) - 1).toNat, by
    have : 1 * 1 ≤ k * ((i : Int) + 1) := Int.mul_le_mul hk (by omega) (by omega) (by omega)
    omega⟩
  have hij : (i : Int) ≤ j := by
    have : 1 * ((i : Int) + 1) ≤ k * (i + 1) := Int.mul_le_mul_of_nonneg_right hk (by omega)
    omega
  have hjX : m + (j : Int) * m = (k * (i + 1)) * m := by rw [hj, Int.sub_mul]; omega
  rw [← hjX] at e1 e2
  have hlt : j < (inR a b m s m).length := by
    rcases Nat.lt_or_ge j (inR a b m s m).length with h1 | h1
    · exact h1
    exfalso
    refine inR_stop (a := a) (b := b) (s := s) (n := m) hm ?_
    obtain ⟨N, hN⟩ : ∃ N, N = m + ((inR a b m s m).length : Int) * m := ⟨_, rfl⟩
    rw [← hN]
    have hle : N ≤ m + (j : Int) * m := by
      have : ((inR a b m s m).length : Int) * m ≤ (j : Int) * m := Int.mul_le_mul_of_nonneg_right (by omega) (by omega)
      omega
    have hpos : 0 < N := by
      have : 0 ≤ ((inR a b m s m).length : Int) * m := Int.mul_nonneg (by omega) (by omega)
      omega
    rcases hs with rfl | rfl
    · simp only [sSg_one, show sSt a b 1 = b from rfl] at e1 e2 ⊢
      have f1 : amE b (-1 * N) = 0 := amE_mid vb e1 (.inr ⟨by omega, by omega⟩)
      have f2 := amV_ls f1 (by omega)
      have f3 := amV_le e1 f1 (by omega)
      have f4 := amE_zero f1
      exact ⟨by omega, f1, by omega, f2⟩
    · simp only [sSg_two, show sSt a b 2 = a from rfl] at e1 e2 ⊢
      have f1 : amE a (1 * N) = 0 := amE_mid va e1 (.inl ⟨by omega, by omega⟩)
      have f2 := amV_gt f1 (by omega)
      have f3 := amV_le f1 e1 (by omega)
      have f4 := amE_zero f1
      exact ⟨by omega, f1, f2, by omega⟩
  refine ⟨by omega, ?_⟩
  have h5 := List.getElem?_eq_getElem hlt
  obtain ⟨-, h6⟩ := inR_get j _ h5
  rw [e2, ← h6]
  exact List.getElem_mem hlt
theorem inR_mul_len {a b m s k : Int} (hs : s = 1 ∨ s = 2) (va : vB a = true) (vb : vB b = true) (hm : 1 ≤ m) (hk : 1 ≤ k) : (inR a b (k * m) s (k * m)).length ≤ (inR a b m s m).length := by
  obtain ⟨C, hC⟩ : ∃ C, C = (inR a b (k * m) s (k * m)).length := ⟨_, rfl⟩
  rw [← hC]
  cases C with
  | zero => omega
  | succ i =>
    have h := (inR_mul hs va vb hm hk i _ (List.getElem?_eq_getElem (by omega))).1
    omega
theorem prs_snd (zs : List Int) : (prs zs).map Prod.snd = zs.tail := by
  match zs with
  | [] => rfl
  | [x] => rfl
  | x :: y :: t => rw [prs, List.map_cons, prs_snd (y :: t)]; rfl
theorem prs_fst (zs : List Int) : (prs zs).map Prod.fst = zs.dropLast := by
  match zs with
  | [] => rfl
  | [x] => rfl
  | x :: y :: t => rw [prs, List.map_cons, prs_fst (y :: t)]; rfl
theorem eL_tail {a b m s x : Int} (hs : s = 1 ∨ s = 2) : (x ∈ (eL a b m s).tail ↔ x ∈ inR a b m s m ∨ x = b) ∧ (x ∈ (eL a b m s).dropLast ↔ x = a ∨ x ∈ inR a b m s m) := by
  rcases hs with rfl | rfl
  · rw [eL, if_neg (by decide), ← List.cons_append, List.dropLast_concat]; simp
  · rw [eL, if_pos rfl, ← List.cons_append, List.dropLast_concat]; simp
theorem coarse_mem {a b m s k : Int} (h : Blt a b m s) (hk : 1 ≤ k) (j : Nat) (hj : j < (prs (eL a b (k * m) s)).length) :
    (prs (eL a b m s)).any (fun q => q.2 == (getP (prs (eL a b (k * m) s)) j).2) = true ∧ (prs (eL a b m s)).any (fun q => q.1 == (getP (prs (eL a b (k * m) s)) j).1) = true := by
  have sub : ∀ x, x ∈ inR a b (k * m) s (k * m) → x ∈ inR a b m s m := fun x hx => by
    obtain ⟨i, hi⟩ := List.mem_iff_getElem?.1 hx
    exact (inR_mul h.st h.va h.vb h.m1 hk i x hi).2
  have hp : getP (prs (eL a b (k * m) s)) j ∈ prs (eL a b (k * m) s) := by
    unfold getP; rw [List.getElem?_eq_getElem hj]; exact List.getElem_mem hj
  obtain ⟨p, e⟩ : ∃ p, p = getP (prs (eL a b (k * m) s)) j := ⟨_, rfl⟩
  rw [← e] at hp ⊢
  have h2 : p.2 ∈ (prs (eL a b m s)).map Prod.snd := by
    have : p.2 ∈ (prs (eL a b (k * m) s)).map Prod.snd := List.mem_map_of_mem hp
    rw [prs_snd, (eL_tail h.st).1] at this ⊢
    exact this.imp (sub _) id
  have h1 : p.1 ∈ (prs (eL a b m s)).map Prod.fst := by
    have : p.1 ∈ (prs (eL a b (k * m) s)).map Prod.fst := List.mem_map_of_mem hp
    rw [prs_fst, (eL_tail h.st).2] at this ⊢
    exact this.imp id (sub _)
  obtain ⟨q2, hq2, e2⟩ := List.mem_map.1 h2
  obtain ⟨q1, hq1, e1⟩ := List.mem_map.1 h1
  exact ⟨List.any_eq_true.2 ⟨q2, hq2, by simpa using e2⟩, List.any_eq_true.2 ⟨q1, hq1, by simpa using e1⟩⟩
end Go.Proofs.Ytilbolgncpfmmaa
