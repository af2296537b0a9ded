import Derived.Test.YtjjapblpmpidcabA
set_option linter.unusedVariables false
set_option linter.unusedSimpArgs false
namespace Go.Proofs.Ytjjapblpmpidcab.Num

/-- 2 to the j. -/
def tw : Nat → V
  | 0 => 1#128
  | j + 1 => 2#128 * tw j
theorem tw_toNat : ∀ j, j < 128 → (tw j).toNat = 2 ^ j
  | 0, _ => rfl
  | j + 1, h => by
    rw [tw, BitVec.toNat_mul, tw_toNat j (by omega), Nat.pow_succ]
    have h2 : 2 ^ (j + 1) < 2 ^ 128 := Nat.pow_lt_pow_right (by omega) h
    rw [Nat.pow_succ] at h2
    rw [show (2#128).toNat = 2 from rfl, Nat.mul_comm]
    exact Nat.mod_eq_of_lt h2
theorem tw_128 : tw 128 = 0#128 := by decide +kernel
/-- The map's factor is 1 + 4 * 2^j * a, its step 2^j * an odd number. -/
def At (j : Nat) (m : M) : Prop := ∃ a c : V, m.1 = 1#128 + 4#128 * tw j * a ∧ m.2 = tw j * (1#128 + 2#128 * c)
theorem At.twice {j : Nat} {m : M} (h : At j m) : At (j + 1) (thenM m m) := by
  obtain ⟨a, c, ha, hc⟩ := h
  refine ⟨a + 2#128 * tw j * a * a, tw j * a + c + 2#128 * tw j * a * c, ?_, ?_⟩
  · simp only [thenM, tw]
    rw [ha]
    generalize tw j = q
    grind
  · simp only [thenM, tw]
    rw [ha, hc]
    generalize tw j = q
    grind
theorem At.odd {j : Nat} {m : M} (h : At j m) : ∀ t, At j (powM m (2 * t + 1))
  | 0 => by rw [show 2 * 0 + 1 = 1 from rfl, powM_one]; exact h
  | t + 1 => by
    obtain ⟨a, c, ha, hc⟩ := At.odd h t
    obtain ⟨b, d, hb, hd⟩ := h
    rw [show 2 * (t + 1) + 1 = (2 * t + 1) + 1 + 1 from by omega, powM, powM]
    generalize powM m (2 * t + 1) = x at *
    refine ⟨a + 2#128 * b + 8#128 * tw j * a * b + 4#128 * tw j * b * b + 16#128 * tw j * tw j * a * b * b,
      c + (1#128 + 2#128 * c) * (4#128 * tw j * b + 8#128 * tw j * tw j * b * b) + (1#128 + 2#128 * d) * (1#128 + 2#128 * tw j * b), ?_, ?_⟩
    · simp only [thenM]
      rw [ha, hb]
      generalize tw j = q
      grind
    · simp only [thenM]
      rw [hc, hb, hd]
      generalize tw j = q
      grind
theorem At.moves {j : Nat} {m : M} (h : At j m) (hj : j < 128) (x : V) : atM m x ≠ x := by
  obtain ⟨a, c, ha, hc⟩ := h
  intro e
  simp only [atM] at e
  rw [ha, hc] at e
  have e1 : tw j * (1#128 + 2#128 * (c + 2#128 * a * x)) = 0#128 := by
    generalize tw j = q at *
    grind
  have hod : (1#128 + 2#128 * (c + 2#128 * a * x)).toNat % 2 = 1 := by
    generalize c + 2#128 * a * x = z
    rw [BitVec.toNat_add, BitVec.toNat_mul, show (1#128).toNat = 1 from rfl, show (2#128).toNat = 2 from rfl]
    omega
  have hs := oddI_spec _ hod
  generalize 1#128 + 2#128 * (c + 2#128 * a * x) = z at *
  have e2 : tw j = 0#128 := by
    have : tw j = tw j * z * oddI z := by
      generalize tw j = q at *
      grind
    rw [this, e1]
    exact BitVec.zero_mul
  have := tw_toNat j hj
  rw [e2] at this
  have hp : 0 < 2 ^ j := Nat.two_pow_pos j
  simp at this
  omega
theorem At.pow {m : M} (h : At 0 m) : ∀ j, At j (powM m (2 ^ j))
  | 0 => by rw [Nat.pow_zero, powM_one]; exact h
  | j + 1 => by
    have := (At.pow h j).twice
    rwa [Nat.pow_succ, Nat.mul_two, powM_add]
theorem split_two : ∀ d : Nat, 0 < d → ∃ j t, d = 2 ^ j * (2 * t + 1) := by
  intro d
  induction d using Nat.strongRecOn with
  | _ d ih =>
    intro hd
    by_cases h : d % 2 = 0
    · obtain ⟨j, t, e⟩ := ih (d / 2) (by omega) (by omega)
      refine ⟨j + 1, t, ?_⟩
      rw [Nat.pow_succ, Nat.mul_comm (2 ^ j) 2, Nat.mul_assoc, ← e]
      omega
    · exact ⟨0, d / 2, by omega⟩
/-- The full period: between 0 and 2^128 no number of steps leads back. -/
theorem full_period {m : M} (h : At 0 m) {d : Nat} (h0 : 0 < d) (h1 : d < 2 ^ 128) (x : V) : atM (powM m d) x ≠ x := by
  obtain ⟨j, t, e⟩ := split_two d h0
  have hj : j < 128 := by
    refine Nat.lt_of_not_le fun hge => ?_
    have h2 : 2 ^ 128 ≤ 2 ^ j := Nat.pow_le_pow_right (by omega) hge
    have h3 : 2 ^ j * 1 ≤ 2 ^ j * (2 * t + 1) := Nat.mul_le_mul_left _ (by omega)
    omega
  rw [e, ← powM_mul]
  exact ((h.pow j).odd t).moves hj x
theorem apart {m : M} (h : At 0 m) (s n k : V) (hnk : atM (powM m n.toNat) s = atM (powM m k.toNat) s) : n = k := by
  have key : ∀ p q : V, p.toNat < q.toNat → atM (powM m p.toNat) s = atM (powM m q.toNat) s → False := by
    intro p q hlt e
    have h1 : q.toNat = p.toNat + (q.toNat - p.toNat) := by omega
    have h2 := q.isLt
    rw [h1, powM_add, atM_then] at e
    exact full_period h (by omega) (by omega) _ e.symm
  apply BitVec.eq_of_toNat_eq
  rcases Nat.lt_trichotomy n.toNat k.toNat with h1 | h1 | h1
  · exact (key _ _ h1 hnk).elim
  · exact h1
  · exact (key _ _ h1 hnk.symm).elim
/-- 2^128 steps lead back. -/
theorem back_round {m : M} (h : At 0 m) : powM m (2 ^ 128) = oneM := by
  obtain ⟨a, c, ha, hc⟩ := h.pow 128
  rw [tw_128] at ha hc
  refine Prod.ext ?_ ?_
  · rw [ha]; simp [oneM]
  · rw [hc]; simp [oneM]
theorem powM_mod {m : M} (h : At 0 m) (n : Nat) : powM m n = powM m (n % 2 ^ 128) := by
  have one_pow : ∀ k, powM oneM k = oneM := fun k => by
    induction k with
    | zero => rfl
    | succ k ih => rw [powM, ih, one_thenM]
  have e : n = n % 2 ^ 128 + 2 ^ 128 * (n / 2 ^ 128) := (Nat.mod_add_div n (2 ^ 128)).symm
  have h1 : powM m (n % 2 ^ 128 + 2 ^ 128 * (n / 2 ^ 128)) = powM m (n % 2 ^ 128) := by
    rw [powM_add, ← powM_mul, back_round h, one_pow, thenM_one]
  rw [← e] at h1
  exact h1
theorem jumps_add {m : M} (h : At 0 m) (a b s : V) : atM (powM m b.toNat) (atM (powM m a.toNat) s) = atM (powM m (a + b).toNat) s := by
  rw [← atM_then, ← powM_add, BitVec.toNat_add]
  exact congrArg (atM · s) (powM_mod h _)
end Go.Proofs.Ytjjapblpmpidcab.Num
