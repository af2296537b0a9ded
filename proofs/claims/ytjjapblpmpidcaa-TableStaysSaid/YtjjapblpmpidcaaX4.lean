import Derived.Test.YtjjapblpmpidcaaX3
set_option linter.unusedVariables false
set_option linter.unusedSimpArgs false
namespace Go.Proofs.Ytjjapblpmpidcaa
open Go.RowKit Num UReg

/-! ### Digits of 32 bits -/
def dg (a : V) (k : Nat) : Int := ((a.toNat / 4294967296 ^ k % 4294967296 : Nat) : Int)
theorem dg_bounds (a : V) (k : Nat) : 0 ≤ dg a k ∧ dg a k < 4294967296 := by
  unfold dg
  omega
theorem dg0 (a : V) : lo a % 4294967296 = dg a 0 := by unfold dg lo; omega
theorem dg1 (a : V) : lo a / 4294967296 = dg a 1 := by unfold dg lo; omega
theorem dg2 (a : V) : hi a % 4294967296 = dg a 2 := by
  have := v_lt a
  unfold dg hi
  rw [show (4294967296 : Nat) ^ 2 = 18446744073709551616 from rfl]
  omega
theorem dg3 (a : V) : hi a / 4294967296 = dg a 3 := by
  have := v_lt a
  unfold dg hi
  rw [show (4294967296 : Nat) ^ 3 = 79228162514264337593543950336 from rfl]
  omega
/-- The value of four digits. -/
abbrev d4 (x : Nat → Int) : Value := .agg #[.int .u64 (x 0), .int .u64 (x 1), .int .u64 (x 2), .int .u64 (x 3)]

set_option maxHeartbeats 1000000 in
theorem rDigits (a : V) (w : World) : Calls Try.prog 88 #[.agg #[.int .u64 (hi a), .int .u64 (lo a)]] w fun e w' => e = .returned (d4 (dg a)) ∧ Ext w w' := by
  obtain ⟨a0, a1⟩ := word_hi a
  obtain ⟨b0, b1⟩ := word_lo a
  obtain ⟨H, hH⟩ : ∃ x, hi a = x := ⟨_, rfl⟩
  obtain ⟨L, hL⟩ : ∃ x, lo a = x := ⟨_, rfl⟩
  have e0 : L.tmod 4294967296 = dg a 0 := by rw [← hL, Int.tmod_eq_emod_of_nonneg b0]; exact dg0 a
  have e1 : L.tdiv 4294967296 = dg a 1 := by rw [← hL, Int.tdiv_eq_ediv_of_nonneg b0]; exact dg1 a
  have e2 : H.tmod 4294967296 = dg a 2 := by rw [← hH, Int.tmod_eq_emod_of_nonneg a0]; exact dg2 a
  have e3 : H.tdiv 4294967296 = dg a 3 := by rw [← hH, Int.tdiv_eq_ediv_of_nonneg a0]; exact dg3 a
  have k1 : IntKind.u64.wrap (dg a 1) = dg a 1 := IntWalk.u64_in _ (by have := dg_bounds a 1; omega)
  have k3 : IntKind.u64.wrap (dg a 3) = dg a 3 := IntWalk.u64_in _ (by have := dg_bounds a 3; omega)
  have f0 : L % 4294967296 = dg a 0 := by rw [← hL]; exact dg0 a
  have f1 : L / 4294967296 = dg a 1 := by rw [← hL]; exact dg1 a
  have f2 : H % 4294967296 = dg a 2 := by rw [← hH]; exact dg2 a
  have f3 : H / 4294967296 = dg a 3 := by rw [← hH]; exact dg3 a
  rw [hH, hL]
  clear hH hL a0 a1 b0 b1
  go_enter Try.func88, Try.ntmps88
  go_wp2_with fail
  refine bodyPost_ret (v := ?_) ?_ rfl ⟨?_, ?_⟩
  rotate_left
  · simp only [results, Try.results88]
    go_simp
    with_reducible rfl
  · rfl
  · repeat (first | with_reducible exact Ext.refl _ | with_reducible refine Ext.alloc ?_ _ | (with_reducible refine Ext.setCell ?_ (by simp <;> omega) _) | with_reducible refine Ext.drew ?_)

/-- The number of four digits. -/
def wholeV (x : Nat → Int) : V := mk (x 2 + 4294967296 * x 3) (x 0 + 4294967296 * x 1)
def Dig (x : Nat → Int) : Prop := ∀ k, 0 ≤ x k ∧ x k < 4294967296
theorem dig_dg (a : V) : Dig (dg a) := dg_bounds a
theorem hi_whole (x : Nat → Int) (h : Dig x) : hi (wholeV x) = x 2 + 4294967296 * x 3 := by
  have h0 := h 0; have h1 := h 1; have h2 := h 2; have h3 := h 3
  exact hi_mk _ _ (by unfold Word; omega) (by unfold Word; omega)
theorem lo_whole (x : Nat → Int) (h : Dig x) : lo (wholeV x) = x 0 + 4294967296 * x 1 := by
  have h0 := h 0; have h1 := h 1; have h2 := h 2; have h3 := h 3
  exact lo_mk _ _ (by unfold Word; omega) (by unfold Word; omega)
set_option maxHeartbeats 1000000 in
theorem rWhole (x : Nat → Int) (h : Dig x) (w : World) : Calls Try.prog 89 #[d4 x] w fun e w' => e = .returned (.agg #[.int .u64 (hi (wholeV x)), .int .u64 (lo (wholeV x))]) ∧ Ext w w' := by
  rw [hi_whole x h, lo_whole x h]
  have h0 := h 0; have h1 := h 1; have h2 := h 2; have h3 := h 3
  clear h
  obtain ⟨x0, q0⟩ : ∃ y, x 0 = y := ⟨_, rfl⟩
  obtain ⟨x1, q1⟩ : ∃ y, x 1 = y := ⟨_, rfl⟩
  obtain ⟨x2, q2⟩ : ∃ y, x 2 = y := ⟨_, rfl⟩
  obtain ⟨x3, q3⟩ : ∃ y, x 3 = y := ⟨_, rfl⟩
  unfold d4
  rw [q0] at h0 ⊢
  rw [q1] at h1 ⊢
  rw [q2] at h2 ⊢
  rw [q3] at h3 ⊢
  clear q0 q1 q2 q3
  have e1 : IntKind.u64.wrap (4294967296 * x1) = 4294967296 * x1 := IntWalk.u64_in _ (by omega)
  have e3 : IntKind.u64.wrap (4294967296 * x3) = 4294967296 * x3 := IntWalk.u64_in _ (by omega)
  have f1 : IntKind.u64.wrap (x0 + 4294967296 * x1) = x0 + 4294967296 * x1 := IntWalk.u64_in _ (by omega)
  have f3 : IntKind.u64.wrap (x2 + 4294967296 * x3) = x2 + 4294967296 * x3 := IntWalk.u64_in _ (by omega)
  clear h0 h1 h2 h3
  go_enter Try.func89, Try.ntmps89
  go_wp2_with fail
  refine bodyPost_ret (v := ?_) ?_ rfl ⟨?_, ?_⟩
  rotate_left
  · simp only [results, Try.results89]
    go_simp
    with_reducible rfl
  · rfl
  · repeat (first | with_reducible exact Ext.refl _ | with_reducible refine Ext.alloc ?_ _ | (with_reducible refine Ext.setCell ?_ (by simp <;> omega) _) | with_reducible refine Ext.drew ?_)
theorem whole_dg (a : V) : wholeV (dg a) = a := by
  apply v_ext
  · rw [hi_whole _ (dig_dg a), ← dg2, ← dg3]; omega
  · rw [lo_whole _ (dig_dg a), ← dg0, ← dg1]; omega

/-! Add -/
def cr (a b : V) (k : Nat) : Int := (((a.toNat % 4294967296 ^ k + b.toNat % 4294967296 ^ k) / 4294967296 ^ k : Nat) : Int)
theorem cr_bounds (a b : V) (k : Nat) : 0 ≤ cr a b k ∧ cr a b k ≤ 1 := by
  have hp : 0 < 4294967296 ^ k := Nat.pow_pos (by decide)
  have h1 := Nat.mod_lt a.toNat hp
  have h2 := Nat.mod_lt b.toNat hp
  unfold cr
  refine ⟨Int.natCast_nonneg _, ?_⟩
  have : (a.toNat % 4294967296 ^ k + b.toNat % 4294967296 ^ k) / 4294967296 ^ k < 2 := by
    rw [Nat.div_lt_iff_lt_mul hp]
    omega
  omega
theorem add_step (a b : V) (k : Nat) (hk : k < 4) : (dg a k + dg b k + cr a b k) % 4294967296 = dg (a + b) k ∧ (dg a k + dg b k + cr a b k) / 4294967296 = cr a b (k + 1) := by
  have h1 := v_lt a
  have h2 := v_lt b
  unfold dg cr
  rw [BitVec.toNat_add]
  have : k = 0 ∨ k = 1 ∨ k = 2 ∨ k = 3 := by omega
  rcases this with rfl | rfl | rfl | rfl
  · constructor <;> omega
  · rw [show (4294967296 : Nat) ^ 1 = 4294967296 from rfl, show (4294967296 : Nat) ^ (1 + 1) = 18446744073709551616 from rfl]
    constructor <;> omega
  · rw [show (4294967296 : Nat) ^ 2 = 18446744073709551616 from rfl, show (4294967296 : Nat) ^ (2 + 1) = 79228162514264337593543950336 from rfl]
    constructor <;> omega
  · rw [show (4294967296 : Nat) ^ 3 = 79228162514264337593543950336 from rfl, show (4294967296 : Nat) ^ (3 + 1) = 340282366920938463463374607431768211456 from rfl]
    constructor <;> omega
theorem cr_over (a b : V) : decide (cr a b 4 = 1) = over a b := by
  have h1 := v_lt a
  have h2 := v_lt b
  unfold cr over
  apply decide_eq_decide.2
  rw [show (4294967296 : Nat) ^ 4 = 340282366920938463463374607431768211456 from rfl]
  omega
theorem cr_0 (a b : V) : cr a b 0 = 0 := by
  unfold cr
  simp [Nat.mod_one]
end Go.Proofs.Ytjjapblpmpidcaa
