import Derived.Test.YtjjapblpmpidcaaX6
set_option linter.unusedVariables false
set_option linter.unusedSimpArgs false
namespace Go.Proofs.Ytjjapblpmpidcaa
open Go.RowKit Num UReg

/-! ### The product, digit by digit -/
def valD (z : Nat → Int) : Int := z 0 + 4294967296 * z 1 + 18446744073709551616 * z 2 + 79228162514264337593543950336 * z 3
theorem valD_upd (z : Nat → Int) (p : Nat) (hp : p < 4) (v : Int) : valD (upd z p v) = valD z + (v - z p) * 4294967296 ^ p := by
  have : p = 0 ∨ p = 1 ∨ p = 2 ∨ p = 3 := by omega
  rcases this with rfl | rfl | rfl | rfl <;> simp [valD, upd] <;> omega
theorem toNat_whole (z : Nat → Int) (h : Dig z) : ((wholeV z).toNat : Int) = valD z := by
  rw [toNat_eq, hi_whole z h, lo_whole z h]
  unfold valD
  omega
def Zi (a b : V) (i : Nat) : Int := ((a.toNat % 4294967296 ^ i * b.toNat % 4294967296 ^ 4 : Nat) : Int)
def MulOut (a b : V) (i : Nat) (z : Nat → Int) : Prop := Dig z ∧ valD z = Zi a b i
def MulIn (a b : V) (i k : Nat) (z : Nat → Int) (c : Int) : Prop :=
  Dig z ∧ 0 ≤ c ∧ c < 4294967296 ∧ valD z + c * 4294967296 ^ (i + k) = Zi a b i + dg a i * ((b.toNat % 4294967296 ^ k : Nat) : Int) * 4294967296 ^ i
theorem mul_start (a b : V) : MulOut a b 0 (fun _ => 0) := by
  refine ⟨fun _ => ⟨Int.le_refl 0, (by decide : (0 : Int) < 4294967296)⟩, ?_⟩
  simp [valD, Zi, Nat.mod_one]
theorem mul_in0 {a b : V} {i : Nat} {z : Nat → Int} (h : MulOut a b i z) : MulIn a b i 0 z 0 := by
  refine ⟨h.1, by omega, by omega, ?_⟩
  rw [h.2]
  simp [Nat.mod_one]
theorem mul_n {x y z c : Int} (hx : 0 ≤ x ∧ x < 4294967296) (hy : 0 ≤ y ∧ y < 4294967296) (hz : 0 ≤ z ∧ z < 4294967296) (hc : 0 ≤ c ∧ c < 4294967296) :
    0 ≤ x * y ∧ x * y ≤ 18446744065119617025 := by
  constructor
  · exact Int.mul_nonneg hx.1 hy.1
  · have h1 : x * y ≤ 4294967295 * y := Int.mul_le_mul_of_nonneg_right (by omega) hy.1
    omega
theorem mul_step {a b : V} {i k : Nat} {z : Nat → Int} {c : Int} (h : MulIn a b i k z c) (hk : i + k < 4) :
    MulIn a b i (k + 1) (upd z (i + k) ((z (i + k) + dg a i * dg b k + c) % 4294967296)) ((z (i + k) + dg a i * dg b k + c) / 4294967296) := by
  obtain ⟨hd, c0, c1, e⟩ := h
  have hm := mul_n (dg_bounds a i) (dg_bounds b k) (hd (i + k)) ⟨c0, c1⟩
  have hz := hd (i + k)
  obtain ⟨n, hn⟩ : ∃ n, z (i + k) + dg a i * dg b k + c = n := ⟨_, rfl⟩
  rw [hn]
  have n0 : 0 ≤ n := by omega
  have n1 : n < 18446744073709551616 := by omega
  refine ⟨upd_dig hd _ _ (by omega), by omega, by omega, ?_⟩
  rw [valD_upd z _ hk]
  have hb : ((b.toNat % 4294967296 ^ (k + 1) : Nat) : Int) = ((b.toNat % 4294967296 ^ k : Nat) : Int) + 4294967296 ^ k * dg b k := by
    rw [Nat.pow_succ, Nat.mod_mul]
    unfold dg
    rw [Int.natCast_add, Int.natCast_mul, Int.natCast_pow]
    rfl
  have hq : n = n % 4294967296 + 4294967296 * (n / 4294967296) := by omega
  rw [hb, ← Nat.add_assoc, Int.pow_succ]
  rw [Int.pow_add] at e ⊢
  generalize (4294967296 : Int) ^ i = I at *
  generalize (4294967296 : Int) ^ k = K at *
  generalize n % 4294967296 = v at *
  generalize n / 4294967296 = q at *
  generalize ((b.toNat % 4294967296 ^ k : Nat) : Int) = bk at *
  generalize valD z = vz at *
  generalize Zi a b i = zi at *
  generalize dg a i = x at *
  generalize dg b k = y at *
  generalize z (i + k) = zp at *
  subst hn
  have e1 : v + 4294967296 * q = zp + x * y + c := hq.symm
  clear hq n0 n1 hm hz hd hb
  grind
theorem mul_out {a b : V} {i k : Nat} {z : Nat → Int} {c : Int} (h : MulIn a b i k z c) (hk : i + k = 4) : MulOut a b (i + 1) z := by
  obtain ⟨hd, c0, c1, e⟩ := h
  refine ⟨hd, ?_⟩
  have hv := toNat_whole z hd
  have hlt := v_lt (wholeV z)
  have ha : a.toNat % 4294967296 ^ (i + 1) = a.toNat % 4294967296 ^ i + 4294967296 ^ i * (a.toNat / 4294967296 ^ i % 4294967296) := by rw [Nat.pow_succ, Nat.mod_mul]
  have hb := Nat.div_add_mod b.toNat (4294967296 ^ k)
  have hp : (4294967296 : Nat) ^ i * 4294967296 ^ k = 4294967296 ^ 4 := by rw [← Nat.pow_add, hk]
  unfold Zi at e ⊢
  rw [ha]
  obtain ⟨x, hx⟩ : ∃ x, a.toNat / 4294967296 ^ i % 4294967296 = x := ⟨_, rfl⟩
  have hdx : dg a i = (x : Int) := by unfold dg; rw [hx]
  rw [hdx, hk] at e
  rw [hx]
  obtain ⟨C, rfl⟩ := Int.eq_ofNat_of_zero_le c0
  rw [← hv] at e ⊢
  have e' : (wholeV z).toNat + C * 4294967296 ^ 4 = a.toNat % 4294967296 ^ i * b.toNat % 4294967296 ^ 4 + x * (b.toNat % 4294967296 ^ k) * 4294967296 ^ i := by
    have : (((wholeV z).toNat + C * 4294967296 ^ 4 : Nat) : Int) = ((a.toNat % 4294967296 ^ i * b.toNat % 4294967296 ^ 4 + x * (b.toNat % 4294967296 ^ k) * 4294967296 ^ i : Nat) : Int) := by
      simp only [Int.natCast_add, Int.natCast_mul, Int.natCast_pow]
      exact e
    exact Int.ofNat_inj.1 this
  congr 1
  have e2 : (wholeV z).toNat % 4294967296 ^ 4 = (wholeV z).toNat := Nat.mod_eq_of_lt hlt
  rw [← e2, ← Nat.add_mul_mod_self_right _ C, e', Nat.mod_add_mod]
  have e3 : (a.toNat % 4294967296 ^ i + 4294967296 ^ i * x) * b.toNat = a.toNat % 4294967296 ^ i * b.toNat + x * (b.toNat % 4294967296 ^ k) * 4294967296 ^ i + 4294967296 ^ 4 * (x * (b.toNat / 4294967296 ^ k)) := by
    rw [← hp]
    clear e e' e2 hv hlt ha hp hx
    generalize b.toNat / 4294967296 ^ k = q at *
    generalize b.toNat % 4294967296 ^ k = r at *
    generalize (4294967296 : Nat) ^ i = I at *
    generalize (4294967296 : Nat) ^ k = K at *
    generalize a.toNat % I = A at *
    generalize b.toNat = B at *
    subst hb
    grind
  rw [e3, Nat.add_mul_mod_self_left]
theorem mul_end {a b : V} {z : Nat → Int} (h : MulOut a b 4 z) : wholeV z = a * b := by
  apply BitVec.eq_of_toNat_eq
  have hv := toNat_whole z h.1
  rw [h.2] at hv
  unfold Zi at hv
  rw [BitVec.toNat_mul]
  have := Int.ofNat_inj.1 hv
  rw [this, show (4294967296 : Nat) ^ 4 = 340282366920938463463374607431768211456 from rfl, Nat.mod_eq_of_lt (v_lt a)]
end Go.Proofs.Ytjjapblpmpidcaa
