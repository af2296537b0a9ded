import Derived.Test.YtjjapblpmpidcaaB
set_option linter.unusedVariables false
set_option linter.unusedSimpArgs false
namespace Go.Proofs.Ytjjapblpmpidcaa.Num

/-! ### Maps that multiply and add -/
abbrev M := V × V
def thenM (m n : M) : M := (n.1 * m.1, n.1 * m.2 + n.2)
def atM (m : M) (x : V) : V := m.1 * x + m.2
def oneM : M := (1#128, 0#128)
def powM (m : M) : Nat → M
  | 0 => oneM
  | k + 1 => thenM (powM m k) m

theorem thenM_assoc (a b c : M) : thenM (thenM a b) c = thenM a (thenM b c) := by
  unfold thenM
  ext1 <;> simp only <;> grind
theorem thenM_one (a : M) : thenM a oneM = a := by
  unfold thenM oneM
  ext1 <;> simp
theorem one_thenM (a : M) : thenM oneM a = a := by
  unfold thenM oneM
  ext1 <;> simp
theorem atM_then (a b : M) (x : V) : atM (thenM a b) x = atM b (atM a x) := by
  unfold atM thenM
  simp only
  grind
theorem powM_add (m : M) (j : Nat) : ∀ k, powM m (j + k) = thenM (powM m j) (powM m k)
  | 0 => by rw [Nat.add_zero, powM, thenM_one]
  | k + 1 => by rw [← Nat.add_assoc, powM, powM_add m j k, thenM_assoc]; rfl
theorem powM_one (m : M) : powM m 1 = m := by rw [powM, powM, one_thenM]
theorem powM_mul (m : M) (j : Nat) : ∀ k, powM (powM m j) k = powM m (j * k)
  | 0 => by rw [Nat.mul_zero]; rfl
  | k + 1 => by rw [powM, powM_mul m j k, Nat.mul_succ, powM_add]
theorem powM_twice (m : M) (k : Nat) : powM (thenM m m) k = powM m (2 * k) := by
  have h : thenM m m = powM m 2 := by rw [powM, powM_one]
  rw [h, powM_mul]
/-- One round of the squaring: out goes over m's power, the number is halved. -/
theorem pow_round1 (o m : M) (n : Nat) (h : n % 2 = 1) : thenM (thenM o m) (powM (thenM m m) (n / 2)) = thenM o (powM m n) := by
  rw [powM_twice, thenM_assoc]
  congr 1
  have e : n = 1 + 2 * (n / 2) := by omega
  rw [e, powM_add, powM_one]
  congr 2
  omega
theorem pow_round0 (o m : M) (n : Nat) (h : n % 2 = 0) : thenM o (powM (thenM m m) (n / 2)) = thenM o (powM m n) := by
  rw [powM_twice]
  congr 2
  omega

/-! ### What makes an odd number 1 -/
def newton (n x : V) : V := x * (2#128 - n * x)
def newtons (n : V) : Nat → V
  | 0 => n
  | k + 1 => newton n (newtons n k)
def oddI (n : V) : V := newtons n 7
theorem newton_err (n x : V) : 1#128 - n * newton n x = (1#128 - n * x) * (1#128 - n * x) := by
  unfold newton
  grind
theorem dvd_mul_mod (a b : V) (p q : Nat) (hp : 2 ^ p ∣ a.toNat) (hq : 2 ^ q ∣ b.toNat) (h : p + q ≤ 128) : 2 ^ (p + q) ∣ (a * b).toNat := by
  rw [BitVec.toNat_mul, Nat.dvd_mod_iff (Nat.pow_dvd_pow 2 h), Nat.pow_add]
  exact Nat.mul_dvd_mul hp hq
theorem newtons_err (n : V) (hn : n.toNat % 2 = 1) : ∀ k, k ≤ 7 → 2 ^ 2 ^ k ∣ (1#128 - n * newtons n k).toNat
  | 0, _ => by
    show 2 ∣ (1#128 - n * n).toNat
    have h1 : (n * n).toNat % 2 = 1 := by
      rw [BitVec.toNat_mul, Nat.mod_mod_of_dvd _ (by decide), Nat.mul_mod, hn]
    rw [BitVec.toNat_sub]
    have := (n * n).isLt
    generalize (n * n).toNat = q at *
    apply Nat.dvd_of_mod_eq_zero
    simp
    omega
  | k + 1, hk => by
    have ih := newtons_err n hn k (by omega)
    have e : 2 ^ (k + 1) = 2 ^ k + 2 ^ k := by rw [Nat.pow_succ]; omega
    have hle : 2 ^ k + 2 ^ k ≤ 128 := by
      have : 2 ^ k ≤ 2 ^ 6 := Nat.pow_le_pow_right (by decide) (by omega)
      omega
    show 2 ^ 2 ^ (k + 1) ∣ (1#128 - n * newton n (newtons n k)).toNat
    rw [newton_err, e]
    exact dvd_mul_mod _ _ _ _ ih ih hle
theorem oddI_spec (n : V) (hn : n.toNat % 2 = 1) : n * oddI n = 1#128 := by
  have h := newtons_err n hn 7 (by decide)
  have h0 : (1#128 - n * newtons n 7).toNat = 0 := Nat.eq_zero_of_dvd_of_lt h (1#128 - n * newtons n 7).isLt
  have h1 : 1#128 - n * newtons n 7 = 0#128 := BitVec.eq_of_toNat_eq h0
  unfold oddI
  grind
/-- There is but one. -/
theorem inv_unique (n x y : V) (hx : n * x = 1#128) (hy : n * y = 1#128) : x = y := by
  have : x = x * (n * y) := by rw [hy, BitVec.mul_one]
  rw [this]
  have : x * (n * y) = (n * x) * y := by grind
  rw [this, hx, BitVec.one_mul]
theorem even_no_inv (n x : V) (hn : n.toNat % 2 = 0) : n * x ≠ 1#128 := by
  intro h
  have h1 : (n * x).toNat % 2 = 0 := by
    rw [BitVec.toNat_mul, Nat.mod_mod_of_dvd _ (by decide), Nat.mul_mod, hn]
    simp
  rw [h] at h1
  exact absurd h1 (by decide)

def invM (m : M) : M := (oddI m.1, oddI m.1 * (0#128 - m.2))
theorem invM_then (m : M) (h : m.1.toNat % 2 = 1) : thenM m (invM m) = oneM := by
  have e := oddI_spec m.1 h
  unfold thenM invM oneM
  ext1 <;> simp only <;> grind
theorem invM_at (m : M) (h : m.1.toNat % 2 = 1) (x : V) : atM (invM m) (atM m x) = x := by
  rw [← atM_then, invM_then m h]
  unfold atM oneM
  simp
theorem at_invM (m : M) (h : m.1.toNat % 2 = 1) (x : V) : atM m (atM (invM m) x) = x := by
  have e := oddI_spec m.1 h
  unfold atM invM
  simp only
  grind
theorem bit0 (v : V) : bit v 0 = ((v.toNat % 2 : Nat) : Int) := by
  unfold bit lo
  rw [if_neg (by decide), toNat_shr]
  simp
theorem toNat_shr1 (v : V) : (shr v 1).toNat = v.toNat / 2 := by rw [toNat_shr]; rfl
end Go.Proofs.Ytjjapblpmpidcaa.Num
