namespace Go.Proofs.Ytjjapblpmpidcaa.Num

/-- A number of 128 bits. -/
abbrev V := BitVec 128
def hi (v : V) : Int := ((v.toNat / 18446744073709551616 : Nat) : Int)
def lo (v : V) : Int := ((v.toNat % 18446744073709551616 : Nat) : Int)
def mk (h l : Int) : V := BitVec.ofInt 128 (h * 18446744073709551616 + l)
def Word (x : Int) : Prop := 0 ≤ x ∧ x < 18446744073709551616

theorem v_lt (v : V) : v.toNat < 340282366920938463463374607431768211456 := v.isLt
theorem word_hi (v : V) : Word (hi v) := by
  have := v_lt v
  unfold Word hi
  omega
theorem word_lo (v : V) : Word (lo v) := by
  unfold Word lo
  omega
theorem toNat_mk (h l : Int) (hh : Word h) (hl : Word l) : ((mk h l).toNat : Int) = h * 18446744073709551616 + l := by
  unfold mk
  rw [BitVec.toNat_ofInt]
  unfold Word at *
  omega
theorem mk_hi_lo (v : V) : mk (hi v) (lo v) = v := by
  apply BitVec.eq_of_toNat_eq
  have h := toNat_mk _ _ (word_hi v) (word_lo v)
  unfold hi lo at h ⊢
  omega
theorem hi_mk (h l : Int) (hh : Word h) (hl : Word l) : hi (mk h l) = h := by
  have e := toNat_mk h l hh hl
  unfold hi
  unfold Word at *
  omega
theorem lo_mk (h l : Int) (hh : Word h) (hl : Word l) : lo (mk h l) = l := by
  have e := toNat_mk h l hh hl
  unfold lo
  unfold Word at *
  omega
theorem v_ext {a b : V} (h1 : hi a = hi b) (h2 : lo a = lo b) : a = b := by
  rw [← mk_hi_lo a, ← mk_hi_lo b, h1, h2]
theorem toNat_eq (v : V) : (v.toNat : Int) = hi v * 18446744073709551616 + lo v := by
  unfold hi lo
  omega

/-- A number of 64 bits. -/
def of (n : Int) : V := mk 0 n
theorem word_0 : Word 0 := by unfold Word; omega
theorem hi_of (n : Int) (h : Word n) : hi (of n) = 0 := hi_mk 0 n word_0 h
theorem lo_of (n : Int) (h : Word n) : lo (of n) = n := lo_mk 0 n word_0 h

/-! ### sums and differences -/
def over (a b : V) : Bool := decide (340282366920938463463374607431768211456 ≤ a.toNat + b.toNat)
def less (a b : V) : Bool := decide (a.toNat < b.toNat)
def bor (x y : Int) : Int := if x < y then 1 else 0

theorem lo_add (a b : V) : lo (a + b) = (lo a + lo b) % 18446744073709551616 := by
  unfold lo
  rw [BitVec.toNat_add]
  omega
theorem hi_add (a b : V) : hi (a + b) = (hi a + hi b + (lo a + lo b) / 18446744073709551616) % 18446744073709551616 := by
  have h1 := v_lt a
  have h2 := v_lt b
  unfold hi lo
  rw [BitVec.toNat_add]
  omega
theorem over_eq (a b : V) : over a b = decide (0 < (hi a + hi b + (lo a + lo b) / 18446744073709551616) / 18446744073709551616) := by
  have h1 := v_lt a
  have h2 := v_lt b
  unfold over hi lo
  apply decide_eq_decide.2
  omega
theorem bor_01 (x y : Int) : 0 ≤ bor x y ∧ bor x y ≤ 1 := by
  unfold bor
  split <;> omega
theorem lo_sub (a b : V) : lo (a - b) = (lo a - lo b) % 18446744073709551616 := by
  have h1 := v_lt a
  have h2 := v_lt b
  unfold lo
  rw [BitVec.toNat_sub]
  omega
theorem hi_sub (a b : V) : hi (a - b) = (hi a - hi b - bor (lo a) (lo b)) % 18446744073709551616 := by
  have h1 := v_lt a
  have h2 := v_lt b
  unfold hi lo bor
  rw [BitVec.toNat_sub]
  split <;> omega
theorem less_eq (a b : V) : less a b = decide (0 < bor (hi a) (hi b + bor (lo a) (lo b))) := by
  unfold less hi lo bor
  apply decide_eq_decide.2
  split <;> split <;> omega

/-! ### products -/
/-- The product of two words. -/
def full (x y : Int) : V := BitVec.ofInt 128 (x * y)
theorem mul_bounds (x y : Int) (hx : Word x) (hy : Word y) : 0 ≤ x * y ∧ x * y ≤ 340282366920938463426481119284349108225 := by
  obtain ⟨a, b⟩ := hx
  obtain ⟨c, d⟩ := hy
  constructor
  · exact Int.mul_nonneg a c
  · have h1 : x * y ≤ 18446744073709551615 * y := Int.mul_le_mul_of_nonneg_right (by omega) c
    omega
theorem toNat_full (x y : Int) (hx : Word x) (hy : Word y) : ((full x y).toNat : Int) = x * y := by
  have h := mul_bounds x y hx hy
  unfold full
  rw [BitVec.toNat_ofInt]
  omega
theorem hi_full (x y : Int) (hx : Word x) (hy : Word y) : hi (full x y) = x * y / 18446744073709551616 := by
  have h := toNat_full x y hx hy
  unfold hi
  omega
theorem lo_full (x y : Int) (hx : Word x) (hy : Word y) : lo (full x y) = x * y % 18446744073709551616 := by
  have h := toNat_full x y hx hy
  unfold lo
  omega

theorem prod_parts (ah al bh bl : Int) : (ah * 18446744073709551616 + al) * (bh * 18446744073709551616 + bl) =
    ah * bh * 340282366920938463463374607431768211456 + (ah * bl + al * bh) * 18446744073709551616 + al * bl := by grind
theorem toNat_mul_parts (ah al bh bl : Int) (h1 : Word ah) (h2 : Word al) (h3 : Word bh) (h4 : Word bl) :
    ((mk ah al * mk bh bl).toNat : Int) = ((ah * bl + al * bh) * 18446744073709551616 + al * bl) % 340282366920938463463374607431768211456 := by
  have e1 := toNat_mk ah al h1 h2
  have e2 := toNat_mk bh bl h3 h4
  rw [BitVec.toNat_mul]
  have e : (((mk ah al).toNat * (mk bh bl).toNat % 2 ^ 128 : Nat) : Int) = ((mk ah al).toNat : Int) * ((mk bh bl).toNat : Int) % 340282366920938463463374607431768211456 := by
    simp
  rw [e, e1, e2, prod_parts]
  generalize ah * bh = s
  generalize (ah * bl + al * bh) = q
  generalize al * bl = p
  omega
theorem lo_mul (ah al bh bl : Int) (h1 : Word ah) (h2 : Word al) (h3 : Word bh) (h4 : Word bl) : lo (mk ah al * mk bh bl) = al * bl % 18446744073709551616 := by
  have h := toNat_mul_parts ah al bh bl h1 h2 h3 h4
  unfold lo
  generalize (ah * bl + al * bh) = q at h
  generalize al * bl = p at h ⊢
  omega
theorem hi_mul (ah al bh bl : Int) (h1 : Word ah) (h2 : Word al) (h3 : Word bh) (h4 : Word bl) :
    hi (mk ah al * mk bh bl) = (al * bl / 18446744073709551616 + (ah * bl + al * bh)) % 18446744073709551616 := by
  have h := toNat_mul_parts ah al bh bl h1 h2 h3 h4
  have hp := mul_bounds al bl h2 h4
  unfold hi
  generalize (ah * bl + al * bh) = q at h ⊢
  generalize al * bl = p at h hp ⊢
  omega

/-! ### shifts -/
def shr (v : V) (n : Int) : V := v >>> n.toNat
def shl (v : V) (n : Int) : V := v <<< n.toNat
end Go.Proofs.Ytjjapblpmpidcaa.Num
