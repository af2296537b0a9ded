import Derived.Test.YtjjapblpmpidcaaN
import Derived.WalkKit
import Derived.Laws.BitsAllLaws
set_option linter.unusedVariables false
set_option linter.unusedSimpArgs false
namespace Go.Proofs.Ytjjapblpmpidcaa.Num
open Go.RowKit

/-! ### Shifts, as the walk spells them -/
theorem shr_split (H L m : Nat) (hm : m ≤ 64) : (H * 18446744073709551616 + L) / 2 ^ m = H * 2 ^ (64 - m) + L / 2 ^ m := by
  have e : (18446744073709551616 : Nat) = 2 ^ m * 2 ^ (64 - m) := by
    rw [← Nat.pow_add, Nat.add_sub_cancel' hm]
  rw [e, Nat.mul_left_comm, Nat.mul_add_div (Nat.two_pow_pos m)]
theorem div_pow_lt (L m : Nat) (hm : m ≤ 64) (hL : L < 18446744073709551616) : L / 2 ^ m < 2 ^ (64 - m) := by
  rw [Nat.div_lt_iff_lt_mul (Nat.two_pow_pos m), ← Nat.pow_add, Nat.sub_add_cancel hm]
  exact hL
theorem shr_or (H L m : Nat) (hm : m ≤ 64) (hL : L < 18446744073709551616) :
    (H * 2 ^ (64 - m) + L / 2 ^ m) % 18446744073709551616 = L / 2 ^ m ||| H * 2 ^ (64 - m) % 18446744073709551616 := by
  have e : (18446744073709551616 : Nat) = 2 ^ (64 - m) * 2 ^ m := by
    rw [← Nat.pow_add, Nat.sub_add_cancel hm]
  have hx : H * 2 ^ (64 - m) % 18446744073709551616 = 2 ^ (64 - m) * (H % 2 ^ m) := by
    rw [e, Nat.mul_comm H, Nat.mul_mod_mul_left]
  have hl := div_pow_lt L m hm hL
  rw [hx, Nat.or_comm, ← Nat.two_pow_add_eq_or_of_lt hl]
  have h1 : H % 2 ^ m < 2 ^ m := Nat.mod_lt _ (Nat.two_pow_pos m)
  have h2 : 2 ^ (64 - m) * (H % 2 ^ m) + L / 2 ^ m < 18446744073709551616 := by
    have h3 : 2 ^ (64 - m) * (H % 2 ^ m) + 2 ^ (64 - m) ≤ 2 ^ (64 - m) * 2 ^ m := by
      rw [← Nat.mul_succ]
      exact Nat.mul_le_mul_left _ h1
    omega
  rw [Nat.add_mod, hx, Nat.mod_eq_of_lt (a := L / 2 ^ m) (by omega), Nat.mod_eq_of_lt h2]
theorem toNat_shr (v : V) (n : Int) : (shr v n).toNat = v.toNat / 2 ^ n.toNat := by
  unfold shr
  rw [BitVec.toNat_ushiftRight, Nat.shiftRight_eq_div_pow]
theorem toNat_shl (v : V) (n : Int) : (shl v n).toNat = v.toNat * 2 ^ n.toNat % 340282366920938463463374607431768211456 := by
  unfold shl
  rw [BitVec.toNat_shiftLeft, Nat.shiftLeft_eq]
theorem toNat_mkN (H L : Nat) (hH : H < 18446744073709551616) (hL : L < 18446744073709551616) : (mk (H : Int) (L : Int)).toNat = H * 18446744073709551616 + L := by
  have h := toNat_mk H L ⟨by omega, by omega⟩ ⟨by omega, by omega⟩
  omega
theorem word_nat {x : Int} (h : Word x) : ∃ n : Nat, x = (n : Int) ∧ n < 18446744073709551616 := by
  obtain ⟨n, rfl⟩ := Int.eq_ofNat_of_zero_le h.1
  exact ⟨n, rfl, by have := h.2; omega⟩
theorem castPow (a m : Nat) : (a : Int) / 2 ^ m = ((a / 2 ^ m : Nat) : Int) := by simp
theorem castMul (a m : Nat) : (a : Int) * 2 ^ m = ((a * 2 ^ m : Nat) : Int) := by simp

theorem hi_shr_mid (h l n : Int) (hh : Word h) (hl : Word l) (n0 : 0 < n) (n1 : n < 64) : hi (shr (mk h l) n) = h / 2 ^ n.toNat := by
  obtain ⟨H, rfl, hH⟩ := word_nat hh
  obtain ⟨L, rfl, hL⟩ := word_nat hl
  unfold hi
  have e : (H * 18446744073709551616 + L) / 18446744073709551616 = H := by omega
  rw [toNat_shr, toNat_mkN H L hH hL, castPow, Nat.div_div_eq_div_mul, Nat.mul_comm (2 ^ n.toNat), ← Nat.div_div_eq_div_mul, e]
theorem lo_shr_mid (h l n : Int) (hh : Word h) (hl : Word l) (n0 : 0 < n) (n1 : n < 64) :
    lo (shr (mk h l) n) = bits BinOp.or IntKind.u64 (l / 2 ^ n.toNat) (IntKind.u64.wrap (h * 2 ^ (64 - n).toNat)) := by
  obtain ⟨H, rfl, hH⟩ := word_nat hh
  obtain ⟨L, rfl, hL⟩ := word_nat hl
  obtain ⟨m, rfl⟩ := Int.eq_ofNat_of_zero_le (Int.le_of_lt n0)
  have hm : m ≤ 64 := by omega
  have e : (64 - (m : Int)).toNat = 64 - m := by omega
  unfold lo
  rw [toNat_shr, toNat_mkN H L hH hL, Int.toNat_natCast, shr_split H L m hm, shr_or H L m hm hL, castPow, e, castMul, IntKind.wrap_u64]
  have hw : ((H * 2 ^ (64 - m) : Nat) : Int) % 18446744073709551616 = ((H * 2 ^ (64 - m) % 18446744073709551616 : Nat) : Int) := by simp
  rw [hw, u64_or_nat _ _ (by have := Nat.div_le_self L (2 ^ m); omega) (by omega)]
theorem hi_shr_big (h l n : Int) (hh : Word h) (hl : Word l) (n0 : 64 ≤ n) : hi (shr (mk h l) n) = 0 := by
  obtain ⟨H, rfl, hH⟩ := word_nat hh
  obtain ⟨L, rfl, hL⟩ := word_nat hl
  unfold hi
  rw [toNat_shr, toNat_mkN H L hH hL]
  have h1 : (2 : Nat) ^ 64 ≤ 2 ^ n.toNat := Nat.pow_le_pow_right (by decide) (by omega)
  have h2 : (H * 18446744073709551616 + L) / 2 ^ n.toNat ≤ (H * 18446744073709551616 + L) / 2 ^ 64 := Nat.div_le_div_left h1 (by decide)
  have e : (H * 18446744073709551616 + L) / 2 ^ 64 = H := by omega
  rw [e] at h2
  generalize (H * 18446744073709551616 + L) / 2 ^ n.toNat = q at h2 ⊢
  omega
theorem lo_shr_big (h l n : Int) (hh : Word h) (hl : Word l) (n0 : 64 ≤ n) : lo (shr (mk h l) n) = h / 2 ^ (n - 64).toNat := by
  obtain ⟨H, rfl, hH⟩ := word_nat hh
  obtain ⟨L, rfl, hL⟩ := word_nat hl
  obtain ⟨m, rfl⟩ := Int.eq_ofNat_of_zero_le (show 0 ≤ n by omega)
  have e : ((m : Int) - 64).toNat = m - 64 := by omega
  have e2 : (2 : Nat) ^ m = 18446744073709551616 * 2 ^ (m - 64) := by
    rw [show (18446744073709551616 : Nat) = 2 ^ 64 by rfl, ← Nat.pow_add, show 64 + (m - 64) = m by omega]
  unfold lo
  rw [toNat_shr, toNat_mkN H L hH hL, Int.toNat_natCast, e, castPow, e2, ← Nat.div_div_eq_div_mul, show (H * 18446744073709551616 + L) / 18446744073709551616 = H by omega,
    Nat.mod_eq_of_lt (by have := Nat.div_le_self H (2 ^ (m - 64)); omega)]
theorem shr_neg (v : V) (n : Int) (h : n ≤ 0) : shr v n = v := by
  unfold shr
  rw [show n.toNat = 0 by omega]
  rfl
theorem shl_neg (v : V) (n : Int) (h : n ≤ 0) : shl v n = v := by
  unfold shl
  rw [show n.toNat = 0 by omega]
  exact BitVec.shiftLeft_zero v
theorem shr_all (v : V) (n : Int) (h : 128 ≤ n) : shr v n = 0#128 := by
  apply BitVec.eq_of_toNat_eq
  rw [toNat_shr]
  have h1 : (2 : Nat) ^ 128 ≤ 2 ^ n.toNat := Nat.pow_le_pow_right (by decide) (by omega)
  have h2 := v.isLt
  rw [Nat.div_eq_of_lt (by omega)]
  rfl
theorem shl_all (v : V) (n : Int) (h : 128 ≤ n) : shl v n = 0#128 := by
  apply BitVec.eq_of_toNat_eq
  rw [toNat_shl]
  have e : (2 : Nat) ^ n.toNat = 340282366920938463463374607431768211456 * 2 ^ (n.toNat - 128) := by
    rw [show (340282366920938463463374607431768211456 : Nat) = 2 ^ 128 by rfl, ← Nat.pow_add, show 128 + (n.toNat - 128) = n.toNat by omega]
  rw [e, Nat.mul_left_comm, Nat.mul_mod_right]
  rfl
theorem lo_shl_mid (h l n : Int) (hh : Word h) (hl : Word l) (n0 : 0 < n) (n1 : n < 64) : lo (shl (mk h l) n) = IntKind.u64.wrap (l * 2 ^ n.toNat) := by
  obtain ⟨H, rfl, hH⟩ := word_nat hh
  obtain ⟨L, rfl, hL⟩ := word_nat hl
  unfold lo
  rw [toNat_shl, toNat_mkN H L hH hL, IntKind.wrap_u64, castMul, Nat.add_mul]
  generalize 2 ^ n.toNat = p
  have e : H * 18446744073709551616 * p = H * p * 18446744073709551616 := by rw [Nat.mul_right_comm]
  rw [e]
  generalize H * p = q
  generalize L * p = r
  omega
theorem hi_shl_mid (h l n : Int) (hh : Word h) (hl : Word l) (n0 : 0 < n) (n1 : n < 64) :
    hi (shl (mk h l) n) = bits BinOp.or IntKind.u64 (IntKind.u64.wrap (h * 2 ^ n.toNat)) (l / 2 ^ (64 - n).toNat) := by
  obtain ⟨H, rfl, hH⟩ := word_nat hh
  obtain ⟨L, rfl, hL⟩ := word_nat hl
  obtain ⟨m, rfl⟩ := Int.eq_ofNat_of_zero_le (Int.le_of_lt n0)
  have hm : 64 - m ≤ 64 := by omega
  have e : (64 - (m : Int)).toNat = 64 - m := by omega
  have em : 64 - (64 - m) = m := by omega
  have hs := shr_or H L (64 - m) hm hL
  rw [em] at hs
  unfold hi
  rw [toNat_shl, toNat_mkN H L hH hL, Int.toNat_natCast, e, castPow, castMul, IntKind.wrap_u64]
  have hw : ((H * 2 ^ m : Nat) : Int) % 18446744073709551616 = ((H * 2 ^ m % 18446744073709551616 : Nat) : Int) := by simp
  rw [hw, u64_or_nat _ _ (by omega) (by have := Nat.div_le_self L (2 ^ (64 - m)); omega), Nat.or_comm, ← hs, Nat.add_mul]
  have hd : L / 2 ^ (64 - m) = L * 2 ^ m / 18446744073709551616 := by
    rw [show (18446744073709551616 : Nat) = 2 ^ (64 - m) * 2 ^ m by rw [← Nat.pow_add, show 64 - m + m = 64 by omega], Nat.mul_div_mul_right _ _ (Nat.two_pow_pos m)]
  rw [hd]
  have e2 : H * 18446744073709551616 * 2 ^ m = H * 2 ^ m * 18446744073709551616 := by rw [Nat.mul_right_comm]
  rw [e2]
  generalize H * 2 ^ m = q
  generalize L * 2 ^ m = r
  omega
theorem lo_shl_big (h l n : Int) (hh : Word h) (hl : Word l) (n0 : 64 ≤ n) : lo (shl (mk h l) n) = 0 := by
  obtain ⟨H, rfl, hH⟩ := word_nat hh
  obtain ⟨L, rfl, hL⟩ := word_nat hl
  have e : (2 : Nat) ^ n.toNat = 18446744073709551616 * 2 ^ (n.toNat - 64) := by
    rw [show (18446744073709551616 : Nat) = 2 ^ 64 by rfl, ← Nat.pow_add, show 64 + (n.toNat - 64) = n.toNat by omega]
  unfold lo
  rw [toNat_shl, e, Nat.mul_left_comm]
  generalize (mk (H : Int) (L : Int)).toNat * 2 ^ (n.toNat - 64) = q
  omega
theorem hi_shl_big (h l n : Int) (hh : Word h) (hl : Word l) (n0 : 64 ≤ n) : hi (shl (mk h l) n) = IntKind.u64.wrap (l * 2 ^ (n - 64).toNat) := by
  obtain ⟨H, rfl, hH⟩ := word_nat hh
  obtain ⟨L, rfl, hL⟩ := word_nat hl
  obtain ⟨m, rfl⟩ := Int.eq_ofNat_of_zero_le (show 0 ≤ n by omega)
  have e : ((m : Int) - 64).toNat = m - 64 := by omega
  have e2 : (2 : Nat) ^ m = 18446744073709551616 * 2 ^ (m - 64) := by
    rw [show (18446744073709551616 : Nat) = 2 ^ 64 by rfl, ← Nat.pow_add, show 64 + (m - 64) = m by omega]
  unfold hi
  rw [toNat_shl, toNat_mkN H L hH hL, Int.toNat_natCast, e, castMul, IntKind.wrap_u64, e2, Nat.add_mul]
  generalize 2 ^ (m - 64) = p
  have e3 : H * 18446744073709551616 * (18446744073709551616 * p) = H * p * 340282366920938463463374607431768211456 := by grind
  have e4 : L * (18446744073709551616 * p) = L * p * 18446744073709551616 := by grind
  rw [e3, e4]
  generalize H * p = q
  generalize L * p = r
  omega

/-! ### bits -/
def bit (v : V) (i : Int) : Int := if i < 0 then 0 else lo (shr v i) % 2
theorem bit_01 (v : V) (i : Int) : bit v i = 0 ∨ bit v i = 1 := by
  unfold bit
  split
  · exact .inl rfl
  · omega
theorem bits_and_1 (x : Int) (h : Word x) : bits BinOp.and IntKind.u64 x 1 = x % 2 := by
  obtain ⟨X, rfl, hX⟩ := word_nat h
  have := u64_and_nat X 1 hX (by omega)
  simp only [Nat.and_one_is_mod] at this
  rw [show (1 : Int) = ((1 : Nat) : Int) by rfl, this]
  rfl
theorem hi_zero : hi (0#128) = 0 := by decide
theorem lo_zero : lo (0#128) = 0 := by decide
end Go.Proofs.Ytjjapblpmpidcaa.Num
