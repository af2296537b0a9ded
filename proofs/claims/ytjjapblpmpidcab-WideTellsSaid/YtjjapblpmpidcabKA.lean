import Derived.Test.YtjjapblpmpidcabWA
set_option linter.unusedVariables false
set_option linter.unusedSimpArgs false
namespace Go.Proofs.Ytjjapblpmpidcab
open Go.RowKit Num UReg

theorem wOfL (x : Int) (hx : Word x) (w : World) : Calls Try.prog 21 #[.int .u64 x] w fun e w' => e = .returned (.agg #[.int .u64 0, .int .u64 x]) ∧ Ext w w' := by
  have h := wOf x hx w
  rwa [hi_of x hx, lo_of x hx] at h
theorem k1 (w : World) : Calls Try.prog 29 #[.agg #[.int .u64 0, .int .u64 18446744073709551615], .agg #[.int .u64 0, .int .u64 1]] w fun e w' => e = .returned (.tuple #[.agg #[.int .u64 1, .int .u64 0], .bool false]) ∧ Ext w w' := by
  have h := wAdd (mk 0 18446744073709551615) (mk 0 1) w
  rwa [show hi (mk 0 18446744073709551615 + mk 0 1) = 1 from by decide +kernel, show lo (mk 0 18446744073709551615 + mk 0 1) = 0 from by decide +kernel, show over (mk 0 18446744073709551615) (mk 0 1) = false from by decide +kernel, show hi (mk 0 18446744073709551615) = 0 from by decide +kernel, show lo (mk 0 18446744073709551615) = 18446744073709551615 from by decide +kernel, show hi (mk 0 1) = 0 from by decide +kernel, show lo (mk 0 1) = 1 from by decide +kernel] at h
theorem k2 (w : World) : Calls Try.prog 32 #[.agg #[.int .u64 0, .int .u64 1], .agg #[.int .u64 1, .int .u64 0]] w fun e w' => e = .returned (.tuple #[.agg #[.int .u64 18446744073709551615, .int .u64 1], .bool true]) ∧ Ext w w' := by
  have h := wSub (mk 0 1) (mk 1 0) w
  rwa [show hi (mk 0 1 - mk 1 0) = 18446744073709551615 from by decide +kernel, show lo (mk 0 1 - mk 1 0) = 1 from by decide +kernel, show less (mk 0 1) (mk 1 0) = true from by decide +kernel, show hi (mk 0 1) = 0 from by decide +kernel, show lo (mk 0 1) = 1 from by decide +kernel, show hi (mk 1 0) = 1 from by decide +kernel, show lo (mk 1 0) = 0 from by decide +kernel] at h
theorem k3 (w : World) : Calls Try.prog 29 #[.agg #[.int .u64 18446744073709551615, .int .u64 0], .agg #[.int .u64 1, .int .u64 0]] w fun e w' => e = .returned (.tuple #[.agg #[.int .u64 0, .int .u64 0], .bool true]) ∧ Ext w w' := by
  have h := wAdd (mk 18446744073709551615 0) (mk 1 0) w
  rwa [show hi (mk 18446744073709551615 0 + mk 1 0) = 0 from by decide +kernel, show lo (mk 18446744073709551615 0 + mk 1 0) = 0 from by decide +kernel, show over (mk 18446744073709551615 0) (mk 1 0) = true from by decide +kernel, show hi (mk 18446744073709551615 0) = 18446744073709551615 from by decide +kernel, show lo (mk 18446744073709551615 0) = 0 from by decide +kernel, show hi (mk 1 0) = 1 from by decide +kernel, show lo (mk 1 0) = 0 from by decide +kernel] at h
theorem k4 (w : World) : Calls Try.prog 40 #[.int .u64 9223372036854775808, .int .u64 6] w fun e w' => e = .returned (.agg #[.int .u64 3, .int .u64 0]) ∧ Ext w w' := by
  have h := wide_Full 9223372036854775808 6 (by unfold Word; omega) (by unfold Word; omega) w
  rwa [show hi (full 9223372036854775808 6) = 3 from by decide +kernel, show lo (full 9223372036854775808 6) = 0 from by decide +kernel] at h
theorem k5 (w : World) : Calls Try.prog 38 #[.agg #[.int .u64 5, .int .u64 2], .agg #[.int .u64 0, .int .u64 3]] w fun e w' => e = .returned (.agg #[.int .u64 15, .int .u64 6]) ∧ Ext w w' := by
  have h := wMul (mk 5 2) (mk 0 3) w
  rwa [show hi (mk 5 2 * mk 0 3) = 15 from by decide +kernel, show lo (mk 5 2 * mk 0 3) = 6 from by decide +kernel, show hi (mk 5 2) = 5 from by decide +kernel, show lo (mk 5 2) = 2 from by decide +kernel, show hi (mk 0 3) = 0 from by decide +kernel, show lo (mk 0 3) = 3 from by decide +kernel] at h
theorem k6 (w : World) : Calls Try.prog 41 #[.agg #[.int .u64 0, .int .u64 3], .int .i64 64] w fun e w' => e = .returned (.agg #[.int .u64 3, .int .u64 0]) ∧ Ext w w' := by
  have h := wLeft (mk 0 3) 64 w
  rwa [show hi (shl (mk 0 3) 64) = 3 from by decide +kernel, show lo (shl (mk 0 3) 64) = 0 from by decide +kernel, show hi (mk 0 3) = 0 from by decide +kernel, show lo (mk 0 3) = 3 from by decide +kernel] at h
theorem k7 (w : World) : Calls Try.prog 43 #[.agg #[.int .u64 3, .int .u64 0], .int .i64 65] w fun e w' => e = .returned (.agg #[.int .u64 0, .int .u64 1]) ∧ Ext w w' := by
  have h := wRight (mk 3 0) 65 w
  rwa [show hi (shr (mk 3 0) 65) = 0 from by decide +kernel, show lo (shr (mk 3 0) 65) = 1 from by decide +kernel, show hi (mk 3 0) = 3 from by decide +kernel, show lo (mk 3 0) = 0 from by decide +kernel] at h
theorem k8 (w : World) : Calls Try.prog 41 #[.agg #[.int .u64 0, .int .u64 18446744073709551615], .int .i64 128] w fun e w' => e = .returned (.agg #[.int .u64 0, .int .u64 0]) ∧ Ext w w' := by
  have h := wLeft (mk 0 18446744073709551615) 128 w
  rwa [show hi (shl (mk 0 18446744073709551615) 128) = 0 from by decide +kernel, show lo (shl (mk 0 18446744073709551615) 128) = 0 from by decide +kernel, show hi (mk 0 18446744073709551615) = 0 from by decide +kernel, show lo (mk 0 18446744073709551615) = 18446744073709551615 from by decide +kernel] at h
theorem k9 (w : World) : Calls Try.prog 45 #[.agg #[.int .u64 1, .int .u64 0]] w fun e w' => e = .returned (.int .i64 65) ∧ Ext w w' := by
  have h := wLen (mk 1 0) w
  rwa [show lenV (mk 1 0) = 65 from by decide +kernel, show hi (mk 1 0) = 1 from by decide +kernel, show lo (mk 1 0) = 0 from by decide +kernel] at h
theorem k10 (w : World) : Calls Try.prog 47 #[.agg #[.int .u64 1, .int .u64 0], .int .i64 64] w fun e w' => e = .returned (.int .i64 1) ∧ Ext w w' := by
  have h := wBit (mk 1 0) 64 w
  rwa [show bit (mk 1 0) 64 = 1 from by decide +kernel, show hi (mk 1 0) = 1 from by decide +kernel, show lo (mk 1 0) = 0 from by decide +kernel] at h
theorem k11 (w : World) : Calls Try.prog 47 #[.agg #[.int .u64 1, .int .u64 0], .int .i64 128] w fun e w' => e = .returned (.int .i64 0) ∧ Ext w w' := by
  have h := wBit (mk 1 0) 128 w
  rwa [show bit (mk 1 0) 128 = 0 from by decide +kernel, show hi (mk 1 0) = 1 from by decide +kernel, show lo (mk 1 0) = 0 from by decide +kernel] at h
theorem k12 (w : World) : Calls Try.prog 52 #[.agg #[.int .u64 1, .int .u64 0]] w fun e w' => e = .returned (.string ⟨#[49, 56, 52, 52, 54, 55, 52, 52, 48, 55, 51, 55, 48, 57, 53, 53, 49, 54, 49, 54]⟩) ∧ Ext w w' := by
  have h := wPrint (mk 1 0) w
  rwa [show strOfNums (dec (mk 1 0).toNat) = ⟨#[49, 56, 52, 52, 54, 55, 52, 52, 48, 55, 51, 55, 48, 57, 53, 53, 49, 54, 49, 54]⟩ from by decide +kernel, show hi (mk 1 0) = 1 from by decide +kernel, show lo (mk 1 0) = 0 from by decide +kernel] at h
theorem k13 (w : World) : Calls Try.prog 52 #[.agg #[.int .u64 0, .int .u64 0]] w fun e w' => e = .returned (.string ⟨#[48]⟩) ∧ Ext w w' := by
  have h := wPrint (mk 0 0) w
  rwa [show strOfNums (dec (mk 0 0).toNat) = ⟨#[48]⟩ from by decide +kernel, show hi (mk 0 0) = 0 from by decide +kernel, show lo (mk 0 0) = 0 from by decide +kernel] at h
theorem k14 (w : World) : Calls Try.prog 36 #[.agg #[.int .u64 0, .int .u64 18446744073709551615], .agg #[.int .u64 1, .int .u64 0]] w fun e w' => e = .returned (.int .i64 (-1)) ∧ Ext w w' := by
  have h := wCmp (mk 0 18446744073709551615) (mk 1 0) w
  rwa [show cmpV (mk 0 18446744073709551615) (mk 1 0) = -1 from by decide +kernel, show hi (mk 0 18446744073709551615) = 0 from by decide +kernel, show lo (mk 0 18446744073709551615) = 18446744073709551615 from by decide +kernel, show hi (mk 1 0) = 1 from by decide +kernel, show lo (mk 1 0) = 0 from by decide +kernel] at h
theorem k15 (w : World) : Calls Try.prog 50 #[.agg #[.int .u64 2, .int .u64 3]] w fun e w' => ∃ v, e = .returned v ∧ Reads w' .u8 v (bytesV (mk 2 3)) ∧ Ext w w' := by
  have h := wPut (mk 2 3) w
  rwa [show hi (mk 2 3) = 2 from by decide +kernel, show lo (mk 2 3) = 3 from by decide +kernel] at h
theorem k16 (v : Value) (w : World) (hr : Reads w .u8 v (bytesV (mk 2 3))) : Calls Try.prog 34 #[v] w fun e w' => e = .returned (.tuple #[.agg #[.int .u64 2, .int .u64 3], .int .i64 0]) ∧ Ext w w' := by
  have h := wTake_ok v _ w hr (bytesV_length _) (bytesV_bounds _)
  rwa [take_put_all, show hi (mk 2 3) = 2 from by decide +kernel, show lo (mk 2 3) = 3 from by decide +kernel] at h
end Go.Proofs.Ytjjapblpmpidcab
