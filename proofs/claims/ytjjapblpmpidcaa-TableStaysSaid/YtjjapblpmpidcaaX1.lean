import Derived.Test.YtjjapblpmpidcaaX0
import Derived.Test.YtjjapblpmpidcaaW1
import Derived.Lib.Hide
set_option linter.unusedVariables false
set_option linter.unusedSimpArgs false
namespace Go.Proofs.Ytjjapblpmpidcaa
open Go.RowKit Num UReg

/-! ### The reference of layer 1: lists of bits -/
def bitsN (n : Nat) (k : Nat) : List Int := (List.range k).map fun i => ((n / 2 ^ i % 2 : Nat) : Int)
theorem bitsN_length (n k : Nat) : (bitsN n k).length = k := by simp [bitsN]
theorem bitsN_succ (n k : Nat) : bitsN n (k + 1) = bitsN n k ++ [((n / 2 ^ k % 2 : Nat) : Int)] := by simp [bitsN, List.range_succ]
theorem reads_one (w : World) (d : Int) : Reads (w.alloc (.cells #[.int .i64 d] 3)) .i64 (.slice (some ⟨w.heap.size, 0, none⟩) 1 1) [d] :=
  .inr ⟨w.heap.size, 1, rfl, fun j hj => by
    have : j = 0 := by simp at hj; omega
    subst this
    simp⟩

theorem rBits (n : Nat) (hn : n < 18446744073709551616) (w : World) : Calls Try.prog 90 #[.int .u64 n] w fun e w' =>
    ∃ v, e = .returned v ∧ OwnI w' w.heap.size v (bitsN n 64) ∧ Ext w w' := by
  have HN := Lib.hid hn; clear hn
  go_enter Try.func90, Try.ntmps90
  go_wp2_with fail
  go_loopw [0, 3, 4] (fun nv v j wr => ∃ k : Nat, k ≤ 64 ∧ j = .int .i64 k ∧ nv = .int .u64 ((n / 2 ^ k : Nat) : Int) ∧ Ext w wr ∧ w.heap.size ≤ wr.heap.size ∧ OwnI wr w.heap.size v (bitsN n k))
    (fun _ _ j _ => 64 - (intOf j).toNat)
  case atStart =>
    refine ⟨0, by omega, rfl, by simp, (Ext.refl _).alloc _, by simp, ?_⟩
    exact OwnI.lit w w.heap.size [] (by omega) (by simp)
  case round =>
    obtain ⟨k, hk, rfl, rfl, HX, z1, hown⟩ := hrel
    have HX_r := Lib.hid HX; clear HX
    obtain ⟨q, hq⟩ : ∃ q, n / 2 ^ k = q := ⟨_, rfl⟩
    have hle : q ≤ n := by rw [← hq]; exact Nat.div_le_self _ _
    rw [hq]
    obtain ⟨m, hm⟩ : ∃ m : Int, (q : Int) = m := ⟨_, rfl⟩
    obtain ⟨b, hb⟩ : ∃ b : Int, m % 2 = b := ⟨_, rfl⟩
    obtain ⟨m2, hm2⟩ : ∃ b : Int, m / 2 = b := ⟨_, rfl⟩
    have hnn := HN.out
    have h0 : 0 ≤ m := by omega
    have h1 : m < 18446744073709551616 := by omega
    clear hle hnn
    have e1 : m.tmod 2 = b := by rw [Int.tmod_eq_emod_of_nonneg (by omega)]; exact hb
    have e2 : m.tdiv 2 = m2 := by rw [Int.tdiv_eq_ediv_of_nonneg (by omega)]; exact hm2
    have e3 : IntKind.i64.wrap b = b := IntWalk.i64_in _ (by omega)
    have e4 : IntKind.u64.wrap m2 = m2 := IntWalk.u64_in _ (by omega)
    rw [hm]
    have HM := Lib.hid hm; clear hm
    have HQ := Lib.hid hq; clear hq
    have HB := Lib.hid hb; clear hb
    have HM2 := Lib.hid hm2; clear hm2
    clear h1
    by_cases hlt : k < 64
    · have hown1 := hown.ext ((Ext.refl wr).alloc (.cells #[.int .i64 b] 3))
      clear hown
      go_wp2_with (at_builtin; refine wpList_appendI rfl (.tmp 10) (.tmp 14) rfl _ w.heap.size _ _ (bitsN n k) [b] rfl rfl hown1 (reads_one _ _) ?c1 ?c2 ?_)
      case c1 => rw [bitsN_length]; simp; omega
      case c2 => simp; omega
      intro v' w3 hown3 hx3 hc3 hz3
      have hx3 := Lib.hid (hx3 w (Nat.le_refl _) (HX_r.out.alloc _))
      clear hc3 hown1
      go_wp2_with fail
      go_roundw
      case rel =>
        have e5 := HM.out
        have e6 := HB.out
        have e7 := HM2.out
        have e8 : n / 2 ^ (k + 1) = q / 2 := by rw [Nat.pow_succ, ← Nat.div_div_eq_div_mul, HQ.out]
        refine ⟨k + 1, by omega, by simp, ?_, hx3.out, by omega, ?_⟩
        · rw [e8]
          congr 1
          omega
        · rw [bitsN_succ, HQ.out, show ((q % 2 : Nat) : Int) = b by omega]
          exact hown3
      case measure => simp [intOf]; omega
    · go_wp2_with fail
      go_ret
      obtain rfl : k = 64 := by omega
      exact ⟨_, rfl, hown, HX_r.out⟩
end Go.Proofs.Ytjjapblpmpidcaa
