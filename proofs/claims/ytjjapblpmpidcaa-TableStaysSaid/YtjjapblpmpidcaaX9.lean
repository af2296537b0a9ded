import Derived.Test.YtjjapblpmpidcaaX8
import Derived.Test.YtjjapblpmpidcaaA
set_option linter.unusedVariables false
set_option linter.unusedSimpArgs false
namespace Go.Proofs.Ytjjapblpmpidcaa
open Go.RowKit Num UReg

/-! ### Len, Bit; maps -/
theorem own_list {w : World} {base : Nat} {v : Value} {a : V} (h : OwnI w base v (listV a)) :
    ∃ g cap, v = .slice (some ⟨g, 0, none⟩) 128 cap ∧ base ≤ g ∧ g < w.heap.size ∧ ∀ j, j < 128 → w.cell? ⟨g, j, none⟩ = some (.int .i64 ((a.toNat / 2 ^ j % 2 : Nat) : Int)) := by
  rcases h.reads with ⟨_, hn⟩ | ⟨g, cap, rfl, hc⟩
  · have := listV_length a
    rw [hn] at this
    simp at this
  · refine ⟨g, cap, by rw [listV_length], ?_, ?_, fun j hj => ?_⟩
    · exact own_ge h g rfl
    · exact World.block_lt_of_cell? _ ⟨g, 0, none⟩ (hc 0 (by rw [listV_length]; omega))
    · have := hc j (by rw [listV_length]; exact hj)
      rw [this]
      simp [listV, bitsN]
theorem bit_nat (a : V) (i : Nat) : bit a (i : Int) = ((a.toNat / 2 ^ i % 2 : Nat) : Int) := by
  unfold bit lo
  rw [if_neg (by omega), toNat_shr, Int.toNat_natCast]
  omega
theorem bit_high (a : V) (i : Int) (h : 127 < i) : bit a i = 0 := by
  unfold bit
  rw [if_neg (by omega), shr_all a i (by omega)]
  decide
theorem rBit (a : V) (i : Int) (w : World) : Calls Try.prog 66 #[.agg #[.int .u64 (hi a), .int .u64 (lo a)], .int .i64 i] w fun e w' => e = .returned (.int .i64 (bit a i)) ∧ Ext w w' := by
  by_cases h1 : i < 0
  · have e : bit a i = 0 := by unfold bit; rw [if_pos h1]
    rw [e]
    clear e
    have t1 : decide (i < 0) = true := decide_eq_true h1
    go_enter Try.func66, Try.ntmps66
    go_wp2
    go_ret
    exact ⟨rfl, (Ext.refl _).alloc _⟩
  · by_cases h2 : 127 < i
    · rw [bit_high a i h2]
      have t1 : decide (i < 0) = false := decide_eq_false h1
      have t2 : decide (127 < i) = true := decide_eq_true h2
      go_enter Try.func66, Try.ntmps66
      go_wp2
      go_ret
      exact ⟨rfl, (Ext.refl _).alloc _⟩
    · obtain ⟨j, rfl⟩ := Int.eq_ofNat_of_zero_le (show 0 ≤ i by omega)
      have hj : j < 128 := by omega
      have t1 : decide ((j : Int) < 0) = false := decide_eq_false h1
      have t2 : decide (127 < (j : Int)) = false := decide_eq_false h2
      rw [bit_nat]
      obtain ⟨x, hx⟩ : ∃ x : Int, ((a.toNat / 2 ^ j % 2 : Nat) : Int) = x := ⟨_, rfl⟩
      rw [hx]
      have HX := Lib.hid hx; clear hx
      have hj' : (j : Int) < 128 := by omega
      go_enter Try.func66, Try.ntmps66
      go_wp2_with fail
      refine (rList _ _).mono ?_
      rintro e w1 ⟨v, rfl, hown, hx⟩
      obtain ⟨g, cap, rfl, hg, hg2, hc⟩ := own_list hown
      have hcj := hc j hj
      rw [HX.out] at hcj
      clear hc hown
      have X1 := Lib.hid hx
      clear hx
      go_wp2
      go_ret
      exact ⟨rfl, ((Ext.refl _).alloc _).trans X1.out⟩

/-- How many bits a number has. -/
def blen (n : Nat) : Nat := if n = 0 then 0 else n.log2 + 1
theorem blen_eq {n k : Nat} (h1 : 2 ^ k ≤ n) (h2 : n < 2 ^ (k + 1)) : blen n = k + 1 := by
  have h0 : n ≠ 0 := by have := Nat.two_pow_pos k; omega
  unfold blen
  rw [if_neg h0, (Nat.log2_eq_iff h0).2 ⟨h1, h2⟩]
theorem blen_lt (n : Nat) : n < 2 ^ blen n := by
  unfold blen
  split
  · subst n; simp
  · exact Nat.lt_log2_self
theorem blen_le {n k : Nat} (h : n < 2 ^ k) : blen n ≤ k := by
  unfold blen
  split
  · omega
  · rename_i h0
    have := (Nat.log2_lt h0).2 h
    omega
theorem blen_step (n i : Nat) : blen (n % 2 ^ (i + 1)) = if n / 2 ^ i % 2 = 1 then i + 1 else blen (n % 2 ^ i) := by
  have e : n % 2 ^ (i + 1) = n % 2 ^ i + 2 ^ i * (n / 2 ^ i % 2) := by rw [Nat.pow_succ, Nat.mod_mul]
  have h1 := Nat.mod_lt n (Nat.two_pow_pos i)
  split
  · rename_i h
    rw [e, h]
    apply blen_eq
    · omega
    · rw [Nat.pow_succ]; omega
  · rename_i h
    have : n / 2 ^ i % 2 = 0 := by omega
    rw [e, this]
    simp
set_option maxHeartbeats 1000000 in
theorem rLen (a : V) (w : World) : Calls Try.prog 74 #[.agg #[.int .u64 (hi a), .int .u64 (lo a)]] w fun e w' => e = .returned (.int .i64 (blen a.toNat : Nat)) ∧ Ext w w' := by
  go_enter Try.func74, Try.ntmps74
  go_wp2_with fail
  refine (rList _ _).mono ?_
  rintro e w1 ⟨v, rfl, hown, hx⟩
  obtain ⟨g, cap, rfl, hg, hg2, hc⟩ := own_list hown
  have HC := Lib.hid hc
  clear hc hown
  have X1 := Lib.hid hx
  clear hx
  go_wp2_with fail
  go_loopw [3, 5] (fun n j wr => ∃ i : Nat, i ≤ 128 ∧ j = .int .i64 i ∧ n = .int .i64 (blen (a.toNat % 2 ^ i) : Nat) ∧ wr = w1) (fun _ j _ => 128 - (intOf j).toNat)
  case atStart => exact ⟨0, by omega, rfl, by simp [Nat.mod_one, blen], rfl⟩
  case round =>
    obtain ⟨i, hi', rfl, rfl, rfl⟩ := hrel
    by_cases hlt : i < 128
    · have hci := HC.out i hlt
      have hlt' : (i : Int) < 128 := by omega
      have hs := blen_step a.toNat i
      obtain ⟨n, hn⟩ : ∃ n, blen (a.toNat % 2 ^ i) = n := ⟨_, rfl⟩
      rw [hn] at hs ⊢
      by_cases hb : a.toNat / 2 ^ i % 2 = 1
      · replace hci : wr.cell? ⟨g, i, none⟩ = some (.int .i64 1) := by rw [hci, hb]; rfl
        rw [if_pos hb] at hs
        have HS := Lib.hid hs; clear hs
        clear hb hn HC
        go_wp2_with fail
        go_roundw
        case rel => exact ⟨i + 1, by omega, by simp, by rw [HS.out]; simp, trivial⟩
        case measure => simp [intOf]; omega
      · replace hci : wr.cell? ⟨g, i, none⟩ = some (.int .i64 0) := by rw [hci, show a.toNat / 2 ^ i % 2 = 0 by omega]; rfl
        rw [if_neg hb] at hs
        have HS := Lib.hid hs; clear hs
        clear hb hn HC
        go_wp2_with fail
        go_roundw
        case rel => exact ⟨i + 1, by omega, by simp, by rw [HS.out], trivial⟩
        case measure => simp [intOf]; omega
    · have e : i = 128 := by omega
      subst e
      rw [show a.toNat % 2 ^ 128 = a.toNat from Nat.mod_eq_of_lt a.isLt]
      clear HC
      go_wp2_with fail
      go_ret
      exact ⟨rfl, ((Ext.refl _).alloc _).trans X1.out⟩
end Go.Proofs.Ytjjapblpmpidcaa
