import Derived.Test.YtjjapblpmpidcabWA
import Derived.Lib.ItoaNum
set_option linter.unusedVariables false
set_option linter.unusedSimpArgs false
namespace Go.Proofs.Ytjjapblpmpidcab
open Go.RowKit Num UReg

/-! ### The plain laws of shifts, order and digits -/
theorem shl_shl (a : V) (n m : Int) (hn : 0 ≤ n) (hm : 0 ≤ m) : shl (shl a n) m = shl a (n + m) := by
  unfold shl
  rw [Int.toNat_add hn hm, BitVec.shiftLeft_add]
theorem shr_shr (a : V) (n m : Int) (hn : 0 ≤ n) (hm : 0 ≤ m) : shr (shr a n) m = shr a (n + m) := by
  unfold shr
  rw [Int.toNat_add hn hm, BitVec.shiftRight_add]
theorem mul_shl_one (a : V) (n : Int) : a * shl (of 1) n = shl a n := by
  apply BitVec.eq_of_toNat_eq
  rw [show of 1 = 1#128 from rfl, BitVec.toNat_mul, toNat_shl, toNat_shl]
  simp
theorem bit_shr (a : V) (n m : Int) (hn : 0 ≤ n) (hm : 0 ≤ m) : bit (shr a n) m = bit a (n + m) := by
  unfold bit
  rw [if_neg (by omega), if_neg (by omega), shr_shr a n m hn hm]
theorem low_toNat (a : V) (n : Int) : (a - shl (shr a n) n).toNat = a.toNat % 2 ^ n.toNat := by
  have e : (shl (shr a n) n).toNat = a.toNat / 2 ^ n.toNat * 2 ^ n.toNat := by
    rw [toNat_shl, toNat_shr]
    exact Nat.mod_eq_of_lt (Nat.lt_of_le_of_lt (Nat.div_mul_le_self _ _) a.isLt)
  have h3 := Nat.div_add_mod' a.toNat (2 ^ n.toNat)
  rw [BitVec.toNat_sub, e]
  have := a.isLt
  generalize a.toNat / 2 ^ n.toNat * 2 ^ n.toNat = q at *
  generalize a.toNat % 2 ^ n.toNat = r at *
  omega
theorem power_toNat (n : Int) (h1 : n < 128) : (shl (of 1) n).toNat = 2 ^ n.toNat := by
  rw [toNat_shl, show (of 1).toNat = 1 from by decide, Nat.one_mul]
  exact Nat.mod_eq_of_lt (Nat.pow_lt_pow_right (by decide) (by omega : n.toNat < 128))
theorem low_cmp (a : V) (n : Int) (h1 : n < 128) : cmpV (a - shl (shr a n) n) (shl (of 1) n) = -1 := by
  unfold cmpV
  rw [low_toNat, power_toNat n h1, if_pos (Nat.mod_lt _ (Nat.two_pow_pos _))]
theorem low_big (a : V) (n : Int) (h : 128 ≤ n) : a - shl (shr a n) n = a := by
  rw [shr_all a n h]
  unfold shl
  simp

theorem bitLen_spec (x : Nat) (h : x < 18446744073709551616) (h0 : x ≠ 0) : ∃ k, Lib.bitLen x = k + 1 ∧ k < 64 ∧ 2 ^ k ≤ x ∧ x < 2 ^ (k + 1) := by
  obtain ⟨a, b, c⟩ := Lib.bitLenAux_bounds 64 x h h0
  have hl := bitLen_le x
  unfold Lib.bitLen at *
  exact ⟨Lib.bitLenAux 64 x - 1, by omega, by omega, b, by rw [show Lib.bitLenAux 64 x - 1 + 1 = Lib.bitLenAux 64 x by omega]; exact c⟩
theorem len_zero : lenV 0#128 = 0 := by decide +kernel
theorem len_spec (a : V) (h : a ≠ 0#128) : ∃ k : Nat, lenV a = (k : Int) + 1 ∧ k < 128 ∧ 2 ^ k ≤ a.toNat ∧ a.toNat < 2 ^ (k + 1) := by
  have hA := toNat_eq a
  obtain ⟨a0, a1⟩ := word_hi a
  obtain ⟨b0, b1⟩ := word_lo a
  by_cases c : 0 < hi a
  · obtain ⟨k, e, hk, h1, h2⟩ := bitLen_spec (hi a).toNat (by omega) (by omega)
    refine ⟨64 + k, ?_, by omega, ?_, ?_⟩
    · unfold lenV
      rw [if_pos c, e]
      omega
    · rw [Nat.pow_add]
      generalize 2 ^ k = p at *
      omega
    · rw [show 64 + k + 1 = 64 + (k + 1) by omega, Nat.pow_add]
      generalize 2 ^ (k + 1) = p at *
      omega
  · have h0 : (lo a).toNat ≠ 0 := by
      intro h0
      apply h
      apply BitVec.eq_of_toNat_eq
      simp
      omega
    obtain ⟨k, e, hk, h1, h2⟩ := bitLen_spec (lo a).toNat (by omega) h0
    refine ⟨k, ?_, by omega, ?_, ?_⟩
    · unfold lenV
      rw [if_neg c, e]
      omega
    · omega
    · omega
theorem len_eq0 (a : V) : (lenV a = 0) ↔ a = 0#128 := by
  constructor
  · intro h
    by_cases c : a = 0#128
    · exact c
    · obtain ⟨k, e, _⟩ := len_spec a c
      omega
  · rintro rfl
    exact len_zero
theorem len_top (a : V) (h : a ≠ 0#128) : bit a (lenV a - 1) = 1 := by
  obtain ⟨k, e, hk, h1, h2⟩ := len_spec a h
  unfold bit lo
  rw [e, show (k : Int) + 1 - 1 = k by omega, if_neg (by omega), toNat_shr, Int.toNat_natCast]
  have : a.toNat / 2 ^ k = 1 := by
    rw [Nat.pow_succ] at h2
    apply Nat.div_eq_of_lt_le
    · omega
    · omega
  rw [this]
  rfl
theorem len_shr (a : V) : shr a (lenV a) = 0#128 := by
  by_cases h : a = 0#128
  · subst h
    rw [len_zero]
    decide
  · obtain ⟨k, e, hk, h1, h2⟩ := len_spec a h
    apply BitVec.eq_of_toNat_eq
    rw [toNat_shr, e, show ((k : Int) + 1).toNat = k + 1 by omega, Nat.div_eq_of_lt h2]
    rfl
theorem len_bounds (a : V) : 0 ≤ lenV a ∧ lenV a ≤ 128 := by
  by_cases h : a = 0#128
  · subst h; rw [len_zero]; omega
  · obtain ⟨k, e, hk, h1, h2⟩ := len_spec a h
    omega

theorem cmp_swap (a b : V) : cmpV b a = - cmpV a b := by
  unfold cmpV
  split <;> split <;> omega
theorem cmp_less (a b : V) : less a b = decide (cmpV a b < 0) := by
  unfold cmpV less
  apply decide_eq_decide.2
  split
  · omega
  · split <;> omega
theorem cmp_eq0 (a b : V) : (cmpV a b = 0) ↔ a = b := by
  unfold cmpV
  constructor
  · intro h
    apply BitVec.eq_of_toNat_eq
    split at h
    · omega
    · split at h <;> omega
  · rintro rfl
    simp
theorem over_cmp (a b : V) : over a b = decide (cmpV (a + b) a < 0) := by
  unfold cmpV over
  have h1 := a.isLt
  have h2 := b.isLt
  rw [BitVec.toNat_add]
  apply decide_eq_decide.2
  split
  · omega
  · split <;> omega

/-- Of two lists of bytes the one that stands ahead. -/
def lexLt : List Int → List Int → Bool
  | _, [] => false
  | [], _ :: _ => true
  | x :: xs, y :: ys => decide (x < y) || (decide (x = y) && lexLt xs ys)
theorem lex_last (s : List Int) (x y : Int) (h : x < y) : lexLt (s ++ [x]) (s ++ [y]) = true := by
  induction s with
  | nil => simp [lexLt, h]
  | cons z s ih => simp [lexLt, ih]
theorem lex_pre : ∀ (s t u v : List Int), s.length = t.length → lexLt s t = true → lexLt (s ++ u) (t ++ v) = true
  | [], [], _, _, _, h => by simp [lexLt] at h
  | x :: s, y :: t, u, v, hl, h => by
    simp only [lexLt, Bool.or_eq_true, Bool.and_eq_true, decide_eq_true_eq, List.cons_append] at h ⊢
    rcases h with h | ⟨h1, h2⟩
    · exact .inl h
    · exact .inr ⟨h1, lex_pre s t u v (by simpa using hl) h2⟩
theorem lex_irrefl : ∀ s, lexLt s s = false
  | [] => rfl
  | x :: s => by simp [lexLt, lex_irrefl s]
theorem lex_asymm : ∀ s t, lexLt s t = true → lexLt t s = false
  | _, [], h => by simp [lexLt] at h
  | [], _ :: _, _ => rfl
  | x :: s, y :: t, h => by
    simp only [lexLt, Bool.or_eq_true, Bool.and_eq_true, decide_eq_true_eq] at h
    simp only [lexLt, Bool.or_eq_false_iff, Bool.and_eq_false_iff, decide_eq_false_iff_not]
    rcases h with h | ⟨h1, h2⟩
    · exact ⟨by omega, .inl (by omega)⟩
    · exact ⟨by omega, .inr (lex_asymm s t h2)⟩
/-- Which digits are greater. -/
def greater (s t : List Int) : Bool := decide (t.length < s.length) || (decide (s.length = t.length) && lexLt t s)
theorem dec_pos (n : Nat) : 1 ≤ (dec n).length := by
  have : ∀ f n, 1 ≤ (decF f n).length := by
    intro f n
    cases f with
    | zero => simp [decF]
    | succ f => rw [decF]; split <;> simp
  exact this 40 n
theorem dec_lt : ∀ (m n : Nat), n < m → m < 340282366920938463463374607431768211456 → greater (dec m) (dec n) = true := by
  intro m
  induction m using Nat.strongRecOn with
  | ind m ih =>
    intro n hnm hm
    unfold greater at *
    simp only [Bool.or_eq_true, Bool.and_eq_true, decide_eq_true_eq] at *
    by_cases cm : m < 10
    · rw [dec_small m cm, dec_small n (by omega)]
      refine .inr ⟨by simp, ?_⟩
      have : (n : Int) < m := by omega
      simp [lexLt]
      omega
    · rw [dec_big m (by omega) hm]
      by_cases cn : n < 10
      · rw [dec_small n cn]
        have := dec_pos (m / 10)
        left
        simp only [List.length_append, List.length_cons, List.length_nil]
        omega
      · rw [dec_big n (by omega) (by omega)]
        by_cases e : n / 10 = m / 10
        · rw [e]
          refine .inr ⟨by simp, lex_last _ _ _ (by omega)⟩
        · rcases ih (m / 10) (by omega) (n / 10) (by omega) (by omega) with h | ⟨h1, h2⟩
          · left
            simp only [List.length_append, List.length_cons, List.length_nil]
            omega
          · refine .inr ⟨?_, lex_pre _ _ _ _ h1.symm h2⟩
            simp only [List.length_append, List.length_cons, List.length_nil]
            omega
theorem greater_irrefl (s : List Int) : greater s s = false := by simp [greater, lex_irrefl]
theorem greater_asymm (s t : List Int) (h : greater s t = true) : greater t s = false := by
  unfold greater at *
  simp only [Bool.or_eq_true, Bool.and_eq_true, decide_eq_true_eq] at h
  simp only [Bool.or_eq_false_iff, Bool.and_eq_false_iff, decide_eq_false_iff_not]
  rcases h with h | ⟨h1, h2⟩
  · exact ⟨by omega, .inl (by omega)⟩
  · exact ⟨by omega, .inr (lex_asymm _ _ h2)⟩
theorem greater_cmp (a b : V) : greater (dec a.toNat) (dec b.toNat) = decide (0 < cmpV a b) := by
  unfold cmpV
  rcases Nat.lt_trichotomy a.toNat b.toNat with c | c | c
  · rw [if_pos c, greater_asymm _ _ (dec_lt _ _ c b.isLt)]
    rfl
  · rw [if_neg (by omega), if_neg (by omega), c, greater_irrefl]
    rfl
  · rw [if_neg (by omega), if_pos c, dec_lt _ _ c a.isLt]
    rfl
end Go.Proofs.Ytjjapblpmpidcab
