import Derived.Test.YtjjapblpmpidcaaI5
set_option linter.unusedVariables false
set_option linter.unusedSimpArgs false
namespace Go.Proofs.Ytjjapblpmpidcaa
open Go.RowKit Num UReg

/-! ### Distinct numbers, distinct words -/
theorem mul_inj (M I q : Int) (h : M * I = 1 + 4294967296 * q) {x y : Int} (hx : W32 x) (hy : W32 y) (e : x * M % 4294967296 = y * M % 4294967296) : x = y := by
  have f : ∀ z : Int, W32 z → z * M % 4294967296 * I % 4294967296 = z := fun z hz => by
    have h1 : z * M % 4294967296 * I % 4294967296 = z * M * I % 4294967296 := by
      rw [Int.mul_emod, Int.emod_emod, ← Int.mul_emod]
    rw [h1, Int.mul_assoc, h]
    have h2 : z * (1 + 4294967296 * q) = z + 4294967296 * (z * q) := by grind
    rw [h2, Int.add_mul_emod_self_left]
    exact Int.emod_eq_of_lt hz.1 hz.2
  have := f x hx
  rw [e, f y hy] at this
  exact this.symm
theorem xor3_inj {x y z k : Int} (hx : W32 x) (hy : W32 y) (hz : W32 z) (hk : W32 k) (h : xor3 x y k = xor3 x z k) : y = z := by
  obtain ⟨X, rfl⟩ := Int.eq_ofNat_of_zero_le hx.1
  obtain ⟨Y, rfl⟩ := Int.eq_ofNat_of_zero_le hy.1
  obtain ⟨Z, rfl⟩ := Int.eq_ofNat_of_zero_le hz.1
  obtain ⟨K, rfl⟩ := Int.eq_ofNat_of_zero_le hk.1
  have x1 := hx.2; have y1 := hy.2; have z1 := hz.2; have k1 := hk.2
  have a := xor_nat X Y (by omega) (by omega)
  have b := xor_nat X Z (by omega) (by omega)
  unfold xor3 at h
  rw [a.1, b.1, (xor_nat _ K a.2 (by omega)).1, (xor_nat _ K b.2 (by omega)).1] at h
  have h1 : X ^^^ Y ^^^ K = X ^^^ Z ^^^ K := by omega
  have h2 : X ^^^ Y = X ^^^ Z := by
    have e := congrArg (· ^^^ K) h1
    simpa only [Nat.xor_assoc, Nat.xor_self, Nat.xor_zero] using e
  have h3 : Y = Z := by
    have e := congrArg (X ^^^ ·) h2
    simpa only [← Nat.xor_assoc, Nat.xor_self, Nat.zero_xor] using e
  rw [h3]
theorem rnd_inj {b d : Blk} {k : Ky} (hb : WB b) (hd : WB d) (hk : WK k) (h : rnd b k = rnd d k) : b = d := by
  obtain ⟨b0, b1, b2, b3⟩ := b
  obtain ⟨d0, d1, d2, d3⟩ := d
  obtain ⟨k0, k1⟩ := k
  obtain ⟨hb0, hb1, hb2, hb3⟩ := hb
  obtain ⟨hd0, hd1, hd2, hd3⟩ := hd
  simp only at hb0 hb1 hb2 hb3 hd0 hd1 hd2 hd3
  unfold rnd at h
  simp only [Prod.mk.injEq] at h
  obtain ⟨e0, e1, e2, e3⟩ := h
  obtain rfl : b2 = d2 := mul_inj 3449720151 1836887655 1475389199 (by decide) hb2 hd2 e1
  obtain rfl : b0 = d0 := mul_inj 3528531795 2568649947 2110275209 (by decide) hb0 hd0 e3
  obtain rfl : b1 = d1 := xor3_inj (w32_div hb2 _ (by decide) (by decide)) hb1 hd1 hk.1 e0
  obtain rfl : b3 = d3 := xor3_inj (w32_div hb0 _ (by decide) (by decide)) hb3 hd3 hk.2 e2
  rfl
theorem mixS_key (b d : Blk) (k : Ky) : ∀ n, (mixS b k n).2 = (mixS d k n).2
  | 0 => rfl
  | n + 1 => by rw [mixS, mixS]; simp only; rw [mixS_key b d k n]
theorem mixS_inj {b d : Blk} {k : Ky} (hb : WB b) (hd : WB d) (hk : WK k) : ∀ n, (mixS b k n).1 = (mixS d k n).1 → b = d
  | 0, h => h
  | n + 1, h => by
    rw [mixS, mixS] at h
    simp only at h
    rw [mixS_key b d k n] at h
    exact mixS_inj hb hd hk n (rnd_inj (w_mixS hb hk n).1 (w_mixS hd hk n).1 (w_mixS hd hk n).2 h)
theorem block_inj {n m : V} (h : blockV n = blockV m) : n = m := by
  unfold blockV at h
  simp only [Prod.mk.injEq] at h
  rw [← dg0, ← dg1, ← dg2, ← dg3, ← dg0, ← dg1, ← dg2, ← dg3] at h
  obtain ⟨a0, a1, a2, a3⟩ := h
  exact v_ext (by omega) (by omega)
theorem words_inj {n m : V} {k : Ky} (hk : WK k) (h0 : wordH n k false = wordH m k false) (h1 : wordH n k true = wordH m k true) : n = m := by
  unfold wordH at h0 h1
  simp only [Bool.false_eq_true, if_false, if_true] at h0 h1
  obtain ⟨a0, a1, a2, a3⟩ := (w_mixS (wb_block n) hk 10).1
  obtain ⟨c0, c1, c2, c3⟩ := (w_mixS (wb_block m) hk 10).1
  refine block_inj (mixS_inj (wb_block n) (wb_block m) hk 10 ?_)
  generalize (mixS (blockV n) k 10).1 = B at *
  generalize (mixS (blockV m) k 10).1 = D at *
  obtain ⟨p0, p1, p2, p3⟩ := B
  obtain ⟨q0, q1, q2, q3⟩ := D
  unfold W32 at *
  simp only at *
  simp only [Prod.mk.injEq]
  omega
theorem shr1_toNat (n : V) : (shr n 1).toNat = n.toNat / 2 := toNat_shr1 n
theorem jumpV_inj {c : V} {b : Bool} {n m : V} (h : jumpV c b n = jumpV c b m) : n = m := by
  have f : ∀ x : V, (c + x = c + x → True) := fun _ _ => trivial
  have g : ∀ a x y : V, a + x = a + y → x = y := fun a x y e => by grind
  unfold jumpV at h
  have s : shr n 1 = shr m 1 → n.toNat / 2 = m.toNat / 2 := fun e => by rw [← shr1_toNat, ← shr1_toNat, e]
  by_cases p : n.toNat % 2 = 1 <;> by_cases q : m.toNat % 2 = 1
  · rw [if_pos p, if_pos q, Prod.mk.injEq] at h
    have := s (g _ _ _ h.1)
    exact BitVec.eq_of_toNat_eq (by omega)
  · rw [if_pos p, if_neg q, Prod.mk.injEq] at h
    exact absurd h.2 (by cases b <;> decide)
  · rw [if_neg p, if_pos q, Prod.mk.injEq] at h
    exact absurd h.2 (by cases b <;> decide)
  · rw [if_neg p, if_neg q, Prod.mk.injEq] at h
    have := s (g _ _ _ h.1)
    exact BitVec.eq_of_toNat_eq (by omega)
end Go.Proofs.Ytjjapblpmpidcaa
