import Derived.Test.YtjjapblpmpidcaaXC
set_option linter.unusedVariables false
set_option linter.unusedSimpArgs false
namespace Go.Proofs.Ytjjapblpmpidcaa
open Go.RowKit Num UReg

/-! ### What makes an odd number 1, bit by bit -/
def OddAt (n : V) (k : Nat) (x : V) : Prop := (n * x).toNat % 2 ^ k = 1 % 2 ^ k
theorem one_bit (k : Nat) : 1 / 2 ^ k % 2 = if k = 0 then 1 else 0 := by
  cases k with
  | zero => rfl
  | succ k =>
    have := Nat.two_pow_pos k
    rw [if_neg (by omega), Nat.div_eq_of_lt (by rw [Nat.pow_succ]; omega)]
theorem odd_start (n : V) : OddAt n 0 0#128 := by simp [OddAt, Nat.mod_one]
theorem odd_keep {n x : V} {k : Nat} (h : OddAt n k x) (hb : (n * x).toNat / 2 ^ k % 2 = if k = 0 then 1 else 0) : OddAt n (k + 1) x := by
  unfold OddAt at *
  rw [Nat.pow_succ, Nat.mod_mul, Nat.mod_mul, h, hb, one_bit]
theorem odd_add {n x : V} {k : Nat} (hn : n.toNat % 2 = 1) (hk : k < 128) (h : OddAt n k x) (hb : (n * x).toNat / 2 ^ k % 2 ≠ if k = 0 then 1 else 0) : OddAt n (k + 1) (x + shl 1#128 (k : Int)) := by
  unfold OddAt at *
  have e1 : n * (x + shl 1#128 (k : Int)) = n * x + n * shl 1#128 (k : Int) := by grind
  have e2 : n * shl 1#128 (k : Int) = shl n (k : Int) := by
    apply BitVec.eq_of_toNat_eq
    rw [BitVec.toNat_mul, toNat_shl, toNat_shl]
    simp
  have hd : 2 ^ (k + 1) ∣ 2 ^ 128 := Nat.pow_dvd_pow 2 (by omega)
  rw [e1, e2, BitVec.toNat_add, Nat.mod_mod_of_dvd _ hd, toNat_shl, Int.toNat_natCast]
  rw [Nat.add_mod, show (340282366920938463463374607431768211456 : Nat) = 2 ^ 128 from rfl, Nat.mod_mod_of_dvd _ hd, ← Nat.add_mod]
  generalize (n * x).toNat = p at *
  have e3 : n.toNat * 2 ^ k = 2 ^ k + 2 ^ (k + 1) * (n.toNat / 2) := by
    have : n.toNat = 1 + 2 * (n.toNat / 2) := by omega
    conv => lhs; rw [this]
    rw [Nat.pow_succ, Nat.add_mul]
    generalize n.toNat / 2 = q
    generalize 2 ^ k = r
    grind
  rw [e3, ← Nat.add_assoc, Nat.add_mul_mod_self_left, Nat.pow_succ, Nat.mod_mul, Nat.mod_mul, one_bit, Nat.add_mod_right, h, Nat.add_div_right _ (Nat.two_pow_pos k)]
  congr 2
  split at hb <;> split <;> omega
theorem odd_end {n x : V} (hn : n.toNat % 2 = 1) (h : OddAt n 128 x) : x = oddI n := by
  unfold OddAt at h
  have e : n * x = 1#128 := by
    apply BitVec.eq_of_toNat_eq
    rw [Nat.mod_eq_of_lt (n * x).isLt] at h
    rw [h]
    rfl
  exact inv_unique n x (oddI n) e (oddI_spec n hn)
theorem rBitE {a : V} {i b : Int} (h : bit a i = b) (w : World) : Calls Try.prog 66 #[.agg #[.int .u64 (hi a), .int .u64 (lo a)], .int .i64 i] w fun e w' => e = .returned (.int .i64 b) ∧ Ext w w' := by
  have h1 := rBit a i w
  rwa [h] at h1
theorem rLeft1 {n : Int} {s : V} (h : shl 1#128 n = s) (w : World) : Calls Try.prog 69 #[.agg #[.int .u64 0, .int .u64 1], .int .i64 n] w fun e w' => e = .returned (.agg #[.int .u64 (hi s), .int .u64 (lo s)]) ∧ Ext w w' := by
  have h1 := rLeft 1#128 n w
  rwa [h, show hi (1#128) = 0 from by decide +kernel, show lo (1#128) = 1 from by decide +kernel] at h1

set_option maxHeartbeats 1000000 in
theorem rOdd_even (n : V) (hn : n.toNat % 2 = 0) (w : World) : Calls Try.prog 30 #[.agg #[.int .u64 (hi n), .int .u64 (lo n)]] w fun e w' =>
    e = .returned (.tuple #[.agg #[.int .u64 0, .int .u64 0], .int .i64 1]) ∧ Ext w w' := by
  have h1 := (word_lo n).1
  have e1 : (lo n) % 2 = 0 := by unfold lo; omega
  have e2 : (lo n).tmod 2 = 0 := by rw [Int.tmod_eq_emod_of_nonneg h1]; exact e1
  clear h1
  go_enter Try.func30, Try.ntmps30
  go_wp2
  refine bodyPost_ret (v := ?_) ?_ rfl ⟨?_, ?_⟩
  rotate_left
  · simp only [results, Try.results30]
    go_simp
    with_reducible rfl
  · rfl
  · repeat (first | with_reducible exact Ext.refl _ | with_reducible refine Ext.alloc ?_ _ | (with_reducible refine Ext.setCell ?_ (by simp <;> omega) _) | with_reducible refine Ext.drew ?_)

set_option maxHeartbeats 4000000 in
theorem rOdd_odd (n : V) (hn : n.toNat % 2 = 1) (w : World) : Calls Try.prog 30 #[.agg #[.int .u64 (hi n), .int .u64 (lo n)]] w fun e w' =>
    e = .returned (.tuple #[.agg #[.int .u64 (hi (oddI n)), .int .u64 (lo (oddI n))], .int .i64 0]) ∧ Ext w w' := by
  have h1 := (word_lo n).1
  have e1 : (lo n) % 2 = 1 := by unfold lo; omega
  have e2 : (lo n).tmod 2 = 1 := by rw [Int.tmod_eq_emod_of_nonneg h1]; exact e1
  clear h1
  have HNO := Lib.hid hn; clear hn
  go_enter Try.func30, Try.ntmps30
  go_wp2_with fail
  go_loopw [5, 6] (fun i _ wr => ∃ (k : Nat) (x : V), k ≤ 128 ∧ i = .int .i64 k ∧ OddAt n k x ∧ Ext w wr ∧ w.heap.size + 3 ≤ wr.heap.size
      ∧ Cells wr w.heap.size [.int .u64 (hi n), .int .u64 (lo n)] ∧ Cells wr (w.heap.size + 1) [.int .u64 0, .int .u64 0] ∧ Cells wr (w.heap.size + 1 + 1) [.int .u64 (hi x), .int .u64 (lo x)])
    (fun i _ _ => 128 - (intOf i).toNat)
  case atStart =>
    refine ⟨0, 0#128, by omega, rfl, odd_start n, ?_, by simp, ?_, ?_, ?_⟩
    · repeat (first | with_reducible exact Ext.refl _ | with_reducible refine Ext.alloc ?_ _ | (with_reducible refine Ext.setCell ?_ (by simp <;> omega) _) | with_reducible refine Ext.drew ?_)
    · exact Cells.mk2 (by go_simp <;> rfl) (by go_simp <;> rfl) (by go_simp) (by go_simp)
    · exact Cells.mk2 (by go_simp <;> rfl) (by go_simp <;> rfl) (by go_simp) (by go_simp)
    · rw [hi_zero, lo_zero]
      exact Cells.mk2 (by go_simp <;> rfl) (by go_simp <;> rfl) (by go_simp) (by go_simp)
  case round =>
    obtain ⟨k, x, hk, rfl, ho, HX, z1, hs, hr, hx'⟩ := hrel
    have HX_r := Lib.hid HX; clear HX e1 e2
    have za : w.heap.size < wr.heap.size := by omega
    have zr : w.heap.size + 1 < wr.heap.size := by omega
    have zx : w.heap.size + 1 + 1 < wr.heap.size := by omega
    obtain ⟨s0, s1, sf0, sf1⟩ := hs.two
    obtain ⟨x0, x1, xf0, xf1⟩ := hx'.two
    by_cases hlt : k < 128
    · have hlt' : (k : Int) < 128 := by omega
      obtain ⟨p, hp⟩ : ∃ p, n * x = p := ⟨_, rfl⟩
      have hbn := bit_nat p k
      have hP := Lib.hid hp
      by_cases hk0 : k = 0
      · have t1 : decide ((k : Int) = 0) = true := decide_eq_true (by omega)
        have t2 : ((k : Int) == 0) = true := by simpa using hk0
        have t3 : decide (k = 0) = true := decide_eq_true hk0
        rcases Nat.mod_two_eq_zero_or_one (p.toNat / 2 ^ k) with hb | hb
        · have HB := Lib.hid (show bit p (k : Int) = 0 by rw [hbn, hb]; rfl)
          have HR := Lib.hid (show (n * x).toNat / 2 ^ k % 2 = 0 by rw [hp]; exact hb)
          have HK0 := Lib.hid hk0
          have HO := Lib.hid ho
          clear hb hbn hp hk0 ho
          go_wp2_with fail
          refine (rMulE hP.out _).mono ?_
          rintro e w3 ⟨rfl, hx⟩
          have hs3 := hs.ext hx
          have hr3 := hr.ext hx
          have hx3 := hx'.ext hx
          have X3 := Lib.hid (HX_r.out.trans hx)
          have y3 := hx.size
          clear hx hs hr hx' s0 s1 sf0 sf1 x0 x1 xf0 xf1
          go_wp2_with fail
          refine (rBitE HB.out _).mono ?_
          rintro e w4 ⟨rfl, hx⟩
          have hs4 := hs3.ext hx
          have hr4 := hr3.ext hx
          have hx4 := hx3.ext hx
          have X4 := Lib.hid (X3.out.trans hx)
          have y4 := hx.size
          clear hx hs3 hr3 hx3 X3
          obtain ⟨x0, x1, xf0, xf1⟩ := hx4.two
          have zx4 : w.heap.size + 1 + 1 < w4.heap.size := by omega
          have ho2 := odd_add HNO.out hlt HO.out (by rw [HR.out, if_pos HK0.out]; decide)
          obtain ⟨l, hl⟩ : ∃ l, shl 1#128 (k : Int) = l := ⟨_, rfl⟩
          obtain ⟨y, hy⟩ : ∃ y, x + l = y := ⟨_, rfl⟩
          rw [hl, hy] at ho2
          have HL := Lib.hid hl; clear hl
          have HY := Lib.hid hy; clear hy
          have HO2 := Lib.hid ho2; clear ho2
          go_wp2_with fail
          try dsimp only
          repeat (first | with_reducible refine wp_region_ext ?_ [(0, 1), (1, 0), (2, 0), (3, 1), (4, 1), (5, 0), (6, 0), (7, 0), (8, 2)] (fun i => !(i == 8)) ?_ ?_ ?_ ?_ ?_ | go_step)
          · kernel_rfl
          · kernel_rfl
          · kernel_rfl
          · kernel_rfl
          · exact (fun _ _ d _ _ h => by cases d <;> exact h)
          refine run_read (o := ?_) (v := ?_) (a' := ?_) ?_ ?_ ?_ ?_ (Ext.refl _) ?_
          rotate_left 3
          · (simp only [List.getElem?_toArray, List.getElem?_cons_succ, List.getElem?_cons_zero] <;> rfl)
          · rfl
          · intro w' hw'
            obtain ⟨hc, hf⟩ := ext_cell hw'
            clear hw'
            go_simp
            with_reducible rfl
          · simp only [Act.put, List.setIfInBounds_toArray, List.set_cons_zero, List.set_cons_succ]
            rfl
          refine run_pure (o := ?_) (v := ?_) (a' := ?_) ?_ ?_ ?_ ?_ ?_
          rotate_left 3
          · (simp only [List.getElem?_toArray, List.getElem?_cons_succ, List.getElem?_cons_zero] <;> rfl)
          · rfl
          · intro w'
            go_simp
            with_reducible rfl
          · simp only [Act.put, List.setIfInBounds_toArray, List.set_cons_zero, List.set_cons_succ]
            rfl
          refine run_pure (o := ?_) (v := ?_) (a' := ?_) ?_ ?_ ?_ ?_ ?_
          rotate_left 3
          · (simp only [List.getElem?_toArray, List.getElem?_cons_succ, List.getElem?_cons_zero] <;> rfl)
          · rfl
          · intro w'
            go_simp
            with_reducible rfl
          · simp only [Act.put, List.setIfInBounds_toArray, List.set_cons_zero, List.set_cons_succ]
            rfl
          refine run_call (f := 69) (args := ?_) (o := ?_) (v := ?_) (a' := ?_) ?_ ?_ ?_ ?_ ?_ (Ext.refl _) ?_
          rotate_left 4
          · (simp only [List.getElem?_toArray, List.getElem?_cons_succ, List.getElem?_cons_zero] <;> rfl)
          · rfl
          · intro w'
            go_simp
            with_reducible rfl
          · intro w' hw'
            exact (rLeft1 HL.out _)
          · simp only [Act.put, List.setIfInBounds_toArray, List.set_cons_zero, List.set_cons_succ]
            rfl
          refine run_call (f := 68) (args := ?_) (o := ?_) (v := ?_) (a' := ?_) ?_ ?_ ?_ ?_ ?_ (Ext.refl _) ?_
          rotate_left 4
          · (simp only [List.getElem?_toArray, List.getElem?_cons_succ, List.getElem?_cons_zero] <;> rfl)
          · rfl
          · intro w'
            go_simp
            with_reducible rfl
          · intro w' hw'
            exact (rAddE HY.out _)
          · simp only [Act.put, List.setIfInBounds_toArray, List.set_cons_zero, List.set_cons_succ]
            rfl
          refine run_pure (o := ?_) (v := ?_) (a' := ?_) ?_ ?_ ?_ ?_ ?_
          rotate_left 3
          · (simp only [List.getElem?_toArray, List.getElem?_cons_succ, List.getElem?_cons_zero] <;> rfl)
          · rfl
          · intro w'
            go_simp
            with_reducible rfl
          · simp only [Act.put, List.setIfInBounds_toArray, List.set_cons_zero, List.set_cons_succ]
            rfl
          refine run_pure (o := ?_) (v := ?_) (a' := ?_) ?_ ?_ ?_ ?_ ?_
          rotate_left 3
          · (simp only [List.getElem?_toArray, List.getElem?_cons_succ, List.getElem?_cons_zero] <;> rfl)
          · rfl
          · intro w'
            go_simp
            with_reducible rfl
          · simp only [Act.put, List.setIfInBounds_toArray, List.set_cons_zero, List.set_cons_succ]
            rfl
          refine run_pure (o := ?_) (v := ?_) (a' := ?_) ?_ ?_ ?_ ?_ ?_
          rotate_left 3
          · (simp only [List.getElem?_toArray, List.getElem?_cons_succ, List.getElem?_cons_zero] <;> rfl)
          · rfl
          · intro w'
            go_simp
            with_reducible rfl
          · simp only [Act.put, List.setIfInBounds_toArray, List.set_cons_zero, List.set_cons_succ]
            rfl
          refine run_do (o := ?_) ?_ ?_ (fun a1 hx K hK => ?_)
          rotate_left
          · (simp only [List.getElem?_toArray, List.getElem?_cons_succ, List.getElem?_cons_zero] <;> rfl)
          · rfl
          have hc_a1 := (ext_cell hx).1
          have hf_a1 := (ext_cell hx).2
          have HX_a1 := Lib.hid hx
          have y_a1 := hx.size
          try simp at y_a1
          have z_a1_w_0 : w.heap.size < a1.heap.size := by omega
          have z_a1_w_1 : w.heap.size + 1 < a1.heap.size := by omega
          have z_a1_w_2 : w.heap.size + 2 < a1.heap.size := by omega
          clear hx
          go_simp
          refine hK _ _ (fun h => absurd h (by decide)) ?_
          clear hK K
          refine run_nil (fun a2 hx => ?_)
          have hc_a2 := (ext_cell hx).1
          have hf_a2 := (ext_cell hx).2
          have HX_a2 := Lib.hid hx
          have y_a2 := hx.size
          try simp at y_a2
          have z_a2_w_0 : w.heap.size < a2.heap.size := by omega
          have z_a2_w_1 : w.heap.size + 1 < a2.heap.size := by omega
          have z_a2_w_2 : w.heap.size + 2 < a2.heap.size := by omega
          clear hx
          go_wp2_with fail
          go_roundw
          case rel =>
            refine ⟨k + 1, y, by omega, by simp, HO2.out, ?_, by omega, ?_, ?_, ?_⟩
            · repeat (first | exact X4.out | (refine Ext.setCell ?_ (by simp <;> omega) _) | refine Ext.trans ?_ HX_a2.out | refine Ext.trans ?_ HX_a1.out)
            · exact (((hs4.ext HX_a1.out).other (by omega) _ _).other (by omega) _ _).ext HX_a2.out
            · exact (((hr4.ext HX_a1.out).other (by omega) _ _).other (by omega) _ _).ext HX_a2.out
            · exact (((hx4.ext HX_a1.out).set 0 _).set 1 _).ext HX_a2.out
          case measure => simp [intOf]; omega
        · have HB := Lib.hid (show bit p (k : Int) = 1 by rw [hbn, hb]; rfl)
          have HR := Lib.hid (show (n * x).toNat / 2 ^ k % 2 = 1 by rw [hp]; exact hb)
          have HK0 := Lib.hid hk0
          have HO := Lib.hid ho
          clear hb hbn hp hk0 ho
          go_wp2_with fail
          refine (rMulE hP.out _).mono ?_
          rintro e w3 ⟨rfl, hx⟩
          have hs3 := hs.ext hx
          have hr3 := hr.ext hx
          have hx3 := hx'.ext hx
          have X3 := Lib.hid (HX_r.out.trans hx)
          have y3 := hx.size
          clear hx hs hr hx' s0 s1 sf0 sf1 x0 x1 xf0 xf1
          go_wp2_with fail
          refine (rBitE HB.out _).mono ?_
          rintro e w4 ⟨rfl, hx⟩
          have hs4 := hs3.ext hx
          have hr4 := hr3.ext hx
          have hx4 := hx3.ext hx
          have X4 := Lib.hid (X3.out.trans hx)
          have y4 := hx.size
          clear hx hs3 hr3 hx3 X3
          obtain ⟨x0, x1, xf0, xf1⟩ := hx4.two
          have zx4 : w.heap.size + 1 + 1 < w4.heap.size := by omega
          go_wp2_with fail
          go_roundw
          case rel => exact ⟨k + 1, x, by omega, by simp, odd_keep HO.out (by rw [HR.out, if_pos HK0.out]), X4.out, by omega, hs4, hr4, hx4⟩
          case measure => simp [intOf]; omega
      · have t1 : decide ((k : Int) = 0) = false := decide_eq_false (by omega)
        have t2 : ((k : Int) == 0) = false := by simp; omega
        have t3 : decide (k = 0) = false := decide_eq_false hk0
        rcases Nat.mod_two_eq_zero_or_one (p.toNat / 2 ^ k) with hb | hb
        · have HB := Lib.hid (show bit p (k : Int) = 0 by rw [hbn, hb]; rfl)
          have HR := Lib.hid (show (n * x).toNat / 2 ^ k % 2 = 0 by rw [hp]; exact hb)
          have HK0 := Lib.hid hk0
          have HO := Lib.hid ho
          clear hb hbn hp hk0 ho
          go_wp2_with fail
          refine (rMulE hP.out _).mono ?_
          rintro e w3 ⟨rfl, hx⟩
          have hs3 := hs.ext hx
          have hr3 := hr.ext hx
          have hx3 := hx'.ext hx
          have X3 := Lib.hid (HX_r.out.trans hx)
          have y3 := hx.size
          clear hx hs hr hx' s0 s1 sf0 sf1 x0 x1 xf0 xf1
          go_wp2_with fail
          refine (rBitE HB.out _).mono ?_
          rintro e w4 ⟨rfl, hx⟩
          have hs4 := hs3.ext hx
          have hr4 := hr3.ext hx
          have hx4 := hx3.ext hx
          have X4 := Lib.hid (X3.out.trans hx)
          have y4 := hx.size
          clear hx hs3 hr3 hx3 X3
          obtain ⟨x0, x1, xf0, xf1⟩ := hx4.two
          have zx4 : w.heap.size + 1 + 1 < w4.heap.size := by omega
          go_wp2_with fail
          go_roundw
          case rel => exact ⟨k + 1, x, by omega, by simp, odd_keep HO.out (by rw [HR.out, if_neg HK0.out]), X4.out, by omega, hs4, hr4, hx4⟩
          case measure => simp [intOf]; omega
        · have HB := Lib.hid (show bit p (k : Int) = 1 by rw [hbn, hb]; rfl)
          have HR := Lib.hid (show (n * x).toNat / 2 ^ k % 2 = 1 by rw [hp]; exact hb)
          have HK0 := Lib.hid hk0
          have HO := Lib.hid ho
          clear hb hbn hp hk0 ho
          go_wp2_with fail
          refine (rMulE hP.out _).mono ?_
          rintro e w3 ⟨rfl, hx⟩
          have hs3 := hs.ext hx
          have hr3 := hr.ext hx
          have hx3 := hx'.ext hx
          have X3 := Lib.hid (HX_r.out.trans hx)
          have y3 := hx.size
          clear hx hs hr hx' s0 s1 sf0 sf1 x0 x1 xf0 xf1
          go_wp2_with fail
          refine (rBitE HB.out _).mono ?_
          rintro e w4 ⟨rfl, hx⟩
          have hs4 := hs3.ext hx
          have hr4 := hr3.ext hx
          have hx4 := hx3.ext hx
          have X4 := Lib.hid (X3.out.trans hx)
          have y4 := hx.size
          clear hx hs3 hr3 hx3 X3
          obtain ⟨x0, x1, xf0, xf1⟩ := hx4.two
          have zx4 : w.heap.size + 1 + 1 < w4.heap.size := by omega
          have ho2 := odd_add HNO.out hlt HO.out (by rw [HR.out, if_neg HK0.out]; decide)
          obtain ⟨l, hl⟩ : ∃ l, shl 1#128 (k : Int) = l := ⟨_, rfl⟩
          obtain ⟨y, hy⟩ : ∃ y, x + l = y := ⟨_, rfl⟩
          rw [hl, hy] at ho2
          have HL := Lib.hid hl; clear hl
          have HY := Lib.hid hy; clear hy
          have HO2 := Lib.hid ho2; clear ho2
          go_wp2_with fail
          try dsimp only
          repeat (first | with_reducible refine wp_region_ext ?_ [(0, 1), (1, 0), (2, 0), (3, 1), (4, 1), (5, 0), (6, 0), (7, 0), (8, 2)] (fun i => !(i == 8)) ?_ ?_ ?_ ?_ ?_ | go_step)
          · kernel_rfl
          · kernel_rfl
          · kernel_rfl
          · kernel_rfl
          · exact (fun _ _ d _ _ h => by cases d <;> exact h)
          refine run_read (o := ?_) (v := ?_) (a' := ?_) ?_ ?_ ?_ ?_ (Ext.refl _) ?_
          rotate_left 3
          · (simp only [List.getElem?_toArray, List.getElem?_cons_succ, List.getElem?_cons_zero] <;> rfl)
          · rfl
          · intro w' hw'
            obtain ⟨hc, hf⟩ := ext_cell hw'
            clear hw'
            go_simp
            with_reducible rfl
          · simp only [Act.put, List.setIfInBounds_toArray, List.set_cons_zero, List.set_cons_succ]
            rfl
          refine run_pure (o := ?_) (v := ?_) (a' := ?_) ?_ ?_ ?_ ?_ ?_
          rotate_left 3
          · (simp only [List.getElem?_toArray, List.getElem?_cons_succ, List.getElem?_cons_zero] <;> rfl)
          · rfl
          · intro w'
            go_simp
            with_reducible rfl
          · simp only [Act.put, List.setIfInBounds_toArray, List.set_cons_zero, List.set_cons_succ]
            rfl
          refine run_pure (o := ?_) (v := ?_) (a' := ?_) ?_ ?_ ?_ ?_ ?_
          rotate_left 3
          · (simp only [List.getElem?_toArray, List.getElem?_cons_succ, List.getElem?_cons_zero] <;> rfl)
          · rfl
          · intro w'
            go_simp
            with_reducible rfl
          · simp only [Act.put, List.setIfInBounds_toArray, List.set_cons_zero, List.set_cons_succ]
            rfl
          refine run_call (f := 69) (args := ?_) (o := ?_) (v := ?_) (a' := ?_) ?_ ?_ ?_ ?_ ?_ (Ext.refl _) ?_
          rotate_left 4
          · (simp only [List.getElem?_toArray, List.getElem?_cons_succ, List.getElem?_cons_zero] <;> rfl)
          · rfl
          · intro w'
            go_simp
            with_reducible rfl
          · intro w' hw'
            exact (rLeft1 HL.out _)
          · simp only [Act.put, List.setIfInBounds_toArray, List.set_cons_zero, List.set_cons_succ]
            rfl
          refine run_call (f := 68) (args := ?_) (o := ?_) (v := ?_) (a' := ?_) ?_ ?_ ?_ ?_ ?_ (Ext.refl _) ?_
          rotate_left 4
          · (simp only [List.getElem?_toArray, List.getElem?_cons_succ, List.getElem?_cons_zero] <;> rfl)
          · rfl
          · intro w'
            go_simp
            with_reducible rfl
          · intro w' hw'
            exact (rAddE HY.out _)
          · simp only [Act.put, List.setIfInBounds_toArray, List.set_cons_zero, List.set_cons_succ]
            rfl
          refine run_pure (o := ?_) (v := ?_) (a' := ?_) ?_ ?_ ?_ ?_ ?_
          rotate_left 3
          · (simp only [List.getElem?_toArray, List.getElem?_cons_succ, List.getElem?_cons_zero] <;> rfl)
          · rfl
          · intro w'
            go_simp
            with_reducible rfl
          · simp only [Act.put, List.setIfInBounds_toArray, List.set_cons_zero, List.set_cons_succ]
            rfl
          refine run_pure (o := ?_) (v := ?_) (a' := ?_) ?_ ?_ ?_ ?_ ?_
          rotate_left 3
          · (simp only [List.getElem?_toArray, List.getElem?_cons_succ, List.getElem?_cons_zero] <;> rfl)
          · rfl
          · intro w'
            go_simp
            with_reducible rfl
          · simp only [Act.put, List.setIfInBounds_toArray, List.set_cons_zero, List.set_cons_succ]
            rfl
          refine run_pure (o := ?_) (v := ?_) (a' := ?_) ?_ ?_ ?_ ?_ ?_
          rotate_left 3
          · (simp only [List.getElem?_toArray, List.getElem?_cons_succ, List.getElem?_cons_zero] <;> rfl)
          · rfl
          · intro w'
            go_simp
            with_reducible rfl
          · simp only [Act.put, List.setIfInBounds_toArray, List.set_cons_zero, List.set_cons_succ]
            rfl
          refine run_do (o := ?_) ?_ ?_ (fun a1 hx K hK => ?_)
          rotate_left
          · (simp only [List.getElem?_toArray, List.getElem?_cons_succ, List.getElem?_cons_zero] <;> rfl)
          · rfl
          have hc_a1 := (ext_cell hx).1
          have hf_a1 := (ext_cell hx).2
          have HX_a1 := Lib.hid hx
          have y_a1 := hx.size
          try simp at y_a1
          have z_a1_w_0 : w.heap.size < a1.heap.size := by omega
          have z_a1_w_1 : w.heap.size + 1 < a1.heap.size := by omega
          have z_a1_w_2 : w.heap.size + 2 < a1.heap.size := by omega
          clear hx
          go_simp
          refine hK _ _ (fun h => absurd h (by decide)) ?_
          clear hK K
          refine run_nil (fun a2 hx => ?_)
          have hc_a2 := (ext_cell hx).1
          have hf_a2 := (ext_cell hx).2
          have HX_a2 := Lib.hid hx
          have y_a2 := hx.size
          try simp at y_a2
          have z_a2_w_0 : w.heap.size < a2.heap.size := by omega
          have z_a2_w_1 : w.heap.size + 1 < a2.heap.size := by omega
          have z_a2_w_2 : w.heap.size + 2 < a2.heap.size := by omega
          clear hx
          go_wp2_with fail
          go_roundw
          case rel =>
            refine ⟨k + 1, y, by omega, by simp, HO2.out, ?_, by omega, ?_, ?_, ?_⟩
            · repeat (first | exact X4.out | (refine Ext.setCell ?_ (by simp <;> omega) _) | refine Ext.trans ?_ HX_a2.out | refine Ext.trans ?_ HX_a1.out)
            · exact (((hs4.ext HX_a1.out).other (by omega) _ _).other (by omega) _ _).ext HX_a2.out
            · exact (((hr4.ext HX_a1.out).other (by omega) _ _).other (by omega) _ _).ext HX_a2.out
            · exact (((hx4.ext HX_a1.out).set 0 _).set 1 _).ext HX_a2.out
          case measure => simp [intOf]; omega
    · have e : k = 128 := by omega
      subst e
      have he := odd_end HNO.out ho
      subst he
      obtain ⟨r0, r1, rf0, rf1⟩ := hr.two
      clear hs hr hx' ho
      go_wp2_with fail
      refine bodyPost_ret (v := ?_) ?_ rfl ⟨?_, ?_⟩
      rotate_left
      · simp only [results, Try.results30]
        go_simp
        with_reducible rfl
      · rfl
      · repeat (first | exact HX_r.out | (refine Ext.setCell ?_ (by simp <;> omega) _))
end Go.Proofs.Ytjjapblpmpidcaa
