import Derived.Test.YtjjapblpmpidcaaX5
set_option linter.unusedVariables false
set_option linter.unusedSimpArgs false
namespace Go.Proofs.Ytjjapblpmpidcaa
open Go.RowKit Num UReg

def compl (b : V) : Nat → Int := fun k => 4294967295 - dg b k
theorem dig_compl (b : V) : Dig (compl b) := fun k => by have := dg_bounds b k; unfold compl; omega
theorem compl_add (a b : V) : a + wholeV (compl b) + mk 0 1 = a - b := by
  have e : wholeV (compl b) = 0#128 - b - mk 0 1 := by
    apply BitVec.eq_of_toNat_eq
    have h1 := toNat_eq (wholeV (compl b))
    rw [hi_whole _ (dig_compl b), lo_whole _ (dig_compl b)] at h1
    have e0 := dg0 b; have e1 := dg1 b; have e2 := dg2 b; have e3 := dg3 b
    have h2 := toNat_eq b
    have h3 := b.isLt
    have c0 : compl b 0 = 4294967295 - dg b 0 := rfl
    have c1 : compl b 1 = 4294967295 - dg b 1 := rfl
    have c2 : compl b 2 = 4294967295 - dg b 2 := rfl
    have c3 : compl b 3 = 4294967295 - dg b 3 := rfl
    rw [BitVec.toNat_sub, BitVec.toNat_sub, show (mk 0 1).toNat = 1 from by decide +kernel, show (0#128).toNat = 0 from rfl, show (2 : Nat) ^ 128 = 340282366920938463463374607431768211456 from rfl]
    rw [show (2 : Nat) ^ 128 = 340282366920938463463374607431768211456 from rfl] at h3
    omega
  rw [e, show mk 0 1 = 1#128 from by decide +kernel]
  grind
def subTo (b : V) (k : Nat) : Nat → Int := fun j => if j < k then compl b j else dg b j
theorem subTo_0 (b : V) : subTo b 0 = dg b := by funext j; simp [subTo]
theorem subTo_succ (b : V) (k : Nat) : upd (subTo b k) k (compl b k) = subTo b (k + 1) := by
  funext j
  unfold upd subTo
  by_cases h : j = k
  · subst h; simp
  · rw [if_neg h]
    by_cases h2 : j < k
    · rw [if_pos h2, if_pos (by omega)]
    · rw [if_neg h2, if_neg (by omega)]
theorem subTo_self (b : V) (k : Nat) : subTo b k k = dg b k := by simp [subTo]
theorem subTo_4 (b : V) : c4 (subTo b 4) = c4 (compl b) := by simp [c4, subTo]
theorem rWholeC (b : V) (w : World) : Calls Try.prog 89 #[.agg #[.int .u64 (compl b 0), .int .u64 (compl b 1), .int .u64 (compl b 2), .int .u64 (compl b 3)]] w fun e w' =>
    e = .returned (.agg #[.int .u64 (hi (wholeV (compl b))), .int .u64 (lo (wholeV (compl b)))]) ∧ Ext w w' := rWhole (compl b) (dig_compl b) w
theorem rAddE {a b s : V} (h : a + b = s) (w : World) : Calls Try.prog 68 #[.agg #[.int .u64 (hi a), .int .u64 (lo a)], .agg #[.int .u64 (hi b), .int .u64 (lo b)]] w fun e w' =>
    e = .returned (.tuple #[.agg #[.int .u64 (hi s), .int .u64 (lo s)], .bool (over a b)]) ∧ Ext w w' := by
  have h1 := rAdd a b w
  rwa [h] at h1
theorem rAdd1 {a s : V} (h : a + mk 0 1 = s) (w : World) : Calls Try.prog 68 #[.agg #[.int .u64 (hi a), .int .u64 (lo a)], .agg #[.int .u64 0, .int .u64 1]] w fun e w' =>
    e = .returned (.tuple #[.agg #[.int .u64 (hi s), .int .u64 (lo s)], .bool (over a (mk 0 1))]) ∧ Ext w w' := by
  have h1 := rAddE h w
  rwa [show hi (mk 0 1) = 0 from by decide +kernel, show lo (mk 0 1) = 1 from by decide +kernel] at h1
theorem less_words (a b : V) : less a b = (decide (hi a < hi b) || (decide (hi a = hi b) && decide (lo a < lo b))) := by
  have h1 := toNat_eq a
  have h2 := toNat_eq b
  obtain ⟨a0, a1⟩ := word_lo a
  obtain ⟨b0, b1⟩ := word_lo b
  rw [Bool.eq_iff_iff]
  simp only [less, Bool.or_eq_true, Bool.and_eq_true, decide_eq_true_eq]
  omega

set_option maxHeartbeats 2000000 in
theorem rSub (a b : V) (w : World) : Calls Try.prog 71 #[.agg #[.int .u64 (hi a), .int .u64 (lo a)], .agg #[.int .u64 (hi b), .int .u64 (lo b)]] w fun e w' =>
    e = .returned (.tuple #[.agg #[.int .u64 (hi (a - b)), .int .u64 (lo (a - b))], .bool (less a b)]) ∧ Ext w w' := by
  obtain ⟨s, hs⟩ : ∃ s, a + wholeV (compl b) = s := ⟨_, rfl⟩
  have hd := compl_add a b
  rw [hs] at hd
  have HS := Lib.hid hs; clear hs
  have HD := Lib.hid hd; clear hd
  obtain ⟨d, hd⟩ : ∃ d, a - b = d := ⟨_, rfl⟩
  rw [hd] at HD ⊢
  clear hd
  have hls := less_words a b
  obtain ⟨u, hu⟩ : ∃ u, less a b = u := ⟨_, rfl⟩
  rw [hu] at hls ⊢
  clear hu
  have HLS := Lib.hid hls; clear hls
  go_enter Try.func71, Try.ntmps71
  go_wp2_with fail
  refine (rDigits _ _).mono ?_
  rintro e w1 ⟨rfl, hx⟩
  have hc_w1 := (ext_cell hx).1
  have hf_w1 := (ext_cell hx).2
  have HX_w1 := Lib.hid hx
  have y_w1 := hx.size
  try simp at y_w1
  have z_w1_w_0 : w.heap.size < w1.heap.size := by omega
  have z_w1_w_1 : w.heap.size + 1 < w1.heap.size := by omega
  have z_w1_w_2 : w.heap.size + 2 < w1.heap.size := by omega
  clear hx
  go_wp2_with fail
  go_loopw [7] (fun j wr => ∃ k : Nat, k ≤ 4 ∧ j = .int .i64 k ∧ Ext w wr ∧ w1.heap.size < wr.heap.size
      ∧ Cells wr w1.heap.size (c4 (subTo b k)) ∧ Cells wr w.heap.size [.int .u64 (hi a), .int .u64 (lo a)] ∧ Cells wr (w.heap.size + 1) [.int .u64 (hi b), .int .u64 (lo b)] ∧ Cells wr (w.heap.size + 1 + 1) [.int .u64 0, .int .u64 0])
    (fun j _ => 4 - (intOf j).toNat)
  case atStart =>
    refine ⟨0, by omega, rfl, ?_, by simp, ?_, ?_, ?_, ?_⟩
    · repeat (first | with_reducible exact Ext.refl _ | with_reducible refine Ext.alloc ?_ _ | (with_reducible refine Ext.setCell ?_ (by simp <;> omega) _) | with_reducible refine Ext.drew ?_ | with_reducible refine Ext.trans ?_ HX_w1.out)
    · rw [subTo_0]
      exact Cells.mk4 (by go_simp <;> rfl) (by go_simp <;> rfl) (by go_simp <;> rfl) (by go_simp <;> rfl) (by go_simp) (by go_simp) (by go_simp) (by go_simp)
    · exact Cells.mk2 (by go_simp <;> rfl) (by go_simp <;> rfl) (by go_simp) (by go_simp)
    · exact Cells.mk2 (by go_simp <;> rfl) (by go_simp <;> rfl) (by go_simp) (by go_simp)
    · exact Cells.mk2 (by go_simp <;> rfl) (by go_simp <;> rfl) (by go_simp) (by go_simp)
  case round =>
    obtain ⟨k, hk, rfl, HX, z1, hy, ha, hb, hr⟩ := hrel
    have HX_r := Lib.hid HX; clear HX
    have z0 : w.heap.size < wr.heap.size := by omega
    have zb : w.heap.size + 1 < wr.heap.size := by omega
    have zr : w.heap.size + 1 + 1 < wr.heap.size := by omega
    clear hc_w1 hf_w1 HX_w1
    by_cases hlt : k < 4
    · obtain ⟨s0, sf0⟩ := c4_get hy k hlt
      rw [subTo_self] at s0
      have g1 := dg_bounds b k
      obtain ⟨x, hx⟩ : ∃ x, dg b k = x := ⟨_, rfl⟩
      rw [hx] at s0 g1
      have k1 : IntKind.u64.wrap (4294967295 - x) = 4294967295 - x := IntWalk.u64_in _ (by omega)
      have hcx : compl b k = 4294967295 - x := by unfold compl; rw [hx]
      have HC := Lib.hid hcx; clear hcx
      clear hx
      go_wp2_with fail
      go_roundw
      case rel =>
        refine ⟨k + 1, by omega, by simp, HX_r.out.setCell (by simp; omega) _, by simp; omega, ?_, ?_, ?_, ?_⟩
        · rw [← subTo_succ, HC.out]
          exact c4_set hy k hlt _
        · exact ha.other (by omega) _ _
        · exact hb.other (by omega) _ _
        · exact hr.other (by omega) _ _
      case measure => simp [intOf]; omega
    · have e : k = 4 := by omega
      subst e
      rw [subTo_4] at hy
      obtain ⟨s0, s1, s2, s3, sf0, sf1, sf2, sf3⟩ := c4_four hy
      obtain ⟨a0, a1, af0, af1⟩ := ha.two
      obtain ⟨b0, b1, bf0, bf1⟩ := hb.two
      obtain ⟨r0, r1, rf0, rf1⟩ := hr.two
      clear hy ha hb hr
      try dsimp only
      repeat (first | with_reducible refine wp_region_ext ?_ [(0, 1), (1, 1), (2, 1), (3, 1), (4, 0), (5, 0), (6, 0), (7, 2), (8, 2), (9, 0)] (fun _ => true) ?_ ?_ ?_ ?_ ?_ | go_step)
      · kernel_rfl
      · kernel_rfl
      · kernel_rfl
      · kernel_rfl
      · exact (fun _ _ d _ _ h => by cases d <;> exact h)
      refine run_read (o := ?_) (v := ?_) (a' := ?_) ?_ ?_ ?_ ?_ (Ext.refl _) ?_
      rotate_left 3
      · (simp only [List.getElem?_toArray, List.getElem?_cons_succ, List.getElem?_cons_zero] <;> rfl)
      · rfl
      · intro w' hw'
        obtain ⟨hc, hf⟩ := ext_cell hw'
        clear hw'
        go_simp
        with_reducible rfl
      · simp only [Act.put, List.setIfInBounds_toArray, List.set_cons_zero, List.set_cons_succ]
        rfl
      refine run_read (o := ?_) (v := ?_) (a' := ?_) ?_ ?_ ?_ ?_ (Ext.refl _) ?_
      rotate_left 3
      · (simp only [List.getElem?_toArray, List.getElem?_cons_succ, List.getElem?_cons_zero] <;> rfl)
      · rfl
      · intro w' hw'
        obtain ⟨hc, hf⟩ := ext_cell hw'
        clear hw'
        go_simp
        with_reducible rfl
      · simp only [Act.put, List.setIfInBounds_toArray, List.set_cons_zero, List.set_cons_succ]
        rfl
      refine run_call (f := 89) (args := ?_) (o := ?_) (v := ?_) (a' := ?_) ?_ ?_ ?_ ?_ ?_ (Ext.refl _) ?_
      rotate_left 4
      · (simp only [List.getElem?_toArray, List.getElem?_cons_succ, List.getElem?_cons_zero] <;> rfl)
      · rfl
      · intro w'
        go_simp
        with_reducible rfl
      · intro w' hw'
        exact (rWholeC b _)
      · simp only [Act.put, List.setIfInBounds_toArray, List.set_cons_zero, List.set_cons_succ]
        rfl
      refine run_call (f := 68) (args := ?_) (o := ?_) (v := ?_) (a' := ?_) ?_ ?_ ?_ ?_ ?_ (Ext.refl _) ?_
      rotate_left 4
      · (simp only [List.getElem?_toArray, List.getElem?_cons_succ, List.getElem?_cons_zero] <;> rfl)
      · rfl
      · intro w'
        go_simp
        with_reducible rfl
      · intro w' hw'
        exact (rAddE HS.out _)
      · simp only [Act.put, List.setIfInBounds_toArray, List.set_cons_zero, List.set_cons_succ]
        rfl
      refine run_pure (o := ?_) (v := ?_) (a' := ?_) ?_ ?_ ?_ ?_ ?_
      rotate_left 3
      · (simp only [List.getElem?_toArray, List.getElem?_cons_succ, List.getElem?_cons_zero] <;> rfl)
      · rfl
      · intro w'
        go_simp
        with_reducible rfl
      · simp only [Act.put, List.setIfInBounds_toArray, List.set_cons_zero, List.set_cons_succ]
        rfl
      refine run_pure (o := ?_) (v := ?_) (a' := ?_) ?_ ?_ ?_ ?_ ?_
      rotate_left 3
      · (simp only [List.getElem?_toArray, List.getElem?_cons_succ, List.getElem?_cons_zero] <;> rfl)
      · rfl
      · intro w'
        go_simp
        with_reducible rfl
      · simp only [Act.put, List.setIfInBounds_toArray, List.set_cons_zero, List.set_cons_succ]
        rfl
      refine run_pure (o := ?_) (v := ?_) (a' := ?_) ?_ ?_ ?_ ?_ ?_
      rotate_left 3
      · (simp only [List.getElem?_toArray, List.getElem?_cons_succ, List.getElem?_cons_zero] <;> rfl)
      · rfl
      · intro w'
        go_simp
        with_reducible rfl
      · simp only [Act.put, List.setIfInBounds_toArray, List.set_cons_zero, List.set_cons_succ]
        rfl
      refine run_do (o := ?_) ?_ ?_ (fun d1 hx K hK => ?_)
      rotate_left
      · (simp only [List.getElem?_toArray, List.getElem?_cons_succ, List.getElem?_cons_zero] <;> rfl)
      · rfl
      have hc_d1 := (ext_cell hx).1
      have hf_d1 := (ext_cell hx).2
      have HX_d1 := Lib.hid hx
      have y_d1 := hx.size
      try simp at y_d1
      have z_d1_w_0 : w.heap.size < d1.heap.size := by omega
      have z_d1_w_1 : w.heap.size + 1 < d1.heap.size := by omega
      have z_d1_w_2 : w.heap.size + 2 < d1.heap.size := by omega
      have z_d1_w1_0 : w1.heap.size < d1.heap.size := by omega
      clear hx
      go_simp
      refine hK _ _ (fun _ hs => hs.alloc _) ?_
      clear hK K
      try simp only [Act.put, List.setIfInBounds_toArray, List.set_cons_zero, List.set_cons_succ]
      refine run_do (o := ?_) ?_ ?_ (fun d2 hx K hK => ?_)
      rotate_left
      · (simp only [List.getElem?_toArray, List.getElem?_cons_succ, List.getElem?_cons_zero] <;> rfl)
      · rfl
      have hc_d2 := (ext_cell hx).1
      have hf_d2 := (ext_cell hx).2
      have HX_d2 := Lib.hid hx
      have y_d2 := hx.size
      try simp at y_d2
      have z_d2_w_0 : w.heap.size < d2.heap.size := by omega
      have z_d2_w_1 : w.heap.size + 1 < d2.heap.size := by omega
      have z_d2_w_2 : w.heap.size + 2 < d2.heap.size := by omega
      have z_d2_w1_0 : w1.heap.size < d2.heap.size := by omega
      have z_d2_d1_0 : d1.heap.size < d2.heap.size := by omega
      clear hx
      go_simp
      refine hK _ _ (fun _ hs => ?_) ?_
      · repeat (first | exact hs | (refine Ext.setCell ?_ (by simp <;> omega) _))
      clear hK K
      refine run_pure (o := ?_) (v := ?_) (a' := ?_) ?_ ?_ ?_ ?_ ?_
      rotate_left 3
      · (simp only [List.getElem?_toArray, List.getElem?_cons_succ, List.getElem?_cons_zero] <;> rfl)
      · rfl
      · intro w'
        go_simp
        with_reducible rfl
      · simp only [Act.put, List.setIfInBounds_toArray, List.set_cons_zero, List.set_cons_succ]
        rfl
      refine run_nil (fun d3 hx => ?_)
      have hc_d3 := (ext_cell hx).1
      have hf_d3 := (ext_cell hx).2
      have HX_d3 := Lib.hid hx
      have y_d3 := hx.size
      try simp at y_d3
      have z_d3_w_0 : w.heap.size < d3.heap.size := by omega
      have z_d3_w_1 : w.heap.size + 1 < d3.heap.size := by omega
      have z_d3_w_2 : w.heap.size + 2 < d3.heap.size := by omega
      have z_d3_w1_0 : w1.heap.size < d3.heap.size := by omega
      have z_d3_d1_0 : d1.heap.size < d3.heap.size := by omega
      clear hx
      go_wp2_with fail
      refine (rAdd1 HD.out _).mono ?_
      rintro e w2 ⟨rfl, hx⟩
      have hc_w2 := (ext_cell hx).1
      have hf_w2 := (ext_cell hx).2
      have HX_w2 := Lib.hid hx
      have y_w2 := hx.size
      try simp at y_w2
      have z_w2_w_0 : w.heap.size < w2.heap.size := by omega
      have z_w2_w_1 : w.heap.size + 1 < w2.heap.size := by omega
      have z_w2_w_2 : w.heap.size + 2 < w2.heap.size := by omega
      have z_w2_w1_0 : w1.heap.size < w2.heap.size := by omega
      have z_w2_d1_0 : d1.heap.size < w2.heap.size := by omega
      clear hx
      have nq0 : w.heap.size ≠ w.heap.size + 1 + 1 := by omega
      have nq1 : w.heap.size + 1 ≠ w.heap.size + 1 + 1 := by omega
      have nq : w2.heap.size ≠ w.heap.size + 1 + 1 := by omega
      rcases Int.lt_trichotomy (hi a) (hi b) with h | h | h
      · have t1 : decide (hi a < hi b) = true := decide_eq_true h
        obtain rfl : u = true := by rw [HLS.out, t1]; rfl
        clear h HLS
        try dsimp only
        repeat (first | with_reducible refine wp_region_but (w.heap.size + 1 + 1) ?_ [(0, 1), (1, 0), (2, 1), (3, 0), (4, 1), (5, 0), (6, 0), (7, 0), (8, 0), (9, 0), (10, 0), (11, 0), (12, 0), (13, 0), (14, 0), (15, 0), (16, 0), (17, 0), (18, 0), (19, 0), (20, 2), (21, 0)] (fun _ => true) ?_ ?_ ?_ ?_ ?_ | go_step)
        · kernel_rfl
        · kernel_rfl
        · kernel_rfl
        · kernel_rfl
        · exact (fun _ _ d _ _ h => by cases d <;> exact h)
        refine run_read (o := ?_) (v := ?_) (a' := ?_) ?_ ?_ ?_ ?_ (ExtBut.refl _ _) ?_
        rotate_left 3
        · (simp only [List.getElem?_toArray, List.getElem?_cons_succ, List.getElem?_cons_zero] <;> rfl)
        · rfl
        · intro w' hw'
          obtain ⟨hc, hf⟩ := but_cell hw'
          clear hw'
          go_simp
          with_reducible rfl
        · simp only [Act.put, List.setIfInBounds_toArray, List.set_cons_zero, List.set_cons_succ]
          rfl
        refine run_pure (o := ?_) (v := ?_) (a' := ?_) ?_ ?_ ?_ ?_ ?_
        rotate_left 3
        · (simp only [List.getElem?_toArray, List.getElem?_cons_succ, List.getElem?_cons_zero] <;> rfl)
        · rfl
        · intro w'
          go_simp
          with_reducible rfl
        · simp only [Act.put, List.setIfInBounds_toArray, List.set_cons_zero, List.set_cons_succ]
          rfl
        refine run_read (o := ?_) (v := ?_) (a' := ?_) ?_ ?_ ?_ ?_ (ExtBut.refl _ _) ?_
        rotate_left 3
        · (simp only [List.getElem?_toArray, List.getElem?_cons_succ, List.getElem?_cons_zero] <;> rfl)
        · rfl
        · intro w' hw'
          obtain ⟨hc, hf⟩ := but_cell hw'
          clear hw'
          go_simp
          with_reducible rfl
        · simp only [Act.put, List.setIfInBounds_toArray, List.set_cons_zero, List.set_cons_succ]
          rfl
        refine run_pure (o := ?_) (v := ?_) (a' := ?_) ?_ ?_ ?_ ?_ ?_
        rotate_left 3
        · (simp only [List.getElem?_toArray, List.getElem?_cons_succ, List.getElem?_cons_zero] <;> rfl)
        · rfl
        · intro w'
          go_simp
          with_reducible rfl
        · simp only [Act.put, List.setIfInBounds_toArray, List.set_cons_zero, List.set_cons_succ]
          rfl
        refine run_read (o := ?_) (v := ?_) (a' := ?_) ?_ ?_ ?_ ?_ (ExtBut.refl _ _) ?_
        rotate_left 3
        · (simp only [List.getElem?_toArray, List.getElem?_cons_succ, List.getElem?_cons_zero] <;> rfl)
        · rfl
        · intro w' hw'
          obtain ⟨hc, hf⟩ := but_cell hw'
          clear hw'
          go_simp
          with_reducible rfl
        · simp only [Act.put, List.setIfInBounds_toArray, List.set_cons_zero, List.set_cons_succ]
          rfl
        refine run_pure (o := ?_) (v := ?_) (a' := ?_) ?_ ?_ ?_ ?_ ?_
        rotate_left 3
        · (simp only [List.getElem?_toArray, List.getElem?_cons_succ, List.getElem?_cons_zero] <;> rfl)
        · rfl
        · intro w'
          go_simp
          with_reducible rfl
        · simp only [Act.put, List.setIfInBounds_toArray, List.set_cons_zero, List.set_cons_succ]
          rfl
        refine run_pure (o := ?_) (v := ?_) (a' := ?_) ?_ ?_ ?_ ?_ ?_
        rotate_left 3
        · (simp only [List.getElem?_toArray, List.getElem?_cons_succ, List.getElem?_cons_zero] <;> rfl)
        · rfl
        · intro w'
          go_simp
          with_reducible rfl
        · simp only [Act.put, List.setIfInBounds_toArray, List.set_cons_zero, List.set_cons_succ]
          rfl
        refine run_off (o := ?_) (a' := ?_) ?_ ?_ ?_ ?_
        rotate_left 2
        · (simp only [List.getElem?_toArray, List.getElem?_cons_succ, List.getElem?_cons_zero] <;> rfl)
        · rfl
        · simp only [Act.put, List.setIfInBounds_toArray, List.set_cons_zero, List.set_cons_succ]
          rfl
        refine run_off (o := ?_) (a' := ?_) ?_ ?_ ?_ ?_
        rotate_left 2
        · (simp only [List.getElem?_toArray, List.getElem?_cons_succ, List.getElem?_cons_zero] <;> rfl)
        · rfl
        · simp only [Act.put, List.setIfInBounds_toArray, List.set_cons_zero, List.set_cons_succ]
          rfl
        refine run_off (o := ?_) (a' := ?_) ?_ ?_ ?_ ?_
        rotate_left 2
        · (simp only [List.getElem?_toArray, List.getElem?_cons_succ, List.getElem?_cons_zero] <;> rfl)
        · rfl
        · simp only [Act.put, List.setIfInBounds_toArray, List.set_cons_zero, List.set_cons_succ]
          rfl
        refine run_off (o := ?_) (a' := ?_) ?_ ?_ ?_ ?_
        rotate_left 2
        · (simp only [List.getElem?_toArray, List.getElem?_cons_succ, List.getElem?_cons_zero] <;> rfl)
        · rfl
        · simp only [Act.put, List.setIfInBounds_toArray, List.set_cons_zero, List.set_cons_succ]
          rfl
        refine run_off (o := ?_) (a' := ?_) ?_ ?_ ?_ ?_
        rotate_left 2
        · (simp only [List.getElem?_toArray, List.getElem?_cons_succ, List.getElem?_cons_zero] <;> rfl)
        · rfl
        · simp only [Act.put, List.setIfInBounds_toArray, List.set_cons_zero, List.set_cons_succ]
          rfl
        refine run_off (o := ?_) (a' := ?_) ?_ ?_ ?_ ?_
        rotate_left 2
        · (simp only [List.getElem?_toArray, List.getElem?_cons_succ, List.getElem?_cons_zero] <;> rfl)
        · rfl
        · simp only [Act.put, List.setIfInBounds_toArray, List.set_cons_zero, List.set_cons_succ]
          rfl
        refine run_off (o := ?_) (a' := ?_) ?_ ?_ ?_ ?_
        rotate_left 2
        · (simp only [List.getElem?_toArray, List.getElem?_cons_succ, List.getElem?_cons_zero] <;> rfl)
        · rfl
        · simp only [Act.put, List.setIfInBounds_toArray, List.set_cons_zero, List.set_cons_succ]
          rfl
        refine run_off (o := ?_) (a' := ?_) ?_ ?_ ?_ ?_
        rotate_left 2
        · (simp only [List.getElem?_toArray, List.getElem?_cons_succ, List.getElem?_cons_zero] <;> rfl)
        · rfl
        · simp only [Act.put, List.setIfInBounds_toArray, List.set_cons_zero, List.set_cons_succ]
          rfl
        refine run_off (o := ?_) (a' := ?_) ?_ ?_ ?_ ?_
        rotate_left 2
        · (simp only [List.getElem?_toArray, List.getElem?_cons_succ, List.getElem?_cons_zero] <;> rfl)
        · rfl
        · simp only [Act.put, List.setIfInBounds_toArray, List.set_cons_zero, List.set_cons_succ]
          rfl
        refine run_off (o := ?_) (a' := ?_) ?_ ?_ ?_ ?_
        rotate_left 2
        · (simp only [List.getElem?_toArray, List.getElem?_cons_succ, List.getElem?_cons_zero] <;> rfl)
        · rfl
        · simp only [Act.put, List.setIfInBounds_toArray, List.set_cons_zero, List.set_cons_succ]
          rfl
        refine run_off (o := ?_) (a' := ?_) ?_ ?_ ?_ ?_
        rotate_left 2
        · (simp only [List.getElem?_toArray, List.getElem?_cons_succ, List.getElem?_cons_zero] <;> rfl)
        · rfl
        · simp only [Act.put, List.setIfInBounds_toArray, List.set_cons_zero, List.set_cons_succ]
          rfl
        refine run_off (o := ?_) (a' := ?_) ?_ ?_ ?_ ?_
        rotate_left 2
        · (simp only [List.getElem?_toArray, List.getElem?_cons_succ, List.getElem?_cons_zero] <;> rfl)
        · rfl
        · simp only [Act.put, List.setIfInBounds_toArray, List.set_cons_zero, List.set_cons_succ]
          rfl
        refine run_pure (o := ?_) (v := ?_) (a' := ?_) ?_ ?_ ?_ ?_ ?_
        rotate_left 3
        · (simp only [List.getElem?_toArray, List.getElem?_cons_succ, List.getElem?_cons_zero] <;> rfl)
        · rfl
        · intro w'
          go_simp
          with_reducible rfl
        · simp only [Act.put, List.setIfInBounds_toArray, List.set_cons_zero, List.set_cons_succ]
          rfl
        refine run_do (o := ?_) ?_ ?_ (fun e1 hx K hK => ?_)
        rotate_left
        · (simp only [List.getElem?_toArray, List.getElem?_cons_succ, List.getElem?_cons_zero] <;> rfl)
        · rfl
        have hc_e1 := (ext_cell hx).1
        have hf_e1 := (ext_cell hx).2
        have HX_e1 := Lib.hid hx
        have y_e1 := hx.size
        try simp at y_e1
        have z_e1_w_0 : w.heap.size < e1.heap.size := by omega
        have z_e1_w_1 : w.heap.size + 1 < e1.heap.size := by omega
        have z_e1_w_2 : w.heap.size + 2 < e1.heap.size := by omega
        have z_e1_w1_0 : w1.heap.size < e1.heap.size := by omega
        have z_e1_d1_0 : d1.heap.size < e1.heap.size := by omega
        have z_e1_w2_0 : w2.heap.size < e1.heap.size := by omega
        clear hx
        go_simp
        refine hK _ _ (fun _ hs => ?_) ?_
        · repeat (first | exact hs | (refine ExtBut.setCell ?_ (by simp) _))
        clear hK K
        refine run_pure (o := ?_) (v := ?_) (a' := ?_) ?_ ?_ ?_ ?_ ?_
        rotate_left 3
        · (simp only [List.getElem?_toArray, List.getElem?_cons_succ, List.getElem?_cons_zero] <;> rfl)
        · rfl
        · intro w'
          go_simp
          with_reducible rfl
        · simp only [Act.put, List.setIfInBounds_toArray, List.set_cons_zero, List.set_cons_succ]
          rfl
        refine run_nil (fun e2 hx => ?_)
        have hc_e2 := (ext_cell hx).1
        have hf_e2 := (ext_cell hx).2
        have HX_e2 := Lib.hid hx
        have y_e2 := hx.size
        try simp at y_e2
        have z_e2_w_0 : w.heap.size < e2.heap.size := by omega
        have z_e2_w_1 : w.heap.size + 1 < e2.heap.size := by omega
        have z_e2_w_2 : w.heap.size + 2 < e2.heap.size := by omega
        have z_e2_w1_0 : w1.heap.size < e2.heap.size := by omega
        have z_e2_d1_0 : d1.heap.size < e2.heap.size := by omega
        have z_e2_w2_0 : w2.heap.size < e2.heap.size := by omega
        clear hx
        go_wp2
        refine bodyPost_ret (v := ?_) ?_ rfl ⟨?_, ?_⟩
        rotate_left
        · simp only [results, Try.results71]
          go_simp
          with_reducible rfl
        · rfl
        · repeat (first | exact HX_r.out | (refine Ext.setCell ?_ (by simp <;> omega) _) | refine Ext.alloc ?_ _ | refine Ext.trans ?_ HX_e2.out | refine Ext.trans ?_ HX_e1.out | refine Ext.trans ?_ HX_w2.out | refine Ext.trans ?_ HX_d3.out | refine Ext.trans ?_ HX_d2.out | refine Ext.trans ?_ HX_d1.out)
      · have t1 : decide (hi a < hi b) = false := decide_eq_false (by omega)
        have t2 : decide (hi a = hi b) = true := decide_eq_true h
        have t3 : (hi a == hi b) = true := by simpa using h
        have t4 : decide (lo a < lo b) = u := by rw [HLS.out, t1, t2]; rfl
        clear h HLS
        try dsimp only
        repeat (first | with_reducible refine wp_region_but (w.heap.size + 1 + 1) ?_ [(0, 1), (1, 0), (2, 1), (3, 0), (4, 1), (5, 0), (6, 0), (7, 0), (8, 1), (9, 0), (10, 1), (11, 0), (12, 0), (13, 0), (14, 1), (15, 0), (16, 1), (17, 0), (18, 0), (19, 0), (20, 2), (21, 0)] (fun _ => true) ?_ ?_ ?_ ?_ ?_ | go_step)
        · kernel_rfl
        · kernel_rfl
        · kernel_rfl
        · kernel_rfl
        · exact (fun _ _ d _ _ h => by cases d <;> exact h)
        refine run_read (o := ?_) (v := ?_) (a' := ?_) ?_ ?_ ?_ ?_ (ExtBut.refl _ _) ?_
        rotate_left 3
        · (simp only [List.getElem?_toArray, List.getElem?_cons_succ, List.getElem?_cons_zero] <;> rfl)
        · rfl
        · intro w' hw'
          obtain ⟨hc, hf⟩ := but_cell hw'
          clear hw'
          go_simp
          with_reducible rfl
        · simp only [Act.put, List.setIfInBounds_toArray, List.set_cons_zero, List.set_cons_succ]
          rfl
        refine run_pure (o := ?_) (v := ?_) (a' := ?_) ?_ ?_ ?_ ?_ ?_
        rotate_left 3
        · (simp only [List.getElem?_toArray, List.getElem?_cons_succ, List.getElem?_cons_zero] <;> rfl)
        · rfl
        · intro w'
          go_simp
          with_reducible rfl
        · simp only [Act.put, List.setIfInBounds_toArray, List.set_cons_zero, List.set_cons_succ]
          rfl
        refine run_read (o := ?_) (v := ?_) (a' := ?_) ?_ ?_ ?_ ?_ (ExtBut.refl _ _) ?_
        rotate_left 3
        · (simp only [List.getElem?_toArray, List.getElem?_cons_succ, List.getElem?_cons_zero] <;> rfl)
        · rfl
        · intro w' hw'
          obtain ⟨hc, hf⟩ := but_cell hw'
          clear hw'
          go_simp
          with_reducible rfl
        · simp only [Act.put, List.setIfInBounds_toArray, List.set_cons_zero, List.set_cons_succ]
          rfl
        refine run_pure (o := ?_) (v := ?_) (a' := ?_) ?_ ?_ ?_ ?_ ?_
        rotate_left 3
        · (simp only [List.getElem?_toArray, List.getElem?_cons_succ, List.getElem?_cons_zero] <;> rfl)
        · rfl
        · intro w'
          go_simp
          with_reducible rfl
        · simp only [Act.put, List.setIfInBounds_toArray, List.set_cons_zero, List.set_cons_succ]
          rfl
        refine run_read (o := ?_) (v := ?_) (a' := ?_) ?_ ?_ ?_ ?_ (ExtBut.refl _ _) ?_
        rotate_left 3
        · (simp only [List.getElem?_toArray, List.getElem?_cons_succ, List.getElem?_cons_zero] <;> rfl)
        · rfl
        · intro w' hw'
          obtain ⟨hc, hf⟩ := but_cell hw'
          clear hw'
          go_simp
          with_reducible rfl
        · simp only [Act.put, List.setIfInBounds_toArray, List.set_cons_zero, List.set_cons_succ]
          rfl
        refine run_pure (o := ?_) (v := ?_) (a' := ?_) ?_ ?_ ?_ ?_ ?_
        rotate_left 3
        · (simp only [List.getElem?_toArray, List.getElem?_cons_succ, List.getElem?_cons_zero] <;> rfl)
        · rfl
        · intro w'
          go_simp
          with_reducible rfl
        · simp only [Act.put, List.setIfInBounds_toArray, List.set_cons_zero, List.set_cons_succ]
          rfl
        refine run_pure (o := ?_) (v := ?_) (a' := ?_) ?_ ?_ ?_ ?_ ?_
        rotate_left 3
        · (simp only [List.getElem?_toArray, List.getElem?_cons_succ, List.getElem?_cons_zero] <;> rfl)
        · rfl
        · intro w'
          go_simp
          with_reducible rfl
        · simp only [Act.put, List.setIfInBounds_toArray, List.set_cons_zero, List.set_cons_succ]
          rfl
        refine run_pure (o := ?_) (v := ?_) (a' := ?_) ?_ ?_ ?_ ?_ ?_
        rotate_left 3
        · (simp only [List.getElem?_toArray, List.getElem?_cons_succ, List.getElem?_cons_zero] <;> rfl)
        · rfl
        · intro w'
          go_simp
          with_reducible rfl
        · simp only [Act.put, List.setIfInBounds_toArray, List.set_cons_zero, List.set_cons_succ]
          rfl
        refine run_read (o := ?_) (v := ?_) (a' := ?_) ?_ ?_ ?_ ?_ (ExtBut.refl _ _) ?_
        rotate_left 3
        · (simp only [List.getElem?_toArray, List.getElem?_cons_succ, List.getElem?_cons_zero] <;> rfl)
        · rfl
        · intro w' hw'
          obtain ⟨hc, hf⟩ := but_cell hw'
          clear hw'
          go_simp
          with_reducible rfl
        · simp only [Act.put, List.setIfInBounds_toArray, List.set_cons_zero, List.set_cons_succ]
          rfl
        refine run_pure (o := ?_) (v := ?_) (a' := ?_) ?_ ?_ ?_ ?_ ?_
        rotate_left 3
        · (simp only [List.getElem?_toArray, List.getElem?_cons_succ, List.getElem?_cons_zero] <;> rfl)
        · rfl
        · intro w'
          go_simp
          with_reducible rfl
        · simp only [Act.put, List.setIfInBounds_toArray, List.set_cons_zero, List.set_cons_succ]
          rfl
        refine run_read (o := ?_) (v := ?_) (a' := ?_) ?_ ?_ ?_ ?_ (ExtBut.refl _ _) ?_
        rotate_left 3
        · (simp only [List.getElem?_toArray, List.getElem?_cons_succ, List.getElem?_cons_zero] <;> rfl)
        · rfl
        · intro w' hw'
          obtain ⟨hc, hf⟩ := but_cell hw'
          clear hw'
          go_simp
          with_reducible rfl
        · simp only [Act.put, List.setIfInBounds_toArray, List.set_cons_zero, List.set_cons_succ]
          rfl
        refine run_pure (o := ?_) (v := ?_) (a' := ?_) ?_ ?_ ?_ ?_ ?_
        rotate_left 3
        · (simp only [List.getElem?_toArray, List.getElem?_cons_succ, List.getElem?_cons_zero] <;> rfl)
        · rfl
        · intro w'
          go_simp
          with_reducible rfl
        · simp only [Act.put, List.setIfInBounds_toArray, List.set_cons_zero, List.set_cons_succ]
          rfl
        refine run_pure (o := ?_) (v := ?_) (a' := ?_) ?_ ?_ ?_ ?_ ?_
        rotate_left 3
        · (simp only [List.getElem?_toArray, List.getElem?_cons_succ, List.getElem?_cons_zero] <;> rfl)
        · rfl
        · intro w'
          go_simp
          with_reducible rfl
        · simp only [Act.put, List.setIfInBounds_toArray, List.set_cons_zero, List.set_cons_succ]
          rfl
        refine run_pure (o := ?_) (v := ?_) (a' := ?_) ?_ ?_ ?_ ?_ ?_
        rotate_left 3
        · (simp only [List.getElem?_toArray, List.getElem?_cons_succ, List.getElem?_cons_zero] <;> rfl)
        · rfl
        · intro w'
          go_simp
          with_reducible rfl
        · simp only [Act.put, List.setIfInBounds_toArray, List.set_cons_zero, List.set_cons_succ]
          rfl
        refine run_read (o := ?_) (v := ?_) (a' := ?_) ?_ ?_ ?_ ?_ (ExtBut.refl _ _) ?_
        rotate_left 3
        · (simp only [List.getElem?_toArray, List.getElem?_cons_succ, List.getElem?_cons_zero] <;> rfl)
        · rfl
        · intro w' hw'
          obtain ⟨hc, hf⟩ := but_cell hw'
          clear hw'
          go_simp
          with_reducible rfl
        · simp only [Act.put, List.setIfInBounds_toArray, List.set_cons_zero, List.set_cons_succ]
          rfl
        refine run_pure (o := ?_) (v := ?_) (a' := ?_) ?_ ?_ ?_ ?_ ?_
        rotate_left 3
        · (simp only [List.getElem?_toArray, List.getElem?_cons_succ, List.getElem?_cons_zero] <;> rfl)
        · rfl
        · intro w'
          go_simp
          with_reducible rfl
        · simp only [Act.put, List.setIfInBounds_toArray, List.set_cons_zero, List.set_cons_succ]
          rfl
        refine run_read (o := ?_) (v := ?_) (a' := ?_) ?_ ?_ ?_ ?_ (ExtBut.refl _ _) ?_
        rotate_left 3
        · (simp only [List.getElem?_toArray, List.getElem?_cons_succ, List.getElem?_cons_zero] <;> rfl)
        · rfl
        · intro w' hw'
          obtain ⟨hc, hf⟩ := but_cell hw'
          clear hw'
          go_simp
          with_reducible rfl
        · simp only [Act.put, List.setIfInBounds_toArray, List.set_cons_zero, List.set_cons_succ]
          rfl
        refine run_pure (o := ?_) (v := ?_) (a' := ?_) ?_ ?_ ?_ ?_ ?_
        rotate_left 3
        · (simp only [List.getElem?_toArray, List.getElem?_cons_succ, List.getElem?_cons_zero] <;> rfl)
        · rfl
        · intro w'
          go_simp
          with_reducible rfl
        · simp only [Act.put, List.setIfInBounds_toArray, List.set_cons_zero, List.set_cons_succ]
          rfl
        refine run_pure (o := ?_) (v := ?_) (a' := ?_) ?_ ?_ ?_ ?_ ?_
        rotate_left 3
        · (simp only [List.getElem?_toArray, List.getElem?_cons_succ, List.getElem?_cons_zero] <;> rfl)
        · rfl
        · intro w'
          go_simp
          with_reducible rfl
        · simp only [Act.put, List.setIfInBounds_toArray, List.set_cons_zero, List.set_cons_succ]
          rfl
        refine run_pure (o := ?_) (v := ?_) (a' := ?_) ?_ ?_ ?_ ?_ ?_
        rotate_left 3
        · (simp only [List.getElem?_toArray, List.getElem?_cons_succ, List.getElem?_cons_zero] <;> rfl)
        · rfl
        · intro w'
          go_simp
          with_reducible rfl
        · simp only [Act.put, List.setIfInBounds_toArray, List.set_cons_zero, List.set_cons_succ]
          rfl
        refine run_do (o := ?_) ?_ ?_ (fun e1 hx K hK => ?_)
        rotate_left
        · (simp only [List.getElem?_toArray, List.getElem?_cons_succ, List.getElem?_cons_zero] <;> rfl)
        · rfl
        have hc_e1 := (ext_cell hx).1
        have hf_e1 := (ext_cell hx).2
        have HX_e1 := Lib.hid hx
        have y_e1 := hx.size
        try simp at y_e1
        have z_e1_w_0 : w.heap.size < e1.heap.size := by omega
        have z_e1_w_1 : w.heap.size + 1 < e1.heap.size := by omega
        have z_e1_w_2 : w.heap.size + 2 < e1.heap.size := by omega
        have z_e1_w1_0 : w1.heap.size < e1.heap.size := by omega
        have z_e1_d1_0 : d1.heap.size < e1.heap.size := by omega
        have z_e1_w2_0 : w2.heap.size < e1.heap.size := by omega
        clear hx
        go_simp
        refine hK _ _ (fun _ hs => ?_) ?_
        · repeat (first | exact hs | (refine ExtBut.setCell ?_ (by simp) _))
        clear hK K
        refine run_pure (o := ?_) (v := ?_) (a' := ?_) ?_ ?_ ?_ ?_ ?_
        rotate_left 3
        · (simp only [List.getElem?_toArray, List.getElem?_cons_succ, List.getElem?_cons_zero] <;> rfl)
        · rfl
        · intro w'
          go_simp
          with_reducible rfl
        · simp only [Act.put, List.setIfInBounds_toArray, List.set_cons_zero, List.set_cons_succ]
          rfl
        refine run_nil (fun e2 hx => ?_)
        have hc_e2 := (ext_cell hx).1
        have hf_e2 := (ext_cell hx).2
        have HX_e2 := Lib.hid hx
        have y_e2 := hx.size
        try simp at y_e2
        have z_e2_w_0 : w.heap.size < e2.heap.size := by omega
        have z_e2_w_1 : w.heap.size + 1 < e2.heap.size := by omega
        have z_e2_w_2 : w.heap.size + 2 < e2.heap.size := by omega
        have z_e2_w1_0 : w1.heap.size < e2.heap.size := by omega
        have z_e2_d1_0 : d1.heap.size < e2.heap.size := by omega
        have z_e2_w2_0 : w2.heap.size < e2.heap.size := by omega
        clear hx
        go_wp2
        refine bodyPost_ret (v := ?_) ?_ rfl ⟨?_, ?_⟩
        rotate_left
        · simp only [results, Try.results71]
          go_simp
          with_reducible rfl
        · rfl
        · repeat (first | exact HX_r.out | (refine Ext.setCell ?_ (by simp <;> omega) _) | refine Ext.alloc ?_ _ | refine Ext.trans ?_ HX_e2.out | refine Ext.trans ?_ HX_e1.out | refine Ext.trans ?_ HX_w2.out | refine Ext.trans ?_ HX_d3.out | refine Ext.trans ?_ HX_d2.out | refine Ext.trans ?_ HX_d1.out)
      · have t1 : decide (hi a < hi b) = false := decide_eq_false (by omega)
        have t2 : decide (hi a = hi b) = false := decide_eq_false (by omega)
        have t3 : (hi a == hi b) = false := by simp; omega
        obtain rfl : u = false := by rw [HLS.out, t1, t2]; rfl
        clear h HLS
        try dsimp only
        repeat (first | with_reducible refine wp_region_but (w.heap.size + 1 + 1) ?_ [(0, 1), (1, 0), (2, 1), (3, 0), (4, 1), (5, 0), (6, 0), (7, 0), (8, 1), (9, 0), (10, 1), (11, 0), (12, 0), (13, 0), (14, 0), (15, 0), (16, 0), (17, 0), (18, 0), (19, 0), (20, 2), (21, 0)] (fun _ => true) ?_ ?_ ?_ ?_ ?_ | go_step)
        · kernel_rfl
        · kernel_rfl
        · kernel_rfl
        · kernel_rfl
        · exact (fun _ _ d _ _ h => by cases d <;> exact h)
        refine run_read (o := ?_) (v := ?_) (a' := ?_) ?_ ?_ ?_ ?_ (ExtBut.refl _ _) ?_
        rotate_left 3
        · (simp only [List.getElem?_toArray, List.getElem?_cons_succ, List.getElem?_cons_zero] <;> rfl)
        · rfl
        · intro w' hw'
          obtain ⟨hc, hf⟩ := but_cell hw'
          clear hw'
          go_simp
          with_reducible rfl
        · simp only [Act.put, List.setIfInBounds_toArray, List.set_cons_zero, List.set_cons_succ]
          rfl
        refine run_pure (o := ?_) (v := ?_) (a' := ?_) ?_ ?_ ?_ ?_ ?_
        rotate_left 3
        · (simp only [List.getElem?_toArray, List.getElem?_cons_succ, List.getElem?_cons_zero] <;> rfl)
        · rfl
        · intro w'
          go_simp
          with_reducible rfl
        · simp only [Act.put, List.setIfInBounds_toArray, List.set_cons_zero, List.set_cons_succ]
          rfl
        refine run_read (o := ?_) (v := ?_) (a' := ?_) ?_ ?_ ?_ ?_ (ExtBut.refl _ _) ?_
        rotate_left 3
        · (simp only [List.getElem?_toArray, List.getElem?_cons_succ, List.getElem?_cons_zero] <;> rfl)
        · rfl
        · intro w' hw'
          obtain ⟨hc, hf⟩ := but_cell hw'
          clear hw'
          go_simp
          with_reducible rfl
        · simp only [Act.put, List.setIfInBounds_toArray, List.set_cons_zero, List.set_cons_succ]
          rfl
        refine run_pure (o := ?_) (v := ?_) (a' := ?_) ?_ ?_ ?_ ?_ ?_
        rotate_left 3
        · (simp only [List.getElem?_toArray, List.getElem?_cons_succ, List.getElem?_cons_zero] <;> rfl)
        · rfl
        · intro w'
          go_simp
          with_reducible rfl
        · simp only [Act.put, List.setIfInBounds_toArray, List.set_cons_zero, List.set_cons_succ]
          rfl
        refine run_read (o := ?_) (v := ?_) (a' := ?_) ?_ ?_ ?_ ?_ (ExtBut.refl _ _) ?_
        rotate_left 3
        · (simp only [List.getElem?_toArray, List.getElem?_cons_succ, List.getElem?_cons_zero] <;> rfl)
        · rfl
        · intro w' hw'
          obtain ⟨hc, hf⟩ := but_cell hw'
          clear hw'
          go_simp
          with_reducible rfl
        · simp only [Act.put, List.setIfInBounds_toArray, List.set_cons_zero, List.set_cons_succ]
          rfl
        refine run_pure (o := ?_) (v := ?_) (a' := ?_) ?_ ?_ ?_ ?_ ?_
        rotate_left 3
        · (simp only [List.getElem?_toArray, List.getElem?_cons_succ, List.getElem?_cons_zero] <;> rfl)
        · rfl
        · intro w'
          go_simp
          with_reducible rfl
        · simp only [Act.put, List.setIfInBounds_toArray, List.set_cons_zero, List.set_cons_succ]
          rfl
        refine run_pure (o := ?_) (v := ?_) (a' := ?_) ?_ ?_ ?_ ?_ ?_
        rotate_left 3
        · (simp only [List.getElem?_toArray, List.getElem?_cons_succ, List.getElem?_cons_zero] <;> rfl)
        · rfl
        · intro w'
          go_simp
          with_reducible rfl
        · simp only [Act.put, List.setIfInBounds_toArray, List.set_cons_zero, List.set_cons_succ]
          rfl
        refine run_pure (o := ?_) (v := ?_) (a' := ?_) ?_ ?_ ?_ ?_ ?_
        rotate_left 3
        · (simp only [List.getElem?_toArray, List.getElem?_cons_succ, List.getElem?_cons_zero] <;> rfl)
        · rfl
        · intro w'
          go_simp
          with_reducible rfl
        · simp only [Act.put, List.setIfInBounds_toArray, List.set_cons_zero, List.set_cons_succ]
          rfl
        refine run_read (o := ?_) (v := ?_) (a' := ?_) ?_ ?_ ?_ ?_ (ExtBut.refl _ _) ?_
        rotate_left 3
        · (simp only [List.getElem?_toArray, List.getElem?_cons_succ, List.getElem?_cons_zero] <;> rfl)
        · rfl
        · intro w' hw'
          obtain ⟨hc, hf⟩ := but_cell hw'
          clear hw'
          go_simp
          with_reducible rfl
        · simp only [Act.put, List.setIfInBounds_toArray, List.set_cons_zero, List.set_cons_succ]
          rfl
        refine run_pure (o := ?_) (v := ?_) (a' := ?_) ?_ ?_ ?_ ?_ ?_
        rotate_left 3
        · (simp only [List.getElem?_toArray, List.getElem?_cons_succ, List.getElem?_cons_zero] <;> rfl)
        · rfl
        · intro w'
          go_simp
          with_reducible rfl
        · simp only [Act.put, List.setIfInBounds_toArray, List.set_cons_zero, List.set_cons_succ]
          rfl
        refine run_read (o := ?_) (v := ?_) (a' := ?_) ?_ ?_ ?_ ?_ (ExtBut.refl _ _) ?_
        rotate_left 3
        · (simp only [List.getElem?_toArray, List.getElem?_cons_succ, List.getElem?_cons_zero] <;> rfl)
        · rfl
        · intro w' hw'
          obtain ⟨hc, hf⟩ := but_cell hw'
          clear hw'
          go_simp
          with_reducible rfl
        · simp only [Act.put, List.setIfInBounds_toArray, List.set_cons_zero, List.set_cons_succ]
          rfl
        refine run_pure (o := ?_) (v := ?_) (a' := ?_) ?_ ?_ ?_ ?_ ?_
        rotate_left 3
        · (simp only [List.getElem?_toArray, List.getElem?_cons_succ, List.getElem?_cons_zero] <;> rfl)
        · rfl
        · intro w'
          go_simp
          with_reducible rfl
        · simp only [Act.put, List.setIfInBounds_toArray, List.set_cons_zero, List.set_cons_succ]
          rfl
        refine run_pure (o := ?_) (v := ?_) (a' := ?_) ?_ ?_ ?_ ?_ ?_
        rotate_left 3
        · (simp only [List.getElem?_toArray, List.getElem?_cons_succ, List.getElem?_cons_zero] <;> rfl)
        · rfl
        · intro w'
          go_simp
          with_reducible rfl
        · simp only [Act.put, List.setIfInBounds_toArray, List.set_cons_zero, List.set_cons_succ]
          rfl
        refine run_off (o := ?_) (a' := ?_) ?_ ?_ ?_ ?_
        rotate_left 2
        · (simp only [List.getElem?_toArray, List.getElem?_cons_succ, List.getElem?_cons_zero] <;> rfl)
        · rfl
        · simp only [Act.put, List.setIfInBounds_toArray, List.set_cons_zero, List.set_cons_succ]
          rfl
        refine run_off (o := ?_) (a' := ?_) ?_ ?_ ?_ ?_
        rotate_left 2
        · (simp only [List.getElem?_toArray, List.getElem?_cons_succ, List.getElem?_cons_zero] <;> rfl)
        · rfl
        · simp only [Act.put, List.setIfInBounds_toArray, List.set_cons_zero, List.set_cons_succ]
          rfl
        refine run_off (o := ?_) (a' := ?_) ?_ ?_ ?_ ?_
        rotate_left 2
        · (simp only [List.getElem?_toArray, List.getElem?_cons_succ, List.getElem?_cons_zero] <;> rfl)
        · rfl
        · simp only [Act.put, List.setIfInBounds_toArray, List.set_cons_zero, List.set_cons_succ]
          rfl
        refine run_off (o := ?_) (a' := ?_) ?_ ?_ ?_ ?_
        rotate_left 2
        · (simp only [List.getElem?_toArray, List.getElem?_cons_succ, List.getElem?_cons_zero] <;> rfl)
        · rfl
        · simp only [Act.put, List.setIfInBounds_toArray, List.set_cons_zero, List.set_cons_succ]
          rfl
        refine run_off (o := ?_) (a' := ?_) ?_ ?_ ?_ ?_
        rotate_left 2
        · (simp only [List.getElem?_toArray, List.getElem?_cons_succ, List.getElem?_cons_zero] <;> rfl)
        · rfl
        · simp only [Act.put, List.setIfInBounds_toArray, List.set_cons_zero, List.set_cons_succ]
          rfl
        refine run_pure (o := ?_) (v := ?_) (a' := ?_) ?_ ?_ ?_ ?_ ?_
        rotate_left 3
        · (simp only [List.getElem?_toArray, List.getElem?_cons_succ, List.getElem?_cons_zero] <;> rfl)
        · rfl
        · intro w'
          go_simp
          with_reducible rfl
        · simp only [Act.put, List.setIfInBounds_toArray, List.set_cons_zero, List.set_cons_succ]
          rfl
        refine run_pure (o := ?_) (v := ?_) (a' := ?_) ?_ ?_ ?_ ?_ ?_
        rotate_left 3
        · (simp only [List.getElem?_toArray, List.getElem?_cons_succ, List.getElem?_cons_zero] <;> rfl)
        · rfl
        · intro w'
          go_simp
          with_reducible rfl
        · simp only [Act.put, List.setIfInBounds_toArray, List.set_cons_zero, List.set_cons_succ]
          rfl
        refine run_do (o := ?_) ?_ ?_ (fun e1 hx K hK => ?_)
        rotate_left
        · (simp only [List.getElem?_toArray, List.getElem?_cons_succ, List.getElem?_cons_zero] <;> rfl)
        · rfl
        have hc_e1 := (ext_cell hx).1
        have hf_e1 := (ext_cell hx).2
        have HX_e1 := Lib.hid hx
        have y_e1 := hx.size
        try simp at y_e1
        have z_e1_w_0 : w.heap.size < e1.heap.size := by omega
        have z_e1_w_1 : w.heap.size + 1 < e1.heap.size := by omega
        have z_e1_w_2 : w.heap.size + 2 < e1.heap.size := by omega
        have z_e1_w1_0 : w1.heap.size < e1.heap.size := by omega
        have z_e1_d1_0 : d1.heap.size < e1.heap.size := by omega
        have z_e1_w2_0 : w2.heap.size < e1.heap.size := by omega
        clear hx
        go_simp
        refine hK _ _ (fun _ hs => ?_) ?_
        · repeat (first | exact hs | (refine ExtBut.setCell ?_ (by simp) _))
        clear hK K
        refine run_pure (o := ?_) (v := ?_) (a' := ?_) ?_ ?_ ?_ ?_ ?_
        rotate_left 3
        · (simp only [List.getElem?_toArray, List.getElem?_cons_succ, List.getElem?_cons_zero] <;> rfl)
        · rfl
        · intro w'
          go_simp
          with_reducible rfl
        · simp only [Act.put, List.setIfInBounds_toArray, List.set_cons_zero, List.set_cons_succ]
          rfl
        refine run_nil (fun e2 hx => ?_)
        have hc_e2 := (ext_cell hx).1
        have hf_e2 := (ext_cell hx).2
        have HX_e2 := Lib.hid hx
        have y_e2 := hx.size
        try simp at y_e2
        have z_e2_w_0 : w.heap.size < e2.heap.size := by omega
        have z_e2_w_1 : w.heap.size + 1 < e2.heap.size := by omega
        have z_e2_w_2 : w.heap.size + 2 < e2.heap.size := by omega
        have z_e2_w1_0 : w1.heap.size < e2.heap.size := by omega
        have z_e2_d1_0 : d1.heap.size < e2.heap.size := by omega
        have z_e2_w2_0 : w2.heap.size < e2.heap.size := by omega
        clear hx
        go_wp2
        refine bodyPost_ret (v := ?_) ?_ rfl ⟨?_, ?_⟩
        rotate_left
        · simp only [results, Try.results71]
          go_simp
          with_reducible rfl
        · rfl
        · repeat (first | exact HX_r.out | (refine Ext.setCell ?_ (by simp <;> omega) _) | refine Ext.alloc ?_ _ | refine Ext.trans ?_ HX_e2.out | refine Ext.trans ?_ HX_e1.out | refine Ext.trans ?_ HX_w2.out | refine Ext.trans ?_ HX_d3.out | refine Ext.trans ?_ HX_d2.out | refine Ext.trans ?_ HX_d1.out)
end Go.Proofs.Ytjjapblpmpidcaa
