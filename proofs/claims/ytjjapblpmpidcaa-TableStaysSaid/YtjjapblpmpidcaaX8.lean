import Derived.Test.YtjjapblpmpidcaaX7
set_option linter.unusedVariables false
set_option linter.unusedSimpArgs false
namespace Go.Proofs.Ytjjapblpmpidcaa
open Go.RowKit Num UReg

theorem rWholeE {z : Nat → Int} (h : Dig z) {s : V} (hs : wholeV z = s) (w : World) : Calls Try.prog 89 #[.agg #[.int .u64 (z 0), .int .u64 (z 1), .int .u64 (z 2), .int .u64 (z 3)]] w fun e w' =>
    e = .returned (.agg #[.int .u64 (hi s), .int .u64 (lo s)]) ∧ Ext w w' := by
  have h1 := rWhole z h w
  rwa [hs] at h1

set_option maxHeartbeats 4000000 in
theorem rMul (a b : V) (w : World) : Calls Try.prog 67 #[.agg #[.int .u64 (hi a), .int .u64 (lo a)], .agg #[.int .u64 (hi b), .int .u64 (lo b)]] w fun e w' =>
    e = .returned (.agg #[.int .u64 (hi (a * b)), .int .u64 (lo (a * b))]) ∧ Ext w w' := by
  obtain ⟨m, hm⟩ : ∃ m, a * b = m := ⟨_, rfl⟩
  rw [hm]
  have HM := Lib.hid hm; clear hm
  go_enter Try.func67, Try.ntmps67
  go_wp2_with fail
  refine (rDigits _ _).mono ?_
  rintro e w1 ⟨rfl, hx⟩
  have hc_w1 := (ext_cell hx).1
  have hf_w1 := (ext_cell hx).2
  have HX_w1 := Lib.hid hx
  have y_w1 := hx.size
  try simp at y_w1
  have z_w1_w_0 : w.heap.size < w1.heap.size := by omega
  have z_w1_w_1 : w.heap.size + 1 < w1.heap.size := by omega
  have z_w1_w_2 : w.heap.size + 2 < w1.heap.size := by omega
  clear hx
  go_wp2_with fail
  refine (rDigits _ _).mono ?_
  rintro e w2 ⟨rfl, hx⟩
  have hc_w2 := (ext_cell hx).1
  have hf_w2 := (ext_cell hx).2
  have HX_w2 := Lib.hid hx
  have y_w2 := hx.size
  try simp at y_w2
  have z_w2_w_0 : w.heap.size < w2.heap.size := by omega
  have z_w2_w_1 : w.heap.size + 1 < w2.heap.size := by omega
  have z_w2_w_2 : w.heap.size + 2 < w2.heap.size := by omega
  have z_w2_w1_0 : w1.heap.size < w2.heap.size := by omega
  clear hx
  go_wp2_with fail
  go_loopw [8, 9, 10, 11] (fun i c k n wr => ∃ (j : Nat) (z : Nat → Int), j ≤ 4 ∧ i = .int .i64 j ∧ Ext w wr ∧ w2.heap.size + 1 < wr.heap.size ∧ MulOut a b j z
      ∧ Cells wr w1.heap.size (c4 (dg a)) ∧ Cells wr w2.heap.size (c4 (dg b)) ∧ Cells wr (w2.heap.size + 1) (c4 z) ∧ Cells wr (w.heap.size + 1 + 1) [.int .u64 0, .int .u64 0])
    (fun i _ _ _ _ => 4 - (intOf i).toNat)
  case atStart =>
    refine ⟨0, fun _ => 0, by omega, rfl, ?_, by simp, mul_start a b, ?_, ?_, ?_, ?_⟩
    · repeat (first | with_reducible exact Ext.refl _ | with_reducible refine Ext.alloc ?_ _ | (with_reducible refine Ext.setCell ?_ (by simp <;> omega) _) | with_reducible refine Ext.drew ?_ | with_reducible refine Ext.trans ?_ HX_w2.out | with_reducible refine Ext.trans ?_ HX_w1.out)
    · exact Cells.mk4 (by go_simp <;> rfl) (by go_simp <;> rfl) (by go_simp <;> rfl) (by go_simp <;> rfl) (by go_simp) (by go_simp) (by go_simp) (by go_simp)
    · exact Cells.mk4 (by go_simp <;> rfl) (by go_simp <;> rfl) (by go_simp <;> rfl) (by go_simp <;> rfl) (by go_simp) (by go_simp) (by go_simp) (by go_simp)
    · exact Cells.mk4 (by go_simp <;> rfl) (by go_simp <;> rfl) (by go_simp <;> rfl) (by go_simp <;> rfl) (by go_simp) (by go_simp) (by go_simp) (by go_simp)
    · exact Cells.mk2 (by go_simp <;> rfl) (by go_simp <;> rfl) (by go_simp) (by go_simp)
  case round =>
    obtain ⟨i, z, hi', rfl, HX, z1, ho, ha, hb, hz, hr⟩ := hrel
    have HX_r := Lib.hid HX; clear HX
    have za : w1.heap.size < wr.heap.size := by omega
    have zb : w2.heap.size < wr.heap.size := by omega
    have zr : w.heap.size + 1 + 1 < wr.heap.size := by omega
    clear hc_w1 hf_w1 hc_w2 hf_w2 HX_w1 HX_w2
    by_cases hlt : i < 4
    · go_wp2_with fail
      go_loopw [9, 10, 11] (fun cv kv n wq => ∃ (k : Nat) (z : Nat → Int) (c : Int), i + k ≤ 4 ∧ kv = .int .i64 k ∧ cv = .int .u64 c ∧ Ext w wq ∧ w2.heap.size + 1 < wq.heap.size ∧ MulIn a b i k z c
          ∧ Cells wq w1.heap.size (c4 (dg a)) ∧ Cells wq w2.heap.size (c4 (dg b)) ∧ Cells wq (w2.heap.size + 1) (c4 z) ∧ Cells wq (w.heap.size + 1 + 1) [.int .u64 0, .int .u64 0])
        (fun _ kv _ _ => 4 - (intOf kv).toNat)
      case atStart => exact ⟨0, z, 0, by omega, rfl, rfl, HX_r.out, z1, mul_in0 ho, ha, hb, hz, hr⟩
      case round =>
        clear ha hb hz hr ho HX_r z1 za zb zr
        obtain ⟨k, y, c, hk, rfl, rfl, HX, z1, hin, ha, hb, hz, hr⟩ := hrel
        have HX_r := Lib.hid HX; clear HX
        have za : w1.heap.size < wr.heap.size := by omega
        have zb : w2.heap.size < wr.heap.size := by omega
        have zr : w.heap.size + 1 + 1 < wr.heap.size := by omega
        by_cases hkl : i + k < 4
        · obtain ⟨a0, af0⟩ := c4_get ha i hlt
          obtain ⟨b0, bf0⟩ := c4_get hb k (by omega)
          obtain ⟨z0, zf0⟩ := c4_get hz (i + k) hkl
          have hs := mul_step hin hkl
          obtain ⟨hd, c0, c1, hin2⟩ := hin
          clear hin2
          have hm := mul_n (dg_bounds a i) (dg_bounds b k) (hd (i + k)) ⟨c0, c1⟩
          have hy := hd (i + k)
          obtain ⟨p, hp⟩ : ∃ p, i + k = p := ⟨_, rfl⟩
          rw [hp] at z0 zf0 hs hy hkl
          obtain ⟨x, hx⟩ : ∃ x, dg a i = x := ⟨_, rfl⟩
          obtain ⟨v, hv⟩ : ∃ x, dg b k = x := ⟨_, rfl⟩
          obtain ⟨t, ht⟩ : ∃ x, y p = x := ⟨_, rfl⟩
          rw [hx] at a0 hs hm
          rw [hv] at b0 hs hm
          rw [ht] at z0 hs hy
          have k1 : IntKind.u64.wrap (x * v) = x * v := IntWalk.u64_in _ (by omega)
          have k2 : IntKind.u64.wrap (t + x * v) = t + x * v := IntWalk.u64_in _ (by omega)
          have k3 : IntKind.u64.wrap (t + x * v + c) = t + x * v + c := IntWalk.u64_in _ (by omega)
          obtain ⟨r, hrr⟩ : ∃ r, (t + x * v + c) % 4294967296 = r := ⟨_, rfl⟩
          obtain ⟨q, hqq⟩ : ∃ r, (t + x * v + c) / 4294967296 = r := ⟨_, rfl⟩
          have k4 : (t + x * v + c).tmod 4294967296 = r := by rw [Int.tmod_eq_emod_of_nonneg (by omega)]; exact hrr
          have k5 : (t + x * v + c).tdiv 4294967296 = q := by rw [Int.tdiv_eq_ediv_of_nonneg (by omega)]; exact hqq
          have k6 : IntKind.u64.wrap q = q := IntWalk.u64_in _ (by omega)
          have k7 : (i : Int) + k = (p : Int) := by omega
          have k8 : IntKind.i64.wrap ((i : Int) + k) = (p : Int) := by rw [k7]; exact IntWalk.i64_in _ (by omega)
          have k9 : IntKind.i64.wrap (p : Int) = (p : Int) := IntWalk.i64_in _ (by omega)
          rw [hrr, hqq] at hs
          have HS := Lib.hid hs; clear hs
          have HP := Lib.hid hp; clear hp
          clear hx hv ht hm hy c0 c1 hd
          have h4 : p < 4 := hkl
          have hk4 : k < 4 := by have := HP.out; omega
          have hk5 : (k : Int) < 4 := by omega
          go_wp2_with fail
          try dsimp only
          repeat (first | with_reducible refine wp_region_ext ?_ [(0, 0), (1, 0), (2, 0), (3, 0), (4, 1), (5, 0), (6, 0), (7, 1), (8, 0), (9, 0), (10, 1), (11, 0), (12, 0), (13, 0), (14, 0), (15, 0)] (fun _ => true) ?_ ?_ ?_ ?_ ?_ | go_step)
          · kernel_rfl
          · kernel_rfl
          · kernel_rfl
          · kernel_rfl
          · exact (fun _ _ d _ _ h => by cases d <;> exact h)
          refine run_pure (o := ?_) (v := ?_) (a' := ?_) ?_ ?_ ?_ ?_ ?_
          rotate_left 3
          · (simp only [List.getElem?_toArray, List.getElem?_cons_succ, List.getElem?_cons_zero] <;> rfl)
          · rfl
          · intro w'
            go_simp
            with_reducible rfl
          · simp only [Act.put, List.setIfInBounds_toArray, List.set_cons_zero, List.set_cons_succ]
            rfl
          refine run_pure (o := ?_) (v := ?_) (a' := ?_) ?_ ?_ ?_ ?_ ?_
          rotate_left 3
          · (simp only [List.getElem?_toArray, List.getElem?_cons_succ, List.getElem?_cons_zero] <;> rfl)
          · rfl
          · intro w'
            go_simp
            with_reducible rfl
          · simp only [Act.put, List.setIfInBounds_toArray, List.set_cons_zero, List.set_cons_succ]
            rfl
          refine run_pure (o := ?_) (v := ?_) (a' := ?_) ?_ ?_ ?_ ?_ ?_
          rotate_left 3
          · (simp only [List.getElem?_toArray, List.getElem?_cons_succ, List.getElem?_cons_zero] <;> rfl)
          · rfl
          · intro w'
            go_simp
            with_reducible rfl
          · simp only [Act.put, List.setIfInBounds_toArray, List.set_cons_zero, List.set_cons_succ]
            rfl
          refine run_pure (o := ?_) (v := ?_) (a' := ?_) ?_ ?_ ?_ ?_ ?_
          rotate_left 3
          · (simp only [List.getElem?_toArray, List.getElem?_cons_succ, List.getElem?_cons_zero] <;> rfl)
          · rfl
          · intro w'
            go_simp
            with_reducible rfl
          · simp only [Act.put, List.setIfInBounds_toArray, List.set_cons_zero, List.set_cons_succ]
            rfl
          refine run_read (o := ?_) (v := ?_) (a' := ?_) ?_ ?_ ?_ ?_ (Ext.refl _) ?_
          rotate_left 3
          · (simp only [List.getElem?_toArray, List.getElem?_cons_succ, List.getElem?_cons_zero] <;> rfl)
          · rfl
          · intro w' hw'
            obtain ⟨hc, hf⟩ := ext_cell hw'
            clear hw'
            go_simp
            with_reducible rfl
          · simp only [Act.put, List.setIfInBounds_toArray, List.set_cons_zero, List.set_cons_succ]
            rfl
          refine run_pure (o := ?_) (v := ?_) (a' := ?_) ?_ ?_ ?_ ?_ ?_
          rotate_left 3
          · (simp only [List.getElem?_toArray, List.getElem?_cons_succ, List.getElem?_cons_zero] <;> rfl)
          · rfl
          · intro w'
            go_simp
            with_reducible rfl
          · simp only [Act.put, List.setIfInBounds_toArray, List.set_cons_zero, List.set_cons_succ]
            rfl
          refine run_pure (o := ?_) (v := ?_) (a' := ?_) ?_ ?_ ?_ ?_ ?_
          rotate_left 3
          · (simp only [List.getElem?_toArray, List.getElem?_cons_succ, List.getElem?_cons_zero] <;> rfl)
          · rfl
          · intro w'
            go_simp
            with_reducible rfl
          · simp only [Act.put, List.setIfInBounds_toArray, List.set_cons_zero, List.set_cons_succ]
            rfl
          refine run_read (o := ?_) (v := ?_) (a' := ?_) ?_ ?_ ?_ ?_ (Ext.refl _) ?_
          rotate_left 3
          · (simp only [List.getElem?_toArray, List.getElem?_cons_succ, List.getElem?_cons_zero] <;> rfl)
          · rfl
          · intro w' hw'
            obtain ⟨hc, hf⟩ := ext_cell hw'
            clear hw'
            go_simp
            with_reducible rfl
          · simp only [Act.put, List.setIfInBounds_toArray, List.set_cons_zero, List.set_cons_succ]
            rfl
          refine run_pure (o := ?_) (v := ?_) (a' := ?_) ?_ ?_ ?_ ?_ ?_
          rotate_left 3
          · (simp only [List.getElem?_toArray, List.getElem?_cons_succ, List.getElem?_cons_zero] <;> rfl)
          · rfl
          · intro w'
            go_simp
            with_reducible rfl
          · simp only [Act.put, List.setIfInBounds_toArray, List.set_cons_zero, List.set_cons_succ]
            rfl
          refine run_pure (o := ?_) (v := ?_) (a' := ?_) ?_ ?_ ?_ ?_ ?_
          rotate_left 3
          · (simp only [List.getElem?_toArray, List.getElem?_cons_succ, List.getElem?_cons_zero] <;> rfl)
          · rfl
          · intro w'
            go_simp
            with_reducible rfl
          · simp only [Act.put, List.setIfInBounds_toArray, List.set_cons_zero, List.set_cons_succ]
            rfl
          refine run_read (o := ?_) (v := ?_) (a' := ?_) ?_ ?_ ?_ ?_ (Ext.refl _) ?_
          rotate_left 3
          · (simp only [List.getElem?_toArray, List.getElem?_cons_succ, List.getElem?_cons_zero] <;> rfl)
          · rfl
          · intro w' hw'
            obtain ⟨hc, hf⟩ := ext_cell hw'
            clear hw'
            go_simp
            with_reducible rfl
          · simp only [Act.put, List.setIfInBounds_toArray, List.set_cons_zero, List.set_cons_succ]
            rfl
          refine run_pure (o := ?_) (v := ?_) (a' := ?_) ?_ ?_ ?_ ?_ ?_
          rotate_left 3
          · (simp only [List.getElem?_toArray, List.getElem?_cons_succ, List.getElem?_cons_zero] <;> rfl)
          · rfl
          · intro w'
            go_simp
            with_reducible rfl
          · simp only [Act.put, List.setIfInBounds_toArray, List.set_cons_zero, List.set_cons_succ]
            rfl
          refine run_pure (o := ?_) (v := ?_) (a' := ?_) ?_ ?_ ?_ ?_ ?_
          rotate_left 3
          · (simp only [List.getElem?_toArray, List.getElem?_cons_succ, List.getElem?_cons_zero] <;> rfl)
          · rfl
          · intro w'
            go_simp
            with_reducible rfl
          · simp only [Act.put, List.setIfInBounds_toArray, List.set_cons_zero, List.set_cons_succ]
            rfl
          refine run_pure (o := ?_) (v := ?_) (a' := ?_) ?_ ?_ ?_ ?_ ?_
          rotate_left 3
          · (simp only [List.getElem?_toArray, List.getElem?_cons_succ, List.getElem?_cons_zero] <;> rfl)
          · rfl
          · intro w'
            go_simp
            with_reducible rfl
          · simp only [Act.put, List.setIfInBounds_toArray, List.set_cons_zero, List.set_cons_succ]
            rfl
          refine run_pure (o := ?_) (v := ?_) (a' := ?_) ?_ ?_ ?_ ?_ ?_
          rotate_left 3
          · (simp only [List.getElem?_toArray, List.getElem?_cons_succ, List.getElem?_cons_zero] <;> rfl)
          · rfl
          · intro w'
            go_simp
            with_reducible rfl
          · simp only [Act.put, List.setIfInBounds_toArray, List.set_cons_zero, List.set_cons_succ]
            rfl
          refine run_pure (o := ?_) (v := ?_) (a' := ?_) ?_ ?_ ?_ ?_ ?_
          rotate_left 3
          · (simp only [List.getElem?_toArray, List.getElem?_cons_succ, List.getElem?_cons_zero] <;> rfl)
          · rfl
          · intro w'
            go_simp
            with_reducible rfl
          · simp only [Act.put, List.setIfInBounds_toArray, List.set_cons_zero, List.set_cons_succ]
            rfl
          refine run_nil (fun a1 hx => ?_)
          have hc_a1 := (ext_cell hx).1
          have hf_a1 := (ext_cell hx).2
          have HX_a1 := Lib.hid hx
          have y_a1 := hx.size
          try simp at y_a1
          have z_a1_w_0 : w.heap.size < a1.heap.size := by omega
          have z_a1_w_1 : w.heap.size + 1 < a1.heap.size := by omega
          have z_a1_w_2 : w.heap.size + 2 < a1.heap.size := by omega
          clear hx
          go_wp2_with fail
          go_roundw
          case rel =>
            have hp := HP.out
            refine ⟨k + 1, upd y p r, q, by omega, by simp, rfl, (HX_r.out.trans HX_a1.out).setCell (by simp; omega) _, by simp; omega, HS.out, ?_, ?_, ?_, ?_⟩
            · exact (ha.ext HX_a1.out).other (by omega) _ _
            · exact (hb.ext HX_a1.out).other (by omega) _ _
            · exact c4_set (hz.ext HX_a1.out) p hkl r
            · exact (hr.ext HX_a1.out).other (by omega) _ _
          case measure => simp [intOf]; omega
        · have k7 : decide ((i : Int) + k < 4) = false := decide_eq_false (by omega)
          have ho := mul_out hin (by omega)
          go_wp2_with fail
          go_roundw
          case rel => exact ⟨i + 1, y, by omega, by simp, HX_r.out, z1, ho, ha, hb, hz, hr⟩
          case measure => simp [intOf]; omega
    · have e : i = 4 := by omega
      subst e
      have hw := (mul_end ho).trans HM.out
      have HW := Lib.hid hw; clear hw
      obtain ⟨hd, ho⟩ := ho
      clear ho
      obtain ⟨z0, z1', z2, z3, zf0, zf1, zf2, zf3⟩ := c4_four hz
      obtain ⟨r0, r1, rf0, rf1⟩ := hr.two
      clear ha hb hz hr
      go_wp2_with fail
      refine (rWholeE hd HW.out _).mono ?_
      rintro e w4 ⟨rfl, hx⟩
      have hc_w4 := (ext_cell hx).1
      have hf_w4 := (ext_cell hx).2
      have HX_w4 := Lib.hid hx
      have y_w4 := hx.size
      try simp at y_w4
      have z_w4_w_0 : w.heap.size < w4.heap.size := by omega
      have z_w4_w_1 : w.heap.size + 1 < w4.heap.size := by omega
      have z_w4_w_2 : w.heap.size + 2 < w4.heap.size := by omega
      clear hx
      go_wp2
      refine bodyPost_ret (v := ?_) ?_ rfl ⟨?_, ?_⟩
      rotate_left
      · simp only [results, Try.results67]
        go_simp
        with_reducible rfl
      · rfl
      · repeat (first | exact HX_r.out | (refine Ext.setCell ?_ (by simp <;> omega) _) | refine Ext.trans ?_ HX_w4.out)
end Go.Proofs.Ytjjapblpmpidcaa
