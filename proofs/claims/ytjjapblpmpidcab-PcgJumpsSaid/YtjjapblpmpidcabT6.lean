import Derived.Test.YtjjapblpmpidcabK10
import Derived.Test.YtjjapblpmpidcabP
import Derived.Test.YtjjapblpmpidcabT7
set_option linter.unusedVariables false
set_option linter.unusedSimpArgs false
namespace Go.Proofs.Ytjjapblpmpidcab
open Go.RowKit Num UReg

theorem pJump_one (s i : V) (hi' : i.toNat % 2 = 1) (w : World) : Calls Try.prog 20 #[.agg #[.int .u64 (hi s), .int .u64 (lo s), .int .u64 (hi i), .int .u64 (lo i)], .agg #[.int .u64 (hi (of 1)), .int .u64 (lo (of 1))]] w fun e w' =>
    e = .returned (.tuple #[.agg #[.int .u64 (hi (fac * s + i)), .int .u64 (lo (fac * s + i)), .int .u64 (hi i), .int .u64 (lo i)], .int .i64 0]) ∧ Ext w w' := by
  have h := pJump_ok s i (of 1) hi' w
  rwa [show (of 1).toNat = 1 from rfl, powM_one] at h
theorem pJump_zero (s i : V) (hi' : i.toNat % 2 = 1) (w : World) : Calls Try.prog 20 #[.agg #[.int .u64 (hi s), .int .u64 (lo s), .int .u64 (hi i), .int .u64 (lo i)], .agg #[.int .u64 0, .int .u64 0]] w fun e w' =>
    e = .returned (.tuple #[.agg #[.int .u64 (hi s), .int .u64 (lo s), .int .u64 (hi i), .int .u64 (lo i)], .int .i64 0]) ∧ Ext w w' := by
  have h := pJump_ok s i 0#128 hi' w
  rwa [hi_zero, lo_zero, show atM (powM (fac, i) (0#128).toNat) s = s from by simp [powM, oneM, atM]] at h
set_option maxHeartbeats 4000000 in
theorem pcgJumps_even (s i n k : V) (hi' : i.toNat % 2 = 0) (w : World) :
    Calls Try.prog 6 #[.agg #[.int .u64 (hi s), .int .u64 (lo s), .int .u64 (hi i), .int .u64 (lo i)], .agg #[.int .u64 (hi n), .int .u64 (lo n)], .agg #[.int .u64 (hi k), .int .u64 (lo k)]] w fun e w' => e = .returned (.bool true) ∧ Ext w w' := by
  have hb : decide (i.toNat % 2 = 1) = false := by simp [hi']
  go_enter Try.func6, Try.ntmps6
  go_wp2_with fail
  refine (awake10 _).mono ?_
  rintro e w1 ⟨rfl, hx⟩
  have hc_w1 := (ext_cell hx).1
  have hf_w1 := (ext_cell hx).2
  have HX_w1 := Lib.hid hx
  have y_w1 := hx.size
  try simp at y_w1
  have z_w1_w_0 : w.heap.size < w1.heap.size := by omega
  have z_w1_w_1 : w.heap.size + 1 < w1.heap.size := by omega
  have z_w1_w_2 : w.heap.size + 2 < w1.heap.size := by omega
  clear hx
  go_wp2_with fail
  refine (pRight _ _ _).mono ?_
  rintro e w2 ⟨rfl, hx⟩
  rw [hb]
  have hc_w2 := (ext_cell hx).1
  have hf_w2 := (ext_cell hx).2
  have HX_w2 := Lib.hid hx
  have y_w2 := hx.size
  try simp at y_w2
  have z_w2_w_0 : w.heap.size < w2.heap.size := by omega
  have z_w2_w_1 : w.heap.size + 1 < w2.heap.size := by omega
  have z_w2_w_2 : w.heap.size + 2 < w2.heap.size := by omega
  clear hx
  go_wp2
  go_ret
  refine ⟨rfl, ?_⟩
  · repeat (first | exact Ext.refl _ | refine Ext.alloc ?_ _ | (refine Ext.setCell ?_ (by simp <;> omega) _) | refine Ext.drew ?_ | refine Ext.trans ?_ HX_w2.out | refine Ext.trans ?_ HX_w1.out)
set_option maxHeartbeats 4000000 in
theorem pcgJumps_odd (s i n k : V) (hi' : i.toNat % 2 = 1) (w : World) :
    Calls Try.prog 6 #[.agg #[.int .u64 (hi s), .int .u64 (lo s), .int .u64 (hi i), .int .u64 (lo i)], .agg #[.int .u64 (hi n), .int .u64 (lo n)], .agg #[.int .u64 (hi k), .int .u64 (lo k)]] w fun e w' => e = .returned (.bool true) ∧ Ext w w' := by
  have hb : decide (i.toNat % 2 = 1) = true := by simp [hi']
  obtain ⟨m, hm⟩ : ∃ m, m = n + k := ⟨_, rfl⟩
  have g1 : same2 (atM (powM (fac, i) k.toNat) (atM (powM (fac, i) n.toNat) s)) i (atM (powM (fac, i) m.toNat) s) i = true := by
    rw [hm]
    exact decide_eq_true ⟨jumps_add (at_pcg hi') n k s, rfl⟩
  have hA0 : ∀ w, Calls Try.prog 29 #[.agg #[.int .u64 (hi n), .int .u64 (lo n)], .agg #[.int .u64 (hi k), .int .u64 (lo k)]] w fun e w' =>
      e = .returned (.tuple #[.agg #[.int .u64 (hi m), .int .u64 (lo m)], .bool (over n k)]) ∧ Ext w w' := by rw [hm]; exact wAdd n k
  have hA := Lib.hid hA0
  clear hA0 hm
  have g2 : same2 (fac * s + i) i (fac * s + i) i = true := decide_eq_true ⟨rfl, rfl⟩
  have g3 : same2 s i s i = true := decide_eq_true ⟨rfl, rfl⟩
  go_enter Try.func6, Try.ntmps6
  go_wp2_with fail
  refine (awake10 _).mono ?_
  rintro e w1 ⟨rfl, hx⟩
  have hc_w1 := (ext_cell hx).1
  have hf_w1 := (ext_cell hx).2
  have HX_w1 := Lib.hid hx
  have y_w1 := hx.size
  try simp at y_w1
  have z_w1_w_0 : w.heap.size < w1.heap.size := by omega
  have z_w1_w_1 : w.heap.size + 1 < w1.heap.size := by omega
  have z_w1_w_2 : w.heap.size + 2 < w1.heap.size := by omega
  clear hx
  go_wp2_with fail
  refine (pRight _ _ _).mono ?_
  rintro e w2 ⟨rfl, hx⟩
  rw [hb]
  have hc_w2 := (ext_cell hx).1
  have hf_w2 := (ext_cell hx).2
  have HX_w2 := Lib.hid hx
  have y_w2 := hx.size
  try simp at y_w2
  have z_w2_w_0 : w.heap.size < w2.heap.size := by omega
  have z_w2_w_1 : w.heap.size + 1 < w2.heap.size := by omega
  have z_w2_w_2 : w.heap.size + 2 < w2.heap.size := by omega
  clear hx
  clear hb
  go_wp2_with fail
  refine (hA.out _).mono ?_
  clear hA
  rintro e w3 ⟨rfl, hx⟩
  have hc_w3 := (ext_cell hx).1
  have hf_w3 := (ext_cell hx).2
  have HX_w3 := Lib.hid hx
  have y_w3 := hx.size
  try simp at y_w3
  have z_w3_w_0 : w.heap.size < w3.heap.size := by omega
  have z_w3_w_1 : w.heap.size + 1 < w3.heap.size := by omega
  have z_w3_w_2 : w.heap.size + 2 < w3.heap.size := by omega
  clear hx
  go_wp2_with fail
  refine (pJump_ok _ _ _ hi' _).mono ?_
  rintro e w4 ⟨rfl, hx⟩
  have hc_w4 := (ext_cell hx).1
  have hf_w4 := (ext_cell hx).2
  have HX_w4 := Lib.hid hx
  have y_w4 := hx.size
  try simp at y_w4
  have z_w4_w_0 : w.heap.size < w4.heap.size := by omega
  have z_w4_w_1 : w.heap.size + 1 < w4.heap.size := by omega
  have z_w4_w_2 : w.heap.size + 2 < w4.heap.size := by omega
  have z_w4_w3_0 : w3.heap.size < w4.heap.size := by omega
  clear hx
  go_wp2_with fail
  refine (pJump_ok _ _ _ hi' _).mono ?_
  rintro e w5 ⟨rfl, hx⟩
  have hc_w5 := (ext_cell hx).1
  have hf_w5 := (ext_cell hx).2
  have HX_w5 := Lib.hid hx
  have y_w5 := hx.size
  try simp at y_w5
  have z_w5_w_0 : w.heap.size < w5.heap.size := by omega
  have z_w5_w_1 : w.heap.size + 1 < w5.heap.size := by omega
  have z_w5_w_2 : w.heap.size + 2 < w5.heap.size := by omega
  have z_w5_w3_0 : w3.heap.size < w5.heap.size := by omega
  have z_w5_w4_0 : w4.heap.size < w5.heap.size := by omega
  clear hx
  go_wp2_with fail
  refine (pJump_ok _ _ _ hi' _).mono ?_
  rintro e w6 ⟨rfl, hx⟩
  have hc_w6 := (ext_cell hx).1
  have hf_w6 := (ext_cell hx).2
  have HX_w6 := Lib.hid hx
  have y_w6 := hx.size
  try simp at y_w6
  have z_w6_w_0 : w.heap.size < w6.heap.size := by omega
  have z_w6_w_1 : w.heap.size + 1 < w6.heap.size := by omega
  have z_w6_w_2 : w.heap.size + 2 < w6.heap.size := by omega
  have z_w6_w3_0 : w3.heap.size < w6.heap.size := by omega
  have z_w6_w4_0 : w4.heap.size < w6.heap.size := by omega
  have z_w6_w5_0 : w5.heap.size < w6.heap.size := by omega
  clear hx
  try dsimp only
  repeat (first | with_reducible refine wp_region_ext ?_ [(0, 1), (1, 1), (2, 1), (3, 0), (4, 0), (5, 0), (6, 2), (7, 2), (8, 0)] (fun _ => true) ?_ ?_ ?_ ?_ ?_ | go_step)
  · kernel_rfl
  · kernel_rfl
  · kernel_rfl
  · kernel_rfl
  · exact (fun _ _ d _ _ h => by cases d <;> exact h)
  refine run_read (o := ?_) (v := ?_) (a' := ?_) ?_ ?_ ?_ ?_ (Ext.refl _) ?_
  rotate_left 3
  · (simp only [List.getElem?_toArray, List.getElem?_cons_succ, List.getElem?_cons_zero] <;> rfl)
  · rfl
  · intro w' hw'
    obtain ⟨hc, hf⟩ := ext_cell hw'
    clear hw'
    go_simp
    with_reducible rfl
  · simp only [Act.put, List.setIfInBounds_toArray, List.set_cons_zero, List.set_cons_succ]
    rfl
  refine run_call (f := 21) (args := ?_) (o := ?_) (v := ?_) (a' := ?_) ?_ ?_ ?_ ?_ ?_ (Ext.refl _) ?_
  rotate_left 4
  · (simp only [List.getElem?_toArray, List.getElem?_cons_succ, List.getElem?_cons_zero] <;> rfl)
  · rfl
  · intro w'
    go_simp
    with_reducible rfl
  · intro w' _
    exact (by refine wOf _ ?_ _; unfold Word; omega)
  · simp only [Act.put, List.setIfInBounds_toArray, List.set_cons_zero, List.set_cons_succ]
    rfl
  refine run_call (f := 20) (args := ?_) (o := ?_) (v := ?_) (a' := ?_) ?_ ?_ ?_ ?_ ?_ (Ext.refl _) ?_
  rotate_left 4
  · (simp only [List.getElem?_toArray, List.getElem?_cons_succ, List.getElem?_cons_zero] <;> rfl)
  · rfl
  · intro w'
    go_simp
    with_reducible rfl
  · intro w' _
    exact (pJump_one _ _ hi' _)
  · simp only [Act.put, List.setIfInBounds_toArray, List.set_cons_zero, List.set_cons_succ]
    rfl
  refine run_pure (o := ?_) (v := ?_) (a' := ?_) ?_ ?_ ?_ ?_ ?_
  rotate_left 3
  · (simp only [List.getElem?_toArray, List.getElem?_cons_succ, List.getElem?_cons_zero] <;> rfl)
  · rfl
  · intro w'
    go_simp
    with_reducible rfl
  · simp only [Act.put, List.setIfInBounds_toArray, List.set_cons_zero, List.set_cons_succ]
    rfl
  refine run_pure (o := ?_) (v := ?_) (a' := ?_) ?_ ?_ ?_ ?_ ?_
  rotate_left 3
  · (simp only [List.getElem?_toArray, List.getElem?_cons_succ, List.getElem?_cons_zero] <;> rfl)
  · rfl
  · intro w'
    go_simp
    with_reducible rfl
  · simp only [Act.put, List.setIfInBounds_toArray, List.set_cons_zero, List.set_cons_succ]
    rfl
  refine run_pure (o := ?_) (v := ?_) (a' := ?_) ?_ ?_ ?_ ?_ ?_
  rotate_left 3
  · (simp only [List.getElem?_toArray, List.getElem?_cons_succ, List.getElem?_cons_zero] <;> rfl)
  · rfl
  · intro w'
    go_simp
    with_reducible rfl
  · simp only [Act.put, List.setIfInBounds_toArray, List.set_cons_zero, List.set_cons_succ]
    rfl
  refine run_do (o := ?_) ?_ ?_ (fun b1 hx K hK => ?_)
  rotate_left
  · (simp only [List.getElem?_toArray, List.getElem?_cons_succ, List.getElem?_cons_zero] <;> rfl)
  · rfl
  have hc_b1 := (ext_cell hx).1
  have hf_b1 := (ext_cell hx).2
  have HX_b1 := Lib.hid hx
  have y_b1 := hx.size
  try simp at y_b1
  have z_b1_w_0 : w.heap.size < b1.heap.size := by omega
  have z_b1_w_1 : w.heap.size + 1 < b1.heap.size := by omega
  have z_b1_w_2 : w.heap.size + 2 < b1.heap.size := by omega
  have z_b1_w3_0 : w3.heap.size < b1.heap.size := by omega
  have z_b1_w4_0 : w4.heap.size < b1.heap.size := by omega
  have z_b1_w5_0 : w5.heap.size < b1.heap.size := by omega
  have z_b1_w6_0 : w6.heap.size < b1.heap.size := by omega
  clear hx
  go_simp
  refine hK _ _ (fun _ hs => hs.alloc _) ?_
  clear hK K
  try simp only [Act.put, List.setIfInBounds_toArray, List.set_cons_zero, List.set_cons_succ]
  refine run_do (o := ?_) ?_ ?_ (fun b2 hx K hK => ?_)
  rotate_left
  · (simp only [List.getElem?_toArray, List.getElem?_cons_succ, List.getElem?_cons_zero] <;> rfl)
  · rfl
  have hc_b2 := (ext_cell hx).1
  have hf_b2 := (ext_cell hx).2
  have HX_b2 := Lib.hid hx
  have y_b2 := hx.size
  try simp at y_b2
  have z_b2_w_0 : w.heap.size < b2.heap.size := by omega
  have z_b2_w_1 : w.heap.size + 1 < b2.heap.size := by omega
  have z_b2_w_2 : w.heap.size + 2 < b2.heap.size := by omega
  have z_b2_w3_0 : w3.heap.size < b2.heap.size := by omega
  have z_b2_w4_0 : w4.heap.size < b2.heap.size := by omega
  have z_b2_w5_0 : w5.heap.size < b2.heap.size := by omega
  have z_b2_w6_0 : w6.heap.size < b2.heap.size := by omega
  have z_b2_b1_0 : b1.heap.size < b2.heap.size := by omega
  clear hx
  go_simp
  refine hK _ _ (fun _ hs => ?_) ?_
  · repeat (first | exact hs | (refine Ext.setCell ?_ (by simp <;> omega) _))
  clear hK K
  refine run_pure (o := ?_) (v := ?_) (a' := ?_) ?_ ?_ ?_ ?_ ?_
  rotate_left 3
  · (simp only [List.getElem?_toArray, List.getElem?_cons_succ, List.getElem?_cons_zero] <;> rfl)
  · rfl
  · intro w'
    go_simp
    with_reducible rfl
  · simp only [Act.put, List.setIfInBounds_toArray, List.set_cons_zero, List.set_cons_succ]
    rfl
  refine run_nil (fun b3 hx => ?_)
  have hc_b3 := (ext_cell hx).1
  have hf_b3 := (ext_cell hx).2
  have HX_b3 := Lib.hid hx
  have y_b3 := hx.size
  try simp at y_b3
  have z_b3_w_0 : w.heap.size < b3.heap.size := by omega
  have z_b3_w_1 : w.heap.size + 1 < b3.heap.size := by omega
  have z_b3_w_2 : w.heap.size + 2 < b3.heap.size := by omega
  have z_b3_w3_0 : w3.heap.size < b3.heap.size := by omega
  have z_b3_w4_0 : w4.heap.size < b3.heap.size := by omega
  have z_b3_w5_0 : w5.heap.size < b3.heap.size := by omega
  have z_b3_w6_0 : w6.heap.size < b3.heap.size := by omega
  have z_b3_b1_0 : b1.heap.size < b3.heap.size := by omega
  clear hx
  go_wp2_with fail
  refine (pJump_zero _ _ hi' _).mono ?_
  rintro e w7 ⟨rfl, hx⟩
  have hc_w7 := (ext_cell hx).1
  have hf_w7 := (ext_cell hx).2
  have HX_w7 := Lib.hid hx
  have y_w7 := hx.size
  try simp at y_w7
  have z_w7_w_0 : w.heap.size < w7.heap.size := by omega
  have z_w7_w_1 : w.heap.size + 1 < w7.heap.size := by omega
  have z_w7_w_2 : w.heap.size + 2 < w7.heap.size := by omega
  have z_w7_w3_0 : w3.heap.size < w7.heap.size := by omega
  have z_w7_w4_0 : w4.heap.size < w7.heap.size := by omega
  have z_w7_w5_0 : w5.heap.size < w7.heap.size := by omega
  have z_w7_w6_0 : w6.heap.size < w7.heap.size := by omega
  have z_w7_b1_0 : b1.heap.size < w7.heap.size := by omega
  clear hx
  try dsimp only
  repeat (first | with_reducible refine wp_region_ext ?_ [(0, 0), (1, 0), (2, 0), (3, 0), (4, 0), (5, 0), (6, 0), (7, 0), (8, 0), (9, 0), (10, 0), (11, 0), (12, 0), (13, 0), (14, 0), (15, 0), (16, 0), (17, 0), (18, 0), (19, 1), (20, 1), (21, 0), (22, 0), (23, 0), (24, 1), (25, 1), (26, 1), (27, 0), (28, 0), (29, 0), (30, 1), (31, 1), (32, 0), (33, 0), (34, 0)] (fun _ => true) ?_ ?_ ?_ ?_ ?_ | go_step)
  · kernel_rfl
  · kernel_rfl
  · kernel_rfl
  · kernel_rfl
  · exact (fun _ _ d _ _ h => by cases d <;> exact h)
  refine run_pure (o := ?_) (v := ?_) (a' := ?_) ?_ ?_ ?_ ?_ ?_
  rotate_left 3
  · (simp only [List.getElem?_toArray, List.getElem?_cons_succ, List.getElem?_cons_zero] <;> rfl)
  · rfl
  · intro w'
    go_simp
    with_reducible rfl
  · simp only [Act.put, List.setIfInBounds_toArray, List.set_cons_zero, List.set_cons_succ]
    rfl
  refine run_pure (o := ?_) (v := ?_) (a' := ?_) ?_ ?_ ?_ ?_ ?_
  rotate_left 3
  · (simp only [List.getElem?_toArray, List.getElem?_cons_succ, List.getElem?_cons_zero] <;> rfl)
  · rfl
  · intro w'
    go_simp
    with_reducible rfl
  · simp only [Act.put, List.setIfInBounds_toArray, List.set_cons_zero, List.set_cons_succ]
    rfl
  refine run_pure (o := ?_) (v := ?_) (a' := ?_) ?_ ?_ ?_ ?_ ?_
  rotate_left 3
  · (simp only [List.getElem?_toArray, List.getElem?_cons_succ, List.getElem?_cons_zero] <;> rfl)
  · rfl
  · intro w'
    go_simp
    with_reducible rfl
  · simp only [Act.put, List.setIfInBounds_toArray, List.set_cons_zero, List.set_cons_succ]
    rfl
  refine run_pure (o := ?_) (v := ?_) (a' := ?_) ?_ ?_ ?_ ?_ ?_
  rotate_left 3
  · (simp only [List.getElem?_toArray, List.getElem?_cons_succ, List.getElem?_cons_zero] <;> rfl)
  · rfl
  · intro w'
    go_simp
    with_reducible rfl
  · simp only [Act.put, List.setIfInBounds_toArray, List.set_cons_zero, List.set_cons_succ]
    rfl
  refine run_pure (o := ?_) (v := ?_) (a' := ?_) ?_ ?_ ?_ ?_ ?_
  rotate_left 3
  · (simp only [List.getElem?_toArray, List.getElem?_cons_succ, List.getElem?_cons_zero] <;> rfl)
  · rfl
  · intro w'
    go_simp
    with_reducible rfl
  · simp only [Act.put, List.setIfInBounds_toArray, List.set_cons_zero, List.set_cons_succ]
    rfl
  refine run_pure (o := ?_) (v := ?_) (a' := ?_) ?_ ?_ ?_ ?_ ?_
  rotate_left 3
  · (simp only [List.getElem?_toArray, List.getElem?_cons_succ, List.getElem?_cons_zero] <;> rfl)
  · rfl
  · intro w'
    go_simp
    with_reducible rfl
  · simp only [Act.put, List.setIfInBounds_toArray, List.set_cons_zero, List.set_cons_succ]
    rfl
  refine run_pure (o := ?_) (v := ?_) (a' := ?_) ?_ ?_ ?_ ?_ ?_
  rotate_left 3
  · (simp only [List.getElem?_toArray, List.getElem?_cons_succ, List.getElem?_cons_zero] <;> rfl)
  · rfl
  · intro w'
    go_simp
    with_reducible rfl
  · simp only [Act.put, List.setIfInBounds_toArray, List.set_cons_zero, List.set_cons_succ]
    rfl
  refine run_pure (o := ?_) (v := ?_) (a' := ?_) ?_ ?_ ?_ ?_ ?_
  rotate_left 3
  · (simp only [List.getElem?_toArray, List.getElem?_cons_succ, List.getElem?_cons_zero] <;> rfl)
  · rfl
  · intro w'
    go_simp
    with_reducible rfl
  · simp only [Act.put, List.setIfInBounds_toArray, List.set_cons_zero, List.set_cons_succ]
    rfl
  refine run_pure (o := ?_) (v := ?_) (a' := ?_) ?_ ?_ ?_ ?_ ?_
  rotate_left 3
  · (simp only [List.getElem?_toArray, List.getElem?_cons_succ, List.getElem?_cons_zero] <;> rfl)
  · rfl
  · intro w'
    go_simp
    with_reducible rfl
  · simp only [Act.put, List.setIfInBounds_toArray, List.set_cons_zero, List.set_cons_succ]
    rfl
  refine run_pure (o := ?_) (v := ?_) (a' := ?_) ?_ ?_ ?_ ?_ ?_
  rotate_left 3
  · (simp only [List.getElem?_toArray, List.getElem?_cons_succ, List.getElem?_cons_zero] <;> rfl)
  · rfl
  · intro w'
    go_simp
    with_reducible rfl
  · simp only [Act.put, List.setIfInBounds_toArray, List.set_cons_zero, List.set_cons_succ]
    rfl
  refine run_pure (o := ?_) (v := ?_) (a' := ?_) ?_ ?_ ?_ ?_ ?_
  rotate_left 3
  · (simp only [List.getElem?_toArray, List.getElem?_cons_succ, List.getElem?_cons_zero] <;> rfl)
  · rfl
  · intro w'
    go_simp
    with_reducible rfl
  · simp only [Act.put, List.setIfInBounds_toArray, List.set_cons_zero, List.set_cons_succ]
    rfl
  refine run_pure (o := ?_) (v := ?_) (a' := ?_) ?_ ?_ ?_ ?_ ?_
  rotate_left 3
  · (simp only [List.getElem?_toArray, List.getElem?_cons_succ, List.getElem?_cons_zero] <;> rfl)
  · rfl
  · intro w'
    go_simp
    with_reducible rfl
  · simp only [Act.put, List.setIfInBounds_toArray, List.set_cons_zero, List.set_cons_succ]
    rfl
  refine run_pure (o := ?_) (v := ?_) (a' := ?_) ?_ ?_ ?_ ?_ ?_
  rotate_left 3
  · (simp only [List.getElem?_toArray, List.getElem?_cons_succ, List.getElem?_cons_zero] <;> rfl)
  · rfl
  · intro w'
    go_simp
    with_reducible rfl
  · simp only [Act.put, List.setIfInBounds_toArray, List.set_cons_zero, List.set_cons_succ]
    rfl
  refine run_pure (o := ?_) (v := ?_) (a' := ?_) ?_ ?_ ?_ ?_ ?_
  rotate_left 3
  · (simp only [List.getElem?_toArray, List.getElem?_cons_succ, List.getElem?_cons_zero] <;> rfl)
  · rfl
  · intro w'
    go_simp
    with_reducible rfl
  · simp only [Act.put, List.setIfInBounds_toArray, List.set_cons_zero, List.set_cons_succ]
    rfl
  refine run_pure (o := ?_) (v := ?_) (a' := ?_) ?_ ?_ ?_ ?_ ?_
  rotate_left 3
  · (simp only [List.getElem?_toArray, List.getElem?_cons_succ, List.getElem?_cons_zero] <;> rfl)
  · rfl
  · intro w'
    go_simp
    with_reducible rfl
  · simp only [Act.put, List.setIfInBounds_toArray, List.set_cons_zero, List.set_cons_succ]
    rfl
  refine run_pure (o := ?_) (v := ?_) (a' := ?_) ?_ ?_ ?_ ?_ ?_
  rotate_left 3
  · (simp only [List.getElem?_toArray, List.getElem?_cons_succ, List.getElem?_cons_zero] <;> rfl)
  · rfl
  · intro w'
    go_simp
    with_reducible rfl
  · simp only [Act.put, List.setIfInBounds_toArray, List.set_cons_zero, List.set_cons_succ]
    rfl
  refine run_pure (o := ?_) (v := ?_) (a' := ?_) ?_ ?_ ?_ ?_ ?_
  rotate_left 3
  · (simp only [List.getElem?_toArray, List.getElem?_cons_succ, List.getElem?_cons_zero] <;> rfl)
  · rfl
  · intro w'
    go_simp
    with_reducible rfl
  · simp only [Act.put, List.setIfInBounds_toArray, List.set_cons_zero, List.set_cons_succ]
    rfl
  refine run_pure (o := ?_) (v := ?_) (a' := ?_) ?_ ?_ ?_ ?_ ?_
  rotate_left 3
  · (simp only [List.getElem?_toArray, List.getElem?_cons_succ, List.getElem?_cons_zero] <;> rfl)
  · rfl
  · intro w'
    go_simp
    with_reducible rfl
  · simp only [Act.put, List.setIfInBounds_toArray, List.set_cons_zero, List.set_cons_succ]
    rfl
  refine run_pure (o := ?_) (v := ?_) (a' := ?_) ?_ ?_ ?_ ?_ ?_
  rotate_left 3
  · (simp only [List.getElem?_toArray, List.getElem?_cons_succ, List.getElem?_cons_zero] <;> rfl)
  · rfl
  · intro w'
    go_simp
    with_reducible rfl
  · simp only [Act.put, List.setIfInBounds_toArray, List.set_cons_zero, List.set_cons_succ]
    rfl
  refine run_read (o := ?_) (v := ?_) (a' := ?_) ?_ ?_ ?_ ?_ (Ext.refl _) ?_
  rotate_left 3
  · (simp only [List.getElem?_toArray, List.getElem?_cons_succ, List.getElem?_cons_zero] <;> rfl)
  · rfl
  · intro w' hw'
    obtain ⟨hc, hf⟩ := ext_cell hw'
    clear hw'
    go_simp
    with_reducible rfl
  · simp only [Act.put, List.setIfInBounds_toArray, List.set_cons_zero, List.set_cons_succ]
    rfl
  refine run_read (o := ?_) (v := ?_) (a' := ?_) ?_ ?_ ?_ ?_ (Ext.refl _) ?_
  rotate_left 3
  · (simp only [List.getElem?_toArray, List.getElem?_cons_succ, List.getElem?_cons_zero] <;> rfl)
  · rfl
  · intro w' hw'
    obtain ⟨hc, hf⟩ := ext_cell hw'
    clear hw'
    go_simp
    with_reducible rfl
  · simp only [Act.put, List.setIfInBounds_toArray, List.set_cons_zero, List.set_cons_succ]
    rfl
  refine run_pure (o := ?_) (v := ?_) (a' := ?_) ?_ ?_ ?_ ?_ ?_
  rotate_left 3
  · (simp only [List.getElem?_toArray, List.getElem?_cons_succ, List.getElem?_cons_zero] <;> rfl)
  · rfl
  · intro w'
    go_simp
    with_reducible rfl
  · simp only [Act.put, List.setIfInBounds_toArray, List.set_cons_zero, List.set_cons_succ]
    rfl
  refine run_pure (o := ?_) (v := ?_) (a' := ?_) ?_ ?_ ?_ ?_ ?_
  rotate_left 3
  · (simp only [List.getElem?_toArray, List.getElem?_cons_succ, List.getElem?_cons_zero] <;> rfl)
  · rfl
  · intro w'
    go_simp
    with_reducible rfl
  · simp only [Act.put, List.setIfInBounds_toArray, List.set_cons_zero, List.set_cons_succ]
    rfl
  refine run_pure (o := ?_) (v := ?_) (a' := ?_) ?_ ?_ ?_ ?_ ?_
  rotate_left 3
  · (simp only [List.getElem?_toArray, List.getElem?_cons_succ, List.getElem?_cons_zero] <;> rfl)
  · rfl
  · intro w'
    go_simp
    with_reducible rfl
  · simp only [Act.put, List.setIfInBounds_toArray, List.set_cons_zero, List.set_cons_succ]
    rfl
  refine run_read (o := ?_) (v := ?_) (a' := ?_) ?_ ?_ ?_ ?_ (Ext.refl _) ?_
  rotate_left 3
  · (simp only [List.getElem?_toArray, List.getElem?_cons_succ, List.getElem?_cons_zero] <;> rfl)
  · rfl
  · intro w' hw'
    obtain ⟨hc, hf⟩ := ext_cell hw'
    clear hw'
    go_simp
    with_reducible rfl
  · simp only [Act.put, List.setIfInBounds_toArray, List.set_cons_zero, List.set_cons_succ]
    rfl
  refine run_read (o := ?_) (v := ?_) (a' := ?_) ?_ ?_ ?_ ?_ (Ext.refl _) ?_
  rotate_left 3
  · (simp only [List.getElem?_toArray, List.getElem?_cons_succ, List.getElem?_cons_zero] <;> rfl)
  · rfl
  · intro w' hw'
    obtain ⟨hc, hf⟩ := ext_cell hw'
    clear hw'
    go_simp
    with_reducible rfl
  · simp only [Act.put, List.setIfInBounds_toArray, List.set_cons_zero, List.set_cons_succ]
    rfl
  refine run_call (f := 16) (args := ?_) (o := ?_) (v := ?_) (a' := ?_) ?_ ?_ ?_ ?_ ?_ (Ext.refl _) ?_
  rotate_left 4
  · (simp only [List.getElem?_toArray, List.getElem?_cons_succ, List.getElem?_cons_zero] <;> rfl)
  · rfl
  · intro w'
    go_simp
    with_reducible rfl
  · intro w' _
    exact (pStep _ _ _)
  · simp only [Act.put, List.setIfInBounds_toArray, List.set_cons_zero, List.set_cons_succ]
    rfl
  refine run_pure (o := ?_) (v := ?_) (a' := ?_) ?_ ?_ ?_ ?_ ?_
  rotate_left 3
  · (simp only [List.getElem?_toArray, List.getElem?_cons_succ, List.getElem?_cons_zero] <;> rfl)
  · rfl
  · intro w'
    go_simp
    with_reducible rfl
  · simp only [Act.put, List.setIfInBounds_toArray, List.set_cons_zero, List.set_cons_succ]
    rfl
  refine run_pure (o := ?_) (v := ?_) (a' := ?_) ?_ ?_ ?_ ?_ ?_
  rotate_left 3
  · (simp only [List.getElem?_toArray, List.getElem?_cons_succ, List.getElem?_cons_zero] <;> rfl)
  · rfl
  · intro w'
    go_simp
    with_reducible rfl
  · simp only [Act.put, List.setIfInBounds_toArray, List.set_cons_zero, List.set_cons_succ]
    rfl
  refine run_pure (o := ?_) (v := ?_) (a' := ?_) ?_ ?_ ?_ ?_ ?_
  rotate_left 3
  · (simp only [List.getElem?_toArray, List.getElem?_cons_succ, List.getElem?_cons_zero] <;> rfl)
  · rfl
  · intro w'
    go_simp
    with_reducible rfl
  · simp only [Act.put, List.setIfInBounds_toArray, List.set_cons_zero, List.set_cons_succ]
    rfl
  refine run_read (o := ?_) (v := ?_) (a' := ?_) ?_ ?_ ?_ ?_ (Ext.refl _) ?_
  rotate_left 3
  · (simp only [List.getElem?_toArray, List.getElem?_cons_succ, List.getElem?_cons_zero] <;> rfl)
  · rfl
  · intro w' hw'
    obtain ⟨hc, hf⟩ := ext_cell hw'
    clear hw'
    go_simp
    with_reducible rfl
  · simp only [Act.put, List.setIfInBounds_toArray, List.set_cons_zero, List.set_cons_succ]
    rfl
  refine run_read (o := ?_) (v := ?_) (a' := ?_) ?_ ?_ ?_ ?_ (Ext.refl _) ?_
  rotate_left 3
  · (simp only [List.getElem?_toArray, List.getElem?_cons_succ, List.getElem?_cons_zero] <;> rfl)
  · rfl
  · intro w' hw'
    obtain ⟨hc, hf⟩ := ext_cell hw'
    clear hw'
    go_simp
    with_reducible rfl
  · simp only [Act.put, List.setIfInBounds_toArray, List.set_cons_zero, List.set_cons_succ]
    rfl
  refine run_pure (o := ?_) (v := ?_) (a' := ?_) ?_ ?_ ?_ ?_ ?_
  rotate_left 3
  · (simp only [List.getElem?_toArray, List.getElem?_cons_succ, List.getElem?_cons_zero] <;> rfl)
  · rfl
  · intro w'
    go_simp
    with_reducible rfl
  · simp only [Act.put, List.setIfInBounds_toArray, List.set_cons_zero, List.set_cons_succ]
    rfl
  refine run_pure (o := ?_) (v := ?_) (a' := ?_) ?_ ?_ ?_ ?_ ?_
  rotate_left 3
  · (simp only [List.getElem?_toArray, List.getElem?_cons_succ, List.getElem?_cons_zero] <;> rfl)
  · rfl
  · intro w'
    go_simp
    with_reducible rfl
  · simp only [Act.put, List.setIfInBounds_toArray, List.set_cons_zero, List.set_cons_succ]
    rfl
  refine run_pure (o := ?_) (v := ?_) (a' := ?_) ?_ ?_ ?_ ?_ ?_
  rotate_left 3
  · (simp only [List.getElem?_toArray, List.getElem?_cons_succ, List.getElem?_cons_zero] <;> rfl)
  · rfl
  · intro w'
    go_simp
    with_reducible rfl
  · simp only [Act.put, List.setIfInBounds_toArray, List.set_cons_zero, List.set_cons_succ]
    rfl
  refine run_nil (fun a1 hx => ?_)
  have hc_a1 := (ext_cell hx).1
  have hf_a1 := (ext_cell hx).2
  have HX_a1 := Lib.hid hx
  have y_a1 := hx.size
  try simp at y_a1
  have z_a1_w_0 : w.heap.size < a1.heap.size := by omega
  have z_a1_w_1 : w.heap.size + 1 < a1.heap.size := by omega
  have z_a1_w_2 : w.heap.size + 2 < a1.heap.size := by omega
  have z_a1_w3_0 : w3.heap.size < a1.heap.size := by omega
  have z_a1_w4_0 : w4.heap.size < a1.heap.size := by omega
  have z_a1_w5_0 : w5.heap.size < a1.heap.size := by omega
  have z_a1_w6_0 : w6.heap.size < a1.heap.size := by omega
  have z_a1_b1_0 : b1.heap.size < a1.heap.size := by omega
  have z_a1_w7_0 : w7.heap.size < a1.heap.size := by omega
  clear hx
  go_wp2
  go_ret
  refine ⟨by simp, ?_⟩
  · repeat (first | exact Ext.refl _ | refine Ext.alloc ?_ _ | (refine Ext.setCell ?_ (by simp <;> omega) _) | refine Ext.drew ?_ | refine Ext.trans ?_ HX_a1.out | refine Ext.trans ?_ HX_w7.out | refine Ext.trans ?_ HX_b3.out | refine Ext.trans ?_ HX_b2.out | refine Ext.trans ?_ HX_b1.out | refine Ext.trans ?_ HX_w6.out | refine Ext.trans ?_ HX_w5.out | refine Ext.trans ?_ HX_w4.out | refine Ext.trans ?_ HX_w3.out | refine Ext.trans ?_ HX_w2.out | refine Ext.trans ?_ HX_w1.out)
theorem pcgJumps_walk (s i n k : V) (w : World) :
    Calls Try.prog 6 #[.agg #[.int .u64 (hi s), .int .u64 (lo s), .int .u64 (hi i), .int .u64 (lo i)], .agg #[.int .u64 (hi n), .int .u64 (lo n)], .agg #[.int .u64 (hi k), .int .u64 (lo k)]] w fun e w' => e = .returned (.bool true) ∧ Ext w w' := by
  rcases Nat.mod_two_eq_zero_or_one i.toNat with h | h
  · exact pcgJumps_even s i n k h w
  · exact pcgJumps_odd s i n k h w
end Go.Proofs.Ytjjapblpmpidcab
