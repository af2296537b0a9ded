import Derived.Test.YtjjapblpmpidcabTC0
import Derived.Deep.DeepCutAuto
import Derived.OpenShut
set_option linter.unusedVariables false
set_option linter.unusedSimpArgs false
namespace Go.Proofs.Ytjjapblpmpidcab
open Go.RowKit Num UReg

theorem pRightE {s i : V} {b : Bool} (h : decide (i.toNat % 2 = 1) = b) (w : World) : Calls Try.prog 18 #[.agg #[.int .u64 (hi s), .int .u64 (lo s), .int .u64 (hi i), .int .u64 (lo i)]] w fun e w' =>
    e = .returned (.bool b) ∧ Ext w w' := by
  have h1 := pRight s i w
  rwa [h] at h1
theorem pWordE {s i : V} {p : Int} (h : wordP s = p) (w : World) : Calls Try.prog 13 #[.agg #[.int .u64 (hi s), .int .u64 (lo s), .int .u64 (hi i), .int .u64 (lo i)]] w fun e w' =>
    e = .returned (.int .u64 p) ∧ Ext w w' := by
  have h1 := pWord s i w
  rwa [h] at h1
theorem r10WordE {s i : V} {p : Int} (h : wordP s = p) (w : World) : Calls Try.prog 14 #[.agg #[.int .u64 (hi s), .int .u64 (lo s), .int .u64 (hi i), .int .u64 (lo i)]] w fun e w' =>
    e = .returned (.int .u64 p) ∧ Ext w w' := by
  have h1 := r10Word s i w
  rwa [h] at h1
theorem pStepE {s i y : V} (h : fac * s + i = y) (w : World) : Calls Try.prog 16 #[.agg #[.int .u64 (hi s), .int .u64 (lo s), .int .u64 (hi i), .int .u64 (lo i)]] w fun e w' =>
    e = .returned (.agg #[.int .u64 (hi y), .int .u64 (lo y), .int .u64 (hi i), .int .u64 (lo i)]) ∧ Ext w w' := by
  have h1 := pStep s i w
  rwa [h] at h1
set_option maxRecDepth 100000 in
set_option maxHeartbeats 8000000 in
theorem pcgTells_even (s i : V) (many : Int) (n : Int) (n0 : 0 ≤ n) (n1 : n ≤ 65535) (hi' : i.toNat % 2 = 0) (w : World) :
    Calls Try.prog 3 #[.agg #[.int .u64 (hi s), .int .u64 (lo s), .int .u64 (hi i), .int .u64 (lo i)], .int .i64 many, .int .u16 n] w fun e w' => e = .returned (.bool true) ∧ Ext w w' := by
  obtain ⟨N, hN⟩ : ∃ N : Nat, (N : Int) = n % 300 := ⟨(n % 300).toNat, by omega⟩
  have hN2 : N < 300 := by omega
  have e1 : n.tmod 300 = (N : Int) := by rw [Int.tmod_eq_emod_of_nonneg n0, hN]
  have e1' : n % 300 = (N : Int) := hN.symm
  have e2 : IntKind.u64.wrap (N : Int) = N := IntWalk.u64_in _ (by omega)
  have e3 : IntKind.i64.wrap (N : Int) = N := IntWalk.i64_in _ (by omega)
  have e3' : IntKind.u16.wrap (N : Int) = N := IntWalk.u16_in _ (by omega)
  have l0 := (word_lo i).1
  have e4 : (lo i).tmod 2 = 0 := by rw [Int.tmod_eq_emod_of_nonneg l0]; unfold lo; omega
  have e5 : lo i % 2 = 0 := by unfold lo; omega
  have hb : decide (i.toNat % 2 = 1) = false := by simp [hi']
  obtain ⟨y, hy⟩ : ∃ y, fac * s + i = y := ⟨_, rfl⟩
  obtain ⟨z, hz⟩ : ∃ z, pst s i N = z := ⟨_, rfl⟩
  have HR := Lib.hid (pRightE (s := s) hb)
  have HS := Lib.hid (pStepE hy)
  have HS' := Lib.hid (r10Step hy)
  have HJ := Lib.hid (pJump_bad s i (of (N : Int)) hi')
  have HJ' := Lib.hid (r10Jump (by omega) hz)
  have HOf := Lib.hid (wOfN (show N < 1000 by omega))
  have HW := Lib.hid (pWords_bad s i many hi')
  clear hN l0 hb hy hz n0 n1
  obtain ⟨P, hP⟩ : ∃ P, wordP s = P := ⟨_, rfl⟩
  have HP := Lib.hid (pWordE (i := i) hP)
  have HP' := Lib.hid (r10WordE (i := i) hP)
  clear hP
  have HI := Lib.hid hi'; clear hi'
  go_enter Try.func3, Try.ntmps3
  go_wp2_with fail
  refine (awake10 _).mono ?_
  rintro e w1 ⟨rfl, hx⟩
  have hc_w1 := (ext_cell hx).1
  have hf_w1 := (ext_cell hx).2
  have HX_w1 := Lib.hid hx
  have y_w1 := hx.size
  try simp at y_w1
  have z_w1_w_0 : w.heap.size < w1.heap.size := by omega
  clear hx
  try dsimp only
  repeat (first | with_reducible refine wp_region_ext ?_ [(0, 1), (1, 1), (2, 1), (3, 1), (4, 1), (5, 0), (6, 0), (7, 1), (8, 1), (9, 1), (10, 1), (11, 1), (12, 1), (13, 0), (14, 0), (15, 0), (16, 1), (17, 1), (18, 0), (19, 0), (20, 1), (21, 0), (22, 0), (23, 0), (24, 0)] (fun _ => true) ?_ ?_ ?_ ?_ ?_ | go_step)
  · kernel_rfl
  · kernel_rfl
  · kernel_rfl
  · kernel_rfl
  · exact (fun _ _ d _ _ h => by cases d <;> exact h)
  refine run_read (o := ?_) (v := ?_) (a' := ?_) ?_ ?_ ?_ ?_ (Ext.refl _) ?_
  rotate_left 3
  · (simp only [List.getElem?_toArray, List.getElem?_cons_succ, List.getElem?_cons_zero] <;> rfl)
  · rfl
  · intro w' hw'
    obtain ⟨hc, hf⟩ := ext_cell hw'
    clear hw'
    go_simp
    with_reducible rfl
  · simp only [Act.put, List.setIfInBounds_toArray, List.set_cons_zero, List.set_cons_succ]
    rfl
  refine run_call (f := 13) (args := ?_) (o := ?_) (v := ?_) (a' := ?_) ?_ ?_ ?_ ?_ ?_ (Ext.refl _) ?_
  rotate_left 4
  · (simp only [List.getElem?_toArray, List.getElem?_cons_succ, List.getElem?_cons_zero] <;> rfl)
  · rfl
  · intro w'
    go_simp
    with_reducible rfl
  · intro w' hw'
    exact (HP.out _)
  · simp only [Act.put, List.setIfInBounds_toArray, List.set_cons_zero, List.set_cons_succ]
    rfl
  refine run_read (o := ?_) (v := ?_) (a' := ?_) ?_ ?_ ?_ ?_ (Ext.refl _) ?_
  rotate_left 3
  · (simp only [List.getElem?_toArray, List.getElem?_cons_succ, List.getElem?_cons_zero] <;> rfl)
  · rfl
  · intro w' hw'
    obtain ⟨hc, hf⟩ := ext_cell hw'
    clear hw'
    go_simp
    with_reducible rfl
  · simp only [Act.put, List.setIfInBounds_toArray, List.set_cons_zero, List.set_cons_succ]
    rfl
  refine run_call (f := 15) (args := ?_) (o := ?_) (v := ?_) (a' := ?_) ?_ ?_ ?_ ?_ ?_ (Ext.refl _) ?_
  rotate_left 4
  · (simp only [List.getElem?_toArray, List.getElem?_cons_succ, List.getElem?_cons_zero] <;> rfl)
  · rfl
  · intro w'
    go_simp
    with_reducible rfl
  · intro w' hw'
    exact (pOwn _ _ _ _ _)
  · simp only [Act.put, List.setIfInBounds_toArray, List.set_cons_zero, List.set_cons_succ]
    rfl
  refine run_call (f := 14) (args := ?_) (o := ?_) (v := ?_) (a' := ?_) ?_ ?_ ?_ ?_ ?_ (Ext.refl _) ?_
  rotate_left 4
  · (simp only [List.getElem?_toArray, List.getElem?_cons_succ, List.getElem?_cons_zero] <;> rfl)
  · rfl
  · intro w'
    go_simp
    with_reducible rfl
  · intro w' hw'
    exact (HP'.out _)
  · simp only [Act.put, List.setIfInBounds_toArray, List.set_cons_zero, List.set_cons_succ]
    rfl
  refine run_pure (o := ?_) (v := ?_) (a' := ?_) ?_ ?_ ?_ ?_ ?_
  rotate_left 3
  · (simp only [List.getElem?_toArray, List.getElem?_cons_succ, List.getElem?_cons_zero] <;> rfl)
  · rfl
  · intro w'
    go_simp
    with_reducible rfl
  · simp only [Act.put, List.setIfInBounds_toArray, List.set_cons_zero, List.set_cons_succ]
    rfl
  refine run_pure (o := ?_) (v := ?_) (a' := ?_) ?_ ?_ ?_ ?_ ?_
  rotate_left 3
  · (simp only [List.getElem?_toArray, List.getElem?_cons_succ, List.getElem?_cons_zero] <;> rfl)
  · rfl
  · intro w'
    go_simp
    with_reducible rfl
  · simp only [Act.put, List.setIfInBounds_toArray, List.set_cons_zero, List.set_cons_succ]
    rfl
  refine run_read (o := ?_) (v := ?_) (a' := ?_) ?_ ?_ ?_ ?_ (Ext.refl _) ?_
  rotate_left 3
  · (simp only [List.getElem?_toArray, List.getElem?_cons_succ, List.getElem?_cons_zero] <;> rfl)
  · rfl
  · intro w' hw'
    obtain ⟨hc, hf⟩ := ext_cell hw'
    clear hw'
    go_simp
    with_reducible rfl
  · simp only [Act.put, List.setIfInBounds_toArray, List.set_cons_zero, List.set_cons_succ]
    rfl
  refine run_call (f := 16) (args := ?_) (o := ?_) (v := ?_) (a' := ?_) ?_ ?_ ?_ ?_ ?_ (Ext.refl _) ?_
  rotate_left 4
  · (simp only [List.getElem?_toArray, List.getElem?_cons_succ, List.getElem?_cons_zero] <;> rfl)
  · rfl
  · intro w'
    go_simp
    with_reducible rfl
  · intro w' hw'
    exact (HS.out _)
  · simp only [Act.put, List.setIfInBounds_toArray, List.set_cons_zero, List.set_cons_succ]
    rfl
  refine run_call (f := 15) (args := ?_) (o := ?_) (v := ?_) (a' := ?_) ?_ ?_ ?_ ?_ ?_ (Ext.refl _) ?_
  rotate_left 4
  · (simp only [List.getElem?_toArray, List.getElem?_cons_succ, List.getElem?_cons_zero] <;> rfl)
  · rfl
  · intro w'
    go_simp
    with_reducible rfl
  · intro w' hw'
    exact (pOwn _ _ _ _ _)
  · simp only [Act.put, List.setIfInBounds_toArray, List.set_cons_zero, List.set_cons_succ]
    rfl
  refine run_read (o := ?_) (v := ?_) (a' := ?_) ?_ ?_ ?_ ?_ (Ext.refl _) ?_
  rotate_left 3
  · (simp only [List.getElem?_toArray, List.getElem?_cons_succ, List.getElem?_cons_zero] <;> rfl)
  · rfl
  · intro w' hw'
    obtain ⟨hc, hf⟩ := ext_cell hw'
    clear hw'
    go_simp
    with_reducible rfl
  · simp only [Act.put, List.setIfInBounds_toArray, List.set_cons_zero, List.set_cons_succ]
    rfl
  refine run_call (f := 15) (args := ?_) (o := ?_) (v := ?_) (a' := ?_) ?_ ?_ ?_ ?_ ?_ (Ext.refl _) ?_
  rotate_left 4
  · (simp only [List.getElem?_toArray, List.getElem?_cons_succ, List.getElem?_cons_zero] <;> rfl)
  · rfl
  · intro w'
    go_simp
    with_reducible rfl
  · intro w' hw'
    exact (pOwn _ _ _ _ _)
  · simp only [Act.put, List.setIfInBounds_toArray, List.set_cons_zero, List.set_cons_succ]
    rfl
  refine run_call (f := 17) (args := ?_) (o := ?_) (v := ?_) (a' := ?_) ?_ ?_ ?_ ?_ ?_ (Ext.refl _) ?_
  rotate_left 4
  · (simp only [List.getElem?_toArray, List.getElem?_cons_succ, List.getElem?_cons_zero] <;> rfl)
  · rfl
  · intro w'
    go_simp
    with_reducible rfl
  · intro w' hw'
    exact (HS'.out _)
  · simp only [Act.put, List.setIfInBounds_toArray, List.set_cons_zero, List.set_cons_succ]
    rfl
  refine run_pure (o := ?_) (v := ?_) (a' := ?_) ?_ ?_ ?_ ?_ ?_
  rotate_left 3
  · (simp only [List.getElem?_toArray, List.getElem?_cons_succ, List.getElem?_cons_zero] <;> rfl)
  · rfl
  · intro w'
    go_simp
    with_reducible rfl
  · simp only [Act.put, List.setIfInBounds_toArray, List.set_cons_zero, List.set_cons_succ]
    rfl
  refine run_pure (o := ?_) (v := ?_) (a' := ?_) ?_ ?_ ?_ ?_ ?_
  rotate_left 3
  · (simp only [List.getElem?_toArray, List.getElem?_cons_succ, List.getElem?_cons_zero] <;> rfl)
  · rfl
  · intro w'
    go_simp
    with_reducible rfl
  · simp only [Act.put, List.setIfInBounds_toArray, List.set_cons_zero, List.set_cons_succ]
    rfl
  refine run_pure (o := ?_) (v := ?_) (a' := ?_) ?_ ?_ ?_ ?_ ?_
  rotate_left 3
  · (simp only [List.getElem?_toArray, List.getElem?_cons_succ, List.getElem?_cons_zero] <;> rfl)
  · rfl
  · intro w'
    go_simp
    with_reducible rfl
  · simp only [Act.put, List.setIfInBounds_toArray, List.set_cons_zero, List.set_cons_succ]
    rfl
  refine run_read (o := ?_) (v := ?_) (a' := ?_) ?_ ?_ ?_ ?_ (Ext.refl _) ?_
  rotate_left 3
  · (simp only [List.getElem?_toArray, List.getElem?_cons_succ, List.getElem?_cons_zero] <;> rfl)
  · rfl
  · intro w' hw'
    obtain ⟨hc, hf⟩ := ext_cell hw'
    clear hw'
    go_simp
    with_reducible rfl
  · simp only [Act.put, List.setIfInBounds_toArray, List.set_cons_zero, List.set_cons_succ]
    rfl
  refine run_call (f := 18) (args := ?_) (o := ?_) (v := ?_) (a' := ?_) ?_ ?_ ?_ ?_ ?_ (Ext.refl _) ?_
  rotate_left 4
  · (simp only [List.getElem?_toArray, List.getElem?_cons_succ, List.getElem?_cons_zero] <;> rfl)
  · rfl
  · intro w'
    go_simp
    with_reducible rfl
  · intro w' hw'
    exact (HR.out _)
  · simp only [Act.put, List.setIfInBounds_toArray, List.set_cons_zero, List.set_cons_succ]
    rfl
  refine run_pure (o := ?_) (v := ?_) (a' := ?_) ?_ ?_ ?_ ?_ ?_
  rotate_left 3
  · (simp only [List.getElem?_toArray, List.getElem?_cons_succ, List.getElem?_cons_zero] <;> rfl)
  · rfl
  · intro w'
    go_simp
    with_reducible rfl
  · simp only [Act.put, List.setIfInBounds_toArray, List.set_cons_zero, List.set_cons_succ]
    rfl
  refine run_pure (o := ?_) (v := ?_) (a' := ?_) ?_ ?_ ?_ ?_ ?_
  rotate_left 3
  · (simp only [List.getElem?_toArray, List.getElem?_cons_succ, List.getElem?_cons_zero] <;> rfl)
  · rfl
  · intro w'
    go_simp
    with_reducible rfl
  · simp only [Act.put, List.setIfInBounds_toArray, List.set_cons_zero, List.set_cons_succ]
    rfl
  refine run_read (o := ?_) (v := ?_) (a' := ?_) ?_ ?_ ?_ ?_ (Ext.refl _) ?_
  rotate_left 3
  · (simp only [List.getElem?_toArray, List.getElem?_cons_succ, List.getElem?_cons_zero] <;> rfl)
  · rfl
  · intro w' hw'
    obtain ⟨hc, hf⟩ := ext_cell hw'
    clear hw'
    go_simp
    with_reducible rfl
  · simp only [Act.put, List.setIfInBounds_toArray, List.set_cons_zero, List.set_cons_succ]
    rfl
  refine run_pure (o := ?_) (v := ?_) (a' := ?_) ?_ ?_ ?_ ?_ ?_
  rotate_left 3
  · (simp only [List.getElem?_toArray, List.getElem?_cons_succ, List.getElem?_cons_zero] <;> rfl)
  · rfl
  · intro w'
    go_simp
    with_reducible rfl
  · simp only [Act.put, List.setIfInBounds_toArray, List.set_cons_zero, List.set_cons_succ]
    rfl
  refine run_pure (o := ?_) (v := ?_) (a' := ?_) ?_ ?_ ?_ ?_ ?_
  rotate_left 3
  · (simp only [List.getElem?_toArray, List.getElem?_cons_succ, List.getElem?_cons_zero] <;> rfl)
  · rfl
  · intro w'
    go_simp
    with_reducible rfl
  · simp only [Act.put, List.setIfInBounds_toArray, List.set_cons_zero, List.set_cons_succ]
    rfl
  refine run_pure (o := ?_) (v := ?_) (a' := ?_) ?_ ?_ ?_ ?_ ?_
  rotate_left 3
  · (simp only [List.getElem?_toArray, List.getElem?_cons_succ, List.getElem?_cons_zero] <;> rfl)
  · rfl
  · intro w'
    go_simp
    with_reducible rfl
  · simp only [Act.put, List.setIfInBounds_toArray, List.set_cons_zero, List.set_cons_succ]
    rfl
  refine run_pure (o := ?_) (v := ?_) (a' := ?_) ?_ ?_ ?_ ?_ ?_
  rotate_left 3
  · (simp only [List.getElem?_toArray, List.getElem?_cons_succ, List.getElem?_cons_zero] <;> rfl)
  · rfl
  · intro w'
    go_simp
    with_reducible rfl
  · simp only [Act.put, List.setIfInBounds_toArray, List.set_cons_zero, List.set_cons_succ]
    rfl
  refine run_nil (fun a1 hx => ?_)
  have hc_a1 := (ext_cell hx).1
  have hf_a1 := (ext_cell hx).2
  have HX_a1 := Lib.hid hx
  have y_a1 := hx.size
  try simp at y_a1
  have z_a1_w_0 : w.heap.size < a1.heap.size := by omega
  clear hx
  go_wp2_with fail
  refine (HW.out _).mono ?_
  rintro e w2 ⟨rfl, hx⟩
  have hc_w2 := (ext_cell hx).1
  have hf_w2 := (ext_cell hx).2
  have HX_w2 := Lib.hid hx
  have y_w2 := hx.size
  try simp at y_w2
  have z_w2_w_0 : w.heap.size < w2.heap.size := by omega
  clear hx
  try dsimp only
  repeat (first | with_reducible refine wp_region_ext ?_ [(0, 1), (1, 0), (2, 0), (3, 0), (4, 1), (5, 1), (6, 0), (7, 0), (8, 0), (9, 2), (10, 2), (11, 0)] (fun _ => true) ?_ ?_ ?_ ?_ ?_ | go_step)
  · kernel_rfl
  · kernel_rfl
  · kernel_rfl
  · kernel_rfl
  · exact (fun _ _ d _ _ h => by cases d <;> exact h)
  refine run_read (o := ?_) (v := ?_) (a' := ?_) ?_ ?_ ?_ ?_ (Ext.refl _) ?_
  rotate_left 3
  · (simp only [List.getElem?_toArray, List.getElem?_cons_succ, List.getElem?_cons_zero] <;> rfl)
  · rfl
  · intro w' hw'
    obtain ⟨hc, hf⟩ := ext_cell hw'
    clear hw'
    go_simp
    with_reducible rfl
  · simp only [Act.put, List.setIfInBounds_toArray, List.set_cons_zero, List.set_cons_succ]
    rfl
  refine run_pure (o := ?_) (v := ?_) (a' := ?_) ?_ ?_ ?_ ?_ ?_
  rotate_left 3
  · (simp only [List.getElem?_toArray, List.getElem?_cons_succ, List.getElem?_cons_zero] <;> rfl)
  · rfl
  · intro w'
    go_simp
    with_reducible rfl
  · simp only [Act.put, List.setIfInBounds_toArray, List.set_cons_zero, List.set_cons_succ]
    rfl
  refine run_pure (o := ?_) (v := ?_) (a' := ?_) ?_ ?_ ?_ ?_ ?_
  rotate_left 3
  · (simp only [List.getElem?_toArray, List.getElem?_cons_succ, List.getElem?_cons_zero] <;> rfl)
  · rfl
  · intro w'
    go_simp
    with_reducible rfl
  · simp only [Act.put, List.setIfInBounds_toArray, List.set_cons_zero, List.set_cons_succ]
    rfl
  refine run_pure (o := ?_) (v := ?_) (a' := ?_) ?_ ?_ ?_ ?_ ?_
  rotate_left 3
  · (simp only [List.getElem?_toArray, List.getElem?_cons_succ, List.getElem?_cons_zero] <;> rfl)
  · rfl
  · intro w'
    go_simp
    with_reducible rfl
  · simp only [Act.put, List.setIfInBounds_toArray, List.set_cons_zero, List.set_cons_succ]
    rfl
  refine run_call (f := 21) (args := ?_) (o := ?_) (v := ?_) (a' := ?_) ?_ ?_ ?_ ?_ ?_ (Ext.refl _) ?_
  rotate_left 4
  · (simp only [List.getElem?_toArray, List.getElem?_cons_succ, List.getElem?_cons_zero] <;> rfl)
  · rfl
  · intro w'
    go_simp
    with_reducible rfl
  · intro w' hw'
    exact (HOf.out _)
  · simp only [Act.put, List.setIfInBounds_toArray, List.set_cons_zero, List.set_cons_succ]
    rfl
  refine run_call (f := 20) (args := ?_) (o := ?_) (v := ?_) (a' := ?_) ?_ ?_ ?_ ?_ ?_ (Ext.refl _) ?_
  rotate_left 4
  · (simp only [List.getElem?_toArray, List.getElem?_cons_succ, List.getElem?_cons_zero] <;> rfl)
  · rfl
  · intro w'
    go_simp
    with_reducible rfl
  · intro w' hw'
    exact (HJ.out _)
  · simp only [Act.put, List.setIfInBounds_toArray, List.set_cons_zero, List.set_cons_succ]
    rfl
  refine run_pure (o := ?_) (v := ?_) (a' := ?_) ?_ ?_ ?_ ?_ ?_
  rotate_left 3
  · (simp only [List.getElem?_toArray, List.getElem?_cons_succ, List.getElem?_cons_zero] <;> rfl)
  · rfl
  · intro w'
    go_simp
    with_reducible rfl
  · simp only [Act.put, List.setIfInBounds_toArray, List.set_cons_zero, List.set_cons_succ]
    rfl
  refine run_pure (o := ?_) (v := ?_) (a' := ?_) ?_ ?_ ?_ ?_ ?_
  rotate_left 3
  · (simp only [List.getElem?_toArray, List.getElem?_cons_succ, List.getElem?_cons_zero] <;> rfl)
  · rfl
  · intro w'
    go_simp
    with_reducible rfl
  · simp only [Act.put, List.setIfInBounds_toArray, List.set_cons_zero, List.set_cons_succ]
    rfl
  refine run_pure (o := ?_) (v := ?_) (a' := ?_) ?_ ?_ ?_ ?_ ?_
  rotate_left 3
  · (simp only [List.getElem?_toArray, List.getElem?_cons_succ, List.getElem?_cons_zero] <;> rfl)
  · rfl
  · intro w'
    go_simp
    with_reducible rfl
  · simp only [Act.put, List.setIfInBounds_toArray, List.set_cons_zero, List.set_cons_succ]
    rfl
  refine run_do (o := ?_) ?_ ?_ (fun b1 hx K hK => ?_)
  rotate_left
  · (simp only [List.getElem?_toArray, List.getElem?_cons_succ, List.getElem?_cons_zero] <;> rfl)
  · rfl
  have hc_b1 := (ext_cell hx).1
  have hf_b1 := (ext_cell hx).2
  have HX_b1 := Lib.hid hx
  have y_b1 := hx.size
  try simp at y_b1
  have z_b1_w_0 : w.heap.size < b1.heap.size := by omega
  have z_b1_w2_0 : w2.heap.size < b1.heap.size := by omega
  clear hx
  go_simp
  refine hK _ _ (fun _ hs => hs.alloc _) ?_
  clear hK K
  try simp only [Act.put, List.setIfInBounds_toArray, List.set_cons_zero, List.set_cons_succ]
  refine run_do (o := ?_) ?_ ?_ (fun b2 hx K hK => ?_)
  rotate_left
  · (simp only [List.getElem?_toArray, List.getElem?_cons_succ, List.getElem?_cons_zero] <;> rfl)
  · rfl
  have hc_b2 := (ext_cell hx).1
  have hf_b2 := (ext_cell hx).2
  have HX_b2 := Lib.hid hx
  have y_b2 := hx.size
  try simp at y_b2
  have z_b2_w_0 : w.heap.size < b2.heap.size := by omega
  have z_b2_w2_0 : w2.heap.size < b2.heap.size := by omega
  have z_b2_b1_0 : b1.heap.size < b2.heap.size := by omega
  clear hx
  go_simp
  refine hK _ _ (fun _ hs => ?_) ?_
  · repeat (first | exact hs | (refine Ext.setCell ?_ (by simp <;> omega) _))
  clear hK K
  refine run_pure (o := ?_) (v := ?_) (a' := ?_) ?_ ?_ ?_ ?_ ?_
  rotate_left 3
  · (simp only [List.getElem?_toArray, List.getElem?_cons_succ, List.getElem?_cons_zero] <;> rfl)
  · rfl
  · intro w'
    go_simp
    with_reducible rfl
  · simp only [Act.put, List.setIfInBounds_toArray, List.set_cons_zero, List.set_cons_succ]
    rfl
  refine run_nil (fun b3 hx => ?_)
  have hc_b3 := (ext_cell hx).1
  have hf_b3 := (ext_cell hx).2
  have HX_b3 := Lib.hid hx
  have y_b3 := hx.size
  try simp at y_b3
  have z_b3_w_0 : w.heap.size < b3.heap.size := by omega
  have z_b3_w2_0 : w2.heap.size < b3.heap.size := by omega
  have z_b3_b1_0 : b1.heap.size < b3.heap.size := by omega
  clear hx
  go_wp2_with fail
  refine (HR.out _).mono ?_
  rintro e w3 ⟨rfl, hx⟩
  have hc_w3 := (ext_cell hx).1
  have hf_w3 := (ext_cell hx).2
  have HX_w3 := Lib.hid hx
  have y_w3 := hx.size
  try simp at y_w3
  have z_w3_w_0 : w.heap.size < w3.heap.size := by omega
  have z_w3_w2_0 : w2.heap.size < w3.heap.size := by omega
  have z_w3_b1_0 : b1.heap.size < w3.heap.size := by omega
  clear hx
  go_wp2
  go_ret
  refine ⟨rfl, ?_⟩
  · repeat (first | exact Ext.refl _ | refine Ext.alloc ?_ _ | (refine Ext.setCell ?_ (by simp <;> omega) _) | refine Ext.drew ?_ | refine Ext.trans ?_ HX_w3.out | refine Ext.trans ?_ HX_b3.out | refine Ext.trans ?_ HX_b2.out | refine Ext.trans ?_ HX_b1.out | refine Ext.trans ?_ HX_w2.out | refine Ext.trans ?_ HX_a1.out | refine Ext.trans ?_ HX_w1.out)
set_option maxRecDepth 100000 in
set_option maxHeartbeats 8000000 in
theorem pcgTells_neg (s i : V) (many : Int) (n : Int) (n0 : 0 ≤ n) (n1 : n ≤ 65535) (hi' : i.toNat % 2 = 1) (hr : many < 0) (w : World) :
    Calls Try.prog 3 #[.agg #[.int .u64 (hi s), .int .u64 (lo s), .int .u64 (hi i), .int .u64 (lo i)], .int .i64 many, .int .u16 n] w fun e w' => e = .returned (.bool true) ∧ Ext w w' := by
  obtain ⟨N, hN⟩ : ∃ N : Nat, (N : Int) = n % 300 := ⟨(n % 300).toNat, by omega⟩
  have hN2 : N < 300 := by omega
  have e1 : n.tmod 300 = (N : Int) := by rw [Int.tmod_eq_emod_of_nonneg n0, hN]
  have e1' : n % 300 = (N : Int) := hN.symm
  have e2 : IntKind.u64.wrap (N : Int) = N := IntWalk.u64_in _ (by omega)
  have e3 : IntKind.i64.wrap (N : Int) = N := IntWalk.i64_in _ (by omega)
  have e3' : IntKind.u16.wrap (N : Int) = N := IntWalk.u16_in _ (by omega)
  have l0 := (word_lo i).1
  have e4 : (lo i).tmod 2 = 1 := by rw [Int.tmod_eq_emod_of_nonneg l0]; unfold lo; omega
  have e5 : lo i % 2 = 1 := by unfold lo; omega
  have hb : decide (i.toNat % 2 = 1) = true := by simp [hi']
  obtain ⟨y, hy⟩ : ∃ y, fac * s + i = y := ⟨_, rfl⟩
  obtain ⟨z, hz⟩ : ∃ z, pst s i N = z := ⟨_, rfl⟩
  have HR := Lib.hid (pRightE (s := s) hb)
  have HS := Lib.hid (pStepE hy)
  have HS' := Lib.hid (r10Step hy)
  have HJ := Lib.hid (pJumpN (by omega) hz hi')
  have HJ' := Lib.hid (r10Jump (by omega) hz)
  have HOf := Lib.hid (wOfN (show N < 1000 by omega))
  have HW := Lib.hid (pWords_neg s i many hi' hr)
  clear hN l0 hb hy hz n0 n1
  have q1 : decide (many < 0) = true := decide_eq_true hr
  obtain ⟨P, hP⟩ : ∃ P, wordP s = P := ⟨_, rfl⟩
  have HP := Lib.hid (pWordE (i := i) hP)
  have HP' := Lib.hid (r10WordE (i := i) hP)
  clear hP
  have HI := Lib.hid hi'; clear hi'
  go_enter Try.func3, Try.ntmps3
  go_wp2_with fail
  refine (awake10 _).mono ?_
  rintro e w1 ⟨rfl, hx⟩
  have hc_w1 := (ext_cell hx).1
  have hf_w1 := (ext_cell hx).2
  have HX_w1 := Lib.hid hx
  have y_w1 := hx.size
  try simp at y_w1
  have z_w1_w_0 : w.heap.size < w1.heap.size := by omega
  clear hx
  try dsimp only
  repeat (first | with_reducible refine wp_region_ext ?_ [(0, 1), (1, 1), (2, 1), (3, 1), (4, 1), (5, 0), (6, 0), (7, 1), (8, 1), (9, 1), (10, 1), (11, 1), (12, 1), (13, 0), (14, 0), (15, 0), (16, 1), (17, 1), (18, 0), (19, 0), (20, 1), (21, 0), (22, 0), (23, 0), (24, 0)] (fun _ => true) ?_ ?_ ?_ ?_ ?_ | go_step)
  · kernel_rfl
  · kernel_rfl
  · kernel_rfl
  · kernel_rfl
  · exact (fun _ _ d _ _ h => by cases d <;> exact h)
  refine run_read (o := ?_) (v := ?_) (a' := ?_) ?_ ?_ ?_ ?_ (Ext.refl _) ?_
  rotate_left 3
  · (simp only [List.getElem?_toArray, List.getElem?_cons_succ, List.getElem?_cons_zero] <;> rfl)
  · rfl
  · intro w' hw'
    obtain ⟨hc, hf⟩ := ext_cell hw'
    clear hw'
    go_simp
    with_reducible rfl
  · simp only [Act.put, List.setIfInBounds_toArray, List.set_cons_zero, List.set_cons_succ]
    rfl
  refine run_call (f := 13) (args := ?_) (o := ?_) (v := ?_) (a' := ?_) ?_ ?_ ?_ ?_ ?_ (Ext.refl _) ?_
  rotate_left 4
  · (simp only [List.getElem?_toArray, List.getElem?_cons_succ, List.getElem?_cons_zero] <;> rfl)
  · rfl
  · intro w'
    go_simp
    with_reducible rfl
  · intro w' hw'
    exact (HP.out _)
  · simp only [Act.put, List.setIfInBounds_toArray, List.set_cons_zero, List.set_cons_succ]
    rfl
  refine run_read (o := ?_) (v := ?_) (a' := ?_) ?_ ?_ ?_ ?_ (Ext.refl _) ?_
  rotate_left 3
  · (simp only [List.getElem?_toArray, List.getElem?_cons_succ, List.getElem?_cons_zero] <;> rfl)
  · rfl
  · intro w' hw'
    obtain ⟨hc, hf⟩ := ext_cell hw'
    clear hw'
    go_simp
    with_reducible rfl
  · simp only [Act.put, List.setIfInBounds_toArray, List.set_cons_zero, List.set_cons_succ]
    rfl
  refine run_call (f := 15) (args := ?_) (o := ?_) (v := ?_) (a' := ?_) ?_ ?_ ?_ ?_ ?_ (Ext.refl _) ?_
  rotate_left 4
  · (simp only [List.getElem?_toArray, List.getElem?_cons_succ, List.getElem?_cons_zero] <;> rfl)
  · rfl
  · intro w'
    go_simp
    with_reducible rfl
  · intro w' hw'
    exact (pOwn _ _ _ _ _)
  · simp only [Act.put, List.setIfInBounds_toArray, List.set_cons_zero, List.set_cons_succ]
    rfl
  refine run_call (f := 14) (args := ?_) (o := ?_) (v := ?_) (a' := ?_) ?_ ?_ ?_ ?_ ?_ (Ext.refl _) ?_
  rotate_left 4
  · (simp only [List.getElem?_toArray, List.getElem?_cons_succ, List.getElem?_cons_zero] <;> rfl)
  · rfl
  · intro w'
    go_simp
    with_reducible rfl
  · intro w' hw'
    exact (HP'.out _)
  · simp only [Act.put, List.setIfInBounds_toArray, List.set_cons_zero, List.set_cons_succ]
    rfl
  refine run_pure (o := ?_) (v := ?_) (a' := ?_) ?_ ?_ ?_ ?_ ?_
  rotate_left 3
  · (simp only [List.getElem?_toArray, List.getElem?_cons_succ, List.getElem?_cons_zero] <;> rfl)
  · rfl
  · intro w'
    go_simp
    with_reducible rfl
  · simp only [Act.put, List.setIfInBounds_toArray, List.set_cons_zero, List.set_cons_succ]
    rfl
  refine run_pure (o := ?_) (v := ?_) (a' := ?_) ?_ ?_ ?_ ?_ ?_
  rotate_left 3
  · (simp only [List.getElem?_toArray, List.getElem?_cons_succ, List.getElem?_cons_zero] <;> rfl)
  · rfl
  · intro w'
    go_simp
    with_reducible rfl
  · simp only [Act.put, List.setIfInBounds_toArray, List.set_cons_zero, List.set_cons_succ]
    rfl
  refine run_read (o := ?_) (v := ?_) (a' := ?_) ?_ ?_ ?_ ?_ (Ext.refl _) ?_
  rotate_left 3
  · (simp only [List.getElem?_toArray, List.getElem?_cons_succ, List.getElem?_cons_zero] <;> rfl)
  · rfl
  · intro w' hw'
    obtain ⟨hc, hf⟩ := ext_cell hw'
    clear hw'
    go_simp
    with_reducible rfl
  · simp only [Act.put, List.setIfInBounds_toArray, List.set_cons_zero, List.set_cons_succ]
    rfl
  refine run_call (f := 16) (args := ?_) (o := ?_) (v := ?_) (a' := ?_) ?_ ?_ ?_ ?_ ?_ (Ext.refl _) ?_
  rotate_left 4
  · (simp only [List.getElem?_toArray, List.getElem?_cons_succ, List.getElem?_cons_zero] <;> rfl)
  · rfl
  · intro w'
    go_simp
    with_reducible rfl
  · intro w' hw'
    exact (HS.out _)
  · simp only [Act.put, List.setIfInBounds_toArray, List.set_cons_zero, List.set_cons_succ]
    rfl
  refine run_call (f := 15) (args := ?_) (o := ?_) (v := ?_) (a' := ?_) ?_ ?_ ?_ ?_ ?_ (Ext.refl _) ?_
  rotate_left 4
  · (simp only [List.getElem?_toArray, List.getElem?_cons_succ, List.getElem?_cons_zero] <;> rfl)
  · rfl
  · intro w'
    go_simp
    with_reducible rfl
  · intro w' hw'
    exact (pOwn _ _ _ _ _)
  · simp only [Act.put, List.setIfInBounds_toArray, List.set_cons_zero, List.set_cons_succ]
    rfl
  refine run_read (o := ?_) (v := ?_) (a' := ?_) ?_ ?_ ?_ ?_ (Ext.refl _) ?_
  rotate_left 3
  · (simp only [List.getElem?_toArray, List.getElem?_cons_succ, List.getElem?_cons_zero] <;> rfl)
  · rfl
  · intro w' hw'
    obtain ⟨hc, hf⟩ := ext_cell hw'
    clear hw'
    go_simp
    with_reducible rfl
  · simp only [Act.put, List.setIfInBounds_toArray, List.set_cons_zero, List.set_cons_succ]
    rfl
  refine run_call (f := 15) (args := ?_) (o := ?_) (v := ?_) (a' := ?_) ?_ ?_ ?_ ?_ ?_ (Ext.refl _) ?_
  rotate_left 4
  · (simp only [List.getElem?_toArray, List.getElem?_cons_succ, List.getElem?_cons_zero] <;> rfl)
  · rfl
  · intro w'
    go_simp
    with_reducible rfl
  · intro w' hw'
    exact (pOwn _ _ _ _ _)
  · simp only [Act.put, List.setIfInBounds_toArray, List.set_cons_zero, List.set_cons_succ]
    rfl
  refine run_call (f := 17) (args := ?_) (o := ?_) (v := ?_) (a' := ?_) ?_ ?_ ?_ ?_ ?_ (Ext.refl _) ?_
  rotate_left 4
  · (simp only [List.getElem?_toArray, List.getElem?_cons_succ, List.getElem?_cons_zero] <;> rfl)
  · rfl
  · intro w'
    go_simp
    with_reducible rfl
  · intro w' hw'
    exact (HS'.out _)
  · simp only [Act.put, List.setIfInBounds_toArray, List.set_cons_zero, List.set_cons_succ]
    rfl
  refine run_pure (o := ?_) (v := ?_) (a' := ?_) ?_ ?_ ?_ ?_ ?_
  rotate_left 3
  · (simp only [List.getElem?_toArray, List.getElem?_cons_succ, List.getElem?_cons_zero] <;> rfl)
  · rfl
  · intro w'
    go_simp
    with_reducible rfl
  · simp only [Act.put, List.setIfInBounds_toArray, List.set_cons_zero, List.set_cons_succ]
    rfl
  refine run_pure (o := ?_) (v := ?_) (a' := ?_) ?_ ?_ ?_ ?_ ?_
  rotate_left 3
  · (simp only [List.getElem?_toArray, List.getElem?_cons_succ, List.getElem?_cons_zero] <;> rfl)
  · rfl
  · intro w'
    go_simp
    with_reducible rfl
  · simp only [Act.put, List.setIfInBounds_toArray, List.set_cons_zero, List.set_cons_succ]
    rfl
  refine run_pure (o := ?_) (v := ?_) (a' := ?_) ?_ ?_ ?_ ?_ ?_
  rotate_left 3
  · (simp only [List.getElem?_toArray, List.getElem?_cons_succ, List.getElem?_cons_zero] <;> rfl)
  · rfl
  · intro w'
    go_simp
    with_reducible rfl
  · simp only [Act.put, List.setIfInBounds_toArray, List.set_cons_zero, List.set_cons_succ]
    rfl
  refine run_read (o := ?_) (v := ?_) (a' := ?_) ?_ ?_ ?_ ?_ (Ext.refl _) ?_
  rotate_left 3
  · (simp only [List.getElem?_toArray, List.getElem?_cons_succ, List.getElem?_cons_zero] <;> rfl)
  · rfl
  · intro w' hw'
    obtain ⟨hc, hf⟩ := ext_cell hw'
    clear hw'
    go_simp
    with_reducible rfl
  · simp only [Act.put, List.setIfInBounds_toArray, List.set_cons_zero, List.set_cons_succ]
    rfl
  refine run_call (f := 18) (args := ?_) (o := ?_) (v := ?_) (a' := ?_) ?_ ?_ ?_ ?_ ?_ (Ext.refl _) ?_
  rotate_left 4
  · (simp only [List.getElem?_toArray, List.getElem?_cons_succ, List.getElem?_cons_zero] <;> rfl)
  · rfl
  · intro w'
    go_simp
    with_reducible rfl
  · intro w' hw'
    exact (HR.out _)
  · simp only [Act.put, List.setIfInBounds_toArray, List.set_cons_zero, List.set_cons_succ]
    rfl
  refine run_pure (o := ?_) (v := ?_) (a' := ?_) ?_ ?_ ?_ ?_ ?_
  rotate_left 3
  · (simp only [List.getElem?_toArray, List.getElem?_cons_succ, List.getElem?_cons_zero] <;> rfl)
  · rfl
  · intro w'
    go_simp
    with_reducible rfl
  · simp only [Act.put, List.setIfInBounds_toArray, List.set_cons_zero, List.set_cons_succ]
    rfl
  refine run_pure (o := ?_) (v := ?_) (a' := ?_) ?_ ?_ ?_ ?_ ?_
  rotate_left 3
  · (simp only [List.getElem?_toArray, List.getElem?_cons_succ, List.getElem?_cons_zero] <;> rfl)
  · rfl
  · intro w'
    go_simp
    with_reducible rfl
  · simp only [Act.put, List.setIfInBounds_toArray, List.set_cons_zero, List.set_cons_succ]
    rfl
  refine run_read (o := ?_) (v := ?_) (a' := ?_) ?_ ?_ ?_ ?_ (Ext.refl _) ?_
  rotate_left 3
  · (simp only [List.getElem?_toArray, List.getElem?_cons_succ, List.getElem?_cons_zero] <;> rfl)
  · rfl
  · intro w' hw'
    obtain ⟨hc, hf⟩ := ext_cell hw'
    clear hw'
    go_simp
    with_reducible rfl
  · simp only [Act.put, List.setIfInBounds_toArray, List.set_cons_zero, List.set_cons_succ]
    rfl
  refine run_pure (o := ?_) (v := ?_) (a' := ?_) ?_ ?_ ?_ ?_ ?_
  rotate_left 3
  · (simp only [List.getElem?_toArray, List.getElem?_cons_succ, List.getElem?_cons_zero] <;> rfl)
  · rfl
  · intro w'
    go_simp
    with_reducible rfl
  · simp only [Act.put, List.setIfInBounds_toArray, List.set_cons_zero, List.set_cons_succ]
    rfl
  refine run_pure (o := ?_) (v := ?_) (a' := ?_) ?_ ?_ ?_ ?_ ?_
  rotate_left 3
  · (simp only [List.getElem?_toArray, List.getElem?_cons_succ, List.getElem?_cons_zero] <;> rfl)
  · rfl
  · intro w'
    go_simp
    with_reducible rfl
  · simp only [Act.put, List.setIfInBounds_toArray, List.set_cons_zero, List.set_cons_succ]
    rfl
  refine run_pure (o := ?_) (v := ?_) (a' := ?_) ?_ ?_ ?_ ?_ ?_
  rotate_left 3
  · (simp only [List.getElem?_toArray, List.getElem?_cons_succ, List.getElem?_cons_zero] <;> rfl)
  · rfl
  · intro w'
    go_simp
    with_reducible rfl
  · simp only [Act.put, List.setIfInBounds_toArray, List.set_cons_zero, List.set_cons_succ]
    rfl
  refine run_pure (o := ?_) (v := ?_) (a' := ?_) ?_ ?_ ?_ ?_ ?_
  rotate_left 3
  · (simp only [List.getElem?_toArray, List.getElem?_cons_succ, List.getElem?_cons_zero] <;> rfl)
  · rfl
  · intro w'
    go_simp
    with_reducible rfl
  · simp only [Act.put, List.setIfInBounds_toArray, List.set_cons_zero, List.set_cons_succ]
    rfl
  refine run_nil (fun a1 hx => ?_)
  have hc_a1 := (ext_cell hx).1
  have hf_a1 := (ext_cell hx).2
  have HX_a1 := Lib.hid hx
  have y_a1 := hx.size
  try simp at y_a1
  have z_a1_w_0 : w.heap.size < a1.heap.size := by omega
  clear hx
  go_wp2_with fail
  refine (HW.out _).mono ?_
  rintro e w2 ⟨rfl, hx⟩
  have hc_w2 := (ext_cell hx).1
  have hf_w2 := (ext_cell hx).2
  have HX_w2 := Lib.hid hx
  have y_w2 := hx.size
  try simp at y_w2
  have z_w2_w_0 : w.heap.size < w2.heap.size := by omega
  clear hx
  try dsimp only
  repeat (first | with_reducible refine wp_region_ext ?_ [(0, 1), (1, 0), (2, 0), (3, 0), (4, 1), (5, 1), (6, 0), (7, 0), (8, 0), (9, 2), (10, 2), (11, 0)] (fun _ => true) ?_ ?_ ?_ ?_ ?_ | go_step)
  · kernel_rfl
  · kernel_rfl
  · kernel_rfl
  · kernel_rfl
  · exact (fun _ _ d _ _ h => by cases d <;> exact h)
  refine run_read (o := ?_) (v := ?_) (a' := ?_) ?_ ?_ ?_ ?_ (Ext.refl _) ?_
  rotate_left 3
  · (simp only [List.getElem?_toArray, List.getElem?_cons_succ, List.getElem?_cons_zero] <;> rfl)
  · rfl
  · intro w' hw'
    obtain ⟨hc, hf⟩ := ext_cell hw'
    clear hw'
    go_simp
    with_reducible rfl
  · simp only [Act.put, List.setIfInBounds_toArray, List.set_cons_zero, List.set_cons_succ]
    rfl
  refine run_pure (o := ?_) (v := ?_) (a' := ?_) ?_ ?_ ?_ ?_ ?_
  rotate_left 3
  · (simp only [List.getElem?_toArray, List.getElem?_cons_succ, List.getElem?_cons_zero] <;> rfl)
  · rfl
  · intro w'
    go_simp
    with_reducible rfl
  · simp only [Act.put, List.setIfInBounds_toArray, List.set_cons_zero, List.set_cons_succ]
    rfl
  refine run_pure (o := ?_) (v := ?_) (a' := ?_) ?_ ?_ ?_ ?_ ?_
  rotate_left 3
  · (simp only [List.getElem?_toArray, List.getElem?_cons_succ, List.getElem?_cons_zero] <;> rfl)
  · rfl
  · intro w'
    go_simp
    with_reducible rfl
  · simp only [Act.put, List.setIfInBounds_toArray, List.set_cons_zero, List.set_cons_succ]
    rfl
  refine run_pure (o := ?_) (v := ?_) (a' := ?_) ?_ ?_ ?_ ?_ ?_
  rotate_left 3
  · (simp only [List.getElem?_toArray, List.getElem?_cons_succ, List.getElem?_cons_zero] <;> rfl)
  · rfl
  · intro w'
    go_simp
    with_reducible rfl
  · simp only [Act.put, List.setIfInBounds_toArray, List.set_cons_zero, List.set_cons_succ]
    rfl
  refine run_call (f := 21) (args := ?_) (o := ?_) (v := ?_) (a' := ?_) ?_ ?_ ?_ ?_ ?_ (Ext.refl _) ?_
  rotate_left 4
  · (simp only [List.getElem?_toArray, List.getElem?_cons_succ, List.getElem?_cons_zero] <;> rfl)
  · rfl
  · intro w'
    go_simp
    with_reducible rfl
  · intro w' hw'
    exact (HOf.out _)
  · simp only [Act.put, List.setIfInBounds_toArray, List.set_cons_zero, List.set_cons_succ]
    rfl
  refine run_call (f := 20) (args := ?_) (o := ?_) (v := ?_) (a' := ?_) ?_ ?_ ?_ ?_ ?_ (Ext.refl _) ?_
  rotate_left 4
  · (simp only [List.getElem?_toArray, List.getElem?_cons_succ, List.getElem?_cons_zero] <;> rfl)
  · rfl
  · intro w'
    go_simp
    with_reducible rfl
  · intro w' hw'
    exact (HJ.out _)
  · simp only [Act.put, List.setIfInBounds_toArray, List.set_cons_zero, List.set_cons_succ]
    rfl
  refine run_pure (o := ?_) (v := ?_) (a' := ?_) ?_ ?_ ?_ ?_ ?_
  rotate_left 3
  · (simp only [List.getElem?_toArray, List.getElem?_cons_succ, List.getElem?_cons_zero] <;> rfl)
  · rfl
  · intro w'
    go_simp
    with_reducible rfl
  · simp only [Act.put, List.setIfInBounds_toArray, List.set_cons_zero, List.set_cons_succ]
    rfl
  refine run_pure (o := ?_) (v := ?_) (a' := ?_) ?_ ?_ ?_ ?_ ?_
  rotate_left 3
  · (simp only [List.getElem?_toArray, List.getElem?_cons_succ, List.getElem?_cons_zero] <;> rfl)
  · rfl
  · intro w'
    go_simp
    with_reducible rfl
  · simp only [Act.put, List.setIfInBounds_toArray, List.set_cons_zero, List.set_cons_succ]
    rfl
  refine run_pure (o := ?_) (v := ?_) (a' := ?_) ?_ ?_ ?_ ?_ ?_
  rotate_left 3
  · (simp only [List.getElem?_toArray, List.getElem?_cons_succ, List.getElem?_cons_zero] <;> rfl)
  · rfl
  · intro w'
    go_simp
    with_reducible rfl
  · simp only [Act.put, List.setIfInBounds_toArray, List.set_cons_zero, List.set_cons_succ]
    rfl
  refine run_do (o := ?_) ?_ ?_ (fun b1 hx K hK => ?_)
  rotate_left
  · (simp only [List.getElem?_toArray, List.getElem?_cons_succ, List.getElem?_cons_zero] <;> rfl)
  · rfl
  have hc_b1 := (ext_cell hx).1
  have hf_b1 := (ext_cell hx).2
  have HX_b1 := Lib.hid hx
  have y_b1 := hx.size
  try simp at y_b1
  have z_b1_w_0 : w.heap.size < b1.heap.size := by omega
  have z_b1_w2_0 : w2.heap.size < b1.heap.size := by omega
  clear hx
  go_simp
  refine hK _ _ (fun _ hs => hs.alloc _) ?_
  clear hK K
  try simp only [Act.put, List.setIfInBounds_toArray, List.set_cons_zero, List.set_cons_succ]
  refine run_do (o := ?_) ?_ ?_ (fun b2 hx K hK => ?_)
  rotate_left
  · (simp only [List.getElem?_toArray, List.getElem?_cons_succ, List.getElem?_cons_zero] <;> rfl)
  · rfl
  have hc_b2 := (ext_cell hx).1
  have hf_b2 := (ext_cell hx).2
  have HX_b2 := Lib.hid hx
  have y_b2 := hx.size
  try simp at y_b2
  have z_b2_w_0 : w.heap.size < b2.heap.size := by omega
  have z_b2_w2_0 : w2.heap.size < b2.heap.size := by omega
  have z_b2_b1_0 : b1.heap.size < b2.heap.size := by omega
  clear hx
  go_simp
  refine hK _ _ (fun _ hs => ?_) ?_
  · repeat (first | exact hs | (refine Ext.setCell ?_ (by simp <;> omega) _))
  clear hK K
  refine run_pure (o := ?_) (v := ?_) (a' := ?_) ?_ ?_ ?_ ?_ ?_
  rotate_left 3
  · (simp only [List.getElem?_toArray, List.getElem?_cons_succ, List.getElem?_cons_zero] <;> rfl)
  · rfl
  · intro w'
    go_simp
    with_reducible rfl
  · simp only [Act.put, List.setIfInBounds_toArray, List.set_cons_zero, List.set_cons_succ]
    rfl
  refine run_nil (fun b3 hx => ?_)
  have hc_b3 := (ext_cell hx).1
  have hf_b3 := (ext_cell hx).2
  have HX_b3 := Lib.hid hx
  have y_b3 := hx.size
  try simp at y_b3
  have z_b3_w_0 : w.heap.size < b3.heap.size := by omega
  have z_b3_w2_0 : w2.heap.size < b3.heap.size := by omega
  have z_b3_b1_0 : b1.heap.size < b3.heap.size := by omega
  clear hx
  go_wp2_with fail
  refine (HR.out _).mono ?_
  rintro e w3 ⟨rfl, hx⟩
  have hc_w3 := (ext_cell hx).1
  have hf_w3 := (ext_cell hx).2
  have HX_w3 := Lib.hid hx
  have y_w3 := hx.size
  try simp at y_w3
  have z_w3_w_0 : w.heap.size < w3.heap.size := by omega
  have z_w3_w2_0 : w2.heap.size < w3.heap.size := by omega
  have z_w3_b1_0 : b1.heap.size < w3.heap.size := by omega
  clear hx
  try dsimp only
  repeat (first | with_reducible refine wp_region_ext ?_ [(0, 0), (1, 0), (2, 0), (3, 1), (4, 1), (5, 1), (6, 1), (7, 0), (8, 0), (9, 0), (10, 1), (11, 0), (12, 0), (13, 0)] (fun _ => true) ?_ ?_ ?_ ?_ ?_ | go_step)
  · kernel_rfl
  · kernel_rfl
  · kernel_rfl
  · kernel_rfl
  · exact (fun _ _ d _ _ h => by cases d <;> exact h)
  refine run_pure (o := ?_) (v := ?_) (a' := ?_) ?_ ?_ ?_ ?_ ?_
  rotate_left 3
  · (simp only [List.getElem?_toArray, List.getElem?_cons_succ, List.getElem?_cons_zero] <;> rfl)
  · rfl
  · intro w'
    go_simp
    with_reducible rfl
  · simp only [Act.put, List.setIfInBounds_toArray, List.set_cons_zero, List.set_cons_succ]
    rfl
  refine run_pure (o := ?_) (v := ?_) (a' := ?_) ?_ ?_ ?_ ?_ ?_
  rotate_left 3
  · (simp only [List.getElem?_toArray, List.getElem?_cons_succ, List.getElem?_cons_zero] <;> rfl)
  · rfl
  · intro w'
    go_simp
    with_reducible rfl
  · simp only [Act.put, List.setIfInBounds_toArray, List.set_cons_zero, List.set_cons_succ]
    rfl
  refine run_pure (o := ?_) (v := ?_) (a' := ?_) ?_ ?_ ?_ ?_ ?_
  rotate_left 3
  · (simp only [List.getElem?_toArray, List.getElem?_cons_succ, List.getElem?_cons_zero] <;> rfl)
  · rfl
  · intro w'
    go_simp
    with_reducible rfl
  · simp only [Act.put, List.setIfInBounds_toArray, List.set_cons_zero, List.set_cons_succ]
    rfl
  refine run_read (o := ?_) (v := ?_) (a' := ?_) ?_ ?_ ?_ ?_ (Ext.refl _) ?_
  rotate_left 3
  · (simp only [List.getElem?_toArray, List.getElem?_cons_succ, List.getElem?_cons_zero] <;> rfl)
  · rfl
  · intro w' hw'
    obtain ⟨hc, hf⟩ := ext_cell hw'
    clear hw'
    go_simp
    with_reducible rfl
  · simp only [Act.put, List.setIfInBounds_toArray, List.set_cons_zero, List.set_cons_succ]
    rfl
  refine run_call (f := 15) (args := ?_) (o := ?_) (v := ?_) (a' := ?_) ?_ ?_ ?_ ?_ ?_ (Ext.refl _) ?_
  rotate_left 4
  · (simp only [List.getElem?_toArray, List.getElem?_cons_succ, List.getElem?_cons_zero] <;> rfl)
  · rfl
  · intro w'
    go_simp
    with_reducible rfl
  · intro w' hw'
    exact (pOwn _ _ _ _ _)
  · simp only [Act.put, List.setIfInBounds_toArray, List.set_cons_zero, List.set_cons_succ]
    rfl
  refine run_read (o := ?_) (v := ?_) (a' := ?_) ?_ ?_ ?_ ?_ (Ext.refl _) ?_
  rotate_left 3
  · (simp only [List.getElem?_toArray, List.getElem?_cons_succ, List.getElem?_cons_zero] <;> rfl)
  · rfl
  · intro w' hw'
    obtain ⟨hc, hf⟩ := ext_cell hw'
    clear hw'
    go_simp
    with_reducible rfl
  · simp only [Act.put, List.setIfInBounds_toArray, List.set_cons_zero, List.set_cons_succ]
    rfl
  refine run_call (f := 15) (args := ?_) (o := ?_) (v := ?_) (a' := ?_) ?_ ?_ ?_ ?_ ?_ (Ext.refl _) ?_
  rotate_left 4
  · (simp only [List.getElem?_toArray, List.getElem?_cons_succ, List.getElem?_cons_zero] <;> rfl)
  · rfl
  · intro w'
    go_simp
    with_reducible rfl
  · intro w' hw'
    exact (pOwn _ _ _ _ _)
  · simp only [Act.put, List.setIfInBounds_toArray, List.set_cons_zero, List.set_cons_succ]
    rfl
  refine run_pure (o := ?_) (v := ?_) (a' := ?_) ?_ ?_ ?_ ?_ ?_
  rotate_left 3
  · (simp only [List.getElem?_toArray, List.getElem?_cons_succ, List.getElem?_cons_zero] <;> rfl)
  · rfl
  · intro w'
    go_simp
    with_reducible rfl
  · simp only [Act.put, List.setIfInBounds_toArray, List.set_cons_zero, List.set_cons_succ]
    rfl
  refine run_pure (o := ?_) (v := ?_) (a' := ?_) ?_ ?_ ?_ ?_ ?_
  rotate_left 3
  · (simp only [List.getElem?_toArray, List.getElem?_cons_succ, List.getElem?_cons_zero] <;> rfl)
  · rfl
  · intro w'
    go_simp
    with_reducible rfl
  · simp only [Act.put, List.setIfInBounds_toArray, List.set_cons_zero, List.set_cons_succ]
    rfl
  refine run_pure (o := ?_) (v := ?_) (a' := ?_) ?_ ?_ ?_ ?_ ?_
  rotate_left 3
  · (simp only [List.getElem?_toArray, List.getElem?_cons_succ, List.getElem?_cons_zero] <;> rfl)
  · rfl
  · intro w'
    go_simp
    with_reducible rfl
  · simp only [Act.put, List.setIfInBounds_toArray, List.set_cons_zero, List.set_cons_succ]
    rfl
  refine run_call (f := 22) (args := ?_) (o := ?_) (v := ?_) (a' := ?_) ?_ ?_ ?_ ?_ ?_ (Ext.refl _) ?_
  rotate_left 4
  · (simp only [List.getElem?_toArray, List.getElem?_cons_succ, List.getElem?_cons_zero] <;> rfl)
  · rfl
  · intro w'
    go_simp
    with_reducible rfl
  · intro w' hw'
    exact (HJ'.out _)
  · simp only [Act.put, List.setIfInBounds_toArray, List.set_cons_zero, List.set_cons_succ]
    rfl
  refine run_pure (o := ?_) (v := ?_) (a' := ?_) ?_ ?_ ?_ ?_ ?_
  rotate_left 3
  · (simp only [List.getElem?_toArray, List.getElem?_cons_succ, List.getElem?_cons_zero] <;> rfl)
  · rfl
  · intro w'
    go_simp
    with_reducible rfl
  · simp only [Act.put, List.setIfInBounds_toArray, List.set_cons_zero, List.set_cons_succ]
    rfl
  refine run_pure (o := ?_) (v := ?_) (a' := ?_) ?_ ?_ ?_ ?_ ?_
  rotate_left 3
  · (simp only [List.getElem?_toArray, List.getElem?_cons_succ, List.getElem?_cons_zero] <;> rfl)
  · rfl
  · intro w'
    go_simp
    with_reducible rfl
  · simp only [Act.put, List.setIfInBounds_toArray, List.set_cons_zero, List.set_cons_succ]
    rfl
  refine run_pure (o := ?_) (v := ?_) (a' := ?_) ?_ ?_ ?_ ?_ ?_
  rotate_left 3
  · (simp only [List.getElem?_toArray, List.getElem?_cons_succ, List.getElem?_cons_zero] <;> rfl)
  · rfl
  · intro w'
    go_simp
    with_reducible rfl
  · simp only [Act.put, List.setIfInBounds_toArray, List.set_cons_zero, List.set_cons_succ]
    rfl
  refine run_nil (fun c1 hx => ?_)
  have hc_c1 := (ext_cell hx).1
  have hf_c1 := (ext_cell hx).2
  have HX_c1 := Lib.hid hx
  have y_c1 := hx.size
  try simp at y_c1
  have z_c1_w_0 : w.heap.size < c1.heap.size := by omega
  have z_c1_w2_0 : w2.heap.size < c1.heap.size := by omega
  have z_c1_b1_0 : b1.heap.size < c1.heap.size := by omega
  clear hx
  go_wp2
  go_ret
  refine ⟨rfl, ?_⟩
  · repeat (first | exact Ext.refl _ | refine Ext.alloc ?_ _ | (refine Ext.setCell ?_ (by simp <;> omega) _) | refine Ext.drew ?_ | refine Ext.trans ?_ HX_c1.out | refine Ext.trans ?_ HX_w3.out | refine Ext.trans ?_ HX_b3.out | refine Ext.trans ?_ HX_b2.out | refine Ext.trans ?_ HX_b1.out | refine Ext.trans ?_ HX_w2.out | refine Ext.trans ?_ HX_a1.out | refine Ext.trans ?_ HX_w1.out)
set_option maxRecDepth 100000 in
set_option maxHeartbeats 8000000 in
theorem pcgTells_many (s i : V) (many : Int) (n : Int) (n0 : 0 ≤ n) (n1 : n ≤ 65535) (hi' : i.toNat % 2 = 1) (hr : 256 < many) (w : World) :
    Calls Try.prog 3 #[.agg #[.int .u64 (hi s), .int .u64 (lo s), .int .u64 (hi i), .int .u64 (lo i)], .int .i64 many, .int .u16 n] w fun e w' => e = .returned (.bool true) ∧ Ext w w' := by
  obtain ⟨N, hN⟩ : ∃ N : Nat, (N : Int) = n % 300 := ⟨(n % 300).toNat, by omega⟩
  have hN2 : N < 300 := by omega
  have e1 : n.tmod 300 = (N : Int) := by rw [Int.tmod_eq_emod_of_nonneg n0, hN]
  have e1' : n % 300 = (N : Int) := hN.symm
  have e2 : IntKind.u64.wrap (N : Int) = N := IntWalk.u64_in _ (by omega)
  have e3 : IntKind.i64.wrap (N : Int) = N := IntWalk.i64_in _ (by omega)
  have e3' : IntKind.u16.wrap (N : Int) = N := IntWalk.u16_in _ (by omega)
  have l0 := (word_lo i).1
  have e4 : (lo i).tmod 2 = 1 := by rw [Int.tmod_eq_emod_of_nonneg l0]; unfold lo; omega
  have e5 : lo i % 2 = 1 := by unfold lo; omega
  have hb : decide (i.toNat % 2 = 1) = true := by simp [hi']
  obtain ⟨y, hy⟩ : ∃ y, fac * s + i = y := ⟨_, rfl⟩
  obtain ⟨z, hz⟩ : ∃ z, pst s i N = z := ⟨_, rfl⟩
  have HR := Lib.hid (pRightE (s := s) hb)
  have HS := Lib.hid (pStepE hy)
  have HS' := Lib.hid (r10Step hy)
  have HJ := Lib.hid (pJumpN (by omega) hz hi')
  have HJ' := Lib.hid (r10Jump (by omega) hz)
  have HOf := Lib.hid (wOfN (show N < 1000 by omega))
  have HW := Lib.hid (pWords_many s i many hi' hr)
  clear hN l0 hb hy hz n0 n1
  have q1 : decide (many < 0) = false := decide_eq_false (by omega)
  have q2 : decide (256 < many) = true := decide_eq_true hr
  obtain ⟨P, hP⟩ : ∃ P, wordP s = P := ⟨_, rfl⟩
  have HP := Lib.hid (pWordE (i := i) hP)
  have HP' := Lib.hid (r10WordE (i := i) hP)
  clear hP
  have HI := Lib.hid hi'; clear hi'
  go_enter Try.func3, Try.ntmps3
  go_wp2_with fail
  refine (awake10 _).mono ?_
  rintro e w1 ⟨rfl, hx⟩
  have hc_w1 := (ext_cell hx).1
  have hf_w1 := (ext_cell hx).2
  have HX_w1 := Lib.hid hx
  have y_w1 := hx.size
  try simp at y_w1
  have z_w1_w_0 : w.heap.size < w1.heap.size := by omega
  clear hx
  try dsimp only
  repeat (first | with_reducible refine wp_region_ext ?_ [(0, 1), (1, 1), (2, 1), (3, 1), (4, 1), (5, 0), (6, 0), (7, 1), (8, 1), (9, 1), (10, 1), (11, 1), (12, 1), (13, 0), (14, 0), (15, 0), (16, 1), (17, 1), (18, 0), (19, 0), (20, 1), (21, 0), (22, 0), (23, 0), (24, 0)] (fun _ => true) ?_ ?_ ?_ ?_ ?_ | go_step)
  · kernel_rfl
  · kernel_rfl
  · kernel_rfl
  · kernel_rfl
  · exact (fun _ _ d _ _ h => by cases d <;> exact h)
  refine run_read (o := ?_) (v := ?_) (a' := ?_) ?_ ?_ ?_ ?_ (Ext.refl _) ?_
  rotate_left 3
  · (simp only [List.getElem?_toArray, List.getElem?_cons_succ, List.getElem?_cons_zero] <;> rfl)
  · rfl
  · intro w' hw'
    obtain ⟨hc, hf⟩ := ext_cell hw'
    clear hw'
    go_simp
    with_reducible rfl
  · simp only [Act.put, List.setIfInBounds_toArray, List.set_cons_zero, List.set_cons_succ]
    rfl
  refine run_call (f := 13) (args := ?_) (o := ?_) (v := ?_) (a' := ?_) ?_ ?_ ?_ ?_ ?_ (Ext.refl _) ?_
  rotate_left 4
  · (simp only [List.getElem?_toArray, List.getElem?_cons_succ, List.getElem?_cons_zero] <;> rfl)
  · rfl
  · intro w'
    go_simp
    with_reducible rfl
  · intro w' hw'
    exact (HP.out _)
  · simp only [Act.put, List.setIfInBounds_toArray, List.set_cons_zero, List.set_cons_succ]
    rfl
  refine run_read (o := ?_) (v := ?_) (a' := ?_) ?_ ?_ ?_ ?_ (Ext.refl _) ?_
  rotate_left 3
  · (simp only [List.getElem?_toArray, List.getElem?_cons_succ, List.getElem?_cons_zero] <;> rfl)
  · rfl
  · intro w' hw'
    obtain ⟨hc, hf⟩ := ext_cell hw'
    clear hw'
    go_simp
    with_reducible rfl
  · simp only [Act.put, List.setIfInBounds_toArray, List.set_cons_zero, List.set_cons_succ]
    rfl
  refine run_call (f := 15) (args := ?_) (o := ?_) (v := ?_) (a' := ?_) ?_ ?_ ?_ ?_ ?_ (Ext.refl _) ?_
  rotate_left 4
  · (simp only [List.getElem?_toArray, List.getElem?_cons_succ, List.getElem?_cons_zero] <;> rfl)
  · rfl
  · intro w'
    go_simp
    with_reducible rfl
  · intro w' hw'
    exact (pOwn _ _ _ _ _)
  · simp only [Act.put, List.setIfInBounds_toArray, List.set_cons_zero, List.set_cons_succ]
    rfl
  refine run_call (f := 14) (args := ?_) (o := ?_) (v := ?_) (a' := ?_) ?_ ?_ ?_ ?_ ?_ (Ext.refl _) ?_
  rotate_left 4
  · (simp only [List.getElem?_toArray, List.getElem?_cons_succ, List.getElem?_cons_zero] <;> rfl)
  · rfl
  · intro w'
    go_simp
    with_reducible rfl
  · intro w' hw'
    exact (HP'.out _)
  · simp only [Act.put, List.setIfInBounds_toArray, List.set_cons_zero, List.set_cons_succ]
    rfl
  refine run_pure (o := ?_) (v := ?_) (a' := ?_) ?_ ?_ ?_ ?_ ?_
  rotate_left 3
  · (simp only [List.getElem?_toArray, List.getElem?_cons_succ, List.getElem?_cons_zero] <;> rfl)
  · rfl
  · intro w'
    go_simp
    with_reducible rfl
  · simp only [Act.put, List.setIfInBounds_toArray, List.set_cons_zero, List.set_cons_succ]
    rfl
  refine run_pure (o := ?_) (v := ?_) (a' := ?_) ?_ ?_ ?_ ?_ ?_
  rotate_left 3
  · (simp only [List.getElem?_toArray, List.getElem?_cons_succ, List.getElem?_cons_zero] <;> rfl)
  · rfl
  · intro w'
    go_simp
    with_reducible rfl
  · simp only [Act.put, List.setIfInBounds_toArray, List.set_cons_zero, List.set_cons_succ]
    rfl
  refine run_read (o := ?_) (v := ?_) (a' := ?_) ?_ ?_ ?_ ?_ (Ext.refl _) ?_
  rotate_left 3
  · (simp only [List.getElem?_toArray, List.getElem?_cons_succ, List.getElem?_cons_zero] <;> rfl)
  · rfl
  · intro w' hw'
    obtain ⟨hc, hf⟩ := ext_cell hw'
    clear hw'
    go_simp
    with_reducible rfl
  · simp only [Act.put, List.setIfInBounds_toArray, List.set_cons_zero, List.set_cons_succ]
    rfl
  refine run_call (f := 16) (args := ?_) (o := ?_) (v := ?_) (a' := ?_) ?_ ?_ ?_ ?_ ?_ (Ext.refl _) ?_
  rotate_left 4
  · (simp only [List.getElem?_toArray, List.getElem?_cons_succ, List.getElem?_cons_zero] <;> rfl)
  · rfl
  · intro w'
    go_simp
    with_reducible rfl
  · intro w' hw'
    exact (HS.out _)
  · simp only [Act.put, List.setIfInBounds_toArray, List.set_cons_zero, List.set_cons_succ]
    rfl
  refine run_call (f := 15) (args := ?_) (o := ?_) (v := ?_) (a' := ?_) ?_ ?_ ?_ ?_ ?_ (Ext.refl _) ?_
  rotate_left 4
  · (simp only [List.getElem?_toArray, List.getElem?_cons_succ, List.getElem?_cons_zero] <;> rfl)
  · rfl
  · intro w'
    go_simp
    with_reducible rfl
  · intro w' hw'
    exact (pOwn _ _ _ _ _)
  · simp only [Act.put, List.setIfInBounds_toArray, List.set_cons_zero, List.set_cons_succ]
    rfl
  refine run_read (o := ?_) (v := ?_) (a' := ?_) ?_ ?_ ?_ ?_ (Ext.refl _) ?_
  rotate_left 3
  · (simp only [List.getElem?_toArray, List.getElem?_cons_succ, List.getElem?_cons_zero] <;> rfl)
  · rfl
  · intro w' hw'
    obtain ⟨hc, hf⟩ := ext_cell hw'
    clear hw'
    go_simp
    with_reducible rfl
  · simp only [Act.put, List.setIfInBounds_toArray, List.set_cons_zero, List.set_cons_succ]
    rfl
  refine run_call (f := 15) (args := ?_) (o := ?_) (v := ?_) (a' := ?_) ?_ ?_ ?_ ?_ ?_ (Ext.refl _) ?_
  rotate_left 4
  · (simp only [List.getElem?_toArray, List.getElem?_cons_succ, List.getElem?_cons_zero] <;> rfl)
  · rfl
  · intro w'
    go_simp
    with_reducible rfl
  · intro w' hw'
    exact (pOwn _ _ _ _ _)
  · simp only [Act.put, List.setIfInBounds_toArray, List.set_cons_zero, List.set_cons_succ]
    rfl
  refine run_call (f := 17) (args := ?_) (o := ?_) (v := ?_) (a' := ?_) ?_ ?_ ?_ ?_ ?_ (Ext.refl _) ?_
  rotate_left 4
  · (simp only [List.getElem?_toArray, List.getElem?_cons_succ, List.getElem?_cons_zero] <;> rfl)
  · rfl
  · intro w'
    go_simp
    with_reducible rfl
  · intro w' hw'
    exact (HS'.out _)
  · simp only [Act.put, List.setIfInBounds_toArray, List.set_cons_zero, List.set_cons_succ]
    rfl
  refine run_pure (o := ?_) (v := ?_) (a' := ?_) ?_ ?_ ?_ ?_ ?_
  rotate_left 3
  · (simp only [List.getElem?_toArray, List.getElem?_cons_succ, List.getElem?_cons_zero] <;> rfl)
  · rfl
  · intro w'
    go_simp
    with_reducible rfl
  · simp only [Act.put, List.setIfInBounds_toArray, List.set_cons_zero, List.set_cons_succ]
    rfl
  refine run_pure (o := ?_) (v := ?_) (a' := ?_) ?_ ?_ ?_ ?_ ?_
  rotate_left 3
  · (simp only [List.getElem?_toArray, List.getElem?_cons_succ, List.getElem?_cons_zero] <;> rfl)
  · rfl
  · intro w'
    go_simp
    with_reducible rfl
  · simp only [Act.put, List.setIfInBounds_toArray, List.set_cons_zero, List.set_cons_succ]
    rfl
  refine run_pure (o := ?_) (v := ?_) (a' := ?_) ?_ ?_ ?_ ?_ ?_
  rotate_left 3
  · (simp only [List.getElem?_toArray, List.getElem?_cons_succ, List.getElem?_cons_zero] <;> rfl)
  · rfl
  · intro w'
    go_simp
    with_reducible rfl
  · simp only [Act.put, List.setIfInBounds_toArray, List.set_cons_zero, List.set_cons_succ]
    rfl
  refine run_read (o := ?_) (v := ?_) (a' := ?_) ?_ ?_ ?_ ?_ (Ext.refl _) ?_
  rotate_left 3
  · (simp only [List.getElem?_toArray, List.getElem?_cons_succ, List.getElem?_cons_zero] <;> rfl)
  · rfl
  · intro w' hw'
    obtain ⟨hc, hf⟩ := ext_cell hw'
    clear hw'
    go_simp
    with_reducible rfl
  · simp only [Act.put, List.setIfInBounds_toArray, List.set_cons_zero, List.set_cons_succ]
    rfl
  refine run_call (f := 18) (args := ?_) (o := ?_) (v := ?_) (a' := ?_) ?_ ?_ ?_ ?_ ?_ (Ext.refl _) ?_
  rotate_left 4
  · (simp only [List.getElem?_toArray, List.getElem?_cons_succ, List.getElem?_cons_zero] <;> rfl)
  · rfl
  · intro w'
    go_simp
    with_reducible rfl
  · intro w' hw'
    exact (HR.out _)
  · simp only [Act.put, List.setIfInBounds_toArray, List.set_cons_zero, List.set_cons_succ]
    rfl
  refine run_pure (o := ?_) (v := ?_) (a' := ?_) ?_ ?_ ?_ ?_ ?_
  rotate_left 3
  · (simp only [List.getElem?_toArray, List.getElem?_cons_succ, List.getElem?_cons_zero] <;> rfl)
  · rfl
  · intro w'
    go_simp
    with_reducible rfl
  · simp only [Act.put, List.setIfInBounds_toArray, List.set_cons_zero, List.set_cons_succ]
    rfl
  refine run_pure (o := ?_) (v := ?_) (a' := ?_) ?_ ?_ ?_ ?_ ?_
  rotate_left 3
  · (simp only [List.getElem?_toArray, List.getElem?_cons_succ, List.getElem?_cons_zero] <;> rfl)
  · rfl
  · intro w'
    go_simp
    with_reducible rfl
  · simp only [Act.put, List.setIfInBounds_toArray, List.set_cons_zero, List.set_cons_succ]
    rfl
  refine run_read (o := ?_) (v := ?_) (a' := ?_) ?_ ?_ ?_ ?_ (Ext.refl _) ?_
  rotate_left 3
  · (simp only [List.getElem?_toArray, List.getElem?_cons_succ, List.getElem?_cons_zero] <;> rfl)
  · rfl
  · intro w' hw'
    obtain ⟨hc, hf⟩ := ext_cell hw'
    clear hw'
    go_simp
    with_reducible rfl
  · simp only [Act.put, List.setIfInBounds_toArray, List.set_cons_zero, List.set_cons_succ]
    rfl
  refine run_pure (o := ?_) (v := ?_) (a' := ?_) ?_ ?_ ?_ ?_ ?_
  rotate_left 3
  · (simp only [List.getElem?_toArray, List.getElem?_cons_succ, List.getElem?_cons_zero] <;> rfl)
  · rfl
  · intro w'
    go_simp
    with_reducible rfl
  · simp only [Act.put, List.setIfInBounds_toArray, List.set_cons_zero, List.set_cons_succ]
    rfl
  refine run_pure (o := ?_) (v := ?_) (a' := ?_) ?_ ?_ ?_ ?_ ?_
  rotate_left 3
  · (simp only [List.getElem?_toArray, List.getElem?_cons_succ, List.getElem?_cons_zero] <;> rfl)
  · rfl
  · intro w'
    go_simp
    with_reducible rfl
  · simp only [Act.put, List.setIfInBounds_toArray, List.set_cons_zero, List.set_cons_succ]
    rfl
  refine run_pure (o := ?_) (v := ?_) (a' := ?_) ?_ ?_ ?_ ?_ ?_
  rotate_left 3
  · (simp only [List.getElem?_toArray, List.getElem?_cons_succ, List.getElem?_cons_zero] <;> rfl)
  · rfl
  · intro w'
    go_simp
    with_reducible rfl
  · simp only [Act.put, List.setIfInBounds_toArray, List.set_cons_zero, List.set_cons_succ]
    rfl
  refine run_pure (o := ?_) (v := ?_) (a' := ?_) ?_ ?_ ?_ ?_ ?_
  rotate_left 3
  · (simp only [List.getElem?_toArray, List.getElem?_cons_succ, List.getElem?_cons_zero] <;> rfl)
  · rfl
  · intro w'
    go_simp
    with_reducible rfl
  · simp only [Act.put, List.setIfInBounds_toArray, List.set_cons_zero, List.set_cons_succ]
    rfl
  refine run_nil (fun a1 hx => ?_)
  have hc_a1 := (ext_cell hx).1
  have hf_a1 := (ext_cell hx).2
  have HX_a1 := Lib.hid hx
  have y_a1 := hx.size
  try simp at y_a1
  have z_a1_w_0 : w.heap.size < a1.heap.size := by omega
  clear hx
  go_wp2_with fail
  refine (HW.out _).mono ?_
  rintro e w2 ⟨rfl, hx⟩
  have hc_w2 := (ext_cell hx).1
  have hf_w2 := (ext_cell hx).2
  have HX_w2 := Lib.hid hx
  have y_w2 := hx.size
  try simp at y_w2
  have z_w2_w_0 : w.heap.size < w2.heap.size := by omega
  clear hx
  try dsimp only
  repeat (first | with_reducible refine wp_region_ext ?_ [(0, 1), (1, 0), (2, 0), (3, 0), (4, 1), (5, 1), (6, 0), (7, 0), (8, 0), (9, 2), (10, 2), (11, 0)] (fun _ => true) ?_ ?_ ?_ ?_ ?_ | go_step)
  · kernel_rfl
  · kernel_rfl
  · kernel_rfl
  · kernel_rfl
  · exact (fun _ _ d _ _ h => by cases d <;> exact h)
  refine run_read (o := ?_) (v := ?_) (a' := ?_) ?_ ?_ ?_ ?_ (Ext.refl _) ?_
  rotate_left 3
  · (simp only [List.getElem?_toArray, List.getElem?_cons_succ, List.getElem?_cons_zero] <;> rfl)
  · rfl
  · intro w' hw'
    obtain ⟨hc, hf⟩ := ext_cell hw'
    clear hw'
    go_simp
    with_reducible rfl
  · simp only [Act.put, List.setIfInBounds_toArray, List.set_cons_zero, List.set_cons_succ]
    rfl
  refine run_pure (o := ?_) (v := ?_) (a' := ?_) ?_ ?_ ?_ ?_ ?_
  rotate_left 3
  · (simp only [List.getElem?_toArray, List.getElem?_cons_succ, List.getElem?_cons_zero] <;> rfl)
  · rfl
  · intro w'
    go_simp
    with_reducible rfl
  · simp only [Act.put, List.setIfInBounds_toArray, List.set_cons_zero, List.set_cons_succ]
    rfl
  refine run_pure (o := ?_) (v := ?_) (a' := ?_) ?_ ?_ ?_ ?_ ?_
  rotate_left 3
  · (simp only [List.getElem?_toArray, List.getElem?_cons_succ, List.getElem?_cons_zero] <;> rfl)
  · rfl
  · intro w'
    go_simp
    with_reducible rfl
  · simp only [Act.put, List.setIfInBounds_toArray, List.set_cons_zero, List.set_cons_succ]
    rfl
  refine run_pure (o := ?_) (v := ?_) (a' := ?_) ?_ ?_ ?_ ?_ ?_
  rotate_left 3
  · (simp only [List.getElem?_toArray, List.getElem?_cons_succ, List.getElem?_cons_zero] <;> rfl)
  · rfl
  · intro w'
    go_simp
    with_reducible rfl
  · simp only [Act.put, List.setIfInBounds_toArray, List.set_cons_zero, List.set_cons_succ]
    rfl
  refine run_call (f := 21) (args := ?_) (o := ?_) (v := ?_) (a' := ?_) ?_ ?_ ?_ ?_ ?_ (Ext.refl _) ?_
  rotate_left 4
  · (simp only [List.getElem?_toArray, List.getElem?_cons_succ, List.getElem?_cons_zero] <;> rfl)
  · rfl
  · intro w'
    go_simp
    with_reducible rfl
  · intro w' hw'
    exact (HOf.out _)
  · simp only [Act.put, List.setIfInBounds_toArray, List.set_cons_zero, List.set_cons_succ]
    rfl
  refine run_call (f := 20) (args := ?_) (o := ?_) (v := ?_) (a' := ?_) ?_ ?_ ?_ ?_ ?_ (Ext.refl _) ?_
  rotate_left 4
  · (simp only [List.getElem?_toArray, List.getElem?_cons_succ, List.getElem?_cons_zero] <;> rfl)
  · rfl
  · intro w'
    go_simp
    with_reducible rfl
  · intro w' hw'
    exact (HJ.out _)
  · simp only [Act.put, List.setIfInBounds_toArray, List.set_cons_zero, List.set_cons_succ]
    rfl
  refine run_pure (o := ?_) (v := ?_) (a' := ?_) ?_ ?_ ?_ ?_ ?_
  rotate_left 3
  · (simp only [List.getElem?_toArray, List.getElem?_cons_succ, List.getElem?_cons_zero] <;> rfl)
  · rfl
  · intro w'
    go_simp
    with_reducible rfl
  · simp only [Act.put, List.setIfInBounds_toArray, List.set_cons_zero, List.set_cons_succ]
    rfl
  refine run_pure (o := ?_) (v := ?_) (a' := ?_) ?_ ?_ ?_ ?_ ?_
  rotate_left 3
  · (simp only [List.getElem?_toArray, List.getElem?_cons_succ, List.getElem?_cons_zero] <;> rfl)
  · rfl
  · intro w'
    go_simp
    with_reducible rfl
  · simp only [Act.put, List.setIfInBounds_toArray, List.set_cons_zero, List.set_cons_succ]
    rfl
  refine run_pure (o := ?_) (v := ?_) (a' := ?_) ?_ ?_ ?_ ?_ ?_
  rotate_left 3
  · (simp only [List.getElem?_toArray, List.getElem?_cons_succ, List.getElem?_cons_zero] <;> rfl)
  · rfl
  · intro w'
    go_simp
    with_reducible rfl
  · simp only [Act.put, List.setIfInBounds_toArray, List.set_cons_zero, List.set_cons_succ]
    rfl
  refine run_do (o := ?_) ?_ ?_ (fun b1 hx K hK => ?_)
  rotate_left
  · (simp only [List.getElem?_toArray, List.getElem?_cons_succ, List.getElem?_cons_zero] <;> rfl)
  · rfl
  have hc_b1 := (ext_cell hx).1
  have hf_b1 := (ext_cell hx).2
  have HX_b1 := Lib.hid hx
  have y_b1 := hx.size
  try simp at y_b1
  have z_b1_w_0 : w.heap.size < b1.heap.size := by omega
  have z_b1_w2_0 : w2.heap.size < b1.heap.size := by omega
  clear hx
  go_simp
  refine hK _ _ (fun _ hs => hs.alloc _) ?_
  clear hK K
  try simp only [Act.put, List.setIfInBounds_toArray, List.set_cons_zero, List.set_cons_succ]
  refine run_do (o := ?_) ?_ ?_ (fun b2 hx K hK => ?_)
  rotate_left
  · (simp only [List.getElem?_toArray, List.getElem?_cons_succ, List.getElem?_cons_zero] <;> rfl)
  · rfl
  have hc_b2 := (ext_cell hx).1
  have hf_b2 := (ext_cell hx).2
  have HX_b2 := Lib.hid hx
  have y_b2 := hx.size
  try simp at y_b2
  have z_b2_w_0 : w.heap.size < b2.heap.size := by omega
  have z_b2_w2_0 : w2.heap.size < b2.heap.size := by omega
  have z_b2_b1_0 : b1.heap.size < b2.heap.size := by omega
  clear hx
  go_simp
  refine hK _ _ (fun _ hs => ?_) ?_
  · repeat (first | exact hs | (refine Ext.setCell ?_ (by simp <;> omega) _))
  clear hK K
  refine run_pure (o := ?_) (v := ?_) (a' := ?_) ?_ ?_ ?_ ?_ ?_
  rotate_left 3
  · (simp only [List.getElem?_toArray, List.getElem?_cons_succ, List.getElem?_cons_zero] <;> rfl)
  · rfl
  · intro w'
    go_simp
    with_reducible rfl
  · simp only [Act.put, List.setIfInBounds_toArray, List.set_cons_zero, List.set_cons_succ]
    rfl
  refine run_nil (fun b3 hx => ?_)
  have hc_b3 := (ext_cell hx).1
  have hf_b3 := (ext_cell hx).2
  have HX_b3 := Lib.hid hx
  have y_b3 := hx.size
  try simp at y_b3
  have z_b3_w_0 : w.heap.size < b3.heap.size := by omega
  have z_b3_w2_0 : w2.heap.size < b3.heap.size := by omega
  have z_b3_b1_0 : b1.heap.size < b3.heap.size := by omega
  clear hx
  go_wp2_with fail
  refine (HR.out _).mono ?_
  rintro e w3 ⟨rfl, hx⟩
  have hc_w3 := (ext_cell hx).1
  have hf_w3 := (ext_cell hx).2
  have HX_w3 := Lib.hid hx
  have y_w3 := hx.size
  try simp at y_w3
  have z_w3_w_0 : w.heap.size < w3.heap.size := by omega
  have z_w3_w2_0 : w2.heap.size < w3.heap.size := by omega
  have z_w3_b1_0 : b1.heap.size < w3.heap.size := by omega
  clear hx
  try dsimp only
  repeat (first | with_reducible refine wp_region_ext ?_ [(0, 0), (1, 0), (2, 0), (3, 1), (4, 1), (5, 1), (6, 1), (7, 0), (8, 0), (9, 0), (10, 1), (11, 0), (12, 0), (13, 0)] (fun _ => true) ?_ ?_ ?_ ?_ ?_ | go_step)
  · kernel_rfl
  · kernel_rfl
  · kernel_rfl
  · kernel_rfl
  · exact (fun _ _ d _ _ h => by cases d <;> exact h)
  refine run_pure (o := ?_) (v := ?_) (a' := ?_) ?_ ?_ ?_ ?_ ?_
  rotate_left 3
  · (simp only [List.getElem?_toArray, List.getElem?_cons_succ, List.getElem?_cons_zero] <;> rfl)
  · rfl
  · intro w'
    go_simp
    with_reducible rfl
  · simp only [Act.put, List.setIfInBounds_toArray, List.set_cons_zero, List.set_cons_succ]
    rfl
  refine run_pure (o := ?_) (v := ?_) (a' := ?_) ?_ ?_ ?_ ?_ ?_
  rotate_left 3
  · (simp only [List.getElem?_toArray, List.getElem?_cons_succ, List.getElem?_cons_zero] <;> rfl)
  · rfl
  · intro w'
    go_simp
    with_reducible rfl
  · simp only [Act.put, List.setIfInBounds_toArray, List.set_cons_zero, List.set_cons_succ]
    rfl
  refine run_pure (o := ?_) (v := ?_) (a' := ?_) ?_ ?_ ?_ ?_ ?_
  rotate_left 3
  · (simp only [List.getElem?_toArray, List.getElem?_cons_succ, List.getElem?_cons_zero] <;> rfl)
  · rfl
  · intro w'
    go_simp
    with_reducible rfl
  · simp only [Act.put, List.setIfInBounds_toArray, List.set_cons_zero, List.set_cons_succ]
    rfl
  refine run_read (o := ?_) (v := ?_) (a' := ?_) ?_ ?_ ?_ ?_ (Ext.refl _) ?_
  rotate_left 3
  · (simp only [List.getElem?_toArray, List.getElem?_cons_succ, List.getElem?_cons_zero] <;> rfl)
  · rfl
  · intro w' hw'
    obtain ⟨hc, hf⟩ := ext_cell hw'
    clear hw'
    go_simp
    with_reducible rfl
  · simp only [Act.put, List.setIfInBounds_toArray, List.set_cons_zero, List.set_cons_succ]
    rfl
  refine run_call (f := 15) (args := ?_) (o := ?_) (v := ?_) (a' := ?_) ?_ ?_ ?_ ?_ ?_ (Ext.refl _) ?_
  rotate_left 4
  · (simp only [List.getElem?_toArray, List.getElem?_cons_succ, List.getElem?_cons_zero] <;> rfl)
  · rfl
  · intro w'
    go_simp
    with_reducible rfl
  · intro w' hw'
    exact (pOwn _ _ _ _ _)
  · simp only [Act.put, List.setIfInBounds_toArray, List.set_cons_zero, List.set_cons_succ]
    rfl
  refine run_read (o := ?_) (v := ?_) (a' := ?_) ?_ ?_ ?_ ?_ (Ext.refl _) ?_
  rotate_left 3
  · (simp only [List.getElem?_toArray, List.getElem?_cons_succ, List.getElem?_cons_zero] <;> rfl)
  · rfl
  · intro w' hw'
    obtain ⟨hc, hf⟩ := ext_cell hw'
    clear hw'
    go_simp
    with_reducible rfl
  · simp only [Act.put, List.setIfInBounds_toArray, List.set_cons_zero, List.set_cons_succ]
    rfl
  refine run_call (f := 15) (args := ?_) (o := ?_) (v := ?_) (a' := ?_) ?_ ?_ ?_ ?_ ?_ (Ext.refl _) ?_
  rotate_left 4
  · (simp only [List.getElem?_toArray, List.getElem?_cons_succ, List.getElem?_cons_zero] <;> rfl)
  · rfl
  · intro w'
    go_simp
    with_reducible rfl
  · intro w' hw'
    exact (pOwn _ _ _ _ _)
  · simp only [Act.put, List.setIfInBounds_toArray, List.set_cons_zero, List.set_cons_succ]
    rfl
  refine run_pure (o := ?_) (v := ?_) (a' := ?_) ?_ ?_ ?_ ?_ ?_
  rotate_left 3
  · (simp only [List.getElem?_toArray, List.getElem?_cons_succ, List.getElem?_cons_zero] <;> rfl)
  · rfl
  · intro w'
    go_simp
    with_reducible rfl
  · simp only [Act.put, List.setIfInBounds_toArray, List.set_cons_zero, List.set_cons_succ]
    rfl
  refine run_pure (o := ?_) (v := ?_) (a' := ?_) ?_ ?_ ?_ ?_ ?_
  rotate_left 3
  · (simp only [List.getElem?_toArray, List.getElem?_cons_succ, List.getElem?_cons_zero] <;> rfl)
  · rfl
  · intro w'
    go_simp
    with_reducible rfl
  · simp only [Act.put, List.setIfInBounds_toArray, List.set_cons_zero, List.set_cons_succ]
    rfl
  refine run_pure (o := ?_) (v := ?_) (a' := ?_) ?_ ?_ ?_ ?_ ?_
  rotate_left 3
  · (simp only [List.getElem?_toArray, List.getElem?_cons_succ, List.getElem?_cons_zero] <;> rfl)
  · rfl
  · intro w'
    go_simp
    with_reducible rfl
  · simp only [Act.put, List.setIfInBounds_toArray, List.set_cons_zero, List.set_cons_succ]
    rfl
  refine run_call (f := 22) (args := ?_) (o := ?_) (v := ?_) (a' := ?_) ?_ ?_ ?_ ?_ ?_ (Ext.refl _) ?_
  rotate_left 4
  · (simp only [List.getElem?_toArray, List.getElem?_cons_succ, List.getElem?_cons_zero] <;> rfl)
  · rfl
  · intro w'
    go_simp
    with_reducible rfl
  · intro w' hw'
    exact (HJ'.out _)
  · simp only [Act.put, List.setIfInBounds_toArray, List.set_cons_zero, List.set_cons_succ]
    rfl
  refine run_pure (o := ?_) (v := ?_) (a' := ?_) ?_ ?_ ?_ ?_ ?_
  rotate_left 3
  · (simp only [List.getElem?_toArray, List.getElem?_cons_succ, List.getElem?_cons_zero] <;> rfl)
  · rfl
  · intro w'
    go_simp
    with_reducible rfl
  · simp only [Act.put, List.setIfInBounds_toArray, List.set_cons_zero, List.set_cons_succ]
    rfl
  refine run_pure (o := ?_) (v := ?_) (a' := ?_) ?_ ?_ ?_ ?_ ?_
  rotate_left 3
  · (simp only [List.getElem?_toArray, List.getElem?_cons_succ, List.getElem?_cons_zero] <;> rfl)
  · rfl
  · intro w'
    go_simp
    with_reducible rfl
  · simp only [Act.put, List.setIfInBounds_toArray, List.set_cons_zero, List.set_cons_succ]
    rfl
  refine run_pure (o := ?_) (v := ?_) (a' := ?_) ?_ ?_ ?_ ?_ ?_
  rotate_left 3
  · (simp only [List.getElem?_toArray, List.getElem?_cons_succ, List.getElem?_cons_zero] <;> rfl)
  · rfl
  · intro w'
    go_simp
    with_reducible rfl
  · simp only [Act.put, List.setIfInBounds_toArray, List.set_cons_zero, List.set_cons_succ]
    rfl
  refine run_nil (fun c1 hx => ?_)
  have hc_c1 := (ext_cell hx).1
  have hf_c1 := (ext_cell hx).2
  have HX_c1 := Lib.hid hx
  have y_c1 := hx.size
  try simp at y_c1
  have z_c1_w_0 : w.heap.size < c1.heap.size := by omega
  have z_c1_w2_0 : w2.heap.size < c1.heap.size := by omega
  have z_c1_b1_0 : b1.heap.size < c1.heap.size := by omega
  clear hx
  go_wp2
  go_ret
  refine ⟨rfl, ?_⟩
  · repeat (first | exact Ext.refl _ | refine Ext.alloc ?_ _ | (refine Ext.setCell ?_ (by simp <;> omega) _) | refine Ext.drew ?_ | refine Ext.trans ?_ HX_c1.out | refine Ext.trans ?_ HX_w3.out | refine Ext.trans ?_ HX_b3.out | refine Ext.trans ?_ HX_b2.out | refine Ext.trans ?_ HX_b1.out | refine Ext.trans ?_ HX_w2.out | refine Ext.trans ?_ HX_a1.out | refine Ext.trans ?_ HX_w1.out)
end Go.Proofs.Ytjjapblpmpidcab
