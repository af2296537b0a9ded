import Derived.Test.YtjjapblpmpidcaaI4
set_option linter.unusedVariables false
set_option linter.unusedSimpArgs false
namespace Go.Proofs.Ytjjapblpmpidcaa
open Go.RowKit Num UReg

theorem w8_nat {n : Int} (h : (Lit.int .u8 n).wf = true) : ∃ N : Nat, n = N ∧ N < 256 := by
  have h1 : 0 ≤ n ∧ n ≤ 255 := by
    simp [Lit.wf, IntKind.min, IntKind.max, IntKind.signed, IntKind.bits] at h
    omega
  exact ⟨n.toNat, by omega, by omega⟩
theorem wOfN {N : Nat} (h : N < 1000) (w : World) : Calls Try.prog 42 #[.int .u64 (N : Int)] w fun e w' => e = .returned (.agg #[.int .u64 (hi (of (N : Int))), .int .u64 (lo (of (N : Int)))]) ∧ Ext w w' :=
  wOf _ (by unfold Word; omega) w
set_option maxHeartbeats 4000000 in
theorem halfSteps_walk (c : V) (k0 k1 : Int) (b : Bool) (_ : WK (k0, k1)) (n : Int) (hn : (Lit.int .u8 n).wf = true) (w : World) :
    Calls Try.prog 11 #[.agg #[.int .u64 (hi c), .int .u64 (lo c), .int .u32 k0, .int .u32 k1, .bool b], .int .u8 n] w fun e w' => e = .returned (.bool true) ∧ Ext w w' := by
  obtain ⟨N, rfl, hN⟩ := w8_nat hn
  clear hn
  by_cases hg : (200 : Int) < N
  · have t0 : decide ((200 : Int) < N) = true := decide_eq_true hg
    go_enter Try.func11, Try.ntmps11
    go_wp2_with fail
    refine (awake12 _).mono ?_
    rintro e w1 ⟨rfl, hx⟩
    have hc_w1 := (ext_cell hx).1
    have hf_w1 := (ext_cell hx).2
    have HX_w1 := Lib.hid hx
    have y_w1 := hx.size
    try simp at y_w1
    have z_w1_w_0 : w.heap.size < w1.heap.size := by omega
    clear hx
    try dsimp only
    repeat (first | with_reducible refine wp_region_ext ?_ [(0, 0), (1, 0), (2, 0), (3, 0), (4, 0), (5, 0), (6, 0), (7, 0), (8, 0), (9, 0), (10, 0), (11, 0), (12, 0), (13, 0), (14, 0), (15, 0), (16, 0)] (fun _ => true) ?_ ?_ ?_ ?_ ?_ | go_step)
    · kernel_rfl
    · kernel_rfl
    · kernel_rfl
    · kernel_rfl
    · exact (fun _ _ d _ _ h => by cases d <;> exact h)
    refine run_pure (o := ?_) (v := ?_) (a' := ?_) ?_ ?_ ?_ ?_ ?_
    rotate_left 3
    · (simp only [List.getElem?_toArray, List.getElem?_cons_succ, List.getElem?_cons_zero] <;> rfl)
    · rfl
    · intro w'
      go_simp
      with_reducible rfl
    · simp only [Act.put, List.setIfInBounds_toArray, List.set_cons_zero, List.set_cons_succ]
      rfl
    refine run_pure (o := ?_) (v := ?_) (a' := ?_) ?_ ?_ ?_ ?_ ?_
    rotate_left 3
    · (simp only [List.getElem?_toArray, List.getElem?_cons_succ, List.getElem?_cons_zero] <;> rfl)
    · rfl
    · intro w'
      go_simp
      with_reducible rfl
    · simp only [Act.put, List.setIfInBounds_toArray, List.set_cons_zero, List.set_cons_succ]
      rfl
    refine run_pure (o := ?_) (v := ?_) (a' := ?_) ?_ ?_ ?_ ?_ ?_
    rotate_left 3
    · (simp only [List.getElem?_toArray, List.getElem?_cons_succ, List.getElem?_cons_zero] <;> rfl)
    · rfl
    · intro w'
      go_simp
      with_reducible rfl
    · simp only [Act.put, List.setIfInBounds_toArray, List.set_cons_zero, List.set_cons_succ]
      rfl
    refine run_off (o := ?_) (a' := ?_) ?_ ?_ ?_ ?_
    rotate_left 2
    · (simp only [List.getElem?_toArray, List.getElem?_cons_succ, List.getElem?_cons_zero] <;> rfl)
    · rfl
    · simp only [Act.put, List.setIfInBounds_toArray, List.set_cons_zero, List.set_cons_succ]
      rfl
    refine run_off (o := ?_) (a' := ?_) ?_ ?_ ?_ ?_
    rotate_left 2
    · (simp only [List.getElem?_toArray, List.getElem?_cons_succ, List.getElem?_cons_zero] <;> rfl)
    · rfl
    · simp only [Act.put, List.setIfInBounds_toArray, List.set_cons_zero, List.set_cons_succ]
      rfl
    refine run_off (o := ?_) (a' := ?_) ?_ ?_ ?_ ?_
    rotate_left 2
    · (simp only [List.getElem?_toArray, List.getElem?_cons_succ, List.getElem?_cons_zero] <;> rfl)
    · rfl
    · simp only [Act.put, List.setIfInBounds_toArray, List.set_cons_zero, List.set_cons_succ]
      rfl
    refine run_off (o := ?_) (a' := ?_) ?_ ?_ ?_ ?_
    rotate_left 2
    · (simp only [List.getElem?_toArray, List.getElem?_cons_succ, List.getElem?_cons_zero] <;> rfl)
    · rfl
    · simp only [Act.put, List.setIfInBounds_toArray, List.set_cons_zero, List.set_cons_succ]
      rfl
    refine run_off (o := ?_) (a' := ?_) ?_ ?_ ?_ ?_
    rotate_left 2
    · (simp only [List.getElem?_toArray, List.getElem?_cons_succ, List.getElem?_cons_zero] <;> rfl)
    · rfl
    · simp only [Act.put, List.setIfInBounds_toArray, List.set_cons_zero, List.set_cons_succ]
      rfl
    refine run_off (o := ?_) (a' := ?_) ?_ ?_ ?_ ?_
    rotate_left 2
    · (simp only [List.getElem?_toArray, List.getElem?_cons_succ, List.getElem?_cons_zero] <;> rfl)
    · rfl
    · simp only [Act.put, List.setIfInBounds_toArray, List.set_cons_zero, List.set_cons_succ]
      rfl
    refine run_off (o := ?_) (a' := ?_) ?_ ?_ ?_ ?_
    rotate_left 2
    · (simp only [List.getElem?_toArray, List.getElem?_cons_succ, List.getElem?_cons_zero] <;> rfl)
    · rfl
    · simp only [Act.put, List.setIfInBounds_toArray, List.set_cons_zero, List.set_cons_succ]
      rfl
    refine run_off (o := ?_) (a' := ?_) ?_ ?_ ?_ ?_
    rotate_left 2
    · (simp only [List.getElem?_toArray, List.getElem?_cons_succ, List.getElem?_cons_zero] <;> rfl)
    · rfl
    · simp only [Act.put, List.setIfInBounds_toArray, List.set_cons_zero, List.set_cons_succ]
      rfl
    refine run_off (o := ?_) (a' := ?_) ?_ ?_ ?_ ?_
    rotate_left 2
    · (simp only [List.getElem?_toArray, List.getElem?_cons_succ, List.getElem?_cons_zero] <;> rfl)
    · rfl
    · simp only [Act.put, List.setIfInBounds_toArray, List.set_cons_zero, List.set_cons_succ]
      rfl
    refine run_off (o := ?_) (a' := ?_) ?_ ?_ ?_ ?_
    rotate_left 2
    · (simp only [List.getElem?_toArray, List.getElem?_cons_succ, List.getElem?_cons_zero] <;> rfl)
    · rfl
    · simp only [Act.put, List.setIfInBounds_toArray, List.set_cons_zero, List.set_cons_succ]
      rfl
    refine run_off (o := ?_) (a' := ?_) ?_ ?_ ?_ ?_
    rotate_left 2
    · (simp only [List.getElem?_toArray, List.getElem?_cons_succ, List.getElem?_cons_zero] <;> rfl)
    · rfl
    · simp only [Act.put, List.setIfInBounds_toArray, List.set_cons_zero, List.set_cons_succ]
      rfl
    refine run_off (o := ?_) (a' := ?_) ?_ ?_ ?_ ?_
    rotate_left 2
    · (simp only [List.getElem?_toArray, List.getElem?_cons_succ, List.getElem?_cons_zero] <;> rfl)
    · rfl
    · simp only [Act.put, List.setIfInBounds_toArray, List.set_cons_zero, List.set_cons_succ]
      rfl
    refine run_pure (o := ?_) (v := ?_) (a' := ?_) ?_ ?_ ?_ ?_ ?_
    rotate_left 3
    · (simp only [List.getElem?_toArray, List.getElem?_cons_succ, List.getElem?_cons_zero] <;> rfl)
    · rfl
    · intro w'
      go_simp
      with_reducible rfl
    · simp only [Act.put, List.setIfInBounds_toArray, List.set_cons_zero, List.set_cons_succ]
      rfl
    refine run_pure (o := ?_) (v := ?_) (a' := ?_) ?_ ?_ ?_ ?_ ?_
    rotate_left 3
    · (simp only [List.getElem?_toArray, List.getElem?_cons_succ, List.getElem?_cons_zero] <;> rfl)
    · rfl
    · intro w'
      go_simp
      with_reducible rfl
    · simp only [Act.put, List.setIfInBounds_toArray, List.set_cons_zero, List.set_cons_succ]
      rfl
    refine run_nil (fun a1 hx => ?_)
    have hc_a1 := (ext_cell hx).1
    have hf_a1 := (ext_cell hx).2
    have HX_a1 := Lib.hid hx
    have y_a1 := hx.size
    try simp at y_a1
    have z_a1_w_0 : w.heap.size < a1.heap.size := by omega
    clear hx
    go_wp2
    go_ret
    refine ⟨rfl, ?_⟩
    · repeat (first | with_reducible exact Ext.refl _ | with_reducible refine Ext.alloc ?_ _ | (with_reducible refine Ext.setCell ?_ (by simp <;> omega) _) | with_reducible refine Ext.drew ?_ | with_reducible refine Ext.trans ?_ HX_a1.out | with_reducible refine Ext.trans ?_ HX_w1.out)
  · have t0 : decide ((200 : Int) < N) = false := decide_eq_false hg
    obtain ⟨⟨d, e⟩, hd⟩ : ∃ t, jumpC c b N = t := ⟨_, rfl⟩
    have HJ := Lib.hid (hJump ((jump_small c b N (by omega)).trans hd) k0 k1)
    have HR := Lib.hid (r12Jump (by omega) hd k0 k1)
    have u0 : IntKind.u64.wrap (N : Int) = N := IntWalk.u64_in _ (by omega)
    have u1 : IntKind.i64.wrap (N : Int) = N := IntWalk.i64_in _ (by omega)
    clear hd
    have HN : N < 1000 := by omega
    go_enter Try.func11, Try.ntmps11
    go_wp2_with fail
    refine (awake12 _).mono ?_
    rintro e w1 ⟨rfl, hx⟩
    have hc_w1 := (ext_cell hx).1
    have hf_w1 := (ext_cell hx).2
    have HX_w1 := Lib.hid hx
    have y_w1 := hx.size
    try simp at y_w1
    have z_w1_w_0 : w.heap.size < w1.heap.size := by omega
    clear hx
    try dsimp only
    repeat (first | with_reducible refine wp_region_ext ?_ [(0, 0), (1, 0), (2, 0), (3, 1), (4, 0), (5, 0), (6, 1), (7, 1), (8, 1), (9, 1), (10, 1), (11, 0), (12, 0), (13, 1), (14, 0), (15, 0), (16, 0)] (fun _ => true) ?_ ?_ ?_ ?_ ?_ | go_step)
    · kernel_rfl
    · kernel_rfl
    · kernel_rfl
    · kernel_rfl
    · exact (fun _ _ d _ _ h => by cases d <;> exact h)
    refine run_pure (o := ?_) (v := ?_) (a' := ?_) ?_ ?_ ?_ ?_ ?_
    rotate_left 3
    · (simp only [List.getElem?_toArray, List.getElem?_cons_succ, List.getElem?_cons_zero] <;> rfl)
    · rfl
    · intro w'
      go_simp
      with_reducible rfl
    · simp only [Act.put, List.setIfInBounds_toArray, List.set_cons_zero, List.set_cons_succ]
      rfl
    refine run_pure (o := ?_) (v := ?_) (a' := ?_) ?_ ?_ ?_ ?_ ?_
    rotate_left 3
    · (simp only [List.getElem?_toArray, List.getElem?_cons_succ, List.getElem?_cons_zero] <;> rfl)
    · rfl
    · intro w'
      go_simp
      with_reducible rfl
    · simp only [Act.put, List.setIfInBounds_toArray, List.set_cons_zero, List.set_cons_succ]
      rfl
    refine run_pure (o := ?_) (v := ?_) (a' := ?_) ?_ ?_ ?_ ?_ ?_
    rotate_left 3
    · (simp only [List.getElem?_toArray, List.getElem?_cons_succ, List.getElem?_cons_zero] <;> rfl)
    · rfl
    · intro w'
      go_simp
      with_reducible rfl
    · simp only [Act.put, List.setIfInBounds_toArray, List.set_cons_zero, List.set_cons_succ]
      rfl
    refine run_read (o := ?_) (v := ?_) (a' := ?_) ?_ ?_ ?_ ?_ (Ext.refl _) ?_
    rotate_left 3
    · (simp only [List.getElem?_toArray, List.getElem?_cons_succ, List.getElem?_cons_zero] <;> rfl)
    · rfl
    · intro w' hw'
      obtain ⟨hc, hf⟩ := ext_cell hw'
      clear hw'
      go_simp
      with_reducible rfl
    · simp only [Act.put, List.setIfInBounds_toArray, List.set_cons_zero, List.set_cons_succ]
      rfl
    refine run_pure (o := ?_) (v := ?_) (a' := ?_) ?_ ?_ ?_ ?_ ?_
    rotate_left 3
    · (simp only [List.getElem?_toArray, List.getElem?_cons_succ, List.getElem?_cons_zero] <;> rfl)
    · rfl
    · intro w'
      go_simp
      with_reducible rfl
    · simp only [Act.put, List.setIfInBounds_toArray, List.set_cons_zero, List.set_cons_succ]
      rfl
    refine run_pure (o := ?_) (v := ?_) (a' := ?_) ?_ ?_ ?_ ?_ ?_
    rotate_left 3
    · (simp only [List.getElem?_toArray, List.getElem?_cons_succ, List.getElem?_cons_zero] <;> rfl)
    · rfl
    · intro w'
      go_simp
      with_reducible rfl
    · simp only [Act.put, List.setIfInBounds_toArray, List.set_cons_zero, List.set_cons_succ]
      rfl
    refine run_call (f := 42) (args := ?_) (o := ?_) (v := ?_) (a' := ?_) ?_ ?_ ?_ ?_ ?_ (Ext.refl _) ?_
    rotate_left 4
    · (simp only [List.getElem?_toArray, List.getElem?_cons_succ, List.getElem?_cons_zero] <;> rfl)
    · rfl
    · intro w'
      go_simp
      with_reducible rfl
    · intro w' hw'
      exact (wOfN HN _)
    · simp only [Act.put, List.setIfInBounds_toArray, List.set_cons_zero, List.set_cons_succ]
      rfl
    refine run_call (f := 53) (args := ?_) (o := ?_) (v := ?_) (a' := ?_) ?_ ?_ ?_ ?_ ?_ (Ext.refl _) ?_
    rotate_left 4
    · (simp only [List.getElem?_toArray, List.getElem?_cons_succ, List.getElem?_cons_zero] <;> rfl)
    · rfl
    · intro w'
      go_simp
      with_reducible rfl
    · intro w' hw'
      exact (HJ.out _)
    · simp only [Act.put, List.setIfInBounds_toArray, List.set_cons_zero, List.set_cons_succ]
      rfl
    refine run_call (f := 47) (args := ?_) (o := ?_) (v := ?_) (a' := ?_) ?_ ?_ ?_ ?_ ?_ (Ext.refl _) ?_
    rotate_left 4
    · (simp only [List.getElem?_toArray, List.getElem?_cons_succ, List.getElem?_cons_zero] <;> rfl)
    · rfl
    · intro w'
      go_simp
      with_reducible rfl
    · intro w' hw'
      exact (hOwn _ _ _ _ _)
    · simp only [Act.put, List.setIfInBounds_toArray, List.set_cons_zero, List.set_cons_succ]
      rfl
    refine run_read (o := ?_) (v := ?_) (a' := ?_) ?_ ?_ ?_ ?_ (Ext.refl _) ?_
    rotate_left 3
    · (simp only [List.getElem?_toArray, List.getElem?_cons_succ, List.getElem?_cons_zero] <;> rfl)
    · rfl
    · intro w' hw'
      obtain ⟨hc, hf⟩ := ext_cell hw'
      clear hw'
      go_simp
      with_reducible rfl
    · simp only [Act.put, List.setIfInBounds_toArray, List.set_cons_zero, List.set_cons_succ]
      rfl
    refine run_call (f := 47) (args := ?_) (o := ?_) (v := ?_) (a' := ?_) ?_ ?_ ?_ ?_ ?_ (Ext.refl _) ?_
    rotate_left 4
    · (simp only [List.getElem?_toArray, List.getElem?_cons_succ, List.getElem?_cons_zero] <;> rfl)
    · rfl
    · intro w'
      go_simp
      with_reducible rfl
    · intro w' hw'
      exact (hOwn _ _ _ _ _)
    · simp only [Act.put, List.setIfInBounds_toArray, List.set_cons_zero, List.set_cons_succ]
      rfl
    refine run_pure (o := ?_) (v := ?_) (a' := ?_) ?_ ?_ ?_ ?_ ?_
    rotate_left 3
    · (simp only [List.getElem?_toArray, List.getElem?_cons_succ, List.getElem?_cons_zero] <;> rfl)
    · rfl
    · intro w'
      go_simp
      with_reducible rfl
    · simp only [Act.put, List.setIfInBounds_toArray, List.set_cons_zero, List.set_cons_succ]
      rfl
    refine run_pure (o := ?_) (v := ?_) (a' := ?_) ?_ ?_ ?_ ?_ ?_
    rotate_left 3
    · (simp only [List.getElem?_toArray, List.getElem?_cons_succ, List.getElem?_cons_zero] <;> rfl)
    · rfl
    · intro w'
      go_simp
      with_reducible rfl
    · simp only [Act.put, List.setIfInBounds_toArray, List.set_cons_zero, List.set_cons_succ]
      rfl
    refine run_call (f := 57) (args := ?_) (o := ?_) (v := ?_) (a' := ?_) ?_ ?_ ?_ ?_ ?_ (Ext.refl _) ?_
    rotate_left 4
    · (simp only [List.getElem?_toArray, List.getElem?_cons_succ, List.getElem?_cons_zero] <;> rfl)
    · rfl
    · intro w'
      go_simp
      with_reducible rfl
    · intro w' hw'
      exact (HR.out _)
    · simp only [Act.put, List.setIfInBounds_toArray, List.set_cons_zero, List.set_cons_succ]
      rfl
    refine run_pure (o := ?_) (v := ?_) (a' := ?_) ?_ ?_ ?_ ?_ ?_
    rotate_left 3
    · (simp only [List.getElem?_toArray, List.getElem?_cons_succ, List.getElem?_cons_zero] <;> rfl)
    · rfl
    · intro w'
      go_simp
      with_reducible rfl
    · simp only [Act.put, List.setIfInBounds_toArray, List.set_cons_zero, List.set_cons_succ]
      rfl
    refine run_pure (o := ?_) (v := ?_) (a' := ?_) ?_ ?_ ?_ ?_ ?_
    rotate_left 3
    · (simp only [List.getElem?_toArray, List.getElem?_cons_succ, List.getElem?_cons_zero] <;> rfl)
    · rfl
    · intro w'
      go_simp
      with_reducible rfl
    · simp only [Act.put, List.setIfInBounds_toArray, List.set_cons_zero, List.set_cons_succ]
      rfl
    refine run_pure (o := ?_) (v := ?_) (a' := ?_) ?_ ?_ ?_ ?_ ?_
    rotate_left 3
    · (simp only [List.getElem?_toArray, List.getElem?_cons_succ, List.getElem?_cons_zero] <;> rfl)
    · rfl
    · intro w'
      go_simp
      with_reducible rfl
    · simp only [Act.put, List.setIfInBounds_toArray, List.set_cons_zero, List.set_cons_succ]
      rfl
    refine run_nil (fun a1 hx => ?_)
    have hc_a1 := (ext_cell hx).1
    have hf_a1 := (ext_cell hx).2
    have HX_a1 := Lib.hid hx
    have y_a1 := hx.size
    try simp at y_a1
    have z_a1_w_0 : w.heap.size < a1.heap.size := by omega
    clear hx
    go_wp2
    go_ret
    refine ⟨by simp, ?_⟩
    · repeat (first | with_reducible exact Ext.refl _ | with_reducible refine Ext.alloc ?_ _ | (with_reducible refine Ext.setCell ?_ (by simp <;> omega) _) | with_reducible refine Ext.drew ?_ | with_reducible refine Ext.trans ?_ HX_a1.out | with_reducible refine Ext.trans ?_ HX_w1.out)
end Go.Proofs.Ytjjapblpmpidcaa
