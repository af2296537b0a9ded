import Derived.Test.YtjjapblpmpidcabW2
set_option linter.unusedVariables false
set_option linter.unusedSimpArgs false
namespace Go.Proofs.Ytjjapblpmpidcab
open Go.RowKit Num UReg

/-! ### package pcg: a state is S and I -/
theorem fld_S0 (x y z t : Value) (w : World) : (Instr.field 26 (.agg #[x, y, z, t]) 0).run Try.prog w = .ok (.agg #[x, y]) w := by kernel_rfl
theorem fld_S1 (x y z t : Value) (w : World) : (Instr.field 26 (.agg #[x, y, z, t]) 1).run Try.prog w = .ok (.agg #[z, t]) w := by kernel_rfl
attribute [go_sem] fld_S0 fld_S1
theorem eqS (d : Nat) (w : World) (x0 x1 x2 x3 y0 y1 y2 y3 : Int) :
    (Op.equalIn (d + 3) 26 (.agg #[.int .u64 x0, .int .u64 x1, .int .u64 x2, .int .u64 x3]) (.agg #[.int .u64 y0, .int .u64 y1, .int .u64 y2, .int .u64 y3])).run Try.prog w = .ok (decide ((x0 = y0 ∧ x1 = y1) ∧ (x2 = y2 ∧ x3 = y3))) w := by
  by_cases h0 : x0 = y0 ∧ x1 = y1
  · obtain ⟨rfl, rfl⟩ := h0
    by_cases h1 : x2 = y2 ∧ x3 = y3
    · obtain ⟨rfl, rfl⟩ := h1
      go_simp
    · go_simp
      exact fun a b => h1 ⟨a, b⟩
  · go_simp
    exact fun a b _ _ => h0 ⟨a, b⟩
theorem eqSV (d : Nat) (w : World) (a b a' b' : V) :
    (Op.equalIn (d + 3) 26 (.agg #[.int .u64 (hi a), .int .u64 (lo a), .int .u64 (hi b), .int .u64 (lo b)]) (.agg #[.int .u64 (hi a'), .int .u64 (lo a'), .int .u64 (hi b'), .int .u64 (lo b')])).run Try.prog w = .ok (same2 a b a' b') w := by
  rw [eqS]
  exact congrArg (fun x => Result.ok x w) (decide_eq_decide.2 ⟨fun h => ⟨v_ext h.1.1 h.1.2, v_ext h.2.1 h.2.2⟩, fun h => by obtain ⟨rfl, rfl⟩ := h; exact ⟨⟨rfl, rfl⟩, ⟨rfl, rfl⟩⟩⟩)
theorem eqSZ (d : Nat) (w : World) (a b a' : V) :
    (Op.equalIn (d + 3) 26 (.agg #[.int .u64 (hi a), .int .u64 (lo a), .int .u64 (hi b), .int .u64 (lo b)]) (.agg #[.int .u64 (hi a'), .int .u64 (lo a'), .int .u64 0, .int .u64 0])).run Try.prog w = .ok (same2 a b a' 0#128) w := by
  have h := eqSV d w a b a' 0#128
  rwa [hi_zero, lo_zero] at h
theorem eqSY (d : Nat) (w : World) (a b b' : V) :
    (Op.equalIn (d + 3) 26 (.agg #[.int .u64 (hi a), .int .u64 (lo a), .int .u64 (hi b), .int .u64 (lo b)]) (.agg #[.int .u64 0, .int .u64 0, .int .u64 (hi b'), .int .u64 (lo b')])).run Try.prog w = .ok (same2 a b 0#128 b') w := by
  have h := eqSV d w a b 0#128 b'
  rwa [hi_zero, lo_zero] at h
attribute [go_sem] eqS
attribute [go_sem high] eqSV eqSZ eqSY


/-- The factor. -/
def fac : V := of 15750249268501108917
theorem pMap (s i : V) (w : World) : Calls Try.prog 28 #[.agg #[.int .u64 (hi s), .int .u64 (lo s), .int .u64 (hi i), .int .u64 (lo i)]] w fun e w' =>
    e = .returned (.agg #[.int .u64 (hi fac), .int .u64 (lo fac), .int .u64 (hi i), .int .u64 (lo i)]) ∧ Ext w w' := by
  go_enter Try.func28, Try.ntmps28
  go_wp2_with fail
  try dsimp only
  repeat (first | with_reducible refine wp_region_ext ?_ [(0, 1), (1, 0), (2, 1), (3, 0), (4, 2)] (fun i => !(i == 4)) ?_ ?_ ?_ ?_ ?_ | go_step)
  · kernel_rfl
  · kernel_rfl
  · kernel_rfl
  · kernel_rfl
  · exact (fun _ _ d _ _ h => by cases d <;> exact h)
  refine run_call (f := 21) (args := ?_) (o := ?_) (v := ?_) (a' := ?_) ?_ ?_ ?_ ?_ ?_ (Ext.refl _) ?_
  rotate_left 4
  · (simp only [List.getElem?_toArray, List.getElem?_cons_succ, List.getElem?_cons_zero] <;> rfl)
  · rfl
  · intro w'
    go_simp
    with_reducible rfl
  · intro w' _
    exact (by refine wOf _ ?_ _; unfold Word; omega)
  · simp only [Act.put, List.setIfInBounds_toArray, List.set_cons_zero, List.set_cons_succ]
    rfl
  refine run_pure (o := ?_) (v := ?_) (a' := ?_) ?_ ?_ ?_ ?_ ?_
  rotate_left 3
  · (simp only [List.getElem?_toArray, List.getElem?_cons_succ, List.getElem?_cons_zero] <;> rfl)
  · rfl
  · intro w'
    go_simp
    with_reducible rfl
  · simp only [Act.put, List.setIfInBounds_toArray, List.set_cons_zero, List.set_cons_succ]
    rfl
  refine run_read (o := ?_) (v := ?_) (a' := ?_) ?_ ?_ ?_ ?_ (Ext.refl _) ?_
  rotate_left 3
  · (simp only [List.getElem?_toArray, List.getElem?_cons_succ, List.getElem?_cons_zero] <;> rfl)
  · rfl
  · intro w' hw'
    obtain ⟨hc, hf⟩ := ext_cell hw'
    clear hw'
    go_simp
    with_reducible rfl
  · simp only [Act.put, List.setIfInBounds_toArray, List.set_cons_zero, List.set_cons_succ]
    rfl
  refine run_pure (o := ?_) (v := ?_) (a' := ?_) ?_ ?_ ?_ ?_ ?_
  rotate_left 3
  · (simp only [List.getElem?_toArray, List.getElem?_cons_succ, List.getElem?_cons_zero] <;> rfl)
  · rfl
  · intro w'
    go_simp
    with_reducible rfl
  · simp only [Act.put, List.setIfInBounds_toArray, List.set_cons_zero, List.set_cons_succ]
    rfl
  refine run_do (o := ?_) ?_ ?_ (fun p1 hx K hK => ?_)
  rotate_left
  · (simp only [List.getElem?_toArray, List.getElem?_cons_succ, List.getElem?_cons_zero] <;> rfl)
  · rfl
  have hc_p1 := (ext_cell hx).1
  have hf_p1 := (ext_cell hx).2
  have HX_p1 := Lib.hid hx
  have y_p1 := hx.size
  try simp at y_p1
  have z_p1_w_0 : w.heap.size < p1.heap.size := by omega
  have z_p1_w_1 : w.heap.size + 1 < p1.heap.size := by omega
  clear hx
  go_simp
  refine hK _ _ (fun h => absurd h (by decide)) ?_
  clear hK K
  refine run_nil (fun p2 hx => ?_)
  have hc_p2 := (ext_cell hx).1
  have hf_p2 := (ext_cell hx).2
  have HX_p2 := Lib.hid hx
  have y_p2 := hx.size
  try simp at y_p2
  have z_p2_w_0 : w.heap.size < p2.heap.size := by omega
  have z_p2_w_1 : w.heap.size + 1 < p2.heap.size := by omega
  clear hx
  go_wp2
  refine bodyPost_ret (v := ?_) ?_ rfl ⟨?_, ?_⟩
  rotate_left
  · simp only [results, Try.results28]
    go_simp
    with_reducible rfl
  · rw [show of 15750249268501108917 = fac from rfl]
  · repeat (first | exact Ext.refl _ | refine Ext.alloc ?_ _ | (refine Ext.setCell ?_ (by simp <;> omega) _) | refine Ext.drew ?_ | refine Ext.trans ?_ HX_p1.out | refine Ext.trans ?_ HX_p2.out)
theorem pRight (s i : V) (w : World) : Calls Try.prog 18 #[.agg #[.int .u64 (hi s), .int .u64 (lo s), .int .u64 (hi i), .int .u64 (lo i)]] w fun e w' =>
    e = .returned (.bool (decide (i.toNat % 2 = 1))) ∧ Ext w w' := by
  have hb : decide (bit i 0 = 1) = decide (i.toNat % 2 = 1) := decide_eq_decide.2 (by rw [bit0]; omega)
  go_enter Try.func18, Try.ntmps18
  try dsimp only
  repeat (first | with_reducible refine wp_region_in [(0, 2), (1, 0)] (fun _ => true) ?_ ?_ ?_ | go_step)
  · rfl
  · rfl
  refine run_do (o := ?_) ?_ ?_ (fun a1 hx K hK => ?_)
  rotate_left
  · (simp only [List.getElem?_toArray, List.getElem?_cons_succ, List.getElem?_cons_zero] <;> rfl)
  · rfl
  have hc_a1 := (ext_cell hx).1
  have hf_a1 := (ext_cell hx).2
  have HX_a1 := Lib.hid hx
  have y_a1 := hx.size
  try simp at y_a1
  clear hx
  go_simp
  refine hK _ _ (fun _ hs => hs.alloc _) ?_
  clear hK K
  try simp only [Act.put, List.setIfInBounds_toArray, List.set_cons_zero, List.set_cons_succ]
  refine run_pure (o := ?_) (v := ?_) (a' := ?_) ?_ ?_ ?_ ?_ ?_
  rotate_left 3
  · (simp only [List.getElem?_toArray, List.getElem?_cons_succ, List.getElem?_cons_zero] <;> rfl)
  · rfl
  · intro w'
    go_simp
    with_reducible rfl
  · simp only [Act.put, List.setIfInBounds_toArray, List.set_cons_zero, List.set_cons_succ]
    rfl
  refine run_nil (fun a2 hx => ?_)
  have hc_a2 := (ext_cell hx).1
  have hf_a2 := (ext_cell hx).2
  have HX_a2 := Lib.hid hx
  have y_a2 := hx.size
  try simp at y_a2
  have z_a2_a1_0 : a1.heap.size < a2.heap.size := by omega
  clear hx
  try dsimp only
  repeat (first | with_reducible refine wp_region_in [(0, 0), (1, 1), (2, 1), (3, 0), (4, 0)] (fun _ => true) ?_ ?_ ?_ | go_step)
  · rfl
  · rfl
  refine run_pure (o := ?_) (v := ?_) (a' := ?_) ?_ ?_ ?_ ?_ ?_
  rotate_left 3
  · (simp only [List.getElem?_toArray, List.getElem?_cons_succ, List.getElem?_cons_zero] <;> rfl)
  · rfl
  · intro w'
    go_simp
    with_reducible rfl
  · simp only [Act.put, List.setIfInBounds_toArray, List.set_cons_zero, List.set_cons_succ]
    rfl
  refine run_read (o := ?_) (v := ?_) (a' := ?_) ?_ ?_ ?_ ?_ (Ext.refl _) ?_
  rotate_left 3
  · (simp only [List.getElem?_toArray, List.getElem?_cons_succ, List.getElem?_cons_zero] <;> rfl)
  · rfl
  · intro w' hw'
    obtain ⟨hc, hf⟩ := ext_cell hw'
    clear hw'
    go_simp
    with_reducible rfl
  · simp only [Act.put, List.setIfInBounds_toArray, List.set_cons_zero, List.set_cons_succ]
    rfl
  refine run_call (f := 47) (args := ?_) (o := ?_) (v := ?_) (a' := ?_) ?_ ?_ ?_ ?_ ?_ (Ext.refl _) ?_
  rotate_left 4
  · (simp only [List.getElem?_toArray, List.getElem?_cons_succ, List.getElem?_cons_zero] <;> rfl)
  · rfl
  · intro w'
    go_simp
    with_reducible rfl
  · intro w' _
    exact (wBit _ _ _)
  · simp only [Act.put, List.setIfInBounds_toArray, List.set_cons_zero, List.set_cons_succ]
    rfl
  refine run_pure (o := ?_) (v := ?_) (a' := ?_) ?_ ?_ ?_ ?_ ?_
  rotate_left 3
  · (simp only [List.getElem?_toArray, List.getElem?_cons_succ, List.getElem?_cons_zero] <;> rfl)
  · rfl
  · intro w'
    go_simp
    with_reducible rfl
  · simp only [Act.put, List.setIfInBounds_toArray, List.set_cons_zero, List.set_cons_succ]
    rfl
  refine run_pure (o := ?_) (v := ?_) (a' := ?_) ?_ ?_ ?_ ?_ ?_
  rotate_left 3
  · (simp only [List.getElem?_toArray, List.getElem?_cons_succ, List.getElem?_cons_zero] <;> rfl)
  · rfl
  · intro w'
    go_simp
    with_reducible rfl
  · simp only [Act.put, List.setIfInBounds_toArray, List.set_cons_zero, List.set_cons_succ]
    rfl
  refine run_nil (fun b1 hx => ?_)
  have hc_b1 := (ext_cell hx).1
  have hf_b1 := (ext_cell hx).2
  have HX_b1 := Lib.hid hx
  have y_b1 := hx.size
  try simp at y_b1
  have z_b1_a1_0 : a1.heap.size < b1.heap.size := by omega
  clear hx
  go_wp2

  go_ret
  refine ⟨by rw [← hb]; rfl, ?_⟩
  · repeat (first | exact Ext.refl _ | refine Ext.alloc ?_ _ | (refine Ext.setCell ?_ (by simp <;> omega) _) | refine Ext.drew ?_ | refine Ext.trans ?_ HX_b1.out | refine Ext.trans ?_ HX_a2.out | refine Ext.trans ?_ HX_a1.out)
theorem pStep (s i : V) (w : World) : Calls Try.prog 16 #[.agg #[.int .u64 (hi s), .int .u64 (lo s), .int .u64 (hi i), .int .u64 (lo i)]] w fun e w' =>
    e = .returned (.agg #[.int .u64 (hi (fac * s + i)), .int .u64 (lo (fac * s + i)), .int .u64 (hi i), .int .u64 (lo i)]) ∧ Ext w w' := by
  go_enter Try.func16, Try.ntmps16
  go_wp2_with fail
  try dsimp only
  repeat (first | with_reducible refine wp_region_ext ?_ [(0, 1), (1, 1), (2, 0), (3, 1), (4, 1), (5, 0), (6, 1), (7, 0), (8, 2)] (fun i => !(i == 8)) ?_ ?_ ?_ ?_ ?_ | go_step)
  · kernel_rfl
  · kernel_rfl
  · kernel_rfl
  · kernel_rfl
  · exact (fun _ _ d _ _ h => by cases d <;> exact h)
  refine run_read (o := ?_) (v := ?_) (a' := ?_) ?_ ?_ ?_ ?_ (Ext.refl _) ?_
  rotate_left 3
  · (simp only [List.getElem?_toArray, List.getElem?_cons_succ, List.getElem?_cons_zero] <;> rfl)
  · rfl
  · intro w' hw'
    obtain ⟨hc, hf⟩ := ext_cell hw'
    clear hw'
    go_simp
    with_reducible rfl
  · simp only [Act.put, List.setIfInBounds_toArray, List.set_cons_zero, List.set_cons_succ]
    rfl
  refine run_call (f := 28) (args := ?_) (o := ?_) (v := ?_) (a' := ?_) ?_ ?_ ?_ ?_ ?_ (Ext.refl _) ?_
  rotate_left 4
  · (simp only [List.getElem?_toArray, List.getElem?_cons_succ, List.getElem?_cons_zero] <;> rfl)
  · rfl
  · intro w'
    go_simp
    with_reducible rfl
  · intro w' _
    exact (pMap _ _ _)
  · simp only [Act.put, List.setIfInBounds_toArray, List.set_cons_zero, List.set_cons_succ]
    rfl
  refine run_pure (o := ?_) (v := ?_) (a' := ?_) ?_ ?_ ?_ ?_ ?_
  rotate_left 3
  · (simp only [List.getElem?_toArray, List.getElem?_cons_succ, List.getElem?_cons_zero] <;> rfl)
  · rfl
  · intro w'
    go_simp
    with_reducible rfl
  · simp only [Act.put, List.setIfInBounds_toArray, List.set_cons_zero, List.set_cons_succ]
    rfl
  refine run_read (o := ?_) (v := ?_) (a' := ?_) ?_ ?_ ?_ ?_ (Ext.refl _) ?_
  rotate_left 3
  · (simp only [List.getElem?_toArray, List.getElem?_cons_succ, List.getElem?_cons_zero] <;> rfl)
  · rfl
  · intro w' hw'
    obtain ⟨hc, hf⟩ := ext_cell hw'
    clear hw'
    go_simp
    with_reducible rfl
  · simp only [Act.put, List.setIfInBounds_toArray, List.set_cons_zero, List.set_cons_succ]
    rfl
  refine run_call (f := 27) (args := ?_) (o := ?_) (v := ?_) (a' := ?_) ?_ ?_ ?_ ?_ ?_ (Ext.refl _) ?_
  rotate_left 4
  · (simp only [List.getElem?_toArray, List.getElem?_cons_succ, List.getElem?_cons_zero] <;> rfl)
  · rfl
  · intro w'
    go_simp
    with_reducible rfl
  · intro w' _
    exact (aAt _ _ _ _)
  · simp only [Act.put, List.setIfInBounds_toArray, List.set_cons_zero, List.set_cons_succ]
    rfl
  refine run_pure (o := ?_) (v := ?_) (a' := ?_) ?_ ?_ ?_ ?_ ?_
  rotate_left 3
  · (simp only [List.getElem?_toArray, List.getElem?_cons_succ, List.getElem?_cons_zero] <;> rfl)
  · rfl
  · intro w'
    go_simp
    with_reducible rfl
  · simp only [Act.put, List.setIfInBounds_toArray, List.set_cons_zero, List.set_cons_succ]
    rfl
  refine run_read (o := ?_) (v := ?_) (a' := ?_) ?_ ?_ ?_ ?_ (Ext.refl _) ?_
  rotate_left 3
  · (simp only [List.getElem?_toArray, List.getElem?_cons_succ, List.getElem?_cons_zero] <;> rfl)
  · rfl
  · intro w' hw'
    obtain ⟨hc, hf⟩ := ext_cell hw'
    clear hw'
    go_simp
    with_reducible rfl
  · simp only [Act.put, List.setIfInBounds_toArray, List.set_cons_zero, List.set_cons_succ]
    rfl
  refine run_pure (o := ?_) (v := ?_) (a' := ?_) ?_ ?_ ?_ ?_ ?_
  rotate_left 3
  · (simp only [List.getElem?_toArray, List.getElem?_cons_succ, List.getElem?_cons_zero] <;> rfl)
  · rfl
  · intro w'
    go_simp
    with_reducible rfl
  · simp only [Act.put, List.setIfInBounds_toArray, List.set_cons_zero, List.set_cons_succ]
    rfl
  refine run_do (o := ?_) ?_ ?_ (fun p1 hx K hK => ?_)
  rotate_left
  · (simp only [List.getElem?_toArray, List.getElem?_cons_succ, List.getElem?_cons_zero] <;> rfl)
  · rfl
  have hc_p1 := (ext_cell hx).1
  have hf_p1 := (ext_cell hx).2
  have HX_p1 := Lib.hid hx
  have y_p1 := hx.size
  try simp at y_p1
  have z_p1_w_0 : w.heap.size < p1.heap.size := by omega
  have z_p1_w_1 : w.heap.size + 1 < p1.heap.size := by omega
  clear hx
  go_simp
  refine hK _ _ (fun h => absurd h (by decide)) ?_
  clear hK K
  refine run_nil (fun p2 hx => ?_)
  have hc_p2 := (ext_cell hx).1
  have hf_p2 := (ext_cell hx).2
  have HX_p2 := Lib.hid hx
  have y_p2 := hx.size
  try simp at y_p2
  have z_p2_w_0 : w.heap.size < p2.heap.size := by omega
  have z_p2_w_1 : w.heap.size + 1 < p2.heap.size := by omega
  clear hx
  go_wp2
  refine bodyPost_ret (v := ?_) ?_ rfl ⟨?_, ?_⟩
  rotate_left
  · simp only [results, Try.results16]
    go_simp
    with_reducible rfl
  · rfl
  · repeat (first | exact Ext.refl _ | refine Ext.alloc ?_ _ | (refine Ext.setCell ?_ (by simp <;> omega) _) | refine Ext.drew ?_ | refine Ext.trans ?_ HX_p1.out | refine Ext.trans ?_ HX_p2.out)
theorem pBack (s i : V) (w : World) : Calls Try.prog 26 #[.agg #[.int .u64 (hi s), .int .u64 (lo s), .int .u64 (hi i), .int .u64 (lo i)]] w fun e w' =>
    e = .returned (.agg #[.int .u64 (hi (oddI fac * s + -(oddI fac * i))), .int .u64 (lo (oddI fac * s + -(oddI fac * i))), .int .u64 (hi i), .int .u64 (lo i)]) ∧ Ext w w' := by
  go_enter Try.func26, Try.ntmps26
  go_wp2_with fail
  refine (pMap _ _ _).mono ?_
  rintro e w1 ⟨rfl, hx⟩
  have hc_w1 := (ext_cell hx).1
  have hf_w1 := (ext_cell hx).2
  have HX_w1 := Lib.hid hx
  have y_w1 := hx.size
  try simp at y_w1
  have z_w1_w_0 : w.heap.size < w1.heap.size := by omega
  have z_w1_w_1 : w.heap.size + 1 < w1.heap.size := by omega
  clear hx
  go_wp2_with fail
  refine (aInverse_odd _ _ (by decide) _).mono ?_
  rintro e w2 ⟨rfl, hx⟩
  have hc_w2 := (ext_cell hx).1
  have hf_w2 := (ext_cell hx).2
  have HX_w2 := Lib.hid hx
  have y_w2 := hx.size
  try simp at y_w2
  have z_w2_w_0 : w.heap.size < w2.heap.size := by omega
  have z_w2_w_1 : w.heap.size + 1 < w2.heap.size := by omega
  clear hx
  go_wp2_with fail
  try dsimp only
  repeat (first | with_reducible refine wp_region_ext ?_ [(0, 1), (1, 0), (2, 1), (3, 1), (4, 0), (5, 1), (6, 0), (7, 2)] (fun i => !(i == 7)) ?_ ?_ ?_ ?_ ?_ | go_step)
  · kernel_rfl
  · kernel_rfl
  · kernel_rfl
  · kernel_rfl
  · exact (fun _ _ d _ _ h => by cases d <;> exact h)
  refine run_read (o := ?_) (v := ?_) (a' := ?_) ?_ ?_ ?_ ?_ (Ext.refl _) ?_
  rotate_left 3
  · (simp only [List.getElem?_toArray, List.getElem?_cons_succ, List.getElem?_cons_zero] <;> rfl)
  · rfl
  · intro w' hw'
    obtain ⟨hc, hf⟩ := ext_cell hw'
    clear hw'
    go_simp
    with_reducible rfl
  · simp only [Act.put, List.setIfInBounds_toArray, List.set_cons_zero, List.set_cons_succ]
    rfl
  refine run_pure (o := ?_) (v := ?_) (a' := ?_) ?_ ?_ ?_ ?_ ?_
  rotate_left 3
  · (simp only [List.getElem?_toArray, List.getElem?_cons_succ, List.getElem?_cons_zero] <;> rfl)
  · rfl
  · intro w'
    go_simp
    with_reducible rfl
  · simp only [Act.put, List.setIfInBounds_toArray, List.set_cons_zero, List.set_cons_succ]
    rfl
  refine run_read (o := ?_) (v := ?_) (a' := ?_) ?_ ?_ ?_ ?_ (Ext.refl _) ?_
  rotate_left 3
  · (simp only [List.getElem?_toArray, List.getElem?_cons_succ, List.getElem?_cons_zero] <;> rfl)
  · rfl
  · intro w' hw'
    obtain ⟨hc, hf⟩ := ext_cell hw'
    clear hw'
    go_simp
    with_reducible rfl
  · simp only [Act.put, List.setIfInBounds_toArray, List.set_cons_zero, List.set_cons_succ]
    rfl
  refine run_call (f := 27) (args := ?_) (o := ?_) (v := ?_) (a' := ?_) ?_ ?_ ?_ ?_ ?_ (Ext.refl _) ?_
  rotate_left 4
  · (simp only [List.getElem?_toArray, List.getElem?_cons_succ, List.getElem?_cons_zero] <;> rfl)
  · rfl
  · intro w'
    go_simp
    with_reducible rfl
  · intro w' _
    exact (aAt _ _ _ _)
  · simp only [Act.put, List.setIfInBounds_toArray, List.set_cons_zero, List.set_cons_succ]
    rfl
  refine run_pure (o := ?_) (v := ?_) (a' := ?_) ?_ ?_ ?_ ?_ ?_
  rotate_left 3
  · (simp only [List.getElem?_toArray, List.getElem?_cons_succ, List.getElem?_cons_zero] <;> rfl)
  · rfl
  · intro w'
    go_simp
    with_reducible rfl
  · simp only [Act.put, List.setIfInBounds_toArray, List.set_cons_zero, List.set_cons_succ]
    rfl
  refine run_read (o := ?_) (v := ?_) (a' := ?_) ?_ ?_ ?_ ?_ (Ext.refl _) ?_
  rotate_left 3
  · (simp only [List.getElem?_toArray, List.getElem?_cons_succ, List.getElem?_cons_zero] <;> rfl)
  · rfl
  · intro w' hw'
    obtain ⟨hc, hf⟩ := ext_cell hw'
    clear hw'
    go_simp
    with_reducible rfl
  · simp only [Act.put, List.setIfInBounds_toArray, List.set_cons_zero, List.set_cons_succ]
    rfl
  refine run_pure (o := ?_) (v := ?_) (a' := ?_) ?_ ?_ ?_ ?_ ?_
  rotate_left 3
  · (simp only [List.getElem?_toArray, List.getElem?_cons_succ, List.getElem?_cons_zero] <;> rfl)
  · rfl
  · intro w'
    go_simp
    with_reducible rfl
  · simp only [Act.put, List.setIfInBounds_toArray, List.set_cons_zero, List.set_cons_succ]
    rfl
  refine run_do (o := ?_) ?_ ?_ (fun p1 hx K hK => ?_)
  rotate_left
  · (simp only [List.getElem?_toArray, List.getElem?_cons_succ, List.getElem?_cons_zero] <;> rfl)
  · rfl
  have hc_p1 := (ext_cell hx).1
  have hf_p1 := (ext_cell hx).2
  have HX_p1 := Lib.hid hx
  have y_p1 := hx.size
  try simp at y_p1
  have z_p1_w_0 : w.heap.size < p1.heap.size := by omega
  have z_p1_w_1 : w.heap.size + 1 < p1.heap.size := by omega
  have z_p1_w2_0 : w2.heap.size < p1.heap.size := by omega
  clear hx
  go_simp
  refine hK _ _ (fun h => absurd h (by decide)) ?_
  clear hK K
  refine run_nil (fun p2 hx => ?_)
  have hc_p2 := (ext_cell hx).1
  have hf_p2 := (ext_cell hx).2
  have HX_p2 := Lib.hid hx
  have y_p2 := hx.size
  try simp at y_p2
  have z_p2_w_0 : w.heap.size < p2.heap.size := by omega
  have z_p2_w_1 : w.heap.size + 1 < p2.heap.size := by omega
  have z_p2_w2_0 : w2.heap.size < p2.heap.size := by omega
  clear hx
  go_wp2
  refine bodyPost_ret (v := ?_) ?_ rfl ⟨?_, ?_⟩
  rotate_left
  · simp only [results, Try.results26]
    go_simp
    with_reducible rfl
  · rfl
  · repeat (first | exact Ext.refl _ | refine Ext.alloc ?_ _ | (refine Ext.setCell ?_ (by simp <;> omega) _) | refine Ext.drew ?_ | refine Ext.trans ?_ HX_p1.out | refine Ext.trans ?_ HX_p2.out | refine Ext.trans ?_ HX_w2.out | refine Ext.trans ?_ HX_w1.out)
theorem pJump_bad (s i n : V) (hi' : i.toNat % 2 = 0) (w : World) : Calls Try.prog 20 #[.agg #[.int .u64 (hi s), .int .u64 (lo s), .int .u64 (hi i), .int .u64 (lo i)], .agg #[.int .u64 (hi n), .int .u64 (lo n)]] w fun e w' =>
    e = .returned (.tuple #[.agg #[.int .u64 0, .int .u64 0, .int .u64 0, .int .u64 0], .int .i64 3]) ∧ Ext w w' := by
  have hb : decide (i.toNat % 2 = 1) = false := by simp [hi']
  go_enter Try.func20, Try.ntmps20
  go_wp2_with fail
  refine (pRight _ _ _).mono ?_
  rintro e w1 ⟨rfl, hx⟩
  rw [hb]
  have hc_w1 := (ext_cell hx).1
  have hf_w1 := (ext_cell hx).2
  have HX_w1 := Lib.hid hx
  have y_w1 := hx.size
  try simp at y_w1
  have z_w1_w_0 : w.heap.size < w1.heap.size := by omega
  have z_w1_w_1 : w.heap.size + 1 < w1.heap.size := by omega
  have z_w1_w_2 : w.heap.size + 2 < w1.heap.size := by omega
  clear hx
  go_wp2
  refine bodyPost_ret (v := ?_) ?_ rfl ⟨?_, ?_⟩
  rotate_left
  · simp only [results, Try.results20]
    go_simp
    with_reducible rfl
  · rfl
  · repeat (first | exact Ext.refl _ | refine Ext.alloc ?_ _ | (refine Ext.setCell ?_ (by simp <;> omega) _) | refine Ext.drew ?_ | refine Ext.trans ?_ HX_w1.out)
theorem pJump_ok (s i n : V) (hi' : i.toNat % 2 = 1) (w : World) : Calls Try.prog 20 #[.agg #[.int .u64 (hi s), .int .u64 (lo s), .int .u64 (hi i), .int .u64 (lo i)], .agg #[.int .u64 (hi n), .int .u64 (lo n)]] w fun e w' =>
    e = .returned (.tuple #[.agg #[.int .u64 (hi (atM (powM (fac, i) n.toNat) s)), .int .u64 (lo (atM (powM (fac, i) n.toNat) s)), .int .u64 (hi i), .int .u64 (lo i)], .int .i64 0]) ∧ Ext w w' := by
  have hb : decide (i.toNat % 2 = 1) = true := by simp [hi']
  have e1 : atM (powM (fac, i) n.toNat) s = (powM (fac, i) n.toNat).1 * s + (powM (fac, i) n.toNat).2 := rfl
  have E1 := Lib.hid e1; clear e1
  go_enter Try.func20, Try.ntmps20
  go_wp2_with fail
  refine (pRight _ _ _).mono ?_
  rintro e w1 ⟨rfl, hx⟩
  rw [hb]
  have hc_w1 := (ext_cell hx).1
  have hf_w1 := (ext_cell hx).2
  have HX_w1 := Lib.hid hx
  have y_w1 := hx.size
  try simp at y_w1
  have z_w1_w_0 : w.heap.size < w1.heap.size := by omega
  have z_w1_w_1 : w.heap.size + 1 < w1.heap.size := by omega
  have z_w1_w_2 : w.heap.size + 2 < w1.heap.size := by omega
  clear hx
  clear hb
  go_wp2_with fail
  try dsimp only
  repeat (first | with_reducible refine wp_region_ext ?_ [(0, 1), (1, 1), (2, 1), (3, 1), (4, 0), (5, 1), (6, 1), (7, 0), (8, 1), (9, 0), (10, 2), (11, 0)] (fun i => !(i == 10)) ?_ ?_ ?_ ?_ ?_ | go_step)
  · kernel_rfl
  · kernel_rfl
  · kernel_rfl
  · kernel_rfl
  · exact (fun _ _ d _ _ h => by cases d <;> exact h)
  refine run_read (o := ?_) (v := ?_) (a' := ?_) ?_ ?_ ?_ ?_ (Ext.refl _) ?_
  rotate_left 3
  · (simp only [List.getElem?_toArray, List.getElem?_cons_succ, List.getElem?_cons_zero] <;> rfl)
  · rfl
  · intro w' hw'
    obtain ⟨hc, hf⟩ := ext_cell hw'
    clear hw'
    go_simp
    with_reducible rfl
  · simp only [Act.put, List.setIfInBounds_toArray, List.set_cons_zero, List.set_cons_succ]
    rfl
  refine run_call (f := 28) (args := ?_) (o := ?_) (v := ?_) (a' := ?_) ?_ ?_ ?_ ?_ ?_ (Ext.refl _) ?_
  rotate_left 4
  · (simp only [List.getElem?_toArray, List.getElem?_cons_succ, List.getElem?_cons_zero] <;> rfl)
  · rfl
  · intro w'
    go_simp
    with_reducible rfl
  · intro w' _
    exact (pMap _ _ _)
  · simp only [Act.put, List.setIfInBounds_toArray, List.set_cons_zero, List.set_cons_succ]
    rfl
  refine run_read (o := ?_) (v := ?_) (a' := ?_) ?_ ?_ ?_ ?_ (Ext.refl _) ?_
  rotate_left 3
  · (simp only [List.getElem?_toArray, List.getElem?_cons_succ, List.getElem?_cons_zero] <;> rfl)
  · rfl
  · intro w' hw'
    obtain ⟨hc, hf⟩ := ext_cell hw'
    clear hw'
    go_simp
    with_reducible rfl
  · simp only [Act.put, List.setIfInBounds_toArray, List.set_cons_zero, List.set_cons_succ]
    rfl
  refine run_call (f := 54) (args := ?_) (o := ?_) (v := ?_) (a' := ?_) ?_ ?_ ?_ ?_ ?_ (Ext.refl _) ?_
  rotate_left 4
  · (simp only [List.getElem?_toArray, List.getElem?_cons_succ, List.getElem?_cons_zero] <;> rfl)
  · rfl
  · intro w'
    go_simp
    with_reducible rfl
  · intro w' _
    exact (aPower _ _ _ _)
  · simp only [Act.put, List.setIfInBounds_toArray, List.set_cons_zero, List.set_cons_succ]
    rfl
  refine run_pure (o := ?_) (v := ?_) (a' := ?_) ?_ ?_ ?_ ?_ ?_
  rotate_left 3
  · (simp only [List.getElem?_toArray, List.getElem?_cons_succ, List.getElem?_cons_zero] <;> rfl)
  · rfl
  · intro w'
    go_simp
    with_reducible rfl
  · simp only [Act.put, List.setIfInBounds_toArray, List.set_cons_zero, List.set_cons_succ]
    rfl
  refine run_read (o := ?_) (v := ?_) (a' := ?_) ?_ ?_ ?_ ?_ (Ext.refl _) ?_
  rotate_left 3
  · (simp only [List.getElem?_toArray, List.getElem?_cons_succ, List.getElem?_cons_zero] <;> rfl)
  · rfl
  · intro w' hw'
    obtain ⟨hc, hf⟩ := ext_cell hw'
    clear hw'
    go_simp
    with_reducible rfl
  · simp only [Act.put, List.setIfInBounds_toArray, List.set_cons_zero, List.set_cons_succ]
    rfl
  refine run_call (f := 27) (args := ?_) (o := ?_) (v := ?_) (a' := ?_) ?_ ?_ ?_ ?_ ?_ (Ext.refl _) ?_
  rotate_left 4
  · (simp only [List.getElem?_toArray, List.getElem?_cons_succ, List.getElem?_cons_zero] <;> rfl)
  · rfl
  · intro w'
    go_simp
    with_reducible rfl
  · intro w' _
    exact (aAt _ _ _ _)
  · simp only [Act.put, List.setIfInBounds_toArray, List.set_cons_zero, List.set_cons_succ]
    rfl
  refine run_pure (o := ?_) (v := ?_) (a' := ?_) ?_ ?_ ?_ ?_ ?_
  rotate_left 3
  · (simp only [List.getElem?_toArray, List.getElem?_cons_succ, List.getElem?_cons_zero] <;> rfl)
  · rfl
  · intro w'
    go_simp
    with_reducible rfl
  · simp only [Act.put, List.setIfInBounds_toArray, List.set_cons_zero, List.set_cons_succ]
    rfl
  refine run_read (o := ?_) (v := ?_) (a' := ?_) ?_ ?_ ?_ ?_ (Ext.refl _) ?_
  rotate_left 3
  · (simp only [List.getElem?_toArray, List.getElem?_cons_succ, List.getElem?_cons_zero] <;> rfl)
  · rfl
  · intro w' hw'
    obtain ⟨hc, hf⟩ := ext_cell hw'
    clear hw'
    go_simp
    with_reducible rfl
  · simp only [Act.put, List.setIfInBounds_toArray, List.set_cons_zero, List.set_cons_succ]
    rfl
  refine run_pure (o := ?_) (v := ?_) (a' := ?_) ?_ ?_ ?_ ?_ ?_
  rotate_left 3
  · (simp only [List.getElem?_toArray, List.getElem?_cons_succ, List.getElem?_cons_zero] <;> rfl)
  · rfl
  · intro w'
    go_simp
    with_reducible rfl
  · simp only [Act.put, List.setIfInBounds_toArray, List.set_cons_zero, List.set_cons_succ]
    rfl
  refine run_do (o := ?_) ?_ ?_ (fun p1 hx K hK => ?_)
  rotate_left
  · (simp only [List.getElem?_toArray, List.getElem?_cons_succ, List.getElem?_cons_zero] <;> rfl)
  · rfl
  have hc_p1 := (ext_cell hx).1
  have hf_p1 := (ext_cell hx).2
  have HX_p1 := Lib.hid hx
  have y_p1 := hx.size
  try simp at y_p1
  have z_p1_w_0 : w.heap.size < p1.heap.size := by omega
  have z_p1_w_1 : w.heap.size + 1 < p1.heap.size := by omega
  have z_p1_w_2 : w.heap.size + 2 < p1.heap.size := by omega
  clear hx
  go_simp
  refine hK _ _ (fun h => absurd h (by decide)) ?_
  clear hK K
  refine run_pure (o := ?_) (v := ?_) (a' := ?_) ?_ ?_ ?_ ?_ ?_
  rotate_left 3
  · (simp only [List.getElem?_toArray, List.getElem?_cons_succ, List.getElem?_cons_zero] <;> rfl)
  · rfl
  · intro w'
    go_simp
    with_reducible rfl
  · simp only [Act.put, List.setIfInBounds_toArray, List.set_cons_zero, List.set_cons_succ]
    rfl
  refine run_nil (fun p2 hx => ?_)
  have hc_p2 := (ext_cell hx).1
  have hf_p2 := (ext_cell hx).2
  have HX_p2 := Lib.hid hx
  have y_p2 := hx.size
  try simp at y_p2
  have z_p2_w_0 : w.heap.size < p2.heap.size := by omega
  have z_p2_w_1 : w.heap.size + 1 < p2.heap.size := by omega
  have z_p2_w_2 : w.heap.size + 2 < p2.heap.size := by omega
  clear hx
  go_wp2
  refine bodyPost_ret (v := ?_) ?_ rfl ⟨?_, ?_⟩
  rotate_left
  · simp only [results, Try.results20]
    go_simp
    with_reducible rfl
  · rw [E1.out]
  · repeat (first | exact Ext.refl _ | refine Ext.alloc ?_ _ | (refine Ext.setCell ?_ (by simp <;> omega) _) | refine Ext.drew ?_ | refine Ext.trans ?_ HX_p1.out | refine Ext.trans ?_ HX_p2.out | refine Ext.trans ?_ HX_w1.out)
end Go.Proofs.Ytjjapblpmpidcab
