import Derived.Test.YtjjapblpmpidcaaW1
import Derived.Test.YtjjapblpmpidcaaA
set_option linter.unusedVariables false
set_option linter.unusedSimpArgs false
namespace Go.Proofs.Ytjjapblpmpidcaa
open Go.RowKit Num UReg

/-! ### package wide, over numbers -/
theorem wAdd (a b : V) (w : World) : Calls Try.prog 40 #[.agg #[.int .u64 (hi a), .int .u64 (lo a)], .agg #[.int .u64 (hi b), .int .u64 (lo b)]] w fun e w' =>
    e = .returned (.tuple #[.agg #[.int .u64 (hi (a + b)), .int .u64 (lo (a + b))], .bool (over a b)]) ∧ Ext w w' := by
  have h := wide_Add (hi a) (lo a) (hi b) (lo b) (word_hi a) (word_lo a) (word_hi b) (word_lo b) w
  rwa [mk_hi_lo, mk_hi_lo] at h
theorem wSub (a b : V) (w : World) : Calls Try.prog 65 #[.agg #[.int .u64 (hi a), .int .u64 (lo a)], .agg #[.int .u64 (hi b), .int .u64 (lo b)]] w fun e w' =>
    e = .returned (.tuple #[.agg #[.int .u64 (hi (a - b)), .int .u64 (lo (a - b))], .bool (less a b)]) ∧ Ext w w' := by
  have h := wide_Sub (hi a) (lo a) (hi b) (lo b) (word_hi a) (word_lo a) (word_hi b) (word_lo b) w
  rwa [mk_hi_lo, mk_hi_lo] at h
theorem wMul (a b : V) (w : World) : Calls Try.prog 44 #[.agg #[.int .u64 (hi a), .int .u64 (lo a)], .agg #[.int .u64 (hi b), .int .u64 (lo b)]] w fun e w' =>
    e = .returned (.agg #[.int .u64 (hi (a * b)), .int .u64 (lo (a * b))]) ∧ Ext w w' := by
  have h := wide_Mul (hi a) (lo a) (hi b) (lo b) (word_hi a) (word_lo a) (word_hi b) (word_lo b) w
  rwa [mk_hi_lo, mk_hi_lo] at h
theorem wRight (a : V) (n : Int) (w : World) : Calls Try.prog 72 #[.agg #[.int .u64 (hi a), .int .u64 (lo a)], .int .i64 n] w fun e w' =>
    e = .returned (.agg #[.int .u64 (hi (shr a n)), .int .u64 (lo (shr a n))]) ∧ Ext w w' := by
  have h := wide_Right (hi a) (lo a) n (word_hi a) (word_lo a) w
  rwa [mk_hi_lo] at h
theorem wBit (a : V) (n : Int) (w : World) : Calls Try.prog 43 #[.agg #[.int .u64 (hi a), .int .u64 (lo a)], .int .i64 n] w fun e w' =>
    e = .returned (.int .i64 (bit a n)) ∧ Ext w w' := by
  have h := wide_Bit (hi a) (lo a) n (word_hi a) (word_lo a) w
  rwa [mk_hi_lo] at h

/-! ### package affine: a map is A and C -/
theorem aAt (a c x : V) (w : World) : Calls Try.prog 34 #[.agg #[.int .u64 (hi a), .int .u64 (lo a), .int .u64 (hi c), .int .u64 (lo c)], .agg #[.int .u64 (hi x), .int .u64 (lo x)]] w fun e w' =>
    e = .returned (.agg #[.int .u64 (hi (a * x + c)), .int .u64 (lo (a * x + c))]) ∧ Ext w w' := by
  go_enter Try.func34, Try.ntmps34
  go_wp2_with fail
  try dsimp only
  repeat (first | with_reducible refine wp_region_ext ?_ [(0, 0), (1, 1), (2, 1), (3, 1), (4, 0), (5, 1), (6, 1), (7, 0), (8, 0), (9, 0), (10, 2), (11, 2), (12, 0)] (fun _ => true) ?_ ?_ ?_ ?_ ?_ | go_step)
  · kernel_rfl
  · kernel_rfl
  · kernel_rfl
  · kernel_rfl
  · exact (fun _ _ d _ _ h => by cases d <;> exact h)
  refine run_pure (o := ?_) (v := ?_) (a' := ?_) ?_ ?_ ?_ ?_ ?_
  rotate_left 3
  · (simp only [List.getElem?_toArray, List.getElem?_cons_succ, List.getElem?_cons_zero] <;> rfl)
  · rfl
  · intro w'
    go_simp
    with_reducible rfl
  · simp only [Act.put, List.setIfInBounds_toArray, List.set_cons_zero, List.set_cons_succ]
    rfl
  refine run_read (o := ?_) (v := ?_) (a' := ?_) ?_ ?_ ?_ ?_ (Ext.refl _) ?_
  rotate_left 3
  · (simp only [List.getElem?_toArray, List.getElem?_cons_succ, List.getElem?_cons_zero] <;> rfl)
  · rfl
  · intro w' hw'
    obtain ⟨hc, hf⟩ := ext_cell hw'
    clear hw'
    go_simp
    with_reducible rfl
  · simp only [Act.put, List.setIfInBounds_toArray, List.set_cons_zero, List.set_cons_succ]
    rfl
  refine run_read (o := ?_) (v := ?_) (a' := ?_) ?_ ?_ ?_ ?_ (Ext.refl _) ?_
  rotate_left 3
  · (simp only [List.getElem?_toArray, List.getElem?_cons_succ, List.getElem?_cons_zero] <;> rfl)
  · rfl
  · intro w' hw'
    obtain ⟨hc, hf⟩ := ext_cell hw'
    clear hw'
    go_simp
    with_reducible rfl
  · simp only [Act.put, List.setIfInBounds_toArray, List.set_cons_zero, List.set_cons_succ]
    rfl
  refine run_call (f := 44) (args := ?_) (o := ?_) (v := ?_) (a' := ?_) ?_ ?_ ?_ ?_ ?_ (Ext.refl _) ?_
  rotate_left 4
  · (simp only [List.getElem?_toArray, List.getElem?_cons_succ, List.getElem?_cons_zero] <;> rfl)
  · rfl
  · intro w'
    go_simp
    with_reducible rfl
  · intro w' hw'
    exact (wMul _ _ _)
  · simp only [Act.put, List.setIfInBounds_toArray, List.set_cons_zero, List.set_cons_succ]
    rfl
  refine run_pure (o := ?_) (v := ?_) (a' := ?_) ?_ ?_ ?_ ?_ ?_
  rotate_left 3
  · (simp only [List.getElem?_toArray, List.getElem?_cons_succ, List.getElem?_cons_zero] <;> rfl)
  · rfl
  · intro w'
    go_simp
    with_reducible rfl
  · simp only [Act.put, List.setIfInBounds_toArray, List.set_cons_zero, List.set_cons_succ]
    rfl
  refine run_read (o := ?_) (v := ?_) (a' := ?_) ?_ ?_ ?_ ?_ (Ext.refl _) ?_
  rotate_left 3
  · (simp only [List.getElem?_toArray, List.getElem?_cons_succ, List.getElem?_cons_zero] <;> rfl)
  · rfl
  · intro w' hw'
    obtain ⟨hc, hf⟩ := ext_cell hw'
    clear hw'
    go_simp
    with_reducible rfl
  · simp only [Act.put, List.setIfInBounds_toArray, List.set_cons_zero, List.set_cons_succ]
    rfl
  refine run_call (f := 40) (args := ?_) (o := ?_) (v := ?_) (a' := ?_) ?_ ?_ ?_ ?_ ?_ (Ext.refl _) ?_
  rotate_left 4
  · (simp only [List.getElem?_toArray, List.getElem?_cons_succ, List.getElem?_cons_zero] <;> rfl)
  · rfl
  · intro w'
    go_simp
    with_reducible rfl
  · intro w' hw'
    exact (wAdd _ _ _)
  · simp only [Act.put, List.setIfInBounds_toArray, List.set_cons_zero, List.set_cons_succ]
    rfl
  refine run_pure (o := ?_) (v := ?_) (a' := ?_) ?_ ?_ ?_ ?_ ?_
  rotate_left 3
  · (simp only [List.getElem?_toArray, List.getElem?_cons_succ, List.getElem?_cons_zero] <;> rfl)
  · rfl
  · intro w'
    go_simp
    with_reducible rfl
  · simp only [Act.put, List.setIfInBounds_toArray, List.set_cons_zero, List.set_cons_succ]
    rfl
  refine run_pure (o := ?_) (v := ?_) (a' := ?_) ?_ ?_ ?_ ?_ ?_
  rotate_left 3
  · (simp only [List.getElem?_toArray, List.getElem?_cons_succ, List.getElem?_cons_zero] <;> rfl)
  · rfl
  · intro w'
    go_simp
    with_reducible rfl
  · simp only [Act.put, List.setIfInBounds_toArray, List.set_cons_zero, List.set_cons_succ]
    rfl
  refine run_pure (o := ?_) (v := ?_) (a' := ?_) ?_ ?_ ?_ ?_ ?_
  rotate_left 3
  · (simp only [List.getElem?_toArray, List.getElem?_cons_succ, List.getElem?_cons_zero] <;> rfl)
  · rfl
  · intro w'
    go_simp
    with_reducible rfl
  · simp only [Act.put, List.setIfInBounds_toArray, List.set_cons_zero, List.set_cons_succ]
    rfl
  refine run_do (o := ?_) ?_ ?_ (fun p1 hx K hK => ?_)
  rotate_left
  · (simp only [List.getElem?_toArray, List.getElem?_cons_succ, List.getElem?_cons_zero] <;> rfl)
  · rfl
  have hc_p1 := (ext_cell hx).1
  have hf_p1 := (ext_cell hx).2
  have HX_p1 := Lib.hid hx
  have y_p1 := hx.size
  try simp at y_p1
  have z_p1_w_0 : w.heap.size < p1.heap.size := by omega
  have z_p1_w_1 : w.heap.size + 1 < p1.heap.size := by omega
  have z_p1_w_2 : w.heap.size + 2 < p1.heap.size := by omega
  clear hx
  go_simp
  refine hK _ _ (fun _ hs => hs.alloc _) ?_
  clear hK K
  try simp only [Act.put, List.setIfInBounds_toArray, List.set_cons_zero, List.set_cons_succ]
  refine run_do (o := ?_) ?_ ?_ (fun p2 hx K hK => ?_)
  rotate_left
  · (simp only [List.getElem?_toArray, List.getElem?_cons_succ, List.getElem?_cons_zero] <;> rfl)
  · rfl
  have hc_p2 := (ext_cell hx).1
  have hf_p2 := (ext_cell hx).2
  have HX_p2 := Lib.hid hx
  have y_p2 := hx.size
  try simp at y_p2
  have z_p2_w_0 : w.heap.size < p2.heap.size := by omega
  have z_p2_w_1 : w.heap.size + 1 < p2.heap.size := by omega
  have z_p2_w_2 : w.heap.size + 2 < p2.heap.size := by omega
  have z_p2_p1_0 : p1.heap.size < p2.heap.size := by omega
  clear hx
  go_simp
  refine hK _ _ (fun _ hs => ?_) ?_
  · repeat (first | exact hs | (refine Ext.setCell ?_ (by simp <;> omega) _))
  clear hK K
  refine run_pure (o := ?_) (v := ?_) (a' := ?_) ?_ ?_ ?_ ?_ ?_
  rotate_left 3
  · (simp only [List.getElem?_toArray, List.getElem?_cons_succ, List.getElem?_cons_zero] <;> rfl)
  · rfl
  · intro w'
    go_simp
    with_reducible rfl
  · simp only [Act.put, List.setIfInBounds_toArray, List.set_cons_zero, List.set_cons_succ]
    rfl
  refine run_nil (fun p3 hx => ?_)
  have hc_p3 := (ext_cell hx).1
  have hf_p3 := (ext_cell hx).2
  have HX_p3 := Lib.hid hx
  have y_p3 := hx.size
  try simp at y_p3
  have z_p3_w_0 : w.heap.size < p3.heap.size := by omega
  have z_p3_w_1 : w.heap.size + 1 < p3.heap.size := by omega
  have z_p3_w_2 : w.heap.size + 2 < p3.heap.size := by omega
  have z_p3_p1_0 : p1.heap.size < p3.heap.size := by omega
  clear hx
  go_wp2
  refine bodyPost_ret (v := ?_) ?_ rfl ⟨?_, ?_⟩
  rotate_left
  · simp only [results, Try.results34]
    go_simp
    with_reducible rfl
  · rfl
  · repeat (first | with_reducible exact Ext.refl _ | with_reducible refine Ext.alloc ?_ _ | (with_reducible refine Ext.setCell ?_ (by simp <;> omega) _) | with_reducible refine Ext.drew ?_ | with_reducible refine Ext.trans ?_ HX_p1.out | with_reducible refine Ext.trans ?_ HX_p2.out | with_reducible refine Ext.trans ?_ HX_p3.out)
theorem aThen (a c b d : V) (w : World) : Calls Try.prog 36 #[.agg #[.int .u64 (hi a), .int .u64 (lo a), .int .u64 (hi c), .int .u64 (lo c)], .agg #[.int .u64 (hi b), .int .u64 (lo b), .int .u64 (hi d), .int .u64 (lo d)]] w fun e w' =>
    e = .returned (.agg #[.int .u64 (hi (b * a)), .int .u64 (lo (b * a)), .int .u64 (hi (b * c + d)), .int .u64 (lo (b * c + d))]) ∧ Ext w w' := by
  go_enter Try.func36, Try.ntmps36
  go_wp2_with fail
  try dsimp only
  repeat (first | with_reducible refine wp_region_ext ?_ [(0, 0), (1, 1), (2, 0), (3, 1), (4, 1), (5, 1), (6, 0), (7, 1), (8, 1), (9, 0), (10, 2)] (fun i => !(i == 10)) ?_ ?_ ?_ ?_ ?_ | go_step)
  · kernel_rfl
  · kernel_rfl
  · kernel_rfl
  · kernel_rfl
  · exact (fun _ _ d _ _ h => by cases d <;> exact h)
  refine run_pure (o := ?_) (v := ?_) (a' := ?_) ?_ ?_ ?_ ?_ ?_
  rotate_left 3
  · (simp only [List.getElem?_toArray, List.getElem?_cons_succ, List.getElem?_cons_zero] <;> rfl)
  · rfl
  · intro w'
    go_simp
    with_reducible rfl
  · simp only [Act.put, List.setIfInBounds_toArray, List.set_cons_zero, List.set_cons_succ]
    rfl
  refine run_read (o := ?_) (v := ?_) (a' := ?_) ?_ ?_ ?_ ?_ (Ext.refl _) ?_
  rotate_left 3
  · (simp only [List.getElem?_toArray, List.getElem?_cons_succ, List.getElem?_cons_zero] <;> rfl)
  · rfl
  · intro w' hw'
    obtain ⟨hc, hf⟩ := ext_cell hw'
    clear hw'
    go_simp
    with_reducible rfl
  · simp only [Act.put, List.setIfInBounds_toArray, List.set_cons_zero, List.set_cons_succ]
    rfl
  refine run_pure (o := ?_) (v := ?_) (a' := ?_) ?_ ?_ ?_ ?_ ?_
  rotate_left 3
  · (simp only [List.getElem?_toArray, List.getElem?_cons_succ, List.getElem?_cons_zero] <;> rfl)
  · rfl
  · intro w'
    go_simp
    with_reducible rfl
  · simp only [Act.put, List.setIfInBounds_toArray, List.set_cons_zero, List.set_cons_succ]
    rfl
  refine run_read (o := ?_) (v := ?_) (a' := ?_) ?_ ?_ ?_ ?_ (Ext.refl _) ?_
  rotate_left 3
  · (simp only [List.getElem?_toArray, List.getElem?_cons_succ, List.getElem?_cons_zero] <;> rfl)
  · rfl
  · intro w' hw'
    obtain ⟨hc, hf⟩ := ext_cell hw'
    clear hw'
    go_simp
    with_reducible rfl
  · simp only [Act.put, List.setIfInBounds_toArray, List.set_cons_zero, List.set_cons_succ]
    rfl
  refine run_call (f := 44) (args := ?_) (o := ?_) (v := ?_) (a' := ?_) ?_ ?_ ?_ ?_ ?_ (Ext.refl _) ?_
  rotate_left 4
  · (simp only [List.getElem?_toArray, List.getElem?_cons_succ, List.getElem?_cons_zero] <;> rfl)
  · rfl
  · intro w'
    go_simp
    with_reducible rfl
  · intro w' hw'
    exact (wMul _ _ _)
  · simp only [Act.put, List.setIfInBounds_toArray, List.set_cons_zero, List.set_cons_succ]
    rfl
  refine run_read (o := ?_) (v := ?_) (a' := ?_) ?_ ?_ ?_ ?_ (Ext.refl _) ?_
  rotate_left 3
  · (simp only [List.getElem?_toArray, List.getElem?_cons_succ, List.getElem?_cons_zero] <;> rfl)
  · rfl
  · intro w' hw'
    obtain ⟨hc, hf⟩ := ext_cell hw'
    clear hw'
    go_simp
    with_reducible rfl
  · simp only [Act.put, List.setIfInBounds_toArray, List.set_cons_zero, List.set_cons_succ]
    rfl
  refine run_pure (o := ?_) (v := ?_) (a' := ?_) ?_ ?_ ?_ ?_ ?_
  rotate_left 3
  · (simp only [List.getElem?_toArray, List.getElem?_cons_succ, List.getElem?_cons_zero] <;> rfl)
  · rfl
  · intro w'
    go_simp
    with_reducible rfl
  · simp only [Act.put, List.setIfInBounds_toArray, List.set_cons_zero, List.set_cons_succ]
    rfl
  refine run_read (o := ?_) (v := ?_) (a' := ?_) ?_ ?_ ?_ ?_ (Ext.refl _) ?_
  rotate_left 3
  · (simp only [List.getElem?_toArray, List.getElem?_cons_succ, List.getElem?_cons_zero] <;> rfl)
  · rfl
  · intro w' hw'
    obtain ⟨hc, hf⟩ := ext_cell hw'
    clear hw'
    go_simp
    with_reducible rfl
  · simp only [Act.put, List.setIfInBounds_toArray, List.set_cons_zero, List.set_cons_succ]
    rfl
  refine run_call (f := 34) (args := ?_) (o := ?_) (v := ?_) (a' := ?_) ?_ ?_ ?_ ?_ ?_ (Ext.refl _) ?_
  rotate_left 4
  · (simp only [List.getElem?_toArray, List.getElem?_cons_succ, List.getElem?_cons_zero] <;> rfl)
  · rfl
  · intro w'
    go_simp
    with_reducible rfl
  · intro w' hw'
    exact (aAt _ _ _ _)
  · simp only [Act.put, List.setIfInBounds_toArray, List.set_cons_zero, List.set_cons_succ]
    rfl
  refine run_pure (o := ?_) (v := ?_) (a' := ?_) ?_ ?_ ?_ ?_ ?_
  rotate_left 3
  · (simp only [List.getElem?_toArray, List.getElem?_cons_succ, List.getElem?_cons_zero] <;> rfl)
  · rfl
  · intro w'
    go_simp
    with_reducible rfl
  · simp only [Act.put, List.setIfInBounds_toArray, List.set_cons_zero, List.set_cons_succ]
    rfl
  refine run_do (o := ?_) ?_ ?_ (fun p1 hx K hK => ?_)
  rotate_left
  · (simp only [List.getElem?_toArray, List.getElem?_cons_succ, List.getElem?_cons_zero] <;> rfl)
  · rfl
  have hc_p1 := (ext_cell hx).1
  have hf_p1 := (ext_cell hx).2
  have HX_p1 := Lib.hid hx
  have y_p1 := hx.size
  try simp at y_p1
  have z_p1_w_0 : w.heap.size < p1.heap.size := by omega
  have z_p1_w_1 : w.heap.size + 1 < p1.heap.size := by omega
  have z_p1_w_2 : w.heap.size + 2 < p1.heap.size := by omega
  clear hx
  go_simp
  refine hK _ _ (fun h => absurd h (by decide)) ?_
  clear hK K
  refine run_nil (fun p2 hx => ?_)
  have hc_p2 := (ext_cell hx).1
  have hf_p2 := (ext_cell hx).2
  have HX_p2 := Lib.hid hx
  have y_p2 := hx.size
  try simp at y_p2
  have z_p2_w_0 : w.heap.size < p2.heap.size := by omega
  have z_p2_w_1 : w.heap.size + 1 < p2.heap.size := by omega
  have z_p2_w_2 : w.heap.size + 2 < p2.heap.size := by omega
  clear hx
  go_wp2
  refine bodyPost_ret (v := ?_) ?_ rfl ⟨?_, ?_⟩
  rotate_left
  · simp only [results, Try.results36]
    go_simp
    with_reducible rfl
  · rfl
  · repeat (first | with_reducible exact Ext.refl _ | with_reducible refine Ext.alloc ?_ _ | (with_reducible refine Ext.setCell ?_ (by simp <;> omega) _) | with_reducible refine Ext.drew ?_ | with_reducible refine Ext.trans ?_ HX_p1.out | with_reducible refine Ext.trans ?_ HX_p2.out)
theorem wOf (n : Int) (hn : Word n) (w : World) :
    Calls Try.prog 42 #[.int .u64 n] w fun e w' => e = .returned (.agg #[.int .u64 (hi (of n)), .int .u64 (lo (of n))]) ∧ Ext w w' := wide_Of n hn w
theorem aOne (w : World) : Calls Try.prog 39 #[] w fun e w' =>
    e = .returned (.agg #[.int .u64 (hi 1#128), .int .u64 (lo 1#128), .int .u64 (hi 0#128), .int .u64 (lo 0#128)]) ∧ Ext w w' := by
  go_enter Try.func39, Try.ntmps39
  go_wp2_with fail
  refine (wOf 1 (by unfold Word; omega) _).mono ?_
  rintro e w1 ⟨rfl, hx⟩
  have hc_w1 := (ext_cell hx).1
  have hf_w1 := (ext_cell hx).2
  have HX_w1 := Lib.hid hx
  have y_w1 := hx.size
  try simp at y_w1
  have z_w1_w_0 : w.heap.size < w1.heap.size := by omega
  clear hx
  go_wp2
  refine bodyPost_ret (v := ?_) ?_ rfl ⟨?_, ?_⟩
  rotate_left
  · simp only [results, Try.results39]
    go_simp
    with_reducible rfl
  · rw [hi_zero, lo_zero, show of 1 = 1#128 by rfl]
  · repeat (first | with_reducible exact Ext.refl _ | with_reducible refine Ext.alloc ?_ _ | (with_reducible refine Ext.setCell ?_ (by simp <;> omega) _) | with_reducible refine Ext.drew ?_ | with_reducible refine Ext.trans ?_ HX_w1.out)
theorem aNegative (n : V) (w : World) : Calls Try.prog 70 #[.agg #[.int .u64 (hi n), .int .u64 (lo n)]] w fun e w' =>
    e = .returned (.agg #[.int .u64 (hi (-n)), .int .u64 (lo (-n))]) ∧ Ext w w' := by
  go_enter Try.func70, Try.ntmps70
  go_wp2_with fail
  have hs := wSub 0#128 n
  rw [hi_zero, lo_zero] at hs
  refine (hs _).mono ?_
  clear hs
  rintro e w1 ⟨rfl, hx⟩
  have hc_w1 := (ext_cell hx).1
  have hf_w1 := (ext_cell hx).2
  have HX_w1 := Lib.hid hx
  have y_w1 := hx.size
  try simp at y_w1
  have z_w1_w_0 : w.heap.size < w1.heap.size := by omega
  have z_w1_w_1 : w.heap.size + 1 < w1.heap.size := by omega
  clear hx
  go_wp2
  refine bodyPost_ret (v := ?_) ?_ rfl ⟨?_, ?_⟩
  rotate_left
  · simp only [results, Try.results70]
    go_simp
    with_reducible rfl
  · rfl
  · repeat (first | with_reducible exact Ext.refl _ | with_reducible refine Ext.alloc ?_ _ | (with_reducible refine Ext.setCell ?_ (by simp <;> omega) _) | with_reducible refine Ext.drew ?_ | with_reducible refine Ext.trans ?_ HX_w1.out)

/-- affine.Odd of an even number. -/
theorem aOdd_even (n : V) (hn : n.toNat % 2 = 0) (w : World) : Calls Try.prog 29 #[.agg #[.int .u64 (hi n), .int .u64 (lo n)]] w fun e w' =>
    e = .returned (.tuple #[.agg #[.int .u64 0, .int .u64 0], .int .i64 1]) ∧ Ext w w' := by
  have hb : bit n 0 = 0 := by rw [bit0, hn]; rfl
  go_enter Try.func29, Try.ntmps29
  go_wp2_with fail
  refine (wBit _ _ _).mono ?_
  rintro e w1 ⟨rfl, hx⟩
  rw [hb]
  have hc_w1 := (ext_cell hx).1
  have hf_w1 := (ext_cell hx).2
  have HX_w1 := Lib.hid hx
  have y_w1 := hx.size
  try simp at y_w1
  have z_w1_w_0 : w.heap.size < w1.heap.size := by omega
  have z_w1_w_1 : w.heap.size + 1 < w1.heap.size := by omega
  clear hx
  go_wp2
  refine bodyPost_ret (v := ?_) ?_ rfl ⟨?_, ?_⟩
  rotate_left
  · simp only [results, Try.results29]
    go_simp
    with_reducible rfl
  · rfl
  · repeat (first | with_reducible exact Ext.refl _ | with_reducible refine Ext.alloc ?_ _ | (with_reducible refine Ext.setCell ?_ (by simp <;> omega) _) | with_reducible refine Ext.drew ?_ | with_reducible refine Ext.trans ?_ HX_w1.out)

set_option maxHeartbeats 1000000 in
/-- affine.Odd of an odd number. -/
theorem aOdd_odd (n : V) (hn : n.toNat % 2 = 1) (w : World) : Calls Try.prog 29 #[.agg #[.int .u64 (hi n), .int .u64 (lo n)]] w fun e w' =>
    e = .returned (.tuple #[.agg #[.int .u64 (hi (oddI n)), .int .u64 (lo (oddI n))], .int .i64 0]) ∧ Ext w w' := by
  have hb : bit n 0 = 1 := by rw [bit0, hn]; rfl
  go_enter Try.func29, Try.ntmps29
  go_wp2_with fail
  refine (wBit _ _ _).mono ?_
  rintro e w1 ⟨rfl, hx⟩
  rw [hb]
  clear hb
  have hc_w1 := (ext_cell hx).1
  have hf_w1 := (ext_cell hx).2
  have HX_w1 := Lib.hid hx
  have y_w1 := hx.size
  try simp at y_w1
  have z_w1_w_0 : w.heap.size < w1.heap.size := by omega
  have z_w1_w_1 : w.heap.size + 1 < w1.heap.size := by omega
  clear hx
  go_wp2
  go_loopw [12] (fun i wr => ∃ k : Nat, k ≤ 7 ∧ i = .int .i64 k ∧ Ext w wr ∧ w1.heap.size < wr.heap.size
      ∧ wr.cell? ⟨w.heap.size, 0, none⟩ = some (.int .u64 (hi n)) ∧ wr.cell? ⟨w.heap.size, 1, none⟩ = some (.int .u64 (lo n))
      ∧ wr.cell? ⟨w.heap.size + 1, 0, none⟩ = some (.int .u64 0) ∧ wr.cell? ⟨w.heap.size + 1, 1, none⟩ = some (.int .u64 0)
      ∧ wr.frozen? ⟨w.heap.size + 1, 0, none⟩ = false ∧ wr.frozen? ⟨w.heap.size + 1, 1, none⟩ = false
      ∧ wr.cell? ⟨w1.heap.size, 0, none⟩ = some (.int .u64 (hi (newtons n k))) ∧ wr.cell? ⟨w1.heap.size, 1, none⟩ = some (.int .u64 (lo (newtons n k)))
      ∧ wr.frozen? ⟨w1.heap.size, 0, none⟩ = false ∧ wr.frozen? ⟨w1.heap.size, 1, none⟩ = false)
    (fun i _ => 7 - (intOf i).toNat)
  case atStart =>
    refine ⟨0, by omega, rfl, ?_, ?_, ?_, ?_, ?_, ?_, ?_, ?_, ?_, ?_, ?_, ?_⟩
    · repeat (first | with_reducible exact Ext.refl _ | with_reducible refine Ext.alloc ?_ _ | (with_reducible refine Ext.setCell ?_ (by simp <;> omega) _) | with_reducible refine Ext.drew ?_ | with_reducible refine Ext.trans ?_ HX_w1.out)
    · simp
    all_goals (go_simp <;> rfl)
  case round =>
    obtain ⟨k, hk, rfl, HX, z1, c0, c1, r0, r1, f0, f1, x0, x1, g0, g1⟩ := hrel
    have HX_r := Lib.hid HX; clear HX
    have z_wr_w_0 : w.heap.size < wr.heap.size := by omega
    have z_wr_w_1 : w.heap.size + 1 < wr.heap.size := by omega
    clear hc_w1 hf_w1
    by_cases hlt : k < 7
    · go_wp2_with fail
      try dsimp only
      repeat (first | with_reducible refine wp_region_ext ?_ [(0, 1), (1, 1), (2, 1), (3, 1), (4, 1), (5, 0), (6, 0), (7, 0), (8, 2), (9, 2), (10, 0)] (fun _ => true) ?_ ?_ ?_ ?_ ?_ | go_step)
      · kernel_rfl
      · kernel_rfl
      · kernel_rfl
      · kernel_rfl
      · exact (fun _ _ d _ _ h => by cases d <;> exact h)
      refine run_call (f := 42) (args := ?_) (o := ?_) (v := ?_) (a' := ?_) ?_ ?_ ?_ ?_ ?_ (Ext.refl _) ?_
      rotate_left 4
      · (simp only [List.getElem?_toArray, List.getElem?_cons_succ, List.getElem?_cons_zero] <;> rfl)
      · rfl
      · intro w'
        go_simp
        with_reducible rfl
      · intro w' hw'
        exact (wOf 2 (by unfold Word; omega) _)
      · simp only [Act.put, List.setIfInBounds_toArray, List.set_cons_zero, List.set_cons_succ]
        rfl
      refine run_read (o := ?_) (v := ?_) (a' := ?_) ?_ ?_ ?_ ?_ (Ext.refl _) ?_
      rotate_left 3
      · (simp only [List.getElem?_toArray, List.getElem?_cons_succ, List.getElem?_cons_zero] <;> rfl)
      · rfl
      · intro w' hw'
        obtain ⟨hc, hf⟩ := ext_cell hw'
        clear hw'
        go_simp
        with_reducible rfl
      · simp only [Act.put, List.setIfInBounds_toArray, List.set_cons_zero, List.set_cons_succ]
        rfl
      refine run_read (o := ?_) (v := ?_) (a' := ?_) ?_ ?_ ?_ ?_ (Ext.refl _) ?_
      rotate_left 3
      · (simp only [List.getElem?_toArray, List.getElem?_cons_succ, List.getElem?_cons_zero] <;> rfl)
      · rfl
      · intro w' hw'
        obtain ⟨hc, hf⟩ := ext_cell hw'
        clear hw'
        go_simp
        with_reducible rfl
      · simp only [Act.put, List.setIfInBounds_toArray, List.set_cons_zero, List.set_cons_succ]
        rfl
      refine run_call (f := 44) (args := ?_) (o := ?_) (v := ?_) (a' := ?_) ?_ ?_ ?_ ?_ ?_ (Ext.refl _) ?_
      rotate_left 4
      · (simp only [List.getElem?_toArray, List.getElem?_cons_succ, List.getElem?_cons_zero] <;> rfl)
      · rfl
      · intro w'
        go_simp
        with_reducible rfl
      · intro w' hw'
        exact (wMul _ _ _)
      · simp only [Act.put, List.setIfInBounds_toArray, List.set_cons_zero, List.set_cons_succ]
        rfl
      refine run_call (f := 65) (args := ?_) (o := ?_) (v := ?_) (a' := ?_) ?_ ?_ ?_ ?_ ?_ (Ext.refl _) ?_
      rotate_left 4
      · (simp only [List.getElem?_toArray, List.getElem?_cons_succ, List.getElem?_cons_zero] <;> rfl)
      · rfl
      · intro w'
        go_simp
        with_reducible rfl
      · intro w' hw'
        exact (wSub _ _ _)
      · simp only [Act.put, List.setIfInBounds_toArray, List.set_cons_zero, List.set_cons_succ]
        rfl
      refine run_pure (o := ?_) (v := ?_) (a' := ?_) ?_ ?_ ?_ ?_ ?_
      rotate_left 3
      · (simp only [List.getElem?_toArray, List.getElem?_cons_succ, List.getElem?_cons_zero] <;> rfl)
      · rfl
      · intro w'
        go_simp
        with_reducible rfl
      · simp only [Act.put, List.setIfInBounds_toArray, List.set_cons_zero, List.set_cons_succ]
        rfl
      refine run_pure (o := ?_) (v := ?_) (a' := ?_) ?_ ?_ ?_ ?_ ?_
      rotate_left 3
      · (simp only [List.getElem?_toArray, List.getElem?_cons_succ, List.getElem?_cons_zero] <;> rfl)
      · rfl
      · intro w'
        go_simp
        with_reducible rfl
      · simp only [Act.put, List.setIfInBounds_toArray, List.set_cons_zero, List.set_cons_succ]
        rfl
      refine run_pure (o := ?_) (v := ?_) (a' := ?_) ?_ ?_ ?_ ?_ ?_
      rotate_left 3
      · (simp only [List.getElem?_toArray, List.getElem?_cons_succ, List.getElem?_cons_zero] <;> rfl)
      · rfl
      · intro w'
        go_simp
        with_reducible rfl
      · simp only [Act.put, List.setIfInBounds_toArray, List.set_cons_zero, List.set_cons_succ]
        rfl
      refine run_do (o := ?_) ?_ ?_ (fun p1 hx K hK => ?_)
      rotate_left
      · (simp only [List.getElem?_toArray, List.getElem?_cons_succ, List.getElem?_cons_zero] <;> rfl)
      · rfl
      have hc_p1 := (ext_cell hx).1
      have hf_p1 := (ext_cell hx).2
      have HX_p1 := Lib.hid hx
      have y_p1 := hx.size
      try simp at y_p1
      have z_p1_w_0 : w.heap.size < p1.heap.size := by omega
      have z_p1_w_1 : w.heap.size + 1 < p1.heap.size := by omega
      have z_p1_w1_0 : w1.heap.size < p1.heap.size := by omega
      clear hx
      go_simp
      refine hK _ _ (fun _ hs => hs.alloc _) ?_
      clear hK K
      try simp only [Act.put, List.setIfInBounds_toArray, List.set_cons_zero, List.set_cons_succ]
      refine run_do (o := ?_) ?_ ?_ (fun p2 hx K hK => ?_)
      rotate_left
      · (simp only [List.getElem?_toArray, List.getElem?_cons_succ, List.getElem?_cons_zero] <;> rfl)
      · rfl
      have hc_p2 := (ext_cell hx).1
      have hf_p2 := (ext_cell hx).2
      have HX_p2 := Lib.hid hx
      have y_p2 := hx.size
      try simp at y_p2
      have z_p2_w_0 : w.heap.size < p2.heap.size := by omega
      have z_p2_w_1 : w.heap.size + 1 < p2.heap.size := by omega
      have z_p2_w1_0 : w1.heap.size < p2.heap.size := by omega
      have z_p2_p1_0 : p1.heap.size < p2.heap.size := by omega
      clear hx
      go_simp
      refine hK _ _ (fun _ hs => ?_) ?_
      · repeat (first | exact hs | (refine Ext.setCell ?_ (by simp <;> omega) _))
      clear hK K
      refine run_pure (o := ?_) (v := ?_) (a' := ?_) ?_ ?_ ?_ ?_ ?_
      rotate_left 3
      · (simp only [List.getElem?_toArray, List.getElem?_cons_succ, List.getElem?_cons_zero] <;> rfl)
      · rfl
      · intro w'
        go_simp
        with_reducible rfl
      · simp only [Act.put, List.setIfInBounds_toArray, List.set_cons_zero, List.set_cons_succ]
        rfl
      refine run_nil (fun p3 hx => ?_)
      have hc_p3 := (ext_cell hx).1
      have hf_p3 := (ext_cell hx).2
      have HX_p3 := Lib.hid hx
      have y_p3 := hx.size
      try simp at y_p3
      have z_p3_w_0 : w.heap.size < p3.heap.size := by omega
      have z_p3_w_1 : w.heap.size + 1 < p3.heap.size := by omega
      have z_p3_w1_0 : w1.heap.size < p3.heap.size := by omega
      have z_p3_p1_0 : p1.heap.size < p3.heap.size := by omega
      clear hx
      go_wp2_with fail
      refine (wMul _ _ _).mono ?_
      rintro e w2 ⟨rfl, hx⟩
      have hc_w2 := (ext_cell hx).1
      have hf_w2 := (ext_cell hx).2
      have HX_w2 := Lib.hid hx
      have y_w2 := hx.size
      try simp at y_w2
      have z_w2_w_0 : w.heap.size < w2.heap.size := by omega
      have z_w2_w_1 : w.heap.size + 1 < w2.heap.size := by omega
      have z_w2_w1_0 : w1.heap.size < w2.heap.size := by omega
      have z_w2_p1_0 : p1.heap.size < w2.heap.size := by omega
      clear hx
      have n0_w2 : w2.cell? ⟨w.heap.size, 0, none⟩ = some (.int .u64 (hi n)) := by go_simp
      have n1_w2 : w2.cell? ⟨w.heap.size, 1, none⟩ = some (.int .u64 (lo n)) := by go_simp
      have r0_w2 : w2.cell? ⟨w.heap.size + 1, 0, none⟩ = some (.int .u64 0) := by go_simp
      have rf0_w2 : w2.frozen? ⟨w.heap.size + 1, 0, none⟩ = false := by go_simp
      have r1_w2 : w2.cell? ⟨w.heap.size + 1, 1, none⟩ = some (.int .u64 0) := by go_simp
      have rf1_w2 : w2.frozen? ⟨w.heap.size + 1, 1, none⟩ = false := by go_simp
      have x0_w2 : w2.cell? ⟨w1.heap.size, 0, none⟩ = some (.int .u64 (hi (newtons n k))) := by go_simp
      have xf0_w2 : w2.frozen? ⟨w1.heap.size, 0, none⟩ = false := by go_simp
      have x1_w2 : w2.cell? ⟨w1.heap.size, 1, none⟩ = some (.int .u64 (lo (newtons n k))) := by go_simp
      have xf1_w2 : w2.frozen? ⟨w1.heap.size, 1, none⟩ = false := by go_simp
      clear hc_w2 hf_w2 hc_p3 hf_p3 hc_p2 hf_p2 hc_p1 hf_p1
      go_wp2
      go_roundw
      case rel =>
        have en : newtons n (k + 1) = newtons n k * (of 2 - n * newtons n k) := rfl
        refine ⟨k + 1, by omega, by go_num, ?_, ?_, ?_, ?_, ?_, ?_, ?_, ?_, ?_, ?_, ?_, ?_⟩
        · repeat (first | with_reducible exact Ext.refl _ | with_reducible refine Ext.alloc ?_ _ | (with_reducible refine Ext.setCell ?_ (by simp <;> omega) _) | with_reducible refine Ext.drew ?_ | with_reducible refine Ext.trans ?_ HX_w2.out | with_reducible refine Ext.trans ?_ HX_p3.out | with_reducible refine Ext.trans ?_ HX_p2.out | with_reducible refine Ext.trans ?_ HX_p1.out | with_reducible refine Ext.trans ?_ HX_r.out)
        · simp
          omega
        all_goals (go_simp <;> rfl)
      case measure => simp [intOf]; omega
    · obtain rfl : k = 7 := by omega
      have eo : oddI n = newtons n 7 := rfl
      have E1 := Lib.hid eo; clear eo
      go_wp2
      refine bodyPost_ret (v := ?_) ?_ rfl ⟨?_, ?_⟩
      rotate_left
      · simp only [results, Try.results29]
        go_simp
        with_reducible rfl
      · rw [E1.out]
      · repeat (first | with_reducible exact Ext.refl _ | with_reducible refine Ext.alloc ?_ _ | (with_reducible refine Ext.setCell ?_ (by simp <;> omega) _) | with_reducible refine Ext.drew ?_ | with_reducible refine Ext.trans ?_ HX_r.out)

theorem aInverse_even (a c : V) (hn : a.toNat % 2 = 0) (w : World) : Calls Try.prog 31 #[.agg #[.int .u64 (hi a), .int .u64 (lo a), .int .u64 (hi c), .int .u64 (lo c)]] w fun e w' =>
    e = .returned (.tuple #[.agg #[.int .u64 0, .int .u64 0, .int .u64 0, .int .u64 0], .int .i64 1]) ∧ Ext w w' := by
  go_enter Try.func31, Try.ntmps31
  go_wp2_with fail
  refine (aOdd_even _ hn _).mono ?_
  rintro e w1 ⟨rfl, hx⟩
  have hc_w1 := (ext_cell hx).1
  have hf_w1 := (ext_cell hx).2
  have HX_w1 := Lib.hid hx
  have y_w1 := hx.size
  try simp at y_w1
  have z_w1_w_0 : w.heap.size < w1.heap.size := by omega
  have z_w1_w_1 : w.heap.size + 1 < w1.heap.size := by omega
  clear hx
  go_wp2
  refine bodyPost_ret (v := ?_) ?_ rfl ⟨?_, ?_⟩
  rotate_left
  · simp only [results, Try.results31]
    go_simp
    with_reducible rfl
  · rfl
  · repeat (first | with_reducible exact Ext.refl _ | with_reducible refine Ext.alloc ?_ _ | (with_reducible refine Ext.setCell ?_ (by simp <;> omega) _) | with_reducible refine Ext.drew ?_ | with_reducible refine Ext.trans ?_ HX_w1.out)
theorem aInverse_odd (a c : V) (hn : a.toNat % 2 = 1) (w : World) : Calls Try.prog 31 #[.agg #[.int .u64 (hi a), .int .u64 (lo a), .int .u64 (hi c), .int .u64 (lo c)]] w fun e w' =>
    e = .returned (.tuple #[.agg #[.int .u64 (hi (oddI a)), .int .u64 (lo (oddI a)), .int .u64 (hi (-(oddI a * c))), .int .u64 (lo (-(oddI a * c)))], .int .i64 0]) ∧ Ext w w' := by
  go_enter Try.func31, Try.ntmps31
  go_wp2_with fail
  refine (aOdd_odd _ hn _).mono ?_
  rintro e w1 ⟨rfl, hx⟩
  have hc_w1 := (ext_cell hx).1
  have hf_w1 := (ext_cell hx).2
  have HX_w1 := Lib.hid hx
  have y_w1 := hx.size
  try simp at y_w1
  have z_w1_w_0 : w.heap.size < w1.heap.size := by omega
  have z_w1_w_1 : w.heap.size + 1 < w1.heap.size := by omega
  clear hx
  go_wp2_with fail
  try dsimp only
  repeat (first | with_reducible refine wp_region_ext ?_ [(0, 1), (1, 1), (2, 0), (3, 1), (4, 1), (5, 1), (6, 0), (7, 2), (8, 0)] (fun i => !(i == 7)) ?_ ?_ ?_ ?_ ?_ | go_step)
  · kernel_rfl
  · kernel_rfl
  · kernel_rfl
  · kernel_rfl
  · exact (fun _ _ d _ _ h => by cases d <;> exact h)
  refine run_read (o := ?_) (v := ?_) (a' := ?_) ?_ ?_ ?_ ?_ (Ext.refl _) ?_
  rotate_left 3
  · (simp only [List.getElem?_toArray, List.getElem?_cons_succ, List.getElem?_cons_zero] <;> rfl)
  · rfl
  · intro w' hw'
    obtain ⟨hc, hf⟩ := ext_cell hw'
    clear hw'
    go_simp
    with_reducible rfl
  · simp only [Act.put, List.setIfInBounds_toArray, List.set_cons_zero, List.set_cons_succ]
    rfl
  refine run_read (o := ?_) (v := ?_) (a' := ?_) ?_ ?_ ?_ ?_ (Ext.refl _) ?_
  rotate_left 3
  · (simp only [List.getElem?_toArray, List.getElem?_cons_succ, List.getElem?_cons_zero] <;> rfl)
  · rfl
  · intro w' hw'
    obtain ⟨hc, hf⟩ := ext_cell hw'
    clear hw'
    go_simp
    with_reducible rfl
  · simp only [Act.put, List.setIfInBounds_toArray, List.set_cons_zero, List.set_cons_succ]
    rfl
  refine run_pure (o := ?_) (v := ?_) (a' := ?_) ?_ ?_ ?_ ?_ ?_
  rotate_left 3
  · (simp only [List.getElem?_toArray, List.getElem?_cons_succ, List.getElem?_cons_zero] <;> rfl)
  · rfl
  · intro w'
    go_simp
    with_reducible rfl
  · simp only [Act.put, List.setIfInBounds_toArray, List.set_cons_zero, List.set_cons_succ]
    rfl
  refine run_read (o := ?_) (v := ?_) (a' := ?_) ?_ ?_ ?_ ?_ (Ext.refl _) ?_
  rotate_left 3
  · (simp only [List.getElem?_toArray, List.getElem?_cons_succ, List.getElem?_cons_zero] <;> rfl)
  · rfl
  · intro w' hw'
    obtain ⟨hc, hf⟩ := ext_cell hw'
    clear hw'
    go_simp
    with_reducible rfl
  · simp only [Act.put, List.setIfInBounds_toArray, List.set_cons_zero, List.set_cons_succ]
    rfl
  refine run_call (f := 70) (args := ?_) (o := ?_) (v := ?_) (a' := ?_) ?_ ?_ ?_ ?_ ?_ (Ext.refl _) ?_
  rotate_left 4
  · (simp only [List.getElem?_toArray, List.getElem?_cons_succ, List.getElem?_cons_zero] <;> rfl)
  · rfl
  · intro w'
    go_simp
    with_reducible rfl
  · intro w' hw'
    exact (aNegative _ _)
  · simp only [Act.put, List.setIfInBounds_toArray, List.set_cons_zero, List.set_cons_succ]
    rfl
  refine run_call (f := 44) (args := ?_) (o := ?_) (v := ?_) (a' := ?_) ?_ ?_ ?_ ?_ ?_ (Ext.refl _) ?_
  rotate_left 4
  · (simp only [List.getElem?_toArray, List.getElem?_cons_succ, List.getElem?_cons_zero] <;> rfl)
  · rfl
  · intro w'
    go_simp
    with_reducible rfl
  · intro w' hw'
    exact (wMul _ _ _)
  · simp only [Act.put, List.setIfInBounds_toArray, List.set_cons_zero, List.set_cons_succ]
    rfl
  refine run_pure (o := ?_) (v := ?_) (a' := ?_) ?_ ?_ ?_ ?_ ?_
  rotate_left 3
  · (simp only [List.getElem?_toArray, List.getElem?_cons_succ, List.getElem?_cons_zero] <;> rfl)
  · rfl
  · intro w'
    go_simp
    with_reducible rfl
  · simp only [Act.put, List.setIfInBounds_toArray, List.set_cons_zero, List.set_cons_succ]
    rfl
  refine run_do (o := ?_) ?_ ?_ (fun p1 hx K hK => ?_)
  rotate_left
  · (simp only [List.getElem?_toArray, List.getElem?_cons_succ, List.getElem?_cons_zero] <;> rfl)
  · rfl
  have hc_p1 := (ext_cell hx).1
  have hf_p1 := (ext_cell hx).2
  have HX_p1 := Lib.hid hx
  have y_p1 := hx.size
  try simp at y_p1
  have z_p1_w_0 : w.heap.size < p1.heap.size := by omega
  have z_p1_w_1 : w.heap.size + 1 < p1.heap.size := by omega
  have z_p1_w1_0 : w1.heap.size < p1.heap.size := by omega
  clear hx
  go_simp
  refine hK _ _ (fun h => absurd h (by decide)) ?_
  clear hK K
  refine run_pure (o := ?_) (v := ?_) (a' := ?_) ?_ ?_ ?_ ?_ ?_
  rotate_left 3
  · (simp only [List.getElem?_toArray, List.getElem?_cons_succ, List.getElem?_cons_zero] <;> rfl)
  · rfl
  · intro w'
    go_simp
    with_reducible rfl
  · simp only [Act.put, List.setIfInBounds_toArray, List.set_cons_zero, List.set_cons_succ]
    rfl
  refine run_nil (fun p2 hx => ?_)
  have hc_p2 := (ext_cell hx).1
  have hf_p2 := (ext_cell hx).2
  have HX_p2 := Lib.hid hx
  have y_p2 := hx.size
  try simp at y_p2
  have z_p2_w_0 : w.heap.size < p2.heap.size := by omega
  have z_p2_w_1 : w.heap.size + 1 < p2.heap.size := by omega
  have z_p2_w1_0 : w1.heap.size < p2.heap.size := by omega
  clear hx
  go_wp2
  refine bodyPost_ret (v := ?_) ?_ rfl ⟨?_, ?_⟩
  rotate_left
  · simp only [results, Try.results31]
    go_simp
    with_reducible rfl
  · rfl
  · repeat (first | with_reducible exact Ext.refl _ | with_reducible refine Ext.alloc ?_ _ | (with_reducible refine Ext.setCell ?_ (by simp <;> omega) _) | with_reducible refine Ext.drew ?_ | with_reducible refine Ext.trans ?_ HX_w1.out | with_reducible refine Ext.trans ?_ HX_p1.out | with_reducible refine Ext.trans ?_ HX_p2.out)

set_option maxHeartbeats 2000000 in
/-- affine.Power. -/
theorem aPower (a c n : V) (w : World) : Calls Try.prog 37 #[.agg #[.int .u64 (hi a), .int .u64 (lo a), .int .u64 (hi c), .int .u64 (lo c)], .agg #[.int .u64 (hi n), .int .u64 (lo n)]] w fun e w' =>
    e = .returned (.agg #[.int .u64 (hi (powM (a, c) n.toNat).1), .int .u64 (lo (powM (a, c) n.toNat).1), .int .u64 (hi (powM (a, c) n.toNat).2), .int .u64 (lo (powM (a, c) n.toNat).2)]) ∧ Ext w w' := by
  go_enter Try.func37, Try.ntmps37
  go_wp2_with fail
  refine wp_scope_once 0 (fun a' w' => ∃ (m o : M) (N : V) (b : Nat) (u6 u7 u8 u9 u10 u11 u12 u13 u14 u15 u16 u17 u18 u19 u20 u21 : Value),
      a' = { tmps := #[.agg #[.int .u64 (hi a), .int .u64 (lo a), .int .u64 (hi c), .int .u64 (lo c)], .agg #[.int .u64 (hi n), .int .u64 (lo n)], .pointer (some ⟨w.heap.size, 0, none⟩), .pointer (some ⟨w.heap.size + 1, 0, none⟩), .pointer (some ⟨w.heap.size + 1 + 1, 0, none⟩), .pointer (some ⟨b, 0, none⟩), u6, u7, u8, u9, u10, u11, u12, u13, u14, u15, u16, u17, u18, u19, u20, u21], defers := [] }
      ∧ Ext w w' ∧ w.heap.size + 2 < b ∧ b < w'.heap.size
      ∧ Cells w' w.heap.size [.int .u64 (hi m.1), .int .u64 (lo m.1), .int .u64 (hi m.2), .int .u64 (lo m.2)] ∧ Cells w' (w.heap.size + 1) [.int .u64 (hi N), .int .u64 (lo N)]
      ∧ Cells w' (w.heap.size + 1 + 1) [.int .u64 0, .int .u64 0, .int .u64 0, .int .u64 0] ∧ Cells w' b [.int .u64 (hi o.1), .int .u64 (lo o.1), .int .u64 (hi o.2), .int .u64 (lo o.2)]
      ∧ thenM o (powM m N.toNat) = powM (a, c) n.toNat) (fun _ w' => (numAt w' (w.heap.size + 1)).toNat) rfl ?_ ?_
  · intro hround
    go_wp2_with fail
    refine (aOne _).mono ?_
    rintro e w1 ⟨rfl, hx⟩
    have hc_w1 := (ext_cell hx).1
    have hf_w1 := (ext_cell hx).2
    have HX_w1 := Lib.hid hx
    have y_w1 := hx.size
    try simp at y_w1
    have z_w1_w_0 : w.heap.size < w1.heap.size := by omega
    have z_w1_w_1 : w.heap.size + 1 < w1.heap.size := by omega
    have z_w1_w_2 : w.heap.size + 2 < w1.heap.size := by omega
    clear hx
    go_wp2_with fail
    go_step3
    go_step
    go_step
    refine hround _ _ ⟨(a, c), oneM, n, w1.heap.size, _, _, _, _, _, _, _, _, _, _, _, _, _, _, _, _, rfl, ?_, ?_, ?_, ?_, ?_, ?_, ?_, one_thenM _⟩
    all_goals clear hround
    · repeat (first | with_reducible exact Ext.refl _ | with_reducible refine Ext.alloc ?_ _ | (with_reducible refine Ext.setCell ?_ (by simp <;> omega) _) | with_reducible refine Ext.drew ?_ | with_reducible refine Ext.trans ?_ HX_w1.out)
    · omega
    · simp
    · exact Cells.mk4 (by go_simp) (by go_simp) (by go_simp) (by go_simp) (by go_simp) (by go_simp) (by go_simp) (by go_simp)
    · exact Cells.mk2 (by go_simp) (by go_simp) (by go_simp) (by go_simp)
    · exact Cells.mk4 (by go_simp) (by go_simp) (by go_simp) (by go_simp) (by go_simp) (by go_simp) (by go_simp) (by go_simp)
    · exact Cells.mk4 (by go_simp <;> rfl) (by go_simp <;> rfl) (by go_simp <;> rfl) (by go_simp <;> rfl) (by go_simp) (by go_simp) (by go_simp) (by go_simp)
  · rintro a' w' ⟨m, o, N, b, u6, u7, u8, u9, u10, u11, u12, u13, u14, u15, u16, u17, u18, u19, u20, u21, rfl, HX, hb1, hb2, hm, hN, hr, ho, hinv⟩
    have hlt := hr.lt
    obtain ⟨m0, m1, m2, m3, mf0, mf1, mf2, mf3⟩ := hm.four
    obtain ⟨n0, n1, nf0, nf1⟩ := hN.two
    obtain ⟨r0, r1, r2, r3, rf0, rf1, rf2, rf3⟩ := hr.four
    obtain ⟨o0, o1, o2, o3, of0, of1, of2, of3⟩ := ho.four
    have HINV := Lib.hid hinv; clear hinv
    have HNW := Lib.hid (numAt_eq hN)
    have HX_r := Lib.hid HX; clear HX
    have z_0 : w.heap.size < w'.heap.size := by omega
    have z_1 : w.heap.size + 1 < w'.heap.size := by omega
    have z_2 : w.heap.size + 1 + 1 < w'.heap.size := by omega
    by_cases hz : N = 0#128
    · subst hz
      rw [hi_zero] at n0
      rw [lo_zero] at n1
      have E1 : powM (a, c) n.toNat = o := by
        have h := HINV.out
        rw [show (0#128 : V).toNat = 0 by rfl, powM, thenM_one] at h
        exact h.symm
      have EE := Lib.hid E1; clear E1
      go_wp2
      simp only [Exit.jump]
      refine bodyPost_ret (v := ?_) ?_ rfl ⟨?_, ?_⟩
      rotate_left
      · simp only [results, Try.results37]
        go_simp
        with_reducible rfl
      · rw [EE.out]
      · repeat (first | with_reducible exact Ext.refl _ | with_reducible refine Ext.alloc ?_ _ | (with_reducible refine Ext.setCell ?_ (by simp <;> omega) _) | with_reducible refine Ext.drew ?_ | with_reducible refine Ext.trans ?_ HX_r.out)
    · have hdec : N.toNat / 2 < N.toNat := by
        have : N.toNat ≠ 0 := fun h => hz (BitVec.eq_of_toNat_eq h)
        omega
      have HD := Lib.hid hdec; clear hdec
      go_wp2_with fail
      refine (wBit _ _ _).mono ?_
      rintro e w2 ⟨rfl, hx⟩
      have hm2 := hm.ext hx
      have hN2 := hN.ext hx
      have hr2 := hr.ext hx
      have ho2 := ho.ext hx
      have HX_2 := Lib.hid hx
      have hs2 := hx.size
      clear hx hm hN hr ho m0 m1 m2 m3 mf0 mf1 mf2 mf3 n0 n1 nf0 nf1 r0 r1 r2 r3 rf0 rf1 rf2 rf3 o0 o1 o2 o3 of0 of1 of2 of3
      obtain ⟨m0, m1, m2, m3, mf0, mf1, mf2, mf3⟩ := hm2.four
      obtain ⟨n0, n1, nf0, nf1⟩ := hN2.two
      obtain ⟨r0, r1, r2, r3, rf0, rf1, rf2, rf3⟩ := hr2.four
      obtain ⟨o0, o1, o2, o3, of0, of1, of2, of3⟩ := ho2.four
      by_cases hb : N.toNat % 2 = 1
      · rw [show bit N 0 = 1 by rw [bit0, hb]; rfl]
        go_wp2_with fail
        refine (aThen _ _ _ _ _).mono ?_
        rintro e w3 ⟨rfl, hx⟩
        have hm3 := hm2.ext hx
        have hN3 := hN2.ext hx
        have hr3 := hr2.ext hx
        have ho3 := ho2.ext hx
        have HX_3 := Lib.hid hx
        have hs3 := hx.size
        clear hx hm2 hN2 hr2 ho2 m0 m1 m2 m3 mf0 mf1 mf2 mf3 n0 n1 nf0 nf1 r0 r1 r2 r3 rf0 rf1 rf2 rf3 o0 o1 o2 o3 of0 of1 of2 of3
        obtain ⟨m0, m1, m2, m3, mf0, mf1, mf2, mf3⟩ := hm3.four
        obtain ⟨n0, n1, nf0, nf1⟩ := hN3.two
        obtain ⟨r0, r1, r2, r3, rf0, rf1, rf2, rf3⟩ := hr3.four
        obtain ⟨o0, o1, o2, o3, of0, of1, of2, of3⟩ := ho3.four
        have zb : b < w3.heap.size := by omega
        have z0 : w.heap.size < w3.heap.size := by omega
        have z1 : w.heap.size + 1 < w3.heap.size := by omega
        have z2 : w.heap.size + 1 + 1 < w3.heap.size := by omega
        go_wp2_with fail
        try dsimp only
        repeat (first | with_reducible refine wp_region_ext ?_ [(0, 1), (1, 1), (2, 1), (3, 1), (4, 1), (5, 2), (6, 2)] (fun i => !(i == 5) && !(i == 6)) ?_ ?_ ?_ ?_ ?_ | go_step)
        · kernel_rfl
        · kernel_rfl
        · kernel_rfl
        · kernel_rfl
        · exact (fun _ _ d _ _ h => by cases d <;> exact h)
        refine run_read (o := ?_) (v := ?_) (a' := ?_) ?_ ?_ ?_ ?_ (Ext.refl _) ?_
        rotate_left 3
        · (simp only [List.getElem?_toArray, List.getElem?_cons_succ, List.getElem?_cons_zero] <;> rfl)
        · rfl
        · intro w' hw'
          obtain ⟨hc, hf⟩ := ext_cell hw'
          clear hw'
          go_simp
          with_reducible rfl
        · simp only [Act.put, List.setIfInBounds_toArray, List.set_cons_zero, List.set_cons_succ]
          rfl
        refine run_read (o := ?_) (v := ?_) (a' := ?_) ?_ ?_ ?_ ?_ (Ext.refl _) ?_
        rotate_left 3
        · (simp only [List.getElem?_toArray, List.getElem?_cons_succ, List.getElem?_cons_zero] <;> rfl)
        · rfl
        · intro w' hw'
          obtain ⟨hc, hf⟩ := ext_cell hw'
          clear hw'
          go_simp
          with_reducible rfl
        · simp only [Act.put, List.setIfInBounds_toArray, List.set_cons_zero, List.set_cons_succ]
          rfl
        refine run_call (f := 36) (args := ?_) (o := ?_) (v := ?_) (a' := ?_) ?_ ?_ ?_ ?_ ?_ (Ext.refl _) ?_
        rotate_left 4
        · (simp only [List.getElem?_toArray, List.getElem?_cons_succ, List.getElem?_cons_zero] <;> rfl)
        · rfl
        · intro w'
          go_simp
          with_reducible rfl
        · intro w' hw'
          exact (aThen _ _ _ _ _)
        · simp only [Act.put, List.setIfInBounds_toArray, List.set_cons_zero, List.set_cons_succ]
          rfl
        refine run_read (o := ?_) (v := ?_) (a' := ?_) ?_ ?_ ?_ ?_ (Ext.refl _) ?_
        rotate_left 3
        · (simp only [List.getElem?_toArray, List.getElem?_cons_succ, List.getElem?_cons_zero] <;> rfl)
        · rfl
        · intro w' hw'
          obtain ⟨hc, hf⟩ := ext_cell hw'
          clear hw'
          go_simp
          with_reducible rfl
        · simp only [Act.put, List.setIfInBounds_toArray, List.set_cons_zero, List.set_cons_succ]
          rfl
        refine run_call (f := 72) (args := ?_) (o := ?_) (v := ?_) (a' := ?_) ?_ ?_ ?_ ?_ ?_ (Ext.refl _) ?_
        rotate_left 4
        · (simp only [List.getElem?_toArray, List.getElem?_cons_succ, List.getElem?_cons_zero] <;> rfl)
        · rfl
        · intro w'
          go_simp
          with_reducible rfl
        · intro w' hw'
          exact (wRight _ _ _)
        · simp only [Act.put, List.setIfInBounds_toArray, List.set_cons_zero, List.set_cons_succ]
          rfl
        refine run_do (o := ?_) ?_ ?_ (fun p1 hx K hK => ?_)
        rotate_left
        · (simp only [List.getElem?_toArray, List.getElem?_cons_succ, List.getElem?_cons_zero] <;> rfl)
        · rfl
        have hc_p1 := (ext_cell hx).1
        have hf_p1 := (ext_cell hx).2
        have HX_p1 := Lib.hid hx
        have y_p1 := hx.size
        try simp at y_p1
        have z_p1_w_0 : w.heap.size < p1.heap.size := by omega
        have z_p1_w_1 : w.heap.size + 1 < p1.heap.size := by omega
        have z_p1_w_2 : w.heap.size + 2 < p1.heap.size := by omega
        have z_p1_b : b < p1.heap.size := by omega
        clear hx
        go_simp
        refine hK _ _ (fun h => absurd h (by decide)) ?_
        clear hK K
        refine run_do (o := ?_) ?_ ?_ (fun p2 hx K hK => ?_)
        rotate_left
        · (simp only [List.getElem?_toArray, List.getElem?_cons_succ, List.getElem?_cons_zero] <;> rfl)
        · rfl
        have hc_p2 := (ext_cell hx).1
        have hf_p2 := (ext_cell hx).2
        have HX_p2 := Lib.hid hx
        have y_p2 := hx.size
        try simp at y_p2
        have z_p2_w_0 : w.heap.size < p2.heap.size := by omega
        have z_p2_w_1 : w.heap.size + 1 < p2.heap.size := by omega
        have z_p2_w_2 : w.heap.size + 2 < p2.heap.size := by omega
        have z_p2_b : b < p2.heap.size := by omega
        clear hx
        go_simp
        refine hK _ _ (fun h => absurd h (by decide)) ?_
        clear hK K
        refine run_nil (fun p3 hx => ?_)
        have hc_p3 := (ext_cell hx).1
        have hf_p3 := (ext_cell hx).2
        have HX_p3 := Lib.hid hx
        have y_p3 := hx.size
        try simp at y_p3
        have z_p3_w_0 : w.heap.size < p3.heap.size := by omega
        have z_p3_w_1 : w.heap.size + 1 < p3.heap.size := by omega
        have z_p3_w_2 : w.heap.size + 2 < p3.heap.size := by omega
        have z_p3_b : b < p3.heap.size := by omega
        clear hx
        go_wp2_with fail
        go_step3
        have x0 := Cells.mk2 (w := p3) (b := w.heap.size + 1) (x := .int .u64 (hi (shr N 1))) (y := .int .u64 (lo (shr N 1))) (by go_simp) (by go_simp) (by go_simp) (by go_simp)
        refine ⟨rfl, ⟨thenM m m, thenM o m, shr N 1, b, _, _, _, _, _, _, _, _, _, _, _, _, _, _, _, _, rfl, ?_, hb1, ?_, ?_, ?_, ?_, ?_, ?_⟩, ?_⟩
        · repeat (first | with_reducible exact Ext.refl _ | with_reducible refine Ext.alloc ?_ _ | (with_reducible refine Ext.setCell ?_ (by simp <;> omega) _) | with_reducible refine Ext.drew ?_ | with_reducible refine Ext.trans ?_ HX_p3.out | with_reducible refine Ext.trans ?_ HX_p2.out | with_reducible refine Ext.trans ?_ HX_p1.out | with_reducible refine Ext.trans ?_ HX_3.out | with_reducible refine Ext.trans ?_ HX_2.out | with_reducible refine Ext.trans ?_ HX_r.out)
        · omega
        · exact Cells.mk4 (by go_simp <;> rfl) (by go_simp <;> rfl) (by go_simp <;> rfl) (by go_simp <;> rfl) (by go_simp) (by go_simp) (by go_simp) (by go_simp)
        · exact x0
        · exact Cells.mk4 (by go_simp) (by go_simp) (by go_simp) (by go_simp) (by go_simp) (by go_simp) (by go_simp) (by go_simp)
        · exact Cells.mk4 (by go_simp <;> rfl) (by go_simp <;> rfl) (by go_simp <;> rfl) (by go_simp <;> rfl) (by go_simp) (by go_simp) (by go_simp) (by go_simp)
        · rw [toNat_shr1]
          rw [← HINV.out]
          exact pow_round1 o m N.toNat hb
        · show (numAt p3 (w.heap.size + 1)).toNat < (numAt w' (w.heap.size + 1)).toNat
          rw [numAt_eq x0, HNW.out, ← toNat_eq, ← toNat_eq, toNat_shr1]
          have := HD.out
          omega
      · rw [show bit N 0 = 0 by rw [bit0, show N.toNat % 2 = 0 by omega]; rfl]
        have zb : b < w2.heap.size := by omega
        have z0 : w.heap.size < w2.heap.size := by omega
        have z1 : w.heap.size + 1 < w2.heap.size := by omega
        have z2 : w.heap.size + 1 + 1 < w2.heap.size := by omega
        go_wp2_with fail
        try dsimp only
        repeat (first | with_reducible refine wp_region_ext ?_ [(0, 1), (1, 1), (2, 1), (3, 1), (4, 1), (5, 2), (6, 2)] (fun i => !(i == 5) && !(i == 6)) ?_ ?_ ?_ ?_ ?_ | go_step)
        · kernel_rfl
        · kernel_rfl
        · kernel_rfl
        · kernel_rfl
        · exact (fun _ _ d _ _ h => by cases d <;> exact h)
        refine run_read (o := ?_) (v := ?_) (a' := ?_) ?_ ?_ ?_ ?_ (Ext.refl _) ?_
        rotate_left 3
        · (simp only [List.getElem?_toArray, List.getElem?_cons_succ, List.getElem?_cons_zero] <;> rfl)
        · rfl
        · intro w' hw'
          obtain ⟨hc, hf⟩ := ext_cell hw'
          clear hw'
          go_simp
          with_reducible rfl
        · simp only [Act.put, List.setIfInBounds_toArray, List.set_cons_zero, List.set_cons_succ]
          rfl
        refine run_read (o := ?_) (v := ?_) (a' := ?_) ?_ ?_ ?_ ?_ (Ext.refl _) ?_
        rotate_left 3
        · (simp only [List.getElem?_toArray, List.getElem?_cons_succ, List.getElem?_cons_zero] <;> rfl)
        · rfl
        · intro w' hw'
          obtain ⟨hc, hf⟩ := ext_cell hw'
          clear hw'
          go_simp
          with_reducible rfl
        · simp only [Act.put, List.setIfInBounds_toArray, List.set_cons_zero, List.set_cons_succ]
          rfl
        refine run_call (f := 36) (args := ?_) (o := ?_) (v := ?_) (a' := ?_) ?_ ?_ ?_ ?_ ?_ (Ext.refl _) ?_
        rotate_left 4
        · (simp only [List.getElem?_toArray, List.getElem?_cons_succ, List.getElem?_cons_zero] <;> rfl)
        · rfl
        · intro w'
          go_simp
          with_reducible rfl
        · intro w' hw'
          exact (aThen _ _ _ _ _)
        · simp only [Act.put, List.setIfInBounds_toArray, List.set_cons_zero, List.set_cons_succ]
          rfl
        refine run_read (o := ?_) (v := ?_) (a' := ?_) ?_ ?_ ?_ ?_ (Ext.refl _) ?_
        rotate_left 3
        · (simp only [List.getElem?_toArray, List.getElem?_cons_succ, List.getElem?_cons_zero] <;> rfl)
        · rfl
        · intro w' hw'
          obtain ⟨hc, hf⟩ := ext_cell hw'
          clear hw'
          go_simp
          with_reducible rfl
        · simp only [Act.put, List.setIfInBounds_toArray, List.set_cons_zero, List.set_cons_succ]
          rfl
        refine run_call (f := 72) (args := ?_) (o := ?_) (v := ?_) (a' := ?_) ?_ ?_ ?_ ?_ ?_ (Ext.refl _) ?_
        rotate_left 4
        · (simp only [List.getElem?_toArray, List.getElem?_cons_succ, List.getElem?_cons_zero] <;> rfl)
        · rfl
        · intro w'
          go_simp
          with_reducible rfl
        · intro w' hw'
          exact (wRight _ _ _)
        · simp only [Act.put, List.setIfInBounds_toArray, List.set_cons_zero, List.set_cons_succ]
          rfl
        refine run_do (o := ?_) ?_ ?_ (fun p1 hx K hK => ?_)
        rotate_left
        · (simp only [List.getElem?_toArray, List.getElem?_cons_succ, List.getElem?_cons_zero] <;> rfl)
        · rfl
        have hc_p1 := (ext_cell hx).1
        have hf_p1 := (ext_cell hx).2
        have HX_p1 := Lib.hid hx
        have y_p1 := hx.size
        try simp at y_p1
        have z_p1_w_0 : w.heap.size < p1.heap.size := by omega
        have z_p1_w_1 : w.heap.size + 1 < p1.heap.size := by omega
        have z_p1_w_2 : w.heap.size + 2 < p1.heap.size := by omega
        have z_p1_b : b < p1.heap.size := by omega
        clear hx
        go_simp
        refine hK _ _ (fun h => absurd h (by decide)) ?_
        clear hK K
        refine run_do (o := ?_) ?_ ?_ (fun p2 hx K hK => ?_)
        rotate_left
        · (simp only [List.getElem?_toArray, List.getElem?_cons_succ, List.getElem?_cons_zero] <;> rfl)
        · rfl
        have hc_p2 := (ext_cell hx).1
        have hf_p2 := (ext_cell hx).2
        have HX_p2 := Lib.hid hx
        have y_p2 := hx.size
        try simp at y_p2
        have z_p2_w_0 : w.heap.size < p2.heap.size := by omega
        have z_p2_w_1 : w.heap.size + 1 < p2.heap.size := by omega
        have z_p2_w_2 : w.heap.size + 2 < p2.heap.size := by omega
        have z_p2_b : b < p2.heap.size := by omega
        clear hx
        go_simp
        refine hK _ _ (fun h => absurd h (by decide)) ?_
        clear hK K
        refine run_nil (fun p3 hx => ?_)
        have hc_p3 := (ext_cell hx).1
        have hf_p3 := (ext_cell hx).2
        have HX_p3 := Lib.hid hx
        have y_p3 := hx.size
        try simp at y_p3
        have z_p3_w_0 : w.heap.size < p3.heap.size := by omega
        have z_p3_w_1 : w.heap.size + 1 < p3.heap.size := by omega
        have z_p3_w_2 : w.heap.size + 2 < p3.heap.size := by omega
        have z_p3_b : b < p3.heap.size := by omega
        clear hx
        go_wp2_with fail
        go_step3
        have x0 := Cells.mk2 (w := p3) (b := w.heap.size + 1) (x := .int .u64 (hi (shr N 1))) (y := .int .u64 (lo (shr N 1))) (by go_simp) (by go_simp) (by go_simp) (by go_simp)
        refine ⟨rfl, ⟨thenM m m, o, shr N 1, b, _, _, _, _, _, _, _, _, _, _, _, _, _, _, _, _, rfl, ?_, hb1, ?_, ?_, ?_, ?_, ?_, ?_⟩, ?_⟩
        · repeat (first | with_reducible exact Ext.refl _ | with_reducible refine Ext.alloc ?_ _ | (with_reducible refine Ext.setCell ?_ (by simp <;> omega) _) | with_reducible refine Ext.drew ?_ | with_reducible refine Ext.trans ?_ HX_p3.out | with_reducible refine Ext.trans ?_ HX_p2.out | with_reducible refine Ext.trans ?_ HX_p1.out | with_reducible refine Ext.trans ?_ HX_2.out | with_reducible refine Ext.trans ?_ HX_r.out)
        · omega
        · exact Cells.mk4 (by go_simp <;> rfl) (by go_simp <;> rfl) (by go_simp <;> rfl) (by go_simp <;> rfl) (by go_simp) (by go_simp) (by go_simp) (by go_simp)
        · exact x0
        · exact Cells.mk4 (by go_simp) (by go_simp) (by go_simp) (by go_simp) (by go_simp) (by go_simp) (by go_simp) (by go_simp)
        · exact Cells.mk4 (by go_simp <;> rfl) (by go_simp <;> rfl) (by go_simp <;> rfl) (by go_simp <;> rfl) (by go_simp) (by go_simp) (by go_simp) (by go_simp)
        · rw [toNat_shr1]
          rw [← HINV.out]
          exact pow_round0 o m N.toNat (by omega)
        · show (numAt p3 (w.heap.size + 1)).toNat < (numAt w' (w.heap.size + 1)).toNat
          rw [numAt_eq x0, HNW.out, ← toNat_eq, ← toNat_eq, toNat_shr1]
          have := HD.out
          omega
end Go.Proofs.Ytjjapblpmpidcaa
