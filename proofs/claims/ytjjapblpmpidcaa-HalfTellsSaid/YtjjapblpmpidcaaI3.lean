import Derived.Test.YtjjapblpmpidcaaI2
import Derived.ChangeKeysEq
set_option linter.unusedVariables false
set_option linter.unusedSimpArgs false
namespace Go.Proofs.Ytjjapblpmpidcaa
open Go.RowKit Num UReg

/-! ### ref02.Words, and when states are equal -/

set_option maxHeartbeats 1000000 in
theorem rWords (u v : Value) (xs : List Int) (hn : xs.length ≤ 1000000) (w : World) (hu : Reads w .u64 u xs) (hv : Reads w .u64 v xs) : Calls Try.prog 50 #[u, v] w fun e w' =>
    e = .returned (.bool true) ∧ Ext w w' := by
  obtain ⟨p, cp, rfl, hp⟩ := hu.flat
  obtain ⟨q, cq, rfl, hq⟩ := hv.flat
  clear hu hv
  have t0 : decide (xs.length = xs.length) = true := by simp
  go_enter Try.func50, Try.ntmps50
  go_wp2_with fail
  go_loopw [5] (fun j wr => ∃ k : Nat, k ≤ xs.length ∧ j = .int .i64 k ∧ Ext w wr)
    (fun j _ => xs.length - (intOf j).toNat)
  case atStart => exact ⟨0, by omega, rfl, by first | exact Ext.refl _ | exact (Ext.refl _).drew⟩
  case round =>
    obtain ⟨k, hk, rfl, HX⟩ := hrel
    by_cases hlt : k < xs.length
    · obtain ⟨g, rfl, hg⟩ := hp k hlt
      obtain ⟨g', rfl, hg'⟩ := hq k hlt
      have c1 := HX.cell hg
      have c2 := HX.cell hg'
      clear hp hq hg hg'
      have z_1 := World.block_lt_of_cell? _ _ c1
      have z_2 := World.block_lt_of_cell? _ _ c2
      simp only at z_1 z_2
      go_wp2_with fail
      try dsimp only
      repeat (first | with_reducible refine wp_region_ext ?_ [(0, 0), (1, 0), (2, 0), (3, 1), (4, 0), (5, 0), (6, 0), (7, 1), (8, 0)] (fun _ => true) ?_ ?_ ?_ ?_ ?_ | go_step)
      · kernel_rfl
      · kernel_rfl
      · kernel_rfl
      · kernel_rfl
      · exact (fun _ _ d _ _ h => by cases d <;> exact h)
      refine run_pure (o := ?_) (v := ?_) (a' := ?_) ?_ ?_ ?_ ?_ ?_
      rotate_left 3
      · (simp only [List.getElem?_toArray, List.getElem?_cons_succ, List.getElem?_cons_zero] <;> rfl)
      · rfl
      · intro w'
        go_simp
        with_reducible rfl
      · simp only [Act.put, List.setIfInBounds_toArray, List.set_cons_zero, List.set_cons_succ]
        rfl
      refine run_pure (o := ?_) (v := ?_) (a' := ?_) ?_ ?_ ?_ ?_ ?_
      rotate_left 3
      · (simp only [List.getElem?_toArray, List.getElem?_cons_succ, List.getElem?_cons_zero] <;> rfl)
      · rfl
      · intro w'
        go_simp
        with_reducible rfl
      · simp only [Act.put, List.setIfInBounds_toArray, List.set_cons_zero, List.set_cons_succ]
        rfl
      refine run_pure (o := ?_) (v := ?_) (a' := ?_) ?_ ?_ ?_ ?_ ?_
      rotate_left 3
      · (simp only [List.getElem?_toArray, List.getElem?_cons_succ, List.getElem?_cons_zero] <;> rfl)
      · rfl
      · intro w'
        go_simp
        with_reducible rfl
      · simp only [Act.put, List.setIfInBounds_toArray, List.set_cons_zero, List.set_cons_succ]
        rfl
      refine run_read (o := ?_) (v := ?_) (a' := ?_) ?_ ?_ ?_ ?_ (Ext.refl _) ?_
      rotate_left 3
      · (simp only [List.getElem?_toArray, List.getElem?_cons_succ, List.getElem?_cons_zero] <;> rfl)
      · rfl
      · intro w' hw'
        obtain ⟨hc, hf⟩ := ext_cell hw'
        clear hw'
        go_simp
        with_reducible rfl
      · simp only [Act.put, List.setIfInBounds_toArray, List.set_cons_zero, List.set_cons_succ]
        rfl
      refine run_pure (o := ?_) (v := ?_) (a' := ?_) ?_ ?_ ?_ ?_ ?_
      rotate_left 3
      · (simp only [List.getElem?_toArray, List.getElem?_cons_succ, List.getElem?_cons_zero] <;> rfl)
      · rfl
      · intro w'
        go_simp
        with_reducible rfl
      · simp only [Act.put, List.setIfInBounds_toArray, List.set_cons_zero, List.set_cons_succ]
        rfl
      refine run_pure (o := ?_) (v := ?_) (a' := ?_) ?_ ?_ ?_ ?_ ?_
      rotate_left 3
      · (simp only [List.getElem?_toArray, List.getElem?_cons_succ, List.getElem?_cons_zero] <;> rfl)
      · rfl
      · intro w'
        go_simp
        with_reducible rfl
      · simp only [Act.put, List.setIfInBounds_toArray, List.set_cons_zero, List.set_cons_succ]
        rfl
      refine run_pure (o := ?_) (v := ?_) (a' := ?_) ?_ ?_ ?_ ?_ ?_
      rotate_left 3
      · (simp only [List.getElem?_toArray, List.getElem?_cons_succ, List.getElem?_cons_zero] <;> rfl)
      · rfl
      · intro w'
        go_simp
        with_reducible rfl
      · simp only [Act.put, List.setIfInBounds_toArray, List.set_cons_zero, List.set_cons_succ]
        rfl
      refine run_read (o := ?_) (v := ?_) (a' := ?_) ?_ ?_ ?_ ?_ (Ext.refl _) ?_
      rotate_left 3
      · (simp only [List.getElem?_toArray, List.getElem?_cons_succ, List.getElem?_cons_zero] <;> rfl)
      · rfl
      · intro w' hw'
        obtain ⟨hc, hf⟩ := ext_cell hw'
        clear hw'
        go_simp
        with_reducible rfl
      · simp only [Act.put, List.setIfInBounds_toArray, List.set_cons_zero, List.set_cons_succ]
        rfl
      refine run_pure (o := ?_) (v := ?_) (a' := ?_) ?_ ?_ ?_ ?_ ?_
      rotate_left 3
      · (simp only [List.getElem?_toArray, List.getElem?_cons_succ, List.getElem?_cons_zero] <;> rfl)
      · rfl
      · intro w'
        go_simp
        with_reducible rfl
      · simp only [Act.put, List.setIfInBounds_toArray, List.set_cons_zero, List.set_cons_succ]
        rfl
      refine run_nil (fun a1 hx => ?_)
      have hc_a1 := (ext_cell hx).1
      have hf_a1 := (ext_cell hx).2
      have HX_a1 := Lib.hid hx
      have y_a1 := hx.size
      try simp at y_a1
      clear hx
      go_wp2_with fail
      go_roundw
      case rel => exact ⟨k + 1, by omega, by simp, HX.trans HX_a1.out⟩
      case measure => simp [intOf]; omega
    · go_wp2_with fail
      go_ret
      exact ⟨rfl, HX⟩

theorem eqAK (d : Nat) (w : World) (x0 x1 y0 y1 : Int) :
    (Op.equalIn (d + 2) 86 (.agg #[.int .u32 x0, .int .u32 x1]) (.agg #[.int .u32 y0, .int .u32 y1])).run Try.prog w = .ok (decide (x0 = y0 ∧ x1 = y1)) w := by
  obtain ⟨i, hi⟩ := info_of_underlying Try.underlying84
  have hc : Try.prog.cellsOf 84 = 1 := by kernel_rfl
  rw [run_equalIn_array w (d + 1) _ _ Try.underlying86 hi]
  simp only [List.range, List.range.loop, Op.eqItems, hc]
  by_cases h0 : x0 = y0 <;> by_cases h1 : x1 = y1 <;> go_simp
attribute [go_sem] eqAK
theorem eqAKr (d : Nat) (w : World) (x0 x1 y0 y1 : Int) :
    (Op.equalIn (d + 2) 85 (.agg #[.int .u32 x0, .int .u32 x1]) (.agg #[.int .u32 y0, .int .u32 y1])).run Try.prog w = .ok (decide (x0 = y0 ∧ x1 = y1)) w := by
  obtain ⟨i, hi⟩ := info_of_underlying Try.underlying84
  have hc : Try.prog.cellsOf 84 = 1 := by kernel_rfl
  rw [run_equalIn_array w (d + 1) _ _ Try.underlying85 hi]
  simp only [List.range, List.range.loop, Op.eqItems, hc]
  by_cases h0 : x0 = y0 <;> by_cases h1 : x1 = y1 <;> go_simp
attribute [go_sem] eqAKr
theorem eqAB (d : Nat) (w : World) (x0 x1 x2 x3 y0 y1 y2 y3 : Int) :
    (Op.equalIn (d + 2) 103 (.agg #[.int .u32 x0, .int .u32 x1, .int .u32 x2, .int .u32 x3]) (.agg #[.int .u32 y0, .int .u32 y1, .int .u32 y2, .int .u32 y3])).run Try.prog w = .ok (decide (x0 = y0 ∧ x1 = y1 ∧ x2 = y2 ∧ x3 = y3)) w := by
  obtain ⟨i, hi⟩ := info_of_underlying Try.underlying84
  have hc : Try.prog.cellsOf 84 = 1 := by kernel_rfl
  rw [run_equalIn_array w (d + 1) _ _ Try.underlying103 hi]
  simp only [List.range, List.range.loop, Op.eqItems, hc]
  by_cases h0 : x0 = y0 <;> by_cases h1 : x1 = y1 <;> by_cases h2 : x2 = y2 <;> by_cases h3 : x3 = y3 <;> go_simp
attribute [go_sem] eqAB
theorem eqABr (d : Nat) (w : World) (x0 x1 x2 x3 y0 y1 y2 y3 : Int) :
    (Op.equalIn (d + 2) 102 (.agg #[.int .u32 x0, .int .u32 x1, .int .u32 x2, .int .u32 x3]) (.agg #[.int .u32 y0, .int .u32 y1, .int .u32 y2, .int .u32 y3])).run Try.prog w = .ok (decide (x0 = y0 ∧ x1 = y1 ∧ x2 = y2 ∧ x3 = y3)) w := by
  obtain ⟨i, hi⟩ := info_of_underlying Try.underlying84
  have hc : Try.prog.cellsOf 84 = 1 := by kernel_rfl
  rw [run_equalIn_array w (d + 1) _ _ Try.underlying102 hi]
  simp only [List.range, List.range.loop, Op.eqItems, hc]
  by_cases h0 : x0 = y0 <;> by_cases h1 : x1 = y1 <;> by_cases h2 : x2 = y2 <;> by_cases h3 : x3 = y3 <;> go_simp
attribute [go_sem] eqABr
theorem eqAW (d : Nat) (w : World) (x0 x1 y0 y1 : Int) :
    (Op.equalIn (d + 2) 109 (.agg #[.int .u64 x0, .int .u64 x1]) (.agg #[.int .u64 y0, .int .u64 y1])).run Try.prog w = .ok (decide (x0 = y0 ∧ x1 = y1)) w := by
  obtain ⟨i, hi⟩ := info_of_underlying Try.underlying26
  have hc : Try.prog.cellsOf 26 = 1 := by kernel_rfl
  rw [run_equalIn_array w (d + 1) _ _ Try.underlying109 hi]
  simp only [List.range, List.range.loop, Op.eqItems, hc]
  by_cases h0 : x0 = y0 <;> by_cases h1 : x1 = y1 <;> go_simp
attribute [go_sem] eqAW
theorem eqH (d : Nat) (w : World) (x0 x1 x2 x3 y0 y1 y2 y3 : Int) (x4 y4 : Bool) :
    (Op.equalIn (d + 3) 88 (.agg #[.int .u64 x0, .int .u64 x1, .int .u32 x2, .int .u32 x3, .bool x4]) (.agg #[.int .u64 y0, .int .u64 y1, .int .u32 y2, .int .u32 y3, .bool y4])).run Try.prog w = .ok (decide (x0 = y0 ∧ x1 = y1 ∧ x2 = y2 ∧ x3 = y3 ∧ x4 = y4)) w := by
  by_cases h0 : x0 = y0 <;> by_cases h1 : x1 = y1 <;> by_cases h2 : x2 = y2 <;> by_cases h3 : x3 = y3 <;> by_cases h4 : x4 = y4 <;> go_simp
attribute [go_sem] eqH
theorem eqHR (d : Nat) (w : World) (x0 x1 x2 x3 y0 y1 y2 y3 : Int) (x4 y4 : Bool) :
    (Op.equalIn (d + 3) 93 (.agg #[.int .u64 x0, .int .u64 x1, .int .u32 x2, .int .u32 x3, .bool x4]) (.agg #[.int .u64 y0, .int .u64 y1, .int .u32 y2, .int .u32 y3, .bool y4])).run Try.prog w = .ok (decide (x0 = y0 ∧ x1 = y1 ∧ x2 = y2 ∧ x3 = y3 ∧ x4 = y4)) w := by
  by_cases h0 : x0 = y0 <;> by_cases h1 : x1 = y1 <;> by_cases h2 : x2 = y2 <;> by_cases h3 : x3 = y3 <;> by_cases h4 : x4 = y4 <;> go_simp
attribute [go_sem] eqHR
end Go.Proofs.Ytjjapblpmpidcaa
