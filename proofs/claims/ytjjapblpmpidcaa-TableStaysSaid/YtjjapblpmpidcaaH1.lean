import Derived.Test.YtjjapblpmpidcaaXD
import Derived.Test.YtjjapblpmpidcaaK9
set_option linter.unusedVariables false
set_option linter.unusedSimpArgs false
namespace Go.Proofs.Ytjjapblpmpidcaa
open Go.RowKit Num UReg

theorem UReg.Cells.five {w : World} {b : Nat} {x y z t u : Value} (h : Cells w b [x, y, z, t, u]) :
    w.cell? ⟨b, 0, none⟩ = some x ∧ w.cell? ⟨b, 1, none⟩ = some y ∧ w.cell? ⟨b, 2, none⟩ = some z ∧ w.cell? ⟨b, 3, none⟩ = some t ∧ w.cell? ⟨b, 4, none⟩ = some u ∧
    w.frozen? ⟨b, 0, none⟩ = false ∧ w.frozen? ⟨b, 1, none⟩ = false ∧ w.frozen? ⟨b, 2, none⟩ = false ∧ w.frozen? ⟨b, 3, none⟩ = false ∧ w.frozen? ⟨b, 4, none⟩ = false :=
  ⟨(h 0 (by simp)).1, (h 1 (by simp)).1, (h 2 (by simp)).1, (h 3 (by simp)).1, (h 4 (by simp)).1, (h 0 (by simp)).2, (h 1 (by simp)).2, (h 2 (by simp)).2, (h 3 (by simp)).2, (h 4 (by simp)).2⟩
theorem UReg.Cells.mk5 {w : World} {b : Nat} {x y z t u : Value} (h0 : w.cell? ⟨b, 0, none⟩ = some x) (h1 : w.cell? ⟨b, 1, none⟩ = some y) (h2 : w.cell? ⟨b, 2, none⟩ = some z) (h3 : w.cell? ⟨b, 3, none⟩ = some t) (h4 : w.cell? ⟨b, 4, none⟩ = some u)
    (f0 : w.frozen? ⟨b, 0, none⟩ = false) (f1 : w.frozen? ⟨b, 1, none⟩ = false) (f2 : w.frozen? ⟨b, 2, none⟩ = false) (f3 : w.frozen? ⟨b, 3, none⟩ = false) (f4 : w.frozen? ⟨b, 4, none⟩ = false) : Cells w b [x, y, z, t, u]
  | 0, _ => ⟨h0, f0⟩
  | 1, _ => ⟨h1, f1⟩
  | 2, _ => ⟨h2, f2⟩
  | 3, _ => ⟨h3, f3⟩
  | 4, _ => ⟨h4, f4⟩

/-! ### half: Step, Back, Jump -/
theorem wAddG {a b s : V} (h : a + b = s) (w : World) : Calls Try.prog 40 #[.agg #[.int .u64 (hi a), .int .u64 (lo a)], .agg #[.int .u64 (hi b), .int .u64 (lo b)]] w fun e w' => e = .returned (.tuple #[.agg #[.int .u64 (hi s), .int .u64 (lo s)], .bool (over a b)]) ∧ Ext w w' := by
  have h1 := wAdd a b w
  rwa [h] at h1
theorem wSubG {a b s : V} (h : a - b = s) (w : World) : Calls Try.prog 65 #[.agg #[.int .u64 (hi a), .int .u64 (lo a)], .agg #[.int .u64 (hi b), .int .u64 (lo b)]] w fun e w' => e = .returned (.tuple #[.agg #[.int .u64 (hi s), .int .u64 (lo s)], .bool (less a b)]) ∧ Ext w w' := by
  have h1 := wSub a b w
  rwa [h] at h1
theorem wOf1 (w : World) : Calls Try.prog 42 #[.int .u64 1] w fun e w' => e = .returned (.agg #[.int .u64 (hi (1#128)), .int .u64 (lo (1#128))]) ∧ Ext w w' :=
  wOf 1 (by unfold Word; omega) w
theorem hOwn (c : V) (k0 k1 : Int) (b : Bool) (w : World) : Calls Try.prog 47 #[.agg #[.int .u64 (hi c), .int .u64 (lo c), .int .u32 k0, .int .u32 k1, .bool b]] w fun e w' => e = .returned (.agg #[.int .u64 (hi c), .int .u64 (lo c), .int .u32 k0, .int .u32 k1, .bool b]) ∧ Ext w w' := by
  go_enter Try.func47, Try.ntmps47
  go_wp2
  refine bodyPost_ret (v := ?_) ?_ rfl ⟨?_, ?_⟩
  rotate_left
  · simp only [results, Try.results47]
    go_simp
    with_reducible rfl
  · rfl
  · repeat (first | with_reducible exact Ext.refl _ | with_reducible refine Ext.alloc ?_ _ | (with_reducible refine Ext.setCell ?_ (by simp <;> omega) _) | with_reducible refine Ext.drew ?_)
set_option maxHeartbeats 1000000 in
theorem hStep_f (c : V) (k0 k1 : Int) (w : World) : Calls Try.prog 52 #[.agg #[.int .u64 (hi c), .int .u64 (lo c), .int .u32 k0, .int .u32 k1, .bool false]] w fun e w' => e = .returned (.agg #[.int .u64 (hi c), .int .u64 (lo c), .int .u32 k0, .int .u32 k1, .bool true]) ∧ Ext w w' := by
  go_enter Try.func52, Try.ntmps52
  go_wp2
  refine bodyPost_ret (v := ?_) ?_ rfl ⟨?_, ?_⟩
  rotate_left
  · simp only [results, Try.results52]
    go_simp
    with_reducible rfl
  · rfl
  · repeat (first | with_reducible exact Ext.refl _ | with_reducible refine Ext.alloc ?_ _ | (with_reducible refine Ext.setCell ?_ (by simp <;> omega) _) | with_reducible refine Ext.drew ?_)
set_option maxHeartbeats 1000000 in
theorem hStep_t {c d : V} (h : c + 1#128 = d) (k0 k1 : Int) (w : World) : Calls Try.prog 52 #[.agg #[.int .u64 (hi c), .int .u64 (lo c), .int .u32 k0, .int .u32 k1, .bool true]] w fun e w' => e = .returned (.agg #[.int .u64 (hi d), .int .u64 (lo d), .int .u32 k0, .int .u32 k1, .bool false]) ∧ Ext w w' := by
  have HD := Lib.hid h; clear h
  go_enter Try.func52, Try.ntmps52
  try dsimp only
  repeat (first | with_reducible refine wp_region_ext ?_ [(0, 0), (1, 1), (2, 1), (3, 1), (4, 0), (5, 0), (6, 0), (7, 0), (8, 2)] (fun i => !(i == 8)) ?_ ?_ ?_ ?_ ?_ | go_step)
  · kernel_rfl
  · kernel_rfl
  · kernel_rfl
  · kernel_rfl
  · exact (fun _ _ d _ _ h => by cases d <;> exact h)
  refine run_pure (o := ?_) (v := ?_) (a' := ?_) ?_ ?_ ?_ ?_ ?_
  rotate_left 3
  · (simp only [List.getElem?_toArray, List.getElem?_cons_succ, List.getElem?_cons_zero] <;> rfl)
  · rfl
  · intro w'
    go_simp
    with_reducible rfl
  · simp only [Act.put, List.setIfInBounds_toArray, List.set_cons_zero, List.set_cons_succ]
    rfl
  refine run_read (o := ?_) (v := ?_) (a' := ?_) ?_ ?_ ?_ ?_ (Ext.refl _) ?_
  rotate_left 3
  · (simp only [List.getElem?_toArray, List.getElem?_cons_succ, List.getElem?_cons_zero] <;> rfl)
  · rfl
  · intro w' hw'
    obtain ⟨hc, hf⟩ := ext_cell hw'
    clear hw'
    go_simp
    with_reducible rfl
  · simp only [Act.put, List.setIfInBounds_toArray, List.set_cons_zero, List.set_cons_succ]
    rfl
  refine run_call (f := 42) (args := ?_) (o := ?_) (v := ?_) (a' := ?_) ?_ ?_ ?_ ?_ ?_ (Ext.refl _) ?_
  rotate_left 4
  · (simp only [List.getElem?_toArray, List.getElem?_cons_succ, List.getElem?_cons_zero] <;> rfl)
  · rfl
  · intro w'
    go_simp
    with_reducible rfl
  · intro w' hw'
    exact (wOf1 _)
  · simp only [Act.put, List.setIfInBounds_toArray, List.set_cons_zero, List.set_cons_succ]
    rfl
  refine run_call (f := 40) (args := ?_) (o := ?_) (v := ?_) (a' := ?_) ?_ ?_ ?_ ?_ ?_ (Ext.refl _) ?_
  rotate_left 4
  · (simp only [List.getElem?_toArray, List.getElem?_cons_succ, List.getElem?_cons_zero] <;> rfl)
  · rfl
  · intro w'
    go_simp
    with_reducible rfl
  · intro w' hw'
    exact (wAddG HD.out _)
  · simp only [Act.put, List.setIfInBounds_toArray, List.set_cons_zero, List.set_cons_succ]
    rfl
  refine run_pure (o := ?_) (v := ?_) (a' := ?_) ?_ ?_ ?_ ?_ ?_
  rotate_left 3
  · (simp only [List.getElem?_toArray, List.getElem?_cons_succ, List.getElem?_cons_zero] <;> rfl)
  · rfl
  · intro w'
    go_simp
    with_reducible rfl
  · simp only [Act.put, List.setIfInBounds_toArray, List.set_cons_zero, List.set_cons_succ]
    rfl
  refine run_pure (o := ?_) (v := ?_) (a' := ?_) ?_ ?_ ?_ ?_ ?_
  rotate_left 3
  · (simp only [List.getElem?_toArray, List.getElem?_cons_succ, List.getElem?_cons_zero] <;> rfl)
  · rfl
  · intro w'
    go_simp
    with_reducible rfl
  · simp only [Act.put, List.setIfInBounds_toArray, List.set_cons_zero, List.set_cons_succ]
    rfl
  refine run_pure (o := ?_) (v := ?_) (a' := ?_) ?_ ?_ ?_ ?_ ?_
  rotate_left 3
  · (simp only [List.getElem?_toArray, List.getElem?_cons_succ, List.getElem?_cons_zero] <;> rfl)
  · rfl
  · intro w'
    go_simp
    with_reducible rfl
  · simp only [Act.put, List.setIfInBounds_toArray, List.set_cons_zero, List.set_cons_succ]
    rfl
  refine run_pure (o := ?_) (v := ?_) (a' := ?_) ?_ ?_ ?_ ?_ ?_
  rotate_left 3
  · (simp only [List.getElem?_toArray, List.getElem?_cons_succ, List.getElem?_cons_zero] <;> rfl)
  · rfl
  · intro w'
    go_simp
    with_reducible rfl
  · simp only [Act.put, List.setIfInBounds_toArray, List.set_cons_zero, List.set_cons_succ]
    rfl
  refine run_do (o := ?_) ?_ ?_ (fun d1 hx K hK => ?_)
  rotate_left
  · (simp only [List.getElem?_toArray, List.getElem?_cons_succ, List.getElem?_cons_zero] <;> rfl)
  · rfl
  have hc_d1 := (ext_cell hx).1
  have hf_d1 := (ext_cell hx).2
  have HX_d1 := Lib.hid hx
  have y_d1 := hx.size
  try simp at y_d1
  have z_d1_w_0 : w.heap.size < d1.heap.size := by omega
  have z_d1_w_1 : w.heap.size + 1 < d1.heap.size := by omega
  clear hx
  go_simp
  refine hK _ _ (fun h => absurd h (by decide)) ?_
  clear hK K
  refine run_nil (fun d2 hx => ?_)
  have hc_d2 := (ext_cell hx).1
  have hf_d2 := (ext_cell hx).2
  have HX_d2 := Lib.hid hx
  have y_d2 := hx.size
  try simp at y_d2
  have z_d2_w_0 : w.heap.size < d2.heap.size := by omega
  have z_d2_w_1 : w.heap.size + 1 < d2.heap.size := by omega
  clear hx
  have hz1 : w.heap.size < d1.heap.size := by omega
  have hb1 : Cells d1 w.heap.size [.int .u64 (hi c), .int .u64 (lo c), .int .u32 k0, .int .u32 k1, .bool true] := Cells.mk5 (by go_simp <;> rfl) (by go_simp <;> rfl) (by go_simp <;> rfl) (by go_simp <;> rfl) (by go_simp <;> rfl) (by go_simp) (by go_simp) (by go_simp) (by go_simp) (by go_simp)
  have hr1 : Cells d1 (w.heap.size + 1) [.int .u64 0, .int .u64 0, .int .u32 0, .int .u32 0, .bool false] := Cells.mk5 (by go_simp <;> rfl) (by go_simp <;> rfl) (by go_simp <;> rfl) (by go_simp <;> rfl) (by go_simp <;> rfl) (by go_simp) (by go_simp) (by go_simp) (by go_simp) (by go_simp)
  have hb2 := ((hb1.set 0 (.int .u64 (hi d))).set 1 (.int .u64 (lo d))).ext HX_d2.out
  have hr2 := ((hr1.other (by omega) 0 (.int .u64 (hi d))).other (by omega) 1 (.int .u64 (lo d))).ext HX_d2.out
  simp only [List.set_cons_zero, List.set_cons_succ] at hb2
  obtain ⟨c0, c1, c2, c3, c4, cf0, cf1, cf2, cf3, cf4⟩ := hb2.five
  obtain ⟨r0, r1, r2, r3, r4, rf0, rf1, rf2, rf3, rf4⟩ := hr2.five
  clear hc_d1 hf_d1 hc_d2 hf_d2 hb1 hr1 hb2 hr2
  go_wp2
  refine bodyPost_ret (v := ?_) ?_ rfl ⟨?_, ?_⟩
  rotate_left
  · simp only [results, Try.results52]
    go_simp
    with_reducible rfl
  · rfl
  · repeat (first | with_reducible exact Ext.refl _ | with_reducible refine Ext.alloc ?_ _ | (with_reducible refine Ext.setCell ?_ (by simp <;> omega) _) | with_reducible refine Ext.drew ?_ | with_reducible refine Ext.trans ?_ HX_d2.out | with_reducible refine Ext.trans ?_ HX_d1.out)
set_option maxHeartbeats 1000000 in
theorem hBack_t (c : V) (k0 k1 : Int) (w : World) : Calls Try.prog 77 #[.agg #[.int .u64 (hi c), .int .u64 (lo c), .int .u32 k0, .int .u32 k1, .bool true]] w fun e w' => e = .returned (.agg #[.int .u64 (hi c), .int .u64 (lo c), .int .u32 k0, .int .u32 k1, .bool false]) ∧ Ext w w' := by
  go_enter Try.func77, Try.ntmps77
  go_wp2
  refine bodyPost_ret (v := ?_) ?_ rfl ⟨?_, ?_⟩
  rotate_left
  · simp only [results, Try.results77]
    go_simp
    with_reducible rfl
  · rfl
  · repeat (first | with_reducible exact Ext.refl _ | with_reducible refine Ext.alloc ?_ _ | (with_reducible refine Ext.setCell ?_ (by simp <;> omega) _) | with_reducible refine Ext.drew ?_)
set_option maxHeartbeats 1000000 in
theorem hBack_f {c d : V} (h : c - 1#128 = d) (k0 k1 : Int) (w : World) : Calls Try.prog 77 #[.agg #[.int .u64 (hi c), .int .u64 (lo c), .int .u32 k0, .int .u32 k1, .bool false]] w fun e w' => e = .returned (.agg #[.int .u64 (hi d), .int .u64 (lo d), .int .u32 k0, .int .u32 k1, .bool true]) ∧ Ext w w' := by
  have HD := Lib.hid h; clear h
  go_enter Try.func77, Try.ntmps77
  try dsimp only
  repeat (first | with_reducible refine wp_region_ext ?_ [(0, 0), (1, 1), (2, 1), (3, 1), (4, 0), (5, 0), (6, 0), (7, 0), (8, 2)] (fun i => !(i == 8)) ?_ ?_ ?_ ?_ ?_ | go_step)
  · kernel_rfl
  · kernel_rfl
  · kernel_rfl
  · kernel_rfl
  · exact (fun _ _ d _ _ h => by cases d <;> exact h)
  refine run_pure (o := ?_) (v := ?_) (a' := ?_) ?_ ?_ ?_ ?_ ?_
  rotate_left 3
  · (simp only [List.getElem?_toArray, List.getElem?_cons_succ, List.getElem?_cons_zero] <;> rfl)
  · rfl
  · intro w'
    go_simp
    with_reducible rfl
  · simp only [Act.put, List.setIfInBounds_toArray, List.set_cons_zero, List.set_cons_succ]
    rfl
  refine run_read (o := ?_) (v := ?_) (a' := ?_) ?_ ?_ ?_ ?_ (Ext.refl _) ?_
  rotate_left 3
  · (simp only [List.getElem?_toArray, List.getElem?_cons_succ, List.getElem?_cons_zero] <;> rfl)
  · rfl
  · intro w' hw'
    obtain ⟨hc, hf⟩ := ext_cell hw'
    clear hw'
    go_simp
    with_reducible rfl
  · simp only [Act.put, List.setIfInBounds_toArray, List.set_cons_zero, List.set_cons_succ]
    rfl
  refine run_call (f := 42) (args := ?_) (o := ?_) (v := ?_) (a' := ?_) ?_ ?_ ?_ ?_ ?_ (Ext.refl _) ?_
  rotate_left 4
  · (simp only [List.getElem?_toArray, List.getElem?_cons_succ, List.getElem?_cons_zero] <;> rfl)
  · rfl
  · intro w'
    go_simp
    with_reducible rfl
  · intro w' hw'
    exact (wOf1 _)
  · simp only [Act.put, List.setIfInBounds_toArray, List.set_cons_zero, List.set_cons_succ]
    rfl
  refine run_call (f := 65) (args := ?_) (o := ?_) (v := ?_) (a' := ?_) ?_ ?_ ?_ ?_ ?_ (Ext.refl _) ?_
  rotate_left 4
  · (simp only [List.getElem?_toArray, List.getElem?_cons_succ, List.getElem?_cons_zero] <;> rfl)
  · rfl
  · intro w'
    go_simp
    with_reducible rfl
  · intro w' hw'
    exact (wSubG HD.out _)
  · simp only [Act.put, List.setIfInBounds_toArray, List.set_cons_zero, List.set_cons_succ]
    rfl
  refine run_pure (o := ?_) (v := ?_) (a' := ?_) ?_ ?_ ?_ ?_ ?_
  rotate_left 3
  · (simp only [List.getElem?_toArray, List.getElem?_cons_succ, List.getElem?_cons_zero] <;> rfl)
  · rfl
  · intro w'
    go_simp
    with_reducible rfl
  · simp only [Act.put, List.setIfInBounds_toArray, List.set_cons_zero, List.set_cons_succ]
    rfl
  refine run_pure (o := ?_) (v := ?_) (a' := ?_) ?_ ?_ ?_ ?_ ?_
  rotate_left 3
  · (simp only [List.getElem?_toArray, List.getElem?_cons_succ, List.getElem?_cons_zero] <;> rfl)
  · rfl
  · intro w'
    go_simp
    with_reducible rfl
  · simp only [Act.put, List.setIfInBounds_toArray, List.set_cons_zero, List.set_cons_succ]
    rfl
  refine run_pure (o := ?_) (v := ?_) (a' := ?_) ?_ ?_ ?_ ?_ ?_
  rotate_left 3
  · (simp only [List.getElem?_toArray, List.getElem?_cons_succ, List.getElem?_cons_zero] <;> rfl)
  · rfl
  · intro w'
    go_simp
    with_reducible rfl
  · simp only [Act.put, List.setIfInBounds_toArray, List.set_cons_zero, List.set_cons_succ]
    rfl
  refine run_pure (o := ?_) (v := ?_) (a' := ?_) ?_ ?_ ?_ ?_ ?_
  rotate_left 3
  · (simp only [List.getElem?_toArray, List.getElem?_cons_succ, List.getElem?_cons_zero] <;> rfl)
  · rfl
  · intro w'
    go_simp
    with_reducible rfl
  · simp only [Act.put, List.setIfInBounds_toArray, List.set_cons_zero, List.set_cons_succ]
    rfl
  refine run_do (o := ?_) ?_ ?_ (fun d1 hx K hK => ?_)
  rotate_left
  · (simp only [List.getElem?_toArray, List.getElem?_cons_succ, List.getElem?_cons_zero] <;> rfl)
  · rfl
  have hc_d1 := (ext_cell hx).1
  have hf_d1 := (ext_cell hx).2
  have HX_d1 := Lib.hid hx
  have y_d1 := hx.size
  try simp at y_d1
  have z_d1_w_0 : w.heap.size < d1.heap.size := by omega
  have z_d1_w_1 : w.heap.size + 1 < d1.heap.size := by omega
  clear hx
  go_simp
  refine hK _ _ (fun h => absurd h (by decide)) ?_
  clear hK K
  refine run_nil (fun d2 hx => ?_)
  have hc_d2 := (ext_cell hx).1
  have hf_d2 := (ext_cell hx).2
  have HX_d2 := Lib.hid hx
  have y_d2 := hx.size
  try simp at y_d2
  have z_d2_w_0 : w.heap.size < d2.heap.size := by omega
  have z_d2_w_1 : w.heap.size + 1 < d2.heap.size := by omega
  clear hx
  have hz1 : w.heap.size < d1.heap.size := by omega
  have hb1 : Cells d1 w.heap.size [.int .u64 (hi c), .int .u64 (lo c), .int .u32 k0, .int .u32 k1, .bool false] := Cells.mk5 (by go_simp <;> rfl) (by go_simp <;> rfl) (by go_simp <;> rfl) (by go_simp <;> rfl) (by go_simp <;> rfl) (by go_simp) (by go_simp) (by go_simp) (by go_simp) (by go_simp)
  have hr1 : Cells d1 (w.heap.size + 1) [.int .u64 0, .int .u64 0, .int .u32 0, .int .u32 0, .bool false] := Cells.mk5 (by go_simp <;> rfl) (by go_simp <;> rfl) (by go_simp <;> rfl) (by go_simp <;> rfl) (by go_simp <;> rfl) (by go_simp) (by go_simp) (by go_simp) (by go_simp) (by go_simp)
  have hb2 := ((hb1.set 0 (.int .u64 (hi d))).set 1 (.int .u64 (lo d))).ext HX_d2.out
  have hr2 := ((hr1.other (by omega) 0 (.int .u64 (hi d))).other (by omega) 1 (.int .u64 (lo d))).ext HX_d2.out
  simp only [List.set_cons_zero, List.set_cons_succ] at hb2
  obtain ⟨c0, c1, c2, c3, c4, cf0, cf1, cf2, cf3, cf4⟩ := hb2.five
  obtain ⟨r0, r1, r2, r3, r4, rf0, rf1, rf2, rf3, rf4⟩ := hr2.five
  clear hc_d1 hf_d1 hc_d2 hf_d2 hb1 hr1 hb2 hr2
  go_wp2
  refine bodyPost_ret (v := ?_) ?_ rfl ⟨?_, ?_⟩
  rotate_left
  · simp only [results, Try.results77]
    go_simp
    with_reducible rfl
  · rfl
  · repeat (first | with_reducible exact Ext.refl _ | with_reducible refine Ext.alloc ?_ _ | (with_reducible refine Ext.setCell ?_ (by simp <;> omega) _) | with_reducible refine Ext.drew ?_ | with_reducible refine Ext.trans ?_ HX_d2.out | with_reducible refine Ext.trans ?_ HX_d1.out)
/-- The next number, the next half. -/
def stepC (c : V) (b : Bool) : V := if b then c + 1#128 else c
theorem hStep {c d : V} {b b' : Bool} (h : stepC c b = d) (hb : (!b) = b') (k0 k1 : Int) (w : World) : Calls Try.prog 52 #[.agg #[.int .u64 (hi c), .int .u64 (lo c), .int .u32 k0, .int .u32 k1, .bool b]] w fun e w' => e = .returned (.agg #[.int .u64 (hi d), .int .u64 (lo d), .int .u32 k0, .int .u32 k1, .bool b']) ∧ Ext w w' := by
  subst h hb
  cases b
  · exact hStep_f c k0 k1 w
  · exact hStep_t rfl k0 k1 w
set_option maxHeartbeats 1000000 in
theorem rStep_f (c : V) (k0 k1 : Int) (w : World) : Calls Try.prog 49 #[.agg #[.int .u64 (hi c), .int .u64 (lo c), .int .u32 k0, .int .u32 k1, .bool false]] w fun e w' => e = .returned (.agg #[.int .u64 (hi c), .int .u64 (lo c), .int .u32 k0, .int .u32 k1, .bool true]) ∧ Ext w w' := by
  go_enter Try.func49, Try.ntmps49
  go_wp2
  refine bodyPost_ret (v := ?_) ?_ rfl ⟨?_, ?_⟩
  rotate_left
  · simp only [results, Try.results49]
    go_simp
    with_reducible rfl
  · rfl
  · repeat (first | with_reducible exact Ext.refl _ | with_reducible refine Ext.alloc ?_ _ | (with_reducible refine Ext.setCell ?_ (by simp <;> omega) _) | with_reducible refine Ext.drew ?_)
theorem rAddOne {a s : V} (h : a + 1#128 = s) (w : World) : Calls Try.prog 68 #[.agg #[.int .u64 (hi a), .int .u64 (lo a)], .agg #[.int .u64 0, .int .u64 1]] w fun e w' => e = .returned (.tuple #[.agg #[.int .u64 (hi s), .int .u64 (lo s)], .bool (over a (mk 0 1))]) ∧ Ext w w' :=
  rAdd1 (by rw [← h]; rfl) w
set_option maxHeartbeats 1000000 in
theorem rStep_t {c d : V} (h : c + 1#128 = d) (k0 k1 : Int) (w : World) : Calls Try.prog 49 #[.agg #[.int .u64 (hi c), .int .u64 (lo c), .int .u32 k0, .int .u32 k1, .bool true]] w fun e w' => e = .returned (.agg #[.int .u64 (hi d), .int .u64 (lo d), .int .u32 k0, .int .u32 k1, .bool false]) ∧ Ext w w' := by
  have HD := Lib.hid h; clear h
  go_enter Try.func49, Try.ntmps49
  go_wp2_with fail
  refine (rAddOne HD.out _).mono ?_
  rintro e w1 ⟨rfl, hx⟩
  have hc_w1 := (ext_cell hx).1
  have hf_w1 := (ext_cell hx).2
  have HX_w1 := Lib.hid hx
  have y_w1 := hx.size
  try simp at y_w1
  have z_w1_w_0 : w.heap.size < w1.heap.size := by omega
  have z_w1_w_1 : w.heap.size + 1 < w1.heap.size := by omega
  clear hx
  go_wp2
  refine bodyPost_ret (v := ?_) ?_ rfl ⟨?_, ?_⟩
  rotate_left
  · simp only [results, Try.results49]
    go_simp
    with_reducible rfl
  · rfl
  · repeat (first | with_reducible exact Ext.refl _ | with_reducible refine Ext.alloc ?_ _ | (with_reducible refine Ext.setCell ?_ (by simp <;> omega) _) | with_reducible refine Ext.drew ?_ | with_reducible refine Ext.trans ?_ HX_w1.out)
theorem rStep12 {c d : V} {b b' : Bool} (h : stepC c b = d) (hb : (!b) = b') (k0 k1 : Int) (w : World) : Calls Try.prog 49 #[.agg #[.int .u64 (hi c), .int .u64 (lo c), .int .u32 k0, .int .u32 k1, .bool b]] w fun e w' => e = .returned (.agg #[.int .u64 (hi d), .int .u64 (lo d), .int .u32 k0, .int .u32 k1, .bool b']) ∧ Ext w w' := by
  subst h hb
  cases b
  · exact rStep_f c k0 k1 w
  · exact rStep_t rfl k0 k1 w
/-- The halves behind so many steps. -/
def jumpC (c : V) (b : Bool) : Nat → V × Bool
  | 0 => (c, b)
  | k + 1 => (stepC (jumpC c b k).1 (jumpC c b k).2, !(jumpC c b k).2)
end Go.Proofs.Ytjjapblpmpidcaa
