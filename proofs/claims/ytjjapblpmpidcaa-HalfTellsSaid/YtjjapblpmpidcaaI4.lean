import Derived.Test.YtjjapblpmpidcaaI3
set_option linter.unusedVariables false
set_option linter.unusedSimpArgs false
namespace Go.Proofs.Ytjjapblpmpidcaa
open Go.RowKit Num UReg

/-! ### awake of layer 12 -/
theorem UReg.Reads.lit2 (w : World) (k : IntKind) (a b : Int) (t : TypeId) : Reads (w.alloc (.cells #[.int k a, .int k b] t)) k (.slice (some ⟨w.heap.size, 0, none⟩) 2 2) [a, b] := by
  refine .inr ⟨_, _, rfl, fun j hj => ?_⟩
  have : j = 0 ∨ j = 1 := by simp at hj; omega
  rcases this with rfl | rfl <;> simp
theorem hWords_aw1 (w : World) : Calls Try.prog 46 #[.agg #[.int .u64 0, .int .u64 0, .int .u32 0, .int .u32 0, .bool false], .int .i64 2] w fun e w' =>
    ∃ v, e = .returned (.tuple #[v, .agg #[.int .u64 0, .int .u64 1, .int .u32 0, .int .u32 0, .bool false], .int .i64 0]) ∧ Reads w' .u64 v [16242730742183356629, 11169168799798111308] ∧ Ext w w' := by
  have h := hWords_ok 0#128 0 0 false ⟨⟨by decide, by decide⟩, ⟨by decide, by decide⟩⟩ 2 (by decide) w
  rwa [hi_zero, lo_zero, show jumpC 0#128 false 2 = (1#128, false) from by decide +kernel, show hws 0#128 (0, 0) false 2 = [16242730742183356629, 11169168799798111308] from by decide +kernel, show hi (1#128, false).1 = 0 from by decide +kernel, show lo (1#128, false).1 = 1 from by decide +kernel] at h
theorem hWords_aw2 (w : World) : Calls Try.prog 46 #[.agg #[.int .u64 0, .int .u64 0, .int .u32 0, .int .u32 0, .bool false], .int .i64 257] w fun e w' =>
    e = .returned (.tuple #[.slice none 0 0, .agg #[.int .u64 0, .int .u64 0, .int .u32 0, .int .u32 0, .bool false], .int .i64 1]) ∧ Ext w w' := by
  have h := hWords_bad 0#128 0 0 257 false (Or.inr (by decide)) w
  rwa [hi_zero, lo_zero] at h
theorem wOfC {n : Int} (h : Word n) (w : World) : Calls Try.prog 42 #[.int .u64 n] w fun e w' => e = .returned (.agg #[.int .u64 0, .int .u64 n]) ∧ Ext w w' := by
  have h1 := wOf n h w
  rwa [of, hi_mk 0 n (by unfold Word; omega) h, lo_mk 0 n (by unfold Word; omega) h] at h1
theorem hStep_aw (w : World) : Calls Try.prog 52 #[.agg #[.int .u64 18446744073709551615, .int .u64 18446744073709551615, .int .u32 0, .int .u32 0, .bool true]] w fun e w' =>
    e = .returned (.agg #[.int .u64 0, .int .u64 0, .int .u32 0, .int .u32 0, .bool false]) ∧ Ext w w' := by
  have h := hStep (c := -1#128) (d := 0#128) (b := true) (b' := false) (by decide +kernel) rfl 0 0 w
  rwa [hi_zero, lo_zero, show hi (-1#128) = 18446744073709551615 from by decide +kernel, show lo (-1#128) = 18446744073709551615 from by decide +kernel] at h
theorem hBack_aw (w : World) : Calls Try.prog 77 #[.agg #[.int .u64 0, .int .u64 0, .int .u32 0, .int .u32 0, .bool false]] w fun e w' =>
    e = .returned (.agg #[.int .u64 18446744073709551615, .int .u64 18446744073709551615, .int .u32 0, .int .u32 0, .bool true]) ∧ Ext w w' := by
  have h := hBack_f (c := 0#128) (d := -1#128) (by decide +kernel) 0 0 w
  rwa [hi_zero, lo_zero, show hi (-1#128) = 18446744073709551615 from by decide +kernel, show lo (-1#128) = 18446744073709551615 from by decide +kernel] at h
theorem hJump_aw4 (w : World) : Calls Try.prog 53 #[.agg #[.int .u64 0, .int .u64 0, .int .u32 0, .int .u32 0, .bool true], .agg #[.int .u64 0, .int .u64 4]] w fun e w' =>
    e = .returned (.agg #[.int .u64 0, .int .u64 2, .int .u32 0, .int .u32 0, .bool true]) ∧ Ext w w' := by
  have h := hJump (c := 0#128) (d := 2#128) (b := true) (b' := true) (n := 4#128) (by decide +kernel) 0 0 w
  rwa [hi_zero, lo_zero, show hi 2#128 = 0 from by decide +kernel, show lo 2#128 = 2 from by decide +kernel, show hi 4#128 = 0 from by decide +kernel, show lo 4#128 = 4 from by decide +kernel] at h
theorem hJump_aw5 (w : World) : Calls Try.prog 53 #[.agg #[.int .u64 0, .int .u64 0, .int .u32 0, .int .u32 0, .bool true], .agg #[.int .u64 0, .int .u64 5]] w fun e w' =>
    e = .returned (.agg #[.int .u64 0, .int .u64 3, .int .u32 0, .int .u32 0, .bool false]) ∧ Ext w w' := by
  have h := hJump (c := 0#128) (d := 3#128) (b := true) (b' := false) (n := 5#128) (by decide +kernel) 0 0 w
  rwa [hi_zero, lo_zero, show hi 3#128 = 0 from by decide +kernel, show lo 3#128 = 3 from by decide +kernel, show hi 5#128 = 0 from by decide +kernel, show lo 5#128 = 5 from by decide +kernel] at h
theorem hBlock_aw (w : World) : Calls Try.prog 55 #[.agg #[.int .u64 12884901892, .int .u64 4294967298]] w fun e w' =>
    e = .returned (.agg #[.int .u32 2, .int .u32 1, .int .u32 4, .int .u32 3]) ∧ Ext w w' := by
  have h := hBlock (c := mk 12884901892 4294967298) (b0 := 2) (b1 := 1) (b2 := 4) (b3 := 3) (by decide +kernel) w
  rwa [show hi (mk 12884901892 4294967298) = 12884901892 from by decide +kernel, show lo (mk 12884901892 4294967298) = 4294967298 from by decide +kernel] at h
theorem hNumber_aw (w : World) : Calls Try.prog 78 #[.agg #[.int .u32 2, .int .u32 1, .int .u32 4, .int .u32 3]] w fun e w' =>
    e = .returned (.agg #[.int .u64 12884901892, .int .u64 4294967298]) ∧ Ext w w' :=
  hNumber ⟨by decide, by decide⟩ ⟨by decide, by decide⟩ ⟨by decide, by decide⟩ ⟨by decide, by decide⟩ (by decide) (by decide) w

set_option maxHeartbeats 4000000 in
set_option maxRecDepth 100000 in
theorem awake12 (w : World) : Calls Try.prog 45 #[] w fun e w' => e = .returned (.bool true) ∧ Ext w w' := by
  go_enter Try.func45, Try.ntmps45
  go_wp2_with fail
  refine (hWords_aw1 _).mono ?_
  rintro e w3 ⟨v, rfl, hr, hx⟩
  have hc_w3 := (ext_cell hx).1
  have hf_w3 := (ext_cell hx).2
  have HX_w3 := Lib.hid hx
  have y_w3 := hx.size
  try simp at y_w3
  clear hx
  go_wp2_with fail
  refine (hWords_aw2 _).mono ?_
  rintro e w4 ⟨rfl, hx⟩
  have hc_w4 := (ext_cell hx).1
  have hf_w4 := (ext_cell hx).2
  have HX_w4 := Lib.hid hx
  have y_w4 := hx.size
  try simp at y_w4
  have z_w4_w3_0 : w3.heap.size < w4.heap.size := by omega
  clear hx
  have zz : w3.heap.size < w4.heap.size + 1 + 1 := by omega
  try dsimp only
  repeat (first | with_reducible refine wp_region_ext ?_ [(0, 0), (1, 2), (2, 2), (3, 0), (4, 1), (5, 1), (6, 0), (7, 0), (8, 0), (9, 0), (10, 0), (11, 0), (12, 0), (13, 0), (14, 0), (15, 0), (16, 0), (17, 0), (18, 1), (19, 1), (20, 0), (21, 0), (22, 0), (23, 0), (24, 0), (25, 1), (26, 1), (27, 0), (28, 0), (29, 0), (30, 0), (31, 1), (32, 1), (33, 1), (34, 0), (35, 0), (36, 0), (37, 0), (38, 0), (39, 1), (40, 1), (41, 1), (42, 0), (43, 0), (44, 0), (45, 0), (46, 0), (47, 1), (48, 0), (49, 0), (50, 0), (51, 0), (52, 0), (53, 1), (54, 0), (55, 0), (56, 0), (57, 0)] (fun _ => true) ?_ ?_ ?_ ?_ ?_ | go_step)
  · kernel_rfl
  · kernel_rfl
  · kernel_rfl
  · kernel_rfl
  · exact (fun _ _ d _ _ h => by cases d <;> exact h)
  refine run_pure (o := ?_) (v := ?_) (a' := ?_) ?_ ?_ ?_ ?_ ?_
  rotate_left 3
  · (simp only [List.getElem?_toArray, List.getElem?_cons_succ, List.getElem?_cons_zero] <;> rfl)
  · rfl
  · intro w'
    go_simp
    with_reducible rfl
  · simp only [Act.put, List.setIfInBounds_toArray, List.set_cons_zero, List.set_cons_succ]
    rfl
  refine run_do (o := ?_) ?_ ?_ (fun e1 hx K hK => ?_)
  rotate_left
  · (simp only [List.getElem?_toArray, List.getElem?_cons_succ, List.getElem?_cons_zero] <;> rfl)
  · rfl
  have hc_e1 := (ext_cell hx).1
  have hf_e1 := (ext_cell hx).2
  have HX_e1 := Lib.hid hx
  have y_e1 := hx.size
  try simp at y_e1
  have z_e1_w3_0 : w3.heap.size < e1.heap.size := by omega
  have z_e1_w4_0 : w4.heap.size < e1.heap.size := by omega
  have z_e1_w4_1 : w4.heap.size + 1 < e1.heap.size := by omega
  clear hx
  go_simp
  refine hK _ _ (fun _ hs => hs.alloc _) ?_
  clear hK K
  try simp only [Act.put, List.setIfInBounds_toArray, List.set_cons_zero, List.set_cons_succ]
  refine run_do (o := ?_) ?_ ?_ (fun e2 hx K hK => ?_)
  rotate_left
  · (simp only [List.getElem?_toArray, List.getElem?_cons_succ, List.getElem?_cons_zero] <;> rfl)
  · rfl
  have hc_e2 := (ext_cell hx).1
  have hf_e2 := (ext_cell hx).2
  have HX_e2 := Lib.hid hx
  have y_e2 := hx.size
  try simp at y_e2
  have z_e2_w3_0 : w3.heap.size < e2.heap.size := by omega
  have z_e2_w4_0 : w4.heap.size < e2.heap.size := by omega
  have z_e2_w4_1 : w4.heap.size + 1 < e2.heap.size := by omega
  clear hx
  have hr2 := hr.ext (w' := e2) (by refine Ext.trans ?_ HX_e2.out; refine Ext.alloc ?_ _; refine Ext.trans ?_ HX_e1.out; repeat (first | exact Ext.refl _ | refine Ext.alloc ?_ _ | (refine Ext.setCell ?_ (by simp <;> omega) _) | refine Ext.drew ?_ | refine Ext.trans ?_ HX_w4.out))
  have hr3 := (Reads.lit2 e1 .u64 16242730742183356629 11169168799798111308 26).ext HX_e2.out
  go_simp
  refine (rWords _ _ [16242730742183356629, 11169168799798111308] (by simp) _ hr2 hr3).mono ?_
  rintro e w8 ⟨rfl, hx8⟩
  have HX_w8 := Lib.hid hx8
  have y_w8 := hx8.size
  have hc_w8 := (ext_cell hx8).1
  have hf_w8 := (ext_cell hx8).2
  have z_w8_a : w3.heap.size < w8.heap.size := by omega
  have z_w8_b : w4.heap.size < w8.heap.size := by omega
  have z_w8_c : w4.heap.size + 1 < w8.heap.size := by omega
  go_simp
  refine hK _ _ (fun _ hs => hs.trans hx8) ?_
  clear hK K hx8 hr2 hr3
  try simp only [Act.put, List.setIfInBounds_toArray, List.set_cons_zero, List.set_cons_succ]
  refine run_pure (o := ?_) (v := ?_) (a' := ?_) ?_ ?_ ?_ ?_ ?_
  rotate_left 3
  · (simp only [List.getElem?_toArray, List.getElem?_cons_succ, List.getElem?_cons_zero] <;> rfl)
  · rfl
  · intro w'
    go_simp
    with_reducible rfl
  · simp only [Act.put, List.setIfInBounds_toArray, List.set_cons_zero, List.set_cons_succ]
    rfl
  refine run_read (o := ?_) (v := ?_) (a' := ?_) ?_ ?_ ?_ ?_ (((HX_e1.out.alloc _).trans HX_e2.out).trans HX_w8.out) ?_
  rotate_left 3
  · (simp only [List.getElem?_toArray, List.getElem?_cons_succ, List.getElem?_cons_zero] <;> rfl)
  · rfl
  · intro w' hw'
    obtain ⟨hc, hf⟩ := ext_cell hw'
    clear hw'
    go_simp
    with_reducible rfl
  · simp only [Act.put, List.setIfInBounds_toArray, List.set_cons_zero, List.set_cons_succ]
    rfl
  refine run_call (f := 42) (args := ?_) (o := ?_) (v := ?_) (a' := ?_) ?_ ?_ ?_ ?_ ?_ (((HX_e1.out.alloc _).trans HX_e2.out).trans HX_w8.out) ?_
  rotate_left 4
  · (simp only [List.getElem?_toArray, List.getElem?_cons_succ, List.getElem?_cons_zero] <;> rfl)
  · rfl
  · intro w'
    go_simp
    with_reducible rfl
  · intro w' hw'
    exact (by refine wOfC ?_ _; unfold Word; omega)
  · simp only [Act.put, List.setIfInBounds_toArray, List.set_cons_zero, List.set_cons_succ]
    rfl
  refine run_pure (o := ?_) (v := ?_) (a' := ?_) ?_ ?_ ?_ ?_ ?_
  rotate_left 3
  · (simp only [List.getElem?_toArray, List.getElem?_cons_succ, List.getElem?_cons_zero] <;> rfl)
  · rfl
  · intro w'
    go_simp
    with_reducible rfl
  · simp only [Act.put, List.setIfInBounds_toArray, List.set_cons_zero, List.set_cons_succ]
    rfl
  refine run_pure (o := ?_) (v := ?_) (a' := ?_) ?_ ?_ ?_ ?_ ?_
  rotate_left 3
  · (simp only [List.getElem?_toArray, List.getElem?_cons_succ, List.getElem?_cons_zero] <;> rfl)
  · rfl
  · intro w'
    go_simp
    with_reducible rfl
  · simp only [Act.put, List.setIfInBounds_toArray, List.set_cons_zero, List.set_cons_succ]
    rfl
  refine run_pure (o := ?_) (v := ?_) (a' := ?_) ?_ ?_ ?_ ?_ ?_
  rotate_left 3
  · (simp only [List.getElem?_toArray, List.getElem?_cons_succ, List.getElem?_cons_zero] <;> rfl)
  · rfl
  · intro w'
    go_simp
    with_reducible rfl
  · simp only [Act.put, List.setIfInBounds_toArray, List.set_cons_zero, List.set_cons_succ]
    rfl
  refine run_pure (o := ?_) (v := ?_) (a' := ?_) ?_ ?_ ?_ ?_ ?_
  rotate_left 3
  · (simp only [List.getElem?_toArray, List.getElem?_cons_succ, List.getElem?_cons_zero] <;> rfl)
  · rfl
  · intro w'
    go_simp
    with_reducible rfl
  · simp only [Act.put, List.setIfInBounds_toArray, List.set_cons_zero, List.set_cons_succ]
    rfl
  refine run_pure (o := ?_) (v := ?_) (a' := ?_) ?_ ?_ ?_ ?_ ?_
  rotate_left 3
  · (simp only [List.getElem?_toArray, List.getElem?_cons_succ, List.getElem?_cons_zero] <;> rfl)
  · rfl
  · intro w'
    go_simp
    with_reducible rfl
  · simp only [Act.put, List.setIfInBounds_toArray, List.set_cons_zero, List.set_cons_succ]
    rfl
  refine run_pure (o := ?_) (v := ?_) (a' := ?_) ?_ ?_ ?_ ?_ ?_
  rotate_left 3
  · (simp only [List.getElem?_toArray, List.getElem?_cons_succ, List.getElem?_cons_zero] <;> rfl)
  · rfl
  · intro w'
    go_simp
    with_reducible rfl
  · simp only [Act.put, List.setIfInBounds_toArray, List.set_cons_zero, List.set_cons_succ]
    rfl
  refine run_pure (o := ?_) (v := ?_) (a' := ?_) ?_ ?_ ?_ ?_ ?_
  rotate_left 3
  · (simp only [List.getElem?_toArray, List.getElem?_cons_succ, List.getElem?_cons_zero] <;> rfl)
  · rfl
  · intro w'
    go_simp
    with_reducible rfl
  · simp only [Act.put, List.setIfInBounds_toArray, List.set_cons_zero, List.set_cons_succ]
    rfl
  refine run_pure (o := ?_) (v := ?_) (a' := ?_) ?_ ?_ ?_ ?_ ?_
  rotate_left 3
  · (simp only [List.getElem?_toArray, List.getElem?_cons_succ, List.getElem?_cons_zero] <;> rfl)
  · rfl
  · intro w'
    go_simp
    with_reducible rfl
  · simp only [Act.put, List.setIfInBounds_toArray, List.set_cons_zero, List.set_cons_succ]
    rfl
  refine run_pure (o := ?_) (v := ?_) (a' := ?_) ?_ ?_ ?_ ?_ ?_
  rotate_left 3
  · (simp only [List.getElem?_toArray, List.getElem?_cons_succ, List.getElem?_cons_zero] <;> rfl)
  · rfl
  · intro w'
    go_simp
    with_reducible rfl
  · simp only [Act.put, List.setIfInBounds_toArray, List.set_cons_zero, List.set_cons_succ]
    rfl
  refine run_pure (o := ?_) (v := ?_) (a' := ?_) ?_ ?_ ?_ ?_ ?_
  rotate_left 3
  · (simp only [List.getElem?_toArray, List.getElem?_cons_succ, List.getElem?_cons_zero] <;> rfl)
  · rfl
  · intro w'
    go_simp
    with_reducible rfl
  · simp only [Act.put, List.setIfInBounds_toArray, List.set_cons_zero, List.set_cons_succ]
    rfl
  refine run_pure (o := ?_) (v := ?_) (a' := ?_) ?_ ?_ ?_ ?_ ?_
  rotate_left 3
  · (simp only [List.getElem?_toArray, List.getElem?_cons_succ, List.getElem?_cons_zero] <;> rfl)
  · rfl
  · intro w'
    go_simp
    with_reducible rfl
  · simp only [Act.put, List.setIfInBounds_toArray, List.set_cons_zero, List.set_cons_succ]
    rfl
  refine run_pure (o := ?_) (v := ?_) (a' := ?_) ?_ ?_ ?_ ?_ ?_
  rotate_left 3
  · (simp only [List.getElem?_toArray, List.getElem?_cons_succ, List.getElem?_cons_zero] <;> rfl)
  · rfl
  · intro w'
    go_simp
    with_reducible rfl
  · simp only [Act.put, List.setIfInBounds_toArray, List.set_cons_zero, List.set_cons_succ]
    rfl
  refine run_read (o := ?_) (v := ?_) (a' := ?_) ?_ ?_ ?_ ?_ (((HX_e1.out.alloc _).trans HX_e2.out).trans HX_w8.out) ?_
  rotate_left 3
  · (simp only [List.getElem?_toArray, List.getElem?_cons_succ, List.getElem?_cons_zero] <;> rfl)
  · rfl
  · intro w' hw'
    obtain ⟨hc, hf⟩ := ext_cell hw'
    clear hw'
    go_simp
    with_reducible rfl
  · simp only [Act.put, List.setIfInBounds_toArray, List.set_cons_zero, List.set_cons_succ]
    rfl
  refine run_call (f := 52) (args := ?_) (o := ?_) (v := ?_) (a' := ?_) ?_ ?_ ?_ ?_ ?_ (((HX_e1.out.alloc _).trans HX_e2.out).trans HX_w8.out) ?_
  rotate_left 4
  · (simp only [List.getElem?_toArray, List.getElem?_cons_succ, List.getElem?_cons_zero] <;> rfl)
  · rfl
  · intro w'
    go_simp
    with_reducible rfl
  · intro w' hw'
    exact (hStep_aw _)
  · simp only [Act.put, List.setIfInBounds_toArray, List.set_cons_zero, List.set_cons_succ]
    rfl
  refine run_pure (o := ?_) (v := ?_) (a' := ?_) ?_ ?_ ?_ ?_ ?_
  rotate_left 3
  · (simp only [List.getElem?_toArray, List.getElem?_cons_succ, List.getElem?_cons_zero] <;> rfl)
  · rfl
  · intro w'
    go_simp
    with_reducible rfl
  · simp only [Act.put, List.setIfInBounds_toArray, List.set_cons_zero, List.set_cons_succ]
    rfl
  refine run_pure (o := ?_) (v := ?_) (a' := ?_) ?_ ?_ ?_ ?_ ?_
  rotate_left 3
  · (simp only [List.getElem?_toArray, List.getElem?_cons_succ, List.getElem?_cons_zero] <;> rfl)
  · rfl
  · intro w'
    go_simp
    with_reducible rfl
  · simp only [Act.put, List.setIfInBounds_toArray, List.set_cons_zero, List.set_cons_succ]
    rfl
  refine run_pure (o := ?_) (v := ?_) (a' := ?_) ?_ ?_ ?_ ?_ ?_
  rotate_left 3
  · (simp only [List.getElem?_toArray, List.getElem?_cons_succ, List.getElem?_cons_zero] <;> rfl)
  · rfl
  · intro w'
    go_simp
    with_reducible rfl
  · simp only [Act.put, List.setIfInBounds_toArray, List.set_cons_zero, List.set_cons_succ]
    rfl
  refine run_pure (o := ?_) (v := ?_) (a' := ?_) ?_ ?_ ?_ ?_ ?_
  rotate_left 3
  · (simp only [List.getElem?_toArray, List.getElem?_cons_succ, List.getElem?_cons_zero] <;> rfl)
  · rfl
  · intro w'
    go_simp
    with_reducible rfl
  · simp only [Act.put, List.setIfInBounds_toArray, List.set_cons_zero, List.set_cons_succ]
    rfl
  refine run_pure (o := ?_) (v := ?_) (a' := ?_) ?_ ?_ ?_ ?_ ?_
  rotate_left 3
  · (simp only [List.getElem?_toArray, List.getElem?_cons_succ, List.getElem?_cons_zero] <;> rfl)
  · rfl
  · intro w'
    go_simp
    with_reducible rfl
  · simp only [Act.put, List.setIfInBounds_toArray, List.set_cons_zero, List.set_cons_succ]
    rfl
  refine run_call (f := 77) (args := ?_) (o := ?_) (v := ?_) (a' := ?_) ?_ ?_ ?_ ?_ ?_ (((HX_e1.out.alloc _).trans HX_e2.out).trans HX_w8.out) ?_
  rotate_left 4
  · (simp only [List.getElem?_toArray, List.getElem?_cons_succ, List.getElem?_cons_zero] <;> rfl)
  · rfl
  · intro w'
    go_simp
    with_reducible rfl
  · intro w' hw'
    exact (hBack_aw _)
  · simp only [Act.put, List.setIfInBounds_toArray, List.set_cons_zero, List.set_cons_succ]
    rfl
  refine run_read (o := ?_) (v := ?_) (a' := ?_) ?_ ?_ ?_ ?_ (((HX_e1.out.alloc _).trans HX_e2.out).trans HX_w8.out) ?_
  rotate_left 3
  · (simp only [List.getElem?_toArray, List.getElem?_cons_succ, List.getElem?_cons_zero] <;> rfl)
  · rfl
  · intro w' hw'
    obtain ⟨hc, hf⟩ := ext_cell hw'
    clear hw'
    go_simp
    with_reducible rfl
  · simp only [Act.put, List.setIfInBounds_toArray, List.set_cons_zero, List.set_cons_succ]
    rfl
  refine run_pure (o := ?_) (v := ?_) (a' := ?_) ?_ ?_ ?_ ?_ ?_
  rotate_left 3
  · (simp only [List.getElem?_toArray, List.getElem?_cons_succ, List.getElem?_cons_zero] <;> rfl)
  · rfl
  · intro w'
    go_simp
    with_reducible rfl
  · simp only [Act.put, List.setIfInBounds_toArray, List.set_cons_zero, List.set_cons_succ]
    rfl
  refine run_pure (o := ?_) (v := ?_) (a' := ?_) ?_ ?_ ?_ ?_ ?_
  rotate_left 3
  · (simp only [List.getElem?_toArray, List.getElem?_cons_succ, List.getElem?_cons_zero] <;> rfl)
  · rfl
  · intro w'
    go_simp
    with_reducible rfl
  · simp only [Act.put, List.setIfInBounds_toArray, List.set_cons_zero, List.set_cons_succ]
    rfl
  refine run_pure (o := ?_) (v := ?_) (a' := ?_) ?_ ?_ ?_ ?_ ?_
  rotate_left 3
  · (simp only [List.getElem?_toArray, List.getElem?_cons_succ, List.getElem?_cons_zero] <;> rfl)
  · rfl
  · intro w'
    go_simp
    with_reducible rfl
  · simp only [Act.put, List.setIfInBounds_toArray, List.set_cons_zero, List.set_cons_succ]
    rfl
  refine run_pure (o := ?_) (v := ?_) (a' := ?_) ?_ ?_ ?_ ?_ ?_
  rotate_left 3
  · (simp only [List.getElem?_toArray, List.getElem?_cons_succ, List.getElem?_cons_zero] <;> rfl)
  · rfl
  · intro w'
    go_simp
    with_reducible rfl
  · simp only [Act.put, List.setIfInBounds_toArray, List.set_cons_zero, List.set_cons_succ]
    rfl
  refine run_call (f := 42) (args := ?_) (o := ?_) (v := ?_) (a' := ?_) ?_ ?_ ?_ ?_ ?_ (((HX_e1.out.alloc _).trans HX_e2.out).trans HX_w8.out) ?_
  rotate_left 4
  · (simp only [List.getElem?_toArray, List.getElem?_cons_succ, List.getElem?_cons_zero] <;> rfl)
  · rfl
  · intro w'
    go_simp
    with_reducible rfl
  · intro w' hw'
    exact (by refine wOfC ?_ _; unfold Word; omega)
  · simp only [Act.put, List.setIfInBounds_toArray, List.set_cons_zero, List.set_cons_succ]
    rfl
  refine run_call (f := 53) (args := ?_) (o := ?_) (v := ?_) (a' := ?_) ?_ ?_ ?_ ?_ ?_ (((HX_e1.out.alloc _).trans HX_e2.out).trans HX_w8.out) ?_
  rotate_left 4
  · (simp only [List.getElem?_toArray, List.getElem?_cons_succ, List.getElem?_cons_zero] <;> rfl)
  · rfl
  · intro w'
    go_simp
    with_reducible rfl
  · intro w' hw'
    exact (hJump_aw4 _)
  · simp only [Act.put, List.setIfInBounds_toArray, List.set_cons_zero, List.set_cons_succ]
    rfl
  refine run_call (f := 42) (args := ?_) (o := ?_) (v := ?_) (a' := ?_) ?_ ?_ ?_ ?_ ?_ (((HX_e1.out.alloc _).trans HX_e2.out).trans HX_w8.out) ?_
  rotate_left 4
  · (simp only [List.getElem?_toArray, List.getElem?_cons_succ, List.getElem?_cons_zero] <;> rfl)
  · rfl
  · intro w'
    go_simp
    with_reducible rfl
  · intro w' hw'
    exact (by refine wOfC ?_ _; unfold Word; omega)
  · simp only [Act.put, List.setIfInBounds_toArray, List.set_cons_zero, List.set_cons_succ]
    rfl
  refine run_pure (o := ?_) (v := ?_) (a' := ?_) ?_ ?_ ?_ ?_ ?_
  rotate_left 3
  · (simp only [List.getElem?_toArray, List.getElem?_cons_succ, List.getElem?_cons_zero] <;> rfl)
  · rfl
  · intro w'
    go_simp
    with_reducible rfl
  · simp only [Act.put, List.setIfInBounds_toArray, List.set_cons_zero, List.set_cons_succ]
    rfl
  refine run_pure (o := ?_) (v := ?_) (a' := ?_) ?_ ?_ ?_ ?_ ?_
  rotate_left 3
  · (simp only [List.getElem?_toArray, List.getElem?_cons_succ, List.getElem?_cons_zero] <;> rfl)
  · rfl
  · intro w'
    go_simp
    with_reducible rfl
  · simp only [Act.put, List.setIfInBounds_toArray, List.set_cons_zero, List.set_cons_succ]
    rfl
  refine run_pure (o := ?_) (v := ?_) (a' := ?_) ?_ ?_ ?_ ?_ ?_
  rotate_left 3
  · (simp only [List.getElem?_toArray, List.getElem?_cons_succ, List.getElem?_cons_zero] <;> rfl)
  · rfl
  · intro w'
    go_simp
    with_reducible rfl
  · simp only [Act.put, List.setIfInBounds_toArray, List.set_cons_zero, List.set_cons_succ]
    rfl
  refine run_pure (o := ?_) (v := ?_) (a' := ?_) ?_ ?_ ?_ ?_ ?_
  rotate_left 3
  · (simp only [List.getElem?_toArray, List.getElem?_cons_succ, List.getElem?_cons_zero] <;> rfl)
  · rfl
  · intro w'
    go_simp
    with_reducible rfl
  · simp only [Act.put, List.setIfInBounds_toArray, List.set_cons_zero, List.set_cons_succ]
    rfl
  refine run_pure (o := ?_) (v := ?_) (a' := ?_) ?_ ?_ ?_ ?_ ?_
  rotate_left 3
  · (simp only [List.getElem?_toArray, List.getElem?_cons_succ, List.getElem?_cons_zero] <;> rfl)
  · rfl
  · intro w'
    go_simp
    with_reducible rfl
  · simp only [Act.put, List.setIfInBounds_toArray, List.set_cons_zero, List.set_cons_succ]
    rfl
  refine run_call (f := 42) (args := ?_) (o := ?_) (v := ?_) (a' := ?_) ?_ ?_ ?_ ?_ ?_ (((HX_e1.out.alloc _).trans HX_e2.out).trans HX_w8.out) ?_
  rotate_left 4
  · (simp only [List.getElem?_toArray, List.getElem?_cons_succ, List.getElem?_cons_zero] <;> rfl)
  · rfl
  · intro w'
    go_simp
    with_reducible rfl
  · intro w' hw'
    exact (by refine wOfC ?_ _; unfold Word; omega)
  · simp only [Act.put, List.setIfInBounds_toArray, List.set_cons_zero, List.set_cons_succ]
    rfl
  refine run_call (f := 53) (args := ?_) (o := ?_) (v := ?_) (a' := ?_) ?_ ?_ ?_ ?_ ?_ (((HX_e1.out.alloc _).trans HX_e2.out).trans HX_w8.out) ?_
  rotate_left 4
  · (simp only [List.getElem?_toArray, List.getElem?_cons_succ, List.getElem?_cons_zero] <;> rfl)
  · rfl
  · intro w'
    go_simp
    with_reducible rfl
  · intro w' hw'
    exact (hJump_aw5 _)
  · simp only [Act.put, List.setIfInBounds_toArray, List.set_cons_zero, List.set_cons_succ]
    rfl
  refine run_call (f := 42) (args := ?_) (o := ?_) (v := ?_) (a' := ?_) ?_ ?_ ?_ ?_ ?_ (((HX_e1.out.alloc _).trans HX_e2.out).trans HX_w8.out) ?_
  rotate_left 4
  · (simp only [List.getElem?_toArray, List.getElem?_cons_succ, List.getElem?_cons_zero] <;> rfl)
  · rfl
  · intro w'
    go_simp
    with_reducible rfl
  · intro w' hw'
    exact (by refine wOfC ?_ _; unfold Word; omega)
  · simp only [Act.put, List.setIfInBounds_toArray, List.set_cons_zero, List.set_cons_succ]
    rfl
  refine run_pure (o := ?_) (v := ?_) (a' := ?_) ?_ ?_ ?_ ?_ ?_
  rotate_left 3
  · (simp only [List.getElem?_toArray, List.getElem?_cons_succ, List.getElem?_cons_zero] <;> rfl)
  · rfl
  · intro w'
    go_simp
    with_reducible rfl
  · simp only [Act.put, List.setIfInBounds_toArray, List.set_cons_zero, List.set_cons_succ]
    rfl
  refine run_pure (o := ?_) (v := ?_) (a' := ?_) ?_ ?_ ?_ ?_ ?_
  rotate_left 3
  · (simp only [List.getElem?_toArray, List.getElem?_cons_succ, List.getElem?_cons_zero] <;> rfl)
  · rfl
  · intro w'
    go_simp
    with_reducible rfl
  · simp only [Act.put, List.setIfInBounds_toArray, List.set_cons_zero, List.set_cons_succ]
    rfl
  refine run_pure (o := ?_) (v := ?_) (a' := ?_) ?_ ?_ ?_ ?_ ?_
  rotate_left 3
  · (simp only [List.getElem?_toArray, List.getElem?_cons_succ, List.getElem?_cons_zero] <;> rfl)
  · rfl
  · intro w'
    go_simp
    with_reducible rfl
  · simp only [Act.put, List.setIfInBounds_toArray, List.set_cons_zero, List.set_cons_succ]
    rfl
  refine run_pure (o := ?_) (v := ?_) (a' := ?_) ?_ ?_ ?_ ?_ ?_
  rotate_left 3
  · (simp only [List.getElem?_toArray, List.getElem?_cons_succ, List.getElem?_cons_zero] <;> rfl)
  · rfl
  · intro w'
    go_simp
    with_reducible rfl
  · simp only [Act.put, List.setIfInBounds_toArray, List.set_cons_zero, List.set_cons_succ]
    rfl
  refine run_pure (o := ?_) (v := ?_) (a' := ?_) ?_ ?_ ?_ ?_ ?_
  rotate_left 3
  · (simp only [List.getElem?_toArray, List.getElem?_cons_succ, List.getElem?_cons_zero] <;> rfl)
  · rfl
  · intro w'
    go_simp
    with_reducible rfl
  · simp only [Act.put, List.setIfInBounds_toArray, List.set_cons_zero, List.set_cons_succ]
    rfl
  refine run_call (f := 55) (args := ?_) (o := ?_) (v := ?_) (a' := ?_) ?_ ?_ ?_ ?_ ?_ (((HX_e1.out.alloc _).trans HX_e2.out).trans HX_w8.out) ?_
  rotate_left 4
  · (simp only [List.getElem?_toArray, List.getElem?_cons_succ, List.getElem?_cons_zero] <;> rfl)
  · rfl
  · intro w'
    go_simp
    with_reducible rfl
  · intro w' hw'
    exact (hBlock_aw _)
  · simp only [Act.put, List.setIfInBounds_toArray, List.set_cons_zero, List.set_cons_succ]
    rfl
  refine run_pure (o := ?_) (v := ?_) (a' := ?_) ?_ ?_ ?_ ?_ ?_
  rotate_left 3
  · (simp only [List.getElem?_toArray, List.getElem?_cons_succ, List.getElem?_cons_zero] <;> rfl)
  · rfl
  · intro w'
    go_simp
    with_reducible rfl
  · simp only [Act.put, List.setIfInBounds_toArray, List.set_cons_zero, List.set_cons_succ]
    rfl
  refine run_pure (o := ?_) (v := ?_) (a' := ?_) ?_ ?_ ?_ ?_ ?_
  rotate_left 3
  · (simp only [List.getElem?_toArray, List.getElem?_cons_succ, List.getElem?_cons_zero] <;> rfl)
  · rfl
  · intro w'
    go_simp
    with_reducible rfl
  · simp only [Act.put, List.setIfInBounds_toArray, List.set_cons_zero, List.set_cons_succ]
    rfl
  refine run_pure (o := ?_) (v := ?_) (a' := ?_) ?_ ?_ ?_ ?_ ?_
  rotate_left 3
  · (simp only [List.getElem?_toArray, List.getElem?_cons_succ, List.getElem?_cons_zero] <;> rfl)
  · rfl
  · intro w'
    go_simp
    with_reducible rfl
  · simp only [Act.put, List.setIfInBounds_toArray, List.set_cons_zero, List.set_cons_succ]
    rfl
  refine run_pure (o := ?_) (v := ?_) (a' := ?_) ?_ ?_ ?_ ?_ ?_
  rotate_left 3
  · (simp only [List.getElem?_toArray, List.getElem?_cons_succ, List.getElem?_cons_zero] <;> rfl)
  · rfl
  · intro w'
    go_simp
    with_reducible rfl
  · simp only [Act.put, List.setIfInBounds_toArray, List.set_cons_zero, List.set_cons_succ]
    rfl
  refine run_pure (o := ?_) (v := ?_) (a' := ?_) ?_ ?_ ?_ ?_ ?_
  rotate_left 3
  · (simp only [List.getElem?_toArray, List.getElem?_cons_succ, List.getElem?_cons_zero] <;> rfl)
  · rfl
  · intro w'
    go_simp
    with_reducible rfl
  · simp only [Act.put, List.setIfInBounds_toArray, List.set_cons_zero, List.set_cons_succ]
    rfl
  refine run_call (f := 78) (args := ?_) (o := ?_) (v := ?_) (a' := ?_) ?_ ?_ ?_ ?_ ?_ (((HX_e1.out.alloc _).trans HX_e2.out).trans HX_w8.out) ?_
  rotate_left 4
  · (simp only [List.getElem?_toArray, List.getElem?_cons_succ, List.getElem?_cons_zero] <;> rfl)
  · rfl
  · intro w'
    go_simp
    with_reducible rfl
  · intro w' hw'
    exact (hNumber_aw _)
  · simp only [Act.put, List.setIfInBounds_toArray, List.set_cons_zero, List.set_cons_succ]
    rfl
  refine run_pure (o := ?_) (v := ?_) (a' := ?_) ?_ ?_ ?_ ?_ ?_
  rotate_left 3
  · (simp only [List.getElem?_toArray, List.getElem?_cons_succ, List.getElem?_cons_zero] <;> rfl)
  · rfl
  · intro w'
    go_simp
    with_reducible rfl
  · simp only [Act.put, List.setIfInBounds_toArray, List.set_cons_zero, List.set_cons_succ]
    rfl
  refine run_pure (o := ?_) (v := ?_) (a' := ?_) ?_ ?_ ?_ ?_ ?_
  rotate_left 3
  · (simp only [List.getElem?_toArray, List.getElem?_cons_succ, List.getElem?_cons_zero] <;> rfl)
  · rfl
  · intro w'
    go_simp
    with_reducible rfl
  · simp only [Act.put, List.setIfInBounds_toArray, List.set_cons_zero, List.set_cons_succ]
    rfl
  refine run_pure (o := ?_) (v := ?_) (a' := ?_) ?_ ?_ ?_ ?_ ?_
  rotate_left 3
  · (simp only [List.getElem?_toArray, List.getElem?_cons_succ, List.getElem?_cons_zero] <;> rfl)
  · rfl
  · intro w'
    go_simp
    with_reducible rfl
  · simp only [Act.put, List.setIfInBounds_toArray, List.set_cons_zero, List.set_cons_succ]
    rfl
  refine run_pure (o := ?_) (v := ?_) (a' := ?_) ?_ ?_ ?_ ?_ ?_
  rotate_left 3
  · (simp only [List.getElem?_toArray, List.getElem?_cons_succ, List.getElem?_cons_zero] <;> rfl)
  · rfl
  · intro w'
    go_simp
    with_reducible rfl
  · simp only [Act.put, List.setIfInBounds_toArray, List.set_cons_zero, List.set_cons_succ]
    rfl
  refine run_nil (fun e3 hx => ?_)
  have hc_e3 := (ext_cell hx).1
  have hf_e3 := (ext_cell hx).2
  have HX_e3 := Lib.hid hx
  have y_e3 := hx.size
  try simp at y_e3
  have z_e3_w3_0 : w3.heap.size < e3.heap.size := by omega
  have z_e3_w4_0 : w4.heap.size < e3.heap.size := by omega
  have z_e3_w4_1 : w4.heap.size + 1 < e3.heap.size := by omega
  clear hx
  go_wp2
  go_ret
  refine ⟨rfl, ?_⟩
  · repeat (first | with_reducible exact Ext.refl _ | with_reducible refine Ext.alloc ?_ _ | (with_reducible refine Ext.setCell ?_ (by simp <;> omega) _) | with_reducible refine Ext.drew ?_ | with_reducible refine Ext.trans ?_ HX_e3.out | with_reducible refine Ext.trans ?_ HX_w8.out | with_reducible refine Ext.trans ?_ HX_e2.out | with_reducible refine Ext.trans ?_ HX_e1.out | with_reducible refine Ext.trans ?_ HX_w4.out | with_reducible refine Ext.trans ?_ HX_w3.out)
end Go.Proofs.Ytjjapblpmpidcaa
