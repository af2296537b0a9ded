import Derived.Test.YtjjapblpmpidcabK1
set_option linter.unusedVariables false
set_option linter.unusedSimpArgs false
namespace Go.Proofs.Ytjjapblpmpidcab
open Go.RowKit Num UReg

theorem wAddR {a b s : V} (h : a + b = s) (w : World) : Calls Try.prog 29 #[.agg #[.int .u64 (hi a), .int .u64 (lo a)], .agg #[.int .u64 (hi b), .int .u64 (lo b)]] w fun e w' =>
    e = .returned (.tuple #[.agg #[.int .u64 (hi s), .int .u64 (lo s)], .bool (over a b)]) ∧ Ext w w' := by
  have h1 := wAdd a b w
  rwa [h] at h1
theorem wMulR {a b s : V} (h : a * b = s) (w : World) : Calls Try.prog 38 #[.agg #[.int .u64 (hi a), .int .u64 (lo a)], .agg #[.int .u64 (hi b), .int .u64 (lo b)]] w fun e w' =>
    e = .returned (.agg #[.int .u64 (hi s), .int .u64 (lo s)]) ∧ Ext w w' := by
  have h1 := wMul a b w
  rwa [h] at h1
theorem wSubR {a b s : V} (h : a - b = s) (w : World) : Calls Try.prog 32 #[.agg #[.int .u64 (hi a), .int .u64 (lo a)], .agg #[.int .u64 (hi b), .int .u64 (lo b)]] w fun e w' =>
    e = .returned (.tuple #[.agg #[.int .u64 (hi s), .int .u64 (lo s)], .bool (less a b)]) ∧ Ext w w' := by
  have h1 := wSub a b w
  rwa [h] at h1
theorem wSubSelf (a : V) (w : World) : Calls Try.prog 32 #[.agg #[.int .u64 (hi a), .int .u64 (lo a)], .agg #[.int .u64 (hi a), .int .u64 (lo a)]] w fun e w' =>
    e = .returned (.tuple #[.agg #[.int .u64 0, .int .u64 0], .bool false]) ∧ Ext w w' := by
  have h1 := wSub a a w
  rwa [show a - a = 0#128 from by grind, hi_zero, lo_zero, show less a a = false from by simp [less]] at h1
theorem wMulZero (a : V) (w : World) : Calls Try.prog 38 #[.agg #[.int .u64 (hi a), .int .u64 (lo a)], .agg #[.int .u64 0, .int .u64 0]] w fun e w' =>
    e = .returned (.agg #[.int .u64 0, .int .u64 0]) ∧ Ext w w' := by
  have h1 := wMul a 0#128 w
  rwa [hi_zero, lo_zero, show a * 0#128 = 0#128 from by grind, hi_zero, lo_zero] at h1

set_option maxHeartbeats 8000000 in
theorem wideRing_walk (a b c : V) (w : World) :
    Calls Try.prog 9 #[.agg #[.int .u64 (hi a), .int .u64 (lo a)], .agg #[.int .u64 (hi b), .int .u64 (lo b)], .agg #[.int .u64 (hi c), .int .u64 (lo c)]] w fun e w' => e = .returned (.bool true) ∧ Ext w w' := by
  obtain ⟨s, h1⟩ : ∃ s, a + b = s := ⟨_, rfl⟩
  obtain ⟨u, h2⟩ : ∃ s, b + c = s := ⟨_, rfl⟩
  obtain ⟨p, h3⟩ : ∃ p, s + c = p := ⟨_, rfl⟩
  obtain ⟨x, h4⟩ : ∃ s, a * b = s := ⟨_, rfl⟩
  obtain ⟨y, h5⟩ : ∃ s, a * c = s := ⟨_, rfl⟩
  obtain ⟨m, h6⟩ : ∃ s, x + y = s := ⟨_, rfl⟩
  obtain ⟨t, h7⟩ : ∃ s, x * c = s := ⟨_, rfl⟩
  obtain ⟨v, h8⟩ : ∃ s, b * c = s := ⟨_, rfl⟩
  have H1 := Lib.hid h1
  have H2 := Lib.hid h2
  have H3 := Lib.hid h3
  have H4 := Lib.hid h4
  have H5 := Lib.hid h5
  have H6 := Lib.hid h6
  have H7 := Lib.hid h7
  have H8 := Lib.hid h8
  have H1' := Lib.hid (show b + a = s by rw [← h1]; grind)
  have H3' := Lib.hid (show a + u = p by rw [← h3, ← h2, ← h1]; grind)
  have HS := Lib.hid (show s - b = a by rw [← h1]; grind)
  have H6' := Lib.hid (show a * u = m by rw [← h6, ← h2, ← h4, ← h5]; grind)
  have H4' := Lib.hid (show b * a = x by rw [← h4]; grind)
  have H7' := Lib.hid (show a * v = t by rw [← h7, ← h8, ← h4]; grind)
  have HO := Lib.hid (show a * of 1 = a by rw [show of 1 = 1#128 from rfl]; grind)
  clear h1 h2 h3 h4 h5 h6 h7 h8
  go_enter Try.func9, Try.ntmps9
  go_wp2_with fail
  refine (awake1 _).mono ?_
  rintro e w1 ⟨rfl, hx⟩
  have hc_w1 := (ext_cell hx).1
  have hf_w1 := (ext_cell hx).2
  have HX_w1 := Lib.hid hx
  have y_w1 := hx.size
  try simp at y_w1
  have z_w1_w_0 : w.heap.size < w1.heap.size := by omega
  have z_w1_w_1 : w.heap.size + 1 < w1.heap.size := by omega
  have z_w1_w_2 : w.heap.size + 2 < w1.heap.size := by omega
  clear hx
  go_wp2_with fail
  refine (wAddR H1.out _).mono ?_
  rintro e w2 ⟨rfl, hx⟩
  have hc_w2 := (ext_cell hx).1
  have hf_w2 := (ext_cell hx).2
  have HX_w2 := Lib.hid hx
  have y_w2 := hx.size
  try simp at y_w2
  have z_w2_w_0 : w.heap.size < w2.heap.size := by omega
  have z_w2_w_1 : w.heap.size + 1 < w2.heap.size := by omega
  have z_w2_w_2 : w.heap.size + 2 < w2.heap.size := by omega
  clear hx
  go_wp2_with fail
  refine (wAddR H1'.out _).mono ?_
  rintro e w3 ⟨rfl, hx⟩
  have hc_w3 := (ext_cell hx).1
  have hf_w3 := (ext_cell hx).2
  have HX_w3 := Lib.hid hx
  have y_w3 := hx.size
  try simp at y_w3
  have z_w3_w_0 : w.heap.size < w3.heap.size := by omega
  have z_w3_w_1 : w.heap.size + 1 < w3.heap.size := by omega
  have z_w3_w_2 : w.heap.size + 2 < w3.heap.size := by omega
  have z_w3_w2_0 : w2.heap.size < w3.heap.size := by omega
  clear hx
  go_wp2_with fail
  refine (wAddR H2.out _).mono ?_
  rintro e w4 ⟨rfl, hx⟩
  have hc_w4 := (ext_cell hx).1
  have hf_w4 := (ext_cell hx).2
  have HX_w4 := Lib.hid hx
  have y_w4 := hx.size
  try simp at y_w4
  have z_w4_w_0 : w.heap.size < w4.heap.size := by omega
  have z_w4_w_1 : w.heap.size + 1 < w4.heap.size := by omega
  have z_w4_w_2 : w.heap.size + 2 < w4.heap.size := by omega
  have z_w4_w2_0 : w2.heap.size < w4.heap.size := by omega
  have z_w4_w3_0 : w3.heap.size < w4.heap.size := by omega
  clear hx
  go_wp2_with fail
  refine (wAddR H3.out _).mono ?_
  rintro e w5 ⟨rfl, hx⟩
  have hc_w5 := (ext_cell hx).1
  have hf_w5 := (ext_cell hx).2
  have HX_w5 := Lib.hid hx
  have y_w5 := hx.size
  try simp at y_w5
  have z_w5_w_0 : w.heap.size < w5.heap.size := by omega
  have z_w5_w_1 : w.heap.size + 1 < w5.heap.size := by omega
  have z_w5_w_2 : w.heap.size + 2 < w5.heap.size := by omega
  have z_w5_w2_0 : w2.heap.size < w5.heap.size := by omega
  have z_w5_w3_0 : w3.heap.size < w5.heap.size := by omega
  have z_w5_w4_0 : w4.heap.size < w5.heap.size := by omega
  clear hx
  have faw50_w5 : w5.cell? ⟨w.heap.size, 0, none⟩ = some (.int .u64 (hi a)) := by go_simp
  have faw51_w5 : w5.cell? ⟨w.heap.size, 1, none⟩ = some (.int .u64 (lo a)) := by go_simp
  have fbw50_w5 : w5.cell? ⟨w.heap.size + 1, 0, none⟩ = some (.int .u64 (hi b)) := by go_simp
  have fbw51_w5 : w5.cell? ⟨w.heap.size + 1, 1, none⟩ = some (.int .u64 (lo b)) := by go_simp
  have fcw50_w5 : w5.cell? ⟨w.heap.size + 1 + 1, 0, none⟩ = some (.int .u64 (hi c)) := by go_simp
  have fcw51_w5 : w5.cell? ⟨w.heap.size + 1 + 1, 1, none⟩ = some (.int .u64 (lo c)) := by go_simp
  have g2w50_w5 : w5.cell? ⟨w2.heap.size, 0, none⟩ = some (.int .u64 (hi s)) := by go_simp
  have g2w51_w5 : w5.cell? ⟨w2.heap.size, 1, none⟩ = some (.int .u64 (lo s)) := by go_simp
  have g3w50_w5 : w5.cell? ⟨w3.heap.size, 0, none⟩ = some (.int .u64 (hi s)) := by go_simp
  have g3w51_w5 : w5.cell? ⟨w3.heap.size, 1, none⟩ = some (.int .u64 (lo s)) := by go_simp
  have g4w50_w5 : w5.cell? ⟨w4.heap.size, 0, none⟩ = some (.int .u64 (hi u)) := by go_simp
  have g4w51_w5 : w5.cell? ⟨w4.heap.size, 1, none⟩ = some (.int .u64 (lo u)) := by go_simp
  clear hc_w1 hf_w1 hc_w2 hf_w2 hc_w3 hf_w3 hc_w4 hf_w4 hc_w5 hf_w5
  go_wp2_with fail
  refine (wAddR H3'.out _).mono ?_
  rintro e w6 ⟨rfl, hx⟩
  have hc_w6 := (ext_cell hx).1
  have hf_w6 := (ext_cell hx).2
  have HX_w6 := Lib.hid hx
  have y_w6 := hx.size
  try simp at y_w6
  have z_w6_w_0 : w.heap.size < w6.heap.size := by omega
  have z_w6_w_1 : w.heap.size + 1 < w6.heap.size := by omega
  have z_w6_w_2 : w.heap.size + 2 < w6.heap.size := by omega
  have z_w6_w2_0 : w2.heap.size < w6.heap.size := by omega
  have z_w6_w3_0 : w3.heap.size < w6.heap.size := by omega
  have z_w6_w4_0 : w4.heap.size < w6.heap.size := by omega
  have z_w6_w5_0 : w5.heap.size < w6.heap.size := by omega
  clear hx
  go_wp2_with fail
  refine (wSubR HS.out _).mono ?_
  rintro e w7 ⟨rfl, hx⟩
  have hc_w7 := (ext_cell hx).1
  have hf_w7 := (ext_cell hx).2
  have HX_w7 := Lib.hid hx
  have y_w7 := hx.size
  try simp at y_w7
  have z_w7_w_0 : w.heap.size < w7.heap.size := by omega
  have z_w7_w_1 : w.heap.size + 1 < w7.heap.size := by omega
  have z_w7_w_2 : w.heap.size + 2 < w7.heap.size := by omega
  have z_w7_w2_0 : w2.heap.size < w7.heap.size := by omega
  have z_w7_w3_0 : w3.heap.size < w7.heap.size := by omega
  have z_w7_w4_0 : w4.heap.size < w7.heap.size := by omega
  have z_w7_w5_0 : w5.heap.size < w7.heap.size := by omega
  have z_w7_w6_0 : w6.heap.size < w7.heap.size := by omega
  clear hx
  have faw70_w7 : w7.cell? ⟨w.heap.size, 0, none⟩ = some (.int .u64 (hi a)) := by go_simp
  have faw71_w7 : w7.cell? ⟨w.heap.size, 1, none⟩ = some (.int .u64 (lo a)) := by go_simp
  have fbw70_w7 : w7.cell? ⟨w.heap.size + 1, 0, none⟩ = some (.int .u64 (hi b)) := by go_simp
  have fbw71_w7 : w7.cell? ⟨w.heap.size + 1, 1, none⟩ = some (.int .u64 (lo b)) := by go_simp
  have fcw70_w7 : w7.cell? ⟨w.heap.size + 1 + 1, 0, none⟩ = some (.int .u64 (hi c)) := by go_simp
  have fcw71_w7 : w7.cell? ⟨w.heap.size + 1 + 1, 1, none⟩ = some (.int .u64 (lo c)) := by go_simp
  have g2w70_w7 : w7.cell? ⟨w2.heap.size, 0, none⟩ = some (.int .u64 (hi s)) := by go_simp
  have g2w71_w7 : w7.cell? ⟨w2.heap.size, 1, none⟩ = some (.int .u64 (lo s)) := by go_simp
  have g3w70_w7 : w7.cell? ⟨w3.heap.size, 0, none⟩ = some (.int .u64 (hi s)) := by go_simp
  have g3w71_w7 : w7.cell? ⟨w3.heap.size, 1, none⟩ = some (.int .u64 (lo s)) := by go_simp
  have g4w70_w7 : w7.cell? ⟨w4.heap.size, 0, none⟩ = some (.int .u64 (hi u)) := by go_simp
  have g4w71_w7 : w7.cell? ⟨w4.heap.size, 1, none⟩ = some (.int .u64 (lo u)) := by go_simp
  have g5w70_w7 : w7.cell? ⟨w5.heap.size, 0, none⟩ = some (.int .u64 (hi p)) := by go_simp
  have g5w71_w7 : w7.cell? ⟨w5.heap.size, 1, none⟩ = some (.int .u64 (lo p)) := by go_simp
  have g6w70_w7 : w7.cell? ⟨w6.heap.size, 0, none⟩ = some (.int .u64 (hi p)) := by go_simp
  have g6w71_w7 : w7.cell? ⟨w6.heap.size, 1, none⟩ = some (.int .u64 (lo p)) := by go_simp
  clear hc_w6 hf_w6 hc_w7 hf_w7
  try dsimp only
  repeat (first | with_reducible refine wp_region_ext ?_ [(0, 1), (1, 1), (2, 1), (3, 1), (4, 1), (5, 1), (6, 1), (7, 0), (8, 0), (9, 0), (10, 2), (11, 2), (12, 0)] (fun _ => true) ?_ ?_ ?_ ?_ ?_ | go_step)
  · kernel_rfl
  · kernel_rfl
  · kernel_rfl
  · kernel_rfl
  · exact (fun _ _ d _ _ h => by cases d <;> exact h)
  refine run_read (o := ?_) (v := ?_) (a' := ?_) ?_ ?_ ?_ ?_ (Ext.refl _) ?_
  rotate_left 3
  · (simp only [List.getElem?_toArray, List.getElem?_cons_succ, List.getElem?_cons_zero] <;> rfl)
  · rfl
  · intro w' hw'
    obtain ⟨hc, hf⟩ := ext_cell hw'
    clear hw'
    go_simp
    with_reducible rfl
  · simp only [Act.put, List.setIfInBounds_toArray, List.set_cons_zero, List.set_cons_succ]
    rfl
  refine run_read (o := ?_) (v := ?_) (a' := ?_) ?_ ?_ ?_ ?_ (Ext.refl _) ?_
  rotate_left 3
  · (simp only [List.getElem?_toArray, List.getElem?_cons_succ, List.getElem?_cons_zero] <;> rfl)
  · rfl
  · intro w' hw'
    obtain ⟨hc, hf⟩ := ext_cell hw'
    clear hw'
    go_simp
    with_reducible rfl
  · simp only [Act.put, List.setIfInBounds_toArray, List.set_cons_zero, List.set_cons_succ]
    rfl
  refine run_call (f := 38) (args := ?_) (o := ?_) (v := ?_) (a' := ?_) ?_ ?_ ?_ ?_ ?_ (Ext.refl _) ?_
  rotate_left 4
  · (simp only [List.getElem?_toArray, List.getElem?_cons_succ, List.getElem?_cons_zero] <;> rfl)
  · rfl
  · intro w'
    go_simp
    with_reducible rfl
  · intro w' hw'
    exact (wMulR H4.out _)
  · simp only [Act.put, List.setIfInBounds_toArray, List.set_cons_zero, List.set_cons_succ]
    rfl
  refine run_read (o := ?_) (v := ?_) (a' := ?_) ?_ ?_ ?_ ?_ (Ext.refl _) ?_
  rotate_left 3
  · (simp only [List.getElem?_toArray, List.getElem?_cons_succ, List.getElem?_cons_zero] <;> rfl)
  · rfl
  · intro w' hw'
    obtain ⟨hc, hf⟩ := ext_cell hw'
    clear hw'
    go_simp
    with_reducible rfl
  · simp only [Act.put, List.setIfInBounds_toArray, List.set_cons_zero, List.set_cons_succ]
    rfl
  refine run_read (o := ?_) (v := ?_) (a' := ?_) ?_ ?_ ?_ ?_ (Ext.refl _) ?_
  rotate_left 3
  · (simp only [List.getElem?_toArray, List.getElem?_cons_succ, List.getElem?_cons_zero] <;> rfl)
  · rfl
  · intro w' hw'
    obtain ⟨hc, hf⟩ := ext_cell hw'
    clear hw'
    go_simp
    with_reducible rfl
  · simp only [Act.put, List.setIfInBounds_toArray, List.set_cons_zero, List.set_cons_succ]
    rfl
  refine run_call (f := 38) (args := ?_) (o := ?_) (v := ?_) (a' := ?_) ?_ ?_ ?_ ?_ ?_ (Ext.refl _) ?_
  rotate_left 4
  · (simp only [List.getElem?_toArray, List.getElem?_cons_succ, List.getElem?_cons_zero] <;> rfl)
  · rfl
  · intro w'
    go_simp
    with_reducible rfl
  · intro w' hw'
    exact (wMulR H5.out _)
  · simp only [Act.put, List.setIfInBounds_toArray, List.set_cons_zero, List.set_cons_succ]
    rfl
  refine run_call (f := 29) (args := ?_) (o := ?_) (v := ?_) (a' := ?_) ?_ ?_ ?_ ?_ ?_ (Ext.refl _) ?_
  rotate_left 4
  · (simp only [List.getElem?_toArray, List.getElem?_cons_succ, List.getElem?_cons_zero] <;> rfl)
  · rfl
  · intro w'
    go_simp
    with_reducible rfl
  · intro w' hw'
    exact (wAddR H6.out _)
  · simp only [Act.put, List.setIfInBounds_toArray, List.set_cons_zero, List.set_cons_succ]
    rfl
  refine run_pure (o := ?_) (v := ?_) (a' := ?_) ?_ ?_ ?_ ?_ ?_
  rotate_left 3
  · (simp only [List.getElem?_toArray, List.getElem?_cons_succ, List.getElem?_cons_zero] <;> rfl)
  · rfl
  · intro w'
    go_simp
    with_reducible rfl
  · simp only [Act.put, List.setIfInBounds_toArray, List.set_cons_zero, List.set_cons_succ]
    rfl
  refine run_pure (o := ?_) (v := ?_) (a' := ?_) ?_ ?_ ?_ ?_ ?_
  rotate_left 3
  · (simp only [List.getElem?_toArray, List.getElem?_cons_succ, List.getElem?_cons_zero] <;> rfl)
  · rfl
  · intro w'
    go_simp
    with_reducible rfl
  · simp only [Act.put, List.setIfInBounds_toArray, List.set_cons_zero, List.set_cons_succ]
    rfl
  refine run_pure (o := ?_) (v := ?_) (a' := ?_) ?_ ?_ ?_ ?_ ?_
  rotate_left 3
  · (simp only [List.getElem?_toArray, List.getElem?_cons_succ, List.getElem?_cons_zero] <;> rfl)
  · rfl
  · intro w'
    go_simp
    with_reducible rfl
  · simp only [Act.put, List.setIfInBounds_toArray, List.set_cons_zero, List.set_cons_succ]
    rfl
  refine run_do (o := ?_) ?_ ?_ (fun d1 hx K hK => ?_)
  rotate_left
  · (simp only [List.getElem?_toArray, List.getElem?_cons_succ, List.getElem?_cons_zero] <;> rfl)
  · rfl
  have hc_d1 := (ext_cell hx).1
  have hf_d1 := (ext_cell hx).2
  have HX_d1 := Lib.hid hx
  have y_d1 := hx.size
  try simp at y_d1
  have z_d1_w_0 : w.heap.size < d1.heap.size := by omega
  have z_d1_w_1 : w.heap.size + 1 < d1.heap.size := by omega
  have z_d1_w_2 : w.heap.size + 2 < d1.heap.size := by omega
  have z_d1_w2_0 : w2.heap.size < d1.heap.size := by omega
  have z_d1_w3_0 : w3.heap.size < d1.heap.size := by omega
  have z_d1_w4_0 : w4.heap.size < d1.heap.size := by omega
  have z_d1_w5_0 : w5.heap.size < d1.heap.size := by omega
  have z_d1_w6_0 : w6.heap.size < d1.heap.size := by omega
  have z_d1_w7_0 : w7.heap.size < d1.heap.size := by omega
  clear hx
  go_simp
  refine hK _ _ (fun _ hs => hs.alloc _) ?_
  clear hK K
  try simp only [Act.put, List.setIfInBounds_toArray, List.set_cons_zero, List.set_cons_succ]
  refine run_do (o := ?_) ?_ ?_ (fun d2 hx K hK => ?_)
  rotate_left
  · (simp only [List.getElem?_toArray, List.getElem?_cons_succ, List.getElem?_cons_zero] <;> rfl)
  · rfl
  have hc_d2 := (ext_cell hx).1
  have hf_d2 := (ext_cell hx).2
  have HX_d2 := Lib.hid hx
  have y_d2 := hx.size
  try simp at y_d2
  have z_d2_w_0 : w.heap.size < d2.heap.size := by omega
  have z_d2_w_1 : w.heap.size + 1 < d2.heap.size := by omega
  have z_d2_w_2 : w.heap.size + 2 < d2.heap.size := by omega
  have z_d2_w2_0 : w2.heap.size < d2.heap.size := by omega
  have z_d2_w3_0 : w3.heap.size < d2.heap.size := by omega
  have z_d2_w4_0 : w4.heap.size < d2.heap.size := by omega
  have z_d2_w5_0 : w5.heap.size < d2.heap.size := by omega
  have z_d2_w6_0 : w6.heap.size < d2.heap.size := by omega
  have z_d2_w7_0 : w7.heap.size < d2.heap.size := by omega
  have z_d2_d1_0 : d1.heap.size < d2.heap.size := by omega
  clear hx
  go_simp
  refine hK _ _ (fun _ hs => ?_) ?_
  · repeat (first | exact hs | (refine Ext.setCell ?_ (by simp <;> omega) _))
  clear hK K
  refine run_pure (o := ?_) (v := ?_) (a' := ?_) ?_ ?_ ?_ ?_ ?_
  rotate_left 3
  · (simp only [List.getElem?_toArray, List.getElem?_cons_succ, List.getElem?_cons_zero] <;> rfl)
  · rfl
  · intro w'
    go_simp
    with_reducible rfl
  · simp only [Act.put, List.setIfInBounds_toArray, List.set_cons_zero, List.set_cons_succ]
    rfl
  refine run_nil (fun d3 hx => ?_)
  have hc_d3 := (ext_cell hx).1
  have hf_d3 := (ext_cell hx).2
  have HX_d3 := Lib.hid hx
  have y_d3 := hx.size
  try simp at y_d3
  have z_d3_w_0 : w.heap.size < d3.heap.size := by omega
  have z_d3_w_1 : w.heap.size + 1 < d3.heap.size := by omega
  have z_d3_w_2 : w.heap.size + 2 < d3.heap.size := by omega
  have z_d3_w2_0 : w2.heap.size < d3.heap.size := by omega
  have z_d3_w3_0 : w3.heap.size < d3.heap.size := by omega
  have z_d3_w4_0 : w4.heap.size < d3.heap.size := by omega
  have z_d3_w5_0 : w5.heap.size < d3.heap.size := by omega
  have z_d3_w6_0 : w6.heap.size < d3.heap.size := by omega
  have z_d3_w7_0 : w7.heap.size < d3.heap.size := by omega
  have z_d3_d1_0 : d1.heap.size < d3.heap.size := by omega
  clear hx
  go_wp2_with fail
  refine (wSubSelf _ _).mono ?_
  rintro e w8 ⟨rfl, hx⟩
  have hc_w8 := (ext_cell hx).1
  have hf_w8 := (ext_cell hx).2
  have HX_w8 := Lib.hid hx
  have y_w8 := hx.size
  try simp at y_w8
  have z_w8_w_0 : w.heap.size < w8.heap.size := by omega
  have z_w8_w_1 : w.heap.size + 1 < w8.heap.size := by omega
  have z_w8_w_2 : w.heap.size + 2 < w8.heap.size := by omega
  have z_w8_w2_0 : w2.heap.size < w8.heap.size := by omega
  have z_w8_w3_0 : w3.heap.size < w8.heap.size := by omega
  have z_w8_w4_0 : w4.heap.size < w8.heap.size := by omega
  have z_w8_w5_0 : w5.heap.size < w8.heap.size := by omega
  have z_w8_w6_0 : w6.heap.size < w8.heap.size := by omega
  have z_w8_w7_0 : w7.heap.size < w8.heap.size := by omega
  have z_w8_d1_0 : d1.heap.size < w8.heap.size := by omega
  clear hx
  have faw80_w8 : w8.cell? ⟨w.heap.size, 0, none⟩ = some (.int .u64 (hi a)) := by go_simp
  have faw81_w8 : w8.cell? ⟨w.heap.size, 1, none⟩ = some (.int .u64 (lo a)) := by go_simp
  have fbw80_w8 : w8.cell? ⟨w.heap.size + 1, 0, none⟩ = some (.int .u64 (hi b)) := by go_simp
  have fbw81_w8 : w8.cell? ⟨w.heap.size + 1, 1, none⟩ = some (.int .u64 (lo b)) := by go_simp
  have fcw80_w8 : w8.cell? ⟨w.heap.size + 1 + 1, 0, none⟩ = some (.int .u64 (hi c)) := by go_simp
  have fcw81_w8 : w8.cell? ⟨w.heap.size + 1 + 1, 1, none⟩ = some (.int .u64 (lo c)) := by go_simp
  have g2w80_w8 : w8.cell? ⟨w2.heap.size, 0, none⟩ = some (.int .u64 (hi s)) := by go_simp
  have g2w81_w8 : w8.cell? ⟨w2.heap.size, 1, none⟩ = some (.int .u64 (lo s)) := by go_simp
  have g3w80_w8 : w8.cell? ⟨w3.heap.size, 0, none⟩ = some (.int .u64 (hi s)) := by go_simp
  have g3w81_w8 : w8.cell? ⟨w3.heap.size, 1, none⟩ = some (.int .u64 (lo s)) := by go_simp
  have g4w80_w8 : w8.cell? ⟨w4.heap.size, 0, none⟩ = some (.int .u64 (hi u)) := by go_simp
  have g4w81_w8 : w8.cell? ⟨w4.heap.size, 1, none⟩ = some (.int .u64 (lo u)) := by go_simp
  have g5w80_w8 : w8.cell? ⟨w5.heap.size, 0, none⟩ = some (.int .u64 (hi p)) := by go_simp
  have g5w81_w8 : w8.cell? ⟨w5.heap.size, 1, none⟩ = some (.int .u64 (lo p)) := by go_simp
  have g6w80_w8 : w8.cell? ⟨w6.heap.size, 0, none⟩ = some (.int .u64 (hi p)) := by go_simp
  have g6w81_w8 : w8.cell? ⟨w6.heap.size, 1, none⟩ = some (.int .u64 (lo p)) := by go_simp
  have g7w80_w8 : w8.cell? ⟨w7.heap.size, 0, none⟩ = some (.int .u64 (hi a)) := by go_simp
  have g7w81_w8 : w8.cell? ⟨w7.heap.size, 1, none⟩ = some (.int .u64 (lo a)) := by go_simp
  have g8w80_w8 : w8.cell? ⟨d1.heap.size, 0, none⟩ = some (.int .u64 (hi m)) := by go_simp
  have g8w81_w8 : w8.cell? ⟨d1.heap.size, 1, none⟩ = some (.int .u64 (lo m)) := by go_simp
  clear hc_d1 hf_d1 hc_d2 hf_d2 hc_d3 hf_d3 hc_w8 hf_w8
  go_upto_region 11 with fail
  try go_step
  try go_step
  try go_step
  try go_step
  simp only [List.append_eq, List.cons_append, List.nil_append]
  refine wp_region_ext (by kernel_rfl) [(0, 1), (1, 1), (2, 0), (3, 0), (4, 1), (5, 1), (6, 0), (7, 0), (8, 0), (9, 1), (10, 1), (11, 0), (12, 0), (13, 0), (14, 1), (15, 1), (16, 1), (17, 1), (18, 0), (19, 0), (20, 0), (21, 1), (22, 1), (23, 1), (24, 1), (25, 1), (26, 1), (27, 0), (28, 0), (29, 0), (30, 1), (31, 1), (32, 1), (33, 1), (34, 1), (35, 1), (36, 1), (37, 1), (38, 1), (39, 1), (40, 0), (41, 0), (42, 0), (43, 1), (44, 1), (45, 1), (46, 1), (47, 0), (48, 0), (49, 0), (50, 1), (51, 0), (52, 1), (53, 0), (54, 0), (55, 0), (56, 0), (57, 1), (58, 0), (59, 0), (60, 0), (61, 0), (62, 0), (63, 0), (64, 0), (65, 0)] (fun _ => true) (by kernel_rfl) (by kernel_rfl) (by kernel_rfl) (fun _ _ d _ _ h => by cases d <;> exact h) ?_
  refine run_read (o := ?_) (v := ?_) (a' := ?_) ?_ ?_ ?_ ?_ (Ext.refl _) ?_
  rotate_left 3
  · (simp only [List.getElem?_toArray, List.getElem?_cons_succ, List.getElem?_cons_zero] <;> rfl)
  · rfl
  · intro w' hw'
    obtain ⟨hc, hf⟩ := ext_cell hw'
    clear hw'
    go_simp
    with_reducible rfl
  · simp only [Act.put, List.setIfInBounds_toArray, List.set_cons_zero, List.set_cons_succ]
    rfl
  refine run_read (o := ?_) (v := ?_) (a' := ?_) ?_ ?_ ?_ ?_ (Ext.refl _) ?_
  rotate_left 3
  · (simp only [List.getElem?_toArray, List.getElem?_cons_succ, List.getElem?_cons_zero] <;> rfl)
  · rfl
  · intro w' hw'
    obtain ⟨hc, hf⟩ := ext_cell hw'
    clear hw'
    go_simp
    with_reducible rfl
  · simp only [Act.put, List.setIfInBounds_toArray, List.set_cons_zero, List.set_cons_succ]
    rfl
  refine run_pure (o := ?_) (v := ?_) (a' := ?_) ?_ ?_ ?_ ?_ ?_
  rotate_left 3
  · (simp only [List.getElem?_toArray, List.getElem?_cons_succ, List.getElem?_cons_zero] <;> rfl)
  · rfl
  · intro w'
    go_simp
    with_reducible rfl
  · simp only [Act.put, List.setIfInBounds_toArray, List.set_cons_zero, List.set_cons_succ]
    rfl
  refine run_pure (o := ?_) (v := ?_) (a' := ?_) ?_ ?_ ?_ ?_ ?_
  rotate_left 3
  · (simp only [List.getElem?_toArray, List.getElem?_cons_succ, List.getElem?_cons_zero] <;> rfl)
  · rfl
  · intro w'
    go_simp
    with_reducible rfl
  · simp only [Act.put, List.setIfInBounds_toArray, List.set_cons_zero, List.set_cons_succ]
    rfl
  refine run_read (o := ?_) (v := ?_) (a' := ?_) ?_ ?_ ?_ ?_ (Ext.refl _) ?_
  rotate_left 3
  · (simp only [List.getElem?_toArray, List.getElem?_cons_succ, List.getElem?_cons_zero] <;> rfl)
  · rfl
  · intro w' hw'
    obtain ⟨hc, hf⟩ := ext_cell hw'
    clear hw'
    go_simp
    with_reducible rfl
  · simp only [Act.put, List.setIfInBounds_toArray, List.set_cons_zero, List.set_cons_succ]
    rfl
  refine run_read (o := ?_) (v := ?_) (a' := ?_) ?_ ?_ ?_ ?_ (Ext.refl _) ?_
  rotate_left 3
  · (simp only [List.getElem?_toArray, List.getElem?_cons_succ, List.getElem?_cons_zero] <;> rfl)
  · rfl
  · intro w' hw'
    obtain ⟨hc, hf⟩ := ext_cell hw'
    clear hw'
    go_simp
    with_reducible rfl
  · simp only [Act.put, List.setIfInBounds_toArray, List.set_cons_zero, List.set_cons_succ]
    rfl
  refine run_pure (o := ?_) (v := ?_) (a' := ?_) ?_ ?_ ?_ ?_ ?_
  rotate_left 3
  · (simp only [List.getElem?_toArray, List.getElem?_cons_succ, List.getElem?_cons_zero] <;> rfl)
  · rfl
  · intro w'
    go_simp
    with_reducible rfl
  · simp only [Act.put, List.setIfInBounds_toArray, List.set_cons_zero, List.set_cons_succ]
    rfl
  refine run_pure (o := ?_) (v := ?_) (a' := ?_) ?_ ?_ ?_ ?_ ?_
  rotate_left 3
  · (simp only [List.getElem?_toArray, List.getElem?_cons_succ, List.getElem?_cons_zero] <;> rfl)
  · rfl
  · intro w'
    go_simp
    with_reducible rfl
  · simp only [Act.put, List.setIfInBounds_toArray, List.set_cons_zero, List.set_cons_succ]
    rfl
  refine run_pure (o := ?_) (v := ?_) (a' := ?_) ?_ ?_ ?_ ?_ ?_
  rotate_left 3
  · (simp only [List.getElem?_toArray, List.getElem?_cons_succ, List.getElem?_cons_zero] <;> rfl)
  · rfl
  · intro w'
    go_simp
    with_reducible rfl
  · simp only [Act.put, List.setIfInBounds_toArray, List.set_cons_zero, List.set_cons_succ]
    rfl
  refine run_read (o := ?_) (v := ?_) (a' := ?_) ?_ ?_ ?_ ?_ (Ext.refl _) ?_
  rotate_left 3
  · (simp only [List.getElem?_toArray, List.getElem?_cons_succ, List.getElem?_cons_zero] <;> rfl)
  · rfl
  · intro w' hw'
    obtain ⟨hc, hf⟩ := ext_cell hw'
    clear hw'
    go_simp
    with_reducible rfl
  · simp only [Act.put, List.setIfInBounds_toArray, List.set_cons_zero, List.set_cons_succ]
    rfl
  refine run_read (o := ?_) (v := ?_) (a' := ?_) ?_ ?_ ?_ ?_ (Ext.refl _) ?_
  rotate_left 3
  · (simp only [List.getElem?_toArray, List.getElem?_cons_succ, List.getElem?_cons_zero] <;> rfl)
  · rfl
  · intro w' hw'
    obtain ⟨hc, hf⟩ := ext_cell hw'
    clear hw'
    go_simp
    with_reducible rfl
  · simp only [Act.put, List.setIfInBounds_toArray, List.set_cons_zero, List.set_cons_succ]
    rfl
  refine run_pure (o := ?_) (v := ?_) (a' := ?_) ?_ ?_ ?_ ?_ ?_
  rotate_left 3
  · (simp only [List.getElem?_toArray, List.getElem?_cons_succ, List.getElem?_cons_zero] <;> rfl)
  · rfl
  · intro w'
    go_simp
    with_reducible rfl
  · simp only [Act.put, List.setIfInBounds_toArray, List.set_cons_zero, List.set_cons_succ]
    rfl
  refine run_pure (o := ?_) (v := ?_) (a' := ?_) ?_ ?_ ?_ ?_ ?_
  rotate_left 3
  · (simp only [List.getElem?_toArray, List.getElem?_cons_succ, List.getElem?_cons_zero] <;> rfl)
  · rfl
  · intro w'
    go_simp
    with_reducible rfl
  · simp only [Act.put, List.setIfInBounds_toArray, List.set_cons_zero, List.set_cons_succ]
    rfl
  refine run_pure (o := ?_) (v := ?_) (a' := ?_) ?_ ?_ ?_ ?_ ?_
  rotate_left 3
  · (simp only [List.getElem?_toArray, List.getElem?_cons_succ, List.getElem?_cons_zero] <;> rfl)
  · rfl
  · intro w'
    go_simp
    with_reducible rfl
  · simp only [Act.put, List.setIfInBounds_toArray, List.set_cons_zero, List.set_cons_succ]
    rfl
  refine run_read (o := ?_) (v := ?_) (a' := ?_) ?_ ?_ ?_ ?_ (Ext.refl _) ?_
  rotate_left 3
  · (simp only [List.getElem?_toArray, List.getElem?_cons_succ, List.getElem?_cons_zero] <;> rfl)
  · rfl
  · intro w' hw'
    obtain ⟨hc, hf⟩ := ext_cell hw'
    clear hw'
    go_simp
    with_reducible rfl
  · simp only [Act.put, List.setIfInBounds_toArray, List.set_cons_zero, List.set_cons_succ]
    rfl
  refine run_read (o := ?_) (v := ?_) (a' := ?_) ?_ ?_ ?_ ?_ (Ext.refl _) ?_
  rotate_left 3
  · (simp only [List.getElem?_toArray, List.getElem?_cons_succ, List.getElem?_cons_zero] <;> rfl)
  · rfl
  · intro w' hw'
    obtain ⟨hc, hf⟩ := ext_cell hw'
    clear hw'
    go_simp
    with_reducible rfl
  · simp only [Act.put, List.setIfInBounds_toArray, List.set_cons_zero, List.set_cons_succ]
    rfl
  refine run_read (o := ?_) (v := ?_) (a' := ?_) ?_ ?_ ?_ ?_ (Ext.refl _) ?_
  rotate_left 3
  · (simp only [List.getElem?_toArray, List.getElem?_cons_succ, List.getElem?_cons_zero] <;> rfl)
  · rfl
  · intro w' hw'
    obtain ⟨hc, hf⟩ := ext_cell hw'
    clear hw'
    go_simp
    with_reducible rfl
  · simp only [Act.put, List.setIfInBounds_toArray, List.set_cons_zero, List.set_cons_succ]
    rfl
  refine run_call (f := 38) (args := ?_) (o := ?_) (v := ?_) (a' := ?_) ?_ ?_ ?_ ?_ ?_ (Ext.refl _) ?_
  rotate_left 4
  · (simp only [List.getElem?_toArray, List.getElem?_cons_succ, List.getElem?_cons_zero] <;> rfl)
  · rfl
  · intro w'
    go_simp
    with_reducible rfl
  · intro w' hw'
    exact (wMulR H6'.out _)
  · simp only [Act.put, List.setIfInBounds_toArray, List.set_cons_zero, List.set_cons_succ]
    rfl
  refine run_pure (o := ?_) (v := ?_) (a' := ?_) ?_ ?_ ?_ ?_ ?_
  rotate_left 3
  · (simp only [List.getElem?_toArray, List.getElem?_cons_succ, List.getElem?_cons_zero] <;> rfl)
  · rfl
  · intro w'
    go_simp
    with_reducible rfl
  · simp only [Act.put, List.setIfInBounds_toArray, List.set_cons_zero, List.set_cons_succ]
    rfl
  refine run_pure (o := ?_) (v := ?_) (a' := ?_) ?_ ?_ ?_ ?_ ?_
  rotate_left 3
  · (simp only [List.getElem?_toArray, List.getElem?_cons_succ, List.getElem?_cons_zero] <;> rfl)
  · rfl
  · intro w'
    go_simp
    with_reducible rfl
  · simp only [Act.put, List.setIfInBounds_toArray, List.set_cons_zero, List.set_cons_succ]
    rfl
  refine run_pure (o := ?_) (v := ?_) (a' := ?_) ?_ ?_ ?_ ?_ ?_
  rotate_left 3
  · (simp only [List.getElem?_toArray, List.getElem?_cons_succ, List.getElem?_cons_zero] <;> rfl)
  · rfl
  · intro w'
    go_simp
    with_reducible rfl
  · simp only [Act.put, List.setIfInBounds_toArray, List.set_cons_zero, List.set_cons_succ]
    rfl
  refine run_read (o := ?_) (v := ?_) (a' := ?_) ?_ ?_ ?_ ?_ (Ext.refl _) ?_
  rotate_left 3
  · (simp only [List.getElem?_toArray, List.getElem?_cons_succ, List.getElem?_cons_zero] <;> rfl)
  · rfl
  · intro w' hw'
    obtain ⟨hc, hf⟩ := ext_cell hw'
    clear hw'
    go_simp
    with_reducible rfl
  · simp only [Act.put, List.setIfInBounds_toArray, List.set_cons_zero, List.set_cons_succ]
    rfl
  refine run_read (o := ?_) (v := ?_) (a' := ?_) ?_ ?_ ?_ ?_ (Ext.refl _) ?_
  rotate_left 3
  · (simp only [List.getElem?_toArray, List.getElem?_cons_succ, List.getElem?_cons_zero] <;> rfl)
  · rfl
  · intro w' hw'
    obtain ⟨hc, hf⟩ := ext_cell hw'
    clear hw'
    go_simp
    with_reducible rfl
  · simp only [Act.put, List.setIfInBounds_toArray, List.set_cons_zero, List.set_cons_succ]
    rfl
  refine run_call (f := 38) (args := ?_) (o := ?_) (v := ?_) (a' := ?_) ?_ ?_ ?_ ?_ ?_ (Ext.refl _) ?_
  rotate_left 4
  · (simp only [List.getElem?_toArray, List.getElem?_cons_succ, List.getElem?_cons_zero] <;> rfl)
  · rfl
  · intro w'
    go_simp
    with_reducible rfl
  · intro w' hw'
    exact (wMulR H4.out _)
  · simp only [Act.put, List.setIfInBounds_toArray, List.set_cons_zero, List.set_cons_succ]
    rfl
  refine run_read (o := ?_) (v := ?_) (a' := ?_) ?_ ?_ ?_ ?_ (Ext.refl _) ?_
  rotate_left 3
  · (simp only [List.getElem?_toArray, List.getElem?_cons_succ, List.getElem?_cons_zero] <;> rfl)
  · rfl
  · intro w' hw'
    obtain ⟨hc, hf⟩ := ext_cell hw'
    clear hw'
    go_simp
    with_reducible rfl
  · simp only [Act.put, List.setIfInBounds_toArray, List.set_cons_zero, List.set_cons_succ]
    rfl
  refine run_read (o := ?_) (v := ?_) (a' := ?_) ?_ ?_ ?_ ?_ (Ext.refl _) ?_
  rotate_left 3
  · (simp only [List.getElem?_toArray, List.getElem?_cons_succ, List.getElem?_cons_zero] <;> rfl)
  · rfl
  · intro w' hw'
    obtain ⟨hc, hf⟩ := ext_cell hw'
    clear hw'
    go_simp
    with_reducible rfl
  · simp only [Act.put, List.setIfInBounds_toArray, List.set_cons_zero, List.set_cons_succ]
    rfl
  refine run_call (f := 38) (args := ?_) (o := ?_) (v := ?_) (a' := ?_) ?_ ?_ ?_ ?_ ?_ (Ext.refl _) ?_
  rotate_left 4
  · (simp only [List.getElem?_toArray, List.getElem?_cons_succ, List.getElem?_cons_zero] <;> rfl)
  · rfl
  · intro w'
    go_simp
    with_reducible rfl
  · intro w' hw'
    exact (wMulR H4'.out _)
  · simp only [Act.put, List.setIfInBounds_toArray, List.set_cons_zero, List.set_cons_succ]
    rfl
  refine run_pure (o := ?_) (v := ?_) (a' := ?_) ?_ ?_ ?_ ?_ ?_
  rotate_left 3
  · (simp only [List.getElem?_toArray, List.getElem?_cons_succ, List.getElem?_cons_zero] <;> rfl)
  · rfl
  · intro w'
    go_simp
    with_reducible rfl
  · simp only [Act.put, List.setIfInBounds_toArray, List.set_cons_zero, List.set_cons_succ]
    rfl
  refine run_pure (o := ?_) (v := ?_) (a' := ?_) ?_ ?_ ?_ ?_ ?_
  rotate_left 3
  · (simp only [List.getElem?_toArray, List.getElem?_cons_succ, List.getElem?_cons_zero] <;> rfl)
  · rfl
  · intro w'
    go_simp
    with_reducible rfl
  · simp only [Act.put, List.setIfInBounds_toArray, List.set_cons_zero, List.set_cons_succ]
    rfl
  refine run_pure (o := ?_) (v := ?_) (a' := ?_) ?_ ?_ ?_ ?_ ?_
  rotate_left 3
  · (simp only [List.getElem?_toArray, List.getElem?_cons_succ, List.getElem?_cons_zero] <;> rfl)
  · rfl
  · intro w'
    go_simp
    with_reducible rfl
  · simp only [Act.put, List.setIfInBounds_toArray, List.set_cons_zero, List.set_cons_succ]
    rfl
  refine run_read (o := ?_) (v := ?_) (a' := ?_) ?_ ?_ ?_ ?_ (Ext.refl _) ?_
  rotate_left 3
  · (simp only [List.getElem?_toArray, List.getElem?_cons_succ, List.getElem?_cons_zero] <;> rfl)
  · rfl
  · intro w' hw'
    obtain ⟨hc, hf⟩ := ext_cell hw'
    clear hw'
    go_simp
    with_reducible rfl
  · simp only [Act.put, List.setIfInBounds_toArray, List.set_cons_zero, List.set_cons_succ]
    rfl
  refine run_read (o := ?_) (v := ?_) (a' := ?_) ?_ ?_ ?_ ?_ (Ext.refl _) ?_
  rotate_left 3
  · (simp only [List.getElem?_toArray, List.getElem?_cons_succ, List.getElem?_cons_zero] <;> rfl)
  · rfl
  · intro w' hw'
    obtain ⟨hc, hf⟩ := ext_cell hw'
    clear hw'
    go_simp
    with_reducible rfl
  · simp only [Act.put, List.setIfInBounds_toArray, List.set_cons_zero, List.set_cons_succ]
    rfl
  refine run_call (f := 38) (args := ?_) (o := ?_) (v := ?_) (a' := ?_) ?_ ?_ ?_ ?_ ?_ (Ext.refl _) ?_
  rotate_left 4
  · (simp only [List.getElem?_toArray, List.getElem?_cons_succ, List.getElem?_cons_zero] <;> rfl)
  · rfl
  · intro w'
    go_simp
    with_reducible rfl
  · intro w' hw'
    exact (wMulR H4.out _)
  · simp only [Act.put, List.setIfInBounds_toArray, List.set_cons_zero, List.set_cons_succ]
    rfl
  refine run_read (o := ?_) (v := ?_) (a' := ?_) ?_ ?_ ?_ ?_ (Ext.refl _) ?_
  rotate_left 3
  · (simp only [List.getElem?_toArray, List.getElem?_cons_succ, List.getElem?_cons_zero] <;> rfl)
  · rfl
  · intro w' hw'
    obtain ⟨hc, hf⟩ := ext_cell hw'
    clear hw'
    go_simp
    with_reducible rfl
  · simp only [Act.put, List.setIfInBounds_toArray, List.set_cons_zero, List.set_cons_succ]
    rfl
  refine run_call (f := 38) (args := ?_) (o := ?_) (v := ?_) (a' := ?_) ?_ ?_ ?_ ?_ ?_ (Ext.refl _) ?_
  rotate_left 4
  · (simp only [List.getElem?_toArray, List.getElem?_cons_succ, List.getElem?_cons_zero] <;> rfl)
  · rfl
  · intro w'
    go_simp
    with_reducible rfl
  · intro w' hw'
    exact (wMulR H7.out _)
  · simp only [Act.put, List.setIfInBounds_toArray, List.set_cons_zero, List.set_cons_succ]
    rfl
  refine run_read (o := ?_) (v := ?_) (a' := ?_) ?_ ?_ ?_ ?_ (Ext.refl _) ?_
  rotate_left 3
  · (simp only [List.getElem?_toArray, List.getElem?_cons_succ, List.getElem?_cons_zero] <;> rfl)
  · rfl
  · intro w' hw'
    obtain ⟨hc, hf⟩ := ext_cell hw'
    clear hw'
    go_simp
    with_reducible rfl
  · simp only [Act.put, List.setIfInBounds_toArray, List.set_cons_zero, List.set_cons_succ]
    rfl
  refine run_read (o := ?_) (v := ?_) (a' := ?_) ?_ ?_ ?_ ?_ (Ext.refl _) ?_
  rotate_left 3
  · (simp only [List.getElem?_toArray, List.getElem?_cons_succ, List.getElem?_cons_zero] <;> rfl)
  · rfl
  · intro w' hw'
    obtain ⟨hc, hf⟩ := ext_cell hw'
    clear hw'
    go_simp
    with_reducible rfl
  · simp only [Act.put, List.setIfInBounds_toArray, List.set_cons_zero, List.set_cons_succ]
    rfl
  refine run_read (o := ?_) (v := ?_) (a' := ?_) ?_ ?_ ?_ ?_ (Ext.refl _) ?_
  rotate_left 3
  · (simp only [List.getElem?_toArray, List.getElem?_cons_succ, List.getElem?_cons_zero] <;> rfl)
  · rfl
  · intro w' hw'
    obtain ⟨hc, hf⟩ := ext_cell hw'
    clear hw'
    go_simp
    with_reducible rfl
  · simp only [Act.put, List.setIfInBounds_toArray, List.set_cons_zero, List.set_cons_succ]
    rfl
  refine run_call (f := 38) (args := ?_) (o := ?_) (v := ?_) (a' := ?_) ?_ ?_ ?_ ?_ ?_ (Ext.refl _) ?_
  rotate_left 4
  · (simp only [List.getElem?_toArray, List.getElem?_cons_succ, List.getElem?_cons_zero] <;> rfl)
  · rfl
  · intro w'
    go_simp
    with_reducible rfl
  · intro w' hw'
    exact (wMulR H8.out _)
  · simp only [Act.put, List.setIfInBounds_toArray, List.set_cons_zero, List.set_cons_succ]
    rfl
  refine run_call (f := 38) (args := ?_) (o := ?_) (v := ?_) (a' := ?_) ?_ ?_ ?_ ?_ ?_ (Ext.refl _) ?_
  rotate_left 4
  · (simp only [List.getElem?_toArray, List.getElem?_cons_succ, List.getElem?_cons_zero] <;> rfl)
  · rfl
  · intro w'
    go_simp
    with_reducible rfl
  · intro w' hw'
    exact (wMulR H7'.out _)
  · simp only [Act.put, List.setIfInBounds_toArray, List.set_cons_zero, List.set_cons_succ]
    rfl
  refine run_pure (o := ?_) (v := ?_) (a' := ?_) ?_ ?_ ?_ ?_ ?_
  rotate_left 3
  · (simp only [List.getElem?_toArray, List.getElem?_cons_succ, List.getElem?_cons_zero] <;> rfl)
  · rfl
  · intro w'
    go_simp
    with_reducible rfl
  · simp only [Act.put, List.setIfInBounds_toArray, List.set_cons_zero, List.set_cons_succ]
    rfl
  refine run_pure (o := ?_) (v := ?_) (a' := ?_) ?_ ?_ ?_ ?_ ?_
  rotate_left 3
  · (simp only [List.getElem?_toArray, List.getElem?_cons_succ, List.getElem?_cons_zero] <;> rfl)
  · rfl
  · intro w'
    go_simp
    with_reducible rfl
  · simp only [Act.put, List.setIfInBounds_toArray, List.set_cons_zero, List.set_cons_succ]
    rfl
  refine run_pure (o := ?_) (v := ?_) (a' := ?_) ?_ ?_ ?_ ?_ ?_
  rotate_left 3
  · (simp only [List.getElem?_toArray, List.getElem?_cons_succ, List.getElem?_cons_zero] <;> rfl)
  · rfl
  · intro w'
    go_simp
    with_reducible rfl
  · simp only [Act.put, List.setIfInBounds_toArray, List.set_cons_zero, List.set_cons_succ]
    rfl
  refine run_read (o := ?_) (v := ?_) (a' := ?_) ?_ ?_ ?_ ?_ (Ext.refl _) ?_
  rotate_left 3
  · (simp only [List.getElem?_toArray, List.getElem?_cons_succ, List.getElem?_cons_zero] <;> rfl)
  · rfl
  · intro w' hw'
    obtain ⟨hc, hf⟩ := ext_cell hw'
    clear hw'
    go_simp
    with_reducible rfl
  · simp only [Act.put, List.setIfInBounds_toArray, List.set_cons_zero, List.set_cons_succ]
    rfl
  refine run_call (f := 21) (args := ?_) (o := ?_) (v := ?_) (a' := ?_) ?_ ?_ ?_ ?_ ?_ (Ext.refl _) ?_
  rotate_left 4
  · (simp only [List.getElem?_toArray, List.getElem?_cons_succ, List.getElem?_cons_zero] <;> rfl)
  · rfl
  · intro w'
    go_simp
    with_reducible rfl
  · intro w' hw'
    exact (by refine wOf _ ?_ _; unfold Word; omega)
  · simp only [Act.put, List.setIfInBounds_toArray, List.set_cons_zero, List.set_cons_succ]
    rfl
  refine run_call (f := 38) (args := ?_) (o := ?_) (v := ?_) (a' := ?_) ?_ ?_ ?_ ?_ ?_ (Ext.refl _) ?_
  rotate_left 4
  · (simp only [List.getElem?_toArray, List.getElem?_cons_succ, List.getElem?_cons_zero] <;> rfl)
  · rfl
  · intro w'
    go_simp
    with_reducible rfl
  · intro w' hw'
    exact (wMulR HO.out _)
  · simp only [Act.put, List.setIfInBounds_toArray, List.set_cons_zero, List.set_cons_succ]
    rfl
  refine run_read (o := ?_) (v := ?_) (a' := ?_) ?_ ?_ ?_ ?_ (Ext.refl _) ?_
  rotate_left 3
  · (simp only [List.getElem?_toArray, List.getElem?_cons_succ, List.getElem?_cons_zero] <;> rfl)
  · rfl
  · intro w' hw'
    obtain ⟨hc, hf⟩ := ext_cell hw'
    clear hw'
    go_simp
    with_reducible rfl
  · simp only [Act.put, List.setIfInBounds_toArray, List.set_cons_zero, List.set_cons_succ]
    rfl
  refine run_pure (o := ?_) (v := ?_) (a' := ?_) ?_ ?_ ?_ ?_ ?_
  rotate_left 3
  · (simp only [List.getElem?_toArray, List.getElem?_cons_succ, List.getElem?_cons_zero] <;> rfl)
  · rfl
  · intro w'
    go_simp
    with_reducible rfl
  · simp only [Act.put, List.setIfInBounds_toArray, List.set_cons_zero, List.set_cons_succ]
    rfl
  refine run_pure (o := ?_) (v := ?_) (a' := ?_) ?_ ?_ ?_ ?_ ?_
  rotate_left 3
  · (simp only [List.getElem?_toArray, List.getElem?_cons_succ, List.getElem?_cons_zero] <;> rfl)
  · rfl
  · intro w'
    go_simp
    with_reducible rfl
  · simp only [Act.put, List.setIfInBounds_toArray, List.set_cons_zero, List.set_cons_succ]
    rfl
  refine run_pure (o := ?_) (v := ?_) (a' := ?_) ?_ ?_ ?_ ?_ ?_
  rotate_left 3
  · (simp only [List.getElem?_toArray, List.getElem?_cons_succ, List.getElem?_cons_zero] <;> rfl)
  · rfl
  · intro w'
    go_simp
    with_reducible rfl
  · simp only [Act.put, List.setIfInBounds_toArray, List.set_cons_zero, List.set_cons_succ]
    rfl
  refine run_read (o := ?_) (v := ?_) (a' := ?_) ?_ ?_ ?_ ?_ (Ext.refl _) ?_
  rotate_left 3
  · (simp only [List.getElem?_toArray, List.getElem?_cons_succ, List.getElem?_cons_zero] <;> rfl)
  · rfl
  · intro w' hw'
    obtain ⟨hc, hf⟩ := ext_cell hw'
    clear hw'
    go_simp
    with_reducible rfl
  · simp only [Act.put, List.setIfInBounds_toArray, List.set_cons_zero, List.set_cons_succ]
    rfl
  refine run_pure (o := ?_) (v := ?_) (a' := ?_) ?_ ?_ ?_ ?_ ?_
  rotate_left 3
  · (simp only [List.getElem?_toArray, List.getElem?_cons_succ, List.getElem?_cons_zero] <;> rfl)
  · rfl
  · intro w'
    go_simp
    with_reducible rfl
  · simp only [Act.put, List.setIfInBounds_toArray, List.set_cons_zero, List.set_cons_succ]
    rfl
  refine run_call (f := 38) (args := ?_) (o := ?_) (v := ?_) (a' := ?_) ?_ ?_ ?_ ?_ ?_ (Ext.refl _) ?_
  rotate_left 4
  · (simp only [List.getElem?_toArray, List.getElem?_cons_succ, List.getElem?_cons_zero] <;> rfl)
  · rfl
  · intro w'
    go_simp
    with_reducible rfl
  · intro w' hw'
    exact (wMulZero _ _)
  · simp only [Act.put, List.setIfInBounds_toArray, List.set_cons_zero, List.set_cons_succ]
    rfl
  refine run_pure (o := ?_) (v := ?_) (a' := ?_) ?_ ?_ ?_ ?_ ?_
  rotate_left 3
  · (simp only [List.getElem?_toArray, List.getElem?_cons_succ, List.getElem?_cons_zero] <;> rfl)
  · rfl
  · intro w'
    go_simp
    with_reducible rfl
  · simp only [Act.put, List.setIfInBounds_toArray, List.set_cons_zero, List.set_cons_succ]
    rfl
  refine run_pure (o := ?_) (v := ?_) (a' := ?_) ?_ ?_ ?_ ?_ ?_
  rotate_left 3
  · (simp only [List.getElem?_toArray, List.getElem?_cons_succ, List.getElem?_cons_zero] <;> rfl)
  · rfl
  · intro w'
    go_simp
    with_reducible rfl
  · simp only [Act.put, List.setIfInBounds_toArray, List.set_cons_zero, List.set_cons_succ]
    rfl
  refine run_pure (o := ?_) (v := ?_) (a' := ?_) ?_ ?_ ?_ ?_ ?_
  rotate_left 3
  · (simp only [List.getElem?_toArray, List.getElem?_cons_succ, List.getElem?_cons_zero] <;> rfl)
  · rfl
  · intro w'
    go_simp
    with_reducible rfl
  · simp only [Act.put, List.setIfInBounds_toArray, List.set_cons_zero, List.set_cons_succ]
    rfl
  refine run_pure (o := ?_) (v := ?_) (a' := ?_) ?_ ?_ ?_ ?_ ?_
  rotate_left 3
  · (simp only [List.getElem?_toArray, List.getElem?_cons_succ, List.getElem?_cons_zero] <;> rfl)
  · rfl
  · intro w'
    go_simp
    with_reducible rfl
  · simp only [Act.put, List.setIfInBounds_toArray, List.set_cons_zero, List.set_cons_succ]
    rfl
  refine run_read (o := ?_) (v := ?_) (a' := ?_) ?_ ?_ ?_ ?_ (Ext.refl _) ?_
  rotate_left 3
  · (simp only [List.getElem?_toArray, List.getElem?_cons_succ, List.getElem?_cons_zero] <;> rfl)
  · rfl
  · intro w' hw'
    obtain ⟨hc, hf⟩ := ext_cell hw'
    clear hw'
    go_simp
    with_reducible rfl
  · simp only [Act.put, List.setIfInBounds_toArray, List.set_cons_zero, List.set_cons_succ]
    rfl
  refine run_pure (o := ?_) (v := ?_) (a' := ?_) ?_ ?_ ?_ ?_ ?_
  rotate_left 3
  · (simp only [List.getElem?_toArray, List.getElem?_cons_succ, List.getElem?_cons_zero] <;> rfl)
  · rfl
  · intro w'
    go_simp
    with_reducible rfl
  · simp only [Act.put, List.setIfInBounds_toArray, List.set_cons_zero, List.set_cons_succ]
    rfl
  refine run_pure (o := ?_) (v := ?_) (a' := ?_) ?_ ?_ ?_ ?_ ?_
  rotate_left 3
  · (simp only [List.getElem?_toArray, List.getElem?_cons_succ, List.getElem?_cons_zero] <;> rfl)
  · rfl
  · intro w'
    go_simp
    with_reducible rfl
  · simp only [Act.put, List.setIfInBounds_toArray, List.set_cons_zero, List.set_cons_succ]
    rfl
  refine run_pure (o := ?_) (v := ?_) (a' := ?_) ?_ ?_ ?_ ?_ ?_
  rotate_left 3
  · (simp only [List.getElem?_toArray, List.getElem?_cons_succ, List.getElem?_cons_zero] <;> rfl)
  · rfl
  · intro w'
    go_simp
    with_reducible rfl
  · simp only [Act.put, List.setIfInBounds_toArray, List.set_cons_zero, List.set_cons_succ]
    rfl
  refine run_pure (o := ?_) (v := ?_) (a' := ?_) ?_ ?_ ?_ ?_ ?_
  rotate_left 3
  · (simp only [List.getElem?_toArray, List.getElem?_cons_succ, List.getElem?_cons_zero] <;> rfl)
  · rfl
  · intro w'
    go_simp
    with_reducible rfl
  · simp only [Act.put, List.setIfInBounds_toArray, List.set_cons_zero, List.set_cons_succ]
    rfl
  refine run_pure (o := ?_) (v := ?_) (a' := ?_) ?_ ?_ ?_ ?_ ?_
  rotate_left 3
  · (simp only [List.getElem?_toArray, List.getElem?_cons_succ, List.getElem?_cons_zero] <;> rfl)
  · rfl
  · intro w'
    go_simp
    with_reducible rfl
  · simp only [Act.put, List.setIfInBounds_toArray, List.set_cons_zero, List.set_cons_succ]
    rfl
  refine run_pure (o := ?_) (v := ?_) (a' := ?_) ?_ ?_ ?_ ?_ ?_
  rotate_left 3
  · (simp only [List.getElem?_toArray, List.getElem?_cons_succ, List.getElem?_cons_zero] <;> rfl)
  · rfl
  · intro w'
    go_simp
    with_reducible rfl
  · simp only [Act.put, List.setIfInBounds_toArray, List.set_cons_zero, List.set_cons_succ]
    rfl
  refine run_pure (o := ?_) (v := ?_) (a' := ?_) ?_ ?_ ?_ ?_ ?_
  rotate_left 3
  · (simp only [List.getElem?_toArray, List.getElem?_cons_succ, List.getElem?_cons_zero] <;> rfl)
  · rfl
  · intro w'
    go_simp
    with_reducible rfl
  · simp only [Act.put, List.setIfInBounds_toArray, List.set_cons_zero, List.set_cons_succ]
    rfl
  refine run_pure (o := ?_) (v := ?_) (a' := ?_) ?_ ?_ ?_ ?_ ?_
  rotate_left 3
  · (simp only [List.getElem?_toArray, List.getElem?_cons_succ, List.getElem?_cons_zero] <;> rfl)
  · rfl
  · intro w'
    go_simp
    with_reducible rfl
  · simp only [Act.put, List.setIfInBounds_toArray, List.set_cons_zero, List.set_cons_succ]
    rfl
  refine run_nil (fun e1 hx => ?_)
  have hc_e1 := (ext_cell hx).1
  have hf_e1 := (ext_cell hx).2
  have HX_e1 := Lib.hid hx
  have y_e1 := hx.size
  try simp at y_e1
  have z_e1_w_0 : w.heap.size < e1.heap.size := by omega
  have z_e1_w_1 : w.heap.size + 1 < e1.heap.size := by omega
  have z_e1_w_2 : w.heap.size + 2 < e1.heap.size := by omega
  have z_e1_w2_0 : w2.heap.size < e1.heap.size := by omega
  have z_e1_w3_0 : w3.heap.size < e1.heap.size := by omega
  have z_e1_w4_0 : w4.heap.size < e1.heap.size := by omega
  have z_e1_w5_0 : w5.heap.size < e1.heap.size := by omega
  have z_e1_w6_0 : w6.heap.size < e1.heap.size := by omega
  have z_e1_w7_0 : w7.heap.size < e1.heap.size := by omega
  have z_e1_d1_0 : d1.heap.size < e1.heap.size := by omega
  have z_e1_w8_0 : w8.heap.size < e1.heap.size := by omega
  clear hx
  go_wp2
  go_ret
  refine ⟨rfl, ?_⟩
  · repeat (first | exact Ext.refl _ | refine Ext.alloc ?_ _ | (refine Ext.setCell ?_ (by simp <;> omega) _) | refine Ext.drew ?_ | refine Ext.trans ?_ HX_e1.out | refine Ext.trans ?_ HX_w8.out | refine Ext.trans ?_ HX_d3.out | refine Ext.trans ?_ HX_d2.out | refine Ext.trans ?_ HX_d1.out | refine Ext.trans ?_ HX_w7.out | refine Ext.trans ?_ HX_w6.out | refine Ext.trans ?_ HX_w5.out | refine Ext.trans ?_ HX_w4.out | refine Ext.trans ?_ HX_w3.out | refine Ext.trans ?_ HX_w2.out | refine Ext.trans ?_ HX_w1.out)
end Go.Proofs.Ytjjapblpmpidcab
