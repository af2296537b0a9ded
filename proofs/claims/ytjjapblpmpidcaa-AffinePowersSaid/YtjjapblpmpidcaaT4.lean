import Derived.Test.YtjjapblpmpidcaaK9
import Derived.Test.YtjjapblpmpidcaaV
import Derived.Deep.DeepCutAuto
import Derived.OpenShut
set_option linter.unusedVariables false
set_option linter.unusedSimpArgs false
namespace Go.Proofs.Ytjjapblpmpidcaa
open Go.RowKit Num UReg

theorem aPowerE {a c n x y : V} (h : powM (a, c) n.toNat = (x, y)) (w : World) : Calls Try.prog 37 #[.agg #[.int .u64 (hi a), .int .u64 (lo a), .int .u64 (hi c), .int .u64 (lo c)], .agg #[.int .u64 (hi n), .int .u64 (lo n)]] w fun e w' =>
    e = .returned (.agg #[.int .u64 (hi x), .int .u64 (lo x), .int .u64 (hi y), .int .u64 (lo y)]) ∧ Ext w w' := by
  have h1 := aPower a c n w
  rwa [h] at h1
theorem wAddE {a b s : V} {o : Bool} (h : a + b = s) (ho : over a b = o) (w : World) : Calls Try.prog 40 #[.agg #[.int .u64 (hi a), .int .u64 (lo a)], .agg #[.int .u64 (hi b), .int .u64 (lo b)]] w fun e w' =>
    e = .returned (.tuple #[.agg #[.int .u64 (hi s), .int .u64 (lo s)], .bool o]) ∧ Ext w w' := by
  have h1 := wAdd a b w
  rwa [h, ho] at h1
theorem wFullE {x y : Int} {v : V} (hx : Word x) (hy : Word y) (h : full x y = v) (w : World) : Calls Try.prog 41 #[.int .u64 x, .int .u64 y] w fun e w' =>
    e = .returned (.agg #[.int .u64 (hi v), .int .u64 (lo v)]) ∧ Ext w w' := by
  have h1 := wide_Full x y hx hy w
  rwa [h] at h1

set_option maxRecDepth 10000 in
set_option maxHeartbeats 8000000 in
theorem affinePowers_in (a c n k : V) (f : Int) (hf0 : 0 ≤ f) (hf1 : f ≤ 255) (w : World) :
    Calls Try.prog 8 #[.agg #[.int .u64 (hi a), .int .u64 (lo a), .int .u64 (hi c), .int .u64 (lo c)], .agg #[.int .u64 (hi n), .int .u64 (lo n)], .agg #[.int .u64 (hi k), .int .u64 (lo k)], .int .u8 f] w
      fun e w' => e = .returned (.bool true) ∧ Ext w w' := by
  obtain ⟨m, hm⟩ : ∃ m, n + k = m := ⟨_, rfl⟩
  obtain ⟨v, hv⟩ : ∃ m, full (lo n) (lo k) = m := ⟨_, rfl⟩
  obtain ⟨x1, x2, h1⟩ : ∃ x1 x2, powM (a, c) n.toNat = (x1, x2) := ⟨_, _, rfl⟩
  obtain ⟨y1, y2, h2⟩ : ∃ x1 x2, powM (a, c) k.toNat = (x1, x2) := ⟨_, _, rfl⟩
  obtain ⟨z1, z2, h3⟩ : ∃ x1 x2, powM (a, c) m.toNat = (x1, x2) := ⟨_, _, rfl⟩
  obtain ⟨u1, u2, h4⟩ : ∃ p q, powM (x1, x2) k.toNat = (p, q) := ⟨_, _, rfl⟩
  obtain ⟨v1, v2, h5⟩ : ∃ x1 x2, powM (a, c) v.toNat = (x1, x2) := ⟨_, _, rfl⟩
  have G1 : over n k = false → same2 (y1 * x1) (y1 * x2 + y2) z1 z2 = true := by
    intro ho
    have hl : n.toNat + k.toNat < 340282366920938463463374607431768211456 := by unfold over at ho; simpa using ho
    have e : thenM (powM (a, c) n.toNat) (powM (a, c) k.toNat) = powM (a, c) m.toNat := by
      rw [← powM_add, ← hm, BitVec.toNat_add, Nat.mod_eq_of_lt hl]
    rw [h1, h2, h3] at e
    simp only [thenM, Prod.mk.injEq] at e
    exact decide_eq_true e
  have G2 : hi n = 0 → hi k = 0 → same2 u1 u2 v1 v2 = true := by
    intro hn hk
    have en : (n.toNat : Int) = lo n := by rw [toNat_eq n, hn]; omega
    have ek : (k.toNat : Int) = lo k := by rw [toNat_eq k, hk]; omega
    have ev : v.toNat = n.toNat * k.toNat := by
      have := toNat_full (lo n) (lo k) (word_lo n) (word_lo k)
      rw [hv, ← en, ← ek] at this
      exact_mod_cast this
    have e : powM (powM (a, c) n.toNat) k.toNat = powM (a, c) v.toNat := by rw [powM_mul, ev]
    rw [h1, h4, h5] at e
    simp only [Prod.mk.injEq] at e
    exact decide_eq_true e
  have HG1 := Lib.hid G1
  have HG2 := Lib.hid G2
  have H1 := Lib.hid h1
  have H2 := Lib.hid h2
  have H3 := Lib.hid h3
  have H4 := Lib.hid h4
  have H5 := Lib.hid h5
  have HA := Lib.hid (wAddE hm (o := over n k) rfl)
  have HV := Lib.hid hv
  clear h1 h2 h3 h4 h5 hm hv G1 G2
  go_enter Try.func8, Try.ntmps8
  go_wp2_with fail
  refine (awake9 _).mono ?_
  rintro e w1 ⟨rfl, hx⟩
  have hc_w1 := (ext_cell hx).1
  have hf_w1 := (ext_cell hx).2
  have HX_w1 := Lib.hid hx
  have y_w1 := hx.size
  try simp at y_w1
  have z_w1_w_0 : w.heap.size < w1.heap.size := by omega
  have z_w1_w_1 : w.heap.size + 1 < w1.heap.size := by omega
  have z_w1_w_2 : w.heap.size + 2 < w1.heap.size := by omega
  clear hx
  go_wp2_with fail
  refine (HA.out _).mono ?_
  rintro e w3 ⟨rfl, hx⟩
  have hc_w3 := (ext_cell hx).1
  have hf_w3 := (ext_cell hx).2
  have HX_w3 := Lib.hid hx
  have y_w3 := hx.size
  try simp at y_w3
  have z_w3_w_0 : w.heap.size < w3.heap.size := by omega
  have z_w3_w_1 : w.heap.size + 1 < w3.heap.size := by omega
  have z_w3_w_2 : w.heap.size + 2 < w3.heap.size := by omega
  clear hx
  try dsimp only
  repeat (first | with_reducible refine wp_region_ext ?_ [(0, 1), (1, 1), (2, 1), (3, 1), (4, 1), (5, 1), (6, 3), (7, 2), (8, 2), (9, 2)] (fun _ => true) ?_ ?_ ?_ ?_ ?_ | go_step)
  · kernel_rfl
  · kernel_rfl
  · kernel_rfl
  · kernel_rfl
  · exact (fun _ _ d _ _ h => by cases d <;> exact h)
  refine run_read (o := ?_) (v := ?_) (a' := ?_) ?_ ?_ ?_ ?_ (Ext.refl _) ?_
  rotate_left 3
  · (simp only [List.getElem?_toArray, List.getElem?_cons_succ, List.getElem?_cons_zero] <;> rfl)
  · rfl
  · intro w' hw'
    obtain ⟨hc, hf⟩ := ext_cell hw'
    clear hw'
    go_simp
    with_reducible rfl
  · simp only [Act.put, List.setIfInBounds_toArray, List.set_cons_zero, List.set_cons_succ]
    rfl
  refine run_read (o := ?_) (v := ?_) (a' := ?_) ?_ ?_ ?_ ?_ (Ext.refl _) ?_
  rotate_left 3
  · (simp only [List.getElem?_toArray, List.getElem?_cons_succ, List.getElem?_cons_zero] <;> rfl)
  · rfl
  · intro w' hw'
    obtain ⟨hc, hf⟩ := ext_cell hw'
    clear hw'
    go_simp
    with_reducible rfl
  · simp only [Act.put, List.setIfInBounds_toArray, List.set_cons_zero, List.set_cons_succ]
    rfl
  refine run_call (f := 37) (args := ?_) (o := ?_) (v := ?_) (a' := ?_) ?_ ?_ ?_ ?_ ?_ (Ext.refl _) ?_
  rotate_left 4
  · (simp only [List.getElem?_toArray, List.getElem?_cons_succ, List.getElem?_cons_zero] <;> rfl)
  · rfl
  · intro w'
    go_simp
    with_reducible rfl
  · intro w' _
    exact (aPowerE H1.out _)
  · simp only [Act.put, List.setIfInBounds_toArray, List.set_cons_zero, List.set_cons_succ]
    rfl
  refine run_read (o := ?_) (v := ?_) (a' := ?_) ?_ ?_ ?_ ?_ (Ext.refl _) ?_
  rotate_left 3
  · (simp only [List.getElem?_toArray, List.getElem?_cons_succ, List.getElem?_cons_zero] <;> rfl)
  · rfl
  · intro w' hw'
    obtain ⟨hc, hf⟩ := ext_cell hw'
    clear hw'
    go_simp
    with_reducible rfl
  · simp only [Act.put, List.setIfInBounds_toArray, List.set_cons_zero, List.set_cons_succ]
    rfl
  refine run_read (o := ?_) (v := ?_) (a' := ?_) ?_ ?_ ?_ ?_ (Ext.refl _) ?_
  rotate_left 3
  · (simp only [List.getElem?_toArray, List.getElem?_cons_succ, List.getElem?_cons_zero] <;> rfl)
  · rfl
  · intro w' hw'
    obtain ⟨hc, hf⟩ := ext_cell hw'
    clear hw'
    go_simp
    with_reducible rfl
  · simp only [Act.put, List.setIfInBounds_toArray, List.set_cons_zero, List.set_cons_succ]
    rfl
  refine run_call (f := 37) (args := ?_) (o := ?_) (v := ?_) (a' := ?_) ?_ ?_ ?_ ?_ ?_ (Ext.refl _) ?_
  rotate_left 4
  · (simp only [List.getElem?_toArray, List.getElem?_cons_succ, List.getElem?_cons_zero] <;> rfl)
  · rfl
  · intro w'
    go_simp
    with_reducible rfl
  · intro w' _
    exact (aPowerE H2.out _)
  · simp only [Act.put, List.setIfInBounds_toArray, List.set_cons_zero, List.set_cons_succ]
    rfl
  refine run_allocs (oi := ?_) (oj := ?_) (xi := .cells #[.int .u64 0, .int .u64 0, .int .u64 0, .int .u64 0] 56) (xj := .cells #[.int .u64 0, .int .u64 0, .int .u64 0, .int .u64 0] 56) (vi := [.int .u64 0, .int .u64 0, .int .u64 0, .int .u64 0]) (vj := [.int .u64 0, .int .u64 0, .int .u64 0, .int .u64 0]) ?_ ?_ ?_ ?_ ?_ ?_ ?_ ?_ ?_ ?_ ?_ ?_ (fun b6_d b7_d d1 hne_d1 hb1_d1 hb2_d1 hl1_d1 hl2_d1 hx hc1_d1 hc2_d1 => ?_)
  rotate_left 2
  · (simp only [List.getElem?_toArray, List.getElem?_cons_succ, List.getElem?_cons_zero] <;> rfl)
  · (simp only [List.getElem?_toArray, List.getElem?_cons_succ, List.getElem?_cons_zero] <;> rfl)
  · rfl
  · rfl
  · kernel_rfl
  · intro cs b h; cases h
  · intro cs b h; cases h
  · intro w'
    go_simp
    try with_reducible rfl
  · intro w'
    go_simp
    try with_reducible rfl
  · intro w'
    exact Cells.mk4 (by go_simp <;> rfl) (by go_simp <;> rfl) (by go_simp <;> rfl) (by go_simp <;> rfl) (by go_simp) (by go_simp) (by go_simp) (by go_simp)
  · intro w'
    exact Cells.mk4 (by go_simp <;> rfl) (by go_simp <;> rfl) (by go_simp <;> rfl) (by go_simp <;> rfl) (by go_simp) (by go_simp) (by go_simp) (by go_simp)
  · exact fun _ _ h k => h.trans k
  have hc_d1 := (ext_cell hx).1
  have hf_d1 := (ext_cell hx).2
  have HX_d1 := Lib.hid hx
  have y_d1 := hx.size
  try simp at y_d1
  have z_d1_w_0 : w.heap.size < d1.heap.size := by omega
  have z_d1_w_1 : w.heap.size + 1 < d1.heap.size := by omega
  have z_d1_w_2 : w.heap.size + 2 < d1.heap.size := by omega
  have z_d1_w3_0 : w3.heap.size < d1.heap.size := by omega
  have z_d1_b6_d : b6_d < d1.heap.size := by omega
  have z_d1_b7_d : b7_d < d1.heap.size := by omega
  clear hx
  obtain ⟨c10_d1, c11_d1, c12_d1, c13_d1, f10_d1, f11_d1, f12_d1, f13_d1⟩ := hc1_d1.four
  obtain ⟨c20_d1, c21_d1, c22_d1, c23_d1, f20_d1, f21_d1, f22_d1, f23_d1⟩ := hc2_d1.four
  have hne2_d1 := hne_d1.symm
  try simp at hb1_d1
  try simp at hb2_d1
  clear hc1_d1 hc2_d1
  try simp only [Act.put, List.setIfInBounds_toArray, List.set_cons_zero, List.set_cons_succ]
  refine run_do (o := ?_) ?_ ?_ (fun d2 hx K hK => ?_)
  rotate_left
  · (simp only [List.getElem?_toArray, List.getElem?_cons_succ, List.getElem?_cons_zero] <;> rfl)
  · rfl
  have hc_d2 := (ext_cell hx).1
  have hf_d2 := (ext_cell hx).2
  have HX_d2 := Lib.hid hx
  have y_d2 := hx.size
  try simp at y_d2
  have z_d2_w_0 : w.heap.size < d2.heap.size := by omega
  have z_d2_w_1 : w.heap.size + 1 < d2.heap.size := by omega
  have z_d2_w_2 : w.heap.size + 2 < d2.heap.size := by omega
  have z_d2_w3_0 : w3.heap.size < d2.heap.size := by omega
  have z_d2_b6_d : b6_d < d2.heap.size := by omega
  have z_d2_b7_d : b7_d < d2.heap.size := by omega
  clear hx
  go_simp
  refine hK _ _ (fun _ hs => ?_) ?_
  · repeat (first | exact hs | (refine Ext.setCell ?_ (by simp <;> omega) _))
  clear hK K
  refine run_do (o := ?_) ?_ ?_ (fun d3 hx K hK => ?_)
  rotate_left
  · (simp only [List.getElem?_toArray, List.getElem?_cons_succ, List.getElem?_cons_zero] <;> rfl)
  · rfl
  have hc_d3 := (ext_cell hx).1
  have hf_d3 := (ext_cell hx).2
  have HX_d3 := Lib.hid hx
  have y_d3 := hx.size
  try simp at y_d3
  have z_d3_w_0 : w.heap.size < d3.heap.size := by omega
  have z_d3_w_1 : w.heap.size + 1 < d3.heap.size := by omega
  have z_d3_w_2 : w.heap.size + 2 < d3.heap.size := by omega
  have z_d3_w3_0 : w3.heap.size < d3.heap.size := by omega
  have z_d3_b6_d : b6_d < d3.heap.size := by omega
  have z_d3_b7_d : b7_d < d3.heap.size := by omega
  clear hx
  go_simp
  refine hK _ _ (fun _ hs => ?_) ?_
  · repeat (first | exact hs | (refine Ext.setCell ?_ (by simp <;> omega) _))
  clear hK K
  refine run_nil (fun d4 hx => ?_)
  have hc_d4 := (ext_cell hx).1
  have hf_d4 := (ext_cell hx).2
  have HX_d4 := Lib.hid hx
  have y_d4 := hx.size
  try simp at y_d4
  have z_d4_w_0 : w.heap.size < d4.heap.size := by omega
  have z_d4_w_1 : w.heap.size + 1 < d4.heap.size := by omega
  have z_d4_w_2 : w.heap.size + 2 < d4.heap.size := by omega
  have z_d4_w3_0 : w3.heap.size < d4.heap.size := by omega
  have z_d4_b6_d : b6_d < d4.heap.size := by omega
  have z_d4_b7_d : b7_d < d4.heap.size := by omega
  clear hx
  go_upto_region 5 with fail
  go_cut [38] (fun s38 wx => s38 = .bool false ∧ Ext w wx ∧ w.heap.size + 3 ≤ wx.heap.size ∧ b6_d < wx.heap.size ∧ Cells wx w.heap.size [.int .u64 (hi a), .int .u64 (lo a), .int .u64 (hi c), .int .u64 (lo c)]
    ∧ Cells wx (w.heap.size + 1) [.int .u64 (hi n), .int .u64 (lo n)] ∧ Cells wx (w.heap.size + 2) [.int .u64 (hi k), .int .u64 (lo k)] ∧ Cells wx b6_d [.int .u64 (hi x1), .int .u64 (lo x1), .int .u64 (hi x2), .int .u64 (lo x2)])
  case first =>
    by_cases ho : over n k = true
    · skip
      try dsimp only
      repeat (first | with_reducible refine wp_region_ext ?_ [(0, 0), (1, 0), (2, 0), (3, 0), (4, 0), (5, 0), (6, 0), (7, 0), (8, 0), (9, 0), (10, 0)] (fun _ => true) ?_ ?_ ?_ ?_ ?_ | go_step)
      · kernel_rfl
      · kernel_rfl
      · kernel_rfl
      · kernel_rfl
      · exact (fun _ _ d _ _ h => by cases d <;> exact h)
      refine run_pure (o := ?_) (v := ?_) (a' := ?_) ?_ ?_ ?_ ?_ ?_
      rotate_left 3
      · (simp only [List.getElem?_toArray, List.getElem?_cons_succ, List.getElem?_cons_zero] <;> rfl)
      · rfl
      · intro w'
        go_simp
        with_reducible rfl
      · simp only [Act.put, List.setIfInBounds_toArray, List.set_cons_zero, List.set_cons_succ]
        rfl
      refine run_pure (o := ?_) (v := ?_) (a' := ?_) ?_ ?_ ?_ ?_ ?_
      rotate_left 3
      · (simp only [List.getElem?_toArray, List.getElem?_cons_succ, List.getElem?_cons_zero] <;> rfl)
      · rfl
      · intro w'
        go_simp
        with_reducible rfl
      · simp only [Act.put, List.setIfInBounds_toArray, List.set_cons_zero, List.set_cons_succ]
        rfl
      refine run_pure (o := ?_) (v := ?_) (a' := ?_) ?_ ?_ ?_ ?_ ?_
      rotate_left 3
      · (simp only [List.getElem?_toArray, List.getElem?_cons_succ, List.getElem?_cons_zero] <;> rfl)
      · rfl
      · intro w'
        go_simp
        with_reducible rfl
      · simp only [Act.put, List.setIfInBounds_toArray, List.set_cons_zero, List.set_cons_succ]
        rfl
      refine run_off (o := ?_) (a' := ?_) ?_ ?_ ?_ ?_
      rotate_left 2
      · (simp only [List.getElem?_toArray, List.getElem?_cons_succ, List.getElem?_cons_zero] <;> rfl)
      · rfl
      · simp only [Act.put, List.setIfInBounds_toArray, List.set_cons_zero, List.set_cons_succ]
        rfl
      refine run_off (o := ?_) (a' := ?_) ?_ ?_ ?_ ?_
      rotate_left 2
      · (simp only [List.getElem?_toArray, List.getElem?_cons_succ, List.getElem?_cons_zero] <;> rfl)
      · rfl
      · simp only [Act.put, List.setIfInBounds_toArray, List.set_cons_zero, List.set_cons_succ]
        rfl
      refine run_off (o := ?_) (a' := ?_) ?_ ?_ ?_ ?_
      rotate_left 2
      · (simp only [List.getElem?_toArray, List.getElem?_cons_succ, List.getElem?_cons_zero] <;> rfl)
      · rfl
      · simp only [Act.put, List.setIfInBounds_toArray, List.set_cons_zero, List.set_cons_succ]
        rfl
      refine run_off (o := ?_) (a' := ?_) ?_ ?_ ?_ ?_
      rotate_left 2
      · (simp only [List.getElem?_toArray, List.getElem?_cons_succ, List.getElem?_cons_zero] <;> rfl)
      · rfl
      · simp only [Act.put, List.setIfInBounds_toArray, List.set_cons_zero, List.set_cons_succ]
        rfl
      refine run_off (o := ?_) (a' := ?_) ?_ ?_ ?_ ?_
      rotate_left 2
      · (simp only [List.getElem?_toArray, List.getElem?_cons_succ, List.getElem?_cons_zero] <;> rfl)
      · rfl
      · simp only [Act.put, List.setIfInBounds_toArray, List.set_cons_zero, List.set_cons_succ]
        rfl
      refine run_off (o := ?_) (a' := ?_) ?_ ?_ ?_ ?_
      rotate_left 2
      · (simp only [List.getElem?_toArray, List.getElem?_cons_succ, List.getElem?_cons_zero] <;> rfl)
      · rfl
      · simp only [Act.put, List.setIfInBounds_toArray, List.set_cons_zero, List.set_cons_succ]
        rfl
      refine run_off (o := ?_) (a' := ?_) ?_ ?_ ?_ ?_
      rotate_left 2
      · (simp only [List.getElem?_toArray, List.getElem?_cons_succ, List.getElem?_cons_zero] <;> rfl)
      · rfl
      · simp only [Act.put, List.setIfInBounds_toArray, List.set_cons_zero, List.set_cons_succ]
        rfl
      refine run_pure (o := ?_) (v := ?_) (a' := ?_) ?_ ?_ ?_ ?_ ?_
      rotate_left 3
      · (simp only [List.getElem?_toArray, List.getElem?_cons_succ, List.getElem?_cons_zero] <;> rfl)
      · rfl
      · intro w'
        go_simp
        with_reducible rfl
      · simp only [Act.put, List.setIfInBounds_toArray, List.set_cons_zero, List.set_cons_succ]
        rfl
      refine run_nil (fun e1 hx => ?_)
      have hc_e1 := (ext_cell hx).1
      have hf_e1 := (ext_cell hx).2
      have HX_e1 := Lib.hid hx
      have y_e1 := hx.size
      try simp at y_e1
      have z_e1_w_0 : w.heap.size < e1.heap.size := by omega
      have z_e1_w_1 : w.heap.size + 1 < e1.heap.size := by omega
      have z_e1_w_2 : w.heap.size + 2 < e1.heap.size := by omega
      have z_e1_w3_0 : w3.heap.size < e1.heap.size := by omega
      have z_e1_b6_d : b6_d < e1.heap.size := by omega
      have z_e1_b7_d : b7_d < e1.heap.size := by omega
      clear hx
      go_wp2_with fail
      go_meet
      refine ⟨rfl, ?_, by omega, by omega, (Cells.mk4 (by go_simp <;> rfl) (by go_simp <;> rfl) (by go_simp <;> rfl) (by go_simp <;> rfl) (by go_simp) (by go_simp) (by go_simp) (by go_simp)), (Cells.mk2 (by go_simp <;> rfl) (by go_simp <;> rfl) (by go_simp) (by go_simp)), (Cells.mk2 (by go_simp <;> rfl) (by go_simp <;> rfl) (by go_simp) (by go_simp)), (Cells.mk4 (by go_simp <;> rfl) (by go_simp <;> rfl) (by go_simp <;> rfl) (by go_simp <;> rfl) (by go_simp) (by go_simp) (by go_simp) (by go_simp))⟩
      · repeat (first | exact Ext.refl _ | refine Ext.alloc ?_ _ | (refine Ext.setCell ?_ (by simp <;> omega) _) | refine Ext.drew ?_ | refine Ext.trans ?_ HX_e1.out | refine Ext.trans ?_ HX_d4.out | refine Ext.trans ?_ HX_d3.out | refine Ext.trans ?_ HX_d2.out | refine Ext.trans ?_ HX_d1.out | refine Ext.trans ?_ HX_w3.out | refine Ext.trans ?_ HX_w1.out)
    · have ho' : over n k = false := by simpa using ho
      have g1 := HG1.out ho'
      clear ho
      try dsimp only
      repeat (first | with_reducible refine wp_region_ext ?_ [(0, 0), (1, 0), (2, 0), (3, 1), (4, 1), (5, 1), (6, 1), (7, 1), (8, 1), (9, 0), (10, 0)] (fun _ => true) ?_ ?_ ?_ ?_ ?_ | go_step)
      · kernel_rfl
      · kernel_rfl
      · kernel_rfl
      · kernel_rfl
      · exact (fun _ _ d _ _ h => by cases d <;> exact h)
      refine run_pure (o := ?_) (v := ?_) (a' := ?_) ?_ ?_ ?_ ?_ ?_
      rotate_left 3
      · (simp only [List.getElem?_toArray, List.getElem?_cons_succ, List.getElem?_cons_zero] <;> rfl)
      · rfl
      · intro w'
        go_simp
        with_reducible rfl
      · simp only [Act.put, List.setIfInBounds_toArray, List.set_cons_zero, List.set_cons_succ]
        rfl
      refine run_pure (o := ?_) (v := ?_) (a' := ?_) ?_ ?_ ?_ ?_ ?_
      rotate_left 3
      · (simp only [List.getElem?_toArray, List.getElem?_cons_succ, List.getElem?_cons_zero] <;> rfl)
      · rfl
      · intro w'
        go_simp
        with_reducible rfl
      · simp only [Act.put, List.setIfInBounds_toArray, List.set_cons_zero, List.set_cons_succ]
        rfl
      refine run_pure (o := ?_) (v := ?_) (a' := ?_) ?_ ?_ ?_ ?_ ?_
      rotate_left 3
      · (simp only [List.getElem?_toArray, List.getElem?_cons_succ, List.getElem?_cons_zero] <;> rfl)
      · rfl
      · intro w'
        go_simp
        with_reducible rfl
      · simp only [Act.put, List.setIfInBounds_toArray, List.set_cons_zero, List.set_cons_succ]
        rfl
      refine run_read (o := ?_) (v := ?_) (a' := ?_) ?_ ?_ ?_ ?_ (Ext.refl _) ?_
      rotate_left 3
      · (simp only [List.getElem?_toArray, List.getElem?_cons_succ, List.getElem?_cons_zero] <;> rfl)
      · rfl
      · intro w' hw'
        obtain ⟨hc, hf⟩ := ext_cell hw'
        clear hw'
        go_simp
        with_reducible rfl
      · simp only [Act.put, List.setIfInBounds_toArray, List.set_cons_zero, List.set_cons_succ]
        rfl
      refine run_read (o := ?_) (v := ?_) (a' := ?_) ?_ ?_ ?_ ?_ (Ext.refl _) ?_
      rotate_left 3
      · (simp only [List.getElem?_toArray, List.getElem?_cons_succ, List.getElem?_cons_zero] <;> rfl)
      · rfl
      · intro w' hw'
        obtain ⟨hc, hf⟩ := ext_cell hw'
        clear hw'
        go_simp
        with_reducible rfl
      · simp only [Act.put, List.setIfInBounds_toArray, List.set_cons_zero, List.set_cons_succ]
        rfl
      refine run_call (f := 36) (args := ?_) (o := ?_) (v := ?_) (a' := ?_) ?_ ?_ ?_ ?_ ?_ (Ext.refl _) ?_
      rotate_left 4
      · (simp only [List.getElem?_toArray, List.getElem?_cons_succ, List.getElem?_cons_zero] <;> rfl)
      · rfl
      · intro w'
        go_simp
        with_reducible rfl
      · intro w' _
        exact (aThen _ _ _ _ _)
      · simp only [Act.put, List.setIfInBounds_toArray, List.set_cons_zero, List.set_cons_succ]
        rfl
      refine run_read (o := ?_) (v := ?_) (a' := ?_) ?_ ?_ ?_ ?_ (Ext.refl _) ?_
      rotate_left 3
      · (simp only [List.getElem?_toArray, List.getElem?_cons_succ, List.getElem?_cons_zero] <;> rfl)
      · rfl
      · intro w' hw'
        obtain ⟨hc, hf⟩ := ext_cell hw'
        clear hw'
        go_simp
        with_reducible rfl
      · simp only [Act.put, List.setIfInBounds_toArray, List.set_cons_zero, List.set_cons_succ]
        rfl
      refine run_read (o := ?_) (v := ?_) (a' := ?_) ?_ ?_ ?_ ?_ (Ext.refl _) ?_
      rotate_left 3
      · (simp only [List.getElem?_toArray, List.getElem?_cons_succ, List.getElem?_cons_zero] <;> rfl)
      · rfl
      · intro w' hw'
        obtain ⟨hc, hf⟩ := ext_cell hw'
        clear hw'
        go_simp
        with_reducible rfl
      · simp only [Act.put, List.setIfInBounds_toArray, List.set_cons_zero, List.set_cons_succ]
        rfl
      refine run_call (f := 37) (args := ?_) (o := ?_) (v := ?_) (a' := ?_) ?_ ?_ ?_ ?_ ?_ (Ext.refl _) ?_
      rotate_left 4
      · (simp only [List.getElem?_toArray, List.getElem?_cons_succ, List.getElem?_cons_zero] <;> rfl)
      · rfl
      · intro w'
        go_simp
        with_reducible rfl
      · intro w' _
        exact (aPowerE H3.out _)
      · simp only [Act.put, List.setIfInBounds_toArray, List.set_cons_zero, List.set_cons_succ]
        rfl
      refine run_pure (o := ?_) (v := ?_) (a' := ?_) ?_ ?_ ?_ ?_ ?_
      rotate_left 3
      · (simp only [List.getElem?_toArray, List.getElem?_cons_succ, List.getElem?_cons_zero] <;> rfl)
      · rfl
      · intro w'
        go_simp
        with_reducible rfl
      · simp only [Act.put, List.setIfInBounds_toArray, List.set_cons_zero, List.set_cons_succ]
        rfl
      refine run_pure (o := ?_) (v := ?_) (a' := ?_) ?_ ?_ ?_ ?_ ?_
      rotate_left 3
      · (simp only [List.getElem?_toArray, List.getElem?_cons_succ, List.getElem?_cons_zero] <;> rfl)
      · rfl
      · intro w'
        go_simp
        with_reducible rfl
      · simp only [Act.put, List.setIfInBounds_toArray, List.set_cons_zero, List.set_cons_succ]
        rfl
      refine run_nil (fun e1 hx => ?_)
      have hc_e1 := (ext_cell hx).1
      have hf_e1 := (ext_cell hx).2
      have HX_e1 := Lib.hid hx
      have y_e1 := hx.size
      try simp at y_e1
      have z_e1_w_0 : w.heap.size < e1.heap.size := by omega
      have z_e1_w_1 : w.heap.size + 1 < e1.heap.size := by omega
      have z_e1_w_2 : w.heap.size + 2 < e1.heap.size := by omega
      have z_e1_w3_0 : w3.heap.size < e1.heap.size := by omega
      have z_e1_b6_d : b6_d < e1.heap.size := by omega
      have z_e1_b7_d : b7_d < e1.heap.size := by omega
      clear hx
      go_wp2_with fail
      go_meet
      refine ⟨rfl, ?_, by omega, by omega, (Cells.mk4 (by go_simp <;> rfl) (by go_simp <;> rfl) (by go_simp <;> rfl) (by go_simp <;> rfl) (by go_simp) (by go_simp) (by go_simp) (by go_simp)), (Cells.mk2 (by go_simp <;> rfl) (by go_simp <;> rfl) (by go_simp) (by go_simp)), (Cells.mk2 (by go_simp <;> rfl) (by go_simp <;> rfl) (by go_simp) (by go_simp)), (Cells.mk4 (by go_simp <;> rfl) (by go_simp <;> rfl) (by go_simp <;> rfl) (by go_simp <;> rfl) (by go_simp) (by go_simp) (by go_simp) (by go_simp))⟩
      · repeat (first | exact Ext.refl _ | refine Ext.alloc ?_ _ | (refine Ext.setCell ?_ (by simp <;> omega) _) | refine Ext.drew ?_ | refine Ext.trans ?_ HX_e1.out | refine Ext.trans ?_ HX_d4.out | refine Ext.trans ?_ HX_d3.out | refine Ext.trans ?_ HX_d2.out | refine Ext.trans ?_ HX_d1.out | refine Ext.trans ?_ HX_w3.out | refine Ext.trans ?_ HX_w1.out)
  case rest =>
    obtain ⟨rfl, HX, z3, zb, hs, hn, hk, hx1⟩ := hcut
    have HX_c := Lib.hid HX
    clear HX
    clear HA H2 H3 HG1 y_w1 y_w3 y_d1 y_d2 y_d3 y_d4
    clear hc_w1 hf_w1 HX_w1 hc_w3 hf_w3 HX_w3 hc_d1 hf_d1 HX_d1 hc_d2 hf_d2 HX_d2 hc_d3 hf_d3 HX_d3 hc_d4 hf_d4 HX_d4
    have z_0 : w.heap.size < wc.heap.size := by omega
    have z_1 : w.heap.size + 1 < wc.heap.size := by omega
    have z_2 : w.heap.size + 2 < wc.heap.size := by omega
    obtain ⟨s0, s1, s2, s3, sf0, sf1, sf2, sf3⟩ := hs.four
    obtain ⟨n0, n1, nf0, nf1⟩ := hn.two
    obtain ⟨k0, k1, kf0, kf1⟩ := hk.two
    obtain ⟨x10, x11, x12, x13, xf0, xf1, xf2, xf3⟩ := hx1.four
    clear hs hn hk hx1
    go_upto_region 7 with fail
    go_cut [59] (fun s59 wx => s59 = .bool false ∧ Ext w wx ∧ w.heap.size + 3 ≤ wx.heap.size ∧ Cells wx w.heap.size [.int .u64 (hi a), .int .u64 (lo a), .int .u64 (hi c), .int .u64 (lo c)]
      ∧ Cells wx (w.heap.size + 1) [.int .u64 (hi n), .int .u64 (lo n)] ∧ Cells wx (w.heap.size + 2) [.int .u64 (hi k), .int .u64 (lo k)])
    case first =>
      by_cases hn : hi n = 0
      · by_cases hk : hi k = 0
        · have g2 := HG2.out hn hk
          have t1 : (hi n == 0) = true := by simp [hn]
          have t2 : (hi k == 0) = true := by simp [hk]
          clear hn hk
          try dsimp only
          repeat (first | with_reducible refine wp_region_ext ?_ [(0, 0), (1, 1), (2, 0), (3, 0), (4, 0), (5, 1), (6, 0), (7, 0), (8, 0), (9, 1), (10, 1), (11, 1), (12, 1), (13, 0), (14, 1), (15, 0), (16, 1), (17, 1), (18, 1), (19, 0), (20, 0)] (fun _ => true) ?_ ?_ ?_ ?_ ?_ | go_step)
          · kernel_rfl
          · kernel_rfl
          · kernel_rfl
          · kernel_rfl
          · exact (fun _ _ d _ _ h => by cases d <;> exact h)
          refine run_pure (o := ?_) (v := ?_) (a' := ?_) ?_ ?_ ?_ ?_ ?_
          rotate_left 3
          · (simp only [List.getElem?_toArray, List.getElem?_cons_succ, List.getElem?_cons_zero] <;> rfl)
          · rfl
          · intro w'
            go_simp
            with_reducible rfl
          · simp only [Act.put, List.setIfInBounds_toArray, List.set_cons_zero, List.set_cons_succ]
            rfl
          refine run_read (o := ?_) (v := ?_) (a' := ?_) ?_ ?_ ?_ ?_ (Ext.refl _) ?_
          rotate_left 3
          · (simp only [List.getElem?_toArray, List.getElem?_cons_succ, List.getElem?_cons_zero] <;> rfl)
          · rfl
          · intro w' hw'
            obtain ⟨hc, hf⟩ := ext_cell hw'
            clear hw'
            go_simp
            with_reducible rfl
          · simp only [Act.put, List.setIfInBounds_toArray, List.set_cons_zero, List.set_cons_succ]
            rfl
          refine run_pure (o := ?_) (v := ?_) (a' := ?_) ?_ ?_ ?_ ?_ ?_
          rotate_left 3
          · (simp only [List.getElem?_toArray, List.getElem?_cons_succ, List.getElem?_cons_zero] <;> rfl)
          · rfl
          · intro w'
            go_simp
            with_reducible rfl
          · simp only [Act.put, List.setIfInBounds_toArray, List.set_cons_zero, List.set_cons_succ]
            rfl
          refine run_pure (o := ?_) (v := ?_) (a' := ?_) ?_ ?_ ?_ ?_ ?_
          rotate_left 3
          · (simp only [List.getElem?_toArray, List.getElem?_cons_succ, List.getElem?_cons_zero] <;> rfl)
          · rfl
          · intro w'
            go_simp
            with_reducible rfl
          · simp only [Act.put, List.setIfInBounds_toArray, List.set_cons_zero, List.set_cons_succ]
            rfl
          refine run_pure (o := ?_) (v := ?_) (a' := ?_) ?_ ?_ ?_ ?_ ?_
          rotate_left 3
          · (simp only [List.getElem?_toArray, List.getElem?_cons_succ, List.getElem?_cons_zero] <;> rfl)
          · rfl
          · intro w'
            go_simp
            with_reducible rfl
          · simp only [Act.put, List.setIfInBounds_toArray, List.set_cons_zero, List.set_cons_succ]
            rfl
          refine run_read (o := ?_) (v := ?_) (a' := ?_) ?_ ?_ ?_ ?_ (Ext.refl _) ?_
          rotate_left 3
          · (simp only [List.getElem?_toArray, List.getElem?_cons_succ, List.getElem?_cons_zero] <;> rfl)
          · rfl
          · intro w' hw'
            obtain ⟨hc, hf⟩ := ext_cell hw'
            clear hw'
            go_simp
            with_reducible rfl
          · simp only [Act.put, List.setIfInBounds_toArray, List.set_cons_zero, List.set_cons_succ]
            rfl
          refine run_pure (o := ?_) (v := ?_) (a' := ?_) ?_ ?_ ?_ ?_ ?_
          rotate_left 3
          · (simp only [List.getElem?_toArray, List.getElem?_cons_succ, List.getElem?_cons_zero] <;> rfl)
          · rfl
          · intro w'
            go_simp
            with_reducible rfl
          · simp only [Act.put, List.setIfInBounds_toArray, List.set_cons_zero, List.set_cons_succ]
            rfl
          refine run_pure (o := ?_) (v := ?_) (a' := ?_) ?_ ?_ ?_ ?_ ?_
          rotate_left 3
          · (simp only [List.getElem?_toArray, List.getElem?_cons_succ, List.getElem?_cons_zero] <;> rfl)
          · rfl
          · intro w'
            go_simp
            with_reducible rfl
          · simp only [Act.put, List.setIfInBounds_toArray, List.set_cons_zero, List.set_cons_succ]
            rfl
          refine run_pure (o := ?_) (v := ?_) (a' := ?_) ?_ ?_ ?_ ?_ ?_
          rotate_left 3
          · (simp only [List.getElem?_toArray, List.getElem?_cons_succ, List.getElem?_cons_zero] <;> rfl)
          · rfl
          · intro w'
            go_simp
            with_reducible rfl
          · simp only [Act.put, List.setIfInBounds_toArray, List.set_cons_zero, List.set_cons_succ]
            rfl
          refine run_read (o := ?_) (v := ?_) (a' := ?_) ?_ ?_ ?_ ?_ (Ext.refl _) ?_
          rotate_left 3
          · (simp only [List.getElem?_toArray, List.getElem?_cons_succ, List.getElem?_cons_zero] <;> rfl)
          · rfl
          · intro w' hw'
            obtain ⟨hc, hf⟩ := ext_cell hw'
            clear hw'
            go_simp
            with_reducible rfl
          · simp only [Act.put, List.setIfInBounds_toArray, List.set_cons_zero, List.set_cons_succ]
            rfl
          refine run_read (o := ?_) (v := ?_) (a' := ?_) ?_ ?_ ?_ ?_ (Ext.refl _) ?_
          rotate_left 3
          · (simp only [List.getElem?_toArray, List.getElem?_cons_succ, List.getElem?_cons_zero] <;> rfl)
          · rfl
          · intro w' hw'
            obtain ⟨hc, hf⟩ := ext_cell hw'
            clear hw'
            go_simp
            with_reducible rfl
          · simp only [Act.put, List.setIfInBounds_toArray, List.set_cons_zero, List.set_cons_succ]
            rfl
          refine run_call (f := 37) (args := ?_) (o := ?_) (v := ?_) (a' := ?_) ?_ ?_ ?_ ?_ ?_ (Ext.refl _) ?_
          rotate_left 4
          · (simp only [List.getElem?_toArray, List.getElem?_cons_succ, List.getElem?_cons_zero] <;> rfl)
          · rfl
          · intro w'
            go_simp
            with_reducible rfl
          · intro w' _
            exact (aPowerE H4.out _)
          · simp only [Act.put, List.setIfInBounds_toArray, List.set_cons_zero, List.set_cons_succ]
            rfl
          refine run_read (o := ?_) (v := ?_) (a' := ?_) ?_ ?_ ?_ ?_ (Ext.refl _) ?_
          rotate_left 3
          · (simp only [List.getElem?_toArray, List.getElem?_cons_succ, List.getElem?_cons_zero] <;> rfl)
          · rfl
          · intro w' hw'
            obtain ⟨hc, hf⟩ := ext_cell hw'
            clear hw'
            go_simp
            with_reducible rfl
          · simp only [Act.put, List.setIfInBounds_toArray, List.set_cons_zero, List.set_cons_succ]
            rfl
          refine run_pure (o := ?_) (v := ?_) (a' := ?_) ?_ ?_ ?_ ?_ ?_
          rotate_left 3
          · (simp only [List.getElem?_toArray, List.getElem?_cons_succ, List.getElem?_cons_zero] <;> rfl)
          · rfl
          · intro w'
            go_simp
            with_reducible rfl
          · simp only [Act.put, List.setIfInBounds_toArray, List.set_cons_zero, List.set_cons_succ]
            rfl
          refine run_read (o := ?_) (v := ?_) (a' := ?_) ?_ ?_ ?_ ?_ (Ext.refl _) ?_
          rotate_left 3
          · (simp only [List.getElem?_toArray, List.getElem?_cons_succ, List.getElem?_cons_zero] <;> rfl)
          · rfl
          · intro w' hw'
            obtain ⟨hc, hf⟩ := ext_cell hw'
            clear hw'
            go_simp
            with_reducible rfl
          · simp only [Act.put, List.setIfInBounds_toArray, List.set_cons_zero, List.set_cons_succ]
            rfl
          refine run_pure (o := ?_) (v := ?_) (a' := ?_) ?_ ?_ ?_ ?_ ?_
          rotate_left 3
          · (simp only [List.getElem?_toArray, List.getElem?_cons_succ, List.getElem?_cons_zero] <;> rfl)
          · rfl
          · intro w'
            go_simp
            with_reducible rfl
          · simp only [Act.put, List.setIfInBounds_toArray, List.set_cons_zero, List.set_cons_succ]
            rfl
          refine run_read (o := ?_) (v := ?_) (a' := ?_) ?_ ?_ ?_ ?_ (Ext.refl _) ?_
          rotate_left 3
          · (simp only [List.getElem?_toArray, List.getElem?_cons_succ, List.getElem?_cons_zero] <;> rfl)
          · rfl
          · intro w' hw'
            obtain ⟨hc, hf⟩ := ext_cell hw'
            clear hw'
            go_simp
            with_reducible rfl
          · simp only [Act.put, List.setIfInBounds_toArray, List.set_cons_zero, List.set_cons_succ]
            rfl
          refine run_call (f := 41) (args := ?_) (o := ?_) (v := ?_) (a' := ?_) ?_ ?_ ?_ ?_ ?_ (Ext.refl _) ?_
          rotate_left 4
          · (simp only [List.getElem?_toArray, List.getElem?_cons_succ, List.getElem?_cons_zero] <;> rfl)
          · rfl
          · intro w'
            go_simp
            with_reducible rfl
          · intro w' _
            exact (wFullE (word_lo _) (word_lo _) HV.out _)
          · simp only [Act.put, List.setIfInBounds_toArray, List.set_cons_zero, List.set_cons_succ]
            rfl
          refine run_call (f := 37) (args := ?_) (o := ?_) (v := ?_) (a' := ?_) ?_ ?_ ?_ ?_ ?_ (Ext.refl _) ?_
          rotate_left 4
          · (simp only [List.getElem?_toArray, List.getElem?_cons_succ, List.getElem?_cons_zero] <;> rfl)
          · rfl
          · intro w'
            go_simp
            with_reducible rfl
          · intro w' _
            exact (aPowerE H5.out _)
          · simp only [Act.put, List.setIfInBounds_toArray, List.set_cons_zero, List.set_cons_succ]
            rfl
          refine run_pure (o := ?_) (v := ?_) (a' := ?_) ?_ ?_ ?_ ?_ ?_
          rotate_left 3
          · (simp only [List.getElem?_toArray, List.getElem?_cons_succ, List.getElem?_cons_zero] <;> rfl)
          · rfl
          · intro w'
            go_simp
            with_reducible rfl
          · simp only [Act.put, List.setIfInBounds_toArray, List.set_cons_zero, List.set_cons_succ]
            rfl
          refine run_pure (o := ?_) (v := ?_) (a' := ?_) ?_ ?_ ?_ ?_ ?_
          rotate_left 3
          · (simp only [List.getElem?_toArray, List.getElem?_cons_succ, List.getElem?_cons_zero] <;> rfl)
          · rfl
          · intro w'
            go_simp
            with_reducible rfl
          · simp only [Act.put, List.setIfInBounds_toArray, List.set_cons_zero, List.set_cons_succ]
            rfl
          refine run_nil (fun g1 hx => ?_)
          have hc_g1 := (ext_cell hx).1
          have hf_g1 := (ext_cell hx).2
          have HX_g1 := Lib.hid hx
          have y_g1 := hx.size
          try simp at y_g1
          have z_g1_b6_d : b6_d < g1.heap.size := by omega
          clear hx
          go_wp2_with fail
          go_meet
          refine ⟨rfl, ?_, by omega, (Cells.mk4 (by go_simp <;> rfl) (by go_simp <;> rfl) (by go_simp <;> rfl) (by go_simp <;> rfl) (by go_simp) (by go_simp) (by go_simp) (by go_simp)), (Cells.mk2 (by go_simp <;> rfl) (by go_simp <;> rfl) (by go_simp) (by go_simp)), (Cells.mk2 (by go_simp <;> rfl) (by go_simp <;> rfl) (by go_simp) (by go_simp))⟩
          repeat (first | exact HX_c.out | refine Ext.trans ?_ HX_g1.out)
        · have t1 : (hi n == 0) = true := by simp [hn]
          have t2 : (hi k == 0) = false := by simp [hk]
          clear hn hk
          try dsimp only
          repeat (first | with_reducible refine wp_region_ext ?_ [(0, 0), (1, 1), (2, 0), (3, 0), (4, 0), (5, 1), (6, 0), (7, 0), (8, 0), (9, 0), (10, 0), (11, 0), (12, 0), (13, 0), (14, 0), (15, 0), (16, 0), (17, 0), (18, 0), (19, 0), (20, 0)] (fun _ => true) ?_ ?_ ?_ ?_ ?_ | go_step)
          · kernel_rfl
          · kernel_rfl
          · kernel_rfl
          · kernel_rfl
          · exact (fun _ _ d _ _ h => by cases d <;> exact h)
          refine run_pure (o := ?_) (v := ?_) (a' := ?_) ?_ ?_ ?_ ?_ ?_
          rotate_left 3
          · (simp only [List.getElem?_toArray, List.getElem?_cons_succ, List.getElem?_cons_zero] <;> rfl)
          · rfl
          · intro w'
            go_simp
            with_reducible rfl
          · simp only [Act.put, List.setIfInBounds_toArray, List.set_cons_zero, List.set_cons_succ]
            rfl
          refine run_read (o := ?_) (v := ?_) (a' := ?_) ?_ ?_ ?_ ?_ (Ext.refl _) ?_
          rotate_left 3
          · (simp only [List.getElem?_toArray, List.getElem?_cons_succ, List.getElem?_cons_zero] <;> rfl)
          · rfl
          · intro w' hw'
            obtain ⟨hc, hf⟩ := ext_cell hw'
            clear hw'
            go_simp
            with_reducible rfl
          · simp only [Act.put, List.setIfInBounds_toArray, List.set_cons_zero, List.set_cons_succ]
            rfl
          refine run_pure (o := ?_) (v := ?_) (a' := ?_) ?_ ?_ ?_ ?_ ?_
          rotate_left 3
          · (simp only [List.getElem?_toArray, List.getElem?_cons_succ, List.getElem?_cons_zero] <;> rfl)
          · rfl
          · intro w'
            go_simp
            with_reducible rfl
          · simp only [Act.put, List.setIfInBounds_toArray, List.set_cons_zero, List.set_cons_succ]
            rfl
          refine run_pure (o := ?_) (v := ?_) (a' := ?_) ?_ ?_ ?_ ?_ ?_
          rotate_left 3
          · (simp only [List.getElem?_toArray, List.getElem?_cons_succ, List.getElem?_cons_zero] <;> rfl)
          · rfl
          · intro w'
            go_simp
            with_reducible rfl
          · simp only [Act.put, List.setIfInBounds_toArray, List.set_cons_zero, List.set_cons_succ]
            rfl
          refine run_pure (o := ?_) (v := ?_) (a' := ?_) ?_ ?_ ?_ ?_ ?_
          rotate_left 3
          · (simp only [List.getElem?_toArray, List.getElem?_cons_succ, List.getElem?_cons_zero] <;> rfl)
          · rfl
          · intro w'
            go_simp
            with_reducible rfl
          · simp only [Act.put, List.setIfInBounds_toArray, List.set_cons_zero, List.set_cons_succ]
            rfl
          refine run_read (o := ?_) (v := ?_) (a' := ?_) ?_ ?_ ?_ ?_ (Ext.refl _) ?_
          rotate_left 3
          · (simp only [List.getElem?_toArray, List.getElem?_cons_succ, List.getElem?_cons_zero] <;> rfl)
          · rfl
          · intro w' hw'
            obtain ⟨hc, hf⟩ := ext_cell hw'
            clear hw'
            go_simp
            with_reducible rfl
          · simp only [Act.put, List.setIfInBounds_toArray, List.set_cons_zero, List.set_cons_succ]
            rfl
          refine run_pure (o := ?_) (v := ?_) (a' := ?_) ?_ ?_ ?_ ?_ ?_
          rotate_left 3
          · (simp only [List.getElem?_toArray, List.getElem?_cons_succ, List.getElem?_cons_zero] <;> rfl)
          · rfl
          · intro w'
            go_simp
            with_reducible rfl
          · simp only [Act.put, List.setIfInBounds_toArray, List.set_cons_zero, List.set_cons_succ]
            rfl
          refine run_pure (o := ?_) (v := ?_) (a' := ?_) ?_ ?_ ?_ ?_ ?_
          rotate_left 3
          · (simp only [List.getElem?_toArray, List.getElem?_cons_succ, List.getElem?_cons_zero] <;> rfl)
          · rfl
          · intro w'
            go_simp
            with_reducible rfl
          · simp only [Act.put, List.setIfInBounds_toArray, List.set_cons_zero, List.set_cons_succ]
            rfl
          refine run_pure (o := ?_) (v := ?_) (a' := ?_) ?_ ?_ ?_ ?_ ?_
          rotate_left 3
          · (simp only [List.getElem?_toArray, List.getElem?_cons_succ, List.getElem?_cons_zero] <;> rfl)
          · rfl
          · intro w'
            go_simp
            with_reducible rfl
          · simp only [Act.put, List.setIfInBounds_toArray, List.set_cons_zero, List.set_cons_succ]
            rfl
          refine run_off (o := ?_) (a' := ?_) ?_ ?_ ?_ ?_
          rotate_left 2
          · (simp only [List.getElem?_toArray, List.getElem?_cons_succ, List.getElem?_cons_zero] <;> rfl)
          · rfl
          · simp only [Act.put, List.setIfInBounds_toArray, List.set_cons_zero, List.set_cons_succ]
            rfl
          refine run_off (o := ?_) (a' := ?_) ?_ ?_ ?_ ?_
          rotate_left 2
          · (simp only [List.getElem?_toArray, List.getElem?_cons_succ, List.getElem?_cons_zero] <;> rfl)
          · rfl
          · simp only [Act.put, List.setIfInBounds_toArray, List.set_cons_zero, List.set_cons_succ]
            rfl
          refine run_off (o := ?_) (a' := ?_) ?_ ?_ ?_ ?_
          rotate_left 2
          · (simp only [List.getElem?_toArray, List.getElem?_cons_succ, List.getElem?_cons_zero] <;> rfl)
          · rfl
          · simp only [Act.put, List.setIfInBounds_toArray, List.set_cons_zero, List.set_cons_succ]
            rfl
          refine run_off (o := ?_) (a' := ?_) ?_ ?_ ?_ ?_
          rotate_left 2
          · (simp only [List.getElem?_toArray, List.getElem?_cons_succ, List.getElem?_cons_zero] <;> rfl)
          · rfl
          · simp only [Act.put, List.setIfInBounds_toArray, List.set_cons_zero, List.set_cons_succ]
            rfl
          refine run_off (o := ?_) (a' := ?_) ?_ ?_ ?_ ?_
          rotate_left 2
          · (simp only [List.getElem?_toArray, List.getElem?_cons_succ, List.getElem?_cons_zero] <;> rfl)
          · rfl
          · simp only [Act.put, List.setIfInBounds_toArray, List.set_cons_zero, List.set_cons_succ]
            rfl
          refine run_off (o := ?_) (a' := ?_) ?_ ?_ ?_ ?_
          rotate_left 2
          · (simp only [List.getElem?_toArray, List.getElem?_cons_succ, List.getElem?_cons_zero] <;> rfl)
          · rfl
          · simp only [Act.put, List.setIfInBounds_toArray, List.set_cons_zero, List.set_cons_succ]
            rfl
          refine run_off (o := ?_) (a' := ?_) ?_ ?_ ?_ ?_
          rotate_left 2
          · (simp only [List.getElem?_toArray, List.getElem?_cons_succ, List.getElem?_cons_zero] <;> rfl)
          · rfl
          · simp only [Act.put, List.setIfInBounds_toArray, List.set_cons_zero, List.set_cons_succ]
            rfl
          refine run_off (o := ?_) (a' := ?_) ?_ ?_ ?_ ?_
          rotate_left 2
          · (simp only [List.getElem?_toArray, List.getElem?_cons_succ, List.getElem?_cons_zero] <;> rfl)
          · rfl
          · simp only [Act.put, List.setIfInBounds_toArray, List.set_cons_zero, List.set_cons_succ]
            rfl
          refine run_off (o := ?_) (a' := ?_) ?_ ?_ ?_ ?_
          rotate_left 2
          · (simp only [List.getElem?_toArray, List.getElem?_cons_succ, List.getElem?_cons_zero] <;> rfl)
          · rfl
          · simp only [Act.put, List.setIfInBounds_toArray, List.set_cons_zero, List.set_cons_succ]
            rfl
          refine run_off (o := ?_) (a' := ?_) ?_ ?_ ?_ ?_
          rotate_left 2
          · (simp only [List.getElem?_toArray, List.getElem?_cons_succ, List.getElem?_cons_zero] <;> rfl)
          · rfl
          · simp only [Act.put, List.setIfInBounds_toArray, List.set_cons_zero, List.set_cons_succ]
            rfl
          refine run_off (o := ?_) (a' := ?_) ?_ ?_ ?_ ?_
          rotate_left 2
          · (simp only [List.getElem?_toArray, List.getElem?_cons_succ, List.getElem?_cons_zero] <;> rfl)
          · rfl
          · simp only [Act.put, List.setIfInBounds_toArray, List.set_cons_zero, List.set_cons_succ]
            rfl
          refine run_pure (o := ?_) (v := ?_) (a' := ?_) ?_ ?_ ?_ ?_ ?_
          rotate_left 3
          · (simp only [List.getElem?_toArray, List.getElem?_cons_succ, List.getElem?_cons_zero] <;> rfl)
          · rfl
          · intro w'
            go_simp
            with_reducible rfl
          · simp only [Act.put, List.setIfInBounds_toArray, List.set_cons_zero, List.set_cons_succ]
            rfl
          refine run_nil (fun g1 hx => ?_)
          have hc_g1 := (ext_cell hx).1
          have hf_g1 := (ext_cell hx).2
          have HX_g1 := Lib.hid hx
          have y_g1 := hx.size
          try simp at y_g1
          have z_g1_b6_d : b6_d < g1.heap.size := by omega
          clear hx
          go_wp2_with fail
          go_meet
          refine ⟨rfl, ?_, by omega, (Cells.mk4 (by go_simp <;> rfl) (by go_simp <;> rfl) (by go_simp <;> rfl) (by go_simp <;> rfl) (by go_simp) (by go_simp) (by go_simp) (by go_simp)), (Cells.mk2 (by go_simp <;> rfl) (by go_simp <;> rfl) (by go_simp) (by go_simp)), (Cells.mk2 (by go_simp <;> rfl) (by go_simp <;> rfl) (by go_simp) (by go_simp))⟩
          repeat (first | exact HX_c.out | refine Ext.trans ?_ HX_g1.out)
      · have t1 : (hi n == 0) = false := by simp [hn]
        clear hn
        try dsimp only
        repeat (first | with_reducible refine wp_region_ext ?_ [(0, 0), (1, 1), (2, 0), (3, 0), (4, 0), (5, 0), (6, 0), (7, 0), (8, 0), (9, 0), (10, 0), (11, 0), (12, 0), (13, 0), (14, 0), (15, 0), (16, 0), (17, 0), (18, 0), (19, 0), (20, 0)] (fun _ => true) ?_ ?_ ?_ ?_ ?_ | go_step)
        · kernel_rfl
        · kernel_rfl
        · kernel_rfl
        · kernel_rfl
        · exact (fun _ _ d _ _ h => by cases d <;> exact h)
        refine run_pure (o := ?_) (v := ?_) (a' := ?_) ?_ ?_ ?_ ?_ ?_
        rotate_left 3
        · (simp only [List.getElem?_toArray, List.getElem?_cons_succ, List.getElem?_cons_zero] <;> rfl)
        · rfl
        · intro w'
          go_simp
          with_reducible rfl
        · simp only [Act.put, List.setIfInBounds_toArray, List.set_cons_zero, List.set_cons_succ]
          rfl
        refine run_read (o := ?_) (v := ?_) (a' := ?_) ?_ ?_ ?_ ?_ (Ext.refl _) ?_
        rotate_left 3
        · (simp only [List.getElem?_toArray, List.getElem?_cons_succ, List.getElem?_cons_zero] <;> rfl)
        · rfl
        · intro w' hw'
          obtain ⟨hc, hf⟩ := ext_cell hw'
          clear hw'
          go_simp
          with_reducible rfl
        · simp only [Act.put, List.setIfInBounds_toArray, List.set_cons_zero, List.set_cons_succ]
          rfl
        refine run_pure (o := ?_) (v := ?_) (a' := ?_) ?_ ?_ ?_ ?_ ?_
        rotate_left 3
        · (simp only [List.getElem?_toArray, List.getElem?_cons_succ, List.getElem?_cons_zero] <;> rfl)
        · rfl
        · intro w'
          go_simp
          with_reducible rfl
        · simp only [Act.put, List.setIfInBounds_toArray, List.set_cons_zero, List.set_cons_succ]
          rfl
        refine run_pure (o := ?_) (v := ?_) (a' := ?_) ?_ ?_ ?_ ?_ ?_
        rotate_left 3
        · (simp only [List.getElem?_toArray, List.getElem?_cons_succ, List.getElem?_cons_zero] <;> rfl)
        · rfl
        · intro w'
          go_simp
          with_reducible rfl
        · simp only [Act.put, List.setIfInBounds_toArray, List.set_cons_zero, List.set_cons_succ]
          rfl
        refine run_off (o := ?_) (a' := ?_) ?_ ?_ ?_ ?_
        rotate_left 2
        · (simp only [List.getElem?_toArray, List.getElem?_cons_succ, List.getElem?_cons_zero] <;> rfl)
        · rfl
        · simp only [Act.put, List.setIfInBounds_toArray, List.set_cons_zero, List.set_cons_succ]
          rfl
        refine run_off (o := ?_) (a' := ?_) ?_ ?_ ?_ ?_
        rotate_left 2
        · (simp only [List.getElem?_toArray, List.getElem?_cons_succ, List.getElem?_cons_zero] <;> rfl)
        · rfl
        · simp only [Act.put, List.setIfInBounds_toArray, List.set_cons_zero, List.set_cons_succ]
          rfl
        refine run_off (o := ?_) (a' := ?_) ?_ ?_ ?_ ?_
        rotate_left 2
        · (simp only [List.getElem?_toArray, List.getElem?_cons_succ, List.getElem?_cons_zero] <;> rfl)
        · rfl
        · simp only [Act.put, List.setIfInBounds_toArray, List.set_cons_zero, List.set_cons_succ]
          rfl
        refine run_pure (o := ?_) (v := ?_) (a' := ?_) ?_ ?_ ?_ ?_ ?_
        rotate_left 3
        · (simp only [List.getElem?_toArray, List.getElem?_cons_succ, List.getElem?_cons_zero] <;> rfl)
        · rfl
        · intro w'
          go_simp
          with_reducible rfl
        · simp only [Act.put, List.setIfInBounds_toArray, List.set_cons_zero, List.set_cons_succ]
          rfl
        refine run_pure (o := ?_) (v := ?_) (a' := ?_) ?_ ?_ ?_ ?_ ?_
        rotate_left 3
        · (simp only [List.getElem?_toArray, List.getElem?_cons_succ, List.getElem?_cons_zero] <;> rfl)
        · rfl
        · intro w'
          go_simp
          with_reducible rfl
        · simp only [Act.put, List.setIfInBounds_toArray, List.set_cons_zero, List.set_cons_succ]
          rfl
        refine run_off (o := ?_) (a' := ?_) ?_ ?_ ?_ ?_
        rotate_left 2
        · (simp only [List.getElem?_toArray, List.getElem?_cons_succ, List.getElem?_cons_zero] <;> rfl)
        · rfl
        · simp only [Act.put, List.setIfInBounds_toArray, List.set_cons_zero, List.set_cons_succ]
          rfl
        refine run_off (o := ?_) (a' := ?_) ?_ ?_ ?_ ?_
        rotate_left 2
        · (simp only [List.getElem?_toArray, List.getElem?_cons_succ, List.getElem?_cons_zero] <;> rfl)
        · rfl
        · simp only [Act.put, List.setIfInBounds_toArray, List.set_cons_zero, List.set_cons_succ]
          rfl
        refine run_off (o := ?_) (a' := ?_) ?_ ?_ ?_ ?_
        rotate_left 2
        · (simp only [List.getElem?_toArray, List.getElem?_cons_succ, List.getElem?_cons_zero] <;> rfl)
        · rfl
        · simp only [Act.put, List.setIfInBounds_toArray, List.set_cons_zero, List.set_cons_succ]
          rfl
        refine run_off (o := ?_) (a' := ?_) ?_ ?_ ?_ ?_
        rotate_left 2
        · (simp only [List.getElem?_toArray, List.getElem?_cons_succ, List.getElem?_cons_zero] <;> rfl)
        · rfl
        · simp only [Act.put, List.setIfInBounds_toArray, List.set_cons_zero, List.set_cons_succ]
          rfl
        refine run_off (o := ?_) (a' := ?_) ?_ ?_ ?_ ?_
        rotate_left 2
        · (simp only [List.getElem?_toArray, List.getElem?_cons_succ, List.getElem?_cons_zero] <;> rfl)
        · rfl
        · simp only [Act.put, List.setIfInBounds_toArray, List.set_cons_zero, List.set_cons_succ]
          rfl
        refine run_off (o := ?_) (a' := ?_) ?_ ?_ ?_ ?_
        rotate_left 2
        · (simp only [List.getElem?_toArray, List.getElem?_cons_succ, List.getElem?_cons_zero] <;> rfl)
        · rfl
        · simp only [Act.put, List.setIfInBounds_toArray, List.set_cons_zero, List.set_cons_succ]
          rfl
        refine run_off (o := ?_) (a' := ?_) ?_ ?_ ?_ ?_
        rotate_left 2
        · (simp only [List.getElem?_toArray, List.getElem?_cons_succ, List.getElem?_cons_zero] <;> rfl)
        · rfl
        · simp only [Act.put, List.setIfInBounds_toArray, List.set_cons_zero, List.set_cons_succ]
          rfl
        refine run_off (o := ?_) (a' := ?_) ?_ ?_ ?_ ?_
        rotate_left 2
        · (simp only [List.getElem?_toArray, List.getElem?_cons_succ, List.getElem?_cons_zero] <;> rfl)
        · rfl
        · simp only [Act.put, List.setIfInBounds_toArray, List.set_cons_zero, List.set_cons_succ]
          rfl
        refine run_off (o := ?_) (a' := ?_) ?_ ?_ ?_ ?_
        rotate_left 2
        · (simp only [List.getElem?_toArray, List.getElem?_cons_succ, List.getElem?_cons_zero] <;> rfl)
        · rfl
        · simp only [Act.put, List.setIfInBounds_toArray, List.set_cons_zero, List.set_cons_succ]
          rfl
        refine run_off (o := ?_) (a' := ?_) ?_ ?_ ?_ ?_
        rotate_left 2
        · (simp only [List.getElem?_toArray, List.getElem?_cons_succ, List.getElem?_cons_zero] <;> rfl)
        · rfl
        · simp only [Act.put, List.setIfInBounds_toArray, List.set_cons_zero, List.set_cons_succ]
          rfl
        refine run_off (o := ?_) (a' := ?_) ?_ ?_ ?_ ?_
        rotate_left 2
        · (simp only [List.getElem?_toArray, List.getElem?_cons_succ, List.getElem?_cons_zero] <;> rfl)
        · rfl
        · simp only [Act.put, List.setIfInBounds_toArray, List.set_cons_zero, List.set_cons_succ]
          rfl
        refine run_pure (o := ?_) (v := ?_) (a' := ?_) ?_ ?_ ?_ ?_ ?_
        rotate_left 3
        · (simp only [List.getElem?_toArray, List.getElem?_cons_succ, List.getElem?_cons_zero] <;> rfl)
        · rfl
        · intro w'
          go_simp
          with_reducible rfl
        · simp only [Act.put, List.setIfInBounds_toArray, List.set_cons_zero, List.set_cons_succ]
          rfl
        refine run_nil (fun g1 hx => ?_)
        have hc_g1 := (ext_cell hx).1
        have hf_g1 := (ext_cell hx).2
        have HX_g1 := Lib.hid hx
        have y_g1 := hx.size
        try simp at y_g1
        have z_g1_b6_d : b6_d < g1.heap.size := by omega
        clear hx
        go_wp2_with fail
        go_meet
        refine ⟨rfl, ?_, by omega, (Cells.mk4 (by go_simp <;> rfl) (by go_simp <;> rfl) (by go_simp <;> rfl) (by go_simp <;> rfl) (by go_simp) (by go_simp) (by go_simp) (by go_simp)), (Cells.mk2 (by go_simp <;> rfl) (by go_simp <;> rfl) (by go_simp) (by go_simp)), (Cells.mk2 (by go_simp <;> rfl) (by go_simp <;> rfl) (by go_simp) (by go_simp))⟩
        repeat (first | exact HX_c.out | refine Ext.trans ?_ HX_g1.out)
    case rest =>
      obtain ⟨rfl, HX, z5, hs, hn, hk⟩ := hcut
      clear HX_c HG2 H1 H4 H5 HV z_0 z_1 z_2 z3 zb s0 s1 s2 s3 sf0 sf1 sf2 sf3 n0 n1 nf0 nf1 k0 k1 kf0 kf1 x10 x11 x12 x13 xf0 xf1 xf2 xf3
      clear hn hk
      have HX_c := Lib.hid HX
      clear HX
      have hr0 : 0 ≤ f % 101 := by omega
      have hr1 : f % 101 ≤ 100 := by omega
      have z_0 : w.heap.size < wc.heap.size := by omega
      have z_1 : w.heap.size + 1 < wc.heap.size := by omega
      have z_2 : w.heap.size + 2 < wc.heap.size := by omega
      obtain ⟨s0, s1, s2, s3, sf0, sf1, sf2, sf3⟩ := hs.four
      clear hs
      go_wp2_with fail
      refine (aOne _).mono ?_
      rintro e w4 ⟨rfl, hx⟩
      have hc_w4 := (ext_cell hx).1
      have hf_w4 := (ext_cell hx).2
      have HX_w4 := Lib.hid hx
      have y_w4 := hx.size
      try simp at y_w4
      have z_w4_w_0 : w.heap.size < w4.heap.size := by omega
      have z_w4_w_1 : w.heap.size + 1 < w4.heap.size := by omega
      have z_w4_w_2 : w.heap.size + 2 < w4.heap.size := by omega
      clear hx
      go_wp2_with fail
      go_loopw [63] (fun j wr => ∃ i : Nat, (i : Int) ≤ f % 101 ∧ j = .int .u8 i ∧ Ext w wr ∧ w4.heap.size < wr.heap.size
          ∧ Cells wr w.heap.size [.int .u64 (hi a), .int .u64 (lo a), .int .u64 (hi c), .int .u64 (lo c)]
          ∧ Cells wr w4.heap.size [.int .u64 (hi (powM (a, c) i).1), .int .u64 (lo (powM (a, c) i).1), .int .u64 (hi (powM (a, c) i).2), .int .u64 (lo (powM (a, c) i).2)])
        (fun j _ => (f % 101).toNat - (intOf j).toNat)
      case atStart =>
        refine ⟨0, by omega, rfl, ?_, by simp, Cells.mk4 (by go_simp <;> rfl) (by go_simp <;> rfl) (by go_simp <;> rfl) (by go_simp <;> rfl) (by go_simp) (by go_simp) (by go_simp) (by go_simp), Cells.mk4 (by go_simp <;> rfl) (by go_simp <;> rfl) (by go_simp <;> rfl) (by go_simp <;> rfl) (by go_simp) (by go_simp) (by go_simp) (by go_simp)⟩
        repeat (first | exact HX_c.out | refine Ext.alloc ?_ _ | (refine Ext.setCell ?_ (by simp <;> omega) _) | refine Ext.trans ?_ HX_w4.out)
      case round =>
        obtain ⟨i, hi', rfl, HX, z6, hs, hp⟩ := hrel
        have HX_r := Lib.hid HX
        clear HX hc_w4 hf_w4 HX_w4 s0 s1 s2 s3 sf0 sf1 sf2 sf3
        obtain ⟨s0, s1, s2, s3, sf0, sf1, sf2, sf3⟩ := hs.four
        obtain ⟨p0, p1, p2, p3, pf0, pf1, pf2, pf3⟩ := hp.four
        have y0 : w.heap.size < wr.heap.size := by omega
        by_cases hlt : (i : Int) < f % 101
        · go_wp2_with fail
          refine (aThen _ _ _ _ _).mono ?_
          rintro e w5 ⟨rfl, hx⟩
          have hs5 := hs.ext hx
          have hp5 := hp.ext hx
          have X5 := Lib.hid (HX_r.out.trans hx)
          have y5 := hx.size
          clear hx hs hp s0 s1 s2 s3 sf0 sf1 sf2 sf3 p0 p1 p2 p3 pf0 pf1 pf2 pf3
          obtain ⟨p0, p1, p2, p3, pf0, pf1, pf2, pf3⟩ := hp5.four
          go_wp2_with fail
          go_roundw
          case rel =>
            refine ⟨i + 1, by omega, by simp, ?_, by simp; omega, ?_, ?_⟩
            · exact (((X5.out.setCell (by simp; omega) _).setCell (by simp; omega) _).setCell (by simp; omega) _).setCell (by simp; omega) _
            · exact (((hs5.other (by omega) _ _).other (by omega) _ _).other (by omega) _ _).other (by omega) _ _
            · exact (((hp5.set 0 _).set 1 _).set 2 _).set 3 _
          case measure => simp [intOf]; omega
        · go_wp2_with fail
          have e : f % 101 = (i : Int) := by omega
          have hof : powM (a, c) (of (f % 101)).toNat = ((powM (a, c) i).1, (powM (a, c) i).2) := by
            have : (of (f % 101)).toNat = i := by
              have h1 : i < 2 ^ 128 := by omega
              rw [e]
              unfold of mk
              rw [BitVec.toNat_ofInt]
              omega
            rw [this]
          have HO := Lib.hid hof
          have hw : Word (f % 101) := by unfold Word; omega
          have hwc : ∀ w, Calls Try.prog 42 #[.int .u64 (IntKind.u64.wrap (f.tmod 101))] w fun e w' => e = .returned (.agg #[.int .u64 (hi (of (f % 101))), .int .u64 (lo (of (f % 101)))]) ∧ Ext w w' := by
            intro w
            rw [Int.tmod_eq_emod_of_nonneg hf0, IntWalk.u64_in _ (by omega)]
            exact wOf _ hw w
          have HW := Lib.hid hwc
          have g3 : same2 (powM (a, c) i).1 (powM (a, c) i).2 (powM (a, c) i).1 (powM (a, c) i).2 = true := decide_eq_true ⟨rfl, rfl⟩
          clear hof hw hwc e hs hp
          try dsimp only
          repeat (first | with_reducible refine wp_region_ext ?_ [(0, 1), (1, 0), (2, 0), (3, 0), (4, 1), (5, 1), (6, 1), (7, 0), (8, 0)] (fun _ => true) ?_ ?_ ?_ ?_ ?_ | go_step)
          · kernel_rfl
          · kernel_rfl
          · kernel_rfl
          · kernel_rfl
          · exact (fun _ _ d _ _ h => by cases d <;> exact h)
          refine run_read (o := ?_) (v := ?_) (a' := ?_) ?_ ?_ ?_ ?_ (Ext.refl _) ?_
          rotate_left 3
          · (simp only [List.getElem?_toArray, List.getElem?_cons_succ, List.getElem?_cons_zero] <;> rfl)
          · rfl
          · intro w' hw'
            obtain ⟨hc, hf⟩ := ext_cell hw'
            clear hw'
            go_simp
            with_reducible rfl
          · simp only [Act.put, List.setIfInBounds_toArray, List.set_cons_zero, List.set_cons_succ]
            rfl
          refine run_pure (o := ?_) (v := ?_) (a' := ?_) ?_ ?_ ?_ ?_ ?_
          rotate_left 3
          · (simp only [List.getElem?_toArray, List.getElem?_cons_succ, List.getElem?_cons_zero] <;> rfl)
          · rfl
          · intro w'
            go_simp
            with_reducible rfl
          · simp only [Act.put, List.setIfInBounds_toArray, List.set_cons_zero, List.set_cons_succ]
            rfl
          refine run_pure (o := ?_) (v := ?_) (a' := ?_) ?_ ?_ ?_ ?_ ?_
          rotate_left 3
          · (simp only [List.getElem?_toArray, List.getElem?_cons_succ, List.getElem?_cons_zero] <;> rfl)
          · rfl
          · intro w'
            go_simp
            with_reducible rfl
          · simp only [Act.put, List.setIfInBounds_toArray, List.set_cons_zero, List.set_cons_succ]
            rfl
          refine run_pure (o := ?_) (v := ?_) (a' := ?_) ?_ ?_ ?_ ?_ ?_
          rotate_left 3
          · (simp only [List.getElem?_toArray, List.getElem?_cons_succ, List.getElem?_cons_zero] <;> rfl)
          · rfl
          · intro w'
            go_simp
            with_reducible rfl
          · simp only [Act.put, List.setIfInBounds_toArray, List.set_cons_zero, List.set_cons_succ]
            rfl
          refine run_call (f := 42) (args := ?_) (o := ?_) (v := ?_) (a' := ?_) ?_ ?_ ?_ ?_ ?_ (Ext.refl _) ?_
          rotate_left 4
          · (simp only [List.getElem?_toArray, List.getElem?_cons_succ, List.getElem?_cons_zero] <;> rfl)
          · rfl
          · intro w'
            go_simp
            with_reducible rfl
          · intro w' _
            exact (HW.out _)
          · simp only [Act.put, List.setIfInBounds_toArray, List.set_cons_zero, List.set_cons_succ]
            rfl
          refine run_call (f := 37) (args := ?_) (o := ?_) (v := ?_) (a' := ?_) ?_ ?_ ?_ ?_ ?_ (Ext.refl _) ?_
          rotate_left 4
          · (simp only [List.getElem?_toArray, List.getElem?_cons_succ, List.getElem?_cons_zero] <;> rfl)
          · rfl
          · intro w'
            go_simp
            with_reducible rfl
          · intro w' _
            exact (aPowerE HO.out _)
          · simp only [Act.put, List.setIfInBounds_toArray, List.set_cons_zero, List.set_cons_succ]
            rfl
          refine run_read (o := ?_) (v := ?_) (a' := ?_) ?_ ?_ ?_ ?_ (Ext.refl _) ?_
          rotate_left 3
          · (simp only [List.getElem?_toArray, List.getElem?_cons_succ, List.getElem?_cons_zero] <;> rfl)
          · rfl
          · intro w' hw'
            obtain ⟨hc, hf⟩ := ext_cell hw'
            clear hw'
            go_simp
            with_reducible rfl
          · simp only [Act.put, List.setIfInBounds_toArray, List.set_cons_zero, List.set_cons_succ]
            rfl
          refine run_pure (o := ?_) (v := ?_) (a' := ?_) ?_ ?_ ?_ ?_ ?_
          rotate_left 3
          · (simp only [List.getElem?_toArray, List.getElem?_cons_succ, List.getElem?_cons_zero] <;> rfl)
          · rfl
          · intro w'
            go_simp
            with_reducible rfl
          · simp only [Act.put, List.setIfInBounds_toArray, List.set_cons_zero, List.set_cons_succ]
            rfl
          refine run_pure (o := ?_) (v := ?_) (a' := ?_) ?_ ?_ ?_ ?_ ?_
          rotate_left 3
          · (simp only [List.getElem?_toArray, List.getElem?_cons_succ, List.getElem?_cons_zero] <;> rfl)
          · rfl
          · intro w'
            go_simp
            with_reducible rfl
          · simp only [Act.put, List.setIfInBounds_toArray, List.set_cons_zero, List.set_cons_succ]
            rfl
          refine run_nil (fun h1 hx => ?_)
          have hc_h1 := (ext_cell hx).1
          have hf_h1 := (ext_cell hx).2
          have HX_h1 := Lib.hid hx
          have y_h1 := hx.size
          try simp at y_h1
          have z_h1_w4_0 : w4.heap.size < h1.heap.size := by omega
          clear hx
          go_wp2
          go_ret
          refine ⟨rfl, ?_⟩
          exact HX_r.out.trans HX_h1.out
theorem affinePowers_walk (a c n k : V) (f : Int) (hf : (Lit.int .u8 f).wf = true) (w : World) :
    Calls Try.prog 8 #[.agg #[.int .u64 (hi a), .int .u64 (lo a), .int .u64 (hi c), .int .u64 (lo c)], .agg #[.int .u64 (hi n), .int .u64 (lo n)], .agg #[.int .u64 (hi k), .int .u64 (lo k)], .int .u8 f] w
      fun e w' => e = .returned (.bool true) ∧ Ext w w' :=
  affinePowers_in a c n k f (bounds_u8 hf).1 (bounds_u8 hf).2 w
end Go.Proofs.Ytjjapblpmpidcaa
