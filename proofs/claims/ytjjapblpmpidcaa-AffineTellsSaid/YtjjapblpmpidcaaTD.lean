import Derived.Test.YtjjapblpmpidcaaXD
import Derived.Test.YtjjapblpmpidcaaK9
import Derived.Deep.DeepCutAuto
set_option linter.unusedVariables false
set_option linter.unusedSimpArgs false
namespace Go.Proofs.Ytjjapblpmpidcaa
open Go.RowKit Num UReg

theorem oOwn (x0 x1 x2 x3 : Int) (w : World) : Calls Try.prog 33 #[.agg #[.int .u64 x0, .int .u64 x1, .int .u64 x2, .int .u64 x3]] w fun e w' =>
    e = .returned (.agg #[.int .u64 x0, .int .u64 x1, .int .u64 x2, .int .u64 x3]) ∧ Ext w w' := by
  go_enter Try.func33, Try.ntmps33
  go_wp2
  refine bodyPost_ret (v := ?_) ?_ rfl ⟨?_, ?_⟩
  rotate_left
  · simp only [results, Try.results33]
    go_simp
    with_reducible rfl
  · rfl
  · repeat (first | exact Ext.refl _ | refine Ext.alloc ?_ _ | (refine Ext.setCell ?_ (by simp <;> omega) _) | refine Ext.drew ?_)
def oddP (x : V) : V := if x.toNat % 2 = 1 then oddI x else 0#128
def oddE (x : V) : Int := if x.toNat % 2 = 1 then 0 else 1
theorem aOddC {x p : V} {k : Int} (h : oddP x = p) (hk : oddE x = k) (w : World) : Calls Try.prog 29 #[.agg #[.int .u64 (hi x), .int .u64 (lo x)]] w fun e w' =>
    e = .returned (.tuple #[.agg #[.int .u64 (hi p), .int .u64 (lo p)], .int .i64 k]) ∧ Ext w w' := by
  subst h hk
  unfold oddP oddE
  split
  · rename_i h
    exact aOdd_odd x h w
  · rename_i h
    rw [hi_zero, lo_zero]
    exact aOdd_even x (by omega) w
theorem rOddC {x p : V} {k : Int} (h : oddP x = p) (hk : oddE x = k) (w : World) : Calls Try.prog 30 #[.agg #[.int .u64 (hi x), .int .u64 (lo x)]] w fun e w' =>
    e = .returned (.tuple #[.agg #[.int .u64 (hi p), .int .u64 (lo p)], .int .i64 k]) ∧ Ext w w' := by
  subst h hk
  unfold oddP oddE
  split
  · rename_i h
    exact rOdd_odd x h w
  · rename_i h
    rw [hi_zero, lo_zero]
    exact rOdd_even x (by omega) w
theorem aAtE {a c x y : V} (h : a * x + c = y) (w : World) : Calls Try.prog 34 #[.agg #[.int .u64 (hi a), .int .u64 (lo a), .int .u64 (hi c), .int .u64 (lo c)], .agg #[.int .u64 (hi x), .int .u64 (lo x)]] w fun e w' =>
    e = .returned (.agg #[.int .u64 (hi y), .int .u64 (lo y)]) ∧ Ext w w' := by
  have h1 := aAt a c x w
  rwa [h] at h1
theorem aThenE {a c b d p q : V} (h : thenM (a, c) (b, d) = (p, q)) (w : World) : Calls Try.prog 36 #[.agg #[.int .u64 (hi a), .int .u64 (lo a), .int .u64 (hi c), .int .u64 (lo c)], .agg #[.int .u64 (hi b), .int .u64 (lo b), .int .u64 (hi d), .int .u64 (lo d)]] w fun e w' =>
    e = .returned (.agg #[.int .u64 (hi p), .int .u64 (lo p), .int .u64 (hi q), .int .u64 (lo q)]) ∧ Ext w w' := by
  have h1 := aThen a c b d w
  unfold thenM at h
  simp only [Prod.mk.injEq] at h
  rwa [h.1, h.2] at h1
theorem aPowE {a c n x y : V} (h : powM (a, c) n.toNat = (x, y)) (w : World) : Calls Try.prog 37 #[.agg #[.int .u64 (hi a), .int .u64 (lo a), .int .u64 (hi c), .int .u64 (lo c)], .agg #[.int .u64 (hi n), .int .u64 (lo n)]] w fun e w' =>
    e = .returned (.agg #[.int .u64 (hi x), .int .u64 (lo x), .int .u64 (hi y), .int .u64 (lo y)]) ∧ Ext w w' := by
  have h1 := aPower a c n w
  rwa [h] at h1
theorem rThenZ (a c : V) (w : World) : Calls Try.prog 32 #[.agg #[.int .u64 (hi a), .int .u64 (lo a), .int .u64 (hi c), .int .u64 (lo c)], .agg #[.int .u64 0, .int .u64 0, .int .u64 0, .int .u64 0]] w fun e w' =>
    e = .returned (.agg #[.int .u64 0, .int .u64 0, .int .u64 0, .int .u64 0]) ∧ Ext w w' := by
  have h1 := rThen a c 0#128 0#128 0#128 0#128 (by unfold thenM; simp) w
  rwa [hi_zero, lo_zero] at h1
theorem rThenI {a c i j : V} (h : thenM (a, c) (i, j) = (1#128, 0#128)) (w : World) : Calls Try.prog 32 #[.agg #[.int .u64 (hi a), .int .u64 (lo a), .int .u64 (hi c), .int .u64 (lo c)], .agg #[.int .u64 (hi i), .int .u64 (lo i), .int .u64 (hi j), .int .u64 (lo j)]] w fun e w' =>
    e = .returned (.agg #[.int .u64 0, .int .u64 1, .int .u64 0, .int .u64 0]) ∧ Ext w w' := by
  have h1 := rThen a c i j _ _ h w
  rwa [hi_zero, lo_zero, show hi (1#128) = 0 from by decide +kernel, show lo (1#128) = 1 from by decide +kernel] at h1
theorem powE_rPower {a c n x y : V} (h : powM (a, c) n.toNat = (x, y)) (w : World) : Calls Try.prog 38 #[.agg #[.int .u64 (hi a), .int .u64 (lo a), .int .u64 (hi c), .int .u64 (lo c)], .agg #[.int .u64 (hi n), .int .u64 (lo n)]] w fun e w' =>
    e = .returned (.agg #[.int .u64 (hi x), .int .u64 (lo x), .int .u64 (hi y), .int .u64 (lo y)]) ∧ Ext w w' := rPower a c n x y h w

set_option maxHeartbeats 8000000 in
theorem affineTells_even (a c b d x : V) (ha : a.toNat % 2 = 0) (w : World) :
    Calls Try.prog 6 #[.agg #[.int .u64 (hi a), .int .u64 (lo a), .int .u64 (hi c), .int .u64 (lo c)], .agg #[.int .u64 (hi b), .int .u64 (lo b), .int .u64 (hi d), .int .u64 (lo d)], .agg #[.int .u64 (hi x), .int .u64 (lo x)]] w
      fun e w' => e = .returned (.bool true) ∧ Ext w w' := by
  obtain ⟨o, h1⟩ : ∃ o, oddP x = o := ⟨_, rfl⟩
  obtain ⟨k, h2⟩ : ∃ o, oddE x = o := ⟨_, rfl⟩
  obtain ⟨oa, h3⟩ : ∃ o, oddP a = o := ⟨_, rfl⟩
  obtain ⟨y, h4⟩ : ∃ y, a * x + c = y := ⟨_, rfl⟩
  obtain ⟨⟨p, q⟩, h5⟩ : ∃ t, thenM (a, c) (b, d) = t := ⟨_, rfl⟩
  obtain ⟨⟨r, s⟩, h6⟩ : ∃ t, powM (a, c) x.toNat = t := ⟨_, rfl⟩
  have HA := Lib.hid (aOddC h1 h2)
  have HB := Lib.hid (rOddC h1 h2)
  have HAt := Lib.hid (aAtE h4)
  have HBt := Lib.hid (rAtE h4)
  have HAn := Lib.hid (aThenE h5)
  have HBn := Lib.hid (rThenE h5)
  have HAp := Lib.hid (aPowE h6)
  have HBp := Lib.hid (powE_rPower h6)
  have HE := Lib.hid (rOddC (x := a) h3 (show oddE a = 1 by unfold oddE; rw [if_neg (by omega)]))
  have HI := Lib.hid (aInverse_even a c ha)
  clear h1 h2 h3 h4 h5 h6 ha
  go_enter Try.func6, Try.ntmps6
  go_wp2_with fail
  refine (awake9 _).mono ?_
  rintro e w1 ⟨rfl, hx⟩
  have hc_w1 := (ext_cell hx).1
  have hf_w1 := (ext_cell hx).2
  have HX_w1 := Lib.hid hx
  have y_w1 := hx.size
  try simp at y_w1
  have z_w1_w_0 : w.heap.size < w1.heap.size := by omega
  have z_w1_w_1 : w.heap.size + 1 < w1.heap.size := by omega
  have z_w1_w_2 : w.heap.size + 2 < w1.heap.size := by omega
  clear hx
  go_wp2_with fail
  refine (HA.out _).mono ?_
  rintro e w2 ⟨rfl, hx⟩
  have hc_w2 := (ext_cell hx).1
  have hf_w2 := (ext_cell hx).2
  have HX_w2 := Lib.hid hx
  have y_w2 := hx.size
  try simp at y_w2
  have z_w2_w_0 : w.heap.size < w2.heap.size := by omega
  have z_w2_w_1 : w.heap.size + 1 < w2.heap.size := by omega
  have z_w2_w_2 : w.heap.size + 2 < w2.heap.size := by omega
  clear hx
  go_wp2_with fail
  refine (HB.out _).mono ?_
  rintro e w3 ⟨rfl, hx⟩
  have hc_w3 := (ext_cell hx).1
  have hf_w3 := (ext_cell hx).2
  have HX_w3 := Lib.hid hx
  have y_w3 := hx.size
  try simp at y_w3
  have z_w3_w_0 : w.heap.size < w3.heap.size := by omega
  have z_w3_w_1 : w.heap.size + 1 < w3.heap.size := by omega
  have z_w3_w_2 : w.heap.size + 2 < w3.heap.size := by omega
  have z_w3_w2_0 : w2.heap.size < w3.heap.size := by omega
  clear hx
  go_wp2_with fail
  refine (HI.out _).mono ?_
  rintro e w4 ⟨rfl, hx⟩
  have hc_w4 := (ext_cell hx).1
  have hf_w4 := (ext_cell hx).2
  have HX_w4 := Lib.hid hx
  have y_w4 := hx.size
  try simp at y_w4
  have z_w4_w_0 : w.heap.size < w4.heap.size := by omega
  have z_w4_w_1 : w.heap.size + 1 < w4.heap.size := by omega
  have z_w4_w_2 : w.heap.size + 2 < w4.heap.size := by omega
  have z_w4_w2_0 : w2.heap.size < w4.heap.size := by omega
  have z_w4_w3_0 : w3.heap.size < w4.heap.size := by omega
  clear hx
  go_wp2_with fail
  refine (HE.out _).mono ?_
  rintro e w5 ⟨rfl, hx⟩
  have hc_w5 := (ext_cell hx).1
  have hf_w5 := (ext_cell hx).2
  have HX_w5 := Lib.hid hx
  have y_w5 := hx.size
  try simp at y_w5
  have z_w5_w_0 : w.heap.size < w5.heap.size := by omega
  have z_w5_w_1 : w.heap.size + 1 < w5.heap.size := by omega
  have z_w5_w_2 : w.heap.size + 2 < w5.heap.size := by omega
  have z_w5_w2_0 : w2.heap.size < w5.heap.size := by omega
  have z_w5_w3_0 : w3.heap.size < w5.heap.size := by omega
  have z_w5_w4_0 : w4.heap.size < w5.heap.size := by omega
  clear hx
  try dsimp only
  repeat (first | with_reducible refine wp_region_ext ?_ [(0, 1), (1, 1), (2, 1), (3, 1), (4, 1), (5, 2), (6, 2)] (fun _ => true) ?_ ?_ ?_ ?_ ?_ | go_step)
  · kernel_rfl
  · kernel_rfl
  · kernel_rfl
  · kernel_rfl
  · exact (fun _ _ d _ _ h => by cases d <;> exact h)
  refine run_read (o := ?_) (v := ?_) (a' := ?_) ?_ ?_ ?_ ?_ (Ext.refl _) ?_
  rotate_left 3
  · (simp only [List.getElem?_toArray, List.getElem?_cons_succ, List.getElem?_cons_zero] <;> rfl)
  · rfl
  · intro w' hw'
    obtain ⟨hc, hf⟩ := ext_cell hw'
    clear hw'
    go_simp
    with_reducible rfl
  · simp only [Act.put, List.setIfInBounds_toArray, List.set_cons_zero, List.set_cons_succ]
    rfl
  refine run_call (f := 33) (args := ?_) (o := ?_) (v := ?_) (a' := ?_) ?_ ?_ ?_ ?_ ?_ (Ext.refl _) ?_
  rotate_left 4
  · (simp only [List.getElem?_toArray, List.getElem?_cons_succ, List.getElem?_cons_zero] <;> rfl)
  · rfl
  · intro w'
    go_simp
    with_reducible rfl
  · intro w' _
    exact (oOwn _ _ _ _ _)
  · simp only [Act.put, List.setIfInBounds_toArray, List.set_cons_zero, List.set_cons_succ]
    rfl
  refine run_read (o := ?_) (v := ?_) (a' := ?_) ?_ ?_ ?_ ?_ (Ext.refl _) ?_
  rotate_left 3
  · (simp only [List.getElem?_toArray, List.getElem?_cons_succ, List.getElem?_cons_zero] <;> rfl)
  · rfl
  · intro w' hw'
    obtain ⟨hc, hf⟩ := ext_cell hw'
    clear hw'
    go_simp
    with_reducible rfl
  · simp only [Act.put, List.setIfInBounds_toArray, List.set_cons_zero, List.set_cons_succ]
    rfl
  refine run_call (f := 33) (args := ?_) (o := ?_) (v := ?_) (a' := ?_) ?_ ?_ ?_ ?_ ?_ (Ext.refl _) ?_
  rotate_left 4
  · (simp only [List.getElem?_toArray, List.getElem?_cons_succ, List.getElem?_cons_zero] <;> rfl)
  · rfl
  · intro w'
    go_simp
    with_reducible rfl
  · intro w' _
    exact (oOwn _ _ _ _ _)
  · simp only [Act.put, List.setIfInBounds_toArray, List.set_cons_zero, List.set_cons_succ]
    rfl
  refine run_call (f := 32) (args := ?_) (o := ?_) (v := ?_) (a' := ?_) ?_ ?_ ?_ ?_ ?_ (Ext.refl _) ?_
  rotate_left 4
  · (simp only [List.getElem?_toArray, List.getElem?_cons_succ, List.getElem?_cons_zero] <;> rfl)
  · rfl
  · intro w'
    go_simp
    with_reducible rfl
  · intro w' _
    exact (rThenZ _ _ _)
  · simp only [Act.put, List.setIfInBounds_toArray, List.set_cons_zero, List.set_cons_succ]
    rfl
  refine run_do (o := ?_) ?_ ?_ (fun d1 hx K hK => ?_)
  rotate_left
  · (simp only [List.getElem?_toArray, List.getElem?_cons_succ, List.getElem?_cons_zero] <;> rfl)
  · rfl
  have hc_d1 := (ext_cell hx).1
  have hf_d1 := (ext_cell hx).2
  have HX_d1 := Lib.hid hx
  have y_d1 := hx.size
  try simp at y_d1
  have z_d1_w_0 : w.heap.size < d1.heap.size := by omega
  have z_d1_w_1 : w.heap.size + 1 < d1.heap.size := by omega
  have z_d1_w_2 : w.heap.size + 2 < d1.heap.size := by omega
  have z_d1_w2_0 : w2.heap.size < d1.heap.size := by omega
  have z_d1_w3_0 : w3.heap.size < d1.heap.size := by omega
  have z_d1_w4_0 : w4.heap.size < d1.heap.size := by omega
  have z_d1_w5_0 : w5.heap.size < d1.heap.size := by omega
  clear hx
  go_simp
  refine hK _ _ (fun _ hs => hs.alloc _) ?_
  clear hK K
  try simp only [Act.put, List.setIfInBounds_toArray, List.set_cons_zero, List.set_cons_succ]
  refine run_do (o := ?_) ?_ ?_ (fun d2 hx K hK => ?_)
  rotate_left
  · (simp only [List.getElem?_toArray, List.getElem?_cons_succ, List.getElem?_cons_zero] <;> rfl)
  · rfl
  have hc_d2 := (ext_cell hx).1
  have hf_d2 := (ext_cell hx).2
  have HX_d2 := Lib.hid hx
  have y_d2 := hx.size
  try simp at y_d2
  have z_d2_w_0 : w.heap.size < d2.heap.size := by omega
  have z_d2_w_1 : w.heap.size + 1 < d2.heap.size := by omega
  have z_d2_w_2 : w.heap.size + 2 < d2.heap.size := by omega
  have z_d2_w2_0 : w2.heap.size < d2.heap.size := by omega
  have z_d2_w3_0 : w3.heap.size < d2.heap.size := by omega
  have z_d2_w4_0 : w4.heap.size < d2.heap.size := by omega
  have z_d2_w5_0 : w5.heap.size < d2.heap.size := by omega
  have z_d2_d1_0 : d1.heap.size < d2.heap.size := by omega
  clear hx
  go_simp
  refine hK _ _ (fun _ hs => ?_) ?_
  · repeat (first | exact hs | (refine Ext.setCell ?_ (by simp <;> omega) _))
  clear hK K
  refine run_nil (fun d3 hx => ?_)
  have hc_d3 := (ext_cell hx).1
  have hf_d3 := (ext_cell hx).2
  have HX_d3 := Lib.hid hx
  have y_d3 := hx.size
  try simp at y_d3
  have z_d3_w_0 : w.heap.size < d3.heap.size := by omega
  have z_d3_w_1 : w.heap.size + 1 < d3.heap.size := by omega
  have z_d3_w_2 : w.heap.size + 2 < d3.heap.size := by omega
  have z_d3_w2_0 : w2.heap.size < d3.heap.size := by omega
  have z_d3_w3_0 : w3.heap.size < d3.heap.size := by omega
  have z_d3_w4_0 : w4.heap.size < d3.heap.size := by omega
  have z_d3_w5_0 : w5.heap.size < d3.heap.size := by omega
  have z_d3_d1_0 : d1.heap.size < d3.heap.size := by omega
  clear hx
  go_upto_region 10 with fail
  try dsimp only
  repeat (first | with_reducible refine wp_region_ext ?_ [(0, 1), (1, 1), (2, 1), (3, 1), (4, 1), (5, 1), (6, 1), (7, 0), (8, 0), (9, 1), (10, 1), (11, 1), (12, 1), (13, 1), (14, 1), (15, 1), (16, 1), (17, 1), (18, 0), (19, 0), (20, 0), (21, 1), (22, 1), (23, 1), (24, 1), (25, 1), (26, 1), (27, 1), (28, 1), (29, 0), (30, 0), (31, 0), (32, 1), (33, 1), (34, 0), (35, 0), (36, 0), (37, 0), (38, 0), (39, 0), (40, 0), (41, 0)] (fun _ => true) ?_ ?_ ?_ ?_ ?_ | go_step)
  · kernel_rfl
  · kernel_rfl
  · kernel_rfl
  · kernel_rfl
  · exact (fun _ _ d _ _ h => by cases d <;> exact h)
  refine run_read (o := ?_) (v := ?_) (a' := ?_) ?_ ?_ ?_ ?_ (Ext.refl _) ?_
  rotate_left 3
  · (simp only [List.getElem?_toArray, List.getElem?_cons_succ, List.getElem?_cons_zero] <;> rfl)
  · rfl
  · intro w' hw'
    obtain ⟨hc, hf⟩ := ext_cell hw'
    clear hw'
    go_simp
    with_reducible rfl
  · simp only [Act.put, List.setIfInBounds_toArray, List.set_cons_zero, List.set_cons_succ]
    rfl
  refine run_read (o := ?_) (v := ?_) (a' := ?_) ?_ ?_ ?_ ?_ (Ext.refl _) ?_
  rotate_left 3
  · (simp only [List.getElem?_toArray, List.getElem?_cons_succ, List.getElem?_cons_zero] <;> rfl)
  · rfl
  · intro w' hw'
    obtain ⟨hc, hf⟩ := ext_cell hw'
    clear hw'
    go_simp
    with_reducible rfl
  · simp only [Act.put, List.setIfInBounds_toArray, List.set_cons_zero, List.set_cons_succ]
    rfl
  refine run_call (f := 34) (args := ?_) (o := ?_) (v := ?_) (a' := ?_) ?_ ?_ ?_ ?_ ?_ (Ext.refl _) ?_
  rotate_left 4
  · (simp only [List.getElem?_toArray, List.getElem?_cons_succ, List.getElem?_cons_zero] <;> rfl)
  · rfl
  · intro w'
    go_simp
    with_reducible rfl
  · intro w' _
    exact (HAt.out _)
  · simp only [Act.put, List.setIfInBounds_toArray, List.set_cons_zero, List.set_cons_succ]
    rfl
  refine run_read (o := ?_) (v := ?_) (a' := ?_) ?_ ?_ ?_ ?_ (Ext.refl _) ?_
  rotate_left 3
  · (simp only [List.getElem?_toArray, List.getElem?_cons_succ, List.getElem?_cons_zero] <;> rfl)
  · rfl
  · intro w' hw'
    obtain ⟨hc, hf⟩ := ext_cell hw'
    clear hw'
    go_simp
    with_reducible rfl
  · simp only [Act.put, List.setIfInBounds_toArray, List.set_cons_zero, List.set_cons_succ]
    rfl
  refine run_call (f := 33) (args := ?_) (o := ?_) (v := ?_) (a' := ?_) ?_ ?_ ?_ ?_ ?_ (Ext.refl _) ?_
  rotate_left 4
  · (simp only [List.getElem?_toArray, List.getElem?_cons_succ, List.getElem?_cons_zero] <;> rfl)
  · rfl
  · intro w'
    go_simp
    with_reducible rfl
  · intro w' _
    exact (oOwn _ _ _ _ _)
  · simp only [Act.put, List.setIfInBounds_toArray, List.set_cons_zero, List.set_cons_succ]
    rfl
  refine run_read (o := ?_) (v := ?_) (a' := ?_) ?_ ?_ ?_ ?_ (Ext.refl _) ?_
  rotate_left 3
  · (simp only [List.getElem?_toArray, List.getElem?_cons_succ, List.getElem?_cons_zero] <;> rfl)
  · rfl
  · intro w' hw'
    obtain ⟨hc, hf⟩ := ext_cell hw'
    clear hw'
    go_simp
    with_reducible rfl
  · simp only [Act.put, List.setIfInBounds_toArray, List.set_cons_zero, List.set_cons_succ]
    rfl
  refine run_call (f := 35) (args := ?_) (o := ?_) (v := ?_) (a' := ?_) ?_ ?_ ?_ ?_ ?_ (Ext.refl _) ?_
  rotate_left 4
  · (simp only [List.getElem?_toArray, List.getElem?_cons_succ, List.getElem?_cons_zero] <;> rfl)
  · rfl
  · intro w'
    go_simp
    with_reducible rfl
  · intro w' _
    exact (HBt.out _)
  · simp only [Act.put, List.setIfInBounds_toArray, List.set_cons_zero, List.set_cons_succ]
    rfl
  refine run_pure (o := ?_) (v := ?_) (a' := ?_) ?_ ?_ ?_ ?_ ?_
  rotate_left 3
  · (simp only [List.getElem?_toArray, List.getElem?_cons_succ, List.getElem?_cons_zero] <;> rfl)
  · rfl
  · intro w'
    go_simp
    with_reducible rfl
  · simp only [Act.put, List.setIfInBounds_toArray, List.set_cons_zero, List.set_cons_succ]
    rfl
  refine run_pure (o := ?_) (v := ?_) (a' := ?_) ?_ ?_ ?_ ?_ ?_
  rotate_left 3
  · (simp only [List.getElem?_toArray, List.getElem?_cons_succ, List.getElem?_cons_zero] <;> rfl)
  · rfl
  · intro w'
    go_simp
    with_reducible rfl
  · simp only [Act.put, List.setIfInBounds_toArray, List.set_cons_zero, List.set_cons_succ]
    rfl
  refine run_read (o := ?_) (v := ?_) (a' := ?_) ?_ ?_ ?_ ?_ (Ext.refl _) ?_
  rotate_left 3
  · (simp only [List.getElem?_toArray, List.getElem?_cons_succ, List.getElem?_cons_zero] <;> rfl)
  · rfl
  · intro w' hw'
    obtain ⟨hc, hf⟩ := ext_cell hw'
    clear hw'
    go_simp
    with_reducible rfl
  · simp only [Act.put, List.setIfInBounds_toArray, List.set_cons_zero, List.set_cons_succ]
    rfl
  refine run_read (o := ?_) (v := ?_) (a' := ?_) ?_ ?_ ?_ ?_ (Ext.refl _) ?_
  rotate_left 3
  · (simp only [List.getElem?_toArray, List.getElem?_cons_succ, List.getElem?_cons_zero] <;> rfl)
  · rfl
  · intro w' hw'
    obtain ⟨hc, hf⟩ := ext_cell hw'
    clear hw'
    go_simp
    with_reducible rfl
  · simp only [Act.put, List.setIfInBounds_toArray, List.set_cons_zero, List.set_cons_succ]
    rfl
  refine run_call (f := 36) (args := ?_) (o := ?_) (v := ?_) (a' := ?_) ?_ ?_ ?_ ?_ ?_ (Ext.refl _) ?_
  rotate_left 4
  · (simp only [List.getElem?_toArray, List.getElem?_cons_succ, List.getElem?_cons_zero] <;> rfl)
  · rfl
  · intro w'
    go_simp
    with_reducible rfl
  · intro w' _
    exact (HAn.out _)
  · simp only [Act.put, List.setIfInBounds_toArray, List.set_cons_zero, List.set_cons_succ]
    rfl
  refine run_call (f := 33) (args := ?_) (o := ?_) (v := ?_) (a' := ?_) ?_ ?_ ?_ ?_ ?_ (Ext.refl _) ?_
  rotate_left 4
  · (simp only [List.getElem?_toArray, List.getElem?_cons_succ, List.getElem?_cons_zero] <;> rfl)
  · rfl
  · intro w'
    go_simp
    with_reducible rfl
  · intro w' _
    exact (oOwn _ _ _ _ _)
  · simp only [Act.put, List.setIfInBounds_toArray, List.set_cons_zero, List.set_cons_succ]
    rfl
  refine run_read (o := ?_) (v := ?_) (a' := ?_) ?_ ?_ ?_ ?_ (Ext.refl _) ?_
  rotate_left 3
  · (simp only [List.getElem?_toArray, List.getElem?_cons_succ, List.getElem?_cons_zero] <;> rfl)
  · rfl
  · intro w' hw'
    obtain ⟨hc, hf⟩ := ext_cell hw'
    clear hw'
    go_simp
    with_reducible rfl
  · simp only [Act.put, List.setIfInBounds_toArray, List.set_cons_zero, List.set_cons_succ]
    rfl
  refine run_call (f := 33) (args := ?_) (o := ?_) (v := ?_) (a' := ?_) ?_ ?_ ?_ ?_ ?_ (Ext.refl _) ?_
  rotate_left 4
  · (simp only [List.getElem?_toArray, List.getElem?_cons_succ, List.getElem?_cons_zero] <;> rfl)
  · rfl
  · intro w'
    go_simp
    with_reducible rfl
  · intro w' _
    exact (oOwn _ _ _ _ _)
  · simp only [Act.put, List.setIfInBounds_toArray, List.set_cons_zero, List.set_cons_succ]
    rfl
  refine run_read (o := ?_) (v := ?_) (a' := ?_) ?_ ?_ ?_ ?_ (Ext.refl _) ?_
  rotate_left 3
  · (simp only [List.getElem?_toArray, List.getElem?_cons_succ, List.getElem?_cons_zero] <;> rfl)
  · rfl
  · intro w' hw'
    obtain ⟨hc, hf⟩ := ext_cell hw'
    clear hw'
    go_simp
    with_reducible rfl
  · simp only [Act.put, List.setIfInBounds_toArray, List.set_cons_zero, List.set_cons_succ]
    rfl
  refine run_call (f := 33) (args := ?_) (o := ?_) (v := ?_) (a' := ?_) ?_ ?_ ?_ ?_ ?_ (Ext.refl _) ?_
  rotate_left 4
  · (simp only [List.getElem?_toArray, List.getElem?_cons_succ, List.getElem?_cons_zero] <;> rfl)
  · rfl
  · intro w'
    go_simp
    with_reducible rfl
  · intro w' _
    exact (oOwn _ _ _ _ _)
  · simp only [Act.put, List.setIfInBounds_toArray, List.set_cons_zero, List.set_cons_succ]
    rfl
  refine run_call (f := 32) (args := ?_) (o := ?_) (v := ?_) (a' := ?_) ?_ ?_ ?_ ?_ ?_ (Ext.refl _) ?_
  rotate_left 4
  · (simp only [List.getElem?_toArray, List.getElem?_cons_succ, List.getElem?_cons_zero] <;> rfl)
  · rfl
  · intro w'
    go_simp
    with_reducible rfl
  · intro w' _
    exact (HBn.out _)
  · simp only [Act.put, List.setIfInBounds_toArray, List.set_cons_zero, List.set_cons_succ]
    rfl
  refine run_pure (o := ?_) (v := ?_) (a' := ?_) ?_ ?_ ?_ ?_ ?_
  rotate_left 3
  · (simp only [List.getElem?_toArray, List.getElem?_cons_succ, List.getElem?_cons_zero] <;> rfl)
  · rfl
  · intro w'
    go_simp
    with_reducible rfl
  · simp only [Act.put, List.setIfInBounds_toArray, List.set_cons_zero, List.set_cons_succ]
    rfl
  refine run_pure (o := ?_) (v := ?_) (a' := ?_) ?_ ?_ ?_ ?_ ?_
  rotate_left 3
  · (simp only [List.getElem?_toArray, List.getElem?_cons_succ, List.getElem?_cons_zero] <;> rfl)
  · rfl
  · intro w'
    go_simp
    with_reducible rfl
  · simp only [Act.put, List.setIfInBounds_toArray, List.set_cons_zero, List.set_cons_succ]
    rfl
  refine run_pure (o := ?_) (v := ?_) (a' := ?_) ?_ ?_ ?_ ?_ ?_
  rotate_left 3
  · (simp only [List.getElem?_toArray, List.getElem?_cons_succ, List.getElem?_cons_zero] <;> rfl)
  · rfl
  · intro w'
    go_simp
    with_reducible rfl
  · simp only [Act.put, List.setIfInBounds_toArray, List.set_cons_zero, List.set_cons_succ]
    rfl
  refine run_read (o := ?_) (v := ?_) (a' := ?_) ?_ ?_ ?_ ?_ (Ext.refl _) ?_
  rotate_left 3
  · (simp only [List.getElem?_toArray, List.getElem?_cons_succ, List.getElem?_cons_zero] <;> rfl)
  · rfl
  · intro w' hw'
    obtain ⟨hc, hf⟩ := ext_cell hw'
    clear hw'
    go_simp
    with_reducible rfl
  · simp only [Act.put, List.setIfInBounds_toArray, List.set_cons_zero, List.set_cons_succ]
    rfl
  refine run_read (o := ?_) (v := ?_) (a' := ?_) ?_ ?_ ?_ ?_ (Ext.refl _) ?_
  rotate_left 3
  · (simp only [List.getElem?_toArray, List.getElem?_cons_succ, List.getElem?_cons_zero] <;> rfl)
  · rfl
  · intro w' hw'
    obtain ⟨hc, hf⟩ := ext_cell hw'
    clear hw'
    go_simp
    with_reducible rfl
  · simp only [Act.put, List.setIfInBounds_toArray, List.set_cons_zero, List.set_cons_succ]
    rfl
  refine run_call (f := 37) (args := ?_) (o := ?_) (v := ?_) (a' := ?_) ?_ ?_ ?_ ?_ ?_ (Ext.refl _) ?_
  rotate_left 4
  · (simp only [List.getElem?_toArray, List.getElem?_cons_succ, List.getElem?_cons_zero] <;> rfl)
  · rfl
  · intro w'
    go_simp
    with_reducible rfl
  · intro w' _
    exact (HAp.out _)
  · simp only [Act.put, List.setIfInBounds_toArray, List.set_cons_zero, List.set_cons_succ]
    rfl
  refine run_call (f := 33) (args := ?_) (o := ?_) (v := ?_) (a' := ?_) ?_ ?_ ?_ ?_ ?_ (Ext.refl _) ?_
  rotate_left 4
  · (simp only [List.getElem?_toArray, List.getElem?_cons_succ, List.getElem?_cons_zero] <;> rfl)
  · rfl
  · intro w'
    go_simp
    with_reducible rfl
  · intro w' _
    exact (oOwn _ _ _ _ _)
  · simp only [Act.put, List.setIfInBounds_toArray, List.set_cons_zero, List.set_cons_succ]
    rfl
  refine run_read (o := ?_) (v := ?_) (a' := ?_) ?_ ?_ ?_ ?_ (Ext.refl _) ?_
  rotate_left 3
  · (simp only [List.getElem?_toArray, List.getElem?_cons_succ, List.getElem?_cons_zero] <;> rfl)
  · rfl
  · intro w' hw'
    obtain ⟨hc, hf⟩ := ext_cell hw'
    clear hw'
    go_simp
    with_reducible rfl
  · simp only [Act.put, List.setIfInBounds_toArray, List.set_cons_zero, List.set_cons_succ]
    rfl
  refine run_call (f := 33) (args := ?_) (o := ?_) (v := ?_) (a' := ?_) ?_ ?_ ?_ ?_ ?_ (Ext.refl _) ?_
  rotate_left 4
  · (simp only [List.getElem?_toArray, List.getElem?_cons_succ, List.getElem?_cons_zero] <;> rfl)
  · rfl
  · intro w'
    go_simp
    with_reducible rfl
  · intro w' _
    exact (oOwn _ _ _ _ _)
  · simp only [Act.put, List.setIfInBounds_toArray, List.set_cons_zero, List.set_cons_succ]
    rfl
  refine run_read (o := ?_) (v := ?_) (a' := ?_) ?_ ?_ ?_ ?_ (Ext.refl _) ?_
  rotate_left 3
  · (simp only [List.getElem?_toArray, List.getElem?_cons_succ, List.getElem?_cons_zero] <;> rfl)
  · rfl
  · intro w' hw'
    obtain ⟨hc, hf⟩ := ext_cell hw'
    clear hw'
    go_simp
    with_reducible rfl
  · simp only [Act.put, List.setIfInBounds_toArray, List.set_cons_zero, List.set_cons_succ]
    rfl
  refine run_call (f := 38) (args := ?_) (o := ?_) (v := ?_) (a' := ?_) ?_ ?_ ?_ ?_ ?_ (Ext.refl _) ?_
  rotate_left 4
  · (simp only [List.getElem?_toArray, List.getElem?_cons_succ, List.getElem?_cons_zero] <;> rfl)
  · rfl
  · intro w'
    go_simp
    with_reducible rfl
  · intro w' _
    exact (HBp.out _)
  · simp only [Act.put, List.setIfInBounds_toArray, List.set_cons_zero, List.set_cons_succ]
    rfl
  refine run_pure (o := ?_) (v := ?_) (a' := ?_) ?_ ?_ ?_ ?_ ?_
  rotate_left 3
  · (simp only [List.getElem?_toArray, List.getElem?_cons_succ, List.getElem?_cons_zero] <;> rfl)
  · rfl
  · intro w'
    go_simp
    with_reducible rfl
  · simp only [Act.put, List.setIfInBounds_toArray, List.set_cons_zero, List.set_cons_succ]
    rfl
  refine run_pure (o := ?_) (v := ?_) (a' := ?_) ?_ ?_ ?_ ?_ ?_
  rotate_left 3
  · (simp only [List.getElem?_toArray, List.getElem?_cons_succ, List.getElem?_cons_zero] <;> rfl)
  · rfl
  · intro w'
    go_simp
    with_reducible rfl
  · simp only [Act.put, List.setIfInBounds_toArray, List.set_cons_zero, List.set_cons_succ]
    rfl
  refine run_pure (o := ?_) (v := ?_) (a' := ?_) ?_ ?_ ?_ ?_ ?_
  rotate_left 3
  · (simp only [List.getElem?_toArray, List.getElem?_cons_succ, List.getElem?_cons_zero] <;> rfl)
  · rfl
  · intro w'
    go_simp
    with_reducible rfl
  · simp only [Act.put, List.setIfInBounds_toArray, List.set_cons_zero, List.set_cons_succ]
    rfl
  refine run_read (o := ?_) (v := ?_) (a' := ?_) ?_ ?_ ?_ ?_ (Ext.refl _) ?_
  rotate_left 3
  · (simp only [List.getElem?_toArray, List.getElem?_cons_succ, List.getElem?_cons_zero] <;> rfl)
  · rfl
  · intro w' hw'
    obtain ⟨hc, hf⟩ := ext_cell hw'
    clear hw'
    go_simp
    with_reducible rfl
  · simp only [Act.put, List.setIfInBounds_toArray, List.set_cons_zero, List.set_cons_succ]
    rfl
  refine run_read (o := ?_) (v := ?_) (a' := ?_) ?_ ?_ ?_ ?_ (Ext.refl _) ?_
  rotate_left 3
  · (simp only [List.getElem?_toArray, List.getElem?_cons_succ, List.getElem?_cons_zero] <;> rfl)
  · rfl
  · intro w' hw'
    obtain ⟨hc, hf⟩ := ext_cell hw'
    clear hw'
    go_simp
    with_reducible rfl
  · simp only [Act.put, List.setIfInBounds_toArray, List.set_cons_zero, List.set_cons_succ]
    rfl
  refine run_pure (o := ?_) (v := ?_) (a' := ?_) ?_ ?_ ?_ ?_ ?_
  rotate_left 3
  · (simp only [List.getElem?_toArray, List.getElem?_cons_succ, List.getElem?_cons_zero] <;> rfl)
  · rfl
  · intro w'
    go_simp
    with_reducible rfl
  · simp only [Act.put, List.setIfInBounds_toArray, List.set_cons_zero, List.set_cons_succ]
    rfl
  refine run_pure (o := ?_) (v := ?_) (a' := ?_) ?_ ?_ ?_ ?_ ?_
  rotate_left 3
  · (simp only [List.getElem?_toArray, List.getElem?_cons_succ, List.getElem?_cons_zero] <;> rfl)
  · rfl
  · intro w'
    go_simp
    with_reducible rfl
  · simp only [Act.put, List.setIfInBounds_toArray, List.set_cons_zero, List.set_cons_succ]
    rfl
  refine run_pure (o := ?_) (v := ?_) (a' := ?_) ?_ ?_ ?_ ?_ ?_
  rotate_left 3
  · (simp only [List.getElem?_toArray, List.getElem?_cons_succ, List.getElem?_cons_zero] <;> rfl)
  · rfl
  · intro w'
    go_simp
    with_reducible rfl
  · simp only [Act.put, List.setIfInBounds_toArray, List.set_cons_zero, List.set_cons_succ]
    rfl
  refine run_pure (o := ?_) (v := ?_) (a' := ?_) ?_ ?_ ?_ ?_ ?_
  rotate_left 3
  · (simp only [List.getElem?_toArray, List.getElem?_cons_succ, List.getElem?_cons_zero] <;> rfl)
  · rfl
  · intro w'
    go_simp
    with_reducible rfl
  · simp only [Act.put, List.setIfInBounds_toArray, List.set_cons_zero, List.set_cons_succ]
    rfl
  refine run_pure (o := ?_) (v := ?_) (a' := ?_) ?_ ?_ ?_ ?_ ?_
  rotate_left 3
  · (simp only [List.getElem?_toArray, List.getElem?_cons_succ, List.getElem?_cons_zero] <;> rfl)
  · rfl
  · intro w'
    go_simp
    with_reducible rfl
  · simp only [Act.put, List.setIfInBounds_toArray, List.set_cons_zero, List.set_cons_succ]
    rfl
  refine run_pure (o := ?_) (v := ?_) (a' := ?_) ?_ ?_ ?_ ?_ ?_
  rotate_left 3
  · (simp only [List.getElem?_toArray, List.getElem?_cons_succ, List.getElem?_cons_zero] <;> rfl)
  · rfl
  · intro w'
    go_simp
    with_reducible rfl
  · simp only [Act.put, List.setIfInBounds_toArray, List.set_cons_zero, List.set_cons_succ]
    rfl
  refine run_pure (o := ?_) (v := ?_) (a' := ?_) ?_ ?_ ?_ ?_ ?_
  rotate_left 3
  · (simp only [List.getElem?_toArray, List.getElem?_cons_succ, List.getElem?_cons_zero] <;> rfl)
  · rfl
  · intro w'
    go_simp
    with_reducible rfl
  · simp only [Act.put, List.setIfInBounds_toArray, List.set_cons_zero, List.set_cons_succ]
    rfl
  refine run_pure (o := ?_) (v := ?_) (a' := ?_) ?_ ?_ ?_ ?_ ?_
  rotate_left 3
  · (simp only [List.getElem?_toArray, List.getElem?_cons_succ, List.getElem?_cons_zero] <;> rfl)
  · rfl
  · intro w'
    go_simp
    with_reducible rfl
  · simp only [Act.put, List.setIfInBounds_toArray, List.set_cons_zero, List.set_cons_succ]
    rfl
  refine run_nil (fun f1 hx => ?_)
  have hc_f1 := (ext_cell hx).1
  have hf_f1 := (ext_cell hx).2
  have HX_f1 := Lib.hid hx
  have y_f1 := hx.size
  try simp at y_f1
  have z_f1_w_0 : w.heap.size < f1.heap.size := by omega
  have z_f1_w_1 : w.heap.size + 1 < f1.heap.size := by omega
  have z_f1_w_2 : w.heap.size + 2 < f1.heap.size := by omega
  have z_f1_w2_0 : w2.heap.size < f1.heap.size := by omega
  have z_f1_w3_0 : w3.heap.size < f1.heap.size := by omega
  have z_f1_w4_0 : w4.heap.size < f1.heap.size := by omega
  have z_f1_w5_0 : w5.heap.size < f1.heap.size := by omega
  have z_f1_d1_0 : d1.heap.size < f1.heap.size := by omega
  clear hx
  go_wp2
  go_ret
  refine ⟨by simp, ?_⟩
  · repeat (first | exact Ext.refl _ | refine Ext.alloc ?_ _ | (refine Ext.setCell ?_ (by simp <;> omega) _) | refine Ext.drew ?_ | refine Ext.trans ?_ HX_f1.out | refine Ext.trans ?_ HX_d3.out | refine Ext.trans ?_ HX_d2.out | refine Ext.trans ?_ HX_d1.out | refine Ext.trans ?_ HX_w5.out | refine Ext.trans ?_ HX_w4.out | refine Ext.trans ?_ HX_w3.out | refine Ext.trans ?_ HX_w2.out | refine Ext.trans ?_ HX_w1.out)
set_option maxHeartbeats 8000000 in
theorem affineTells_odd (a c b d x : V) (ha : a.toNat % 2 = 1) (w : World) :
    Calls Try.prog 6 #[.agg #[.int .u64 (hi a), .int .u64 (lo a), .int .u64 (hi c), .int .u64 (lo c)], .agg #[.int .u64 (hi b), .int .u64 (lo b), .int .u64 (hi d), .int .u64 (lo d)], .agg #[.int .u64 (hi x), .int .u64 (lo x)]] w
      fun e w' => e = .returned (.bool true) ∧ Ext w w' := by
  obtain ⟨o, h1⟩ : ∃ o, oddP x = o := ⟨_, rfl⟩
  obtain ⟨k, h2⟩ : ∃ o, oddE x = o := ⟨_, rfl⟩
  obtain ⟨oa, h3⟩ : ∃ o, oddP a = o := ⟨_, rfl⟩
  obtain ⟨y, h4⟩ : ∃ y, a * x + c = y := ⟨_, rfl⟩
  obtain ⟨⟨p, q⟩, h5⟩ : ∃ t, thenM (a, c) (b, d) = t := ⟨_, rfl⟩
  obtain ⟨⟨r, s⟩, h6⟩ : ∃ t, powM (a, c) x.toNat = t := ⟨_, rfl⟩
  have HA := Lib.hid (aOddC h1 h2)
  have HB := Lib.hid (rOddC h1 h2)
  have HAt := Lib.hid (aAtE h4)
  have HBt := Lib.hid (rAtE h4)
  have HAn := Lib.hid (aThenE h5)
  have HBn := Lib.hid (rThenE h5)
  have HAp := Lib.hid (aPowE h6)
  have HBp := Lib.hid (powE_rPower h6)
  have HE := Lib.hid (rOddC (x := a) h3 (show oddE a = 0 by unfold oddE; rw [if_pos ha]))
  have hi' := aInverse_odd a c ha
  have ho := oddI_spec a ha
  have ht : thenM (a, c) (oddI a, -(oddI a * c)) = (1#128, 0#128) := by
    unfold thenM
    simp only [Prod.mk.injEq]
    exact ⟨by rw [BitVec.mul_comm]; exact ho, by grind⟩
  obtain ⟨u, hu⟩ : ∃ u, oddI a = u := ⟨_, rfl⟩
  obtain ⟨v, hv⟩ : ∃ v, -(oddI a * c) = v := ⟨_, rfl⟩
  rw [hv, hu] at hi' ht
  have HI := Lib.hid hi'
  have HT := Lib.hid (rThenI ht)
  clear hi' ho ht hu hv
  clear h1 h2 h3 h4 h5 h6 ha
  go_enter Try.func6, Try.ntmps6
  go_wp2_with fail
  refine (awake9 _).mono ?_
  rintro e w1 ⟨rfl, hx⟩
  have hc_w1 := (ext_cell hx).1
  have hf_w1 := (ext_cell hx).2
  have HX_w1 := Lib.hid hx
  have y_w1 := hx.size
  try simp at y_w1
  have z_w1_w_0 : w.heap.size < w1.heap.size := by omega
  have z_w1_w_1 : w.heap.size + 1 < w1.heap.size := by omega
  have z_w1_w_2 : w.heap.size + 2 < w1.heap.size := by omega
  clear hx
  go_wp2_with fail
  refine (HA.out _).mono ?_
  rintro e w2 ⟨rfl, hx⟩
  have hc_w2 := (ext_cell hx).1
  have hf_w2 := (ext_cell hx).2
  have HX_w2 := Lib.hid hx
  have y_w2 := hx.size
  try simp at y_w2
  have z_w2_w_0 : w.heap.size < w2.heap.size := by omega
  have z_w2_w_1 : w.heap.size + 1 < w2.heap.size := by omega
  have z_w2_w_2 : w.heap.size + 2 < w2.heap.size := by omega
  clear hx
  go_wp2_with fail
  refine (HB.out _).mono ?_
  rintro e w3 ⟨rfl, hx⟩
  have hc_w3 := (ext_cell hx).1
  have hf_w3 := (ext_cell hx).2
  have HX_w3 := Lib.hid hx
  have y_w3 := hx.size
  try simp at y_w3
  have z_w3_w_0 : w.heap.size < w3.heap.size := by omega
  have z_w3_w_1 : w.heap.size + 1 < w3.heap.size := by omega
  have z_w3_w_2 : w.heap.size + 2 < w3.heap.size := by omega
  have z_w3_w2_0 : w2.heap.size < w3.heap.size := by omega
  clear hx
  go_wp2_with fail
  refine (HI.out _).mono ?_
  rintro e w4 ⟨rfl, hx⟩
  have hc_w4 := (ext_cell hx).1
  have hf_w4 := (ext_cell hx).2
  have HX_w4 := Lib.hid hx
  have y_w4 := hx.size
  try simp at y_w4
  have z_w4_w_0 : w.heap.size < w4.heap.size := by omega
  have z_w4_w_1 : w.heap.size + 1 < w4.heap.size := by omega
  have z_w4_w_2 : w.heap.size + 2 < w4.heap.size := by omega
  have z_w4_w2_0 : w2.heap.size < w4.heap.size := by omega
  have z_w4_w3_0 : w3.heap.size < w4.heap.size := by omega
  clear hx
  go_wp2_with fail
  refine (HE.out _).mono ?_
  rintro e w5 ⟨rfl, hx⟩
  have hc_w5 := (ext_cell hx).1
  have hf_w5 := (ext_cell hx).2
  have HX_w5 := Lib.hid hx
  have y_w5 := hx.size
  try simp at y_w5
  have z_w5_w_0 : w.heap.size < w5.heap.size := by omega
  have z_w5_w_1 : w.heap.size + 1 < w5.heap.size := by omega
  have z_w5_w_2 : w.heap.size + 2 < w5.heap.size := by omega
  have z_w5_w2_0 : w2.heap.size < w5.heap.size := by omega
  have z_w5_w3_0 : w3.heap.size < w5.heap.size := by omega
  have z_w5_w4_0 : w4.heap.size < w5.heap.size := by omega
  clear hx
  try dsimp only
  repeat (first | with_reducible refine wp_region_ext ?_ [(0, 1), (1, 1), (2, 1), (3, 1), (4, 1), (5, 2), (6, 2)] (fun _ => true) ?_ ?_ ?_ ?_ ?_ | go_step)
  · kernel_rfl
  · kernel_rfl
  · kernel_rfl
  · kernel_rfl
  · exact (fun _ _ d _ _ h => by cases d <;> exact h)
  refine run_read (o := ?_) (v := ?_) (a' := ?_) ?_ ?_ ?_ ?_ (Ext.refl _) ?_
  rotate_left 3
  · (simp only [List.getElem?_toArray, List.getElem?_cons_succ, List.getElem?_cons_zero] <;> rfl)
  · rfl
  · intro w' hw'
    obtain ⟨hc, hf⟩ := ext_cell hw'
    clear hw'
    go_simp
    with_reducible rfl
  · simp only [Act.put, List.setIfInBounds_toArray, List.set_cons_zero, List.set_cons_succ]
    rfl
  refine run_call (f := 33) (args := ?_) (o := ?_) (v := ?_) (a' := ?_) ?_ ?_ ?_ ?_ ?_ (Ext.refl _) ?_
  rotate_left 4
  · (simp only [List.getElem?_toArray, List.getElem?_cons_succ, List.getElem?_cons_zero] <;> rfl)
  · rfl
  · intro w'
    go_simp
    with_reducible rfl
  · intro w' _
    exact (oOwn _ _ _ _ _)
  · simp only [Act.put, List.setIfInBounds_toArray, List.set_cons_zero, List.set_cons_succ]
    rfl
  refine run_read (o := ?_) (v := ?_) (a' := ?_) ?_ ?_ ?_ ?_ (Ext.refl _) ?_
  rotate_left 3
  · (simp only [List.getElem?_toArray, List.getElem?_cons_succ, List.getElem?_cons_zero] <;> rfl)
  · rfl
  · intro w' hw'
    obtain ⟨hc, hf⟩ := ext_cell hw'
    clear hw'
    go_simp
    with_reducible rfl
  · simp only [Act.put, List.setIfInBounds_toArray, List.set_cons_zero, List.set_cons_succ]
    rfl
  refine run_call (f := 33) (args := ?_) (o := ?_) (v := ?_) (a' := ?_) ?_ ?_ ?_ ?_ ?_ (Ext.refl _) ?_
  rotate_left 4
  · (simp only [List.getElem?_toArray, List.getElem?_cons_succ, List.getElem?_cons_zero] <;> rfl)
  · rfl
  · intro w'
    go_simp
    with_reducible rfl
  · intro w' _
    exact (oOwn _ _ _ _ _)
  · simp only [Act.put, List.setIfInBounds_toArray, List.set_cons_zero, List.set_cons_succ]
    rfl
  refine run_call (f := 32) (args := ?_) (o := ?_) (v := ?_) (a' := ?_) ?_ ?_ ?_ ?_ ?_ (Ext.refl _) ?_
  rotate_left 4
  · (simp only [List.getElem?_toArray, List.getElem?_cons_succ, List.getElem?_cons_zero] <;> rfl)
  · rfl
  · intro w'
    go_simp
    with_reducible rfl
  · intro w' _
    exact (HT.out _)
  · simp only [Act.put, List.setIfInBounds_toArray, List.set_cons_zero, List.set_cons_succ]
    rfl
  refine run_do (o := ?_) ?_ ?_ (fun d1 hx K hK => ?_)
  rotate_left
  · (simp only [List.getElem?_toArray, List.getElem?_cons_succ, List.getElem?_cons_zero] <;> rfl)
  · rfl
  have hc_d1 := (ext_cell hx).1
  have hf_d1 := (ext_cell hx).2
  have HX_d1 := Lib.hid hx
  have y_d1 := hx.size
  try simp at y_d1
  have z_d1_w_0 : w.heap.size < d1.heap.size := by omega
  have z_d1_w_1 : w.heap.size + 1 < d1.heap.size := by omega
  have z_d1_w_2 : w.heap.size + 2 < d1.heap.size := by omega
  have z_d1_w2_0 : w2.heap.size < d1.heap.size := by omega
  have z_d1_w3_0 : w3.heap.size < d1.heap.size := by omega
  have z_d1_w4_0 : w4.heap.size < d1.heap.size := by omega
  have z_d1_w5_0 : w5.heap.size < d1.heap.size := by omega
  clear hx
  go_simp
  refine hK _ _ (fun _ hs => hs.alloc _) ?_
  clear hK K
  try simp only [Act.put, List.setIfInBounds_toArray, List.set_cons_zero, List.set_cons_succ]
  refine run_do (o := ?_) ?_ ?_ (fun d2 hx K hK => ?_)
  rotate_left
  · (simp only [List.getElem?_toArray, List.getElem?_cons_succ, List.getElem?_cons_zero] <;> rfl)
  · rfl
  have hc_d2 := (ext_cell hx).1
  have hf_d2 := (ext_cell hx).2
  have HX_d2 := Lib.hid hx
  have y_d2 := hx.size
  try simp at y_d2
  have z_d2_w_0 : w.heap.size < d2.heap.size := by omega
  have z_d2_w_1 : w.heap.size + 1 < d2.heap.size := by omega
  have z_d2_w_2 : w.heap.size + 2 < d2.heap.size := by omega
  have z_d2_w2_0 : w2.heap.size < d2.heap.size := by omega
  have z_d2_w3_0 : w3.heap.size < d2.heap.size := by omega
  have z_d2_w4_0 : w4.heap.size < d2.heap.size := by omega
  have z_d2_w5_0 : w5.heap.size < d2.heap.size := by omega
  have z_d2_d1_0 : d1.heap.size < d2.heap.size := by omega
  clear hx
  go_simp
  refine hK _ _ (fun _ hs => ?_) ?_
  · repeat (first | exact hs | (refine Ext.setCell ?_ (by simp <;> omega) _))
  clear hK K
  refine run_nil (fun d3 hx => ?_)
  have hc_d3 := (ext_cell hx).1
  have hf_d3 := (ext_cell hx).2
  have HX_d3 := Lib.hid hx
  have y_d3 := hx.size
  try simp at y_d3
  have z_d3_w_0 : w.heap.size < d3.heap.size := by omega
  have z_d3_w_1 : w.heap.size + 1 < d3.heap.size := by omega
  have z_d3_w_2 : w.heap.size + 2 < d3.heap.size := by omega
  have z_d3_w2_0 : w2.heap.size < d3.heap.size := by omega
  have z_d3_w3_0 : w3.heap.size < d3.heap.size := by omega
  have z_d3_w4_0 : w4.heap.size < d3.heap.size := by omega
  have z_d3_w5_0 : w5.heap.size < d3.heap.size := by omega
  have z_d3_d1_0 : d1.heap.size < d3.heap.size := by omega
  clear hx
  go_upto_region 10 with fail
  try dsimp only
  repeat (first | with_reducible refine wp_region_ext ?_ [(0, 1), (1, 1), (2, 1), (3, 1), (4, 1), (5, 1), (6, 1), (7, 0), (8, 0), (9, 1), (10, 1), (11, 1), (12, 1), (13, 1), (14, 1), (15, 1), (16, 1), (17, 1), (18, 0), (19, 0), (20, 0), (21, 1), (22, 1), (23, 1), (24, 1), (25, 1), (26, 1), (27, 1), (28, 1), (29, 0), (30, 0), (31, 0), (32, 1), (33, 1), (34, 0), (35, 0), (36, 0), (37, 0), (38, 0), (39, 0), (40, 0), (41, 0)] (fun _ => true) ?_ ?_ ?_ ?_ ?_ | go_step)
  · kernel_rfl
  · kernel_rfl
  · kernel_rfl
  · kernel_rfl
  · exact (fun _ _ d _ _ h => by cases d <;> exact h)
  refine run_read (o := ?_) (v := ?_) (a' := ?_) ?_ ?_ ?_ ?_ (Ext.refl _) ?_
  rotate_left 3
  · (simp only [List.getElem?_toArray, List.getElem?_cons_succ, List.getElem?_cons_zero] <;> rfl)
  · rfl
  · intro w' hw'
    obtain ⟨hc, hf⟩ := ext_cell hw'
    clear hw'
    go_simp
    with_reducible rfl
  · simp only [Act.put, List.setIfInBounds_toArray, List.set_cons_zero, List.set_cons_succ]
    rfl
  refine run_read (o := ?_) (v := ?_) (a' := ?_) ?_ ?_ ?_ ?_ (Ext.refl _) ?_
  rotate_left 3
  · (simp only [List.getElem?_toArray, List.getElem?_cons_succ, List.getElem?_cons_zero] <;> rfl)
  · rfl
  · intro w' hw'
    obtain ⟨hc, hf⟩ := ext_cell hw'
    clear hw'
    go_simp
    with_reducible rfl
  · simp only [Act.put, List.setIfInBounds_toArray, List.set_cons_zero, List.set_cons_succ]
    rfl
  refine run_call (f := 34) (args := ?_) (o := ?_) (v := ?_) (a' := ?_) ?_ ?_ ?_ ?_ ?_ (Ext.refl _) ?_
  rotate_left 4
  · (simp only [List.getElem?_toArray, List.getElem?_cons_succ, List.getElem?_cons_zero] <;> rfl)
  · rfl
  · intro w'
    go_simp
    with_reducible rfl
  · intro w' _
    exact (HAt.out _)
  · simp only [Act.put, List.setIfInBounds_toArray, List.set_cons_zero, List.set_cons_succ]
    rfl
  refine run_read (o := ?_) (v := ?_) (a' := ?_) ?_ ?_ ?_ ?_ (Ext.refl _) ?_
  rotate_left 3
  · (simp only [List.getElem?_toArray, List.getElem?_cons_succ, List.getElem?_cons_zero] <;> rfl)
  · rfl
  · intro w' hw'
    obtain ⟨hc, hf⟩ := ext_cell hw'
    clear hw'
    go_simp
    with_reducible rfl
  · simp only [Act.put, List.setIfInBounds_toArray, List.set_cons_zero, List.set_cons_succ]
    rfl
  refine run_call (f := 33) (args := ?_) (o := ?_) (v := ?_) (a' := ?_) ?_ ?_ ?_ ?_ ?_ (Ext.refl _) ?_
  rotate_left 4
  · (simp only [List.getElem?_toArray, List.getElem?_cons_succ, List.getElem?_cons_zero] <;> rfl)
  · rfl
  · intro w'
    go_simp
    with_reducible rfl
  · intro w' _
    exact (oOwn _ _ _ _ _)
  · simp only [Act.put, List.setIfInBounds_toArray, List.set_cons_zero, List.set_cons_succ]
    rfl
  refine run_read (o := ?_) (v := ?_) (a' := ?_) ?_ ?_ ?_ ?_ (Ext.refl _) ?_
  rotate_left 3
  · (simp only [List.getElem?_toArray, List.getElem?_cons_succ, List.getElem?_cons_zero] <;> rfl)
  · rfl
  · intro w' hw'
    obtain ⟨hc, hf⟩ := ext_cell hw'
    clear hw'
    go_simp
    with_reducible rfl
  · simp only [Act.put, List.setIfInBounds_toArray, List.set_cons_zero, List.set_cons_succ]
    rfl
  refine run_call (f := 35) (args := ?_) (o := ?_) (v := ?_) (a' := ?_) ?_ ?_ ?_ ?_ ?_ (Ext.refl _) ?_
  rotate_left 4
  · (simp only [List.getElem?_toArray, List.getElem?_cons_succ, List.getElem?_cons_zero] <;> rfl)
  · rfl
  · intro w'
    go_simp
    with_reducible rfl
  · intro w' _
    exact (HBt.out _)
  · simp only [Act.put, List.setIfInBounds_toArray, List.set_cons_zero, List.set_cons_succ]
    rfl
  refine run_pure (o := ?_) (v := ?_) (a' := ?_) ?_ ?_ ?_ ?_ ?_
  rotate_left 3
  · (simp only [List.getElem?_toArray, List.getElem?_cons_succ, List.getElem?_cons_zero] <;> rfl)
  · rfl
  · intro w'
    go_simp
    with_reducible rfl
  · simp only [Act.put, List.setIfInBounds_toArray, List.set_cons_zero, List.set_cons_succ]
    rfl
  refine run_pure (o := ?_) (v := ?_) (a' := ?_) ?_ ?_ ?_ ?_ ?_
  rotate_left 3
  · (simp only [List.getElem?_toArray, List.getElem?_cons_succ, List.getElem?_cons_zero] <;> rfl)
  · rfl
  · intro w'
    go_simp
    with_reducible rfl
  · simp only [Act.put, List.setIfInBounds_toArray, List.set_cons_zero, List.set_cons_succ]
    rfl
  refine run_read (o := ?_) (v := ?_) (a' := ?_) ?_ ?_ ?_ ?_ (Ext.refl _) ?_
  rotate_left 3
  · (simp only [List.getElem?_toArray, List.getElem?_cons_succ, List.getElem?_cons_zero] <;> rfl)
  · rfl
  · intro w' hw'
    obtain ⟨hc, hf⟩ := ext_cell hw'
    clear hw'
    go_simp
    with_reducible rfl
  · simp only [Act.put, List.setIfInBounds_toArray, List.set_cons_zero, List.set_cons_succ]
    rfl
  refine run_read (o := ?_) (v := ?_) (a' := ?_) ?_ ?_ ?_ ?_ (Ext.refl _) ?_
  rotate_left 3
  · (simp only [List.getElem?_toArray, List.getElem?_cons_succ, List.getElem?_cons_zero] <;> rfl)
  · rfl
  · intro w' hw'
    obtain ⟨hc, hf⟩ := ext_cell hw'
    clear hw'
    go_simp
    with_reducible rfl
  · simp only [Act.put, List.setIfInBounds_toArray, List.set_cons_zero, List.set_cons_succ]
    rfl
  refine run_call (f := 36) (args := ?_) (o := ?_) (v := ?_) (a' := ?_) ?_ ?_ ?_ ?_ ?_ (Ext.refl _) ?_
  rotate_left 4
  · (simp only [List.getElem?_toArray, List.getElem?_cons_succ, List.getElem?_cons_zero] <;> rfl)
  · rfl
  · intro w'
    go_simp
    with_reducible rfl
  · intro w' _
    exact (HAn.out _)
  · simp only [Act.put, List.setIfInBounds_toArray, List.set_cons_zero, List.set_cons_succ]
    rfl
  refine run_call (f := 33) (args := ?_) (o := ?_) (v := ?_) (a' := ?_) ?_ ?_ ?_ ?_ ?_ (Ext.refl _) ?_
  rotate_left 4
  · (simp only [List.getElem?_toArray, List.getElem?_cons_succ, List.getElem?_cons_zero] <;> rfl)
  · rfl
  · intro w'
    go_simp
    with_reducible rfl
  · intro w' _
    exact (oOwn _ _ _ _ _)
  · simp only [Act.put, List.setIfInBounds_toArray, List.set_cons_zero, List.set_cons_succ]
    rfl
  refine run_read (o := ?_) (v := ?_) (a' := ?_) ?_ ?_ ?_ ?_ (Ext.refl _) ?_
  rotate_left 3
  · (simp only [List.getElem?_toArray, List.getElem?_cons_succ, List.getElem?_cons_zero] <;> rfl)
  · rfl
  · intro w' hw'
    obtain ⟨hc, hf⟩ := ext_cell hw'
    clear hw'
    go_simp
    with_reducible rfl
  · simp only [Act.put, List.setIfInBounds_toArray, List.set_cons_zero, List.set_cons_succ]
    rfl
  refine run_call (f := 33) (args := ?_) (o := ?_) (v := ?_) (a' := ?_) ?_ ?_ ?_ ?_ ?_ (Ext.refl _) ?_
  rotate_left 4
  · (simp only [List.getElem?_toArray, List.getElem?_cons_succ, List.getElem?_cons_zero] <;> rfl)
  · rfl
  · intro w'
    go_simp
    with_reducible rfl
  · intro w' _
    exact (oOwn _ _ _ _ _)
  · simp only [Act.put, List.setIfInBounds_toArray, List.set_cons_zero, List.set_cons_succ]
    rfl
  refine run_read (o := ?_) (v := ?_) (a' := ?_) ?_ ?_ ?_ ?_ (Ext.refl _) ?_
  rotate_left 3
  · (simp only [List.getElem?_toArray, List.getElem?_cons_succ, List.getElem?_cons_zero] <;> rfl)
  · rfl
  · intro w' hw'
    obtain ⟨hc, hf⟩ := ext_cell hw'
    clear hw'
    go_simp
    with_reducible rfl
  · simp only [Act.put, List.setIfInBounds_toArray, List.set_cons_zero, List.set_cons_succ]
    rfl
  refine run_call (f := 33) (args := ?_) (o := ?_) (v := ?_) (a' := ?_) ?_ ?_ ?_ ?_ ?_ (Ext.refl _) ?_
  rotate_left 4
  · (simp only [List.getElem?_toArray, List.getElem?_cons_succ, List.getElem?_cons_zero] <;> rfl)
  · rfl
  · intro w'
    go_simp
    with_reducible rfl
  · intro w' _
    exact (oOwn _ _ _ _ _)
  · simp only [Act.put, List.setIfInBounds_toArray, List.set_cons_zero, List.set_cons_succ]
    rfl
  refine run_call (f := 32) (args := ?_) (o := ?_) (v := ?_) (a' := ?_) ?_ ?_ ?_ ?_ ?_ (Ext.refl _) ?_
  rotate_left 4
  · (simp only [List.getElem?_toArray, List.getElem?_cons_succ, List.getElem?_cons_zero] <;> rfl)
  · rfl
  · intro w'
    go_simp
    with_reducible rfl
  · intro w' _
    exact (HBn.out _)
  · simp only [Act.put, List.setIfInBounds_toArray, List.set_cons_zero, List.set_cons_succ]
    rfl
  refine run_pure (o := ?_) (v := ?_) (a' := ?_) ?_ ?_ ?_ ?_ ?_
  rotate_left 3
  · (simp only [List.getElem?_toArray, List.getElem?_cons_succ, List.getElem?_cons_zero] <;> rfl)
  · rfl
  · intro w'
    go_simp
    with_reducible rfl
  · simp only [Act.put, List.setIfInBounds_toArray, List.set_cons_zero, List.set_cons_succ]
    rfl
  refine run_pure (o := ?_) (v := ?_) (a' := ?_) ?_ ?_ ?_ ?_ ?_
  rotate_left 3
  · (simp only [List.getElem?_toArray, List.getElem?_cons_succ, List.getElem?_cons_zero] <;> rfl)
  · rfl
  · intro w'
    go_simp
    with_reducible rfl
  · simp only [Act.put, List.setIfInBounds_toArray, List.set_cons_zero, List.set_cons_succ]
    rfl
  refine run_pure (o := ?_) (v := ?_) (a' := ?_) ?_ ?_ ?_ ?_ ?_
  rotate_left 3
  · (simp only [List.getElem?_toArray, List.getElem?_cons_succ, List.getElem?_cons_zero] <;> rfl)
  · rfl
  · intro w'
    go_simp
    with_reducible rfl
  · simp only [Act.put, List.setIfInBounds_toArray, List.set_cons_zero, List.set_cons_succ]
    rfl
  refine run_read (o := ?_) (v := ?_) (a' := ?_) ?_ ?_ ?_ ?_ (Ext.refl _) ?_
  rotate_left 3
  · (simp only [List.getElem?_toArray, List.getElem?_cons_succ, List.getElem?_cons_zero] <;> rfl)
  · rfl
  · intro w' hw'
    obtain ⟨hc, hf⟩ := ext_cell hw'
    clear hw'
    go_simp
    with_reducible rfl
  · simp only [Act.put, List.setIfInBounds_toArray, List.set_cons_zero, List.set_cons_succ]
    rfl
  refine run_read (o := ?_) (v := ?_) (a' := ?_) ?_ ?_ ?_ ?_ (Ext.refl _) ?_
  rotate_left 3
  · (simp only [List.getElem?_toArray, List.getElem?_cons_succ, List.getElem?_cons_zero] <;> rfl)
  · rfl
  · intro w' hw'
    obtain ⟨hc, hf⟩ := ext_cell hw'
    clear hw'
    go_simp
    with_reducible rfl
  · simp only [Act.put, List.setIfInBounds_toArray, List.set_cons_zero, List.set_cons_succ]
    rfl
  refine run_call (f := 37) (args := ?_) (o := ?_) (v := ?_) (a' := ?_) ?_ ?_ ?_ ?_ ?_ (Ext.refl _) ?_
  rotate_left 4
  · (simp only [List.getElem?_toArray, List.getElem?_cons_succ, List.getElem?_cons_zero] <;> rfl)
  · rfl
  · intro w'
    go_simp
    with_reducible rfl
  · intro w' _
    exact (HAp.out _)
  · simp only [Act.put, List.setIfInBounds_toArray, List.set_cons_zero, List.set_cons_succ]
    rfl
  refine run_call (f := 33) (args := ?_) (o := ?_) (v := ?_) (a' := ?_) ?_ ?_ ?_ ?_ ?_ (Ext.refl _) ?_
  rotate_left 4
  · (simp only [List.getElem?_toArray, List.getElem?_cons_succ, List.getElem?_cons_zero] <;> rfl)
  · rfl
  · intro w'
    go_simp
    with_reducible rfl
  · intro w' _
    exact (oOwn _ _ _ _ _)
  · simp only [Act.put, List.setIfInBounds_toArray, List.set_cons_zero, List.set_cons_succ]
    rfl
  refine run_read (o := ?_) (v := ?_) (a' := ?_) ?_ ?_ ?_ ?_ (Ext.refl _) ?_
  rotate_left 3
  · (simp only [List.getElem?_toArray, List.getElem?_cons_succ, List.getElem?_cons_zero] <;> rfl)
  · rfl
  · intro w' hw'
    obtain ⟨hc, hf⟩ := ext_cell hw'
    clear hw'
    go_simp
    with_reducible rfl
  · simp only [Act.put, List.setIfInBounds_toArray, List.set_cons_zero, List.set_cons_succ]
    rfl
  refine run_call (f := 33) (args := ?_) (o := ?_) (v := ?_) (a' := ?_) ?_ ?_ ?_ ?_ ?_ (Ext.refl _) ?_
  rotate_left 4
  · (simp only [List.getElem?_toArray, List.getElem?_cons_succ, List.getElem?_cons_zero] <;> rfl)
  · rfl
  · intro w'
    go_simp
    with_reducible rfl
  · intro w' _
    exact (oOwn _ _ _ _ _)
  · simp only [Act.put, List.setIfInBounds_toArray, List.set_cons_zero, List.set_cons_succ]
    rfl
  refine run_read (o := ?_) (v := ?_) (a' := ?_) ?_ ?_ ?_ ?_ (Ext.refl _) ?_
  rotate_left 3
  · (simp only [List.getElem?_toArray, List.getElem?_cons_succ, List.getElem?_cons_zero] <;> rfl)
  · rfl
  · intro w' hw'
    obtain ⟨hc, hf⟩ := ext_cell hw'
    clear hw'
    go_simp
    with_reducible rfl
  · simp only [Act.put, List.setIfInBounds_toArray, List.set_cons_zero, List.set_cons_succ]
    rfl
  refine run_call (f := 38) (args := ?_) (o := ?_) (v := ?_) (a' := ?_) ?_ ?_ ?_ ?_ ?_ (Ext.refl _) ?_
  rotate_left 4
  · (simp only [List.getElem?_toArray, List.getElem?_cons_succ, List.getElem?_cons_zero] <;> rfl)
  · rfl
  · intro w'
    go_simp
    with_reducible rfl
  · intro w' _
    exact (HBp.out _)
  · simp only [Act.put, List.setIfInBounds_toArray, List.set_cons_zero, List.set_cons_succ]
    rfl
  refine run_pure (o := ?_) (v := ?_) (a' := ?_) ?_ ?_ ?_ ?_ ?_
  rotate_left 3
  · (simp only [List.getElem?_toArray, List.getElem?_cons_succ, List.getElem?_cons_zero] <;> rfl)
  · rfl
  · intro w'
    go_simp
    with_reducible rfl
  · simp only [Act.put, List.setIfInBounds_toArray, List.set_cons_zero, List.set_cons_succ]
    rfl
  refine run_pure (o := ?_) (v := ?_) (a' := ?_) ?_ ?_ ?_ ?_ ?_
  rotate_left 3
  · (simp only [List.getElem?_toArray, List.getElem?_cons_succ, List.getElem?_cons_zero] <;> rfl)
  · rfl
  · intro w'
    go_simp
    with_reducible rfl
  · simp only [Act.put, List.setIfInBounds_toArray, List.set_cons_zero, List.set_cons_succ]
    rfl
  refine run_pure (o := ?_) (v := ?_) (a' := ?_) ?_ ?_ ?_ ?_ ?_
  rotate_left 3
  · (simp only [List.getElem?_toArray, List.getElem?_cons_succ, List.getElem?_cons_zero] <;> rfl)
  · rfl
  · intro w'
    go_simp
    with_reducible rfl
  · simp only [Act.put, List.setIfInBounds_toArray, List.set_cons_zero, List.set_cons_succ]
    rfl
  refine run_read (o := ?_) (v := ?_) (a' := ?_) ?_ ?_ ?_ ?_ (Ext.refl _) ?_
  rotate_left 3
  · (simp only [List.getElem?_toArray, List.getElem?_cons_succ, List.getElem?_cons_zero] <;> rfl)
  · rfl
  · intro w' hw'
    obtain ⟨hc, hf⟩ := ext_cell hw'
    clear hw'
    go_simp
    with_reducible rfl
  · simp only [Act.put, List.setIfInBounds_toArray, List.set_cons_zero, List.set_cons_succ]
    rfl
  refine run_read (o := ?_) (v := ?_) (a' := ?_) ?_ ?_ ?_ ?_ (Ext.refl _) ?_
  rotate_left 3
  · (simp only [List.getElem?_toArray, List.getElem?_cons_succ, List.getElem?_cons_zero] <;> rfl)
  · rfl
  · intro w' hw'
    obtain ⟨hc, hf⟩ := ext_cell hw'
    clear hw'
    go_simp
    with_reducible rfl
  · simp only [Act.put, List.setIfInBounds_toArray, List.set_cons_zero, List.set_cons_succ]
    rfl
  refine run_pure (o := ?_) (v := ?_) (a' := ?_) ?_ ?_ ?_ ?_ ?_
  rotate_left 3
  · (simp only [List.getElem?_toArray, List.getElem?_cons_succ, List.getElem?_cons_zero] <;> rfl)
  · rfl
  · intro w'
    go_simp
    with_reducible rfl
  · simp only [Act.put, List.setIfInBounds_toArray, List.set_cons_zero, List.set_cons_succ]
    rfl
  refine run_pure (o := ?_) (v := ?_) (a' := ?_) ?_ ?_ ?_ ?_ ?_
  rotate_left 3
  · (simp only [List.getElem?_toArray, List.getElem?_cons_succ, List.getElem?_cons_zero] <;> rfl)
  · rfl
  · intro w'
    go_simp
    with_reducible rfl
  · simp only [Act.put, List.setIfInBounds_toArray, List.set_cons_zero, List.set_cons_succ]
    rfl
  refine run_pure (o := ?_) (v := ?_) (a' := ?_) ?_ ?_ ?_ ?_ ?_
  rotate_left 3
  · (simp only [List.getElem?_toArray, List.getElem?_cons_succ, List.getElem?_cons_zero] <;> rfl)
  · rfl
  · intro w'
    go_simp
    with_reducible rfl
  · simp only [Act.put, List.setIfInBounds_toArray, List.set_cons_zero, List.set_cons_succ]
    rfl
  refine run_pure (o := ?_) (v := ?_) (a' := ?_) ?_ ?_ ?_ ?_ ?_
  rotate_left 3
  · (simp only [List.getElem?_toArray, List.getElem?_cons_succ, List.getElem?_cons_zero] <;> rfl)
  · rfl
  · intro w'
    go_simp
    with_reducible rfl
  · simp only [Act.put, List.setIfInBounds_toArray, List.set_cons_zero, List.set_cons_succ]
    rfl
  refine run_pure (o := ?_) (v := ?_) (a' := ?_) ?_ ?_ ?_ ?_ ?_
  rotate_left 3
  · (simp only [List.getElem?_toArray, List.getElem?_cons_succ, List.getElem?_cons_zero] <;> rfl)
  · rfl
  · intro w'
    go_simp
    with_reducible rfl
  · simp only [Act.put, List.setIfInBounds_toArray, List.set_cons_zero, List.set_cons_succ]
    rfl
  refine run_pure (o := ?_) (v := ?_) (a' := ?_) ?_ ?_ ?_ ?_ ?_
  rotate_left 3
  · (simp only [List.getElem?_toArray, List.getElem?_cons_succ, List.getElem?_cons_zero] <;> rfl)
  · rfl
  · intro w'
    go_simp
    with_reducible rfl
  · simp only [Act.put, List.setIfInBounds_toArray, List.set_cons_zero, List.set_cons_succ]
    rfl
  refine run_pure (o := ?_) (v := ?_) (a' := ?_) ?_ ?_ ?_ ?_ ?_
  rotate_left 3
  · (simp only [List.getElem?_toArray, List.getElem?_cons_succ, List.getElem?_cons_zero] <;> rfl)
  · rfl
  · intro w'
    go_simp
    with_reducible rfl
  · simp only [Act.put, List.setIfInBounds_toArray, List.set_cons_zero, List.set_cons_succ]
    rfl
  refine run_pure (o := ?_) (v := ?_) (a' := ?_) ?_ ?_ ?_ ?_ ?_
  rotate_left 3
  · (simp only [List.getElem?_toArray, List.getElem?_cons_succ, List.getElem?_cons_zero] <;> rfl)
  · rfl
  · intro w'
    go_simp
    with_reducible rfl
  · simp only [Act.put, List.setIfInBounds_toArray, List.set_cons_zero, List.set_cons_succ]
    rfl
  refine run_nil (fun f1 hx => ?_)
  have hc_f1 := (ext_cell hx).1
  have hf_f1 := (ext_cell hx).2
  have HX_f1 := Lib.hid hx
  have y_f1 := hx.size
  try simp at y_f1
  have z_f1_w_0 : w.heap.size < f1.heap.size := by omega
  have z_f1_w_1 : w.heap.size + 1 < f1.heap.size := by omega
  have z_f1_w_2 : w.heap.size + 2 < f1.heap.size := by omega
  have z_f1_w2_0 : w2.heap.size < f1.heap.size := by omega
  have z_f1_w3_0 : w3.heap.size < f1.heap.size := by omega
  have z_f1_w4_0 : w4.heap.size < f1.heap.size := by omega
  have z_f1_w5_0 : w5.heap.size < f1.heap.size := by omega
  have z_f1_d1_0 : d1.heap.size < f1.heap.size := by omega
  clear hx
  go_wp2
  go_ret
  refine ⟨by simp, ?_⟩
  · repeat (first | exact Ext.refl _ | refine Ext.alloc ?_ _ | (refine Ext.setCell ?_ (by simp <;> omega) _) | refine Ext.drew ?_ | refine Ext.trans ?_ HX_f1.out | refine Ext.trans ?_ HX_d3.out | refine Ext.trans ?_ HX_d2.out | refine Ext.trans ?_ HX_d1.out | refine Ext.trans ?_ HX_w5.out | refine Ext.trans ?_ HX_w4.out | refine Ext.trans ?_ HX_w3.out | refine Ext.trans ?_ HX_w2.out | refine Ext.trans ?_ HX_w1.out)
theorem affineTells_walk (a c b d x : V) (w : World) :
    Calls Try.prog 6 #[.agg #[.int .u64 (hi a), .int .u64 (lo a), .int .u64 (hi c), .int .u64 (lo c)], .agg #[.int .u64 (hi b), .int .u64 (lo b), .int .u64 (hi d), .int .u64 (lo d)], .agg #[.int .u64 (hi x), .int .u64 (lo x)]] w
      fun e w' => e = .returned (.bool true) ∧ Ext w w' := by
  by_cases ha : a.toNat % 2 = 1
  · exact affineTells_odd a c b d x ha w
  · exact affineTells_even a c b d x (by omega) w
end Go.Proofs.Ytjjapblpmpidcaa
