import Derived.Test.YtjjapblpmpidcaaI1
set_option linter.unusedVariables false
set_option linter.unusedSimpArgs false
namespace Go.Proofs.Ytjjapblpmpidcaa
open Go.RowKit Num UReg

/-! ### The reference of layer 12: Jump, Block, Word; half.Number -/
set_option maxHeartbeats 1000000 in
theorem r12Jump {c d : V} {b e : Bool} {N : Nat} (hN : N ≤ 1000) (hz : jumpC c b N = (d, e)) (k0 k1 : Int) (w : World) : Calls Try.prog 57 #[.agg #[.int .u64 (hi c), .int .u64 (lo c), .int .u32 k0, .int .u32 k1, .bool b], .int .i64 N] w fun e' w' =>
    e' = .returned (.agg #[.int .u64 (hi d), .int .u64 (lo d), .int .u32 k0, .int .u32 k1, .bool e]) ∧ Ext w w' := by
  have HZ := Lib.hid hz; clear hz
  go_enter Try.func57, Try.ntmps57
  go_wp2_with fail
  go_loopw [5] (fun j wr => ∃ k : Nat, k ≤ N ∧ j = .int .i64 k ∧ Ext w wr ∧ w.heap.size + 1 < wr.heap.size ∧ Cells wr w.heap.size (sCells (jumpC c b k) k0 k1) ∧ Cells wr (w.heap.size + 1) [.int .u64 0, .int .u64 0, .int .u32 0, .int .u32 0, .bool false])
    (fun j _ => N - (intOf j).toNat)
  case atStart =>
    refine ⟨0, by omega, rfl, ?_, by simp, ?_, ?_⟩
    · repeat (first | with_reducible exact Ext.refl _ | with_reducible refine Ext.alloc ?_ _ | (with_reducible refine Ext.setCell ?_ (by simp <;> omega) _) | with_reducible refine Ext.drew ?_)
    · exact Cells.mk5 (by go_simp <;> rfl) (by go_simp <;> rfl) (by go_simp <;> rfl) (by go_simp <;> rfl) (by go_simp <;> rfl) (by go_simp) (by go_simp) (by go_simp) (by go_simp) (by go_simp)
    · exact Cells.mk5 (by go_simp <;> rfl) (by go_simp <;> rfl) (by go_simp <;> rfl) (by go_simp <;> rfl) (by go_simp <;> rfl) (by go_simp) (by go_simp) (by go_simp) (by go_simp) (by go_simp)
  case round =>
    obtain ⟨k, hk, rfl, HX, z1, hs, hr⟩ := hrel
    have HX_r := Lib.hid HX; clear HX
    have za : w.heap.size < wr.heap.size := by omega
    by_cases hlt : k < N
    · have hlt' : (k : Int) < (N : Int) := by omega
      obtain ⟨⟨x, f⟩, hd⟩ : ∃ t, jumpC c b k = t := ⟨_, rfl⟩
      obtain ⟨x', hx'⟩ : ∃ y, stepC x f = y := ⟨_, rfl⟩
      obtain ⟨f', hf'⟩ : ∃ y, (!f) = y := ⟨_, rfl⟩
      have HNX := Lib.hid (show jumpC c b (k + 1) = (x', f') by rw [jumpC, hd]; simp only; rw [hx', hf'])
      have HS := Lib.hid (rStep12 hx' hf' k0 k1)
      rw [hd] at hs
      clear hd hx' hf'
      obtain ⟨s0, s1, s2, s3, s4, sf0, sf1, sf2, sf3, sf4⟩ := hs.five
      simp only at s0 s1 s4
      go_wp2_with fail
      refine (HS.out _).mono ?_
      rintro e w3 ⟨rfl, hx⟩
      have hs3 := hs.ext hx
      have hr3 := hr.ext hx
      have X3 := Lib.hid (HX_r.out.trans hx)
      have y3 := hx.size
      clear hx hs hr s0 s1 s2 s3 s4 sf0 sf1 sf2 sf3 sf4
      obtain ⟨s0, s1, s2, s3, s4, sf0, sf1, sf2, sf3, sf4⟩ := hs3.five
      go_wp2_with fail
      go_roundw
      case rel =>
        refine ⟨k + 1, by omega, by simp, ?_, by simp; omega, ?_, ?_⟩
        · repeat (first | with_reducible exact X3.out | (with_reducible refine Ext.setCell ?_ (by simp <;> omega) _))
        · rw [HNX.out]
          exact ((((hs3.set 0 _).set 1 _).set 2 _).set 3 _).set 4 _
        · exact ((((hr3.other (by omega) _ _).other (by omega) _ _).other (by omega) _ _).other (by omega) _ _).other (by omega) _ _
      case measure => simp [intOf]; omega
    · obtain rfl : k = N := by omega
      rw [HZ.out] at hs
      obtain ⟨s0, s1, s2, s3, s4, sf0, sf1, sf2, sf3, sf4⟩ := hs.five
      obtain ⟨r0, r1, r2, r3, r4, rf0, rf1, rf2, rf3, rf4⟩ := hr.five
      simp only at s0 s1 s4
      go_wp2_with fail
      refine bodyPost_ret (v := ?_) ?_ rfl ⟨?_, ?_⟩
      rotate_left
      · simp only [results, Try.results57]
        go_simp
        with_reducible rfl
      · rfl
      · repeat (first | with_reducible exact HX_r.out | (with_reducible refine Ext.setCell ?_ (by simp <;> omega) _))
set_option maxHeartbeats 1000000 in
theorem r12Block {c : V} {b0 b1 b2 b3 : Int} (h : blockV c = (b0, b1, b2, b3)) (w : World) : Calls Try.prog 56 #[.agg #[.int .u64 (hi c), .int .u64 (lo c)]] w fun e w' => e = .returned (.agg #[.int .u32 b0, .int .u32 b1, .int .u32 b2, .int .u32 b3]) ∧ Ext w w' := by
  unfold blockV at h
  simp only [Prod.mk.injEq] at h
  rw [← dg0, ← dg1, ← dg2, ← dg3] at h
  obtain ⟨a0, a1⟩ := word_hi c
  obtain ⟨c0, c1⟩ := word_lo c
  obtain ⟨H, hH⟩ : ∃ x, hi c = x := ⟨_, rfl⟩
  obtain ⟨L, hL⟩ : ∃ x, lo c = x := ⟨_, rfl⟩
  rw [hH] at a0 a1 h ⊢
  rw [hL] at c0 c1 h ⊢
  clear hH hL
  obtain ⟨h0, h1, h2, h3⟩ := h
  have t0 : L.tmod 4294967296 = b0 := by rw [Int.tmod_eq_emod_of_nonneg c0]; exact h0
  have t1 : L.tdiv 4294967296 = b1 := by rw [Int.tdiv_eq_ediv_of_nonneg c0]; exact h1
  have t2 : H.tmod 4294967296 = b2 := by rw [Int.tmod_eq_emod_of_nonneg a0]; exact h2
  have t3 : H.tdiv 4294967296 = b3 := by rw [Int.tdiv_eq_ediv_of_nonneg a0]; exact h3
  have e0 : IntKind.u32.wrap b0 = b0 := by rw [IntKind.wrap_u32]; omega
  have e1 : IntKind.u32.wrap b1 = b1 := by rw [IntKind.wrap_u32]; omega
  have e2 : IntKind.u32.wrap b2 = b2 := by rw [IntKind.wrap_u32]; omega
  have e3 : IntKind.u32.wrap b3 = b3 := by rw [IntKind.wrap_u32]; omega
  have g0 : IntKind.u64.wrap b0 = b0 := IntWalk.u64_in _ (by omega)
  have g1 : IntKind.u64.wrap b1 = b1 := IntWalk.u64_in _ (by omega)
  have g2 : IntKind.u64.wrap b2 = b2 := IntWalk.u64_in _ (by omega)
  have g3 : IntKind.u64.wrap b3 = b3 := IntWalk.u64_in _ (by omega)
  clear h0 h1 h2 h3
  go_enter Try.func56, Try.ntmps56
  go_wp2
  refine bodyPost_ret (v := ?_) ?_ rfl ⟨?_, ?_⟩
  rotate_left
  · simp only [results, Try.results56]
    go_simp
    with_reducible rfl
  · rfl
  · repeat (first | with_reducible exact Ext.refl _ | with_reducible refine Ext.alloc ?_ _ | (with_reducible refine Ext.setCell ?_ (by simp <;> omega) _) | with_reducible refine Ext.drew ?_)
theorem mul_pair {x y p : Int} (hx : W32 x) (hy : W32 y) (h : x + 4294967296 * y = p) : IntKind.u64.wrap x = x ∧ IntKind.u64.wrap y = y ∧ IntKind.u64.wrap (4294967296 * y) = 4294967296 * y ∧ IntKind.u64.wrap (x + 4294967296 * y) = p := by
  obtain ⟨x0, x1⟩ := hx
  obtain ⟨y0, y1⟩ := hy
  exact ⟨IntWalk.u64_in _ (by omega), IntWalk.u64_in _ (by omega), IntWalk.u64_in _ (by omega), by rw [← h]; exact IntWalk.u64_in _ (by omega)⟩
set_option maxHeartbeats 2000000 in
theorem r12Word {c : V} {k0 k1 p : Int} {b : Bool} (hk : WK (k0, k1)) (h : wordH c (k0, k1) b = p) (w : World) : Calls Try.prog 48 #[.agg #[.int .u64 (hi c), .int .u64 (lo c), .int .u32 k0, .int .u32 k1, .bool b]] w fun e w' => e = .returned (.int .u64 p) ∧ Ext w w' := by
  obtain ⟨⟨b0, b1, b2, b3⟩, hb⟩ : ∃ t, blockV c = t := ⟨_, rfl⟩
  have hwb := wb_block c
  have hm := (w_mixS hwb hk 10).1
  unfold wordH at h
  rw [hb] at h hwb hm
  obtain ⟨⟨r0, r1, r2, r3⟩, hr⟩ : ∃ t, (mixS (b0, b1, b2, b3) (k0, k1) 10).1 = t := ⟨_, rfl⟩
  rw [hr] at h hm
  simp only at h
  have HB := Lib.hid (r12Block hb)
  have HO := Lib.hid (rMix (b0, b1, b2, b3) (k0, k1) hwb hk 10 (by decide) r0 r1 r2 r3 hr)
  clear hb hwb hr
  cases b
  · simp only [Bool.false_eq_true, if_false] at h
    obtain ⟨e0, e1, e2, e3⟩ := mul_pair hm.1 hm.2.1 h
    clear hm h hk
    go_enter Try.func48, Try.ntmps48
    try dsimp only
    repeat (first | with_reducible refine wp_region_ext ?_ [(0, 0), (1, 1), (2, 1), (3, 0), (4, 1), (5, 1), (6, 2), (7, 2)] (fun _ => true) ?_ ?_ ?_ ?_ ?_ | go_step)
    · kernel_rfl
    · kernel_rfl
    · kernel_rfl
    · kernel_rfl
    · exact (fun _ _ d _ _ h => by cases d <;> exact h)
    refine run_pure (o := ?_) (v := ?_) (a' := ?_) ?_ ?_ ?_ ?_ ?_
    rotate_left 3
    · (simp only [List.getElem?_toArray, List.getElem?_cons_succ, List.getElem?_cons_zero] <;> rfl)
    · rfl
    · intro w'
      go_simp
      with_reducible rfl
    · simp only [Act.put, List.setIfInBounds_toArray, List.set_cons_zero, List.set_cons_succ]
      rfl
    refine run_read (o := ?_) (v := ?_) (a' := ?_) ?_ ?_ ?_ ?_ (Ext.refl _) ?_
    rotate_left 3
    · (simp only [List.getElem?_toArray, List.getElem?_cons_succ, List.getElem?_cons_zero] <;> rfl)
    · rfl
    · intro w' hw'
      obtain ⟨hc, hf⟩ := ext_cell hw'
      clear hw'
      go_simp
      with_reducible rfl
    · simp only [Act.put, List.setIfInBounds_toArray, List.set_cons_zero, List.set_cons_succ]
      rfl
    refine run_call (f := 56) (args := ?_) (o := ?_) (v := ?_) (a' := ?_) ?_ ?_ ?_ ?_ ?_ (Ext.refl _) ?_
    rotate_left 4
    · (simp only [List.getElem?_toArray, List.getElem?_cons_succ, List.getElem?_cons_zero] <;> rfl)
    · rfl
    · intro w'
      go_simp
      with_reducible rfl
    · intro w' hw'
      exact (HB.out _)
    · simp only [Act.put, List.setIfInBounds_toArray, List.set_cons_zero, List.set_cons_succ]
      rfl
    refine run_pure (o := ?_) (v := ?_) (a' := ?_) ?_ ?_ ?_ ?_ ?_
    rotate_left 3
    · (simp only [List.getElem?_toArray, List.getElem?_cons_succ, List.getElem?_cons_zero] <;> rfl)
    · rfl
    · intro w'
      go_simp
      with_reducible rfl
    · simp only [Act.put, List.setIfInBounds_toArray, List.set_cons_zero, List.set_cons_succ]
      rfl
    refine run_read (o := ?_) (v := ?_) (a' := ?_) ?_ ?_ ?_ ?_ (Ext.refl _) ?_
    rotate_left 3
    · (simp only [List.getElem?_toArray, List.getElem?_cons_succ, List.getElem?_cons_zero] <;> rfl)
    · rfl
    · intro w' hw'
      obtain ⟨hc, hf⟩ := ext_cell hw'
      clear hw'
      go_simp
      with_reducible rfl
    · simp only [Act.put, List.setIfInBounds_toArray, List.set_cons_zero, List.set_cons_succ]
      rfl
    refine run_call (f := 79) (args := ?_) (o := ?_) (v := ?_) (a' := ?_) ?_ ?_ ?_ ?_ ?_ (Ext.refl _) ?_
    rotate_left 4
    · (simp only [List.getElem?_toArray, List.getElem?_cons_succ, List.getElem?_cons_zero] <;> rfl)
    · rfl
    · intro w'
      go_simp
      with_reducible rfl
    · intro w' hw'
      exact (HO.out _)
    · simp only [Act.put, List.setIfInBounds_toArray, List.set_cons_zero, List.set_cons_succ]
      rfl
    refine run_do (o := ?_) ?_ ?_ (fun d1 hx K hK => ?_)
    rotate_left
    · (simp only [List.getElem?_toArray, List.getElem?_cons_succ, List.getElem?_cons_zero] <;> rfl)
    · rfl
    have hc_d1 := (ext_cell hx).1
    have hf_d1 := (ext_cell hx).2
    have HX_d1 := Lib.hid hx
    have y_d1 := hx.size
    try simp at y_d1
    have z_d1_w_0 : w.heap.size < d1.heap.size := by omega
    clear hx
    go_simp
    refine hK _ _ (fun _ hs => hs.alloc _) ?_
    clear hK K
    try simp only [Act.put, List.setIfInBounds_toArray, List.set_cons_zero, List.set_cons_succ]
    refine run_do (o := ?_) ?_ ?_ (fun d2 hx K hK => ?_)
    rotate_left
    · (simp only [List.getElem?_toArray, List.getElem?_cons_succ, List.getElem?_cons_zero] <;> rfl)
    · rfl
    have hc_d2 := (ext_cell hx).1
    have hf_d2 := (ext_cell hx).2
    have HX_d2 := Lib.hid hx
    have y_d2 := hx.size
    try simp at y_d2
    have z_d2_w_0 : w.heap.size < d2.heap.size := by omega
    have z_d2_d1_0 : d1.heap.size < d2.heap.size := by omega
    clear hx
    go_simp
    refine hK _ _ (fun _ hs => ?_) ?_
    · repeat (first | exact hs | (refine Ext.setCell ?_ (by simp <;> omega) _))
    clear hK K
    refine run_nil (fun d3 hx => ?_)
    have hc_d3 := (ext_cell hx).1
    have hf_d3 := (ext_cell hx).2
    have HX_d3 := Lib.hid hx
    have y_d3 := hx.size
    try simp at y_d3
    have z_d3_w_0 : w.heap.size < d3.heap.size := by omega
    have z_d3_d1_0 : d1.heap.size < d3.heap.size := by omega
    clear hx
    go_wp2
    go_ret
    refine ⟨rfl, ?_⟩
    · repeat (first | with_reducible exact Ext.refl _ | with_reducible refine Ext.alloc ?_ _ | (with_reducible refine Ext.setCell ?_ (by simp <;> omega) _) | with_reducible refine Ext.drew ?_ | with_reducible refine Ext.trans ?_ HX_d3.out | with_reducible refine Ext.trans ?_ HX_d2.out | with_reducible refine Ext.trans ?_ HX_d1.out)
  · simp only [if_true] at h
    obtain ⟨e0, e1, e2, e3⟩ := mul_pair hm.2.2.1 hm.2.2.2 h
    clear hm h hk
    go_enter Try.func48, Try.ntmps48
    try dsimp only
    repeat (first | with_reducible refine wp_region_ext ?_ [(0, 0), (1, 1), (2, 1), (3, 0), (4, 1), (5, 1), (6, 2), (7, 2)] (fun _ => true) ?_ ?_ ?_ ?_ ?_ | go_step)
    · kernel_rfl
    · kernel_rfl
    · kernel_rfl
    · kernel_rfl
    · exact (fun _ _ d _ _ h => by cases d <;> exact h)
    refine run_pure (o := ?_) (v := ?_) (a' := ?_) ?_ ?_ ?_ ?_ ?_
    rotate_left 3
    · (simp only [List.getElem?_toArray, List.getElem?_cons_succ, List.getElem?_cons_zero] <;> rfl)
    · rfl
    · intro w'
      go_simp
      with_reducible rfl
    · simp only [Act.put, List.setIfInBounds_toArray, List.set_cons_zero, List.set_cons_succ]
      rfl
    refine run_read (o := ?_) (v := ?_) (a' := ?_) ?_ ?_ ?_ ?_ (Ext.refl _) ?_
    rotate_left 3
    · (simp only [List.getElem?_toArray, List.getElem?_cons_succ, List.getElem?_cons_zero] <;> rfl)
    · rfl
    · intro w' hw'
      obtain ⟨hc, hf⟩ := ext_cell hw'
      clear hw'
      go_simp
      with_reducible rfl
    · simp only [Act.put, List.setIfInBounds_toArray, List.set_cons_zero, List.set_cons_succ]
      rfl
    refine run_call (f := 56) (args := ?_) (o := ?_) (v := ?_) (a' := ?_) ?_ ?_ ?_ ?_ ?_ (Ext.refl _) ?_
    rotate_left 4
    · (simp only [List.getElem?_toArray, List.getElem?_cons_succ, List.getElem?_cons_zero] <;> rfl)
    · rfl
    · intro w'
      go_simp
      with_reducible rfl
    · intro w' hw'
      exact (HB.out _)
    · simp only [Act.put, List.setIfInBounds_toArray, List.set_cons_zero, List.set_cons_succ]
      rfl
    refine run_pure (o := ?_) (v := ?_) (a' := ?_) ?_ ?_ ?_ ?_ ?_
    rotate_left 3
    · (simp only [List.getElem?_toArray, List.getElem?_cons_succ, List.getElem?_cons_zero] <;> rfl)
    · rfl
    · intro w'
      go_simp
      with_reducible rfl
    · simp only [Act.put, List.setIfInBounds_toArray, List.set_cons_zero, List.set_cons_succ]
      rfl
    refine run_read (o := ?_) (v := ?_) (a' := ?_) ?_ ?_ ?_ ?_ (Ext.refl _) ?_
    rotate_left 3
    · (simp only [List.getElem?_toArray, List.getElem?_cons_succ, List.getElem?_cons_zero] <;> rfl)
    · rfl
    · intro w' hw'
      obtain ⟨hc, hf⟩ := ext_cell hw'
      clear hw'
      go_simp
      with_reducible rfl
    · simp only [Act.put, List.setIfInBounds_toArray, List.set_cons_zero, List.set_cons_succ]
      rfl
    refine run_call (f := 79) (args := ?_) (o := ?_) (v := ?_) (a' := ?_) ?_ ?_ ?_ ?_ ?_ (Ext.refl _) ?_
    rotate_left 4
    · (simp only [List.getElem?_toArray, List.getElem?_cons_succ, List.getElem?_cons_zero] <;> rfl)
    · rfl
    · intro w'
      go_simp
      with_reducible rfl
    · intro w' hw'
      exact (HO.out _)
    · simp only [Act.put, List.setIfInBounds_toArray, List.set_cons_zero, List.set_cons_succ]
      rfl
    refine run_do (o := ?_) ?_ ?_ (fun d1 hx K hK => ?_)
    rotate_left
    · (simp only [List.getElem?_toArray, List.getElem?_cons_succ, List.getElem?_cons_zero] <;> rfl)
    · rfl
    have hc_d1 := (ext_cell hx).1
    have hf_d1 := (ext_cell hx).2
    have HX_d1 := Lib.hid hx
    have y_d1 := hx.size
    try simp at y_d1
    have z_d1_w_0 : w.heap.size < d1.heap.size := by omega
    clear hx
    go_simp
    refine hK _ _ (fun _ hs => hs.alloc _) ?_
    clear hK K
    try simp only [Act.put, List.setIfInBounds_toArray, List.set_cons_zero, List.set_cons_succ]
    refine run_do (o := ?_) ?_ ?_ (fun d2 hx K hK => ?_)
    rotate_left
    · (simp only [List.getElem?_toArray, List.getElem?_cons_succ, List.getElem?_cons_zero] <;> rfl)
    · rfl
    have hc_d2 := (ext_cell hx).1
    have hf_d2 := (ext_cell hx).2
    have HX_d2 := Lib.hid hx
    have y_d2 := hx.size
    try simp at y_d2
    have z_d2_w_0 : w.heap.size < d2.heap.size := by omega
    have z_d2_d1_0 : d1.heap.size < d2.heap.size := by omega
    clear hx
    go_simp
    refine hK _ _ (fun _ hs => ?_) ?_
    · repeat (first | exact hs | (refine Ext.setCell ?_ (by simp <;> omega) _))
    clear hK K
    refine run_nil (fun d3 hx => ?_)
    have hc_d3 := (ext_cell hx).1
    have hf_d3 := (ext_cell hx).2
    have HX_d3 := Lib.hid hx
    have y_d3 := hx.size
    try simp at y_d3
    have z_d3_w_0 : w.heap.size < d3.heap.size := by omega
    have z_d3_d1_0 : d1.heap.size < d3.heap.size := by omega
    clear hx
    go_wp2
    go_ret
    refine ⟨rfl, ?_⟩
    · repeat (first | with_reducible exact Ext.refl _ | with_reducible refine Ext.alloc ?_ _ | (with_reducible refine Ext.setCell ?_ (by simp <;> omega) _) | with_reducible refine Ext.drew ?_ | with_reducible refine Ext.trans ?_ HX_d3.out | with_reducible refine Ext.trans ?_ HX_d2.out | with_reducible refine Ext.trans ?_ HX_d1.out)
set_option maxHeartbeats 2000000 in
theorem hNumber {b0 b1 b2 b3 p q : Int} (h0 : W32 b0) (h1 : W32 b1) (h2 : W32 b2) (h3 : W32 b3) (hp : b2 + 4294967296 * b3 = p) (hq : b0 + 4294967296 * b1 = q) (w : World) : Calls Try.prog 78 #[.agg #[.int .u32 b0, .int .u32 b1, .int .u32 b2, .int .u32 b3]] w fun e w' => e = .returned (.agg #[.int .u64 p, .int .u64 q]) ∧ Ext w w' := by
  have HP := Lib.hid (hPair h2 h3 hp)
  have HQ := Lib.hid (hPair h0 h1 hq)
  clear h0 h1 h2 h3 hp hq
  go_enter Try.func78, Try.ntmps78
  try dsimp only
  repeat (first | with_reducible refine wp_region_ext ?_ [(0, 0), (1, 1), (2, 0), (3, 1), (4, 1), (5, 0), (6, 1), (7, 0), (8, 1), (9, 1), (10, 0), (11, 2)] (fun i => !(i == 11)) ?_ ?_ ?_ ?_ ?_ | go_step)
  · kernel_rfl
  · kernel_rfl
  · kernel_rfl
  · kernel_rfl
  · exact (fun _ _ d _ _ h => by cases d <;> exact h)
  refine run_pure (o := ?_) (v := ?_) (a' := ?_) ?_ ?_ ?_ ?_ ?_
  rotate_left 3
  · (simp only [List.getElem?_toArray, List.getElem?_cons_succ, List.getElem?_cons_zero] <;> rfl)
  · rfl
  · intro w'
    go_simp
    with_reducible rfl
  · simp only [Act.put, List.setIfInBounds_toArray, List.set_cons_zero, List.set_cons_succ]
    rfl
  refine run_read (o := ?_) (v := ?_) (a' := ?_) ?_ ?_ ?_ ?_ (Ext.refl _) ?_
  rotate_left 3
  · (simp only [List.getElem?_toArray, List.getElem?_cons_succ, List.getElem?_cons_zero] <;> rfl)
  · rfl
  · intro w' hw'
    obtain ⟨hc, hf⟩ := ext_cell hw'
    clear hw'
    go_simp
    with_reducible rfl
  · simp only [Act.put, List.setIfInBounds_toArray, List.set_cons_zero, List.set_cons_succ]
    rfl
  refine run_pure (o := ?_) (v := ?_) (a' := ?_) ?_ ?_ ?_ ?_ ?_
  rotate_left 3
  · (simp only [List.getElem?_toArray, List.getElem?_cons_succ, List.getElem?_cons_zero] <;> rfl)
  · rfl
  · intro w'
    go_simp
    with_reducible rfl
  · simp only [Act.put, List.setIfInBounds_toArray, List.set_cons_zero, List.set_cons_succ]
    rfl
  refine run_read (o := ?_) (v := ?_) (a' := ?_) ?_ ?_ ?_ ?_ (Ext.refl _) ?_
  rotate_left 3
  · (simp only [List.getElem?_toArray, List.getElem?_cons_succ, List.getElem?_cons_zero] <;> rfl)
  · rfl
  · intro w' hw'
    obtain ⟨hc, hf⟩ := ext_cell hw'
    clear hw'
    go_simp
    with_reducible rfl
  · simp only [Act.put, List.setIfInBounds_toArray, List.set_cons_zero, List.set_cons_succ]
    rfl
  refine run_call (f := 81) (args := ?_) (o := ?_) (v := ?_) (a' := ?_) ?_ ?_ ?_ ?_ ?_ (Ext.refl _) ?_
  rotate_left 4
  · (simp only [List.getElem?_toArray, List.getElem?_cons_succ, List.getElem?_cons_zero] <;> rfl)
  · rfl
  · intro w'
    go_simp
    with_reducible rfl
  · intro w' hw'
    exact (HP.out _)
  · simp only [Act.put, List.setIfInBounds_toArray, List.set_cons_zero, List.set_cons_succ]
    rfl
  refine run_pure (o := ?_) (v := ?_) (a' := ?_) ?_ ?_ ?_ ?_ ?_
  rotate_left 3
  · (simp only [List.getElem?_toArray, List.getElem?_cons_succ, List.getElem?_cons_zero] <;> rfl)
  · rfl
  · intro w'
    go_simp
    with_reducible rfl
  · simp only [Act.put, List.setIfInBounds_toArray, List.set_cons_zero, List.set_cons_succ]
    rfl
  refine run_read (o := ?_) (v := ?_) (a' := ?_) ?_ ?_ ?_ ?_ (Ext.refl _) ?_
  rotate_left 3
  · (simp only [List.getElem?_toArray, List.getElem?_cons_succ, List.getElem?_cons_zero] <;> rfl)
  · rfl
  · intro w' hw'
    obtain ⟨hc, hf⟩ := ext_cell hw'
    clear hw'
    go_simp
    with_reducible rfl
  · simp only [Act.put, List.setIfInBounds_toArray, List.set_cons_zero, List.set_cons_succ]
    rfl
  refine run_pure (o := ?_) (v := ?_) (a' := ?_) ?_ ?_ ?_ ?_ ?_
  rotate_left 3
  · (simp only [List.getElem?_toArray, List.getElem?_cons_succ, List.getElem?_cons_zero] <;> rfl)
  · rfl
  · intro w'
    go_simp
    with_reducible rfl
  · simp only [Act.put, List.setIfInBounds_toArray, List.set_cons_zero, List.set_cons_succ]
    rfl
  refine run_read (o := ?_) (v := ?_) (a' := ?_) ?_ ?_ ?_ ?_ (Ext.refl _) ?_
  rotate_left 3
  · (simp only [List.getElem?_toArray, List.getElem?_cons_succ, List.getElem?_cons_zero] <;> rfl)
  · rfl
  · intro w' hw'
    obtain ⟨hc, hf⟩ := ext_cell hw'
    clear hw'
    go_simp
    with_reducible rfl
  · simp only [Act.put, List.setIfInBounds_toArray, List.set_cons_zero, List.set_cons_succ]
    rfl
  refine run_call (f := 81) (args := ?_) (o := ?_) (v := ?_) (a' := ?_) ?_ ?_ ?_ ?_ ?_ (Ext.refl _) ?_
  rotate_left 4
  · (simp only [List.getElem?_toArray, List.getElem?_cons_succ, List.getElem?_cons_zero] <;> rfl)
  · rfl
  · intro w'
    go_simp
    with_reducible rfl
  · intro w' hw'
    exact (HQ.out _)
  · simp only [Act.put, List.setIfInBounds_toArray, List.set_cons_zero, List.set_cons_succ]
    rfl
  refine run_pure (o := ?_) (v := ?_) (a' := ?_) ?_ ?_ ?_ ?_ ?_
  rotate_left 3
  · (simp only [List.getElem?_toArray, List.getElem?_cons_succ, List.getElem?_cons_zero] <;> rfl)
  · rfl
  · intro w'
    go_simp
    with_reducible rfl
  · simp only [Act.put, List.setIfInBounds_toArray, List.set_cons_zero, List.set_cons_succ]
    rfl
  refine run_do (o := ?_) ?_ ?_ (fun d1 hx K hK => ?_)
  rotate_left
  · (simp only [List.getElem?_toArray, List.getElem?_cons_succ, List.getElem?_cons_zero] <;> rfl)
  · rfl
  have hc_d1 := (ext_cell hx).1
  have hf_d1 := (ext_cell hx).2
  have HX_d1 := Lib.hid hx
  have y_d1 := hx.size
  try simp at y_d1
  have z_d1_w_0 : w.heap.size < d1.heap.size := by omega
  have z_d1_w_1 : w.heap.size + 1 < d1.heap.size := by omega
  clear hx
  go_simp
  refine hK _ _ (fun h => absurd h (by decide)) ?_
  clear hK K
  refine run_nil (fun d2 hx => ?_)
  have hc_d2 := (ext_cell hx).1
  have hf_d2 := (ext_cell hx).2
  have HX_d2 := Lib.hid hx
  have y_d2 := hx.size
  try simp at y_d2
  have z_d2_w_0 : w.heap.size < d2.heap.size := by omega
  have z_d2_w_1 : w.heap.size + 1 < d2.heap.size := by omega
  clear hx
  go_wp2
  refine bodyPost_ret (v := ?_) ?_ rfl ⟨?_, ?_⟩
  rotate_left
  · simp only [results, Try.results78]
    go_simp
    with_reducible rfl
  · rfl
  · repeat (first | with_reducible exact Ext.refl _ | with_reducible refine Ext.alloc ?_ _ | (with_reducible refine Ext.setCell ?_ (by simp <;> omega) _) | with_reducible refine Ext.drew ?_ | with_reducible refine Ext.trans ?_ HX_d2.out | with_reducible refine Ext.trans ?_ HX_d1.out)
end Go.Proofs.Ytjjapblpmpidcaa
