import Derived.Test.YtjjapblpmpidcaaX4
set_option linter.unusedVariables false
set_option linter.unusedSimpArgs false
namespace Go.Proofs.Ytjjapblpmpidcaa
open Go.RowKit Num UReg

def c4 (x : Nat → Int) : List Value := [.int .u64 (x 0), .int .u64 (x 1), .int .u64 (x 2), .int .u64 (x 3)]
def upd (x : Nat → Int) (i : Nat) (v : Int) : Nat → Int := fun k => if k = i then v else x k
theorem c4_get {w : World} {b : Nat} {x : Nat → Int} (h : Cells w b (c4 x)) (i : Nat) (hi : i < 4) : w.cell? ⟨b, i, none⟩ = some (.int .u64 (x i)) ∧ w.frozen? ⟨b, i, none⟩ = false := by
  obtain ⟨a, c, d, e, f, g, k, l⟩ := h.four
  have : i = 0 ∨ i = 1 ∨ i = 2 ∨ i = 3 := by omega
  rcases this with rfl | rfl | rfl | rfl
  · exact ⟨a, f⟩
  · exact ⟨c, g⟩
  · exact ⟨d, k⟩
  · exact ⟨e, l⟩
theorem c4_set {w : World} {b : Nat} {x : Nat → Int} (h : Cells w b (c4 x)) (i : Nat) (hi : i < 4) (v : Int) : Cells (w.setCell ⟨b, i, none⟩ (.int .u64 v)) b (c4 (upd x i v)) := by
  have h1 := h.set i (.int .u64 v)
  have : i = 0 ∨ i = 1 ∨ i = 2 ∨ i = 3 := by omega
  rcases this with rfl | rfl | rfl | rfl <;> exact h1
theorem c4_four {w : World} {b : Nat} {x : Nat → Int} (h : Cells w b (c4 x)) :
    w.cell? ⟨b, 0, none⟩ = some (.int .u64 (x 0)) ∧ w.cell? ⟨b, 1, none⟩ = some (.int .u64 (x 1)) ∧ w.cell? ⟨b, 2, none⟩ = some (.int .u64 (x 2)) ∧ w.cell? ⟨b, 3, none⟩ = some (.int .u64 (x 3)) ∧
    w.frozen? ⟨b, 0, none⟩ = false ∧ w.frozen? ⟨b, 1, none⟩ = false ∧ w.frozen? ⟨b, 2, none⟩ = false ∧ w.frozen? ⟨b, 3, none⟩ = false := h.four
theorem upd_dig {x : Nat → Int} (h : Dig x) (i : Nat) (v : Int) (hv : 0 ≤ v ∧ v < 4294967296) : Dig (upd x i v) := by
  intro k
  unfold upd
  split
  · exact hv
  · exact h k

def addTo (a b : V) (k : Nat) : Nat → Int := fun j => if j < k then dg (a + b) j else dg a j
theorem addTo_0 (a b : V) : addTo a b 0 = dg a := by funext j; simp [addTo]
theorem addTo_succ (a b : V) (k : Nat) : upd (addTo a b k) k (dg (a + b) k) = addTo a b (k + 1) := by
  funext j
  unfold upd addTo
  by_cases h : j = k
  · subst h; simp
  · rw [if_neg h]
    by_cases h2 : j < k
    · rw [if_pos h2, if_pos (by omega)]
    · rw [if_neg h2, if_neg (by omega)]
theorem addTo_self (a b : V) (k : Nat) : addTo a b k k = dg a k := by simp [addTo]
theorem addTo_4 (a b : V) : c4 (addTo a b 4) = c4 (dg (a + b)) := by simp [c4, addTo]

theorem rWholeV (a : V) (w : World) : Calls Try.prog 89 #[.agg #[.int .u64 (dg a 0), .int .u64 (dg a 1), .int .u64 (dg a 2), .int .u64 (dg a 3)]] w fun e w' => e = .returned (.agg #[.int .u64 (hi a), .int .u64 (lo a)]) ∧ Ext w w' := by
  have h := rWhole (dg a) (dig_dg a) w
  rwa [whole_dg] at h
set_option maxHeartbeats 2000000 in
theorem rAdd (a b : V) (w : World) : Calls Try.prog 68 #[.agg #[.int .u64 (hi a), .int .u64 (lo a)], .agg #[.int .u64 (hi b), .int .u64 (lo b)]] w fun e w' =>
    e = .returned (.tuple #[.agg #[.int .u64 (hi (a + b)), .int .u64 (lo (a + b))], .bool (over a b)]) ∧ Ext w w' := by
  go_enter Try.func68, Try.ntmps68
  go_wp2_with fail
  refine (rDigits _ _).mono ?_
  rintro e w1 ⟨rfl, hx⟩
  have hc_w1 := (ext_cell hx).1
  have hf_w1 := (ext_cell hx).2
  have HX_w1 := Lib.hid hx
  have y_w1 := hx.size
  try simp at y_w1
  have z_w1_w_0 : w.heap.size < w1.heap.size := by omega
  have z_w1_w_1 : w.heap.size + 1 < w1.heap.size := by omega
  have z_w1_w_2 : w.heap.size + 2 < w1.heap.size := by omega
  clear hx
  go_wp2_with fail
  refine (rDigits _ _).mono ?_
  rintro e w2 ⟨rfl, hx⟩
  have hc_w2 := (ext_cell hx).1
  have hf_w2 := (ext_cell hx).2
  have HX_w2 := Lib.hid hx
  have y_w2 := hx.size
  try simp at y_w2
  have z_w2_w_0 : w.heap.size < w2.heap.size := by omega
  have z_w2_w_1 : w.heap.size + 1 < w2.heap.size := by omega
  have z_w2_w_2 : w.heap.size + 2 < w2.heap.size := by omega
  have z_w2_w1_0 : w1.heap.size < w2.heap.size := by omega
  clear hx
  go_wp2_with fail
  go_loopw [8, 9, 10] (fun c j n wr => ∃ k : Nat, k ≤ 4 ∧ j = .int .i64 k ∧ c = .int .u64 (cr a b k) ∧ Ext w wr ∧ w2.heap.size < wr.heap.size
      ∧ Cells wr w1.heap.size (c4 (addTo a b k)) ∧ Cells wr w2.heap.size (c4 (dg b)) ∧ Cells wr (w.heap.size + 1 + 1) [.int .u64 0, .int .u64 0])
    (fun _ j _ _ => 4 - (intOf j).toNat)
  case atStart =>
    refine ⟨0, by omega, rfl, by rw [cr_0], ?_, by simp, ?_, ?_, ?_⟩
    · repeat (first | with_reducible exact Ext.refl _ | with_reducible refine Ext.alloc ?_ _ | (with_reducible refine Ext.setCell ?_ (by simp <;> omega) _) | with_reducible refine Ext.drew ?_ | with_reducible refine Ext.trans ?_ HX_w2.out | with_reducible refine Ext.trans ?_ HX_w1.out)
    · rw [addTo_0]
      exact Cells.mk4 (by go_simp <;> rfl) (by go_simp <;> rfl) (by go_simp <;> rfl) (by go_simp <;> rfl) (by go_simp) (by go_simp) (by go_simp) (by go_simp)
    · exact Cells.mk4 (by go_simp <;> rfl) (by go_simp <;> rfl) (by go_simp <;> rfl) (by go_simp <;> rfl) (by go_simp) (by go_simp) (by go_simp) (by go_simp)
    · exact Cells.mk2 (by go_simp <;> rfl) (by go_simp <;> rfl) (by go_simp) (by go_simp)
  case round =>
    obtain ⟨k, hk, rfl, rfl, HX, z1, hs, hb, hr⟩ := hrel
    have HX_r := Lib.hid HX; clear HX
    have z0 : w1.heap.size < wr.heap.size := by omega
    have zr : w.heap.size + 1 + 1 < wr.heap.size := by omega
    clear hc_w1 hf_w1 hc_w2 hf_w2 HX_w1 HX_w2
    by_cases hlt : k < 4
    · obtain ⟨s0, sf0⟩ := c4_get hs k hlt
      obtain ⟨b0, bf0⟩ := c4_get hb k hlt
      rw [addTo_self] at s0
      have e1 := (add_step a b k hlt).1
      have e2 := (add_step a b k hlt).2
      have g1 := dg_bounds a k
      have g2 := dg_bounds b k
      have g3 := cr_bounds a b k
      have g4 := dg_bounds (a + b) k
      have g5 := cr_bounds a b (k + 1)
      obtain ⟨x, hx⟩ : ∃ x, dg a k = x := ⟨_, rfl⟩
      obtain ⟨y, hy⟩ : ∃ x, dg b k = x := ⟨_, rfl⟩
      obtain ⟨c, hc⟩ : ∃ x, cr a b k = x := ⟨_, rfl⟩
      obtain ⟨s, hss⟩ : ∃ x, dg (a + b) k = x := ⟨_, rfl⟩
      obtain ⟨d, hd⟩ : ∃ x, cr a b (k + 1) = x := ⟨_, rfl⟩
      rw [hx] at s0 e1 e2 g1
      rw [hy] at b0 e1 e2 g2
      rw [hc] at e1 e2 g3 ⊢
      rw [hss] at e1 g4
      rw [hd] at e2 g5
      have k1 : IntKind.u64.wrap (x + y) = x + y := IntWalk.u64_in _ (by omega)
      have k2 : IntKind.u64.wrap (x + y + c) = x + y + c := IntWalk.u64_in _ (by omega)
      have k3 : (x + y + c).tmod 4294967296 = s := by rw [Int.tmod_eq_emod_of_nonneg (by omega)]; exact e1
      have k4 : (x + y + c).tdiv 4294967296 = d := by rw [Int.tdiv_eq_ediv_of_nonneg (by omega)]; exact e2
      have k5 : IntKind.u64.wrap d = d := IntWalk.u64_in _ (by omega)
      have HS := Lib.hid hss; clear hss
      have HD := Lib.hid hd; clear hd
      clear hx hy hc g1 g2 g3 g4 g5
      go_wp2_with fail
      try dsimp only
      repeat (first | with_reducible refine wp_region_ext ?_ [(0, 0), (1, 0), (2, 1), (3, 0), (4, 0), (5, 1), (6, 0), (7, 0), (8, 0), (9, 0)] (fun _ => true) ?_ ?_ ?_ ?_ ?_ | go_step)
      · kernel_rfl
      · kernel_rfl
      · kernel_rfl
      · kernel_rfl
      · exact (fun _ _ d _ _ h => by cases d <;> exact h)
      refine run_pure (o := ?_) (v := ?_) (a' := ?_) ?_ ?_ ?_ ?_ ?_
      rotate_left 3
      · (simp only [List.getElem?_toArray, List.getElem?_cons_succ, List.getElem?_cons_zero] <;> rfl)
      · rfl
      · intro w'
        go_simp
        with_reducible rfl
      · simp only [Act.put, List.setIfInBounds_toArray, List.set_cons_zero, List.set_cons_succ]
        rfl
      refine run_pure (o := ?_) (v := ?_) (a' := ?_) ?_ ?_ ?_ ?_ ?_
      rotate_left 3
      · (simp only [List.getElem?_toArray, List.getElem?_cons_succ, List.getElem?_cons_zero] <;> rfl)
      · rfl
      · intro w'
        go_simp
        with_reducible rfl
      · simp only [Act.put, List.setIfInBounds_toArray, List.set_cons_zero, List.set_cons_succ]
        rfl
      refine run_read (o := ?_) (v := ?_) (a' := ?_) ?_ ?_ ?_ ?_ (Ext.refl _) ?_
      rotate_left 3
      · (simp only [List.getElem?_toArray, List.getElem?_cons_succ, List.getElem?_cons_zero] <;> rfl)
      · rfl
      · intro w' hw'
        obtain ⟨hc, hf⟩ := ext_cell hw'
        clear hw'
        go_simp
        with_reducible rfl
      · simp only [Act.put, List.setIfInBounds_toArray, List.set_cons_zero, List.set_cons_succ]
        rfl
      refine run_pure (o := ?_) (v := ?_) (a' := ?_) ?_ ?_ ?_ ?_ ?_
      rotate_left 3
      · (simp only [List.getElem?_toArray, List.getElem?_cons_succ, List.getElem?_cons_zero] <;> rfl)
      · rfl
      · intro w'
        go_simp
        with_reducible rfl
      · simp only [Act.put, List.setIfInBounds_toArray, List.set_cons_zero, List.set_cons_succ]
        rfl
      refine run_pure (o := ?_) (v := ?_) (a' := ?_) ?_ ?_ ?_ ?_ ?_
      rotate_left 3
      · (simp only [List.getElem?_toArray, List.getElem?_cons_succ, List.getElem?_cons_zero] <;> rfl)
      · rfl
      · intro w'
        go_simp
        with_reducible rfl
      · simp only [Act.put, List.setIfInBounds_toArray, List.set_cons_zero, List.set_cons_succ]
        rfl
      refine run_read (o := ?_) (v := ?_) (a' := ?_) ?_ ?_ ?_ ?_ (Ext.refl _) ?_
      rotate_left 3
      · (simp only [List.getElem?_toArray, List.getElem?_cons_succ, List.getElem?_cons_zero] <;> rfl)
      · rfl
      · intro w' hw'
        obtain ⟨hc, hf⟩ := ext_cell hw'
        clear hw'
        go_simp
        with_reducible rfl
      · simp only [Act.put, List.setIfInBounds_toArray, List.set_cons_zero, List.set_cons_succ]
        rfl
      refine run_pure (o := ?_) (v := ?_) (a' := ?_) ?_ ?_ ?_ ?_ ?_
      rotate_left 3
      · (simp only [List.getElem?_toArray, List.getElem?_cons_succ, List.getElem?_cons_zero] <;> rfl)
      · rfl
      · intro w'
        go_simp
        with_reducible rfl
      · simp only [Act.put, List.setIfInBounds_toArray, List.set_cons_zero, List.set_cons_succ]
        rfl
      refine run_pure (o := ?_) (v := ?_) (a' := ?_) ?_ ?_ ?_ ?_ ?_
      rotate_left 3
      · (simp only [List.getElem?_toArray, List.getElem?_cons_succ, List.getElem?_cons_zero] <;> rfl)
      · rfl
      · intro w'
        go_simp
        with_reducible rfl
      · simp only [Act.put, List.setIfInBounds_toArray, List.set_cons_zero, List.set_cons_succ]
        rfl
      refine run_pure (o := ?_) (v := ?_) (a' := ?_) ?_ ?_ ?_ ?_ ?_
      rotate_left 3
      · (simp only [List.getElem?_toArray, List.getElem?_cons_succ, List.getElem?_cons_zero] <;> rfl)
      · rfl
      · intro w'
        go_simp
        with_reducible rfl
      · simp only [Act.put, List.setIfInBounds_toArray, List.set_cons_zero, List.set_cons_succ]
        rfl
      refine run_pure (o := ?_) (v := ?_) (a' := ?_) ?_ ?_ ?_ ?_ ?_
      rotate_left 3
      · (simp only [List.getElem?_toArray, List.getElem?_cons_succ, List.getElem?_cons_zero] <;> rfl)
      · rfl
      · intro w'
        go_simp
        with_reducible rfl
      · simp only [Act.put, List.setIfInBounds_toArray, List.set_cons_zero, List.set_cons_succ]
        rfl
      refine run_nil (fun a1 hx => ?_)
      have hc_a1 := (ext_cell hx).1
      have hf_a1 := (ext_cell hx).2
      have HX_a1 := Lib.hid hx
      have y_a1 := hx.size
      try simp at y_a1
      have z_a1_w_0 : w.heap.size < a1.heap.size := by omega
      have z_a1_w_1 : w.heap.size + 1 < a1.heap.size := by omega
      have z_a1_w_2 : w.heap.size + 2 < a1.heap.size := by omega
      clear hx
      go_wp2_with fail
      go_roundw
      case rel =>
        refine ⟨k + 1, by omega, by simp, by rw [HD.out], (HX_r.out.trans HX_a1.out).setCell (by simp; omega) _, by simp; omega, ?_, ?_, ?_⟩
        · rw [← addTo_succ, HS.out]
          exact c4_set (hs.ext HX_a1.out) k hlt s
        · exact (hb.ext HX_a1.out).other (by omega) _ _
        · exact (hr.ext HX_a1.out).other (by omega) _ _
      case measure => simp [intOf]; omega
    · have e : k = 4 := by omega
      subst e
      rw [addTo_4] at hs
      obtain ⟨s0, s1, s2, s3, sf0, sf1, sf2, sf3⟩ := c4_four hs
      obtain ⟨r0, r1, rf0, rf1⟩ := hr.two
      have t1 := cr_over a b
      have t2 : (cr a b 4 == 1) = over a b := by rw [← t1]; rfl
      clear hs hb hr
      go_wp2_with fail
      refine (rWholeV (a + b) _).mono ?_
      rintro e w4 ⟨rfl, hx⟩
      have hc_w4 := (ext_cell hx).1
      have hf_w4 := (ext_cell hx).2
      have HX_w4 := Lib.hid hx
      have y_w4 := hx.size
      try simp at y_w4
      have z_w4_w_0 : w.heap.size < w4.heap.size := by omega
      have z_w4_w_1 : w.heap.size + 1 < w4.heap.size := by omega
      have z_w4_w_2 : w.heap.size + 2 < w4.heap.size := by omega
      clear hx
      go_wp2
      refine bodyPost_ret (v := ?_) ?_ rfl ⟨?_, ?_⟩
      rotate_left
      · simp only [results, Try.results68]
        go_simp
        with_reducible rfl
      · rfl
      · repeat (first | exact HX_r.out | (refine Ext.setCell ?_ (by simp <;> omega) _) | refine Ext.trans ?_ HX_w4.out)
end Go.Proofs.Ytjjapblpmpidcaa
