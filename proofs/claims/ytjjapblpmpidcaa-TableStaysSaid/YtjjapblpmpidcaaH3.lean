import Derived.Test.YtjjapblpmpidcaaH2
set_option linter.unusedVariables false
set_option linter.unusedSimpArgs false
namespace Go.Proofs.Ytjjapblpmpidcaa
open Go.RowKit Num UReg

/-! ### philox: rounds, keys -/
abbrev Blk := Int × Int × Int × Int
abbrev Ky := Int × Int
def W32 (x : Int) : Prop := 0 ≤ x ∧ x < 4294967296
def xor3 (x y z : Int) : Int := bits BinOp.xor IntKind.u32 (bits BinOp.xor IntKind.u32 x y) z
def rnd (b : Blk) (k : Ky) : Blk :=
  (xor3 (b.2.2.1 * 3449720151 / 4294967296) b.2.1 k.1, b.2.2.1 * 3449720151 % 4294967296, xor3 (b.1 * 3528531795 / 4294967296) b.2.2.2 k.2, b.1 * 3528531795 % 4294967296)
def nextK (k : Ky) : Ky := ((k.1 + 2654435769) % 4294967296, (k.2 + 3144134277) % 4294967296)
theorem xor_nat (x y : Nat) (hx : x < 4294967296) (hy : y < 4294967296) : bits BinOp.xor IntKind.u32 (x : Int) (y : Int) = ((x ^^^ y : Nat) : Int) ∧ x ^^^ y < 4294967296 := by
  have h : x ^^^ y < 2 ^ 32 := Nat.xor_lt_two_pow hx hy
  exact ⟨u32_xor_nat x y hx hy, h⟩
theorem xor_w32 {x y : Int} (hx : W32 x) (hy : W32 y) : W32 (bits BinOp.xor IntKind.u32 x y) := by
  obtain ⟨X, rfl⟩ := Int.eq_ofNat_of_zero_le hx.1
  obtain ⟨Y, rfl⟩ := Int.eq_ofNat_of_zero_le hy.1
  have h := xor_nat X Y (by have := hx.2; omega) (by have := hy.2; omega)
  rw [h.1]
  have := h.2
  unfold W32
  omega
def WB (b : Blk) : Prop := W32 b.1 ∧ W32 b.2.1 ∧ W32 b.2.2.1 ∧ W32 b.2.2.2
def WK (k : Ky) : Prop := W32 k.1 ∧ W32 k.2
theorem w32_mod (x : Int) : W32 (x % 4294967296) := by unfold W32; omega
theorem w32_div {x : Int} (hx : W32 x) (m : Int) (m0 : 0 ≤ m) (m1 : m < 4294967296) : W32 (x * m / 4294967296) := by
  obtain ⟨h0, h1⟩ := hx
  have a : 0 ≤ x * m := Int.mul_nonneg h0 m0
  have b : x * m ≤ 4294967295 * m := Int.mul_le_mul_of_nonneg_right (by omega) m0
  unfold W32
  omega
theorem wb_rnd {b : Blk} {k : Ky} (hb : WB b) (hk : WK k) : WB (rnd b k) :=
  ⟨xor_w32 (xor_w32 (w32_div hb.2.2.1 _ (by decide) (by decide)) hb.2.1) hk.1, w32_mod _, xor_w32 (xor_w32 (w32_div hb.1 _ (by decide) (by decide)) hb.2.2.2) hk.2, w32_mod _⟩
theorem wk_next (k : Ky) : WK (nextK k) := ⟨w32_mod _, w32_mod _⟩
/-- The block and the key behind so many rounds. -/
def mixS (b : Blk) (k : Ky) : Nat → Blk × Ky
  | 0 => (b, k)
  | n + 1 => (rnd (mixS b k n).1 (mixS b k n).2, nextK (mixS b k n).2)
theorem w_mixS {b : Blk} {k : Ky} (hb : WB b) (hk : WK k) : ∀ n, WB (mixS b k n).1 ∧ WK (mixS b k n).2
  | 0 => ⟨hb, hk⟩
  | n + 1 => ⟨wb_rnd (w_mixS hb hk n).1 (w_mixS hb hk n).2, wk_next _⟩
set_option maxHeartbeats 4000000 in
theorem pRound {b0 b1 b2 b3 k0 k1 r0 r1 r2 r3 : Int} (hb0 : 0 ≤ b0 ∧ b0 < 4294967296 ∧ 0 ≤ b2 ∧ b2 < 4294967296) (h : rnd (b0, b1, b2, b3) (k0, k1) = (r0, r1, r2, r3)) (w : World) : Calls Try.prog 97 #[.agg #[.int .u32 b0, .int .u32 b1, .int .u32 b2, .int .u32 b3], .agg #[.int .u32 k0, .int .u32 k1]] w fun e w' => e = .returned (.agg #[.int .u32 r0, .int .u32 r1, .int .u32 r2, .int .u32 r3]) ∧ Ext w w' := by
  obtain ⟨p, hp⟩ : ∃ p, b0 * 3528531795 = p := ⟨_, rfl⟩
  obtain ⟨q, hq⟩ : ∃ q, b2 * 3449720151 = q := ⟨_, rfl⟩
  unfold rnd xor3 at h
  simp only [Prod.mk.injEq] at h
  rw [hp, hq] at h
  obtain ⟨ph, hph⟩ : ∃ t, p / 4294967296 = t := ⟨_, rfl⟩
  obtain ⟨pl, hpl⟩ : ∃ t, p % 4294967296 = t := ⟨_, rfl⟩
  obtain ⟨qh, hqh⟩ : ∃ t, q / 4294967296 = t := ⟨_, rfl⟩
  obtain ⟨ql, hql⟩ : ∃ t, q % 4294967296 = t := ⟨_, rfl⟩
  rw [hph, hpl, hqh, hql] at h
  obtain ⟨h0, h1, h2, h3⟩ := hb0
  have k1' : IntKind.u64.wrap b0 = b0 := IntWalk.u64_in _ (by omega)
  have k2' : IntKind.u64.wrap b2 = b2 := IntWalk.u64_in _ (by omega)
  have k3' : IntKind.u64.wrap (b0 * 3528531795) = p := by rw [hp]; exact IntWalk.u64_in _ (by omega)
  have k4' : IntKind.u64.wrap (b2 * 3449720151) = q := by rw [hq]; exact IntWalk.u64_in _ (by omega)
  have k5' : IntKind.u32.wrap ph = ph := IntWalk.u32_in _ (by omega)
  have k6' : IntKind.u32.wrap qh = qh := IntWalk.u32_in _ (by omega)
  have k7' : IntKind.u32.wrap p = pl := by rw [IntKind.wrap_u32]; exact hpl
  have k8' : IntKind.u32.wrap q = ql := by rw [IntKind.wrap_u32]; exact hql
  have k9' : IntKind.u32.wrap pl = pl := IntWalk.u32_in _ (by omega)
  have k10' : IntKind.u32.wrap ql = ql := IntWalk.u32_in _ (by omega)
  have k11' : p.tdiv 4294967296 = ph := by rw [Int.tdiv_eq_ediv_of_nonneg (by omega)]; exact hph
  have k12' : q.tdiv 4294967296 = qh := by rw [Int.tdiv_eq_ediv_of_nonneg (by omega)]; exact hqh
  have k13' : p.tmod 4294967296 = pl := by rw [Int.tmod_eq_emod_of_nonneg (by omega)]; exact hpl
  have k14' : q.tmod 4294967296 = ql := by rw [Int.tmod_eq_emod_of_nonneg (by omega)]; exact hql
  have k15' : IntKind.u64.wrap ph = ph := IntWalk.u64_in _ (by omega)
  have k16' : IntKind.u64.wrap qh = qh := IntWalk.u64_in _ (by omega)
  have k17' : IntKind.u64.wrap p = p := IntWalk.u64_in _ (by omega)
  have k18' : IntKind.u64.wrap q = q := IntWalk.u64_in _ (by omega)
  have H := Lib.hid h; clear h
  clear h0 h1 h2 h3
  go_enter Try.func97, Try.ntmps97
  try dsimp only
  repeat (first | with_reducible refine wp_region_ext ?_ [(0, 0), (1, 1), (2, 0), (3, 0), (4, 0), (5, 1), (6, 0), (7, 0), (8, 0), (9, 0)] (fun _ => true) ?_ ?_ ?_ ?_ ?_ | go_step)
  · kernel_rfl
  · kernel_rfl
  · kernel_rfl
  · kernel_rfl
  · exact (fun _ _ d _ _ h => by cases d <;> exact h)
  refine run_pure (o := ?_) (v := ?_) (a' := ?_) ?_ ?_ ?_ ?_ ?_
  rotate_left 3
  · (simp only [List.getElem?_toArray, List.getElem?_cons_succ, List.getElem?_cons_zero] <;> rfl)
  · rfl
  · intro w'
    go_simp
    with_reducible rfl
  · simp only [Act.put, List.setIfInBounds_toArray, List.set_cons_zero, List.set_cons_succ]
    rfl
  refine run_read (o := ?_) (v := ?_) (a' := ?_) ?_ ?_ ?_ ?_ (Ext.refl _) ?_
  rotate_left 3
  · (simp only [List.getElem?_toArray, List.getElem?_cons_succ, List.getElem?_cons_zero] <;> rfl)
  · rfl
  · intro w' hw'
    obtain ⟨hc, hf⟩ := ext_cell hw'
    clear hw'
    go_simp
    with_reducible rfl
  · simp only [Act.put, List.setIfInBounds_toArray, List.set_cons_zero, List.set_cons_succ]
    rfl
  refine run_pure (o := ?_) (v := ?_) (a' := ?_) ?_ ?_ ?_ ?_ ?_
  rotate_left 3
  · (simp only [List.getElem?_toArray, List.getElem?_cons_succ, List.getElem?_cons_zero] <;> rfl)
  · rfl
  · intro w'
    go_simp
    with_reducible rfl
  · simp only [Act.put, List.setIfInBounds_toArray, List.set_cons_zero, List.set_cons_succ]
    rfl
  refine run_pure (o := ?_) (v := ?_) (a' := ?_) ?_ ?_ ?_ ?_ ?_
  rotate_left 3
  · (simp only [List.getElem?_toArray, List.getElem?_cons_succ, List.getElem?_cons_zero] <;> rfl)
  · rfl
  · intro w'
    go_simp
    with_reducible rfl
  · simp only [Act.put, List.setIfInBounds_toArray, List.set_cons_zero, List.set_cons_succ]
    rfl
  refine run_pure (o := ?_) (v := ?_) (a' := ?_) ?_ ?_ ?_ ?_ ?_
  rotate_left 3
  · (simp only [List.getElem?_toArray, List.getElem?_cons_succ, List.getElem?_cons_zero] <;> rfl)
  · rfl
  · intro w'
    go_simp
    with_reducible rfl
  · simp only [Act.put, List.setIfInBounds_toArray, List.set_cons_zero, List.set_cons_succ]
    rfl
  refine run_read (o := ?_) (v := ?_) (a' := ?_) ?_ ?_ ?_ ?_ (Ext.refl _) ?_
  rotate_left 3
  · (simp only [List.getElem?_toArray, List.getElem?_cons_succ, List.getElem?_cons_zero] <;> rfl)
  · rfl
  · intro w' hw'
    obtain ⟨hc, hf⟩ := ext_cell hw'
    clear hw'
    go_simp
    with_reducible rfl
  · simp only [Act.put, List.setIfInBounds_toArray, List.set_cons_zero, List.set_cons_succ]
    rfl
  refine run_pure (o := ?_) (v := ?_) (a' := ?_) ?_ ?_ ?_ ?_ ?_
  rotate_left 3
  · (simp only [List.getElem?_toArray, List.getElem?_cons_succ, List.getElem?_cons_zero] <;> rfl)
  · rfl
  · intro w'
    go_simp
    with_reducible rfl
  · simp only [Act.put, List.setIfInBounds_toArray, List.set_cons_zero, List.set_cons_succ]
    rfl
  refine run_pure (o := ?_) (v := ?_) (a' := ?_) ?_ ?_ ?_ ?_ ?_
  rotate_left 3
  · (simp only [List.getElem?_toArray, List.getElem?_cons_succ, List.getElem?_cons_zero] <;> rfl)
  · rfl
  · intro w'
    go_simp
    with_reducible rfl
  · simp only [Act.put, List.setIfInBounds_toArray, List.set_cons_zero, List.set_cons_succ]
    rfl
  refine run_pure (o := ?_) (v := ?_) (a' := ?_) ?_ ?_ ?_ ?_ ?_
  rotate_left 3
  · (simp only [List.getElem?_toArray, List.getElem?_cons_succ, List.getElem?_cons_zero] <;> rfl)
  · rfl
  · intro w'
    go_simp
    with_reducible rfl
  · simp only [Act.put, List.setIfInBounds_toArray, List.set_cons_zero, List.set_cons_succ]
    rfl
  refine run_pure (o := ?_) (v := ?_) (a' := ?_) ?_ ?_ ?_ ?_ ?_
  rotate_left 3
  · (simp only [List.getElem?_toArray, List.getElem?_cons_succ, List.getElem?_cons_zero] <;> rfl)
  · rfl
  · intro w'
    go_simp
    with_reducible rfl
  · simp only [Act.put, List.setIfInBounds_toArray, List.set_cons_zero, List.set_cons_succ]
    rfl
  refine run_nil (fun d1 hx => ?_)
  have hc_d1 := (ext_cell hx).1
  have hf_d1 := (ext_cell hx).2
  have HX_d1 := Lib.hid hx
  have y_d1 := hx.size
  try simp at y_d1
  have z_d1_w_0 : w.heap.size < d1.heap.size := by omega
  have z_d1_w_1 : w.heap.size + 1 < d1.heap.size := by omega
  have z_d1_w_2 : w.heap.size + 2 < d1.heap.size := by omega
  clear hx
  go_wp2
  refine bodyPost_ret (v := ?_) ?_ rfl ⟨?_, ?_⟩
  rotate_left
  · simp only [results, Try.results97]
    go_simp
    with_reducible rfl
  · rw [H.out.1, H.out.2.1, H.out.2.2.1, H.out.2.2.2]
  · repeat (first | with_reducible exact Ext.refl _ | with_reducible refine Ext.alloc ?_ _ | (with_reducible refine Ext.setCell ?_ (by simp <;> omega) _) | with_reducible refine Ext.drew ?_ | with_reducible refine Ext.trans ?_ HX_d1.out)
set_option maxHeartbeats 4000000 in
theorem rRound {b0 b1 b2 b3 k0 k1 r0 r1 r2 r3 : Int} (hb0 : 0 ≤ b0 ∧ b0 < 4294967296 ∧ 0 ≤ b2 ∧ b2 < 4294967296) (h : rnd (b0, b1, b2, b3) (k0, k1) = (r0, r1, r2, r3)) (w : World) : Calls Try.prog 91 #[.agg #[.int .u32 b0, .int .u32 b1, .int .u32 b2, .int .u32 b3], .agg #[.int .u32 k0, .int .u32 k1]] w fun e w' => e = .returned (.agg #[.int .u32 r0, .int .u32 r1, .int .u32 r2, .int .u32 r3]) ∧ Ext w w' := by
  obtain ⟨p, hp⟩ : ∃ p, b0 * 3528531795 = p := ⟨_, rfl⟩
  obtain ⟨q, hq⟩ : ∃ q, b2 * 3449720151 = q := ⟨_, rfl⟩
  unfold rnd xor3 at h
  simp only [Prod.mk.injEq] at h
  rw [hp, hq] at h
  obtain ⟨ph, hph⟩ : ∃ t, p / 4294967296 = t := ⟨_, rfl⟩
  obtain ⟨pl, hpl⟩ : ∃ t, p % 4294967296 = t := ⟨_, rfl⟩
  obtain ⟨qh, hqh⟩ : ∃ t, q / 4294967296 = t := ⟨_, rfl⟩
  obtain ⟨ql, hql⟩ : ∃ t, q % 4294967296 = t := ⟨_, rfl⟩
  rw [hph, hpl, hqh, hql] at h
  obtain ⟨h0, h1, h2, h3⟩ := hb0
  have k1' : IntKind.u64.wrap b0 = b0 := IntWalk.u64_in _ (by omega)
  have k2' : IntKind.u64.wrap b2 = b2 := IntWalk.u64_in _ (by omega)
  have k3' : IntKind.u64.wrap (b0 * 3528531795) = p := by rw [hp]; exact IntWalk.u64_in _ (by omega)
  have k4' : IntKind.u64.wrap (b2 * 3449720151) = q := by rw [hq]; exact IntWalk.u64_in _ (by omega)
  have k5' : IntKind.u32.wrap ph = ph := IntWalk.u32_in _ (by omega)
  have k6' : IntKind.u32.wrap qh = qh := IntWalk.u32_in _ (by omega)
  have k7' : IntKind.u32.wrap p = pl := by rw [IntKind.wrap_u32]; exact hpl
  have k8' : IntKind.u32.wrap q = ql := by rw [IntKind.wrap_u32]; exact hql
  have k9' : IntKind.u32.wrap pl = pl := IntWalk.u32_in _ (by omega)
  have k10' : IntKind.u32.wrap ql = ql := IntWalk.u32_in _ (by omega)
  have k11' : p.tdiv 4294967296 = ph := by rw [Int.tdiv_eq_ediv_of_nonneg (by omega)]; exact hph
  have k12' : q.tdiv 4294967296 = qh := by rw [Int.tdiv_eq_ediv_of_nonneg (by omega)]; exact hqh
  have k13' : p.tmod 4294967296 = pl := by rw [Int.tmod_eq_emod_of_nonneg (by omega)]; exact hpl
  have k14' : q.tmod 4294967296 = ql := by rw [Int.tmod_eq_emod_of_nonneg (by omega)]; exact hql
  have k15' : IntKind.u64.wrap ph = ph := IntWalk.u64_in _ (by omega)
  have k16' : IntKind.u64.wrap qh = qh := IntWalk.u64_in _ (by omega)
  have k17' : IntKind.u64.wrap p = p := IntWalk.u64_in _ (by omega)
  have k18' : IntKind.u64.wrap q = q := IntWalk.u64_in _ (by omega)
  have H := Lib.hid h; clear h
  clear h0 h1 h2 h3
  go_enter Try.func91, Try.ntmps91
  go_wp2
  refine bodyPost_ret (v := ?_) ?_ rfl ⟨?_, ?_⟩
  rotate_left
  · simp only [results, Try.results91]
    go_simp
    with_reducible rfl
  · rw [H.out.1, H.out.2.1, H.out.2.2.1, H.out.2.2.2]
  · repeat (first | with_reducible exact Ext.refl _ | with_reducible refine Ext.alloc ?_ _ | (with_reducible refine Ext.setCell ?_ (by simp <;> omega) _) | with_reducible refine Ext.drew ?_)
set_option maxHeartbeats 1000000 in
theorem pNext {k0 k1 j0 j1 : Int} (h : nextK (k0, k1) = (j0, j1)) (w : World) : Calls Try.prog 100 #[.agg #[.int .u32 k0, .int .u32 k1]] w fun e w' => e = .returned (.agg #[.int .u32 j0, .int .u32 j1]) ∧ Ext w w' := by
  unfold nextK at h
  simp only [Prod.mk.injEq] at h
  have e1 : IntKind.u32.wrap (k0 + 2654435769) = j0 := by rw [IntKind.wrap_u32]; exact h.1
  have e2 : IntKind.u32.wrap (k1 + 3144134277) = j1 := by rw [IntKind.wrap_u32]; exact h.2
  clear h
  go_enter Try.func100, Try.ntmps100
  go_wp2
  refine bodyPost_ret (v := ?_) ?_ rfl ⟨?_, ?_⟩
  rotate_left
  · simp only [results, Try.results100]
    go_simp
    with_reducible rfl
  · rfl
  · repeat (first | with_reducible exact Ext.refl _ | with_reducible refine Ext.alloc ?_ _ | (with_reducible refine Ext.setCell ?_ (by simp <;> omega) _) | with_reducible refine Ext.drew ?_)
set_option maxHeartbeats 1000000 in
theorem rNext {k0 k1 j0 j1 : Int} (h : nextK (k0, k1) = (j0, j1)) (w : World) : Calls Try.prog 92 #[.agg #[.int .u32 k0, .int .u32 k1]] w fun e w' => e = .returned (.agg #[.int .u32 j0, .int .u32 j1]) ∧ Ext w w' := by
  unfold nextK at h
  simp only [Prod.mk.injEq] at h
  have e1 : IntKind.u32.wrap (k0 + 2654435769) = j0 := by rw [IntKind.wrap_u32]; exact h.1
  have e2 : IntKind.u32.wrap (k1 + 3144134277) = j1 := by rw [IntKind.wrap_u32]; exact h.2
  clear h
  go_enter Try.func92, Try.ntmps92
  go_wp2
  refine bodyPost_ret (v := ?_) ?_ rfl ⟨?_, ?_⟩
  rotate_left
  · simp only [results, Try.results92]
    go_simp
    with_reducible rfl
  · rfl
  · repeat (first | with_reducible exact Ext.refl _ | with_reducible refine Ext.alloc ?_ _ | (with_reducible refine Ext.setCell ?_ (by simp <;> omega) _) | with_reducible refine Ext.drew ?_)
end Go.Proofs.Ytjjapblpmpidcaa
