import Derived.Test.YtjjapblpmpidcaaH6
set_option linter.unusedVariables false
set_option linter.unusedSimpArgs false
namespace Go.Proofs.Ytjjapblpmpidcaa
open Go.RowKit Num UReg

/-! ### half: blocks and words -/
set_option maxHeartbeats 1000000 in
theorem pOut (b : Blk) (k : Ky) (hb : WB b) (hk : WK k) {r0 r1 r2 r3 : Int} (h : (mixS b k 10).1 = (r0, r1, r2, r3)) (w : World) :
    Calls Try.prog 80 #[.agg #[.int .u32 b.1, .int .u32 b.2.1, .int .u32 b.2.2.1, .int .u32 b.2.2.2], .agg #[.int .u32 k.1, .int .u32 k.2]] w fun e w' => e = .returned (.agg #[.int .u32 r0, .int .u32 r1, .int .u32 r2, .int .u32 r3]) ∧ Ext w w' := by
  have HM := Lib.hid (pMix b k hb hk 10 (by decide) (by decide) r0 r1 r2 r3 h)
  clear hb hk h
  obtain ⟨b0, b1, b2, b3⟩ := b
  obtain ⟨k0, k1⟩ := k
  go_enter Try.func80, Try.ntmps80
  go_wp2_with fail
  refine (HM.out _).mono ?_
  rintro e w1 ⟨rfl, hx⟩
  have hc_w1 := (ext_cell hx).1
  have hf_w1 := (ext_cell hx).2
  have HX_w1 := Lib.hid hx
  have y_w1 := hx.size
  try simp at y_w1
  have z_w1_w_0 : w.heap.size < w1.heap.size := by omega
  have z_w1_w_1 : w.heap.size + 1 < w1.heap.size := by omega
  have z_w1_w_2 : w.heap.size + 2 < w1.heap.size := by omega
  clear hx
  go_wp2
  refine bodyPost_ret (v := ?_) ?_ rfl ⟨?_, ?_⟩
  rotate_left
  · simp only [results, Try.results80]
    go_simp
    with_reducible rfl
  · rfl
  · repeat (first | with_reducible exact Ext.refl _ | with_reducible refine Ext.alloc ?_ _ | (with_reducible refine Ext.setCell ?_ (by simp <;> omega) _) | with_reducible refine Ext.drew ?_ | with_reducible refine Ext.trans ?_ HX_w1.out)
def blockV (c : V) : Blk := (dg c 0, dg c 1, dg c 2, dg c 3)
theorem wb_block (c : V) : WB (blockV c) := ⟨dg_bounds c 0, dg_bounds c 1, dg_bounds c 2, dg_bounds c 3⟩
set_option maxHeartbeats 1000000 in
theorem hBlock {c : V} {b0 b1 b2 b3 : Int} (h : blockV c = (b0, b1, b2, b3)) (w : World) : Calls Try.prog 55 #[.agg #[.int .u64 (hi c), .int .u64 (lo c)]] w fun e w' => e = .returned (.agg #[.int .u32 b0, .int .u32 b1, .int .u32 b2, .int .u32 b3]) ∧ Ext w w' := by
  unfold blockV at h
  simp only [Prod.mk.injEq] at h
  rw [← dg0, ← dg1, ← dg2, ← dg3] at h
  obtain ⟨a0, a1⟩ := word_hi c
  obtain ⟨c0, c1⟩ := word_lo c
  obtain ⟨H, hH⟩ : ∃ x, hi c = x := ⟨_, rfl⟩
  obtain ⟨L, hL⟩ : ∃ x, lo c = x := ⟨_, rfl⟩
  rw [hH] at a0 a1 h ⊢
  rw [hL] at c0 c1 h ⊢
  clear hH hL
  obtain ⟨h0, h1, h2, h3⟩ := h
  have e0 : IntKind.u32.wrap L = b0 := by rw [IntKind.wrap_u32]; exact h0
  have e1 : IntKind.u32.wrap (L / 4294967296) = b1 := by rw [IntKind.wrap_u32]; omega
  have e2 : IntKind.u32.wrap H = b2 := by rw [IntKind.wrap_u32]; exact h2
  have e3 : IntKind.u32.wrap (H / 4294967296) = b3 := by rw [IntKind.wrap_u32]; omega
  clear h0 h1 h2 h3
  go_enter Try.func55, Try.ntmps55
  go_wp2
  refine bodyPost_ret (v := ?_) ?_ rfl ⟨?_, ?_⟩
  rotate_left
  · simp only [results, Try.results55]
    go_simp
    with_reducible rfl
  · rfl
  · repeat (first | with_reducible exact Ext.refl _ | with_reducible refine Ext.alloc ?_ _ | (with_reducible refine Ext.setCell ?_ (by simp <;> omega) _) | with_reducible refine Ext.drew ?_)
theorem or_pair (x y : Int) (hx : W32 x) (hy : W32 y) : bits BinOp.or IntKind.u64 x (y * 4294967296) = x + 4294967296 * y := by
  obtain ⟨X, rfl⟩ := Int.eq_ofNat_of_zero_le hx.1
  obtain ⟨Y, rfl⟩ := Int.eq_ofNat_of_zero_le hy.1
  have h1 := hx.2
  have h2 := hy.2
  have e : (Y : Int) * 4294967296 = ((Y * 4294967296 : Nat) : Int) := by omega
  rw [e, u64_or_nat _ _ (by omega) (by omega)]
  have h3 := Nat.two_pow_add_eq_or_of_lt (i := 32) (b := X) (by omega) Y
  rw [Nat.or_comm, show Y * 4294967296 = 2 ^ 32 * Y from by omega, ← h3]
  omega
theorem hPair {x y p : Int} (hx : W32 x) (hy : W32 y) (h : x + 4294967296 * y = p) (w : World) : Calls Try.prog 81 #[.int .u32 x, .int .u32 y] w fun e w' => e = .returned (.int .u64 p) ∧ Ext w w' := by
  have ho := or_pair x y hx hy
  obtain ⟨x0, x1⟩ := hx
  obtain ⟨y0, y1⟩ := hy
  rw [h] at ho
  have e1 : IntKind.u64.wrap x = x := IntWalk.u64_in _ (by omega)
  have e2 : IntKind.u64.wrap y = y := IntWalk.u64_in _ (by omega)
  have e3 : IntKind.u64.wrap (y * 4294967296) = y * 4294967296 := IntWalk.u64_in _ (by omega)
  clear h x0 x1 y0 y1
  go_enter Try.func81, Try.ntmps81
  go_wp2
  go_ret
  exact ⟨rfl, Ext.refl _⟩
/-- A state's word. -/
def wordH (c : V) (k : Ky) (b : Bool) : Int :=
  let o := (mixS (blockV c) k 10).1
  if b then o.2.2.1 + 4294967296 * o.2.2.2 else o.1 + 4294967296 * o.2.1
end Go.Proofs.Ytjjapblpmpidcaa
