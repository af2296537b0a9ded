import Derived.Test.YtjjapblpmpidcaaX2
set_option linter.unusedVariables false
set_option linter.unusedSimpArgs false
namespace Go.Proofs.Ytjjapblpmpidcaa
open Go.RowKit Num UReg

theorem bitsN_bounds (n k : Nat) : ∀ x ∈ bitsN n k, 0 ≤ x ∧ x ≤ 1 := by
  intro x hx
  simp only [bitsN, List.mem_map] at hx
  obtain ⟨i, _, rfl⟩ := hx
  omega
theorem bitsN_get (n k i : Nat) (h : i < k) : (bitsN n k)[i]?.getD 0 = ((n / 2 ^ i % 2 : Nat) : Int) := by
  simp [bitsN, h]
/-- The bits of a number, the lowest one first. -/
def listV (a : V) : List Int := bitsN a.toNat 128
theorem listV_length (a : V) : (listV a).length = 128 := bitsN_length _ _
theorem hi_cast (a : V) : hi a = ((a.toNat / 18446744073709551616 : Nat) : Int) := rfl
theorem lo_cast (a : V) : lo a = ((a.toNat % 18446744073709551616 : Nat) : Int) := rfl
theorem bitsN_two (n k : Nat) : bitsN (n % 2 ^ k) k ++ bitsN (n / 2 ^ k) k = bitsN n (k + k) := by
  unfold bitsN
  rw [List.range_add, List.map_append, List.map_map]
  congr 1
  · apply List.map_congr_left
    intro i hi
    simp only [List.mem_range] at hi
    have e : 2 ^ k = 2 ^ i * 2 ^ (k - i) := by rw [← Nat.pow_add]; congr 1; omega
    have e2 : 2 ^ (k - i) = 2 * 2 ^ (k - i - 1) := by rw [← Nat.pow_succ']; congr 1; omega
    rw [e, Nat.mod_mul_right_div_self, e2, Nat.mod_mul_right_mod]
  · apply List.map_congr_left
    intro i _
    simp only [Function.comp]
    rw [Nat.div_div_eq_div_mul, ← Nat.pow_add]
theorem listV_split (a : V) : bitsN (a.toNat % 18446744073709551616) 64 ++ bitsN (a.toNat / 18446744073709551616) 64 = listV a := bitsN_two a.toNat 64

theorem rList (a : V) (w : World) : Calls Try.prog 73 #[.agg #[.int .u64 (hi a), .int .u64 (lo a)]] w fun e w' =>
    ∃ v, e = .returned v ∧ OwnI w' w.heap.size v (listV a) ∧ Ext w w' := by
  have hl1 : a.toNat % 18446744073709551616 < 18446744073709551616 := Nat.mod_lt _ (by decide)
  have hl2 : a.toNat / 18446744073709551616 < 18446744073709551616 := by have := a.isLt; omega
  have HB1 := Lib.hid (rBits _ hl1)
  have HB2 := Lib.hid (rBits _ hl2)
  rw [hi_cast, lo_cast]
  have E := Lib.hid (listV_split a)
  have HL := Lib.hid (bitsN_length (a.toNat % 18446744073709551616) 64)
  have HL2 := Lib.hid (bitsN_length (a.toNat / 18446744073709551616) 64)
  obtain ⟨n1, hn1⟩ : ∃ n, a.toNat % 18446744073709551616 = n := ⟨_, rfl⟩
  obtain ⟨n2, hn2⟩ : ∃ n, a.toNat / 18446744073709551616 = n := ⟨_, rfl⟩
  rw [hn1, hn2]
  rw [hn1] at HB1 E HL
  rw [hn2] at HB2 E HL2
  clear hl1 hl2 hn1 hn2
  go_enter Try.func73, Try.ntmps73
  try dsimp only
  repeat (first | with_reducible refine wp_region_ext ?_ [(0, 0), (1, 1), (3, 0), (4, 1), (2, 2), (5, 2), (6, 2), (7, 0)] (fun _ => true) ?_ ?_ ?_ ?_ ?_ | go_step)
  · kernel_rfl
  · kernel_rfl
  · kernel_rfl
  · kernel_rfl
  · exact (fun _ _ d _ _ h => by cases d <;> exact h)
  refine run_pure (o := ?_) (v := ?_) (a' := ?_) ?_ ?_ ?_ ?_ ?_
  rotate_left 3
  · (simp only [List.getElem?_toArray, List.getElem?_cons_succ, List.getElem?_cons_zero] <;> rfl)
  · rfl
  · intro w'
    go_simp
    with_reducible rfl
  · simp only [Act.put, List.setIfInBounds_toArray, List.set_cons_zero, List.set_cons_succ]
    rfl
  refine run_read (o := ?_) (v := ?_) (a' := ?_) ?_ ?_ ?_ ?_ (Ext.refl _) ?_
  rotate_left 3
  · (simp only [List.getElem?_toArray, List.getElem?_cons_succ, List.getElem?_cons_zero] <;> rfl)
  · rfl
  · intro w' hw'
    obtain ⟨hc, hf⟩ := ext_cell hw'
    clear hw'
    go_simp
    with_reducible rfl
  · simp only [Act.put, List.setIfInBounds_toArray, List.set_cons_zero, List.set_cons_succ]
    rfl
  refine run_pure (o := ?_) (v := ?_) (a' := ?_) ?_ ?_ ?_ ?_ ?_
  rotate_left 3
  · (simp only [List.getElem?_toArray, List.getElem?_cons_succ, List.getElem?_cons_zero] <;> rfl)
  · rfl
  · intro w'
    go_simp
    with_reducible rfl
  · simp only [Act.put, List.setIfInBounds_toArray, List.set_cons_zero, List.set_cons_succ]
    rfl
  refine run_read (o := ?_) (v := ?_) (a' := ?_) ?_ ?_ ?_ ?_ (Ext.refl _) ?_
  rotate_left 3
  · (simp only [List.getElem?_toArray, List.getElem?_cons_succ, List.getElem?_cons_zero] <;> rfl)
  · rfl
  · intro w' hw'
    obtain ⟨hc, hf⟩ := ext_cell hw'
    clear hw'
    go_simp
    with_reducible rfl
  · simp only [Act.put, List.setIfInBounds_toArray, List.set_cons_zero, List.set_cons_succ]
    rfl
  refine run_callG (f := 90) (args := ?_) (o := ?_) (Φ := fun w2 v w' => OwnI w' w2.heap.size v (bitsN n1 64)) ?_ ?_ ?_ ?_ ?_ (fun d1a v1 d1 hx0 hp1 hx => ?_)
  rotate_left 2
  · (simp only [List.getElem?_toArray, List.getElem?_cons_succ, List.getElem?_cons_zero] <;> rfl)
  · rfl
  · intro w'
    go_simp
    with_reducible rfl
  · intro w2 hx2
    obtain ⟨hc, hf⟩ := ext_cell hx2
    exact HB1.out w2
  · exact fun _ _ h k => h.trans k
  have hz_d1 := hx0.size
  have hy_d1 := hx.size
  try simp at hz_d1
  try simp at hy_d1
  have hx := hx0.trans hx
  clear hx0
  have hc_d1 := (ext_cell hx).1
  have hf_d1 := (ext_cell hx).2
  have HX_d1 := Lib.hid hx
  have y_d1 := hx.size
  try simp at y_d1
  have z_d1_w_0 : w.heap.size < d1.heap.size := by omega
  clear hx
  try simp only [Act.put, List.setIfInBounds_toArray, List.set_cons_zero, List.set_cons_succ]
  refine run_callG (f := 90) (args := ?_) (o := ?_) (Φ := fun w2 v w' => OwnI w' w2.heap.size v (bitsN n2 64)) ?_ ?_ ?_ ?_ ?_ (fun d2a v2 d2 hx0 hp2 hx => ?_)
  rotate_left 2
  · (simp only [List.getElem?_toArray, List.getElem?_cons_succ, List.getElem?_cons_zero] <;> rfl)
  · rfl
  · intro w'
    go_simp
    with_reducible rfl
  · intro w2 hx2
    obtain ⟨hc, hf⟩ := ext_cell hx2
    exact HB2.out w2
  · exact fun _ _ h k => h.trans k
  have hz_d2 := hx0.size
  have hy_d2 := hx.size
  try simp at hz_d2
  try simp at hy_d2
  have hx := hx0.trans hx
  clear hx0
  have hc_d2 := (ext_cell hx).1
  have hf_d2 := (ext_cell hx).2
  have HX_d2 := Lib.hid hx
  have y_d2 := hx.size
  try simp at y_d2
  have z_d2_w_0 : w.heap.size < d2.heap.size := by omega
  clear hx
  try simp only [Act.put, List.setIfInBounds_toArray, List.set_cons_zero, List.set_cons_succ]
  refine run_list (o := ?_) ?_ ?_ (fun d3 hx K hK => ?_)
  rotate_left
  · (simp only [List.getElem?_toArray, List.getElem?_cons_succ, List.getElem?_cons_zero] <;> rfl)
  · rfl
  have hc_d3 := (ext_cell hx).1
  have hf_d3 := (ext_cell hx).2
  have HX_d3 := Lib.hid hx
  have y_d3 := hx.size
  try simp at y_d3
  have z_d3_w_0 : w.heap.size < d3.heap.size := by omega
  clear hx
  have o1 := (hp1.ext HX_d2.out).ext HX_d3.out
  have r2 := (hp2.ext HX_d3.out).reads
  refine wpList_appendI rfl (.tmp 5) (.tmp 8) rfl _ d1a.heap.size v1 v2 _ _ rfl rfl o1 r2 (by rw [HL.out, HL2.out]; omega) (by omega) ?_
  intro v3 d5 hown hX hC hZ
  rw [E.out] at hown
  have X5 := Lib.hid (hX w (by omega) ((((((Ext.refl w).alloc _).trans HX_d1.out).trans HX_d2.out).trans HX_d3.out)))
  refine hK _ _ (fun _ hs => hX _ (by simp; omega) hs) ?_
  clear hK K hX hC
  try simp only [Act.put, List.setIfInBounds_toArray, List.set_cons_zero, List.set_cons_succ]
  refine run_pure (o := ?_) (v := ?_) (a' := ?_) ?_ ?_ ?_ ?_ ?_
  rotate_left 3
  · (simp only [List.getElem?_toArray, List.getElem?_cons_succ, List.getElem?_cons_zero] <;> rfl)
  · rfl
  · intro w'
    go_simp
    with_reducible rfl
  · simp only [Act.put, List.setIfInBounds_toArray, List.set_cons_zero, List.set_cons_succ]
    rfl
  refine run_nil (fun d4 hx => ?_)
  have hc_d4 := (ext_cell hx).1
  have hf_d4 := (ext_cell hx).2
  have HX_d4 := Lib.hid hx
  have y_d4 := hx.size
  try simp at y_d4
  have z_d4_w_0 : w.heap.size < d4.heap.size := by omega
  clear hx
  go_wp2
  go_ret
  exact ⟨_, rfl, (hown.ext HX_d4.out).mono (by omega), X5.out.trans HX_d4.out⟩

/-- The number of a list of bits. -/
def ofBits (xs : List Int) : V := mk (wv xs 64 64 : Nat) (wv xs 0 64 : Nat)
theorem word_wv (xs : List Int) (f : Nat) (hb : ∀ x ∈ xs, 0 ≤ x ∧ x ≤ 1) : Word ((wv xs f 64 : Nat) : Int) := by
  have := wv_lt xs f hb 64
  unfold Word
  omega
theorem rOf (v : Value) (xs : List Int) (w : World) (hr : Reads w .i64 v xs) (hb : ∀ x ∈ xs, 0 ≤ x ∧ x ≤ 1) (hl : xs.length ≤ 1000) :
    Calls Try.prog 83 #[v] w fun e w' => e = .returned (.agg #[.int .u64 (hi (ofBits xs)), .int .u64 (lo (ofBits xs))]) ∧ Ext w w' := by
  have e1 := hi_mk _ _ (word_wv xs 64 hb) (word_wv xs 0 hb)
  have e2 := lo_mk _ _ (word_wv xs 64 hb) (word_wv xs 0 hb)
  rw [show hi (ofBits xs) = _ from e1, show lo (ofBits xs) = _ from e2]
  clear e1 e2
  have H1 := Lib.hid fun w' (x : Ext w w') => rWord v xs 64 w' (hr.ext x) hb hl (by omega)
  have H0 := Lib.hid fun w' (x : Ext w w') => rWord v xs 0 w' (hr.ext x) hb hl (by omega)
  clear hr hb hl
  go_enter Try.func83, Try.ntmps83
  go_wp2_with fail
  refine (H1.out _ ((Ext.refl w).alloc _)).mono ?_
  rintro e w1 ⟨rfl, hx⟩
  have hc_w1 := (ext_cell hx).1
  have hf_w1 := (ext_cell hx).2
  have HX_w1 := Lib.hid hx
  have y_w1 := hx.size
  try simp at y_w1
  have z_w1_w_0 : w.heap.size < w1.heap.size := by omega
  clear hx
  have X1 := Lib.hid (((Ext.refl w).alloc (.cells #[.int .u64 0, .int .u64 0] 59)).trans HX_w1.out)
  go_wp2_with fail
  refine (H0.out _ X1.out).mono ?_
  rintro e w2 ⟨rfl, hx⟩
  have hc_w2 := (ext_cell hx).1
  have hf_w2 := (ext_cell hx).2
  have HX_w2 := Lib.hid hx
  have y_w2 := hx.size
  try simp at y_w2
  have z_w2_w_0 : w.heap.size < w2.heap.size := by omega
  clear hx
  go_wp2
  refine bodyPost_ret (v := ?_) ?_ rfl ⟨?_, ?_⟩
  rotate_left
  · simp only [results, Try.results83]
    go_simp
    with_reducible rfl
  · rfl
  · repeat (first | with_reducible exact Ext.refl _ | with_reducible refine Ext.alloc ?_ _ | (with_reducible refine Ext.setCell ?_ (by simp <;> omega) _) | with_reducible refine Ext.drew ?_ | with_reducible refine Ext.trans ?_ HX_w2.out | with_reducible refine Ext.trans ?_ HX_w1.out)
end Go.Proofs.Ytjjapblpmpidcaa
