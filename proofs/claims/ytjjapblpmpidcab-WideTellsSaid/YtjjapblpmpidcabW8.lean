import Derived.Test.YtjjapblpmpidcabW7
import Derived.Test.YtjjapblpmpidcabSl
import Derived.OwnWalk
import Derived.Laws.AppendOwn
set_option linter.unusedVariables false
set_option linter.unusedSimpArgs false
namespace Go.Proofs.Ytjjapblpmpidcab
open Go.RowKit Num UReg

/-! ### math/bits.Div64 by ten -/
theorem wDiv10_zero (l : Int) (hl : Word l) (w : World) : Calls Try.prog 74 #[.int .u64 0, .int .u64 l, .int .u64 10] w fun e w' =>
    e = .returned (.tuple #[.int .u64 (l / 10), .int .u64 (l % 10)]) ∧ Ext w w' := by
  obtain ⟨l0, l1⟩ := hl
  have E2 : l.tmod 10 = l % 10 := Int.tmod_eq_emod_of_nonneg l0
  have E1 : IntKind.u64.wrap (l.tdiv 10) = l / 10 := by rw [Int.tdiv_eq_ediv_of_nonneg l0, IntKind.wrap_u64]; omega
  go_enter Try.func74, Try.ntmps74
  go_wp2_with fail
  try dsimp only
  repeat (first | with_reducible refine wp_region_ext ?_ [(0, 0), (1, 0), (2, 0), (3, 0), (4, 0), (5, 0), (6, 0), (7, 0)] (fun _ => true) ?_ ?_ ?_ ?_ ?_ | go_step)
  · kernel_rfl
  · kernel_rfl
  · kernel_rfl
  · kernel_rfl
  · exact (fun _ _ d _ _ h => by cases d <;> exact h)
  refine run_pure (o := ?_) (v := ?_) (a' := ?_) ?_ ?_ ?_ ?_ ?_
  rotate_left 3
  · (simp only [List.getElem?_toArray, List.getElem?_cons_succ, List.getElem?_cons_zero] <;> rfl)
  · rfl
  · intro w'
    go_simp
    with_reducible rfl
  · simp only [Act.put, List.setIfInBounds_toArray, List.set_cons_zero, List.set_cons_succ]
    rfl
  refine run_pure (o := ?_) (v := ?_) (a' := ?_) ?_ ?_ ?_ ?_ ?_
  rotate_left 3
  · (simp only [List.getElem?_toArray, List.getElem?_cons_succ, List.getElem?_cons_zero] <;> rfl)
  · rfl
  · intro w'
    go_simp
    with_reducible rfl
  · simp only [Act.put, List.setIfInBounds_toArray, List.set_cons_zero, List.set_cons_succ]
    rfl
  refine run_pure (o := ?_) (v := ?_) (a' := ?_) ?_ ?_ ?_ ?_ ?_
  rotate_left 3
  · (simp only [List.getElem?_toArray, List.getElem?_cons_succ, List.getElem?_cons_zero] <;> rfl)
  · rfl
  · intro w'
    go_simp
    with_reducible rfl
  · simp only [Act.put, List.setIfInBounds_toArray, List.set_cons_zero, List.set_cons_succ]
    rfl
  refine run_pure (o := ?_) (v := ?_) (a' := ?_) ?_ ?_ ?_ ?_ ?_
  rotate_left 3
  · (simp only [List.getElem?_toArray, List.getElem?_cons_succ, List.getElem?_cons_zero] <;> rfl)
  · rfl
  · intro w'
    go_simp
    with_reducible rfl
  · simp only [Act.put, List.setIfInBounds_toArray, List.set_cons_zero, List.set_cons_succ]
    rfl
  refine run_pure (o := ?_) (v := ?_) (a' := ?_) ?_ ?_ ?_ ?_ ?_
  rotate_left 3
  · (simp only [List.getElem?_toArray, List.getElem?_cons_succ, List.getElem?_cons_zero] <;> rfl)
  · rfl
  · intro w'
    go_simp
    with_reducible rfl
  · simp only [Act.put, List.setIfInBounds_toArray, List.set_cons_zero, List.set_cons_succ]
    rfl
  refine run_pure (o := ?_) (v := ?_) (a' := ?_) ?_ ?_ ?_ ?_ ?_
  rotate_left 3
  · (simp only [List.getElem?_toArray, List.getElem?_cons_succ, List.getElem?_cons_zero] <;> rfl)
  · rfl
  · intro w'
    go_simp
    with_reducible rfl
  · simp only [Act.put, List.setIfInBounds_toArray, List.set_cons_zero, List.set_cons_succ]
    rfl
  refine run_pure (o := ?_) (v := ?_) (a' := ?_) ?_ ?_ ?_ ?_ ?_
  rotate_left 3
  · (simp only [List.getElem?_toArray, List.getElem?_cons_succ, List.getElem?_cons_zero] <;> rfl)
  · rfl
  · intro w'
    go_simp
    with_reducible rfl
  · simp only [Act.put, List.setIfInBounds_toArray, List.set_cons_zero, List.set_cons_succ]
    rfl
  refine run_pure (o := ?_) (v := ?_) (a' := ?_) ?_ ?_ ?_ ?_ ?_
  rotate_left 3
  · (simp only [List.getElem?_toArray, List.getElem?_cons_succ, List.getElem?_cons_zero] <;> rfl)
  · rfl
  · intro w'
    go_simp
    with_reducible rfl
  · simp only [Act.put, List.setIfInBounds_toArray, List.set_cons_zero, List.set_cons_succ]
    rfl
  refine run_nil (fun a1 hx => ?_)
  have hc_a1 := (ext_cell hx).1
  have hf_a1 := (ext_cell hx).2
  have HX_a1 := Lib.hid hx
  have y_a1 := hx.size
  try simp at y_a1
  clear hx
  go_wp2
  refine bodyPost_ret (v := ?_) ?_ rfl ⟨?_, ?_⟩
  rotate_left
  · simp only [results, Try.results74]
    go_simp
    with_reducible rfl
  · rfl
  · repeat (first | exact Ext.refl _ | refine Ext.alloc ?_ _ | (refine Ext.setCell ?_ (by simp <;> omega) _) | refine Ext.drew ?_ | refine Ext.trans ?_ HX_a1.out)
theorem wLz10 (w : World) : Calls Try.prog 75 #[.int .u64 10] w fun e w' => e = .returned (.int .i64 60) ∧ Ext w w' :=
  (Try.bits_LeadingZeros64 10 w (by decide) (by decide)).mono fun e w' h => ⟨h.1.trans (congrArg (fun x => Ending.returned (.int .i64 x)) (show (64 - (Lib.bitLen (10 : Int).toNat : Int)) = 60 from by decide +kernel)), by rw [h.2]; exact Ext.refl _⟩
theorem or60 (h l : Int) (h0 : 0 ≤ h) (h1 : h < 16) (l0 : 0 ≤ l) (l1 : l < 18446744073709551616) : bits BinOp.or IntKind.u64 (h * 1152921504606846976) (l / 16) = h * 1152921504606846976 + l / 16 := by
  obtain ⟨H, rfl⟩ := Int.eq_ofNat_of_zero_le h0
  obtain ⟨L, rfl⟩ := Int.eq_ofNat_of_zero_le l0
  have e1 : (H : Int) * 1152921504606846976 = ((H * 1152921504606846976 : Nat) : Int) := by omega
  have e2 : (L : Int) / 16 = ((L / 16 : Nat) : Int) := by omega
  rw [e1, e2, u64_or_nat _ _ (by omega) (by omega)]
  have hk : (H * 1152921504606846976 ||| L / 16) = H * 1152921504606846976 + L / 16 := by
    have := Nat.two_pow_add_eq_or_of_lt (i := 60) (b := L / 16) (by omega) H
    rw [Nat.mul_comm] at this
    exact this.symm
  rw [hk]
  omega
theorem and_low (x : Int) (x0 : 0 ≤ x) (x1 : x < 18446744073709551616) (hx : x % 4294967296 = 0) : bits BinOp.and IntKind.u64 x 4294967295 = 0 := by
  obtain ⟨X, rfl⟩ := Int.eq_ofNat_of_zero_le x0
  have h := u64_and_nat X 4294967295 (by omega) (by omega)
  have h2 : X &&& 4294967295 = X % 4294967296 := Nat.and_two_pow_sub_one_eq_mod X 32
  rw [h2] at h
  rw [show (4294967295 : Int) = ((4294967295 : Nat) : Int) from rfl, h]
  omega
set_option maxHeartbeats 2000000 in
theorem wDiv10_pos (h l : Int) (h0 : 0 < h) (h1 : h < 10) (hl : Word l) (w : World) : Calls Try.prog 74 #[.int .u64 h, .int .u64 l, .int .u64 10] w fun e w' =>
    e = .returned (.tuple #[.int .u64 ((h * 18446744073709551616 + l) / 10), .int .u64 ((h * 18446744073709551616 + l) % 10)]) ∧ Ext w w' := by
  obtain ⟨l0, l1⟩ := hl
  have t1 : (h == 0) = false := by simp; omega
  obtain ⟨U, hU⟩ : ∃ U, U = h * 1152921504606846976 + l / 16 := ⟨_, rfl⟩
  obtain ⟨V10, hV⟩ : ∃ U, U = l % 16 * 1152921504606846976 := ⟨_, rfl⟩
  obtain ⟨q1, hq1⟩ : ∃ q, q = U / 2684354560 := ⟨_, rfl⟩
  obtain ⟨r1, hr1⟩ : ∃ q, q = U % 2684354560 := ⟨_, rfl⟩
  obtain ⟨n21, hn⟩ : ∃ q, q = r1 * 4294967296 + l % 16 * 268435456 := ⟨_, rfl⟩
  obtain ⟨q0, hq0⟩ : ∃ q, q = n21 / 2684354560 := ⟨_, rfl⟩
  obtain ⟨r0, hr0⟩ : ∃ q, q = n21 % 2684354560 := ⟨_, rfl⟩
  have bU0 : 0 ≤ U := by omega
  have bU1 : U < 11529215046068469760 := by omega
  have bV0 : 0 ≤ V10 := by omega
  have bV1 : V10 < 18446744073709551616 := by omega
  have bq0 : 0 ≤ q1 := by omega
  have bq1 : q1 < 4294967296 := by omega
  have br0 : 0 ≤ r1 := by omega
  have br1 : r1 < 2684354560 := by omega
  have bn0 : 0 ≤ n21 := by omega
  have bn1 : n21 < 11529215046068469760 := by omega
  have cq0 : 0 ≤ q0 := by omega
  have cq1 : q0 < 4294967296 := by omega
  have cr0 : 0 ≤ r0 := by omega
  have cr1 : r0 < 2684354560 := by omega
  have e1 : bits BinOp.or IntKind.u64 (h * 1152921504606846976) (l / 16) = U := by rw [or60 h l (by omega) (by omega) l0 l1, hU]
  have e2 : IntKind.u64.wrap (l * 1152921504606846976) = V10 := by rw [IntKind.wrap_u64, hV]; omega
  have e3 : bits BinOp.and IntKind.u64 V10 4294967295 = 0 := and_low _ bV0 bV1 (by omega)
  have e4 : bits BinOp.and IntKind.u64 11529215046068469760 4294967295 = 0 := and_low _ (by omega) (by omega) (by omega)
  have e5 : U.tdiv 2684354560 = q1 := by rw [Int.tdiv_eq_ediv_of_nonneg bU0, hq1]
  have e5' : IntKind.u64.wrap q1 = q1 := IntWalk.u64_in _ (by omega)
  have e6 : IntKind.u64.wrap (q1 * 2684354560) = U - r1 := by rw [IntKind.wrap_u64]; omega
  have e7 : IntKind.u64.wrap (U - (U - r1)) = r1 := by rw [IntKind.wrap_u64]; omega
  have e7' : U - (U - r1) = r1 := by omega
  have e7'' : IntKind.u64.wrap r1 = r1 := IntWalk.u64_in _ (by omega)
  have f1 : IntKind.u64.wrap (IntKind.u64.wrap (IntKind.u64.wrap (U * 4294967296) + V10 / 4294967296) - IntKind.u64.wrap (q1 * 11529215046068469760)) = n21 := by
    simp only [IntKind.wrap_u64]
    omega
  have f2 : n21.tdiv 2684354560 = q0 := by rw [Int.tdiv_eq_ediv_of_nonneg bn0, hq0]
  have f2' : IntKind.u64.wrap q0 = q0 := IntWalk.u64_in _ (by omega)
  have f3 : IntKind.u64.wrap (q0 * 2684354560) = n21 - r0 := by rw [IntKind.wrap_u64]; omega
  have f4 : IntKind.u64.wrap (n21 - (n21 - r0)) = r0 := by rw [IntKind.wrap_u64]; omega
  have f5 : n21 - (n21 - r0) = r0 := by omega
  have f6 : IntKind.u64.wrap r0 = r0 := IntWalk.u64_in _ (by omega)
  have Hq := Lib.hid (show q1 * 4294967296 + q0 = (h * 18446744073709551616 + l) / 10 ∧ r0 * 4294967296 / 1152921504606846976 = (h * 18446744073709551616 + l) % 10 by omega)
  have Hg := Lib.hid (show IntKind.u64.wrap (IntKind.u64.wrap (IntKind.u64.wrap (n21 * 4294967296)) - IntKind.u64.wrap (q0 * 11529215046068469760)) / 1152921504606846976 = r0 * 4294967296 / 1152921504606846976 by
    simp only [IntKind.wrap_u64]
    omega)
  have HQ1 := Lib.hid hq1
  have HR1 := Lib.hid hr1
  have HQ0 := Lib.hid hq0
  have HR0 := Lib.hid hr0
  have HN := Lib.hid hn
  have HU := Lib.hid hU
  have HV := Lib.hid hV
  clear hq1 hr1 hq0 hr0 hn hU hV
  go_enter Try.func74, Try.ntmps74
  go_wp2_with fail
  refine (wLz10 _).mono ?_
  rintro e w1 ⟨rfl, hx⟩
  have HX_w1 := Lib.hid hx
  clear hx
  go_wp2_with fail
  go_loopw [15, 16] (fun a b wr => a = .int .u64 q1 ∧ b = .int .u64 r1 ∧ wr = w1) (fun _ _ _ => 0)
  case atStart => exact ⟨rfl, rfl, rfl⟩
  case round =>
    obtain ⟨rfl, rfl, rfl⟩ := hrel
    go_wp2_with fail
    go_loopw [16, 18] (fun a b w2 => a = .int .u64 r0 ∧ b = .int .u64 q0 ∧ w2 = wr) (fun _ _ _ => 0)
    case atStart => exact ⟨rfl, rfl, rfl⟩
    case round =>
      obtain ⟨rfl, rfl, rfl⟩ := hrel
      go_wp2_with fail
      refine bodyPost_ret (v := ?_) ?_ rfl ⟨?_, ?_⟩
      rotate_left
      · simp only [results, Try.results74]
        go_simp
        with_reducible rfl
      · rw [Hq.out.1, Hg.out, Hq.out.2]
      · repeat (first | exact Ext.refl _ | refine Ext.alloc ?_ _ | (refine Ext.setCell ?_ (by simp <;> omega) _) | refine Ext.drew ?_ | refine Ext.trans ?_ HX_w1.out)

theorem wDiv10 (h l : Int) (h0 : 0 ≤ h) (h1 : h < 10) (hl : Word l) (w : World) : Calls Try.prog 74 #[.int .u64 h, .int .u64 l, .int .u64 10] w fun e w' =>
    e = .returned (.tuple #[.int .u64 ((h * 18446744073709551616 + l) / 10), .int .u64 ((h * 18446744073709551616 + l) % 10)]) ∧ Ext w w' := by
  by_cases hz : h = 0
  · subst hz
    have := wDiv10_zero l hl w
    simpa using this
  · exact wDiv10_pos h l (by omega) h1 hl w
/-- A tenth, and the last digit. -/
def tenth (a : V) : V := BitVec.ofNat 128 (a.toNat / 10)
def digit (a : V) : Int := ((a.toNat % 10 : Nat) : Int)
theorem toNat_tenth (a : V) : (tenth a).toNat = a.toNat / 10 := by
  unfold tenth
  rw [BitVec.toNat_ofNat]
  exact Nat.mod_eq_of_lt (by have := a.isLt; omega)
theorem hi_tenth (a : V) : hi (tenth a) = hi a / 10 := by
  unfold hi
  rw [toNat_tenth]
  omega
theorem lo_tenth (a : V) : lo (tenth a) = (hi a % 10 * 18446744073709551616 + lo a) / 10 := by
  unfold lo hi
  rw [toNat_tenth]
  omega
theorem digit_eq (a : V) : digit a = (hi a % 10 * 18446744073709551616 + lo a) % 10 := by
  unfold digit lo hi
  omega
set_option maxHeartbeats 1000000 in
theorem wTen (a : V) (w : World) : Calls Try.prog 67 #[.agg #[.int .u64 (hi a), .int .u64 (lo a)]] w fun e w' =>
    e = .returned (.tuple #[.agg #[.int .u64 (hi (tenth a)), .int .u64 (lo (tenth a))], .int .u8 (digit a)]) ∧ Ext w w' := by
  obtain ⟨a0, a1⟩ := word_hi a
  have hd : 0 ≤ digit a ∧ digit a < 10 := by unfold digit; omega
  have E0 : (hi a).tmod 10 = hi a % 10 := Int.tmod_eq_emod_of_nonneg a0
  have E1 : (hi a).tdiv 10 = hi (tenth a) := by rw [Int.tdiv_eq_ediv_of_nonneg a0, hi_tenth]
  have E1' : IntKind.u64.wrap (hi (tenth a)) = hi (tenth a) := IntWalk.u64_in _ (by have := word_hi (tenth a); unfold Word at this; omega)
  have E2 : IntKind.u8.wrap (digit a) = digit a := IntWalk.u8_in _ (by omega)
  have hD : ∀ w, Calls Try.prog 74 #[.int .u64 (hi a % 10), .int .u64 (lo a), .int .u64 10] w fun e w' =>
      e = .returned (.tuple #[.int .u64 (lo (tenth a)), .int .u64 (digit a)]) ∧ Ext w w' := by
    intro w
    rw [lo_tenth, digit_eq]
    exact wDiv10 _ _ (by omega) (by omega) (word_lo a) w
  have HD := Lib.hid hD
  clear hD
  go_enter Try.func67, Try.ntmps67
  go_wp2_with fail
  try dsimp only
  repeat (first | with_reducible refine wp_region_ext ?_ [(0, 0), (1, 1), (2, 0), (3, 0), (4, 1), (5, 0), (6, 0), (7, 0)] (fun _ => true) ?_ ?_ ?_ ?_ ?_ | go_step)
  · kernel_rfl
  · kernel_rfl
  · kernel_rfl
  · kernel_rfl
  · exact (fun _ _ d _ _ h => by cases d <;> exact h)
  refine run_pure (o := ?_) (v := ?_) (a' := ?_) ?_ ?_ ?_ ?_ ?_
  rotate_left 3
  · (simp only [List.getElem?_toArray, List.getElem?_cons_succ, List.getElem?_cons_zero] <;> rfl)
  · rfl
  · intro w'
    go_simp
    with_reducible rfl
  · simp only [Act.put, List.setIfInBounds_toArray, List.set_cons_zero, List.set_cons_succ]
    rfl
  refine run_read (o := ?_) (v := ?_) (a' := ?_) ?_ ?_ ?_ ?_ (Ext.refl _) ?_
  rotate_left 3
  · (simp only [List.getElem?_toArray, List.getElem?_cons_succ, List.getElem?_cons_zero] <;> rfl)
  · rfl
  · intro w' hw'
    obtain ⟨hc, hf⟩ := ext_cell hw'
    clear hw'
    go_simp
    with_reducible rfl
  · simp only [Act.put, List.setIfInBounds_toArray, List.set_cons_zero, List.set_cons_succ]
    rfl
  refine run_pure (o := ?_) (v := ?_) (a' := ?_) ?_ ?_ ?_ ?_ ?_
  rotate_left 3
  · (simp only [List.getElem?_toArray, List.getElem?_cons_succ, List.getElem?_cons_zero] <;> rfl)
  · rfl
  · intro w'
    go_simp
    with_reducible rfl
  · simp only [Act.put, List.setIfInBounds_toArray, List.set_cons_zero, List.set_cons_succ]
    rfl
  refine run_pure (o := ?_) (v := ?_) (a' := ?_) ?_ ?_ ?_ ?_ ?_
  rotate_left 3
  · (simp only [List.getElem?_toArray, List.getElem?_cons_succ, List.getElem?_cons_zero] <;> rfl)
  · rfl
  · intro w'
    go_simp
    with_reducible rfl
  · simp only [Act.put, List.setIfInBounds_toArray, List.set_cons_zero, List.set_cons_succ]
    rfl
  refine run_read (o := ?_) (v := ?_) (a' := ?_) ?_ ?_ ?_ ?_ (Ext.refl _) ?_
  rotate_left 3
  · (simp only [List.getElem?_toArray, List.getElem?_cons_succ, List.getElem?_cons_zero] <;> rfl)
  · rfl
  · intro w' hw'
    obtain ⟨hc, hf⟩ := ext_cell hw'
    clear hw'
    go_simp
    with_reducible rfl
  · simp only [Act.put, List.setIfInBounds_toArray, List.set_cons_zero, List.set_cons_succ]
    rfl
  refine run_pure (o := ?_) (v := ?_) (a' := ?_) ?_ ?_ ?_ ?_ ?_
  rotate_left 3
  · (simp only [List.getElem?_toArray, List.getElem?_cons_succ, List.getElem?_cons_zero] <;> rfl)
  · rfl
  · intro w'
    go_simp
    with_reducible rfl
  · simp only [Act.put, List.setIfInBounds_toArray, List.set_cons_zero, List.set_cons_succ]
    rfl
  refine run_pure (o := ?_) (v := ?_) (a' := ?_) ?_ ?_ ?_ ?_ ?_
  rotate_left 3
  · (simp only [List.getElem?_toArray, List.getElem?_cons_succ, List.getElem?_cons_zero] <;> rfl)
  · rfl
  · intro w'
    go_simp
    with_reducible rfl
  · simp only [Act.put, List.setIfInBounds_toArray, List.set_cons_zero, List.set_cons_succ]
    rfl
  refine run_pure (o := ?_) (v := ?_) (a' := ?_) ?_ ?_ ?_ ?_ ?_
  rotate_left 3
  · (simp only [List.getElem?_toArray, List.getElem?_cons_succ, List.getElem?_cons_zero] <;> rfl)
  · rfl
  · intro w'
    go_simp
    with_reducible rfl
  · simp only [Act.put, List.setIfInBounds_toArray, List.set_cons_zero, List.set_cons_succ]
    rfl
  refine run_nil (fun a1 hx => ?_)
  have hc_a1 := (ext_cell hx).1
  have hf_a1 := (ext_cell hx).2
  have HX_a1 := Lib.hid hx
  have y_a1 := hx.size
  try simp at y_a1
  have z_a1_w_0 : w.heap.size < a1.heap.size := by omega
  have z_a1_w_1 : w.heap.size + 1 < a1.heap.size := by omega
  clear hx
  go_wp2_with fail
  refine (HD.out _).mono ?_
  rintro e w3 ⟨rfl, hx⟩
  have hc_w3 := (ext_cell hx).1
  have hf_w3 := (ext_cell hx).2
  have HX_w3 := Lib.hid hx
  have y_w3 := hx.size
  try simp at y_w3
  have z_w3_w_0 : w.heap.size < w3.heap.size := by omega
  have z_w3_w_1 : w.heap.size + 1 < w3.heap.size := by omega
  clear hx
  go_wp2
  refine bodyPost_ret (v := ?_) ?_ rfl ⟨?_, ?_⟩
  rotate_left
  · simp only [results, Try.results67]
    go_simp
    with_reducible rfl
  · rfl
  · repeat (first | exact Ext.refl _ | refine Ext.alloc ?_ _ | (refine Ext.setCell ?_ (by simp <;> omega) _) | refine Ext.drew ?_ | refine Ext.trans ?_ HX_w3.out | refine Ext.trans ?_ HX_a1.out)
end Go.Proofs.Ytjjapblpmpidcab
