import Derived.Test.YtjjapblpmpidcabXB
import Derived.Test.YtjjapblpmpidcabXU
import Derived.Test.YtjjapblpmpidcabTB
set_option linter.unusedVariables false
set_option linter.unusedSimpArgs false
namespace Go.Proofs.Ytjjapblpmpidcab
open Go.RowKit Num UReg

/-! ### The reference of layer 10 -/
theorem eqRS (d : Nat) (w : World) (x0 x1 x2 x3 y0 y1 y2 y3 : Int) :
    (Op.equalIn (d + 3) 33 (.agg #[.int .u64 x0, .int .u64 x1, .int .u64 x2, .int .u64 x3]) (.agg #[.int .u64 y0, .int .u64 y1, .int .u64 y2, .int .u64 y3])).run Try.prog w = .ok (decide ((x0 = y0 ∧ x1 = y1) ∧ (x2 = y2 ∧ x3 = y3))) w := by
  by_cases h0 : x0 = y0 ∧ x1 = y1
  · obtain ⟨rfl, rfl⟩ := h0
    by_cases h1 : x2 = y2 ∧ x3 = y3
    · obtain ⟨rfl, rfl⟩ := h1
      go_simp
    · go_simp
      exact fun a b => h1 ⟨a, b⟩
  · go_simp
    exact fun a b _ _ => h0 ⟨a, b⟩
theorem eqRSV (d : Nat) (w : World) (a b a' b' : V) :
    (Op.equalIn (d + 3) 33 (.agg #[.int .u64 (hi a), .int .u64 (lo a), .int .u64 (hi b), .int .u64 (lo b)]) (.agg #[.int .u64 (hi a'), .int .u64 (lo a'), .int .u64 (hi b'), .int .u64 (lo b')])).run Try.prog w = .ok (same2 a b a' b') w := by
  rw [eqRS]
  exact congrArg (fun x => Result.ok x w) (decide_eq_decide.2 ⟨fun h => ⟨v_ext h.1.1 h.1.2, v_ext h.2.1 h.2.2⟩, fun h => by obtain ⟨rfl, rfl⟩ := h; exact ⟨⟨rfl, rfl⟩, ⟨rfl, rfl⟩⟩⟩)
theorem eqRSZ (d : Nat) (w : World) (a b a' : V) :
    (Op.equalIn (d + 3) 33 (.agg #[.int .u64 (hi a), .int .u64 (lo a), .int .u64 (hi b), .int .u64 (lo b)]) (.agg #[.int .u64 (hi a'), .int .u64 (lo a'), .int .u64 0, .int .u64 0])).run Try.prog w = .ok (same2 a b a' 0#128) w := by
  have h := eqRSV d w a b a' 0#128
  rwa [hi_zero, lo_zero] at h
theorem eqRSY (d : Nat) (w : World) (a b b' : V) :
    (Op.equalIn (d + 3) 33 (.agg #[.int .u64 (hi a), .int .u64 (lo a), .int .u64 (hi b), .int .u64 (lo b)]) (.agg #[.int .u64 0, .int .u64 0, .int .u64 (hi b'), .int .u64 (lo b')])).run Try.prog w = .ok (same2 a b 0#128 b') w := by
  have h := eqRSV d w a b 0#128 b'
  rwa [hi_zero, lo_zero] at h
attribute [go_sem] eqRS
attribute [go_sem high] eqRSV eqRSZ eqRSY

theorem pOwn (x0 x1 x2 x3 : Int) (w : World) : Calls Try.prog 15 #[.agg #[.int .u64 x0, .int .u64 x1, .int .u64 x2, .int .u64 x3]] w fun e w' =>
    e = .returned (.agg #[.int .u64 x0, .int .u64 x1, .int .u64 x2, .int .u64 x3]) ∧ Ext w w' := by
  go_enter Try.func15, Try.ntmps15
  go_wp2
  refine bodyPost_ret (v := ?_) ?_ rfl ⟨?_, ?_⟩
  rotate_left
  · simp only [results, Try.results15]
    go_simp
    with_reducible rfl
  · rfl
  · repeat (first | exact Ext.refl _ | refine Ext.alloc ?_ _ | (refine Ext.setCell ?_ (by simp <;> omega) _) | refine Ext.drew ?_)
theorem or1 (x : Int) (h : Word x) : bits BinOp.or IntKind.u64 x 1 = if x % 2 = 0 then x + 1 else x := by
  obtain ⟨X, rfl, hX⟩ := word_nat h
  have h1 := u64_or_nat X 1 hX (by omega)
  rw [show (1 : Int) = ((1 : Nat) : Int) from rfl, h1]
  have e : X ||| 1 = 2 * (X / 2) + 1 := by
    have h2 := Nat.two_pow_add_eq_or_of_lt (i := 1) (b := 1) (by omega) (X / 2)
    rw [Nat.pow_one] at h2
    rcases Nat.mod_two_eq_zero_or_one X with c | c
    · have e1 : 2 * (X / 2) = X := by omega
      rw [e1] at h2
      omega
    · have e1 : 2 * (X / 2) + 1 = X := by omega
      rw [e1] at h2
      conv => lhs; rw [h2, Nat.or_assoc, Nat.or_self, ← h2]
      exact e1.symm
  rw [e]
  split <;> omega
set_option maxHeartbeats 1000000 in
theorem r10Word (s i : V) (w : World) : Calls Try.prog 14 #[.agg #[.int .u64 (hi s), .int .u64 (lo s), .int .u64 (hi i), .int .u64 (lo i)]] w fun e w' =>
    e = .returned (.int .u64 (wordP s)) ∧ Ext w w' := by
  obtain ⟨h1, h2⟩ := word_hi s
  obtain ⟨l1, l2⟩ := word_lo s
  have ho := or1 (lo s) (word_lo s)
  obtain ⟨L, hL⟩ : ∃ L, lo s = L := ⟨_, rfl⟩
  by_cases hp : L % 2 = 0
  · have e2 : L.tmod 2 = 0 := by rw [Int.tmod_eq_emod_of_nonneg (by omega)]; exact hp
    have e3 : IntKind.u64.wrap (L + 1) = L + 1 := IntWalk.u64_in _ (by omega)
    have E := Lib.hid (show wordP s = IntKind.u64.wrap (bits BinOp.xor IntKind.u64 (IntKind.u64.wrap (bits BinOp.xor IntKind.u64 (hi s) (hi s / 4294967296) * 15750249268501108917))
      (IntKind.u64.wrap (bits BinOp.xor IntKind.u64 (hi s) (hi s / 4294967296) * 15750249268501108917) / 281474976710656) * (L + 1)) by
        unfold wordP
        rw [ho, hL, if_pos hp])
    rw [hL]
    clear ho hL l1 l2
    go_enter Try.func14, Try.ntmps14
    go_wp2
    go_ret
    exact ⟨by rw [E.out]; rfl, (Ext.refl _).alloc _⟩
  · have hp1 : L % 2 = 1 := by omega
    have e2 : L.tmod 2 = 1 := by rw [Int.tmod_eq_emod_of_nonneg (by omega)]; exact hp1
    have E := Lib.hid (show wordP s = IntKind.u64.wrap (bits BinOp.xor IntKind.u64 (IntKind.u64.wrap (bits BinOp.xor IntKind.u64 (hi s) (hi s / 4294967296) * 15750249268501108917))
      (IntKind.u64.wrap (bits BinOp.xor IntKind.u64 (hi s) (hi s / 4294967296) * 15750249268501108917) / 281474976710656) * L) by
        unfold wordP
        rw [ho, hL, if_neg hp])
    rw [hL]
    clear ho hL hp l1 l2
    go_enter Try.func14, Try.ntmps14
    go_wp2
    go_ret
    exact ⟨by rw [E.out]; rfl, (Ext.refl _).alloc _⟩
theorem rMulF {s p : V} (h : fac * s = p) (w : World) : Calls Try.prog 39 #[.agg #[.int .u64 (hi s), .int .u64 (lo s)], .agg #[.int .u64 0, .int .u64 15750249268501108917]] w fun e w' =>
    e = .returned (.agg #[.int .u64 (hi p), .int .u64 (lo p)]) ∧ Ext w w' := by
  have h1 := rMulE (a := s) (b := fac) (s := p) (by rw [← h]; grind) w
  rwa [show hi fac = 0 from by decide +kernel, show lo fac = 15750249268501108917 from by decide +kernel] at h1
set_option maxHeartbeats 1000000 in
theorem r10Step {s i y : V} (h : fac * s + i = y) (w : World) : Calls Try.prog 17 #[.agg #[.int .u64 (hi s), .int .u64 (lo s), .int .u64 (hi i), .int .u64 (lo i)]] w fun e w' =>
    e = .returned (.agg #[.int .u64 (hi y), .int .u64 (lo y), .int .u64 (hi i), .int .u64 (lo i)]) ∧ Ext w w' := by
  obtain ⟨p, hp⟩ : ∃ p, fac * s = p := ⟨_, rfl⟩
  rw [hp] at h
  have HP := Lib.hid hp; clear hp
  have HY := Lib.hid h; clear h
  go_enter Try.func17, Try.ntmps17
  try dsimp only
  repeat (first | with_reducible refine wp_region_ext ?_ [(0, 0), (1, 1), (2, 0), (3, 1), (4, 0), (5, 1), (6, 1), (7, 0), (8, 0), (9, 0), (10, 2), (11, 2), (12, 0)] (fun _ => true) ?_ ?_ ?_ ?_ ?_ | go_step)
  · kernel_rfl
  · kernel_rfl
  · kernel_rfl
  · kernel_rfl
  · exact (fun _ _ d _ _ h => by cases d <;> exact h)
  refine run_pure (o := ?_) (v := ?_) (a' := ?_) ?_ ?_ ?_ ?_ ?_
  rotate_left 3
  · (simp only [List.getElem?_toArray, List.getElem?_cons_succ, List.getElem?_cons_zero] <;> rfl)
  · rfl
  · intro w'
    go_simp
    with_reducible rfl
  · simp only [Act.put, List.setIfInBounds_toArray, List.set_cons_zero, List.set_cons_succ]
    rfl
  refine run_read (o := ?_) (v := ?_) (a' := ?_) ?_ ?_ ?_ ?_ (Ext.refl _) ?_
  rotate_left 3
  · (simp only [List.getElem?_toArray, List.getElem?_cons_succ, List.getElem?_cons_zero] <;> rfl)
  · rfl
  · intro w' hw'
    obtain ⟨hc, hf⟩ := ext_cell hw'
    clear hw'
    go_simp
    with_reducible rfl
  · simp only [Act.put, List.setIfInBounds_toArray, List.set_cons_zero, List.set_cons_succ]
    rfl
  refine run_pure (o := ?_) (v := ?_) (a' := ?_) ?_ ?_ ?_ ?_ ?_
  rotate_left 3
  · (simp only [List.getElem?_toArray, List.getElem?_cons_succ, List.getElem?_cons_zero] <;> rfl)
  · rfl
  · intro w'
    go_simp
    with_reducible rfl
  · simp only [Act.put, List.setIfInBounds_toArray, List.set_cons_zero, List.set_cons_succ]
    rfl
  refine run_call (f := 39) (args := ?_) (o := ?_) (v := ?_) (a' := ?_) ?_ ?_ ?_ ?_ ?_ (Ext.refl _) ?_
  rotate_left 4
  · (simp only [List.getElem?_toArray, List.getElem?_cons_succ, List.getElem?_cons_zero] <;> rfl)
  · rfl
  · intro w'
    go_simp
    with_reducible rfl
  · intro w' hw'
    exact (rMulF HP.out _)
  · simp only [Act.put, List.setIfInBounds_toArray, List.set_cons_zero, List.set_cons_succ]
    rfl
  refine run_pure (o := ?_) (v := ?_) (a' := ?_) ?_ ?_ ?_ ?_ ?_
  rotate_left 3
  · (simp only [List.getElem?_toArray, List.getElem?_cons_succ, List.getElem?_cons_zero] <;> rfl)
  · rfl
  · intro w'
    go_simp
    with_reducible rfl
  · simp only [Act.put, List.setIfInBounds_toArray, List.set_cons_zero, List.set_cons_succ]
    rfl
  refine run_read (o := ?_) (v := ?_) (a' := ?_) ?_ ?_ ?_ ?_ (Ext.refl _) ?_
  rotate_left 3
  · (simp only [List.getElem?_toArray, List.getElem?_cons_succ, List.getElem?_cons_zero] <;> rfl)
  · rfl
  · intro w' hw'
    obtain ⟨hc, hf⟩ := ext_cell hw'
    clear hw'
    go_simp
    with_reducible rfl
  · simp only [Act.put, List.setIfInBounds_toArray, List.set_cons_zero, List.set_cons_succ]
    rfl
  refine run_call (f := 31) (args := ?_) (o := ?_) (v := ?_) (a' := ?_) ?_ ?_ ?_ ?_ ?_ (Ext.refl _) ?_
  rotate_left 4
  · (simp only [List.getElem?_toArray, List.getElem?_cons_succ, List.getElem?_cons_zero] <;> rfl)
  · rfl
  · intro w'
    go_simp
    with_reducible rfl
  · intro w' hw'
    exact (rAddE HY.out _)
  · simp only [Act.put, List.setIfInBounds_toArray, List.set_cons_zero, List.set_cons_succ]
    rfl
  refine run_pure (o := ?_) (v := ?_) (a' := ?_) ?_ ?_ ?_ ?_ ?_
  rotate_left 3
  · (simp only [List.getElem?_toArray, List.getElem?_cons_succ, List.getElem?_cons_zero] <;> rfl)
  · rfl
  · intro w'
    go_simp
    with_reducible rfl
  · simp only [Act.put, List.setIfInBounds_toArray, List.set_cons_zero, List.set_cons_succ]
    rfl
  refine run_pure (o := ?_) (v := ?_) (a' := ?_) ?_ ?_ ?_ ?_ ?_
  rotate_left 3
  · (simp only [List.getElem?_toArray, List.getElem?_cons_succ, List.getElem?_cons_zero] <;> rfl)
  · rfl
  · intro w'
    go_simp
    with_reducible rfl
  · simp only [Act.put, List.setIfInBounds_toArray, List.set_cons_zero, List.set_cons_succ]
    rfl
  refine run_pure (o := ?_) (v := ?_) (a' := ?_) ?_ ?_ ?_ ?_ ?_
  rotate_left 3
  · (simp only [List.getElem?_toArray, List.getElem?_cons_succ, List.getElem?_cons_zero] <;> rfl)
  · rfl
  · intro w'
    go_simp
    with_reducible rfl
  · simp only [Act.put, List.setIfInBounds_toArray, List.set_cons_zero, List.set_cons_succ]
    rfl
  refine run_do (o := ?_) ?_ ?_ (fun d1 hx K hK => ?_)
  rotate_left
  · (simp only [List.getElem?_toArray, List.getElem?_cons_succ, List.getElem?_cons_zero] <;> rfl)
  · rfl
  have hc_d1 := (ext_cell hx).1
  have hf_d1 := (ext_cell hx).2
  have HX_d1 := Lib.hid hx
  have y_d1 := hx.size
  try simp at y_d1
  have z_d1_w_0 : w.heap.size < d1.heap.size := by omega
  have z_d1_w_1 : w.heap.size + 1 < d1.heap.size := by omega
  clear hx
  go_simp
  refine hK _ _ (fun _ hs => hs.alloc _) ?_
  clear hK K
  try simp only [Act.put, List.setIfInBounds_toArray, List.set_cons_zero, List.set_cons_succ]
  refine run_do (o := ?_) ?_ ?_ (fun d2 hx K hK => ?_)
  rotate_left
  · (simp only [List.getElem?_toArray, List.getElem?_cons_succ, List.getElem?_cons_zero] <;> rfl)
  · rfl
  have hc_d2 := (ext_cell hx).1
  have hf_d2 := (ext_cell hx).2
  have HX_d2 := Lib.hid hx
  have y_d2 := hx.size
  try simp at y_d2
  have z_d2_w_0 : w.heap.size < d2.heap.size := by omega
  have z_d2_w_1 : w.heap.size + 1 < d2.heap.size := by omega
  have z_d2_d1_0 : d1.heap.size < d2.heap.size := by omega
  clear hx
  go_simp
  refine hK _ _ (fun _ hs => ?_) ?_
  · repeat (first | exact hs | (refine Ext.setCell ?_ (by simp <;> omega) _))
  clear hK K
  refine run_pure (o := ?_) (v := ?_) (a' := ?_) ?_ ?_ ?_ ?_ ?_
  rotate_left 3
  · (simp only [List.getElem?_toArray, List.getElem?_cons_succ, List.getElem?_cons_zero] <;> rfl)
  · rfl
  · intro w'
    go_simp
    with_reducible rfl
  · simp only [Act.put, List.setIfInBounds_toArray, List.set_cons_zero, List.set_cons_succ]
    rfl
  refine run_nil (fun d3 hx => ?_)
  have hc_d3 := (ext_cell hx).1
  have hf_d3 := (ext_cell hx).2
  have HX_d3 := Lib.hid hx
  have y_d3 := hx.size
  try simp at y_d3
  have z_d3_w_0 : w.heap.size < d3.heap.size := by omega
  have z_d3_w_1 : w.heap.size + 1 < d3.heap.size := by omega
  have z_d3_d1_0 : d1.heap.size < d3.heap.size := by omega
  clear hx
  go_wp2
  refine bodyPost_ret (v := ?_) ?_ rfl ⟨?_, ?_⟩
  rotate_left
  · simp only [results, Try.results17]
    go_simp
    with_reducible rfl
  · rfl
  · repeat (first | exact Ext.refl _ | refine Ext.alloc ?_ _ | (refine Ext.setCell ?_ (by simp <;> omega) _) | refine Ext.drew ?_ | refine Ext.trans ?_ HX_d3.out | refine Ext.trans ?_ HX_d2.out | refine Ext.trans ?_ HX_d1.out)
abbrev stCells (s i : V) : List Value := [.int .u64 (hi s), .int .u64 (lo s), .int .u64 (hi i), .int .u64 (lo i)]
set_option maxHeartbeats 1000000 in
theorem r10Jump {s i z : V} {N : Nat} (hN : N ≤ 1000) (hz : pst s i N = z) (w : World) : Calls Try.prog 22 #[.agg #[.int .u64 (hi s), .int .u64 (lo s), .int .u64 (hi i), .int .u64 (lo i)], .int .i64 N] w fun e w' =>
    e = .returned (.agg #[.int .u64 (hi z), .int .u64 (lo z), .int .u64 (hi i), .int .u64 (lo i)]) ∧ Ext w w' := by
  have HZ := Lib.hid hz; clear hz
  go_enter Try.func22, Try.ntmps22
  go_wp2_with fail
  go_loopw [5] (fun j wr => ∃ k : Nat, k ≤ N ∧ j = .int .i64 k ∧ Ext w wr ∧ w.heap.size + 1 < wr.heap.size ∧ Cells wr w.heap.size (stCells (pst s i k) i) ∧ Cells wr (w.heap.size + 1) [.int .u64 0, .int .u64 0, .int .u64 0, .int .u64 0])
    (fun j _ => N - (intOf j).toNat)
  case atStart =>
    refine ⟨0, by omega, rfl, ?_, by simp, ?_, ?_⟩
    · repeat (first | exact Ext.refl _ | refine Ext.alloc ?_ _ | (refine Ext.setCell ?_ (by simp <;> omega) _) | refine Ext.drew ?_)
    · exact Cells.mk4 (by go_simp <;> rfl) (by go_simp <;> rfl) (by go_simp <;> rfl) (by go_simp <;> rfl) (by go_simp) (by go_simp) (by go_simp) (by go_simp)
    · exact Cells.mk4 (by go_simp <;> rfl) (by go_simp <;> rfl) (by go_simp <;> rfl) (by go_simp <;> rfl) (by go_simp) (by go_simp) (by go_simp) (by go_simp)
  case round =>
    obtain ⟨k, hk, rfl, HX, z1, hs, hr⟩ := hrel
    have HX_r := Lib.hid HX; clear HX
    have za : w.heap.size < wr.heap.size := by omega
    obtain ⟨s0, s1, s2, s3, sf0, sf1, sf2, sf3⟩ := hs.four
    obtain ⟨r0, r1, r2, r3, rf0, rf1, rf2, rf3⟩ := hr.four
    by_cases hlt : k < N
    · have hlt' : (k : Int) < (N : Int) := by omega
      obtain ⟨y, hy⟩ : ∃ y, pst s i (k + 1) = y := ⟨_, rfl⟩
      have HY := Lib.hid (show fac * pst s i k + i = y by rw [← hy]; rfl)
      have HY' := Lib.hid hy; clear hy
      go_wp2_with fail
      refine (r10Step HY.out _).mono ?_
      rintro e w3 ⟨rfl, hx⟩
      have hs3 := hs.ext hx
      have hr3 := hr.ext hx
      have X3 := Lib.hid (HX_r.out.trans hx)
      have y3 := hx.size
      clear hx hs hr s0 s1 s2 s3 sf0 sf1 sf2 sf3 r0 r1 r2 r3 rf0 rf1 rf2 rf3
      obtain ⟨s0, s1, s2, s3, sf0, sf1, sf2, sf3⟩ := hs3.four
      go_wp2_with fail
      go_roundw
      case rel =>
        refine ⟨k + 1, by omega, by simp, ?_, by simp; omega, ?_, ?_⟩
        · repeat (first | exact X3.out | (refine Ext.setCell ?_ (by simp <;> omega) _))
        · rw [HY'.out]
          exact (((hs3.set 0 _).set 1 _).set 2 _).set 3 _
        · exact (((hr3.other (by omega) _ _).other (by omega) _ _).other (by omega) _ _).other (by omega) _ _
      case measure => simp [intOf]; omega
    · have e : k = N := by omega
      subst e
      rw [HZ.out] at s0 s1
      go_wp2_with fail
      refine bodyPost_ret (v := ?_) ?_ rfl ⟨?_, ?_⟩
      rotate_left
      · simp only [results, Try.results22]
        go_simp
        with_reducible rfl
      · rfl
      · repeat (first | exact HX_r.out | (refine Ext.setCell ?_ (by simp <;> omega) _))
theorem pst_pow (s i : V) : ∀ k, atM (powM (fac, i) k) s = pst s i k
  | 0 => by simp [powM, atM, oneM, pst]
  | k + 1 => by
    rw [powM, atM_then, pst_pow s i k]
    rfl
theorem toNat_of_nat (N : Nat) (h : N < 18446744073709551616) : (of (N : Int)).toNat = N := by
  unfold of mk
  rw [BitVec.toNat_ofInt]
  omega
theorem wOfN {N : Nat} (h : N < 1000) (w : World) : Calls Try.prog 21 #[.int .u64 (N : Int)] w fun e w' => e = .returned (.agg #[.int .u64 (hi (of (N : Int))), .int .u64 (lo (of (N : Int)))]) ∧ Ext w w' :=
  wOf _ (by unfold Word; omega) w
theorem pJumpN {s i z : V} {N : Nat} (hN : N < 1000) (hz : pst s i N = z) (hi' : i.toNat % 2 = 1) (w : World) : Calls Try.prog 20 #[.agg #[.int .u64 (hi s), .int .u64 (lo s), .int .u64 (hi i), .int .u64 (lo i)], .agg #[.int .u64 (hi (of (N : Int))), .int .u64 (lo (of (N : Int)))]] w fun e w' =>
    e = .returned (.tuple #[.agg #[.int .u64 (hi z), .int .u64 (lo z), .int .u64 (hi i), .int .u64 (lo i)], .int .i64 0]) ∧ Ext w w' := by
  have h1 := pJump_ok s i (of (N : Int)) hi' w
  rwa [toNat_of_nat N (by omega), pst_pow, hz] at h1
end Go.Proofs.Ytjjapblpmpidcab
