import Derived.Test.YtjjapblpmpidcabT9
import Derived.Lib.Bytes
set_option linter.unusedVariables false
set_option linter.unusedSimpArgs false
namespace Go.Proofs.Ytjjapblpmpidcab
open Go.RowKit Num UReg

/-! ### Digits as strings -/
theorem bytes_lex : ∀ (xs ys : List Int), (∀ x ∈ xs, 0 ≤ x ∧ x ≤ 255) → (∀ x ∈ ys, 0 ≤ x ∧ x ≤ 255) →
    Op.bytesLess (xs.map fun n => UInt8.ofNat n.toNat) (ys.map fun n => UInt8.ofNat n.toNat) = lexLt xs ys
  | _, [], _, _ => by simp [Op.bytesLess, lexLt]
  | [], _ :: _, _, _ => by simp [Op.bytesLess, lexLt]
  | x :: xs, y :: ys, hx, hy => by
    have ih := bytes_lex xs ys (fun z hz => hx z (List.mem_cons_of_mem _ hz)) (fun z hz => hy z (List.mem_cons_of_mem _ hz))
    have h1 := hx x (List.mem_cons_self ..)
    have h2 := hy y (List.mem_cons_self ..)
    obtain ⟨n, rfl⟩ := Int.eq_ofNat_of_zero_le h1.1
    obtain ⟨m, rfl⟩ := Int.eq_ofNat_of_zero_le h2.1
    simp only [List.map_cons, Op.bytesLess, lexLt, ih]
    have e1 : (decide (UInt8.ofNat (n : Int).toNat < UInt8.ofNat (m : Int).toNat)) = decide ((n : Int) < m) := by
      apply decide_eq_decide.2
      rw [UInt8.lt_iff_toNat_lt]
      simp
      rw [Nat.mod_eq_of_lt (by omega), Nat.mod_eq_of_lt (by omega)]
    have e2 : (UInt8.ofNat (n : Int).toNat == UInt8.ofNat (m : Int).toNat) = decide ((n : Int) = m) := by
      rw [Bool.beq_eq_decide_eq]
      apply decide_eq_decide.2
      rw [← UInt8.toNat_inj]
      simp
      rw [Nat.mod_eq_of_lt (by omega), Nat.mod_eq_of_lt (by omega)]
      omega
    rw [e1, e2]
theorem lex_total : ∀ (xs ys : List Int), lexLt xs ys = false → lexLt ys xs = false → xs = ys
  | [], [], _, _ => rfl
  | [], _ :: _, h, _ => by simp [lexLt] at h
  | _ :: _, [], _, h => by simp [lexLt] at h
  | x :: xs, y :: ys, h1, h2 => by
    simp only [lexLt, Bool.or_eq_false_iff, Bool.and_eq_false_iff, decide_eq_false_iff_not] at h1 h2
    have e : x = y := by omega
    subst e
    rw [lex_total xs ys (by simpa using h1.2) (by simpa using h2.2)]
def gtrS (a b : ByteArray) : Bool := !(Op.bytesLess a.toList b.toList || a.toList == b.toList)
theorem binOp_str_gtr (t : TypeId) (a b : ByteArray) : binOp .gtr t (.string a) (.string b) = pure (.bool (gtrS a b)) := by simp [binOp, Op.stringOp, gtrS]
attribute [go_sem] binOp_str_gtr
theorem bytes_inj : ∀ (xs ys : List Int), (∀ x ∈ xs, 0 ≤ x ∧ x ≤ 255) → (∀ x ∈ ys, 0 ≤ x ∧ x ≤ 255) →
    (xs.map fun n => UInt8.ofNat n.toNat) = (ys.map fun n => UInt8.ofNat n.toNat) → xs = ys
  | [], [], _, _, _ => rfl
  | [], _ :: _, _, _, h => by simp at h
  | _ :: _, [], _, _, h => by simp at h
  | x :: xs, y :: ys, hx, hy, h => by
    simp only [List.map_cons, List.cons.injEq] at h
    have ih := bytes_inj xs ys (fun z hz => hx z (List.mem_cons_of_mem _ hz)) (fun z hz => hy z (List.mem_cons_of_mem _ hz)) h.2
    have h1 := hx x (List.mem_cons_self ..)
    have h2 := hy y (List.mem_cons_self ..)
    obtain ⟨n, rfl⟩ := Int.eq_ofNat_of_zero_le h1.1
    obtain ⟨m, rfl⟩ := Int.eq_ofNat_of_zero_le h2.1
    have e := h.1
    rw [← UInt8.toNat_inj] at e
    simp at e
    rw [Nat.mod_eq_of_lt (by omega), Nat.mod_eq_of_lt (by omega)] at e
    rw [ih, e]
theorem gtrS_eq (xs ys : List Int) (hx : ∀ x ∈ xs, 0 ≤ x ∧ x ≤ 255) (hy : ∀ x ∈ ys, 0 ≤ x ∧ x ≤ 255) : gtrS (strOfNums xs) (strOfNums ys) = lexLt ys xs := by
  have e : ∀ zs : List Int, (strOfNums zs).toList = zs.map fun n => UInt8.ofNat n.toNat := fun zs => (Go.Lib.strOfNums_toList zs).trans (by first | rfl | simp [Go.Lib.bytesOf])
  unfold gtrS
  rw [e, e, bytes_lex xs ys hx hy]
  by_cases c : xs = ys
  · subst c
    simp [lex_irrefl]
  · have h2 : ((xs.map fun n => UInt8.ofNat n.toNat) == (ys.map fun n => UInt8.ofNat n.toNat)) = false := by
      rw [beq_eq_false_iff_ne]
      exact fun h => c (bytes_inj xs ys hx hy h)
    rw [h2]
    cases h : lexLt xs ys
    · cases h' : lexLt ys xs
      · exact absurd (lex_total xs ys h h') c
      · rfl
    · rw [lex_asymm xs ys h]
      rfl
theorem dec_bounds (n : Nat) (h : n < 340282366920938463463374607431768211456) : ∀ x ∈ dec n, 0 ≤ x ∧ x ≤ 255 := by
  induction n using Nat.strongRecOn with
  | ind n ih =>
    by_cases c : n < 10
    · rw [dec_small n c]
      intro x hx
      simp at hx
      omega
    · rw [dec_big n (by omega) h]
      intro x hx
      rw [List.mem_append] at hx
      rcases hx with hx | hx
      · exact ih (n / 10) (by omega) (by omega) x hx
      · simp at hx
        omega
/-- Which string of digits is longer, or the same length and greater. -/
theorem longer_cmp (a b : V) : (decide ((strOfNums (dec b.toNat)).size < (strOfNums (dec a.toNat)).size) ||
    (decide ((strOfNums (dec a.toNat)).size = (strOfNums (dec b.toNat)).size) && gtrS (strOfNums (dec a.toNat)) (strOfNums (dec b.toNat)))) = decide (0 < cmpV a b) := by
  rw [← greater_cmp, gtrS_eq _ _ (dec_bounds _ a.isLt) (dec_bounds _ b.isLt), strOfNums_size, strOfNums_size]
  rfl
theorem wPrintE {a : V} {s : ByteArray} (h : strOfNums (dec a.toNat) = s) (w : World) : Calls Try.prog 52 #[.agg #[.int .u64 (hi a), .int .u64 (lo a)]] w fun e w' =>
    e = .returned (.string s) ∧ Ext w w' := by
  have h1 := wPrint a w
  rwa [h] at h1
theorem wTake_back (a : V) (v : Value) (w : World) (hr : Reads w .u8 v (bytesV a)) : Calls Try.prog 34 #[v] w fun e w' => e = .returned (.tuple #[.agg #[.int .u64 (hi a), .int .u64 (lo a)], .int .i64 0]) ∧ Ext w w' := by
  have h := wTake_ok v _ w hr (bytesV_length _) (bytesV_bounds _)
  rwa [take_put_all] at h
theorem wAddO {a b s : V} {o : Bool} (h : a + b = s) (h2 : over a b = o) (w : World) : Calls Try.prog 29 #[.agg #[.int .u64 (hi a), .int .u64 (lo a)], .agg #[.int .u64 (hi b), .int .u64 (lo b)]] w fun e w' =>
    e = .returned (.tuple #[.agg #[.int .u64 (hi s), .int .u64 (lo s)], .bool o]) ∧ Ext w w' := by
  have h1 := wAdd a b w
  rwa [h, h2] at h1
theorem wSubO {a b s : V} {o : Bool} (h : a - b = s) (h2 : less a b = o) (w : World) : Calls Try.prog 32 #[.agg #[.int .u64 (hi a), .int .u64 (lo a)], .agg #[.int .u64 (hi b), .int .u64 (lo b)]] w fun e w' =>
    e = .returned (.tuple #[.agg #[.int .u64 (hi s), .int .u64 (lo s)], .bool o]) ∧ Ext w w' := by
  have h1 := wSub a b w
  rwa [h, h2] at h1

set_option maxHeartbeats 8000000 in
theorem wideOrder_walk (a b : V) (w : World) :
    Calls Try.prog 11 #[.agg #[.int .u64 (hi a), .int .u64 (lo a)], .agg #[.int .u64 (hi b), .int .u64 (lo b)]] w fun e w' => e = .returned (.bool true) ∧ Ext w w' := by
  obtain ⟨s, h1⟩ : ∃ s, a + b = s := ⟨_, rfl⟩
  obtain ⟨o, h2⟩ : ∃ s, over a b = s := ⟨_, rfl⟩
  obtain ⟨d, h3⟩ : ∃ s, a - b = s := ⟨_, rfl⟩
  obtain ⟨u, h4⟩ : ∃ s, less a b = s := ⟨_, rfl⟩
  obtain ⟨n, h5⟩ : ∃ s, cmpV a b = s := ⟨_, rfl⟩
  obtain ⟨k, h6⟩ : ∃ s, cmpV b a = s := ⟨_, rfl⟩
  obtain ⟨c, h7⟩ : ∃ z, cmpV s a = z := ⟨_, rfl⟩
  obtain ⟨x, h8⟩ : ∃ s, strOfNums (dec a.toNat) = s := ⟨_, rfl⟩
  obtain ⟨y, h9⟩ : ∃ s, strOfNums (dec b.toNat) = s := ⟨_, rfl⟩
  have b1 : -1 ≤ n ∧ n ≤ 1 := by rw [← h5]; unfold cmpV; split <;> (try split) <;> omega
  have hk : n = -k := by rw [← h5, ← h6, cmp_swap a b]; omega
  have T1 := decide_eq_true hk
  have T2 : (n == -k) = true := by simpa using hk
  obtain ⟨q, hq⟩ : ∃ q, decide (a = b) = q := ⟨_, rfl⟩
  have q1 : decide (n = 0) = q := by rw [← hq, ← h5]; exact decide_eq_decide.2 (cmp_eq0 a b)
  have q2 : (n == 0) = q := by rw [← q1]; rfl
  have u1 : decide (n < 0) = u := by rw [← h4, ← h5]; exact (cmp_less a b).symm
  have o1 : decide (c < 0) = o := by rw [← h2, ← h7, ← h1]; exact (over_cmp a b).symm
  have l1 : (decide (y.size < x.size) || (decide (x.size = y.size) && gtrS x y)) = decide (0 < n) := by rw [← h8, ← h9, ← h5]; exact longer_cmp a b
  obtain ⟨p, p1⟩ : ∃ p, decide (0 < n) = p := ⟨_, rfl⟩
  rw [p1] at l1
  have k1 : IntKind.i64.wrap (-k) = -k := IntWalk.i64_in _ (by omega)
  have H1 := Lib.hid h1
  have H2 := Lib.hid h2
  have H3 := Lib.hid h3
  have H4 := Lib.hid h4
  have H5 := Lib.hid h5
  have H6 := Lib.hid h6
  have H7 := Lib.hid h7
  have H8 := Lib.hid h8
  have H9 := Lib.hid h9
  have L1 := Lib.hid l1
  clear h1 h2 h3 h4 h5 h6 h7 h8 h9 l1 hk
  go_enter Try.func11, Try.ntmps11
  go_wp2_with fail
  refine (awake1 _).mono ?_
  rintro e w1 ⟨rfl, hx⟩
  have hc_w1 := (ext_cell hx).1
  have hf_w1 := (ext_cell hx).2
  have HX_w1 := Lib.hid hx
  have y_w1 := hx.size
  try simp at y_w1
  have z_w1_w_0 : w.heap.size < w1.heap.size := by omega
  have z_w1_w_1 : w.heap.size + 1 < w1.heap.size := by omega
  clear hx
  go_wp2_with fail
  refine (wAddO H1.out H2.out _).mono ?_
  rintro e w2 ⟨rfl, hx⟩
  have hc_w2 := (ext_cell hx).1
  have hf_w2 := (ext_cell hx).2
  have HX_w2 := Lib.hid hx
  have y_w2 := hx.size
  try simp at y_w2
  have z_w2_w_0 : w.heap.size < w2.heap.size := by omega
  have z_w2_w_1 : w.heap.size + 1 < w2.heap.size := by omega
  clear hx
  go_wp2_with fail
  refine (wSubO H3.out H4.out _).mono ?_
  rintro e w3 ⟨rfl, hx⟩
  have hc_w3 := (ext_cell hx).1
  have hf_w3 := (ext_cell hx).2
  have HX_w3 := Lib.hid hx
  have y_w3 := hx.size
  try simp at y_w3
  have z_w3_w_0 : w.heap.size < w3.heap.size := by omega
  have z_w3_w_1 : w.heap.size + 1 < w3.heap.size := by omega
  have z_w3_w2_0 : w2.heap.size < w3.heap.size := by omega
  clear hx
  go_wp2_with fail
  refine (wPut a _).mono ?_
  rintro e w4 ⟨v, rfl, hr, hx⟩
  have hc_w4 := (ext_cell hx).1
  have hf_w4 := (ext_cell hx).2
  have HX_w4 := Lib.hid hx
  have y_w4 := hx.size
  try simp at y_w4
  have z_w4_w_0 : w.heap.size < w4.heap.size := by omega
  have z_w4_w_1 : w.heap.size + 1 < w4.heap.size := by omega
  have z_w4_w2_0 : w2.heap.size < w4.heap.size := by omega
  have z_w4_w3_0 : w3.heap.size < w4.heap.size := by omega
  clear hx
  go_wp2_with fail
  refine (wTake_back a _ _ hr).mono ?_
  clear hr
  rintro e w5 ⟨rfl, hx⟩
  have hc_w5 := (ext_cell hx).1
  have hf_w5 := (ext_cell hx).2
  have HX_w5 := Lib.hid hx
  have y_w5 := hx.size
  try simp at y_w5
  have z_w5_w_0 : w.heap.size < w5.heap.size := by omega
  have z_w5_w_1 : w.heap.size + 1 < w5.heap.size := by omega
  have z_w5_w2_0 : w2.heap.size < w5.heap.size := by omega
  have z_w5_w3_0 : w3.heap.size < w5.heap.size := by omega
  clear hx
  go_wp2_with fail
  refine (wCmpE H5.out _).mono ?_
  rintro e w6 ⟨rfl, hx⟩
  have hc_w6 := (ext_cell hx).1
  have hf_w6 := (ext_cell hx).2
  have HX_w6 := Lib.hid hx
  have y_w6 := hx.size
  try simp at y_w6
  have z_w6_w_0 : w.heap.size < w6.heap.size := by omega
  have z_w6_w_1 : w.heap.size + 1 < w6.heap.size := by omega
  have z_w6_w2_0 : w2.heap.size < w6.heap.size := by omega
  have z_w6_w3_0 : w3.heap.size < w6.heap.size := by omega
  have z_w6_w5_0 : w5.heap.size < w6.heap.size := by omega
  clear hx
  try dsimp only
  repeat (first | with_reducible refine wp_region_ext ?_ [(0, 1), (1, 1), (2, 1), (3, 1), (4, 0), (5, 0)] (fun _ => true) ?_ ?_ ?_ ?_ ?_ | go_step)
  · kernel_rfl
  · kernel_rfl
  · kernel_rfl
  · kernel_rfl
  · exact (fun _ _ d _ _ h => by cases d <;> exact h)
  refine run_read (o := ?_) (v := ?_) (a' := ?_) ?_ ?_ ?_ ?_ (Ext.refl _) ?_
  rotate_left 3
  · (simp only [List.getElem?_toArray, List.getElem?_cons_succ, List.getElem?_cons_zero] <;> rfl)
  · rfl
  · intro w' hw'
    obtain ⟨hc, hf⟩ := ext_cell hw'
    clear hw'
    go_simp
    with_reducible rfl
  · simp only [Act.put, List.setIfInBounds_toArray, List.set_cons_zero, List.set_cons_succ]
    rfl
  refine run_call (f := 52) (args := ?_) (o := ?_) (v := ?_) (a' := ?_) ?_ ?_ ?_ ?_ ?_ (Ext.refl _) ?_
  rotate_left 4
  · (simp only [List.getElem?_toArray, List.getElem?_cons_succ, List.getElem?_cons_zero] <;> rfl)
  · rfl
  · intro w'
    go_simp
    with_reducible rfl
  · intro w' hw'
    exact (wPrintE H8.out _)
  · simp only [Act.put, List.setIfInBounds_toArray, List.set_cons_zero, List.set_cons_succ]
    rfl
  refine run_read (o := ?_) (v := ?_) (a' := ?_) ?_ ?_ ?_ ?_ (Ext.refl _) ?_
  rotate_left 3
  · (simp only [List.getElem?_toArray, List.getElem?_cons_succ, List.getElem?_cons_zero] <;> rfl)
  · rfl
  · intro w' hw'
    obtain ⟨hc, hf⟩ := ext_cell hw'
    clear hw'
    go_simp
    with_reducible rfl
  · simp only [Act.put, List.setIfInBounds_toArray, List.set_cons_zero, List.set_cons_succ]
    rfl
  refine run_call (f := 52) (args := ?_) (o := ?_) (v := ?_) (a' := ?_) ?_ ?_ ?_ ?_ ?_ (Ext.refl _) ?_
  rotate_left 4
  · (simp only [List.getElem?_toArray, List.getElem?_cons_succ, List.getElem?_cons_zero] <;> rfl)
  · rfl
  · intro w'
    go_simp
    with_reducible rfl
  · intro w' hw'
    exact (wPrintE H9.out _)
  · simp only [Act.put, List.setIfInBounds_toArray, List.set_cons_zero, List.set_cons_succ]
    rfl
  refine run_pure (o := ?_) (v := ?_) (a' := ?_) ?_ ?_ ?_ ?_ ?_
  rotate_left 3
  · (simp only [List.getElem?_toArray, List.getElem?_cons_succ, List.getElem?_cons_zero] <;> rfl)
  · rfl
  · intro w'
    go_simp
    with_reducible rfl
  · simp only [Act.put, List.setIfInBounds_toArray, List.set_cons_zero, List.set_cons_succ]
    rfl
  refine run_pure (o := ?_) (v := ?_) (a' := ?_) ?_ ?_ ?_ ?_ ?_
  rotate_left 3
  · (simp only [List.getElem?_toArray, List.getElem?_cons_succ, List.getElem?_cons_zero] <;> rfl)
  · rfl
  · intro w'
    go_simp
    with_reducible rfl
  · simp only [Act.put, List.setIfInBounds_toArray, List.set_cons_zero, List.set_cons_succ]
    rfl
  refine run_nil (fun d1 hx => ?_)
  have hc_d1 := (ext_cell hx).1
  have hf_d1 := (ext_cell hx).2
  have HX_d1 := Lib.hid hx
  have y_d1 := hx.size
  try simp at y_d1
  have z_d1_w_0 : w.heap.size < d1.heap.size := by omega
  have z_d1_w_1 : w.heap.size + 1 < d1.heap.size := by omega
  have z_d1_w2_0 : w2.heap.size < d1.heap.size := by omega
  have z_d1_w3_0 : w3.heap.size < d1.heap.size := by omega
  have z_d1_w5_0 : w5.heap.size < d1.heap.size := by omega
  clear hx
  rcases Nat.lt_trichotomy y.size x.size with g | g | g
  · have s1 : decide (y.size < x.size) = true := decide_eq_true g
    obtain rfl : p = true := by have := L1.out; simpa [s1] using this.symm
    clear L1 g
    go_wp2_with fail
    refine (wCmpE H6.out _).mono ?_
    rintro e w7 ⟨rfl, hx⟩
    have hc_w7 := (ext_cell hx).1
    have hf_w7 := (ext_cell hx).2
    have HX_w7 := Lib.hid hx
    have y_w7 := hx.size
    try simp at y_w7
    have z_w7_w_0 : w.heap.size < w7.heap.size := by omega
    have z_w7_w_1 : w.heap.size + 1 < w7.heap.size := by omega
    have z_w7_w2_0 : w2.heap.size < w7.heap.size := by omega
    have z_w7_w3_0 : w3.heap.size < w7.heap.size := by omega
    have z_w7_w5_0 : w5.heap.size < w7.heap.size := by omega
    clear hx
    go_wp2_with fail
    refine (wCmpE H7.out _).mono ?_
    rintro e w8 ⟨rfl, hx⟩
    have hc_w8 := (ext_cell hx).1
    have hf_w8 := (ext_cell hx).2
    have HX_w8 := Lib.hid hx
    have y_w8 := hx.size
    try simp at y_w8
    have z_w8_w_0 : w.heap.size < w8.heap.size := by omega
    have z_w8_w_1 : w.heap.size + 1 < w8.heap.size := by omega
    have z_w8_w2_0 : w2.heap.size < w8.heap.size := by omega
    have z_w8_w3_0 : w3.heap.size < w8.heap.size := by omega
    have z_w8_w5_0 : w5.heap.size < w8.heap.size := by omega
    clear hx
    go_wp2
    go_ret
    refine ⟨rfl, ?_⟩
    · repeat (first | exact Ext.refl _ | refine Ext.alloc ?_ _ | (refine Ext.setCell ?_ (by simp <;> omega) _) | refine Ext.drew ?_ | refine Ext.trans ?_ HX_w8.out | refine Ext.trans ?_ HX_w7.out | refine Ext.trans ?_ HX_d1.out | refine Ext.trans ?_ HX_w6.out | refine Ext.trans ?_ HX_w5.out | refine Ext.trans ?_ HX_w4.out | refine Ext.trans ?_ HX_w3.out | refine Ext.trans ?_ HX_w2.out | refine Ext.trans ?_ HX_w1.out)
  · have s1 : decide (y.size < x.size) = false := decide_eq_false (by omega)
    have s2 : gtrS x y = p := by have := L1.out; simpa [s1, g] using this
    have s3 : ((x.size : Int) == (y.size : Int)) = true := by simp; omega
    have s4 : decide ((x.size : Int) = (y.size : Int)) = true := by simp; omega
    have s5 : decide (x.size = y.size) = true := by simp; omega
    clear L1 g
    go_wp2_with fail
    refine (wCmpE H6.out _).mono ?_
    rintro e w7 ⟨rfl, hx⟩
    have hc_w7 := (ext_cell hx).1
    have hf_w7 := (ext_cell hx).2
    have HX_w7 := Lib.hid hx
    have y_w7 := hx.size
    try simp at y_w7
    have z_w7_w_0 : w.heap.size < w7.heap.size := by omega
    have z_w7_w_1 : w.heap.size + 1 < w7.heap.size := by omega
    have z_w7_w2_0 : w2.heap.size < w7.heap.size := by omega
    have z_w7_w3_0 : w3.heap.size < w7.heap.size := by omega
    have z_w7_w5_0 : w5.heap.size < w7.heap.size := by omega
    clear hx
    go_wp2_with fail
    refine (wCmpE H7.out _).mono ?_
    rintro e w8 ⟨rfl, hx⟩
    have hc_w8 := (ext_cell hx).1
    have hf_w8 := (ext_cell hx).2
    have HX_w8 := Lib.hid hx
    have y_w8 := hx.size
    try simp at y_w8
    have z_w8_w_0 : w.heap.size < w8.heap.size := by omega
    have z_w8_w_1 : w.heap.size + 1 < w8.heap.size := by omega
    have z_w8_w2_0 : w2.heap.size < w8.heap.size := by omega
    have z_w8_w3_0 : w3.heap.size < w8.heap.size := by omega
    have z_w8_w5_0 : w5.heap.size < w8.heap.size := by omega
    clear hx
    go_wp2
    go_ret
    refine ⟨rfl, ?_⟩
    · repeat (first | exact Ext.refl _ | refine Ext.alloc ?_ _ | (refine Ext.setCell ?_ (by simp <;> omega) _) | refine Ext.drew ?_ | refine Ext.trans ?_ HX_w8.out | refine Ext.trans ?_ HX_w7.out | refine Ext.trans ?_ HX_d1.out | refine Ext.trans ?_ HX_w6.out | refine Ext.trans ?_ HX_w5.out | refine Ext.trans ?_ HX_w4.out | refine Ext.trans ?_ HX_w3.out | refine Ext.trans ?_ HX_w2.out | refine Ext.trans ?_ HX_w1.out)
  · have s1 : decide (y.size < x.size) = false := decide_eq_false (by omega)
    obtain rfl : p = false := by have := L1.out; rw [s1, decide_eq_false (by omega : ¬x.size = y.size)] at this; simpa using this.symm
    have s3 : ((x.size : Int) == (y.size : Int)) = false := by simp; omega
    have s4 : decide ((x.size : Int) = (y.size : Int)) = false := by simp; omega
    have s5 : decide (x.size = y.size) = false := by simp; omega
    clear L1 g
    go_wp2_with fail
    refine (wCmpE H6.out _).mono ?_
    rintro e w7 ⟨rfl, hx⟩
    have hc_w7 := (ext_cell hx).1
    have hf_w7 := (ext_cell hx).2
    have HX_w7 := Lib.hid hx
    have y_w7 := hx.size
    try simp at y_w7
    have z_w7_w_0 : w.heap.size < w7.heap.size := by omega
    have z_w7_w_1 : w.heap.size + 1 < w7.heap.size := by omega
    have z_w7_w2_0 : w2.heap.size < w7.heap.size := by omega
    have z_w7_w3_0 : w3.heap.size < w7.heap.size := by omega
    have z_w7_w5_0 : w5.heap.size < w7.heap.size := by omega
    clear hx
    go_wp2_with fail
    refine (wCmpE H7.out _).mono ?_
    rintro e w8 ⟨rfl, hx⟩
    have hc_w8 := (ext_cell hx).1
    have hf_w8 := (ext_cell hx).2
    have HX_w8 := Lib.hid hx
    have y_w8 := hx.size
    try simp at y_w8
    have z_w8_w_0 : w.heap.size < w8.heap.size := by omega
    have z_w8_w_1 : w.heap.size + 1 < w8.heap.size := by omega
    have z_w8_w2_0 : w2.heap.size < w8.heap.size := by omega
    have z_w8_w3_0 : w3.heap.size < w8.heap.size := by omega
    have z_w8_w5_0 : w5.heap.size < w8.heap.size := by omega
    clear hx
    go_wp2
    go_ret
    refine ⟨rfl, ?_⟩
    · repeat (first | exact Ext.refl _ | refine Ext.alloc ?_ _ | (refine Ext.setCell ?_ (by simp <;> omega) _) | refine Ext.drew ?_ | refine Ext.trans ?_ HX_w8.out | refine Ext.trans ?_ HX_w7.out | refine Ext.trans ?_ HX_d1.out | refine Ext.trans ?_ HX_w6.out | refine Ext.trans ?_ HX_w5.out | refine Ext.trans ?_ HX_w4.out | refine Ext.trans ?_ HX_w3.out | refine Ext.trans ?_ HX_w2.out | refine Ext.trans ?_ HX_w1.out)
end Go.Proofs.Ytjjapblpmpidcab
