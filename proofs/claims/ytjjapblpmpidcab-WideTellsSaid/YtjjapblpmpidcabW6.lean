import Derived.Test.YtjjapblpmpidcabW2
set_option linter.unusedVariables false
set_option linter.unusedSimpArgs false
namespace Go.Proofs.Ytjjapblpmpidcab
open Go.RowKit Num UReg

/-! ### wide: Left, Cmp -/
theorem wide_Left_mid (ah al n : Int) (h1 : Word ah) (h2 : Word al) (n0 : 0 < n) (n1 : n < 64) (w : World) :
    Calls Try.prog 41 #[.agg #[.int .u64 ah, .int .u64 al], .int .i64 n] w fun e w' =>
      e = .returned (.agg #[.int .u64 (hi (shl (mk ah al) n)), .int .u64 (lo (shl (mk ah al) n))]) ∧ Ext w w' := by
  have E1 := Lib.hid (hi_shl_mid ah al n h1 h2 n0 n1)
  have E2 := Lib.hid (lo_shl_mid ah al n h1 h2 n0 n1)
  go_enter Try.func41, Try.ntmps41
  go_wp2
  go_region
  go_wp2
  refine bodyPost_ret (v := ?_) ?_ rfl ⟨?_, ?_⟩
  rotate_left
  · simp only [results, Try.results41]
    go_simp
    with_reducible rfl
  · rw [E1.out, E2.out]
  · repeat (first | exact Ext.refl _ | refine Ext.alloc ?_ _ | (refine Ext.setCell ?_ (by simp <;> omega) _) | refine Ext.drew ?_)
theorem wide_Left_neg (ah al n : Int) (h1 : Word ah) (h2 : Word al) (n0 : n ≤ 0) (w : World) :
    Calls Try.prog 41 #[.agg #[.int .u64 ah, .int .u64 al], .int .i64 n] w fun e w' =>
      e = .returned (.agg #[.int .u64 (hi (shl (mk ah al) n)), .int .u64 (lo (shl (mk ah al) n))]) ∧ Ext w w' := by
  have E1 := Lib.hid (hi_mk ah al h1 h2)
  have E2 := Lib.hid (lo_mk ah al h1 h2)
  have E3 := Lib.hid (shl_neg (mk ah al) n n0)
  go_enter Try.func41, Try.ntmps41
  go_wp2
  refine bodyPost_ret (v := ?_) ?_ rfl ⟨?_, ?_⟩
  rotate_left
  · simp only [results, Try.results41]
    go_simp
    with_reducible rfl
  · rw [E3.out, E1.out, E2.out]
  · repeat (first | exact Ext.refl _ | refine Ext.alloc ?_ _ | (refine Ext.setCell ?_ (by simp <;> omega) _) | refine Ext.drew ?_)
theorem wide_Left_big (ah al n : Int) (h1 : Word ah) (h2 : Word al) (n0 : 64 ≤ n) (n1 : n ≤ 128) (w : World) :
    Calls Try.prog 41 #[.agg #[.int .u64 ah, .int .u64 al], .int .i64 n] w fun e w' =>
      e = .returned (.agg #[.int .u64 (hi (shl (mk ah al) n)), .int .u64 (lo (shl (mk ah al) n))]) ∧ Ext w w' := by
  have E1 := Lib.hid (hi_shl_big ah al n h1 h2 n0)
  have E2 := Lib.hid (lo_shl_big ah al n h1 h2 n0)
  go_enter Try.func41, Try.ntmps41
  go_wp2
  refine bodyPost_ret (v := ?_) ?_ rfl ⟨?_, ?_⟩
  rotate_left
  · simp only [results, Try.results41]
    go_simp
    with_reducible rfl
  · rw [E1.out, E2.out]
  · repeat (first | exact Ext.refl _ | refine Ext.alloc ?_ _ | (refine Ext.setCell ?_ (by simp <;> omega) _) | refine Ext.drew ?_)
theorem wide_Left_all (ah al n : Int) (h1 : Word ah) (h2 : Word al) (n0 : 128 < n) (w : World) :
    Calls Try.prog 41 #[.agg #[.int .u64 ah, .int .u64 al], .int .i64 n] w fun e w' =>
      e = .returned (.agg #[.int .u64 (hi (shl (mk ah al) n)), .int .u64 (lo (shl (mk ah al) n))]) ∧ Ext w w' := by
  have E1 := Lib.hid (shl_all (mk ah al) n (by omega))
  have E2 := Lib.hid (show IntKind.u64.wrap (al * 18446744073709551616) = 0 by rw [IntKind.wrap_u64]; omega)
  go_enter Try.func41, Try.ntmps41
  go_wp2
  refine bodyPost_ret (v := ?_) ?_ rfl ⟨?_, ?_⟩
  rotate_left
  · simp only [results, Try.results41]
    go_simp
    with_reducible rfl
  · rw [E1.out, hi_zero, lo_zero, E2.out]
  · repeat (first | exact Ext.refl _ | refine Ext.alloc ?_ _ | (refine Ext.setCell ?_ (by simp <;> omega) _) | refine Ext.drew ?_)
theorem wLeft (a : V) (n : Int) (w : World) : Calls Try.prog 41 #[.agg #[.int .u64 (hi a), .int .u64 (lo a)], .int .i64 n] w fun e w' =>
    e = .returned (.agg #[.int .u64 (hi (shl a n)), .int .u64 (lo (shl a n))]) ∧ Ext w w' := by
  have h : Calls Try.prog 41 #[.agg #[.int .u64 (hi a), .int .u64 (lo a)], .int .i64 n] w fun e w' =>
      e = .returned (.agg #[.int .u64 (hi (shl (mk (hi a) (lo a)) n)), .int .u64 (lo (shl (mk (hi a) (lo a)) n))]) ∧ Ext w w' := by
    by_cases c0 : n ≤ 0
    · exact wide_Left_neg _ _ n (word_hi a) (word_lo a) c0 w
    by_cases c1 : n < 64
    · exact wide_Left_mid _ _ n (word_hi a) (word_lo a) (by omega) c1 w
    by_cases c2 : n ≤ 128
    · exact wide_Left_big _ _ n (word_hi a) (word_lo a) (by omega) c2 w
    · exact wide_Left_all _ _ n (word_hi a) (word_lo a) (by omega) w
  rwa [mk_hi_lo] at h

/-- How two numbers compare. -/
def cmpI (x y : Int) : Int := if x < y then -1 else if y < x then 1 else 0
def cmpV (a b : V) : Int := if a.toNat < b.toNat then -1 else if b.toNat < a.toNat then 1 else 0
theorem wNaN (x : Int) (w : World) : Calls Try.prog 73 #[.int .u64 x] w fun e w' => e = .returned (.bool false) ∧ Ext w w' := by
  go_enter Try.func73, Try.ntmps73
  go_wp2
  go_ret
  exact ⟨by simp, Ext.refl _⟩
theorem wCompare (x y : Int) (w : World) : Calls Try.prog 64 #[.int .u64 x, .int .u64 y] w fun e w' => e = .returned (.int .i64 (cmpI x y)) ∧ Ext w w' := by
  by_cases c1 : x < y
  · have E := Lib.hid (show cmpI x y = -1 by unfold cmpI; rw [if_pos c1])
    go_enter Try.func64, Try.ntmps64
    go_wp2_with fail
    refine (wNaN _ _).mono ?_
    rintro e w1 ⟨rfl, hx1⟩
    have HX_w1 := Lib.hid hx1; clear hx1
    go_wp2_with fail
    refine (wNaN _ _).mono ?_
    rintro e w2 ⟨rfl, hx2⟩
    have HX_w2 := Lib.hid hx2; clear hx2
    go_wp2
    go_ret
    exact ⟨by rw [E.out]; rfl, HX_w1.out.trans HX_w2.out⟩
  · by_cases c2 : y < x
    · have E := Lib.hid (show cmpI x y = 1 by unfold cmpI; rw [if_neg c1, if_pos c2])
      go_enter Try.func64, Try.ntmps64
      go_wp2_with fail
      refine (wNaN _ _).mono ?_
      rintro e w1 ⟨rfl, hx1⟩
      have HX_w1 := Lib.hid hx1; clear hx1
      go_wp2_with fail
      refine (wNaN _ _).mono ?_
      rintro e w2 ⟨rfl, hx2⟩
      have HX_w2 := Lib.hid hx2; clear hx2
      go_wp2
      go_ret
      exact ⟨by rw [E.out]; rfl, HX_w1.out.trans HX_w2.out⟩
    · have E := Lib.hid (show cmpI x y = 0 by unfold cmpI; rw [if_neg c1, if_neg c2])
      go_enter Try.func64, Try.ntmps64
      go_wp2_with fail
      refine (wNaN _ _).mono ?_
      rintro e w1 ⟨rfl, hx1⟩
      have HX_w1 := Lib.hid hx1; clear hx1
      go_wp2_with fail
      refine (wNaN _ _).mono ?_
      rintro e w2 ⟨rfl, hx2⟩
      have HX_w2 := Lib.hid hx2; clear hx2
      go_wp2
      go_ret
      exact ⟨by rw [E.out]; rfl, HX_w1.out.trans HX_w2.out⟩
theorem cmp_hi (a b : V) (h : hi a ≠ hi b) : cmpV a b = cmpI (hi a) (hi b) := by
  have h1 := toNat_eq a
  have h2 := toNat_eq b
  have a1 := word_lo a
  have a2 := word_lo b
  unfold Word at a1 a2
  unfold cmpV cmpI
  rcases Int.lt_trichotomy (hi a) (hi b) with c | c | c
  · rw [if_pos (by omega), if_pos c]
  · exact absurd c h
  · rw [if_neg (by omega), if_pos (by omega), if_neg (by omega), if_pos c]
theorem cmp_lo (a b : V) (h : hi a = hi b) : cmpV a b = cmpI (lo a) (lo b) := by
  have h1 := toNat_eq a
  have h2 := toNat_eq b
  unfold cmpV cmpI
  rw [h] at h1
  rcases Int.lt_trichotomy (lo a) (lo b) with c | c | c
  · rw [if_pos (by omega), if_pos c]
  · rw [if_neg (by omega), if_neg (by omega), if_neg (by omega), if_neg (by omega)]
  · rw [if_neg (by omega), if_pos (by omega), if_neg (by omega), if_pos c]
theorem wCmp (a b : V) (w : World) : Calls Try.prog 36 #[.agg #[.int .u64 (hi a), .int .u64 (lo a)], .agg #[.int .u64 (hi b), .int .u64 (lo b)]] w fun e w' =>
    e = .returned (.int .i64 (cmpV a b)) ∧ Ext w w' := by
  by_cases c : hi a = hi b
  · have E := Lib.hid (cmp_lo a b c)
    have t : (hi a == hi b) = true := by simp [c]
    have t2 : (hi a != hi b) = false := by simp [c]
    have t3 : decide (hi a = hi b) = true := by simp [c]
    clear c
    go_enter Try.func36, Try.ntmps36
    go_wp2_with fail
    refine (wCompare _ _ _).mono ?_
    rintro e w1 ⟨rfl, hx⟩
    have hc_w1 := (ext_cell hx).1
    have hf_w1 := (ext_cell hx).2
    have HX_w1 := Lib.hid hx
    have y_w1 := hx.size
    try simp at y_w1
    have z_w1_w_0 : w.heap.size < w1.heap.size := by omega
    have z_w1_w_1 : w.heap.size + 1 < w1.heap.size := by omega
    clear hx
    go_wp2
    go_ret
    refine ⟨by rw [E.out]; rfl, ?_⟩
    · repeat (first | exact Ext.refl _ | refine Ext.alloc ?_ _ | (refine Ext.setCell ?_ (by simp <;> omega) _) | refine Ext.drew ?_ | refine Ext.trans ?_ HX_w1.out)
  · have E := Lib.hid (cmp_hi a b c)
    have t : (hi a == hi b) = false := by simp [c]
    have t2 : (hi a != hi b) = true := by simp [c]
    have t3 : decide (hi a = hi b) = false := by simp [c]
    clear c
    go_enter Try.func36, Try.ntmps36
    go_wp2_with fail
    refine (wCompare _ _ _).mono ?_
    rintro e w1 ⟨rfl, hx⟩
    have hc_w1 := (ext_cell hx).1
    have hf_w1 := (ext_cell hx).2
    have HX_w1 := Lib.hid hx
    have y_w1 := hx.size
    try simp at y_w1
    have z_w1_w_0 : w.heap.size < w1.heap.size := by omega
    have z_w1_w_1 : w.heap.size + 1 < w1.heap.size := by omega
    clear hx
    go_wp2
    go_ret
    refine ⟨by rw [E.out]; rfl, ?_⟩
    · repeat (first | exact Ext.refl _ | refine Ext.alloc ?_ _ | (refine Ext.setCell ?_ (by simp <;> omega) _) | refine Ext.drew ?_ | refine Ext.trans ?_ HX_w1.out)
end Go.Proofs.Ytjjapblpmpidcab
