import Derived.Test.YtjjapblpmpidcaaProg
import Derived.Test.YtjjapblpmpidcaaN
import Derived.Test.YtjjapblpmpidcaaB
import Derived.Test.YtjjapblpmpidcaaU
import Derived.Test.YtjjapblpmpidcaaSh
import Derived.WalkKit
import Derived.Laws.Externs
import Derived.RegionTactic
import Derived.Deep.QuietTactic
import Derived.BigQuiet
import Derived.Lib.Hide
set_option linter.unusedVariables false
set_option linter.unusedSimpArgs false
namespace Go.Proofs.Ytjjapblpmpidcaa
open Go.RowKit Num UReg

/-! ### The library's words -/
def sub64Entry : Array Value → Sem Value := fun args => do
  let (x, y, b) ← Extern.MathBitsCarry.three "Sub64" args
  pure (Extern.MathBitsCarry.pair ((x + Extern.MathBitsCarry.m64 - y - b) % Extern.MathBitsCarry.m64) (if x < y + b then 1 else 0))

theorem run_sub64 {P : Program} (x y b : Nat) (hb : b ≤ 1) (w : World) :
    (sub64Entry #[.int .u64 x, .int .u64 y, .int .u64 b]).run P w =
      .ok (.tuple #[.int .u64 (((x + 18446744073709551616 - y - b) % 18446744073709551616 : Nat) : Int), .int .u64 ((if x < y + b then 1 else 0 : Nat) : Int)]) w := by
  have : b = 0 ∨ b = 1 := by omega
  rcases this with rfl | rfl <;> rfl

theorem add64 (x y c : Int) (hx : 0 ≤ x) (hy : 0 ≤ y) (hc0 : 0 ≤ c) (hc : c ≤ 1) (w : World) : (callFunc 75 #[.int .u64 x, .int .u64 y, .int .u64 c]).run Try.prog w =
    .ok (.value (.tuple #[.int .u64 ((x + y + c) % 18446744073709551616), .int .u64 ((x + y + c) / 18446744073709551616)])) w := by
  rw [run_callFunc_extern Try.func75 (by kernel_rfl) (by kernel_rfl) (by kernel_rfl) (e := add64Entry) (by kernel_rfl), run_add64 x y c hx hy hc0 hc]
  rfl
theorem add64_0 (x y : Int) (hx : 0 ≤ x) (hy : 0 ≤ y) (w : World) : (callFunc 75 #[.int .u64 x, .int .u64 y, .int .u64 0]).run Try.prog w =
    .ok (.value (.tuple #[.int .u64 ((x + y) % 18446744073709551616), .int .u64 ((x + y) / 18446744073709551616)])) w := by
  simpa using add64 x y 0 hx hy (Int.le_refl 0) (by decide) w

theorem sub64 (x y b : Int) (hx : 0 ≤ x) (hy : 0 ≤ y) (hy' : y < 18446744073709551616) (hb0 : 0 ≤ b) (hb : b ≤ 1) (w : World) : (callFunc 87 #[.int .u64 x, .int .u64 y, .int .u64 b]).run Try.prog w =
    .ok (.value (.tuple #[.int .u64 ((x - y - b) % 18446744073709551616), .int .u64 (bor x (y + b))])) w := by
  obtain ⟨x, rfl⟩ := Int.eq_ofNat_of_zero_le hx
  obtain ⟨y, rfl⟩ := Int.eq_ofNat_of_zero_le hy
  obtain ⟨b, rfl⟩ := Int.eq_ofNat_of_zero_le hb0
  have e1 : (((x + 18446744073709551616 - y - b) % 18446744073709551616 : Nat) : Int) = ((x : Int) - y - b) % 18446744073709551616 := by omega
  have e2 : ((if x < y + b then 1 else 0 : Nat) : Int) = bor (x : Int) (y + b) := by unfold bor; split <;> split <;> omega
  rw [← e1, ← e2, run_callFunc_extern Try.func87 (by kernel_rfl) (by kernel_rfl) (by kernel_rfl) (e := sub64Entry) (by kernel_rfl), run_sub64 x y b (by omega)]
  rfl
theorem sub64_0 (x y : Int) (hx : 0 ≤ x) (hy : 0 ≤ y) (hy' : y < 18446744073709551616) (w : World) : (callFunc 87 #[.int .u64 x, .int .u64 y, .int .u64 0]).run Try.prog w =
    .ok (.value (.tuple #[.int .u64 ((x - y) % 18446744073709551616), .int .u64 (bor x y)])) w := by
  simpa using sub64 x y 0 hx hy hy' (Int.le_refl 0) (by decide) w

/-! ### Fields of a value -/
theorem fld_U0 (x y : Value) (w : World) : (Instr.field 54 (.agg #[x, y]) 0).run Try.prog w = .ok x w := by kernel_rfl
theorem fld_U1 (x y : Value) (w : World) : (Instr.field 54 (.agg #[x, y]) 1).run Try.prog w = .ok y w := by kernel_rfl
theorem fld_R0 (x y : Value) (w : World) : (Instr.field 59 (.agg #[x, y]) 0).run Try.prog w = .ok x w := by kernel_rfl
theorem fld_R1 (x y : Value) (w : World) : (Instr.field 59 (.agg #[x, y]) 1).run Try.prog w = .ok y w := by kernel_rfl
theorem fld_M0 (x y z t : Value) (w : World) : (Instr.field 56 (.agg #[x, y, z, t]) 0).run Try.prog w = .ok (.agg #[x, y]) w := by kernel_rfl
theorem fld_M1 (x y z t : Value) (w : World) : (Instr.field 56 (.agg #[x, y, z, t]) 1).run Try.prog w = .ok (.agg #[z, t]) w := by kernel_rfl
attribute [go_sem] fld_U0 fld_U1 fld_R0 fld_R1 fld_M0 fld_M1

/-! ### Equality of values -/
theorem eqU (d : Nat) (w : World) (x0 x1 y0 y1 : Int) :
    (Op.equalIn (d + 2) 54 (.agg #[.int .u64 x0, .int .u64 x1]) (.agg #[.int .u64 y0, .int .u64 y1])).run Try.prog w = .ok (decide (x0 = y0 ∧ x1 = y1)) w := by
  by_cases h0 : x0 = y0
  · subst h0
    by_cases h1 : x1 = y1
    · subst h1
      go_simp
    · go_simp
  · go_simp
theorem eqUV (d : Nat) (w : World) (a b : V) :
    (Op.equalIn (d + 2) 54 (.agg #[.int .u64 (hi a), .int .u64 (lo a)]) (.agg #[.int .u64 (hi b), .int .u64 (lo b)])).run Try.prog w = .ok (decide (a = b)) w := by
  rw [eqU]
  exact congrArg (fun x => Result.ok x w) (decide_eq_decide.2 ⟨fun h => v_ext h.1 h.2, fun h => by subst h; exact ⟨rfl, rfl⟩⟩)
theorem eqUZ (d : Nat) (w : World) (a : V) :
    (Op.equalIn (d + 2) 54 (.agg #[.int .u64 (hi a), .int .u64 (lo a)]) (.agg #[.int .u64 0, .int .u64 0])).run Try.prog w = .ok (decide (a = 0#128)) w := by
  have h := eqUV d w a 0#128
  rwa [hi_zero, lo_zero] at h
attribute [go_sem] eqU
attribute [go_sem high] eqUV eqUZ
theorem eqR (d : Nat) (w : World) (x0 x1 y0 y1 : Int) :
    (Op.equalIn (d + 2) 59 (.agg #[.int .u64 x0, .int .u64 x1]) (.agg #[.int .u64 y0, .int .u64 y1])).run Try.prog w = .ok (decide (x0 = y0 ∧ x1 = y1)) w := by
  by_cases h0 : x0 = y0
  · subst h0
    by_cases h1 : x1 = y1
    · subst h1
      go_simp
    · go_simp
  · go_simp
theorem eqRV (d : Nat) (w : World) (a b : V) :
    (Op.equalIn (d + 2) 59 (.agg #[.int .u64 (hi a), .int .u64 (lo a)]) (.agg #[.int .u64 (hi b), .int .u64 (lo b)])).run Try.prog w = .ok (decide (a = b)) w := by
  rw [eqR]
  exact congrArg (fun x => Result.ok x w) (decide_eq_decide.2 ⟨fun h => v_ext h.1 h.2, fun h => by subst h; exact ⟨rfl, rfl⟩⟩)
theorem eqRZ (d : Nat) (w : World) (a : V) :
    (Op.equalIn (d + 2) 59 (.agg #[.int .u64 (hi a), .int .u64 (lo a)]) (.agg #[.int .u64 0, .int .u64 0])).run Try.prog w = .ok (decide (a = 0#128)) w := by
  have h := eqRV d w a 0#128
  rwa [hi_zero, lo_zero] at h
attribute [go_sem] eqR
attribute [go_sem high] eqRV eqRZ
def same2 (a b a' b' : V) : Bool := decide (a = a' ∧ b = b')
theorem same2_refl (a b : V) : same2 a b a b = true := by simp [same2]
attribute [go_sem] same2_refl
theorem eqM (d : Nat) (w : World) (x0 x1 x2 x3 y0 y1 y2 y3 : Int) :
    (Op.equalIn (d + 3) 56 (.agg #[.int .u64 x0, .int .u64 x1, .int .u64 x2, .int .u64 x3]) (.agg #[.int .u64 y0, .int .u64 y1, .int .u64 y2, .int .u64 y3])).run Try.prog w = .ok (decide ((x0 = y0 ∧ x1 = y1) ∧ (x2 = y2 ∧ x3 = y3))) w := by
  by_cases h0 : x0 = y0 ∧ x1 = y1
  · obtain ⟨rfl, rfl⟩ := h0
    by_cases h1 : x2 = y2 ∧ x3 = y3
    · obtain ⟨rfl, rfl⟩ := h1
      go_simp
    · go_simp
      exact fun a b => h1 ⟨a, b⟩
  · go_simp
    exact fun a b _ _ => h0 ⟨a, b⟩
theorem eqMV (d : Nat) (w : World) (a b a' b' : V) :
    (Op.equalIn (d + 3) 56 (.agg #[.int .u64 (hi a), .int .u64 (lo a), .int .u64 (hi b), .int .u64 (lo b)]) (.agg #[.int .u64 (hi a'), .int .u64 (lo a'), .int .u64 (hi b'), .int .u64 (lo b')])).run Try.prog w = .ok (same2 a b a' b') w := by
  rw [eqM]
  exact congrArg (fun x => Result.ok x w) (decide_eq_decide.2 ⟨fun h => ⟨v_ext h.1.1 h.1.2, v_ext h.2.1 h.2.2⟩, fun h => by obtain ⟨rfl, rfl⟩ := h; exact ⟨⟨rfl, rfl⟩, ⟨rfl, rfl⟩⟩⟩)
theorem eqMZ (d : Nat) (w : World) (a b a' : V) :
    (Op.equalIn (d + 3) 56 (.agg #[.int .u64 (hi a), .int .u64 (lo a), .int .u64 (hi b), .int .u64 (lo b)]) (.agg #[.int .u64 (hi a'), .int .u64 (lo a'), .int .u64 0, .int .u64 0])).run Try.prog w = .ok (same2 a b a' 0#128) w := by
  have h := eqMV d w a b a' 0#128
  rwa [hi_zero, lo_zero] at h
theorem eqMZZ (d : Nat) (w : World) (a b : V) :
    (Op.equalIn (d + 3) 56 (.agg #[.int .u64 (hi a), .int .u64 (lo a), .int .u64 (hi b), .int .u64 (lo b)]) (.agg #[.int .u64 0, .int .u64 0, .int .u64 0, .int .u64 0])).run Try.prog w = .ok (same2 a b 0#128 0#128) w := by
  have h := eqMV d w a b 0#128 0#128
  rwa [hi_zero, lo_zero] at h
attribute [go_sem] eqM
attribute [go_sem high] eqMV eqMZ eqMZZ
theorem eqN (d : Nat) (w : World) (x0 x1 x2 x3 y0 y1 y2 y3 : Int) :
    (Op.equalIn (d + 3) 65 (.agg #[.int .u64 x0, .int .u64 x1, .int .u64 x2, .int .u64 x3]) (.agg #[.int .u64 y0, .int .u64 y1, .int .u64 y2, .int .u64 y3])).run Try.prog w = .ok (decide ((x0 = y0 ∧ x1 = y1) ∧ (x2 = y2 ∧ x3 = y3))) w := by
  by_cases h0 : x0 = y0 ∧ x1 = y1
  · obtain ⟨rfl, rfl⟩ := h0
    by_cases h1 : x2 = y2 ∧ x3 = y3
    · obtain ⟨rfl, rfl⟩ := h1
      go_simp
    · go_simp
      exact fun a b => h1 ⟨a, b⟩
  · go_simp
    exact fun a b _ _ => h0 ⟨a, b⟩
theorem eqNV (d : Nat) (w : World) (a b a' b' : V) :
    (Op.equalIn (d + 3) 65 (.agg #[.int .u64 (hi a), .int .u64 (lo a), .int .u64 (hi b), .int .u64 (lo b)]) (.agg #[.int .u64 (hi a'), .int .u64 (lo a'), .int .u64 (hi b'), .int .u64 (lo b')])).run Try.prog w = .ok (same2 a b a' b') w := by
  rw [eqN]
  exact congrArg (fun x => Result.ok x w) (decide_eq_decide.2 ⟨fun h => ⟨v_ext h.1.1 h.1.2, v_ext h.2.1 h.2.2⟩, fun h => by obtain ⟨rfl, rfl⟩ := h; exact ⟨⟨rfl, rfl⟩, ⟨rfl, rfl⟩⟩⟩)
theorem eqNZ (d : Nat) (w : World) (a b a' : V) :
    (Op.equalIn (d + 3) 65 (.agg #[.int .u64 (hi a), .int .u64 (lo a), .int .u64 (hi b), .int .u64 (lo b)]) (.agg #[.int .u64 (hi a'), .int .u64 (lo a'), .int .u64 0, .int .u64 0])).run Try.prog w = .ok (same2 a b a' 0#128) w := by
  have h := eqNV d w a b a' 0#128
  rwa [hi_zero, lo_zero] at h
theorem eqNZZ (d : Nat) (w : World) (a b : V) :
    (Op.equalIn (d + 3) 65 (.agg #[.int .u64 (hi a), .int .u64 (lo a), .int .u64 (hi b), .int .u64 (lo b)]) (.agg #[.int .u64 0, .int .u64 0, .int .u64 0, .int .u64 0])).run Try.prog w = .ok (same2 a b 0#128 0#128) w := by
  have h := eqNV d w a b 0#128 0#128
  rwa [hi_zero, lo_zero] at h
attribute [go_sem] eqN
attribute [go_sem high] eqNV eqNZ eqNZZ

/-! ### package wide -/
theorem wide_Of (n : Int) (hn : Word n) (w : World) :
    Calls Try.prog 42 #[.int .u64 n] w fun e w' => e = .returned (.agg #[.int .u64 (hi (of n)), .int .u64 (lo (of n))]) ∧ Ext w w' := by
  have e1 : hi (of n) = 0 := hi_of n hn
  have e2 : lo (of n) = n := lo_of n hn
  go_enter Try.func42, Try.ntmps42
  go_wp2
  refine bodyPost_ret (v := ?_) ?_ rfl ⟨?_, ?_⟩
  rotate_left
  · simp [results, Try.results42, go_sem]

    rfl
  · rw [e1, e2]
  · exact (Ext.refl _).alloc _

theorem mul64 (x y : Int) (hx : Word x) (hy : Word y) (w : World) :
    Calls Try.prog 76 #[.int .u64 x, .int .u64 y] w fun e w' => e = .returned (.tuple #[.int .u64 (x * y / 18446744073709551616), .int .u64 (x * y % 18446744073709551616)]) ∧ w = w' := by
  obtain ⟨x, rfl⟩ := Int.eq_ofNat_of_zero_le hx.1
  obtain ⟨y, rfl⟩ := Int.eq_ofNat_of_zero_le hy.1
  have h1 := hx.2
  have h2 := hy.2
  refine (Try.bits_Mul64 x y (by omega) (by omega) w).mono ?_
  rintro e w' ⟨rfl, rfl⟩
  exact ⟨by simp, rfl⟩

theorem wide_Full (x y : Int) (hx : Word x) (hy : Word y) (w : World) :
    Calls Try.prog 41 #[.int .u64 x, .int .u64 y] w fun e w' => e = .returned (.agg #[.int .u64 (hi (full x y)), .int .u64 (lo (full x y))]) ∧ Ext w w' := by
  have e1 := hi_full x y hx hy
  have e2 := lo_full x y hx hy
  have E1 := Lib.hid e1; clear e1
  have E2 := Lib.hid e2; clear e2
  go_enter Try.func41, Try.ntmps41
  go_wp2_with (go_at_call 76; refine (mul64 _ _ hx hy _).mono ?_; rintro e w' ⟨rfl, rfl⟩)
  refine bodyPost_ret (v := ?_) ?_ rfl ⟨?_, ?_⟩
  rotate_left
  · simp only [results, Try.results41]
    go_simp
    with_reducible rfl
  · rw [E1.out, E2.out]
  · repeat (first | with_reducible exact Ext.refl _ | with_reducible refine Ext.alloc ?_ _ | (with_reducible refine Ext.setCell ?_ (by simp <;> omega) _) | with_reducible refine Ext.drew ?_)

theorem wide_Add (ah al bh bl : Int) (h1 : Word ah) (h2 : Word al) (h3 : Word bh) (h4 : Word bl) (w : World) :
    Calls Try.prog 40 #[.agg #[.int .u64 ah, .int .u64 al], .agg #[.int .u64 bh, .int .u64 bl]] w fun e w' =>
      e = .returned (.tuple #[.agg #[.int .u64 (hi (mk ah al + mk bh bl)), .int .u64 (lo (mk ah al + mk bh bl))], .bool (over (mk ah al) (mk bh bl))]) ∧ Ext w w' := by
  have e1 := hi_add (mk ah al) (mk bh bl)
  have e2 := lo_add (mk ah al) (mk bh bl)
  have e3 := over_eq (mk ah al) (mk bh bl)
  rw [hi_mk _ _ h1 h2, lo_mk _ _ h1 h2, hi_mk _ _ h3 h4, lo_mk _ _ h3 h4] at e1 e3
  rw [lo_mk _ _ h1 h2, lo_mk _ _ h3 h4] at e2
  have E1 := Lib.hid e1; clear e1
  have E2 := Lib.hid e2; clear e2
  have E3 := Lib.hid e3; clear e3
  obtain ⟨a1, a2⟩ := h1; obtain ⟨b1, b2⟩ := h2; obtain ⟨c1, c2⟩ := h3; obtain ⟨d1, d2⟩ := h4
  have k0 : 0 ≤ (al + bl) / 18446744073709551616 := by omega
  have k1 : (al + bl) / 18446744073709551616 ≤ 1 := by omega
  go_enter Try.func40, Try.ntmps40
  go_wp2_with (first | simp only [add64_0 al bl b1 d1] | simp only [add64 ah bh _ a1 c1 k0 k1])
  refine bodyPost_ret (v := ?_) ?_ rfl ⟨?_, ?_⟩
  rotate_left
  · simp only [results, Try.results40]
    go_simp
    with_reducible rfl
  · rw [E1.out, E2.out, E3.out]
  · repeat (first | with_reducible exact Ext.refl _ | with_reducible refine Ext.alloc ?_ _ | (with_reducible refine Ext.setCell ?_ (by simp <;> omega) _) | with_reducible refine Ext.drew ?_)

theorem wide_Sub (ah al bh bl : Int) (h1 : Word ah) (h2 : Word al) (h3 : Word bh) (h4 : Word bl) (w : World) :
    Calls Try.prog 65 #[.agg #[.int .u64 ah, .int .u64 al], .agg #[.int .u64 bh, .int .u64 bl]] w fun e w' =>
      e = .returned (.tuple #[.agg #[.int .u64 (hi (mk ah al - mk bh bl)), .int .u64 (lo (mk ah al - mk bh bl))], .bool (less (mk ah al) (mk bh bl))]) ∧ Ext w w' := by
  have e1 := hi_sub (mk ah al) (mk bh bl)
  have e2 := lo_sub (mk ah al) (mk bh bl)
  have e3 := less_eq (mk ah al) (mk bh bl)
  rw [hi_mk _ _ h1 h2, lo_mk _ _ h1 h2, hi_mk _ _ h3 h4, lo_mk _ _ h3 h4] at e1 e3
  rw [lo_mk _ _ h1 h2, lo_mk _ _ h3 h4] at e2
  have E1 := Lib.hid e1; clear e1
  have E2 := Lib.hid e2; clear e2
  have E3 := Lib.hid e3; clear e3
  obtain ⟨a1, a2⟩ := h1; obtain ⟨b1, b2⟩ := h2; obtain ⟨c1, c2⟩ := h3; obtain ⟨d1, d2⟩ := h4
  obtain ⟨k0, k1⟩ := bor_01 al bl
  go_enter Try.func65, Try.ntmps65
  go_wp2_with (first | simp only [sub64_0 al bl b1 d1 d2] | simp only [sub64 ah bh _ a1 c1 c2 k0 k1])
  refine bodyPost_ret (v := ?_) ?_ rfl ⟨?_, ?_⟩
  rotate_left
  · simp only [results, Try.results65]
    go_simp
    with_reducible rfl
  · rw [E1.out, E2.out, E3.out]
  · repeat (first | with_reducible exact Ext.refl _ | with_reducible refine Ext.alloc ?_ _ | (with_reducible refine Ext.setCell ?_ (by simp <;> omega) _) | with_reducible refine Ext.drew ?_)

set_option maxHeartbeats 400000 in
theorem wide_Mul (ah al bh bl : Int) (h1 : Word ah) (h2 : Word al) (h3 : Word bh) (h4 : Word bl) (w : World) :
    Calls Try.prog 44 #[.agg #[.int .u64 ah, .int .u64 al], .agg #[.int .u64 bh, .int .u64 bl]] w fun e w' =>
      e = .returned (.agg #[.int .u64 (hi (mk ah al * mk bh bl)), .int .u64 (lo (mk ah al * mk bh bl))]) ∧ Ext w w' := by
  have e1 : hi (mk ah al * mk bh bl) = IntKind.u64.wrap (hi (full al bl) + IntKind.u64.wrap (IntKind.u64.wrap (ah * bl) + IntKind.u64.wrap (al * bh))) := by
    rw [hi_mul ah al bh bl h1 h2 h3 h4, hi_full _ _ h2 h4]
    simp only [IntKind.wrap_u64]
    omega
  have e2 : lo (mk ah al * mk bh bl) = lo (full al bl) := by rw [lo_mul ah al bh bl h1 h2 h3 h4, lo_full _ _ h2 h4]
  have E1 := Lib.hid e1; clear e1
  have E2 := Lib.hid e2; clear e2
  go_enter Try.func44, Try.ntmps44
  go_wp2_with fail
  refine (wide_Full _ _ h2 h4 _).mono ?_
  rintro e w1 ⟨rfl, hx⟩
  have hc_w1 := (ext_cell hx).1
  have hf_w1 := (ext_cell hx).2
  have HX_w1 := Lib.hid hx
  have y_w1 := hx.size
  try simp at y_w1
  have z_w1_w_0 : w.heap.size < w1.heap.size := by omega
  have z_w1_w_1 : w.heap.size + 1 < w1.heap.size := by omega
  have z_w1_w_2 : w.heap.size + 2 < w1.heap.size := by omega
  clear hx
  go_wp2
  refine bodyPost_ret (v := ?_) ?_ rfl ⟨?_, ?_⟩
  rotate_left
  · simp only [results, Try.results44]
    go_simp
    with_reducible rfl
  · rw [E1.out, E2.out]
  · repeat (first | with_reducible exact Ext.refl _ | with_reducible refine Ext.alloc ?_ _ | (with_reducible refine Ext.setCell ?_ (by simp <;> omega) _) | with_reducible refine Ext.drew ?_ | with_reducible refine Ext.trans ?_ HX_w1.out)

theorem wide_Right_mid (ah al n : Int) (h1 : Word ah) (h2 : Word al) (n0 : 0 < n) (n1 : n < 64) (w : World) :
    Calls Try.prog 72 #[.agg #[.int .u64 ah, .int .u64 al], .int .i64 n] w fun e w' =>
      e = .returned (.agg #[.int .u64 (hi (shr (mk ah al) n)), .int .u64 (lo (shr (mk ah al) n))]) ∧ Ext w w' := by
  have E1 := Lib.hid (hi_shr_mid ah al n h1 h2 n0 n1)
  have E2 := Lib.hid (lo_shr_mid ah al n h1 h2 n0 n1)
  go_enter Try.func72, Try.ntmps72
  go_wp2
  go_region
  go_wp2
  refine bodyPost_ret (v := ?_) ?_ rfl ⟨?_, ?_⟩
  rotate_left
  · simp only [results, Try.results72]
    go_simp
    with_reducible rfl
  · rw [E1.out, E2.out]
  · repeat (first | with_reducible exact Ext.refl _ | with_reducible refine Ext.alloc ?_ _ | (with_reducible refine Ext.setCell ?_ (by simp <;> omega) _) | with_reducible refine Ext.drew ?_)
theorem wide_Right_neg (ah al n : Int) (h1 : Word ah) (h2 : Word al) (n0 : n ≤ 0) (w : World) :
    Calls Try.prog 72 #[.agg #[.int .u64 ah, .int .u64 al], .int .i64 n] w fun e w' =>
      e = .returned (.agg #[.int .u64 (hi (shr (mk ah al) n)), .int .u64 (lo (shr (mk ah al) n))]) ∧ Ext w w' := by
  have E1 := Lib.hid (hi_mk ah al h1 h2)
  have E2 := Lib.hid (lo_mk ah al h1 h2)
  have E3 := Lib.hid (shr_neg (mk ah al) n n0)
  go_enter Try.func72, Try.ntmps72
  go_wp2
  refine bodyPost_ret (v := ?_) ?_ rfl ⟨?_, ?_⟩
  rotate_left
  · simp only [results, Try.results72]
    go_simp
    with_reducible rfl
  · rw [E3.out, E1.out, E2.out]
  · repeat (first | with_reducible exact Ext.refl _ | with_reducible refine Ext.alloc ?_ _ | (with_reducible refine Ext.setCell ?_ (by simp <;> omega) _) | with_reducible refine Ext.drew ?_)
theorem wide_Right_big (ah al n : Int) (h1 : Word ah) (h2 : Word al) (n0 : 64 ≤ n) (n1 : n ≤ 128) (w : World) :
    Calls Try.prog 72 #[.agg #[.int .u64 ah, .int .u64 al], .int .i64 n] w fun e w' =>
      e = .returned (.agg #[.int .u64 (hi (shr (mk ah al) n)), .int .u64 (lo (shr (mk ah al) n))]) ∧ Ext w w' := by
  have E1 := Lib.hid (hi_shr_big ah al n h1 h2 n0)
  have E2 := Lib.hid (lo_shr_big ah al n h1 h2 n0)
  go_enter Try.func72, Try.ntmps72
  go_wp2
  refine bodyPost_ret (v := ?_) ?_ rfl ⟨?_, ?_⟩
  rotate_left
  · simp only [results, Try.results72]
    go_simp
    with_reducible rfl
  · rw [E1.out, E2.out]
  · repeat (first | with_reducible exact Ext.refl _ | with_reducible refine Ext.alloc ?_ _ | (with_reducible refine Ext.setCell ?_ (by simp <;> omega) _) | with_reducible refine Ext.drew ?_)
theorem wide_Right_all (ah al n : Int) (h1 : Word ah) (h2 : Word al) (n0 : 128 < n) (w : World) :
    Calls Try.prog 72 #[.agg #[.int .u64 ah, .int .u64 al], .int .i64 n] w fun e w' =>
      e = .returned (.agg #[.int .u64 (hi (shr (mk ah al) n)), .int .u64 (lo (shr (mk ah al) n))]) ∧ Ext w w' := by
  have E1 := Lib.hid (shr_all (mk ah al) n (by omega))
  have E2 := Lib.hid (show ah / 18446744073709551616 = 0 by have := h1.1; have := h1.2; omega)
  go_enter Try.func72, Try.ntmps72
  go_wp2
  refine bodyPost_ret (v := ?_) ?_ rfl ⟨?_, ?_⟩
  rotate_left
  · simp only [results, Try.results72]
    go_simp
    with_reducible rfl
  · rw [E1.out, hi_zero, lo_zero, E2.out]
  · repeat (first | with_reducible exact Ext.refl _ | with_reducible refine Ext.alloc ?_ _ | (with_reducible refine Ext.setCell ?_ (by simp <;> omega) _) | with_reducible refine Ext.drew ?_)
theorem wide_Right (ah al n : Int) (h1 : Word ah) (h2 : Word al) (w : World) :
    Calls Try.prog 72 #[.agg #[.int .u64 ah, .int .u64 al], .int .i64 n] w fun e w' =>
      e = .returned (.agg #[.int .u64 (hi (shr (mk ah al) n)), .int .u64 (lo (shr (mk ah al) n))]) ∧ Ext w w' := by
  by_cases c0 : n ≤ 0
  · exact wide_Right_neg ah al n h1 h2 c0 w
  by_cases c1 : n < 64
  · exact wide_Right_mid ah al n h1 h2 (by omega) c1 w
  by_cases c2 : n ≤ 128
  · exact wide_Right_big ah al n h1 h2 (by omega) c2 w
  · exact wide_Right_all ah al n h1 h2 (by omega) w
theorem wide_Bit (ah al n : Int) (h1 : Word ah) (h2 : Word al) (w : World) :
    Calls Try.prog 43 #[.agg #[.int .u64 ah, .int .u64 al], .int .i64 n] w fun e w' =>
      e = .returned (.int .i64 (bit (mk ah al) n)) ∧ Ext w w' := by
  by_cases c : n < 0
  · have E1 := Lib.hid (show bit (mk ah al) n = 0 by unfold bit; rw [if_pos c])
    go_enter Try.func43, Try.ntmps43
    go_wp2
    go_ret
    exact ⟨by rw [E1.out]; rfl, (Ext.refl _).alloc _⟩
  · have E1 := Lib.hid (show bit (mk ah al) n = wrap64 (bits BinOp.and IntKind.u64 (lo (shr (mk ah al) n)) 1) by
      unfold bit wrap64
      rw [if_neg c, bits_and_1 _ (word_lo (shr (mk ah al) n))]
      omega)
    go_enter Try.func43, Try.ntmps43
    go_wp2_with fail
    refine (wide_Right _ _ n h1 h2 _).mono ?_
    rintro e w1 ⟨rfl, hx⟩
    have hc_w1 := (ext_cell hx).1
    have hf_w1 := (ext_cell hx).2
    have HX_w1 := Lib.hid hx
    have y_w1 := hx.size
    try simp at y_w1
    have z_w1_w_0 : w.heap.size < w1.heap.size := by omega
    clear hx
    go_wp2
    go_ret
    refine ⟨by rw [E1.out]; rfl, ?_⟩
    · repeat (first | with_reducible exact Ext.refl _ | with_reducible refine Ext.alloc ?_ _ | (with_reducible refine Ext.setCell ?_ (by simp <;> omega) _) | with_reducible refine Ext.drew ?_ | with_reducible refine Ext.trans ?_ HX_w1.out)
end Go.Proofs.Ytjjapblpmpidcaa
