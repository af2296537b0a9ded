import Derived.Test.YtjjapblpmpidcabW9
set_option linter.unusedVariables false
set_option linter.unusedSimpArgs false
namespace Go.Proofs.Ytjjapblpmpidcab
open Go.RowKit Num UReg

/-! ### wide.Len, and what awake asks -/
def lenV (a : V) : Int := if 0 < hi a then 64 + (Lib.bitLen (hi a).toNat : Int) else (Lib.bitLen (lo a).toNat : Int)
theorem wLen64 (x : Int) (hx : Word x) (w : World) : Calls Try.prog 66 #[.int .u64 x] w fun e w' => e = .returned (.int .i64 (Lib.bitLen x.toNat)) ∧ Ext w w' :=
  (Try.bits_Len64 x w hx.1 (by have := hx.2; omega)).mono fun e w' h => ⟨h.1, by rw [h.2]; exact Ext.refl _⟩
theorem bitLenAux_le : ∀ f n, Lib.bitLenAux f n ≤ f
  | 0, n => by simp [Lib.bitLenAux]
  | f + 1, n => by
    rw [Lib.bitLenAux]
    split
    · omega
    · have := bitLenAux_le f (n / 2)
      omega
theorem bitLen_le (n : Nat) : Lib.bitLen n ≤ 64 := bitLenAux_le 64 n
theorem wLen (a : V) (w : World) : Calls Try.prog 45 #[.agg #[.int .u64 (hi a), .int .u64 (lo a)]] w fun e w' => e = .returned (.int .i64 (lenV a)) ∧ Ext w w' := by
  have hb := bitLen_le (hi a).toNat
  by_cases c : 0 < hi a
  · have E := Lib.hid (show lenV a = 64 + (Lib.bitLen (hi a).toNat : Int) by unfold lenV; rw [if_pos c])
    have t : decide (0 < hi a) = true := decide_eq_true c
    go_enter Try.func45, Try.ntmps45
    go_wp2_with fail
    refine (wLen64 _ (word_hi a) _).mono ?_
    rintro e w1 ⟨rfl, hx⟩
    have hc_w1 := (ext_cell hx).1
    have hf_w1 := (ext_cell hx).2
    have HX_w1 := Lib.hid hx
    have y_w1 := hx.size
    try simp at y_w1
    have z_w1_w_0 : w.heap.size < w1.heap.size := by omega
    clear hx
    go_wp2
    go_ret
    refine ⟨by rw [E.out]; rfl, ?_⟩
    · repeat (first | exact Ext.refl _ | refine Ext.alloc ?_ _ | (refine Ext.setCell ?_ (by simp <;> omega) _) | refine Ext.drew ?_ | refine Ext.trans ?_ HX_w1.out)
  · have E := Lib.hid (show lenV a = (Lib.bitLen (lo a).toNat : Int) by unfold lenV; rw [if_neg c])
    have t : decide (0 < hi a) = false := decide_eq_false c
    go_enter Try.func45, Try.ntmps45
    go_wp2_with fail
    refine (wLen64 _ (word_lo a) _).mono ?_
    rintro e w1 ⟨rfl, hx⟩
    have hc_w1 := (ext_cell hx).1
    have hf_w1 := (ext_cell hx).2
    have HX_w1 := Lib.hid hx
    have y_w1 := hx.size
    try simp at y_w1
    have z_w1_w_0 : w.heap.size < w1.heap.size := by omega
    clear hx
    go_wp2
    go_ret
    refine ⟨by rw [E.out]; rfl, ?_⟩
    · repeat (first | exact Ext.refl _ | refine Ext.alloc ?_ _ | (refine Ext.setCell ?_ (by simp <;> omega) _) | refine Ext.drew ?_ | refine Ext.trans ?_ HX_w1.out)
end Go.Proofs.Ytjjapblpmpidcab
