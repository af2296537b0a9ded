import Derived.Test.YtjjapblpmpidcaaXC
set_option linter.unusedVariables false
set_option linter.unusedSimpArgs false
namespace Go.Proofs.Ytjjapblpmpidcaa
open Go.RowKit Num UReg

/-- v reads as xs, from some place of a block on. -/
def ReadsAt (w : World) (k : IntKind) (v : Value) (xs : List Int) : Prop :=
  ∃ p cap, v = .slice p xs.length cap ∧ ∀ j (h : j < xs.length), ∃ g o, p = some ⟨g, o, none⟩ ∧ w.cell? ⟨g, o + j, none⟩ = some (.int k xs[j])
theorem ReadsAt.ext {w w' : World} {k : IntKind} {v : Value} {xs : List Int} (h : ReadsAt w k v xs) (x : Ext w w') : ReadsAt w' k v xs := by
  obtain ⟨p, cap, hv, hc⟩ := h
  refine ⟨p, cap, hv, fun j hj => ?_⟩
  obtain ⟨g, o, hp, hcell⟩ := hc j hj
  exact ⟨g, o, hp, x.cell hcell⟩
theorem rWordO (v : Value) (xs : List Int) (f : Nat) (w : World) (hr : ReadsAt w .i64 v xs) (hb : ∀ x ∈ xs, 0 ≤ x ∧ x ≤ 1) (hl : xs.length ≤ 1000) (hf : f ≤ 1000) :
    Calls Try.prog 94 #[v, .int .i64 f] w fun e w' => e = .returned (.int .u64 (wv xs f 64 : Nat)) ∧ Ext w w' := by
  obtain ⟨p, cp, rfl, hp⟩ := hr
  have HP := Lib.hid hp; clear hp
  have HB := Lib.hid hb; clear hb
  obtain ⟨L, hL⟩ : ∃ L, xs.length = L := ⟨_, rfl⟩
  rw [hL] at hl ⊢
  have HL := Lib.hid hL; clear hL
  go_enter Try.func94, Try.ntmps94
  go_wp2_with fail
  go_loopw [5, 6] (fun nv j wr => ∃ m : Nat, m ≤ 64 ∧ j = .int .i64 (63 - (m : Int)) ∧ nv = .int .u64 (wv xs f m : Nat) ∧ wr = w)
    (fun _ j _ => (intOf j + 1).toNat)
  case atStart =>
    exact ⟨0, by omega, rfl, rfl, rfl⟩
  case round =>
    obtain ⟨m, hm, rfl, rfl, rfl⟩ := hrel
    have b1 := wv_lt xs f HB.out m
    by_cases hlt : m < 64
    · have b2 : (2 : Nat) ^ m ≤ 2 ^ 63 := Nat.pow_le_pow_right (by decide) (by omega)
      obtain ⟨n, hn⟩ : ∃ n : Int, ((wv xs f m : Nat) : Int) = n := ⟨_, rfl⟩
      rw [hn]
      have n0 : 0 ≤ n := by omega
      have n1 : n < 9223372036854775808 := by omega
      have e0 : IntKind.u64.wrap (n * 2) = n * 2 := IntWalk.u64_in _ (by omega)
      obtain ⟨i, hi⟩ : ∃ i : Int, 63 - (m : Int) = i := ⟨_, rfl⟩
      have i0 : 0 ≤ i := by omega
      rw [hi]
      obtain ⟨q, hq⟩ : ∃ q, f + (63 - m) = q := ⟨_, rfl⟩
      have e1 : (f : Int) + i = (q : Int) := by omega
      have e2 : IntKind.i64.wrap (f + i) = (q : Int) := by rw [← e1]; exact IntWalk.i64_in _ (by omega)
      have hq1 : q ≤ 1063 := by omega
      have HI := Lib.hid hi; clear hi
      have HN := Lib.hid hn; clear hn
      clear b1 b2
      by_cases hc : q < L
      · have t1 : decide (q < L) = true := decide_eq_true hc
        have hc' : q < xs.length := by rw [HL.out]; exact hc
        obtain ⟨g, o, rfl, hg⟩ := HP.out q hc'
        have hx := HB.out _ (List.getElem_mem hc')
        obtain ⟨x, hxx⟩ : ∃ x, xs[q] = x := ⟨_, rfl⟩
        rw [hxx] at hg hx
        have hwv := wv_take xs f m (by rw [hq]; exact hc')
        have e3 : IntKind.u64.wrap x = x := IntWalk.u64_in _ (by omega)
        have e4 : IntKind.u64.wrap (n * 2 + x) = n * 2 + x := IntWalk.u64_in _ (by omega)
        obtain ⟨x0, x1⟩ := hx
        simp only [hq] at hwv
        rw [hxx] at hwv
        have HW := Lib.hid hwv; clear hwv
        have HX := Lib.hid hxx; clear hxx
        have HQ := Lib.hid hq; clear hq
        clear n1 HP
        go_wp2_with fail
        go_roundw
        case rel =>
          have e5 := HI.out
          refine ⟨m + 1, by omega, ?_, ?_, trivial⟩
          · congr 1; omega
          · rw [HW.out]
            have e6 := HN.out
            congr 1
            omega
        case measure => simp [intOf]; omega
      · have t1 : decide (q < L) = false := decide_eq_false hc
        have HQ := Lib.hid hq; clear hq
        have hwv := wv_skip xs f m (by rw [HL.out, HQ.out]; omega)
        have HW := Lib.hid hwv; clear hwv
        clear n1
        go_wp2_with fail
        go_roundw
        case rel =>
          have e5 := HI.out
          refine ⟨m + 1, by omega, ?_, ?_, trivial⟩
          · congr 1; omega
          · rw [HW.out]
            have e6 := HN.out
            congr 1
            omega
        case measure => simp [intOf]; omega
    · clear b1
      go_wp2_with fail
      go_ret
      obtain rfl : m = 64 := by omega
      exact ⟨rfl, Ext.refl _⟩
theorem rOfO (v : Value) (xs : List Int) (w : World) (hr : ReadsAt w .i64 v xs) (hb : ∀ x ∈ xs, 0 ≤ x ∧ x ≤ 1) (hl : xs.length ≤ 1000) :
    Calls Try.prog 83 #[v] w fun e w' => e = .returned (.agg #[.int .u64 (hi (ofBits xs)), .int .u64 (lo (ofBits xs))]) ∧ Ext w w' := by
  have e1 := hi_mk _ _ (word_wv xs 64 hb) (word_wv xs 0 hb)
  have e2 := lo_mk _ _ (word_wv xs 64 hb) (word_wv xs 0 hb)
  rw [show hi (ofBits xs) = _ from e1, show lo (ofBits xs) = _ from e2]
  clear e1 e2
  have H1 := Lib.hid fun w' (x : Ext w w') => rWordO v xs 64 w' (hr.ext x) hb hl (by omega)
  have H0 := Lib.hid fun w' (x : Ext w w') => rWordO v xs 0 w' (hr.ext x) hb hl (by omega)
  clear hr hb hl
  go_enter Try.func83, Try.ntmps83
  go_wp2_with fail
  refine (H1.out _ ((Ext.refl w).alloc _)).mono ?_
  rintro e w1 ⟨rfl, hx⟩
  have hc_w1 := (ext_cell hx).1
  have hf_w1 := (ext_cell hx).2
  have HX_w1 := Lib.hid hx
  have y_w1 := hx.size
  try simp at y_w1
  have z_w1_w_0 : w.heap.size < w1.heap.size := by omega
  clear hx
  have X1 := Lib.hid (((Ext.refl w).alloc (.cells #[.int .u64 0, .int .u64 0] 59)).trans HX_w1.out)
  go_wp2_with fail
  refine (H0.out _ X1.out).mono ?_
  rintro e w2 ⟨rfl, hx⟩
  have hc_w2 := (ext_cell hx).1
  have hf_w2 := (ext_cell hx).2
  have HX_w2 := Lib.hid hx
  have y_w2 := hx.size
  try simp at y_w2
  have z_w2_w_0 : w.heap.size < w2.heap.size := by omega
  clear hx
  go_wp2
  refine bodyPost_ret (v := ?_) ?_ rfl ⟨?_, ?_⟩
  rotate_left
  · simp only [results, Try.results83]
    go_simp
    with_reducible rfl
  · rfl
  · repeat (first | with_reducible exact Ext.refl _ | with_reducible refine Ext.alloc ?_ _ | (with_reducible refine Ext.setCell ?_ (by simp <;> omega) _) | with_reducible refine Ext.drew ?_ | with_reducible refine Ext.trans ?_ HX_w2.out | with_reducible refine Ext.trans ?_ HX_w1.out)

theorem ReadsAt.empty (w : World) (k : IntKind) (p : Option Addr) (c : Nat) : ReadsAt w k (.slice p 0 c) [] := ⟨p, c, rfl, fun j hj => absurd hj (by simp)⟩
end Go.Proofs.Ytjjapblpmpidcaa
