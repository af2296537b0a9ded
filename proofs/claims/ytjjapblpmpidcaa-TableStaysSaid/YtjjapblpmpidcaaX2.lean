import Derived.Test.YtjjapblpmpidcaaX1
set_option linter.unusedVariables false
set_option linter.unusedSimpArgs false
namespace Go.Proofs.Ytjjapblpmpidcaa
open Go.RowKit Num UReg

/-! ### Word: 64 bits of a list, from a place on -/
def wv (xs : List Int) (f : Nat) : Nat → Nat
  | 0 => 0
  | m + 1 => 2 * wv xs f m + (xs[f + (63 - m)]?.getD 0).toNat
theorem wv_lt (xs : List Int) (f : Nat) (hb : ∀ x ∈ xs, 0 ≤ x ∧ x ≤ 1) : ∀ m, wv xs f m < 2 ^ m
  | 0 => by simp [wv]
  | m + 1 => by
    have ih := wv_lt xs f hb m
    have h1 : (xs[f + (63 - m)]?.getD 0).toNat ≤ 1 := by
      cases h : xs[f + (63 - m)]? with
      | none => simp
      | some x => have := hb x (List.mem_of_getElem? h); simp; omega
    rw [wv, Nat.pow_succ]
    omega
theorem wv_skip (xs : List Int) (f m : Nat) (h : xs.length ≤ f + (63 - m)) : wv xs f (m + 1) = 2 * wv xs f m := by
  rw [wv, List.getElem?_eq_none h]
  rfl
theorem wv_take (xs : List Int) (f m : Nat) (h : f + (63 - m) < xs.length) : wv xs f (m + 1) = 2 * wv xs f m + (xs[f + (63 - m)]).toNat := by
  rw [wv, List.getElem?_eq_getElem h]
  rfl

theorem rWord (v : Value) (xs : List Int) (f : Nat) (w : World) (hr : Reads w .i64 v xs) (hb : ∀ x ∈ xs, 0 ≤ x ∧ x ≤ 1) (hl : xs.length ≤ 1000) (hf : f ≤ 1000) :
    Calls Try.prog 94 #[v, .int .i64 f] w fun e w' => e = .returned (.int .u64 (wv xs f 64 : Nat)) ∧ Ext w w' := by
  obtain ⟨p, cp, rfl, hp⟩ := hr.flat
  clear hr
  have HP := Lib.hid hp; clear hp
  have HB := Lib.hid hb; clear hb
  obtain ⟨L, hL⟩ : ∃ L, xs.length = L := ⟨_, rfl⟩
  rw [hL] at hl ⊢
  have HL := Lib.hid hL; clear hL
  go_enter Try.func94, Try.ntmps94
  go_wp2_with fail
  go_loopw [5, 6] (fun nv j wr => ∃ m : Nat, m ≤ 64 ∧ j = .int .i64 (63 - (m : Int)) ∧ nv = .int .u64 (wv xs f m : Nat) ∧ wr = w)
    (fun _ j _ => (intOf j + 1).toNat)
  case atStart =>
    exact ⟨0, by omega, rfl, rfl, rfl⟩
  case round =>
    obtain ⟨m, hm, rfl, rfl, rfl⟩ := hrel
    have b1 := wv_lt xs f HB.out m
    by_cases hlt : m < 64
    · have b2 : (2 : Nat) ^ m ≤ 2 ^ 63 := Nat.pow_le_pow_right (by decide) (by omega)
      obtain ⟨n, hn⟩ : ∃ n : Int, ((wv xs f m : Nat) : Int) = n := ⟨_, rfl⟩
      rw [hn]
      have n0 : 0 ≤ n := by omega
      have n1 : n < 9223372036854775808 := by omega
      have e0 : IntKind.u64.wrap (n * 2) = n * 2 := IntWalk.u64_in _ (by omega)
      obtain ⟨i, hi⟩ : ∃ i : Int, 63 - (m : Int) = i := ⟨_, rfl⟩
      have i0 : 0 ≤ i := by omega
      rw [hi]
      obtain ⟨q, hq⟩ : ∃ q, f + (63 - m) = q := ⟨_, rfl⟩
      have e1 : (f : Int) + i = (q : Int) := by omega
      have e2 : IntKind.i64.wrap (f + i) = (q : Int) := by rw [← e1]; exact IntWalk.i64_in _ (by omega)
      have hq1 : q ≤ 1063 := by omega
      have HI := Lib.hid hi; clear hi
      have HN := Lib.hid hn; clear hn
      clear b1 b2
      by_cases hc : q < L
      · have t1 : decide (q < L) = true := decide_eq_true hc
        have hc' : q < xs.length := by rw [HL.out]; exact hc
        obtain ⟨g, rfl, hg⟩ := HP.out q hc'
        have hx := HB.out _ (List.getElem_mem hc')
        obtain ⟨x, hxx⟩ : ∃ x, xs[q] = x := ⟨_, rfl⟩
        rw [hxx] at hg hx
        have hwv := wv_take xs f m (by rw [hq]; exact hc')
        have e3 : IntKind.u64.wrap x = x := IntWalk.u64_in _ (by omega)
        have e4 : IntKind.u64.wrap (n * 2 + x) = n * 2 + x := IntWalk.u64_in _ (by omega)
        obtain ⟨x0, x1⟩ := hx
        simp only [hq] at hwv
        rw [hxx] at hwv
        have HW := Lib.hid hwv; clear hwv
        have HX := Lib.hid hxx; clear hxx
        have HQ := Lib.hid hq; clear hq
        clear n1 HP
        go_wp2_with fail
        go_roundw
        case rel =>
          have e5 := HI.out
          refine ⟨m + 1, by omega, ?_, ?_, trivial⟩
          · congr 1; omega
          · rw [HW.out]
            have e6 := HN.out
            congr 1
            omega
        case measure => simp [intOf]; omega
      · have t1 : decide (q < L) = false := decide_eq_false hc
        have HQ := Lib.hid hq; clear hq
        have hwv := wv_skip xs f m (by rw [HL.out, HQ.out]; omega)
        have HW := Lib.hid hwv; clear hwv
        clear n1
        go_wp2_with fail
        go_roundw
        case rel =>
          have e5 := HI.out
          refine ⟨m + 1, by omega, ?_, ?_, trivial⟩
          · congr 1; omega
          · rw [HW.out]
            have e6 := HN.out
            congr 1
            omega
        case measure => simp [intOf]; omega
    · clear b1
      go_wp2_with fail
      go_ret
      obtain rfl : m = 64 := by omega
      exact ⟨rfl, Ext.refl _⟩
end Go.Proofs.Ytjjapblpmpidcaa
