import Derived.Test.YtjjapblpmpidcaaJ2
set_option linter.unusedVariables false
set_option linter.unusedSimpArgs false
namespace Go.Proofs.Ytjjapblpmpidcaa
open Go.RowKit UReg

def clampI (a : Int) : Int := if a < -1 then -1 else if 2147483647 < a then 2147483647 else a
set_option maxHeartbeats 1000000 in
theorem tCmp (h x a : Int) (h0 : 0 ≤ h) (h1 : h < 2147483647) (w : World) :
    Calls Try.prog 86 #[.agg #[.int .i64 h, .int .u64 x], .int .i64 a] w fun e w' => e = .returned (.int .i64 (h - clampI a)) ∧ Ext w w' := by
  obtain ⟨c, hc⟩ : ∃ c, clampI a = c := ⟨_, rfl⟩
  have hb : -1 ≤ c ∧ c ≤ 2147483647 := by
    rw [← hc]; unfold clampI
    split
    · omega
    · split <;> omega
  obtain ⟨b0, b1⟩ := hb
  have k1 : IntKind.i64.wrap (h - c) = h - c := IntWalk.i64_in _ (by omega)
  rw [hc]
  go_enter Try.func86, Try.ntmps86
  go_wp2
  all_goals
    go_ret
    refine ⟨?_, (Ext.refl _).alloc _⟩
    congr 2
    rw [← hc]
    unfold clampI
    by_cases q1 : a < -1
    · simp_all <;> omega
    · by_cases q2 : 2147483647 < a
      · simp_all <;> omega
      · simp_all <;> omega

/-! ### slices.BinarySearchFunc over rows -/
def cmpV : Value := .func (.func 86) #[] #[]
theorem clamp_lt {h a : Int} (h0 : 0 ≤ h) (h1 : h < 2147483647) : (h - clampI a < 0 ↔ h < a) ∧ (h - clampI a = 0 ↔ h = a) := by
  unfold clampI
  by_cases q1 : a < -1
  · rw [if_pos q1]; omega
  · rw [if_neg q1]
    by_cases q2 : 2147483647 < a
    · rw [if_pos q2]; omega
    · rw [if_neg q2]; omega
set_option maxRecDepth 100000 in
set_option maxHeartbeats 4000000 in
theorem tSearch {B : Nat} {v : Value} {L : List (Int × Int)} {w : World} (h : OwnP RT w B v L) (hL : L.length ≤ 16) (hb : ∀ r ∈ L, 0 ≤ r.1 ∧ r.1 < 2147483647) (a : Int) (I : Nat) (hI : I ≤ L.length) (hlt : ∀ j (hj : j < L.length), L[j].1 < a ↔ j < I)
    (F : Bool) (hF : F = true ↔ ∃ hj : I < L.length, L[I].1 = a) : Calls Try.prog 85 #[v, .int .i64 a, cmpV] w fun e w' => e = .returned (.tuple #[.int .i64 I, .bool F]) ∧ Ext w w' := by
  unfold cmpV
  obtain ⟨p, cap, rfl, hcap, hcm, hcells⟩ := h.flat
  clear h hcap hcm
  obtain ⟨n, hn⟩ : ∃ n, L.length = n := ⟨_, rfl⟩
  rw [hn] at hI hL ⊢
  have HN := Lib.hid hn; clear hn
  have HB := Lib.hid hb; clear hb
  have HL := Lib.hid hlt; clear hlt
  have HF := Lib.hid hF; clear hF
  have HC := Lib.hid hcells; clear hcells
  go_enter Try.func85, Try.ntmps85
  go_wp2_with fail
  go_loopw [9, 10, 11] (fun iv jv _ wr => ∃ i j : Nat, i ≤ I ∧ I ≤ j ∧ j ≤ n ∧ iv = .int .i64 i ∧ jv = .int .i64 j ∧ Ext w wr)
    (fun iv jv _ _ => (intOf jv - intOf iv).toNat)
  case atStart => exact ⟨0, n, by omega, hI, by omega, rfl, rfl, by first | exact Ext.refl _ | exact (Ext.refl _).drew⟩
  case round =>
    obtain ⟨i, j, h1, h2, h3, rfl, rfl, HX⟩ := hrel
    have HX_r := Lib.hid HX; clear HX
    by_cases hij : i < j
    · have hij' : (i : Int) < (j : Int) := by omega
      obtain ⟨m, hm⟩ : ∃ m, (i + j) / 2 = m := ⟨_, rfl⟩
      have hmj : m < j := by omega
      have him : i ≤ m := by omega
      have hmn : m < L.length := by rw [HN.out]; omega
      have k1 : IntKind.i64.wrap ((i : Int) + j) = (i : Int) + j := IntWalk.i64_in _ (by omega)
      have k2 : IntKind.u64.wrap ((i : Int) + j) = (i : Int) + j := IntWalk.u64_in _ (by omega)
      have k3 : ((i : Int) + j) / 2 = (m : Int) := by omega
      have k4 : IntKind.i64.wrap (m : Int) = m := IntWalk.i64_in _ (by omega)
      have k5 : IntKind.u64.wrap (m : Int) = m := IntWalk.u64_in _ (by omega)
      obtain ⟨g, rfl, _, hg, c1, c2⟩ := HC.out m hmn
      have hr := HB.out _ (List.getElem_mem hmn)
      have hlm := HL.out m hmn
      obtain ⟨⟨q, x⟩, hq⟩ : ∃ t, L[m] = t := ⟨_, rfl⟩
      rw [hq] at c1 c2 hr hlm
      simp only at c1 c2 hr hlm
      have c1 := HX_r.out.cell c1
      have c2 := HX_r.out.cell c2
      have z1 := HX_r.out.size
      have hg' : g < wr.heap.size := by omega
      have hcl := (clamp_lt (a := a) hr.1 hr.2).1
      have HCm := Lib.hid (tCmp q x a hr.1 hr.2)
      have HLm := Lib.hid hlm
      obtain ⟨y, hy⟩ : ∃ y, q - clampI a = y := ⟨_, rfl⟩
      rw [hy] at hcl HCm
      clear hq hy hlm hr
      by_cases hs : q < a
      · have hy : y < 0 := hcl.2 hs
        have t1 : decide (y < 0) = true := decide_eq_true hy
        have hs0 := hs
        clear hcl hs
        go_wp2_with fail
        refine (HCm.out _).mono ?_
        rintro e w1 ⟨rfl, hx⟩
        have X1 := Lib.hid (HX_r.out.trans hx)
        clear hx
        go_wp2_with fail
        go_roundw
        case rel => exact ⟨m + 1, j, by have := HLm.out.1 hs0; omega, h2, h3, by simp, rfl, X1.out⟩
        case measure => simp [intOf]; omega
      · have hy : ¬ y < 0 := fun c => hs (hcl.1 c)
        have t1 : decide (y < 0) = false := decide_eq_false hy
        have hs0 := hs
        clear hcl hs
        go_wp2_with fail
        refine (HCm.out _).mono ?_
        rintro e w1 ⟨rfl, hx⟩
        have X1 := Lib.hid (HX_r.out.trans hx)
        clear hx
        go_wp2_with fail
        go_roundw
        case rel => exact ⟨i, m, h1, by have : ¬ m < I := fun k => absurd (HLm.out.2 k) (by omega); omega, by omega, rfl, rfl, X1.out⟩
        case measure => simp [intOf]; omega
    · obtain rfl : i = I := by omega
      have hij' : ¬ (i : Int) < (j : Int) := by omega
      by_cases hn : i < n
      · have hn' : decide ((i : Int) < (n : Int)) = true := decide_eq_true (by omega)
        have hmn : i < L.length := by rw [HN.out]; omega
        obtain ⟨g, rfl, _, hg, c1, c2⟩ := HC.out i hmn
        have hr := HB.out _ (List.getElem_mem hmn)
        have hF := HF.out
        obtain ⟨⟨q, x⟩, hq⟩ : ∃ t, L[i] = t := ⟨_, rfl⟩
        have hF' : F = true ↔ q = a := by
          rw [hF]
          exact ⟨fun ⟨_, h⟩ => by rw [hq] at h; exact h, fun h => ⟨hmn, by rw [hq]; exact h⟩⟩
        rw [hq] at c1 c2 hr
        simp only at c1 c2 hr
        have c1 := HX_r.out.cell c1
        have c2 := HX_r.out.cell c2
        have z1 := HX_r.out.size
        have hg' : g < wr.heap.size := by omega
        have hcl := (clamp_lt (a := a) hr.1 hr.2).2
        have HCm := Lib.hid (tCmp q x a hr.1 hr.2)
        obtain ⟨y, hy⟩ : ∃ y, q - clampI a = y := ⟨_, rfl⟩
        rw [hy] at hcl HCm
        have t1 : decide (y = 0) = F := by
          rw [Bool.eq_iff_iff, hF', decide_eq_true_iff]
          exact hcl
        have t2 : (y == 0) = F := by rw [← t1]; rfl
        have hn2 : decide (i < n) = true := decide_eq_true hn
        clear hq hy hr hF hF' hcl HF
        cases F
        all_goals
          go_wp2_with fail
          refine (HCm.out _).mono ?_
          rintro e w1 ⟨rfl, hx⟩
          have X1 := Lib.hid (HX_r.out.trans hx)
          clear hx
          go_wp2
          go_ret2
          exact ⟨rfl, X1.out⟩
      · have hn' : decide ((i : Int) < (n : Int)) = false := decide_eq_false (by omega)
        have hF : F = false := by
          cases hf : F
          · rfl
          · obtain ⟨hj, _⟩ := HF.out.1 hf
            rw [HN.out] at hj
            omega
        have hn2 : decide (i < n) = false := decide_eq_false hn
        subst hF
        clear HF
        go_wp2
        go_ret2
        exact ⟨rfl, HX_r.out⟩
end Go.Proofs.Ytjjapblpmpidcaa
