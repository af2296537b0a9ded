import Derived.Test.YtjjapblpmpidcaaJ3
set_option linter.unusedVariables false
set_option linter.unusedSimpArgs false
namespace Go.Proofs.Ytjjapblpmpidcaa
open Go.RowKit UReg

/-! ### Where a handle lies, and what stands behind it -/
def pos (a : Int) : List (Int × Int) → Nat
  | [] => 0
  | r :: L => if r.1 < a then pos a L + 1 else 0
def has (a : Int) : List (Int × Int) → Bool
  | [] => false
  | r :: L => decide (r.1 = a) || has a L
def val (a : Int) : List (Int × Int) → Int
  | [] => 0
  | r :: L => if r.1 = a then r.2 else val a L
def dropL (a : Int) (L : List (Int × Int)) : List (Int × Int) := L.filter fun r => decide (r.1 ≠ a)
theorem pos_le (a : Int) : ∀ L : List (Int × Int), pos a L ≤ L.length
  | [] => Nat.le_refl _
  | r :: L => by
    unfold pos
    split
    · have := pos_le a L; simp; omega
    · simp
theorem pos_iff (a : Int) : ∀ L : List (Int × Int), L.Pairwise (fun a b => a.1 < b.1) → ∀ j (hj : j < L.length), L[j].1 < a ↔ j < pos a L
  | [], _, j, hj => absurd hj (by simp)
  | r :: L, hs, j, hj => by
    rw [List.pairwise_cons] at hs
    unfold pos
    by_cases h : r.1 < a
    · rw [if_pos h]
      cases j with
      | zero => simp [h]
      | succ j => simpa using pos_iff a L hs.2 j (by simpa using hj)
    · rw [if_neg h]
      cases j with
      | zero => simp; omega
      | succ j =>
        have := hs.1 (L[j]'(by simpa using hj)) (List.getElem_mem _)
        simp
        omega
theorem has_none (a : Int) : ∀ L : List (Int × Int), (∀ r ∈ L, a < r.1) → has a L = false
  | [], _ => rfl
  | r :: L, h => by
    have h1 := h r (by simp)
    rw [has, has_none a L fun r hr => h r (by simp [hr]), decide_eq_false (by omega)]
    rfl
theorem has_iff (a : Int) : ∀ L : List (Int × Int), L.Pairwise (fun a b => a.1 < b.1) → (has a L = true ↔ ∃ hj : pos a L < L.length, L[pos a L].1 = a)
  | [], _ => by simp [has]
  | r :: L, hs => by
    have hs' := hs
    rw [List.pairwise_cons] at hs
    have ih := has_iff a L hs.2
    unfold has pos
    by_cases h : r.1 < a
    · rw [decide_eq_false (by omega), Bool.false_or, ih]
      simp only [if_pos h]
      constructor
      · rintro ⟨hj, e⟩
        exact ⟨by simpa using hj, by simpa using e⟩
      · rintro ⟨hj, e⟩
        exact ⟨by simpa using hj, by simpa using e⟩
    · simp only [if_neg h]
      by_cases h2 : r.1 = a
      · simp [h2]
      · rw [has_none a L fun q hq => by have := hs.1 q hq; omega, decide_eq_false h2]
        simp [h2]
theorem val_pos (a : Int) : ∀ L : List (Int × Int), (∃ hj : pos a L < L.length, L[pos a L].1 = a) → ∃ hj : pos a L < L.length, L[pos a L] = (a, val a L)
  | [], h => by obtain ⟨hj, _⟩ := h; exact absurd hj (by simp)
  | r :: L, h => by
    obtain ⟨hj, e⟩ := h
    unfold pos val at *
    by_cases h1 : r.1 < a
    · simp only [if_pos h1] at hj e ⊢
      have e0 : (if r.1 = a then r.2 else val a L) = val a L := if_neg (by omega)
      simp only [e0]
      obtain ⟨hj', e'⟩ := val_pos a L ⟨by simpa using hj, by simpa using e⟩
      exact ⟨hj, by simpa using e'⟩
    · simp only [if_neg h1] at hj e ⊢
      have e2 : r.1 = a := by simpa using e
      exact ⟨hj, by simp [← e2]⟩
theorem val_none (a : Int) : ∀ L : List (Int × Int), has a L = false → val a L = 0
  | [], _ => rfl
  | r :: L, h => by
    rw [has, Bool.or_eq_false_iff, decide_eq_false_iff_not] at h
    rw [val, if_neg h.1, val_none a L h.2]
theorem filter_above (a : Int) (L : List (Int × Int)) (h : ∀ r ∈ L, a < r.1) : dropL a L = L := by
  unfold dropL
  rw [List.filter_eq_self]
  intro r hr
  have := h r hr
  simp; omega
theorem drop_erase (a : Int) : ∀ L : List (Int × Int), L.Pairwise (fun a b => a.1 < b.1) → has a L = true → L.eraseIdx (pos a L) = dropL a L
  | [], _, h => by cases h
  | r :: L, hs, h => by
    rw [List.pairwise_cons] at hs
    rw [has, Bool.or_eq_true, decide_eq_true_iff] at h
    unfold pos
    by_cases h1 : r.1 < a
    · rw [if_pos h1]
      rcases h with h | h
      · omega
      · rw [List.eraseIdx_cons_succ, drop_erase a L hs.2 h]
        unfold dropL
        rw [List.filter_cons_of_pos (by simp; omega)]
    · rw [if_neg h1]
      have e : r.1 = a := by
        rcases h with h | h
        · exact h
        · rw [has_none a L fun q hq => by have := hs.1 q hq; omega] at h
          cases h
      have := filter_above a L fun q hq => by have := hs.1 q hq; omega
      unfold dropL at *
      rw [List.eraseIdx_cons_zero, List.filter_cons_of_neg (by simp [e]), this]
theorem drop_none (a : Int) : ∀ L : List (Int × Int), has a L = false → dropL a L = L
  | [], _ => rfl
  | r :: L, h => by
    rw [has, Bool.or_eq_false_iff, decide_eq_false_iff_not] at h
    have := drop_none a L h.2
    unfold dropL at *
    rw [List.filter_cons_of_pos (by simp [h.1]), this]
theorem WT.drop {L : List (Int × Int)} {nx : Int} (w : WT L nx) (a : Int) : WT (dropL a L) nx :=
  ⟨Nat.le_trans (List.length_filter_le _ _) w.len, w.lo, w.hi, w.sorted.filter _, fun r hr => w.mem r (List.mem_filter.1 hr).1⟩

theorem tFind {B tb : Nat} {v : Value} {L : List (Int × Int)} {nx : Int} {w : World} (h : Tab RT B w tb v L nx) (hw : WT L nx) (a : Int) :
    Calls Try.prog 63 #[.pointer (some ⟨tb, 0, none⟩), .int .i64 a] w fun e w' => e = .returned (.tuple #[.int .i64 (pos a L), .bool (has a L)]) ∧ Ext w w' := by
  obtain ⟨c0, c1, f0, f1⟩ := h.cells.two
  have HS := Lib.hid (tSearch h.own hw.len (fun r hr => by have := hw.mem r hr; have := hw.hi; omega) a (pos a L) (pos_le a L) (pos_iff a L hw.sorted) (has a L) (has_iff a L hw.sorted))
  unfold cmpV at HS
  obtain ⟨p, cap, hv, _, _, _⟩ := h.own.flat
  subst hv
  obtain ⟨I, hI⟩ : ∃ I, pos a L = I := ⟨_, rfl⟩
  obtain ⟨F, hF⟩ : ∃ I, has a L = I := ⟨_, rfl⟩
  rw [hI, hF] at HS ⊢
  clear h hw hI hF
  go_enter Try.func63, Try.ntmps63
  go_wp2_with fail
  refine HS.out.mono ?_
  rintro e w1 ⟨rfl, hx⟩
  have hx := Lib.hid hx
  go_wp2
  go_ret2
  exact ⟨rfl, hx.out⟩
set_option maxHeartbeats 1000000 in
theorem tGet {B tb : Nat} {v : Value} {L : List (Int × Int)} {nx : Int} {w : World} (h : Tab RT B w tb v L nx) (hw : WT L nx) (a : Int) :
    Calls Try.prog 20 #[.pointer (some ⟨tb, 0, none⟩), .int .i64 a] w fun e w' => e = .returned (.tuple #[.int .u64 (val a L), .bool (has a L)]) ∧ Ext w w' := by
  have HF := Lib.hid (tFind h hw a)
  cases hh : has a L
  · rw [val_none a L hh]
    rw [hh] at HF
    clear h hw hh
    go_enter Try.func20, Try.ntmps20
    go_wp2_with fail
    refine HF.out.mono ?_
    rintro e w1 ⟨rfl, hx⟩
    have hx := Lib.hid hx
    go_wp2
    go_ret2
    exact ⟨rfl, hx.out⟩
  · rw [hh] at HF
    obtain ⟨hj, hval⟩ := val_pos a L ((has_iff a L hw.sorted).1 hh)
    obtain ⟨c0, c1, f0, f1⟩ := h.cells.two
    obtain ⟨p, cap, hv, _, _, hcells⟩ := h.own.flat
    have hlt := h.lt
    obtain ⟨g, rfl, _, hg, d0, d1⟩ := hcells _ hj
    rw [hval] at d0 d1
    simp only at d0 d1
    subst hv
    obtain ⟨x, hx⟩ : ∃ x, val a L = x := ⟨_, rfl⟩
    obtain ⟨I, hI⟩ : ∃ I, pos a L = I := ⟨_, rfl⟩
    obtain ⟨n, hn⟩ : ∃ n, L.length = n := ⟨_, rfl⟩
    rw [hI, hn] at hj
    rw [hI] at d0 d1 HF
    rw [hx] at d1 ⊢
    rw [hn] at c0
    have hj' : (I : Int) < (n : Int) := by omega
    clear h hw hh hval hcells hx hI hn
    go_enter Try.func20, Try.ntmps20
    go_wp2_with fail
    refine HF.out.mono ?_
    rintro e w1 ⟨rfl, hx⟩
    obtain ⟨hc, hf⟩ := ext_cell hx
    have hx := Lib.hid hx
    go_wp2
    go_ret2
    exact ⟨rfl, hx.out⟩
end Go.Proofs.Ytjjapblpmpidcaa
