import Derived.Test.YtjjapblpmpidcabY3
import Derived.Lib.Bytes
set_option linter.unusedVariables false
set_option linter.unusedSimpArgs false
namespace Go.Proofs.Ytjjapblpmpidcab
open Go.RowKit Num UReg

/-! ### Digits of ten, the lowest one first -/
def valL : List Int → Int
  | [] => 0
  | d :: t => d + 10 * valL t
theorem valL_append (s t : List Int) : valL (s ++ t) = valL s + 10 ^ s.length * valL t := by
  induction s with
  | nil => simp [valL]
  | cons d s ih =>
    simp only [List.cons_append, valL, ih, List.length_cons, Int.pow_succ]
    generalize (10 : Int) ^ s.length = p
    generalize valL s = x
    generalize valL t = y
    grind
theorem valL_set (D : List Int) (k : Nat) (h : k < D.length) (d : Int) : valL (D.set k d) = valL D + (d - D[k]) * 10 ^ k := by
  induction D generalizing k with
  | nil => simp at h
  | cons x t ih =>
    cases k with
    | zero => simp [valL]; omega
    | succ k =>
      simp only [List.set_cons_succ, valL, List.getElem_cons_succ, Int.pow_succ]
      rw [ih k (by simpa using h)]
      generalize (10 : Int) ^ k = p
      generalize valL t = y
      generalize t[k]'(by simpa using h) = z
      grind
theorem valL_take (D : List Int) (k : Nat) (h : k < D.length) : valL (D.take (k + 1)) = valL (D.take k) + D[k] * 10 ^ k := by
  rw [List.take_add_one, valL_append, List.length_take, Nat.min_eq_left (Nat.le_of_lt h), List.getElem?_eq_getElem h]
  simp [valL]
  grind
def Digs (D : List Int) : Prop := ∀ x ∈ D, 0 ≤ x ∧ x ≤ 9
theorem valL_nonneg (D : List Int) (h : Digs D) : 0 ≤ valL D := by
  induction D with
  | nil => simp [valL]
  | cons d t ih =>
    have h1 := h d (List.mem_cons_self ..)
    have h2 := ih (fun x hx => h x (List.mem_cons_of_mem _ hx))
    simp only [valL]
    omega
def Canon (D : List Int) : Prop := Digs D ∧ 1 ≤ D.length ∧ (D.length = 1 ∨ (10 : Int) ^ (D.length - 1) ≤ valL D)
def Dbl (D : List Int) (b : Int) (E : List Int) (c : Int) (k : Nat) : Prop :=
  E.length = D.length ∧ Digs E ∧ 0 ≤ c ∧ c ≤ 1 ∧ valL E + c * 10 ^ k = valL D + valL (D.take k) + b ∧ ∀ j, k ≤ j → E[j]? = D[j]?
theorem dbl_start (D : List Int) (h : Digs D) (b : Int) (hb : 0 ≤ b ∧ b ≤ 1) : Dbl D b D b 0 :=
  ⟨rfl, h, hb.1, hb.2, by simp [valL], fun _ _ => rfl⟩
theorem digs_get {D : List Int} (h : Digs D) (k : Nat) (hk : k < D.length) : 0 ≤ D[k] ∧ D[k] ≤ 9 := h _ (List.getElem_mem hk)
theorem dbl_step {D E : List Int} {b c : Int} {k : Nat} (h : Dbl D b E c k) (hk : k < E.length) :
    Dbl D b (E.set k ((2 * E[k] + c) % 10)) ((2 * E[k] + c) / 10) (k + 1) := by
  obtain ⟨h1, h2, h3, h4, h5, h6⟩ := h
  have hx := digs_get h2 k hk
  have hkD : k < D.length := by omega
  have he : E[k] = D[k] := by
    have := h6 k (Nat.le_refl _)
    rw [List.getElem?_eq_getElem hk, List.getElem?_eq_getElem hkD] at this
    exact Option.some.inj this
  refine ⟨by simpa using h1, ?_, by omega, by omega, ?_, ?_⟩
  · intro x hx'
    rcases List.mem_or_eq_of_mem_set hx' with h | h
    · exact h2 x h
    · omega
  · rw [valL_set E k hk, valL_take D k hkD, Int.pow_succ, ← he]
    have hq : 2 * E[k] + c = (2 * E[k] + c) % 10 + 10 * ((2 * E[k] + c) / 10) := by omega
    generalize (2 * E[k] + c) % 10 = r at *
    generalize (2 * E[k] + c) / 10 = q at *
    generalize E[k] = x at *
    generalize (10 : Int) ^ k = p at *
    generalize valL E = vE at *
    generalize valL D = vD at *
    generalize valL (List.take k D) = vT at *
    clear h6 he
    grind
  · intro j hj
    rw [List.getElem?_set_ne (by omega)]
    exact h6 j (by omega)
theorem dbl_end {D E : List Int} {b c : Int} (h : Dbl D b E c D.length) : valL E + c * 10 ^ D.length = 2 * valL D + b := by
  obtain ⟨h1, h2, h3, h4, h5, h6⟩ := h
  rw [List.take_length] at h5
  omega
theorem canon_end0 {D E : List Int} {b : Int} (hD : Canon D) (hb : 0 ≤ b) (h : Dbl D b E 0 D.length) : Canon E ∧ valL E = 2 * valL D + b := by
  have he := dbl_end h
  obtain ⟨h1, h2, h3, h4, h5, h6⟩ := h
  have hn := valL_nonneg D hD.1
  have e : valL E = 2 * valL D + b := by omega
  refine ⟨⟨h2, by rw [h1]; exact hD.2.1, ?_⟩, e⟩
  rw [h1]
  rcases hD.2.2 with h | h
  · exact .inl h
  · exact .inr (by omega)
theorem canon_end1 {D E : List Int} {b : Int} (hD : Canon D) (h : Dbl D b E 1 D.length) : Canon (E ++ [1]) ∧ valL (E ++ [1]) = 2 * valL D + b := by
  have he := dbl_end h
  obtain ⟨h1, h2, h3, h4, h5, h6⟩ := h
  have hn := valL_nonneg E h2
  have e : valL (E ++ [1]) = valL E + 10 ^ E.length := by rw [valL_append]; simp [valL]
  refine ⟨⟨?_, by simp, .inr ?_⟩, ?_⟩
  · intro x hx
    rw [List.mem_append] at hx
    rcases hx with hx | hx
    · exact h2 x hx
    · simp at hx; omega
  · rw [e]
    simp
    omega
  · rw [e, h1]
    omega
theorem canon_len {D : List Int} (h : Canon D) (hv : valL D < 340282366920938463463374607431768211456) : D.length ≤ 39 := by
  rcases h.2.2 with h1 | h1
  · omega
  · refine Nat.le_of_not_lt fun hc => ?_
    have h2 : (10 : Int) ^ 39 ≤ 10 ^ (D.length - 1) := by
      have := Nat.pow_le_pow_right (n := 10) (by decide) (show 39 ≤ D.length - 1 by omega)
      have h3 : ((10 ^ 39 : Nat) : Int) ≤ ((10 ^ (D.length - 1) : Nat) : Int) := Int.ofNat_le.2 this
      simpa using h3
    omega
theorem canon_dec : ∀ (D : List Int) (n : Nat), Canon D → valL D = (n : Int) → n < 340282366920938463463374607431768211456 → (D.map fun d => 48 + d).reverse = dec n
  | [], _, h, _, _ => by have := h.2.1; simp at this
  | [d], n, h, hv, _ => by
    have h1 := h.1 d (List.mem_cons_self ..)
    simp [valL] at hv
    rw [dec_small n (by omega)]
    simp
    omega
  | d :: x :: t, n, h, hv, hn => by
    have h1 := h.1 d (List.mem_cons_self ..)
    have hdig : Digs (x :: t) := fun y hy => h.1 y (List.mem_cons_of_mem _ hy)
    have hnn := valL_nonneg _ hdig
    have hv2 : d + 10 * valL (x :: t) = (n : Int) := hv
    have hbig : (10 : Int) ^ ((x :: t).length) ≤ valL (d :: x :: t) := by
      rcases h.2.2 with h2 | h2
      · simp at h2
      · simpa using h2
    rw [hv] at hbig
    have hp : (10 : Int) ^ (x :: t).length = 10 * 10 ^ ((x :: t).length - 1) := by
      rw [List.length_cons, Nat.add_sub_cancel, Int.pow_succ, Int.mul_comm]
    have hp1 : (1 : Int) ≤ 10 ^ ((x :: t).length - 1) := by
      have := Nat.pow_pos (n := (x :: t).length - 1) (show 0 < 10 by decide)
      have h3 : ((1 : Nat) : Int) ≤ ((10 ^ ((x :: t).length - 1) : Nat) : Int) := Int.ofNat_le.2 this
      simpa using h3
    have hc : Canon (x :: t) := ⟨hdig, by simp, .inr (by omega)⟩
    have ih := canon_dec (x :: t) (n / 10) hc (by omega) (by omega)
    rw [dec_big n (by omega) hn, ← ih, List.map_cons, List.reverse_cons]
    congr 2
    omega

/-! Rows that are written in place -/
theorem OwnK.put {k : IntKind} {e : TypeId} {w : World} {base g n cap : Nat} {xs : List Int} (h : OwnK k e w base (.slice (some ⟨g, 0, none⟩) n cap) xs) (j : Nat) (hj : j < xs.length) (d : Int) :
    OwnK k e (w.setCell ⟨g, j, none⟩ (.int k d)) base (.slice (some ⟨g, 0, none⟩) n cap) (xs.set j d) := by
  unfold OwnK at *
  rw [List.length_set]
  refine ⟨by simp, ?_⟩
  rcases h.2 with ⟨hn, _⟩ | ⟨g', cap', cur, hv, hg, hh, hc, hm, hs, ht⟩
  · cases hn
  · simp only [Value.slice.injEq, Option.some.injEq, Addr.mk.injEq] at hv
    obtain ⟨⟨rfl, _, _⟩, rfl, rfl⟩ := hv
    refine .inr ⟨g, cap, cur.setIfInBounds j (.int k d), rfl, hg, heap_setCell_same w g j cur e (.int k d) hh, hc, hm, by simpa using hs, ?_⟩
    rw [Array.toList_setIfInBounds, List.take_set, ht, List.map_set]
theorem own_cell {k : IntKind} {e : TypeId} {w : World} {base g n cap : Nat} {xs : List Int} (h : OwnK k e w base (.slice (some ⟨g, 0, none⟩) n cap) xs) (j : Nat) (hj : j < xs.length) :
    w.cell? ⟨g, j, none⟩ = some (.int k xs[j]) ∧ w.frozen? ⟨g, j, none⟩ = false := by
  rcases h.2 with ⟨hn, _⟩ | ⟨g', cap', cur, hv, hg, hh, hc, hm, hs, ht⟩
  · cases hn
  · simp only [Value.slice.injEq, Option.some.injEq, Addr.mk.injEq] at hv
    obtain ⟨⟨rfl, _, _⟩, rfl, rfl⟩ := hv
    constructor
    · rcases h.reads with ⟨hn, _⟩ | ⟨g2, cap2, hv2, hx⟩
      · cases hn
      · simp only [Value.slice.injEq, Option.some.injEq, Addr.mk.injEq] at hv2
        obtain ⟨⟨rfl, _, _⟩, _, rfl⟩ := hv2
        exact hx j hj
    · simp [World.frozen?, hh]
theorem own_formK {k : IntKind} {e : TypeId} {w : World} {base : Nat} {v : Value} {xs : List Int} (h : OwnK k e w base v xs) (hn : 0 < xs.length) :
    ∃ g cap, v = .slice (some ⟨g, 0, none⟩) xs.length cap ∧ base ≤ g ∧ g < w.heap.size := by
  rcases h.2 with ⟨_, hz⟩ | ⟨g, cap, cur, rfl, hb, hh, _⟩
  · omega
  · exact ⟨g, cap, rfl, hb, (Array.getElem?_eq_some_iff.1 hh).1⟩
end Go.Proofs.Ytjjapblpmpidcab
